/-
  Part 49.
-/
import Derived.Test.YtldngkmkhfddpaaGreatDoorProg
import Derived.Test.YtldngkmkhfddpaaGreatDoorYV48
import Derived.KernelRfl
import Derived.Shelf.Strconv.Itoa3
import Derived.Lib.AppendIntMem
namespace Go.Proofs.YtldngkmkhfddpaaGreatDoor
open Go.Rv
set_option linter.unusedVariables false
set_option linter.unusedSimpArgs false
set_option maxRecDepth 20000
variable {rs:AoH}
set_option maxHeartbeats 4000000
theorem Gr{d e r}(h:F7 d e=some r):Con (B rs) 14 [i64 d,i64 e] [] (fun r' O'=>r'=.bool r/\O'=[]):=by
 refine Cw 19 [.tmp 4] Tryz.func14 (fun F hE=>?_) h;unfold F7;refine T0 [0,1] ?_;refine Tw [4] (fun f=>⟨Al 19 [(4,.bool f)],[]⟩) ?_ ?_
 ·intro _;refine Sp (fun a=>?_) fun a=>?_
  ·refine Sp (fun b=>?_) fun b=>?_
   ·refine Sp (fun c=>?_) fun c=>?_
    ·exact Lf Ac (Ew3 a b c) (ws [])
    exact Lf Ac (Ew3 a b c) (ws [])
   exact Lf Ac (Ew2 a b) (ws [])
  exact Lf Ac (Ew1 a) (ws [])
 intro f;exact Sr <|Rr
theorem JG{a r}(h:Hf a=some r):Con (B rs) 78 [i64 a] [] (fun r' O'=>r'=.bool r/\O'=[]):=by
 refine Cw 6 [.tmp 2] Tryz.func78 (fun F hE=>?_) h;unfold Hf;refine T0 [0] ?_;refine T0 [2] ?_;exact Sr <|Rr
theorem Gu{a b r}(h:DL a b=some r):Con (B rs) 35 [i64 a,i64 b] [] (fun r' O'=>r'=i64 r/\O'=[]):=by
 refine Cw 20 [.tmp 4] Tryz.func35 (fun F hE=>?_) h;unfold DL;refine T0 [0,1] ?_;refine Bd fun e c =>Te [0,1,5] (o1 8 (JG c)) Ev ?_
 refine Bd fun f d =>Te [0,1,5,6] (o1 10 (JG d)) Ev ?_
 refine Sq <|T0 [0,1,6,11] ?_
 refine Cd ?_ ?_
 ·refine Sq <|T0 [12] ?_
  refine Cd ?_ ?_
  ·refine T0 [4] ?_;exact Sr <|Tr <|Tr <|Rr
  refine Sk <|Tn <|T0 [4] ?_
  exact Sr <|Tr <|Rr
 refine Sk <|Tn <|Sq <|T0 [0,1,13] ?_
 refine Cd ?_ ?_
 ·refine T0 [4] ?_;exact Sr <|Tr <|Rr
 refine Sk <|Tn <|Sq <|T0 [0,1,16] ?_
 refine Cd ?_ ?_
 ·refine T0 [4] ?_;exact Sr <|Tr <|Rr
 refine Sk <|Tn <|Sq <|T0 [19] ?_
 refine Cd ?_ ?_
 ·refine T0 [4] ?_;exact Sr <|Tr <|Rr
 refine Sk <|Tn <|T0 [4] ?_
 exact Sr <|Rr
theorem Sn{a r}(h:JY a=some r):Con (B rs) 34 [.sl false (L IF a)] [] (fun r' O'=>r'=i64 r/\O'=[]):=by
 refine Cw 18 [.tmp 2] Tryz.func34 (fun F hE=>?_) h;unfold JY;refine T0 [0] ?_;refine T0 [0,3] ?_;refine Jo (fun _=>⟨Al 18 [(3,i64 0)],[]⟩) ?_ ?_
 ·intro i e;refine T0 [3,6,7,8] ?_;refine Sb ?_;refine Lo (fun b=>⟨Al 18 [(3,i64 0),(6,.sl false (L IF a)),(7,i64 (a.length:Int)),(8,i64 b)],[]⟩) (ws []) ?_;rintro b j f c d;show HX a b=some f->_;unfold HX;refine T0 [3,6,7,8,9] ?_;refine Sq <|Cd ?_ ?_
  ·refine Sk <|Tn <|Sq <|Sb <|Ck fun g =>Te [3,5,6,7,8] Ac (Ew1 (qR g)) ?_
   refine T0 [3,5,6,7,8,14] ?_;refine Cd ?_ ?_
   ·refine T0 [2] ?_;exact Sr <|Br <|Tr <|Lr d c <|Br <|Jr e <|Rr
   refine Sk <|Bn <|Tn <|F0 [3,6,7,8] ?_
   exact Ln (ws [])
  refine Sx <|Tx <|Lx d c <|Bx <|?_
  exact Jn ((ws (l':=[(3,i64 0)]) (O':=[]) []).trans (ws []))
 intro _;refine T0 [2] ?_;exact Sr <|Rr
theorem Jz{a b r}(h:BX a b=some r):Con (B rs) 33 [.agg (Ah a),.agg (Ah b)] [] (fun r' O'=>r'=i64 r/\O'=[]):=by
 refine Cw 26 [.tmp 4] Tryz.func33 (fun F hE=>?_) h;unfold BX;refine T0 [2,3] ?_;refine Bd fun g c =>Bd fun i d =>Bd fun j e =>Bd fun k f =>De [[],[0],[0,1],[],[3],[3,4],[0,1,2,3,4,5],[],[7],[],[9],[0,1,2,3,4,5,6,7,8,9,10],[],[12],[12,13],[],[15],[15,16],[0,1,2,3,4,5,6,7,8,9,10,11,12,13,14,15,16,17],[0,1,2,3,4,5,6,7,8,9,10,11,12,13,14,15,16,17,18],[0,1,2,3,4,5,6,7,8,9,10,11,12,13,14,15,16,17,18,19],[0,1,2,3,4,5,6,7,8,9,10,11,12,13,14,15,16,17,18,19,20]] [4] (P6 (l:=[(11,_,_,_),(16,_,_,_),(23,_,_,_),(25,_,_,_)]) ⟨Gu  c,Gu  d,Gu  e,Sn  f,trivial⟩) Ev ?_
 exact Sr <|Rr
theorem Hn{a r}(h:EL a=some r):Con (B rs) 107 [i64 a] [] (fun r' O'=>r'=i64 r/\O'=[]):=by
 refine Cw 9 [.tmp 2] Tryz.func107 (fun F hE=>?_) h;unfold EL;refine T0 [0] ?_;refine Sq <|T0 [3] ?_
 refine Sb ?_;refine Ja (fun b=>⟨Al 9 [(3,i64 a),(4,.bool b)],[]⟩) ?_ ?_
 ·intro c;refine T0 [3,4] ?_;refine Cd ?_ ?_
  ·exact Sk <|Jm (ws [])
  refine F0 [3,4] ?_;exact Jm (ws [])
 intro b;refine Cd ?_ ?_
 ·refine T0 [2] ?_;exact Sr <|Br <|Tr <|Rr
 refine T0 [7] ?_;refine Cd ?_ ?_
 ·refine T0 [2] ?_;exact Sr <|Br <|Tr <|Rr
 refine Sk <|Bn <|Tn <|T0 [2] ?_
 exact Sr <|Rr
theorem L9{a r}(h:EM a=some r):Con (B rs) 143 [i64 a] [] (fun r' O'=>r'=.tup [i64 r.1,i64 r.2]/\O'=[]):=by
 refine Cw 14 [.tmp 2,.tmp 3] Tryz.func143 (fun F hE=>?_) h;unfold EM;refine T0 [0] ?_;refine Sq <|T0 [4] ?_
 refine Sb ?_;refine Ja (fun b=>⟨Al 14 [(4,i64 a),(5,.bool b)],[]⟩) ?_ ?_
 ·intro c;refine T0 [4,5] ?_;refine Cd ?_ ?_
  ·exact Sk <|Jm (ws [])
  refine T0 [4,5] ?_;refine Cd ?_ ?_
  ·exact Sk <|Jm (ws [])
  refine T0 [4,5] ?_;refine Cd ?_ ?_
  ·exact Sk <|Jm (ws [])
  refine F0 [4,5] ?_;exact Jm (ws [])
 intro b;refine Cd ?_ ?_
 ·refine T0 [2,3] ?_;exact Sr <|Br <|Tr <|Rr
 refine T0 [4,10] ?_;refine Cd ?_ ?_
 ·refine T0 [2,3] ?_;exact Sr <|Br <|Tr <|Rr
 refine T0 [12] ?_;refine Cd ?_ ?_
 ·refine T0 [2,3] ?_;exact Sr <|Br <|Tr <|Rr
 refine Sk <|Bn <|Tn <|T0 [2,3] ?_
 exact Sr <|Rr
theorem NK{a r}(h:Hc a=some r):Con (B rs) 97 [i64 a] [] (fun r' O'=>r'=.tup [i64 r.1,i64 r.2]/\O'=[]):=by
 refine Cw 16 [.tmp 2,.tmp 3] Tryz.func97 (fun F hE=>?_) h;unfold Hc;refine T0 [0] ?_;refine Sq <|T0 [4] ?_
 refine Sb ?_;refine Ja (fun b=>⟨Al 16 [(4,i64 a),(5,.bool b)],[]⟩) ?_ ?_
 ·intro e;refine T0 [4,5] ?_;refine Cd ?_ ?_
  ·exact Sk <|Jm (ws [])
  refine F0 [4,5] ?_;exact Jm (ws [])
 intro b;refine Cd ?_ ?_
 ·refine T0 [2,3] ?_;exact Sr <|Br <|Tr <|Rr
 refine T0 [4,8] ?_;refine Cd ?_ ?_
 ·refine T0 [2,3] ?_;exact Sr <|Br <|Tr <|Rr
 refine Ja (fun c=>⟨Al 16 [(4,i64 a),(10,.bool c)],[]⟩) ?_ ?_
 ·intro f;refine T0 [4,10] ?_;refine Cd ?_ ?_
  ·exact Sk <|Jm (ws [])
  refine F0 [4,10] ?_;exact Jm (ws [])
 intro c;refine Cd ?_ ?_
 ·refine T0 [2,3] ?_;exact Sr <|Br <|Tr <|Rr
 refine Ja (fun d=>⟨Al 16 [(13,.bool d)],[]⟩) ?_ ?_
 ·intro g;refine T0 [4,13] ?_;refine Cd ?_ ?_
  ·exact Sk <|Jm (ws [])
  refine F0 [13] ?_;exact Jm (ws [])
 intro d;refine Cd ?_ ?_
 ·refine T0 [2,3] ?_;exact Sr <|Br <|Tr <|Rr
 refine Sk <|Bn <|Tn <|T0 [2,3] ?_
 exact Sr <|Rr
theorem NW{a r}(h:Ix a=some r):Con (B rs) 95 [.agg [i64 a.Op,i64 a.N,i64 a.M]] [] (fun r' O'=>r'=.bool r/\O'=[]):=by
 refine Cw 49 [.tmp 2] Tryz.func95 (fun F hE=>?_) h;unfold Ix;refine T0 [1] ?_;refine Sq ?_;refine Tw [1,13] (fun g=>⟨Al 49 [(1,.ref 0 0),(13,.bool g)],[.box [i64 a.Op,i64 a.N,i64 a.M] false]⟩) ?_ ?_
 ·intro _;refine Sp (fun c=>?_) fun c=>?_
  ·exact Lf Ac (Ew1 c) (ws [0])
  exact Lf Ac (Ew1 c) (ws [0])
 intro g;refine Cd ?_ ?_
 ·refine T0 [2] ?_;exact Sr <|Tr <|Rr
 refine Sk <|Tn <|Bd fun d k =>Te [1,3,4] (o1 17 (L9 k)) Ev ?_
 refine T0 [1,3,4,5] ?_;refine Ja (fun e=>⟨Al 49 [(1,.ref 0 0),(3,i64 d.1),(4,i64 d.2),(5,.ref 1 0)],[.box [i64 a.Op,i64 a.N,i64 a.M] false,.box [i64 a.Op,i64 e,i64 a.M] false]⟩) ?_ ?_
 ·intro l;refine T0 [1,3,4,5,22] ?_;refine Cd ?_ ?_
  ·refine F0 [1,3,4,5] ?_;exact Jm (ws [0,1])
  exact Sk <|Jm (ws [0,1])
 intro e;refine Ja (fun i=>⟨Al 49 [(1,.ref 0 0),(4,i64 d.2),(5,.ref 1 0)],[.box [i64 a.Op,i64 a.N,i64 a.M] false,.box [i64 a.Op,i64 e,i64 i] false]⟩) ?_ ?_
 ·intro m;refine T0 [1,4,5,25] ?_;refine Cd ?_ ?_
  ·refine F0 [1,4,5] ?_;exact Jm (ws [0,1])
  exact Sk <|Jm (ws [0,1])
 intro i;refine Tw [2] (fun j=>⟨Al 49 [(2,.bool j)],[]⟩) ?_ ?_
 ·intro _;refine Sp (fun b=>?_) fun b=>?_
  ·refine Sp (fun f=>?_) fun f=>?_
   ·exact Lf Ac (Ew2 b f) (ws [])
   exact Lf Ac (Ew2 b f) (ws [])
  exact Lf Ac (Ew1 b) (ws [])
 intro j;exact Sr <|Rr
theorem IM{a:List AoU}{c:AoU->Option (Bool)}{b:Nat}(g:∀{a0:AoU} {r:Bool},c a0=some r->Con (B rs) b [.agg [i64 a0.Op,i64 a0.N,i64 a0.M]] [] (fun r' O'=>r'=.bool r/\O'=[])){r:Int}(h:DQ a c=some r):Con (B rs) 142 [.sl false (L Ak a),.fn b []] [] (fun r' O'=>r'=i64 r/\O'=[]):=by
 refine FD (N:=19) (rs:=[.tmp 4]) ok Tryz.func142 rfl (by decide +kernel) rfl rfl (Apj rfl) (fun F=>?_);have hE:=(ok (rs:=rs)).env F;unfold DQ at h;show Run ((B rs).env F) 0 _ ⟨Al 19 [(0,.sl false (L Ak a)),(1,.fn b [])],[]⟩ _;refine BR ?_;revert h;refine T0 [0,1] ?_;refine Jo (fun _=>⟨Al 19 [],[]⟩) ?_ ?_
 ·intro m i;refine T0 [0,1,7,8] ?_;refine Sb ?_;refine Lo (fun d=>⟨Al 19 [(0,.sl false (L Ak a)),(1,.fn b []),(7,i64 (a.length:Int)),(8,i64 d)],[]⟩) (ws []) ?_;rintro d n j e f;show CY a c d=some j->_;unfold CY;refine T0 [0,1,7,8,9] ?_;refine Sq <|Cd ?_ ?_
  ·refine Sk <|Tn <|Sq <|Sb <|T0 [0,1,5,7,8] ?_
   refine Ck fun k =>Bd fun o l =>Te [0,1,5,7,8,16] (o1 16 (g l)) (Ew1 (qR k)) ?_
   refine Cd ?_ ?_
   ·refine T0 [4] ?_;exact Sr <|Br <|Tr <|Lr f e <|Br <|Jr i <|Rr
   refine Sk <|Bn <|Tn <|F0 [0,1,7,8] ?_
   exact Ln (ws [])
  refine Sx <|Tx <|Lx f e <|Bx <|?_
  exact Jn ((ws (l':=[]) (O':=[]) []).trans (ws []))
 intro _;refine T0 [4] ?_;exact Sr <|Rr
theorem HS{a:List AoU}{c:AoU->Option (Bool)}{b:Nat}(d:∀{a0:AoU} {r:Bool},c a0=some r->Con (B rs) b [.agg [i64 a0.Op,i64 a0.N,i64 a0.M]] [] (fun r' O'=>r'=.bool r/\O'=[])){r:Bool}(h:C4 a c=some r):Con (B rs) 93 [.sl false (L Ak a),.fn b []] [] (fun r' O'=>r'=.bool r/\O'=[]):=by
 refine FD (N:=9) (rs:=[.tmp 4]) ok Tryz.func93 rfl (by decide +kernel) rfl rfl (Apj rfl) (fun F=>?_);have hE:=(ok (rs:=rs)).env F;unfold C4 at h;show Run ((B rs).env F) 0 _ ⟨Al 9 [(0,.sl false (L Ak a)),(1,.fn b [])],[]⟩ _;refine BR ?_;revert h;refine T0 [0,1] ?_;refine Bd fun f e =>Te [4] (o1 7 (IM (fun h=>d h) e)) Ev ?_
 exact Sr <|Rr
theorem LZ{a r}(h:F6 a=some r):Con (B rs) 94 [.agg [i64 a.Op,i64 a.N,i64 a.M]] [] (fun r' O'=>r'=.bool r/\O'=[]):=by
 refine Cw 6 [.tmp 2] Tryz.func94 (fun F hE=>?_) h;unfold F6;refine T0 [1] ?_;refine Bd fun c b =>Te [2] (o1 4 (NW b)) Ev ?_
 exact Sr <|Rr
theorem U2{a b r}(h:M1 a b=some r):Con (B rs) 144 [u64 a,u64 b] [] (fun r' O'=>r'=.tup [u64 r.1,u64 r.2]/\O'=[]):=by
 refine Cw 30 [.tmp 4,.tmp 5] Tryz.func144 (fun F hE=>?_) h;unfold M1;refine T0 [0,1] ?_;refine Sq ?_;refine CfK ?_;refine Sk <|Tn <|Bd fun d c =>Te [8,9] (o1 25 (Qv c)) Ev ?_
 refine T0 [4,5] ?_;exact Sr <|Rr
theorem KY{c i r}(h:Eu c i=some r):Con (B rs) 96 [.sl false (L IF c),i64 i] [] (fun r' O'=>r'=.bs false 0 (r.length) 0 (r.length)/\O'=[.buf 1 (L IF r) false]):=by
 refine Co 0 48 [.tmp 4] Tryz.func96 (fun F hE=>?_) h;unfold Eu;refine T0 [0,1] ?_;refine Sq <|T0 [0,1,10] ?_
 refine Cd ?_ ?_
 ·exact Rn
 refine Sk <|Tn <|Bd fun k l =>Te [0,5,6] (o1 18 (U2 l)) Ev ?_
 refine Sq ?_;refine Tw [0,6,26] (fun j=>⟨Al 48 [(0,.sl false (L IF c)),(6,u64 k.2),(26,.bool j)],[]⟩) ?_ ?_
 ·intro _;refine Sp (fun d=>?_) fun d=>?_
  ·exact Lf Ac (Ew1 d) (ws [])
  exact Lf Ac (Ew1 d) (ws [])
 intro j;refine Cd ?_ ?_
 ·exact Rn
 refine Sk <|Tn <|Ck fun m =>Lt fun e n =>Te (fr':=[(0,_),(7,.bs true 0 (e.length) 0 (e.length))]) (O':=[.buf 1 (L IF e) false]) [0,7] Ac (Ew2 m n) ?_
 refine Lt fun o p =>Lt fun f q =>Te (fr':=[(7,.bs true 0 (f.length) 0 (f.length)),(8,i64 o)]) (O':=[.buf 1 (L IF f) false]) [7,8] Ac (Ew2 p q) ?_
 refine Ja (fun a=>⟨Al 48 [(7,.bs true 0 (a.length) 0 (a.length))],[.buf 1 (L IF a) false]⟩) ?_ ?_
 ·intro ac;refine Sb ?_;refine Lo (fun(v:Int×List Int)=>(⟨Al 48 [(7,.bs true 0 (v.2.length) 0 (v.2.length)),(8,i64 v.1)],[.buf 1 (L IF v.2) false]⟩:St)) (ws [0]) ?_;rintro⟨s,b⟩ ad t u w;show Eo s b=some t->_;unfold Eo;refine Sq <|T0 [7,8,37] ?_
  refine Cd ?_ ?_
  ·refine Sk <|Tn <|Sb <|Ck fun x =>Ck fun y =>Lt fun z aa =>Lt fun g ab =>Ge (fr':=[(7,.bs true 0 (g.length) 0 (g.length)),(8,i64 z)]) (O':=[.buf 1 (L IF g) false]) [[],[],[],[1,2],[],[],[4,5],[1,2,3,4,5,6],[0,1,2,3,4,5,6,7],[0,1,2,3,4,5,6,7,8]] [7,8] Ac (Ew4 x y aa ab) ?_
   exact Bn <|Ln (ws [0])
  refine Sx <|Tx <|Ly w u <|Bx <|?_
  exact Jm ((ws (l':=[(7,.bs true 0 (b.length) 0 (b.length))]) (O':=[.buf 1 (L IF b) false]) [0]).trans (ws [0]))
 intro a;refine T0 [4] ?_;exact Sr <|Ro [0]
theorem Lz{a r}(h:EN a=some r):Con (B rs) 36 [.sl false (L Ab a)] [] (fun r' O'=>r'=.bs false 0 (r.length) 0 (r.length)/\O'=[.buf 9 (L Ab r) false]):=by
 refine Co 0 8 [.tmp 2] Tryz.func36 (fun F hE=>?_) h;unfold EN;refine T0 [0] ?_;refine Sq ?_;intro h;refine XD hE 0 3 4 32 47 rfl rfl rfl rfl rfl rfl rfl (by decide) Tryz.underlying32 (fun b_ hb_=>?_);cases b_
 ·revert h;refine Cf <|Sk <|Tn <|Ck fun c =>?_
  have d:=c;simp only[Apo,ApN,Ao5,Apb,Apr,Aqg,Nat.reduceAdd]at d;refine Lt fun b e =>Te (fr':=[(2,.bs false 0 (b.length) 0 (b.length))]) (O':=[.buf 9 (L Ab b) false]) [2] Ac (Ew3 c d e) ?_
  exact Sr <|Ro [0]
 obtain rfl:a=[]:=List.map_eq_nil_iff.1 (hb_ rfl);replace h:some ([])=some r:=by first|exact h|(split at h<;>first|exact h|cases h)
 revert h;refine Ct <|T0 [2] ?_
 refine Rw (LV 2 9 rfl) ?_;exact Sr <|Tr <|Ro [0]
theorem I2{d a r}(h:EQ d a=some r):Con (B rs) 146 [.str d,u8 a] [] (fun r' O'=>r'=.str r/\O'=[]):=by
 refine Cw 23 [.tmp 4] Tryz.func146 (fun F hE=>?_) h;unfold EQ;refine T0 [0,1] ?_;refine Ja (fun e=>⟨Al 23 [(0,.str e)],[]⟩) ?_ ?_
 ·intro o;refine Sb ?_;refine Lo (fun b=>⟨Al 23 [(0,.str b),(1,u8 a)],[]⟩) (ws []) ?_;rintro b p g i j;show DY a b=some g->_;unfold DY;refine Sq ?_;refine Tw [0,1,16] (fun f=>⟨Al 23 [(0,.str b),(1,u8 a),(16,.bool f)],[]⟩) ?_ ?_
  ·intro _;refine Sp (fun c=>?_) fun c=>?_
   ·refine Ck fun k=>?_
    exact Lf Ac (Ew2 c (qR k)) (ws [])
   exact Lf Ac (Ew1 c) (ws [])
  intro f;refine Cd ?_ ?_
  ·refine Sk <|Tn <|Sb <|Ck fun l =>Lt fun m n =>Fe (fr':=[(0,.str m),(1,_)]) [0,1] Ac (Ew2 l n) ?_
   exact Bn <|Ln (ws [])
  refine Sx <|Tx <|Ly j i <|Bx <|?_
  exact Jm ((ws (l':=[(0,.str b)]) (O':=[]) []).trans (ws []))
 intro e;refine T0 [4] ?_;exact Sr <|Rr
variable {rs:AoH}
theorem IY{d a r}(h:Fz d a=some r):Con (B rs) 145 [.str d,u8 a] [] (fun r' O'=>r'=.str r/\O'=[]):=by
 refine Cw 17 [.tmp 4] Tryz.func145 (fun F hE=>?_) h;unfold Fz;refine T0 [0,1] ?_;refine Ja (fun e=>⟨Al 17 [(0,.str e)],[]⟩) ?_ ?_
 ·intro o;refine Sb ?_;refine Lo (fun b=>⟨Al 17 [(0,.str b),(1,u8 a)],[]⟩) (ws []) ?_;rintro b p g i j;show Ei a b=some g->_;unfold Ei;refine Sq ?_;refine Tw [0,1,13] (fun f=>⟨Al 17 [(0,.str b),(1,u8 a),(13,.bool f)],[]⟩) ?_ ?_
  ·intro _;refine Sp (fun c=>?_) fun c=>?_
   ·refine Ck fun k=>?_
    exact Lf Ac (Ew2 c (qL k)) (ws [])
   exact Lf Ac (Ew1 c) (ws [])
  intro f;refine Cd ?_ ?_
  ·refine Sk <|Tn <|Sb <|Ck fun l =>Lt fun m n =>Fe (fr':=[(0,.str m),(1,_)]) [0,1] Ac (Ew2 l n) ?_
   exact Bn <|Ln (ws [])
  refine Sx <|Tx <|Ly j i <|Bx <|?_
  exact Jm ((ws (l':=[(0,.str b)]) (O':=[]) []).trans (ws []))
 intro e;refine T0 [4] ?_;exact Sr <|Rr
theorem IQ{a r}(h:Cs a=some r):Con (B rs) 147 [.str a] [] (fun r' O'=>r'=.tup [.agg (C1 AV.bool r.1.l),.bool r.2]/\O'=[]):=by
 refine Cw 21 [.cell 2 225,.tmp 3] Tryz.func147 (fun F hE=>?_) h;unfold Cs;refine T0 [0,2] ?_;refine Jo (fun b=>⟨Al 21 [(2,.ref 0 0)],[.box (C1 AV.bool b.l) false]⟩) ?_ ?_
 ·intro q f;refine T0 [0,2,4] ?_;refine Sb ?_;refine Lo (fun(v:Int×Arr Bool 256)=>(⟨Al 21 [(0,.str a),(2,.ref 0 0),(4,i64 v.1)],[.box (C1 AV.bool v.2.l) false]⟩:St)) (ws [0]) ?_;rintro⟨g,c⟩ s i d e;show Eg a g c=some i->_;unfold Eg;refine Sq <|T0 [0,2,4,9] ?_
  refine Cd ?_ ?_
  ·refine Sk <|Tn <|Sq <|Sb <|Ck fun j =>Lt fun k m =>Te (fr':=[(0,_),(2,_),(4,_),(5,u8 k)]) [0,2,4,5] Ac (Ew2 (qR j) m) ?_
   refine Sq <|T0 [0,2,4,5,16] ?_
   refine Cd ?_ ?_
   ·refine T0 [2,3] ?_;exact Sr <|Tr <|Br <|Tr <|Lr e d <|Br <|Jr f <|Rr
   refine Sk <|Tn <|Ck fun n =>Lt fun o p =>Fe (O':=[.box (C1 AV.bool o.l) false]) [0,2,4] Ac (Ew2 (qN n) p) ?_
   refine Bn <|Tn <|F0 [0,2,4] ?_
   exact Ln (ws [0])
  refine Sx <|Tx <|Lx e d <|Bx <|?_
  exact Jn ((ws (l':=[(2,.ref 0 0)]) (O':=[.box (C1 AV.bool c.l) false]) [0]).trans (ws [0]))
 intro b;refine T0 [2,3] ?_;exact Sr <|Rr
theorem Et{a b r}(h:B0 a b=some r):Con (B rs) 171 [.ref 0 0,u8 b] [.box (C1 AV.bool a.l) false] (fun r' O'=>r'=.bool r.1/\O'=[.box (C1 AV.bool r.2.l) false]):=by
 refine Co 1 10 [.tmp 4] Tryz.func171 (fun F hE=>?_) h;unfold B0;refine T0 [0,1] ?_;refine Ck fun c =>Te [4] Ac (Ew1 (qN c)) ?_
 exact Sr <|Ro [0]
theorem HU{c d r}(h:C5 c d=some r):Con (B rs) 149 [.str c,.ref 0 0] [.box (C1 AV.bool d.l) false] (fun r' O'=>r'=.str r.1/\O'=[.box (C1 AV.bool r.2.l) false]):=by
 refine Co 1 22 [.tmp 4] Tryz.func149 (fun F hE=>?_) h;unfold C5;refine T0 [0,1] ?_;refine Ja (fun(v:List UInt8×Arr Bool 256)=>(⟨Al 22 [(0,.str v.1)],[.box (C1 AV.bool v.2.l) false]⟩:St)) ?_ ?_
 ·intro q;refine Sb ?_;refine Lo (fun(v:List UInt8×Arr Bool 256)=>(⟨Al 22 [(0,.str v.1),(1,.ref 0 0)],[.box (C1 AV.bool v.2.l) false]⟩:St)) (ws [0]) ?_;rintro⟨a,b⟩ s g e f;show CC a b=some g->_;unfold CC;refine Sq <|T0 [0,1,7] ?_
  refine Cd ?_ ?_
  ·refine Sk <|Tn <|Sb <|Sq <|Ck fun i =>Bd fun j k =>Te [0,1,15] (Ag (l:=[]) (m:=[(14,171,[.ref 0 0,u8 (nth a ((w64 ((a.length:Int)-1)).toNat))],[.box (C1 AV.bool b.l) false],_,_)]) trivial ⟨(wc (Et k) [0]),trivial⟩) (Ew1 (qR i)) ?_
   refine Cd ?_ ?_
   ·refine Sx <|Tx <|Bo <|Ly f e <|Bx <|?_
    exact Jm ((ws (l':=[(0,.str a)]) (O':=[.box (C1 AV.bool j.2.l) false]) [0]).trans (ws [0]))
   refine Sk <|Tn <|Ck fun n =>Lt fun o p =>Fe (fr':=[(0,.str o),(1,_)]) [0,1] Ac (Ew2 n p) ?_
   exact Bn <|Ln (ws [0])
  refine Sx <|Tx <|Ly f e <|Bx <|?_
  exact Jm ((ws (l':=[(0,.str a)]) (O':=[.box (C1 AV.bool b.l) false]) [0]).trans (ws [0]))
 rintro⟨t,u⟩;refine T0 [4] ?_;exact Sr <|Ro [0]
theorem IC{c d r}(h:CJ c d=some r):Con (B rs) 148 [.str c,.ref 0 0] [.box (C1 AV.bool d.l) false] (fun r' O'=>r'=.str r.1/\O'=[.box (C1 AV.bool r.2.l) false]):=by
 refine Co 1 16 [.tmp 4] Tryz.func148 (fun F hE=>?_) h;unfold CJ;refine T0 [0,1] ?_;refine Ja (fun(v:List UInt8×Arr Bool 256)=>(⟨Al 16 [(0,.str v.1)],[.box (C1 AV.bool v.2.l) false]⟩:St)) ?_ ?_
 ·intro q;refine Sb ?_;refine Lo (fun(v:List UInt8×Arr Bool 256)=>(⟨Al 16 [(0,.str v.1),(1,.ref 0 0)],[.box (C1 AV.bool v.2.l) false]⟩:St)) (ws [0]) ?_;rintro⟨a,b⟩ s g e f;show CR a b=some g->_;unfold CR;refine Sq <|T0 [0,1,7] ?_
  refine Cd ?_ ?_
  ·refine Sk <|Tn <|Sb <|Sq <|Ck fun i =>Bd fun j k =>Te [0,1,12] (Ag (l:=[]) (m:=[(11,171,[.ref 0 0,u8 (nth a 0)],[.box (C1 AV.bool b.l) false],_,_)]) trivial ⟨(wc (Et k) [0]),trivial⟩) (Ew1 (qL i)) ?_
   refine Cd ?_ ?_
   ·refine Sx <|Tx <|Bo <|Ly f e <|Bx <|?_
    exact Jm ((ws (l':=[(0,.str a)]) (O':=[.box (C1 AV.bool j.2.l) false]) [0]).trans (ws [0]))
   refine Sk <|Tn <|Ck fun n =>Lt fun o p =>Fe (fr':=[(0,.str o),(1,_)]) [0,1] Ac (Ew2 n p) ?_
   exact Bn <|Ln (ws [0])
  refine Sx <|Tx <|Ly f e <|Bx <|?_
  exact Jm ((ws (l':=[(0,.str a)]) (O':=[.box (C1 AV.bool b.l) false]) [0]).trans (ws [0]))
 rintro⟨t,u⟩;refine T0 [4] ?_;exact Sr <|Ro [0]
theorem NO{a b r}(h:Ij a b=some r):Con (B rs) 98 [.str a,.str b] [] (fun r' O'=>r'=.str r/\O'=[]):=by
 refine Cw 43 [.tmp 4] Tryz.func98 (fun F hE=>?_) h;unfold Ij;refine T0 [0,1] ?_;refine Sq ?_;refine Tw [0,1,12] (fun e=>⟨Al 43 [(0,.str a),(1,.str b),(12,.bool e)],[]⟩) ?_ ?_
 ·intro _;refine Sp (fun c=>?_) fun c=>?_
  ·exact Lf Ac (Ew1 c) (ws [])
  exact Lf Ac (Ew1 c) (ws [])
 intro e;refine Cd ?_ ?_
 ·refine T0 [4] ?_;exact Sr <|Tr <|Rr
 refine Sk <|Tn <|Sq <|?_
 refine Tw [0,1,21] (fun f=>⟨Al 43 [(0,.str a),(1,.str b),(21,.bool f)],[]⟩) ?_ ?_
 ·intro _;refine Sp (fun d=>?_) fun d=>?_
  ·refine Ck fun i=>?_
   exact Lf Ac (Ew2 d (qL i)) (ws [])
  exact Lf Ac (Ew1 d) (ws [])
 intro f;refine Cd ?_ ?_
 ·refine Ck fun j =>Bd fun u k =>Ck fun n =>Bd fun v o =>De [[],[],[1],[0,1,2],[],[4],[0,1,2,3,4,5],[0,1,2,3,4,5,6]] [4] (o2 25 (I2 k) 28 (IY o)) (Ew2 (qL j) (qL n)) ?_
  exact Sr <|Tr <|Rr
 refine Sk <|Tn <|Sq <|Bd fun p q =>Te [0,1,5,6] (o1 31 (IQ q)) Ev ?_
 refine T0 [0,1,5,34] ?_;refine Cd ?_ ?_
 ·refine Bd fun g s =>Bd fun w t =>Te [4] (Ag (l:=[]) (m:=[(36,149,[.str a,.ref 0 0],[.box (C1 AV.bool p.1.l) false],_,_),(37,148,[.str g.1,.ref 0 0],[.box (C1 AV.bool g.2.l) false],_,_)]) trivial ⟨(wc (HU s) [0]),(wc (IC t) [0]),trivial⟩) Ev ?_
  exact Sr <|Tr <|Rr
 exact Sk <|Tn <|Rn
theorem EF{f r}(h:GC f=some r):Con (B rs) 57 [.str f] [] (fun r' O'=>r'=.bool r/\O'=[]):=by
 refine Cw 25 [.tmp 2] Tryz.func57 (fun F hE=>?_) h;unfold GC;refine T0 [0] ?_;refine Tw [2] (fun g=>⟨Al 25 [(2,.bool g)],[]⟩) ?_ ?_
 ·intro _;refine Sp (fun a=>?_) fun a=>?_
  ·refine Sp (fun b=>?_) fun b=>?_
   ·refine Ck fun d=>?_
    refine Sp (fun c=>?_) fun c=>?_
    ·refine Ck fun i=>?_
     refine Sp (fun e=>?_) fun e=>?_
     ·refine Bd fun k j=>?_
      exact Lf (o1 22 (NO j)) (Ev (by simp only[go_sem,a,b,qL d,c,qL i,e];exact CL)) (ws [])
     exact Lf Ac (Ev (by simp only[go_sem,a,b,qL d,c,qL i,e];exact CL)) (ws [])
    exact Lf Ac (Ew4 a b (qL d) c) (ws [])
   exact Lf Ac (Ew2 a b) (ws [])
  exact Lf Ac (Ew1 a) (ws [])
 intro g;exact Sr <|Rr
theorem FR{a r}(h:Du a=some r):Con (B rs) 99 [.agg (C1 i64 a.l)] [] (fun r' O'=>r'=.bool r/\O'=[]):=by
 refine Cw 35 [.tmp 2] Tryz.func99 (fun F hE=>?_) h;unfold Du;refine T0 [1] ?_;refine T0 [1,3] ?_;refine Ja (fun d=>⟨Al 35 [(3,.mref 0)],[.mp false (MI Qu d)]⟩) ?_ ?_
 ·intro p;refine T0 [3,7,8] ?_;refine Sb ?_;refine Lo (fun(v:Int×Rb)=>(⟨Al 35 [(3,.mref 0),(7,.agg (C1 i64 a.l)),(8,i64 v.1)],[.mp false (MI Qu v.2)]⟩:St)) (ws [1]) ?_;rintro⟨g,e⟩ q i j k;show E8 a g e=some i->_;unfold E8;refine T0 [3,7,8,9] ?_;refine Sq <|Cd ?_ ?_
  ·refine Sk <|Tn <|Sq <|Sb <|Ck fun m =>Te [3,5,7,8] Ac (Ew1 (qR m)) ?_
   refine Lt fun n o =>Fe (O':=[.mp false (MI Qu n)]) [3,7,8] Ac (Ew1 o) ?_
   refine Bn <|Tn <|F0 [3,7,8] ?_
   exact Ln (ws [0])
  refine Sx <|Tx <|Ly k j <|Bx <|?_
  exact Jm ((ws (l':=[(3,.mref 0)]) (O':=[.mp false (MI Qu e)]) [0]).trans (ws [0]))
 intro d;refine Tw [2] (fun f=>⟨Al 35 [(2,.bool f)],[]⟩) ?_ ?_
 ·intro _;refine Sp (fun b=>?_) fun b=>?_
  ·refine Sp (fun c=>?_) fun c=>?_
   ·exact Lf Ac (Ew2 b c) (ws [])
   exact Lf Ac (Ew2 b c) (ws [])
  exact Lf Ac (Ew1 b) (ws [])
 intro f;exact Sr <|Rr
theorem Lw{b:AoM->Option (Bool)}{a:AoM}(h59:∀{a0:AoM} {r:Bool},b a0=some r->Con (B rs) 59 [.agg (i64 a0.Op::i64 a0.N::(C1 i64 a0.Unit.l++[.sl false (L cApi_Expr a0.L)]))] [] (fun r' O'=>r'=.bool r/\O'=[])){r:Bool}(h:Gk b a=some r):Con (B rs) 101 [.agg (i64 a.Op::i64 a.N::(C1 i64 a.Unit.l++[.sl false (L cApi_Expr a.L)]))] [] (fun r' O'=>r'=.bool r/\O'=[]):=by
 refine FD (N:=6) (rs:=[.tmp 2]) ok Tryz.func101 rfl (by decide +kernel) rfl rfl (Apj rfl) (fun F=>?_);have hE:=(ok (rs:=rs)).env F;unfold Gk at h;show Run ((B rs).env F) 0 _ ⟨Al 6 [(0,.agg (i64 a.Op::i64 a.N::(C1 i64 a.Unit.l++[.sl false (L cApi_Expr a.L)])))],[]⟩ _;refine BR ?_;revert h;refine T0 [1] ?_;refine Bd fun d c =>Te [2] (o1 4 (h59 c)) Ev ?_
 exact Sr <|Rr
theorem Jk{a:List AoM}{c:AoM->Option (Bool)}{b:Nat}(g:∀{a0:AoM} {r:Bool},c a0=some r->Con (B rs) b [.agg (i64 a0.Op::i64 a0.N::(C1 i64 a0.Unit.l++[.sl false (L cApi_Expr a0.L)]))] [] (fun r' O'=>r'=.bool r/\O'=[])){r:Int}(h:DT a c=some r):Con (B rs) 152 [.sl false (L cApi_Expr a),.fn b []] [] (fun r' O'=>r'=i64 r/\O'=[]):=by
 refine FD (N:=19) (rs:=[.tmp 4]) ok Tryz.func152 rfl (by decide +kernel) rfl rfl (Apj rfl) (fun F=>?_);have hE:=(ok (rs:=rs)).env F;unfold DT at h;show Run ((B rs).env F) 0 _ ⟨Al 19 [(0,.sl false (L cApi_Expr a)),(1,.fn b [])],[]⟩ _;refine BR ?_;revert h;refine T0 [0,1] ?_;refine Jo (fun _=>⟨Al 19 [],[]⟩) ?_ ?_
 ·intro n i;refine T0 [0,1,7,8] ?_;refine Sb ?_;refine Lo (fun d=>⟨Al 19 [(0,.sl false (L cApi_Expr a)),(1,.fn b []),(7,i64 (a.length:Int)),(8,i64 d)],[]⟩) (ws []) ?_;rintro d o j e f;show Db a c d=some j->_;unfold Db;refine T0 [0,1,7,8,9] ?_;refine Sq <|Cd ?_ ?_
  ·refine Sk <|Tn <|Sq <|Sb <|T0 [0,1,5,7,8] ?_
   refine Ck fun k =>Bd fun p m =>Te [0,1,5,7,8,16] (o1 16 (g m)) (Ew1 (qR k)) ?_
   refine Cd ?_ ?_
   ·refine T0 [4] ?_;exact Sr <|Br <|Tr <|Lr f e <|Br <|Jr i <|Rr
   refine Sk <|Bn <|Tn <|F0 [0,1,7,8] ?_
   exact Ln (ws [])
  refine Sx <|Tx <|Lx f e <|Bx <|?_
  exact Jn ((ws (l':=[]) (O':=[]) []).trans (ws []))
 intro _;refine T0 [4] ?_;exact Sr <|Rr
theorem HF{a:List AoM}{c:AoM->Option (Bool)}{b:Nat}(d:∀{a0:AoM} {r:Bool},c a0=some r->Con (B rs) b [.agg (i64 a0.Op::i64 a0.N::(C1 i64 a0.Unit.l++[.sl false (L cApi_Expr a0.L)]))] [] (fun r' O'=>r'=.bool r/\O'=[])){r:Bool}(h:Ce a c=some r):Con (B rs) 100 [.sl false (L cApi_Expr a),.fn b []] [] (fun r' O'=>r'=.bool r/\O'=[]):=by
 refine FD (N:=9) (rs:=[.tmp 4]) ok Tryz.func100 rfl (by decide +kernel) rfl rfl (Apj rfl) (fun F=>?_);have hE:=(ok (rs:=rs)).env F;unfold Ce at h;show Run ((B rs).env F) 0 _ ⟨Al 9 [(0,.sl false (L cApi_Expr a)),(1,.fn b [])],[]⟩ _;refine BR ?_;revert h;refine T0 [0,1] ?_;refine Bd fun f e =>Te [4] (o1 7 (Jk (fun h=>d h) e)) Ev ?_
 exact Sr <|Rr
variable {rs:AoH}
theorem Lq{rec_:AoM->Option (Bool)}(hrec:∀{a:AoM} {r:Bool},rec_ a=some r->Con (B rs) 59 [.agg (i64 a.Op::i64 a.N::(C1 i64 a.Unit.l++[.sl false (L cApi_Expr a.L)]))] [] (fun r' O'=>r'=.bool r/\O'=[])){a:AoM}{r:Bool}(h:EC rec_ a=some r):Con (B rs) 59 [.agg (i64 a.Op::i64 a.N::(C1 i64 a.Unit.l++[.sl false (L cApi_Expr a.L)]))] [] (fun r' O'=>r'=.bool r/\O'=[]):=by
 refine FD (N:=58) (rs:=[.tmp 2]) ok Tryz.func59 rfl (by decide +kernel) rfl rfl (Apj rfl) (fun F=>?_);have hE:=(ok (rs:=rs)).env F;unfold EC at h;show Run ((B rs).env F) 0 _ ⟨Al 58 [(0,.agg (i64 a.Op::i64 a.N::(C1 i64 a.Unit.l++[.sl false (L cApi_Expr a.L)])))],[]⟩ _;refine BR ?_;revert h;refine T0 [1] ?_;refine T0 [1,3,4] ?_;refine Jo (fun(v:Int×Int)=>(⟨Al 58 [(1,.ref 0 0),(3,i64 v.1),(4,i64 v.2)],[.box (i64 a.Op::i64 a.N::(C1 i64 a.Unit.l++[.sl false (L cApi_Expr a.L)])) false]⟩:St)) ?_ ?_
 ·intro q o;refine T0 [1,3,4,6] ?_;refine Sb ?_;refine Jo (fun f=>⟨Al 58 [(1,.ref 0 0),(3,i64 0),(4,i64 f)],[.box (i64 a.Op::i64 a.N::(C1 i64 a.Unit.l++[.sl false (L cApi_Expr a.L)])) false]⟩) ?_ ?_
  ·intro s k;refine Sb <|Sq <|Sb <|Sq <|Sb <|Sq <|Sb <|Sq <|Sq <|T0 [1,3,4,6,7] ?_
   refine Cd ?_ ?_
   ·refine Sx <|Tx <|Tx <|Bx <|Tn <|T0 [1,3,4] ?_
    exact Sx <|Bo <|Tx <|Bo <|Tx <|Bo <|Jx k <|Bx <|Jn (ws [0])
   refine Sk <|Tn <|Sq <|T0 [1,3,4,6,9] ?_
   refine Cd ?_ ?_
   ·refine Sx <|Tx <|Tx <|Bo <|Tx <|Bx <|Tn <|T0 [1,3,4] ?_
    exact Sx <|Bo <|Tx <|Bo <|Jx k <|Bx <|Jn (ws [0])
   refine Sk <|Tn <|T0 [1,3,4,11] ?_
   refine Cd ?_ ?_
   ·refine Sx <|Tx <|Bo <|Tx <|Bo <|Tx <|Bx <|Tn <|F0 [1,3,4] ?_
    exact Bn <|Jn (ws [0])
   exact Sk <|Tn <|Sx <|Bo <|Tx <|Bo <|Tx <|Bo <|Tx <|Bx <|Jn (ws [0])
  intro f;refine Sq ?_;refine Tw [1,3,4,20] (fun m=>⟨Al 58 [(1,.ref 0 0),(3,i64 0),(4,i64 f),(20,.bool m)],[.box (i64 a.Op::i64 a.N::(C1 i64 a.Unit.l++[.sl false (L cApi_Expr a.L)])) false]⟩) ?_ ?_
  ·intro _;refine Sp (fun g=>?_) fun g=>?_
   ·exact Lf Ac (Ew1 g) (ws [0])
   exact Lf Ac (Ew1 g) (ws [0])
  intro m;refine Cd ?_ ?_
  ·refine T0 [2] ?_;exact Sr <|Tr <|Br <|Jr o <|Rr
  exact Sk <|Tn <|Sx <|Bx <|Jn (ws [0])
 rintro⟨t,u⟩;refine Sq ?_;refine Tw [1,53] (fun n=>⟨Al 58 [(1,.ref 0 0),(53,.bool n)],[.box (i64 a.Op::i64 a.N::(C1 i64 a.Unit.l++[.sl false (L cApi_Expr a.L)])) false]⟩) ?_ ?_
 ·intro _;refine Sp (fun b=>?_) fun b=>?_
  ·exact Lf Ac (Ew1 b) (ws [0])
  refine Sp (fun c=>?_) fun c=>?_
  ·exact Lf Ac (Ew2 b c) (ws [0])
  refine Sp (fun d=>?_) fun d=>?_
  ·exact Lf Ac (Ew3 b c d) (ws [0])
  refine Bd fun w i=>?_
  refine Sp (fun e=>?_) fun e=>?_
  ·exact Lf (o1 40 (FR i)) (Ew4 b c d e) (ws [0])
  refine Sp (fun j=>?_) fun j=>?_
  ·exact Lf (o1 40 (FR i)) (Ev (by simp only[go_sem,b,c,d,e,j,Iy,IX,G4];exact CL)) (ws [0])
  exact Lf (o1 40 (FR i)) (Ew5 b c d e j) (ws [0])
 intro n;refine Cd ?_ ?_
 ·refine T0 [2] ?_;exact Sr <|Tr <|Rr
 refine Sk <|Tn <|Bd fun x p =>Te [2] (o1 56 (HF (fun h=>Lw (fun h=>hrec h) h) p)) Ev ?_
 exact Sr <|Rr
theorem Ls(n:Nat):∀{a:AoM} {r:Bool},EK n a=some r->Con (B rs) 59 [.agg (i64 a.Op::i64 a.N::(C1 i64 a.Unit.l++[.sl false (L cApi_Expr a.L)]))] [] (fun r' O'=>r'=.bool r/\O'=[]):=by
 induction n with
 |zero=>intro a r h;cases h
 |succ n ih=>intro a r h;exact Lq ih h
theorem MX{a:AoM}{r:Bool}(h:LU a=some r):Con (B rs) 59 [.agg (i64 a.Op::i64 a.N::(C1 i64 a.Unit.l++[.sl false (L cApi_Expr a.L)]))] [] (fun r' O'=>r'=.bool r/\O'=[]):=Ls _ h
theorem Hi{a r}(h:Dg a=some r):Con (B rs) 24 [.agg (Af a)] [] (fun r' O'=>r'=i64 r/\O'=[]):=by
 refine Cw 114 [.tmp 2] Tryz.func24 (fun F hE=>?_) h;unfold Dg;refine T0 [1] ?_;refine Sq ?_;refine Tw [1,23] (fun ae=>⟨Al 114 [(1,.ref 0 0),(23,.bool ae)],[.box (Af a) false]⟩) ?_ ?_
 ·intro _;refine Bd fun aR u=>?_
  refine Sp (fun o=>?_) fun o=>?_
  ·exact Lf (o1 12 (EF u)) (Ew1 o) (ws [0])
  refine Sp (fun w=>?_) fun w=>?_
  ·exact Lf (o1 12 (EF u)) (Ew2 o w) (ws [0])
  exact Lf (o1 12 (EF u)) (Ew2 o w) (ws [0])
 intro ae;refine Cd ?_ ?_
 ·refine T0 [2] ?_;exact Sr <|Tr <|Rr
 refine Sk <|Tn <|Bd fun aS ar =>Lt fun au av =>De (fr':=[(1,_),(3,_),(4,.bool au)]) [[],[0],[0,1],[],[3],[3,4],[3,4,5],[0,1,2],[0,1,2,3,4,5,6,7]] [1,3,4] (o1 26 (Fb ar)) (Ew1 av) ?_
 refine T0 [1,3,4,5] ?_;refine Jo (fun(v:Bool×Bool)=>(⟨Al 114 [(3,.bool v.1),(4,.bool v.2)],[]⟩:St)) ?_ ?_
 ·intro aT af;refine T0 [3,4,5,33,34,35] ?_;refine Sb ?_;refine Lo (fun⟨f,d,c,e⟩=>⟨Al 114 [(3,.bool f),(4,.bool d),(5,.mref 0),(33,.sl false (L Ab a.Zf)),(34,i64 (a.Zf.length:Int)),(35,i64 c)],[.mp true (MS KW e)]⟩) (ws [1]) ?_;rintro⟨f,d,c,e⟩ aU aw x y;show Gx a f d c e=some aw->_;unfold Gx;refine T0 [3,4,5,33,34,35,36] ?_;refine Sq <|Cd ?_ ?_
  ·refine Sk <|Tn <|?_
   refine Jo (fun⟨ag,ah,ai⟩=>⟨Al 114 [(3,.bool ag),(4,.bool ah),(5,.mref 0),(33,.sl false (L Ab a.Zf)),(34,i64 (a.Zf.length:Int)),(35,i64 c)],[.mp true (MS KW ai)]⟩) ?_ ?_
   ·intro aV aj;refine Sb <|Ck fun ax =>Lt fun g ay =>Lt fun b az =>Lt fun i aA =>Lt fun j aB =>Lt fun k aC =>Lt fun m aD =>Te (O':=[_,.box (.str g::.sl false (L Ae b)::i64 i::i64 j::(C1 i64 k.l++[.sl false (L cApi_Expr m)])) false]) [3,4,5,7,33,34,35] Ac (Ev (by simp only[go_sem,qR ax,ay,az,aA,aB,aC,aD];exact CL)) ?_
    refine Sq ?_;refine Tw [3,4,5,7,33,34,35,48] (fun ak=>⟨Al 114 [(3,.bool f),(4,.bool d),(5,.mref 0),(7,.ref 1 0),(33,.sl false (L Ab a.Zf)),(34,i64 (a.Zf.length:Int)),(35,i64 c),(48,.bool ak)],[.mp true (MS KW e),.box (.str g::.sl false (L Ae b)::i64 i::i64 j::(C1 i64 k.l++[.sl false (L cApi_Expr m)])) false]⟩) ?_ ?_
    ·intro _;refine Bd fun aW al=>?_
     refine Sp (fun z=>?_) fun z=>?_
     ·exact Lf (o1 41 (EF al)) (Ew1 z) (ws [0,1])
     refine Bd fun aX aE=>?_
     exact Lf (o2 41 (EF al) 46 (MX aE)) (Ew1 z) (ws [0,1])
    intro ak;refine Cd ?_ ?_
    ·refine T0 [2] ?_;exact Sr <|Tr <|Br <|Jr aj <|Lr y x <|Br <|Jr af <|Rr
    refine Sk <|Tn <|?_
    refine Jo (fun _=>⟨Al 114 [(3,.bool f),(4,.bool d),(5,.mref 0),(7,.ref 1 0),(33,.sl false (L Ab a.Zf)),(34,i64 (a.Zf.length:Int)),(35,i64 c)],[.mp true (MS KW e),.box (.str g::.sl false (L Ae b)::i64 i::i64 j::(C1 i64 k.l++[.sl false (L cApi_Expr m)])) false]⟩) ?_ ?_
    ·intro aY aF;refine T0 [3,4,5,7,33,34,35,50,51,52] ?_;refine Sb ?_;refine Lo (fun p=>⟨Al 114 [(3,.bool f),(4,.bool d),(5,.mref 0),(7,.ref 1 0),(33,.sl false (L Ab a.Zf)),(34,i64 (a.Zf.length:Int)),(35,i64 c),(50,.sl false (L Ae b)),(51,i64 (b.length:Int)),(52,i64 p)],[.mp true (MS KW e),.box (.str g::.sl false (L Ae b)::i64 i::i64 j::(C1 i64 k.l++[.sl false (L cApi_Expr m)])) false]⟩) (ws [0,1]) ?_;rintro p aZ aG am an;show EG b p=some aG->_;unfold EG;refine T0 [3,4,5,7,33,34,35,50,51,52,53] ?_;refine Sq <|Cd ?_ ?_
     ·refine Sk <|Tn <|Sq <|Sb <|Ck fun aH =>Lt fun aI aJ =>Lt fun aK aL =>Lt fun aM aN =>Te (O':=[_,_,.box [i64 aI,i64 aK,i64 aM] false]) [3,4,5,7,9,33,34,35,50,51,52] Ac (Ew4 (qR aH) aJ aL aN) ?_
      refine Tw [3,4,5,7,33,34,35,50,51,52,79] (fun ao=>⟨Al 114 [(3,.bool f),(4,.bool d),(5,.mref 0),(7,.ref 1 0),(33,.sl false (L Ab a.Zf)),(34,i64 (a.Zf.length:Int)),(35,i64 c),(50,.sl false (L Ae b)),(51,i64 (b.length:Int)),(52,i64 p),(79,.bool ao)],[.mp true (MS KW e),.box (.str g::.sl false (L Ae b)::i64 i::i64 j::(C1 i64 k.l++[.sl false (L cApi_Expr m)])) false]⟩) ?_ ?_
      ·intro _;refine Sp (fun n=>?_) fun n=>?_
       ·exact Lf Ac (Ew1 n) (ws [0,1])
       refine Sp (fun q=>?_) fun q=>?_
       ·exact Lf Ac (Ew2 n q) (ws [0,1])
       refine Sp (fun aa=>?_) fun aa=>?_
       ·exact Lf Ac (Ew3 n q aa) (ws [0,1])
       exact Lf Ac (Ew3 n q aa) (ws [0,1])
      intro ao;refine Cd ?_ ?_
      ·refine T0 [2] ?_;exact Sr <|Br <|Tr <|Lr an am <|Br <|Jr aF <|Br <|Jr aj <|Lr y x <|Br <|Jr af <|Rr
      refine Sk <|Bn <|Tn <|F0 [3,4,5,7,33,34,35,50,51,52] ?_
      exact Ln (ws [0,1])
     refine Sx <|Tx <|Lx an am <|Bx <|?_
     exact Jn ((ws (l':=[(3,.bool f),(4,.bool d),(5,.mref 0),(7,.ref 1 0),(33,.sl false (L Ab a.Zf)),(34,i64 (a.Zf.length:Int)),(35,i64 c)]) (O':=[.mp true (MS KW e),.box (.str g::.sl false (L Ae b)::i64 i::i64 j::(C1 i64 k.l++[.sl false (L cApi_Expr m)])) false]) [0,1]).trans (ws [0,1]))
    intro _;refine Tw [3,4,5,7,33,34,35] (fun ab=>⟨Al 114 [(3,.bool ab),(4,.bool d),(5,.mref 0),(7,.ref 1 0),(33,.sl false (L Ab a.Zf)),(34,i64 (a.Zf.length:Int)),(35,i64 c)],[.mp true (MS KW e),.box (.str g::.sl false (L Ae b)::i64 i::i64 j::(C1 i64 k.l++[.sl false (L cApi_Expr m)])) false]⟩) ?_ ?_
    ·intro _;refine Sp (fun s=>?_) fun s=>?_
     ·exact Lf Ac (Ew1 s) (ws [0,1])
     refine Bd fun a0 ap=>?_
     refine Sp (fun ac=>?_) fun ac=>?_
     ·exact Lf (o1 85 (Fb ap)) (Ew2 s ac) (ws [0,1])
     exact Lf (o1 85 (Fb ap)) (Ew2 s ac) (ws [0,1])
    intro ab;refine Tw [3,4,5,7,33,34,35] (fun aq=>⟨Al 114 [(3,.bool ab),(4,.bool aq),(5,.mref 0),(7,.ref 1 0),(33,.sl false (L Ab a.Zf)),(34,i64 (a.Zf.length:Int)),(35,i64 c)],[.mp true (MS KW e),.box (.str g::.sl false (L Ae b)::i64 i::i64 j::(C1 i64 k.l++[.sl false (L cApi_Expr m)])) false]⟩) ?_ ?_
    ·intro _;refine Sp (fun t=>?_) fun t=>?_
     ·exact Lf Ac (Ew1 t) (ws [0,1])
     refine Sp (fun ad=>?_) fun ad=>?_
     ·exact Lf Ac (Ew2 t ad) (ws [0,1])
     refine Bd fun a1 aO=>?_
     exact Lf (o1 103 (Ic aO)) (Ew2 t ad) (ws [0,1])
    intro aq;refine Lt fun aP aQ =>Fe (O':=[.mp true (MS KW aP),_]) [3,4,5,33,34,35] Ac (Ew1 aQ) ?_
    exact Bn <|Jn (ws [0])
   rintro⟨ag,ah,ai⟩;refine F0 [3,4,5,33,34,35] ?_;exact Ln (ws [0])
  refine Sx <|Tx <|Lx y x <|Bx <|?_
  exact Jn ((ws (l':=[(3,.bool f),(4,.bool d)]) (O':=[]) []).trans (ws []))
 rintro⟨a2,a3⟩;refine Sq <|Sb <|T0 [4,110] ?_
 refine Cd ?_ ?_
 ·refine T0 [2] ?_;exact Sr <|Br <|Tr <|Rr
 refine T0 [112] ?_;refine Cd ?_ ?_
 ·refine T0 [2] ?_;exact Sr <|Br <|Tr <|Rr
 refine Sk <|Bn <|Tn <|T0 [2] ?_
 exact Sr <|Rr
theorem Hp{a b r}(h:Cy a b=some r):Con (B rs) 156 [.sl false (L IF a),i64 b] [] (fun r' O'=>r'=i64 r/\O'=[]):=by
 refine Cw 19 [.tmp 4] Tryz.func156 (fun F hE=>?_) h;unfold Cy;refine T0 [0,1] ?_;refine Jo (fun _=>⟨Al 19 [],[]⟩) ?_ ?_
 ·intro j f;refine T0 [0,1,7,8] ?_;refine Sb ?_;refine Lo (fun c=>⟨Al 19 [(0,.sl false (L IF a)),(1,i64 b),(7,i64 (a.length:Int)),(8,i64 c)],[]⟩) (ws []) ?_;rintro c k g d e;show Er a b c=some g->_;unfold Er;refine T0 [0,1,7,8,9] ?_;refine Sq <|Cd ?_ ?_
  ·refine Sk <|Tn <|Sq <|Sb <|T0 [0,1,5,7,8] ?_
   refine Ck fun i =>Te [0,1,5,7,8,16] Ac (Ew1 (qR i)) ?_
   refine Cd ?_ ?_
   ·refine T0 [4] ?_;exact Sr <|Br <|Tr <|Lr e d <|Br <|Jr f <|Rr
   refine Sk <|Bn <|Tn <|F0 [0,1,7,8] ?_
   exact Ln (ws [])
  refine Sx <|Tx <|Lx e d <|Bx <|?_
  exact Jn ((ws (l':=[]) (O':=[]) []).trans (ws []))
 intro _;refine T0 [4] ?_;exact Sr <|Rr
theorem HM{s1_6377 s2_6378 r}(h:EH s1_6377 s2_6378=some r):Con (B rs) 20 [.sl false (L Ae s1_6377),.sl false (L Ae s2_6378)] [] (fun r' O'=>r'=.bool r/\O'=[]):=by
 refine Cw 26 [.tmp 4] Tryz.func20 (fun F hE=>?_) h;unfold EH;refine T0 [0,1] ?_;refine Sq <|T0 [0,1,10] ?_
 refine Cd ?_ ?_
 ·refine T0 [4] ?_;exact Sr <|Tr <|Rr
 refine Sk <|Tn <|?_
 refine Jo (fun _=>⟨Al 26 [],[]⟩) ?_ ?_
 ·intro k d;refine T0 [0,1,12,13] ?_;refine Sb ?_;refine Lo (fun a=>⟨Al 26 [(0,.sl false (L Ae s1_6377)),(1,.sl false (L Ae s2_6378)),(12,i64 (s1_6377.length:Int)),(13,i64 a)],[]⟩) (ws []) ?_;rintro a l e b c;show E7 s1_6377 s2_6378 a=some e->_;unfold E7;refine T0 [0,1,12,13,14] ?_;refine Sq <|Cd ?_ ?_
  ·refine Sk <|Tn <|Sq <|Sb <|T0 [0,1,5,12,13] ?_
   refine Ck fun f =>Ck fun g =>Lt fun i j =>De (fr':=[(0,_),(1,_),(12,_),(13,_),(24,.bool i)]) [[],[],[0,1],[0,1,2],[],[],[4,5],[4,5,6],[0,1,2,3,4,5,6,7]] [0,1,12,13,24] Ac (Ew3 (qR f) (qR g) j) ?_
   refine Cd ?_ ?_
   ·refine T0 [4] ?_;exact Sr <|Br <|Tr <|Lr c b <|Br <|Jr d <|Rr
   refine Sk <|Bn <|Tn <|F0 [0,1,12,13] ?_
   exact Ln (ws [])
  refine Sx <|Tx <|Lx c b <|Bx <|?_
  exact Jn ((ws (l':=[]) (O':=[]) []).trans (ws []))
 intro _;refine T0 [4] ?_;exact Sr <|Rr
open Go.Shelf
def Tryz.laysM171_ren:Go.Shelf.Ren:=⟨fun|171=>103|243=>155|246=>175|283=>180|284=>181|285=>182|286=>183|129=>188|317=>187|318=>189|319=>190|320=>191|337=>192|338=>193|n=>n,fun|3=>3|9=>9|2=>2|4=>4|171=>265|0=>0|53=>249|37=>129|5=>5|173=>268|212=>275|51=>184|20=>20|213=>276|46=>220|232=>279|233=>280|n=>n,fun|17=>7|18=>8|19=>9|n=>n⟩
theorem Tryz.laysM171:Go.Proofs.LaysM.n171 Tryz.prog Tryz.laysM171_ren:={
 mixed:=by kernel_rfl
 f129:=Tryz.func188.trans (ApV some (by kernel_rfl))
 f171:=Tryz.func103.trans (ApV some (by kernel_rfl))
 f243:=Tryz.func155.trans (ApV some (by kernel_rfl))
 f246:=Tryz.func175.trans (ApV some (by kernel_rfl))
 f283:=Tryz.func180.trans (ApV some (by kernel_rfl))
 f284:=Tryz.func181.trans (ApV some (by kernel_rfl))
 f285:=Tryz.func182.trans (ApV some (by kernel_rfl))
 f286:=Tryz.func183.trans (ApV some (by kernel_rfl))
 f317:=Tryz.func187.trans (ApV some (by kernel_rfl))
 f318:=Tryz.func189.trans (ApV some (by kernel_rfl))
 f319:=Tryz.func190.trans (ApV some (by kernel_rfl))
 f320:=Tryz.func191.trans (ApV some (by kernel_rfl))
 f337:=Tryz.func192.trans (ApV some (by kernel_rfl))
 f338:=Tryz.func193.trans (ApV some (by kernel_rfl))
 t0:=Tryz.underlying0
 a0:=Tryz.isAgg0
 z0:=Tryz.sizeOf0
 v0:=Tryz.zeroValue0
 t2:=Tryz.underlying2
 a2:=Tryz.isAgg2
 z2:=Tryz.sizeOf2
 v2:=Tryz.zeroValue2
 t3:=Tryz.underlying3
 a3:=Tryz.isAgg3
 z3:=Tryz.sizeOf3
 v3:=Tryz.zeroValue3
 t4:=Tryz.underlying4
 a4:=Tryz.isAgg4
 z4:=Tryz.sizeOf4
 v4:=Tryz.zeroValue4
 t5:=Tryz.underlying5
 a5:=Tryz.isAgg5
 z5:=Tryz.sizeOf5
 v5:=Tryz.zeroValue5
 t9:=Tryz.underlying9
 a9:=Tryz.isAgg9
 z9:=Tryz.sizeOf9
 v9:=Tryz.zeroValue9
 t20:=Tryz.underlying20
 a20:=Tryz.isAgg20
 z20:=Tryz.sizeOf20
 v20:=Tryz.zeroValue20
 t37:=Tryz.underlying129
 a37:=Tryz.isAgg129
 z37:=Tryz.sizeOf129
 v37:=Tryz.zeroValue129
 t46:=Tryz.underlying220
 a46:=Tryz.isAgg220
 z46:=Tryz.sizeOf220
 v46:=Tryz.zeroValue220
 t51:=Tryz.underlying184
 a51:=Tryz.isAgg184
 z51:=Tryz.sizeOf184
 v51:=Tryz.zeroValue184
 t53:=Tryz.underlying249
 a53:=Tryz.isAgg249
 z53:=Tryz.sizeOf249
 v53:=Tryz.zeroValue249
 t171:=Tryz.underlying265
 a171:=Tryz.isAgg265
 z171:=Tryz.sizeOf265
 v171:=Tryz.zeroValue265
 t173:=Tryz.underlying268
 a173:=Tryz.isAgg268
 z173:=Tryz.sizeOf268
 v173:=Tryz.zeroValue268
 t212:=Tryz.underlying275
 a212:=Tryz.isAgg275
 z212:=Tryz.sizeOf275
 v212:=Tryz.zeroValue275
 t213:=Tryz.underlying276
 a213:=Tryz.isAgg276
 z213:=Tryz.sizeOf276
 t232:=Tryz.underlying279
 a232:=Tryz.isAgg279
 z232:=Tryz.sizeOf279
 v232:=Tryz.zeroValue279
 t233:=Tryz.underlying280
 a233:=Tryz.isAgg280
 z233:=Tryz.sizeOf280
 v233:=Tryz.zeroValue280
 g17:=by kernel_rfl
 g18:=by kernel_rfl
 g19:=by kernel_rfl
 i0:=by kernel_rfl
 i2:=by kernel_rfl
 i3:=by kernel_rfl
 i4:=by kernel_rfl
 i5:=by kernel_rfl
 i9:=by kernel_rfl
 i20:=by kernel_rfl
 i37:=by kernel_rfl
 i46:=by kernel_rfl
 i51:=by kernel_rfl
 i53:=by kernel_rfl
 i171:=by kernel_rfl
 i173:=by kernel_rfl
 i212:=by kernel_rfl
 i232:=by kernel_rfl
 i233:=by kernel_rfl
 m17:=by kernel_rfl
 m18:=by kernel_rfl
 m19:=by kernel_rfl }
open Go.Rv Go.RowKit
theorem Adg{rs:AoH}{n:Int}{r:List UInt8}(h:AcL n=some r):Con (B rs) 103 [i64 n] [] (fun r' O'=>r'=.str r/\O'=[]):=by
 unfold AcL at h;split at h
 case isFalse=>cases h
 rename_i hl;obtain⟨hl1,hl2⟩:=hl;simp only[Ao0]at h;subst h;refine⟨fun F w g vs hm ha=>.inl ⟨⟨Tryz.f103,_,Tryz.func103,rfl,by decide +kernel⟩,?_⟩⟩;have hg:g=[]:=ApF.1 hm.len;subst hg;obtain⟨vs⟩:=vs
 match vs,ha with
 | [u],⟨h1,_⟩=>
  have hu:=DM h1;subst hu
  have htab:Lib.TabIs Tryz.prog w "internal/strconv.uint64pow10" .u64 Lib.pow10Tab:=by
   obtain⟨_,t,o,hw⟩:=hm.whole 7 _ rfl;unfold Lib.TabIs World.var?;rw[show Tryz.prog.globalNamed "internal/strconv.uint64pow10" = some 7 by kernel_rfl,ApX,hw]
  have key:Calls Tryz.prog 103 #[.int .i64 n] w fun e w'=>e=.returned (.string ⟨(Lib.itoa n).toArray⟩)/\Below w.heap.size w w' :=
   (Any.strconv_Itoa Tryz.laysM171 n hl1 hl2 w htab).mono fun e w' ⟨e1,k,os,e2⟩=>⟨e1,by
    rw[e2];exact Lib.below_grow _ w (Apf _) k os⟩
  refine key.mono fun e w' ⟨he,hb⟩=>?_
  have evo:Evo ((B rs).env F) 0 w [] w' []:=⟨hb.os,hb.tape,hb.output,hb.size,fun a u hc hp=>⟨by
   rw[<-hc];simp only[World.cell?,hb.block _ (cell?_lt hc)],hp⟩,fun β hβ hn=>⟨hb.block β hβ,hn⟩,fun _ hh=>absurd hh (ApT _)⟩
  exact⟨_,_,[],[],he,⟨rfl,rfl⟩,(Oo hm evo).1,evo,.str _ _ _ (by simp)⟩
variable {rs:AoH}
theorem J2{s1_8461:List AoM}{s2_8462:List AoM}{b:AoM->AoM->Option (Bool)}{a:Nat}(f:∀{a0:AoM} {a1:AoM} {r:Bool},b a0 a1=some r->Con (B rs) a [.agg (i64 a0.Op::i64 a0.N::(C1 i64 a0.Unit.l++[.sl false (L cApi_Expr a0.L)])),.agg (i64 a1.Op::i64 a1.N::(C1 i64 a1.Unit.l++[.sl false (L cApi_Expr a1.L)]))] [] (fun r' O'=>r'=.bool r/\O'=[])){r:Bool}(h:Dt s1_8461 s2_8462 b=some r):Con (B rs) 44 [.sl false (L cApi_Expr s1_8461),.sl false (L cApi_Expr s2_8462),.fn a []] [] (fun r' O'=>r'=.bool r/\O'=[]):=by
 refine FD (N:=32) (rs:=[.tmp 6]) ok Tryz.func44 rfl (by decide +kernel) rfl rfl (Apj rfl) (fun F=>?_);have hE:=(ok (rs:=rs)).env F;unfold Dt at h;show Run ((B rs).env F) 0 _ ⟨Al 32 [(0,.sl false (L cApi_Expr s1_8461)),(1,.sl false (L cApi_Expr s2_8462)),(2,.fn a [])],[]⟩ _;refine BR ?_;revert h;refine T0 [0,1,2] ?_;refine Sq <|T0 [0,1,2,14] ?_
 refine Cd ?_ ?_
 ·refine T0 [6] ?_;exact Sr <|Tr <|Rr
 refine Sk <|Tn <|?_
 refine Jo (fun _=>⟨Al 32 [],[]⟩) ?_ ?_
 ·intro ae g;refine T0 [1,2,15,16,17] ?_;refine Sb ?_;refine Lo (fun c=>⟨Al 32 [(1,.sl false (L cApi_Expr s2_8462)),(2,.fn a []),(15,.sl false (L cApi_Expr s1_8461)),(16,i64 (s1_8461.length:Int)),(17,i64 c)],[]⟩) (ws []) ?_;rintro c af i d e;show Dz s1_8461 s2_8462 b c=some i->_;unfold Dz;refine T0 [1,2,15,16,17,18] ?_;refine Sq <|Cd ?_ ?_
  ·refine Sk <|Tn <|Sq <|Sb <|Ck fun j =>Lt fun k m =>Lt fun n o =>Lt fun p q =>Lt fun s t =>Te (O':=[.box (i64 k::i64 n::(C1 i64 p.l++[.sl false (L cApi_Expr s)])) false]) [1,2,7,8,15,16,17] Ac (Ew5 (qR j) m o q t) ?_
   refine Ck fun u =>Lt fun v w =>Lt fun x y =>Lt fun z aa =>Lt fun ab ac =>Te (O':=[_,.box (i64 v::i64 x::(C1 i64 z.l++[.sl false (L cApi_Expr ab)])) false]) [1,2,8,9,15,16,17] Ac (Ew5 (qR u) w y aa ac) ?_
   refine Bd fun ag ad =>Te [1,2,15,16,17,30] (o1 29 (f ad)) Ev ?_
   refine Cd ?_ ?_
   ·refine T0 [6] ?_;exact Sr <|Br <|Tr <|Lr e d <|Br <|Jr g <|Rr
   refine Sk <|Bn <|Tn <|F0 [1,2,15,16,17] ?_
   exact Ln (ws [])
  refine Sx <|Tx <|Lx e d <|Bx <|?_
  exact Jn ((ws (l':=[]) (O':=[]) []).trans (ws []))
 intro _;refine T0 [6] ?_;exact Sr <|Rr
theorem Kr{rec_:AoM->AoM->Option (Bool)}(hrec:∀{a:AoM} {b:AoM} {r:Bool},rec_ a b=some r->Con (B rs) 21 [.agg (i64 a.Op::i64 a.N::(C1 i64 a.Unit.l++[.sl false (L cApi_Expr a.L)])),.agg (i64 b.Op::i64 b.N::(C1 i64 b.Unit.l++[.sl false (L cApi_Expr b.L)]))] [] (fun r' O'=>r'=.bool r/\O'=[])){a:AoM}{b:AoM}{r:Bool}(h:DU rec_ a b=some r):Con (B rs) 21 [.agg (i64 a.Op::i64 a.N::(C1 i64 a.Unit.l++[.sl false (L cApi_Expr a.L)])),.agg (i64 b.Op::i64 b.N::(C1 i64 b.Unit.l++[.sl false (L cApi_Expr b.L)]))] [] (fun r' O'=>r'=.bool r/\O'=[]):=by
 refine FD (N:=31) (rs:=[.tmp 4]) ok Tryz.func21 rfl (by decide +kernel) rfl rfl (Apj rfl) (fun F=>?_);have hE:=(ok (rs:=rs)).env F;unfold DU at h;show Run ((B rs).env F) 0 _ ⟨Al 31 [(0,.agg (i64 a.Op::i64 a.N::(C1 i64 a.Unit.l++[.sl false (L cApi_Expr a.L)]))),(1,.agg (i64 b.Op::i64 b.N::(C1 i64 b.Unit.l++[.sl false (L cApi_Expr b.L)])))],[]⟩ _;refine BR ?_;revert h;refine T0 [2,3] ?_;refine Tw [4] (fun f=>⟨Al 31 [(4,.bool f)],[]⟩) ?_ ?_
 ·intro _;refine Sp (fun c=>?_) fun c=>?_
  ·refine Sp (fun d=>?_) fun d=>?_
   ·refine Sp (fun e=>?_) fun e=>?_
    ·refine Bd fun i g=>?_
     exact Lf (o1 29 (J2 (fun h=>hrec h) g)) (Ew3 c d e) (ws [])
    exact Lf Ac (Ew3 c d e) (ws [])
   exact Lf Ac (Ew2 c d) (ws [])
  exact Lf Ac (Ew1 c) (ws [])
 intro f;exact Sr <|Rr
theorem Kc(n:Nat):∀{a:AoM} {b:AoM} {r:Bool},DX n a b=some r->Con (B rs) 21 [.agg (i64 a.Op::i64 a.N::(C1 i64 a.Unit.l++[.sl false (L cApi_Expr a.L)])),.agg (i64 b.Op::i64 b.N::(C1 i64 b.Unit.l++[.sl false (L cApi_Expr b.L)]))] [] (fun r' O'=>r'=.bool r/\O'=[]):=by
 induction n with
 |zero=>intro a b r h;cases h
 |succ n ih=>intro a b r h;exact Kr ih h
theorem L0{a:AoM}{b:AoM}{r:Bool}(h:JO a b=some r):Con (B rs) 21 [.agg (i64 a.Op::i64 a.N::(C1 i64 a.Unit.l++[.sl false (L cApi_Expr a.L)])),.agg (i64 b.Op::i64 b.N::(C1 i64 b.Unit.l++[.sl false (L cApi_Expr b.L)]))] [] (fun r' O'=>r'=.bool r/\O'=[]):=Kc _ h
theorem Np{c d r}(h:Fh c d=some r):Con (B rs) 19 [.agg (Ab c),.agg (Ab d)] [] (fun r' O'=>r'=.bool r/\O'=[]):=by
 refine Cw 24 [.tmp 4] Tryz.func19 (fun F hE=>?_) h;unfold Fh;refine T0 [2,3] ?_;refine Tw [4] (fun e=>⟨Al 24 [(4,.bool e)],[]⟩) ?_ ?_
 ·intro _;refine Sp (fun a=>?_) fun a=>?_
  ·refine Bd fun i f=>?_
   refine Sp (fun b=>?_) fun b=>?_
   ·refine Bd fun j g=>?_
    exact Lf (o2 15 (HM f) 22 (L0 g)) (Ew2 a b) (ws [])
   exact Lf (o1 15 (HM f)) (Ew2 a b) (ws [])
  exact Lf Ac (Ew1 a) (ws [])
 intro e;exact Sr <|Rr
theorem Jt{s1_8598:List AoN}{s2_8599:List AoN}{b:AoN->AoN->Option (Bool)}{a:Nat}(f:∀{a0:AoN} {a1:AoN} {r:Bool},b a0 a1=some r->Con (B rs) a [.agg (Ab a0),.agg (Ab a1)] [] (fun r' O'=>r'=.bool r/\O'=[])){r:Bool}(h:Dn s1_8598 s2_8599 b=some r):Con (B rs) 18 [.sl false (L Ab s1_8598),.sl false (L Ab s2_8599),.fn a []] [] (fun r' O'=>r'=.bool r/\O'=[]):=by
 refine FD (N:=32) (rs:=[.tmp 6]) ok Tryz.func18 rfl (by decide +kernel) rfl rfl (Apj rfl) (fun F=>?_);have hE:=(ok (rs:=rs)).env F;unfold Dn at h;show Run ((B rs).env F) 0 _ ⟨Al 32 [(0,.sl false (L Ab s1_8598)),(1,.sl false (L Ab s2_8599)),(2,.fn a [])],[]⟩ _;refine BR ?_;revert h;refine T0 [0,1,2] ?_;refine Sq <|T0 [0,1,2,14] ?_
 refine Cd ?_ ?_
 ·refine T0 [6] ?_;exact Sr <|Tr <|Rr
 refine Sk <|Tn <|?_
 refine Jo (fun _=>⟨Al 32 [],[]⟩) ?_ ?_
 ·intro am g;refine T0 [1,2,15,16,17] ?_;refine Sb ?_;refine Lo (fun c=>⟨Al 32 [(1,.sl false (L Ab s2_8599)),(2,.fn a []),(15,.sl false (L Ab s1_8598)),(16,i64 (s1_8598.length:Int)),(17,i64 c)],[]⟩) (ws []) ?_;rintro c an i d e;show Dx s1_8598 s2_8599 b c=some i->_;unfold Dx;refine T0 [1,2,15,16,17,18] ?_;refine Sq <|Cd ?_ ?_
  ·refine Sk <|Tn <|Sq <|Sb <|Ck fun j =>Lt fun k m =>Lt fun n o =>Lt fun p q =>Lt fun s t =>Lt fun u v =>Lt fun w x =>Te (O':=[.box (.str k::.sl false (L Ae n)::i64 p::i64 s::(C1 i64 u.l++[.sl false (L cApi_Expr w)])) false]) [1,2,7,8,15,16,17] Ac (Ev (by simp only[go_sem,qR j,m,o,q,t,v,x];exact CL)) ?_
   refine Ck fun y =>Lt fun z aa =>Lt fun ab ac =>Lt fun ad ae =>Lt fun af ag =>Lt fun ah ai =>Lt fun aj ak =>Te (O':=[_,.box (.str z::.sl false (L Ae ab)::i64 ad::i64 af::(C1 i64 ah.l++[.sl false (L cApi_Expr aj)])) false]) [1,2,8,9,15,16,17] Ac (Ev (by simp only[go_sem,qR y,aa,ac,ae,ag,ai,ak];exact CL)) ?_
   refine Bd fun ao al =>Te [1,2,15,16,17,30] (o1 29 (f al)) Ev ?_
   refine Cd ?_ ?_
   ·refine T0 [6] ?_;exact Sr <|Br <|Tr <|Lr e d <|Br <|Jr g <|Rr
   refine Sk <|Bn <|Tn <|F0 [1,2,15,16,17] ?_
   exact Ln (ws [])
  refine Sx <|Tx <|Lx e d <|Bx <|?_
  exact Jn ((ws (l':=[]) (O':=[]) []).trans (ws []))
 intro _;refine T0 [6] ?_;exact Sr <|Rr
theorem DV{c d r}(h:Ch c d=some r):Con (B rs) 8 [.agg (Af c),.agg (Af d)] [] (fun r' O'=>r'=.bool r/\O'=[]):=by
 refine Cw 24 [.tmp 4] Tryz.func8 (fun F hE=>?_) h;unfold Ch;refine T0 [2,3] ?_;refine Tw [4] (fun e=>⟨Al 24 [(4,.bool e)],[]⟩) ?_ ?_
 ·intro _;refine Sp (fun a=>?_) fun a=>?_
  ·refine Sp (fun b=>?_) fun b=>?_
   ·refine Bd fun g f=>?_
    exact Lf (o1 22 (Jt (fun h=>Np h) f)) (Ew2 a b) (ws [])
   exact Lf Ac (Ew2 a b) (ws [])
  exact Lf Ac (Ew1 a) (ws [])
 intro e;exact Sr <|Rr
theorem MO{a b r}(h:Gt a b=some r):Con (B rs) 10 [.agg (Af a),.agg (Ab b)] [] (fun r' O'=>r'=.bool r/\O'=[]):=by
 refine Cw 22 [.tmp 4] Tryz.func10 (fun F hE=>?_) h;unfold Gt;refine T0 [2,3] ?_;refine Jo (fun _=>⟨Al 22 [],[]⟩) ?_ ?_
 ·intro y f;refine T0 [3,8,9,10] ?_;refine Sb ?_;refine Lo (fun c=>⟨Al 22 [(3,.ref 0 0),(8,.sl false (L Ab a.Zf)),(9,i64 (a.Zf.length:Int)),(10,i64 c)],[.box (Ab b) false]⟩) (ws [1]) ?_;rintro c z g d e;show FK a b c=some g->_;unfold FK;refine T0 [3,8,9,10,11] ?_;refine Sq <|Cd ?_ ?_
  ·refine Sk <|Tn <|Sq <|Sb <|Ck fun i =>Lt fun j k =>Lt fun m n =>Lt fun o p =>Lt fun q s =>Lt fun t u =>Lt fun v w =>Te (O':=[_,.box (.str j::.sl false (L Ae m)::i64 o::i64 q::(C1 i64 t.l++[.sl false (L cApi_Expr v)])) false]) [3,6,8,9,10] Ac (Ev (by simp only[go_sem,qR i,k,n,p,s,u,w];exact CL)) ?_
   refine Bd fun aa x =>Te [3,8,9,10,20] (o1 20 (DV x)) Ev ?_
   refine Cd ?_ ?_
   ·refine T0 [4] ?_;exact Sr <|Br <|Tr <|Lr e d <|Br <|Jr f <|Rr
   refine Sk <|Bn <|Tn <|F0 [3,8,9,10] ?_
   exact Ln (ws [0])
  refine Sx <|Tx <|Lx e d <|Bx <|?_
  exact Jn ((ws (l':=[]) (O':=[]) []).trans (ws []))
 intro _;refine T0 [4] ?_;exact Sr <|Rr
theorem MA{a r}(h:FB a=some r):Con (B rs) 6 [.sl false (L Ah a)] [] (fun r' O'=>r'=.bool r/\O'=[]):=by
 refine Cw 26 [.tmp 2] Tryz.func6 (fun F hE=>?_) h;unfold FB;refine T0 [0] ?_;refine T0 [0,3] ?_;refine Ja (fun c=>⟨Al 26 [(0,.sl false (L Ah a)),(3,i64 c)],[]⟩) ?_ ?_
 ·intro aH;refine T0 [0,3,6,7,8] ?_;refine Sb ?_;refine Lo (fun(v:Int×Int)=>(⟨Al 26 [(0,.sl false (L Ah a)),(3,i64 v.1),(6,.sl false (L Ah a)),(7,i64 (a.length:Int)),(8,i64 v.2)],[]⟩:St)) (ws []) ?_;rintro⟨d,f⟩ aI g i j;show Fo a d f=some g->_;unfold Fo;refine T0 [0,3,6,7,8,9] ?_;refine Sq <|Cd ?_ ?_
  ·refine Sk <|Tn <|Sq <|Sb <|Ck fun k =>Lt fun l m =>Lt fun n o =>Lt fun p q =>Lt fun s t =>Lt fun u w =>Lt fun x y =>Lt fun z aa =>Lt fun ab ac =>Lt fun ad ae =>Lt fun af ag =>Lt fun ah ai =>Lt fun aj ak =>Lt fun al am =>Lt fun an ao =>Lt fun ap aq =>Lt fun ar au =>Lt fun av aw =>Lt fun ax ay =>Lt fun az aA =>Lt fun aB aC =>Lt fun aD aE =>Te (O':=[.box [i64 l,i64 n,i64 p,i64 s,i64 u,i64 x,i64 z,i64 ab,i64 ad,i64 af,i64 ah,i64 aj,i64 al,i64 an,i64 ap,i64 ar,i64 av,i64 ax,i64 az,.str aB,.sl false (L Dr aD)] false]) [0,3,5,6,7,8] Ac (Ev (by simp only[go_sem,qR k,m,o,q,t,w,y,aa,ac,ae,ag,ai,ak,am,ao,aq,au,aw,ay,aA,aC,aE];exact CL)) ?_
   refine Lt fun aF aG =>Fe (fr':=[(0,_),(3,i64 aF),(6,_),(7,_),(8,_)]) [0,3,6,7,8] Ac (Ew1 aG) ?_
   refine Bn <|Tn <|F0 [0,3,6,7,8] ?_
   exact Ln (ws [])
  refine Sx <|Tx <|Ly j i <|Bx <|?_
  exact Jm ((ws (l':=[(0,.sl false (L Ah a)),(3,i64 d)]) (O':=[]) []).trans (ws []))
 intro c;refine Tw [2] (fun e=>⟨Al 26 [(2,.bool e)],[]⟩) ?_ ?_
 ·intro _;refine Sp (fun b=>?_) fun b=>?_
  ·exact Lf Ac (Ew1 b) (ws [])
  exact Lf Ac (Ew1 b) (ws [])
 intro e;exact Sr <|Rr
theorem Oc{n:Int}{r:List UInt8}(h:strconv_Itoa n=some r):Con (B rs) 103 [i64 n] [] (fun r' O'=>r'=.str r/\O'=[]) :=
 Adg h
theorem Ap{a c r}(h:Aq a c=some r):Con (B rs) 25 [.ref 0 0,.sl false (L AU c)] [.box [.bs false 1 (a.l.length) 0 (a.l.length)] false,.buf 1 (L AU a.l) false] (fun r' O'=>r'=.tup []/\O'=[.box [.bs false 1 (r.l.length) 0 (r.l.length)] false,.buf 1 (L AU r.l) false]):=by
 refine Co 2 13 [] Tryz.func25 (fun F hE=>?_) h;unfold Aq;refine Ck fun d =>Lt fun b e =>Fe (O':=[.box [.bs false 1 (b.length) 0 (b.length)] false,.buf 1 (L AU b) false]) [] Ac (Ew2 d e) ?_
 exact Ro [0,1]
theorem C9{a c r}(h:Bm a c=some r):Con (B rs) 63 [.ref 0 0,i64 c] [.box [.bs false 1 (a.l.length) 0 (a.l.length)] false,.buf 1 (L AU a.l) false] (fun r' O'=>r'=.tup []/\O'=[.box [.bs false 1 (r.l.length) 0 (r.l.length)] false,.buf 1 (L AU r.l) false]):=by
 refine Co 2 9 [] Tryz.func63 (fun F hE=>?_) h;unfold Bm;refine Bd fun d e =>Bd fun i f =>Lt fun b g =>?_
 refine Ffe (O':=[.box [.bs false 1 (b.length) 0 (b.length)] false,.buf 1 (L AU b) false]) [] (Ag (l:=[(6,_,_,_)]) (m:=[(8,25,[.ref 0 0,.sl false (L AU ([d]:List (List UInt8)))],[.box [.bs false 1 (a.l.length) 0 (a.l.length)] false,.buf 1 (L AU a.l) false],_,_)]) ⟨Oc  e,trivial⟩ ⟨(wc (Ap f) [0,1]),trivial⟩) (Ew1 g) ?_;exact Ro [0,1]
theorem Xt(B:Base)(o:Out):(B.env o).P=B.P:=rfl
theorem Akn{w:World}{pr:Addr->Prop}{g:Gh}(t:TypeId)(x y:Int):Rep w pr g (.iface t (.agg #[.int .i64 x,.int .i64 y])) (.iface t (.agg [i64 x,i64 y])):=by
 refine .iface _ _ _ _ (.agg _ _ _ rfl (fun i z h=>?_) (fun i z h=>?_))
 ·match i,h with
  |0,h=>cases h;rfl
  |1,h=>cases h;rfl
 match i,h with
 |0,h=>cases h;exact .int _ _ _
 |1,h=>cases h;exact .int _ _ _
theorem AeG{rs:AoH}{a0 a1 a2 a3 a4:AV}:An1 (B rs) 46 (Lg 3) [.box [a0,a1,a2] false,.box [a3] false,.box [a4] false] .returning .returning [.box [a0,a1,a2] false,.box [a3] false,.box [a4] false,.box [i64 0,i64 0] false]:=by
 intro F w g vs hm ha;have hE:=(ok (rs:=rs)).env F;have hbty:((B rs).env F).bty=none:=rfl;obtain⟨vs⟩:=vs
 match vs,ha with
 | [p_,q_,s_],⟨hp,hq,hs,_⟩=>
  refine callsD_of_wpS Tryz.func46 rfl fun c₀ cs hu=>?_
  refine wpS_seq (wpS_region ?_);show wpOpsS (B rs).P _ _ [0,1,2,3,4,5,6,7] _ _ _;refine AbY _ ⟨#[p_,q_,s_,undef,undef,undef,.nilIface,undef,undef,undef,undef,undef,undef,undef,undef,undef],[]⟩ rfl rfl rfl hu rfl ?_
  have hr:Rel ((B rs).env F) w g ⟨Al 16 [(6,.val .nilIface),(0,.ref 0 0),(1,.ref 1 0),(2,.ref 2 0)],[.box [a0,a1,a2] false,.box [a3] false,.box [a4] false]⟩ ⟨#[p_,q_,s_,undef,undef,undef,.nilIface,undef,undef,undef,undef,undef,undef,undef,undef,undef],[]⟩:=by
   refine⟨rfl,RB ?_,hm,.plain rfl⟩;intro p h;simp only[Apq,List.not_mem_nil,or_false]at h;rcases h with rfl|rfl|rfl|rfl
   ·exact .val _ _ rfl
   ·exact hp
   ·exact hq
   exact hs
  refine DH (P:=(B rs).P) hE (Xt _ _) _ (by rfl) (by rfl) hr (x:=.tup [.agg [i64 0,i64 0],.bool false]) (O':=[.box [a0,a1,a2] false,.box [a3] false,.box [a4] false]) (by simp only[go_sem,MJ,Ahg,YV]) fun a1_ w1 g1 r1 e1 l1=>?_
  refine DH (P:=(B rs).P) hE (Xt _ _) _ (by rfl) (by rfl) r1 (x:=.tup [.agg [i64 0,i64 0],.bool false]) (O':=[.box [a0,a1,a2] false,.box [a3] false,.box [a4] false]) (by simp only[go_sem]) fun a2_ w2 g2 r2 e2 l2=>?_
  refine DH (P:=(B rs).P) hE (Xt _ _) _ (by rfl) (by rfl) r2 (x:=.agg [i64 0,i64 0]) (O':=[.box [a0,a1,a2] false,.box [a3] false,.box [a4] false]) (by simp only[go_sem]) fun a3_ w3 g3 r3 e3 l3=>?_
  refine DH (P:=(B rs).P) hE (Xt _ _) _ (by rfl) (by rfl) r3 (x:=.bool false) (O':=[.box [a0,a1,a2] false,.box [a3] false,.box [a4] false]) (by simp only[go_sem]) fun a4_ w4 g4 r4 e4 l4=>?_
  refine DH (P:=(B rs).P) hE (Xt _ _) _ (by rfl) (by rfl) r4 (x:=.ref 3 0) (O':=[.box [a0,a1,a2] false,.box [a3] false,.box [a4] false,.box [i64 0,i64 0] false]) (by simp only[go_sem,hbty,reduceCtorEq,ApY]) fun a5_ w5 g5 r5 e5 l5=>?_
  refine DH (P:=(B rs).P) hE (Xt _ _) _ (by rfl) (by rfl) r5 (x:=.junk) (O':=[.box [a0,a1,a2] false,.box [a3] false,.box [a4] false,.box [i64 0,i64 0] false]) (by simp only[go_sem]) fun a6_ w6 g6 r6 e6 l6=>?_
  refine DH (P:=(B rs).P) hE (Xt _ _) _ (by rfl) (by rfl) r6 (x:=.bool false) (O':=[.box [a0,a1,a2] false,.box [a3] false,.box [a4] false,.box [i64 0,i64 0] false]) (by simp only[go_sem]) fun a7_ w7 g7 r7 e7 l7=>?_
  refine Xl ?_;refine QM (n:=3) (fr':=Al 16 []) rfl (((((((e1.of_gle l1).trans (e2.of_gle l2)).trans (e3.of_gle l3)).trans (e4.of_gle l4)).trans (e5.of_gle l5)).trans (e6.of_gle l6)).trans (e7.of_gle l7)) r7 ?_;refine AJ hE [10] (fr':=[(10,.bool false)]) (O':=[.box [a0,a1,a2] false,.box [a3] false,.box [a4] false,.box [i64 0,i64 0] false]) ⟨_,Ac,by simp only[go_sem]⟩ ?_;exact IL (b:=false) rfl (by decide) (fun hb=>by cases hb) (fun _=>RM Abh)
theorem Jy{rs:AoH}{a0 a1 a2 a3 a4:AV}{x_ y_:Int}:An1 (B rs) 46 (Lg 3) [.box [a0,a1,a2] false,.box [a3] false,.box [a4] false] (.panicking (U5 (.iface 104 (.agg #[.int .i64 x_,.int .i64 y_])))) (.panicking [{ v:=(.iface 104 (.agg #[.int .i64 x_,.int .i64 y_])),recovered:=true }]) [.box [.str [],i64 0,.sl true []] false,.box [i64 x_] false,.box [i64 y_] false,.box [i64 x_,i64 y_] false]:=by
 intro F w g vs hm ha;have hE:=(ok (rs:=rs)).env F;have hbty:((B rs).env F).bty=none:=rfl;obtain⟨vs⟩:=vs
 match vs,ha with
 | [p_,q_,s_],⟨hp,hq,hs,_⟩=>
  refine callsD_of_wpS Tryz.func46 rfl fun c₀ cs hu=>?_
  refine wpS_seq (wpS_region ?_);show wpOpsS (B rs).P _ _ [0,1,2,3,4,5,6,7] _ _ _;refine Wi _ (.iface 104 (.agg #[.int .i64 x_,.int .i64 y_])) [] ⟨#[p_,q_,s_,undef,undef,undef,(.iface 104 (.agg #[.int .i64 x_,.int .i64 y_])),undef,undef,undef,undef,undef,undef,undef,undef,undef],[]⟩ rfl rfl rfl hu rfl ?_
  have hr:Rel ((B rs).env F) w g ⟨Al 16 [(6,.iface 104 (.agg [i64 x_,i64 y_])),(0,.ref 0 0),(1,.ref 1 0),(2,.ref 2 0)],[.box [a0,a1,a2] false,.box [a3] false,.box [a4] false]⟩ ⟨#[p_,q_,s_,undef,undef,undef,(.iface 104 (.agg #[.int .i64 x_,.int .i64 y_])),undef,undef,undef,undef,undef,undef,undef,undef,undef],[]⟩:=by
   refine⟨rfl,RB ?_,hm,.plain rfl⟩;intro p h;simp only[Apq,List.not_mem_nil,or_false]at h;rcases h with rfl|rfl|rfl|rfl
   ·exact Akn _ _ _
   ·exact hp
   ·exact hq
   exact hs
  refine DH (P:=(B rs).P) hE (Xt _ _) _ (by rfl) (by rfl) hr (x:=.tup [.agg [i64 x_,i64 y_],.bool true]) (O':=[.box [a0,a1,a2] false,.box [a3] false,.box [a4] false]) (by simp only[go_sem,MJ,Ahg,YV]) fun a1_ w1 g1 r1 e1 l1=>?_
  refine DH (P:=(B rs).P) hE (Xt _ _) _ (by rfl) (by rfl) r1 (x:=.tup [.agg [i64 x_,i64 y_],.bool true]) (O':=[.box [a0,a1,a2] false,.box [a3] false,.box [a4] false]) (by simp only[go_sem]) fun a2_ w2 g2 r2 e2 l2=>?_
  refine DH (P:=(B rs).P) hE (Xt _ _) _ (by rfl) (by rfl) r2 (x:=.agg [i64 x_,i64 y_]) (O':=[.box [a0,a1,a2] false,.box [a3] false,.box [a4] false]) (by simp only[go_sem]) fun a3_ w3 g3 r3 e3 l3=>?_
  refine DH (P:=(B rs).P) hE (Xt _ _) _ (by rfl) (by rfl) r3 (x:=.bool true) (O':=[.box [a0,a1,a2] false,.box [a3] false,.box [a4] false]) (by simp only[go_sem]) fun a4_ w4 g4 r4 e4 l4=>?_
  refine DH (P:=(B rs).P) hE (Xt _ _) _ (by rfl) (by rfl) r4 (x:=.ref 3 0) (O':=[.box [a0,a1,a2] false,.box [a3] false,.box [a4] false,.box [i64 0,i64 0] false]) (by simp only[go_sem,hbty,reduceCtorEq,ApY]) fun a5_ w5 g5 r5 e5 l5=>?_
  refine DH (P:=(B rs).P) hE (Xt _ _) _ (by rfl) (by rfl) r5 (x:=.junk) (O':=[.box [a0,a1,a2] false,.box [a3] false,.box [a4] false,.box [i64 x_,i64 y_] false]) (by simp only[go_sem]) fun a6_ w6 g6 r6 e6 l6=>?_
  refine DH (P:=(B rs).P) hE (Xt _ _) _ (by rfl) (by rfl) r6 (x:=.bool true) (O':=[.box [a0,a1,a2] false,.box [a3] false,.box [a4] false,.box [i64 x_,i64 y_] false]) (by simp only[go_sem]) fun a7_ w7 g7 r7 e7 l7=>?_
  refine Xl ?_;refine QM (n:=3) (fr':=Al 16 []) rfl (((((((e1.of_gle l1).trans (e2.of_gle l2)).trans (e3.of_gle l3)).trans (e4.of_gle l4)).trans (e5.of_gle l5)).trans (e6.of_gle l6)).trans (e7.of_gle l7)) r7 ?_;refine AJ hE [0,1,2,3,10] (fr':=[(0,.ref 0 0),(1,.ref 1 0),(2,.ref 2 0),(3,.ref 3 0),(10,.bool true)]) (O':=[.box [a0,a1,a2] false,.box [a3] false,.box [a4] false,.box [i64 x_,i64 y_] false]) ⟨_,Ac,by simp only[go_sem]⟩ ?_;refine IL (b:=true) rfl (by decide) (fun _=>?_) (fun hb=>by cases hb);refine KK hE H8 [[],[],[1],[],[3],[0],[0,1,2,5],[0,1,2,3,4,5,6]] (by kernel_rfl) [(0,0),(1,1),(2,2),(3,3),(12,3),(14,3)] [] [0,1,2,3,12,14] (by kernel_rfl) AgD (fr':=[(0,.ref 0 0),(1,.ref 1 0),(2,.ref 2 0),(3,.ref 3 0),(12,.ref 3 0),(14,.ref 3 1)]) (O':=[.box [.str [],i64 0,.sl true []] false,.box [i64 x_] false,.box [i64 y_] false,.box [i64 x_,i64 y_] false]) ⟨rfl,rfl,rfl,rfl,rfl,rfl,trivial⟩ ⟨_,_,Ac,(by simp only[XOk]),by simp only[go_sem]⟩ Abh
variable {rs:AoH}
theorem D0{c:AoP}{r:(List UInt8×AoP)⊕(Int×Int×AoP)}(h:CN c=some r):PCon (B rs) 48 [.ref 0 0] [.box [.sl false (L Aa c.l),i64 c.end_] false] (JJ r):=by
 refine BJ (N:=31) (rs:=[.tmp 2]) 1 rfl ok Tryz.func48 rfl (by decide +kernel) rfl rfl (Apj rfl) (fun F=>?_);have hE:=(ok (rs:=rs)).env F;unfold CN at h;show Run ((B rs).env F) 1 _ ⟨Al 31 [(0,.ref 0 0)],[.box [.sl false (L Aa c.l),i64 c.end_] false]⟩ _;refine BR ?_;revert h;refine T0 [0] ?_;refine Bd fun a g =>Te [0,3,4] (Ag (l:=[]) (m:=[(7,85,[.ref 0 0,i64 1],[.box [.sl false (L Aa c.l),i64 c.end_] false],_,_)]) trivial ⟨(wc (Dv g) [0]),trivial⟩) Ev ?_
 refine Jo (fun(v:List AoI×Int)=>(⟨Al 31 [(0,.ref 0 0),(3,.ref 1 0)],[.box [.sl false (L Aa v.1),i64 v.2] false,.box [i64 a.1.Za,.str a.1.Zb,i64 a.1.N,i64 a.1.At] false]⟩:St)) ?_ ?_
 ·intro s i;refine T0 [0,3,11] ?_;refine Cd ?_ ?_
  ·intro h;replace h:=An h;obtain⟨j,d,h⟩:=h;rcases j with e|b
   rotate_left
   ·dsimp only at h;refine DI hE [] 1 _ (v:=.iface 104 (.agg #[.int .i64 b.1,.int .i64 b.2.1])) (σ2:=[.box [.sl false (L Aa b.2.2.l),i64 b.2.2.end_] false,.box [i64 a.1.Za,.str a.1.Zb,i64 a.1.N,i64 a.1.At] false]) (vals:=[]) rfl rfl ⟨_,[(13,53,[.ref 0 0],[.box [.sl false (L Aa a.2.2.l),i64 a.2.2.end_] false,.box [i64 a.1.Za,.str a.1.Zb,i64 a.1.N,i64 a.1.At] false],.val (.iface 104 (.agg #[.int .i64 b.1,.int .i64 b.2.1])),[.box [.sl false (L Aa b.2.2.l),i64 b.2.2.end_] false,.box [i64 a.1.Za,.str a.1.Zb,i64 a.1.N,i64 a.1.At] false])],Ac,⟨fun v hv=>by cases hv;exact A5 (PCon.pan (AA d) rfl) [0] (by decide) gs gs gs gs,trivial⟩,?_⟩ (fun fr_ hlen_ hfr_=>?_)
    ·simp only[go_sem]
    refine Hm ?_;replace h:=An h;obtain⟨t,h,e_z_1878⟩:=h;obtain rfl:=Ao1 e_z_1878;obtain rfl:=Ao1 i;obtain rfl:=Ao1 h;refine AG (Weak.refl _ _) ?_;refine AR rfl [0] (by decide) rfl ?_;simp only[go_sem]
   dsimp only at h;refine D5 hE G8 [0,3] (fr':=[(0,.ref 0 0),(3,.ref 1 0)]) (O':=[.box [.sl false (L Aa e.l),i64 e.end_] false,.box [i64 a.1.Za,.str a.1.Zb,i64 a.1.N,i64 a.1.At] false]) ⟨_,(Ag (l:=[]) (m:=[(13,53,[.ref 0 0],[.box [.sl false (L Aa a.2.2.l),i64 a.2.2.end_] false,.box [i64 a.1.Za,.str a.1.Zb,i64 a.1.N,i64 a.1.At] false],_,_)]) trivial ⟨(wc (PCon.to (AA d) rfl) [0]),trivial⟩),?_⟩ ?_
   ·simp only[go_sem]
   revert h;exact Jn (ws [0,1])
  exact Sk <|Jn (ws [0,1])
 rintro⟨k,f⟩;refine Sq <|Bd fun u n =>Te [0,3,16] (o1 16 (Fb n)) Ev ?_
 refine Cd ?_ ?_
 ·intro h;refine DI hE [] 4 _ (v:=.iface 104 (.agg #[.int .i64 a.1.At,.int .i64 161])) (σ2:=[.box [.sl false (L Aa k),i64 f] false,.box [i64 a.1.Za,.str a.1.Zb,i64 a.1.N,i64 a.1.At] false]) (vals:=[]) rfl rfl ⟨_,[],Ac,trivial,?_⟩ (fun fr_ hlen_ hfr_=>?_)
  ·simp only[go_sem]
  refine Em ?_;obtain rfl:=Ao1 h;refine AG (Weak.refl _ _) ?_;refine AR rfl [0] (by decide) rfl ?_;simp only[go_sem]
 refine Sk <|Tn <|Ck fun o =>Lt fun p q =>Te (O':=[.box [.sl false (L Aa p),i64 f] false,_]) [3] Ac (Ew2 o q) ?_
 refine T0 [2] ?_;refine Sr ?_;intro h;obtain rfl:=Ao1 h;refine AG (Weak.refl _ _) ?_;refine EE rfl (Ha (.inr rfl) ?_ rfl ?_)
 ·simp only[go_sem]
 show Im [0] _ [0] _;simp only[go_sem]
theorem KS{a b r}(h:D6 a b=some r):Con (B rs) 134 [.sl false (L AU a),.str b] [] (fun r' O'=>r'=i64 r/\O'=[]):=by
 refine Cw 19 [.tmp 4] Tryz.func134 (fun F hE=>?_) h;unfold D6;refine T0 [0,1] ?_;refine Jo (fun _=>⟨Al 19 [],[]⟩) ?_ ?_
 ·intro j f;refine T0 [0,1,7,8] ?_;refine Sb ?_;refine Lo (fun c=>⟨Al 19 [(0,.sl false (L AU a)),(1,.str b),(7,i64 (a.length:Int)),(8,i64 c)],[]⟩) (ws []) ?_;rintro c k g d e;show Ep a b c=some g->_;unfold Ep;refine T0 [0,1,7,8,9] ?_;refine Sq <|Cd ?_ ?_
  ·refine Sk <|Tn <|Sq <|Sb <|T0 [0,1,5,7,8] ?_
   refine Ck fun i =>Te [0,1,5,7,8,16] Ac (Ew1 (qR i)) ?_
   refine Cd ?_ ?_
   ·refine T0 [4] ?_;exact Sr <|Br <|Tr <|Lr e d <|Br <|Jr f <|Rr
   refine Sk <|Bn <|Tn <|F0 [0,1,7,8] ?_
   exact Ln (ws [])
  refine Sx <|Tx <|Lx e d <|Bx <|?_
  exact Jn ((ws (l':=[]) (O':=[]) []).trans (ws []))
 intro _;refine T0 [4] ?_;exact Sr <|Rr
theorem CM{a r}(h:Bi a=some r):Con (B rs) 26 [.str a] [] (fun r' O'=>r'=.sl false (L AU r)/\O'=[]):=by
 refine Cw 106 [.tmp 2] Tryz.func26 (fun F hE=>?_) h;unfold Bi;refine T0 [0] ?_;refine T0 [0,3] ?_;refine T0 [0,3,4] ?_;refine T0 [0,3,4,5] ?_;refine Ja (fun(v:Int×UInt8)=>(⟨Al 106 [(0,.str a),(3,i64 v.1),(5,u8 v.2)],[]⟩:St)) ?_ ?_
 ·intro aO;refine T0 [0,3,4,5,6] ?_;refine Sb ?_;refine Lo (fun⟨i,n,j,o⟩=>⟨Al 106 [(0,.str a),(3,i64 i),(4,i64 n),(5,u8 j),(6,i64 o)],[]⟩) (ws []) ?_;rintro⟨i,n,j,o⟩ aP ab ac ad;show G7 a i n j o=some ab->_;unfold G7;refine Sq <|T0 [0,3,4,5,6,16] ?_
  refine Cd ?_ ?_
  ·refine Sk <|Tn <|Sq <|Sb <|Ck fun ae =>Te [0,3,4,5,6,7] Ac (Ew1 (qR ae)) ?_
   refine Lt fun af ag =>Te (fr':=[(0,_),(3,_),(4,_),(5,u8 af),(6,_),(7,_)]) [0,3,4,5,6,7] Ac (Ew1 ag) ?_
   refine Ck fun ah =>Lt fun ai aj =>Te (fr':=[(0,_),(3,_),(4,_),(5,_),(6,_),(8,i64 ai)]) [0,3,4,5,6,8] Ac (Ew2 (qN ah) aj) ?_
   refine Lt fun ak al =>Te (fr':=[(0,_),(3,i64 ak),(5,_),(6,_),(8,_)]) [0,3,5,6,8] Ac (Ew1 al) ?_
   refine F0 [0,3,4,5,6] ?_;refine Bn <|Tn <|F0 [0,3,4,5,6] ?_
   exact Ln (ws [])
  refine Sx <|Tx <|Ly ad ac <|Bx <|?_
  exact Jm ((ws (l':=[(0,.str a),(3,i64 i),(5,u8 j)]) (O':=[]) []).trans (ws []))
 rintro⟨aQ,aR⟩;refine Sq <|T0 [0,3,37] ?_
 refine Cd ?_ ?_
 ·exact Rn
 refine Sk <|Tn <|Ck fun am =>Lt fun b an =>Te (fr':=[(0,_),(9,.bs true 0 (b.length) 0 (b.length))]) (O':=[.buf 1 (L AU b) false]) [0,9] Ac (Ew2 am an) ?_
 refine T0 [0,9,10] ?_;refine T0 [0,9,10] ?_;refine T0 [0,9,10,12] ?_;refine Ja (fun u=>⟨Al 106 [(0,.str a),(9,.bs true 0 (b.length) 0 (b.length)),(10,i64 0),(12,i64 u)],[.buf 1 (L AU b) false]⟩) ?_ ?_
 ·intro aS;refine Sb ?_;refine Lo (fun f=>⟨Al 106 [(0,.str a),(9,.bs true 0 (b.length) 0 (b.length)),(10,i64 0),(12,i64 f)],[.buf 1 (L AU b) false]⟩) (ws [0]) ?_;rintro f aT ao ap aq;show GL a f=some ao->_;unfold GL;refine Sq ?_;refine Tw [0,9,10,12,53] (fun w=>⟨Al 106 [(0,.str a),(9,.bs true 0 (b.length) 0 (b.length)),(10,i64 0),(12,i64 f),(53,.bool w)],[.buf 1 (L AU b) false]⟩) ?_ ?_
  ·intro _;refine Sp (fun p=>?_) fun p=>?_
   ·refine Ck fun ar =>Ck fun au =>?_
    exact Lf Ac (Ew3 p (qR ar) (qN au)) (ws [0])
   exact Lf Ac (Ew1 p) (ws [0])
  intro w;refine Cd ?_ ?_
  ·refine Sk <|Tn <|Sb <|F0 [0,9,10,12] ?_
   exact Bn <|Ln (ws [0])
  refine Sx <|Tx <|Ly aq ap <|Bx <|?_
  exact Jm ((ws (l':=[(0,.str a),(9,.bs true 0 (b.length) 0 (b.length)),(10,i64 0),(12,i64 f)]) (O':=[.buf 1 (L AU b) false]) [0]).trans (ws [0]))
 intro u;refine T0 [0,9,10,11,12] ?_;refine Ja (fun⟨x,y,k⟩=>⟨Al 106 [(0,.str a),(9,.bs true 0 (k.length) 0 (k.length)),(10,i64 x),(11,i64 y)],[.buf 1 (L AU k) false]⟩) ?_ ?_
 ·intro aU;refine Sb ?_;refine Lo (fun⟨d,l,q,e⟩=>⟨Al 106 [(0,.str a),(9,.bs true 0 (e.length) 0 (e.length)),(10,i64 d),(11,i64 l),(12,i64 q)],[.buf 1 (L AU e) false]⟩) (ws [0]) ?_;rintro⟨d,l,q,e⟩ aV av aw ax;show GE a d l q e=some av->_;unfold GE;refine Sq <|T0 [0,9,10,11,12,60] ?_
  refine Cd ?_ ?_
  ·refine Sk <|Tn <|Sb <|Sq <|Ck fun ay =>Ck fun az =>Lt fun aA aB =>Te (fr':=[(0,_),(9,_),(10,_),(11,_),(12,_),(66,.bool aA)]) [0,9,10,11,12,66] Ac (Ew3 (qR ay) (qN az) aB) ?_
   refine Cd ?_ ?_
   ·refine T0 [0,9,10,11,12] ?_;exact Sx <|Tx <|Bx <|Ln (ws [0])
   refine Sk <|Tn <|Ck fun aC =>Ck fun aD =>Ck fun aE =>Lt fun c aF =>Te (fr':=[(0,_),(9,.bs true 0 (c.length) 0 (c.length)),(10,_),(12,_)]) (O':=[.buf 1 (L AU c) false]) [0,9,10,12] Ac (Ew4 aC aD (qR aE) aF) ?_
   refine T0 [0,9,10,12] ?_;refine T0 [0,9,10,12] ?_;refine Ja (fun z=>⟨Al 106 [(0,.str a),(9,.bs true 0 (c.length) 0 (c.length)),(10,i64 (w64 (d+1))),(12,i64 z)],[.buf 1 (L AU c) false]⟩) ?_ ?_
   ·intro aW;refine Sb ?_;refine Lo (fun g=>⟨Al 106 [(0,.str a),(9,.bs true 0 (c.length) 0 (c.length)),(10,i64 (w64 (d+1))),(12,i64 g)],[.buf 1 (L AU c) false]⟩) (ws [0]) ?_;rintro g aX aG aH aI;show GD a g=some aG->_;unfold GD;refine Sq ?_;refine Tw [0,9,10,12,91] (fun aa=>⟨Al 106 [(0,.str a),(9,.bs true 0 (c.length) 0 (c.length)),(10,i64 (w64 (d+1))),(12,i64 g),(91,.bool aa)],[.buf 1 (L AU c) false]⟩) ?_ ?_
    ·intro _;refine Sp (fun s=>?_) fun s=>?_
     ·refine Ck fun aJ =>Ck fun aK =>?_
      exact Lf Ac (Ew3 s (qR aJ) (qN aK)) (ws [0])
     exact Lf Ac (Ew1 s) (ws [0])
    intro aa;refine Cd ?_ ?_
    ·refine Sk <|Tn <|Sb <|F0 [0,9,10,12] ?_
     exact Bn <|Ln (ws [0])
    refine Sx <|Tx <|Ly aI aH <|Bx <|?_
    exact Jm ((ws (l':=[(0,.str a),(9,.bs true 0 (c.length) 0 (c.length)),(10,i64 (w64 (d+1))),(12,i64 g)]) (O':=[.buf 1 (L AU c) false]) [0]).trans (ws [0]))
   intro z;refine F0 [0,9,10,11,12] ?_;exact Bn <|Ln (ws [0])
  refine Sx <|Tx <|Ly ax aw <|Bx <|?_
  exact Jm ((ws (l':=[(0,.str a),(9,.bs true 0 (e.length) 0 (e.length)),(10,i64 d),(11,i64 l)]) (O':=[.buf 1 (L AU e) false]) [0]).trans (ws [0]))
 rintro⟨x,y,k⟩;refine Ja (fun m=>⟨Al 106 [(9,.bs true 0 (m.length) 0 (m.length))],[.buf 1 (L AU m) false]⟩) ?_ ?_
 ·intro aY;refine T0 [0,9,10,11,98] ?_;refine Cd ?_ ?_
  ·refine Ck fun aL =>Ck fun aM =>Lt fun t aN =>Fe (fr':=[(9,.bs true 0 (t.length) 0 (t.length))]) (O':=[.buf 1 (L AU t) false]) [9] Ac (Ew3 aL (qR aM) aN) ?_
   exact Jm (ws [0])
  exact Sk <|Jm (ws [0])
 intro m;refine T0 [2] ?_;exact Sr <|Rr
theorem DW{a d r}(h:BF a d=some r):Con (B rs) 86 [.ref 0 0,.str d] [.box [.sl false (L Aa a.l),i64 a.end_] false] (fun r' O'=>r'=.tup [i64 r.1,.bool r.2.1]/\O'=[.box [.sl false (L Aa r.2.2.l),i64 r.2.2.end_] false]):=by
 refine Co 1 34 [.tmp 4,.tmp 5] Tryz.func86 (fun F hE=>?_) h;unfold BF;refine T0 [0,1] ?_;refine Bd fun b f =>Te [0,1,6,7] (Ag (l:=[]) (m:=[(11,85,[.ref 0 0,i64 1],[.box [.sl false (L Aa a.l),i64 a.end_] false],_,_)]) trivial ⟨(wc (Dv f) [0]),trivial⟩) Ev ?_
 refine Bd fun p g =>Bd fun i j =>De [[],[0],[],[2],[0,1,2,3],[0,1,2,3,4]] [0,7,8] (o2 15 (CM g) 18 (KS j)) Ev ?_
 refine Sq ?_;refine Tw [0,8,24] (fun e=>⟨Al 34 [(0,.ref 0 0),(8,i64 i),(24,.bool e)],[.box [.sl false (L Aa b.2.2.l),i64 b.2.2.end_] false]⟩) ?_ ?_
 ·intro _;refine Sp (fun c=>?_) fun c=>?_
  ·exact Lf Ac (Ew1 c) (ws [0])
  exact Lf Ac (Ew1 c) (ws [0])
 intro e;refine Cd ?_ ?_
 ·refine T0 [4,5] ?_;exact Sr <|Tr <|Ro [0]
 refine Sk <|Tn <|Ck fun k =>Lt fun n o =>Te (O':=[.box [.sl false (L Aa n),i64 b.2.2.end_] false]) [8] Ac (Ew2 k o) ?_
 refine T0 [4,5] ?_;exact Sr <|Ro [0]
theorem Bf{b:AoP}{d:List UInt8}{r:(Int×AoP)⊕(Int×Int×AoP)}(h:BG b d=some r):PCon (B rs) 49 [.ref 0 0,.str d] [.box [.sl false (L Aa b.l),i64 b.end_] false] (JI r):=by
 refine BJ (N:=18) (rs:=[.tmp 4]) 1 rfl ok Tryz.func49 rfl (by decide +kernel) rfl rfl (Apj rfl) (fun F=>?_);have hE:=(ok (rs:=rs)).env F;unfold BG at h;show Run ((B rs).env F) 1 _ ⟨Al 18 [(0,.ref 0 0),(1,.str d)],[.box [.sl false (L Aa b.l),i64 b.end_] false]⟩ _;refine BR ?_;revert h;refine T0 [0,1] ?_;refine Bd fun c g =>Te [0,5,6] (Ag (l:=[]) (m:=[(10,86,[.ref 0 0,.str d],[.box [.sl false (L Aa b.l),i64 b.end_] false],_,_)]) trivial ⟨(wc (DW g) [0]),trivial⟩) Ev ?_
 refine Jo (fun(v:List AoI×Int)=>(⟨Al 18 [(5,i64 c.1)],[.box [.sl false (L Aa v.1),i64 v.2] false]⟩:St)) ?_ ?_
 ·intro k i;refine T0 [0,5,14] ?_;refine Cd ?_ ?_
  ·intro h;replace h:=An h;obtain⟨j,e,h⟩:=h;rcases j with f|a
   rotate_left
   ·dsimp only at h;refine DI hE [] 1 _ (v:=.iface 104 (.agg #[.int .i64 a.1,.int .i64 a.2.1])) (σ2:=[.box [.sl false (L Aa a.2.2.l),i64 a.2.2.end_] false]) (vals:=[]) rfl rfl ⟨_,[(16,53,[.ref 0 0],[.box [.sl false (L Aa c.2.2.l),i64 c.2.2.end_] false],.val (.iface 104 (.agg #[.int .i64 a.1,.int .i64 a.2.1])),[.box [.sl false (L Aa a.2.2.l),i64 a.2.2.end_] false])],Ac,⟨fun v hv=>by cases hv;exact A5 (PCon.pan (AA e) rfl) [0] (by decide) gs gs gs gs,trivial⟩,?_⟩ (fun fr_ hlen_ hfr_=>?_)
    ·simp only[go_sem]
    refine Hm ?_;replace h:=An h;obtain⟨n,h,e_z_2498⟩:=h;obtain rfl:=Ao1 e_z_2498;obtain rfl:=Ao1 i;obtain rfl:=Ao1 h;refine AG (Weak.refl _ _) ?_;refine AR rfl [0] (by decide) rfl ?_;simp only[go_sem]
   dsimp only at h;refine D5 hE G8 [5] (fr':=[(5,i64 c.1)]) (O':=[.box [.sl false (L Aa f.l),i64 f.end_] false]) ⟨_,(Ag (l:=[]) (m:=[(16,53,[.ref 0 0],[.box [.sl false (L Aa c.2.2.l),i64 c.2.2.end_] false],_,_)]) trivial ⟨(wc (PCon.to (AA e) rfl) [0]),trivial⟩),?_⟩ ?_
   ·simp only[go_sem]
   revert h;exact Jn (ws [0])
  exact Sk <|Jn (ws [0])
 rintro⟨o,p⟩;refine T0 [4] ?_;refine Sr ?_;intro h;obtain rfl:=Ao1 h;refine AG (Weak.refl _ _) ?_;refine EE rfl (Ha (.inr rfl) ?_ rfl ?_)
 ·simp only[go_sem]
 show Im [0] _ [0] _;simp only[go_sem]
variable {rs:AoH}
theorem G1{b:AoP}{r:(Arr Int 4×AoP)⊕(Int×Int×AoP)}(h:DB b=some r):PCon (B rs) 168 [.ref 0 0] [.box [.sl false (L Aa b.l),i64 b.end_] false] (JK r):=by
 refine BJ (N:=25) (rs:=[.cell 2 42]) 1 rfl ok Tryz.func168 rfl (by decide +kernel) rfl rfl (Apj rfl) (fun F=>?_);have hE:=(ok (rs:=rs)).env F;unfold DB at h;show Run ((B rs).env F) 1 _ ⟨Al 25 [(0,.ref 0 0)],[.box [.sl false (L Aa b.l),i64 b.end_] false]⟩ _;refine BR ?_;revert h;refine T0 [0,2] ?_;refine Ja (fun⟨g,i,c⟩=>⟨Al 25 [(0,.ref 0 0),(2,.ref 1 0)],[.box [.sl false (L Aa g),i64 i] false,.box (C1 i64 c.l) false]⟩) ?_ ?_
 ·intro ac;refine Bd fun ad q =>Te [0,2,3,4] (Ag (l:=[]) (m:=[(7,86,[.ref 0 0,.str ([109,111,110,101,121,32,109,105,110,117,116,101,32,107,109,32,107,103]:List UInt8)],[.box [.sl false (L Aa b.l),i64 b.end_] false,.box (C1 i64 (Arr.rep 4 0).l) false],_,_)]) trivial ⟨(wc (DW q) [0]),trivial⟩) Ev ?_
  refine T0 [0,2,3,10] ?_;refine Cd ?_ ?_
  ·refine Ck fun s =>Ck fun t =>Lt fun u w =>Fe (O':=[_,.box (C1 i64 u.l) false]) [0,2] Ac (Ew3 (qR s) (qR t) w) ?_
   exact Jm (ws [0,1])
  exact Sk <|Jm (ws [0,1])
 rintro⟨g,i,c⟩;refine Jo (fun⟨j,k,n⟩=>⟨Al 25 [(2,.ref 1 0)],[.box [.sl false (L Aa j),i64 k] false,.box (C1 i64 n.l) false]⟩) ?_ ?_
 ·intro ae x;refine Bd fun f y =>Te [0,2,17] (Ag (l:=[]) (m:=[(17,51,[.ref 0 0,.str ([112,101,114]:List UInt8)],[.box [.sl false (L Aa g),i64 i] false,.box (C1 i64 c.l) false],_,_)]) trivial ⟨(wc (A4 y) [0]),trivial⟩) Ev ?_
  refine Cd ?_ ?_
  ·intro h;replace h:=An h;obtain⟨z,o,h⟩:=h;rcases z with p|a
   rotate_left
   ·dsimp only at h;refine DI hE [] 1 _ (v:=.iface 104 (.agg #[.int .i64 a.1,.int .i64 a.2.1])) (σ2:=[.box [.sl false (L Aa a.2.2.l),i64 a.2.2.end_] false,.box (C1 i64 c.l) false]) (vals:=[]) rfl rfl ⟨_,[(19,49,[.ref 0 0,.str ([109,111,110,101,121,32,109,105,110,117,116,101,32,107,109,32,107,103]:List UInt8)],[.box [.sl false (L Aa f.2.l),i64 f.2.end_] false,.box (C1 i64 c.l) false],.val (.iface 104 (.agg #[.int .i64 a.1,.int .i64 a.2.1])),[.box [.sl false (L Aa a.2.2.l),i64 a.2.2.end_] false,.box (C1 i64 c.l) false])],Ac,⟨fun v hv=>by cases hv;exact A5 (PCon.pan (Bf o) rfl) [0] (by decide) gs gs gs gs,trivial⟩,?_⟩ (fun fr_ hlen_ hfr_=>?_)
    ·simp only[go_sem]
    refine Hm ?_;replace h:=An h;obtain⟨af,h,e_z_2541⟩:=h;obtain rfl:=Ao1 e_z_2541;obtain rfl:=Ao1 x;obtain rfl:=Ao1 h;refine AG (Weak.refl _ _) ?_;refine AR rfl [0] (by decide) rfl ?_;simp only[go_sem]
   dsimp only at h;replace h:=J4 h;obtain⟨d,h⟩:=h;replace h:=J4 h;obtain⟨e,h⟩:=h;replace h:=KE h;obtain⟨aa,ab,h⟩:=h;refine D5 hE G8 [2] (fr':=[(2,.ref 1 0)]) (O':=[.box [.sl false (L Aa p.2.l),i64 p.2.end_] false,.box (C1 i64 aa.l) false]) ⟨_,(Ag (l:=[]) (m:=[(19,49,[.ref 0 0,.str ([109,111,110,101,121,32,109,105,110,117,116,101,32,107,109,32,107,103]:List UInt8)],[.box [.sl false (L Aa f.2.l),i64 f.2.end_] false,.box (C1 i64 c.l) false],_,_)]) trivial ⟨(wc (PCon.to (Bf o) rfl) [0]),trivial⟩),?_⟩ ?_
   ·subst ab;first|(simp only[go_sem,d,d.2,Aer d.2,e,e.2,Aer e.2];done)|(simp only[go_sem,d,d.2,Aer d.2,e,e.2,Aer e.2];simp only[AqI 1])
   revert h;exact Jn (ws [0,1])
  exact Sk <|Jn (ws [0,1])
 rintro⟨j,k,n⟩;refine T0 [2] ?_;refine Sr ?_;intro h;obtain rfl:=Ao1 h;refine AG (Weak.refl _ _) ?_;refine EE rfl (Ha (.inr rfl) ?_ rfl ?_)
 ·simp only[go_sem]
 show Im [0] _ [0] _;simp only[go_sem]
theorem G0{k:AoP}{q:Int}{r:(AoK×AoP)⊕(Int×Int×AoP)}(h:D7 k q=some r):PCon (B rs) 89 [.ref 0 0,i64 q] [.box [.sl false (L Aa k.l),i64 k.end_] false] (JM r):=by
 refine BJ (N:=37) (rs:=[.cell 4 69]) 1 rfl ok Tryz.func89 rfl (by decide +kernel) rfl rfl (Apj rfl) (fun F=>?_);have hE:=(ok (rs:=rs)).env F;unfold D7 at h;show Run ((B rs).env F) 1 _ ⟨Al 37 [(0,.ref 0 0),(1,i64 q)],[.box [.sl false (L Aa k.l),i64 k.end_] false]⟩ _;refine BR ?_;revert h;refine T0 [0,1,4] ?_;refine Bd fun n ab =>Te [0,1,4,5] (Ag (l:=[]) (m:=[(8,50,[.ref 0 0],[.box [.sl false (L Aa k.l),i64 k.end_] false,.box [i64 0,i64 0,i64 0] false],_,_)]) trivial ⟨(wc (BN ab) [0]),trivial⟩) Ev ?_
 intro h;replace h:=An h;obtain⟨ac,u,h⟩:=h;rcases ac with a|c
 rotate_left
 ·dsimp only at h;refine B9 hE [] 1 _ (v:=.iface 104 (.agg #[.int .i64 c.1,.int .i64 c.2.1])) (σ2:=[.box [.sl false (L Aa c.2.2.l),i64 c.2.2.end_] false,.box [i64 0,i64 0,i64 0] false]) (vals:=[]) rfl rfl ⟨_,[(10,49,[.ref 0 0,.str ([116,121,112,101,32,111,119,110,101,114,32,114,97,105,108,119,97,121,32,115,104,105,112,112,101,114,32,99,108,97,115,115,32,119,101,105,103,104,116,32,107,109,32,109,105,110,117,116,101,115,32,119,111,114,107,105,110,103,32,99,111,100,101,32,119,111,114,116,104,32,99,111,115,116,32,109,111,110,116,104,32,98,101,103,105,110,32,112,97,114,116,115,32,112,97,114,116]:List UInt8)],[.box [.sl false (L Aa n.2.l),i64 n.2.end_] false,.box [i64 0,i64 0,i64 0] false],.val (.iface 104 (.agg #[.int .i64 c.1,.int .i64 c.2.1])),[.box [.sl false (L Aa c.2.2.l),i64 c.2.2.end_] false,.box [i64 0,i64 0,i64 0] false])],Ac,⟨fun v hv=>by cases hv;exact A5 (PCon.pan (Bf u) rfl) [0] (by decide) gs gs gs gs,trivial⟩,?_⟩ (fun fr_ hlen_ hfr_=>?_)
  ·simp only[go_sem]
  obtain rfl:=Ao1 h;refine AG (Weak.refl _ _) ?_;refine AR rfl [0] (by decide) rfl ?_;simp only[go_sem]
 dsimp only at h;refine AJ hE [0,1,4,5,6] (fr':=[(0,.ref 0 0),(1,i64 q),(4,.ref 1 0),(5,i64 n.1),(6,.ref 2 0)]) (O':=[.box [.sl false (L Aa a.2.l),i64 a.2.end_] false,.box [i64 0,i64 0,i64 0] false,.box [i64 a.1,i64 0,i64 0] false]) ⟨_,(Ag (l:=[]) (m:=[(10,49,[.ref 0 0,.str ([116,121,112,101,32,111,119,110,101,114,32,114,97,105,108,119,97,121,32,115,104,105,112,112,101,114,32,99,108,97,115,115,32,119,101,105,103,104,116,32,107,109,32,109,105,110,117,116,101,115,32,119,111,114,107,105,110,103,32,99,111,100,101,32,119,111,114,116,104,32,99,111,115,116,32,109,111,110,116,104,32,98,101,103,105,110,32,112,97,114,116,115,32,112,97,114,116]:List UInt8)],[.box [.sl false (L Aa n.2.l),i64 n.2.end_] false,.box [i64 0,i64 0,i64 0] false],_,_)]) trivial ⟨(wc (PCon.to (Bf u) rfl) [0]),trivial⟩),?_⟩ ?_
 ·simp only[go_sem]
 revert h;refine Sq <|T0 [0,4,5,6,13] ?_
 refine Cd ?_ ?_
 ·intro h;refine DI hE [] 3 _ (v:=.iface 104 (.agg #[.int .i64 n.1,.int .i64 2])) (σ2:=[.box [.sl false (L Aa a.2.l),i64 a.2.end_] false,.box [i64 0,i64 0,i64 0] false,.box [i64 a.1,i64 0,i64 0] false]) (vals:=[]) rfl rfl ⟨_,[],Ac,trivial,?_⟩ (fun fr_ hlen_ hfr_=>?_)
  ·simp only[go_sem]
  refine Em ?_;obtain rfl:=Ao1 h;refine AG (Weak.refl _ _) ?_;refine AR rfl [0] (by decide) rfl ?_;simp only[go_sem]
 refine Sk <|Tn <|Sq <|Bd fun d ad =>Te [0,4,6,18] (Ag (l:=[]) (m:=[(18,51,[.ref 0 0,.str ([105,115]:List UInt8)],[.box [.sl false (L Aa a.2.l),i64 a.2.end_] false,.box [i64 0,i64 0,i64 0] false,.box [i64 a.1,i64 0,i64 0] false],_,_)]) trivial ⟨(wc (A4 ad) [0]),trivial⟩) Ev ?_
 refine Cd ?_ ?_
 ·intro h;replace h:=An h;obtain⟨ae,w,h⟩:=h;rcases ae with s|e
  rotate_left
  ·dsimp only at h;refine B9 hE [] 1 _ (v:=.iface 104 (.agg #[.int .i64 e.1,.int .i64 e.2.1])) (σ2:=[.box [.sl false (L Aa e.2.2.l),i64 e.2.2.end_] false,.box [i64 0,i64 0,i64 0] false,.box [i64 a.1,i64 0,i64 0] false]) (vals:=[]) rfl rfl ⟨_,[(20,136,[.ref 0 0],[.box [.sl false (L Aa d.2.l),i64 d.2.end_] false,.box [i64 0,i64 0,i64 0] false,.box [i64 a.1,i64 0,i64 0] false],.val (.iface 104 (.agg #[.int .i64 e.1,.int .i64 e.2.1])),[.box [.sl false (L Aa e.2.2.l),i64 e.2.2.end_] false,.box [i64 0,i64 0,i64 0] false,.box [i64 a.1,i64 0,i64 0] false])],Ac,⟨fun v hv=>by cases hv;exact A5 (PCon.pan (AL w) rfl) [0] (by decide) gs gs gs gs,trivial⟩,?_⟩ (fun fr_ hlen_ hfr_=>?_)
   ·simp only[go_sem]
   refine Em ?_;obtain rfl:=Ao1 h;refine AG (Weak.refl _ _) ?_;refine AR rfl [0] (by decide) rfl ?_;simp only[go_sem]
  dsimp only at h;refine AJ hE [4,6] (fr':=[(4,.ref 1 0),(6,.ref 2 0)]) (O':=[.box [.sl false (L Aa s.2.l),i64 s.2.end_] false,.box [i64 0,i64 0,i64 0] false,.box [i64 a.1,i64 s.1,i64 0] false]) ⟨_,(Ag (l:=[]) (m:=[(20,136,[.ref 0 0],[.box [.sl false (L Aa d.2.l),i64 d.2.end_] false,.box [i64 0,i64 0,i64 0] false,.box [i64 a.1,i64 0,i64 0] false],_,_)]) trivial ⟨(wc (PCon.to (AL w) rfl) [0]),trivial⟩),?_⟩ ?_
  ·simp only[go_sem]
  revert h;refine T0 [4,6] ?_;refine T0 [4] ?_;refine Sr <|Tr <|?_
  intro h;obtain rfl:=Ao1 h;refine AG (Weak.refl _ _) ?_;refine EE rfl (Ha (.inr rfl) ?_ rfl ?_)
  ·simp only[go_sem]
  show Im [0] _ [0] _;simp only[go_sem]
 refine Sk <|Tn <|?_
 intro h;replace h:=An h;obtain⟨af,x,h⟩:=h;rcases af with o|f
 rotate_left
 ·dsimp only at h;refine B9 hE [] 1 _ (v:=.iface 104 (.agg #[.int .i64 f.1,.int .i64 f.2.1])) (σ2:=[.box [.sl false (L Aa f.2.2.l),i64 f.2.2.end_] false,.box [i64 0,i64 0,i64 0] false,.box [i64 a.1,i64 0,i64 0] false]) (vals:=[]) rfl rfl ⟨_,[(27,47,[.ref 0 0,.str ([105,110]:List UInt8)],[.box [.sl false (L Aa d.2.l),i64 d.2.end_] false,.box [i64 0,i64 0,i64 0] false,.box [i64 a.1,i64 0,i64 0] false],.val (.iface 104 (.agg #[.int .i64 f.1,.int .i64 f.2.1])),[.box [.sl false (L Aa f.2.2.l),i64 f.2.2.end_] false,.box [i64 0,i64 0,i64 0] false,.box [i64 a.1,i64 0,i64 0] false])],Ac,⟨fun v hv=>by cases hv;exact A5 (PCon.pan (Am x) rfl) [0] (by decide) gs gs gs gs,trivial⟩,?_⟩ (fun fr_ hlen_ hfr_=>?_)
  ·simp only[go_sem]
  obtain rfl:=Ao1 h;refine AG (Weak.refl _ _) ?_;refine AR rfl [0] (by decide) rfl ?_;simp only[go_sem]
 dsimp only at h;refine AJ hE [0,4,6] (fr':=[(0,.ref 0 0),(4,.ref 1 0),(6,.ref 2 0)]) (O':=[.box [.sl false (L Aa o.l),i64 o.end_] false,.box [i64 0,i64 0,i64 0] false,.box [i64 a.1,i64 0,i64 0] false]) ⟨_,(Ag (l:=[]) (m:=[(27,47,[.ref 0 0,.str ([105,110]:List UInt8)],[.box [.sl false (L Aa d.2.l),i64 d.2.end_] false,.box [i64 0,i64 0,i64 0] false,.box [i64 a.1,i64 0,i64 0] false],_,_)]) trivial ⟨(wc (PCon.to (Am x) rfl) [0]),trivial⟩),?_⟩ ?_
 ·simp only[go_sem]
 revert h;intro h;replace h:=An h;obtain⟨ag,y,h⟩:=h;rcases ag with b|g
 rotate_left
 ·dsimp only at h;refine B9 hE [] 1 _ (v:=.iface 104 (.agg #[.int .i64 g.1,.int .i64 g.2.1])) (σ2:=[.box [.sl false (L Aa g.2.2.l),i64 g.2.2.end_] false,.box [i64 0,i64 0,i64 0] false,.box [i64 a.1,i64 0,i64 0] false]) (vals:=[]) rfl rfl ⟨_,[(29,136,[.ref 0 0],[.box [.sl false (L Aa o.l),i64 o.end_] false,.box [i64 0,i64 0,i64 0] false,.box [i64 a.1,i64 0,i64 0] false],.val (.iface 104 (.agg #[.int .i64 g.1,.int .i64 g.2.1])),[.box [.sl false (L Aa g.2.2.l),i64 g.2.2.end_] false,.box [i64 0,i64 0,i64 0] false,.box [i64 a.1,i64 0,i64 0] false])],Ac,⟨fun v hv=>by cases hv;exact A5 (PCon.pan (AL y) rfl) [0] (by decide) gs gs gs gs,trivial⟩,?_⟩ (fun fr_ hlen_ hfr_=>?_)
  ·simp only[go_sem]
  obtain rfl:=Ao1 h;refine AG (Weak.refl _ _) ?_;refine AR rfl [0] (by decide) rfl ?_;simp only[go_sem]
 dsimp only at h;refine AJ hE [0,4,6] (fr':=[(0,.ref 0 0),(4,.ref 1 0),(6,.ref 2 0)]) (O':=[.box [.sl false (L Aa b.2.l),i64 b.2.end_] false,.box [i64 0,i64 0,i64 0] false,.box [i64 a.1,i64 b.1,i64 0] false]) ⟨_,(Ag (l:=[]) (m:=[(29,136,[.ref 0 0],[.box [.sl false (L Aa o.l),i64 o.end_] false,.box [i64 0,i64 0,i64 0] false,.box [i64 a.1,i64 0,i64 0] false],_,_)]) trivial ⟨(wc (PCon.to (AL y) rfl) [0]),trivial⟩),?_⟩ ?_
 ·simp only[go_sem]
 revert h;intro h;replace h:=An h;obtain⟨ah,z,h⟩:=h;rcases ah with p|i
 rotate_left
 ·dsimp only at h;refine B9 hE [] 1 _ (v:=.iface 104 (.agg #[.int .i64 i.1,.int .i64 i.2.1])) (σ2:=[.box [.sl false (L Aa i.2.2.l),i64 i.2.2.end_] false,.box [i64 0,i64 0,i64 0] false,.box [i64 a.1,i64 b.1,i64 0] false]) (vals:=[]) rfl rfl ⟨_,[(32,47,[.ref 0 0,.str ([46,46]:List UInt8)],[.box [.sl false (L Aa b.2.l),i64 b.2.end_] false,.box [i64 0,i64 0,i64 0] false,.box [i64 a.1,i64 b.1,i64 0] false],.val (.iface 104 (.agg #[.int .i64 i.1,.int .i64 i.2.1])),[.box [.sl false (L Aa i.2.2.l),i64 i.2.2.end_] false,.box [i64 0,i64 0,i64 0] false,.box [i64 a.1,i64 b.1,i64 0] false])],Ac,⟨fun v hv=>by cases hv;exact A5 (PCon.pan (Am z) rfl) [0] (by decide) gs gs gs gs,trivial⟩,?_⟩ (fun fr_ hlen_ hfr_=>?_)
  ·simp only[go_sem]
  obtain rfl:=Ao1 h;refine AG (Weak.refl _ _) ?_;refine AR rfl [0] (by decide) rfl ?_;simp only[go_sem]
 dsimp only at h;refine AJ hE [0,4,6] (fr':=[(0,.ref 0 0),(4,.ref 1 0),(6,.ref 2 0)]) (O':=[.box [.sl false (L Aa p.l),i64 p.end_] false,.box [i64 0,i64 0,i64 0] false,.box [i64 a.1,i64 b.1,i64 0] false]) ⟨_,(Ag (l:=[]) (m:=[(32,47,[.ref 0 0,.str ([46,46]:List UInt8)],[.box [.sl false (L Aa b.2.l),i64 b.2.end_] false,.box [i64 0,i64 0,i64 0] false,.box [i64 a.1,i64 b.1,i64 0] false],_,_)]) trivial ⟨(wc (PCon.to (Am z) rfl) [0]),trivial⟩),?_⟩ ?_
 ·simp only[go_sem]
 revert h;intro h;replace h:=An h;obtain⟨ai,aa,h⟩:=h;rcases ai with t|j
 rotate_left
 ·dsimp only at h;refine B9 hE [] 1 _ (v:=.iface 104 (.agg #[.int .i64 j.1,.int .i64 j.2.1])) (σ2:=[.box [.sl false (L Aa j.2.2.l),i64 j.2.2.end_] false,.box [i64 0,i64 0,i64 0] false,.box [i64 a.1,i64 b.1,i64 0] false]) (vals:=[]) rfl rfl ⟨_,[(34,136,[.ref 0 0],[.box [.sl false (L Aa p.l),i64 p.end_] false,.box [i64 0,i64 0,i64 0] false,.box [i64 a.1,i64 b.1,i64 0] false],.val (.iface 104 (.agg #[.int .i64 j.1,.int .i64 j.2.1])),[.box [.sl false (L Aa j.2.2.l),i64 j.2.2.end_] false,.box [i64 0,i64 0,i64 0] false,.box [i64 a.1,i64 b.1,i64 0] false])],Ac,⟨fun v hv=>by cases hv;exact A5 (PCon.pan (AL aa) rfl) [0] (by decide) gs gs gs gs,trivial⟩,?_⟩ (fun fr_ hlen_ hfr_=>?_)
  ·simp only[go_sem]
  obtain rfl:=Ao1 h;refine AG (Weak.refl _ _) ?_;refine AR rfl [0] (by decide) rfl ?_;simp only[go_sem]
 dsimp only at h;refine AJ hE [4,6] (fr':=[(4,.ref 1 0),(6,.ref 2 0)]) (O':=[.box [.sl false (L Aa t.2.l),i64 t.2.end_] false,.box [i64 0,i64 0,i64 0] false,.box [i64 a.1,i64 b.1,i64 t.1] false]) ⟨_,(Ag (l:=[]) (m:=[(34,136,[.ref 0 0],[.box [.sl false (L Aa p.l),i64 p.end_] false,.box [i64 0,i64 0,i64 0] false,.box [i64 a.1,i64 b.1,i64 0] false],_,_)]) trivial ⟨(wc (PCon.to (AL aa) rfl) [0]),trivial⟩),?_⟩ ?_
 ·simp only[go_sem]
 revert h;refine T0 [4] ?_;refine Sr ?_;intro h;obtain rfl:=Ao1 h;refine AG (Weak.refl _ _) ?_;refine EE rfl (Ha (.inr rfl) ?_ rfl ?_)
 ·simp only[go_sem]
 show Im [0] _ [0] _;simp only[go_sem]
variable {rs:AoH}
theorem Fq{a r}(h:BP a=some r):Con (B rs) 140 [.ref 1 0] [.box [.sl false (L Aa a.l),i64 a.end_] false,.box [.ref 0 0] false] (fun r' O'=>r'=i64 r.1/\O'=[.box [.sl false (L Aa r.2.l),i64 r.2.end_] false,.box [.ref 0 0] false]):=by
 refine Co 2 4 [.tmp 1] Tryz.func140 (fun F hE=>?_) h;unfold BP;refine T0 [0] ?_;refine Sq <|Bd fun c b =>Te [3] (Ag (l:=[]) (m:=[(3,51,[.ref 0 0,.str ([42]:List UInt8)],[.box [.sl false (L Aa a.l),i64 a.end_] false,.box [.ref 0 0] false],_,_)]) trivial ⟨(wc (A4 b) [0]),trivial⟩) Ev ?_
 refine Cd ?_ ?_
 ·refine T0 [1] ?_;exact Sr <|Tr <|Ro [0,1]
 refine Sk <|Tn <|T0 [1] ?_
 exact Sr <|Ro [0,1]
theorem FW{a r}(h:Cu a=some r):Con (B rs) 141 [.ref 1 0] [.box [.sl false (L Aa a.l),i64 a.end_] false,.box [.ref 0 0] false] (fun r' O'=>r'=i64 r.1/\O'=[.box [.sl false (L Aa r.2.l),i64 r.2.end_] false,.box [.ref 0 0] false]):=by
 refine Co 2 8 [.tmp 1] Tryz.func141 (fun F hE=>?_) h;unfold Cu;refine T0 [0] ?_;refine Sq <|Sb <|Bd fun b c =>Te [0,2] (Ag (l:=[]) (m:=[(4,51,[.ref 0 0,.str ([43]:List UInt8)],[.box [.sl false (L Aa a.l),i64 a.end_] false,.box [.ref 0 0] false],_,_)]) trivial ⟨(wc (A4 c) [0]),trivial⟩) Ev ?_
 refine Cd ?_ ?_
 ·refine T0 [1] ?_;exact Sr <|Br <|Tr <|Ro [0,1]
 refine Bd fun e d =>Te [5] (Ag (l:=[]) (m:=[(7,51,[.ref 0 0,.str ([45]:List UInt8)],[.box [.sl false (L Aa b.2.l),i64 b.2.end_] false,.box [.ref 0 0] false],_,_)]) trivial ⟨(wc (A4 d) [0]),trivial⟩) Ev ?_
 refine Cd ?_ ?_
 ·refine T0 [1] ?_;exact Sr <|Br <|Tr <|Ro [0,1]
 refine Sk <|Bn <|Tn <|T0 [1] ?_
 exact Sr <|Ro [0,1]
theorem C2{t:AoP->Option ((AoM×AoP)⊕(Int×Int×AoP))}(h90:∀{q0_:AoP} {r:(AoM×AoP)⊕(Int×Int×AoP)},t q0_=some r->PCon (B rs) 90 [.ref 0 0] [.box [.sl false (L Aa q0_.l),i64 q0_.end_] false] (AQ r)){f:AoP}{b:Int}{a:List (List UInt8)}{r:(AoM×AoP×List (List UInt8))⊕(Int×Int×AoP×List (List UInt8))}(h:BM t f b a=some r):PCon (B rs) 169 [.ref 0 0,i64 b,.bs false 1 (a.length) 0 (a.length)] [.box [.sl false (L Aa f.l),i64 f.end_] false,.buf 1 (L AU a) false] (HQ r):=by
 refine BJ (N:=32) (rs:=[.cell 6 45]) 2 rfl ok Tryz.func169 rfl (by decide +kernel) rfl rfl (Apj rfl) (fun F=>?_);have hE:=(ok (rs:=rs)).env F;unfold BM at h;show Run ((B rs).env F) 2 _ ⟨Al 32 [(0,.ref 0 0),(1,i64 b),(2,.bs false 1 (a.length) 0 (a.length))],[.box [.sl false (L Aa f.l),i64 f.end_] false,.buf 1 (L AU a) false]⟩ _;refine BR ?_;revert h;refine T0 [0,1,2,6] ?_;intro h;replace h:=An h;obtain⟨ag,aa,h⟩:=h;rcases ag with q|g
 rotate_left
 ·dsimp only at h;refine B9 hE [] 1 _ (v:=.iface 104 (.agg #[.int .i64 g.1,.int .i64 g.2.1])) (σ2:=[.box [.sl false (L Aa g.2.2.l),i64 g.2.2.end_] false,.buf 1 (L AU a) false,.box (i64 0::i64 0::(C1 i64 (Arr.rep 4 0).l++[.sl true (L cApi_Expr ([]))])) false]) (vals:=[]) rfl rfl ⟨_,[(11,47,[.ref 0 0,.str ([40]:List UInt8)],[.box [.sl false (L Aa f.l),i64 f.end_] false,.buf 1 (L AU a) false,.box (i64 0::i64 0::(C1 i64 (Arr.rep 4 0).l++[.sl true (L cApi_Expr ([]))])) false],.val (.iface 104 (.agg #[.int .i64 g.1,.int .i64 g.2.1])),[.box [.sl false (L Aa g.2.2.l),i64 g.2.2.end_] false,.buf 1 (L AU a) false,.box (i64 0::i64 0::(C1 i64 (Arr.rep 4 0).l++[.sl true (L cApi_Expr ([]))])) false])],Ac,⟨fun v hv=>by cases hv;exact A5 (PCon.pan (Am aa) rfl) [0] (by decide) gs gs gs gs,trivial⟩,?_⟩ (fun fr_ hlen_ hfr_=>?_)
  ·simp only[go_sem]
  obtain rfl:=Ao1 h;refine AG (Weak.refl _ _) ?_;refine AR rfl [0,1] (by decide) rfl ?_;simp only[go_sem]
 dsimp only at h;refine AJ hE [0,1,2,6] (fr':=[(0,.ref 0 0),(1,i64 b),(2,.bs false 1 (a.length) 0 (a.length)),(6,.ref 2 0)]) (O':=[.box [.sl false (L Aa q.l),i64 q.end_] false,.buf 1 (L AU a) false,.box (i64 0::i64 0::(C1 i64 (Arr.rep 4 0).l++[.sl true (L cApi_Expr ([]))])) false]) ⟨_,(Ag (l:=[]) (m:=[(11,47,[.ref 0 0,.str ([40]:List UInt8)],[.box [.sl false (L Aa f.l),i64 f.end_] false,.buf 1 (L AU a) false,.box (i64 0::i64 0::(C1 i64 (Arr.rep 4 0).l++[.sl true (L cApi_Expr ([]))])) false],_,_)]) trivial ⟨(wc (PCon.to (Am aa) rfl) [0]),trivial⟩),?_⟩ ?_
 ·simp only[go_sem]
 revert h;refine T0 [0,2,6,7] ?_;refine Jo (fun⟨u,w,e⟩=>⟨Al 32 [(6,.ref 2 0),(7,.ref 3 0)],[.box [.sl false (L Aa u),i64 w] false,.buf 1 (L AU a) false,.box (i64 0::i64 0::(C1 i64 (Arr.rep 4 0).l++[.sl true (L cApi_Expr ([]))])) false,.box (i64 b::i64 0::(C1 i64 (Arr.rep 4 0).l++[.bs false 4 (e.length) 0 (e.length)])) false,.buf 7 (L cApi_Expr e) false]⟩) ?_ ?_
 ·intro am ab;refine T0 [0,6,7,14,15,16] ?_;refine Sb ?_;refine Lo (fun⟨p,k,n,c⟩=>⟨Al 32 [(0,.ref 0 0),(6,.ref 2 0),(7,.ref 3 0),(14,.bs false 1 (a.length) 0 (a.length)),(15,i64 (a.length:Int)),(16,i64 p)],[.box [.sl false (L Aa k),i64 n] false,.buf 1 (L AU a) false,.box (i64 0::i64 0::(C1 i64 (Arr.rep 4 0).l++[.sl true (L cApi_Expr ([]))])) false,.box (i64 b::i64 0::(C1 i64 (Arr.rep 4 0).l++[.bs false 4 (c.length) 0 (c.length)])) false,.buf 7 (L cApi_Expr c) false]⟩) ((Mm 3 6 7 (O':=[.box [.sl false (L Aa q.l),i64 q.end_] false,.buf 1 (L AU a) false,.box (i64 0::i64 0::(C1 i64 (Arr.rep 4 0).l++[.sl true (L cApi_Expr ([]))])) false,.box (i64 b::i64 0::(C1 i64 (Arr.rep 4 0).l++[.bs true 4 0 0 0])) false,.buf 7 (L cApi_Expr ([])) false]) rfl gs gs).trans (ws [0,1,2,3,4])) ?_;rintro⟨p,k,n,c⟩ an ah x y;show CA t a p k n c=some ah->_;unfold CA;refine T0 [0,6,7,14,15,16,17] ?_;refine Sq <|Cd ?_ ?_
  ·refine Sk <|Tn <|Sq <|Sb <|Ck fun ai =>Lt fun s aj =>Te (fr':=[(0,_),(6,_),(7,_),(9,.str s),(14,_),(15,_),(16,_)]) [0,6,7,9,14,15,16] Ac (Ew2 (qR ai) aj) ?_
   intro h;replace h:=An h;obtain⟨ak,ac,h⟩:=h;rcases ak with o|i
   rotate_left
   ·dsimp only at h;refine AeF hE H8 [] rfl [[],[0],[],[2],[2,3],[0,1,2,3,4],[0,1,2,3,4,5],[0,1,2,3,4,5,6]] (by kernel_rfl) 3 (by kernel_rfl) (by kernel_rfl) _ (v:=.iface 104 (.agg #[.int .i64 i.1,.int .i64 i.2.1])) (σ2:=[.box [.sl false (L Aa i.2.2.l),i64 i.2.2.end_] false,.buf 1 (L AU a) false,.box (i64 0::i64 0::(C1 i64 (Arr.rep 4 0).l++[.sl true (L cApi_Expr ([]))])) false,.box (i64 b::i64 0::(C1 i64 (Arr.rep 4 0).l++[.bs false 4 (c.length) 0 (c.length)])) false,.buf 7 (L cApi_Expr c) false]) (vals:=[]) rfl rfl ⟨_,[(23,90,[.ref 0 0],[.box [.sl false (L Aa k),i64 n] false,.buf 1 (L AU a) false,.box (i64 0::i64 0::(C1 i64 (Arr.rep 4 0).l++[.sl true (L cApi_Expr ([]))])) false,.box (i64 b::i64 0::(C1 i64 (Arr.rep 4 0).l++[.bs false 4 (c.length) 0 (c.length)])) false,.buf 7 (L cApi_Expr c) false],.val (.iface 104 (.agg #[.int .i64 i.1,.int .i64 i.2.1])),[.box [.sl false (L Aa i.2.2.l),i64 i.2.2.end_] false,.buf 1 (L AU a) false,.box (i64 0::i64 0::(C1 i64 (Arr.rep 4 0).l++[.sl true (L cApi_Expr ([]))])) false,.box (i64 b::i64 0::(C1 i64 (Arr.rep 4 0).l++[.bs false 4 (c.length) 0 (c.length)])) false,.buf 7 (L cApi_Expr c) false])],Ac,⟨fun v hv=>by cases hv;exact A5 (PCon.pan (h90 ac) rfl) [0] (by decide) gs gs gs gs,trivial⟩,?_⟩ (fun fr_ hlen_ hfr_=>?_)
    ·simp only[go_sem]
    refine E9 ?_;refine Em ?_;refine VM ?_;replace h:=An h;obtain⟨ao,h,e_z_3073⟩:=h;obtain rfl:=Ao1 e_z_3073;have ex_z_3073:=y _ rfl;subst ex_z_3073;obtain rfl:=Ao1 x;refine E9 ?_;refine Hm ?_;replace h:=An h;obtain⟨ap,h,e_z_3072⟩:=h;obtain rfl:=Ao1 e_z_3072;obtain rfl:=Ao1 ab;obtain rfl:=Ao1 h;refine AG (Weak.refl _ _) ?_;refine AR rfl [0,1] (by decide) rfl ?_;simp only[go_sem]
   dsimp only at h;replace h:=J4 h;obtain⟨z,h⟩:=h;replace h:=KE h;obtain⟨d,ad,h⟩:=h;refine Abz hE H8 [[],[0],[],[2],[2,3],[0,1,2,3,4],[0,1,2,3,4,5],[0,1,2,3,4,5,6]] (by kernel_rfl) 3 [0,1] [0,6,7,9,14,15,16,20] (by kernel_rfl) (fr':=[(0,.ref 0 0),(6,.ref 2 0),(7,.ref 3 0),(9,.str s),(14,.bs false 1 (a.length) 0 (a.length)),(15,i64 (a.length:Int)),(16,i64 p),(20,.ref 3 6)]) (O':=[.box [.sl false (L Aa o.2.l),i64 o.2.end_] false,.buf 1 (L AU a) false,.box (i64 0::i64 0::(C1 i64 (Arr.rep 4 0).l++[.sl true (L cApi_Expr ([]))])) false,.box (i64 b::i64 0::(C1 i64 (Arr.rep 4 0).l++[.bs false 4 (d.length) 0 (d.length)])) false,.buf 7 (L cApi_Expr d) false]) ⟨_,_,_,_,_,_,_,rfl,?_,(Ag (l:=[]) (m:=[(23,90,[.ref 0 0],[.box [.sl false (L Aa k),i64 n] false,.buf 1 (L AU a) false,.box (i64 0::i64 0::(C1 i64 (Arr.rep 4 0).l++[.sl true (L cApi_Expr ([]))])) false,.box (i64 b::i64 0::(C1 i64 (Arr.rep 4 0).l++[.bs false 4 (c.length) 0 (c.length)])) false,.buf 7 (L cApi_Expr c) false],_,_)]) trivial ⟨(wc (PCon.to (h90 ac) rfl) [0]),trivial⟩),?_⟩ ?_
   ·subst ad;simp only[go_sem,z]
   ·subst ad;first|(simp only[go_sem,z];done)|(simp only[go_sem,z];simp only[AqI 1])
   revert h;intro h;replace h:=An h;obtain⟨al,ae,h⟩:=h;rcases al with af|j
   rotate_left
   ·dsimp only at h;refine DI hE [] 2 _ (v:=.iface 104 (.agg #[.int .i64 j.1,.int .i64 j.2.1])) (σ2:=[.box [.sl false (L Aa j.2.2.l),i64 j.2.2.end_] false,.buf 1 (L AU a) false,.box (i64 0::i64 0::(C1 i64 (Arr.rep 4 0).l++[.sl true (L cApi_Expr ([]))])) false,.box (i64 b::i64 0::(C1 i64 (Arr.rep 4 0).l++[.bs false 4 (d.length) 0 (d.length)])) false,.buf 7 (L cApi_Expr d) false]) (vals:=[]) rfl rfl ⟨_,[(29,47,[.ref 0 0,.str s],[.box [.sl false (L Aa o.2.l),i64 o.2.end_] false,.buf 1 (L AU a) false,.box (i64 0::i64 0::(C1 i64 (Arr.rep 4 0).l++[.sl true (L cApi_Expr ([]))])) false,.box (i64 b::i64 0::(C1 i64 (Arr.rep 4 0).l++[.bs false 4 (d.length) 0 (d.length)])) false,.buf 7 (L cApi_Expr d) false],.val (.iface 104 (.agg #[.int .i64 j.1,.int .i64 j.2.1])),[.box [.sl false (L Aa j.2.2.l),i64 j.2.2.end_] false,.buf 1 (L AU a) false,.box (i64 0::i64 0::(C1 i64 (Arr.rep 4 0).l++[.sl true (L cApi_Expr ([]))])) false,.box (i64 b::i64 0::(C1 i64 (Arr.rep 4 0).l++[.bs false 4 (d.length) 0 (d.length)])) false,.buf 7 (L cApi_Expr d) false])],Ac,⟨fun v hv=>by cases hv;exact A5 (PCon.pan (Am ae) rfl) [0] (by decide) gs gs gs gs,trivial⟩,?_⟩ (fun fr_ hlen_ hfr_=>?_)
    ·simp only[go_sem]
    refine E9 ?_;refine Em ?_;refine VM ?_;replace h:=An h;obtain⟨aq,h,e_z_3082⟩:=h;obtain rfl:=Ao1 e_z_3082;have ex_z_3082:=y _ rfl;subst ex_z_3082;obtain rfl:=Ao1 x;refine E9 ?_;refine Hm ?_;replace h:=An h;obtain⟨ar,h,e_z_3081⟩:=h;obtain rfl:=Ao1 e_z_3081;obtain rfl:=Ao1 ab;obtain rfl:=Ao1 h;refine AG (Weak.refl _ _) ?_;refine AR rfl [0,1] (by decide) rfl ?_;simp only[go_sem]
   dsimp only at h;refine D5 hE (Fc E6) [0,6,7,14,15,16] (fr':=[(0,.ref 0 0),(6,.ref 2 0),(7,.ref 3 0),(14,.bs false 1 (a.length) 0 (a.length)),(15,i64 (a.length:Int)),(16,i64 p)]) (O':=[.box [.sl false (L Aa af.l),i64 af.end_] false,.buf 1 (L AU a) false,.box (i64 0::i64 0::(C1 i64 (Arr.rep 4 0).l++[.sl true (L cApi_Expr ([]))])) false,.box (i64 b::i64 0::(C1 i64 (Arr.rep 4 0).l++[.bs false 4 (d.length) 0 (d.length)])) false,.buf 7 (L cApi_Expr d) false]) ⟨_,(Ag (l:=[]) (m:=[(29,47,[.ref 0 0,.str s],[.box [.sl false (L Aa o.2.l),i64 o.2.end_] false,.buf 1 (L AU a) false,.box (i64 0::i64 0::(C1 i64 (Arr.rep 4 0).l++[.sl true (L cApi_Expr ([]))])) false,.box (i64 b::i64 0::(C1 i64 (Arr.rep 4 0).l++[.bs false 4 (d.length) 0 (d.length)])) false,.buf 7 (L cApi_Expr d) false],_,_)]) trivial ⟨(wc (PCon.to (Am ae) rfl) [0]),trivial⟩),?_⟩ ?_
   ·simp only[go_sem]
   revert h;refine Bn <|Tn <|F0 [0,6,7,14,15,16] ?_
   exact Ln (ws [0,1,2,3,4])
  refine Sx <|Tx <|Lx y x <|Bx <|?_
  exact Jn ((ws (l':=[(6,.ref 2 0),(7,.ref 3 0)]) (O':=[.box [.sl false (L Aa k),i64 n] false,.buf 1 (L AU a) false,.box (i64 0::i64 0::(C1 i64 (Arr.rep 4 0).l++[.sl true (L cApi_Expr ([]))])) false,.box (i64 b::i64 0::(C1 i64 (Arr.rep 4 0).l++[.bs false 4 (c.length) 0 (c.length)])) false,.buf 7 (L cApi_Expr c) false]) [0,1,2,3,4]).trans (ws [0,1,2,3,4]))
 rintro⟨u,w,e⟩;refine T0 [6] ?_;refine Sr ?_;intro h;obtain rfl:=Ao1 h;refine AG ((FL 2 6 (.bs false 4 (e.length) 0 (e.length)) (O':=[.box [.sl false (L Aa u),i64 w] false,.buf 1 (L AU a) false,.box (i64 b::i64 0::(C1 i64 (Arr.rep 4 0).l++[.sl false (L cApi_Expr e)])) false,.box (i64 b::i64 0::(C1 i64 (Arr.rep 4 0).l++[.bs false 4 (e.length) 0 (e.length)])) false,.buf 7 (L cApi_Expr e) true]) rfl rfl gs rfl gs gs gs).trans (Weak.refl _ _)) ?_;refine X5 rfl (Rz (.inr rfl) [0,1] (by decide) rfl ?_ ?_)
 ·simp only[go_sem]
 simp only[go_sem]
variable {rs:AoH}
theorem CQ{x:AoP->Option ((AoM×AoP)⊕(Int×Int×AoP))}(h90:∀{q0_:AoP} {r:(AoM×AoP)⊕(Int×Int×AoP)},x q0_=some r->PCon (B rs) 90 [.ref 0 0] [.box [.sl false (L Aa q0_.l),i64 q0_.end_] false] (AQ r)){o:AoP}{r:(AoM×AoP)⊕(Int×Int×AoP)}(h:Cv x o=some r):PCon (B rs) 139 [.ref 0 0] [.box [.sl false (L Aa o.l),i64 o.end_] false] (IG r):=by
 refine BJ (N:=47) (rs:=[.cell 2 45]) 1 rfl ok Tryz.func139 rfl (by decide +kernel) rfl rfl (Apj rfl) (fun F=>?_);have hE:=(ok (rs:=rs)).env F;unfold Cv at h;show Run ((B rs).env F) 1 _ ⟨Al 47 [(0,.ref 0 0)],[.box [.sl false (L Aa o.l),i64 o.end_] false]⟩ _;refine BR ?_;revert h;refine T0 [0,2] ?_;refine Sq <|Bd fun a ag =>Te [0,2,4] (Ag (l:=[]) (m:=[(11,85,[.ref 0 0,i64 2],[.box [.sl false (L Aa o.l),i64 o.end_] false,.box (i64 0::i64 0::(C1 i64 (Arr.rep 4 0).l++[.sl true (L cApi_Expr ([]))])) false],_,_)]) trivial ⟨(wc (Dv ag) [0]),trivial⟩) Ev ?_
 refine T0 [0,2,14] ?_;refine Cd ?_ ?_
 ·intro h;replace h:=An h;obtain⟨ah,y,h⟩:=h;rcases ah with f|g
  rotate_left
  ·dsimp only at h;refine B9 hE [] 1 _ (v:=.iface 104 (.agg #[.int .i64 g.1,.int .i64 g.2.1])) (σ2:=[.box [.sl false (L Aa g.2.2.l),i64 g.2.2.end_] false,.box (i64 0::i64 0::(C1 i64 (Arr.rep 4 0).l++[.sl true (L cApi_Expr ([]))])) false,.box [i64 a.1.Za,.str a.1.Zb,i64 a.1.N,i64 a.1.At] false]) (vals:=[]) rfl rfl ⟨_,[(16,136,[.ref 0 0],[.box [.sl false (L Aa a.2.2.l),i64 a.2.2.end_] false,.box (i64 0::i64 0::(C1 i64 (Arr.rep 4 0).l++[.sl true (L cApi_Expr ([]))])) false,.box [i64 a.1.Za,.str a.1.Zb,i64 a.1.N,i64 a.1.At] false],.val (.iface 104 (.agg #[.int .i64 g.1,.int .i64 g.2.1])),[.box [.sl false (L Aa g.2.2.l),i64 g.2.2.end_] false,.box (i64 0::i64 0::(C1 i64 (Arr.rep 4 0).l++[.sl true (L cApi_Expr ([]))])) false,.box [i64 a.1.Za,.str a.1.Zb,i64 a.1.N,i64 a.1.At] false])],Ac,⟨fun v hv=>by cases hv;exact A5 (PCon.pan (AL y) rfl) [0] (by decide) gs gs gs gs,trivial⟩,?_⟩ (fun fr_ hlen_ hfr_=>?_)
   ·simp only[go_sem]
   refine Em ?_;obtain rfl:=Ao1 h;refine AG (Weak.refl _ _) ?_;refine AR rfl [0] (by decide) rfl ?_;simp only[go_sem]
  dsimp only at h;refine AJ hE [0,2,5] (fr':=[(0,.ref 0 0),(2,.ref 1 0),(5,i64 f.1)]) (O':=[.box [.sl false (L Aa f.2.l),i64 f.2.end_] false,.box (i64 0::i64 0::(C1 i64 (Arr.rep 4 0).l++[.sl true (L cApi_Expr ([]))])) false,.box [i64 a.1.Za,.str a.1.Zb,i64 a.1.N,i64 a.1.At] false]) ⟨_,(Ag (l:=[]) (m:=[(16,136,[.ref 0 0],[.box [.sl false (L Aa a.2.2.l),i64 a.2.2.end_] false,.box (i64 0::i64 0::(C1 i64 (Arr.rep 4 0).l++[.sl true (L cApi_Expr ([]))])) false,.box [i64 a.1.Za,.str a.1.Zb,i64 a.1.N,i64 a.1.At] false],_,_)]) trivial ⟨(wc (PCon.to (AL y) rfl) [0]),trivial⟩),?_⟩ ?_
  ·simp only[go_sem]
  revert h;intro h;replace h:=An h;obtain⟨ai,z,h⟩:=h;rcases ai with u|i
  rotate_left
  ·dsimp only at h;refine B9 hE [] 2 _ (v:=.iface 104 (.agg #[.int .i64 i.1,.int .i64 i.2.1])) (σ2:=[.box [.sl false (L Aa i.2.2.l),i64 i.2.2.end_] false,.box (i64 0::i64 0::(C1 i64 (Arr.rep 4 0).l++[.sl true (L cApi_Expr ([]))])) false,.box [i64 a.1.Za,.str a.1.Zb,i64 a.1.N,i64 a.1.At] false]) (vals:=[]) rfl rfl ⟨_,[(19,168,[.ref 0 0],[.box [.sl false (L Aa f.2.l),i64 f.2.end_] false,.box (i64 0::i64 0::(C1 i64 (Arr.rep 4 0).l++[.sl true (L cApi_Expr ([]))])) false,.box [i64 a.1.Za,.str a.1.Zb,i64 a.1.N,i64 a.1.At] false],.val (.iface 104 (.agg #[.int .i64 i.1,.int .i64 i.2.1])),[.box [.sl false (L Aa i.2.2.l),i64 i.2.2.end_] false,.box (i64 0::i64 0::(C1 i64 (Arr.rep 4 0).l++[.sl true (L cApi_Expr ([]))])) false,.box [i64 a.1.Za,.str a.1.Zb,i64 a.1.N,i64 a.1.At] false])],Ac,⟨fun v hv=>by cases hv;exact A5 (PCon.pan (G1 z) rfl) [0] (by decide) gs gs gs gs,trivial⟩,?_⟩ (fun fr_ hlen_ hfr_=>?_)
   ·simp only[go_sem]
   refine Em ?_;obtain rfl:=Ao1 h;refine AG (Weak.refl _ _) ?_;refine AR rfl [0] (by decide) rfl ?_;simp only[go_sem]
  dsimp only at h;refine AJ hE [2] (fr':=[(2,.ref 1 0)]) (O':=[.box [.sl false (L Aa u.2.l),i64 u.2.end_] false,.box (i64 1::i64 f.1::(C1 i64 u.1.l++[.sl true (L cApi_Expr ([]))])) false,.box [i64 a.1.Za,.str a.1.Zb,i64 a.1.N,i64 a.1.At] false]) ⟨_,(Ag (l:=[]) (m:=[(19,168,[.ref 0 0],[.box [.sl false (L Aa f.2.l),i64 f.2.end_] false,.box (i64 0::i64 0::(C1 i64 (Arr.rep 4 0).l++[.sl true (L cApi_Expr ([]))])) false,.box [i64 a.1.Za,.str a.1.Zb,i64 a.1.N,i64 a.1.At] false],_,_)]) trivial ⟨(wc (PCon.to (G1 z) rfl) [0]),trivial⟩),?_⟩ ?_
  ·simp only[go_sem]
  revert h;refine Sr <|Tr <|?_
  intro h;obtain rfl:=Ao1 h;refine AG (Weak.refl _ _) ?_;refine EE rfl (Ha (.inr rfl) ?_ rfl ?_)
  ·simp only[go_sem]
  show Im [0] _ [0] _;simp only[go_sem]
 refine Sk <|Tn <|Sq <|Bd fun s aj =>Te [0,2,22] (Ag (l:=[]) (m:=[(22,51,[.ref 0 0,.str ([40]:List UInt8)],[.box [.sl false (L Aa a.2.2.l),i64 a.2.2.end_] false,.box (i64 0::i64 0::(C1 i64 (Arr.rep 4 0).l++[.sl true (L cApi_Expr ([]))])) false,.box [i64 a.1.Za,.str a.1.Zb,i64 a.1.N,i64 a.1.At] false],_,_)]) trivial ⟨(wc (A4 aj) [0]),trivial⟩) Ev ?_
 refine Cd ?_ ?_
 ·intro h;replace h:=An h;obtain⟨ak,aa,h⟩:=h;rcases ak with b|j
  rotate_left
  ·dsimp only at h;refine B9 hE [] 1 _ (v:=.iface 104 (.agg #[.int .i64 j.1,.int .i64 j.2.1])) (σ2:=[.box [.sl false (L Aa j.2.2.l),i64 j.2.2.end_] false,.box (i64 0::i64 0::(C1 i64 (Arr.rep 4 0).l++[.sl true (L cApi_Expr ([]))])) false,.box [i64 a.1.Za,.str a.1.Zb,i64 a.1.N,i64 a.1.At] false]) (vals:=[]) rfl rfl ⟨_,[(24,90,[.ref 0 0],[.box [.sl false (L Aa s.2.l),i64 s.2.end_] false,.box (i64 0::i64 0::(C1 i64 (Arr.rep 4 0).l++[.sl true (L cApi_Expr ([]))])) false,.box [i64 a.1.Za,.str a.1.Zb,i64 a.1.N,i64 a.1.At] false],.val (.iface 104 (.agg #[.int .i64 j.1,.int .i64 j.2.1])),[.box [.sl false (L Aa j.2.2.l),i64 j.2.2.end_] false,.box (i64 0::i64 0::(C1 i64 (Arr.rep 4 0).l++[.sl true (L cApi_Expr ([]))])) false,.box [i64 a.1.Za,.str a.1.Zb,i64 a.1.N,i64 a.1.At] false])],Ac,⟨fun v hv=>by cases hv;exact A5 (PCon.pan (h90 aa) rfl) [0] (by decide) gs gs gs gs,trivial⟩,?_⟩ (fun fr_ hlen_ hfr_=>?_)
   ·simp only[go_sem]
   refine Em ?_;obtain rfl:=Ao1 h;refine AG (Weak.refl _ _) ?_;refine AR rfl [0] (by decide) rfl ?_;simp only[go_sem]
  dsimp only at h;refine AJ hE [0,2,6] (fr':=[(0,.ref 0 0),(2,.ref 1 0),(6,.ref 3 0)]) (O':=[.box [.sl false (L Aa b.2.l),i64 b.2.end_] false,.box (i64 0::i64 0::(C1 i64 (Arr.rep 4 0).l++[.sl true (L cApi_Expr ([]))])) false,.box [i64 a.1.Za,.str a.1.Zb,i64 a.1.N,i64 a.1.At] false,.box (i64 b.1.Op::i64 b.1.N::(C1 i64 b.1.Unit.l++[.sl false (L cApi_Expr b.1.L)])) false]) ⟨_,(Ag (l:=[]) (m:=[(24,90,[.ref 0 0],[.box [.sl false (L Aa s.2.l),i64 s.2.end_] false,.box (i64 0::i64 0::(C1 i64 (Arr.rep 4 0).l++[.sl true (L cApi_Expr ([]))])) false,.box [i64 a.1.Za,.str a.1.Zb,i64 a.1.N,i64 a.1.At] false],_,_)]) trivial ⟨(wc (PCon.to (h90 aa) rfl) [0]),trivial⟩),?_⟩ ?_
  ·simp only[go_sem]
  revert h;intro h;replace h:=An h;obtain⟨al,ab,h⟩:=h;rcases al with ac|k
  rotate_left
  ·dsimp only at h;refine B9 hE [] 1 _ (v:=.iface 104 (.agg #[.int .i64 k.1,.int .i64 k.2.1])) (σ2:=[.box [.sl false (L Aa k.2.2.l),i64 k.2.2.end_] false,.box (i64 0::i64 0::(C1 i64 (Arr.rep 4 0).l++[.sl true (L cApi_Expr ([]))])) false,.box [i64 a.1.Za,.str a.1.Zb,i64 a.1.N,i64 a.1.At] false,.box (i64 b.1.Op::i64 b.1.N::(C1 i64 b.1.Unit.l++[.sl false (L cApi_Expr b.1.L)])) false]) (vals:=[]) rfl rfl ⟨_,[(26,47,[.ref 0 0,.str ([41]:List UInt8)],[.box [.sl false (L Aa b.2.l),i64 b.2.end_] false,.box (i64 0::i64 0::(C1 i64 (Arr.rep 4 0).l++[.sl true (L cApi_Expr ([]))])) false,.box [i64 a.1.Za,.str a.1.Zb,i64 a.1.N,i64 a.1.At] false,.box (i64 b.1.Op::i64 b.1.N::(C1 i64 b.1.Unit.l++[.sl false (L cApi_Expr b.1.L)])) false],.val (.iface 104 (.agg #[.int .i64 k.1,.int .i64 k.2.1])),[.box [.sl false (L Aa k.2.2.l),i64 k.2.2.end_] false,.box (i64 0::i64 0::(C1 i64 (Arr.rep 4 0).l++[.sl true (L cApi_Expr ([]))])) false,.box [i64 a.1.Za,.str a.1.Zb,i64 a.1.N,i64 a.1.At] false,.box (i64 b.1.Op::i64 b.1.N::(C1 i64 b.1.Unit.l++[.sl false (L cApi_Expr b.1.L)])) false])],Ac,⟨fun v hv=>by cases hv;exact A5 (PCon.pan (Am ab) rfl) [0] (by decide) gs gs gs gs,trivial⟩,?_⟩ (fun fr_ hlen_ hfr_=>?_)
   ·simp only[go_sem]
   refine Em ?_;obtain rfl:=Ao1 h;refine AG (Weak.refl _ _) ?_;refine AR rfl [0] (by decide) rfl ?_;simp only[go_sem]
  dsimp only at h;refine AJ hE [2,6] (fr':=[(2,.ref 1 0),(6,.ref 3 0)]) (O':=[.box [.sl false (L Aa ac.l),i64 ac.end_] false,.box (i64 0::i64 0::(C1 i64 (Arr.rep 4 0).l++[.sl true (L cApi_Expr ([]))])) false,.box [i64 a.1.Za,.str a.1.Zb,i64 a.1.N,i64 a.1.At] false,.box (i64 b.1.Op::i64 b.1.N::(C1 i64 b.1.Unit.l++[.sl false (L cApi_Expr b.1.L)])) false]) ⟨_,(Ag (l:=[]) (m:=[(26,47,[.ref 0 0,.str ([41]:List UInt8)],[.box [.sl false (L Aa b.2.l),i64 b.2.end_] false,.box (i64 0::i64 0::(C1 i64 (Arr.rep 4 0).l++[.sl true (L cApi_Expr ([]))])) false,.box [i64 a.1.Za,.str a.1.Zb,i64 a.1.N,i64 a.1.At] false,.box (i64 b.1.Op::i64 b.1.N::(C1 i64 b.1.Unit.l++[.sl false (L cApi_Expr b.1.L)])) false],_,_)]) trivial ⟨(wc (PCon.to (Am ab) rfl) [0]),trivial⟩),?_⟩ ?_
  ·simp only[go_sem]
  revert h;refine T0 [2] ?_;refine Sr <|Tr <|?_
  intro h;obtain rfl:=Ao1 h;refine AG (Weak.refl _ _) ?_;refine EE rfl (Ha (.inr rfl) ?_ rfl ?_)
  ·simp only[go_sem]
  show Im [0] _ [0] _;simp only[go_sem]
 refine Sk <|Tn <|Sq <|Bd fun t am =>Te [0,2,29] (Ag (l:=[]) (m:=[(29,51,[.ref 0 0,.str ([105,102]:List UInt8)],[.box [.sl false (L Aa s.2.l),i64 s.2.end_] false,.box (i64 0::i64 0::(C1 i64 (Arr.rep 4 0).l++[.sl true (L cApi_Expr ([]))])) false,.box [i64 a.1.Za,.str a.1.Zb,i64 a.1.N,i64 a.1.At] false],_,_)]) trivial ⟨(wc (A4 am) [0]),trivial⟩) Ev ?_
 refine Cd ?_ ?_
 ·intro h;replace h:=An h;obtain⟨an,ad,h⟩:=h;rcases an with p|c
  rotate_left
  ·dsimp only at h;refine B9 hE [] 2 _ (v:=.iface 104 (.agg #[.int .i64 c.1,.int .i64 c.2.1])) (σ2:=[.box [.sl false (L Aa c.2.2.1.l),i64 c.2.2.1.end_] false,.box (i64 0::i64 0::(C1 i64 (Arr.rep 4 0).l++[.sl true (L cApi_Expr ([]))])) false,.box [i64 a.1.Za,.str a.1.Zb,i64 a.1.N,i64 a.1.At] false,.buf 1 (L AU c.2.2.2) false]) (vals:=[]) rfl rfl ⟨_,[(32,169,[.ref 0 0,i64 11,.bs true 3 (([([60]:List UInt8),([44]:List UInt8),([44]:List UInt8),([41]:List UInt8)]:List (List UInt8)).length) 0 (([([60]:List UInt8),([44]:List UInt8),([44]:List UInt8),([41]:List UInt8)]:List (List UInt8)).length)],[.box [.sl false (L Aa t.2.l),i64 t.2.end_] false,.box (i64 0::i64 0::(C1 i64 (Arr.rep 4 0).l++[.sl true (L cApi_Expr ([]))])) false,.box [i64 a.1.Za,.str a.1.Zb,i64 a.1.N,i64 a.1.At] false,.buf 1 (L AU ([([60]:List UInt8),([44]:List UInt8),([44]:List UInt8),([41]:List UInt8)]:List (List UInt8))) false],.val (.iface 104 (.agg #[.int .i64 c.1,.int .i64 c.2.1])),[.box [.sl false (L Aa c.2.2.1.l),i64 c.2.2.1.end_] false,.box (i64 0::i64 0::(C1 i64 (Arr.rep 4 0).l++[.sl true (L cApi_Expr ([]))])) false,.box [i64 a.1.Za,.str a.1.Zb,i64 a.1.N,i64 a.1.At] false,.buf 1 (L AU c.2.2.2) false])],Ac,⟨fun v hv=>by cases hv;exact A5 (PCon.pan (C2 (fun h=>h90 h) ad) rfl) [0,3] (by decide) gs gs gs gs,trivial⟩,?_⟩ (fun fr_ hlen_ hfr_=>?_)
   ·simp only[go_sem]
   refine Em ?_;obtain rfl:=Ao1 h;refine AG (Weak.refl _ _) ?_;refine AR rfl [0] (by decide) rfl ?_;simp only[go_sem]
  dsimp only at h;refine AJ hE [2] (fr':=[(2,.ref 1 0)]) (O':=[.box [.sl false (L Aa p.2.1.l),i64 p.2.1.end_] false,.box (i64 p.1.Op::i64 p.1.N::(C1 i64 p.1.Unit.l++[.sl false (L cApi_Expr p.1.L)])) false,.box [i64 a.1.Za,.str a.1.Zb,i64 a.1.N,i64 a.1.At] false,.buf 1 (L AU p.2.2) false]) ⟨_,(Ag (l:=[]) (m:=[(32,169,[.ref 0 0,i64 11,.bs true 3 (([([60]:List UInt8),([44]:List UInt8),([44]:List UInt8),([41]:List UInt8)]:List (List UInt8)).length) 0 (([([60]:List UInt8),([44]:List UInt8),([44]:List UInt8),([41]:List UInt8)]:List (List UInt8)).length)],[.box [.sl false (L Aa t.2.l),i64 t.2.end_] false,.box (i64 0::i64 0::(C1 i64 (Arr.rep 4 0).l++[.sl true (L cApi_Expr ([]))])) false,.box [i64 a.1.Za,.str a.1.Zb,i64 a.1.N,i64 a.1.At] false,.buf 1 (L AU ([([60]:List UInt8),([44]:List UInt8),([44]:List UInt8),([41]:List UInt8)]:List (List UInt8))) false],_,_)]) trivial ⟨(wc (PCon.to (C2 (fun h=>h90 h) ad) rfl) [0,3]),trivial⟩),?_⟩ ?_
  ·simp only[go_sem]
  revert h;refine Sr <|Tr <|?_
  intro h;obtain rfl:=Ao1 h;refine AG (Weak.refl _ _) ?_;refine EE rfl (Ha (.inr rfl) ?_ rfl ?_)
  ·simp only[go_sem]
  show Im [0] _ [0] _;simp only[go_sem]
 refine Sk <|Tn <|Sq <|Bd fun d ao =>Te [0,2,7,8] (Ag (l:=[]) (m:=[(35,86,[.ref 0 0,.str ([109,105,110,32,109,97,120,32,100,111,119,110,32,117,112,32,104,97,108,102]:List UInt8)],[.box [.sl false (L Aa t.2.l),i64 t.2.end_] false,.box (i64 0::i64 0::(C1 i64 (Arr.rep 4 0).l++[.sl true (L cApi_Expr ([]))])) false,.box [i64 a.1.Za,.str a.1.Zb,i64 a.1.N,i64 a.1.At] false],_,_)]) trivial ⟨(wc (DW ao) [0]),trivial⟩) Ev ?_
 refine T0 [0,2,7,38] ?_;refine Cd ?_ ?_
 ·intro h;replace h:=An h;obtain⟨ap,ae,h⟩:=h;rcases ap with q|e
  rotate_left
  ·dsimp only at h;refine B9 hE [] 4 _ (v:=.iface 104 (.agg #[.int .i64 e.1,.int .i64 e.2.1])) (σ2:=[.box [.sl false (L Aa e.2.2.1.l),i64 e.2.2.1.end_] false,.box (i64 0::i64 0::(C1 i64 (Arr.rep 4 0).l++[.sl true (L cApi_Expr ([]))])) false,.box [i64 a.1.Za,.str a.1.Zb,i64 a.1.N,i64 a.1.At] false,.buf 1 (L AU e.2.2.2) false]) (vals:=[]) rfl rfl ⟨_,[(43,169,[.ref 0 0,i64 (w64 (6+d.1)),.bs true 3 (([([44]:List UInt8),([41]:List UInt8)]:List (List UInt8)).length) 0 (([([44]:List UInt8),([41]:List UInt8)]:List (List UInt8)).length)],[.box [.sl false (L Aa d.2.2.l),i64 d.2.2.end_] false,.box (i64 0::i64 0::(C1 i64 (Arr.rep 4 0).l++[.sl true (L cApi_Expr ([]))])) false,.box [i64 a.1.Za,.str a.1.Zb,i64 a.1.N,i64 a.1.At] false,.buf 1 (L AU ([([44]:List UInt8),([41]:List UInt8)]:List (List UInt8))) false],.val (.iface 104 (.agg #[.int .i64 e.1,.int .i64 e.2.1])),[.box [.sl false (L Aa e.2.2.1.l),i64 e.2.2.1.end_] false,.box (i64 0::i64 0::(C1 i64 (Arr.rep 4 0).l++[.sl true (L cApi_Expr ([]))])) false,.box [i64 a.1.Za,.str a.1.Zb,i64 a.1.N,i64 a.1.At] false,.buf 1 (L AU e.2.2.2) false])],Ac,⟨fun v hv=>by cases hv;exact A5 (PCon.pan (C2 (fun h=>h90 h) ae) rfl) [0,3] (by decide) gs gs gs gs,trivial⟩,?_⟩ (fun fr_ hlen_ hfr_=>?_)
   ·simp only[go_sem]
   refine Em ?_;obtain rfl:=Ao1 h;refine AG (Weak.refl _ _) ?_;refine AR rfl [0] (by decide) rfl ?_;simp only[go_sem]
  dsimp only at h;refine AJ hE [2] (fr':=[(2,.ref 1 0)]) (O':=[.box [.sl false (L Aa q.2.1.l),i64 q.2.1.end_] false,.box (i64 q.1.Op::i64 q.1.N::(C1 i64 q.1.Unit.l++[.sl false (L cApi_Expr q.1.L)])) false,.box [i64 a.1.Za,.str a.1.Zb,i64 a.1.N,i64 a.1.At] false,.buf 1 (L AU q.2.2) false]) ⟨_,(Ag (l:=[]) (m:=[(43,169,[.ref 0 0,i64 (w64 (6+d.1)),.bs true 3 (([([44]:List UInt8),([41]:List UInt8)]:List (List UInt8)).length) 0 (([([44]:List UInt8),([41]:List UInt8)]:List (List UInt8)).length)],[.box [.sl false (L Aa d.2.2.l),i64 d.2.2.end_] false,.box (i64 0::i64 0::(C1 i64 (Arr.rep 4 0).l++[.sl true (L cApi_Expr ([]))])) false,.box [i64 a.1.Za,.str a.1.Zb,i64 a.1.N,i64 a.1.At] false,.buf 1 (L AU ([([44]:List UInt8),([41]:List UInt8)]:List (List UInt8))) false],_,_)]) trivial ⟨(wc (PCon.to (C2 (fun h=>h90 h) ae) rfl) [0,3]),trivial⟩),?_⟩ ?_
  ·simp only[go_sem]
  revert h;refine Sr <|Tr <|?_
  intro h;obtain rfl:=Ao1 h;refine AG (Weak.refl _ _) ?_;refine EE rfl (Ha (.inr rfl) ?_ rfl ?_)
  ·simp only[go_sem]
  show Im [0] _ [0] _;simp only[go_sem]
 refine Sk <|Tn <|?_
 intro h;replace h:=An h;obtain⟨aq,af,h⟩:=h;rcases aq with w|n
 rotate_left
 ·dsimp only at h;refine B9 hE [] 1 _ (v:=.iface 104 (.agg #[.int .i64 n.1,.int .i64 n.2.1])) (σ2:=[.box [.sl false (L Aa n.2.2.l),i64 n.2.2.end_] false,.box (i64 0::i64 0::(C1 i64 (Arr.rep 4 0).l++[.sl true (L cApi_Expr ([]))])) false,.box [i64 a.1.Za,.str a.1.Zb,i64 a.1.N,i64 a.1.At] false]) (vals:=[]) rfl rfl ⟨_,[(45,49,[.ref 0 0,.str ([116,121,112,101,32,111,119,110,101,114,32,114,97,105,108,119,97,121,32,115,104,105,112,112,101,114,32,99,108,97,115,115,32,119,101,105,103,104,116,32,107,109,32,109,105,110,117,116,101,115,32,119,111,114,107,105,110,103,32,99,111,100,101,32,119,111,114,116,104,32,99,111,115,116,32,109,111,110,116,104,32,98,101,103,105,110,32,112,97,114,116,115,32,112,97,114,116]:List UInt8)],[.box [.sl false (L Aa d.2.2.l),i64 d.2.2.end_] false,.box (i64 0::i64 0::(C1 i64 (Arr.rep 4 0).l++[.sl true (L cApi_Expr ([]))])) false,.box [i64 a.1.Za,.str a.1.Zb,i64 a.1.N,i64 a.1.At] false],.val (.iface 104 (.agg #[.int .i64 n.1,.int .i64 n.2.1])),[.box [.sl false (L Aa n.2.2.l),i64 n.2.2.end_] false,.box (i64 0::i64 0::(C1 i64 (Arr.rep 4 0).l++[.sl true (L cApi_Expr ([]))])) false,.box [i64 a.1.Za,.str a.1.Zb,i64 a.1.N,i64 a.1.At] false])],Ac,⟨fun v hv=>by cases hv;exact A5 (PCon.pan (Bf af) rfl) [0] (by decide) gs gs gs gs,trivial⟩,?_⟩ (fun fr_ hlen_ hfr_=>?_)
  ·simp only[go_sem]
  obtain rfl:=Ao1 h;refine AG (Weak.refl _ _) ?_;refine AR rfl [0] (by decide) rfl ?_;simp only[go_sem]
 dsimp only at h;refine AJ hE [2] (fr':=[(2,.ref 1 0)]) (O':=[.box [.sl false (L Aa w.2.l),i64 w.2.end_] false,.box (i64 2::i64 w.1::(C1 i64 (Arr.rep 4 0).l++[.sl true (L cApi_Expr ([]))])) false,.box [i64 a.1.Za,.str a.1.Zb,i64 a.1.N,i64 a.1.At] false]) ⟨_,(Ag (l:=[]) (m:=[(45,49,[.ref 0 0,.str ([116,121,112,101,32,111,119,110,101,114,32,114,97,105,108,119,97,121,32,115,104,105,112,112,101,114,32,99,108,97,115,115,32,119,101,105,103,104,116,32,107,109,32,109,105,110,117,116,101,115,32,119,111,114,107,105,110,103,32,99,111,100,101,32,119,111,114,116,104,32,99,111,115,116,32,109,111,110,116,104,32,98,101,103,105,110,32,112,97,114,116,115,32,112,97,114,116]:List UInt8)],[.box [.sl false (L Aa d.2.2.l),i64 d.2.2.end_] false,.box (i64 0::i64 0::(C1 i64 (Arr.rep 4 0).l++[.sl true (L cApi_Expr ([]))])) false,.box [i64 a.1.Za,.str a.1.Zb,i64 a.1.N,i64 a.1.At] false],_,_)]) trivial ⟨(wc (PCon.to (Bf af) rfl) [0]),trivial⟩),?_⟩ ?_
 ·simp only[go_sem]
 revert h;refine Sr ?_;intro h;obtain rfl:=Ao1 h;refine AG (Weak.refl _ _) ?_;refine EE rfl (Ha (.inr rfl) ?_ rfl ?_)
 ·simp only[go_sem]
 show Im [0] _ [0] _;simp only[go_sem]
variable {rs:AoH}
theorem Di{q:AoP->Option ((AoM×AoP)⊕(Int×Int×AoP))}(h90:∀{q0_:AoP} {r:(AoM×AoP)⊕(Int×Int×AoP)},q q0_=some r->PCon (B rs) 90 [.ref 0 0] [.box [.sl false (L Aa q0_.l),i64 q0_.end_] false] (AQ r)){c:AoP}{r:(AoM×AoP)⊕(Int×Int×AoP)}(h:Bb q c=some r):PCon (B rs) 138 [.ref 0 0,.fn 139 [.tup [.ref 0 0]],.fn 140 [.ref 1 0]] [.box [.sl false (L Aa c.l),i64 c.end_] false,.box [.ref 0 0] false] (FA r):=by
 refine BJ (N:=24) (rs:=[.cell 6 45]) 2 rfl ok Tryz.func138 rfl (by decide +kernel) rfl rfl (Apj rfl) (fun F=>?_);have hE:=(ok (rs:=rs)).env F;unfold Bb at h;show Run ((B rs).env F) 2 _ ⟨Al 24 [(0,.ref 0 0),(1,.fn 139 [.tup [.ref 0 0]]),(2,.fn 140 [.ref 1 0])],[.box [.sl false (L Aa c.l),i64 c.end_] false,.box [.ref 0 0] false]⟩ _;refine BR ?_;revert h;refine T0 [1,2,6] ?_;intro h;replace h:=An h;obtain⟨ae,s,h⟩:=h;rcases ae with a|d
 rotate_left
 ·dsimp only at h;refine B9 hE [] 1 _ (v:=.iface 104 (.agg #[.int .i64 d.1,.int .i64 d.2.1])) (σ2:=[.box [.sl false (L Aa d.2.2.l),i64 d.2.2.end_] false,.box [.ref 0 0] false,.box (i64 0::i64 0::(C1 i64 (Arr.rep 4 0).l++[.sl true (L cApi_Expr ([]))])) false]) (vals:=[]) rfl rfl ⟨_,[(10,139,[.ref 0 0],[.box [.sl false (L Aa c.l),i64 c.end_] false,.box [.ref 0 0] false,.box (i64 0::i64 0::(C1 i64 (Arr.rep 4 0).l++[.sl true (L cApi_Expr ([]))])) false],.val (.iface 104 (.agg #[.int .i64 d.1,.int .i64 d.2.1])),[.box [.sl false (L Aa d.2.2.l),i64 d.2.2.end_] false,.box [.ref 0 0] false,.box (i64 0::i64 0::(C1 i64 (Arr.rep 4 0).l++[.sl true (L cApi_Expr ([]))])) false])],Ac,⟨fun v hv=>by cases hv;exact A5 (PCon.pan (CQ (fun h=>h90 h) s) rfl) [0] (by decide) gs gs gs gs,trivial⟩,?_⟩ (fun fr_ hlen_ hfr_=>?_)
  ·simp only[go_sem]
  obtain rfl:=Ao1 h;refine AG (Weak.refl _ _) ?_;refine AR rfl [0,1] (by decide) rfl ?_;simp only[go_sem]
 dsimp only at h;refine AJ hE [1,2,6,7] (fr':=[(1,.fn 139 [.tup [.ref 0 0]]),(2,.fn 140 [.ref 1 0]),(6,.ref 2 0),(7,.ref 3 0)]) (O':=[.box [.sl false (L Aa a.2.l),i64 a.2.end_] false,.box [.ref 0 0] false,.box (i64 0::i64 0::(C1 i64 (Arr.rep 4 0).l++[.sl true (L cApi_Expr ([]))])) false,.box (i64 a.1.Op::i64 a.1.N::(C1 i64 a.1.Unit.l++[.sl false (L cApi_Expr a.1.L)])) false]) ⟨_,(Ag (l:=[]) (m:=[(10,139,[.ref 0 0],[.box [.sl false (L Aa c.l),i64 c.end_] false,.box [.ref 0 0] false,.box (i64 0::i64 0::(C1 i64 (Arr.rep 4 0).l++[.sl true (L cApi_Expr ([]))])) false],_,_)]) trivial ⟨(wc (PCon.to (CQ (fun h=>h90 h) s) rfl) [0]),trivial⟩),?_⟩ ?_
 ·simp only[go_sem]
 revert h;refine Jo (fun⟨t,u,w,x,y,z⟩=>⟨Al 24 [(6,.ref 2 0),(7,.ref 3 0)],[.box [.sl false (L Aa t),i64 u] false,.box [.ref 0 0] false,.box (i64 0::i64 0::(C1 i64 (Arr.rep 4 0).l++[.sl true (L cApi_Expr ([]))])) false,.box (i64 w::i64 x::(C1 i64 y.l++[.sl false (L cApi_Expr z)])) false]⟩) ?_ ?_
 ·intro al af;refine Bd fun am ag =>Te [1,2,6,7,8] (Ag (l:=[]) (m:=[(12,140,[.ref 1 0],[.box [.sl false (L Aa a.2.l),i64 a.2.end_] false,.box [.ref 0 0] false,.box (i64 0::i64 0::(C1 i64 (Arr.rep 4 0).l++[.sl true (L cApi_Expr ([]))])) false,.box (i64 a.1.Op::i64 a.1.N::(C1 i64 a.1.Unit.l++[.sl false (L cApi_Expr a.1.L)])) false],_,_)]) trivial ⟨(wc (Fq ag) [0,1]),trivial⟩) Ev ?_
  refine Sb ?_;refine Lo (fun⟨k,n,o,e,f,g,i⟩=>⟨Al 24 [(1,.fn 139 [.tup [.ref 0 0]]),(2,.fn 140 [.ref 1 0]),(6,.ref 2 0),(7,.ref 3 0),(8,i64 k)],[.box [.sl false (L Aa n),i64 o] false,.box [.ref 0 0] false,.box (i64 0::i64 0::(C1 i64 (Arr.rep 4 0).l++[.sl true (L cApi_Expr ([]))])) false,.box (i64 e::i64 f::(C1 i64 g.l++[.sl false (L cApi_Expr i)])) false]⟩) (ws [0,1,2,3]) ?_;rintro⟨k,n,o,e,f,g,i⟩ an ah aa ab;show Bq q k n o e f g i=some ah->_;unfold Bq;refine Sq <|T0 [1,2,6,7,8,14] ?_
  refine Cd ?_ ?_
  ·refine Sk <|Tn <|Sq <|Sb <|?_
   intro h;replace h:=An h;obtain⟨ai,ac,h⟩:=h;rcases ai with p|j
   rotate_left
   ·dsimp only at h;refine Kp hE H8 [] rfl [[],[],[],[2],[1,2,3],[0,1,2,3,4],[0,1,2,3,4,5]] (by kernel_rfl) 3 (by kernel_rfl) (by kernel_rfl) _ (v:=.iface 104 (.agg #[.int .i64 j.1,.int .i64 j.2.1])) (σ2:=[.box [.sl false (L Aa j.2.2.l),i64 j.2.2.end_] false,.box [.ref 0 0] false,.box (i64 0::i64 0::(C1 i64 (Arr.rep 4 0).l++[.sl true (L cApi_Expr ([]))])) false,.box (i64 e::i64 f::(C1 i64 g.l++[.sl false (L cApi_Expr i)])) false]) (vals:=[]) rfl rfl ⟨_,[(20,139,[.ref 0 0],[.box [.sl false (L Aa n),i64 o] false,.box [.ref 0 0] false,.box (i64 0::i64 0::(C1 i64 (Arr.rep 4 0).l++[.sl true (L cApi_Expr ([]))])) false,.box (i64 e::i64 f::(C1 i64 g.l++[.sl false (L cApi_Expr i)])) false],.val (.iface 104 (.agg #[.int .i64 j.1,.int .i64 j.2.1])),[.box [.sl false (L Aa j.2.2.l),i64 j.2.2.end_] false,.box [.ref 0 0] false,.box (i64 0::i64 0::(C1 i64 (Arr.rep 4 0).l++[.sl true (L cApi_Expr ([]))])) false,.box (i64 e::i64 f::(C1 i64 g.l++[.sl false (L cApi_Expr i)])) false])],Ac,⟨fun v hv=>by cases hv;exact A5 (PCon.pan (CQ (fun h=>h90 h) ac) rfl) [0] (by decide) gs gs gs gs,trivial⟩,?_⟩ (fun fr_ hlen_ hfr_=>?_)
    ·simp only[go_sem]
    refine E9 ?_;refine Em ?_;refine VM ?_;replace h:=An h;obtain⟨ao,h,e_z_3231⟩:=h;obtain rfl:=Ao1 e_z_3231;have ex_z_3231:=ab _ rfl;subst ex_z_3231;obtain rfl:=Ao1 aa;refine E9 ?_;refine Hm ?_;replace h:=An h;obtain⟨ap,h,e_z_3230⟩:=h;obtain rfl:=Ao1 e_z_3230;obtain rfl:=Ao1 af;obtain rfl:=Ao1 h;refine AG (Weak.refl _ _) ?_;refine AR rfl [0,1] (by decide) rfl ?_;simp only[go_sem]
   dsimp only at h;replace h:=KE h;obtain⟨b,aj,h⟩:=h;refine KK hE H8 [[],[],[],[2],[1,2,3],[0,1,2,3,4],[0,1,2,3,4,5]] (by kernel_rfl) [(7,3)] [(20,3)] [1,2,6,7] (by kernel_rfl) (Fc E6) (fr':=[(1,.fn 139 [.tup [.ref 0 0]]),(2,.fn 140 [.ref 1 0]),(6,.ref 2 0),(7,.ref 3 0)]) (O':=[.box [.sl false (L Aa p.2.l),i64 p.2.end_] false,.box [.ref 0 0] false,.box (i64 0::i64 0::(C1 i64 (Arr.rep 4 0).l++[.sl true (L cApi_Expr ([]))])) false,.box (i64 k::i64 0::(C1 i64 (Arr.rep 4 0).l++[.bs true 4 (b.length) 0 (b.length)])) false,.buf 7 (L cApi_Expr b) false]) ⟨rfl,trivial⟩ ⟨_,_,(Ag (l:=[]) (m:=[(20,139,[.ref 0 0],[.box [.sl false (L Aa n),i64 o] false,.box [.ref 0 0] false,.box (i64 0::i64 0::(C1 i64 (Arr.rep 4 0).l++[.sl true (L cApi_Expr ([]))])) false,.box (i64 e::i64 f::(C1 i64 g.l++[.sl false (L cApi_Expr i)])) false],_,_)]) trivial ⟨(wc (PCon.to (CQ (fun h=>h90 h) ac) rfl) [0]),trivial⟩),(by repeat' (first|exact trivial|(refine And.intro ?_ ?_)|exact fun _=>rfl|exact fun h=>absurd h (by decide))),?_⟩ ?_
   ·subst aj;first|(simp only[go_sem];done)|(simp only[go_sem];simp only[AqI 1])
   revert h;refine Bn <|Tn <|Bd fun ad ak =>Fe [1,2,6,7,8] (Ag (l:=[]) (m:=[(16,140,[.ref 1 0],[.box [.sl false (L Aa p.2.l),i64 p.2.end_] false,.box [.ref 0 0] false,.box (i64 0::i64 0::(C1 i64 (Arr.rep 4 0).l++[.sl true (L cApi_Expr ([]))])) false,.box (i64 k::i64 0::(C1 i64 (Arr.rep 4 0).l++[.bs true 4 (b.length) 0 (b.length)])) false,.buf 7 (L cApi_Expr b) false],_,_)]) trivial ⟨(wc (Fq ak) [0,1]),trivial⟩) Ev ?_
   exact Ln ((FL 3 6 (.bs true 4 (b.length) 0 (b.length)) (O':=[.box [.sl false (L Aa ad.2.l),i64 ad.2.end_] false,.box [.ref 0 0] false,.box (i64 0::i64 0::(C1 i64 (Arr.rep 4 0).l++[.sl true (L cApi_Expr ([]))])) false,.box (i64 k::i64 0::(C1 i64 (Arr.rep 4 0).l++[.sl false (L cApi_Expr b)])) false,.buf 7 (L cApi_Expr b) true]) rfl rfl gs rfl gs gs gs).trans (ws [0,1,2,3]))
  refine Sx <|Tx <|Lx ab aa <|Bx <|?_
  exact Jn ((ws (l':=[(6,.ref 2 0),(7,.ref 3 0)]) (O':=[.box [.sl false (L Aa n),i64 o] false,.box [.ref 0 0] false,.box (i64 0::i64 0::(C1 i64 (Arr.rep 4 0).l++[.sl true (L cApi_Expr ([]))])) false,.box (i64 e::i64 f::(C1 i64 g.l++[.sl false (L cApi_Expr i)])) false]) [0,1,2,3]).trans (ws [0,1,2,3]))
 rintro⟨t,u,w,x,y,z⟩;refine T0 [6] ?_;refine Sr ?_;intro h;obtain rfl:=Ao1 h;refine AG (Weak.refl _ _) ?_;refine EE rfl (Ha (.inr rfl) ?_ rfl ?_)
 ·simp only[go_sem]
 show Im [0,1] _ [0,1] _;simp only[go_sem]
theorem CP{d:AoP->Option ((AoM×AoP)⊕(Int×Int×AoP))}(h90:∀{q0_:AoP} {r:(AoM×AoP)⊕(Int×Int×AoP)},d q0_=some r->PCon (B rs) 90 [.ref 0 0] [.box [.sl false (L Aa q0_.l),i64 q0_.end_] false] (AQ r)){a:AoP}{r:(AoM×AoP)⊕(Int×Int×AoP)}(h:Cm d a=some r):PCon (B rs) 137 [.ref 1 0] [.box [.sl false (L Aa a.l),i64 a.end_] false,.box [.ref 0 0] false] (Jf r):=by
 refine BJ (N:=7) (rs:=[.cell 1 45]) 2 rfl ok Tryz.func137 rfl (by decide +kernel) rfl rfl (Apj rfl) (fun F=>?_);have hE:=(ok (rs:=rs)).env F;unfold Cm at h;show Run ((B rs).env F) 2 _ ⟨Al 7 [(0,.ref 1 0)],[.box [.sl false (L Aa a.l),i64 a.end_] false,.box [.ref 0 0] false]⟩ _;refine BR ?_;revert h;refine T0 [0,1] ?_;intro h;replace h:=An h;obtain⟨f,e,h⟩:=h;rcases f with c|b
 rotate_left
 ·dsimp only at h;refine B9 hE [] 4 _ (v:=.iface 104 (.agg #[.int .i64 b.1,.int .i64 b.2.1])) (σ2:=[.box [.sl false (L Aa b.2.2.l),i64 b.2.2.end_] false,.box [.ref 0 0] false,.box (i64 0::i64 0::(C1 i64 (Arr.rep 4 0).l++[.sl true (L cApi_Expr ([]))])) false]) (vals:=[]) rfl rfl ⟨_,[(6,138,[.ref 0 0,.fn 139 [.tup [.ref 0 0]],.fn 140 [.ref 1 0]],[.box [.sl false (L Aa a.l),i64 a.end_] false,.box [.ref 0 0] false,.box (i64 0::i64 0::(C1 i64 (Arr.rep 4 0).l++[.sl true (L cApi_Expr ([]))])) false],.val (.iface 104 (.agg #[.int .i64 b.1,.int .i64 b.2.1])),[.box [.sl false (L Aa b.2.2.l),i64 b.2.2.end_] false,.box [.ref 0 0] false,.box (i64 0::i64 0::(C1 i64 (Arr.rep 4 0).l++[.sl true (L cApi_Expr ([]))])) false])],Ac,⟨fun v hv=>by cases hv;exact A5 (PCon.pan (Di (fun h=>h90 h) e) rfl) [0,1] (by decide) gs gs gs gs,trivial⟩,?_⟩ (fun fr_ hlen_ hfr_=>?_)
  ·simp only[go_sem]
  obtain rfl:=Ao1 h;refine AG (Weak.refl _ _) ?_;refine AR rfl [0,1] (by decide) rfl ?_;simp only[go_sem]
 dsimp only at h;refine AJ hE [1] (fr':=[(1,.ref 2 0)]) (O':=[.box [.sl false (L Aa c.2.l),i64 c.2.end_] false,.box [.ref 0 0] false,.box (i64 c.1.Op::i64 c.1.N::(C1 i64 c.1.Unit.l++[.sl false (L cApi_Expr c.1.L)])) false]) ⟨_,(Ag (l:=[]) (m:=[(6,138,[.ref 0 0,.fn 139 [.tup [.ref 0 0]],.fn 140 [.ref 1 0]],[.box [.sl false (L Aa a.l),i64 a.end_] false,.box [.ref 0 0] false,.box (i64 0::i64 0::(C1 i64 (Arr.rep 4 0).l++[.sl true (L cApi_Expr ([]))])) false],_,_)]) trivial ⟨(wc (PCon.to (Di (fun h=>h90 h) e) rfl) [0,1]),trivial⟩),?_⟩ ?_
 ·simp only[go_sem]
 revert h;refine Sr ?_;intro h;obtain rfl:=Ao1 h;refine AG (Weak.refl _ _) ?_;refine EE rfl (Ha (.inr rfl) ?_ rfl ?_)
 ·simp only[go_sem]
 show Im [0,1] _ [0,1] _;simp only[go_sem]
variable {rs:AoH}
theorem Dh{q:AoP->Option ((AoM×AoP)⊕(Int×Int×AoP))}(h90:∀{q0_:AoP} {r:(AoM×AoP)⊕(Int×Int×AoP)},q q0_=some r->PCon (B rs) 90 [.ref 0 0] [.box [.sl false (L Aa q0_.l),i64 q0_.end_] false] (AQ r)){c:AoP}{r:(AoM×AoP)⊕(Int×Int×AoP)}(h:Bc q c=some r):PCon (B rs) 138 [.ref 0 0,.fn 137 [.ref 1 0],.fn 141 [.ref 1 0]] [.box [.sl false (L Aa c.l),i64 c.end_] false,.box [.ref 0 0] false] (F2 r):=by
 refine BJ (N:=24) (rs:=[.cell 6 45]) 2 rfl ok Tryz.func138 rfl (by decide +kernel) rfl rfl (Apj rfl) (fun F=>?_);have hE:=(ok (rs:=rs)).env F;unfold Bc at h;show Run ((B rs).env F) 2 _ ⟨Al 24 [(0,.ref 0 0),(1,.fn 137 [.ref 1 0]),(2,.fn 141 [.ref 1 0])],[.box [.sl false (L Aa c.l),i64 c.end_] false,.box [.ref 0 0] false]⟩ _;refine BR ?_;revert h;refine T0 [1,2,6] ?_;intro h;replace h:=An h;obtain⟨ae,s,h⟩:=h;rcases ae with a|d
 rotate_left
 ·dsimp only at h;refine B9 hE [] 1 _ (v:=.iface 104 (.agg #[.int .i64 d.1,.int .i64 d.2.1])) (σ2:=[.box [.sl false (L Aa d.2.2.l),i64 d.2.2.end_] false,.box [.ref 0 0] false,.box (i64 0::i64 0::(C1 i64 (Arr.rep 4 0).l++[.sl true (L cApi_Expr ([]))])) false]) (vals:=[]) rfl rfl ⟨_,[(10,137,[.ref 1 0],[.box [.sl false (L Aa c.l),i64 c.end_] false,.box [.ref 0 0] false,.box (i64 0::i64 0::(C1 i64 (Arr.rep 4 0).l++[.sl true (L cApi_Expr ([]))])) false],.val (.iface 104 (.agg #[.int .i64 d.1,.int .i64 d.2.1])),[.box [.sl false (L Aa d.2.2.l),i64 d.2.2.end_] false,.box [.ref 0 0] false,.box (i64 0::i64 0::(C1 i64 (Arr.rep 4 0).l++[.sl true (L cApi_Expr ([]))])) false])],Ac,⟨fun v hv=>by cases hv;exact A5 (PCon.pan (CP (fun h=>h90 h) s) rfl) [0,1] (by decide) gs gs gs gs,trivial⟩,?_⟩ (fun fr_ hlen_ hfr_=>?_)
  ·simp only[go_sem]
  obtain rfl:=Ao1 h;refine AG (Weak.refl _ _) ?_;refine AR rfl [0,1] (by decide) rfl ?_;simp only[go_sem]
 dsimp only at h;refine AJ hE [1,2,6,7] (fr':=[(1,.fn 137 [.ref 1 0]),(2,.fn 141 [.ref 1 0]),(6,.ref 2 0),(7,.ref 3 0)]) (O':=[.box [.sl false (L Aa a.2.l),i64 a.2.end_] false,.box [.ref 0 0] false,.box (i64 0::i64 0::(C1 i64 (Arr.rep 4 0).l++[.sl true (L cApi_Expr ([]))])) false,.box (i64 a.1.Op::i64 a.1.N::(C1 i64 a.1.Unit.l++[.sl false (L cApi_Expr a.1.L)])) false]) ⟨_,(Ag (l:=[]) (m:=[(10,137,[.ref 1 0],[.box [.sl false (L Aa c.l),i64 c.end_] false,.box [.ref 0 0] false,.box (i64 0::i64 0::(C1 i64 (Arr.rep 4 0).l++[.sl true (L cApi_Expr ([]))])) false],_,_)]) trivial ⟨(wc (PCon.to (CP (fun h=>h90 h) s) rfl) [0,1]),trivial⟩),?_⟩ ?_
 ·simp only[go_sem]
 revert h;refine Jo (fun⟨t,u,w,x,y,z⟩=>⟨Al 24 [(6,.ref 2 0),(7,.ref 3 0)],[.box [.sl false (L Aa t),i64 u] false,.box [.ref 0 0] false,.box (i64 0::i64 0::(C1 i64 (Arr.rep 4 0).l++[.sl true (L cApi_Expr ([]))])) false,.box (i64 w::i64 x::(C1 i64 y.l++[.sl false (L cApi_Expr z)])) false]⟩) ?_ ?_
 ·intro al af;refine Bd fun am ag =>Te [1,2,6,7,8] (Ag (l:=[]) (m:=[(12,141,[.ref 1 0],[.box [.sl false (L Aa a.2.l),i64 a.2.end_] false,.box [.ref 0 0] false,.box (i64 0::i64 0::(C1 i64 (Arr.rep 4 0).l++[.sl true (L cApi_Expr ([]))])) false,.box (i64 a.1.Op::i64 a.1.N::(C1 i64 a.1.Unit.l++[.sl false (L cApi_Expr a.1.L)])) false],_,_)]) trivial ⟨(wc (FW ag) [0,1]),trivial⟩) Ev ?_
  refine Sb ?_;refine Lo (fun⟨k,n,o,e,f,g,i⟩=>⟨Al 24 [(1,.fn 137 [.ref 1 0]),(2,.fn 141 [.ref 1 0]),(6,.ref 2 0),(7,.ref 3 0),(8,i64 k)],[.box [.sl false (L Aa n),i64 o] false,.box [.ref 0 0] false,.box (i64 0::i64 0::(C1 i64 (Arr.rep 4 0).l++[.sl true (L cApi_Expr ([]))])) false,.box (i64 e::i64 f::(C1 i64 g.l++[.sl false (L cApi_Expr i)])) false]⟩) (ws [0,1,2,3]) ?_;rintro⟨k,n,o,e,f,g,i⟩ an ah aa ab;show Bp q k n o e f g i=some ah->_;unfold Bp;refine Sq <|T0 [1,2,6,7,8,14] ?_
  refine Cd ?_ ?_
  ·refine Sk <|Tn <|Sq <|Sb <|?_
   intro h;replace h:=An h;obtain⟨ai,ac,h⟩:=h;rcases ai with p|j
   rotate_left
   ·dsimp only at h;refine Kp hE H8 [] rfl [[],[],[],[2],[1,2,3],[0,1,2,3,4],[0,1,2,3,4,5]] (by kernel_rfl) 3 (by kernel_rfl) (by kernel_rfl) _ (v:=.iface 104 (.agg #[.int .i64 j.1,.int .i64 j.2.1])) (σ2:=[.box [.sl false (L Aa j.2.2.l),i64 j.2.2.end_] false,.box [.ref 0 0] false,.box (i64 0::i64 0::(C1 i64 (Arr.rep 4 0).l++[.sl true (L cApi_Expr ([]))])) false,.box (i64 e::i64 f::(C1 i64 g.l++[.sl false (L cApi_Expr i)])) false]) (vals:=[]) rfl rfl ⟨_,[(20,137,[.ref 1 0],[.box [.sl false (L Aa n),i64 o] false,.box [.ref 0 0] false,.box (i64 0::i64 0::(C1 i64 (Arr.rep 4 0).l++[.sl true (L cApi_Expr ([]))])) false,.box (i64 e::i64 f::(C1 i64 g.l++[.sl false (L cApi_Expr i)])) false],.val (.iface 104 (.agg #[.int .i64 j.1,.int .i64 j.2.1])),[.box [.sl false (L Aa j.2.2.l),i64 j.2.2.end_] false,.box [.ref 0 0] false,.box (i64 0::i64 0::(C1 i64 (Arr.rep 4 0).l++[.sl true (L cApi_Expr ([]))])) false,.box (i64 e::i64 f::(C1 i64 g.l++[.sl false (L cApi_Expr i)])) false])],Ac,⟨fun v hv=>by cases hv;exact A5 (PCon.pan (CP (fun h=>h90 h) ac) rfl) [0,1] (by decide) gs gs gs gs,trivial⟩,?_⟩ (fun fr_ hlen_ hfr_=>?_)
    ·simp only[go_sem]
    refine E9 ?_;refine Em ?_;refine VM ?_;replace h:=An h;obtain⟨ao,h,e_z_3352⟩:=h;obtain rfl:=Ao1 e_z_3352;have ex_z_3352:=ab _ rfl;subst ex_z_3352;obtain rfl:=Ao1 aa;refine E9 ?_;refine Hm ?_;replace h:=An h;obtain⟨ap,h,e_z_3351⟩:=h;obtain rfl:=Ao1 e_z_3351;obtain rfl:=Ao1 af;obtain rfl:=Ao1 h;refine AG (Weak.refl _ _) ?_;refine AR rfl [0,1] (by decide) rfl ?_;simp only[go_sem]
   dsimp only at h;replace h:=KE h;obtain⟨b,aj,h⟩:=h;refine KK hE H8 [[],[],[],[2],[1,2,3],[0,1,2,3,4],[0,1,2,3,4,5]] (by kernel_rfl) [(7,3)] [(20,3)] [1,2,6,7] (by kernel_rfl) (Fc E6) (fr':=[(1,.fn 137 [.ref 1 0]),(2,.fn 141 [.ref 1 0]),(6,.ref 2 0),(7,.ref 3 0)]) (O':=[.box [.sl false (L Aa p.2.l),i64 p.2.end_] false,.box [.ref 0 0] false,.box (i64 0::i64 0::(C1 i64 (Arr.rep 4 0).l++[.sl true (L cApi_Expr ([]))])) false,.box (i64 k::i64 0::(C1 i64 (Arr.rep 4 0).l++[.bs true 4 (b.length) 0 (b.length)])) false,.buf 7 (L cApi_Expr b) false]) ⟨rfl,trivial⟩ ⟨_,_,(Ag (l:=[]) (m:=[(20,137,[.ref 1 0],[.box [.sl false (L Aa n),i64 o] false,.box [.ref 0 0] false,.box (i64 0::i64 0::(C1 i64 (Arr.rep 4 0).l++[.sl true (L cApi_Expr ([]))])) false,.box (i64 e::i64 f::(C1 i64 g.l++[.sl false (L cApi_Expr i)])) false],_,_)]) trivial ⟨(wc (PCon.to (CP (fun h=>h90 h) ac) rfl) [0,1]),trivial⟩),(by repeat' (first|exact trivial|(refine And.intro ?_ ?_)|exact fun _=>rfl|exact fun h=>absurd h (by decide))),?_⟩ ?_
   ·subst aj;first|(simp only[go_sem];done)|(simp only[go_sem];simp only[AqI 1])
   revert h;refine Bn <|Tn <|Bd fun ad ak =>Fe [1,2,6,7,8] (Ag (l:=[]) (m:=[(16,141,[.ref 1 0],[.box [.sl false (L Aa p.2.l),i64 p.2.end_] false,.box [.ref 0 0] false,.box (i64 0::i64 0::(C1 i64 (Arr.rep 4 0).l++[.sl true (L cApi_Expr ([]))])) false,.box (i64 k::i64 0::(C1 i64 (Arr.rep 4 0).l++[.bs true 4 (b.length) 0 (b.length)])) false,.buf 7 (L cApi_Expr b) false],_,_)]) trivial ⟨(wc (FW ak) [0,1]),trivial⟩) Ev ?_
   exact Ln ((FL 3 6 (.bs true 4 (b.length) 0 (b.length)) (O':=[.box [.sl false (L Aa ad.2.l),i64 ad.2.end_] false,.box [.ref 0 0] false,.box (i64 0::i64 0::(C1 i64 (Arr.rep 4 0).l++[.sl true (L cApi_Expr ([]))])) false,.box (i64 k::i64 0::(C1 i64 (Arr.rep 4 0).l++[.sl false (L cApi_Expr b)])) false,.buf 7 (L cApi_Expr b) true]) rfl rfl gs rfl gs gs gs).trans (ws [0,1,2,3]))
  refine Sx <|Tx <|Lx ab aa <|Bx <|?_
  exact Jn ((ws (l':=[(6,.ref 2 0),(7,.ref 3 0)]) (O':=[.box [.sl false (L Aa n),i64 o] false,.box [.ref 0 0] false,.box (i64 0::i64 0::(C1 i64 (Arr.rep 4 0).l++[.sl true (L cApi_Expr ([]))])) false,.box (i64 e::i64 f::(C1 i64 g.l++[.sl false (L cApi_Expr i)])) false]) [0,1,2,3]).trans (ws [0,1,2,3]))
 rintro⟨t,u,w,x,y,z⟩;refine T0 [6] ?_;refine Sr ?_;intro h;obtain rfl:=Ao1 h;refine AG (Weak.refl _ _) ?_;refine EE rfl (Ha (.inr rfl) ?_ rfl ?_)
 ·simp only[go_sem]
 show Im [0,1] _ [0,1] _;simp only[go_sem]
theorem IZ{rec_:AoP->Option ((AoM×AoP)⊕(Int×Int×AoP))}(hrec:∀{a:AoP} {r:(AoM×AoP)⊕(Int×Int×AoP)},rec_ a=some r->PCon (B rs) 90 [.ref 0 0] [.box [.sl false (L Aa a.l),i64 a.end_] false] (AQ r)){a:AoP}{r:(AoM×AoP)⊕(Int×Int×AoP)}(h:CU rec_ a=some r):PCon (B rs) 90 [.ref 0 0] [.box [.sl false (L Aa a.l),i64 a.end_] false] (AQ r):=by
 refine BJ (N:=9) (rs:=[.cell 2 45]) 1 rfl ok Tryz.func90 rfl (by decide +kernel) rfl rfl (Apj rfl) (fun F=>?_);have hE:=(ok (rs:=rs)).env F;unfold CU at h;show Run ((B rs).env F) 1 _ ⟨Al 9 [(0,.ref 0 0)],[.box [.sl false (L Aa a.l),i64 a.end_] false]⟩ _;refine BR ?_;revert h;refine T0 [1,2] ?_;refine T0 [1,2,3] ?_;intro h;replace h:=An h;obtain⟨e,d,h⟩:=h;rcases e with c|b
 rotate_left
 ·dsimp only at h;refine B9 hE [] 3 _ (v:=.iface 104 (.agg #[.int .i64 b.1,.int .i64 b.2.1])) (σ2:=[.box [.sl false (L Aa b.2.2.l),i64 b.2.2.end_] false,.box [.ref 0 0] false,.box (i64 0::i64 0::(C1 i64 (Arr.rep 4 0).l++[.sl true (L cApi_Expr ([]))])) false]) (vals:=[]) rfl rfl ⟨_,[(8,138,[.ref 0 0,.fn 137 [.ref 1 0],.fn 141 [.ref 1 0]],[.box [.sl false (L Aa a.l),i64 a.end_] false,.box [.ref 0 0] false,.box (i64 0::i64 0::(C1 i64 (Arr.rep 4 0).l++[.sl true (L cApi_Expr ([]))])) false],.val (.iface 104 (.agg #[.int .i64 b.1,.int .i64 b.2.1])),[.box [.sl false (L Aa b.2.2.l),i64 b.2.2.end_] false,.box [.ref 0 0] false,.box (i64 0::i64 0::(C1 i64 (Arr.rep 4 0).l++[.sl true (L cApi_Expr ([]))])) false])],Ac,⟨fun v hv=>by cases hv;exact A5 (PCon.pan (Dh (fun h=>hrec h) d) rfl) [0,1] (by decide) gs gs gs gs,trivial⟩,?_⟩ (fun fr_ hlen_ hfr_=>?_)
  ·simp only[go_sem]
  obtain rfl:=Ao1 h;refine AG (Weak.refl _ _) ?_;refine AR rfl [0] (by decide) rfl ?_;simp only[go_sem]
 dsimp only at h;refine AJ hE [2] (fr':=[(2,.ref 2 0)]) (O':=[.box [.sl false (L Aa c.2.l),i64 c.2.end_] false,.box [.ref 0 0] false,.box (i64 c.1.Op::i64 c.1.N::(C1 i64 c.1.Unit.l++[.sl false (L cApi_Expr c.1.L)])) false]) ⟨_,(Ag (l:=[]) (m:=[(8,138,[.ref 0 0,.fn 137 [.ref 1 0],.fn 141 [.ref 1 0]],[.box [.sl false (L Aa a.l),i64 a.end_] false,.box [.ref 0 0] false,.box (i64 0::i64 0::(C1 i64 (Arr.rep 4 0).l++[.sl true (L cApi_Expr ([]))])) false],_,_)]) trivial ⟨(wc (PCon.to (Dh (fun h=>hrec h) d) rfl) [0,1]),trivial⟩),?_⟩ ?_
 ·simp only[go_sem]
 revert h;refine Sr ?_;intro h;obtain rfl:=Ao1 h;refine AG (Weak.refl _ _) ?_;refine EE rfl (Ha (.inr rfl) ?_ rfl ?_)
 ·simp only[go_sem]
 show Im [0] _ [0] _;simp only[go_sem]
theorem IU(n:Nat):∀{a:AoP} {r:(AoM×AoP)⊕(Int×Int×AoP)},DS n a=some r->PCon (B rs) 90 [.ref 0 0] [.box [.sl false (L Aa a.l),i64 a.end_] false] (AQ r):=by
 induction n with
 |zero=>intro a r h;cases h
 |succ n ih=>intro a r h;exact IZ ih h
theorem G2{a:AoP}{r:(AoM×AoP)⊕(Int×Int×AoP)}(h:Gm a=some r):PCon (B rs) 90 [.ref 0 0] [.box [.sl false (L Aa a.l),i64 a.end_] false] (AQ r):=IU _ h
variable {rs:AoH}
theorem FS{o:AoP}{c:List AoN}{r:(AoN×AoP)⊕(Int×Int×AoP)}(h:CT o c=some r):PCon (B rs) 52 [.ref 0 0,.bs false 1 (c.length) 0 (c.length)] [.box [.sl false (L Aa o.l),i64 o.end_] false,.buf 9 (L Ab c) false] (IV c r):=by
 refine BJ (N:=51) (rs:=[.cell 4 47]) 2 rfl ok Tryz.func52 rfl (by decide +kernel) rfl rfl (Apj rfl) (fun F=>?_);have hE:=(ok (rs:=rs)).env F;unfold CT at h;show Run ((B rs).env F) 2 _ ⟨Al 51 [(0,.ref 0 0),(1,.bs false 1 (c.length) 0 (c.length))],[.box [.sl false (L Aa o.l),i64 o.end_] false,.buf 9 (L Ab c) false]⟩ _;refine BR ?_;revert h;refine T0 [0,1,4] ?_;refine Bd fun p am =>Te [0,1,4,5] (Ag (l:=[]) (m:=[(9,50,[.ref 0 0],[.box [.sl false (L Aa o.l),i64 o.end_] false,.buf 9 (L Ab c) false,.box (.str ([]:List UInt8)::.sl true (L Ae ([]))::i64 0::i64 0::(C1 i64 (Arr.rep 4 0).l++[.sl true (L cApi_Expr ([]))])) false],_,_)]) trivial ⟨(wc (BN am) [0]),trivial⟩) Ev ?_
 intro h;replace h:=An h;obtain⟨an,ad,h⟩:=h;rcases an with f|g
 rotate_left
 ·dsimp only at h;refine B9 hE [] 1 _ (v:=.iface 104 (.agg #[.int .i64 g.1,.int .i64 g.2.1])) (σ2:=[.box [.sl false (L Aa g.2.2.l),i64 g.2.2.end_] false,.buf 9 (L Ab c) false,.box (.str ([]:List UInt8)::.sl true (L Ae ([]))::i64 0::i64 0::(C1 i64 (Arr.rep 4 0).l++[.sl true (L cApi_Expr ([]))])) false]) (vals:=[]) rfl rfl ⟨_,[(11,48,[.ref 0 0],[.box [.sl false (L Aa p.2.l),i64 p.2.end_] false,.buf 9 (L Ab c) false,.box (.str ([]:List UInt8)::.sl true (L Ae ([]))::i64 0::i64 0::(C1 i64 (Arr.rep 4 0).l++[.sl true (L cApi_Expr ([]))])) false],.val (.iface 104 (.agg #[.int .i64 g.1,.int .i64 g.2.1])),[.box [.sl false (L Aa g.2.2.l),i64 g.2.2.end_] false,.buf 9 (L Ab c) false,.box (.str ([]:List UInt8)::.sl true (L Ae ([]))::i64 0::i64 0::(C1 i64 (Arr.rep 4 0).l++[.sl true (L cApi_Expr ([]))])) false])],Ac,⟨fun v hv=>by cases hv;exact A5 (PCon.pan (D0 ad) rfl) [0] (by decide) gs gs gs gs,trivial⟩,?_⟩ (fun fr_ hlen_ hfr_=>?_)
  ·simp only[go_sem]
  obtain rfl:=Ao1 h;refine AG (Weak.refl _ _) ?_;refine AR rfl [0,1] (by decide) rfl ?_;simp only[go_sem]
 dsimp only at h;refine AJ hE [0,1,4,5,6] (fr':=[(0,.ref 0 0),(1,.bs false 1 (c.length) 0 (c.length)),(4,.ref 2 0),(5,i64 p.1),(6,.ref 3 0)]) (O':=[.box [.sl false (L Aa f.2.l),i64 f.2.end_] false,.buf 9 (L Ab c) false,.box (.str ([]:List UInt8)::.sl true (L Ae ([]))::i64 0::i64 0::(C1 i64 (Arr.rep 4 0).l++[.sl true (L cApi_Expr ([]))])) false,.box (.str f.1::.sl true (L Ae ([]))::i64 0::i64 0::(C1 i64 (Arr.rep 4 0).l++[.sl true (L cApi_Expr ([]))])) false]) ⟨_,(Ag (l:=[]) (m:=[(11,48,[.ref 0 0],[.box [.sl false (L Aa p.2.l),i64 p.2.end_] false,.buf 9 (L Ab c) false,.box (.str ([]:List UInt8)::.sl true (L Ae ([]))::i64 0::i64 0::(C1 i64 (Arr.rep 4 0).l++[.sl true (L cApi_Expr ([]))])) false],_,_)]) trivial ⟨(wc (PCon.to (D0 ad) rfl) [0]),trivial⟩),?_⟩ ?_
 ·simp only[go_sem]
 revert h;refine Sq <|Bd fun a ao =>Te [0,4,5,6,15] (Ag (l:=[]) (m:=[(15,87,[.bs false 1 (c.length) 0 (c.length),.fn 88 [.ref 3 0]],[.box [.sl false (L Aa f.2.l),i64 f.2.end_] false,.buf 9 (L Ab c) false,.box (.str ([]:List UInt8)::.sl true (L Ae ([]))::i64 0::i64 0::(C1 i64 (Arr.rep 4 0).l++[.sl true (L cApi_Expr ([]))])) false,.box (.str f.1::.sl true (L Ae ([]))::i64 0::i64 0::(C1 i64 (Arr.rep 4 0).l++[.sl true (L cApi_Expr ([]))])) false],_,_)]) trivial ⟨(wc (Gd ao) [1,3]),trivial⟩) Ev ?_
 refine Cd ?_ ?_
 ·intro h;refine DI hE [] 3 _ (v:=.iface 104 (.agg #[.int .i64 p.1,.int .i64 161])) (σ2:=[.box [.sl false (L Aa f.2.l),i64 f.2.end_] false,.buf 9 (L Ab c) false,.box (.str ([]:List UInt8)::.sl true (L Ae ([]))::i64 0::i64 0::(C1 i64 (Arr.rep 4 0).l++[.sl true (L cApi_Expr ([]))])) false,.box (.str a.2.Zd::.sl true (L Ae ([]))::i64 a.2.Pay.Op::i64 a.2.Pay.N::(C1 i64 a.2.Pay.Unit.l++[.sl true (L cApi_Expr ([]))])) false]) (vals:=[]) rfl rfl ⟨_,[],Ac,trivial,?_⟩ (fun fr_ hlen_ hfr_=>?_)
  ·simp only[go_sem]
  refine Em ?_;obtain rfl:=Ao1 h;refine AG (Weak.refl _ _) ?_;refine AR rfl [0,1] (by decide) rfl ?_;simp only[go_sem]
 refine Sk <|Tn <|?_
 refine Jo (fun⟨w,x,b⟩=>⟨Al 51 [(0,.ref 0 0),(4,.ref 2 0),(6,.ref 3 0)],[.box [.sl false (L Aa w),i64 x] false,.buf 9 (L Ab c) false,.box (.str ([]:List UInt8)::.sl true (L Ae ([]))::i64 0::i64 0::(C1 i64 (Arr.rep 4 0).l++[.sl true (L cApi_Expr ([]))])) false,.box (.str a.2.Zd::.bs false 4 (b.length) 0 (b.length)::i64 a.2.Pay.Op::i64 a.2.Pay.N::(C1 i64 a.2.Pay.Unit.l++[.sl true (L cApi_Expr ([]))])) false,.buf 3 (L Ae b) false]⟩) ?_ ?_
 ·intro aB ap;refine Bd fun ae aq =>Te [0,4,6,7] (Ag (l:=[]) (m:=[(20,51,[.ref 0 0,.str ([119,104,101,110]:List UInt8)],[.box [.sl false (L Aa f.2.l),i64 f.2.end_] false,.buf 9 (L Ab c) false,.box (.str ([]:List UInt8)::.sl true (L Ae ([]))::i64 0::i64 0::(C1 i64 (Arr.rep 4 0).l++[.sl true (L cApi_Expr ([]))])) false,.box (.str a.2.Zd::.sl true (L Ae ([]))::i64 a.2.Pay.Op::i64 a.2.Pay.N::(C1 i64 a.2.Pay.Unit.l++[.sl true (L cApi_Expr ([]))])) false],_,_)]) trivial ⟨(wc (A4 aq) [0]),trivial⟩) Ev ?_
  refine Sb ?_;refine Lo (fun⟨ab,q,s,e⟩=>⟨Al 51 [(0,.ref 0 0),(4,.ref 2 0),(6,.ref 3 0),(7,.bool ab)],[.box [.sl false (L Aa q),i64 s] false,.buf 9 (L Ab c) false,.box (.str ([]:List UInt8)::.sl true (L Ae ([]))::i64 0::i64 0::(C1 i64 (Arr.rep 4 0).l++[.sl true (L cApi_Expr ([]))])) false,.box (.str a.2.Zd::.bs false 4 (e.length) 0 (e.length)::i64 a.2.Pay.Op::i64 a.2.Pay.N::(C1 i64 a.2.Pay.Unit.l++[.sl true (L cApi_Expr ([]))])) false,.buf 3 (L Ae e) false]⟩) ((Mm 3 1 3 (O':=[.box [.sl false (L Aa ae.2.l),i64 ae.2.end_] false,.buf 9 (L Ab c) false,.box (.str ([]:List UInt8)::.sl true (L Ae ([]))::i64 0::i64 0::(C1 i64 (Arr.rep 4 0).l++[.sl true (L cApi_Expr ([]))])) false,.box (.str a.2.Zd::.bs true 4 0 0 0::i64 a.2.Pay.Op::i64 a.2.Pay.N::(C1 i64 a.2.Pay.Unit.l++[.sl true (L cApi_Expr ([]))])) false,.buf 3 (L Ae ([])) false]) rfl gs gs).trans (ws [0,1,2,3,4])) ?_;rintro⟨ab,q,s,e⟩ aC ar af ag;show CZ ab q s e=some ar->_;unfold CZ;refine Sq <|T0 [0,4,6,21] ?_
  refine Cd ?_ ?_
  ·refine Sk <|Tn <|Sq <|Sb <|?_
   intro h;replace h:=An h;obtain⟨au,ah,h⟩:=h;rcases au with y|i
   rotate_left
   ·dsimp only at h;refine Kp hE H8 [] rfl [[],[0],[],[],[3],[3,4],[2,3,4,5],[2,3,4,5,6],[0,1,2,3,4,5,6,7],[0,1,2,3,4,5,6,7,8],[0,1,2,3,4,5,6,7,8,9]] (by kernel_rfl) 6 (by kernel_rfl) (by kernel_rfl) _ (v:=.iface 104 (.agg #[.int .i64 i.1,.int .i64 i.2.1])) (σ2:=[.box [.sl false (L Aa i.2.2.l),i64 i.2.2.end_] false,.buf 9 (L Ab c) false,.box (.str ([]:List UInt8)::.sl true (L Ae ([]))::i64 0::i64 0::(C1 i64 (Arr.rep 4 0).l++[.sl true (L cApi_Expr ([]))])) false,.box (.str a.2.Zd::.bs false 4 (e.length) 0 (e.length)::i64 a.2.Pay.Op::i64 a.2.Pay.N::(C1 i64 a.2.Pay.Unit.l++[.sl true (L cApi_Expr ([]))])) false,.buf 3 (L Ae e) false]) (vals:=[]) rfl rfl ⟨_,[(30,89,[.ref 0 0,i64 (e.length:Int)],[.box [.sl false (L Aa q),i64 s] false,.buf 9 (L Ab c) false,.box (.str ([]:List UInt8)::.sl true (L Ae ([]))::i64 0::i64 0::(C1 i64 (Arr.rep 4 0).l++[.sl true (L cApi_Expr ([]))])) false,.box (.str a.2.Zd::.bs false 4 (e.length) 0 (e.length)::i64 a.2.Pay.Op::i64 a.2.Pay.N::(C1 i64 a.2.Pay.Unit.l++[.sl true (L cApi_Expr ([]))])) false,.buf 3 (L Ae e) false],.val (.iface 104 (.agg #[.int .i64 i.1,.int .i64 i.2.1])),[.box [.sl false (L Aa i.2.2.l),i64 i.2.2.end_] false,.buf 9 (L Ab c) false,.box (.str ([]:List UInt8)::.sl true (L Ae ([]))::i64 0::i64 0::(C1 i64 (Arr.rep 4 0).l++[.sl true (L cApi_Expr ([]))])) false,.box (.str a.2.Zd::.bs false 4 (e.length) 0 (e.length)::i64 a.2.Pay.Op::i64 a.2.Pay.N::(C1 i64 a.2.Pay.Unit.l++[.sl true (L cApi_Expr ([]))])) false,.buf 3 (L Ae e) false])],Ac,⟨fun v hv=>by cases hv;exact A5 (PCon.pan (G0 ah) rfl) [0] (by decide) gs gs gs gs,trivial⟩,?_⟩ (fun fr_ hlen_ hfr_=>?_)
    ·simp only[go_sem]
    refine E9 ?_;refine Em ?_;refine VM ?_;replace h:=An h;obtain⟨aD,h,e_z_3466⟩:=h;obtain rfl:=Ao1 e_z_3466;have ex_z_3466:=ag _ rfl;subst ex_z_3466;obtain rfl:=Ao1 af;refine E9 ?_;refine Hm ?_;replace h:=An h;obtain⟨aE,h,e_z_3465⟩:=h;obtain rfl:=Ao1 e_z_3465;obtain rfl:=Ao1 ap;obtain rfl:=Ao1 h;refine AG (Weak.refl _ _) ?_;refine AR rfl [0,1] (by decide) rfl ?_;simp only[go_sem]
   dsimp only at h;replace h:=J4 h;obtain⟨ac,h⟩:=h;replace h:=KE h;obtain⟨t,ai,h⟩:=h;refine MU hE H8 [[],[0],[],[],[3],[3,4],[2,3,4,5],[2,3,4,5,6],[0,1,2,3,4,5,6,7],[0,1,2,3,4,5,6,7,8],[0,1,2,3,4,5,6,7,8,9]] (by kernel_rfl) 6 [0,1] [0,4,6,24] (by kernel_rfl) (Fc E6) (fr':=[(0,.ref 0 0),(4,.ref 2 0),(6,.ref 3 0),(24,.ref 3 1)]) (O':=[.box [.sl false (L Aa y.2.l),i64 y.2.end_] false,.buf 9 (L Ab c) false,.box (.str ([]:List UInt8)::.sl true (L Ae ([]))::i64 0::i64 0::(C1 i64 (Arr.rep 4 0).l++[.sl true (L cApi_Expr ([]))])) false,.box (.str a.2.Zd::.bs false 4 (t.length) 0 (t.length)::i64 a.2.Pay.Op::i64 a.2.Pay.N::(C1 i64 a.2.Pay.Unit.l++[.sl true (L cApi_Expr ([]))])) false,.buf 3 (L Ae t) false]) ⟨_,_,_,_,_,_,_,rfl,?_,(Ag (l:=[]) (m:=[(30,89,[.ref 0 0,i64 (e.length:Int)],[.box [.sl false (L Aa q),i64 s] false,.buf 9 (L Ab c) false,.box (.str ([]:List UInt8)::.sl true (L Ae ([]))::i64 0::i64 0::(C1 i64 (Arr.rep 4 0).l++[.sl true (L cApi_Expr ([]))])) false,.box (.str a.2.Zd::.bs false 4 (e.length) 0 (e.length)::i64 a.2.Pay.Op::i64 a.2.Pay.N::(C1 i64 a.2.Pay.Unit.l++[.sl true (L cApi_Expr ([]))])) false,.buf 3 (L Ae e) false],_,_)]) trivial ⟨(wc (PCon.to (G0 ah) rfl) [0]),trivial⟩),?_⟩ ?_
   ·subst ai;simp only[go_sem,ac]
   ·subst ai;first|(simp only[go_sem,ac];done)|(simp only[go_sem,ac];simp only[AqI 1])
   revert h;refine Bn <|Tn <|Bd fun aF av =>Fe [0,4,6,7] (Ag (l:=[]) (m:=[(23,51,[.ref 0 0,.str ([97,110,100]:List UInt8)],[.box [.sl false (L Aa y.2.l),i64 y.2.end_] false,.buf 9 (L Ab c) false,.box (.str ([]:List UInt8)::.sl true (L Ae ([]))::i64 0::i64 0::(C1 i64 (Arr.rep 4 0).l++[.sl true (L cApi_Expr ([]))])) false,.box (.str a.2.Zd::.bs false 4 (t.length) 0 (t.length)::i64 a.2.Pay.Op::i64 a.2.Pay.N::(C1 i64 a.2.Pay.Unit.l++[.sl true (L cApi_Expr ([]))])) false,.buf 3 (L Ae t) false],_,_)]) trivial ⟨(wc (A4 av) [0]),trivial⟩) Ev ?_
   exact Ln (ws [0,1,2,3,4])
  refine Sx <|Tx <|Lx ag af <|Bx <|?_
  exact Jn ((ws (l':=[(0,.ref 0 0),(4,.ref 2 0),(6,.ref 3 0)]) (O':=[.box [.sl false (L Aa q),i64 s] false,.buf 9 (L Ab c) false,.box (.str ([]:List UInt8)::.sl true (L Ae ([]))::i64 0::i64 0::(C1 i64 (Arr.rep 4 0).l++[.sl true (L cApi_Expr ([]))])) false,.box (.str a.2.Zd::.bs false 4 (e.length) 0 (e.length)::i64 a.2.Pay.Op::i64 a.2.Pay.N::(C1 i64 a.2.Pay.Unit.l++[.sl true (L cApi_Expr ([]))])) false,.buf 3 (L Ae e) false]) [0,1,2,3,4]).trans (ws [0,1,2,3,4]))
 rintro⟨w,x,b⟩;intro h;replace h:=An h;obtain⟨aw,aj,h⟩:=h;rcases aw with z|j
 rotate_left
 ·dsimp only at h;refine B9 hE [] 1 _ (v:=.iface 104 (.agg #[.int .i64 j.1,.int .i64 j.2.1])) (σ2:=[.box [.sl false (L Aa j.2.2.l),i64 j.2.2.end_] false,.buf 9 (L Ab c) false,.box (.str ([]:List UInt8)::.sl true (L Ae ([]))::i64 0::i64 0::(C1 i64 (Arr.rep 4 0).l++[.sl true (L cApi_Expr ([]))])) false,.box (.str a.2.Zd::.bs false 4 (b.length) 0 (b.length)::i64 a.2.Pay.Op::i64 a.2.Pay.N::(C1 i64 a.2.Pay.Unit.l++[.sl true (L cApi_Expr ([]))])) false,.buf 3 (L Ae b) false]) (vals:=[]) rfl rfl ⟨_,[(35,47,[.ref 0 0,.str ([112,97,121]:List UInt8)],[.box [.sl false (L Aa w),i64 x] false,.buf 9 (L Ab c) false,.box (.str ([]:List UInt8)::.sl true (L Ae ([]))::i64 0::i64 0::(C1 i64 (Arr.rep 4 0).l++[.sl true (L cApi_Expr ([]))])) false,.box (.str a.2.Zd::.bs false 4 (b.length) 0 (b.length)::i64 a.2.Pay.Op::i64 a.2.Pay.N::(C1 i64 a.2.Pay.Unit.l++[.sl true (L cApi_Expr ([]))])) false,.buf 3 (L Ae b) false],.val (.iface 104 (.agg #[.int .i64 j.1,.int .i64 j.2.1])),[.box [.sl false (L Aa j.2.2.l),i64 j.2.2.end_] false,.buf 9 (L Ab c) false,.box (.str ([]:List UInt8)::.sl true (L Ae ([]))::i64 0::i64 0::(C1 i64 (Arr.rep 4 0).l++[.sl true (L cApi_Expr ([]))])) false,.box (.str a.2.Zd::.bs false 4 (b.length) 0 (b.length)::i64 a.2.Pay.Op::i64 a.2.Pay.N::(C1 i64 a.2.Pay.Unit.l++[.sl true (L cApi_Expr ([]))])) false,.buf 3 (L Ae b) false])],Ac,⟨fun v hv=>by cases hv;exact A5 (PCon.pan (Am aj) rfl) [0] (by decide) gs gs gs gs,trivial⟩,?_⟩ (fun fr_ hlen_ hfr_=>?_)
  ·simp only[go_sem]
  obtain rfl:=Ao1 h;refine AG (Weak.refl _ _) ?_;refine AR rfl [0,1] (by decide) rfl ?_;simp only[go_sem]
 dsimp only at h;refine AJ hE [0,4,6] (fr':=[(0,.ref 0 0),(4,.ref 2 0),(6,.ref 3 0)]) (O':=[.box [.sl false (L Aa z.l),i64 z.end_] false,.buf 9 (L Ab c) false,.box (.str ([]:List UInt8)::.sl true (L Ae ([]))::i64 0::i64 0::(C1 i64 (Arr.rep 4 0).l++[.sl true (L cApi_Expr ([]))])) false,.box (.str a.2.Zd::.bs false 4 (b.length) 0 (b.length)::i64 a.2.Pay.Op::i64 a.2.Pay.N::(C1 i64 a.2.Pay.Unit.l++[.sl true (L cApi_Expr ([]))])) false,.buf 3 (L Ae b) false]) ⟨_,(Ag (l:=[]) (m:=[(35,47,[.ref 0 0,.str ([112,97,121]:List UInt8)],[.box [.sl false (L Aa w),i64 x] false,.buf 9 (L Ab c) false,.box (.str ([]:List UInt8)::.sl true (L Ae ([]))::i64 0::i64 0::(C1 i64 (Arr.rep 4 0).l++[.sl true (L cApi_Expr ([]))])) false,.box (.str a.2.Zd::.bs false 4 (b.length) 0 (b.length)::i64 a.2.Pay.Op::i64 a.2.Pay.N::(C1 i64 a.2.Pay.Unit.l++[.sl true (L cApi_Expr ([]))])) false,.buf 3 (L Ae b) false],_,_)]) trivial ⟨(wc (PCon.to (Am aj) rfl) [0]),trivial⟩),?_⟩ ?_
 ·simp only[go_sem]
 revert h;refine Bd fun u ax =>Te [0,4,5,6] (Ag (l:=[]) (m:=[(37,50,[.ref 0 0],[.box [.sl false (L Aa z.l),i64 z.end_] false,.buf 9 (L Ab c) false,.box (.str ([]:List UInt8)::.sl true (L Ae ([]))::i64 0::i64 0::(C1 i64 (Arr.rep 4 0).l++[.sl true (L cApi_Expr ([]))])) false,.box (.str a.2.Zd::.bs false 4 (b.length) 0 (b.length)::i64 a.2.Pay.Op::i64 a.2.Pay.N::(C1 i64 a.2.Pay.Unit.l++[.sl true (L cApi_Expr ([]))])) false,.buf 3 (L Ae b) false],_,_)]) trivial ⟨(wc (BN ax) [0]),trivial⟩) Ev ?_
 intro h;replace h:=An h;obtain⟨ay,ak,h⟩:=h;rcases ay with d|k
 rotate_left
 ·dsimp only at h;refine B9 hE [] 1 _ (v:=.iface 104 (.agg #[.int .i64 k.1,.int .i64 k.2.1])) (σ2:=[.box [.sl false (L Aa k.2.2.l),i64 k.2.2.end_] false,.buf 9 (L Ab c) false,.box (.str ([]:List UInt8)::.sl true (L Ae ([]))::i64 0::i64 0::(C1 i64 (Arr.rep 4 0).l++[.sl true (L cApi_Expr ([]))])) false,.box (.str a.2.Zd::.bs false 4 (b.length) 0 (b.length)::i64 a.2.Pay.Op::i64 a.2.Pay.N::(C1 i64 a.2.Pay.Unit.l++[.sl true (L cApi_Expr ([]))])) false,.buf 3 (L Ae b) false]) (vals:=[]) rfl rfl ⟨_,[(39,90,[.ref 0 0],[.box [.sl false (L Aa u.2.l),i64 u.2.end_] false,.buf 9 (L Ab c) false,.box (.str ([]:List UInt8)::.sl true (L Ae ([]))::i64 0::i64 0::(C1 i64 (Arr.rep 4 0).l++[.sl true (L cApi_Expr ([]))])) false,.box (.str a.2.Zd::.bs false 4 (b.length) 0 (b.length)::i64 a.2.Pay.Op::i64 a.2.Pay.N::(C1 i64 a.2.Pay.Unit.l++[.sl true (L cApi_Expr ([]))])) false,.buf 3 (L Ae b) false],.val (.iface 104 (.agg #[.int .i64 k.1,.int .i64 k.2.1])),[.box [.sl false (L Aa k.2.2.l),i64 k.2.2.end_] false,.buf 9 (L Ab c) false,.box (.str ([]:List UInt8)::.sl true (L Ae ([]))::i64 0::i64 0::(C1 i64 (Arr.rep 4 0).l++[.sl true (L cApi_Expr ([]))])) false,.box (.str a.2.Zd::.bs false 4 (b.length) 0 (b.length)::i64 a.2.Pay.Op::i64 a.2.Pay.N::(C1 i64 a.2.Pay.Unit.l++[.sl true (L cApi_Expr ([]))])) false,.buf 3 (L Ae b) false])],Ac,⟨fun v hv=>by cases hv;exact A5 (PCon.pan (G2 ak) rfl) [0] (by decide) gs gs gs gs,trivial⟩,?_⟩ (fun fr_ hlen_ hfr_=>?_)
  ·simp only[go_sem]
  obtain rfl:=Ao1 h;refine AG (Weak.refl _ _) ?_;refine AR rfl [0,1] (by decide) rfl ?_;simp only[go_sem]
 dsimp only at h;refine AJ hE [0,4,5,6] (fr':=[(0,.ref 0 0),(4,.ref 2 0),(5,i64 u.1),(6,.ref 3 0)]) (O':=[.box [.sl false (L Aa d.2.l),i64 d.2.end_] false,.buf 9 (L Ab c) false,.box (.str ([]:List UInt8)::.sl true (L Ae ([]))::i64 0::i64 0::(C1 i64 (Arr.rep 4 0).l++[.sl true (L cApi_Expr ([]))])) false,.box (.str a.2.Zd::.bs false 4 (b.length) 0 (b.length)::i64 d.1.Op::i64 d.1.N::(C1 i64 d.1.Unit.l++[.sl false (L cApi_Expr d.1.L)])) false,.buf 3 (L Ae b) false]) ⟨_,(Ag (l:=[]) (m:=[(39,90,[.ref 0 0],[.box [.sl false (L Aa u.2.l),i64 u.2.end_] false,.buf 9 (L Ab c) false,.box (.str ([]:List UInt8)::.sl true (L Ae ([]))::i64 0::i64 0::(C1 i64 (Arr.rep 4 0).l++[.sl true (L cApi_Expr ([]))])) false,.box (.str a.2.Zd::.bs false 4 (b.length) 0 (b.length)::i64 a.2.Pay.Op::i64 a.2.Pay.N::(C1 i64 a.2.Pay.Unit.l++[.sl true (L cApi_Expr ([]))])) false,.buf 3 (L Ae b) false],_,_)]) trivial ⟨(wc (PCon.to (G2 ak) rfl) [0]),trivial⟩),?_⟩ ?_
 ·simp only[go_sem]
 revert h;refine Sq <|Bd fun aG az =>Te [0,4,5,6,44] (o1 43 (Ic az)) Ev ?_
 refine Cd ?_ ?_
 ·intro h;refine DI hE [] 3 _ (v:=.iface 104 (.agg #[.int .i64 u.1,.int .i64 2])) (σ2:=[.box [.sl false (L Aa d.2.l),i64 d.2.end_] false,.buf 9 (L Ab c) false,.box (.str ([]:List UInt8)::.sl true (L Ae ([]))::i64 0::i64 0::(C1 i64 (Arr.rep 4 0).l++[.sl true (L cApi_Expr ([]))])) false,.box (.str a.2.Zd::.bs false 4 (b.length) 0 (b.length)::i64 d.1.Op::i64 d.1.N::(C1 i64 d.1.Unit.l++[.sl false (L cApi_Expr d.1.L)])) false,.buf 3 (L Ae b) false]) (vals:=[]) rfl rfl ⟨_,[],Ac,trivial,?_⟩ (fun fr_ hlen_ hfr_=>?_)
  ·simp only[go_sem]
  refine Em ?_;obtain rfl:=Ao1 h;refine AG (Weak.refl _ _) ?_;refine AR rfl [0,1] (by decide) rfl ?_;simp only[go_sem]
 refine Sk <|Tn <|?_
 intro h;replace h:=An h;obtain⟨aA,al,h⟩:=h;rcases aA with aa|n
 rotate_left
 ·dsimp only at h;refine B9 hE [] 1 _ (v:=.iface 104 (.agg #[.int .i64 n.1,.int .i64 n.2.1])) (σ2:=[.box [.sl false (L Aa n.2.2.l),i64 n.2.2.end_] false,.buf 9 (L Ab c) false,.box (.str ([]:List UInt8)::.sl true (L Ae ([]))::i64 0::i64 0::(C1 i64 (Arr.rep 4 0).l++[.sl true (L cApi_Expr ([]))])) false,.box (.str a.2.Zd::.bs false 4 (b.length) 0 (b.length)::i64 d.1.Op::i64 d.1.N::(C1 i64 d.1.Unit.l++[.sl false (L cApi_Expr d.1.L)])) false,.buf 3 (L Ae b) false]) (vals:=[]) rfl rfl ⟨_,[(49,47,[.ref 0 0,.str ([59]:List UInt8)],[.box [.sl false (L Aa d.2.l),i64 d.2.end_] false,.buf 9 (L Ab c) false,.box (.str ([]:List UInt8)::.sl true (L Ae ([]))::i64 0::i64 0::(C1 i64 (Arr.rep 4 0).l++[.sl true (L cApi_Expr ([]))])) false,.box (.str a.2.Zd::.bs false 4 (b.length) 0 (b.length)::i64 d.1.Op::i64 d.1.N::(C1 i64 d.1.Unit.l++[.sl false (L cApi_Expr d.1.L)])) false,.buf 3 (L Ae b) false],.val (.iface 104 (.agg #[.int .i64 n.1,.int .i64 n.2.1])),[.box [.sl false (L Aa n.2.2.l),i64 n.2.2.end_] false,.buf 9 (L Ab c) false,.box (.str ([]:List UInt8)::.sl true (L Ae ([]))::i64 0::i64 0::(C1 i64 (Arr.rep 4 0).l++[.sl true (L cApi_Expr ([]))])) false,.box (.str a.2.Zd::.bs false 4 (b.length) 0 (b.length)::i64 d.1.Op::i64 d.1.N::(C1 i64 d.1.Unit.l++[.sl false (L cApi_Expr d.1.L)])) false,.buf 3 (L Ae b) false])],Ac,⟨fun v hv=>by cases hv;exact A5 (PCon.pan (Am al) rfl) [0] (by decide) gs gs gs gs,trivial⟩,?_⟩ (fun fr_ hlen_ hfr_=>?_)
  ·simp only[go_sem]
  obtain rfl:=Ao1 h;refine AG (Weak.refl _ _) ?_;refine AR rfl [0,1] (by decide) rfl ?_;simp only[go_sem]
 dsimp only at h;refine AJ hE [4,6] (fr':=[(4,.ref 2 0),(6,.ref 3 0)]) (O':=[.box [.sl false (L Aa aa.l),i64 aa.end_] false,.buf 9 (L Ab c) false,.box (.str ([]:List UInt8)::.sl true (L Ae ([]))::i64 0::i64 0::(C1 i64 (Arr.rep 4 0).l++[.sl true (L cApi_Expr ([]))])) false,.box (.str a.2.Zd::.bs false 4 (b.length) 0 (b.length)::i64 d.1.Op::i64 d.1.N::(C1 i64 d.1.Unit.l++[.sl false (L cApi_Expr d.1.L)])) false,.buf 3 (L Ae b) false]) ⟨_,(Ag (l:=[]) (m:=[(49,47,[.ref 0 0,.str ([59]:List UInt8)],[.box [.sl false (L Aa d.2.l),i64 d.2.end_] false,.buf 9 (L Ab c) false,.box (.str ([]:List UInt8)::.sl true (L Ae ([]))::i64 0::i64 0::(C1 i64 (Arr.rep 4 0).l++[.sl true (L cApi_Expr ([]))])) false,.box (.str a.2.Zd::.bs false 4 (b.length) 0 (b.length)::i64 d.1.Op::i64 d.1.N::(C1 i64 d.1.Unit.l++[.sl false (L cApi_Expr d.1.L)])) false,.buf 3 (L Ae b) false],_,_)]) trivial ⟨(wc (PCon.to (Am al) rfl) [0]),trivial⟩),?_⟩ ?_
 ·simp only[go_sem]
 revert h;refine T0 [4] ?_;refine Sr ?_;intro h;obtain rfl:=Ao1 h;refine AG ((FL 2 1 (.bs false 4 (b.length) 0 (b.length)) (O':=[.box [.sl false (L Aa aa.l),i64 aa.end_] false,.buf 9 (L Ab c) false,.box (.str a.2.Zd::.sl false (L Ae b)::i64 d.1.Op::i64 d.1.N::(C1 i64 d.1.Unit.l++[.sl false (L cApi_Expr d.1.L)])) false,.box (.str a.2.Zd::.bs false 4 (b.length) 0 (b.length)::i64 d.1.Op::i64 d.1.N::(C1 i64 d.1.Unit.l++[.sl false (L cApi_Expr d.1.L)])) false,.buf 3 (L Ae b) true]) rfl rfl gs rfl gs gs gs).trans (Weak.refl _ _)) ?_;refine X5 rfl (Rz (.inr rfl) [0,1] (by decide) rfl ?_ ?_)
 ·simp only[go_sem]
 simp only[go_sem]
variable {rs:AoH}
theorem Mb{a r}(h:CD a=some r):Con (B rs) 22 [.str a] [] (fun r' O'=>r'=.tup [.agg (Af r.1),i64 r.2.1,i64 r.2.2]/\O'=[]):=by
 refine Cw 71 [.cell 2 34,.cell 3 3,.cell 4 35] Tryz.func22 (fun F hE=>?_) h;unfold CD;refine T0 [0,2,3,4] ?_;refine Bd fun b c =>Te [0,2,3,4,5] (o1 10 (JV c)) Ev ?_
 refine Sq <|T0 [0,2,3,4,5,15] ?_
 refine Cd ?_ ?_
 ·intro h;refine ZT hE H8 [[],[],[],[0],[0,1,3],[0,1,2,3,4]] (by kernel_rfl) [(2,0),(3,1),(4,2)] [] [2,3,4] (by kernel_rfl) (fr':=[(2,.ref 0 0),(3,.ref 1 0),(4,.ref 2 0)]) (O':=[.box [.str ([]:List UInt8),i64 0,.sl true (L Ab ([]))] false,.box [i64 b.2.1] false,.box [i64 b.2.2] false]) ⟨rfl,rfl,rfl,trivial⟩ ⟨_,_,Ac,(by simp only[XOk]),?_⟩ ?_
  ·simp only[go_sem]
  revert h;exact Sr <|Tr <|Rr
 exact Sk <|Tn <|Rn
theorem Mi{s:List UInt8}{r:AoO×Int×Int}(h:F9 s=some r):Con (B rs) 22 [.str s] [] (fun r' O'=>r'=.tup [.agg (Af r.1),i64 r.2.1,i64 r.2.2]/\O'=[]):=by
 unfold F9 at h;replace h:=An h;obtain⟨a,ax,h⟩:=h;by_cases ag:(a.2.2 != 0)=true
 ·rw[Ao4 ag]at h;cases h
 rw[Ao6 ag]at h;refine YZ (cf:=46) (rs:=[.cell 2 34,.cell 3 3,.cell 4 35]) (N:=71) (t7:=19) (m:=3) (sel:=[0,1,2]) (rfr:=[(2,.ref 0 0),(3,.ref 1 0),(4,.ref 2 0)]) (rfr':=[(2,.ref 0 0),(3,.ref 1 0),(4,.ref 2 0)]) (pre:=[_,_,_]) (fr1:=[(0,.str s),(2,.ref 0 0),(3,.ref 1 0),(4,.ref 2 0),(5,.sl false (L Aa a.1)),(15,.bool (a.2.2 != 0))]) (σ1:=[.box [.str ([]:List UInt8),i64 0,.sl true (L Ab ([]))] false,.box [i64 a.2.1] false,.box [i64 a.2.2] false]) ok Tryz.func22 rfl (by decide +kernel) rfl rfl (Apj rfl) (fun F=>?_) rfl rfl rfl rfl rfl rfl (by decide) rfl (by decide) (by decide) rfl Tryz.func46 rfl (by decide +kernel) (fun F D=>?_)
 ·have hE:=(ok (rs:=rs)).env F;refine Pre.step (D5 hE Aft [0,2,3,4] (fr':=[(0,.str s),(2,.ref 0 0),(3,.ref 1 0),(4,.ref 2 0)]) (O':=[.box [.str ([]:List UInt8),i64 0,.sl true (L Ab ([]))] false,.box [i64 0] false,.box [i64 0] false]) ⟨_,Ac,by simp only[go_sem,NE]⟩ Aad) ?_;refine Pre.step (D5 hE Aft [0,2,3,4,5] (fr':=[(0,.str s),(2,.ref 0 0),(3,.ref 1 0),(4,.ref 2 0),(5,.sl false (L Aa a.1))]) (O':=[.box [.str ([]:List UInt8),i64 0,.sl true (L Ab ([]))] false,.box [i64 a.2.1] false,.box [i64 a.2.2] false]) ⟨_,(o1 10 (JV ax)),by simp only[go_sem]⟩ Aad) ?_;refine Pre.step (AJ hE [0,2,3,4,5,15] (fr':=[(0,.str s),(2,.ref 0 0),(3,.ref 1 0),(4,.ref 2 0),(5,.sl false (L Aa a.1)),(15,.bool (a.2.2 != 0))]) (O':=[.box [.str ([]:List UInt8),i64 0,.sl true (L Ab ([]))] false,.box [i64 a.2.1] false,.box [i64 a.2.2] false]) ⟨_,Ac,by simp only[go_sem]⟩ (IL (b:=(a.2.2 != 0)) rfl (by decide) (fun hb=>absurd hb ag) (fun _=>RM Aad))) ?_;exact Pre.nil _
 have hE:((B rs).env { F:=F,D:=D }).Ok:=⟨((ok (rs:=rs)).env F).desc,((ok (rs:=rs)).env F).info⟩;refine EZ (Do _ _ [0,2,3,4,5] _ _) ?_;show Run ((B rs).env { F:=F,D:=D }) 3 _ ⟨Al 71 [(0,.str s),(2,.ref 0 0),(3,.ref 1 0),(4,.ref 2 0),(5,.sl false (L Aa a.1))],[.box [.str ([]:List UInt8),i64 0,.sl true (L Ab ([]))] false,.box [i64 a.2.1] false,.box [i64 a.2.2] false]⟩ _;refine BR ?_;revert h;refine T0 [2,3,4,6] ?_;intro h;replace h:=An h;obtain⟨ay,ak,h⟩:=h;rcases ay with w|g
 rotate_left
 ·dsimp only at h;refine B9 hE [2,3,4] 1 _ (v:=.iface 104 (.agg #[.int .i64 g.1,.int .i64 g.2.1])) (σ2:=[.box [.str ([]:List UInt8),i64 0,.sl true (L Ab ([]))] false,.box [i64 a.2.1] false,.box [i64 a.2.2] false,.box [.sl false (L Aa g.2.2.l),i64 g.2.2.end_] false]) (vals:=[.ref 0 0,.ref 1 0,.ref 2 0]) rfl rfl ⟨_,[(26,47,[.ref 3 0,.str ([116,97,114,105,102,102]:List UInt8)],[.box [.str ([]:List UInt8),i64 0,.sl true (L Ab ([]))] false,.box [i64 a.2.1] false,.box [i64 a.2.2] false,.box [.sl false (L Aa a.1),i64 (s.length:Int)] false],.val (.iface 104 (.agg #[.int .i64 g.1,.int .i64 g.2.1])),[.box [.str ([]:List UInt8),i64 0,.sl true (L Ab ([]))] false,.box [i64 a.2.1] false,.box [i64 a.2.2] false,.box [.sl false (L Aa g.2.2.l),i64 g.2.2.end_] false])],Ac,⟨fun v hv=>by cases hv;exact A5 (PCon.pan (Am ak) rfl) [3] (by decide) gs gs gs gs,trivial⟩,?_⟩ (fun fr_ hlen_ hfr_=>?_)
  ·simp only[go_sem]
  obtain rfl:=Ao1 h;refine AG (Weak.refl _ _) ?_;refine⟨_,[.box [.junk,.junk,.junk] false,.box [.junk] false,.box [.junk] false],_,[.box [.str ([]:List UInt8),i64 0,.sl true (L Ab ([]))] false,.box [i64 g.1] false,.box [i64 g.2.1] false,.box [i64 g.1,i64 g.2.1] false],[.agg [.str ([]:List UInt8),i64 0,.sl true (L Ab ([]))],i64 g.1,i64 g.2.1],hlen_,.inr ⟨_,rfl,rfl⟩,?_,Jy,rfl,?_,⟨⟨rfl,.inl ⟨0,0,rfl,rfl,rfl⟩⟩,⟨rfl,.inl ⟨1,1,rfl,rfl,rfl⟩⟩,⟨rfl,.inl ⟨2,2,rfl,rfl,rfl⟩⟩,trivial⟩,AcH ?_,?_⟩
  ·simp only[go_sem]
  ·simp only[ApE,Aqk,Aqz]at hfr_;exact⟨hfr_.1,hfr_.2.1,hfr_.2.2.1,trivial⟩
  ·simp only[go_sem]
  simp only[go_sem]
 dsimp only at h;refine AJ hE [2,3,4,6] (fr':=[(2,.ref 0 0),(3,.ref 1 0),(4,.ref 2 0),(6,.ref 3 0)]) (O':=[.box [.str ([]:List UInt8),i64 0,.sl true (L Ab ([]))] false,.box [i64 a.2.1] false,.box [i64 a.2.2] false,.box [.sl false (L Aa w.l),i64 w.end_] false]) ⟨_,(Ag (l:=[]) (m:=[(26,47,[.ref 3 0,.str ([116,97,114,105,102,102]:List UInt8)],[.box [.str ([]:List UInt8),i64 0,.sl true (L Ab ([]))] false,.box [i64 a.2.1] false,.box [i64 a.2.2] false,.box [.sl false (L Aa a.1),i64 (s.length:Int)] false],_,_)]) trivial ⟨(wc (PCon.to (Am ak) rfl) [3]),trivial⟩),?_⟩ ?_
 ·simp only[go_sem]
 revert h;intro h;replace h:=An h;obtain⟨az,al,h⟩:=h;rcases az with c|i
 rotate_left
 ·dsimp only at h;refine B9 hE [2,3,4] 1 _ (v:=.iface 104 (.agg #[.int .i64 i.1,.int .i64 i.2.1])) (σ2:=[.box [.str ([]:List UInt8),i64 0,.sl true (L Ab ([]))] false,.box [i64 a.2.1] false,.box [i64 a.2.2] false,.box [.sl false (L Aa i.2.2.l),i64 i.2.2.end_] false]) (vals:=[.ref 0 0,.ref 1 0,.ref 2 0]) rfl rfl ⟨_,[(28,48,[.ref 3 0],[.box [.str ([]:List UInt8),i64 0,.sl true (L Ab ([]))] false,.box [i64 a.2.1] false,.box [i64 a.2.2] false,.box [.sl false (L Aa w.l),i64 w.end_] false],.val (.iface 104 (.agg #[.int .i64 i.1,.int .i64 i.2.1])),[.box [.str ([]:List UInt8),i64 0,.sl true (L Ab ([]))] false,.box [i64 a.2.1] false,.box [i64 a.2.2] false,.box [.sl false (L Aa i.2.2.l),i64 i.2.2.end_] false])],Ac,⟨fun v hv=>by cases hv;exact A5 (PCon.pan (D0 al) rfl) [3] (by decide) gs gs gs gs,trivial⟩,?_⟩ (fun fr_ hlen_ hfr_=>?_)
  ·simp only[go_sem]
  obtain rfl:=Ao1 h;refine AG (Weak.refl _ _) ?_;refine⟨_,[.box [.junk,.junk,.junk] false,.box [.junk] false,.box [.junk] false],_,[.box [.str ([]:List UInt8),i64 0,.sl true (L Ab ([]))] false,.box [i64 i.1] false,.box [i64 i.2.1] false,.box [i64 i.1,i64 i.2.1] false],[.agg [.str ([]:List UInt8),i64 0,.sl true (L Ab ([]))],i64 i.1,i64 i.2.1],hlen_,.inr ⟨_,rfl,rfl⟩,?_,Jy,rfl,?_,⟨⟨rfl,.inl ⟨0,0,rfl,rfl,rfl⟩⟩,⟨rfl,.inl ⟨1,1,rfl,rfl,rfl⟩⟩,⟨rfl,.inl ⟨2,2,rfl,rfl,rfl⟩⟩,trivial⟩,AcH ?_,?_⟩
  ·simp only[go_sem]
  ·simp only[ApE,Aqk,Aqz]at hfr_;exact⟨hfr_.1,hfr_.2.1,hfr_.2.2.1,trivial⟩
  ·simp only[go_sem]
  simp only[go_sem]
 dsimp only at h;refine AJ hE [2,3,4,6] (fr':=[(2,.ref 0 0),(3,.ref 1 0),(4,.ref 2 0),(6,.ref 3 0)]) (O':=[.box [.str c.1,i64 0,.sl true (L Ab ([]))] false,.box [i64 a.2.1] false,.box [i64 a.2.2] false,.box [.sl false (L Aa c.2.l),i64 c.2.end_] false]) ⟨_,(Ag (l:=[]) (m:=[(28,48,[.ref 3 0],[.box [.str ([]:List UInt8),i64 0,.sl true (L Ab ([]))] false,.box [i64 a.2.1] false,.box [i64 a.2.2] false,.box [.sl false (L Aa w.l),i64 w.end_] false],_,_)]) trivial ⟨(wc (PCon.to (D0 al) rfl) [3]),trivial⟩),?_⟩ ?_
 ·simp only[go_sem]
 revert h;intro h;replace h:=An h;obtain⟨aA,am,h⟩:=h;rcases aA with x|j
 rotate_left
 ·dsimp only at h;refine B9 hE [2,3,4] 1 _ (v:=.iface 104 (.agg #[.int .i64 j.1,.int .i64 j.2.1])) (σ2:=[.box [.str c.1,i64 0,.sl true (L Ab ([]))] false,.box [i64 a.2.1] false,.box [i64 a.2.2] false,.box [.sl false (L Aa j.2.2.l),i64 j.2.2.end_] false]) (vals:=[.ref 0 0,.ref 1 0,.ref 2 0]) rfl rfl ⟨_,[(31,47,[.ref 3 0,.str ([102,111,114]:List UInt8)],[.box [.str c.1,i64 0,.sl true (L Ab ([]))] false,.box [i64 a.2.1] false,.box [i64 a.2.2] false,.box [.sl false (L Aa c.2.l),i64 c.2.end_] false],.val (.iface 104 (.agg #[.int .i64 j.1,.int .i64 j.2.1])),[.box [.str c.1,i64 0,.sl true (L Ab ([]))] false,.box [i64 a.2.1] false,.box [i64 a.2.2] false,.box [.sl false (L Aa j.2.2.l),i64 j.2.2.end_] false])],Ac,⟨fun v hv=>by cases hv;exact A5 (PCon.pan (Am am) rfl) [3] (by decide) gs gs gs gs,trivial⟩,?_⟩ (fun fr_ hlen_ hfr_=>?_)
  ·simp only[go_sem]
  obtain rfl:=Ao1 h;refine AG (Weak.refl _ _) ?_;refine⟨_,[.box [.junk,.junk,.junk] false,.box [.junk] false,.box [.junk] false],_,[.box [.str ([]:List UInt8),i64 0,.sl true (L Ab ([]))] false,.box [i64 j.1] false,.box [i64 j.2.1] false,.box [i64 j.1,i64 j.2.1] false],[.agg [.str ([]:List UInt8),i64 0,.sl true (L Ab ([]))],i64 j.1,i64 j.2.1],hlen_,.inr ⟨_,rfl,rfl⟩,?_,Jy,rfl,?_,⟨⟨rfl,.inl ⟨0,0,rfl,rfl,rfl⟩⟩,⟨rfl,.inl ⟨1,1,rfl,rfl,rfl⟩⟩,⟨rfl,.inl ⟨2,2,rfl,rfl,rfl⟩⟩,trivial⟩,AcH ?_,?_⟩
  ·simp only[go_sem]
  ·simp only[ApE,Aqk,Aqz]at hfr_;exact⟨hfr_.1,hfr_.2.1,hfr_.2.2.1,trivial⟩
  ·simp only[go_sem]
  simp only[go_sem]
 dsimp only at h;refine AJ hE [2,3,4,6] (fr':=[(2,.ref 0 0),(3,.ref 1 0),(4,.ref 2 0),(6,.ref 3 0)]) (O':=[.box [.str c.1,i64 0,.sl true (L Ab ([]))] false,.box [i64 a.2.1] false,.box [i64 a.2.2] false,.box [.sl false (L Aa x.l),i64 x.end_] false]) ⟨_,(Ag (l:=[]) (m:=[(31,47,[.ref 3 0,.str ([102,111,114]:List UInt8)],[.box [.str c.1,i64 0,.sl true (L Ab ([]))] false,.box [i64 a.2.1] false,.box [i64 a.2.2] false,.box [.sl false (L Aa c.2.l),i64 c.2.end_] false],_,_)]) trivial ⟨(wc (PCon.to (Am am) rfl) [3]),trivial⟩),?_⟩ ?_
 ·simp only[go_sem]
 revert h;intro h;replace h:=An h;obtain⟨aB,an,h⟩:=h;rcases aB with e|k
 rotate_left
 ·dsimp only at h;refine B9 hE [2,3,4] 1 _ (v:=.iface 104 (.agg #[.int .i64 k.1,.int .i64 k.2.1])) (σ2:=[.box [.str c.1,i64 0,.sl true (L Ab ([]))] false,.box [i64 a.2.1] false,.box [i64 a.2.2] false,.box [.sl false (L Aa k.2.2.l),i64 k.2.2.end_] false]) (vals:=[.ref 0 0,.ref 1 0,.ref 2 0]) rfl rfl ⟨_,[(33,49,[.ref 3 0,.str ([104,105,114,101,32,100,101,109,117,114,114,97,103,101,32,102,114,101,105,103,104,116,32,114,101,112,97,105,114,32,108,111,115,115,32,99,108,101,97,110,105,110,103]:List UInt8)],[.box [.str c.1,i64 0,.sl true (L Ab ([]))] false,.box [i64 a.2.1] false,.box [i64 a.2.2] false,.box [.sl false (L Aa x.l),i64 x.end_] false],.val (.iface 104 (.agg #[.int .i64 k.1,.int .i64 k.2.1])),[.box [.str c.1,i64 0,.sl true (L Ab ([]))] false,.box [i64 a.2.1] false,.box [i64 a.2.2] false,.box [.sl false (L Aa k.2.2.l),i64 k.2.2.end_] false])],Ac,⟨fun v hv=>by cases hv;exact A5 (PCon.pan (Bf an) rfl) [3] (by decide) gs gs gs gs,trivial⟩,?_⟩ (fun fr_ hlen_ hfr_=>?_)
  ·simp only[go_sem]
  obtain rfl:=Ao1 h;refine AG (Weak.refl _ _) ?_;refine⟨_,[.box [.junk,.junk,.junk] false,.box [.junk] false,.box [.junk] false],_,[.box [.str ([]:List UInt8),i64 0,.sl true (L Ab ([]))] false,.box [i64 k.1] false,.box [i64 k.2.1] false,.box [i64 k.1,i64 k.2.1] false],[.agg [.str ([]:List UInt8),i64 0,.sl true (L Ab ([]))],i64 k.1,i64 k.2.1],hlen_,.inr ⟨_,rfl,rfl⟩,?_,Jy,rfl,?_,⟨⟨rfl,.inl ⟨0,0,rfl,rfl,rfl⟩⟩,⟨rfl,.inl ⟨1,1,rfl,rfl,rfl⟩⟩,⟨rfl,.inl ⟨2,2,rfl,rfl,rfl⟩⟩,trivial⟩,AcH ?_,?_⟩
  ·simp only[go_sem]
  ·simp only[ApE,Aqk,Aqz]at hfr_;exact⟨hfr_.1,hfr_.2.1,hfr_.2.2.1,trivial⟩
  ·simp only[go_sem]
  simp only[go_sem]
 dsimp only at h;refine AJ hE [2,3,4,6] (fr':=[(2,.ref 0 0),(3,.ref 1 0),(4,.ref 2 0),(6,.ref 3 0)]) (O':=[.box [.str c.1,i64 (w64 (1+e.1)),.sl true (L Ab ([]))] false,.box [i64 a.2.1] false,.box [i64 a.2.2] false,.box [.sl false (L Aa e.2.l),i64 e.2.end_] false]) ⟨_,(Ag (l:=[]) (m:=[(33,49,[.ref 3 0,.str ([104,105,114,101,32,100,101,109,117,114,114,97,103,101,32,102,114,101,105,103,104,116,32,114,101,112,97,105,114,32,108,111,115,115,32,99,108,101,97,110,105,110,103]:List UInt8)],[.box [.str c.1,i64 0,.sl true (L Ab ([]))] false,.box [i64 a.2.1] false,.box [i64 a.2.2] false,.box [.sl false (L Aa x.l),i64 x.end_] false],_,_)]) trivial ⟨(wc (PCon.to (Bf an) rfl) [3]),trivial⟩),?_⟩ ?_
 ·simp only[go_sem]
 revert h;intro h;replace h:=An h;obtain⟨aC,ao,h⟩:=h;rcases aC with aa|n
 rotate_left
 ·dsimp only at h;refine B9 hE [2,3,4] 1 _ (v:=.iface 104 (.agg #[.int .i64 n.1,.int .i64 n.2.1])) (σ2:=[.box [.str c.1,i64 (w64 (1+e.1)),.sl true (L Ab ([]))] false,.box [i64 a.2.1] false,.box [i64 a.2.2] false,.box [.sl false (L Aa n.2.2.l),i64 n.2.2.end_] false]) (vals:=[.ref 0 0,.ref 1 0,.ref 2 0]) rfl rfl ⟨_,[(37,47,[.ref 3 0,.str ([123]:List UInt8)],[.box [.str c.1,i64 (w64 (1+e.1)),.sl true (L Ab ([]))] false,.box [i64 a.2.1] false,.box [i64 a.2.2] false,.box [.sl false (L Aa e.2.l),i64 e.2.end_] false],.val (.iface 104 (.agg #[.int .i64 n.1,.int .i64 n.2.1])),[.box [.str c.1,i64 (w64 (1+e.1)),.sl true (L Ab ([]))] false,.box [i64 a.2.1] false,.box [i64 a.2.2] false,.box [.sl false (L Aa n.2.2.l),i64 n.2.2.end_] false])],Ac,⟨fun v hv=>by cases hv;exact A5 (PCon.pan (Am ao) rfl) [3] (by decide) gs gs gs gs,trivial⟩,?_⟩ (fun fr_ hlen_ hfr_=>?_)
  ·simp only[go_sem]
  obtain rfl:=Ao1 h;refine AG (Weak.refl _ _) ?_;refine⟨_,[.box [.junk,.junk,.junk] false,.box [.junk] false,.box [.junk] false],_,[.box [.str ([]:List UInt8),i64 0,.sl true (L Ab ([]))] false,.box [i64 n.1] false,.box [i64 n.2.1] false,.box [i64 n.1,i64 n.2.1] false],[.agg [.str ([]:List UInt8),i64 0,.sl true (L Ab ([]))],i64 n.1,i64 n.2.1],hlen_,.inr ⟨_,rfl,rfl⟩,?_,Jy,rfl,?_,⟨⟨rfl,.inl ⟨0,0,rfl,rfl,rfl⟩⟩,⟨rfl,.inl ⟨1,1,rfl,rfl,rfl⟩⟩,⟨rfl,.inl ⟨2,2,rfl,rfl,rfl⟩⟩,trivial⟩,AcH ?_,?_⟩
  ·simp only[go_sem]
  ·simp only[ApE,Aqk,Aqz]at hfr_;exact⟨hfr_.1,hfr_.2.1,hfr_.2.2.1,trivial⟩
  ·simp only[go_sem]
  simp only[go_sem]
 dsimp only at h;refine AJ hE [2,3,4,6] (fr':=[(2,.ref 0 0),(3,.ref 1 0),(4,.ref 2 0),(6,.ref 3 0)]) (O':=[.box [.str c.1,i64 (w64 (1+e.1)),.sl true (L Ab ([]))] false,.box [i64 a.2.1] false,.box [i64 a.2.2] false,.box [.sl false (L Aa aa.l),i64 aa.end_] false]) ⟨_,(Ag (l:=[]) (m:=[(37,47,[.ref 3 0,.str ([123]:List UInt8)],[.box [.str c.1,i64 (w64 (1+e.1)),.sl true (L Ab ([]))] false,.box [i64 a.2.1] false,.box [i64 a.2.2] false,.box [.sl false (L Aa e.2.l),i64 e.2.end_] false],_,_)]) trivial ⟨(wc (PCon.to (Am ao) rfl) [3]),trivial⟩),?_⟩ ?_
 ·simp only[go_sem]
 revert h;refine Jo (fun⟨ab,ac,d⟩=>⟨Al 71 [(2,.ref 0 0),(3,.ref 1 0),(4,.ref 2 0),(6,.ref 3 0)],[.box [.str c.1,i64 (w64 (1+e.1)),.bs false 4 (d.length) 0 (d.length)] false,.box [i64 a.2.1] false,.box [i64 a.2.2] false,.box [.sl false (L Aa ab),i64 ac] false,.buf 9 (L Ab d) false]⟩) ?_ ?_
 ·intro aL ap;refine Bd fun aM aD =>Te [2,3,4,6,7] (Ag (l:=[]) (m:=[(39,50,[.ref 3 0],[.box [.str c.1,i64 (w64 (1+e.1)),.sl true (L Ab ([]))] false,.box [i64 a.2.1] false,.box [i64 a.2.2] false,.box [.sl false (L Aa aa.l),i64 aa.end_] false],_,_)]) trivial ⟨(wc (BN aD) [3]),trivial⟩) Ev ?_
  refine Sb ?_;refine Lo (fun⟨u,ad,ae,f⟩=>⟨Al 71 [(2,.ref 0 0),(3,.ref 1 0),(4,.ref 2 0),(6,.ref 3 0),(7,i64 u)],[.box [.str c.1,i64 (w64 (1+e.1)),.bs false 4 (f.length) 0 (f.length)] false,.box [i64 a.2.1] false,.box [i64 a.2.2] false,.box [.sl false (L Aa ad),i64 ae] false,.buf 9 (L Ab f) false]⟩) ((Ib 0 2 9 rfl rfl).trans (ws [0,1,2,3,4])) ?_;rintro⟨u,ad,ae,f⟩ aN aE ah ai;show EP u ad ae f=some aE->_;unfold EP;refine Sq <|Bd fun t aF =>Te [2,3,4,6,7,41] (Ag (l:=[]) (m:=[(41,51,[.ref 3 0,.str ([99,108,97,117,115,101]:List UInt8)],[.box [.str c.1,i64 (w64 (1+e.1)),.bs false 4 (f.length) 0 (f.length)] false,.box [i64 a.2.1] false,.box [i64 a.2.2] false,.box [.sl false (L Aa ad),i64 ae] false,.buf 9 (L Ab f) false],_,_)]) trivial ⟨(wc (A4 aF) [3]),trivial⟩) Ev ?_
  refine Cd ?_ ?_
  ·refine Sk <|Tn <|Sq <|Sb <|Sq <|T0 [2,3,4,6,7,47] ?_
   refine Cd ?_ ?_
   ·intro h;refine DI hE [2,3,4] 3 _ (v:=.iface 104 (.agg #[.int .i64 u,.int .i64 2])) (σ2:=[.box [.str c.1,i64 (w64 (1+e.1)),.bs false 4 (f.length) 0 (f.length)] false,.box [i64 a.2.1] false,.box [i64 a.2.2] false,.box [.sl false (L Aa t.2.l),i64 t.2.end_] false,.buf 9 (L Ab f) false]) (vals:=[.ref 0 0,.ref 1 0,.ref 2 0]) rfl rfl ⟨_,[],Ac,trivial,?_⟩ (fun fr_ hlen_ hfr_=>?_)
    ·simp only[go_sem]
    refine Em ?_;refine E9 ?_;refine Em ?_;refine VM ?_;replace h:=An h;obtain⟨aO,h,e_z_3627⟩:=h;obtain rfl:=Ao1 e_z_3627;have ex_z_3627:=ai _ rfl;subst ex_z_3627;obtain rfl:=Ao1 ah;refine E9 ?_;refine Hm ?_;replace h:=An h;obtain⟨aP,h,e_z_3626⟩:=h;obtain rfl:=Ao1 e_z_3626;obtain rfl:=Ao1 ap;obtain rfl:=Ao1 h;refine AG (Weak.refl _ _) ?_;refine⟨_,[.box [.junk,.junk,.junk] false,.box [.junk] false,.box [.junk] false],_,[.box [.str ([]:List UInt8),i64 0,.sl true (L Ab ([]))] false,.box [i64 u] false,.box [i64 2] false,.box [i64 u,i64 2] false],[.agg [.str ([]:List UInt8),i64 0,.sl true (L Ab ([]))],i64 u,i64 2],hlen_,.inr ⟨_,rfl,rfl⟩,?_,Jy,rfl,?_,⟨⟨rfl,.inl ⟨0,0,rfl,rfl,rfl⟩⟩,⟨rfl,.inl ⟨1,1,rfl,rfl,rfl⟩⟩,⟨rfl,.inl ⟨2,2,rfl,rfl,rfl⟩⟩,trivial⟩,AcH ?_,?_⟩
    ·simp only[go_sem]
    ·simp only[ApE,Aqk,Aqz]at hfr_;exact⟨hfr_.1,hfr_.2.1,hfr_.2.2.1,trivial⟩
    ·simp only[go_sem]
    simp only[go_sem]
   refine Sk <|Tn <|?_
   intro h;replace h:=An h;obtain⟨aG,aq,h⟩:=h;rcases aG with af|o
   rotate_left
   ·dsimp only at h;refine Kp hE H8 [2,3,4] rfl [[],[0],[],[],[3],[2,3,4],[2,3,4,5],[0,1,2,3,4,5,6],[0,1,2,3,4,5,6,7],[0,1,2,3,4,5,6,7,8]] (by kernel_rfl) 5 (by kernel_rfl) (by kernel_rfl) _ (v:=.iface 104 (.agg #[.int .i64 o.1,.int .i64 o.2.1])) (σ2:=[.box [.str c.1,i64 (w64 (1+e.1)),.bs false 4 (f.length) 0 (f.length)] false,.box [i64 a.2.1] false,.box [i64 a.2.2] false,.box [.sl false (L Aa o.2.2.l),i64 o.2.2.end_] false,.buf 9 (L Ab f) false]) (vals:=[.ref 0 0,.ref 1 0,.ref 2 0]) rfl rfl ⟨_,[(56,52,[.ref 3 0,.bs false 4 (f.length) 0 (f.length)],[.box [.str c.1,i64 (w64 (1+e.1)),.bs false 4 (f.length) 0 (f.length)] false,.box [i64 a.2.1] false,.box [i64 a.2.2] false,.box [.sl false (L Aa t.2.l),i64 t.2.end_] false,.buf 9 (L Ab f) false],.val (.iface 104 (.agg #[.int .i64 o.1,.int .i64 o.2.1])),[.box [.str c.1,i64 (w64 (1+e.1)),.bs false 4 (f.length) 0 (f.length)] false,.box [i64 a.2.1] false,.box [i64 a.2.2] false,.box [.sl false (L Aa o.2.2.l),i64 o.2.2.end_] false,.buf 9 (L Ab f) false])],Ac,⟨fun v hv=>by cases hv;exact A5 (PCon.pan (FS aq) rfl) [3,4] (by decide) gs gs gs gs,trivial⟩,?_⟩ (fun fr_ hlen_ hfr_=>?_)
    ·simp only[go_sem]
    refine E9 ?_;refine Em ?_;refine VM ?_;replace h:=An h;obtain⟨aQ,h,e_z_3633⟩:=h;obtain rfl:=Ao1 e_z_3633;have ex_z_3633:=ai _ rfl;subst ex_z_3633;obtain rfl:=Ao1 ah;refine E9 ?_;refine Hm ?_;replace h:=An h;obtain⟨aR,h,e_z_3632⟩:=h;obtain rfl:=Ao1 e_z_3632;obtain rfl:=Ao1 ap;obtain rfl:=Ao1 h;refine AG (Weak.refl _ _) ?_;refine⟨_,[.box [.junk,.junk,.junk] false,.box [.junk] false,.box [.junk] false],_,[.box [.str ([]:List UInt8),i64 0,.sl true (L Ab ([]))] false,.box [i64 o.1] false,.box [i64 o.2.1] false,.box [i64 o.1,i64 o.2.1] false],[.agg [.str ([]:List UInt8),i64 0,.sl true (L Ab ([]))],i64 o.1,i64 o.2.1],hlen_,.inr ⟨_,rfl,rfl⟩,?_,Jy,rfl,?_,⟨⟨rfl,.inl ⟨0,0,rfl,rfl,rfl⟩⟩,⟨rfl,.inl ⟨1,1,rfl,rfl,rfl⟩⟩,⟨rfl,.inl ⟨2,2,rfl,rfl,rfl⟩⟩,trivial⟩,AcH ?_,?_⟩
    ·simp only[go_sem]
    ·simp only[ApE,Aqk,Aqz]at hfr_;exact⟨hfr_.1,hfr_.2.1,hfr_.2.2.1,trivial⟩
    ·simp only[go_sem]
    simp only[go_sem]
   dsimp only at h;replace h:=J4 h;obtain⟨aj,h⟩:=h;replace h:=KE h;obtain⟨y,ar,h⟩:=h;refine MU hE H8 [[],[0],[],[],[3],[2,3,4],[2,3,4,5],[0,1,2,3,4,5,6],[0,1,2,3,4,5,6,7],[0,1,2,3,4,5,6,7,8]] (by kernel_rfl) 5 [0,1] [2,3,4,6,51] (by kernel_rfl) (Fc E6) (fr':=[(2,.ref 0 0),(3,.ref 1 0),(4,.ref 2 0),(6,.ref 3 0),(51,.ref 0 2)]) (O':=[.box [.str c.1,i64 (w64 (1+e.1)),.bs false 4 (y.length) 0 (y.length)] false,.box [i64 a.2.1] false,.box [i64 a.2.2] false,.box [.sl false (L Aa af.2.l),i64 af.2.end_] false,.buf 9 (L Ab y) false]) ⟨_,_,_,_,_,_,_,rfl,?_,(Ag (l:=[]) (m:=[(56,52,[.ref 3 0,.bs false 4 (f.length) 0 (f.length)],[.box [.str c.1,i64 (w64 (1+e.1)),.bs false 4 (f.length) 0 (f.length)] false,.box [i64 a.2.1] false,.box [i64 a.2.2] false,.box [.sl false (L Aa t.2.l),i64 t.2.end_] false,.buf 9 (L Ab f) false],_,_)]) trivial ⟨(wc (PCon.to (FS aq) rfl) [3,4]),trivial⟩),?_⟩ ?_
   ·subst ar;simp only[go_sem,aj]
   ·subst ar;first|(simp only[go_sem,aj];done)|(simp only[go_sem,aj];simp only[AqI 1])
   revert h;refine Bn <|Tn <|Bd fun aS aH =>Fe [2,3,4,6,7] (Ag (l:=[]) (m:=[(43,50,[.ref 3 0],[.box [.str c.1,i64 (w64 (1+e.1)),.bs false 4 (y.length) 0 (y.length)] false,.box [i64 a.2.1] false,.box [i64 a.2.2] false,.box [.sl false (L Aa af.2.l),i64 af.2.end_] false,.buf 9 (L Ab y) false],_,_)]) trivial ⟨(wc (BN aH) [3]),trivial⟩) Ev ?_
   exact Ln (ws [0,1,2,3,4])
  refine Sx <|Tx <|Lx ai ah <|Bx <|?_
  exact Jn ((ws (l':=[(2,.ref 0 0),(3,.ref 1 0),(4,.ref 2 0),(6,.ref 3 0)]) (O':=[.box [.str c.1,i64 (w64 (1+e.1)),.bs false 4 (f.length) 0 (f.length)] false,.box [i64 a.2.1] false,.box [i64 a.2.2] false,.box [.sl false (L Aa t.2.l),i64 t.2.end_] false,.buf 9 (L Ab f) false]) [0,1,2,3,4]).trans (ws [0,1,2,3,4]))
 rintro⟨ab,ac,d⟩;intro h;replace h:=An h;obtain⟨aI,au,h⟩:=h;rcases aI with z|p
 rotate_left
 ·dsimp only at h;refine B9 hE [2,3,4] 1 _ (v:=.iface 104 (.agg #[.int .i64 p.1,.int .i64 p.2.1])) (σ2:=[.box [.str c.1,i64 (w64 (1+e.1)),.bs false 4 (d.length) 0 (d.length)] false,.box [i64 a.2.1] false,.box [i64 a.2.2] false,.box [.sl false (L Aa p.2.2.l),i64 p.2.2.end_] false,.buf 9 (L Ab d) false]) (vals:=[.ref 0 0,.ref 1 0,.ref 2 0]) rfl rfl ⟨_,[(61,47,[.ref 3 0,.str ([125]:List UInt8)],[.box [.str c.1,i64 (w64 (1+e.1)),.bs false 4 (d.length) 0 (d.length)] false,.box [i64 a.2.1] false,.box [i64 a.2.2] false,.box [.sl false (L Aa ab),i64 ac] false,.buf 9 (L Ab d) false],.val (.iface 104 (.agg #[.int .i64 p.1,.int .i64 p.2.1])),[.box [.str c.1,i64 (w64 (1+e.1)),.bs false 4 (d.length) 0 (d.length)] false,.box [i64 a.2.1] false,.box [i64 a.2.2] false,.box [.sl false (L Aa p.2.2.l),i64 p.2.2.end_] false,.buf 9 (L Ab d) false])],Ac,⟨fun v hv=>by cases hv;exact A5 (PCon.pan (Am au) rfl) [3] (by decide) gs gs gs gs,trivial⟩,?_⟩ (fun fr_ hlen_ hfr_=>?_)
  ·simp only[go_sem]
  obtain rfl:=Ao1 h;refine AG (Weak.refl _ _) ?_;refine⟨_,[.box [.junk,.junk,.junk] false,.box [.junk] false,.box [.junk] false],_,[.box [.str ([]:List UInt8),i64 0,.sl true (L Ab ([]))] false,.box [i64 p.1] false,.box [i64 p.2.1] false,.box [i64 p.1,i64 p.2.1] false],[.agg [.str ([]:List UInt8),i64 0,.sl true (L Ab ([]))],i64 p.1,i64 p.2.1],hlen_,.inr ⟨_,rfl,rfl⟩,?_,Jy,rfl,?_,⟨⟨rfl,.inl ⟨0,0,rfl,rfl,rfl⟩⟩,⟨rfl,.inl ⟨1,1,rfl,rfl,rfl⟩⟩,⟨rfl,.inl ⟨2,2,rfl,rfl,rfl⟩⟩,trivial⟩,AcH ?_,?_⟩
  ·simp only[go_sem]
  ·simp only[ApE,Aqk,Aqz]at hfr_;exact⟨hfr_.1,hfr_.2.1,hfr_.2.2.1,trivial⟩
  ·simp only[go_sem]
  simp only[go_sem]
 dsimp only at h;refine AJ hE [2,3,4,6] (fr':=[(2,.ref 0 0),(3,.ref 1 0),(4,.ref 2 0),(6,.ref 3 0)]) (O':=[.box [.str c.1,i64 (w64 (1+e.1)),.bs false 4 (d.length) 0 (d.length)] false,.box [i64 a.2.1] false,.box [i64 a.2.2] false,.box [.sl false (L Aa z.l),i64 z.end_] false,.buf 9 (L Ab d) false]) ⟨_,(Ag (l:=[]) (m:=[(61,47,[.ref 3 0,.str ([125]:List UInt8)],[.box [.str c.1,i64 (w64 (1+e.1)),.bs false 4 (d.length) 0 (d.length)] false,.box [i64 a.2.1] false,.box [i64 a.2.2] false,.box [.sl false (L Aa ab),i64 ac] false,.buf 9 (L Ab d) false],_,_)]) trivial ⟨(wc (PCon.to (Am au) rfl) [3]),trivial⟩),?_⟩ ?_
 ·simp only[go_sem]
 revert h;refine Jo (fun _=>⟨Al 71 [(2,.ref 0 0),(3,.ref 1 0),(4,.ref 2 0)],[.box [.str c.1,i64 (w64 (1+e.1)),.bs false 3 (d.length) 0 (d.length)] false,.box [i64 a.2.1] false,.box [i64 a.2.2] false,.buf 9 (L Ab d) false]⟩) ?_ ?_
 ·intro aT aJ;refine T0 [2,3,4,6,67] ?_;refine Cd ?_ ?_
  ·intro h;replace h:=An h;obtain⟨aK,av,h⟩:=h;rcases aK with aw|q
   rotate_left
   ·dsimp only at h;refine DI hE [2,3,4] 1 _ (v:=.iface 104 (.agg #[.int .i64 q.1,.int .i64 q.2.1])) (σ2:=[.box [.str c.1,i64 (w64 (1+e.1)),.bs false 4 (d.length) 0 (d.length)] false,.box [i64 a.2.1] false,.box [i64 a.2.2] false,.box [.sl false (L Aa q.2.2.l),i64 q.2.2.end_] false,.buf 9 (L Ab d) false]) (vals:=[.ref 0 0,.ref 1 0,.ref 2 0]) rfl rfl ⟨_,[(69,53,[.ref 3 0],[.box [.str c.1,i64 (w64 (1+e.1)),.bs false 4 (d.length) 0 (d.length)] false,.box [i64 a.2.1] false,.box [i64 a.2.2] false,.box [.sl false (L Aa z.l),i64 z.end_] false,.buf 9 (L Ab d) false],.val (.iface 104 (.agg #[.int .i64 q.1,.int .i64 q.2.1])),[.box [.str c.1,i64 (w64 (1+e.1)),.bs false 4 (d.length) 0 (d.length)] false,.box [i64 a.2.1] false,.box [i64 a.2.2] false,.box [.sl false (L Aa q.2.2.l),i64 q.2.2.end_] false,.buf 9 (L Ab d) false])],Ac,⟨fun v hv=>by cases hv;exact A5 (PCon.pan (AA av) rfl) [3] (by decide) gs gs gs gs,trivial⟩,?_⟩ (fun fr_ hlen_ hfr_=>?_)
    ·simp only[go_sem]
    refine Hm ?_;replace h:=An h;obtain⟨aU,h,e_z_3655⟩:=h;obtain rfl:=Ao1 e_z_3655;obtain rfl:=Ao1 aJ;obtain rfl:=Ao1 h;refine AG (Weak.refl _ _) ?_;refine⟨_,[.box [.junk,.junk,.junk] false,.box [.junk] false,.box [.junk] false],_,[.box [.str ([]:List UInt8),i64 0,.sl true (L Ab ([]))] false,.box [i64 q.1] false,.box [i64 q.2.1] false,.box [i64 q.1,i64 q.2.1] false],[.agg [.str ([]:List UInt8),i64 0,.sl true (L Ab ([]))],i64 q.1,i64 q.2.1],hlen_,.inr ⟨_,rfl,rfl⟩,?_,Jy,rfl,?_,⟨⟨rfl,.inl ⟨0,0,rfl,rfl,rfl⟩⟩,⟨rfl,.inl ⟨1,1,rfl,rfl,rfl⟩⟩,⟨rfl,.inl ⟨2,2,rfl,rfl,rfl⟩⟩,trivial⟩,AcH ?_,?_⟩
    ·simp only[go_sem]
    ·simp only[ApE,Aqk,Aqz]at hfr_;exact⟨hfr_.1,hfr_.2.1,hfr_.2.2.1,trivial⟩
    ·simp only[go_sem]
    simp only[go_sem]
   dsimp only at h;refine D5 hE G8 [2,3,4] (fr':=[(2,.ref 0 0),(3,.ref 1 0),(4,.ref 2 0)]) (O':=[.box [.str c.1,i64 (w64 (1+e.1)),.bs false 4 (d.length) 0 (d.length)] false,.box [i64 a.2.1] false,.box [i64 a.2.2] false,.box [.sl false (L Aa aw.l),i64 aw.end_] false,.buf 9 (L Ab d) false]) ⟨_,(Ag (l:=[]) (m:=[(69,53,[.ref 3 0],[.box [.str c.1,i64 (w64 (1+e.1)),.bs false 4 (d.length) 0 (d.length)] false,.box [i64 a.2.1] false,.box [i64 a.2.2] false,.box [.sl false (L Aa z.l),i64 z.end_] false,.buf 9 (L Ab d) false],_,_)]) trivial ⟨(wc (PCon.to (AA av) rfl) [3]),trivial⟩),?_⟩ ?_
   ·simp only[go_sem]
   revert h;exact Jn (ws [0,1,2,4])
  exact Sk <|Jn (ws [0,1,2,4])
 intro _;refine T0 [2,3,4] ?_;refine Sr ?_;intro h;obtain rfl:=Ao1 h;refine AG ((Kv 0 2 rfl rfl rfl gs gs).trans (Weak.refl _ _)) ?_;refine⟨_,[.box [.str c.1,i64 (w64 (1+e.1)),.sl false (L Ab d)] false,.box [i64 0] false,.box [i64 0] false],_,[.box [.str c.1,i64 (w64 (1+e.1)),.sl false (L Ab d)] false,.box [i64 0] false,.box [i64 0] false,.box [i64 0,i64 0] false],[.agg [.str c.1,i64 (w64 (1+e.1)),.sl false (L Ab d)],i64 0,i64 0],Oe _ _,.inl ⟨.inr rfl,rfl⟩,?_,AeG,rfl,?_,⟨⟨rfl,.inl ⟨0,0,rfl,rfl,rfl⟩⟩,⟨rfl,.inl ⟨1,1,rfl,rfl,rfl⟩⟩,⟨rfl,.inl ⟨2,2,rfl,rfl,rfl⟩⟩,trivial⟩,AcH ?_,?_⟩
 ·simp only[go_sem]
 ·simp only[go_sem]
 ·simp only[go_sem]
 simp only[go_sem]
theorem NS{a:List UInt8}{r:AoO×Int×Int}(h:ED a=some r):Con (B rs) 22 [.str a] [] (fun r' O'=>r'=.tup [.agg (Af r.1),i64 r.2.1,i64 r.2.2]/\O'=[]):=by
 unfold ED at h;split at h
 ·rename_i r' e;obtain rfl:=Ao1 h;exact Mb e
 exact Mi h
end Go.Proofs.YtldngkmkhfddpaaGreatDoor
