/-
  Part 49.
-/
import Derived.Test.YtldngkmkhfddpaaGreatDoorProg
import Derived.Test.YtldngkmkhfddpaaGreatDoorYX44
import Derived.Test.YtldngkmkhfddpaaGreatDoorYX48
import Derived.KernelRfl
import Derived.Shelf.Strconv.Itoa3
import Derived.Lib.AppendIntMem
import Derived.Shelf.Strings.Builder1
import Derived.Shelf.Strings.Builder2
import Derived.Lib.Join
import Derived.BigCall
import Derived.BigGuard
namespace Go.Proofs.YtldngkmkhfddpaaGreatDoor
open Go.Rv
set_option linter.unusedVariables false
set_option linter.unusedSimpArgs false
set_option maxRecDepth 20000
variable {rs:AoO}
set_option maxHeartbeats 4000000
theorem FY{d e r}(h:Fy d e=some r):Con (B rs) 14 [i64 d,i64 e] [] (fun r' O'=>r'=.bool r/\O'=[]):=by
 refine Cw 19 [.tmp 4] Tryz.func14 (fun F hE=>?_) h;unfold Fy;refine T0 [0,1] ?_;refine Tw [4] (fun f=>⟨Ai 19 [(4,.bool f)],[]⟩) ?_ ?_
 ·intro _;refine Sp (fun a=>?_) fun a=>?_
  ·refine Sp (fun b=>?_) fun b=>?_
   ·refine Sp (fun c=>?_) fun c=>?_
    ·exact Lf Ab (Ew3 a b c) (ws [])
    exact Lf Ab (Ew3 a b c) (ws [])
   exact Lf Ab (Ew2 a b) (ws [])
  exact Lf Ab (Ew1 a) (ws [])
 intro f;exact Sr <|Rr
theorem JD{a r}(h:Hb a=some r):Con (B rs) 78 [i64 a] [] (fun r' O'=>r'=.bool r/\O'=[]):=by
 refine Cw 6 [.tmp 2] Tryz.func78 (fun F hE=>?_) h;unfold Hb;refine T0 [0] ?_;refine T0 [2] ?_;exact Sr <|Rr
theorem Gu{a b r}(h:DH a b=some r):Con (B rs) 35 [i64 a,i64 b] [] (fun r' O'=>r'=i64 r/\O'=[]):=by
 refine Cw 20 [.tmp 4] Tryz.func35 (fun F hE=>?_) h;unfold DH;refine T0 [0,1] ?_;refine Bd fun e c =>Te [0,1,5] (o1 8 (JD c)) Ev ?_
 refine Bd fun f d =>Te [0,1,5,6] (o1 10 (JD d)) Ev ?_
 refine Sq <|T0 [0,1,6,11] ?_
 refine Cd ?_ ?_
 ·refine Sq <|T0 [12] ?_
  refine Cd ?_ ?_
  ·refine T0 [4] ?_;exact Sr <|Tr <|Tr <|Rr
  refine Sk <|Tn <|T0 [4] ?_
  exact Sr <|Tr <|Rr
 refine Sk <|Tn <|Sq <|T0 [0,1,13] ?_
 refine Cd ?_ ?_
 ·refine T0 [4] ?_;exact Sr <|Tr <|Rr
 refine Sk <|Tn <|Sq <|T0 [0,1,16] ?_
 refine Cd ?_ ?_
 ·refine T0 [4] ?_;exact Sr <|Tr <|Rr
 refine Sk <|Tn <|Sq <|T0 [19] ?_
 refine Cd ?_ ?_
 ·refine T0 [4] ?_;exact Sr <|Tr <|Rr
 refine Sk <|Tn <|T0 [4] ?_
 exact Sr <|Rr
theorem RL{a r}(h:Kn a=some r):Con (B rs) 34 [.sl false (L IA a)] [] (fun r' O'=>r'=i64 r/\O'=[]):=by
 refine Cw 18 [.tmp 2] Tryz.func34 (fun F hE=>?_) h;unfold Kn;refine T0 [0] ?_;refine T0 [0,3] ?_;refine Jo (fun _=>⟨Ai 18 [(3,i64 0)],[]⟩) ?_ ?_
 ·intro i e;refine T0 [3,6,7,8] ?_;refine Sb ?_;refine Lo (fun b=>⟨Ai 18 [(3,i64 0),(6,.sl false (L IA a)),(7,i64 (a.length:Int)),(8,i64 b)],[]⟩) (ws []) ?_;rintro b j f c d;show Ik a b=some f->_;unfold Ik;refine T0 [3,6,7,8,9] ?_;refine Sq <|Cd ?_ ?_
  ·refine Sk <|Tn <|Sq <|Sb <|Ck fun g =>Te [3,5,6,7,8] Ab (Ew1 (qR g)) ?_
   refine T0 [3,5,6,7,8,14] ?_;refine Cd ?_ ?_
   ·refine T0 [2] ?_;exact Sr <|Br <|Tr <|Lr d c <|Br <|Jr e <|Rr
   refine Sk <|Bn <|Tn <|F0 [3,6,7,8] ?_
   exact Ln (ws [])
  refine Sx <|Tx <|Lx d c <|Bx <|?_
  exact Jn ((ws (l':=[(3,i64 0)]) (O':=[]) []).trans (ws []))
 intro _;refine T0 [2] ?_;exact Sr <|Rr
theorem Jv{a b r}(h:BS a b=some r):Con (B rs) 33 [.agg (Ae a),.agg (Ae b)] [] (fun r' O'=>r'=i64 r/\O'=[]):=by
 refine Cw 26 [.tmp 4] Tryz.func33 (fun F hE=>?_) h;unfold BS;refine T0 [2,3] ?_;refine Bd fun g c =>Bd fun i d =>Bd fun j e =>Bd fun k f =>De [[],[0],[0,1],[],[3],[3,4],[0,1,2,3,4,5],[],[7],[],[9],[0,1,2,3,4,5,6,7,8,9,10],[],[12],[12,13],[],[15],[15,16],[0,1,2,3,4,5,6,7,8,9,10,11,12,13,14,15,16,17],[0,1,2,3,4,5,6,7,8,9,10,11,12,13,14,15,16,17,18],[0,1,2,3,4,5,6,7,8,9,10,11,12,13,14,15,16,17,18,19],[0,1,2,3,4,5,6,7,8,9,10,11,12,13,14,15,16,17,18,19,20]] [4] (OM (l:=[(11,_,_,_),(16,_,_,_),(23,_,_,_),(25,_,_,_)]) ⟨Gu  c,Gu  d,Gu  e,RL  f,trivial⟩) Ev ?_
 exact Sr <|Rr
theorem Hl{a r}(h:E8 a=some r):Con (B rs) 107 [i64 a] [] (fun r' O'=>r'=i64 r/\O'=[]):=by
 refine Cw 9 [.tmp 2] Tryz.func107 (fun F hE=>?_) h;unfold E8;refine T0 [0] ?_;refine Sq <|T0 [3] ?_
 refine Sb ?_;refine Ja (fun b=>⟨Ai 9 [(3,i64 a),(4,.bool b)],[]⟩) ?_ ?_
 ·intro c;refine T0 [3,4] ?_;refine Cd ?_ ?_
  ·exact Sk <|Jm (ws [])
  refine F0 [3,4] ?_;exact Jm (ws [])
 intro b;refine Cd ?_ ?_
 ·refine T0 [2] ?_;exact Sr <|Br <|Tr <|Rr
 refine T0 [7] ?_;refine Cd ?_ ?_
 ·refine T0 [2] ?_;exact Sr <|Br <|Tr <|Rr
 refine Sk <|Bn <|Tn <|T0 [2] ?_
 exact Sr <|Rr
theorem L8{a r}(h:EA a=some r):Con (B rs) 143 [i64 a] [] (fun r' O'=>r'=.tup [i64 r.1,i64 r.2]/\O'=[]):=by
 refine Cw 14 [.tmp 2,.tmp 3] Tryz.func143 (fun F hE=>?_) h;unfold EA;refine T0 [0] ?_;refine Sq <|T0 [4] ?_
 refine Sb ?_;refine Ja (fun b=>⟨Ai 14 [(4,i64 a),(5,.bool b)],[]⟩) ?_ ?_
 ·intro c;refine T0 [4,5] ?_;refine Cd ?_ ?_
  ·exact Sk <|Jm (ws [])
  refine T0 [4,5] ?_;refine Cd ?_ ?_
  ·exact Sk <|Jm (ws [])
  refine T0 [4,5] ?_;refine Cd ?_ ?_
  ·exact Sk <|Jm (ws [])
  refine F0 [4,5] ?_;exact Jm (ws [])
 intro b;refine Cd ?_ ?_
 ·refine T0 [2,3] ?_;exact Sr <|Br <|Tr <|Rr
 refine T0 [4,10] ?_;refine Cd ?_ ?_
 ·refine T0 [2,3] ?_;exact Sr <|Br <|Tr <|Rr
 refine T0 [12] ?_;refine Cd ?_ ?_
 ·refine T0 [2,3] ?_;exact Sr <|Br <|Tr <|Rr
 refine Sk <|Bn <|Tn <|T0 [2,3] ?_
 exact Sr <|Rr
theorem NH{a r}(h:Hd a=some r):Con (B rs) 97 [i64 a] [] (fun r' O'=>r'=.tup [i64 r.1,i64 r.2]/\O'=[]):=by
 refine Cw 16 [.tmp 2,.tmp 3] Tryz.func97 (fun F hE=>?_) h;unfold Hd;refine T0 [0] ?_;refine Sq <|T0 [4] ?_
 refine Sb ?_;refine Ja (fun b=>⟨Ai 16 [(4,i64 a),(5,.bool b)],[]⟩) ?_ ?_
 ·intro e;refine T0 [4,5] ?_;refine Cd ?_ ?_
  ·exact Sk <|Jm (ws [])
  refine F0 [4,5] ?_;exact Jm (ws [])
 intro b;refine Cd ?_ ?_
 ·refine T0 [2,3] ?_;exact Sr <|Br <|Tr <|Rr
 refine T0 [4,8] ?_;refine Cd ?_ ?_
 ·refine T0 [2,3] ?_;exact Sr <|Br <|Tr <|Rr
 refine Ja (fun c=>⟨Ai 16 [(4,i64 a),(10,.bool c)],[]⟩) ?_ ?_
 ·intro f;refine T0 [4,10] ?_;refine Cd ?_ ?_
  ·exact Sk <|Jm (ws [])
  refine F0 [4,10] ?_;exact Jm (ws [])
 intro c;refine Cd ?_ ?_
 ·refine T0 [2,3] ?_;exact Sr <|Br <|Tr <|Rr
 refine Ja (fun d=>⟨Ai 16 [(13,.bool d)],[]⟩) ?_ ?_
 ·intro g;refine T0 [4,13] ?_;refine Cd ?_ ?_
  ·exact Sk <|Jm (ws [])
  refine F0 [13] ?_;exact Jm (ws [])
 intro d;refine Cd ?_ ?_
 ·refine T0 [2,3] ?_;exact Sr <|Br <|Tr <|Rr
 refine Sk <|Bn <|Tn <|T0 [2,3] ?_
 exact Sr <|Rr
theorem ND{a r}(h:Ic a=some r):Con (B rs) 95 [.agg [i64 a.Op,i64 a.N,i64 a.M]] [] (fun r' O'=>r'=.bool r/\O'=[]):=by
 refine Cw 49 [.tmp 2] Tryz.func95 (fun F hE=>?_) h;unfold Ic;refine T0 [1] ?_;refine Sq ?_;refine Tw [1,13] (fun g=>⟨Ai 49 [(1,.ref 0 0),(13,.bool g)],[.box [i64 a.Op,i64 a.N,i64 a.M] false]⟩) ?_ ?_
 ·intro _;refine Sp (fun c=>?_) fun c=>?_
  ·exact Lf Ab (Ew1 c) (ws [0])
  exact Lf Ab (Ew1 c) (ws [0])
 intro g;refine Cd ?_ ?_
 ·refine T0 [2] ?_;exact Sr <|Tr <|Rr
 refine Sk <|Tn <|Bd fun d k =>Te [1,3,4] (o1 17 (L8 k)) Ev ?_
 refine T0 [1,3,4,5] ?_;refine Ja (fun e=>⟨Ai 49 [(1,.ref 0 0),(3,i64 d.1),(4,i64 d.2),(5,.ref 1 0)],[.box [i64 a.Op,i64 a.N,i64 a.M] false,.box [i64 a.Op,i64 e,i64 a.M] false]⟩) ?_ ?_
 ·intro l;refine T0 [1,3,4,5,22] ?_;refine Cd ?_ ?_
  ·refine F0 [1,3,4,5] ?_;exact Jm (ws [0,1])
  exact Sk <|Jm (ws [0,1])
 intro e;refine Ja (fun i=>⟨Ai 49 [(1,.ref 0 0),(4,i64 d.2),(5,.ref 1 0)],[.box [i64 a.Op,i64 a.N,i64 a.M] false,.box [i64 a.Op,i64 e,i64 i] false]⟩) ?_ ?_
 ·intro m;refine T0 [1,4,5,25] ?_;refine Cd ?_ ?_
  ·refine F0 [1,4,5] ?_;exact Jm (ws [0,1])
  exact Sk <|Jm (ws [0,1])
 intro i;refine Tw [2] (fun j=>⟨Ai 49 [(2,.bool j)],[]⟩) ?_ ?_
 ·intro _;refine Sp (fun b=>?_) fun b=>?_
  ·refine Sp (fun f=>?_) fun f=>?_
   ·exact Lf Ab (Ew2 b f) (ws [])
   exact Lf Ab (Ew2 b f) (ws [])
  exact Lf Ab (Ew1 b) (ws [])
 intro j;exact Sr <|Rr
theorem IK{a:List Ao1}{c:Ao1->Option (Bool)}{b:Nat}(g:∀{a0:Ao1} {r:Bool},c a0=some r->Con (B rs) b [.agg [i64 a0.Op,i64 a0.N,i64 a0.M]] [] (fun r' O'=>r'=.bool r/\O'=[])){r:Int}(h:DL a c=some r):Con (B rs) 142 [.sl false (L Ak a),.fn b []] [] (fun r' O'=>r'=i64 r/\O'=[]):=by
 refine FA (N:=19) (rs:=[.tmp 4]) ok Tryz.func142 rfl (by decide +kernel) rfl rfl (Apq rfl) (fun F=>?_);have hE:=(ok (rs:=rs)).env F;unfold DL at h;show Run ((B rs).env F) 0 _ ⟨Ai 19 [(0,.sl false (L Ak a)),(1,.fn b [])],[]⟩ _;refine BM ?_;revert h;refine T0 [0,1] ?_;refine Jo (fun _=>⟨Ai 19 [],[]⟩) ?_ ?_
 ·intro m i;refine T0 [0,1,7,8] ?_;refine Sb ?_;refine Lo (fun d=>⟨Ai 19 [(0,.sl false (L Ak a)),(1,.fn b []),(7,i64 (a.length:Int)),(8,i64 d)],[]⟩) (ws []) ?_;rintro d n j e f;show CV a c d=some j->_;unfold CV;refine T0 [0,1,7,8,9] ?_;refine Sq <|Cd ?_ ?_
  ·refine Sk <|Tn <|Sq <|Sb <|T0 [0,1,5,7,8] ?_
   refine Ck fun k =>Bd fun o l =>Te [0,1,5,7,8,16] (o1 16 (g l)) (Ew1 (qR k)) ?_
   refine Cd ?_ ?_
   ·refine T0 [4] ?_;exact Sr <|Br <|Tr <|Lr f e <|Br <|Jr i <|Rr
   refine Sk <|Bn <|Tn <|F0 [0,1,7,8] ?_
   exact Ln (ws [])
  refine Sx <|Tx <|Lx f e <|Bx <|?_
  exact Jn ((ws (l':=[]) (O':=[]) []).trans (ws []))
 intro _;refine T0 [4] ?_;exact Sr <|Rr
theorem HP{a:List Ao1}{c:Ao1->Option (Bool)}{b:Nat}(d:∀{a0:Ao1} {r:Bool},c a0=some r->Con (B rs) b [.agg [i64 a0.Op,i64 a0.N,i64 a0.M]] [] (fun r' O'=>r'=.bool r/\O'=[])){r:Bool}(h:Cx a c=some r):Con (B rs) 93 [.sl false (L Ak a),.fn b []] [] (fun r' O'=>r'=.bool r/\O'=[]):=by
 refine FA (N:=9) (rs:=[.tmp 4]) ok Tryz.func93 rfl (by decide +kernel) rfl rfl (Apq rfl) (fun F=>?_);have hE:=(ok (rs:=rs)).env F;unfold Cx at h;show Run ((B rs).env F) 0 _ ⟨Ai 9 [(0,.sl false (L Ak a)),(1,.fn b [])],[]⟩ _;refine BM ?_;revert h;refine T0 [0,1] ?_;refine Bd fun f e =>Te [4] (o1 7 (IK (fun h=>d h) e)) Ev ?_
 exact Sr <|Rr
theorem LV{a r}(h:Fx a=some r):Con (B rs) 94 [.agg [i64 a.Op,i64 a.N,i64 a.M]] [] (fun r' O'=>r'=.bool r/\O'=[]):=by
 refine Cw 6 [.tmp 2] Tryz.func94 (fun F hE=>?_) h;unfold Fx;refine T0 [1] ?_;refine Bd fun c b =>Te [2] (o1 4 (ND b)) Ev ?_
 exact Sr <|Rr
theorem Ty{a b r}(h:LM a b=some r):Con (B rs) 144 [u64 a,u64 b] [] (fun r' O'=>r'=.tup [u64 r.1,u64 r.2]/\O'=[]):=by
 refine Cw 30 [.tmp 4,.tmp 5] Tryz.func144 (fun F hE=>?_) h;unfold LM;refine T0 [0,1] ?_;refine Sq ?_;refine CfK ?_;refine Sk <|Tn <|Bd fun d c =>Te [8,9] (o1 25 (Qx c)) Ev ?_
 refine T0 [4,5] ?_;exact Sr <|Rr
theorem KS{c i r}(h:Ep c i=some r):Con (B rs) 96 [.sl false (L IA c),i64 i] [] (fun r' O'=>r'=.bs false 0 (r.length) 0 (r.length)/\O'=[.buf 1 (L IA r) false]):=by
 refine Co 0 48 [.tmp 4] Tryz.func96 (fun F hE=>?_) h;unfold Ep;refine T0 [0,1] ?_;refine Sq <|T0 [0,1,10] ?_
 refine Cd ?_ ?_
 ·exact Rn
 refine Sk <|Tn <|Bd fun k l =>Te [0,5,6] (o1 18 (Ty l)) Ev ?_
 refine Sq ?_;refine Tw [0,6,26] (fun j=>⟨Ai 48 [(0,.sl false (L IA c)),(6,u64 k.2),(26,.bool j)],[]⟩) ?_ ?_
 ·intro _;refine Sp (fun d=>?_) fun d=>?_
  ·exact Lf Ab (Ew1 d) (ws [])
  exact Lf Ab (Ew1 d) (ws [])
 intro j;refine Cd ?_ ?_
 ·exact Rn
 refine Sk <|Tn <|Ck fun m =>Lt fun e n =>Te (fr':=[(0,_),(7,.bs true 0 (e.length) 0 (e.length))]) (O':=[.buf 1 (L IA e) false]) [0,7] Ab (Ew2 m n) ?_
 refine Lt fun o p =>Lt fun f q =>Te (fr':=[(7,.bs true 0 (f.length) 0 (f.length)),(8,i64 o)]) (O':=[.buf 1 (L IA f) false]) [7,8] Ab (Ew2 p q) ?_
 refine Ja (fun a=>⟨Ai 48 [(7,.bs true 0 (a.length) 0 (a.length))],[.buf 1 (L IA a) false]⟩) ?_ ?_
 ·intro ac;refine Sb ?_;refine Lo (fun(v:Int×List Int)=>(⟨Ai 48 [(7,.bs true 0 (v.2.length) 0 (v.2.length)),(8,i64 v.1)],[.buf 1 (L IA v.2) false]⟩:St)) (ws [0]) ?_;rintro⟨s,b⟩ ad t u w;show Ei s b=some t->_;unfold Ei;refine Sq <|T0 [7,8,37] ?_
  refine Cd ?_ ?_
  ·refine Sk <|Tn <|Sb <|Ck fun x =>Ck fun y =>Lt fun z aa =>Lt fun g ab =>Ge (fr':=[(7,.bs true 0 (g.length) 0 (g.length)),(8,i64 z)]) (O':=[.buf 1 (L IA g) false]) [[],[],[],[1,2],[],[],[4,5],[1,2,3,4,5,6],[0,1,2,3,4,5,6,7],[0,1,2,3,4,5,6,7,8]] [7,8] Ab (Ew4 x y aa ab) ?_
   exact Bn <|Ln (ws [0])
  refine Sx <|Tx <|Ly w u <|Bx <|?_
  exact Jm ((ws (l':=[(7,.bs true 0 (b.length) 0 (b.length))]) (O':=[.buf 1 (L IA b) false]) [0]).trans (ws [0]))
 intro a;refine T0 [4] ?_;exact Sr <|Ro [0]
theorem L9{a r}(h:E9 a=some r):Con (B rs) 36 [.sl false (L Aa a)] [] (fun r' O'=>r'=.bs false 0 (r.length) 0 (r.length)/\O'=[.buf 9 (L Aa r) false]):=by
 refine Co 0 8 [.tmp 2] Tryz.func36 (fun F hE=>?_) h;unfold E9;refine T0 [0] ?_;refine Sq ?_;intro h;refine ZA hE 0 3 4 32 47 rfl rfl rfl rfl rfl rfl rfl (by decide) Tryz.underlying32 (fun b_ hb_=>?_);cases b_
 ·revert h;refine Cf <|Sk <|Tn <|Ck fun c =>?_
  have d:=c;simp only[Apv,ApR,Apc,Api,Apy,Aqn,Nat.reduceAdd]at d;refine Lt fun b e =>Te (fr':=[(2,.bs false 0 (b.length) 0 (b.length))]) (O':=[.buf 9 (L Aa b) false]) [2] Ab (Ew3 c d e) ?_
  exact Sr <|Ro [0]
 obtain rfl:a=[]:=List.map_eq_nil_iff.1 (hb_ rfl);replace h:some ([])=some r:=by first|exact h|(split at h<;>first|exact h|cases h)
 revert h;refine Ct <|T0 [2] ?_
 refine Rw (Md 2 9 rfl) ?_;exact Sr <|Tr <|Ro [0]
theorem It{d a r}(h:EK d a=some r):Con (B rs) 146 [.str d,u8 a] [] (fun r' O'=>r'=.str r/\O'=[]):=by
 refine Cw 23 [.tmp 4] Tryz.func146 (fun F hE=>?_) h;unfold EK;refine T0 [0,1] ?_;refine Ja (fun e=>⟨Ai 23 [(0,.str e)],[]⟩) ?_ ?_
 ·intro o;refine Sb ?_;refine Lo (fun b=>⟨Ai 23 [(0,.str b),(1,u8 a)],[]⟩) (ws []) ?_;rintro b p g i j;show DT a b=some g->_;unfold DT;refine Sq ?_;refine Tw [0,1,16] (fun f=>⟨Ai 23 [(0,.str b),(1,u8 a),(16,.bool f)],[]⟩) ?_ ?_
  ·intro _;refine Sp (fun c=>?_) fun c=>?_
   ·refine Ck fun k=>?_
    exact Lf Ab (Ew2 c (qR k)) (ws [])
   exact Lf Ab (Ew1 c) (ws [])
  intro f;refine Cd ?_ ?_
  ·refine Sk <|Tn <|Sb <|Ck fun l =>Lt fun m n =>Fe (fr':=[(0,.str m),(1,_)]) [0,1] Ab (Ew2 l n) ?_
   exact Bn <|Ln (ws [])
  refine Sx <|Tx <|Ly j i <|Bx <|?_
  exact Jm ((ws (l':=[(0,.str b)]) (O':=[]) []).trans (ws []))
 intro e;refine T0 [4] ?_;exact Sr <|Rr
variable {rs:AoO}
theorem IH{d a r}(h:Fq d a=some r):Con (B rs) 145 [.str d,u8 a] [] (fun r' O'=>r'=.str r/\O'=[]):=by
 refine Cw 17 [.tmp 4] Tryz.func145 (fun F hE=>?_) h;unfold Fq;refine T0 [0,1] ?_;refine Ja (fun e=>⟨Ai 17 [(0,.str e)],[]⟩) ?_ ?_
 ·intro o;refine Sb ?_;refine Lo (fun b=>⟨Ai 17 [(0,.str b),(1,u8 a)],[]⟩) (ws []) ?_;rintro b p g i j;show Em a b=some g->_;unfold Em;refine Sq ?_;refine Tw [0,1,13] (fun f=>⟨Ai 17 [(0,.str b),(1,u8 a),(13,.bool f)],[]⟩) ?_ ?_
  ·intro _;refine Sp (fun c=>?_) fun c=>?_
   ·refine Ck fun k=>?_
    exact Lf Ab (Ew2 c (qL k)) (ws [])
   exact Lf Ab (Ew1 c) (ws [])
  intro f;refine Cd ?_ ?_
  ·refine Sk <|Tn <|Sb <|Ck fun l =>Lt fun m n =>Fe (fr':=[(0,.str m),(1,_)]) [0,1] Ab (Ew2 l n) ?_
   exact Bn <|Ln (ws [])
  refine Sx <|Tx <|Ly j i <|Bx <|?_
  exact Jm ((ws (l':=[(0,.str b)]) (O':=[]) []).trans (ws []))
 intro e;refine T0 [4] ?_;exact Sr <|Rr
theorem IP{a r}(h:Ci a=some r):Con (B rs) 147 [.str a] [] (fun r' O'=>r'=.tup [.agg (C1 AV.bool r.1.l),.bool r.2]/\O'=[]):=by
 refine Cw 21 [.cell 2 225,.tmp 3] Tryz.func147 (fun F hE=>?_) h;unfold Ci;refine T0 [0,2] ?_;refine Jo (fun b=>⟨Ai 21 [(2,.ref 0 0)],[.box (C1 AV.bool b.l) false]⟩) ?_ ?_
 ·intro q f;refine T0 [0,2,4] ?_;refine Sb ?_;refine Lo (fun(v:Int×Arr Bool 256)=>(⟨Ai 21 [(0,.str a),(2,.ref 0 0),(4,i64 v.1)],[.box (C1 AV.bool v.2.l) false]⟩:St)) (ws [0]) ?_;rintro⟨g,c⟩ s i d e;show Eh a g c=some i->_;unfold Eh;refine Sq <|T0 [0,2,4,9] ?_
  refine Cd ?_ ?_
  ·refine Sk <|Tn <|Sq <|Sb <|Ck fun j =>Lt fun k m =>Te (fr':=[(0,_),(2,_),(4,_),(5,u8 k)]) [0,2,4,5] Ab (Ew2 (qR j) m) ?_
   refine Sq <|T0 [0,2,4,5,16] ?_
   refine Cd ?_ ?_
   ·refine T0 [2,3] ?_;exact Sr <|Tr <|Br <|Tr <|Lr e d <|Br <|Jr f <|Rr
   refine Sk <|Tn <|Ck fun n =>Lt fun o p =>Fe (O':=[.box (C1 AV.bool o.l) false]) [0,2,4] Ab (Ew2 (qN n) p) ?_
   refine Bn <|Tn <|F0 [0,2,4] ?_
   exact Ln (ws [0])
  refine Sx <|Tx <|Lx e d <|Bx <|?_
  exact Jn ((ws (l':=[(2,.ref 0 0)]) (O':=[.box (C1 AV.bool c.l) false]) [0]).trans (ws [0]))
 intro b;refine T0 [2,3] ?_;exact Sr <|Rr
theorem Ew{a b r}(h:Bu a b=some r):Con (B rs) 171 [.ref 0 0,u8 b] [.box (C1 AV.bool a.l) false] (fun r' O'=>r'=.bool r.1/\O'=[.box (C1 AV.bool r.2.l) false]):=by
 refine Co 1 10 [.tmp 4] Tryz.func171 (fun F hE=>?_) h;unfold Bu;refine T0 [0,1] ?_;refine Ck fun c =>Te [4] Ab (Ew1 (qN c)) ?_
 exact Sr <|Ro [0]
theorem HN{c d r}(h:Cy c d=some r):Con (B rs) 149 [.str c,.ref 0 0] [.box (C1 AV.bool d.l) false] (fun r' O'=>r'=.str r.1/\O'=[.box (C1 AV.bool r.2.l) false]):=by
 refine Co 1 22 [.tmp 4] Tryz.func149 (fun F hE=>?_) h;unfold Cy;refine T0 [0,1] ?_;refine Ja (fun(v:List UInt8×Arr Bool 256)=>(⟨Ai 22 [(0,.str v.1)],[.box (C1 AV.bool v.2.l) false]⟩:St)) ?_ ?_
 ·intro q;refine Sb ?_;refine Lo (fun(v:List UInt8×Arr Bool 256)=>(⟨Ai 22 [(0,.str v.1),(1,.ref 0 0)],[.box (C1 AV.bool v.2.l) false]⟩:St)) (ws [0]) ?_;rintro⟨a,b⟩ s g e f;show C5 a b=some g->_;unfold C5;refine Sq <|T0 [0,1,7] ?_
  refine Cd ?_ ?_
  ·refine Sk <|Tn <|Sb <|Sq <|Ck fun i =>Bd fun j k =>Te [0,1,15] (Ag (l:=[]) (m:=[(14,171,[.ref 0 0,u8 (nth a ((w64 ((a.length:Int)-1)).toNat))],[.box (C1 AV.bool b.l) false],_,_)]) trivial ⟨(wc (Ew k) [0]),trivial⟩) (Ew1 (qR i)) ?_
   refine Cd ?_ ?_
   ·refine Sx <|Tx <|Bo <|Ly f e <|Bx <|?_
    exact Jm ((ws (l':=[(0,.str a)]) (O':=[.box (C1 AV.bool j.2.l) false]) [0]).trans (ws [0]))
   refine Sk <|Tn <|Ck fun n =>Lt fun o p =>Fe (fr':=[(0,.str o),(1,_)]) [0,1] Ab (Ew2 n p) ?_
   exact Bn <|Ln (ws [0])
  refine Sx <|Tx <|Ly f e <|Bx <|?_
  exact Jm ((ws (l':=[(0,.str a)]) (O':=[.box (C1 AV.bool b.l) false]) [0]).trans (ws [0]))
 rintro⟨t,u⟩;refine T0 [4] ?_;exact Sr <|Ro [0]
theorem I3{c d r}(h:CC c d=some r):Con (B rs) 148 [.str c,.ref 0 0] [.box (C1 AV.bool d.l) false] (fun r' O'=>r'=.str r.1/\O'=[.box (C1 AV.bool r.2.l) false]):=by
 refine Co 1 16 [.tmp 4] Tryz.func148 (fun F hE=>?_) h;unfold CC;refine T0 [0,1] ?_;refine Ja (fun(v:List UInt8×Arr Bool 256)=>(⟨Ai 16 [(0,.str v.1)],[.box (C1 AV.bool v.2.l) false]⟩:St)) ?_ ?_
 ·intro q;refine Sb ?_;refine Lo (fun(v:List UInt8×Arr Bool 256)=>(⟨Ai 16 [(0,.str v.1),(1,.ref 0 0)],[.box (C1 AV.bool v.2.l) false]⟩:St)) (ws [0]) ?_;rintro⟨a,b⟩ s g e f;show CL a b=some g->_;unfold CL;refine Sq <|T0 [0,1,7] ?_
  refine Cd ?_ ?_
  ·refine Sk <|Tn <|Sb <|Sq <|Ck fun i =>Bd fun j k =>Te [0,1,12] (Ag (l:=[]) (m:=[(11,171,[.ref 0 0,u8 (nth a 0)],[.box (C1 AV.bool b.l) false],_,_)]) trivial ⟨(wc (Ew k) [0]),trivial⟩) (Ew1 (qL i)) ?_
   refine Cd ?_ ?_
   ·refine Sx <|Tx <|Bo <|Ly f e <|Bx <|?_
    exact Jm ((ws (l':=[(0,.str a)]) (O':=[.box (C1 AV.bool j.2.l) false]) [0]).trans (ws [0]))
   refine Sk <|Tn <|Ck fun n =>Lt fun o p =>Fe (fr':=[(0,.str o),(1,_)]) [0,1] Ab (Ew2 n p) ?_
   exact Bn <|Ln (ws [0])
  refine Sx <|Tx <|Ly f e <|Bx <|?_
  exact Jm ((ws (l':=[(0,.str a)]) (O':=[.box (C1 AV.bool b.l) false]) [0]).trans (ws [0]))
 rintro⟨t,u⟩;refine T0 [4] ?_;exact Sr <|Ro [0]
theorem NT{a b r}(h:HW a b=some r):Con (B rs) 98 [.str a,.str b] [] (fun r' O'=>r'=.str r/\O'=[]):=by
 refine Cw 43 [.tmp 4] Tryz.func98 (fun F hE=>?_) h;unfold HW;refine T0 [0,1] ?_;refine Sq ?_;refine Tw [0,1,12] (fun e=>⟨Ai 43 [(0,.str a),(1,.str b),(12,.bool e)],[]⟩) ?_ ?_
 ·intro _;refine Sp (fun c=>?_) fun c=>?_
  ·exact Lf Ab (Ew1 c) (ws [])
  exact Lf Ab (Ew1 c) (ws [])
 intro e;refine Cd ?_ ?_
 ·refine T0 [4] ?_;exact Sr <|Tr <|Rr
 refine Sk <|Tn <|Sq <|?_
 refine Tw [0,1,21] (fun f=>⟨Ai 43 [(0,.str a),(1,.str b),(21,.bool f)],[]⟩) ?_ ?_
 ·intro _;refine Sp (fun d=>?_) fun d=>?_
  ·refine Ck fun i=>?_
   exact Lf Ab (Ew2 d (qL i)) (ws [])
  exact Lf Ab (Ew1 d) (ws [])
 intro f;refine Cd ?_ ?_
 ·refine Ck fun j =>Bd fun u k =>Ck fun n =>Bd fun v o =>De [[],[],[1],[0,1,2],[],[4],[0,1,2,3,4,5],[0,1,2,3,4,5,6]] [4] (o2 25 (It k) 28 (IH o)) (Ew2 (qL j) (qL n)) ?_
  exact Sr <|Tr <|Rr
 refine Sk <|Tn <|Sq <|Bd fun p q =>Te [0,1,5,6] (o1 31 (IP q)) Ev ?_
 refine T0 [0,1,5,34] ?_;refine Cd ?_ ?_
 ·refine Bd fun g s =>Bd fun w t =>Te [4] (Ag (l:=[]) (m:=[(36,149,[.str a,.ref 0 0],[.box (C1 AV.bool p.1.l) false],_,_),(37,148,[.str g.1,.ref 0 0],[.box (C1 AV.bool g.2.l) false],_,_)]) trivial ⟨(wc (HN s) [0]),(wc (I3 t) [0]),trivial⟩) Ev ?_
  exact Sr <|Tr <|Rr
 exact Sk <|Tn <|Rn
theorem EQ{f r}(h:G1 f=some r):Con (B rs) 57 [.str f] [] (fun r' O'=>r'=.bool r/\O'=[]):=by
 refine Cw 25 [.tmp 2] Tryz.func57 (fun F hE=>?_) h;unfold G1;refine T0 [0] ?_;refine Tw [2] (fun g=>⟨Ai 25 [(2,.bool g)],[]⟩) ?_ ?_
 ·intro _;refine Sp (fun a=>?_) fun a=>?_
  ·refine Sp (fun b=>?_) fun b=>?_
   ·refine Ck fun d=>?_
    refine Sp (fun c=>?_) fun c=>?_
    ·refine Ck fun i=>?_
     refine Sp (fun e=>?_) fun e=>?_
     ·refine Bd fun k j=>?_
      exact Lf (o1 22 (NT j)) (Ev (by simp only[go_sem,a,b,qL d,c,qL i,e];exact C2)) (ws [])
     exact Lf Ab (Ev (by simp only[go_sem,a,b,qL d,c,qL i,e];exact C2)) (ws [])
    exact Lf Ab (Ew4 a b (qL d) c) (ws [])
   exact Lf Ab (Ew2 a b) (ws [])
  exact Lf Ab (Ew1 a) (ws [])
 intro g;exact Sr <|Rr
theorem FL{a r}(h:Dl a=some r):Con (B rs) 99 [.agg (C1 i64 a.l)] [] (fun r' O'=>r'=.bool r/\O'=[]):=by
 refine Cw 35 [.tmp 2] Tryz.func99 (fun F hE=>?_) h;unfold Dl;refine T0 [1] ?_;refine T0 [1,3] ?_;refine Ja (fun d=>⟨Ai 35 [(3,.mref 0)],[.mp false (MI Qq d)]⟩) ?_ ?_
 ·intro p;refine T0 [3,7,8] ?_;refine Sb ?_;refine Lo (fun(v:Int×RP)=>(⟨Ai 35 [(3,.mref 0),(7,.agg (C1 i64 a.l)),(8,i64 v.1)],[.mp false (MI Qq v.2)]⟩:St)) (ws [1]) ?_;rintro⟨g,e⟩ q i j k;show E3 a g e=some i->_;unfold E3;refine T0 [3,7,8,9] ?_;refine Sq <|Cd ?_ ?_
  ·refine Sk <|Tn <|Sq <|Sb <|Ck fun m =>Te [3,5,7,8] Ab (Ew1 (qR m)) ?_
   refine Lt fun n o =>Fe (O':=[.mp false (MI Qq n)]) [3,7,8] Ab (Ew1 o) ?_
   refine Bn <|Tn <|F0 [3,7,8] ?_
   exact Ln (ws [0])
  refine Sx <|Tx <|Ly k j <|Bx <|?_
  exact Jm ((ws (l':=[(3,.mref 0)]) (O':=[.mp false (MI Qq e)]) [0]).trans (ws [0]))
 intro d;refine Tw [2] (fun f=>⟨Ai 35 [(2,.bool f)],[]⟩) ?_ ?_
 ·intro _;refine Sp (fun b=>?_) fun b=>?_
  ·refine Sp (fun c=>?_) fun c=>?_
   ·exact Lf Ab (Ew2 b c) (ws [])
   exact Lf Ab (Ew2 b c) (ws [])
  exact Lf Ab (Ew1 b) (ws [])
 intro f;exact Sr <|Rr
theorem L7{b:AoT->Option (Bool)}{a:AoT}(h59:∀{a0:AoT} {r:Bool},b a0=some r->Con (B rs) 59 [.agg (xE a0)] [] (fun r' O'=>r'=.bool r/\O'=[])){r:Bool}(h:FZ b a=some r):Con (B rs) 101 [.agg (xE a)] [] (fun r' O'=>r'=.bool r/\O'=[]):=by
 refine FA (N:=6) (rs:=[.tmp 2]) ok Tryz.func101 rfl (by decide +kernel) rfl rfl (Apq rfl) (fun F=>?_);have hE:=(ok (rs:=rs)).env F;unfold FZ at h;show Run ((B rs).env F) 0 _ ⟨Ai 6 [(0,.agg (xE a))],[]⟩ _;refine BM ?_;revert h;refine T0 [1] ?_;refine Bd fun d c =>Te [2] (o1 4 (h59 c)) Ev ?_
 exact Sr <|Rr
theorem IM{a:List AoT}{c:AoT->Option (Bool)}{b:Nat}(g:∀{a0:AoT} {r:Bool},c a0=some r->Con (B rs) b [.agg (xE a0)] [] (fun r' O'=>r'=.bool r/\O'=[])){r:Int}(h:DN a c=some r):Con (B rs) 152 [.sl false (L cApi_Expr a),.fn b []] [] (fun r' O'=>r'=i64 r/\O'=[]):=by
 refine FA (N:=19) (rs:=[.tmp 4]) ok Tryz.func152 rfl (by decide +kernel) rfl rfl (Apq rfl) (fun F=>?_);have hE:=(ok (rs:=rs)).env F;unfold DN at h;show Run ((B rs).env F) 0 _ ⟨Ai 19 [(0,.sl false (L cApi_Expr a)),(1,.fn b [])],[]⟩ _;refine BM ?_;revert h;refine T0 [0,1] ?_;refine Jo (fun _=>⟨Ai 19 [],[]⟩) ?_ ?_
 ·intro m i;refine T0 [0,1,7,8] ?_;refine Sb ?_;refine Lo (fun d=>⟨Ai 19 [(0,.sl false (L cApi_Expr a)),(1,.fn b []),(7,i64 (a.length:Int)),(8,i64 d)],[]⟩) (ws []) ?_;rintro d n j e f;show CT a c d=some j->_;unfold CT;refine T0 [0,1,7,8,9] ?_;refine Sq <|Cd ?_ ?_
  ·refine Sk <|Tn <|Sq <|Sb <|T0 [0,1,5,7,8] ?_
   refine Ck fun k =>Bd fun o l =>Te [0,1,5,7,8,16] (o1 16 (g l)) (Ew1 (qR k)) ?_
   refine Cd ?_ ?_
   ·refine T0 [4] ?_;exact Sr <|Br <|Tr <|Lr f e <|Br <|Jr i <|Rr
   refine Sk <|Bn <|Tn <|F0 [0,1,7,8] ?_
   exact Ln (ws [])
  refine Sx <|Tx <|Lx f e <|Bx <|?_
  exact Jn ((ws (l':=[]) (O':=[]) []).trans (ws []))
 intro _;refine T0 [4] ?_;exact Sr <|Rr
theorem H6{a:List AoT}{c:AoT->Option (Bool)}{b:Nat}(d:∀{a0:AoT} {r:Bool},c a0=some r->Con (B rs) b [.agg (xE a0)] [] (fun r' O'=>r'=.bool r/\O'=[])){r:Bool}(h:Ce a c=some r):Con (B rs) 100 [.sl false (L cApi_Expr a),.fn b []] [] (fun r' O'=>r'=.bool r/\O'=[]):=by
 refine FA (N:=9) (rs:=[.tmp 4]) ok Tryz.func100 rfl (by decide +kernel) rfl rfl (Apq rfl) (fun F=>?_);have hE:=(ok (rs:=rs)).env F;unfold Ce at h;show Run ((B rs).env F) 0 _ ⟨Ai 9 [(0,.sl false (L cApi_Expr a)),(1,.fn b [])],[]⟩ _;refine BM ?_;revert h;refine T0 [0,1] ?_;refine Bd fun f e =>Te [4] (o1 7 (IM (fun h=>d h) e)) Ev ?_
 exact Sr <|Rr
variable {rs:AoO}
theorem Lh{rec_:AoT->Option (Bool)}(hrec:∀{a:AoT} {r:Bool},rec_ a=some r->Con (B rs) 59 [.agg (xE a)] [] (fun r' O'=>r'=.bool r/\O'=[])){a:AoT}{r:Bool}(h:E6 rec_ a=some r):Con (B rs) 59 [.agg (xE a)] [] (fun r' O'=>r'=.bool r/\O'=[]):=by
 refine FA (N:=58) (rs:=[.tmp 2]) ok Tryz.func59 rfl (by decide +kernel) rfl rfl (Apq rfl) (fun F=>?_);have hE:=(ok (rs:=rs)).env F;unfold E6 at h;show Run ((B rs).env F) 0 _ ⟨Ai 58 [(0,.agg (xE a))],[]⟩ _;refine BM ?_;revert h;refine T0 [1] ?_;refine T0 [1,3,4] ?_;refine Jo (fun(v:Int×Int)=>(⟨Ai 58 [(1,.ref 0 0),(3,i64 v.1),(4,i64 v.2)],[.box (xE a) false]⟩:St)) ?_ ?_
 ·intro p n;refine T0 [1,3,4,6] ?_;refine Sb ?_;refine Jo (fun f=>⟨Ai 58 [(1,.ref 0 0),(3,i64 0),(4,i64 f)],[.box (xE a) false]⟩) ?_ ?_
  ·intro q k;refine Sb <|Sq <|Sb <|Sq <|Sb <|Sq <|Sb <|Sq <|Sq <|T0 [1,3,4,6,7] ?_
   refine Cd ?_ ?_
   ·refine Sx <|Tx <|Tx <|Bx <|Tn <|T0 [1,3,4] ?_
    exact Sx <|Bo <|Tx <|Bo <|Tx <|Bo <|Jx k <|Bx <|Jn (ws [0])
   refine Sk <|Tn <|Sq <|T0 [1,3,4,6,9] ?_
   refine Cd ?_ ?_
   ·refine Sx <|Tx <|Tx <|Bo <|Tx <|Bx <|Tn <|T0 [1,3,4] ?_
    exact Sx <|Bo <|Tx <|Bo <|Jx k <|Bx <|Jn (ws [0])
   refine Sk <|Tn <|T0 [1,3,4,11] ?_
   refine Cd ?_ ?_
   ·refine Sx <|Tx <|Bo <|Tx <|Bo <|Tx <|Bx <|Tn <|F0 [1,3,4] ?_
    exact Bn <|Jn (ws [0])
   exact Sk <|Tn <|Sx <|Bo <|Tx <|Bo <|Tx <|Bo <|Tx <|Bx <|Jn (ws [0])
  intro f;refine Sq ?_;refine Tw [1,3,4,20] (fun l=>⟨Ai 58 [(1,.ref 0 0),(3,i64 0),(4,i64 f),(20,.bool l)],[.box (xE a) false]⟩) ?_ ?_
  ·intro _;refine Sp (fun g=>?_) fun g=>?_
   ·exact Lf Ab (Ew1 g) (ws [0])
   exact Lf Ab (Ew1 g) (ws [0])
  intro l;refine Cd ?_ ?_
  ·refine T0 [2] ?_;exact Sr <|Tr <|Br <|Jr n <|Rr
  exact Sk <|Tn <|Sx <|Bx <|Jn (ws [0])
 rintro⟨s,t⟩;refine Sq ?_;refine Tw [1,53] (fun m=>⟨Ai 58 [(1,.ref 0 0),(53,.bool m)],[.box (xE a) false]⟩) ?_ ?_
 ·intro _;refine Sp (fun b=>?_) fun b=>?_
  ·exact Lf Ab (Ew1 b) (ws [0])
  refine Sp (fun c=>?_) fun c=>?_
  ·exact Lf Ab (Ew2 b c) (ws [0])
  refine Sp (fun d=>?_) fun d=>?_
  ·exact Lf Ab (Ew3 b c d) (ws [0])
  refine Bd fun u i=>?_
  refine Sp (fun e=>?_) fun e=>?_
  ·exact Lf (o1 40 (FL i)) (Ew4 b c d e) (ws [0])
  refine Sp (fun j=>?_) fun j=>?_
  ·exact Lf (o1 40 (FL i)) (Ev (by simp only[go_sem,b,c,d,e,j,Im,IB,GA];exact C2)) (ws [0])
  exact Lf (o1 40 (FL i)) (Ew5 b c d e j) (ws [0])
 intro m;refine Cd ?_ ?_
 ·refine T0 [2] ?_;exact Sr <|Tr <|Rr
 refine Sk <|Tn <|Bd fun w o =>Te [2] (o1 56 (H6 (fun h=>L7 (fun h=>hrec h) h) o)) Ev ?_
 exact Sr <|Rr
theorem L0(n:Nat):∀{a:AoT} {r:Bool},EP n a=some r->Con (B rs) 59 [.agg (xE a)] [] (fun r' O'=>r'=.bool r/\O'=[]):=by
 induction n with
 |zero=>intro a r h;cases h
 |succ n ih=>intro a r h;exact Lh ih h
theorem MO{a:AoT}{r:Bool}(h:LI a=some r):Con (B rs) 59 [.agg (xE a)] [] (fun r' O'=>r'=.bool r/\O'=[]):=L0 _ h
theorem Hm{a r}(h:Da a=some r):Con (B rs) 24 [.agg (Ad a)] [] (fun r' O'=>r'=i64 r/\O'=[]):=by
 refine Cw 114 [.tmp 2] Tryz.func24 (fun F hE=>?_) h;unfold Da;refine T0 [1] ?_;refine Sq ?_;refine Tw [1,23] (fun ae=>⟨Ai 114 [(1,.ref 0 0),(23,.bool ae)],[.box (Ad a) false]⟩) ?_ ?_
 ·intro _;refine Bd fun aR u=>?_
  refine Sp (fun o=>?_) fun o=>?_
  ·exact Lf (o1 12 (EQ u)) (Ew1 o) (ws [0])
  refine Sp (fun w=>?_) fun w=>?_
  ·exact Lf (o1 12 (EQ u)) (Ew2 o w) (ws [0])
  exact Lf (o1 12 (EQ u)) (Ew2 o w) (ws [0])
 intro ae;refine Cd ?_ ?_
 ·refine T0 [2] ?_;exact Sr <|Tr <|Rr
 refine Sk <|Tn <|Bd fun aS ar =>Lt fun au av =>De (fr':=[(1,_),(3,_),(4,.bool au)]) [[],[0],[0,1],[],[3],[3,4],[3,4,5],[0,1,2],[0,1,2,3,4,5,6,7]] [1,3,4] (o1 26 (Fb ar)) (Ew1 av) ?_
 refine T0 [1,3,4,5] ?_;refine Jo (fun(v:Bool×Bool)=>(⟨Ai 114 [(3,.bool v.1),(4,.bool v.2)],[]⟩:St)) ?_ ?_
 ·intro aT af;refine T0 [3,4,5,33,34,35] ?_;refine Sb ?_;refine Lo (fun⟨f,d,c,e⟩=>⟨Ai 114 [(3,.bool f),(4,.bool d),(5,.mref 0),(33,.sl false (L Aa a.Zf)),(34,i64 (a.Zf.length:Int)),(35,i64 c)],[.mp true (MS KP e)]⟩) (ws [1]) ?_;rintro⟨f,d,c,e⟩ aU aw x y;show Gc a f d c e=some aw->_;unfold Gc;refine T0 [3,4,5,33,34,35,36] ?_;refine Sq <|Cd ?_ ?_
  ·refine Sk <|Tn <|?_
   refine Jo (fun⟨ag,ah,ai⟩=>⟨Ai 114 [(3,.bool ag),(4,.bool ah),(5,.mref 0),(33,.sl false (L Aa a.Zf)),(34,i64 (a.Zf.length:Int)),(35,i64 c)],[.mp true (MS KP ai)]⟩) ?_ ?_
   ·intro aV aj;refine Sb <|Ck fun ax =>Lt fun g ay =>Lt fun b az =>Lt fun i aA =>Lt fun j aB =>Lt fun k aC =>Lt fun m aD =>Te (O':=[_,.box (.str g::.sl false (L Af b)::i64 i::i64 j::(C1 i64 k.l++[.sl false (L cApi_Expr m)])) false]) [3,4,5,7,33,34,35] Ab (Ev (by simp only[go_sem,qR ax,ay,az,aA,aB,aC,aD];exact C2)) ?_
    refine Sq ?_;refine Tw [3,4,5,7,33,34,35,48] (fun ak=>⟨Ai 114 [(3,.bool f),(4,.bool d),(5,.mref 0),(7,.ref 1 0),(33,.sl false (L Aa a.Zf)),(34,i64 (a.Zf.length:Int)),(35,i64 c),(48,.bool ak)],[.mp true (MS KP e),.box (.str g::.sl false (L Af b)::i64 i::i64 j::(C1 i64 k.l++[.sl false (L cApi_Expr m)])) false]⟩) ?_ ?_
    ·intro _;refine Bd fun aW al=>?_
     refine Sp (fun z=>?_) fun z=>?_
     ·exact Lf (o1 41 (EQ al)) (Ew1 z) (ws [0,1])
     refine Bd fun aX aE=>?_
     exact Lf (o2 41 (EQ al) 46 (MO aE)) (Ew1 z) (ws [0,1])
    intro ak;refine Cd ?_ ?_
    ·refine T0 [2] ?_;exact Sr <|Tr <|Br <|Jr aj <|Lr y x <|Br <|Jr af <|Rr
    refine Sk <|Tn <|?_
    refine Jo (fun _=>⟨Ai 114 [(3,.bool f),(4,.bool d),(5,.mref 0),(7,.ref 1 0),(33,.sl false (L Aa a.Zf)),(34,i64 (a.Zf.length:Int)),(35,i64 c)],[.mp true (MS KP e),.box (.str g::.sl false (L Af b)::i64 i::i64 j::(C1 i64 k.l++[.sl false (L cApi_Expr m)])) false]⟩) ?_ ?_
    ·intro aY aF;refine T0 [3,4,5,7,33,34,35,50,51,52] ?_;refine Sb ?_;refine Lo (fun p=>⟨Ai 114 [(3,.bool f),(4,.bool d),(5,.mref 0),(7,.ref 1 0),(33,.sl false (L Aa a.Zf)),(34,i64 (a.Zf.length:Int)),(35,i64 c),(50,.sl false (L Af b)),(51,i64 (b.length:Int)),(52,i64 p)],[.mp true (MS KP e),.box (.str g::.sl false (L Af b)::i64 i::i64 j::(C1 i64 k.l++[.sl false (L cApi_Expr m)])) false]⟩) (ws [0,1]) ?_;rintro p aZ aG am an;show EB b p=some aG->_;unfold EB;refine T0 [3,4,5,7,33,34,35,50,51,52,53] ?_;refine Sq <|Cd ?_ ?_
     ·refine Sk <|Tn <|Sq <|Sb <|Ck fun aH =>Lt fun aI aJ =>Lt fun aK aL =>Lt fun aM aN =>Te (O':=[_,_,.box [i64 aI,i64 aK,i64 aM] false]) [3,4,5,7,9,33,34,35,50,51,52] Ab (Ew4 (qR aH) aJ aL aN) ?_
      refine Tw [3,4,5,7,33,34,35,50,51,52,79] (fun ao=>⟨Ai 114 [(3,.bool f),(4,.bool d),(5,.mref 0),(7,.ref 1 0),(33,.sl false (L Aa a.Zf)),(34,i64 (a.Zf.length:Int)),(35,i64 c),(50,.sl false (L Af b)),(51,i64 (b.length:Int)),(52,i64 p),(79,.bool ao)],[.mp true (MS KP e),.box (.str g::.sl false (L Af b)::i64 i::i64 j::(C1 i64 k.l++[.sl false (L cApi_Expr m)])) false]⟩) ?_ ?_
      ·intro _;refine Sp (fun n=>?_) fun n=>?_
       ·exact Lf Ab (Ew1 n) (ws [0,1])
       refine Sp (fun q=>?_) fun q=>?_
       ·exact Lf Ab (Ew2 n q) (ws [0,1])
       refine Sp (fun aa=>?_) fun aa=>?_
       ·exact Lf Ab (Ew3 n q aa) (ws [0,1])
       exact Lf Ab (Ew3 n q aa) (ws [0,1])
      intro ao;refine Cd ?_ ?_
      ·refine T0 [2] ?_;exact Sr <|Br <|Tr <|Lr an am <|Br <|Jr aF <|Br <|Jr aj <|Lr y x <|Br <|Jr af <|Rr
      refine Sk <|Bn <|Tn <|F0 [3,4,5,7,33,34,35,50,51,52] ?_
      exact Ln (ws [0,1])
     refine Sx <|Tx <|Lx an am <|Bx <|?_
     exact Jn ((ws (l':=[(3,.bool f),(4,.bool d),(5,.mref 0),(7,.ref 1 0),(33,.sl false (L Aa a.Zf)),(34,i64 (a.Zf.length:Int)),(35,i64 c)]) (O':=[.mp true (MS KP e),.box (.str g::.sl false (L Af b)::i64 i::i64 j::(C1 i64 k.l++[.sl false (L cApi_Expr m)])) false]) [0,1]).trans (ws [0,1]))
    intro _;refine Tw [3,4,5,7,33,34,35] (fun ab=>⟨Ai 114 [(3,.bool ab),(4,.bool d),(5,.mref 0),(7,.ref 1 0),(33,.sl false (L Aa a.Zf)),(34,i64 (a.Zf.length:Int)),(35,i64 c)],[.mp true (MS KP e),.box (.str g::.sl false (L Af b)::i64 i::i64 j::(C1 i64 k.l++[.sl false (L cApi_Expr m)])) false]⟩) ?_ ?_
    ·intro _;refine Sp (fun s=>?_) fun s=>?_
     ·exact Lf Ab (Ew1 s) (ws [0,1])
     refine Bd fun a0 ap=>?_
     refine Sp (fun ac=>?_) fun ac=>?_
     ·exact Lf (o1 85 (Fb ap)) (Ew2 s ac) (ws [0,1])
     exact Lf (o1 85 (Fb ap)) (Ew2 s ac) (ws [0,1])
    intro ab;refine Tw [3,4,5,7,33,34,35] (fun aq=>⟨Ai 114 [(3,.bool ab),(4,.bool aq),(5,.mref 0),(7,.ref 1 0),(33,.sl false (L Aa a.Zf)),(34,i64 (a.Zf.length:Int)),(35,i64 c)],[.mp true (MS KP e),.box (.str g::.sl false (L Af b)::i64 i::i64 j::(C1 i64 k.l++[.sl false (L cApi_Expr m)])) false]⟩) ?_ ?_
    ·intro _;refine Sp (fun t=>?_) fun t=>?_
     ·exact Lf Ab (Ew1 t) (ws [0,1])
     refine Sp (fun ad=>?_) fun ad=>?_
     ·exact Lf Ab (Ew2 t ad) (ws [0,1])
     refine Bd fun a1 aO=>?_
     exact Lf (o1 103 (Ig aO)) (Ew2 t ad) (ws [0,1])
    intro aq;refine Lt fun aP aQ =>Fe (O':=[.mp true (MS KP aP),_]) [3,4,5,33,34,35] Ab (Ew1 aQ) ?_
    exact Bn <|Jn (ws [0])
   rintro⟨ag,ah,ai⟩;refine F0 [3,4,5,33,34,35] ?_;exact Ln (ws [0])
  refine Sx <|Tx <|Lx y x <|Bx <|?_
  exact Jn ((ws (l':=[(3,.bool f),(4,.bool d)]) (O':=[]) []).trans (ws []))
 rintro⟨a2,a3⟩;refine Sq <|Sb <|T0 [4,110] ?_
 refine Cd ?_ ?_
 ·refine T0 [2] ?_;exact Sr <|Br <|Tr <|Rr
 refine T0 [112] ?_;refine Cd ?_ ?_
 ·refine T0 [2] ?_;exact Sr <|Br <|Tr <|Rr
 refine Sk <|Bn <|Tn <|T0 [2] ?_
 exact Sr <|Rr
theorem Ho{a b r}(h:Cs a b=some r):Con (B rs) 156 [.sl false (L IA a),i64 b] [] (fun r' O'=>r'=i64 r/\O'=[]):=by
 refine Cw 19 [.tmp 4] Tryz.func156 (fun F hE=>?_) h;unfold Cs;refine T0 [0,1] ?_;refine Jo (fun _=>⟨Ai 19 [],[]⟩) ?_ ?_
 ·intro j f;refine T0 [0,1,7,8] ?_;refine Sb ?_;refine Lo (fun c=>⟨Ai 19 [(0,.sl false (L IA a)),(1,i64 b),(7,i64 (a.length:Int)),(8,i64 c)],[]⟩) (ws []) ?_;rintro c k g d e;show Eb a b c=some g->_;unfold Eb;refine T0 [0,1,7,8,9] ?_;refine Sq <|Cd ?_ ?_
  ·refine Sk <|Tn <|Sq <|Sb <|T0 [0,1,5,7,8] ?_
   refine Ck fun i =>Te [0,1,5,7,8,16] Ab (Ew1 (qR i)) ?_
   refine Cd ?_ ?_
   ·refine T0 [4] ?_;exact Sr <|Br <|Tr <|Lr e d <|Br <|Jr f <|Rr
   refine Sk <|Bn <|Tn <|F0 [0,1,7,8] ?_
   exact Ln (ws [])
  refine Sx <|Tx <|Lx e d <|Bx <|?_
  exact Jn ((ws (l':=[]) (O':=[]) []).trans (ws []))
 intro _;refine T0 [4] ?_;exact Sr <|Rr
theorem HL{s1_6377 s2_6378 r}(h:E7 s1_6377 s2_6378=some r):Con (B rs) 20 [.sl false (L Af s1_6377),.sl false (L Af s2_6378)] [] (fun r' O'=>r'=.bool r/\O'=[]):=by
 refine Cw 26 [.tmp 4] Tryz.func20 (fun F hE=>?_) h;unfold E7;refine T0 [0,1] ?_;refine Sq <|T0 [0,1,10] ?_
 refine Cd ?_ ?_
 ·refine T0 [4] ?_;exact Sr <|Tr <|Rr
 refine Sk <|Tn <|?_
 refine Jo (fun _=>⟨Ai 26 [],[]⟩) ?_ ?_
 ·intro k d;refine T0 [0,1,12,13] ?_;refine Sb ?_;refine Lo (fun a=>⟨Ai 26 [(0,.sl false (L Af s1_6377)),(1,.sl false (L Af s2_6378)),(12,i64 (s1_6377.length:Int)),(13,i64 a)],[]⟩) (ws []) ?_;rintro a l e b c;show E2 s1_6377 s2_6378 a=some e->_;unfold E2;refine T0 [0,1,12,13,14] ?_;refine Sq <|Cd ?_ ?_
  ·refine Sk <|Tn <|Sq <|Sb <|T0 [0,1,5,12,13] ?_
   refine Ck fun f =>Ck fun g =>Lt fun i j =>De (fr':=[(0,_),(1,_),(12,_),(13,_),(24,.bool i)]) [[],[],[0,1],[0,1,2],[],[],[4,5],[4,5,6],[0,1,2,3,4,5,6,7]] [0,1,12,13,24] Ab (Ew3 (qR f) (qR g) j) ?_
   refine Cd ?_ ?_
   ·refine T0 [4] ?_;exact Sr <|Br <|Tr <|Lr c b <|Br <|Jr d <|Rr
   refine Sk <|Bn <|Tn <|F0 [0,1,12,13] ?_
   exact Ln (ws [])
  refine Sx <|Tx <|Lx c b <|Bx <|?_
  exact Jn ((ws (l':=[]) (O':=[]) []).trans (ws []))
 intro _;refine T0 [4] ?_;exact Sr <|Rr
open Go.Shelf
def Tryz.laysM171_ren:Go.Shelf.Ren:=⟨fun|171=>103|243=>155|246=>175|283=>180|284=>181|285=>182|286=>183|129=>188|317=>187|318=>189|319=>190|320=>191|337=>192|338=>193|n=>n,fun|3=>3|9=>9|2=>2|4=>4|171=>265|0=>0|53=>249|37=>129|5=>5|173=>268|212=>275|51=>184|20=>20|213=>276|46=>220|232=>279|233=>280|n=>n,fun|17=>7|18=>8|19=>9|n=>n⟩
theorem Tryz.laysM171:Go.Proofs.LaysM.n171 Tryz.prog Tryz.laysM171_ren:={
 mixed:=by kernel_rfl
 f129:=Tryz.func188.trans (Ap2 some (by kernel_rfl))
 f171:=Tryz.func103.trans (Ap2 some (by kernel_rfl))
 f243:=Tryz.func155.trans (Ap2 some (by kernel_rfl))
 f246:=Tryz.func175.trans (Ap2 some (by kernel_rfl))
 f283:=Tryz.func180.trans (Ap2 some (by kernel_rfl))
 f284:=Tryz.func181.trans (Ap2 some (by kernel_rfl))
 f285:=Tryz.func182.trans (Ap2 some (by kernel_rfl))
 f286:=Tryz.func183.trans (Ap2 some (by kernel_rfl))
 f317:=Tryz.func187.trans (Ap2 some (by kernel_rfl))
 f318:=Tryz.func189.trans (Ap2 some (by kernel_rfl))
 f319:=Tryz.func190.trans (Ap2 some (by kernel_rfl))
 f320:=Tryz.func191.trans (Ap2 some (by kernel_rfl))
 f337:=Tryz.func192.trans (Ap2 some (by kernel_rfl))
 f338:=Tryz.func193.trans (Ap2 some (by kernel_rfl))
 t0:=Tryz.underlying0
 a0:=Tryz.isAgg0
 z0:=Tryz.sizeOf0
 v0:=Tryz.zeroValue0
 t2:=Tryz.underlying2
 a2:=Tryz.isAgg2
 z2:=Tryz.sizeOf2
 v2:=Tryz.zeroValue2
 t3:=Tryz.underlying3
 a3:=Tryz.isAgg3
 z3:=Tryz.sizeOf3
 v3:=Tryz.zeroValue3
 t4:=Tryz.underlying4
 a4:=Tryz.isAgg4
 z4:=Tryz.sizeOf4
 v4:=Tryz.zeroValue4
 t5:=Tryz.underlying5
 a5:=Tryz.isAgg5
 z5:=Tryz.sizeOf5
 v5:=Tryz.zeroValue5
 t9:=Tryz.underlying9
 a9:=Tryz.isAgg9
 z9:=Tryz.sizeOf9
 v9:=Tryz.zeroValue9
 t20:=Tryz.underlying20
 a20:=Tryz.isAgg20
 z20:=Tryz.sizeOf20
 v20:=Tryz.zeroValue20
 t37:=Tryz.underlying129
 a37:=Tryz.isAgg129
 z37:=Tryz.sizeOf129
 v37:=Tryz.zeroValue129
 t46:=Tryz.underlying220
 a46:=Tryz.isAgg220
 z46:=Tryz.sizeOf220
 v46:=Tryz.zeroValue220
 t51:=Tryz.underlying184
 a51:=Tryz.isAgg184
 z51:=Tryz.sizeOf184
 v51:=Tryz.zeroValue184
 t53:=Tryz.underlying249
 a53:=Tryz.isAgg249
 z53:=Tryz.sizeOf249
 v53:=Tryz.zeroValue249
 t171:=Tryz.underlying265
 a171:=Tryz.isAgg265
 z171:=Tryz.sizeOf265
 v171:=Tryz.zeroValue265
 t173:=Tryz.underlying268
 a173:=Tryz.isAgg268
 z173:=Tryz.sizeOf268
 v173:=Tryz.zeroValue268
 t212:=Tryz.underlying275
 a212:=Tryz.isAgg275
 z212:=Tryz.sizeOf275
 v212:=Tryz.zeroValue275
 t213:=Tryz.underlying276
 a213:=Tryz.isAgg276
 z213:=Tryz.sizeOf276
 t232:=Tryz.underlying279
 a232:=Tryz.isAgg279
 z232:=Tryz.sizeOf279
 v232:=Tryz.zeroValue279
 t233:=Tryz.underlying280
 a233:=Tryz.isAgg280
 z233:=Tryz.sizeOf280
 v233:=Tryz.zeroValue280
 g17:=by kernel_rfl
 g18:=by kernel_rfl
 g19:=by kernel_rfl
 i0:=by kernel_rfl
 i2:=by kernel_rfl
 i3:=by kernel_rfl
 i4:=by kernel_rfl
 i5:=by kernel_rfl
 i9:=by kernel_rfl
 i20:=by kernel_rfl
 i37:=by kernel_rfl
 i46:=by kernel_rfl
 i51:=by kernel_rfl
 i53:=by kernel_rfl
 i171:=by kernel_rfl
 i173:=by kernel_rfl
 i212:=by kernel_rfl
 i232:=by kernel_rfl
 i233:=by kernel_rfl
 m17:=by kernel_rfl
 m18:=by kernel_rfl
 m19:=by kernel_rfl }
open Go.Rv Go.RowKit
theorem AdT{rs:AoO}{n:Int}{r:List UInt8}(h:Adh n=some r):Con (B rs) 103 [i64 n] [] (fun r' O'=>r'=.str r/\O'=[]):=by
 unfold Adh at h;split at h
 case isFalse=>cases h
 rename_i hl;obtain⟨hl1,hl2⟩:=hl;simp only[Ao7]at h;subst h;refine⟨fun F w g vs hm ha=>.inl ⟨⟨Tryz.f103,_,Tryz.func103,rfl,by decide +kernel⟩,?_⟩⟩;have hg:g=[]:=ApM.1 hm.len;subst hg;obtain⟨vs⟩:=vs
 match vs,ha with
 | [u],⟨h1,_⟩=>
  have hu:=DI h1;subst hu
  have htab:Lib.TabIs Tryz.prog w "internal/strconv.uint64pow10" .u64 Lib.pow10Tab:=by
   obtain⟨_,t,o,hw⟩:=hm.whole 7 _ rfl;unfold Lib.TabIs World.var?;rw[show Tryz.prog.globalNamed "internal/strconv.uint64pow10" = some 7 by kernel_rfl,Ap4,hw]
  have key:Calls Tryz.prog 103 #[.int .i64 n] w fun e w'=>e=.returned (.string ⟨(Lib.itoa n).toArray⟩)/\Below w.heap.size w w' :=
   (Any.strconv_Itoa Tryz.laysM171 n hl1 hl2 w htab).mono fun e w' ⟨e1,k,os,e2⟩=>⟨e1,by
    rw[e2];exact Lib.below_grow _ w (Apm _) k os⟩
  refine key.mono fun e w' ⟨he,hb⟩=>?_
  have evo:Evo ((B rs).env F) 0 w [] w' []:=⟨hb.os,hb.tape,hb.output,hb.size,fun a u hc hp=>⟨by
   rw[<-hc];simp only[World.cell?,hb.block _ (cell?_lt hc)],hp⟩,fun β hβ hn=>⟨hb.block β hβ,hn⟩,fun _ hh=>absurd hh (Ap0 _)⟩
  exact⟨_,_,[],[],he,⟨rfl,rfl⟩,(Oi hm evo).1,evo,.str _ _ _ (by simp)⟩
variable {rs:AoO}
theorem J5{s1_8461:List AoT}{s2_8462:List AoT}{b:AoT->AoT->Option (Bool)}{a:Nat}(f:∀{a0:AoT} {a1:AoT} {r:Bool},b a0 a1=some r->Con (B rs) a [.agg (xE a0),.agg (xE a1)] [] (fun r' O'=>r'=.bool r/\O'=[])){r:Bool}(h:Do s1_8461 s2_8462 b=some r):Con (B rs) 44 [.sl false (L cApi_Expr s1_8461),.sl false (L cApi_Expr s2_8462),.fn a []] [] (fun r' O'=>r'=.bool r/\O'=[]):=by
 refine FA (N:=32) (rs:=[.tmp 6]) ok Tryz.func44 rfl (by decide +kernel) rfl rfl (Apq rfl) (fun F=>?_);have hE:=(ok (rs:=rs)).env F;unfold Do at h;show Run ((B rs).env F) 0 _ ⟨Ai 32 [(0,.sl false (L cApi_Expr s1_8461)),(1,.sl false (L cApi_Expr s2_8462)),(2,.fn a [])],[]⟩ _;refine BM ?_;revert h;refine T0 [0,1,2] ?_;refine Sq <|T0 [0,1,2,14] ?_
 refine Cd ?_ ?_
 ·refine T0 [6] ?_;exact Sr <|Tr <|Rr
 refine Sk <|Tn <|?_
 refine Jo (fun _=>⟨Ai 32 [],[]⟩) ?_ ?_
 ·intro ae g;refine T0 [1,2,15,16,17] ?_;refine Sb ?_;refine Lo (fun c=>⟨Ai 32 [(1,.sl false (L cApi_Expr s2_8462)),(2,.fn a []),(15,.sl false (L cApi_Expr s1_8461)),(16,i64 (s1_8461.length:Int)),(17,i64 c)],[]⟩) (ws []) ?_;rintro c af i d e;show Dq s1_8461 s2_8462 b c=some i->_;unfold Dq;refine T0 [1,2,15,16,17,18] ?_;refine Sq <|Cd ?_ ?_
  ·refine Sk <|Tn <|Sq <|Sb <|Ck fun j =>Lt fun k m =>Lt fun n o =>Lt fun p q =>Lt fun s t =>Te (O':=[.box (i64 k::i64 n::(C1 i64 p.l++[.sl false (L cApi_Expr s)])) false]) [1,2,7,8,15,16,17] Ab (Ew5 (qR j) m o q t) ?_
   refine Ck fun u =>Lt fun v w =>Lt fun x y =>Lt fun z aa =>Lt fun ab ac =>Te (O':=[_,.box (i64 v::i64 x::(C1 i64 z.l++[.sl false (L cApi_Expr ab)])) false]) [1,2,8,9,15,16,17] Ab (Ew5 (qR u) w y aa ac) ?_
   refine Bd fun ag ad =>Te [1,2,15,16,17,30] (o1 29 (f ad)) Ev ?_
   refine Cd ?_ ?_
   ·refine T0 [6] ?_;exact Sr <|Br <|Tr <|Lr e d <|Br <|Jr g <|Rr
   refine Sk <|Bn <|Tn <|F0 [1,2,15,16,17] ?_
   exact Ln (ws [])
  refine Sx <|Tx <|Lx e d <|Bx <|?_
  exact Jn ((ws (l':=[]) (O':=[]) []).trans (ws []))
 intro _;refine T0 [6] ?_;exact Sr <|Rr
theorem JU{rec_:AoT->AoT->Option (Bool)}(hrec:∀{a:AoT} {b:AoT} {r:Bool},rec_ a b=some r->Con (B rs) 21 [.agg (xE a),.agg (xE b)] [] (fun r' O'=>r'=.bool r/\O'=[])){a:AoT}{b:AoT}{r:Bool}(h:DU rec_ a b=some r):Con (B rs) 21 [.agg (xE a),.agg (xE b)] [] (fun r' O'=>r'=.bool r/\O'=[]):=by
 refine FA (N:=31) (rs:=[.tmp 4]) ok Tryz.func21 rfl (by decide +kernel) rfl rfl (Apq rfl) (fun F=>?_);have hE:=(ok (rs:=rs)).env F;unfold DU at h;show Run ((B rs).env F) 0 _ ⟨Ai 31 [(0,.agg (xE a)),(1,.agg (xE b))],[]⟩ _;refine BM ?_;revert h;refine T0 [2,3] ?_;refine Tw [4] (fun f=>⟨Ai 31 [(4,.bool f)],[]⟩) ?_ ?_
 ·intro _;refine Sp (fun c=>?_) fun c=>?_
  ·refine Sp (fun d=>?_) fun d=>?_
   ·refine Sp (fun e=>?_) fun e=>?_
    ·refine Bd fun i g=>?_
     exact Lf (o1 29 (J5 (fun h=>hrec h) g)) (Ew3 c d e) (ws [])
    exact Lf Ab (Ew3 c d e) (ws [])
   exact Lf Ab (Ew2 c d) (ws [])
  exact Lf Ab (Ew1 c) (ws [])
 intro f;exact Sr <|Rr
theorem Ko(n:Nat):∀{a:AoT} {b:AoT} {r:Bool},DV n a b=some r->Con (B rs) 21 [.agg (xE a),.agg (xE b)] [] (fun r' O'=>r'=.bool r/\O'=[]):=by
 induction n with
 |zero=>intro a b r h;cases h
 |succ n ih=>intro a b r h;exact JU ih h
theorem LA{a:AoT}{b:AoT}{r:Bool}(h:JM a b=some r):Con (B rs) 21 [.agg (xE a),.agg (xE b)] [] (fun r' O'=>r'=.bool r/\O'=[]):=Ko _ h
theorem ML{c d r}(h:EV c d=some r):Con (B rs) 19 [.agg (Aa c),.agg (Aa d)] [] (fun r' O'=>r'=.bool r/\O'=[]):=by
 refine Cw 24 [.tmp 4] Tryz.func19 (fun F hE=>?_) h;unfold EV;refine T0 [2,3] ?_;refine Tw [4] (fun e=>⟨Ai 24 [(4,.bool e)],[]⟩) ?_ ?_
 ·intro _;refine Sp (fun a=>?_) fun a=>?_
  ·refine Bd fun i f=>?_
   refine Sp (fun b=>?_) fun b=>?_
   ·refine Bd fun j g=>?_
    exact Lf (o2 15 (HL f) 22 (LA g)) (Ew2 a b) (ws [])
   exact Lf (o1 15 (HL f)) (Ew2 a b) (ws [])
  exact Lf Ab (Ew1 a) (ws [])
 intro e;exact Sr <|Rr
theorem J6{s1_8598:List AoU}{s2_8599:List AoU}{b:AoU->AoU->Option (Bool)}{a:Nat}(f:∀{a0:AoU} {a1:AoU} {r:Bool},b a0 a1=some r->Con (B rs) a [.agg (Aa a0),.agg (Aa a1)] [] (fun r' O'=>r'=.bool r/\O'=[])){r:Bool}(h:Dj s1_8598 s2_8599 b=some r):Con (B rs) 18 [.sl false (L Aa s1_8598),.sl false (L Aa s2_8599),.fn a []] [] (fun r' O'=>r'=.bool r/\O'=[]):=by
 refine FA (N:=32) (rs:=[.tmp 6]) ok Tryz.func18 rfl (by decide +kernel) rfl rfl (Apq rfl) (fun F=>?_);have hE:=(ok (rs:=rs)).env F;unfold Dj at h;show Run ((B rs).env F) 0 _ ⟨Ai 32 [(0,.sl false (L Aa s1_8598)),(1,.sl false (L Aa s2_8599)),(2,.fn a [])],[]⟩ _;refine BM ?_;revert h;refine T0 [0,1,2] ?_;refine Sq <|T0 [0,1,2,14] ?_
 refine Cd ?_ ?_
 ·refine T0 [6] ?_;exact Sr <|Tr <|Rr
 refine Sk <|Tn <|?_
 refine Jo (fun _=>⟨Ai 32 [],[]⟩) ?_ ?_
 ·intro am g;refine T0 [1,2,15,16,17] ?_;refine Sb ?_;refine Lo (fun c=>⟨Ai 32 [(1,.sl false (L Aa s2_8599)),(2,.fn a []),(15,.sl false (L Aa s1_8598)),(16,i64 (s1_8598.length:Int)),(17,i64 c)],[]⟩) (ws []) ?_;rintro c an i d e;show Dt s1_8598 s2_8599 b c=some i->_;unfold Dt;refine T0 [1,2,15,16,17,18] ?_;refine Sq <|Cd ?_ ?_
  ·refine Sk <|Tn <|Sq <|Sb <|Ck fun j =>Lt fun k m =>Lt fun n o =>Lt fun p q =>Lt fun s t =>Lt fun u v =>Lt fun w x =>Te (O':=[.box (.str k::.sl false (L Af n)::i64 p::i64 s::(C1 i64 u.l++[.sl false (L cApi_Expr w)])) false]) [1,2,7,8,15,16,17] Ab (Ev (by simp only[go_sem,qR j,m,o,q,t,v,x];exact C2)) ?_
   refine Ck fun y =>Lt fun z aa =>Lt fun ab ac =>Lt fun ad ae =>Lt fun af ag =>Lt fun ah ai =>Lt fun aj ak =>Te (O':=[_,.box (.str z::.sl false (L Af ab)::i64 ad::i64 af::(C1 i64 ah.l++[.sl false (L cApi_Expr aj)])) false]) [1,2,8,9,15,16,17] Ab (Ev (by simp only[go_sem,qR y,aa,ac,ae,ag,ai,ak];exact C2)) ?_
   refine Bd fun ao al =>Te [1,2,15,16,17,30] (o1 29 (f al)) Ev ?_
   refine Cd ?_ ?_
   ·refine T0 [6] ?_;exact Sr <|Br <|Tr <|Lr e d <|Br <|Jr g <|Rr
   refine Sk <|Bn <|Tn <|F0 [1,2,15,16,17] ?_
   exact Ln (ws [])
  refine Sx <|Tx <|Lx e d <|Bx <|?_
  exact Jn ((ws (l':=[]) (O':=[]) []).trans (ws []))
 intro _;refine T0 [6] ?_;exact Sr <|Rr
theorem DW{c d r}(h:Cb c d=some r):Con (B rs) 8 [.agg (Ad c),.agg (Ad d)] [] (fun r' O'=>r'=.bool r/\O'=[]):=by
 refine Cw 24 [.tmp 4] Tryz.func8 (fun F hE=>?_) h;unfold Cb;refine T0 [2,3] ?_;refine Tw [4] (fun e=>⟨Ai 24 [(4,.bool e)],[]⟩) ?_ ?_
 ·intro _;refine Sp (fun a=>?_) fun a=>?_
  ·refine Sp (fun b=>?_) fun b=>?_
   ·refine Bd fun g f=>?_
    exact Lf (o1 22 (J6 (fun h=>ML h) f)) (Ew2 a b) (ws [])
   exact Lf Ab (Ew2 a b) (ws [])
  exact Lf Ab (Ew1 a) (ws [])
 intro e;exact Sr <|Rr
theorem Na{a b r}(h:Gb a b=some r):Con (B rs) 10 [.agg (Ad a),.agg (Aa b)] [] (fun r' O'=>r'=.bool r/\O'=[]):=by
 refine Cw 22 [.tmp 4] Tryz.func10 (fun F hE=>?_) h;unfold Gb;refine T0 [2,3] ?_;refine Jo (fun _=>⟨Ai 22 [],[]⟩) ?_ ?_
 ·intro y f;refine T0 [3,8,9,10] ?_;refine Sb ?_;refine Lo (fun c=>⟨Ai 22 [(3,.ref 0 0),(8,.sl false (L Aa a.Zf)),(9,i64 (a.Zf.length:Int)),(10,i64 c)],[.box (Aa b) false]⟩) (ws [1]) ?_;rintro c z g d e;show FG a b c=some g->_;unfold FG;refine T0 [3,8,9,10,11] ?_;refine Sq <|Cd ?_ ?_
  ·refine Sk <|Tn <|Sq <|Sb <|Ck fun i =>Lt fun j k =>Lt fun m n =>Lt fun o p =>Lt fun q s =>Lt fun t u =>Lt fun v w =>Te (O':=[_,.box (.str j::.sl false (L Af m)::i64 o::i64 q::(C1 i64 t.l++[.sl false (L cApi_Expr v)])) false]) [3,6,8,9,10] Ab (Ev (by simp only[go_sem,qR i,k,n,p,s,u,w];exact C2)) ?_
   refine Bd fun aa x =>Te [3,8,9,10,20] (o1 20 (DW x)) Ev ?_
   refine Cd ?_ ?_
   ·refine T0 [4] ?_;exact Sr <|Br <|Tr <|Lr e d <|Br <|Jr f <|Rr
   refine Sk <|Bn <|Tn <|F0 [3,8,9,10] ?_
   exact Ln (ws [0])
  refine Sx <|Tx <|Lx e d <|Bx <|?_
  exact Jn ((ws (l':=[]) (O':=[]) []).trans (ws []))
 intro _;refine T0 [4] ?_;exact Sr <|Rr
theorem My{a r}(h:F7 a=some r):Con (B rs) 6 [.sl false (L Ae a)] [] (fun r' O'=>r'=.bool r/\O'=[]):=by
 refine Cw 26 [.tmp 2] Tryz.func6 (fun F hE=>?_) h;unfold F7;refine T0 [0] ?_;refine T0 [0,3] ?_;refine Ja (fun c=>⟨Ai 26 [(0,.sl false (L Ae a)),(3,i64 c)],[]⟩) ?_ ?_
 ·intro aH;refine T0 [0,3,6,7,8] ?_;refine Sb ?_;refine Lo (fun(v:Int×Int)=>(⟨Ai 26 [(0,.sl false (L Ae a)),(3,i64 v.1),(6,.sl false (L Ae a)),(7,i64 (a.length:Int)),(8,i64 v.2)],[]⟩:St)) (ws []) ?_;rintro⟨d,f⟩ aI g i j;show Fj a d f=some g->_;unfold Fj;refine T0 [0,3,6,7,8,9] ?_;refine Sq <|Cd ?_ ?_
  ·refine Sk <|Tn <|Sq <|Sb <|Ck fun k =>Lt fun l m =>Lt fun n o =>Lt fun p q =>Lt fun s t =>Lt fun u w =>Lt fun x y =>Lt fun z aa =>Lt fun ab ac =>Lt fun ad ae =>Lt fun af ag =>Lt fun ah ai =>Lt fun aj ak =>Lt fun al am =>Lt fun an ao =>Lt fun ap aq =>Lt fun ar au =>Lt fun av aw =>Lt fun ax ay =>Lt fun az aA =>Lt fun aB aC =>Lt fun aD aE =>Te (O':=[.box [i64 l,i64 n,i64 p,i64 s,i64 u,i64 x,i64 z,i64 ab,i64 ad,i64 af,i64 ah,i64 aj,i64 al,i64 an,i64 ap,i64 ar,i64 av,i64 ax,i64 az,.str aB,.sl false (L Dm aD)] false]) [0,3,5,6,7,8] Ab (Ev (by simp only[go_sem,qR k,m,o,q,t,w,y,aa,ac,ae,ag,ai,ak,am,ao,aq,au,aw,ay,aA,aC,aE];exact C2)) ?_
   refine Lt fun aF aG =>Fe (fr':=[(0,_),(3,i64 aF),(6,_),(7,_),(8,_)]) [0,3,6,7,8] Ab (Ew1 aG) ?_
   refine Bn <|Tn <|F0 [0,3,6,7,8] ?_
   exact Ln (ws [])
  refine Sx <|Tx <|Ly j i <|Bx <|?_
  exact Jm ((ws (l':=[(0,.sl false (L Ae a)),(3,i64 d)]) (O':=[]) []).trans (ws []))
 intro c;refine Tw [2] (fun e=>⟨Ai 26 [(2,.bool e)],[]⟩) ?_ ?_
 ·intro _;refine Sp (fun b=>?_) fun b=>?_
  ·exact Lf Ab (Ew1 b) (ws [])
  exact Lf Ab (Ew1 b) (ws [])
 intro e;exact Sr <|Rr
theorem NM{n:Int}{r:List UInt8}(h:strconv_Itoa n=some r):Con (B rs) 103 [i64 n] [] (fun r' O'=>r'=.str r/\O'=[]) :=
 AdT h
theorem Ap{a c r}(h:Aq a c=some r):Con (B rs) 25 [.ref 0 0,.sl false (L Bc c)] [.box [.bs false 1 (a.l.length) 0 (a.l.length)] false,.buf 1 (L Bc a.l) false] (fun r' O'=>r'=.tup []/\O'=[.box [.bs false 1 (r.l.length) 0 (r.l.length)] false,.buf 1 (L Bc r.l) false]):=by
 refine Co 2 13 [] Tryz.func25 (fun F hE=>?_) h;unfold Aq;refine Ck fun d =>Lt fun b e =>Fe (O':=[.box [.bs false 1 (b.length) 0 (b.length)] false,.buf 1 (L Bc b) false]) [] Ab (Ew2 d e) ?_
 exact Ro [0,1]
theorem C9{a c r}(h:Bi a c=some r):Con (B rs) 63 [.ref 0 0,i64 c] [.box [.bs false 1 (a.l.length) 0 (a.l.length)] false,.buf 1 (L Bc a.l) false] (fun r' O'=>r'=.tup []/\O'=[.box [.bs false 1 (r.l.length) 0 (r.l.length)] false,.buf 1 (L Bc r.l) false]):=by
 refine Co 2 9 [] Tryz.func63 (fun F hE=>?_) h;unfold Bi;refine Bd fun d e =>Bd fun i f =>Lt fun b g =>?_
 refine Ffe (O':=[.box [.bs false 1 (b.length) 0 (b.length)] false,.buf 1 (L Bc b) false]) [] (Ag (l:=[(6,_,_,_)]) (m:=[(8,25,[.ref 0 0,.sl false (L Bc ([d]:List (List UInt8)))],[.box [.bs false 1 (a.l.length) 0 (a.l.length)] false,.buf 1 (L Bc a.l) false],_,_)]) ⟨NM  e,trivial⟩ ⟨(wc (Ap f) [0,1]),trivial⟩) (Ew1 g) ?_;exact Ro [0,1]
theorem Xe(B:Base)(o:Out):(B.env o).P=B.P:=rfl
theorem AlE{w:World}{pr:Addr->Prop}{g:Gh}(t:TypeId)(x y:Int):Rep w pr g (.iface t (.agg #[.int .i64 x,.int .i64 y])) (.iface t (.agg [i64 x,i64 y])):=by
 refine .iface _ _ _ _ (.agg _ _ _ rfl (fun i z h=>?_) (fun i z h=>?_))
 ·match i,h with
  |0,h=>cases h;rfl
  |1,h=>cases h;rfl
 match i,h with
 |0,h=>cases h;exact .int _ _ _
 |1,h=>cases h;exact .int _ _ _
theorem Aen{rs:AoO}{a0 a1 a2 a3 a4:AV}:AmZ (B rs) 46 (KY 3) [.box [a0,a1,a2] false,.box [a3] false,.box [a4] false] .returning .returning [.box [a0,a1,a2] false,.box [a3] false,.box [a4] false,.box [i64 0,i64 0] false]:=by
 intro F w g vs hm ha;have hE:=(ok (rs:=rs)).env F;have hbty:((B rs).env F).bty=none:=rfl;obtain⟨vs⟩:=vs
 match vs,ha with
 | [p_,q_,s_],⟨hp,hq,hs,_⟩=>
  refine callsD_of_wpS Tryz.func46 rfl fun c₀ cs hu=>?_
  refine wpS_seq (wpS_region ?_);show wpOpsS (B rs).P _ _ [0,1,2,3,4,5,6,7] _ _ _;refine Ack _ ⟨#[p_,q_,s_,undef,undef,undef,.nilIface,undef,undef,undef,undef,undef,undef,undef,undef,undef],[]⟩ rfl rfl rfl hu rfl ?_
  have hr:Rel ((B rs).env F) w g ⟨Ai 16 [(6,.val .nilIface),(0,.ref 0 0),(1,.ref 1 0),(2,.ref 2 0)],[.box [a0,a1,a2] false,.box [a3] false,.box [a4] false]⟩ ⟨#[p_,q_,s_,undef,undef,undef,.nilIface,undef,undef,undef,undef,undef,undef,undef,undef,undef],[]⟩:=by
   refine⟨rfl,RH ?_,hm,.plain rfl⟩;intro p h;simp only[Apx,List.not_mem_nil,or_false]at h;rcases h with rfl|rfl|rfl|rfl
   ·exact .val _ _ rfl
   ·exact hp
   ·exact hq
   exact hs
  refine D9 (P:=(B rs).P) hE (Xe _ _) _ (by rfl) (by rfl) hr (x:=.tup [.agg [i64 0,i64 0],.bool false]) (O':=[.box [a0,a1,a2] false,.box [a3] false,.box [a4] false]) (by simp only[go_sem,Ng,Agn,XW]) fun a1_ w1 g1 r1 e1 l1=>?_
  refine D9 (P:=(B rs).P) hE (Xe _ _) _ (by rfl) (by rfl) r1 (x:=.tup [.agg [i64 0,i64 0],.bool false]) (O':=[.box [a0,a1,a2] false,.box [a3] false,.box [a4] false]) (by simp only[go_sem]) fun a2_ w2 g2 r2 e2 l2=>?_
  refine D9 (P:=(B rs).P) hE (Xe _ _) _ (by rfl) (by rfl) r2 (x:=.agg [i64 0,i64 0]) (O':=[.box [a0,a1,a2] false,.box [a3] false,.box [a4] false]) (by simp only[go_sem]) fun a3_ w3 g3 r3 e3 l3=>?_
  refine D9 (P:=(B rs).P) hE (Xe _ _) _ (by rfl) (by rfl) r3 (x:=.bool false) (O':=[.box [a0,a1,a2] false,.box [a3] false,.box [a4] false]) (by simp only[go_sem]) fun a4_ w4 g4 r4 e4 l4=>?_
  refine D9 (P:=(B rs).P) hE (Xe _ _) _ (by rfl) (by rfl) r4 (x:=.ref 3 0) (O':=[.box [a0,a1,a2] false,.box [a3] false,.box [a4] false,.box [i64 0,i64 0] false]) (by simp only[go_sem,hbty,reduceCtorEq,Ap5]) fun a5_ w5 g5 r5 e5 l5=>?_
  refine D9 (P:=(B rs).P) hE (Xe _ _) _ (by rfl) (by rfl) r5 (x:=.junk) (O':=[.box [a0,a1,a2] false,.box [a3] false,.box [a4] false,.box [i64 0,i64 0] false]) (by simp only[go_sem]) fun a6_ w6 g6 r6 e6 l6=>?_
  refine D9 (P:=(B rs).P) hE (Xe _ _) _ (by rfl) (by rfl) r6 (x:=.bool false) (O':=[.box [a0,a1,a2] false,.box [a3] false,.box [a4] false,.box [i64 0,i64 0] false]) (by simp only[go_sem]) fun a7_ w7 g7 r7 e7 l7=>?_
  refine Xl ?_;refine QX (n:=3) (fr':=Ai 16 []) rfl (((((((e1.of_gle l1).trans (e2.of_gle l2)).trans (e3.of_gle l3)).trans (e4.of_gle l4)).trans (e5.of_gle l5)).trans (e6.of_gle l6)).trans (e7.of_gle l7)) r7 ?_;refine IJ hE [10] (fr':=[(10,.bool false)]) (O':=[.box [a0,a1,a2] false,.box [a3] false,.box [a4] false,.box [i64 0,i64 0] false]) ⟨_,Ab,by simp only[go_sem]⟩ ?_;exact Jc (b:=false) rfl (by decide) (fun hb=>by cases hb) (fun _=>Sf ZX)
theorem Jq{rs:AoO}{a0 a1 a2 a3 a4:AV}{x_ y_:Int}:AmZ (B rs) 46 (KY 3) [.box [a0,a1,a2] false,.box [a3] false,.box [a4] false] (.panicking (NL (.iface 104 (.agg #[.int .i64 x_,.int .i64 y_])))) (.panicking [{ v:=(.iface 104 (.agg #[.int .i64 x_,.int .i64 y_])),recovered:=true }]) [.box [.str [],i64 0,.sl true []] false,.box [i64 x_] false,.box [i64 y_] false,.box [i64 x_,i64 y_] false]:=by
 intro F w g vs hm ha;have hE:=(ok (rs:=rs)).env F;have hbty:((B rs).env F).bty=none:=rfl;obtain⟨vs⟩:=vs
 match vs,ha with
 | [p_,q_,s_],⟨hp,hq,hs,_⟩=>
  refine callsD_of_wpS Tryz.func46 rfl fun c₀ cs hu=>?_
  refine wpS_seq (wpS_region ?_);show wpOpsS (B rs).P _ _ [0,1,2,3,4,5,6,7] _ _ _;refine VU _ (.iface 104 (.agg #[.int .i64 x_,.int .i64 y_])) [] ⟨#[p_,q_,s_,undef,undef,undef,(.iface 104 (.agg #[.int .i64 x_,.int .i64 y_])),undef,undef,undef,undef,undef,undef,undef,undef,undef],[]⟩ rfl rfl rfl hu rfl ?_
  have hr:Rel ((B rs).env F) w g ⟨Ai 16 [(6,.iface 104 (.agg [i64 x_,i64 y_])),(0,.ref 0 0),(1,.ref 1 0),(2,.ref 2 0)],[.box [a0,a1,a2] false,.box [a3] false,.box [a4] false]⟩ ⟨#[p_,q_,s_,undef,undef,undef,(.iface 104 (.agg #[.int .i64 x_,.int .i64 y_])),undef,undef,undef,undef,undef,undef,undef,undef,undef],[]⟩:=by
   refine⟨rfl,RH ?_,hm,.plain rfl⟩;intro p h;simp only[Apx,List.not_mem_nil,or_false]at h;rcases h with rfl|rfl|rfl|rfl
   ·exact AlE _ _ _
   ·exact hp
   ·exact hq
   exact hs
  refine D9 (P:=(B rs).P) hE (Xe _ _) _ (by rfl) (by rfl) hr (x:=.tup [.agg [i64 x_,i64 y_],.bool true]) (O':=[.box [a0,a1,a2] false,.box [a3] false,.box [a4] false]) (by simp only[go_sem,Ng,Agn,XW]) fun a1_ w1 g1 r1 e1 l1=>?_
  refine D9 (P:=(B rs).P) hE (Xe _ _) _ (by rfl) (by rfl) r1 (x:=.tup [.agg [i64 x_,i64 y_],.bool true]) (O':=[.box [a0,a1,a2] false,.box [a3] false,.box [a4] false]) (by simp only[go_sem]) fun a2_ w2 g2 r2 e2 l2=>?_
  refine D9 (P:=(B rs).P) hE (Xe _ _) _ (by rfl) (by rfl) r2 (x:=.agg [i64 x_,i64 y_]) (O':=[.box [a0,a1,a2] false,.box [a3] false,.box [a4] false]) (by simp only[go_sem]) fun a3_ w3 g3 r3 e3 l3=>?_
  refine D9 (P:=(B rs).P) hE (Xe _ _) _ (by rfl) (by rfl) r3 (x:=.bool true) (O':=[.box [a0,a1,a2] false,.box [a3] false,.box [a4] false]) (by simp only[go_sem]) fun a4_ w4 g4 r4 e4 l4=>?_
  refine D9 (P:=(B rs).P) hE (Xe _ _) _ (by rfl) (by rfl) r4 (x:=.ref 3 0) (O':=[.box [a0,a1,a2] false,.box [a3] false,.box [a4] false,.box [i64 0,i64 0] false]) (by simp only[go_sem,hbty,reduceCtorEq,Ap5]) fun a5_ w5 g5 r5 e5 l5=>?_
  refine D9 (P:=(B rs).P) hE (Xe _ _) _ (by rfl) (by rfl) r5 (x:=.junk) (O':=[.box [a0,a1,a2] false,.box [a3] false,.box [a4] false,.box [i64 x_,i64 y_] false]) (by simp only[go_sem]) fun a6_ w6 g6 r6 e6 l6=>?_
  refine D9 (P:=(B rs).P) hE (Xe _ _) _ (by rfl) (by rfl) r6 (x:=.bool true) (O':=[.box [a0,a1,a2] false,.box [a3] false,.box [a4] false,.box [i64 x_,i64 y_] false]) (by simp only[go_sem]) fun a7_ w7 g7 r7 e7 l7=>?_
  refine Xl ?_;refine QX (n:=3) (fr':=Ai 16 []) rfl (((((((e1.of_gle l1).trans (e2.of_gle l2)).trans (e3.of_gle l3)).trans (e4.of_gle l4)).trans (e5.of_gle l5)).trans (e6.of_gle l6)).trans (e7.of_gle l7)) r7 ?_;refine IJ hE [0,1,2,3,10] (fr':=[(0,.ref 0 0),(1,.ref 1 0),(2,.ref 2 0),(3,.ref 3 0),(10,.bool true)]) (O':=[.box [a0,a1,a2] false,.box [a3] false,.box [a4] false,.box [i64 x_,i64 y_] false]) ⟨_,Ab,by simp only[go_sem]⟩ ?_;refine Jc (b:=true) rfl (by decide) (fun _=>?_) (fun hb=>by cases hb);refine K7 hE mixed [[],[],[1],[],[3],[0],[0,1,2,5],[0,1,2,3,4,5,6]] (by kernel_rfl) [(0,0),(1,1),(2,2),(3,3),(12,3),(14,3)] [] [0,1,2,3,12,14] (by kernel_rfl) AhX (fr':=[(0,.ref 0 0),(1,.ref 1 0),(2,.ref 2 0),(3,.ref 3 0),(12,.ref 3 0),(14,.ref 3 1)]) (O':=[.box [.str [],i64 0,.sl true []] false,.box [i64 x_] false,.box [i64 y_] false,.box [i64 x_,i64 y_] false]) ⟨rfl,rfl,rfl,rfl,rfl,rfl,trivial⟩ ⟨_,_,Ab,(by simp only[XOk]),by simp only[go_sem]⟩ ZX
variable {rs:AoO}
theorem Dr{b:AoW}{r:(List UInt8×AoW)⊕(Int×Int×AoW)}(h:CI b=some r):PCon (B rs) 48 [.ref 0 0] [pS b] (JG r):=by
 refine BE (N:=31) (rs:=[.tmp 2]) 1 rfl ok Tryz.func48 rfl (by decide +kernel) rfl rfl (Apq rfl) (fun F=>?_);have hE:=(ok (rs:=rs)).env F;unfold CI at h;show Run ((B rs).env F) 1 _ ⟨Ai 31 [(0,.ref 0 0)],[pS b]⟩ _;refine BM ?_;revert h;refine T0 [0] ?_;refine Bd fun a e =>Te [0,3,4] (Ag (l:=[]) (m:=[(7,85,[.ref 0 0,i64 1],[pS b],_,_)]) trivial ⟨(wc (Du e) [0]),trivial⟩) Ev ?_
 refine Jo (fun(v:List AoP×Int)=>(⟨Ai 31 [(0,.ref 0 0),(3,.ref 1 0)],[.box [.sl false (L Am v.1),i64 v.2] false,.box (Am a.1) false]⟩:St)) ?_ ?_
 ·intro s f;refine T0 [0,3,11] ?_;refine Cd ?_ ?_
  ·intro h;replace h:=An h;obtain⟨g,c,h⟩:=h;rcases g with i|t
   rotate_left
   ·dsimp only at h;refine Fs 1 13 [.ref 0 0] (Pw (A9 c) [0]) (fun _=>?_);refine Hi ?_;replace h:=An h;obtain⟨u,h,j⟩:=h;obtain rfl:=Ao8 j;obtain rfl:=Ao8 f;obtain rfl:=Ao8 h;exact wpR [0]
   dsimp only at h;refine D2 hE FJ [0,3] (fr':=[(0,.ref 0 0),(3,.ref 1 0)]) (O':=[pS i,.box (Am a.1) false]) ⟨_,(Ag (l:=[]) (m:=[(13,53,[.ref 0 0],[pS a.2.2,.box (Am a.1) false],_,_)]) trivial ⟨(wc (PCon.to (A9 c) rfl) [0]),trivial⟩),?_⟩ ?_
   ·simp only[go_sem]
   revert h;exact Jn (ws [0,1])
  exact Sk <|Jn (ws [0,1])
 rintro⟨k,d⟩;refine Sq <|Bd fun w n =>Te [0,3,16] (o1 16 (Fb n)) Ev ?_
 refine Cd ?_ ?_
 ·intro h;refine Gj hE [] 4 _ (v:=.iface 104 (.agg #[.int .i64 a.1.At,.int .i64 161])) (σ2:=[.box [.sl false (L Am k),i64 d] false,.box (Am a.1) false]) (vals:=[]) rfl rfl ⟨_,[],Ab,trivial,?_⟩ (fun x y z=>?_)
  ·simp only[go_sem]
  refine Ed ?_;obtain rfl:=Ao8 h;exact wpR [0]
 refine Sk <|Tn <|Ck fun o =>Lt fun p q =>Te (O':=[.box [.sl false (L Am p),i64 d] false,_]) [3] Ab (Ew2 o q) ?_
 refine T0 [2] ?_;refine Sr ?_;intro h;obtain rfl:=Ao8 h;exact wpF
theorem KU{a b r}(h:D1 a b=some r):Con (B rs) 134 [.sl false (L Bc a),.str b] [] (fun r' O'=>r'=i64 r/\O'=[]):=by
 refine Cw 19 [.tmp 4] Tryz.func134 (fun F hE=>?_) h;unfold D1;refine T0 [0,1] ?_;refine Jo (fun _=>⟨Ai 19 [],[]⟩) ?_ ?_
 ·intro j f;refine T0 [0,1,7,8] ?_;refine Sb ?_;refine Lo (fun c=>⟨Ai 19 [(0,.sl false (L Bc a)),(1,.str b),(7,i64 (a.length:Int)),(8,i64 c)],[]⟩) (ws []) ?_;rintro c k g d e;show Ee a b c=some g->_;unfold Ee;refine T0 [0,1,7,8,9] ?_;refine Sq <|Cd ?_ ?_
  ·refine Sk <|Tn <|Sq <|Sb <|T0 [0,1,5,7,8] ?_
   refine Ck fun i =>Te [0,1,5,7,8,16] Ab (Ew1 (qR i)) ?_
   refine Cd ?_ ?_
   ·refine T0 [4] ?_;exact Sr <|Br <|Tr <|Lr e d <|Br <|Jr f <|Rr
   refine Sk <|Bn <|Tn <|F0 [0,1,7,8] ?_
   exact Ln (ws [])
  refine Sx <|Tx <|Lx e d <|Bx <|?_
  exact Jn ((ws (l':=[]) (O':=[]) []).trans (ws []))
 intro _;refine T0 [4] ?_;exact Sr <|Rr
theorem CK{a r}(h:Be a=some r):Con (B rs) 26 [.str a] [] (fun r' O'=>r'=.sl false (L Bc r)/\O'=[]):=by
 refine Cw 106 [.tmp 2] Tryz.func26 (fun F hE=>?_) h;unfold Be;refine T0 [0] ?_;refine T0 [0,3] ?_;refine T0 [0,3,4] ?_;refine T0 [0,3,4,5] ?_;refine Ja (fun(v:Int×UInt8)=>(⟨Ai 106 [(0,.str a),(3,i64 v.1),(5,u8 v.2)],[]⟩:St)) ?_ ?_
 ·intro aO;refine T0 [0,3,4,5,6] ?_;refine Sb ?_;refine Lo (fun⟨i,n,j,o⟩=>⟨Ai 106 [(0,.str a),(3,i64 i),(4,i64 n),(5,u8 j),(6,i64 o)],[]⟩) (ws []) ?_;rintro⟨i,n,j,o⟩ aP ab ac ad;show GF a i n j o=some ab->_;unfold GF;refine Sq <|T0 [0,3,4,5,6,16] ?_
  refine Cd ?_ ?_
  ·refine Sk <|Tn <|Sq <|Sb <|Ck fun ae =>Te [0,3,4,5,6,7] Ab (Ew1 (qR ae)) ?_
   refine Lt fun af ag =>Te (fr':=[(0,_),(3,_),(4,_),(5,u8 af),(6,_),(7,_)]) [0,3,4,5,6,7] Ab (Ew1 ag) ?_
   refine Ck fun ah =>Lt fun ai aj =>Te (fr':=[(0,_),(3,_),(4,_),(5,_),(6,_),(8,i64 ai)]) [0,3,4,5,6,8] Ab (Ew2 (qN ah) aj) ?_
   refine Lt fun ak al =>Te (fr':=[(0,_),(3,i64 ak),(5,_),(6,_),(8,_)]) [0,3,5,6,8] Ab (Ew1 al) ?_
   refine F0 [0,3,4,5,6] ?_;refine Bn <|Tn <|F0 [0,3,4,5,6] ?_
   exact Ln (ws [])
  refine Sx <|Tx <|Ly ad ac <|Bx <|?_
  exact Jm ((ws (l':=[(0,.str a),(3,i64 i),(5,u8 j)]) (O':=[]) []).trans (ws []))
 rintro⟨aQ,aR⟩;refine Sq <|T0 [0,3,37] ?_
 refine Cd ?_ ?_
 ·exact Rn
 refine Sk <|Tn <|Ck fun am =>Lt fun b an =>Te (fr':=[(0,_),(9,.bs true 0 (b.length) 0 (b.length))]) (O':=[.buf 1 (L Bc b) false]) [0,9] Ab (Ew2 am an) ?_
 refine T0 [0,9,10] ?_;refine T0 [0,9,10] ?_;refine T0 [0,9,10,12] ?_;refine Ja (fun u=>⟨Ai 106 [(0,.str a),(9,.bs true 0 (b.length) 0 (b.length)),(10,i64 0),(12,i64 u)],[.buf 1 (L Bc b) false]⟩) ?_ ?_
 ·intro aS;refine Sb ?_;refine Lo (fun f=>⟨Ai 106 [(0,.str a),(9,.bs true 0 (b.length) 0 (b.length)),(10,i64 0),(12,i64 f)],[.buf 1 (L Bc b) false]⟩) (ws [0]) ?_;rintro f aT ao ap aq;show G5 a f=some ao->_;unfold G5;refine Sq ?_;refine Tw [0,9,10,12,53] (fun w=>⟨Ai 106 [(0,.str a),(9,.bs true 0 (b.length) 0 (b.length)),(10,i64 0),(12,i64 f),(53,.bool w)],[.buf 1 (L Bc b) false]⟩) ?_ ?_
  ·intro _;refine Sp (fun p=>?_) fun p=>?_
   ·refine Ck fun ar =>Ck fun au =>?_
    exact Lf Ab (Ew3 p (qR ar) (qN au)) (ws [0])
   exact Lf Ab (Ew1 p) (ws [0])
  intro w;refine Cd ?_ ?_
  ·refine Sk <|Tn <|Sb <|F0 [0,9,10,12] ?_
   exact Bn <|Ln (ws [0])
  refine Sx <|Tx <|Ly aq ap <|Bx <|?_
  exact Jm ((ws (l':=[(0,.str a),(9,.bs true 0 (b.length) 0 (b.length)),(10,i64 0),(12,i64 f)]) (O':=[.buf 1 (L Bc b) false]) [0]).trans (ws [0]))
 intro u;refine T0 [0,9,10,11,12] ?_;refine Ja (fun⟨x,y,k⟩=>⟨Ai 106 [(0,.str a),(9,.bs true 0 (k.length) 0 (k.length)),(10,i64 x),(11,i64 y)],[.buf 1 (L Bc k) false]⟩) ?_ ?_
 ·intro aU;refine Sb ?_;refine Lo (fun⟨d,l,q,e⟩=>⟨Ai 106 [(0,.str a),(9,.bs true 0 (e.length) 0 (e.length)),(10,i64 d),(11,i64 l),(12,i64 q)],[.buf 1 (L Bc e) false]⟩) (ws [0]) ?_;rintro⟨d,l,q,e⟩ aV av aw ax;show G6 a d l q e=some av->_;unfold G6;refine Sq <|T0 [0,9,10,11,12,60] ?_
  refine Cd ?_ ?_
  ·refine Sk <|Tn <|Sb <|Sq <|Ck fun ay =>Ck fun az =>Lt fun aA aB =>Te (fr':=[(0,_),(9,_),(10,_),(11,_),(12,_),(66,.bool aA)]) [0,9,10,11,12,66] Ab (Ew3 (qR ay) (qN az) aB) ?_
   refine Cd ?_ ?_
   ·refine T0 [0,9,10,11,12] ?_;exact Sx <|Tx <|Bx <|Ln (ws [0])
   refine Sk <|Tn <|Ck fun aC =>Ck fun aD =>Ck fun aE =>Lt fun c aF =>Te (fr':=[(0,_),(9,.bs true 0 (c.length) 0 (c.length)),(10,_),(12,_)]) (O':=[.buf 1 (L Bc c) false]) [0,9,10,12] Ab (Ew4 aC aD (qR aE) aF) ?_
   refine T0 [0,9,10,12] ?_;refine T0 [0,9,10,12] ?_;refine Ja (fun z=>⟨Ai 106 [(0,.str a),(9,.bs true 0 (c.length) 0 (c.length)),(10,i64 (w64 (d+1))),(12,i64 z)],[.buf 1 (L Bc c) false]⟩) ?_ ?_
   ·intro aW;refine Sb ?_;refine Lo (fun g=>⟨Ai 106 [(0,.str a),(9,.bs true 0 (c.length) 0 (c.length)),(10,i64 (w64 (d+1))),(12,i64 g)],[.buf 1 (L Bc c) false]⟩) (ws [0]) ?_;rintro g aX aG aH aI;show G2 a g=some aG->_;unfold G2;refine Sq ?_;refine Tw [0,9,10,12,91] (fun aa=>⟨Ai 106 [(0,.str a),(9,.bs true 0 (c.length) 0 (c.length)),(10,i64 (w64 (d+1))),(12,i64 g),(91,.bool aa)],[.buf 1 (L Bc c) false]⟩) ?_ ?_
    ·intro _;refine Sp (fun s=>?_) fun s=>?_
     ·refine Ck fun aJ =>Ck fun aK =>?_
      exact Lf Ab (Ew3 s (qR aJ) (qN aK)) (ws [0])
     exact Lf Ab (Ew1 s) (ws [0])
    intro aa;refine Cd ?_ ?_
    ·refine Sk <|Tn <|Sb <|F0 [0,9,10,12] ?_
     exact Bn <|Ln (ws [0])
    refine Sx <|Tx <|Ly aI aH <|Bx <|?_
    exact Jm ((ws (l':=[(0,.str a),(9,.bs true 0 (c.length) 0 (c.length)),(10,i64 (w64 (d+1))),(12,i64 g)]) (O':=[.buf 1 (L Bc c) false]) [0]).trans (ws [0]))
   intro z;refine F0 [0,9,10,11,12] ?_;exact Bn <|Ln (ws [0])
  refine Sx <|Tx <|Ly ax aw <|Bx <|?_
  exact Jm ((ws (l':=[(0,.str a),(9,.bs true 0 (e.length) 0 (e.length)),(10,i64 d),(11,i64 l)]) (O':=[.buf 1 (L Bc e) false]) [0]).trans (ws [0]))
 rintro⟨x,y,k⟩;refine Ja (fun m=>⟨Ai 106 [(9,.bs true 0 (m.length) 0 (m.length))],[.buf 1 (L Bc m) false]⟩) ?_ ?_
 ·intro aY;refine T0 [0,9,10,11,98] ?_;refine Cd ?_ ?_
  ·refine Ck fun aL =>Ck fun aM =>Lt fun t aN =>Fe (fr':=[(9,.bs true 0 (t.length) 0 (t.length))]) (O':=[.buf 1 (L Bc t) false]) [9] Ab (Ew3 aL (qR aM) aN) ?_
   exact Jm (ws [0])
  exact Sk <|Jm (ws [0])
 intro m;refine T0 [2] ?_;exact Sr <|Rr
theorem DP{a c r}(h:BA a c=some r):Con (B rs) 86 [.ref 0 0,.str c] [pS a] (fun r' O'=>r'=.tup [i64 r.1,.bool r.2.1]/\O'=[pS r.2.2]):=by
 refine Co 1 34 [.tmp 4,.tmp 5] Tryz.func86 (fun F hE=>?_) h;unfold BA;refine T0 [0,1] ?_;refine Bd fun d f =>Te [0,1,6,7] (Ag (l:=[]) (m:=[(11,85,[.ref 0 0,i64 1],[pS a],_,_)]) trivial ⟨(wc (Du f) [0]),trivial⟩) Ev ?_
 refine Bd fun p g =>Bd fun i j =>De [[],[0],[],[2],[0,1,2,3],[0,1,2,3,4]] [0,7,8] (o2 15 (CK g) 18 (KU j)) Ev ?_
 refine Sq ?_;refine Tw [0,8,24] (fun e=>⟨Ai 34 [(0,.ref 0 0),(8,i64 i),(24,.bool e)],[pS d.2.2]⟩) ?_ ?_
 ·intro _;refine Sp (fun b=>?_) fun b=>?_
  ·exact Lf Ab (Ew1 b) (ws [0])
  exact Lf Ab (Ew1 b) (ws [0])
 intro e;refine Cd ?_ ?_
 ·refine T0 [4,5] ?_;exact Sr <|Tr <|Ro [0]
 refine Sk <|Tn <|Ck fun k =>Lt fun n o =>Te (O':=[.box [.sl false (L Am n),i64 d.2.2.end_] false]) [8] Ab (Ew2 k o) ?_
 refine T0 [4,5] ?_;exact Sr <|Ro [0]
theorem AZ{a:AoW}{b:List UInt8}{r:(Int×AoW)⊕(Int×Int×AoW)}(h:BD a b=some r):PCon (B rs) 49 [.ref 0 0,.str b] [pS a] (JH r):=by
 refine BE (N:=18) (rs:=[.tmp 4]) 1 rfl ok Tryz.func49 rfl (by decide +kernel) rfl rfl (Apq rfl) (fun F=>?_);have hE:=(ok (rs:=rs)).env F;unfold BD at h;show Run ((B rs).env F) 1 _ ⟨Ai 18 [(0,.ref 0 0),(1,.str b)],[pS a]⟩ _;refine BM ?_;revert h;refine T0 [0,1] ?_;refine Bd fun c e =>Te [0,5,6] (Ag (l:=[]) (m:=[(10,86,[.ref 0 0,.str b],[pS a],_,_)]) trivial ⟨(wc (DP e) [0]),trivial⟩) Ev ?_
 refine Jo (fun(v:List AoP×Int)=>(⟨Ai 18 [(5,i64 c.1)],[.box [.sl false (L Am v.1),i64 v.2] false]⟩:St)) ?_ ?_
 ·intro k f;refine T0 [0,5,14] ?_;refine Cd ?_ ?_
  ·intro h;replace h:=An h;obtain⟨g,d,h⟩:=h;rcases g with i|n
   rotate_left
   ·dsimp only at h;refine Fs 1 16 [.ref 0 0] (Pw (A9 d) [0]) (fun _=>?_);refine Hi ?_;replace h:=An h;obtain⟨o,h,j⟩:=h;obtain rfl:=Ao8 j;obtain rfl:=Ao8 f;obtain rfl:=Ao8 h;exact wpR [0]
   dsimp only at h;refine D2 hE FJ [5] (fr':=[(5,i64 c.1)]) (O':=[pS i]) ⟨_,(Ag (l:=[]) (m:=[(16,53,[.ref 0 0],[pS c.2.2],_,_)]) trivial ⟨(wc (PCon.to (A9 d) rfl) [0]),trivial⟩),?_⟩ ?_
   ·simp only[go_sem]
   revert h;exact Jn (ws [0])
  exact Sk <|Jn (ws [0])
 rintro⟨p,q⟩;refine T0 [4] ?_;refine Sr ?_;intro h;obtain rfl:=Ao8 h;exact wpF
variable {rs:AoO}
theorem G0{c:AoW}{r:(Arr Int 4×AoW)⊕(Int×Int×AoW)}(h:DA c=some r):PCon (B rs) 168 [.ref 0 0] [pS c] (JF r):=by
 refine BE (N:=25) (rs:=[.cell 2 42]) 1 rfl ok Tryz.func168 rfl (by decide +kernel) rfl rfl (Apq rfl) (fun F=>?_);have hE:=(ok (rs:=rs)).env F;unfold DA at h;show Run ((B rs).env F) 1 _ ⟨Ai 25 [(0,.ref 0 0)],[pS c]⟩ _;refine BM ?_;revert h;refine T0 [0,2] ?_;refine Ja (fun⟨e,f,d⟩=>⟨Ai 25 [(0,.ref 0 0),(2,.ref 1 0)],[.box [.sl false (L Am e),i64 f] false,.box (C1 i64 d.l) false]⟩) ?_ ?_
 ·intro ab;refine Bd fun ac n =>Te [0,2,3,4] (Ag (l:=[]) (m:=[(7,86,[.ref 0 0,.str ([109,111,110,101,121,32,109,105,110,117,116,101,32,107,109,32,107,103]:List UInt8)],[pS c,.box (C1 i64 (Arr.rep 4 0).l) false],_,_)]) trivial ⟨(wc (DP n) [0]),trivial⟩) Ev ?_
  refine T0 [0,2,3,10] ?_;refine Cd ?_ ?_
  ·refine Ck fun o =>Ck fun p =>Lt fun q s =>Fe (O':=[_,.box (C1 i64 q.l) false]) [0,2] Ab (Ew3 (qR o) (qR p) s) ?_
   exact Jm (ws [0,1])
  exact Sk <|Jm (ws [0,1])
 rintro⟨e,f,d⟩;refine Jo (fun⟨g,i,j⟩=>⟨Ai 25 [(2,.ref 1 0)],[.box [.sl false (L Am g),i64 i] false,.box (C1 i64 j.l) false]⟩) ?_ ?_
 ·intro ad t;refine Bd fun u v =>Te [0,2,17] (Ag (l:=[]) (m:=[(17,51,[.ref 0 0,.str ([112,101,114]:List UInt8)],[.box [.sl false (L Am e),i64 f] false,.box (C1 i64 d.l) false],_,_)]) trivial ⟨(wc (A4 v) [0]),trivial⟩) Ev ?_
  refine Cd ?_ ?_
  ·intro h;replace h:=An h;obtain⟨w,k,h⟩:=h;rcases w with x|ae
   rotate_left
   ·dsimp only at h;refine Fs 1 19 [.ref 0 0,.str ([109,111,110,101,121,32,109,105,110,117,116,101,32,107,109,32,107,103]:List UInt8)] (Pw (AZ k) [0]) (fun _=>?_);refine Hi ?_;replace h:=An h;obtain⟨af,h,y⟩:=h;obtain rfl:=Ao8 y;obtain rfl:=Ao8 t;obtain rfl:=Ao8 h;exact wpR [0]
   dsimp only at h;replace h:=Jk h;obtain⟨a,h⟩:=h;replace h:=Jk h;obtain⟨b,h⟩:=h;replace h:=KI h;obtain⟨z,aa,h⟩:=h;refine D2 hE FJ [2] (fr':=[(2,.ref 1 0)]) (O':=[pS x.2,.box (C1 i64 z.l) false]) ⟨_,(Ag (l:=[]) (m:=[(19,49,[.ref 0 0,.str ([109,111,110,101,121,32,109,105,110,117,116,101,32,107,109,32,107,103]:List UInt8)],[pS u.2,.box (C1 i64 d.l) false],_,_)]) trivial ⟨(wc (PCon.to (AZ k) rfl) [0]),trivial⟩),?_⟩ ?_
   ·subst aa;first|(simp only[go_sem,a,a.2,Ac2 a.2,b,b.2,Ac2 b.2];done)|(simp only[go_sem,a,a.2,Ac2 a.2,b,b.2,Ac2 b.2];simp only[AqP 1])
   revert h;exact Jn (ws [0,1])
  exact Sk <|Jn (ws [0,1])
 rintro⟨g,i,j⟩;refine T0 [2] ?_;refine Sr ?_;intro h;obtain rfl:=Ao8 h;exact wpF
theorem Gz{a:AoW}{c:Int}{r:(AoR×AoW)⊕(Int×Int×AoW)}(h:DE a c=some r):PCon (B rs) 89 [.ref 0 0,i64 c] [pS a] (JE r):=by
 refine BE (N:=37) (rs:=[.cell 4 69]) 1 rfl ok Tryz.func89 rfl (by decide +kernel) rfl rfl (Apq rfl) (fun F=>?_);have hE:=(ok (rs:=rs)).env F;unfold DE at h;show Run ((B rs).env F) 1 _ ⟨Ai 37 [(0,.ref 0 0),(1,i64 c)],[pS a]⟩ _;refine BM ?_;revert h;refine T0 [0,1,4] ?_;refine Bd fun k n =>Te [0,1,4,5] (Ag (l:=[]) (m:=[(8,50,[.ref 0 0],[pS a,.box [i64 0,i64 0,i64 0] false],_,_)]) trivial ⟨(wc (BG n) [0]),trivial⟩) Ev ?_
 intro h;replace h:=An h;obtain⟨o,d,h⟩:=h;rcases o with b|x
 rotate_left
 ·dsimp only at h;refine Ts 1 10 [.ref 0 0,.str ([116,121,112,101,32,111,119,110,101,114,32,114,97,105,108,119,97,121,32,115,104,105,112,112,101,114,32,99,108,97,115,115,32,119,101,105,103,104,116,32,107,109,32,109,105,110,117,116,101,115,32,119,111,114,107,105,110,103,32,99,111,100,101,32,119,111,114,116,104,32,99,111,115,116,32,109,111,110,116,104,32,98,101,103,105,110,32,112,97,114,116,115,32,112,97,114,116]:List UInt8)] (Pw (AZ d) [0]) (fun _=>?_);obtain rfl:=Ao8 h;exact wpR [0]
 dsimp only at h;refine Td [0,1,4,5,6] 10 [.ref 0 0,.str ([116,121,112,101,32,111,119,110,101,114,32,114,97,105,108,119,97,121,32,115,104,105,112,112,101,114,32,99,108,97,115,115,32,119,101,105,103,104,116,32,107,109,32,109,105,110,117,116,101,115,32,119,111,114,107,105,110,103,32,99,111,100,101,32,119,111,114,116,104,32,99,111,115,116,32,109,111,110,116,104,32,98,101,103,105,110,32,112,97,114,116,115,32,112,97,114,116]:List UInt8)] (wcp (AZ d) [0]) ?_;revert h;refine Sq <|T0 [0,4,5,6,13] ?_
 refine Cd ?_ ?_
 ·intro h;refine Gj hE [] 3 _ (v:=.iface 104 (.agg #[.int .i64 k.1,.int .i64 2])) (σ2:=[pS b.2,.box [i64 0,i64 0,i64 0] false,.box [i64 b.1,i64 0,i64 0] false]) (vals:=[]) rfl rfl ⟨_,[],Ab,trivial,?_⟩ (fun y z aa=>?_)
  ·simp only[go_sem]
  refine Ed ?_;obtain rfl:=Ao8 h;exact wpR [0]
 refine Sk <|Tn <|Sq <|Bd fun ab p =>Te [0,4,6,18] (Ag (l:=[]) (m:=[(18,51,[.ref 0 0,.str ([105,115]:List UInt8)],[pS b.2,.box [i64 0,i64 0,i64 0] false,.box [i64 b.1,i64 0,i64 0] false],_,_)]) trivial ⟨(wc (A4 p) [0]),trivial⟩) Ev ?_
 refine Cd ?_ ?_
 ·intro h;replace h:=An h;obtain⟨q,e,h⟩:=h;rcases q with ac|ad
  rotate_left
  ·dsimp only at h;refine Ts 1 20 [.ref 0 0] (Pw (AH e) [0]) (fun _=>?_);refine Ed ?_;obtain rfl:=Ao8 h;exact wpR [0]
  dsimp only at h;refine Td [4,6] 20 [.ref 0 0] (wcp (AH e) [0]) ?_;revert h;refine T0 [4,6] ?_;refine T0 [4] ?_;refine Sr <|Tr <|?_
  intro h;obtain rfl:=Ao8 h;exact wpF
 refine Sk <|Tn <|?_
 intro h;replace h:=An h;obtain⟨s,f,h⟩:=h;rcases s with ae|af
 rotate_left
 ·dsimp only at h;refine Ts 1 27 [.ref 0 0,.str ([105,110]:List UInt8)] (Pw (Al f) [0]) (fun _=>?_);obtain rfl:=Ao8 h;exact wpR [0]
 dsimp only at h;refine Td [0,4,6] 27 [.ref 0 0,.str ([105,110]:List UInt8)] (wcp (Al f) [0]) ?_;revert h;intro h;replace h:=An h;obtain⟨t,g,h⟩:=h;rcases t with ag|ah
 rotate_left
 ·dsimp only at h;refine Ts 1 29 [.ref 0 0] (Pw (AH g) [0]) (fun _=>?_);obtain rfl:=Ao8 h;exact wpR [0]
 dsimp only at h;refine Td [0,4,6] 29 [.ref 0 0] (wcp (AH g) [0]) ?_;revert h;intro h;replace h:=An h;obtain⟨u,i,h⟩:=h;rcases u with ai|aj
 rotate_left
 ·dsimp only at h;refine Ts 1 32 [.ref 0 0,.str ([46,46]:List UInt8)] (Pw (Al i) [0]) (fun _=>?_);obtain rfl:=Ao8 h;exact wpR [0]
 dsimp only at h;refine Td [0,4,6] 32 [.ref 0 0,.str ([46,46]:List UInt8)] (wcp (Al i) [0]) ?_;revert h;intro h;replace h:=An h;obtain⟨w,j,h⟩:=h;rcases w with ak|al
 rotate_left
 ·dsimp only at h;refine Ts 1 34 [.ref 0 0] (Pw (AH j) [0]) (fun _=>?_);obtain rfl:=Ao8 h;exact wpR [0]
 dsimp only at h;refine Td [4,6] 34 [.ref 0 0] (wcp (AH j) [0]) ?_;revert h;refine T0 [4] ?_;refine Sr ?_;intro h;obtain rfl:=Ao8 h;exact wpF
variable {rs:AoO}
theorem Fk{a r}(h:BH a=some r):Con (B rs) 140 [.ref 1 0] [pS a,.box [.ref 0 0] false] (fun r' O'=>r'=i64 r.1/\O'=[pS r.2,.box [.ref 0 0] false]):=by
 refine Co 2 4 [.tmp 1] Tryz.func140 (fun F hE=>?_) h;unfold BH;refine T0 [0] ?_;refine Sq <|Bd fun c b =>Te [3] (Ag (l:=[]) (m:=[(3,51,[.ref 0 0,.str ([42]:List UInt8)],[pS a,.box [.ref 0 0] false],_,_)]) trivial ⟨(wc (A4 b) [0]),trivial⟩) Ev ?_
 refine Cd ?_ ?_
 ·refine T0 [1] ?_;exact Sr <|Tr <|Ro [0,1]
 refine Sk <|Tn <|T0 [1] ?_
 exact Sr <|Ro [0,1]
theorem FP{a r}(h:Cp a=some r):Con (B rs) 141 [.ref 1 0] [pS a,.box [.ref 0 0] false] (fun r' O'=>r'=i64 r.1/\O'=[pS r.2,.box [.ref 0 0] false]):=by
 refine Co 2 8 [.tmp 1] Tryz.func141 (fun F hE=>?_) h;unfold Cp;refine T0 [0] ?_;refine Sq <|Sb <|Bd fun b c =>Te [0,2] (Ag (l:=[]) (m:=[(4,51,[.ref 0 0,.str ([43]:List UInt8)],[pS a,.box [.ref 0 0] false],_,_)]) trivial ⟨(wc (A4 c) [0]),trivial⟩) Ev ?_
 refine Cd ?_ ?_
 ·refine T0 [1] ?_;exact Sr <|Br <|Tr <|Ro [0,1]
 refine Bd fun e d =>Te [5] (Ag (l:=[]) (m:=[(7,51,[.ref 0 0,.str ([45]:List UInt8)],[pS b.2,.box [.ref 0 0] false],_,_)]) trivial ⟨(wc (A4 d) [0]),trivial⟩) Ev ?_
 refine Cd ?_ ?_
 ·refine T0 [1] ?_;exact Sr <|Br <|Tr <|Ro [0,1]
 refine Sk <|Bn <|Tn <|T0 [1] ?_
 exact Sr <|Ro [0,1]
theorem Cu{j:AoW->Option ((AoT×AoW)⊕(Int×Int×AoW))}(h90:∀{q0_:AoW} {r:(AoT×AoW)⊕(Int×Int×AoW)},j q0_=some r->PCon (B rs) 90 [.ref 0 0] [pS q0_] (AM r)){k:AoW}{b:Int}{a:List (List UInt8)}{r:(AoT×AoW×List (List UInt8))⊕(Int×Int×AoW×List (List UInt8))}(h:BF j k b a=some r):PCon (B rs) 169 [.ref 0 0,i64 b,.bs false 1 (a.length) 0 (a.length)] [pS k,.buf 1 (L Bc a) false] (HO r):=by
 refine BE (N:=32) (rs:=[.cell 6 45]) 2 rfl ok Tryz.func169 rfl (by decide +kernel) rfl rfl (Apq rfl) (fun F=>?_);have hE:=(ok (rs:=rs)).env F;unfold BF at h;show Run ((B rs).env F) 2 _ ⟨Ai 32 [(0,.ref 0 0),(1,i64 b),(2,.bs false 1 (a.length) 0 (a.length))],[pS k,.buf 1 (L Bc a) false]⟩ _;refine BM ?_;revert h;refine T0 [0,1,2,6] ?_;intro h;replace h:=An h;obtain⟨z,u,h⟩:=h;rcases z with aa|an
 rotate_left
 ·dsimp only at h;refine Ts 1 11 [.ref 0 0,.str ([40]:List UInt8)] (Pw (Al u) [0]) (fun _=>?_);obtain rfl:=Ao8 h;exact wpR [0,1]
 dsimp only at h;refine Td [0,1,2,6] 11 [.ref 0 0,.str ([40]:List UInt8)] (wcp (Al u) [0]) ?_;revert h;refine T0 [0,2,6,7] ?_;refine Jo (fun⟨n,o,d⟩=>⟨Ai 32 [(6,.ref 2 0),(7,.ref 3 0)],[.box [.sl false (L Am n),i64 o] false,.buf 1 (L Bc a) false,.box zE false,.box (i64 b::i64 0::(C1 i64 (Arr.rep 4 0).l++[.bs false 4 (d.length) 0 (d.length)])) false,.buf 7 (L cApi_Expr d) false]⟩) ?_ ?_
 ·intro ao v;refine T0 [0,6,7,14,15,16] ?_;refine Sb ?_;refine Lo (fun⟨g,e,f,c⟩=>⟨Ai 32 [(0,.ref 0 0),(6,.ref 2 0),(7,.ref 3 0),(14,.bs false 1 (a.length) 0 (a.length)),(15,i64 (a.length:Int)),(16,i64 g)],[.box [.sl false (L Am e),i64 f] false,.buf 1 (L Bc a) false,.box zE false,.box (i64 b::i64 0::(C1 i64 (Arr.rep 4 0).l++[.bs false 4 (c.length) 0 (c.length)])) false,.buf 7 (L cApi_Expr c) false]⟩) ((Mq 3 6 7 (O':=[pS aa,.buf 1 (L Bc a) false,.box zE false,.box (i64 b::i64 0::(C1 i64 (Arr.rep 4 0).l++[.bs true 4 0 0 0])) false,.buf 7 (L cApi_Expr ([])) false]) rfl gs gs).trans (ws [0,1,2,3,4])) ?_;rintro⟨g,e,f,c⟩ ap ab p q;show C6 j a g e f c=some ab->_;unfold C6;refine T0 [0,6,7,14,15,16,17] ?_;refine Sq <|Cd ?_ ?_
  ·refine Sk <|Tn <|Sq <|Sb <|Ck fun ac =>Lt fun i ad =>Te (fr':=[(0,_),(6,_),(7,_),(9,.str i),(14,_),(15,_),(16,_)]) [0,6,7,9,14,15,16] Ab (Ew2 (qR ac) ad) ?_
   intro h;replace h:=An h;obtain⟨ae,w,h⟩:=h;rcases ae with af|aq
   rotate_left
   ·dsimp only at h;refine Ds [[],[0],[],[2],[2,3],[0,1,2,3,4],[0,1,2,3,4,5],[0,1,2,3,4,5,6]] 3 23 [.ref 0 0] (Pw (h90 w) [0]) (fun _=>?_);refine E5 ?_;refine Ed ?_;refine Vd ?_;replace h:=An h;obtain⟨ar,h,ag⟩:=h;obtain rfl:=Ao8 ag;have ah:=q _ rfl;subst ah;obtain rfl:=Ao8 p;refine E5 ?_;refine Hi ?_;replace h:=An h;obtain⟨au,h,ai⟩:=h;obtain rfl:=Ao8 ai;obtain rfl:=Ao8 v;obtain rfl:=Ao8 h;exact wpR [0,1]
   dsimp only at h;replace h:=Jk h;obtain⟨s,h⟩:=h;replace h:=KI h;obtain⟨t,x,h⟩:=h;refine Ab2 hE mixed [[],[0],[],[2],[2,3],[0,1,2,3,4],[0,1,2,3,4,5],[0,1,2,3,4,5,6]] (by kernel_rfl) 3 [0,1] [0,6,7,9,14,15,16,20] (by kernel_rfl) (fr':=[(0,.ref 0 0),(6,.ref 2 0),(7,.ref 3 0),(9,.str i),(14,.bs false 1 (a.length) 0 (a.length)),(15,i64 (a.length:Int)),(16,i64 g),(20,.ref 3 6)]) (O':=[pS af.2,.buf 1 (L Bc a) false,.box zE false,.box (i64 b::i64 0::(C1 i64 (Arr.rep 4 0).l++[.bs false 4 (t.length) 0 (t.length)])) false,.buf 7 (L cApi_Expr t) false]) ⟨_,_,_,_,_,_,_,rfl,?_,(Ag (l:=[]) (m:=[(23,90,[.ref 0 0],[.box [.sl false (L Am e),i64 f] false,.buf 1 (L Bc a) false,.box zE false,.box (i64 b::i64 0::(C1 i64 (Arr.rep 4 0).l++[.bs false 4 (c.length) 0 (c.length)])) false,.buf 7 (L cApi_Expr c) false],_,_)]) trivial ⟨(wc (PCon.to (h90 w) rfl) [0]),trivial⟩),?_⟩ ?_
   ·subst x;simp only[go_sem,s]
   ·subst x;first|(simp only[go_sem,s];done)|(simp only[go_sem,s];simp only[AqP 1])
   revert h;intro h;replace h:=An h;obtain⟨aj,y,h⟩:=h;rcases aj with av|aw
   rotate_left
   ·dsimp only at h;refine Fs 2 29 [.ref 0 0,.str i] (Pw (Al y) [0]) (fun _=>?_);refine E5 ?_;refine Ed ?_;refine Vd ?_;replace h:=An h;obtain⟨ax,h,ak⟩:=h;obtain rfl:=Ao8 ak;have al:=q _ rfl;subst al;obtain rfl:=Ao8 p;refine E5 ?_;refine Hi ?_;replace h:=An h;obtain⟨ay,h,am⟩:=h;obtain rfl:=Ao8 am;obtain rfl:=Ao8 v;obtain rfl:=Ao8 h;exact wpR [0,1]
   dsimp only at h;refine Fdd [0,6,7,14,15,16] 29 [.ref 0 0,.str i] (wcp (Al y) [0]) ?_;revert h;refine Bn <|Tn <|F0 [0,6,7,14,15,16] ?_
   exact Ln (ws [0,1,2,3,4])
  refine Sx <|Tx <|Lx q p <|Bx <|?_
  exact Jn ((ws (l':=[(6,.ref 2 0),(7,.ref 3 0)]) (O':=[.box [.sl false (L Am e),i64 f] false,.buf 1 (L Bc a) false,.box zE false,.box (i64 b::i64 0::(C1 i64 (Arr.rep 4 0).l++[.bs false 4 (c.length) 0 (c.length)])) false,.buf 7 (L cApi_Expr c) false]) [0,1,2,3,4]).trans (ws [0,1,2,3,4]))
 rintro⟨n,o,d⟩;refine T0 [6] ?_;refine Sr ?_;intro h;obtain rfl:=Ao8 h;refine FU ((F9 2 6 (.bs false 4 (d.length) 0 (d.length)) (O':=[.box [.sl false (L Am n),i64 o] false,.buf 1 (L Bc a) false,.box (i64 b::i64 0::(C1 i64 (Arr.rep 4 0).l++[.sl false (L cApi_Expr d)])) false,.box (i64 b::i64 0::(C1 i64 (Arr.rep 4 0).l++[.bs false 4 (d.length) 0 (d.length)])) false,.buf 7 (L cApi_Expr d) true]) rfl rfl gs rfl gs gs gs).trans (Weak.refl _ _)) ?_;refine WG rfl (RT (.inr rfl) [0,1] (by decide) rfl ?_ ?_)
 ·simp only[go_sem]
 simp only[go_sem]
variable {rs:AoO}
theorem CJ{e:AoW->Option ((AoT×AoW)⊕(Int×Int×AoW))}(h90:∀{q0_:AoW} {r:(AoT×AoW)⊕(Int×Int×AoW)},e q0_=some r->PCon (B rs) 90 [.ref 0 0] [pS q0_] (AM r)){b:AoW}{r:(AoT×AoW)⊕(Int×Int×AoW)}(h:Cq e b=some r):PCon (B rs) 139 [.ref 0 0] [pS b] (Jg r):=by
 refine BE (N:=47) (rs:=[.cell 2 45]) 1 rfl ok Tryz.func139 rfl (by decide +kernel) rfl rfl (Apq rfl) (fun F=>?_);have hE:=(ok (rs:=rs)).env F;unfold Cq at h;show Run ((B rs).env F) 1 _ ⟨Ai 47 [(0,.ref 0 0)],[pS b]⟩ _;refine BM ?_;revert h;refine T0 [0,2] ?_;refine Sq <|Bd fun a p =>Te [0,2,4] (Ag (l:=[]) (m:=[(11,85,[.ref 0 0,i64 2],[pS b,.box zE false],_,_)]) trivial ⟨(wc (Du p) [0]),trivial⟩) Ev ?_
 refine T0 [0,2,14] ?_;refine Cd ?_ ?_
 ·intro h;replace h:=An h;obtain⟨q,f,h⟩:=h;rcases q with ac|ad
  rotate_left
  ·dsimp only at h;refine Ts 1 16 [.ref 0 0] (Pw (AH f) [0]) (fun _=>?_);refine Ed ?_;obtain rfl:=Ao8 h;exact wpR [0]
  dsimp only at h;refine Td [0,2,5] 16 [.ref 0 0] (wcp (AH f) [0]) ?_;revert h;intro h;replace h:=An h;obtain⟨s,g,h⟩:=h;rcases s with ae|af
  rotate_left
  ·dsimp only at h;refine Ts 2 19 [.ref 0 0] (Pw (G0 g) [0]) (fun _=>?_);refine Ed ?_;obtain rfl:=Ao8 h;exact wpR [0]
  dsimp only at h;refine Td [2] 19 [.ref 0 0] (wcp (G0 g) [0]) ?_;revert h;refine Sr <|Tr <|?_
  intro h;obtain rfl:=Ao8 h;exact wpF
 refine Sk <|Tn <|Sq <|Bd fun t u =>Te [0,2,22] (Ag (l:=[]) (m:=[(22,51,[.ref 0 0,.str ([40]:List UInt8)],[pS a.2.2,.box zE false,.box (Am a.1) false],_,_)]) trivial ⟨(wc (A4 u) [0]),trivial⟩) Ev ?_
 refine Cd ?_ ?_
 ·intro h;replace h:=An h;obtain⟨v,i,h⟩:=h;rcases v with ag|ah
  rotate_left
  ·dsimp only at h;refine Ts 1 24 [.ref 0 0] (Pw (h90 i) [0]) (fun _=>?_);refine Ed ?_;obtain rfl:=Ao8 h;exact wpR [0]
  dsimp only at h;refine Td [0,2,6] 24 [.ref 0 0] (wcp (h90 i) [0]) ?_;revert h;intro h;replace h:=An h;obtain⟨w,j,h⟩:=h;rcases w with ai|aj
  rotate_left
  ·dsimp only at h;refine Ts 1 26 [.ref 0 0,.str ([41]:List UInt8)] (Pw (Al j) [0]) (fun _=>?_);refine Ed ?_;obtain rfl:=Ao8 h;exact wpR [0]
  dsimp only at h;refine Td [2,6] 26 [.ref 0 0,.str ([41]:List UInt8)] (wcp (Al j) [0]) ?_;revert h;refine T0 [2] ?_;refine Sr <|Tr <|?_
  intro h;obtain rfl:=Ao8 h;exact wpF
 refine Sk <|Tn <|Sq <|Bd fun d x =>Te [0,2,29] (Ag (l:=[]) (m:=[(29,51,[.ref 0 0,.str ([105,102]:List UInt8)],[pS t.2,.box zE false,.box (Am a.1) false],_,_)]) trivial ⟨(wc (A4 x) [0]),trivial⟩) Ev ?_
 refine Cd ?_ ?_
 ·intro h;replace h:=An h;obtain⟨y,k,h⟩:=h;rcases y with ak|al
  rotate_left
  ·dsimp only at h;refine Tp 2 32 [.ref 0 0,i64 11,.bs true 3 (([([60]:List UInt8),([44]:List UInt8),([44]:List UInt8),([41]:List UInt8)]:List (List UInt8)).length) 0 (([([60]:List UInt8),([44]:List UInt8),([44]:List UInt8),([41]:List UInt8)]:List (List UInt8)).length)] [pS d.2,.box zE false,.box (Am a.1) false,.buf 1 (L Bc ([([60]:List UInt8),([44]:List UInt8),([44]:List UInt8),([41]:List UInt8)]:List (List UInt8))) false] (Pw (Cu (fun h=>h90 h) k) [0,3]) (fun _=>?_);refine Ed ?_;obtain rfl:=Ao8 h;exact wpR [0]
  dsimp only at h;refine Tc [2] 32 [.ref 0 0,i64 11,.bs true 3 (([([60]:List UInt8),([44]:List UInt8),([44]:List UInt8),([41]:List UInt8)]:List (List UInt8)).length) 0 (([([60]:List UInt8),([44]:List UInt8),([44]:List UInt8),([41]:List UInt8)]:List (List UInt8)).length)] [pS d.2,.box zE false,.box (Am a.1) false,.buf 1 (L Bc ([([60]:List UInt8),([44]:List UInt8),([44]:List UInt8),([41]:List UInt8)]:List (List UInt8))) false] (wcp (Cu (fun h=>h90 h) k) [0,3]) ?_;revert h;refine Sr <|Tr <|?_
  intro h;obtain rfl:=Ao8 h;exact wpF
 refine Sk <|Tn <|Sq <|Bd fun c z =>Te [0,2,7,8] (Ag (l:=[]) (m:=[(35,86,[.ref 0 0,.str ([109,105,110,32,109,97,120,32,100,111,119,110,32,117,112,32,104,97,108,102]:List UInt8)],[pS d.2,.box zE false,.box (Am a.1) false],_,_)]) trivial ⟨(wc (DP z) [0]),trivial⟩) Ev ?_
 refine T0 [0,2,7,38] ?_;refine Cd ?_ ?_
 ·intro h;replace h:=An h;obtain⟨aa,n,h⟩:=h;rcases aa with am|an
  rotate_left
  ·dsimp only at h;refine Tp 4 43 [.ref 0 0,i64 (w64 (6+c.1)),.bs true 3 (([([44]:List UInt8),([41]:List UInt8)]:List (List UInt8)).length) 0 (([([44]:List UInt8),([41]:List UInt8)]:List (List UInt8)).length)] [pS c.2.2,.box zE false,.box (Am a.1) false,.buf 1 (L Bc ([([44]:List UInt8),([41]:List UInt8)]:List (List UInt8))) false] (Pw (Cu (fun h=>h90 h) n) [0,3]) (fun _=>?_);refine Ed ?_;obtain rfl:=Ao8 h;exact wpR [0]
  dsimp only at h;refine Tc [2] 43 [.ref 0 0,i64 (w64 (6+c.1)),.bs true 3 (([([44]:List UInt8),([41]:List UInt8)]:List (List UInt8)).length) 0 (([([44]:List UInt8),([41]:List UInt8)]:List (List UInt8)).length)] [pS c.2.2,.box zE false,.box (Am a.1) false,.buf 1 (L Bc ([([44]:List UInt8),([41]:List UInt8)]:List (List UInt8))) false] (wcp (Cu (fun h=>h90 h) n) [0,3]) ?_;revert h;refine Sr <|Tr <|?_
  intro h;obtain rfl:=Ao8 h;exact wpF
 refine Sk <|Tn <|?_
 intro h;replace h:=An h;obtain⟨ab,o,h⟩:=h;rcases ab with ao|ap
 rotate_left
 ·dsimp only at h;refine Ts 1 45 [.ref 0 0,.str ([116,121,112,101,32,111,119,110,101,114,32,114,97,105,108,119,97,121,32,115,104,105,112,112,101,114,32,99,108,97,115,115,32,119,101,105,103,104,116,32,107,109,32,109,105,110,117,116,101,115,32,119,111,114,107,105,110,103,32,99,111,100,101,32,119,111,114,116,104,32,99,111,115,116,32,109,111,110,116,104,32,98,101,103,105,110,32,112,97,114,116,115,32,112,97,114,116]:List UInt8)] (Pw (AZ o) [0]) (fun _=>?_);obtain rfl:=Ao8 h;exact wpR [0]
 dsimp only at h;refine Td [2] 45 [.ref 0 0,.str ([116,121,112,101,32,111,119,110,101,114,32,114,97,105,108,119,97,121,32,115,104,105,112,112,101,114,32,99,108,97,115,115,32,119,101,105,103,104,116,32,107,109,32,109,105,110,117,116,101,115,32,119,111,114,107,105,110,103,32,99,111,100,101,32,119,111,114,116,104,32,99,111,115,116,32,109,111,110,116,104,32,98,101,103,105,110,32,112,97,114,116,115,32,112,97,114,116]:List UInt8)] (wcp (AZ o) [0]) ?_;revert h;refine Sr ?_;intro h;obtain rfl:=Ao8 h;exact wpF
variable {rs:AoO}
theorem Dd{j:AoW->Option ((AoT×AoW)⊕(Int×Int×AoW))}(h90:∀{q0_:AoW} {r:(AoT×AoW)⊕(Int×Int×AoW)},j q0_=some r->PCon (B rs) 90 [.ref 0 0] [pS q0_] (AM r)){k:AoW}{r:(AoT×AoW)⊕(Int×Int×AoW)}(h:AW j k=some r):PCon (B rs) 138 [.ref 0 0,.fn 139 [.tup [.ref 0 0]],.fn 140 [.ref 1 0]] [pS k,.box [.ref 0 0] false] (Fu r):=by
 refine BE (N:=24) (rs:=[.cell 6 45]) 2 rfl ok Tryz.func138 rfl (by decide +kernel) rfl rfl (Apq rfl) (fun F=>?_);have hE:=(ok (rs:=rs)).env F;unfold AW at h;show Run ((B rs).env F) 2 _ ⟨Ai 24 [(0,.ref 0 0),(1,.fn 139 [.tup [.ref 0 0]]),(2,.fn 140 [.ref 1 0])],[pS k,.box [.ref 0 0] false]⟩ _;refine BM ?_;revert h;refine T0 [1,2,6] ?_;intro h;replace h:=An h;obtain⟨aa,n,h⟩:=h;rcases aa with o|al
 rotate_left
 ·dsimp only at h;refine Ts 1 10 [.ref 0 0] (Pw (CJ (fun h=>h90 h) n) [0]) (fun _=>?_);obtain rfl:=Ao8 h;exact wpR [0,1]
 dsimp only at h;refine Td [1,2,6,7] 10 [.ref 0 0] (wcp (CJ (fun h=>h90 h) n) [0]) ?_;revert h;refine Jo (fun⟨p,q,s,t,u,v⟩=>⟨Ai 24 [(6,.ref 2 0),(7,.ref 3 0)],[.box [.sl false (L Am p),i64 q] false,.box [.ref 0 0] false,.box zE false,.box (i64 s::i64 t::(C1 i64 u.l++[.sl false (L cApi_Expr v)])) false]⟩) ?_ ?_
 ·intro am ab;refine Bd fun an ac =>Te [1,2,6,7,8] (Ag (l:=[]) (m:=[(12,140,[.ref 1 0],[pS o.2,.box [.ref 0 0] false,.box zE false,.box (xE o.1) false],_,_)]) trivial ⟨(wc (Fk ac) [0,1]),trivial⟩) Ev ?_
  refine Sb ?_;refine Lo (fun⟨b,c,d,e,f,g,i⟩=>⟨Ai 24 [(1,.fn 139 [.tup [.ref 0 0]]),(2,.fn 140 [.ref 1 0]),(6,.ref 2 0),(7,.ref 3 0),(8,i64 b)],[.box [.sl false (L Am c),i64 d] false,.box [.ref 0 0] false,.box zE false,.box (i64 e::i64 f::(C1 i64 g.l++[.sl false (L cApi_Expr i)])) false]⟩) (ws [0,1,2,3]) ?_;rintro⟨b,c,d,e,f,g,i⟩ ao ad w x;show Bj j b c d e f g i=some ad->_;unfold Bj;refine Sq <|T0 [1,2,6,7,8,14] ?_
  refine Cd ?_ ?_
  ·refine Sk <|Tn <|Sq <|Sb <|?_
   intro h;replace h:=An h;obtain⟨ae,y,h⟩:=h;rcases ae with z|ap
   rotate_left
   ·dsimp only at h;refine Gs [[],[],[],[2],[1,2,3],[0,1,2,3,4],[0,1,2,3,4,5]] 3 20 [.ref 0 0] (Pw (CJ (fun h=>h90 h) y) [0]) (fun _=>?_);refine E5 ?_;refine Ed ?_;refine Vd ?_;replace h:=An h;obtain⟨aq,h,af⟩:=h;obtain rfl:=Ao8 af;have ag:=x _ rfl;subst ag;obtain rfl:=Ao8 w;refine E5 ?_;refine Hi ?_;replace h:=An h;obtain⟨ar,h,ah⟩:=h;obtain rfl:=Ao8 ah;obtain rfl:=Ao8 ab;obtain rfl:=Ao8 h;exact wpR [0,1]
   dsimp only at h;replace h:=KI h;obtain⟨a,ai,h⟩:=h;refine K7 hE mixed [[],[],[],[2],[1,2,3],[0,1,2,3,4],[0,1,2,3,4,5]] (by kernel_rfl) [(7,3)] [(20,3)] [1,2,6,7] (by kernel_rfl) (E4 Ea) (fr':=[(1,.fn 139 [.tup [.ref 0 0]]),(2,.fn 140 [.ref 1 0]),(6,.ref 2 0),(7,.ref 3 0)]) (O':=[pS z.2,.box [.ref 0 0] false,.box zE false,.box (i64 b::i64 0::(C1 i64 (Arr.rep 4 0).l++[.bs true 4 (a.length) 0 (a.length)])) false,.buf 7 (L cApi_Expr a) false]) ⟨rfl,trivial⟩ ⟨_,_,(Ag (l:=[]) (m:=[(20,139,[.ref 0 0],[.box [.sl false (L Am c),i64 d] false,.box [.ref 0 0] false,.box zE false,.box (i64 e::i64 f::(C1 i64 g.l++[.sl false (L cApi_Expr i)])) false],_,_)]) trivial ⟨(wc (PCon.to (CJ (fun h=>h90 h) y) rfl) [0]),trivial⟩),(by repeat' (first|exact trivial|(refine And.intro ?_ ?_)|exact fun _=>rfl|exact fun h=>absurd h (by decide))),?_⟩ ?_
   ·subst ai;first|(simp only[go_sem];done)|(simp only[go_sem];simp only[AqP 1])
   revert h;refine Bn <|Tn <|Bd fun aj ak =>Fe [1,2,6,7,8] (Ag (l:=[]) (m:=[(16,140,[.ref 1 0],[pS z.2,.box [.ref 0 0] false,.box zE false,.box (i64 b::i64 0::(C1 i64 (Arr.rep 4 0).l++[.bs true 4 (a.length) 0 (a.length)])) false,.buf 7 (L cApi_Expr a) false],_,_)]) trivial ⟨(wc (Fk ak) [0,1]),trivial⟩) Ev ?_
   exact Ln ((F9 3 6 (.bs true 4 (a.length) 0 (a.length)) (O':=[pS aj.2,.box [.ref 0 0] false,.box zE false,.box (i64 b::i64 0::(C1 i64 (Arr.rep 4 0).l++[.sl false (L cApi_Expr a)])) false,.buf 7 (L cApi_Expr a) true]) rfl rfl gs rfl gs gs gs).trans (ws [0,1,2,3]))
  refine Sx <|Tx <|Lx x w <|Bx <|?_
  exact Jn ((ws (l':=[(6,.ref 2 0),(7,.ref 3 0)]) (O':=[.box [.sl false (L Am c),i64 d] false,.box [.ref 0 0] false,.box zE false,.box (i64 e::i64 f::(C1 i64 g.l++[.sl false (L cApi_Expr i)])) false]) [0,1,2,3]).trans (ws [0,1,2,3]))
 rintro⟨p,q,s,t,u,v⟩;refine T0 [6] ?_;refine Sr ?_;intro h;obtain rfl:=Ao8 h;exact wpF
theorem CM{b:AoW->Option ((AoT×AoW)⊕(Int×Int×AoW))}(h90:∀{q0_:AoW} {r:(AoT×AoW)⊕(Int×Int×AoW)},b q0_=some r->PCon (B rs) 90 [.ref 0 0] [pS q0_] (AM r)){a:AoW}{r:(AoT×AoW)⊕(Int×Int×AoW)}(h:Cl b a=some r):PCon (B rs) 137 [.ref 1 0] [pS a,.box [.ref 0 0] false] (IZ r):=by
 refine BE (N:=7) (rs:=[.cell 1 45]) 2 rfl ok Tryz.func137 rfl (by decide +kernel) rfl rfl (Apq rfl) (fun F=>?_);have hE:=(ok (rs:=rs)).env F;unfold Cl at h;show Run ((B rs).env F) 2 _ ⟨Ai 7 [(0,.ref 1 0)],[pS a,.box [.ref 0 0] false]⟩ _;refine BM ?_;revert h;refine T0 [0,1] ?_;intro h;replace h:=An h;obtain⟨d,c,h⟩:=h;rcases d with e|f
 rotate_left
 ·dsimp only at h;refine Ts 4 6 [.ref 0 0,.fn 139 [.tup [.ref 0 0]],.fn 140 [.ref 1 0]] (Pw (Dd (fun h=>h90 h) c) [0,1]) (fun _=>?_);obtain rfl:=Ao8 h;exact wpR [0,1]
 dsimp only at h;refine Td [1] 6 [.ref 0 0,.fn 139 [.tup [.ref 0 0]],.fn 140 [.ref 1 0]] (wcp (Dd (fun h=>h90 h) c) [0,1]) ?_;revert h;refine Sr ?_;intro h;obtain rfl:=Ao8 h;exact wpF
variable {rs:AoO}
theorem CZ{j:AoW->Option ((AoT×AoW)⊕(Int×Int×AoW))}(h90:∀{q0_:AoW} {r:(AoT×AoW)⊕(Int×Int×AoW)},j q0_=some r->PCon (B rs) 90 [.ref 0 0] [pS q0_] (AM r)){k:AoW}{r:(AoT×AoW)⊕(Int×Int×AoW)}(h:AX j k=some r):PCon (B rs) 138 [.ref 0 0,.fn 137 [.ref 1 0],.fn 141 [.ref 1 0]] [pS k,.box [.ref 0 0] false] (Fz r):=by
 refine BE (N:=24) (rs:=[.cell 6 45]) 2 rfl ok Tryz.func138 rfl (by decide +kernel) rfl rfl (Apq rfl) (fun F=>?_);have hE:=(ok (rs:=rs)).env F;unfold AX at h;show Run ((B rs).env F) 2 _ ⟨Ai 24 [(0,.ref 0 0),(1,.fn 137 [.ref 1 0]),(2,.fn 141 [.ref 1 0])],[pS k,.box [.ref 0 0] false]⟩ _;refine BM ?_;revert h;refine T0 [1,2,6] ?_;intro h;replace h:=An h;obtain⟨aa,n,h⟩:=h;rcases aa with o|al
 rotate_left
 ·dsimp only at h;refine Ts 1 10 [.ref 1 0] (Pw (CM (fun h=>h90 h) n) [0,1]) (fun _=>?_);obtain rfl:=Ao8 h;exact wpR [0,1]
 dsimp only at h;refine Td [1,2,6,7] 10 [.ref 1 0] (wcp (CM (fun h=>h90 h) n) [0,1]) ?_;revert h;refine Jo (fun⟨p,q,s,t,u,v⟩=>⟨Ai 24 [(6,.ref 2 0),(7,.ref 3 0)],[.box [.sl false (L Am p),i64 q] false,.box [.ref 0 0] false,.box zE false,.box (i64 s::i64 t::(C1 i64 u.l++[.sl false (L cApi_Expr v)])) false]⟩) ?_ ?_
 ·intro am ab;refine Bd fun an ac =>Te [1,2,6,7,8] (Ag (l:=[]) (m:=[(12,141,[.ref 1 0],[pS o.2,.box [.ref 0 0] false,.box zE false,.box (xE o.1) false],_,_)]) trivial ⟨(wc (FP ac) [0,1]),trivial⟩) Ev ?_
  refine Sb ?_;refine Lo (fun⟨b,c,d,e,f,g,i⟩=>⟨Ai 24 [(1,.fn 137 [.ref 1 0]),(2,.fn 141 [.ref 1 0]),(6,.ref 2 0),(7,.ref 3 0),(8,i64 b)],[.box [.sl false (L Am c),i64 d] false,.box [.ref 0 0] false,.box zE false,.box (i64 e::i64 f::(C1 i64 g.l++[.sl false (L cApi_Expr i)])) false]⟩) (ws [0,1,2,3]) ?_;rintro⟨b,c,d,e,f,g,i⟩ ao ad w x;show Bk j b c d e f g i=some ad->_;unfold Bk;refine Sq <|T0 [1,2,6,7,8,14] ?_
  refine Cd ?_ ?_
  ·refine Sk <|Tn <|Sq <|Sb <|?_
   intro h;replace h:=An h;obtain⟨ae,y,h⟩:=h;rcases ae with z|ap
   rotate_left
   ·dsimp only at h;refine Gs [[],[],[],[2],[1,2,3],[0,1,2,3,4],[0,1,2,3,4,5]] 3 20 [.ref 1 0] (Pw (CM (fun h=>h90 h) y) [0,1]) (fun _=>?_);refine E5 ?_;refine Ed ?_;refine Vd ?_;replace h:=An h;obtain⟨aq,h,af⟩:=h;obtain rfl:=Ao8 af;have ag:=x _ rfl;subst ag;obtain rfl:=Ao8 w;refine E5 ?_;refine Hi ?_;replace h:=An h;obtain⟨ar,h,ah⟩:=h;obtain rfl:=Ao8 ah;obtain rfl:=Ao8 ab;obtain rfl:=Ao8 h;exact wpR [0,1]
   dsimp only at h;replace h:=KI h;obtain⟨a,ai,h⟩:=h;refine K7 hE mixed [[],[],[],[2],[1,2,3],[0,1,2,3,4],[0,1,2,3,4,5]] (by kernel_rfl) [(7,3)] [(20,3)] [1,2,6,7] (by kernel_rfl) (E4 Ea) (fr':=[(1,.fn 137 [.ref 1 0]),(2,.fn 141 [.ref 1 0]),(6,.ref 2 0),(7,.ref 3 0)]) (O':=[pS z.2,.box [.ref 0 0] false,.box zE false,.box (i64 b::i64 0::(C1 i64 (Arr.rep 4 0).l++[.bs true 4 (a.length) 0 (a.length)])) false,.buf 7 (L cApi_Expr a) false]) ⟨rfl,trivial⟩ ⟨_,_,(Ag (l:=[]) (m:=[(20,137,[.ref 1 0],[.box [.sl false (L Am c),i64 d] false,.box [.ref 0 0] false,.box zE false,.box (i64 e::i64 f::(C1 i64 g.l++[.sl false (L cApi_Expr i)])) false],_,_)]) trivial ⟨(wc (PCon.to (CM (fun h=>h90 h) y) rfl) [0,1]),trivial⟩),(by repeat' (first|exact trivial|(refine And.intro ?_ ?_)|exact fun _=>rfl|exact fun h=>absurd h (by decide))),?_⟩ ?_
   ·subst ai;first|(simp only[go_sem];done)|(simp only[go_sem];simp only[AqP 1])
   revert h;refine Bn <|Tn <|Bd fun aj ak =>Fe [1,2,6,7,8] (Ag (l:=[]) (m:=[(16,141,[.ref 1 0],[pS z.2,.box [.ref 0 0] false,.box zE false,.box (i64 b::i64 0::(C1 i64 (Arr.rep 4 0).l++[.bs true 4 (a.length) 0 (a.length)])) false,.buf 7 (L cApi_Expr a) false],_,_)]) trivial ⟨(wc (FP ak) [0,1]),trivial⟩) Ev ?_
   exact Ln ((F9 3 6 (.bs true 4 (a.length) 0 (a.length)) (O':=[pS aj.2,.box [.ref 0 0] false,.box zE false,.box (i64 b::i64 0::(C1 i64 (Arr.rep 4 0).l++[.sl false (L cApi_Expr a)])) false,.buf 7 (L cApi_Expr a) true]) rfl rfl gs rfl gs gs gs).trans (ws [0,1,2,3]))
  refine Sx <|Tx <|Lx x w <|Bx <|?_
  exact Jn ((ws (l':=[(6,.ref 2 0),(7,.ref 3 0)]) (O':=[.box [.sl false (L Am c),i64 d] false,.box [.ref 0 0] false,.box zE false,.box (i64 e::i64 f::(C1 i64 g.l++[.sl false (L cApi_Expr i)])) false]) [0,1,2,3]).trans (ws [0,1,2,3]))
 rintro⟨p,q,s,t,u,v⟩;refine T0 [6] ?_;refine Sr ?_;intro h;obtain rfl:=Ao8 h;exact wpF
theorem IL{rec_:AoW->Option ((AoT×AoW)⊕(Int×Int×AoW))}(hrec:∀{a:AoW} {r:(AoT×AoW)⊕(Int×Int×AoW)},rec_ a=some r->PCon (B rs) 90 [.ref 0 0] [pS a] (AM r)){a:AoW}{r:(AoT×AoW)⊕(Int×Int×AoW)}(h:CQ rec_ a=some r):PCon (B rs) 90 [.ref 0 0] [pS a] (AM r):=by
 refine BE (N:=9) (rs:=[.cell 2 45]) 1 rfl ok Tryz.func90 rfl (by decide +kernel) rfl rfl (Apq rfl) (fun F=>?_);have hE:=(ok (rs:=rs)).env F;unfold CQ at h;show Run ((B rs).env F) 1 _ ⟨Ai 9 [(0,.ref 0 0)],[pS a]⟩ _;refine BM ?_;revert h;refine T0 [1,2] ?_;refine T0 [1,2,3] ?_;intro h;replace h:=An h;obtain⟨c,b,h⟩:=h;rcases c with d|e
 rotate_left
 ·dsimp only at h;refine Ts 3 8 [.ref 0 0,.fn 137 [.ref 1 0],.fn 141 [.ref 1 0]] (Pw (CZ (fun h=>hrec h) b) [0,1]) (fun _=>?_);obtain rfl:=Ao8 h;exact wpR [0]
 dsimp only at h;refine Td [2] 8 [.ref 0 0,.fn 137 [.ref 1 0],.fn 141 [.ref 1 0]] (wcp (CZ (fun h=>hrec h) b) [0,1]) ?_;revert h;refine Sr ?_;intro h;obtain rfl:=Ao8 h;exact wpF
theorem Je(n:Nat):∀{a:AoW} {r:(AoT×AoW)⊕(Int×Int×AoW)},DO n a=some r->PCon (B rs) 90 [.ref 0 0] [pS a] (AM r):=by
 induction n with
 |zero=>intro a r h;cases h
 |succ n ih=>intro a r h;exact IL ih h
theorem Gx{a:AoW}{r:(AoT×AoW)⊕(Int×Int×AoW)}(h:Gl a=some r):PCon (B rs) 90 [.ref 0 0] [pS a] (AM r):=Je _ h
variable {rs:AoO}
theorem FR{j:AoW}{b:List AoU}{r:(AoU×AoW)⊕(Int×Int×AoW)}(h:CS j b=some r):PCon (B rs) 52 [.ref 0 0,.bs false 1 (b.length) 0 (b.length)] [pS j,.buf 9 (L Aa b) false] (Jd b r):=by
 refine BE (N:=51) (rs:=[.cell 4 47]) 2 rfl ok Tryz.func52 rfl (by decide +kernel) rfl rfl (Apq rfl) (fun F=>?_);have hE:=(ok (rs:=rs)).env F;unfold CS at h;show Run ((B rs).env F) 2 _ ⟨Ai 51 [(0,.ref 0 0),(1,.bs false 1 (b.length) 0 (b.length))],[pS j,.buf 9 (L Aa b) false]⟩ _;refine BM ?_;revert h;refine T0 [0,1,4] ?_;refine Bd fun ac ad =>Te [0,1,4,5] (Ag (l:=[]) (m:=[(9,50,[.ref 0 0],[pS j,.buf 9 (L Aa b) false,.box (.str ([]:List UInt8)::.sl true (L Af ([]))::zE) false],_,_)]) trivial ⟨(wc (BG ad) [0]),trivial⟩) Ev ?_
 intro h;replace h:=An h;obtain⟨ae,p,h⟩:=h;rcases ae with k|aC
 rotate_left
 ·dsimp only at h;refine Ts 1 11 [.ref 0 0] (Pw (Dr p) [0]) (fun _=>?_);obtain rfl:=Ao8 h;exact wpR [0,1]
 dsimp only at h;refine Td [0,1,4,5,6] 11 [.ref 0 0] (wcp (Dr p) [0]) ?_;revert h;refine Sq <|Bd fun a af =>Te [0,4,5,6,15] (Ag (l:=[]) (m:=[(15,87,[.bs false 1 (b.length) 0 (b.length),.fn 88 [.ref 3 0]],[pS k.2,.buf 9 (L Aa b) false,.box (.str ([]:List UInt8)::.sl true (L Af ([]))::zE) false,.box (.str k.1::.sl true (L Af ([]))::zE) false],_,_)]) trivial ⟨(wc (FW af) [1,3]),trivial⟩) Ev ?_
 refine Cd ?_ ?_
 ·intro h;refine Gj hE [] 3 _ (v:=.iface 104 (.agg #[.int .i64 ac.1,.int .i64 161])) (σ2:=[pS k.2,.buf 9 (L Aa b) false,.box (.str ([]:List UInt8)::.sl true (L Af ([]))::zE) false,.box (.str a.2.Zd::.sl true (L Af ([]))::i64 a.2.Pay.Op::i64 a.2.Pay.N::(C1 i64 a.2.Pay.Unit.l++[.sl true (L cApi_Expr ([]))])) false]) (vals:=[]) rfl rfl ⟨_,[],Ab,trivial,?_⟩ (fun ag ah ai=>?_)
  ·simp only[go_sem]
  refine Ed ?_;obtain rfl:=Ao8 h;exact wpR [0,1]
 refine Sk <|Tn <|?_
 refine Jo (fun⟨q,s,c⟩=>⟨Ai 51 [(0,.ref 0 0),(4,.ref 2 0),(6,.ref 3 0)],[.box [.sl false (L Am q),i64 s] false,.buf 9 (L Aa b) false,.box (.str ([]:List UInt8)::.sl true (L Af ([]))::zE) false,.box (.str a.2.Zd::.bs false 4 (c.length) 0 (c.length)::i64 a.2.Pay.Op::i64 a.2.Pay.N::(C1 i64 a.2.Pay.Unit.l++[.sl true (L cApi_Expr ([]))])) false,.buf 3 (L Af c) false]⟩) ?_ ?_
 ·intro aD aj;refine Bd fun ak al =>Te [0,4,6,7] (Ag (l:=[]) (m:=[(20,51,[.ref 0 0,.str ([119,104,101,110]:List UInt8)],[pS k.2,.buf 9 (L Aa b) false,.box (.str ([]:List UInt8)::.sl true (L Af ([]))::zE) false,.box (.str a.2.Zd::.sl true (L Af ([]))::i64 a.2.Pay.Op::i64 a.2.Pay.N::(C1 i64 a.2.Pay.Unit.l++[.sl true (L cApi_Expr ([]))])) false],_,_)]) trivial ⟨(wc (A4 al) [0]),trivial⟩) Ev ?_
  refine Sb ?_;refine Lo (fun⟨n,g,i,d⟩=>⟨Ai 51 [(0,.ref 0 0),(4,.ref 2 0),(6,.ref 3 0),(7,.bool n)],[.box [.sl false (L Am g),i64 i] false,.buf 9 (L Aa b) false,.box (.str ([]:List UInt8)::.sl true (L Af ([]))::zE) false,.box (.str a.2.Zd::.bs false 4 (d.length) 0 (d.length)::i64 a.2.Pay.Op::i64 a.2.Pay.N::(C1 i64 a.2.Pay.Unit.l++[.sl true (L cApi_Expr ([]))])) false,.buf 3 (L Af d) false]⟩) ((Mq 3 1 3 (O':=[pS ak.2,.buf 9 (L Aa b) false,.box (.str ([]:List UInt8)::.sl true (L Af ([]))::zE) false,.box (.str a.2.Zd::.bs true 4 0 0 0::i64 a.2.Pay.Op::i64 a.2.Pay.N::(C1 i64 a.2.Pay.Unit.l++[.sl true (L cApi_Expr ([]))])) false,.buf 3 (L Af ([])) false]) rfl gs gs).trans (ws [0,1,2,3,4])) ?_;rintro⟨n,g,i,d⟩ aE am t u;show CU n g i d=some am->_;unfold CU;refine Sq <|T0 [0,4,6,21] ?_
  refine Cd ?_ ?_
  ·refine Sk <|Tn <|Sq <|Sb <|?_
   intro h;replace h:=An h;obtain⟨an,w,h⟩:=h;rcases an with x|aF
   rotate_left
   ·dsimp only at h;refine Gs [[],[0],[],[],[3],[3,4],[2,3,4,5],[2,3,4,5,6],[0,1,2,3,4,5,6,7],[0,1,2,3,4,5,6,7,8],[0,1,2,3,4,5,6,7,8,9]] 6 30 [.ref 0 0,i64 (d.length:Int)] (Pw (Gz w) [0]) (fun _=>?_);refine E5 ?_;refine Ed ?_;refine Vd ?_;replace h:=An h;obtain⟨aG,h,ao⟩:=h;obtain rfl:=Ao8 ao;have ap:=u _ rfl;subst ap;obtain rfl:=Ao8 t;refine E5 ?_;refine Hi ?_;replace h:=An h;obtain⟨aH,h,aq⟩:=h;obtain rfl:=Ao8 aq;obtain rfl:=Ao8 aj;obtain rfl:=Ao8 h;exact wpR [0,1]
   dsimp only at h;replace h:=Jk h;obtain⟨o,h⟩:=h;replace h:=KI h;obtain⟨f,y,h⟩:=h;refine MN hE mixed [[],[0],[],[],[3],[3,4],[2,3,4,5],[2,3,4,5,6],[0,1,2,3,4,5,6,7],[0,1,2,3,4,5,6,7,8],[0,1,2,3,4,5,6,7,8,9]] (by kernel_rfl) 6 [0,1] [0,4,6,24] (by kernel_rfl) (E4 Ea) (fr':=[(0,.ref 0 0),(4,.ref 2 0),(6,.ref 3 0),(24,.ref 3 1)]) (O':=[pS x.2,.buf 9 (L Aa b) false,.box (.str ([]:List UInt8)::.sl true (L Af ([]))::zE) false,.box (.str a.2.Zd::.bs false 4 (f.length) 0 (f.length)::i64 a.2.Pay.Op::i64 a.2.Pay.N::(C1 i64 a.2.Pay.Unit.l++[.sl true (L cApi_Expr ([]))])) false,.buf 3 (L Af f) false]) ⟨_,_,_,_,_,_,_,rfl,?_,(Ag (l:=[]) (m:=[(30,89,[.ref 0 0,i64 (d.length:Int)],[.box [.sl false (L Am g),i64 i] false,.buf 9 (L Aa b) false,.box (.str ([]:List UInt8)::.sl true (L Af ([]))::zE) false,.box (.str a.2.Zd::.bs false 4 (d.length) 0 (d.length)::i64 a.2.Pay.Op::i64 a.2.Pay.N::(C1 i64 a.2.Pay.Unit.l++[.sl true (L cApi_Expr ([]))])) false,.buf 3 (L Af d) false],_,_)]) trivial ⟨(wc (PCon.to (Gz w) rfl) [0]),trivial⟩),?_⟩ ?_
   ·subst y;simp only[go_sem,o]
   ·subst y;first|(simp only[go_sem,o];done)|(simp only[go_sem,o];simp only[AqP 1])
   revert h;refine Bn <|Tn <|Bd fun aI ar =>Fe [0,4,6,7] (Ag (l:=[]) (m:=[(23,51,[.ref 0 0,.str ([97,110,100]:List UInt8)],[pS x.2,.buf 9 (L Aa b) false,.box (.str ([]:List UInt8)::.sl true (L Af ([]))::zE) false,.box (.str a.2.Zd::.bs false 4 (f.length) 0 (f.length)::i64 a.2.Pay.Op::i64 a.2.Pay.N::(C1 i64 a.2.Pay.Unit.l++[.sl true (L cApi_Expr ([]))])) false,.buf 3 (L Af f) false],_,_)]) trivial ⟨(wc (A4 ar) [0]),trivial⟩) Ev ?_
   exact Ln (ws [0,1,2,3,4])
  refine Sx <|Tx <|Lx u t <|Bx <|?_
  exact Jn ((ws (l':=[(0,.ref 0 0),(4,.ref 2 0),(6,.ref 3 0)]) (O':=[.box [.sl false (L Am g),i64 i] false,.buf 9 (L Aa b) false,.box (.str ([]:List UInt8)::.sl true (L Af ([]))::zE) false,.box (.str a.2.Zd::.bs false 4 (d.length) 0 (d.length)::i64 a.2.Pay.Op::i64 a.2.Pay.N::(C1 i64 a.2.Pay.Unit.l++[.sl true (L cApi_Expr ([]))])) false,.buf 3 (L Af d) false]) [0,1,2,3,4]).trans (ws [0,1,2,3,4]))
 rintro⟨q,s,c⟩;intro h;replace h:=An h;obtain⟨au,z,h⟩:=h;rcases au with av|aJ
 rotate_left
 ·dsimp only at h;refine Ts 1 35 [.ref 0 0,.str ([112,97,121]:List UInt8)] (Pw (Al z) [0]) (fun _=>?_);obtain rfl:=Ao8 h;exact wpR [0,1]
 dsimp only at h;refine Td [0,4,6] 35 [.ref 0 0,.str ([112,97,121]:List UInt8)] (wcp (Al z) [0]) ?_;revert h;refine Bd fun aw ax =>Te [0,4,5,6] (Ag (l:=[]) (m:=[(37,50,[.ref 0 0],[pS av,.buf 9 (L Aa b) false,.box (.str ([]:List UInt8)::.sl true (L Af ([]))::zE) false,.box (.str a.2.Zd::.bs false 4 (c.length) 0 (c.length)::i64 a.2.Pay.Op::i64 a.2.Pay.N::(C1 i64 a.2.Pay.Unit.l++[.sl true (L cApi_Expr ([]))])) false,.buf 3 (L Af c) false],_,_)]) trivial ⟨(wc (BG ax) [0]),trivial⟩) Ev ?_
 intro h;replace h:=An h;obtain⟨ay,aa,h⟩:=h;rcases ay with e|aK
 rotate_left
 ·dsimp only at h;refine Ts 1 39 [.ref 0 0] (Pw (Gx aa) [0]) (fun _=>?_);obtain rfl:=Ao8 h;exact wpR [0,1]
 dsimp only at h;refine Td [0,4,5,6] 39 [.ref 0 0] (wcp (Gx aa) [0]) ?_;revert h;refine Sq <|Bd fun aL az =>Te [0,4,5,6,44] (o1 43 (Ig az)) Ev ?_
 refine Cd ?_ ?_
 ·intro h;refine Gj hE [] 3 _ (v:=.iface 104 (.agg #[.int .i64 aw.1,.int .i64 2])) (σ2:=[pS e.2,.buf 9 (L Aa b) false,.box (.str ([]:List UInt8)::.sl true (L Af ([]))::zE) false,.box (.str a.2.Zd::.bs false 4 (c.length) 0 (c.length)::i64 e.1.Op::i64 e.1.N::(C1 i64 e.1.Unit.l++[.sl false (L cApi_Expr e.1.L)])) false,.buf 3 (L Af c) false]) (vals:=[]) rfl rfl ⟨_,[],Ab,trivial,?_⟩ (fun ag ah ai=>?_)
  ·simp only[go_sem]
  refine Ed ?_;obtain rfl:=Ao8 h;exact wpR [0,1]
 refine Sk <|Tn <|?_
 intro h;replace h:=An h;obtain⟨aA,ab,h⟩:=h;rcases aA with aB|aM
 rotate_left
 ·dsimp only at h;refine Ts 1 49 [.ref 0 0,.str ([59]:List UInt8)] (Pw (Al ab) [0]) (fun _=>?_);obtain rfl:=Ao8 h;exact wpR [0,1]
 dsimp only at h;refine Td [4,6] 49 [.ref 0 0,.str ([59]:List UInt8)] (wcp (Al ab) [0]) ?_;revert h;refine T0 [4] ?_;refine Sr ?_;intro h;obtain rfl:=Ao8 h;refine FU ((F9 2 1 (.bs false 4 (c.length) 0 (c.length)) (O':=[pS aB,.buf 9 (L Aa b) false,.box (.str a.2.Zd::.sl false (L Af c)::i64 e.1.Op::i64 e.1.N::(C1 i64 e.1.Unit.l++[.sl false (L cApi_Expr e.1.L)])) false,.box (.str a.2.Zd::.bs false 4 (c.length) 0 (c.length)::i64 e.1.Op::i64 e.1.N::(C1 i64 e.1.Unit.l++[.sl false (L cApi_Expr e.1.L)])) false,.buf 3 (L Af c) true]) rfl rfl gs rfl gs gs gs).trans (Weak.refl _ _)) ?_;refine WG rfl (RT (.inr rfl) [0,1] (by decide) rfl ?_ ?_)
 ·simp only[go_sem]
 simp only[go_sem]
variable {rs:AoO}
theorem Mc{a r}(h:C8 a=some r):Con (B rs) 22 [.str a] [] (fun r' O'=>r'=.tup [.agg (Ad r.1),i64 r.2.1,i64 r.2.2]/\O'=[]):=by
 refine Cw 71 [.cell 2 34,.cell 3 3,.cell 4 35] Tryz.func22 (fun F hE=>?_) h;unfold C8;refine T0 [0,2,3,4] ?_;refine Bd fun b c =>Te [0,2,3,4,5] (o1 10 (JS c)) Ev ?_
 refine Sq <|T0 [0,2,3,4,5,15] ?_
 refine Cd ?_ ?_
 ·intro h;refine AbV hE mixed [[],[],[],[0],[0,1,3],[0,1,2,3,4]] (by kernel_rfl) [(2,0),(3,1),(4,2)] [] [2,3,4] (by kernel_rfl) (fr':=[(2,.ref 0 0),(3,.ref 1 0),(4,.ref 2 0)]) (O':=[.box [.str ([]:List UInt8),i64 0,.sl true (L Aa ([]))] false,.box [i64 b.2.1] false,.box [i64 b.2.2] false]) ⟨rfl,rfl,rfl,trivial⟩ ⟨_,_,Ab,(by simp only[XOk]),?_⟩ ?_
  ·simp only[go_sem]
  revert h;exact Sr <|Tr <|Rr
 exact Sk <|Tn <|Rn
theorem Mu{o:List UInt8}{r:AoV×Int×Int}(h:F2 o=some r):Con (B rs) 22 [.str o] [] (fun r' O'=>r'=.tup [.agg (Ad r.1),i64 r.2.1,i64 r.2.2]/\O'=[]):=by
 unfold F2 at h;replace h:=An h;obtain⟨a,aw,h⟩:=h;by_cases ac:(a.2.2 != 0)=true
 ·rw[Apb ac]at h;cases h
 rw[Apd ac]at h;refine YL (cf:=46) (rs:=[.cell 2 34,.cell 3 3,.cell 4 35]) (N:=71) (t7:=19) (m:=3) (sel:=[0,1,2]) (rfr:=[(2,.ref 0 0),(3,.ref 1 0),(4,.ref 2 0)]) (rfr':=[(2,.ref 0 0),(3,.ref 1 0),(4,.ref 2 0)]) (pre:=[_,_,_]) (fr1:=[(0,.str o),(2,.ref 0 0),(3,.ref 1 0),(4,.ref 2 0),(5,.sl false (L Am a.1)),(15,.bool (a.2.2 != 0))]) (σ1:=[.box [.str ([]:List UInt8),i64 0,.sl true (L Aa ([]))] false,.box [i64 a.2.1] false,.box [i64 a.2.2] false]) ok Tryz.func22 rfl (by decide +kernel) rfl rfl (Apq rfl) (fun F=>?_) rfl rfl rfl rfl rfl rfl (by decide) rfl (by decide) (by decide) rfl Tryz.func46 rfl (by decide +kernel) (fun F D=>?_)
 ·have hE:=(ok (rs:=rs)).env F;refine Pre.step (D2 hE Afs [0,2,3,4] (fr':=[(0,.str o),(2,.ref 0 0),(3,.ref 1 0),(4,.ref 2 0)]) (O':=[.box [.str ([]:List UInt8),i64 0,.sl true (L Aa ([]))] false,.box [i64 0] false,.box [i64 0] false]) ⟨_,Ab,by simp only[go_sem,Nx]⟩ Acz) ?_;refine Pre.step (D2 hE Afs [0,2,3,4,5] (fr':=[(0,.str o),(2,.ref 0 0),(3,.ref 1 0),(4,.ref 2 0),(5,.sl false (L Am a.1))]) (O':=[.box [.str ([]:List UInt8),i64 0,.sl true (L Aa ([]))] false,.box [i64 a.2.1] false,.box [i64 a.2.2] false]) ⟨_,(o1 10 (JS aw)),by simp only[go_sem]⟩ Acz) ?_;refine Pre.step (IJ hE [0,2,3,4,5,15] (fr':=[(0,.str o),(2,.ref 0 0),(3,.ref 1 0),(4,.ref 2 0),(5,.sl false (L Am a.1)),(15,.bool (a.2.2 != 0))]) (O':=[.box [.str ([]:List UInt8),i64 0,.sl true (L Aa ([]))] false,.box [i64 a.2.1] false,.box [i64 a.2.2] false]) ⟨_,Ab,by simp only[go_sem]⟩ (Jc (b:=(a.2.2 != 0)) rfl (by decide) (fun hb=>absurd hb ac) (fun _=>Sf Acz))) ?_;exact Pre.nil _
 have hE:((B rs).env { F:=F,D:=D }).Ok:=⟨((ok (rs:=rs)).env F).desc,((ok (rs:=rs)).env F).info⟩;refine Fa (Dh _ _ [0,2,3,4,5] _ _) ?_;show Run ((B rs).env { F:=F,D:=D }) 3 _ ⟨Ai 71 [(0,.str o),(2,.ref 0 0),(3,.ref 1 0),(4,.ref 2 0),(5,.sl false (L Am a.1))],[.box [.str ([]:List UInt8),i64 0,.sl true (L Aa ([]))] false,.box [i64 a.2.1] false,.box [i64 a.2.2] false]⟩ _;refine BM ?_;revert h;refine T0 [2,3,4,6] ?_;intro h;replace h:=An h;obtain⟨ax,ag,h⟩:=h;rcases ax with aT|q
 rotate_left
 ·dsimp only at h;refine Tj [2,3,4] [.ref 0 0,.ref 1 0,.ref 2 0] 1 26 [.ref 3 0,.str ([116,97,114,105,102,102]:List UInt8)] (Pw (Al ag) [3]) (fun n i c=>?_);obtain rfl:=Ao8 h;refine FU (Weak.refl _ _) ?_;refine⟨_,[.box [.junk,.junk,.junk] false,.box [.junk] false,.box [.junk] false],_,[.box [.str ([]:List UInt8),i64 0,.sl true (L Aa ([]))] false,.box [i64 q.1] false,.box [i64 q.2.1] false,.box [i64 q.1,i64 q.2.1] false],[.agg [.str ([]:List UInt8),i64 0,.sl true (L Aa ([]))],i64 q.1,i64 q.2.1],i,.inr ⟨_,rfl,rfl⟩,?_,Jq,rfl,?_,⟨⟨rfl,.inl ⟨0,0,rfl,rfl,rfl⟩⟩,⟨rfl,.inl ⟨1,1,rfl,rfl,rfl⟩⟩,⟨rfl,.inl ⟨2,2,rfl,rfl,rfl⟩⟩,trivial⟩,AcO ?_,?_⟩
  ·simp only[go_sem]
  ·simp only[ApL,Aqr,AqG]at c;exact⟨c.1,c.2.1,c.2.2.1,trivial⟩
  ·simp only[go_sem]
  simp only[go_sem]
 dsimp only at h;refine Td [2,3,4,6] 26 [.ref 3 0,.str ([116,97,114,105,102,102]:List UInt8)] (wcp (Al ag) [3]) ?_;revert h;intro h;replace h:=An h;obtain⟨ay,ah,h⟩:=h;rcases ay with f|s
 rotate_left
 ·dsimp only at h;refine Tj [2,3,4] [.ref 0 0,.ref 1 0,.ref 2 0] 1 28 [.ref 3 0] (Pw (Dr ah) [3]) (fun n i c=>?_);obtain rfl:=Ao8 h;refine FU (Weak.refl _ _) ?_;refine⟨_,[.box [.junk,.junk,.junk] false,.box [.junk] false,.box [.junk] false],_,[.box [.str ([]:List UInt8),i64 0,.sl true (L Aa ([]))] false,.box [i64 s.1] false,.box [i64 s.2.1] false,.box [i64 s.1,i64 s.2.1] false],[.agg [.str ([]:List UInt8),i64 0,.sl true (L Aa ([]))],i64 s.1,i64 s.2.1],i,.inr ⟨_,rfl,rfl⟩,?_,Jq,rfl,?_,⟨⟨rfl,.inl ⟨0,0,rfl,rfl,rfl⟩⟩,⟨rfl,.inl ⟨1,1,rfl,rfl,rfl⟩⟩,⟨rfl,.inl ⟨2,2,rfl,rfl,rfl⟩⟩,trivial⟩,AcO ?_,?_⟩
  ·simp only[go_sem]
  ·simp only[ApL,Aqr,AqG]at c;exact⟨c.1,c.2.1,c.2.2.1,trivial⟩
  ·simp only[go_sem]
  simp only[go_sem]
 dsimp only at h;refine Td [2,3,4,6] 28 [.ref 3 0] (wcp (Dr ah) [3]) ?_;revert h;intro h;replace h:=An h;obtain⟨az,ai,h⟩:=h;rcases az with aU|t
 rotate_left
 ·dsimp only at h;refine Tj [2,3,4] [.ref 0 0,.ref 1 0,.ref 2 0] 1 31 [.ref 3 0,.str ([102,111,114]:List UInt8)] (Pw (Al ai) [3]) (fun n i c=>?_);obtain rfl:=Ao8 h;refine FU (Weak.refl _ _) ?_;refine⟨_,[.box [.junk,.junk,.junk] false,.box [.junk] false,.box [.junk] false],_,[.box [.str ([]:List UInt8),i64 0,.sl true (L Aa ([]))] false,.box [i64 t.1] false,.box [i64 t.2.1] false,.box [i64 t.1,i64 t.2.1] false],[.agg [.str ([]:List UInt8),i64 0,.sl true (L Aa ([]))],i64 t.1,i64 t.2.1],i,.inr ⟨_,rfl,rfl⟩,?_,Jq,rfl,?_,⟨⟨rfl,.inl ⟨0,0,rfl,rfl,rfl⟩⟩,⟨rfl,.inl ⟨1,1,rfl,rfl,rfl⟩⟩,⟨rfl,.inl ⟨2,2,rfl,rfl,rfl⟩⟩,trivial⟩,AcO ?_,?_⟩
  ·simp only[go_sem]
  ·simp only[ApL,Aqr,AqG]at c;exact⟨c.1,c.2.1,c.2.2.1,trivial⟩
  ·simp only[go_sem]
  simp only[go_sem]
 dsimp only at h;refine Td [2,3,4,6] 31 [.ref 3 0,.str ([102,111,114]:List UInt8)] (wcp (Al ai) [3]) ?_;revert h;intro h;replace h:=An h;obtain⟨aA,aj,h⟩:=h;rcases aA with g|u
 rotate_left
 ·dsimp only at h;refine Tj [2,3,4] [.ref 0 0,.ref 1 0,.ref 2 0] 1 33 [.ref 3 0,.str ([104,105,114,101,32,100,101,109,117,114,114,97,103,101,32,102,114,101,105,103,104,116,32,114,101,112,97,105,114,32,108,111,115,115,32,99,108,101,97,110,105,110,103]:List UInt8)] (Pw (AZ aj) [3]) (fun n i c=>?_);obtain rfl:=Ao8 h;refine FU (Weak.refl _ _) ?_;refine⟨_,[.box [.junk,.junk,.junk] false,.box [.junk] false,.box [.junk] false],_,[.box [.str ([]:List UInt8),i64 0,.sl true (L Aa ([]))] false,.box [i64 u.1] false,.box [i64 u.2.1] false,.box [i64 u.1,i64 u.2.1] false],[.agg [.str ([]:List UInt8),i64 0,.sl true (L Aa ([]))],i64 u.1,i64 u.2.1],i,.inr ⟨_,rfl,rfl⟩,?_,Jq,rfl,?_,⟨⟨rfl,.inl ⟨0,0,rfl,rfl,rfl⟩⟩,⟨rfl,.inl ⟨1,1,rfl,rfl,rfl⟩⟩,⟨rfl,.inl ⟨2,2,rfl,rfl,rfl⟩⟩,trivial⟩,AcO ?_,?_⟩
  ·simp only[go_sem]
  ·simp only[ApL,Aqr,AqG]at c;exact⟨c.1,c.2.1,c.2.2.1,trivial⟩
  ·simp only[go_sem]
  simp only[go_sem]
 dsimp only at h;refine Td [2,3,4,6] 33 [.ref 3 0,.str ([104,105,114,101,32,100,101,109,117,114,114,97,103,101,32,102,114,101,105,103,104,116,32,114,101,112,97,105,114,32,108,111,115,115,32,99,108,101,97,110,105,110,103]:List UInt8)] (wcp (AZ aj) [3]) ?_;revert h;intro h;replace h:=An h;obtain⟨aB,ak,h⟩:=h;rcases aB with aC|w
 rotate_left
 ·dsimp only at h;refine Tj [2,3,4] [.ref 0 0,.ref 1 0,.ref 2 0] 1 37 [.ref 3 0,.str ([123]:List UInt8)] (Pw (Al ak) [3]) (fun n i c=>?_);obtain rfl:=Ao8 h;refine FU (Weak.refl _ _) ?_;refine⟨_,[.box [.junk,.junk,.junk] false,.box [.junk] false,.box [.junk] false],_,[.box [.str ([]:List UInt8),i64 0,.sl true (L Aa ([]))] false,.box [i64 w.1] false,.box [i64 w.2.1] false,.box [i64 w.1,i64 w.2.1] false],[.agg [.str ([]:List UInt8),i64 0,.sl true (L Aa ([]))],i64 w.1,i64 w.2.1],i,.inr ⟨_,rfl,rfl⟩,?_,Jq,rfl,?_,⟨⟨rfl,.inl ⟨0,0,rfl,rfl,rfl⟩⟩,⟨rfl,.inl ⟨1,1,rfl,rfl,rfl⟩⟩,⟨rfl,.inl ⟨2,2,rfl,rfl,rfl⟩⟩,trivial⟩,AcO ?_,?_⟩
  ·simp only[go_sem]
  ·simp only[ApL,Aqr,AqG]at c;exact⟨c.1,c.2.1,c.2.2.1,trivial⟩
  ·simp only[go_sem]
  simp only[go_sem]
 dsimp only at h;refine Td [2,3,4,6] 37 [.ref 3 0,.str ([123]:List UInt8)] (wcp (Al ak) [3]) ?_;revert h;refine Jo (fun⟨al,am,e⟩=>⟨Ai 71 [(2,.ref 0 0),(3,.ref 1 0),(4,.ref 2 0),(6,.ref 3 0)],[.box [.str f.1,i64 (w64 (1+g.1)),.bs false 4 (e.length) 0 (e.length)] false,.box [i64 a.2.1] false,.box [i64 a.2.2] false,.box [.sl false (L Am al),i64 am] false,.buf 9 (L Aa e) false]⟩) ?_ ?_
 ·intro aV an;refine Bd fun aW aD =>Te [2,3,4,6,7] (Ag (l:=[]) (m:=[(39,50,[.ref 3 0],[.box [.str f.1,i64 (w64 (1+g.1)),.sl true (L Aa ([]))] false,.box [i64 a.2.1] false,.box [i64 a.2.2] false,pS aC],_,_)]) trivial ⟨(wc (BG aD) [3]),trivial⟩) Ev ?_
  refine Sb ?_;refine Lo (fun⟨p,z,aa,d⟩=>⟨Ai 71 [(2,.ref 0 0),(3,.ref 1 0),(4,.ref 2 0),(6,.ref 3 0),(7,i64 p)],[.box [.str f.1,i64 (w64 (1+g.1)),.bs false 4 (d.length) 0 (d.length)] false,.box [i64 a.2.1] false,.box [i64 a.2.2] false,.box [.sl false (L Am z),i64 aa] false,.buf 9 (L Aa d) false]⟩) ((Ir 0 2 9 rfl rfl).trans (ws [0,1,2,3,4])) ?_;rintro⟨p,z,aa,d⟩ aX aE ad ae;show ER p z aa d=some aE->_;unfold ER;refine Sq <|Bd fun ab aF =>Te [2,3,4,6,7,41] (Ag (l:=[]) (m:=[(41,51,[.ref 3 0,.str ([99,108,97,117,115,101]:List UInt8)],[.box [.str f.1,i64 (w64 (1+g.1)),.bs false 4 (d.length) 0 (d.length)] false,.box [i64 a.2.1] false,.box [i64 a.2.2] false,.box [.sl false (L Am z),i64 aa] false,.buf 9 (L Aa d) false],_,_)]) trivial ⟨(wc (A4 aF) [3]),trivial⟩) Ev ?_
  refine Cd ?_ ?_
  ·refine Sk <|Tn <|Sq <|Sb <|Sq <|T0 [2,3,4,6,7,47] ?_
   refine Cd ?_ ?_
   ·intro h;refine Gj hE [2,3,4] 3 _ (v:=.iface 104 (.agg #[.int .i64 p,.int .i64 2])) (σ2:=[.box [.str f.1,i64 (w64 (1+g.1)),.bs false 4 (d.length) 0 (d.length)] false,.box [i64 a.2.1] false,.box [i64 a.2.2] false,pS ab.2,.buf 9 (L Aa d) false]) (vals:=[.ref 0 0,.ref 1 0,.ref 2 0]) rfl rfl ⟨_,[],Ab,trivial,?_⟩ (fun n i c=>?_)
    ·simp only[go_sem]
    refine Ed ?_;refine E5 ?_;refine Ed ?_;refine Vd ?_;replace h:=An h;obtain⟨aY,h,aG⟩:=h;obtain rfl:=Ao8 aG;have aH:=ae _ rfl;subst aH;obtain rfl:=Ao8 ad;refine E5 ?_;refine Hi ?_;replace h:=An h;obtain⟨aZ,h,aI⟩:=h;obtain rfl:=Ao8 aI;obtain rfl:=Ao8 an;obtain rfl:=Ao8 h;refine FU (Weak.refl _ _) ?_;refine⟨_,[.box [.junk,.junk,.junk] false,.box [.junk] false,.box [.junk] false],_,[.box [.str ([]:List UInt8),i64 0,.sl true (L Aa ([]))] false,.box [i64 p] false,.box [i64 2] false,.box [i64 p,i64 2] false],[.agg [.str ([]:List UInt8),i64 0,.sl true (L Aa ([]))],i64 p,i64 2],i,.inr ⟨_,rfl,rfl⟩,?_,Jq,rfl,?_,⟨⟨rfl,.inl ⟨0,0,rfl,rfl,rfl⟩⟩,⟨rfl,.inl ⟨1,1,rfl,rfl,rfl⟩⟩,⟨rfl,.inl ⟨2,2,rfl,rfl,rfl⟩⟩,trivial⟩,AcO ?_,?_⟩
    ·simp only[go_sem]
    ·simp only[ApL,Aqr,AqG]at c;exact⟨c.1,c.2.1,c.2.2.1,trivial⟩
    ·simp only[go_sem]
    simp only[go_sem]
   refine Sk <|Tn <|?_
   intro h;replace h:=An h;obtain⟨aJ,ao,h⟩:=h;rcases aJ with ap|j
   rotate_left
   ·dsimp only at h;refine PS hE mixed [2,3,4] rfl [[],[0],[],[],[3],[2,3,4],[2,3,4,5],[0,1,2,3,4,5,6],[0,1,2,3,4,5,6,7],[0,1,2,3,4,5,6,7,8]] (by kernel_rfl) 5 (by kernel_rfl) (by kernel_rfl) _ (v:=pE j) (σ2:=[.box [.str f.1,i64 (w64 (1+g.1)),.bs false 4 (d.length) 0 (d.length)] false,.box [i64 a.2.1] false,.box [i64 a.2.2] false,pS j.2.2,.buf 9 (L Aa d) false]) (vals:=[.ref 0 0,.ref 1 0,.ref 2 0]) rfl rfl ⟨_,[(56,52,[.ref 3 0,.bs false 4 (d.length) 0 (d.length)],[.box [.str f.1,i64 (w64 (1+g.1)),.bs false 4 (d.length) 0 (d.length)] false,.box [i64 a.2.1] false,.box [i64 a.2.2] false,pS ab.2,.buf 9 (L Aa d) false],.val (pE j),[.box [.str f.1,i64 (w64 (1+g.1)),.bs false 4 (d.length) 0 (d.length)] false,.box [i64 a.2.1] false,.box [i64 a.2.2] false,pS j.2.2,.buf 9 (L Aa d) false])],Ab,⟨fun v hv=>by cases hv;exact Pl (PCon.pan (FR ao) rfl) [3,4] (by decide) gs gs gs gs,trivial⟩,?_⟩ (fun n i c=>?_)
    ·simp only[go_sem]
    refine E5 ?_;refine Ed ?_;refine Vd ?_;replace h:=An h;obtain⟨a0,h,aK⟩:=h;obtain rfl:=Ao8 aK;have aL:=ae _ rfl;subst aL;obtain rfl:=Ao8 ad;refine E5 ?_;refine Hi ?_;replace h:=An h;obtain⟨a1,h,aM⟩:=h;obtain rfl:=Ao8 aM;obtain rfl:=Ao8 an;obtain rfl:=Ao8 h;refine FU (Weak.refl _ _) ?_;refine⟨_,[.box [.junk,.junk,.junk] false,.box [.junk] false,.box [.junk] false],_,[.box [.str ([]:List UInt8),i64 0,.sl true (L Aa ([]))] false,.box [i64 j.1] false,.box [i64 j.2.1] false,.box [i64 j.1,i64 j.2.1] false],[.agg [.str ([]:List UInt8),i64 0,.sl true (L Aa ([]))],i64 j.1,i64 j.2.1],i,.inr ⟨_,rfl,rfl⟩,?_,Jq,rfl,?_,⟨⟨rfl,.inl ⟨0,0,rfl,rfl,rfl⟩⟩,⟨rfl,.inl ⟨1,1,rfl,rfl,rfl⟩⟩,⟨rfl,.inl ⟨2,2,rfl,rfl,rfl⟩⟩,trivial⟩,AcO ?_,?_⟩
    ·simp only[go_sem]
    ·simp only[ApL,Aqr,AqG]at c;exact⟨c.1,c.2.1,c.2.2.1,trivial⟩
    ·simp only[go_sem]
    simp only[go_sem]
   dsimp only at h;replace h:=Jk h;obtain⟨af,h⟩:=h;replace h:=KI h;obtain⟨x,aq,h⟩:=h;refine MN hE mixed [[],[0],[],[],[3],[2,3,4],[2,3,4,5],[0,1,2,3,4,5,6],[0,1,2,3,4,5,6,7],[0,1,2,3,4,5,6,7,8]] (by kernel_rfl) 5 [0,1] [2,3,4,6,51] (by kernel_rfl) (E4 Ea) (fr':=[(2,.ref 0 0),(3,.ref 1 0),(4,.ref 2 0),(6,.ref 3 0),(51,.ref 0 2)]) (O':=[.box [.str f.1,i64 (w64 (1+g.1)),.bs false 4 (x.length) 0 (x.length)] false,.box [i64 a.2.1] false,.box [i64 a.2.2] false,pS ap.2,.buf 9 (L Aa x) false]) ⟨_,_,_,_,_,_,_,rfl,?_,(Ag (l:=[]) (m:=[(56,52,[.ref 3 0,.bs false 4 (d.length) 0 (d.length)],[.box [.str f.1,i64 (w64 (1+g.1)),.bs false 4 (d.length) 0 (d.length)] false,.box [i64 a.2.1] false,.box [i64 a.2.2] false,pS ab.2,.buf 9 (L Aa d) false],_,_)]) trivial ⟨(wc (PCon.to (FR ao) rfl) [3,4]),trivial⟩),?_⟩ ?_
   ·subst aq;simp only[go_sem,af]
   ·subst aq;first|(simp only[go_sem,af];done)|(simp only[go_sem,af];simp only[AqP 1])
   revert h;refine Bn <|Tn <|Bd fun a2 aN =>Fe [2,3,4,6,7] (Ag (l:=[]) (m:=[(43,50,[.ref 3 0],[.box [.str f.1,i64 (w64 (1+g.1)),.bs false 4 (x.length) 0 (x.length)] false,.box [i64 a.2.1] false,.box [i64 a.2.2] false,pS ap.2,.buf 9 (L Aa x) false],_,_)]) trivial ⟨(wc (BG aN) [3]),trivial⟩) Ev ?_
   exact Ln (ws [0,1,2,3,4])
  refine Sx <|Tx <|Lx ae ad <|Bx <|?_
  exact Jn ((ws (l':=[(2,.ref 0 0),(3,.ref 1 0),(4,.ref 2 0),(6,.ref 3 0)]) (O':=[.box [.str f.1,i64 (w64 (1+g.1)),.bs false 4 (d.length) 0 (d.length)] false,.box [i64 a.2.1] false,.box [i64 a.2.2] false,pS ab.2,.buf 9 (L Aa d) false]) [0,1,2,3,4]).trans (ws [0,1,2,3,4]))
 rintro⟨al,am,e⟩;intro h;replace h:=An h;obtain⟨aO,ar,h⟩:=h;rcases aO with au|y
 rotate_left
 ·dsimp only at h;refine Tj [2,3,4] [.ref 0 0,.ref 1 0,.ref 2 0] 1 61 [.ref 3 0,.str ([125]:List UInt8)] (Pw (Al ar) [3]) (fun n i c=>?_);obtain rfl:=Ao8 h;refine FU (Weak.refl _ _) ?_;refine⟨_,[.box [.junk,.junk,.junk] false,.box [.junk] false,.box [.junk] false],_,[.box [.str ([]:List UInt8),i64 0,.sl true (L Aa ([]))] false,.box [i64 y.1] false,.box [i64 y.2.1] false,.box [i64 y.1,i64 y.2.1] false],[.agg [.str ([]:List UInt8),i64 0,.sl true (L Aa ([]))],i64 y.1,i64 y.2.1],i,.inr ⟨_,rfl,rfl⟩,?_,Jq,rfl,?_,⟨⟨rfl,.inl ⟨0,0,rfl,rfl,rfl⟩⟩,⟨rfl,.inl ⟨1,1,rfl,rfl,rfl⟩⟩,⟨rfl,.inl ⟨2,2,rfl,rfl,rfl⟩⟩,trivial⟩,AcO ?_,?_⟩
  ·simp only[go_sem]
  ·simp only[ApL,Aqr,AqG]at c;exact⟨c.1,c.2.1,c.2.2.1,trivial⟩
  ·simp only[go_sem]
  simp only[go_sem]
 dsimp only at h;refine Td [2,3,4,6] 61 [.ref 3 0,.str ([125]:List UInt8)] (wcp (Al ar) [3]) ?_;revert h;refine Jo (fun _=>⟨Ai 71 [(2,.ref 0 0),(3,.ref 1 0),(4,.ref 2 0)],[.box [.str f.1,i64 (w64 (1+g.1)),.bs false 3 (e.length) 0 (e.length)] false,.box [i64 a.2.1] false,.box [i64 a.2.2] false,.buf 9 (L Aa e) false]⟩) ?_ ?_
 ·intro a3 aP;refine T0 [2,3,4,6,67] ?_;refine Cd ?_ ?_
  ·intro h;replace h:=An h;obtain⟨aQ,av,h⟩:=h;rcases aQ with aR|k
   rotate_left
   ·dsimp only at h;refine Gj hE [2,3,4] 1 _ (v:=pE k) (σ2:=[.box [.str f.1,i64 (w64 (1+g.1)),.bs false 4 (e.length) 0 (e.length)] false,.box [i64 a.2.1] false,.box [i64 a.2.2] false,pS k.2.2,.buf 9 (L Aa e) false]) (vals:=[.ref 0 0,.ref 1 0,.ref 2 0]) rfl rfl ⟨_,[(69,53,[.ref 3 0],[.box [.str f.1,i64 (w64 (1+g.1)),.bs false 4 (e.length) 0 (e.length)] false,.box [i64 a.2.1] false,.box [i64 a.2.2] false,pS au,.buf 9 (L Aa e) false],.val (pE k),[.box [.str f.1,i64 (w64 (1+g.1)),.bs false 4 (e.length) 0 (e.length)] false,.box [i64 a.2.1] false,.box [i64 a.2.2] false,pS k.2.2,.buf 9 (L Aa e) false])],Ab,⟨fun v hv=>by cases hv;exact Pl (PCon.pan (A9 av) rfl) [3] (by decide) gs gs gs gs,trivial⟩,?_⟩ (fun n i c=>?_)
    ·simp only[go_sem]
    refine Hi ?_;replace h:=An h;obtain⟨a4,h,aS⟩:=h;obtain rfl:=Ao8 aS;obtain rfl:=Ao8 aP;obtain rfl:=Ao8 h;refine FU (Weak.refl _ _) ?_;refine⟨_,[.box [.junk,.junk,.junk] false,.box [.junk] false,.box [.junk] false],_,[.box [.str ([]:List UInt8),i64 0,.sl true (L Aa ([]))] false,.box [i64 k.1] false,.box [i64 k.2.1] false,.box [i64 k.1,i64 k.2.1] false],[.agg [.str ([]:List UInt8),i64 0,.sl true (L Aa ([]))],i64 k.1,i64 k.2.1],i,.inr ⟨_,rfl,rfl⟩,?_,Jq,rfl,?_,⟨⟨rfl,.inl ⟨0,0,rfl,rfl,rfl⟩⟩,⟨rfl,.inl ⟨1,1,rfl,rfl,rfl⟩⟩,⟨rfl,.inl ⟨2,2,rfl,rfl,rfl⟩⟩,trivial⟩,AcO ?_,?_⟩
    ·simp only[go_sem]
    ·simp only[ApL,Aqr,AqG]at c;exact⟨c.1,c.2.1,c.2.2.1,trivial⟩
    ·simp only[go_sem]
    simp only[go_sem]
   dsimp only at h;refine D2 hE FJ [2,3,4] (fr':=[(2,.ref 0 0),(3,.ref 1 0),(4,.ref 2 0)]) (O':=[.box [.str f.1,i64 (w64 (1+g.1)),.bs false 4 (e.length) 0 (e.length)] false,.box [i64 a.2.1] false,.box [i64 a.2.2] false,pS aR,.buf 9 (L Aa e) false]) ⟨_,(Ag (l:=[]) (m:=[(69,53,[.ref 3 0],[.box [.str f.1,i64 (w64 (1+g.1)),.bs false 4 (e.length) 0 (e.length)] false,.box [i64 a.2.1] false,.box [i64 a.2.2] false,pS au,.buf 9 (L Aa e) false],_,_)]) trivial ⟨(wc (PCon.to (A9 av) rfl) [3]),trivial⟩),?_⟩ ?_
   ·simp only[go_sem]
   revert h;exact Jn (ws [0,1,2,4])
  exact Sk <|Jn (ws [0,1,2,4])
 intro _;refine T0 [2,3,4] ?_;refine Sr ?_;intro h;obtain rfl:=Ao8 h;refine FU ((JZ 0 2 rfl rfl rfl gs gs).trans (Weak.refl _ _)) ?_;refine⟨_,[.box [.str f.1,i64 (w64 (1+g.1)),.sl false (L Aa e)] false,.box [i64 0] false,.box [i64 0] false],_,[.box [.str f.1,i64 (w64 (1+g.1)),.sl false (L Aa e)] false,.box [i64 0] false,.box [i64 0] false,.box [i64 0,i64 0] false],[.agg [.str f.1,i64 (w64 (1+g.1)),.sl false (L Aa e)],i64 0,i64 0],Oc _ _,.inl ⟨.inr rfl,rfl⟩,?_,Aen,rfl,?_,⟨⟨rfl,.inl ⟨0,0,rfl,rfl,rfl⟩⟩,⟨rfl,.inl ⟨1,1,rfl,rfl,rfl⟩⟩,⟨rfl,.inl ⟨2,2,rfl,rfl,rfl⟩⟩,trivial⟩,AcO ?_,?_⟩
 ·simp only[go_sem]
 ·simp only[go_sem]
 ·simp only[go_sem]
 simp only[go_sem]
theorem NE{a:List UInt8}{r:AoV×Int×Int}(h:EM a=some r):Con (B rs) 22 [.str a] [] (fun r' O'=>r'=.tup [.agg (Ad r.1),i64 r.2.1,i64 r.2.2]/\O'=[]):=by
 unfold EM at h;split at h
 ·rename_i r' e;obtain rfl:=Ao8 h;exact Mc e
 exact Mu h
variable {rs:AoO}
theorem IU{f b r}(h:ES f b=some r):Con (B rs) 125 [.agg (C1 i64 f.low.l++C1 i64 f.high.l),.agg (C1 i64 b.low.l++C1 i64 b.high.l)] [] (fun r' O'=>r'=.tup [.agg (C1 i64 r.1.low.l++C1 i64 r.1.high.l),.bool r.2]/\O'=[]):=by
 refine Cw 50 [.cell 4 152,.tmp 5] Tryz.func125 (fun F hE=>?_) h;unfold ES;refine T0 [2,3,4] ?_;refine T0 [2,3,4,6] ?_;refine Ja (fun⟨j,k,m⟩=>⟨Ai 50 [(2,.ref 0 0),(4,.ref 1 0),(6,.bool j)],[.box (C1 i64 k.l++C1 i64 m.l) false,.box (C1 i64 (Arr.rep 16 0).l++C1 i64 (Arr.rep 16 0).l) false]⟩) ?_ ?_
 ·intro al;refine T0 [2,3,4,6,8] ?_;refine Sb ?_;refine Lo (fun⟨d,a,e,c⟩=>⟨Ai 50 [(2,.ref 0 0),(3,.ref 1 0),(4,.ref 2 0),(6,.bool d),(8,i64 a)],[.box (C1 i64 e.l++C1 i64 c.l) false,.box (C1 i64 b.low.l++C1 i64 b.high.l) false,.box (C1 i64 (Arr.rep 16 0).l++C1 i64 (Arr.rep 16 0).l) false]⟩) (ws [0,1,2]) ?_;rintro⟨d,a,e,c⟩ am y z aa;show FE b d a e c=some y->_;unfold FE;refine T0 [2,3,4,6,8,9] ?_;refine Sq <|Cd ?_ ?_
  ·refine Sk <|Tn <|Sq <|Sb <|T0 [2,3,4,6,7,8] ?_
   refine Ck fun n=>?_
   have ab:a.toNat<=31:=by have:=n.2;omega
   refine Ck fun o=>?_
   have ac:a.toNat<=31:=by have:=o.2;omega
   refine Ck fun p=>?_
   have ad:a.toNat<=31:=by have:=p.2;omega
   refine Lt fun g ae =>De (O':=[.box (C1 i64 g.l++C1 i64 c.l) false,_,_]) [[],[],[],[1,2],[1,2,3],[],[],[5,6],[5,6,7],[1,2,3,4,5,6,7,8],[],[0,1,2,3,4,5,6,7,8,9,10],[0,1,2,3,4,5,6,7,8,9,10,11]] [2,3,4,6,7,8] Ab (Ev (by simp only[go_sem,qR n,ab,qR o,ac,qR p,ad,ae];exact C2)) ?_
   refine Ck fun q=>?_
   have af:16+a.toNat<=31:=by have:=q.2;omega
   refine Ck fun s=>?_
   have ag:16+a.toNat<=31:=by have:=s.2;omega
   refine Ck fun t=>?_
   have ah:16+a.toNat<=31:=by have:=t.2;omega
   refine Lt fun u ai =>De (O':=[.box (C1 i64 g.l++C1 i64 u.l) false,_,_]) [[],[],[],[1,2],[1,2,3],[],[],[5,6],[5,6,7],[1,2,3,4,5,6,7,8],[],[0,1,2,3,4,5,6,7,8,9,10],[0,1,2,3,4,5,6,7,8,9,10,11]] [2,3,4,6,7,8] Ab (Ev (by simp only[go_sem,qR q,af,qR s,ag,qR t,ah,ai];exact C2)) ?_
   refine Hw [[],[0],[0,1],[0,1],[0,1,2,3],[0,1,2,3,4],[0,1],[0,1],[0,1,6,7],[0,1,6,7,8],[0,1,2,3,4,5,6,7,8,9],[0,1,2,3,4,5,6,7,8,9,10],[0,1,2,3,4,5,6,7,8,9,10,11]] [2,3,4,6,8] (fun v=>⟨Ai 50 [(2,.ref 0 0),(3,.ref 1 0),(4,.ref 2 0),(6,.bool v),(8,i64 a)],[.box (C1 i64 g.l++C1 i64 u.l) false,.box (C1 i64 b.low.l++C1 i64 b.high.l) false,.box (C1 i64 (Arr.rep 16 0).l++C1 i64 (Arr.rep 16 0).l) false]⟩) ?_ ?_
   ·intro _;refine Sp (fun i=>?_) fun i=>?_
    ·refine Ck fun w=>?_
     have aj:a.toNat<=31:=by have:=w.2;omega
     refine Ck fun x=>?_
     have ak:16+a.toNat<=31:=by have:=x.2;omega
     exact Lf Ab (Ew5 i (qR w) aj (qR x) ak) (ws [0,1,2])
    exact Lf Ab (Ew1 i) (ws [0,1,2])
   intro v;refine Bn <|Tn <|F0 [2,3,4,6,8] ?_
   exact Ln (ws [0,1,2])
  refine Sx <|Tx <|Ly aa z <|Bx <|?_
  exact Jm ((ws (l':=[(2,.ref 0 0),(4,.ref 1 0),(6,.bool d)]) (O':=[.box (C1 i64 e.l++C1 i64 c.l) false,.box (C1 i64 (Arr.rep 16 0).l++C1 i64 (Arr.rep 16 0).l) false]) [0,2]).trans (ws [0,1]))
 rintro⟨j,k,m⟩;refine T0 [4,5] ?_;exact Sr <|Rr
theorem Tt{a r}(h:SA a=some r):Con (B rs) 126 [.agg (C1 i64 a.l)] [] (fun r' O'=>r'=.agg (i64 r.Has::C1 i64 r.V.l)/\O'=[]):=by
 refine Cw 5 [.cell 2 52] Tryz.func126 (fun F hE=>?_) h;unfold SA;refine T0 [1,2] ?_;refine T0 [2] ?_;exact Sr <|Rr
theorem OG{a r}(h:HF a=some r):Con (B rs) 81 [.agg (Aa a)] [] (fun r' O'=>r'=.tup [.agg (C1 i64 r.1.low.l++C1 i64 r.1.high.l),.bool r.2]/\O'=[]):=by
 refine Cw 39 [.cell 2 152,.tmp 3] Tryz.func81 (fun F hE=>?_) h;unfold HF;refine T0 [1,2] ?_;refine Bd fun y n =>Te [1,2,4] (o1 9 (TX n)) Ev ?_
 refine Jo (fun(v:Arr Int 16×Arr Int 16)=>(⟨Ai 39 [(2,.ref 0 0),(4,.ref 1 0)],[.box (C1 i64 (Arr.rep 16 0).l++C1 i64 (Arr.rep 16 0).l) false,.box (C1 i64 v.1.l++C1 i64 v.2.l) false]⟩:St)) ?_ ?_
 ·intro z o;refine T0 [2,4,11,12,13] ?_;refine Sb ?_;refine Lo (fun⟨d,b,c⟩=>⟨Ai 39 [(2,.ref 0 0),(4,.ref 1 0),(11,.sl false (L Af a.Ze)),(12,i64 (a.Ze.length:Int)),(13,i64 d)],[.box (C1 i64 (Arr.rep 16 0).l++C1 i64 (Arr.rep 16 0).l) false,.box (C1 i64 b.l++C1 i64 c.l) false]⟩) (ws [1,2]) ?_;rintro⟨d,b,c⟩ aa p f g;show KB a d b c=some p->_;unfold KB;refine T0 [2,4,11,12,13,14] ?_;refine Sq <|Cd ?_ ?_
  ·refine Sk <|Tn <|Sq <|Sb <|Ck fun q =>Lt fun i s =>Lt fun j t =>Lt fun k u =>Te (O':=[_,_,.box [i64 i,i64 j,i64 k] false]) [2,4,6,11,12,13] Ab (Ew4 (qR q) s t u) ?_
   refine Sq ?_;refine Tw [2,4,6,11,12,13,24] (fun m=>⟨Ai 39 [(2,.ref 0 0),(4,.ref 1 0),(6,.ref 2 0),(11,.sl false (L Af a.Ze)),(12,i64 (a.Ze.length:Int)),(13,i64 d),(24,.bool m)],[.box (C1 i64 (Arr.rep 16 0).l++C1 i64 (Arr.rep 16 0).l) false,.box (C1 i64 b.l++C1 i64 c.l) false,.box [i64 i,i64 j,i64 k] false]⟩) ?_ ?_
   ·intro _;refine Sp (fun e=>?_) fun e=>?_
    ·exact Lf Ab (Ew1 e) (ws [0,1,2])
    exact Lf Ab (Ew1 e) (ws [0,1,2])
   intro m;refine Cd ?_ ?_
   ·refine T0 [2,3] ?_;exact Sr <|Tr <|Br <|Tr <|Lr g f <|Br <|Jr o <|Rr
   refine Sk <|Tn <|Bd fun ab w =>Fe [2,4,11,12,13] (o1 28 (NR w)) Ev ?_
   refine Bn <|Tn <|F0 [2,4,11,12,13] ?_
   exact Ln (ws [0,1])
  refine Sx <|Tx <|Lx g f <|Bx <|?_
  exact Jn ((ws (l':=[(2,.ref 0 0),(4,.ref 1 0)]) (O':=[.box (C1 i64 (Arr.rep 16 0).l++C1 i64 (Arr.rep 16 0).l) false,.box (C1 i64 b.l++C1 i64 c.l) false]) [0,1]).trans (ws [0,1]))
 rintro⟨ac,ad⟩;refine Sq <|Bd fun ae x =>Te [2,7,8] (o1 33 (IU x)) Ev ?_
 refine T0 [2,7,36] ?_;refine Cd ?_ ?_
 ·refine T0 [2,3] ?_;exact Sr <|Tr <|Rr
 refine Sk <|Tn <|T0 [2,3] ?_
 exact Sr <|Rr
theorem NG{f r}(h:GS f=some r):Con (B rs) 82 [.agg (Ad f)] [] (fun r' O'=>r'=.tup [i64 r.1,i64 r.2.1,.agg (i64 r.2.2.1.Has::C1 i64 r.2.2.1.V.l),.bool r.2.2.2]/\O'=[]):=by
 refine Cw 87 [.tmp 2,.tmp 3,.cell 4 52,.tmp 5] Tryz.func82 (fun F hE=>?_) h;unfold GS;refine T0 [1,4] ?_;refine Ck fun z =>Lt fun j aa =>Te (fr':=[(1,_),(4,_),(6,.bs true 2 (j.length) 0 (j.length))]) (O':=[_,_,.buf 32 (L Et j) false]) [1,4,6] Ab (Ew2 z aa) ?_
 refine Ck fun ab =>Lt fun k ac =>Te (fr':=[(1,_),(4,_),(6,_),(7,.bs true 3 (k.length) 0 (k.length))]) (O':=[_,_,_,.buf 1 (L LF k) false]) [1,4,6,7] Ab (Ew2 ab ac) ?_
 refine Ja (fun(v:List AoQ×List Bool)=>(⟨Ai 87 [(4,.ref 0 0),(6,.bs true 1 (v.1.length) 0 (v.1.length)),(7,.bs true 2 (v.2.length) 0 (v.2.length))],[.box (i64 0::C1 i64 (Arr.rep 16 0).l) false,.buf 32 (L Et v.1) false,.buf 1 (L LF v.2) false]⟩:St)) ?_ ?_
 ·intro aJ;refine T0 [4,6,7,23,24,25] ?_;refine Sb ?_;refine Lo (fun⟨m,d,e⟩=>⟨Ai 87 [(4,.ref 0 0),(6,.bs true 1 (d.length) 0 (d.length)),(7,.bs true 2 (e.length) 0 (e.length)),(23,.sl false (L Aa f.Zf)),(24,i64 (f.Zf.length:Int)),(25,i64 m)],[.box (i64 0::C1 i64 (Arr.rep 16 0).l) false,.buf 32 (L Et d) false,.buf 1 (L LF e) false]⟩) (ws [1,2,3]) ?_;rintro⟨m,d,e⟩ aK ad ae af;show EH f m d e=some ad->_;unfold EH;refine T0 [4,6,7,23,24,25,26] ?_;refine Sq <|Cd ?_ ?_
  ·refine Sk <|Tn <|Sq <|Sb <|Ck fun ag =>Lt fun ah ai =>Lt fun aj ak =>Lt fun al am =>Lt fun an ao =>Lt fun ap aq =>Lt fun ar au =>Te (O':=[_,_,_,.box (.str ah::.sl false (L Af aj)::i64 al::i64 an::(C1 i64 ap.l++[.sl false (L cApi_Expr ar)])) false]) [4,6,7,8,9,23,24,25] Ab (Ev (by simp only[go_sem,qR ag,ai,ak,am,ao,aq,au];exact C2)) ?_
   refine Bd fun aL av =>Ck fun aw =>Ck fun ax =>Lt fun n ay =>Lt fun o az =>Fe (fr':=[(4,_),(6,.bs true 1 (n.length) 0 (n.length)),(7,.bs true 2 (o.length) 0 (o.length)),(23,_),(24,_),(25,_)]) (O':=[_,.buf 32 (L Et n) false,.buf 1 (L LF o) false,_]) [4,6,7,23,24,25] (o1 36 (OG av)) (Ew4 (qR aw) (qR ax) ay az) ?_
   refine Bn <|Tn <|F0 [4,6,7,23,24,25] ?_
   exact Ln (ws [0,1,2])
  refine Sx <|Tx <|Ly af ae <|Bx <|?_
  exact Jm ((ws (l':=[(4,.ref 0 0),(6,.bs true 1 (d.length) 0 (d.length)),(7,.bs true 2 (e.length) 0 (e.length))]) (O':=[.box (i64 0::C1 i64 (Arr.rep 16 0).l) false,.buf 32 (L Et d) false,.buf 1 (L LF e) false]) [0,1,2]).trans (ws [0,1,2]))
 rintro⟨a,b⟩;refine Jo (fun _=>⟨Ai 87 [(4,.ref 0 0)],[.box (i64 0::C1 i64 (Arr.rep 16 0).l) false]⟩) ?_ ?_
 ·intro aM aA;refine T0 [4,6,7,43,44] ?_;refine Sb ?_;refine Lo (fun c=>⟨Ai 87 [(4,.ref 0 0),(6,.bs true 1 (a.length) 0 (a.length)),(7,.bs true 2 (b.length) 0 (b.length)),(43,i64 (a.length:Int)),(44,i64 c)],[.box (i64 0::C1 i64 (Arr.rep 16 0).l) false,.buf 32 (L Et a) false,.buf 1 (L LF b) false]⟩) (ws [0,1,2]) ?_;rintro c aN aB q s;show FX a b c=some aB->_;unfold FX;refine T0 [4,6,7,43,44,45] ?_;refine Sq <|Cd ?_ ?_
  ·refine Sk <|Tn <|?_
   refine Jo (fun _=>⟨Ai 87 [(4,.ref 0 0),(6,.bs true 1 (a.length) 0 (a.length)),(7,.bs true 2 (b.length) 0 (b.length)),(43,i64 (a.length:Int)),(44,i64 c)],[.box (i64 0::C1 i64 (Arr.rep 16 0).l) false,.buf 32 (L Et a) false,.buf 1 (L LF b) false]⟩) ?_ ?_
   ·intro aO aC;refine Sb <|T0 [4,6,7,10,43,44] ?_
    refine T0 [4,6,7,10,11,43,44] ?_;refine Sb ?_;refine Lo (fun g=>⟨Ai 87 [(4,.ref 0 0),(6,.bs true 1 (a.length) 0 (a.length)),(7,.bs true 2 (b.length) 0 (b.length)),(10,i64 c),(11,i64 g),(43,i64 (a.length:Int)),(44,i64 c)],[.box (i64 0::C1 i64 (Arr.rep 16 0).l) false,.buf 32 (L Et a) false,.buf 1 (L LF b) false]⟩) (ws [0,1,2]) ?_;rintro g aP aD t u;show EL a b c g=some aD->_;unfold EL;refine Sq <|T0 [4,6,7,10,11,43,44,52] ?_
    refine Cd ?_ ?_
    ·refine Sk <|Tn <|Sq <|Sb <|Ck fun aE =>Ck fun aF =>Bd fun w aG =>De [[],[],[0,1],[0,1,2],[],[],[4,5],[4,5,6],[0,1,2,3,4,5,6,7],[0,1,2,3,4,5,6,7,8],[0,1,2,3,4,5,6,7,8,9],[0,1,2,3,4,5,6,7,8,9],[],[0,1,2,3,4,5,6,7,8,9,10,12],[0,1,2,3,4,5,6,7,8,9,10,11,12,13]] [4,6,7,10,11,12,13,43,44] (o1 64 (IU aG)) (Ew2 (qR aE) (qR aF)) ?_
     refine Tw [4,6,7,10,11,12,43,44,79] (fun x=>⟨Ai 87 [(4,.ref 0 0),(6,.bs true 1 (a.length) 0 (a.length)),(7,.bs true 2 (b.length) 0 (b.length)),(10,i64 c),(11,i64 g),(12,.ref 3 0),(43,i64 (a.length:Int)),(44,i64 c),(79,.bool x)],[.box (i64 0::C1 i64 (Arr.rep 16 0).l) false,.buf 32 (L Et a) false,.buf 1 (L LF b) false,.box (C1 i64 w.1.low.l++C1 i64 w.1.high.l) false]⟩) ?_ ?_
     ·intro _;refine Sp (fun i=>?_) fun i=>?_
      ·refine Ck fun y=>?_
       refine Sp (fun p=>?_) fun p=>?_
       ·refine Ck fun aH=>?_
        exact Lf Ab (Ew4 i (qR y) p (qR aH)) (ws [0,1,2,3])
       exact Lf Ab (Ew3 i (qR y) p) (ws [0,1,2,3])
      exact Lf Ab (Ew1 i) (ws [0,1,2,3])
     intro x;refine Cd ?_ ?_
     ·refine Bd fun aQ aI =>Te [2,3,4,5] (o1 84 (Tt aI)) Ev ?_
      exact Sr <|Br <|Tr <|Lr u t <|Br <|Br <|Jr aC <|Lr s q <|Br <|Jr aA <|Rr
     refine Sk <|Bn <|Tn <|F0 [4,6,7,10,11,43,44] ?_
     exact Ln (ws [0,1,2])
    refine Sx <|Tx <|Lx u t <|Bx <|Bn <|?_
    exact Jn ((ws (l':=[(4,.ref 0 0),(6,.bs true 1 (a.length) 0 (a.length)),(7,.bs true 2 (b.length) 0 (b.length)),(43,i64 (a.length:Int)),(44,i64 c)]) (O':=[.box (i64 0::C1 i64 (Arr.rep 16 0).l) false,.buf 32 (L Et a) false,.buf 1 (L LF b) false]) [0,1,2]).trans (ws [0,1,2]))
   intro _;refine F0 [4,6,7,43,44] ?_;exact Ln (ws [0,1,2])
  refine Sx <|Tx <|Lx s q <|Bx <|?_
  exact Jn ((ws (l':=[(4,.ref 0 0)]) (O':=[.box (i64 0::C1 i64 (Arr.rep 16 0).l) false]) [0]).trans (ws [0]))
 intro _;refine T0 [2,3,4,5] ?_;exact Sr <|Rr
theorem Qj{a r}(h:E1 a=some r):Con (B rs) 42 [.agg (Ad a)] [] (fun r' O'=>r'=i64 r/\O'=[]):=by
 refine Cw 34 [.tmp 2] Tryz.func42 (fun F hE=>?_) h;unfold E1;refine T0 [1] ?_;refine Jo (fun _=>⟨Ai 34 [(1,.ref 0 0)],[.box (Ad a) false]⟩) ?_ ?_
 ·intro y e;refine T0 [1,12,13,14] ?_;refine Sb ?_;refine Lo (fun b=>⟨Ai 34 [(1,.ref 0 0),(12,.sl false (L Aa a.Zf)),(13,i64 (a.Zf.length:Int)),(14,i64 b)],[.box (Ad a) false]⟩) (ws [0]) ?_;rintro b z f c d;show Hx a b=some f->_;unfold Hx;refine T0 [1,12,13,14,15] ?_;refine Sq <|Cd ?_ ?_
  ·refine Sk <|Tn <|Sq <|Sb <|Ck fun g =>Lt fun i j =>Lt fun k m =>Lt fun n o =>Lt fun p q =>Lt fun s t =>Lt fun u v =>Te (O':=[_,.box (.str i::.sl false (L Af k)::i64 n::i64 p::(C1 i64 s.l++[.sl false (L cApi_Expr u)])) false]) [1,4,12,13,14] Ab (Ev (by simp only[go_sem,qR g,j,m,o,q,t,v];exact C2)) ?_
   refine Bd fun aa w =>Te [1,6,12,13,14] (o1 20 (OG w)) Ev ?_
   refine T0 [1,12,13,14,24] ?_;refine Cd ?_ ?_
   ·refine T0 [2] ?_;exact Sr <|Br <|Tr <|Lr d c <|Br <|Jr e <|Rr
   refine Sk <|Bn <|Tn <|F0 [1,12,13,14] ?_
   exact Ln (ws [0])
  refine Sx <|Tx <|Lx d c <|Bx <|?_
  exact Jn ((ws (l':=[(1,.ref 0 0)]) (O':=[.box (Ad a) false]) [0]).trans (ws [0]))
 intro _;refine Sq <|Bd fun ab x =>Te [10] (o1 28 (NG x)) Ev ?_
 refine T0 [33] ?_;refine Cd ?_ ?_
 ·refine T0 [2] ?_;exact Sr <|Tr <|Rr
 refine Sk <|Tn <|T0 [2] ?_
 exact Sr <|Rr
variable {rs:AoO}
theorem Nf{a r}(h:Ht a=some r):Con (B rs) 119 [.sl false (L (Qo i64 4) a)] [] (fun r' O'=>r'=.tup [.agg (C1 i64 r.1.l),.bool r.2]/\O'=[]):=by
 refine Cw 14 [.cell 2 42,.tmp 3] Tryz.func119 (fun F hE=>?_) h;unfold Ht;refine T0 [0,2] ?_;refine Ck fun b =>Ck fun c =>Ck fun d =>?_
 intro h;refine TZ hE mixed [[],[0],[0,1],[],[3],[3,4],[],[6],[6,7],[3,4,5,6,7,8],[0,1,2],[0,1,2,3,4,5,6,7,8,9,10]] (by kernel_rfl) [(2,0)] [] [] [7,8,10,11] [2,3,7,8,10,11] (by kernel_rfl) (fr':=[(2,.ref 0 0),(3,.bool (nth a 0==nth a 1)),(7,.sl false (L (Qo i64 4) a)),(8,.rp (C1 i64 (nth a 0).l)),(10,.sl false (L (Qo i64 4) a)),(11,.rp (C1 i64 (nth a 1).l))]) (O':=[.box (C1 i64 (nth a 0).l) false]) ⟨rfl,trivial⟩ trivial ⟨rfl,rfl,rfl,rfl,trivial⟩ ⟨_,_,Ab,(by simp only[XOk]),?_⟩ ?_
 ·simp only[go_sem,qL b,qL c,qL d]
 revert h;exact Sr <|Rr
theorem MT{b r}(h:Hy b=some r):Con (B rs) 120 [.sl false (L (Qo i64 4) b)] [] (fun r' O'=>r'=.tup [.agg (C1 i64 r.1.l),.bool r.2]/\O'=[]):=by
 refine Cw 23 [.cell 2 42,.tmp 3] Tryz.func120 (fun F hE=>?_) h;unfold Hy;refine T0 [0,2] ?_;refine Vw [[],[0],[0,1],[],[3],[3,4],[],[6],[6,7],[3,4,5,6,7,8],[3,4,5,6,7,8,9],[3,4,5,6,7,8,9,10],[3,4,5,6,7,8,9,10,11],[3,4,5,6,7,8,9,10,11,12],[3,4,5,6,7,8,9,10],[3,4,5,6,7,8,9,10,14],[3,4,5,6,7,8,9,10,14,15],[3,4,5,6,7,8,9,10,11,12,13,14,15,16],[3,4,5,6,7,8,9,10,11,12,13,14,15,16,17],[0,1,2,3,4,5,6,7,8,9,10],[0,1,2,3,4,5,6,7,8,9,10,11,12,13,14,15,16,17,18,19]] [2,3,14,15,16,18,19] [] [] [] [15,16,18,19] 14 (fun c=>⟨Ai 23 [(2,.ref 0 0),(3,.bool c)],[.box (C1 i64 (nth b 2).l) false]⟩) ?_ ?_
 ·intro _;refine Ck fun d =>Ck fun e =>Ck fun f =>?_
  refine Sp (fun a=>?_) fun a=>?_
  ·refine Ck fun g =>Ck fun i =>?_
   exact Lv Ab (by simp only[XOk]) (Ev (by simp only[go_sem,qL d,qL e,qL f,a,qL g,qL i];exact C2)) (by exact fun _=>⟨trivial,trivial,⟨rfl,rfl,rfl,rfl,trivial⟩⟩) (ws [0])
  exact Lv Ab (by simp only[XOk]) (Ew4 (qL d) (qL e) (qL f) a) (by exact fun h=>absurd (AV.bool.inj h) (by first|exact a|simp[a])) (ws [0])
 intro c;exact Sr <|Rr
theorem MA{a b r}(h:Gk a b=some r):Con (B rs) 165 [.sl false (L (Qo i64 4) a),.rp [i64 b]] [] (fun r' O'=>r'=.tup [.agg (C1 i64 r.1.l),.bool r.2]/\O'=[]):=by
 refine Co 0 37 [.cell 3 42,.tmp 4] Tryz.func165 (fun F hE=>?_) h;unfold Gk;refine T0 [0,1,3] ?_;refine Jo (fun d=>⟨Ai 37 [(3,.ref 0 0)],[.box (C1 i64 d.l) false]⟩) ?_ ?_
 ·intro aa n;refine T0 [0,1,3,6] ?_;refine Sb ?_;refine Lo (fun(v:Int×Arr Int 4)=>(⟨Ai 37 [(0,.sl false (L (Qo i64 4) a)),(1,.rp [i64 b]),(3,.ref 0 0),(6,i64 v.1)],[.box (C1 i64 v.2.l) false]⟩:St)) (ws [0]) ?_;rintro⟨e,f⟩ ab o g i;show FF a b e f=some o->_;unfold FF;refine T0 [0,1,3,6,7] ?_;refine Sq <|Cd ?_ ?_
  ·refine Sk <|Tn <|Sq <|Sb <|T0 [0,1,3,5,6] ?_
   refine Ck fun p =>Ck fun q =>Ck fun s =>Ck fun t =>Ck fun u =>Lt fun j w =>De (O':=[.box (C1 i64 j.l) false]) [[],[],[],[1],[1,2,3],[1,2,3,4],[],[],[],[7],[7,8,9],[7,8,9,10],[6,7,8,9,10,11],[1,2,3,4,5,6,7,8,9,10,11,12],[0,1,2,3,4,5,6,7,8,9,10,11,12,13],[0,1,2,3,4,5,6,7,8,9,10,11,12,13,14]] [0,1,3,5,6] Ab (Ev (by simp only[go_sem,qL p,qR q,qL s,qR t,qR u,w];exact C2)) ?_
   refine Tw [0,1,3,6,33] (fun k=>⟨Ai 37 [(0,.sl false (L (Qo i64 4) a)),(1,.rp [i64 b]),(3,.ref 0 0),(6,i64 e),(33,.bool k)],[.box (C1 i64 j.l) false]⟩) ?_ ?_
   ·intro _;refine Ck fun m=>?_
    refine Sp (fun c=>?_) fun c=>?_
    ·exact Lf Ab (Ew2 (qR m) c) (ws [0])
    refine Ck fun x=>?_
    exact Lf Ab (Ew3 (qR m) c (qR x)) (ws [0])
   intro k;refine Cd ?_ ?_
   ·refine Lt fun y z =>Te (O':=[.box (C1 i64 y.l) false]) [3,4] Ab (Ev (by simp only[go_sem,Im,IB,GA,z];exact C2)) ?_
    exact Sr <|Br <|Tr <|Lr i g <|Br <|Jr n <|Ro []
   refine Sk <|Bn <|Tn <|F0 [0,1,3,6] ?_
   exact Ln (ws [0])
  refine Sx <|Tx <|Lx i g <|Bx <|?_
  exact Jn ((ws (l':=[(3,.ref 0 0)]) (O':=[.box (C1 i64 f.l) false]) [0]).trans (ws [0]))
 intro d;refine T0 [3,4] ?_;exact Sr <|Ro []
theorem Gn{a r}(h:G9 a=some r):Con (B rs) 121 [i64 a] [] (fun r' O'=>r'=.agg [.fn 165 [.rp [i64 r]]]/\O'=[]):=by
 refine Co 0 5 [.cell 2 201] Tryz.func121 (fun F hE=>?_) h;unfold G9;refine T0 [1,2] ?_;refine T0 [2] ?_;refine Sr ?_;refine Wp ((VC 1 0 (cs':=[.fn 165 [.rp [i64 a]]]) (O':=[.box [i64 a] true,.box [.fn 165 [.rp [i64 a]]] false]) rfl (by decide) (by simp only[go_sem,ApT,reduceIte]) (by rfl)).trans (Weak.refl _ _)) ?_;exact Po []
theorem OE{r}(h:ttype_rules  = some r):Con (B rs) 79 [] [] (fun r' O'=>r'=.mref 0/\O'=[.mp false (MI Ef r)]):=by
 refine Co 0 16 [.tmp 0] Tryz.func79 (fun F hE=>?_) h;unfold ttype_rules;refine T0 [] ?_;refine T0 [1] ?_;refine T0 [1,2] ?_;refine Bd fun g a =>Bd fun i b =>Bd fun j c =>Bd fun k d =>Lt fun e f =>De (O':=[_,_,.mp false (MI Ef e)]) [[],[],[0,1],[],[0,3],[],[0,5],[],[0,7],[],[0,9],[9],[0,9,11],[9,11],[0,9,11,13],[9,11,13],[0,9,11,13,15],[],[0,17],[0,1,2,3,4,5,6,7,8,9,10,11,12,13,14,15,16,17,18],[0,1,2,3,4,5,6,7,8,9,10,11,12,13,14,15,16,17,18,19]] [0] (OM (l:=[(10,_,_,_),(11,_,_,_),(12,_,_,_),(13,_,_,_)]) ⟨Gn  a,Gn  b,Gn  c,Gn  d,trivial⟩) (Ew1 f) ?_
 exact Sr <|Ro [2]
theorem KO{r}(h:ttype_attributes  = some r):Con (B rs) 122 [] [] (fun r' O'=>r'=.agg (C1 i64 r.1.l++(C1 i64 r.2.1.l++(C1 i64 r.2.2.1.l++(C1 i64 r.2.2.2.1.l++(C1 i64 r.2.2.2.2.1.l++(C1 i64 r.2.2.2.2.2.1.l++(C1 i64 r.2.2.2.2.2.2.1.l++(C1 i64 r.2.2.2.2.2.2.2.1.l++(C1 i64 r.2.2.2.2.2.2.2.2.1.l++(C1 i64 r.2.2.2.2.2.2.2.2.2.1.l++(C1 i64 r.2.2.2.2.2.2.2.2.2.2.1.l++(C1 i64 r.2.2.2.2.2.2.2.2.2.2.2.1.l++(C1 i64 r.2.2.2.2.2.2.2.2.2.2.2.2.1.l++(C1 i64 r.2.2.2.2.2.2.2.2.2.2.2.2.2.1.l++(C1 i64 r.2.2.2.2.2.2.2.2.2.2.2.2.2.2.1.l++C1 i64 r.2.2.2.2.2.2.2.2.2.2.2.2.2.2.2.l)))))))))))))))/\O'=[]):=by
 refine Cw 8 [.cell 0 203] Tryz.func122 (fun F hE=>?_) h;unfold ttype_attributes;refine T0 [0] ?_;refine Lt fun c d =>Lt fun e f =>Lt fun a g =>Lt fun b i =>Te (O':=[.box (C1 i64 (Arr.rep 4 0).l++(C1 i64 (Arr.rep 4 0).l++(C1 i64 (Arr.rep 4 0).l++(C1 i64 (Arr.rep 4 0).l++(C1 i64 (Arr.rep 4 0).l++(C1 i64 c.l++(C1 i64 e.l++(C1 i64 a.l++(C1 i64 a.l++(C1 i64 (Arr.rep 4 0).l++(C1 i64 b.l++(C1 i64 b.l++(C1 i64 (Arr.rep 4 0).l++(C1 i64 (Arr.rep 4 0).l++(C1 i64 (Arr.rep 4 0).l++C1 i64 (Arr.rep 4 0).l))))))))))))))) false]) [0] Ab (Ev (by simp only[go_sem,Im,IB,GA,Im,IB,GA,Im,IB,GA,Im,IB,GA,Im,IB,GA,Im,IB,GA,d,f,g,i];exact C2)) ?_
 exact Sr <|Rr
theorem NC{rec_:Jp->AoT->Option (Arr Int 4×Bool)}(hrec:∀{a:Jp} {b:AoT} {r:Arr Int 4×Bool},rec_ a b=some r->Con (B rs) 80 [.mref 0,.agg (xE b)] [.mp false (MI Ef a)] (fun r' O'=>r'=.tup [.agg (C1 i64 r.1.l),.bool r.2]/\O'=[.mp false (MI Ef a)])){a:Jp}{b:AoT}{r:Arr Int 4×Bool}(h:Hc rec_ a b=some r):Con (B rs) 80 [.mref 0,.agg (xE b)] [.mp false (MI Ef a)] (fun r' O'=>r'=.tup [.agg (C1 i64 r.1.l),.bool r.2]/\O'=[.mp false (MI Ef a)]):=by
 refine HU (N:=58) (rs:=[.cell 4 42,.tmp 5]) 1 rfl ok Tryz.func80 rfl (by decide +kernel) rfl rfl (Apq rfl) (fun F=>?_);have hE:=(ok (rs:=rs)).env F;unfold Hc at h;show Run ((B rs).env F) 1 _ ⟨Ai 58 [(0,.mref 0),(1,.agg (xE b))],[.mp false (MI Ef a)]⟩ _;refine BM ?_;revert h;refine T0 [0,3,4] ?_;refine Sq <|T0 [0,3,4,12] ?_
 refine Sb <|T0 [0,3,4,12,13] ?_
 refine Cd ?_ ?_
 ·refine T0 [4,5] ?_;exact Sr <|Br <|Tr <|Ro [0]
 refine T0 [0,3,4,17] ?_;refine Cd ?_ ?_
 ·refine Bd fun aw q =>Ck fun s =>Lt fun t u =>De (O':=[_,_,.box (C1 i64 t.l) false]) [[],[],[1],[0,1,2],[0,1,2,3],[0,1,2,3,4]] [4,5] (o1 19 (KO q)) (Ew2 (qR s) u) ?_
  exact Sr <|Br <|Tr <|Ro [0]
 refine Sk <|Bn <|Tn <|T0 [0,3,4,6] ?_
 refine Jo (fun c=>⟨Ai 58 [(0,.mref 0),(3,.ref 1 0),(4,.ref 2 0),(6,.bs false 3 (c.length) 0 (c.length))],[.mp false (MI Ef a),.box (xE b) false,.box (C1 i64 (Arr.rep 4 0).l) false,.buf 4 (L (Qo i64 4) c) false]⟩) ?_ ?_
 ·intro ax w;refine T0 [0,3,4,6,24,25,26] ?_;refine Sb ?_;refine Lo (fun(v:Int×List (Arr Int 4))=>(⟨Ai 58 [(0,.mref 0),(3,.ref 1 0),(4,.ref 2 0),(6,.bs false 3 (v.2.length) 0 (v.2.length)),(24,.sl false (L cApi_Expr b.L)),(25,i64 (b.L.length:Int)),(26,i64 v.1)],[.mp false (MI Ef a),.box (xE b) false,.box (C1 i64 (Arr.rep 4 0).l) false,.buf 4 (L (Qo i64 4) v.2) false]⟩:St)) ((Md 6 4 rfl).trans (ws [0,1,2,3])) ?_;rintro⟨z,d⟩ ay aa o p;show Hs a b rec_ z d=some aa->_;unfold Hs;refine T0 [0,3,4,6,24,25,26,27] ?_;refine Sq <|Cd ?_ ?_
  ·refine Sk <|Tn <|Sq <|Sb <|Ck fun ab =>Lt fun e ac =>Lt fun f ad =>Lt fun g ae =>Lt fun i af =>Te (O':=[_,_,_,_,.box (i64 e::i64 f::(C1 i64 g.l++[.sl false (L cApi_Expr i)])) false]) [0,3,4,6,8,24,25,26] Ab (Ew5 (qR ab) ac ad ae af) ?_
   refine Bd fun az ag =>Te [0,3,4,6,9,10,24,25,26] (Ag (l:=[]) (m:=[(33,80,[.mref 0,.agg (i64 e::i64 f::(C1 i64 g.l++[.sl false (L cApi_Expr i)]))],[.mp false (MI Ef a),.box (xE b) false,.box (C1 i64 (Arr.rep 4 0).l) false,.buf 4 (L (Qo i64 4) d) false,.box (i64 e::i64 f::(C1 i64 g.l++[.sl false (L cApi_Expr i)])) false],_,_)]) trivial ⟨(wc (hrec ag) [0]),trivial⟩) Ev ?_
   refine Sq <|T0 [0,3,4,6,9,24,25,26,37] ?_
   refine Cd ?_ ?_
   ·refine Lt fun ah ai =>Te (O':=[_,_,.box (C1 i64 ah.l) false,_,_,_]) [4,5] Ab (Ev (by simp only[go_sem,Im,IB,GA,ai];exact C2)) ?_
    exact Sr <|Tr <|Br <|Tr <|Lr p o <|Br <|Jr w <|Ro [0]
   refine Sk <|Tn <|Ck fun aj =>Lt fun j ak =>Fe (fr':=[(0,_),(3,_),(4,_),(6,.bs false 3 (j.length) 0 (j.length)),(24,_),(25,_),(26,_)]) (O':=[_,_,_,.buf 4 (L (Qo i64 4) j) false,_,_,_]) [0,3,4,6,24,25,26] Ab (Ew2 aj ak) ?_
   refine Bn <|Tn <|F0 [0,3,4,6,24,25,26] ?_
   exact Ln (ws [0,1,2,3])
  refine Sx <|Tx <|Lx p o <|Bx <|?_
  exact Jn ((ws (l':=[(0,.mref 0),(3,.ref 1 0),(4,.ref 2 0),(6,.bs false 3 (d.length) 0 (d.length))]) (O':=[.mp false (MI Ef a),.box (xE b) false,.box (C1 i64 (Arr.rep 4 0).l) false,.buf 4 (L (Qo i64 4) d) false]) [0,1,2,3]).trans (ws [0,1,2,3]))
 intro c;refine Sq ?_;by_cases hmf119:((a b.Op).getD ⟨0,0⟩).k=119
 ·refine Ip hmf119 ?_;refine Bd fun aA al =>Te [4,5] (o1 51 (Nf al)) (Ew1 (K2 hmf119)) ?_
  refine Te [4,55] Ab (Ew1 (K2 hmf119)) ?_;refine Cd ?_ ?_
  ·refine Lt fun am an =>Te (O':=[_,_,.box (C1 i64 am.l) false,_]) [4,5] Ab (Ev (by simp only[go_sem,K2 hmf119,Im,IB,GA,an];exact C2)) ?_
   exact Sr <|Tr <|Ro [0]
  refine Sk <|Tn <|Te [4,5] Ab (Ew1 (K2 hmf119)) ?_
  exact Sr <|Ro [0]
 refine In hmf119 ?_;by_cases hmf120:((a b.Op).getD ⟨0,0⟩).k=120
 ·refine Ip hmf120 ?_;refine Bd fun aB ao =>Te [4,5] (o1 51 (MT ao)) (Ew1 (K0 hmf120)) ?_
  refine Te [4,55] Ab (Ew1 (K0 hmf120)) ?_;refine Cd ?_ ?_
  ·refine Lt fun ap aq =>Te (O':=[_,_,.box (C1 i64 ap.l) false,_]) [4,5] Ab (Ev (by simp only[go_sem,K0 hmf120,Im,IB,GA,aq];exact C2)) ?_
   exact Sr <|Tr <|Ro [0]
  refine Sk <|Tn <|Te [4,5] Ab (Ew1 (K0 hmf120)) ?_
  exact Sr <|Ro [0]
 refine In hmf120 ?_;by_cases hmf165:((a b.Op).getD ⟨0,0⟩).k=165
 ·refine Ip hmf165 ?_;refine Rw (Py 6 (x:=.bs false 3 (c.length) 0 (c.length)) (y:=.sl false (L (Qo i64 4) c)) (O':=[.mp false (MI Ef a),.box (xE b) false,.box (C1 i64 (Arr.rep 4 0).l) false,.buf 4 (L (Qo i64 4) c) true]) rfl gs rfl) ?_;refine Bd fun aC ar =>Te [4,5] (Ag (l:=[]) (m:=[(51,165,[.sl false (L (Qo i64 4) c),.rp [i64 (((a b.Op).getD ⟨0,0⟩).n)]],[.mp false (MI Ef a),.box (xE b) false,.box (C1 i64 (Arr.rep 4 0).l) false,.buf 4 (L (Qo i64 4) c) true],_,_)]) trivial ⟨(wc (MA ar) []),trivial⟩) (Ew1 (K5 hmf165)) ?_
  refine Te [4,55] Ab (Ew1 (K5 hmf165)) ?_;refine Cd ?_ ?_
  ·refine Lt fun au av =>Te (O':=[_,_,.box (C1 i64 au.l) false,_]) [4,5] Ab (Ev (by simp only[go_sem,K5 hmf165,Im,IB,GA,av];exact C2)) ?_
   exact Sr <|Tr <|Ro [0]
  refine Sk <|Tn <|Te [4,5] Ab (Ew1 (K5 hmf165)) ?_
  exact Sr <|Ro [0]
 refine In hmf165 ?_;intro h;cases h
theorem NZ(n:Nat):∀{a:Jp} {b:AoT} {r:Arr Int 4×Bool},GU n a b=some r->Con (B rs) 80 [.mref 0,.agg (xE b)] [.mp false (MI Ef a)] (fun r' O'=>r'=.tup [.agg (C1 i64 r.1.l),.bool r.2]/\O'=[.mp false (MI Ef a)]):=by
 induction n with
 |zero=>intro a b r h;cases h
 |succ n ih=>intro a b r h;exact NC ih h
theorem Qg{a:Jp}{b:AoT}{r:Arr Int 4×Bool}(h:QM a b=some r):Con (B rs) 80 [.mref 0,.agg (xE b)] [.mp false (MI Ef a)] (fun r' O'=>r'=.tup [.agg (C1 i64 r.1.l),.bool r.2]/\O'=[.mp false (MI Ef a)]):=NZ _ h
variable {rs:AoO}
theorem O8{a r}(h:H8 a=some r):Con (B rs) 40 [.agg (Ad a)] [] (fun r' O'=>r'=.tup [i64 r.1,i64 r.2]/\O'=[]):=by
 refine Cw 39 [.tmp 2,.tmp 3] Tryz.func40 (fun F hE=>?_) h;unfold H8;refine T0 [1] ?_;refine Sq <|Bd fun ad q =>Te [1,3] (o1 10 (Hm q)) Ev ?_
 refine T0 [1,3,12] ?_;refine Cd ?_ ?_
 ·refine T0 [2,3] ?_;exact Sr <|Tr <|Rr
 refine Sk <|Tn <|Bd fun c s =>Te [1,4] (Ag (l:=[]) (m:=[(14,79,[],[.box (Ad a) false],_,_)]) trivial ⟨(wc (OE s) []),trivial⟩) Ev ?_
 refine Jo (fun _=>⟨Ai 39 [],[]⟩) ?_ ?_
 ·intro ae t;refine T0 [4,16,17,18] ?_;refine Sb ?_;refine Lo (fun b=>⟨Ai 39 [(4,.mref 0),(16,.sl false (L Aa a.Zf)),(17,i64 (a.Zf.length:Int)),(18,i64 b)],[.mp false (MI Ef c)]⟩) (ws [1]) ?_;rintro b af u j k;show GK a c b=some u->_;unfold GK;refine T0 [4,16,17,18,19] ?_;refine Sq <|Cd ?_ ?_
  ·refine Sk <|Tn <|Sq <|Sb <|Ck fun v =>Lt fun n w =>Lt fun o x =>Lt fun d y =>Lt fun e z =>Lt fun f aa =>Lt fun g ab =>Te (O':=[_,.box (.str n::.sl false (L Af o)::i64 d::i64 e::(C1 i64 f.l++[.sl false (L cApi_Expr g)])) false]) [4,5,6,16,17,18] Ab (Ev (by simp only[go_sem,qR v,w,x,y,z,aa,ab];exact C2)) ?_
   refine Bd fun ag ac =>Te [4,5,7,8,16,17,18] (Ag (l:=[]) (m:=[(27,80,[.mref 0,.agg (i64 d::i64 e::(C1 i64 f.l++[.sl false (L cApi_Expr g)]))],[.mp false (MI Ef c),.box (.str n::.sl false (L Af o)::i64 d::i64 e::(C1 i64 f.l++[.sl false (L cApi_Expr g)])) false],_,_)]) trivial ⟨(wc (Qg ac) [0]),trivial⟩) Ev ?_
   refine Tw [4,5,16,17,18,36] (fun p=>⟨Ai 39 [(4,.mref 0),(5,i64 b),(16,.sl false (L Aa a.Zf)),(17,i64 (a.Zf.length:Int)),(18,i64 b),(36,.bool p)],[.mp false (MI Ef c)]⟩) ?_ ?_
   ·intro _;refine Sp (fun i=>?_) fun i=>?_
    ·exact Lf Ab (Ew1 i) (ws [0])
    exact Lf Ab (Ev (by simp only[go_sem,i,Im,IB,GA];exact C2)) (ws [0])
   intro p;refine Cd ?_ ?_
   ·refine T0 [2,3] ?_;exact Sr <|Br <|Tr <|Lr k j <|Br <|Jr t <|Rr
   refine Sk <|Bn <|Tn <|F0 [4,16,17,18] ?_
   exact Ln (ws [0])
  refine Sx <|Tx <|Lx k j <|Bx <|?_
  exact Jn ((ws (l':=[]) (O':=[]) []).trans (ws []))
 intro _;refine T0 [2,3] ?_;exact Sr <|Rr
theorem C0{e a b r}(h:Av e a b=some r):Con (B rs) 117 [.bs false 0 (e.length) 0 (e.length),i64 a,i64 b,.fn 33 []] [.buf 21 (L Ae e) false] (fun r' O'=>r'=.tup []/\O'=[.buf 21 (L Ae r) false]):=by
 refine Co 1 53 [] Tryz.func117 (fun F hE=>?_) h;unfold Av;refine T0 [0,1,2,3,8] ?_;refine Sb ?_;refine Lo (fun(v:Int×List Ao0)=>(⟨Ai 53 [(0,.bs false 0 (v.2.length) 0 (v.2.length)),(1,i64 a),(2,i64 b),(3,.fn 33 []),(8,i64 v.1)],[.buf 21 (L Ae v.2) false]⟩:St)) (ws [0]) ?_;rintro⟨d,l⟩ ac m n o;show AO a b d l=some m->_;unfold AO;refine Sq <|T0 [0,1,2,3,8,14] ?_
 refine Cd ?_ ?_
 ·refine Sk <|Tn <|?_
  refine Ja (fun f=>⟨Ai 53 [(0,.bs false 0 (f.length) 0 (f.length)),(1,i64 a),(2,i64 b),(3,.fn 33 []),(8,i64 d)],[.buf 21 (L Ae f) false]⟩) ?_ ?_
  ·intro ad;refine Sb <|T0 [0,1,2,3,8,9] ?_
   refine Sb ?_;refine Lo (fun(v:Int×List Ao0)=>(⟨Ai 53 [(0,.bs false 0 (v.2.length) 0 (v.2.length)),(1,i64 a),(2,i64 b),(3,.fn 33 []),(8,i64 d),(9,i64 v.1)],[.buf 21 (L Ae v.2) false]⟩:St)) (ws [0]) ?_;rintro⟨j,c⟩ ae p q s;show Az a j c=some p->_;unfold Az;refine Sq ?_;refine Dw [[],[],[0,1],[0,1,2],[0,1,2,3],[0,1,2,3],[0,1,2,3],[0,1,2,3,5,6],[0,1,2,3,5,6,7],[0,1,2,3],[0,1,2,3],[0,1,2,3,10],[0,1,2,3,9,10,11],[0,1,2,3,9,10,11,12],[0,1,2,3,4,5,6,7,8,9,10,11,12,13],[0,1,2,3,4,5,6,7,8,9,10,11,12,13,14],[0,1,2,3,4,5,6,7,8,9,10,11,12,13,14,15]] [0,1,2,3,8,9,34] (fun k=>⟨Ai 53 [(0,.bs false 0 (c.length) 0 (c.length)),(1,i64 a),(2,i64 b),(3,.fn 33 []),(8,i64 d),(9,i64 j),(34,.bool k)],[.buf 21 (L Ae c) false]⟩) ?_ ?_
   ·intro _;refine Sp (fun g=>?_) fun g=>?_
    ·refine Ck fun t =>Ck fun u =>Bd fun af w =>?_
     exact Lf (o1 32 (Jv w)) (Ew3 g (qR t) (qR u)) (ws [0])
    exact Lf Ab (Ew1 g) (ws [0])
   intro k;refine Cd ?_ ?_
   ·refine Sk <|Tn <|Sq <|Sb <|Ck fun x =>Ck fun y =>Ck fun z =>Ck fun aa =>Lt fun i ab =>Ge (fr':=[(0,.bs false 0 (i.length) 0 (i.length)),(1,_),(2,_),(3,_),(8,_),(9,_)]) (O':=[.buf 21 (L Ae i) false]) [[],[],[],[],[3],[],[],[6],[5,6,7],[5,6,7,8],[],[],[10,11],[10,11,12],[0,1,5,6,7,8,9,10,11,12,13],[0,1,5,6,7,8,9,10,11,12,13,14],[0,1,2,3,4,5,6,7,8,9,10,11,12,13,14,15],[0,1,2,3,4,5,6,7,8,9,10,11,12,13,14,15,16]] [0,1,2,3,8,9] Ab (Ew5 (qR x) (qR y) (qR z) (qR aa) ab) ?_
    refine Bn <|Tn <|F0 [0,1,2,3,8,9] ?_
    exact Ln (ws [0])
   refine Sx <|Tx <|Ly s q <|Bx <|Bn <|?_
   exact Jm ((ws (l':=[(0,.bs false 0 (c.length) 0 (c.length)),(1,i64 a),(2,i64 b),(3,.fn 33 []),(8,i64 d)]) (O':=[.buf 21 (L Ae c) false]) [0]).trans (ws [0]))
  intro f;refine F0 [0,1,2,3,8] ?_;exact Ln (ws [0])
 exact Sx <|Tx <|Ly o n <|Bx <|Ro [0]
theorem FS{f b r}(h:BC f b=some r):Con (B rs) 77 [.bs false 0 (f.length) 0 (f.length),i64 b,.fn 33 []] [.buf 21 (L Ae f) false] (fun r' O'=>r'=.tup []/\O'=[.buf 21 (L Ae r) false]):=by
 refine Co 1 63 [] Tryz.func77 (fun F hE=>?_) h;unfold BC;refine T0 [0,1,2,6] ?_;refine T0 [0,1,2,6,7,8] ?_;refine Ja (fun(v:Int×List Ao0)=>(⟨Ai 63 [(0,.bs false 0 (v.2.length) 0 (v.2.length)),(1,i64 b),(2,.fn 33 []),(6,i64 20),(7,i64 v.1)],[.buf 21 (L Ae v.2) false]⟩:St)) ?_ ?_
 ·intro ab;refine Sb ?_;refine Lo (fun⟨e,g,c⟩=>⟨Ai 63 [(0,.bs false 0 (c.length) 0 (c.length)),(1,i64 b),(2,.fn 33 []),(6,i64 20),(7,i64 e),(8,i64 g)],[.buf 21 (L Ae c) false]⟩) (ws [0]) ?_;rintro⟨e,g,c⟩ ac j k n;show AE b e g c=some j->_;unfold AE;refine Sq <|T0 [0,1,2,6,7,8,13] ?_
  refine Cd ?_ ?_
  ·refine Sk <|Tn <|Sb <|Bd fun ad o =>Ck fun p =>Te [0,1,2,6,8] (Ag (l:=[]) (m:=[(18,117,[.bs false 0 (c.length) 0 (c.length),i64 e,i64 g,.fn 33 []],[.buf 21 (L Ae c) false],_,_)]) trivial ⟨(wc (C0 o) [0]),trivial⟩) (Ew1 p) ?_
   refine T0 [0,1,2,6,7,8] ?_;refine F0 [0,1,2,6,7,8] ?_;exact Bn <|Ln (ws [0])
  refine Sx <|Tx <|Ly n k <|Bx <|?_
  exact Jm ((ws (l':=[(0,.bs false 0 (c.length) 0 (c.length)),(1,i64 b),(2,.fn 33 []),(6,i64 20),(7,i64 e)]) (O':=[.buf 21 (L Ae c) false]) [0]).trans (ws [0]))
 rintro⟨q,i⟩;refine Bd fun a s =>Ck fun t =>Te [0,1,2,6] (Ag (l:=[]) (m:=[(27,117,[.bs false 0 (i.length) 0 (i.length),i64 q,i64 b,.fn 33 []],[.buf 21 (L Ae i) false],_,_)]) trivial ⟨(wc (C0 s) [0]),trivial⟩) (Ew1 t) ?_
 refine Sb ?_;refine Lo (fun d=>⟨Ai 63 [(0,.bs false 0 (a.length) 0 (a.length)),(1,i64 b),(2,.fn 33 []),(6,i64 d)],[.buf 21 (L Ae a) false]⟩) (ws [0]) ?_;rintro d ae u w x;show AD b d=some u->_;unfold AD;refine Sq <|T0 [0,1,2,6,30] ?_
 refine Cd ?_ ?_
 ·refine Sk <|Tn <|Sb <|T0 [0,1,2,6,7,8] ?_
  refine Ja (fun _=>⟨Ai 63 [(0,.bs false 0 (a.length) 0 (a.length)),(1,i64 b),(2,.fn 33 []),(6,i64 d),(7,i64 0)],[.buf 21 (L Ae a) false]⟩) ?_ ?_
  ·intro af;refine Sb ?_;refine Lo (fun _=>⟨Ai 63 [(0,.bs false 0 (a.length) 0 (a.length)),(1,i64 b),(2,.fn 33 []),(6,i64 d),(7,i64 0),(8,i64 (w64 (2*d)))],[.buf 21 (L Ae a) false]⟩) (ws [0]) ?_;rintro⟨⟩ ag y z aa;show Cg b d  = some y->_;unfold Cg;refine Sq <|T0 [0,1,2,6,7,8,35] ?_
   refine Cd ?_ ?_
   ·exact Sk <|Tn <|Sb <|Rn
   refine Sx <|Tx <|Ly aa z <|Bx <|?_
   exact Jm ((ws (l':=[(0,.bs false 0 (a.length) 0 (a.length)),(1,i64 b),(2,.fn 33 []),(6,i64 d),(7,i64 0)]) (O':=[.buf 21 (L Ae a) false]) [0]).trans (ws [0]))
  intro _;refine Ja (fun _=>⟨Ai 63 [(0,.bs false 0 (a.length) 0 (a.length)),(1,i64 b),(2,.fn 33 []),(6,i64 d)],[.buf 21 (L Ae a) false]⟩) ?_ ?_
  ·intro ah;refine T0 [0,1,2,6,7,9] ?_;refine T0 [0,1,2,6,7,9,54] ?_;refine Cd ?_ ?_
   ·exact Rn
   exact Sk <|Jm (ws [0])
  intro _;refine F0 [0,1,2,6] ?_;exact Bn <|Ln (ws [0])
 exact Sx <|Tx <|Ly x w <|Bx <|Ro [0]
theorem FK{a r}(h:Bb a=some r):Con (B rs) 32 [.bs false 0 (a.length) 0 (a.length),.fn 33 []] [.buf 21 (L Ae a) false] (fun r' O'=>r'=.tup []/\O'=[.buf 21 (L Ae r) false]):=by
 refine Co 1 9 [] Tryz.func32 (fun F hE=>?_) h;unfold Bb;refine Bd fun d b =>Ck fun c =>Fe [] (Ag (l:=[]) (m:=[(8,77,[.bs false 0 (a.length) 0 (a.length),i64 (a.length:Int),.fn 33 []],[.buf 21 (L Ae a) false],_,_)]) trivial ⟨(wc (FS b) [0]),trivial⟩) (Ew1 c) ?_
 exact Ro [0]
theorem Kb{a c d r}(h:DR a c d=some r):Con (B rs) 15 [.sl false (L Ae a),i64 c,i64 d] [] (fun r' O'=>r'=.sl false (L Ae r)/\O'=[]):=by
 refine Cw 49 [.tmp 6] Tryz.func15 (fun F hE=>?_) h;unfold DR;refine T0 [0,1,2,6] ?_;refine Ja (fun e=>⟨Ai 49 [(6,.bs false 0 (e.length) 0 (e.length))],[.buf 21 (L Ae e) false]⟩) ?_ ?_
 ·intro aS;refine T0 [1,2,6,10,11,12] ?_;refine Sb ?_;refine Lo (fun(v:Int×List Ao0)=>(⟨Ai 49 [(1,i64 c),(2,i64 d),(6,.bs false 0 (v.2.length) 0 (v.2.length)),(10,.sl false (L Ae a)),(11,i64 (a.length:Int)),(12,i64 v.1)],[.buf 21 (L Ae v.2) false]⟩:St)) ((Md 6 21 rfl).trans (ws [0])) ?_;rintro⟨f,b⟩ aT an ao ap;show Cn a c d f b=some an->_;unfold Cn;refine T0 [1,2,6,10,11,12,13] ?_;refine Sq <|Cd ?_ ?_
  ·refine Sk <|Tn <|?_
   refine Ja (fun g=>⟨Ai 49 [(1,i64 c),(2,i64 d),(6,.bs false 0 (g.length) 0 (g.length)),(10,.sl false (L Ae a)),(11,i64 (a.length:Int)),(12,i64 f)],[.buf 21 (L Ae g) false]⟩) ?_ ?_
   ·intro aU;refine Sb <|Ck fun aq =>Lt fun j ar =>Lt fun k au =>Lt fun n av =>Lt fun o aw =>Lt fun p ax =>Lt fun q ay =>Lt fun s az =>Lt fun t aA =>Lt fun u aB =>Lt fun w aC =>Lt fun x aD =>Lt fun y aE =>Lt fun z aF =>Lt fun aa aG =>Lt fun ab aH =>Lt fun ac aI =>Lt fun ad aJ =>Lt fun ae aK =>Lt fun af aL =>Lt fun ag aM =>Lt fun ah aN =>Te (O':=[_,.box [i64 j,i64 k,i64 n,i64 o,i64 p,i64 q,i64 s,i64 t,i64 u,i64 w,i64 x,i64 y,i64 z,i64 aa,i64 ab,i64 ac,i64 ad,i64 ae,i64 af,.str ag,.sl false (L Dm ah)] false]) [1,2,6,8,10,11,12] Ab (Ev (by simp only[go_sem,qR aq,ar,au,av,aw,ax,ay,az,aA,aB,aC,aD,aE,aF,aG,aH,aI,aJ,aK,aL,aM,aN];exact C2)) ?_
    refine Sq ?_;refine Tw [1,2,6,8,10,11,12,27] (fun al=>⟨Ai 49 [(1,i64 c),(2,i64 d),(6,.bs false 0 (b.length) 0 (b.length)),(8,.ref 1 0),(10,.sl false (L Ae a)),(11,i64 (a.length:Int)),(12,i64 f),(27,.bool al)],[.buf 21 (L Ae b) false,.box [i64 j,i64 k,i64 n,i64 o,i64 p,i64 q,i64 s,i64 t,i64 u,i64 w,i64 x,i64 y,i64 z,i64 aa,i64 ab,i64 ac,i64 ad,i64 ae,i64 af,.str ag,.sl false (L Dm ah)] false]⟩) ?_ ?_
    ·intro _;refine Sp (fun ai=>?_) fun ai=>?_
     ·exact Lf Ab (Ew1 ai) (ws [0,1])
     exact Lf Ab (Ew1 ai) (ws [0,1])
    intro al;refine Cd ?_ ?_
    ·exact Sx <|Tx <|Bx <|Jm (ws [0])
    refine Sk <|Tn <|T0 [1,2,6,8,9,10,11,12] ?_
    refine Tw [1,2,6,8,10,11,12,40] (fun am=>⟨Ai 49 [(1,i64 c),(2,i64 d),(6,.bs false 0 (b.length) 0 (b.length)),(8,.ref 1 0),(10,.sl false (L Ae a)),(11,i64 (a.length:Int)),(12,i64 f),(40,.bool am)],[.buf 21 (L Ae b) false,.box [i64 j,i64 k,i64 n,i64 o,i64 p,i64 q,i64 s,i64 t,i64 u,i64 w,i64 x,i64 y,i64 z,i64 aa,i64 ab,i64 ac,i64 ad,i64 ae,i64 af,.str ag,.sl false (L Dm ah)] false]⟩) ?_ ?_
    ·intro _;refine Sp (fun i=>?_) fun i=>?_
     ·exact Lf Ab (Ew1 i) (ws [0,1])
     refine Sp (fun aj=>?_) fun aj=>?_
     ·exact Lf Ab (Ew2 i aj) (ws [0,1])
     exact Lf Ab (Ew2 i aj) (ws [0,1])
    intro am;refine Cd ?_ ?_
    ·refine Ck fun aO =>Lt fun ak aP =>Fe (fr':=[(1,_),(2,_),(6,.bs false 0 (ak.length) 0 (ak.length)),(10,_),(11,_),(12,_)]) (O':=[.buf 21 (L Ae ak) false,_,_]) [1,2,6,10,11,12] Ab (Ew2 aO aP) ?_
     exact Bn <|Jm (ws [0])
    exact Sk <|Bn <|Jm (ws [0])
   intro g;refine F0 [1,2,6,10,11,12] ?_;exact Ln (ws [0])
  refine Sx <|Tx <|Ly ap ao <|Bx <|?_
  exact Jm ((ws (l':=[(6,.bs false 0 (b.length) 0 (b.length))]) (O':=[.buf 21 (L Ae b) false]) [0]).trans (ws [0]))
 intro e;refine Bd fun aV aQ =>Ck fun aR =>Te [6] (Ag (l:=[]) (m:=[(47,32,[.bs false 0 (e.length) 0 (e.length),.fn 33 []],[.buf 21 (L Ae e) false],_,_)]) trivial ⟨(wc (FK aQ) [0]),trivial⟩) (Ew1 aR) ?_
 refine T0 [6] ?_;exact Sr <|Rr
variable {rs:AoO}
theorem Jj{a c r}(h:Di a c=some r):Con (B rs) 105 [.ref 0 0,.agg (C1 i64 c.l)] [.box [.bs false 1 (a.l.length) 0 (a.l.length)] false,.buf 1 (L Bc a.l) false] (fun r' O'=>r'=.tup []/\O'=[.box [.bs false 1 (r.l.length) 0 (r.l.length)] false,.buf 1 (L Bc r.l) false]):=by
 refine Co 2 30 [] Tryz.func105 (fun F hE=>?_) h;unfold Di;refine T0 [0,3] ?_;refine Bd fun d g =>Te [0,3,4] (o1 7 (CK g)) Ev ?_
 refine Ja (fun b=>⟨Ai 30 [(0,.ref 0 0),(3,.ref 2 0),(4,.sl false (L Bc d))],[.box [.bs false 1 (b.length) 0 (b.length)] false,.buf 1 (L Bc b) false,.box (C1 i64 c.l) true]⟩) ?_ ?_
 ·intro v;refine Bd fun i j =>Te [0,3,4,5] (o1 9 (Ho j)) Ev ?_
  refine T0 [0,3,4,5,11] ?_;refine Cd ?_ ?_
  ·refine Ck fun k =>Bd fun w n =>Lt fun e o =>?_
   refine Ffe (O':=[.box [.bs false 1 (e.length) 0 (e.length)] false,.buf 1 (L Bc e) false,_]) [0,3,4] (Ag (l:=[]) (m:=[(18,25,[.ref 0 0,.sl false (L Bc ([nth d i.toNat]:List (List UInt8)))],[.box [.bs false 1 (a.l.length) 0 (a.l.length)] false,.buf 1 (L Bc a.l) false,.box (C1 i64 c.l) true],_,_)]) trivial ⟨(wc (Ap n) [0,1]),trivial⟩) (Ew2 (qR k) o) ?_;exact Jm (ws [0,1,2])
  exact Sk <|Jm (ws [0,1,2])
 intro b;refine Bd fun p q =>Te [0,4,6] (o1 20 (Ho q)) Ev ?_
 refine T0 [0,4,6,22] ?_;refine Cd ?_ ?_
 ·refine Ck fun s =>Bd fun x t =>Lt fun f u =>?_
  refine Ffe (O':=[.box [.bs false 1 (f.length) 0 (f.length)] false,.buf 1 (L Bc f) false,_]) [] (Ag (l:=[]) (m:=[(29,25,[.ref 0 0,.sl false (L Bc ([([112,101,114]:List UInt8),nth d p.toNat]:List (List UInt8)))],[.box [.bs false 1 (b.length) 0 (b.length)] false,.buf 1 (L Bc b) false,.box (C1 i64 c.l) true],_,_)]) trivial ⟨(wc (Ap t) [0,1]),trivial⟩) (Ew2 (qR s) u) ?_;exact Ro [0,1]
 exact Sk <|Ro [0,1]
theorem F6{g:Ao2->AoT->Option (Ao2)}(h64:∀{q0_:Ao2} {q1_:AoT} {r:Ao2},g q0_ q1_=some r->Con (B rs) 64 [.ref 0 0,.agg (xE q1_)] [.box [.bs false 1 (q0_.l.length) 0 (q0_.l.length)] false,.buf 1 (L Bc q0_.l) false] (fun r' O'=>r'=.tup []/\O'=[.box [.bs false 1 (r.l.length) 0 (r.l.length)] false,.buf 1 (L Bc r.l) false])){i d b a r}(h:BV g i d b a=some r):Con (B rs) 104 [.str i,.sl false (L Bc d),.ref 1 0,.ref 3 0] [.box [.bs false 2 (b.l.length) 0 (b.l.length)] false,.box [.ref 0 0] false,.buf 1 (L Bc b.l) false,.box (xE a) false] (fun r' O'=>r'=.tup []/\O'=[.box [.bs false 2 (r.l.length) 0 (r.l.length)] false,.box [.ref 0 0] false,.buf 1 (L Bc r.l) false,.box (xE a) false]):=by
 refine Co 4 31 [] Tryz.func104 (fun F hE=>?_) h;unfold BV;refine Bd fun ac o =>Lt fun j p =>?_
 refine Tfe (O':=[.box [.bs false 2 (j.length) 0 (j.length)] false,_,.buf 1 (L Bc j) false,_]) [1,2,3] (Ag (l:=[]) (m:=[(11,25,[.ref 0 0,.sl false (L Bc ([i,([40]:List UInt8)]:List (List UInt8)))],[.box [.bs false 2 (b.l.length) 0 (b.l.length)] false,.box [.ref 0 0] false,.buf 1 (L Bc b.l) false,.box (xE a) false],_,_)]) trivial ⟨(wc (Ap o) [0,2]),trivial⟩) (Ew1 p) ?_;refine T0 [2,3,12,13,14] ?_;refine Sb ?_;refine Lo (fun(v:Int×List (List UInt8))=>(⟨Ai 31 [(2,.ref 1 0),(3,.ref 3 0),(12,.sl false (L Bc d)),(13,i64 (d.length:Int)),(14,i64 v.1)],[.box [.bs false 2 (v.2.length) 0 (v.2.length)] false,.box [.ref 0 0] false,.buf 1 (L Bc v.2) false,.box (xE a) false]⟩:St)) (ws [0,1,2,3]) ?_;rintro⟨e,f⟩ ad q s t;show Bz g d a e f=some q->_;unfold Bz;refine T0 [2,3,12,13,14,15] ?_;refine Sq <|Cd ?_ ?_
 ·refine Sk <|Tn <|Sq <|Sb <|Ck fun u =>Lt fun n w =>Te (fr':=[(2,_),(3,_),(6,_),(7,.str n),(12,_),(13,_),(14,_)]) [2,3,6,7,12,13,14] Ab (Ew2 (qR u) w) ?_
  refine Ck fun x =>Bd fun ae y =>Lt fun c z =>De (O':=[.box [.bs false 2 (c.length) 0 (c.length)] false,_,.buf 1 (L Bc c) false,_]) [[],[],[1],[],[1,2,3],[1,2,3,4],[0,1,2,3,4,5]] [2,3,7,12,13,14] (Ag (l:=[]) (m:=[(25,64,[.ref 0 0,.agg (i64 ((nth a.L e.toNat).Op)::i64 ((nth a.L e.toNat).N)::(C1 i64 ((nth a.L e.toNat).Unit).l++[.sl false (L cApi_Expr ((nth a.L e.toNat).L))]))],[.box [.bs false 2 (f.length) 0 (f.length)] false,.box [.ref 0 0] false,.buf 1 (L Bc f) false,.box (xE a) false],_,_)]) trivial ⟨(wc (h64 y) [0,2]),trivial⟩) (Ew2 (qR x) z) ?_
  refine Bd fun af aa =>Lt fun k ab =>?_
  refine Ffe (O':=[.box [.bs false 2 (k.length) 0 (k.length)] false,_,.buf 1 (L Bc k) false,_]) [2,3,12,13,14] (Ag (l:=[]) (m:=[(29,25,[.ref 0 0,.sl false (L Bc ([n]:List (List UInt8)))],[.box [.bs false 2 (c.length) 0 (c.length)] false,.box [.ref 0 0] false,.buf 1 (L Bc c) false,.box (xE a) false],_,_)]) trivial ⟨(wc (Ap aa) [0,2]),trivial⟩) (Ew1 ab) ?_;refine Bn <|Tn <|F0 [2,3,12,13,14] ?_
  exact Ln (ws [0,1,2,3])
 exact Sx <|Tx <|Ly t s <|Bx <|Ro [0,1,2,3]
theorem Fm{g:Ao2->AoT->Option (Ao2)}(h64:∀{q0_:Ao2} {q1_:AoT} {r:Ao2},g q0_ q1_=some r->Con (B rs) 64 [.ref 0 0,.agg (xE q1_)] [.box [.bs false 1 (q0_.l.length) 0 (q0_.l.length)] false,.buf 1 (L Bc q0_.l) false] (fun r' O'=>r'=.tup []/\O'=[.box [.bs false 1 (r.l.length) 0 (r.l.length)] false,.buf 1 (L Bc r.l) false])){a b i r}(h:BI g a b i=some r):Con (B rs) 106 [.ref 0 0,.agg (xE b),i64 i] [.box [.bs false 1 (a.l.length) 0 (a.l.length)] false,.buf 1 (L Bc a.l) false] (fun r' O'=>r'=.tup []/\O'=[.box [.bs false 1 (r.l.length) 0 (r.l.length)] false,.buf 1 (L Bc r.l) false]):=by
 refine Co 2 23 [] Tryz.func106 (fun F hE=>?_) h;unfold BI;refine T0 [0,2,4] ?_;refine Sq <|Bd fun v j =>Te [0,4,10] (o1 8 (Hl j)) Ev ?_
 refine Cd ?_ ?_
 ·refine Bd fun w k =>Lt fun e n =>Te (O':=[.box [.bs false 1 (e.length) 0 (e.length)] false,.buf 1 (L Bc e) false,_]) [] (Ag (l:=[]) (m:=[(13,64,[.ref 0 0,.agg (xE b)],[.box [.bs false 1 (a.l.length) 0 (a.l.length)] false,.buf 1 (L Bc a.l) false,.box (xE b) false],_,_)]) trivial ⟨(wc (h64 k) [0,1]),trivial⟩) (Ew1 n) ?_
  exact Sr <|Tr <|Ro [0,1]
 refine Sk <|Tn <|Bd fun x o =>Lt fun c p =>?_
 refine Tfe (O':=[.box [.bs false 1 (c.length) 0 (c.length)] false,.buf 1 (L Bc c) false,_]) [0,4] (Ag (l:=[]) (m:=[(16,25,[.ref 0 0,.sl false (L Bc ([([40]:List UInt8)]:List (List UInt8)))],[.box [.bs false 1 (a.l.length) 0 (a.l.length)] false,.buf 1 (L Bc a.l) false,.box (xE b) false],_,_)]) trivial ⟨(wc (Ap o) [0,1]),trivial⟩) (Ew1 p) ?_;refine Bd fun y q =>Lt fun d s =>Te (O':=[.box [.bs false 1 (d.length) 0 (d.length)] false,.buf 1 (L Bc d) false,_]) [0] (Ag (l:=[]) (m:=[(19,64,[.ref 0 0,.agg (xE b)],[.box [.bs false 1 (c.length) 0 (c.length)] false,.buf 1 (L Bc c) false,.box (xE b) false],_,_)]) trivial ⟨(wc (h64 q) [0,1]),trivial⟩) (Ew1 s) ?_
 refine Bd fun z t =>Lt fun f u =>?_
 refine Ffe (O':=[.box [.bs false 1 (f.length) 0 (f.length)] false,.buf 1 (L Bc f) false,_]) [] (Ag (l:=[]) (m:=[(22,25,[.ref 0 0,.sl false (L Bc ([([41]:List UInt8)]:List (List UInt8)))],[.box [.bs false 1 (d.length) 0 (d.length)] false,.buf 1 (L Bc d) false,.box (xE b) false],_,_)]) trivial ⟨(wc (Ap t) [0,1]),trivial⟩) (Ew1 u) ?_;exact Ro [0,1]
theorem Iv{rec_:Ao2->AoT->Option (Ao2)}(hrec:∀{a:Ao2} {b:AoT} {r:Ao2},rec_ a b=some r->Con (B rs) 64 [.ref 0 0,.agg (xE b)] [.box [.bs false 1 (a.l.length) 0 (a.l.length)] false,.buf 1 (L Bc a.l) false] (fun r' O'=>r'=.tup []/\O'=[.box [.bs false 1 (r.l.length) 0 (r.l.length)] false,.buf 1 (L Bc r.l) false])){a:Ao2}{b:AoT}{r:Ao2}(h:CF rec_ a b=some r):Con (B rs) 64 [.ref 0 0,.agg (xE b)] [.box [.bs false 1 (a.l.length) 0 (a.l.length)] false,.buf 1 (L Bc a.l) false] (fun r' O'=>r'=.tup []/\O'=[.box [.bs false 1 (r.l.length) 0 (r.l.length)] false,.buf 1 (L Bc r.l) false]):=by
 refine HU (N:=74) (rs:=[]) 2 rfl ok Tryz.func64 rfl (by decide +kernel) rfl rfl (Apq rfl) (fun F=>?_);have hE:=(ok (rs:=rs)).env F;unfold CF at h;show Run ((B rs).env F) 2 _ ⟨Ai 74 [(0,.ref 0 0),(1,.agg (xE b))],[.box [.bs false 1 (a.l.length) 0 (a.l.length)] false,.buf 1 (L Bc a.l) false]⟩ _;refine BM ?_;revert h;refine T0 [2,3] ?_;refine T0 [2,3,4] ?_;refine T0 [2,3,4,7] ?_;refine Sb <|T0 [2,3,4,7,17] ?_
 refine Cd ?_ ?_
 ·refine Bd fun av q =>Lt fun c s =>Te (O':=[.box [.bs false 1 (c.length) 0 (c.length)] false,.buf 1 (L Bc c) false,_,_]) [2,3] (Ag (l:=[]) (m:=[(22,63,[.ref 0 0,i64 b.N],[.box [.bs false 1 (a.l.length) 0 (a.l.length)] false,.buf 1 (L Bc a.l) false,.box [.ref 0 0] false,.box (xE b) false],_,_)]) trivial ⟨(wc (C9 q) [0,1]),trivial⟩) (Ew1 s) ?_
  refine Bd fun aw t =>Lt fun f u =>Fe (O':=[.box [.bs false 1 (f.length) 0 (f.length)] false,.buf 1 (L Bc f) false,_,_]) [] (Ag (l:=[]) (m:=[(26,105,[.ref 0 0,.agg (C1 i64 b.Unit.l)],[.box [.bs false 1 (c.length) 0 (c.length)] false,.buf 1 (L Bc c) false,.box [.ref 0 0] false,.box (xE b) false],_,_)]) trivial ⟨(wc (Jj t) [0,1]),trivial⟩) (Ew1 u) ?_
  exact Bn <|Ro [0,1]
 refine T0 [2,3,4,7,27] ?_;refine Cd ?_ ?_
 ·refine Bd fun v w =>Ck fun x =>Bd fun ax y =>Lt fun g z =>Ge (O':=[.box [.bs false 1 (g.length) 0 (g.length)] false,.buf 1 (L Bc g) false,_,_]) [[],[],[],[2],[1,2,3],[1,2,3,4],[1,2,3,4,5],[0,1,2,3,4,5,6]] [] (Ag (l:=[(30,_,_,_)]) (m:=[(36,25,[.ref 0 0,.sl false (L Bc ([nth v b.N.toNat]:List (List UInt8)))],[.box [.bs false 1 (a.l.length) 0 (a.l.length)] false,.buf 1 (L Bc a.l) false,.box [.ref 0 0] false,.box (xE b) false],_,_)]) ⟨CK  w,trivial⟩ ⟨(wc (Ap y) [0,1]),trivial⟩) (Ew2 (qR x) z) ?_
  exact Bn <|Ro [0,1]
 refine T0 [2,3,4,7,37] ?_;refine Cd ?_ ?_
 ·refine Bd fun ay aa =>Lt fun i ab =>?_
  refine Ffq (O':=[.box [.bs false 1 (i.length) 0 (i.length)] false,.buf 1 (L Bc i) false,_,_]) [] (Ag (l:=[]) (m:=[(41,104,[.str ([105,102]:List UInt8),.sl false (L Bc ([([60]:List UInt8),([44]:List UInt8),([44]:List UInt8),([41]:List UInt8)]:List (List UInt8))),.ref 2 0,.ref 3 0],[.box [.bs false 1 (a.l.length) 0 (a.l.length)] false,.buf 1 (L Bc a.l) false,.box [.ref 0 0] false,.box (xE b) false],_,_)]) trivial ⟨(wc (F6 (fun h=>hrec h) aa) [0,2,1,3]),trivial⟩) (Ew1 ab) ?_;exact Bn <|Ro [0,1]
 refine Ja (fun n=>⟨Ai 74 [(2,.ref 2 0),(3,.ref 3 0),(4,.fn 104 [.ref 2 0,.ref 3 0]),(42,.bool n)],[.box [.bs false 1 (a.l.length) 0 (a.l.length)] false,.buf 1 (L Bc a.l) false,.box [.ref 0 0] false,.box (xE b) false]⟩) ?_ ?_
 ·intro az;refine T0 [2,3,4,7,42] ?_;refine Cd ?_ ?_
  ·exact Sk <|Jm (ws [0,1,2,3])
  refine T0 [2,3,4,7,42] ?_;refine Cd ?_ ?_
  ·exact Sk <|Jm (ws [0,1,2,3])
  refine F0 [2,3,4,42] ?_;exact Jm (ws [0,1,2,3])
 intro n;refine Cd ?_ ?_
 ·refine Ck fun ac =>Bd fun ad ae =>Bd fun aA af =>Lt fun d ag =>De (O':=[.box [.bs false 1 (d.length) 0 (d.length)] false,.buf 1 (L Bc d) false,_,_]) [[],[],[1],[1,2],[1,2,3],[],[5],[5,6],[0,1,2,3,4,5,6,7]] [2,3] (Ag (l:=[(53,_,_,_)]) (m:=[(54,106,[.ref 0 0,.agg (i64 ((nth b.L 0).Op)::i64 ((nth b.L 0).N)::(C1 i64 ((nth b.L 0).Unit).l++[.sl false (L cApi_Expr ((nth b.L 0).L))])),i64 ad],[.box [.bs false 1 (a.l.length) 0 (a.l.length)] false,.buf 1 (L Bc a.l) false,.box [.ref 0 0] false,.box (xE b) false],_,_)]) ⟨Hl  ae,trivial⟩ ⟨(wc (Fm (fun h=>hrec h) af) [0,1]),trivial⟩) (Ew2 (qL ac) ag) ?_
  refine Ck fun o=>?_
  have p:=o;simp only[Apv,ApR,Apc,Api,Apy,Aqn,Nat.reduceAdd]at p;refine Bd fun aB ah =>Lt fun e ai =>De (O':=[.box [.bs false 1 (e.length) 0 (e.length)] false,.buf 1 (L Bc e) false,_,_]) [[],[],[],[2],[2,3],[1,2,3,4],[1,2,3,4,5],[1,2,3,4,5,6],[0,1,2,3,4,5,6,7]] [2,3] (Ag (l:=[]) (m:=[(63,25,[.ref 0 0,.sl false (L Bc ([nth ([([43]:List UInt8),([45]:List UInt8),([42]:List UInt8)]:List (List UInt8)) ((w64 (b.Op-3)).toNat)]:List (List UInt8)))],[.box [.bs false 1 (d.length) 0 (d.length)] false,.buf 1 (L Bc d) false,.box [.ref 0 0] false,.box (xE b) false],_,_)]) trivial ⟨(wc (Ap ah) [0,1]),trivial⟩) (Ew3 (qR o) (qR p) ai) ?_
  refine Ck fun aj =>Bd fun ak al =>Bd fun aC am =>Lt fun j an =>Ge (O':=[.box [.bs false 1 (j.length) 0 (j.length)] false,.buf 1 (L Bc j) false,_,_]) [[],[],[1],[1,2],[1,2,3],[],[5],[5,6],[5,6,7],[0,1,2,3,4,5,6,7,8]] [] (Ag (l:=[(71,_,_,_)]) (m:=[(73,106,[.ref 0 0,.agg (i64 ((nth b.L 1).Op)::i64 ((nth b.L 1).N)::(C1 i64 ((nth b.L 1).Unit).l++[.sl false (L cApi_Expr ((nth b.L 1).L))])),i64 (w64 (ak+1))],[.box [.bs false 1 (e.length) 0 (e.length)] false,.buf 1 (L Bc e) false,.box [.ref 0 0] false,.box (xE b) false],_,_)]) ⟨Hl  al,trivial⟩ ⟨(wc (Fm (fun h=>hrec h) am) [0,1]),trivial⟩) (Ew2 (qL aj) an) ?_
  exact Bn <|Ro [0,1]
 refine Bd fun ao ap =>Ck fun aq =>Bd fun aD ar =>Lt fun k au =>?_
 refine Gq (O':=[.box [.bs false 1 (k.length) 0 (k.length)] false,.buf 1 (L Bc k) false,_,_]) [[],[],[],[2],[2,3],[1,2,3,4],[1,2,3,4,5],[],[0,1,2,3,4,5,6,7]] [] (Ag (l:=[(9,_,_,_)]) (m:=[(16,104,[.str (nth ao ((w64 (b.Op-6)).toNat)),.sl false (L Bc ([([44]:List UInt8),([41]:List UInt8)]:List (List UInt8))),.ref 2 0,.ref 3 0],[.box [.bs false 1 (a.l.length) 0 (a.l.length)] false,.buf 1 (L Bc a.l) false,.box [.ref 0 0] false,.box (xE b) false],_,_)]) ⟨CK  ap,trivial⟩ ⟨(wc (F6 (fun h=>hrec h) ar) [0,2,1,3]),trivial⟩) (Ew2 (qR aq) au) ?_;exact Bn <|Ro [0,1]
theorem Ix(n:Nat):∀{a:Ao2} {b:AoT} {r:Ao2},DB n a b=some r->Con (B rs) 64 [.ref 0 0,.agg (xE b)] [.box [.bs false 1 (a.l.length) 0 (a.l.length)] false,.buf 1 (L Bc a.l) false] (fun r' O'=>r'=.tup []/\O'=[.box [.bs false 1 (r.l.length) 0 (r.l.length)] false,.buf 1 (L Bc r.l) false]):=by
 induction n with
 |zero=>intro a b r h;cases h
 |succ n ih=>intro a b r h;exact Iv ih h
theorem JA{a:Ao2}{b:AoT}{r:Ao2}(h:FM a b=some r):Con (B rs) 64 [.ref 0 0,.agg (xE b)] [.box [.bs false 1 (a.l.length) 0 (a.l.length)] false,.buf 1 (L Bc a.l) false] (fun r' O'=>r'=.tup []/\O'=[.box [.bs false 1 (r.l.length) 0 (r.l.length)] false,.buf 1 (L Bc r.l) false]):=Ix _ h
open Go.Shelf
def Tryz.lays156_ren:Go.Shelf.Ren:=⟨fun|156=>28|165=>65|166=>66|169=>67|240=>108|241=>109|276=>157|277=>158|n=>n,fun|31=>76|9=>9|3=>3|4=>4|0=>0|20=>20|72=>131|76=>134|70=>128|37=>129|75=>133|127=>191|164=>244|5=>5|80=>110|n=>n,fun|n=>n⟩
theorem Tryz.lays156:Go.Proofs.Lays.n156 Tryz.prog Tryz.lays156_ren:={
 mixed:=by kernel_rfl
 f156:=Tryz.func28.trans (Ap2 some (by kernel_rfl))
 f165:=Tryz.func65.trans (Ap2 some (by kernel_rfl))
 f166:=Tryz.func66.trans (Ap2 some (by kernel_rfl))
 f169:=Tryz.func67.trans (Ap2 some (by kernel_rfl))
 f240:=Tryz.func108.trans (Ap2 some (by kernel_rfl))
 f241:=Tryz.func109.trans (Ap2 some (by kernel_rfl))
 f276:=Tryz.func157.trans (Ap2 some (by kernel_rfl))
 f277:=Tryz.func158.trans (Ap2 some (by kernel_rfl))
 t0:=Tryz.underlying0
 a0:=Tryz.isAgg0
 z0:=Tryz.sizeOf0
 v0:=Tryz.zeroValue0
 t3:=Tryz.underlying3
 a3:=Tryz.isAgg3
 z3:=Tryz.sizeOf3
 v3:=Tryz.zeroValue3
 t4:=Tryz.underlying4
 a4:=Tryz.isAgg4
 z4:=Tryz.sizeOf4
 v4:=Tryz.zeroValue4
 t9:=Tryz.underlying9
 a9:=Tryz.isAgg9
 z9:=Tryz.sizeOf9
 v9:=Tryz.zeroValue9
 t20:=Tryz.underlying20
 a20:=Tryz.isAgg20
 z20:=Tryz.sizeOf20
 v20:=Tryz.zeroValue20
 t31:=Tryz.underlying76
 a31:=Tryz.isAgg76
 z31:=Tryz.sizeOf76
 v31:=Tryz.zeroValue76
 t37:=Tryz.underlying129
 a37:=Tryz.isAgg129
 z37:=Tryz.sizeOf129
 v37:=Tryz.zeroValue129
 t70:=Tryz.underlying128
 a70:=Tryz.isAgg128
 z70:=Tryz.sizeOf128
 v70:=Tryz.zeroValue128
 t72:=Tryz.underlying131
 a72:=Tryz.isAgg131
 z72:=Tryz.sizeOf131
 v72:=Tryz.zeroValue131
 t75:=Tryz.underlying133
 a75:=Tryz.isAgg133
 z75:=Tryz.sizeOf133
 v75:=Tryz.zeroValue133
 t76:=Tryz.underlying134
 a76:=Tryz.isAgg134
 z76:=Tryz.sizeOf134
 v76:=Tryz.zeroValue134
 t127:=Tryz.underlying191
 a127:=Tryz.isAgg191
 z127:=Tryz.sizeOf191
 v127:=Tryz.zeroValue191
 t164:=Tryz.underlying244
 a164:=Tryz.isAgg244
 z164:=Tryz.sizeOf244
 v164:=Tryz.zeroValue244 }
theorem Tryz.Builder_Extra_156:Builder.Extra Tryz.prog Tryz.lays156_ren:={
 sizeBuilder:=by kernel_rfl
 liesBuilder:=by kernel_rfl
 t5:=Tryz.underlying5
 a5:=Tryz.isAgg5
 z5:=Tryz.sizeOf5
 v5:=Tryz.zeroValue5
 infoByte:=by kernel_rfl
 cellsByte:=by kernel_rfl
 sizeByte:=by kernel_rfl
 neB5:=by decide }
open Go.Shelf Go.RowKit
theorem AaK(s y:List UInt8):∀l:List (List UInt8),l≠[]->Lib.join (l++[y]) s=Lib.join l s++s++y
 |[],h=>(h rfl).elim
 |x::r,_=>by
  rw[Apv,Lib.join_cons,Lib.join_cons];simp[Lib.joinTail,Ap6]
theorem TR(s y:List UInt8)(l:List (List UInt8))(k:Nat)(h0:0<k)(hy:l[k]?=some y):Lib.join (l.take (k+1)) s=Lib.join (l.take k) s++s++y:=by
 rw[List.take_add_one,hy];refine AaK s y _ fun e=>?_
 have hk:k<l.length:=(Ao6.1 hy).1;have h:(l.take k).length=0:=by rw[e];rfl
 rw[Aqi]at h;omega
theorem Agc(s:List UInt8)(l:List (List UInt8))(k:Nat)(hk:k<=l.length):(Lib.join (l.take k) s).length<=(Lib.join l s).length:=by
 have key:∀m j,j+m=l.length->(Lib.join (l.take j) s).length<=(Lib.join l s).length:=by
  intro m
  induction m with
  |zero=>intro j hj;rw[ApW (by omega)];exact Apm _
  |succ m ih=>
   intro j hj;refine Aqw ?_ (ih (j+1) (by omega));cases j with
   |zero=>simp[Lib.join_nil]
   |succ j=>rw[TR s l[j+1] l (j+1) (by omega) (Ao9 (by omega))];simp only[Apc];omega
 exact key (l.length-k) k (by omega)
theorem Aco(s:List UInt8)(l:List (List UInt8)){y:List UInt8}(hy:l[0]?=some y):Lib.join (l.take 1) s=y:=by
 cases l with
 |nil=>cases hy
 |cons x r=>cases hy;exact Lib.join_one _ _
theorem AhP(b n:Nat)(w:World)(hb:b<=w.heap.size)(hbk:w.heap[b]?=some (.cells #[.pointer none,.slice none 0 0] 131 (0,0)))(hn:n<=281474976710656) :Calls Tryz.prog 65 #[.pointer (some ⟨b,0,none⟩),.int .i64 n] w fun e w'=>e=.returned (.tuple #[])/\(Lib.BuilderAt 131 5 b b (.pointer (some ⟨b,0,none⟩)) [] w'/\Below b w w') :=
 Any.Builder_Grow_fresh { Tryz.lays156 with } Tryz.Builder_Extra_156 b b n w (Apm _) hbk hb hn
theorem RO(b:Nat)(bs:List Value)(s:ByteArray)(w:World)(h:Lib.BuilderAt 131 5 b b (.pointer (some ⟨b,0,none⟩)) bs w)(hl:bs.length+s.size<=140737488355328)(hb:b<=w.heap.size) :Calls Tryz.prog 66 #[.pointer (some ⟨b,0,none⟩),.string s] w fun e w'=>e=.returned (.tuple #[.int .i64 s.size,.nilIface])/\(Lib.BuilderAt 131 5 b b (.pointer (some ⟨b,0,none⟩)) (bs++Lib.strCells s) w'/\Below b w w') :=
 Any.Builder_WriteString { Tryz.lays156 with } Tryz.Builder_Extra_156 b b bs s w (.inr h) hl hb
theorem ZS(b:Nat)(l:List UInt8)(w:World)(h:Lib.BuilderAt 131 5 b b (.pointer (some ⟨b,0,none⟩)) (Lib.byteCells l) w)(hb:b<=w.heap.size) :Calls Tryz.prog 67 #[.pointer (some ⟨b,0,none⟩)] w fun e w'=>e=.returned (.string ⟨l.toArray⟩)/\Below b w w' :=
 Any.Builder_String_any { Tryz.lays156 with } Tryz.Builder_Extra_156 b b l w (.inr h) hb
theorem Ahs(a:Option Addr)(c:Nat)(sep:ByteArray)(w:World):Calls Tryz.prog 28 #[.slice a 0 c,.string sep] w fun e w'=>e=.returned (.string ⟨#[]⟩)/\w'=w:=by
 go_enter Tryz.func28,Tryz.ntmps28
 go_wp2
 go_ret
 exact⟨rfl,rfl⟩
theorem Aar(bk o c:Nat)(x sep:ByteArray)(w:World)(hc:w.cell? ⟨bk,o,none⟩=some (.string x)):Calls Tryz.prog 28 #[.slice (some ⟨bk,o,none⟩) 1 c,.string sep] w fun e w'=>e=.returned (.string x)/\w'=w:=by
 go_enter Tryz.func28,Tryz.ntmps28
 go_wp2
 go_ret
 exact⟨rfl,rfl⟩
open Go.Shelf Go.RowKit
theorem RF{p:Prop}(h:p):Hid p:=h
theorem AdJ{N S T M:Nat}(hN:2<=N)(hN2:N<=140737488355328)(hM:S*(N-1)=M)(h:M+T<=140737488355328) :¬(9223372036854775807/((N:Int)-1)<=(S:Int))/\wrap64 ((S:Int)*((N:Int)-1))=(M:Int):=by
 have e1:((N:Int)-1)=((N-1:Nat):Int):=by omega
 have e2:(S:Int)*((N-1:Nat):Int)=((S*(N-1):Nat):Int):=(Ar1 _ _).symm;rw[e1,e2,hM];refine⟨fun hle=>?_,IntWalk.wrap64_in _ ⟨by omega,by omega⟩⟩;have e3:(9223372036854775807:Int)/((N-1:Nat):Int)=((9223372036854775807/(N-1):Nat):Int):=(Int.natCast_ediv _ _).symm;rw[e3]at hle;have h1:9223372036854775807/(N-1)<=S:=by omega
 have h2:9223372036854775807/(N-1)<S+1:=by omega
 have h3:=(Aqx (by omega:0<N-1)).1 h2;rw[ApH,hM]at h3;omega
set_option maxHeartbeats 4000000 in
set_option maxRecDepth 100000 in
theorem AgG(bk o c:Nat)(xs:List ByteArray)(sep:ByteArray)(w:World)(hcells:∀(j:Nat) x,xs[j]?=some x->w.cell? ⟨bk,o+j,none⟩=some (.string x))(hbk:bk<w.heap.size) (h2:2<=xs.length) (hN:xs.length<=140737488355328) (hcap:xs.length<=c) (hlen:(Lib.join (xs.map (·.data.toList)) sep.data.toList).length<=140737488355328) :Calls Tryz.prog 28 #[.slice (some ⟨bk,o,none⟩) xs.length c,.string sep] w fun e w'=>e=.returned (.string ⟨(Lib.join (xs.map (·.data.toList)) sep.data.toList).toArray⟩)/\Below w.heap.size w w':=by
 have CE:=RF hcells;have LE:=RF hlen;obtain⟨M,hM⟩:∃M,sep.size*(xs.length-1)=M:=⟨_,rfl⟩
 have hsum:M+Lib.lens (xs.map (·.data.toList))<=140737488355328:=by
  cases hx:xs with
  |nil=>rw[hx]at h2;simp at h2
  |cons a t=>
   rw[hx]at hlen hM;rw[ApL]at hlen ⊢;rw[Lib.join_length,Ap8,<-Lib.size_eq]at hlen;rw[Api,ArI]at hM;omega
 obtain⟨hdv,hprod⟩:=AdJ h2 hN hM hsum;have hM0:sep.size=0->M=0:=fun e=>by rw[<-hM,e,Arb]
 clear hcells hlen hM;have hne0:((xs.length:Int)==0)=false:=Aq1.2 (by omega);have hne1:((xs.length:Int)==1)=false:=Aq1.2 (by omega)
 go_enter Tryz.func28,Tryz.ntmps28
 go_wp2_with fail
 all_goals (
  go_loop [5,41] (fun n i=>∃k:Nat,k<=xs.length/\i=.int .i64 k/\n=.int .i64 ((M+Lib.lens ((xs.map (·.data.toList)).take k):Nat):Int)) (fun _ i=>xs.length-(intOf i).toNat)
  case atStart=>exact⟨0,Apz _,rfl,by first|(simp[Lib.lens];done)|(rw[hM0 (by omega)];simp[Lib.lens])⟩
  case round=>
   obtain⟨k,hk,rfl,rfl⟩:=hrel;rcases ApX k xs.length with hlt|hge
   ·have hx:xs[k]?=some xs[k]:=Ao9 hlt;generalize xs[k]=x at hx;have hc:=CE.out k x hx;have hs1:=Lib.lens_take_succ (xs.map (·.data.toList)) k x.data.toList (by simp[hx]);have hs2:=Lib.lens_take_le (xs.map (·.data.toList)) (k+1);rw[<-Lib.size_eq]at hs1;obtain⟨A1,hA⟩:∃A1,Lib.lens ((xs.map (·.data.toList)).take (k+1))=A1:=⟨_,rfl⟩;rw[hA]at hs1 hs2;have HA:=RF hA;clear hA;generalize Lib.lens ((xs.map (·.data.toList)).take k)=A0 at hs1
    go_wp2
    exact⟨⟨k+1,hlt,by go_num,by rw[HA.out];refine Ap2 _ ?_;omega⟩,by simp[intOf];omega⟩
   obtain rfl:k=xs.length:=by omega
   have hT:Lib.lens ((xs.map (·.data.toList)).take xs.length)=Lib.lens (xs.map (·.data.toList)):=by rw[ApW (by simp)]
   rw[hT];clear hT;generalize Lib.lens (xs.map (·.data.toList))=T at hsum
   go_wp2_with fail
   have hMT:((M:Int)+(T:Int))=((M+T:Nat):Int):=by omega
   rw[hMT];refine(AhP w.heap.size (M+T) _ (by simp) (heap_alloc_new w _) (by omega)).mono ?_;rintro e w1 ⟨rfl,b1,l1⟩;have l1':Below w.heap.size w w1:=((Below.refl w.heap.size w).alloc (Apm _) _).trans l1;obtain⟨x0,hx0⟩:∃x0,xs[0]?=some x0:=⟨xs[0],Ao9 (by omega)⟩
   have hc0:w1.cell? ⟨bk,o,none⟩=some (.string x0):=by
    rw[l1'.cell (p:=⟨bk,o,none⟩) hbk];exact CE.out 0 x0 hx0
   have B1:=RF b1;have L1:=RF l1';have z1:w.heap.size<=w1.heap.size:=l1'.size;have JL:Hid (∀k,k<=xs.length->(Lib.join ((xs.map (·.data.toList)).take k) sep.data.toList).length<=140737488355328):=RF fun k hk=>Aqw (Agc _ _ _ (by simpa using hk)) LE.out
   have J1:Lib.join ((xs.map (·.data.toList)).take 1) sep.data.toList=x0.data.toList:=Aco _ _ (by simp[hx0]);have HJ1:=RF J1;clear b1 l1 l1' hMT hx0 J1
   go_wp2_with fail
   refine(RO w.heap.size [] x0 w1 B1.out (by have h:=JL.out 1 (by omega);rw[HJ1.out,<-Lib.size_eq]at h;simpa using h) z1).mono ?_;rintro e w2 ⟨rfl,b2,l2⟩;rw[show([]:List Value)++Lib.strCells x0=Lib.byteCells (Lib.join ((xs.map (·.data.toList)).take 1) sep.data.toList) by rw[HJ1.out];simp[Lib.strCells_eq]]at b2;have B2:=RF b2;have L2:=RF (L1.out.trans l2);clear b2 l2
   go_wp2_with fail
   go_loopw [65] (fun i wr=>∃k:Nat,k+1<=xs.length/\i=.int .i64 k/\Hid (Lib.BuilderAt 131 5 w.heap.size w.heap.size (.pointer (some ⟨w.heap.size,0,none⟩)) (Lib.byteCells (Lib.join ((xs.map (·.data.toList)).take (k+1)) sep.data.toList)) wr)/\Hid (Below w.heap.size w wr)) (fun i _=>xs.length-(intOf i).toNat)
   case atStart=>exact⟨0,by omega,rfl,B2,L2⟩
   case round=>
    obtain⟨k,hk',rfl,BK,LK⟩:=hrel;have zr:w.heap.size<=wr.heap.size:=LK.out.size;rcases ApX (k+1) xs.length with hlt|hge
    ·have hy:xs[k+1]?=some xs[k+1]:=Ao9 hlt;generalize xs[k+1]=y at hy
     have hcy:wr.cell? ⟨bk,o+1+k,none⟩=some (.string y):=by
      rw[LK.out.cell (p:=⟨bk,o+1+k,none⟩) hbk,show o+1+k=o+(k+1) by omega];exact CE.out (k+1) y hy
     have st:=TR sep.data.toList y.data.toList (xs.map (·.data.toList)) (k+1) (by omega) (by simp[hy])
     have nx:Lib.byteCells (Lib.join ((xs.map (·.data.toList)).take (k+1)) sep.data.toList)++Lib.strCells sep++Lib.strCells y=Lib.byteCells (Lib.join ((xs.map (·.data.toList)).take (k+1+1)) sep.data.toList):=by
      rw[st,Lib.strCells_eq,Lib.strCells_eq,<-Lib.byteCells_append,<-Lib.byteCells_append]
     have jl:=JL.out (k+1+1) (by omega);rw[st]at jl;simp only[Apc,<-Lib.size_eq]at jl;have bl:(Lib.byteCells (Lib.join ((xs.map (·.data.toList)).take (k+1)) sep.data.toList)).length=(Lib.join ((xs.map (·.data.toList)).take (k+1)) sep.data.toList).length:=Lib.byteCells_length _;generalize(Lib.join ((xs.map (·.data.toList)).take (k+1)) sep.data.toList).length=J at jl bl;have NX:=RF nx;have BL:=RF bl;clear nx st hy bl
     go_wp2_with fail
     refine(RO w.heap.size _ sep wr BK.out (by rw[BL.out];omega) zr).mono ?_;rintro e w3 ⟨rfl,b3,l3⟩;have z3:w.heap.size<=w3.heap.size:=Aqw zr l3.size;have B3:=RF b3;have L3:=RF l3;clear b3 l3
     go_wp2_with fail
     refine(RO w.heap.size _ y w3 B3.out (by rw[Apc,BL.out,Lib.strCells_length];omega) z3).mono ?_;rintro e w4 ⟨rfl,b4,l4⟩;rw[NX.out]at b4;have B4:=RF b4;have L4:=RF ((LK.out.trans L3.out).trans l4);clear b4 l4
     go_wp2
     exact⟨⟨k+1,by omega,by go_num,B4,L4⟩,by simp[intOf];omega⟩
    have hke:k+1=xs.length:=by omega
    have hb:=BK.out;rw[hke,ApW (by simp)]at hb
    go_wp2_with fail
    refine(ZS w.heap.size _ wr hb zr).mono ?_;rintro e w5 ⟨rfl,l5⟩;have L5:=RF (LK.out.trans l5);clear l5 hb
    go_wp2
    go_ret
    exact⟨rfl,L5.out⟩)
open Go.Rv Go.RowKit
theorem Tg{w:World}{a:Addr}{u:Value}(h:w.cell? a=some u):a.spot=none:=by
 unfold World.cell? at h;split at h
 ·cases hs:a.spot with
  |none=>rfl
  |some q=>simp[hs]at h
 cases h
theorem Ae5{rs:AoO}{xs:List (List UInt8)}{sep r:List UInt8}{b:Bool}(h:Ac3 xs sep=some r):Con (B rs) 28 [.sl b (L (fun s=>[.str s]) xs),.str sep] [] (fun r' O'=>r'=.str r/\O'=[]):=by
 unfold Ac3 at h;split at h
 case isFalse=>cases h
 rename_i hl;obtain⟨hl1,hl2⟩:=hl;simp only[Ao7]at h;subst h;refine⟨fun F w g vs hm ha=>.inl ⟨⟨Tryz.f28,_,Tryz.func28,rfl,by decide +kernel⟩,?_⟩⟩;have hg:g=[]:=ApM.1 hm.len;subst hg;obtain⟨vs⟩:=vs
 have key:Calls Tryz.prog 28 ⟨vs⟩ w fun e w'=>e=.returned (.string ⟨(Lib.join xs sep).toArray⟩)/\Below w.heap.size w w':=by
  match vs,ha with
  | [u,v],⟨h1,h2,_⟩=>
   obtain⟨s,rfl,hs⟩:=G7 h2;have es:s=⟨sep.toArray⟩:=by subst hs;rfl
   subst es;cases h1 with
   | sl _ a len cap _ _ k c hlen hcap hfull hnone hk hc hr=>
    have hln:xs.length=len:=by rw[<-hlen];simp[L]
    subst hln
    have hraw:∀(i:Nat) (l:List UInt8),xs[i]?=some l->∃a',a=some a'/\w.cell? (a'.add i)=some (.string ⟨l.toArray⟩):=by
     intro i l hi;have e1:(L (fun s=>[AV.str s]) xs)[i]?=some [.str l]:=by simp[L,hi]
     have hk1:k=1:=by simpa using(hk i _ e1).symm
     subst hk1;obtain⟨a',ea,c1,_,_⟩:=hc i _ 0 _ e1 rfl;have c2:=hr i _ 0 _ e1 rfl;obtain⟨q,eq,hq⟩:=G7 c2;rw[eq,Aro,AqD]at c1;have e2:q=⟨l.toArray⟩:=by subst hq;rfl
     exact⟨a',ea,by rw[c1,e2]⟩
    have h0:∀x,xs[0]?=some x->∃bk o,a=some ⟨bk,o,none⟩:=by
     intro x hx;obtain⟨a',ea,c1⟩:=hraw 0 x hx;rw[Go.Rv.add_zero]at c1;have sp:=Tg c1;obtain⟨bk,o,spt⟩:=a';have sp':spt=none:=sp;subst sp';exact⟨bk,o,ea⟩
    have hcell:∀bk o,a=some ⟨bk,o,none⟩->∀(i:Nat) (l:List UInt8),xs[i]?=some l->w.cell? ⟨bk,o+i,none⟩=some (.string ⟨l.toArray⟩):=by
     intro bk o ea i l hi;obtain⟨a',ea',c1⟩:=hraw i l hi;rw[ea]at ea';cases ea';rw[<-c1];unfold Addr.add;by_cases hz:i=0
     ·subst hz;rfl
     rw[Apd hz]
    clear hraw hc hr hk hlen
    match xs,h0,hcell,hl1,hl2,hcap with
    |[],_,_,_,_,_=>exact(Ahs a cap _ w).mono fun e w' ⟨e1,e2⟩=>⟨e1,e2 ▸ Below.refl _ _⟩
    |[x],h0,hcell,_,_,_=>
     obtain⟨bk,o,rfl⟩:=h0 x rfl;have hx:=hcell bk o rfl 0 x rfl;exact(Aar bk o cap _ _ w hx).mono fun e w' ⟨e1,e2⟩=>⟨by rw[e1,Lib.join_one],e2 ▸ Below.refl _ _⟩
    | x::y::l,h0,hcell,hl1,hl2,hcap=>
     obtain⟨bk,o,rfl⟩:=h0 x rfl;have hx:=hcell bk o rfl 0 x rfl;have em:((x::y::l).map fun l=>(⟨l.toArray⟩:ByteArray)).map (·.data.toList)=x::y::l:=by simp[Ar7,ArT]
     have:=AgG bk o cap ((x::y::l).map fun l=>(⟨l.toArray⟩:ByteArray)) ⟨sep.toArray⟩ w (fun j z hz=>by
      rw[ApE,Ao5]at hz;obtain⟨l',hl',rfl⟩:=hz;exact hcell bk o rfl j l' hl') (cell?_lt hx) (by simp) (by simpa using hl2) (by simpa using hcap) (by rw[em];exact hl1)
     rw[em,Ap8]at this;exact this
 refine key.mono fun e w' ⟨he,hb⟩=>?_
 have evo:Evo ((B rs).env F) 0 w [] w' []:=⟨hb.os,hb.tape,hb.output,hb.size,fun a u hc hp=>⟨by
  rw[<-hc];simp only[World.cell?,hb.block _ (cell?_lt hc)],hp⟩,fun β hβ hn=>⟨hb.block β hβ,hn⟩,fun _ hh=>absurd hh (Ap0 _)⟩
 exact⟨_,_,[],[],he,⟨rfl,rfl⟩,(Oi hm evo).1,evo,.str _ _ _ (by simp)⟩
end Go.Proofs.YtldngkmkhfddpaaGreatDoor
