/-
  Part 50.
-/
import Derived.Test.YtldngkmkhfddpaaGreatDoorProg
import Derived.Test.YtldngkmkhfddpaaGreatDoorYV44
import Derived.Test.YtldngkmkhfddpaaGreatDoorYV48
import Derived.Test.YtldngkmkhfddpaaGreatDoorYV49
import Derived.KernelRfl
import Derived.Shelf.Strings.Builder1
import Derived.Shelf.Strings.Builder2
import Derived.Lib.Join
import Derived.BigCall
import Derived.BigGuard
namespace Go.Proofs.YtldngkmkhfddpaaGreatDoor
open Go.Rv
set_option linter.unusedVariables false
set_option linter.unusedSimpArgs false
set_option maxRecDepth 20000
variable {rs:AoH}
set_option maxHeartbeats 4000000
theorem IP{f b r}(h:Fi f b=some r):Con (B rs) 125 [.agg (C1 i64 f.low.l++C1 i64 f.high.l),.agg (C1 i64 b.low.l++C1 i64 b.high.l)] [] (fun r' O'=>r'=.tup [.agg (C1 i64 r.1.low.l++C1 i64 r.1.high.l),.bool r.2]/\O'=[]):=by
 refine Cw 50 [.cell 4 152,.tmp 5] Tryz.func125 (fun F hE=>?_) h;unfold Fi;refine T0 [2,3,4] ?_;refine T0 [2,3,4,6] ?_;refine Ja (fun⟨j,k,m⟩=>⟨Al 50 [(2,.ref 0 0),(4,.ref 1 0),(6,.bool j)],[.box (C1 i64 k.l++C1 i64 m.l) false,.box (C1 i64 (Arr.rep 16 0).l++C1 i64 (Arr.rep 16 0).l) false]⟩) ?_ ?_
 ·intro al;refine T0 [2,3,4,6,8] ?_;refine Sb ?_;refine Lo (fun⟨d,a,e,c⟩=>⟨Al 50 [(2,.ref 0 0),(3,.ref 1 0),(4,.ref 2 0),(6,.bool d),(8,i64 a)],[.box (C1 i64 e.l++C1 i64 c.l) false,.box (C1 i64 b.low.l++C1 i64 b.high.l) false,.box (C1 i64 (Arr.rep 16 0).l++C1 i64 (Arr.rep 16 0).l) false]⟩) (ws [0,1,2]) ?_;rintro⟨d,a,e,c⟩ am y z aa;show FH b d a e c=some y->_;unfold FH;refine T0 [2,3,4,6,8,9] ?_;refine Sq <|Cd ?_ ?_
  ·refine Sk <|Tn <|Sq <|Sb <|T0 [2,3,4,6,7,8] ?_
   refine Ck fun n=>?_
   have ab:a.toNat<=31:=by have:=n.2;omega
   refine Ck fun o=>?_
   have ac:a.toNat<=31:=by have:=o.2;omega
   refine Ck fun p=>?_
   have ad:a.toNat<=31:=by have:=p.2;omega
   refine Lt fun g ae =>De (O':=[.box (C1 i64 g.l++C1 i64 c.l) false,_,_]) [[],[],[],[1,2],[1,2,3],[],[],[5,6],[5,6,7],[1,2,3,4,5,6,7,8],[],[0,1,2,3,4,5,6,7,8,9,10],[0,1,2,3,4,5,6,7,8,9,10,11]] [2,3,4,6,7,8] Ac (Ev (by simp only[go_sem,qR n,ab,qR o,ac,qR p,ad,ae];exact CL)) ?_
   refine Ck fun q=>?_
   have af:16+a.toNat<=31:=by have:=q.2;omega
   refine Ck fun s=>?_
   have ag:16+a.toNat<=31:=by have:=s.2;omega
   refine Ck fun t=>?_
   have ah:16+a.toNat<=31:=by have:=t.2;omega
   refine Lt fun u ai =>De (O':=[.box (C1 i64 g.l++C1 i64 u.l) false,_,_]) [[],[],[],[1,2],[1,2,3],[],[],[5,6],[5,6,7],[1,2,3,4,5,6,7,8],[],[0,1,2,3,4,5,6,7,8,9,10],[0,1,2,3,4,5,6,7,8,9,10,11]] [2,3,4,6,7,8] Ac (Ev (by simp only[go_sem,qR q,af,qR s,ag,qR t,ah,ai];exact CL)) ?_
   refine Hw [[],[0],[0,1],[0,1],[0,1,2,3],[0,1,2,3,4],[0,1],[0,1],[0,1,6,7],[0,1,6,7,8],[0,1,2,3,4,5,6,7,8,9],[0,1,2,3,4,5,6,7,8,9,10],[0,1,2,3,4,5,6,7,8,9,10,11]] [2,3,4,6,8] (fun v=>⟨Al 50 [(2,.ref 0 0),(3,.ref 1 0),(4,.ref 2 0),(6,.bool v),(8,i64 a)],[.box (C1 i64 g.l++C1 i64 u.l) false,.box (C1 i64 b.low.l++C1 i64 b.high.l) false,.box (C1 i64 (Arr.rep 16 0).l++C1 i64 (Arr.rep 16 0).l) false]⟩) ?_ ?_
   ·intro _;refine Sp (fun i=>?_) fun i=>?_
    ·refine Ck fun w=>?_
     have aj:a.toNat<=31:=by have:=w.2;omega
     refine Ck fun x=>?_
     have ak:16+a.toNat<=31:=by have:=x.2;omega
     exact Lf Ac (Ew5 i (qR w) aj (qR x) ak) (ws [0,1,2])
    exact Lf Ac (Ew1 i) (ws [0,1,2])
   intro v;refine Bn <|Tn <|F0 [2,3,4,6,8] ?_
   exact Ln (ws [0,1,2])
  refine Sx <|Tx <|Ly aa z <|Bx <|?_
  exact Jm ((ws (l':=[(2,.ref 0 0),(4,.ref 1 0),(6,.bool d)]) (O':=[.box (C1 i64 e.l++C1 i64 c.l) false,.box (C1 i64 (Arr.rep 16 0).l++C1 i64 (Arr.rep 16 0).l) false]) [0,2]).trans (ws [0,1]))
 rintro⟨j,k,m⟩;refine T0 [4,5] ?_;exact Sr <|Rr
theorem Uc{a r}(h:Rq a=some r):Con (B rs) 126 [.agg (C1 i64 a.l)] [] (fun r' O'=>r'=.agg (i64 r.Has::C1 i64 r.V.l)/\O'=[]):=by
 refine Cw 5 [.cell 2 52] Tryz.func126 (fun F hE=>?_) h;unfold Rq;refine T0 [1,2] ?_;refine T0 [2] ?_;exact Sr <|Rr
theorem OB{a r}(h:HP a=some r):Con (B rs) 81 [.agg (Ab a)] [] (fun r' O'=>r'=.tup [.agg (C1 i64 r.1.low.l++C1 i64 r.1.high.l),.bool r.2]/\O'=[]):=by
 refine Cw 39 [.cell 2 152,.tmp 3] Tryz.func81 (fun F hE=>?_) h;unfold HP;refine T0 [1,2] ?_;refine Bd fun y n =>Te [1,2,4] (o1 9 (Tf n)) Ev ?_
 refine Jo (fun(v:Arr Int 16×Arr Int 16)=>(⟨Al 39 [(2,.ref 0 0),(4,.ref 1 0)],[.box (C1 i64 (Arr.rep 16 0).l++C1 i64 (Arr.rep 16 0).l) false,.box (C1 i64 v.1.l++C1 i64 v.2.l) false]⟩:St)) ?_ ?_
 ·intro z o;refine T0 [2,4,11,12,13] ?_;refine Sb ?_;refine Lo (fun⟨d,b,c⟩=>⟨Al 39 [(2,.ref 0 0),(4,.ref 1 0),(11,.sl false (L Ae a.Ze)),(12,i64 (a.Ze.length:Int)),(13,i64 d)],[.box (C1 i64 (Arr.rep 16 0).l++C1 i64 (Arr.rep 16 0).l) false,.box (C1 i64 b.l++C1 i64 c.l) false]⟩) (ws [1,2]) ?_;rintro⟨d,b,c⟩ aa p f g;show K0 a d b c=some p->_;unfold K0;refine T0 [2,4,11,12,13,14] ?_;refine Sq <|Cd ?_ ?_
  ·refine Sk <|Tn <|Sq <|Sb <|Ck fun q =>Lt fun i s =>Lt fun j t =>Lt fun k u =>Te (O':=[_,_,.box [i64 i,i64 j,i64 k] false]) [2,4,6,11,12,13] Ac (Ew4 (qR q) s t u) ?_
   refine Sq ?_;refine Tw [2,4,6,11,12,13,24] (fun m=>⟨Al 39 [(2,.ref 0 0),(4,.ref 1 0),(6,.ref 2 0),(11,.sl false (L Ae a.Ze)),(12,i64 (a.Ze.length:Int)),(13,i64 d),(24,.bool m)],[.box (C1 i64 (Arr.rep 16 0).l++C1 i64 (Arr.rep 16 0).l) false,.box (C1 i64 b.l++C1 i64 c.l) false,.box [i64 i,i64 j,i64 k] false]⟩) ?_ ?_
   ·intro _;refine Sp (fun e=>?_) fun e=>?_
    ·exact Lf Ac (Ew1 e) (ws [0,1,2])
    exact Lf Ac (Ew1 e) (ws [0,1,2])
   intro m;refine Cd ?_ ?_
   ·refine T0 [2,3] ?_;exact Sr <|Tr <|Br <|Tr <|Lr g f <|Br <|Jr o <|Rr
   refine Sk <|Tn <|Bd fun ab w =>Fe [2,4,11,12,13] (o1 28 (NM w)) Ev ?_
   refine Bn <|Tn <|F0 [2,4,11,12,13] ?_
   exact Ln (ws [0,1])
  refine Sx <|Tx <|Lx g f <|Bx <|?_
  exact Jn ((ws (l':=[(2,.ref 0 0),(4,.ref 1 0)]) (O':=[.box (C1 i64 (Arr.rep 16 0).l++C1 i64 (Arr.rep 16 0).l) false,.box (C1 i64 b.l++C1 i64 c.l) false]) [0,1]).trans (ws [0,1]))
 rintro⟨ac,ad⟩;refine Sq <|Bd fun ae x =>Te [2,7,8] (o1 33 (IP x)) Ev ?_
 refine T0 [2,7,36] ?_;refine Cd ?_ ?_
 ·refine T0 [2,3] ?_;exact Sr <|Tr <|Rr
 refine Sk <|Tn <|T0 [2,3] ?_
 exact Sr <|Rr
theorem NT{f r}(h:GT f=some r):Con (B rs) 82 [.agg (Af f)] [] (fun r' O'=>r'=.tup [i64 r.1,i64 r.2.1,.agg (i64 r.2.2.1.Has::C1 i64 r.2.2.1.V.l),.bool r.2.2.2]/\O'=[]):=by
 refine Cw 87 [.tmp 2,.tmp 3,.cell 4 52,.tmp 5] Tryz.func82 (fun F hE=>?_) h;unfold GT;refine T0 [1,4] ?_;refine Ck fun z =>Lt fun j aa =>Te (fr':=[(1,_),(4,_),(6,.bs true 2 (j.length) 0 (j.length))]) (O':=[_,_,.buf 32 (L Es j) false]) [1,4,6] Ac (Ew2 z aa) ?_
 refine Ck fun ab =>Lt fun k ac =>Te (fr':=[(1,_),(4,_),(6,_),(7,.bs true 3 (k.length) 0 (k.length))]) (O':=[_,_,_,.buf 1 (L Mc k) false]) [1,4,6,7] Ac (Ew2 ab ac) ?_
 refine Ja (fun(v:List AoJ×List Bool)=>(⟨Al 87 [(4,.ref 0 0),(6,.bs true 1 (v.1.length) 0 (v.1.length)),(7,.bs true 2 (v.2.length) 0 (v.2.length))],[.box (i64 0::C1 i64 (Arr.rep 16 0).l) false,.buf 32 (L Es v.1) false,.buf 1 (L Mc v.2) false]⟩:St)) ?_ ?_
 ·intro aJ;refine T0 [4,6,7,23,24,25] ?_;refine Sb ?_;refine Lo (fun⟨m,d,e⟩=>⟨Al 87 [(4,.ref 0 0),(6,.bs true 1 (d.length) 0 (d.length)),(7,.bs true 2 (e.length) 0 (e.length)),(23,.sl false (L Ab f.Zf)),(24,i64 (f.Zf.length:Int)),(25,i64 m)],[.box (i64 0::C1 i64 (Arr.rep 16 0).l) false,.buf 32 (L Es d) false,.buf 1 (L Mc e) false]⟩) (ws [1,2,3]) ?_;rintro⟨m,d,e⟩ aK ad ae af;show ET f m d e=some ad->_;unfold ET;refine T0 [4,6,7,23,24,25,26] ?_;refine Sq <|Cd ?_ ?_
  ·refine Sk <|Tn <|Sq <|Sb <|Ck fun ag =>Lt fun ah ai =>Lt fun aj ak =>Lt fun al am =>Lt fun an ao =>Lt fun ap aq =>Lt fun ar au =>Te (O':=[_,_,_,.box (.str ah::.sl false (L Ae aj)::i64 al::i64 an::(C1 i64 ap.l++[.sl false (L cApi_Expr ar)])) false]) [4,6,7,8,9,23,24,25] Ac (Ev (by simp only[go_sem,qR ag,ai,ak,am,ao,aq,au];exact CL)) ?_
   refine Bd fun aL av =>Ck fun aw =>Ck fun ax =>Lt fun n ay =>Lt fun o az =>Fe (fr':=[(4,_),(6,.bs true 1 (n.length) 0 (n.length)),(7,.bs true 2 (o.length) 0 (o.length)),(23,_),(24,_),(25,_)]) (O':=[_,.buf 32 (L Es n) false,.buf 1 (L Mc o) false,_]) [4,6,7,23,24,25] (o1 36 (OB av)) (Ew4 (qR aw) (qR ax) ay az) ?_
   refine Bn <|Tn <|F0 [4,6,7,23,24,25] ?_
   exact Ln (ws [0,1,2])
  refine Sx <|Tx <|Ly af ae <|Bx <|?_
  exact Jm ((ws (l':=[(4,.ref 0 0),(6,.bs true 1 (d.length) 0 (d.length)),(7,.bs true 2 (e.length) 0 (e.length))]) (O':=[.box (i64 0::C1 i64 (Arr.rep 16 0).l) false,.buf 32 (L Es d) false,.buf 1 (L Mc e) false]) [0,1,2]).trans (ws [0,1,2]))
 rintro⟨a,b⟩;refine Jo (fun _=>⟨Al 87 [(4,.ref 0 0)],[.box (i64 0::C1 i64 (Arr.rep 16 0).l) false]⟩) ?_ ?_
 ·intro aM aA;refine T0 [4,6,7,43,44] ?_;refine Sb ?_;refine Lo (fun c=>⟨Al 87 [(4,.ref 0 0),(6,.bs true 1 (a.length) 0 (a.length)),(7,.bs true 2 (b.length) 0 (b.length)),(43,i64 (a.length:Int)),(44,i64 c)],[.box (i64 0::C1 i64 (Arr.rep 16 0).l) false,.buf 32 (L Es a) false,.buf 1 (L Mc b) false]⟩) (ws [0,1,2]) ?_;rintro c aN aB q s;show Gg a b c=some aB->_;unfold Gg;refine T0 [4,6,7,43,44,45] ?_;refine Sq <|Cd ?_ ?_
  ·refine Sk <|Tn <|?_
   refine Jo (fun _=>⟨Al 87 [(4,.ref 0 0),(6,.bs true 1 (a.length) 0 (a.length)),(7,.bs true 2 (b.length) 0 (b.length)),(43,i64 (a.length:Int)),(44,i64 c)],[.box (i64 0::C1 i64 (Arr.rep 16 0).l) false,.buf 32 (L Es a) false,.buf 1 (L Mc b) false]⟩) ?_ ?_
   ·intro aO aC;refine Sb <|T0 [4,6,7,10,43,44] ?_
    refine T0 [4,6,7,10,11,43,44] ?_;refine Sb ?_;refine Lo (fun g=>⟨Al 87 [(4,.ref 0 0),(6,.bs true 1 (a.length) 0 (a.length)),(7,.bs true 2 (b.length) 0 (b.length)),(10,i64 c),(11,i64 g),(43,i64 (a.length:Int)),(44,i64 c)],[.box (i64 0::C1 i64 (Arr.rep 16 0).l) false,.buf 32 (L Es a) false,.buf 1 (L Mc b) false]⟩) (ws [0,1,2]) ?_;rintro g aP aD t u;show EA a b c g=some aD->_;unfold EA;refine Sq <|T0 [4,6,7,10,11,43,44,52] ?_
    refine Cd ?_ ?_
    ·refine Sk <|Tn <|Sq <|Sb <|Ck fun aE =>Ck fun aF =>Bd fun w aG =>De [[],[],[0,1],[0,1,2],[],[],[4,5],[4,5,6],[0,1,2,3,4,5,6,7],[0,1,2,3,4,5,6,7,8],[0,1,2,3,4,5,6,7,8,9],[0,1,2,3,4,5,6,7,8,9],[],[0,1,2,3,4,5,6,7,8,9,10,12],[0,1,2,3,4,5,6,7,8,9,10,11,12,13]] [4,6,7,10,11,12,13,43,44] (o1 64 (IP aG)) (Ew2 (qR aE) (qR aF)) ?_
     refine Tw [4,6,7,10,11,12,43,44,79] (fun x=>⟨Al 87 [(4,.ref 0 0),(6,.bs true 1 (a.length) 0 (a.length)),(7,.bs true 2 (b.length) 0 (b.length)),(10,i64 c),(11,i64 g),(12,.ref 3 0),(43,i64 (a.length:Int)),(44,i64 c),(79,.bool x)],[.box (i64 0::C1 i64 (Arr.rep 16 0).l) false,.buf 32 (L Es a) false,.buf 1 (L Mc b) false,.box (C1 i64 w.1.low.l++C1 i64 w.1.high.l) false]⟩) ?_ ?_
     ·intro _;refine Sp (fun i=>?_) fun i=>?_
      ·refine Ck fun y=>?_
       refine Sp (fun p=>?_) fun p=>?_
       ·refine Ck fun aH=>?_
        exact Lf Ac (Ew4 i (qR y) p (qR aH)) (ws [0,1,2,3])
       exact Lf Ac (Ew3 i (qR y) p) (ws [0,1,2,3])
      exact Lf Ac (Ew1 i) (ws [0,1,2,3])
     intro x;refine Cd ?_ ?_
     ·refine Bd fun aQ aI =>Te [2,3,4,5] (o1 84 (Uc aI)) Ev ?_
      exact Sr <|Br <|Tr <|Lr u t <|Br <|Br <|Jr aC <|Lr s q <|Br <|Jr aA <|Rr
     refine Sk <|Bn <|Tn <|F0 [4,6,7,10,11,43,44] ?_
     exact Ln (ws [0,1,2])
    refine Sx <|Tx <|Lx u t <|Bx <|Bn <|?_
    exact Jn ((ws (l':=[(4,.ref 0 0),(6,.bs true 1 (a.length) 0 (a.length)),(7,.bs true 2 (b.length) 0 (b.length)),(43,i64 (a.length:Int)),(44,i64 c)]) (O':=[.box (i64 0::C1 i64 (Arr.rep 16 0).l) false,.buf 32 (L Es a) false,.buf 1 (L Mc b) false]) [0,1,2]).trans (ws [0,1,2]))
   intro _;refine F0 [4,6,7,43,44] ?_;exact Ln (ws [0,1,2])
  refine Sx <|Tx <|Lx s q <|Bx <|?_
  exact Jn ((ws (l':=[(4,.ref 0 0)]) (O':=[.box (i64 0::C1 i64 (Arr.rep 16 0).l) false]) [0]).trans (ws [0]))
 intro _;refine T0 [2,3,4,5] ?_;exact Sr <|Rr
theorem Qj{a r}(h:E4 a=some r):Con (B rs) 42 [.agg (Af a)] [] (fun r' O'=>r'=i64 r/\O'=[]):=by
 refine Cw 34 [.tmp 2] Tryz.func42 (fun F hE=>?_) h;unfold E4;refine T0 [1] ?_;refine Jo (fun _=>⟨Al 34 [(1,.ref 0 0)],[.box (Af a) false]⟩) ?_ ?_
 ·intro y e;refine T0 [1,12,13,14] ?_;refine Sb ?_;refine Lo (fun b=>⟨Al 34 [(1,.ref 0 0),(12,.sl false (L Ab a.Zf)),(13,i64 (a.Zf.length:Int)),(14,i64 b)],[.box (Af a) false]⟩) (ws [0]) ?_;rintro b z f c d;show Hy a b=some f->_;unfold Hy;refine T0 [1,12,13,14,15] ?_;refine Sq <|Cd ?_ ?_
  ·refine Sk <|Tn <|Sq <|Sb <|Ck fun g =>Lt fun i j =>Lt fun k m =>Lt fun n o =>Lt fun p q =>Lt fun s t =>Lt fun u v =>Te (O':=[_,.box (.str i::.sl false (L Ae k)::i64 n::i64 p::(C1 i64 s.l++[.sl false (L cApi_Expr u)])) false]) [1,4,12,13,14] Ac (Ev (by simp only[go_sem,qR g,j,m,o,q,t,v];exact CL)) ?_
   refine Bd fun aa w =>Te [1,6,12,13,14] (o1 20 (OB w)) Ev ?_
   refine T0 [1,12,13,14,24] ?_;refine Cd ?_ ?_
   ·refine T0 [2] ?_;exact Sr <|Br <|Tr <|Lr d c <|Br <|Jr e <|Rr
   refine Sk <|Bn <|Tn <|F0 [1,12,13,14] ?_
   exact Ln (ws [0])
  refine Sx <|Tx <|Lx d c <|Bx <|?_
  exact Jn ((ws (l':=[(1,.ref 0 0)]) (O':=[.box (Af a) false]) [0]).trans (ws [0]))
 intro _;refine Sq <|Bd fun ab x =>Te [10] (o1 28 (NT x)) Ev ?_
 refine T0 [33] ?_;refine Cd ?_ ?_
 ·refine T0 [2] ?_;exact Sr <|Tr <|Rr
 refine Sk <|Tn <|T0 [2] ?_
 exact Sr <|Rr
variable {rs:AoH}
theorem MZ{a r}(h:Hz a=some r):Con (B rs) 119 [.sl false (L (Ql i64 4) a)] [] (fun r' O'=>r'=.tup [.agg (C1 i64 r.1.l),.bool r.2]/\O'=[]):=by
 refine Cw 14 [.cell 2 42,.tmp 3] Tryz.func119 (fun F hE=>?_) h;unfold Hz;refine T0 [0,2] ?_;refine Ck fun b =>Ck fun c =>Ck fun d =>?_
 intro h;refine TC hE H8 [[],[0],[0,1],[],[3],[3,4],[],[6],[6,7],[3,4,5,6,7,8],[0,1,2],[0,1,2,3,4,5,6,7,8,9,10]] (by kernel_rfl) [(2,0)] [] [] [7,8,10,11] [2,3,7,8,10,11] (by kernel_rfl) (fr':=[(2,.ref 0 0),(3,.bool (nth a 0==nth a 1)),(7,.sl false (L (Ql i64 4) a)),(8,.rp (C1 i64 (nth a 0).l)),(10,.sl false (L (Ql i64 4) a)),(11,.rp (C1 i64 (nth a 1).l))]) (O':=[.box (C1 i64 (nth a 0).l) false]) ⟨rfl,trivial⟩ trivial ⟨rfl,rfl,rfl,rfl,trivial⟩ ⟨_,_,Ac,(by simp only[XOk]),?_⟩ ?_
 ·simp only[go_sem,qL b,qL c,qL d]
 revert h;exact Sr <|Rr
theorem Nq{b r}(h:Hr b=some r):Con (B rs) 120 [.sl false (L (Ql i64 4) b)] [] (fun r' O'=>r'=.tup [.agg (C1 i64 r.1.l),.bool r.2]/\O'=[]):=by
 refine Cw 23 [.cell 2 42,.tmp 3] Tryz.func120 (fun F hE=>?_) h;unfold Hr;refine T0 [0,2] ?_;refine Vw [[],[0],[0,1],[],[3],[3,4],[],[6],[6,7],[3,4,5,6,7,8],[3,4,5,6,7,8,9],[3,4,5,6,7,8,9,10],[3,4,5,6,7,8,9,10,11],[3,4,5,6,7,8,9,10,11,12],[3,4,5,6,7,8,9,10],[3,4,5,6,7,8,9,10,14],[3,4,5,6,7,8,9,10,14,15],[3,4,5,6,7,8,9,10,11,12,13,14,15,16],[3,4,5,6,7,8,9,10,11,12,13,14,15,16,17],[0,1,2,3,4,5,6,7,8,9,10],[0,1,2,3,4,5,6,7,8,9,10,11,12,13,14,15,16,17,18,19]] [2,3,14,15,16,18,19] [] [] [] [15,16,18,19] 14 (fun c=>⟨Al 23 [(2,.ref 0 0),(3,.bool c)],[.box (C1 i64 (nth b 2).l) false]⟩) ?_ ?_
 ·intro _;refine Ck fun d =>Ck fun e =>Ck fun f =>?_
  refine Sp (fun a=>?_) fun a=>?_
  ·refine Ck fun g =>Ck fun i =>?_
   exact Lv Ac (by simp only[XOk]) (Ev (by simp only[go_sem,qL d,qL e,qL f,a,qL g,qL i];exact CL)) (by exact fun _=>⟨trivial,trivial,⟨rfl,rfl,rfl,rfl,trivial⟩⟩) (ws [0])
  exact Lv Ac (by simp only[XOk]) (Ew4 (qL d) (qL e) (qL f) a) (by exact fun h=>absurd (AV.bool.inj h) (by first|exact a|simp[a])) (ws [0])
 intro c;exact Sr <|Rr
theorem MG{a b r}(h:Ga a b=some r):Con (B rs) 165 [.sl false (L (Ql i64 4) a),.rp [i64 b]] [] (fun r' O'=>r'=.tup [.agg (C1 i64 r.1.l),.bool r.2]/\O'=[]):=by
 refine Co 0 37 [.cell 3 42,.tmp 4] Tryz.func165 (fun F hE=>?_) h;unfold Ga;refine T0 [0,1,3] ?_;refine Jo (fun d=>⟨Al 37 [(3,.ref 0 0)],[.box (C1 i64 d.l) false]⟩) ?_ ?_
 ·intro aa n;refine T0 [0,1,3,6] ?_;refine Sb ?_;refine Lo (fun(v:Int×Arr Int 4)=>(⟨Al 37 [(0,.sl false (L (Ql i64 4) a)),(1,.rp [i64 b]),(3,.ref 0 0),(6,i64 v.1)],[.box (C1 i64 v.2.l) false]⟩:St)) (ws [0]) ?_;rintro⟨e,f⟩ ab o g i;show FI a b e f=some o->_;unfold FI;refine T0 [0,1,3,6,7] ?_;refine Sq <|Cd ?_ ?_
  ·refine Sk <|Tn <|Sq <|Sb <|T0 [0,1,3,5,6] ?_
   refine Ck fun p =>Ck fun q =>Ck fun s =>Ck fun t =>Ck fun u =>Lt fun j w =>De (O':=[.box (C1 i64 j.l) false]) [[],[],[],[1],[1,2,3],[1,2,3,4],[],[],[],[7],[7,8,9],[7,8,9,10],[6,7,8,9,10,11],[1,2,3,4,5,6,7,8,9,10,11,12],[0,1,2,3,4,5,6,7,8,9,10,11,12,13],[0,1,2,3,4,5,6,7,8,9,10,11,12,13,14]] [0,1,3,5,6] Ac (Ev (by simp only[go_sem,qL p,qR q,qL s,qR t,qR u,w];exact CL)) ?_
   refine Tw [0,1,3,6,33] (fun k=>⟨Al 37 [(0,.sl false (L (Ql i64 4) a)),(1,.rp [i64 b]),(3,.ref 0 0),(6,i64 e),(33,.bool k)],[.box (C1 i64 j.l) false]⟩) ?_ ?_
   ·intro _;refine Ck fun m=>?_
    refine Sp (fun c=>?_) fun c=>?_
    ·exact Lf Ac (Ew2 (qR m) c) (ws [0])
    refine Ck fun x=>?_
    exact Lf Ac (Ew3 (qR m) c (qR x)) (ws [0])
   intro k;refine Cd ?_ ?_
   ·refine Lt fun y z =>Te (O':=[.box (C1 i64 y.l) false]) [3,4] Ac (Ev (by simp only[go_sem,Iy,IX,G4,z];exact CL)) ?_
    exact Sr <|Br <|Tr <|Lr i g <|Br <|Jr n <|Ro []
   refine Sk <|Bn <|Tn <|F0 [0,1,3,6] ?_
   exact Ln (ws [0])
  refine Sx <|Tx <|Lx i g <|Bx <|?_
  exact Jn ((ws (l':=[(3,.ref 0 0)]) (O':=[.box (C1 i64 f.l) false]) [0]).trans (ws [0]))
 intro d;refine T0 [3,4] ?_;exact Sr <|Ro []
theorem FZ{a r}(h:GK a=some r):Con (B rs) 121 [i64 a] [] (fun r' O'=>r'=.agg [.fn 165 [.rp [i64 r]]]/\O'=[]):=by
 refine Co 0 5 [.cell 2 201] Tryz.func121 (fun F hE=>?_) h;unfold GK;refine T0 [1,2] ?_;refine T0 [2] ?_;refine Sr ?_;refine Wp ((Wm 1 0 (cs':=[.fn 165 [.rp [i64 a]]]) (O':=[.box [i64 a] true,.box [.fn 165 [.rp [i64 a]]] false]) rfl (by decide) (by simp only[go_sem,ApL,reduceIte]) (by rfl)).trans (Weak.refl _ _)) ?_;exact Po []
theorem Pp{r}(h:ttype_rules  = some r):Con (B rs) 79 [] [] (fun r' O'=>r'=.mref 0/\O'=[.mp false (MI Ek r)]):=by
 refine Co 0 16 [.tmp 0] Tryz.func79 (fun F hE=>?_) h;unfold ttype_rules;refine T0 [] ?_;refine T0 [1] ?_;refine T0 [1,2] ?_;refine Bd fun g a =>Bd fun i b =>Bd fun j c =>Bd fun k d =>Lt fun e f =>De (O':=[_,_,.mp false (MI Ek e)]) [[],[],[0,1],[],[0,3],[],[0,5],[],[0,7],[],[0,9],[9],[0,9,11],[9,11],[0,9,11,13],[9,11,13],[0,9,11,13,15],[],[0,17],[0,1,2,3,4,5,6,7,8,9,10,11,12,13,14,15,16,17,18],[0,1,2,3,4,5,6,7,8,9,10,11,12,13,14,15,16,17,18,19]] [0] (P6 (l:=[(10,_,_,_),(11,_,_,_),(12,_,_,_),(13,_,_,_)]) ⟨FZ  a,FZ  b,FZ  c,FZ  d,trivial⟩) (Ew1 f) ?_
 exact Sr <|Ro [2]
theorem KX{r}(h:ttype_attributes  = some r):Con (B rs) 122 [] [] (fun r' O'=>r'=.agg (C1 i64 r.1.l++(C1 i64 r.2.1.l++(C1 i64 r.2.2.1.l++(C1 i64 r.2.2.2.1.l++(C1 i64 r.2.2.2.2.1.l++(C1 i64 r.2.2.2.2.2.1.l++(C1 i64 r.2.2.2.2.2.2.1.l++(C1 i64 r.2.2.2.2.2.2.2.1.l++(C1 i64 r.2.2.2.2.2.2.2.2.1.l++(C1 i64 r.2.2.2.2.2.2.2.2.2.1.l++(C1 i64 r.2.2.2.2.2.2.2.2.2.2.1.l++(C1 i64 r.2.2.2.2.2.2.2.2.2.2.2.1.l++(C1 i64 r.2.2.2.2.2.2.2.2.2.2.2.2.1.l++(C1 i64 r.2.2.2.2.2.2.2.2.2.2.2.2.2.1.l++(C1 i64 r.2.2.2.2.2.2.2.2.2.2.2.2.2.2.1.l++C1 i64 r.2.2.2.2.2.2.2.2.2.2.2.2.2.2.2.l)))))))))))))))/\O'=[]):=by
 refine Cw 8 [.cell 0 203] Tryz.func122 (fun F hE=>?_) h;unfold ttype_attributes;refine T0 [0] ?_;refine Lt fun c d =>Lt fun e f =>Lt fun a g =>Lt fun b i =>Te (O':=[.box (C1 i64 (Arr.rep 4 0).l++(C1 i64 (Arr.rep 4 0).l++(C1 i64 (Arr.rep 4 0).l++(C1 i64 (Arr.rep 4 0).l++(C1 i64 (Arr.rep 4 0).l++(C1 i64 c.l++(C1 i64 e.l++(C1 i64 a.l++(C1 i64 a.l++(C1 i64 (Arr.rep 4 0).l++(C1 i64 b.l++(C1 i64 b.l++(C1 i64 (Arr.rep 4 0).l++(C1 i64 (Arr.rep 4 0).l++(C1 i64 (Arr.rep 4 0).l++C1 i64 (Arr.rep 4 0).l))))))))))))))) false]) [0] Ac (Ev (by simp only[go_sem,Iy,IX,G4,Iy,IX,G4,Iy,IX,G4,Iy,IX,G4,Iy,IX,G4,Iy,IX,G4,d,f,g,i];exact CL)) ?_
 exact Sr <|Rr
theorem NP{rec_:JD->AoM->Option (Arr Int 4×Bool)}(hrec:∀{b:JD} {a:AoM} {r:Arr Int 4×Bool},rec_ b a=some r->Con (B rs) 80 [.mref 0,.agg (i64 a.Op::i64 a.N::(C1 i64 a.Unit.l++[.sl false (L cApi_Expr a.L)]))] [.mp false (MI Ek b)] (fun r' O'=>r'=.tup [.agg (C1 i64 r.1.l),.bool r.2]/\O'=[.mp false (MI Ek b)])){b:JD}{a:AoM}{r:Arr Int 4×Bool}(h:Hd rec_ b a=some r):Con (B rs) 80 [.mref 0,.agg (i64 a.Op::i64 a.N::(C1 i64 a.Unit.l++[.sl false (L cApi_Expr a.L)]))] [.mp false (MI Ek b)] (fun r' O'=>r'=.tup [.agg (C1 i64 r.1.l),.bool r.2]/\O'=[.mp false (MI Ek b)]):=by
 refine Ih (N:=58) (rs:=[.cell 4 42,.tmp 5]) 1 rfl ok Tryz.func80 rfl (by decide +kernel) rfl rfl (Apj rfl) (fun F=>?_);have hE:=(ok (rs:=rs)).env F;unfold Hd at h;show Run ((B rs).env F) 1 _ ⟨Al 58 [(0,.mref 0),(1,.agg (i64 a.Op::i64 a.N::(C1 i64 a.Unit.l++[.sl false (L cApi_Expr a.L)])))],[.mp false (MI Ek b)]⟩ _;refine BR ?_;revert h;refine T0 [0,3,4] ?_;refine Sq <|T0 [0,3,4,12] ?_
 refine Sb <|T0 [0,3,4,12,13] ?_
 refine Cd ?_ ?_
 ·refine T0 [4,5] ?_;exact Sr <|Br <|Tr <|Ro [0]
 refine T0 [0,3,4,17] ?_;refine Cd ?_ ?_
 ·refine Bd fun aw q =>Ck fun s =>Lt fun t u =>De (O':=[_,_,.box (C1 i64 t.l) false]) [[],[],[1],[0,1,2],[0,1,2,3],[0,1,2,3,4]] [4,5] (o1 19 (KX q)) (Ew2 (qR s) u) ?_
  exact Sr <|Br <|Tr <|Ro [0]
 refine Sk <|Bn <|Tn <|T0 [0,3,4,6] ?_
 refine Jo (fun c=>⟨Al 58 [(0,.mref 0),(3,.ref 1 0),(4,.ref 2 0),(6,.bs false 3 (c.length) 0 (c.length))],[.mp false (MI Ek b),.box (i64 a.Op::i64 a.N::(C1 i64 a.Unit.l++[.sl false (L cApi_Expr a.L)])) false,.box (C1 i64 (Arr.rep 4 0).l) false,.buf 4 (L (Ql i64 4) c) false]⟩) ?_ ?_
 ·intro ax w;refine T0 [0,3,4,6,24,25,26] ?_;refine Sb ?_;refine Lo (fun(v:Int×List (Arr Int 4))=>(⟨Al 58 [(0,.mref 0),(3,.ref 1 0),(4,.ref 2 0),(6,.bs false 3 (v.2.length) 0 (v.2.length)),(24,.sl false (L cApi_Expr a.L)),(25,i64 (a.L.length:Int)),(26,i64 v.1)],[.mp false (MI Ek b),.box (i64 a.Op::i64 a.N::(C1 i64 a.Unit.l++[.sl false (L cApi_Expr a.L)])) false,.box (C1 i64 (Arr.rep 4 0).l) false,.buf 4 (L (Ql i64 4) v.2) false]⟩:St)) ((LV 6 4 rfl).trans (ws [0,1,2,3])) ?_;rintro⟨z,d⟩ ay aa o p;show Hx b a rec_ z d=some aa->_;unfold Hx;refine T0 [0,3,4,6,24,25,26,27] ?_;refine Sq <|Cd ?_ ?_
  ·refine Sk <|Tn <|Sq <|Sb <|Ck fun ab =>Lt fun e ac =>Lt fun f ad =>Lt fun g ae =>Lt fun i af =>Te (O':=[_,_,_,_,.box (i64 e::i64 f::(C1 i64 g.l++[.sl false (L cApi_Expr i)])) false]) [0,3,4,6,8,24,25,26] Ac (Ew5 (qR ab) ac ad ae af) ?_
   refine Bd fun az ag =>Te [0,3,4,6,9,10,24,25,26] (Ag (l:=[]) (m:=[(33,80,[.mref 0,.agg (i64 e::i64 f::(C1 i64 g.l++[.sl false (L cApi_Expr i)]))],[.mp false (MI Ek b),.box (i64 a.Op::i64 a.N::(C1 i64 a.Unit.l++[.sl false (L cApi_Expr a.L)])) false,.box (C1 i64 (Arr.rep 4 0).l) false,.buf 4 (L (Ql i64 4) d) false,.box (i64 e::i64 f::(C1 i64 g.l++[.sl false (L cApi_Expr i)])) false],_,_)]) trivial ⟨(wc (hrec ag) [0]),trivial⟩) Ev ?_
   refine Sq <|T0 [0,3,4,6,9,24,25,26,37] ?_
   refine Cd ?_ ?_
   ·refine Lt fun ah ai =>Te (O':=[_,_,.box (C1 i64 ah.l) false,_,_,_]) [4,5] Ac (Ev (by simp only[go_sem,Iy,IX,G4,ai];exact CL)) ?_
    exact Sr <|Tr <|Br <|Tr <|Lr p o <|Br <|Jr w <|Ro [0]
   refine Sk <|Tn <|Ck fun aj =>Lt fun j ak =>Fe (fr':=[(0,_),(3,_),(4,_),(6,.bs false 3 (j.length) 0 (j.length)),(24,_),(25,_),(26,_)]) (O':=[_,_,_,.buf 4 (L (Ql i64 4) j) false,_,_,_]) [0,3,4,6,24,25,26] Ac (Ew2 aj ak) ?_
   refine Bn <|Tn <|F0 [0,3,4,6,24,25,26] ?_
   exact Ln (ws [0,1,2,3])
  refine Sx <|Tx <|Lx p o <|Bx <|?_
  exact Jn ((ws (l':=[(0,.mref 0),(3,.ref 1 0),(4,.ref 2 0),(6,.bs false 3 (d.length) 0 (d.length))]) (O':=[.mp false (MI Ek b),.box (i64 a.Op::i64 a.N::(C1 i64 a.Unit.l++[.sl false (L cApi_Expr a.L)])) false,.box (C1 i64 (Arr.rep 4 0).l) false,.buf 4 (L (Ql i64 4) d) false]) [0,1,2,3]).trans (ws [0,1,2,3]))
 intro c;refine Sq ?_;by_cases hmf119:((b a.Op).getD ⟨0,0⟩).k=119
 ·refine Ip hmf119 ?_;refine Bd fun aA al =>Te [4,5] (o1 51 (MZ al)) (Ew1 (K7 hmf119)) ?_
  refine Te [4,55] Ac (Ew1 (K7 hmf119)) ?_;refine Cd ?_ ?_
  ·refine Lt fun am an =>Te (O':=[_,_,.box (C1 i64 am.l) false,_]) [4,5] Ac (Ev (by simp only[go_sem,K7 hmf119,Iy,IX,G4,an];exact CL)) ?_
   exact Sr <|Tr <|Ro [0]
  refine Sk <|Tn <|Te [4,5] Ac (Ew1 (K7 hmf119)) ?_
  exact Sr <|Ro [0]
 refine In hmf119 ?_;by_cases hmf120:((b a.Op).getD ⟨0,0⟩).k=120
 ·refine Ip hmf120 ?_;refine Bd fun aB ao =>Te [4,5] (o1 51 (Nq ao)) (Ew1 (KI hmf120)) ?_
  refine Te [4,55] Ac (Ew1 (KI hmf120)) ?_;refine Cd ?_ ?_
  ·refine Lt fun ap aq =>Te (O':=[_,_,.box (C1 i64 ap.l) false,_]) [4,5] Ac (Ev (by simp only[go_sem,KI hmf120,Iy,IX,G4,aq];exact CL)) ?_
   exact Sr <|Tr <|Ro [0]
  refine Sk <|Tn <|Te [4,5] Ac (Ew1 (KI hmf120)) ?_
  exact Sr <|Ro [0]
 refine In hmf120 ?_;by_cases hmf165:((b a.Op).getD ⟨0,0⟩).k=165
 ·refine Ip hmf165 ?_;refine Rw (OW 6 (x:=.bs false 3 (c.length) 0 (c.length)) (y:=.sl false (L (Ql i64 4) c)) (O':=[.mp false (MI Ek b),.box (i64 a.Op::i64 a.N::(C1 i64 a.Unit.l++[.sl false (L cApi_Expr a.L)])) false,.box (C1 i64 (Arr.rep 4 0).l) false,.buf 4 (L (Ql i64 4) c) true]) rfl gs rfl) ?_;refine Bd fun aC ar =>Te [4,5] (Ag (l:=[]) (m:=[(51,165,[.sl false (L (Ql i64 4) c),.rp [i64 (((b a.Op).getD ⟨0,0⟩).n)]],[.mp false (MI Ek b),.box (i64 a.Op::i64 a.N::(C1 i64 a.Unit.l++[.sl false (L cApi_Expr a.L)])) false,.box (C1 i64 (Arr.rep 4 0).l) false,.buf 4 (L (Ql i64 4) c) true],_,_)]) trivial ⟨(wc (MG ar) []),trivial⟩) (Ew1 (KA hmf165)) ?_
  refine Te [4,55] Ac (Ew1 (KA hmf165)) ?_;refine Cd ?_ ?_
  ·refine Lt fun au av =>Te (O':=[_,_,.box (C1 i64 au.l) false,_]) [4,5] Ac (Ev (by simp only[go_sem,KA hmf165,Iy,IX,G4,av];exact CL)) ?_
   exact Sr <|Tr <|Ro [0]
  refine Sk <|Tn <|Te [4,5] Ac (Ew1 (KA hmf165)) ?_
  exact Sr <|Ro [0]
 refine In hmf165 ?_;intro h;cases h
theorem NI(n:Nat):∀{b:JD} {a:AoM} {r:Arr Int 4×Bool},GW n b a=some r->Con (B rs) 80 [.mref 0,.agg (i64 a.Op::i64 a.N::(C1 i64 a.Unit.l++[.sl false (L cApi_Expr a.L)]))] [.mp false (MI Ek b)] (fun r' O'=>r'=.tup [.agg (C1 i64 r.1.l),.bool r.2]/\O'=[.mp false (MI Ek b)]):=by
 induction n with
 |zero=>intro b a r h;cases h
 |succ n ih=>intro b a r h;exact NP ih h
theorem Qf{b:JD}{a:AoM}{r:Arr Int 4×Bool}(h:QD b a=some r):Con (B rs) 80 [.mref 0,.agg (i64 a.Op::i64 a.N::(C1 i64 a.Unit.l++[.sl false (L cApi_Expr a.L)]))] [.mp false (MI Ek b)] (fun r' O'=>r'=.tup [.agg (C1 i64 r.1.l),.bool r.2]/\O'=[.mp false (MI Ek b)]):=NI _ h
variable {rs:AoH}
theorem PZ{a r}(h:HE a=some r):Con (B rs) 40 [.agg (Af a)] [] (fun r' O'=>r'=.tup [i64 r.1,i64 r.2]/\O'=[]):=by
 refine Cw 39 [.tmp 2,.tmp 3] Tryz.func40 (fun F hE=>?_) h;unfold HE;refine T0 [1] ?_;refine Sq <|Bd fun ad q =>Te [1,3] (o1 10 (Hi q)) Ev ?_
 refine T0 [1,3,12] ?_;refine Cd ?_ ?_
 ·refine T0 [2,3] ?_;exact Sr <|Tr <|Rr
 refine Sk <|Tn <|Bd fun c s =>Te [1,4] (Ag (l:=[]) (m:=[(14,79,[],[.box (Af a) false],_,_)]) trivial ⟨(wc (Pp s) []),trivial⟩) Ev ?_
 refine Jo (fun _=>⟨Al 39 [],[]⟩) ?_ ?_
 ·intro ae t;refine T0 [4,16,17,18] ?_;refine Sb ?_;refine Lo (fun b=>⟨Al 39 [(4,.mref 0),(16,.sl false (L Ab a.Zf)),(17,i64 (a.Zf.length:Int)),(18,i64 b)],[.mp false (MI Ek c)]⟩) (ws [1]) ?_;rintro b af u j k;show GO a c b=some u->_;unfold GO;refine T0 [4,16,17,18,19] ?_;refine Sq <|Cd ?_ ?_
  ·refine Sk <|Tn <|Sq <|Sb <|Ck fun v =>Lt fun n w =>Lt fun o x =>Lt fun d y =>Lt fun e z =>Lt fun f aa =>Lt fun g ab =>Te (O':=[_,.box (.str n::.sl false (L Ae o)::i64 d::i64 e::(C1 i64 f.l++[.sl false (L cApi_Expr g)])) false]) [4,5,6,16,17,18] Ac (Ev (by simp only[go_sem,qR v,w,x,y,z,aa,ab];exact CL)) ?_
   refine Bd fun ag ac =>Te [4,5,7,8,16,17,18] (Ag (l:=[]) (m:=[(27,80,[.mref 0,.agg (i64 d::i64 e::(C1 i64 f.l++[.sl false (L cApi_Expr g)]))],[.mp false (MI Ek c),.box (.str n::.sl false (L Ae o)::i64 d::i64 e::(C1 i64 f.l++[.sl false (L cApi_Expr g)])) false],_,_)]) trivial ⟨(wc (Qf ac) [0]),trivial⟩) Ev ?_
   refine Tw [4,5,16,17,18,36] (fun p=>⟨Al 39 [(4,.mref 0),(5,i64 b),(16,.sl false (L Ab a.Zf)),(17,i64 (a.Zf.length:Int)),(18,i64 b),(36,.bool p)],[.mp false (MI Ek c)]⟩) ?_ ?_
   ·intro _;refine Sp (fun i=>?_) fun i=>?_
    ·exact Lf Ac (Ew1 i) (ws [0])
    exact Lf Ac (Ev (by simp only[go_sem,i,Iy,IX,G4];exact CL)) (ws [0])
   intro p;refine Cd ?_ ?_
   ·refine T0 [2,3] ?_;exact Sr <|Br <|Tr <|Lr k j <|Br <|Jr t <|Rr
   refine Sk <|Bn <|Tn <|F0 [4,16,17,18] ?_
   exact Ln (ws [0])
  refine Sx <|Tx <|Lx k j <|Bx <|?_
  exact Jn ((ws (l':=[]) (O':=[]) []).trans (ws []))
 intro _;refine T0 [2,3] ?_;exact Sr <|Rr
theorem C3{e a b r}(h:Aw e a b=some r):Con (B rs) 117 [.bs false 0 (e.length) 0 (e.length),i64 a,i64 b,.fn 33 []] [.buf 21 (L Ah e) false] (fun r' O'=>r'=.tup []/\O'=[.buf 21 (L Ah r) false]):=by
 refine Co 1 53 [] Tryz.func117 (fun F hE=>?_) h;unfold Aw;refine T0 [0,1,2,3,8] ?_;refine Sb ?_;refine Lo (fun(v:Int×List AoT)=>(⟨Al 53 [(0,.bs false 0 (v.2.length) 0 (v.2.length)),(1,i64 a),(2,i64 b),(3,.fn 33 []),(8,i64 v.1)],[.buf 21 (L Ah v.2) false]⟩:St)) (ws [0]) ?_;rintro⟨d,l⟩ ac m n o;show AW a b d l=some m->_;unfold AW;refine Sq <|T0 [0,1,2,3,8,14] ?_
 refine Cd ?_ ?_
 ·refine Sk <|Tn <|?_
  refine Ja (fun f=>⟨Al 53 [(0,.bs false 0 (f.length) 0 (f.length)),(1,i64 a),(2,i64 b),(3,.fn 33 []),(8,i64 d)],[.buf 21 (L Ah f) false]⟩) ?_ ?_
  ·intro ad;refine Sb <|T0 [0,1,2,3,8,9] ?_
   refine Sb ?_;refine Lo (fun(v:Int×List AoT)=>(⟨Al 53 [(0,.bs false 0 (v.2.length) 0 (v.2.length)),(1,i64 a),(2,i64 b),(3,.fn 33 []),(8,i64 d),(9,i64 v.1)],[.buf 21 (L Ah v.2) false]⟩:St)) (ws [0]) ?_;rintro⟨j,c⟩ ae p q s;show Az a j c=some p->_;unfold Az;refine Sq ?_;refine Dw [[],[],[0,1],[0,1,2],[0,1,2,3],[0,1,2,3],[0,1,2,3],[0,1,2,3,5,6],[0,1,2,3,5,6,7],[0,1,2,3],[0,1,2,3],[0,1,2,3,10],[0,1,2,3,9,10,11],[0,1,2,3,9,10,11,12],[0,1,2,3,4,5,6,7,8,9,10,11,12,13],[0,1,2,3,4,5,6,7,8,9,10,11,12,13,14],[0,1,2,3,4,5,6,7,8,9,10,11,12,13,14,15]] [0,1,2,3,8,9,34] (fun k=>⟨Al 53 [(0,.bs false 0 (c.length) 0 (c.length)),(1,i64 a),(2,i64 b),(3,.fn 33 []),(8,i64 d),(9,i64 j),(34,.bool k)],[.buf 21 (L Ah c) false]⟩) ?_ ?_
   ·intro _;refine Sp (fun g=>?_) fun g=>?_
    ·refine Ck fun t =>Ck fun u =>Bd fun af w =>?_
     exact Lf (o1 32 (Jz w)) (Ew3 g (qR t) (qR u)) (ws [0])
    exact Lf Ac (Ew1 g) (ws [0])
   intro k;refine Cd ?_ ?_
   ·refine Sk <|Tn <|Sq <|Sb <|Ck fun x =>Ck fun y =>Ck fun z =>Ck fun aa =>Lt fun i ab =>Ge (fr':=[(0,.bs false 0 (i.length) 0 (i.length)),(1,_),(2,_),(3,_),(8,_),(9,_)]) (O':=[.buf 21 (L Ah i) false]) [[],[],[],[],[3],[],[],[6],[5,6,7],[5,6,7,8],[],[],[10,11],[10,11,12],[0,1,5,6,7,8,9,10,11,12,13],[0,1,5,6,7,8,9,10,11,12,13,14],[0,1,2,3,4,5,6,7,8,9,10,11,12,13,14,15],[0,1,2,3,4,5,6,7,8,9,10,11,12,13,14,15,16]] [0,1,2,3,8,9] Ac (Ew5 (qR x) (qR y) (qR z) (qR aa) ab) ?_
    refine Bn <|Tn <|F0 [0,1,2,3,8,9] ?_
    exact Ln (ws [0])
   refine Sx <|Tx <|Ly s q <|Bx <|Bn <|?_
   exact Jm ((ws (l':=[(0,.bs false 0 (c.length) 0 (c.length)),(1,i64 a),(2,i64 b),(3,.fn 33 []),(8,i64 d)]) (O':=[.buf 21 (L Ah c) false]) [0]).trans (ws [0]))
  intro f;refine F0 [0,1,2,3,8] ?_;exact Ln (ws [0])
 exact Sx <|Tx <|Ly o n <|Bx <|Ro [0]
theorem FX{f b r}(h:BH f b=some r):Con (B rs) 77 [.bs false 0 (f.length) 0 (f.length),i64 b,.fn 33 []] [.buf 21 (L Ah f) false] (fun r' O'=>r'=.tup []/\O'=[.buf 21 (L Ah r) false]):=by
 refine Co 1 63 [] Tryz.func77 (fun F hE=>?_) h;unfold BH;refine T0 [0,1,2,6] ?_;refine T0 [0,1,2,6,7,8] ?_;refine Ja (fun(v:Int×List AoT)=>(⟨Al 63 [(0,.bs false 0 (v.2.length) 0 (v.2.length)),(1,i64 b),(2,.fn 33 []),(6,i64 20),(7,i64 v.1)],[.buf 21 (L Ah v.2) false]⟩:St)) ?_ ?_
 ·intro ab;refine Sb ?_;refine Lo (fun⟨e,g,c⟩=>⟨Al 63 [(0,.bs false 0 (c.length) 0 (c.length)),(1,i64 b),(2,.fn 33 []),(6,i64 20),(7,i64 e),(8,i64 g)],[.buf 21 (L Ah c) false]⟩) (ws [0]) ?_;rintro⟨e,g,c⟩ ac j k n;show AF b e g c=some j->_;unfold AF;refine Sq <|T0 [0,1,2,6,7,8,13] ?_
  refine Cd ?_ ?_
  ·refine Sk <|Tn <|Sb <|Bd fun ad o =>Ck fun p =>Te [0,1,2,6,8] (Ag (l:=[]) (m:=[(18,117,[.bs false 0 (c.length) 0 (c.length),i64 e,i64 g,.fn 33 []],[.buf 21 (L Ah c) false],_,_)]) trivial ⟨(wc (C3 o) [0]),trivial⟩) (Ew1 p) ?_
   refine T0 [0,1,2,6,7,8] ?_;refine F0 [0,1,2,6,7,8] ?_;exact Bn <|Ln (ws [0])
  refine Sx <|Tx <|Ly n k <|Bx <|?_
  exact Jm ((ws (l':=[(0,.bs false 0 (c.length) 0 (c.length)),(1,i64 b),(2,.fn 33 []),(6,i64 20),(7,i64 e)]) (O':=[.buf 21 (L Ah c) false]) [0]).trans (ws [0]))
 rintro⟨q,i⟩;refine Bd fun a s =>Ck fun t =>Te [0,1,2,6] (Ag (l:=[]) (m:=[(27,117,[.bs false 0 (i.length) 0 (i.length),i64 q,i64 b,.fn 33 []],[.buf 21 (L Ah i) false],_,_)]) trivial ⟨(wc (C3 s) [0]),trivial⟩) (Ew1 t) ?_
 refine Sb ?_;refine Lo (fun d=>⟨Al 63 [(0,.bs false 0 (a.length) 0 (a.length)),(1,i64 b),(2,.fn 33 []),(6,i64 d)],[.buf 21 (L Ah a) false]⟩) (ws [0]) ?_;rintro d ae u w x;show AE b d=some u->_;unfold AE;refine Sq <|T0 [0,1,2,6,30] ?_
 refine Cd ?_ ?_
 ·refine Sk <|Tn <|Sb <|T0 [0,1,2,6,7,8] ?_
  refine Ja (fun _=>⟨Al 63 [(0,.bs false 0 (a.length) 0 (a.length)),(1,i64 b),(2,.fn 33 []),(6,i64 d),(7,i64 0)],[.buf 21 (L Ah a) false]⟩) ?_ ?_
  ·intro af;refine Sb ?_;refine Lo (fun _=>⟨Al 63 [(0,.bs false 0 (a.length) 0 (a.length)),(1,i64 b),(2,.fn 33 []),(6,i64 d),(7,i64 0),(8,i64 (w64 (2*d)))],[.buf 21 (L Ah a) false]⟩) (ws [0]) ?_;rintro⟨⟩ ag y z aa;show Cj b d  = some y->_;unfold Cj;refine Sq <|T0 [0,1,2,6,7,8,35] ?_
   refine Cd ?_ ?_
   ·exact Sk <|Tn <|Sb <|Rn
   refine Sx <|Tx <|Ly aa z <|Bx <|?_
   exact Jm ((ws (l':=[(0,.bs false 0 (a.length) 0 (a.length)),(1,i64 b),(2,.fn 33 []),(6,i64 d),(7,i64 0)]) (O':=[.buf 21 (L Ah a) false]) [0]).trans (ws [0]))
  intro _;refine Ja (fun _=>⟨Al 63 [(0,.bs false 0 (a.length) 0 (a.length)),(1,i64 b),(2,.fn 33 []),(6,i64 d)],[.buf 21 (L Ah a) false]⟩) ?_ ?_
  ·intro ah;refine T0 [0,1,2,6,7,9] ?_;refine T0 [0,1,2,6,7,9,54] ?_;refine Cd ?_ ?_
   ·exact Rn
   exact Sk <|Jm (ws [0])
  intro _;refine F0 [0,1,2,6] ?_;exact Bn <|Ln (ws [0])
 exact Sx <|Tx <|Ly x w <|Bx <|Ro [0]
theorem FN{a r}(h:Bg a=some r):Con (B rs) 32 [.bs false 0 (a.length) 0 (a.length),.fn 33 []] [.buf 21 (L Ah a) false] (fun r' O'=>r'=.tup []/\O'=[.buf 21 (L Ah r) false]):=by
 refine Co 1 9 [] Tryz.func32 (fun F hE=>?_) h;unfold Bg;refine Bd fun d b =>Ck fun c =>Fe [] (Ag (l:=[]) (m:=[(8,77,[.bs false 0 (a.length) 0 (a.length),i64 (a.length:Int),.fn 33 []],[.buf 21 (L Ah a) false],_,_)]) trivial ⟨(wc (FX b) [0]),trivial⟩) (Ew1 c) ?_
 exact Ro [0]
theorem Kj{a c d r}(h:DZ a c d=some r):Con (B rs) 15 [.sl false (L Ah a),i64 c,i64 d] [] (fun r' O'=>r'=.sl false (L Ah r)/\O'=[]):=by
 refine Cw 49 [.tmp 6] Tryz.func15 (fun F hE=>?_) h;unfold DZ;refine T0 [0,1,2,6] ?_;refine Ja (fun e=>⟨Al 49 [(6,.bs false 0 (e.length) 0 (e.length))],[.buf 21 (L Ah e) false]⟩) ?_ ?_
 ·intro aS;refine T0 [1,2,6,10,11,12] ?_;refine Sb ?_;refine Lo (fun(v:Int×List AoT)=>(⟨Al 49 [(1,i64 c),(2,i64 d),(6,.bs false 0 (v.2.length) 0 (v.2.length)),(10,.sl false (L Ah a)),(11,i64 (a.length:Int)),(12,i64 v.1)],[.buf 21 (L Ah v.2) false]⟩:St)) ((LV 6 21 rfl).trans (ws [0])) ?_;rintro⟨f,b⟩ aT an ao ap;show Cp a c d f b=some an->_;unfold Cp;refine T0 [1,2,6,10,11,12,13] ?_;refine Sq <|Cd ?_ ?_
  ·refine Sk <|Tn <|?_
   refine Ja (fun g=>⟨Al 49 [(1,i64 c),(2,i64 d),(6,.bs false 0 (g.length) 0 (g.length)),(10,.sl false (L Ah a)),(11,i64 (a.length:Int)),(12,i64 f)],[.buf 21 (L Ah g) false]⟩) ?_ ?_
   ·intro aU;refine Sb <|Ck fun aq =>Lt fun j ar =>Lt fun k au =>Lt fun n av =>Lt fun o aw =>Lt fun p ax =>Lt fun q ay =>Lt fun s az =>Lt fun t aA =>Lt fun u aB =>Lt fun w aC =>Lt fun x aD =>Lt fun y aE =>Lt fun z aF =>Lt fun aa aG =>Lt fun ab aH =>Lt fun ac aI =>Lt fun ad aJ =>Lt fun ae aK =>Lt fun af aL =>Lt fun ag aM =>Lt fun ah aN =>Te (O':=[_,.box [i64 j,i64 k,i64 n,i64 o,i64 p,i64 q,i64 s,i64 t,i64 u,i64 w,i64 x,i64 y,i64 z,i64 aa,i64 ab,i64 ac,i64 ad,i64 ae,i64 af,.str ag,.sl false (L Dr ah)] false]) [1,2,6,8,10,11,12] Ac (Ev (by simp only[go_sem,qR aq,ar,au,av,aw,ax,ay,az,aA,aB,aC,aD,aE,aF,aG,aH,aI,aJ,aK,aL,aM,aN];exact CL)) ?_
    refine Sq ?_;refine Tw [1,2,6,8,10,11,12,27] (fun al=>⟨Al 49 [(1,i64 c),(2,i64 d),(6,.bs false 0 (b.length) 0 (b.length)),(8,.ref 1 0),(10,.sl false (L Ah a)),(11,i64 (a.length:Int)),(12,i64 f),(27,.bool al)],[.buf 21 (L Ah b) false,.box [i64 j,i64 k,i64 n,i64 o,i64 p,i64 q,i64 s,i64 t,i64 u,i64 w,i64 x,i64 y,i64 z,i64 aa,i64 ab,i64 ac,i64 ad,i64 ae,i64 af,.str ag,.sl false (L Dr ah)] false]⟩) ?_ ?_
    ·intro _;refine Sp (fun ai=>?_) fun ai=>?_
     ·exact Lf Ac (Ew1 ai) (ws [0,1])
     exact Lf Ac (Ew1 ai) (ws [0,1])
    intro al;refine Cd ?_ ?_
    ·exact Sx <|Tx <|Bx <|Jm (ws [0])
    refine Sk <|Tn <|T0 [1,2,6,8,9,10,11,12] ?_
    refine Tw [1,2,6,8,10,11,12,40] (fun am=>⟨Al 49 [(1,i64 c),(2,i64 d),(6,.bs false 0 (b.length) 0 (b.length)),(8,.ref 1 0),(10,.sl false (L Ah a)),(11,i64 (a.length:Int)),(12,i64 f),(40,.bool am)],[.buf 21 (L Ah b) false,.box [i64 j,i64 k,i64 n,i64 o,i64 p,i64 q,i64 s,i64 t,i64 u,i64 w,i64 x,i64 y,i64 z,i64 aa,i64 ab,i64 ac,i64 ad,i64 ae,i64 af,.str ag,.sl false (L Dr ah)] false]⟩) ?_ ?_
    ·intro _;refine Sp (fun i=>?_) fun i=>?_
     ·exact Lf Ac (Ew1 i) (ws [0,1])
     refine Sp (fun aj=>?_) fun aj=>?_
     ·exact Lf Ac (Ew2 i aj) (ws [0,1])
     exact Lf Ac (Ew2 i aj) (ws [0,1])
    intro am;refine Cd ?_ ?_
    ·refine Ck fun aO =>Lt fun ak aP =>Fe (fr':=[(1,_),(2,_),(6,.bs false 0 (ak.length) 0 (ak.length)),(10,_),(11,_),(12,_)]) (O':=[.buf 21 (L Ah ak) false,_,_]) [1,2,6,10,11,12] Ac (Ew2 aO aP) ?_
     exact Bn <|Jm (ws [0])
    exact Sk <|Bn <|Jm (ws [0])
   intro g;refine F0 [1,2,6,10,11,12] ?_;exact Ln (ws [0])
  refine Sx <|Tx <|Ly ap ao <|Bx <|?_
  exact Jm ((ws (l':=[(6,.bs false 0 (b.length) 0 (b.length))]) (O':=[.buf 21 (L Ah b) false]) [0]).trans (ws [0]))
 intro e;refine Bd fun aV aQ =>Ck fun aR =>Te [6] (Ag (l:=[]) (m:=[(47,32,[.bs false 0 (e.length) 0 (e.length),.fn 33 []],[.buf 21 (L Ah e) false],_,_)]) trivial ⟨(wc (FN aQ) [0]),trivial⟩) (Ew1 aR) ?_
 refine T0 [6] ?_;exact Sr <|Rr
variable {rs:AoH}
theorem JE{a c r}(h:Ds a c=some r):Con (B rs) 105 [.ref 0 0,.agg (C1 i64 c.l)] [.box [.bs false 1 (a.l.length) 0 (a.l.length)] false,.buf 1 (L AU a.l) false] (fun r' O'=>r'=.tup []/\O'=[.box [.bs false 1 (r.l.length) 0 (r.l.length)] false,.buf 1 (L AU r.l) false]):=by
 refine Co 2 30 [] Tryz.func105 (fun F hE=>?_) h;unfold Ds;refine T0 [0,3] ?_;refine Bd fun d g =>Te [0,3,4] (o1 7 (CM g)) Ev ?_
 refine Ja (fun b=>⟨Al 30 [(0,.ref 0 0),(3,.ref 2 0),(4,.sl false (L AU d))],[.box [.bs false 1 (b.length) 0 (b.length)] false,.buf 1 (L AU b) false,.box (C1 i64 c.l) true]⟩) ?_ ?_
 ·intro v;refine Bd fun i j =>Te [0,3,4,5] (o1 9 (Hp j)) Ev ?_
  refine T0 [0,3,4,5,11] ?_;refine Cd ?_ ?_
  ·refine Ck fun k =>Bd fun w n =>Lt fun e o =>?_
   refine Ffe (O':=[.box [.bs false 1 (e.length) 0 (e.length)] false,.buf 1 (L AU e) false,_]) [0,3,4] (Ag (l:=[]) (m:=[(18,25,[.ref 0 0,.sl false (L AU ([nth d i.toNat]:List (List UInt8)))],[.box [.bs false 1 (a.l.length) 0 (a.l.length)] false,.buf 1 (L AU a.l) false,.box (C1 i64 c.l) true],_,_)]) trivial ⟨(wc (Ap n) [0,1]),trivial⟩) (Ew2 (qR k) o) ?_;exact Jm (ws [0,1,2])
  exact Sk <|Jm (ws [0,1,2])
 intro b;refine Bd fun p q =>Te [0,4,6] (o1 20 (Hp q)) Ev ?_
 refine T0 [0,4,6,22] ?_;refine Cd ?_ ?_
 ·refine Ck fun s =>Bd fun x t =>Lt fun f u =>?_
  refine Ffe (O':=[.box [.bs false 1 (f.length) 0 (f.length)] false,.buf 1 (L AU f) false,_]) [] (Ag (l:=[]) (m:=[(29,25,[.ref 0 0,.sl false (L AU ([([112,101,114]:List UInt8),nth d p.toNat]:List (List UInt8)))],[.box [.bs false 1 (b.length) 0 (b.length)] false,.buf 1 (L AU b) false,.box (C1 i64 c.l) true],_,_)]) trivial ⟨(wc (Ap t) [0,1]),trivial⟩) (Ew2 (qR s) u) ?_;exact Ro [0,1]
 exact Sk <|Ro [0,1]
theorem F8{g:AoV->AoM->Option (AoV)}(h64:∀{q0_:AoV} {q1_:AoM} {r:AoV},g q0_ q1_=some r->Con (B rs) 64 [.ref 0 0,.agg (i64 q1_.Op::i64 q1_.N::(C1 i64 q1_.Unit.l++[.sl false (L cApi_Expr q1_.L)]))] [.box [.bs false 1 (q0_.l.length) 0 (q0_.l.length)] false,.buf 1 (L AU q0_.l) false] (fun r' O'=>r'=.tup []/\O'=[.box [.bs false 1 (r.l.length) 0 (r.l.length)] false,.buf 1 (L AU r.l) false])){i d b a r}(h:BZ g i d b a=some r):Con (B rs) 104 [.str i,.sl false (L AU d),.ref 1 0,.ref 3 0] [.box [.bs false 2 (b.l.length) 0 (b.l.length)] false,.box [.ref 0 0] false,.buf 1 (L AU b.l) false,.box (i64 a.Op::i64 a.N::(C1 i64 a.Unit.l++[.sl false (L cApi_Expr a.L)])) false] (fun r' O'=>r'=.tup []/\O'=[.box [.bs false 2 (r.l.length) 0 (r.l.length)] false,.box [.ref 0 0] false,.buf 1 (L AU r.l) false,.box (i64 a.Op::i64 a.N::(C1 i64 a.Unit.l++[.sl false (L cApi_Expr a.L)])) false]):=by
 refine Co 4 31 [] Tryz.func104 (fun F hE=>?_) h;unfold BZ;refine Bd fun ac o =>Lt fun j p =>?_
 refine Tfe (O':=[.box [.bs false 2 (j.length) 0 (j.length)] false,_,.buf 1 (L AU j) false,_]) [1,2,3] (Ag (l:=[]) (m:=[(11,25,[.ref 0 0,.sl false (L AU ([i,([40]:List UInt8)]:List (List UInt8)))],[.box [.bs false 2 (b.l.length) 0 (b.l.length)] false,.box [.ref 0 0] false,.buf 1 (L AU b.l) false,.box (i64 a.Op::i64 a.N::(C1 i64 a.Unit.l++[.sl false (L cApi_Expr a.L)])) false],_,_)]) trivial ⟨(wc (Ap o) [0,2]),trivial⟩) (Ew1 p) ?_;refine T0 [2,3,12,13,14] ?_;refine Sb ?_;refine Lo (fun(v:Int×List (List UInt8))=>(⟨Al 31 [(2,.ref 1 0),(3,.ref 3 0),(12,.sl false (L AU d)),(13,i64 (d.length:Int)),(14,i64 v.1)],[.box [.bs false 2 (v.2.length) 0 (v.2.length)] false,.box [.ref 0 0] false,.buf 1 (L AU v.2) false,.box (i64 a.Op::i64 a.N::(C1 i64 a.Unit.l++[.sl false (L cApi_Expr a.L)])) false]⟩:St)) (ws [0,1,2,3]) ?_;rintro⟨e,f⟩ ad q s t;show B8 g d a e f=some q->_;unfold B8;refine T0 [2,3,12,13,14,15] ?_;refine Sq <|Cd ?_ ?_
 ·refine Sk <|Tn <|Sq <|Sb <|Ck fun u =>Lt fun n w =>Te (fr':=[(2,_),(3,_),(6,_),(7,.str n),(12,_),(13,_),(14,_)]) [2,3,6,7,12,13,14] Ac (Ew2 (qR u) w) ?_
  refine Ck fun x =>Bd fun ae y =>Lt fun c z =>De (O':=[.box [.bs false 2 (c.length) 0 (c.length)] false,_,.buf 1 (L AU c) false,_]) [[],[],[1],[],[1,2,3],[1,2,3,4],[0,1,2,3,4,5]] [2,3,7,12,13,14] (Ag (l:=[]) (m:=[(25,64,[.ref 0 0,.agg (i64 ((nth a.L e.toNat).Op)::i64 ((nth a.L e.toNat).N)::(C1 i64 ((nth a.L e.toNat).Unit).l++[.sl false (L cApi_Expr ((nth a.L e.toNat).L))]))],[.box [.bs false 2 (f.length) 0 (f.length)] false,.box [.ref 0 0] false,.buf 1 (L AU f) false,.box (i64 a.Op::i64 a.N::(C1 i64 a.Unit.l++[.sl false (L cApi_Expr a.L)])) false],_,_)]) trivial ⟨(wc (h64 y) [0,2]),trivial⟩) (Ew2 (qR x) z) ?_
  refine Bd fun af aa =>Lt fun k ab =>?_
  refine Ffe (O':=[.box [.bs false 2 (k.length) 0 (k.length)] false,_,.buf 1 (L AU k) false,_]) [2,3,12,13,14] (Ag (l:=[]) (m:=[(29,25,[.ref 0 0,.sl false (L AU ([n]:List (List UInt8)))],[.box [.bs false 2 (c.length) 0 (c.length)] false,.box [.ref 0 0] false,.buf 1 (L AU c) false,.box (i64 a.Op::i64 a.N::(C1 i64 a.Unit.l++[.sl false (L cApi_Expr a.L)])) false],_,_)]) trivial ⟨(wc (Ap aa) [0,2]),trivial⟩) (Ew1 ab) ?_;refine Bn <|Tn <|F0 [2,3,12,13,14] ?_
  exact Ln (ws [0,1,2,3])
 exact Sx <|Tx <|Ly t s <|Bx <|Ro [0,1,2,3]
theorem Ft{g:AoV->AoM->Option (AoV)}(h64:∀{q0_:AoV} {q1_:AoM} {r:AoV},g q0_ q1_=some r->Con (B rs) 64 [.ref 0 0,.agg (i64 q1_.Op::i64 q1_.N::(C1 i64 q1_.Unit.l++[.sl false (L cApi_Expr q1_.L)]))] [.box [.bs false 1 (q0_.l.length) 0 (q0_.l.length)] false,.buf 1 (L AU q0_.l) false] (fun r' O'=>r'=.tup []/\O'=[.box [.bs false 1 (r.l.length) 0 (r.l.length)] false,.buf 1 (L AU r.l) false])){b a i r}(h:BQ g b a i=some r):Con (B rs) 106 [.ref 0 0,.agg (i64 a.Op::i64 a.N::(C1 i64 a.Unit.l++[.sl false (L cApi_Expr a.L)])),i64 i] [.box [.bs false 1 (b.l.length) 0 (b.l.length)] false,.buf 1 (L AU b.l) false] (fun r' O'=>r'=.tup []/\O'=[.box [.bs false 1 (r.l.length) 0 (r.l.length)] false,.buf 1 (L AU r.l) false]):=by
 refine Co 2 23 [] Tryz.func106 (fun F hE=>?_) h;unfold BQ;refine T0 [0,2,4] ?_;refine Sq <|Bd fun v j =>Te [0,4,10] (o1 8 (Hn j)) Ev ?_
 refine Cd ?_ ?_
 ·refine Bd fun w k =>Lt fun e n =>Te (O':=[.box [.bs false 1 (e.length) 0 (e.length)] false,.buf 1 (L AU e) false,_]) [] (Ag (l:=[]) (m:=[(13,64,[.ref 0 0,.agg (i64 a.Op::i64 a.N::(C1 i64 a.Unit.l++[.sl false (L cApi_Expr a.L)]))],[.box [.bs false 1 (b.l.length) 0 (b.l.length)] false,.buf 1 (L AU b.l) false,.box (i64 a.Op::i64 a.N::(C1 i64 a.Unit.l++[.sl false (L cApi_Expr a.L)])) false],_,_)]) trivial ⟨(wc (h64 k) [0,1]),trivial⟩) (Ew1 n) ?_
  exact Sr <|Tr <|Ro [0,1]
 refine Sk <|Tn <|Bd fun x o =>Lt fun c p =>?_
 refine Tfe (O':=[.box [.bs false 1 (c.length) 0 (c.length)] false,.buf 1 (L AU c) false,_]) [0,4] (Ag (l:=[]) (m:=[(16,25,[.ref 0 0,.sl false (L AU ([([40]:List UInt8)]:List (List UInt8)))],[.box [.bs false 1 (b.l.length) 0 (b.l.length)] false,.buf 1 (L AU b.l) false,.box (i64 a.Op::i64 a.N::(C1 i64 a.Unit.l++[.sl false (L cApi_Expr a.L)])) false],_,_)]) trivial ⟨(wc (Ap o) [0,1]),trivial⟩) (Ew1 p) ?_;refine Bd fun y q =>Lt fun d s =>Te (O':=[.box [.bs false 1 (d.length) 0 (d.length)] false,.buf 1 (L AU d) false,_]) [0] (Ag (l:=[]) (m:=[(19,64,[.ref 0 0,.agg (i64 a.Op::i64 a.N::(C1 i64 a.Unit.l++[.sl false (L cApi_Expr a.L)]))],[.box [.bs false 1 (c.length) 0 (c.length)] false,.buf 1 (L AU c) false,.box (i64 a.Op::i64 a.N::(C1 i64 a.Unit.l++[.sl false (L cApi_Expr a.L)])) false],_,_)]) trivial ⟨(wc (h64 q) [0,1]),trivial⟩) (Ew1 s) ?_
 refine Bd fun z t =>Lt fun f u =>?_
 refine Ffe (O':=[.box [.bs false 1 (f.length) 0 (f.length)] false,.buf 1 (L AU f) false,_]) [] (Ag (l:=[]) (m:=[(22,25,[.ref 0 0,.sl false (L AU ([([41]:List UInt8)]:List (List UInt8)))],[.box [.bs false 1 (d.length) 0 (d.length)] false,.buf 1 (L AU d) false,.box (i64 a.Op::i64 a.N::(C1 i64 a.Unit.l++[.sl false (L cApi_Expr a.L)])) false],_,_)]) trivial ⟨(wc (Ap t) [0,1]),trivial⟩) (Ew1 u) ?_;exact Ro [0,1]
theorem I3{rec_:AoV->AoM->Option (AoV)}(hrec:∀{b:AoV} {a:AoM} {r:AoV},rec_ b a=some r->Con (B rs) 64 [.ref 0 0,.agg (i64 a.Op::i64 a.N::(C1 i64 a.Unit.l++[.sl false (L cApi_Expr a.L)]))] [.box [.bs false 1 (b.l.length) 0 (b.l.length)] false,.buf 1 (L AU b.l) false] (fun r' O'=>r'=.tup []/\O'=[.box [.bs false 1 (r.l.length) 0 (r.l.length)] false,.buf 1 (L AU r.l) false])){b:AoV}{a:AoM}{r:AoV}(h:CH rec_ b a=some r):Con (B rs) 64 [.ref 0 0,.agg (i64 a.Op::i64 a.N::(C1 i64 a.Unit.l++[.sl false (L cApi_Expr a.L)]))] [.box [.bs false 1 (b.l.length) 0 (b.l.length)] false,.buf 1 (L AU b.l) false] (fun r' O'=>r'=.tup []/\O'=[.box [.bs false 1 (r.l.length) 0 (r.l.length)] false,.buf 1 (L AU r.l) false]):=by
 refine Ih (N:=74) (rs:=[]) 2 rfl ok Tryz.func64 rfl (by decide +kernel) rfl rfl (Apj rfl) (fun F=>?_);have hE:=(ok (rs:=rs)).env F;unfold CH at h;show Run ((B rs).env F) 2 _ ⟨Al 74 [(0,.ref 0 0),(1,.agg (i64 a.Op::i64 a.N::(C1 i64 a.Unit.l++[.sl false (L cApi_Expr a.L)])))],[.box [.bs false 1 (b.l.length) 0 (b.l.length)] false,.buf 1 (L AU b.l) false]⟩ _;refine BR ?_;revert h;refine T0 [2,3] ?_;refine T0 [2,3,4] ?_;refine T0 [2,3,4,7] ?_;refine Sb <|T0 [2,3,4,7,17] ?_
 refine Cd ?_ ?_
 ·refine Bd fun av q =>Lt fun c s =>Te (O':=[.box [.bs false 1 (c.length) 0 (c.length)] false,.buf 1 (L AU c) false,_,_]) [2,3] (Ag (l:=[]) (m:=[(22,63,[.ref 0 0,i64 a.N],[.box [.bs false 1 (b.l.length) 0 (b.l.length)] false,.buf 1 (L AU b.l) false,.box [.ref 0 0] false,.box (i64 a.Op::i64 a.N::(C1 i64 a.Unit.l++[.sl false (L cApi_Expr a.L)])) false],_,_)]) trivial ⟨(wc (C9 q) [0,1]),trivial⟩) (Ew1 s) ?_
  refine Bd fun aw t =>Lt fun f u =>Fe (O':=[.box [.bs false 1 (f.length) 0 (f.length)] false,.buf 1 (L AU f) false,_,_]) [] (Ag (l:=[]) (m:=[(26,105,[.ref 0 0,.agg (C1 i64 a.Unit.l)],[.box [.bs false 1 (c.length) 0 (c.length)] false,.buf 1 (L AU c) false,.box [.ref 0 0] false,.box (i64 a.Op::i64 a.N::(C1 i64 a.Unit.l++[.sl false (L cApi_Expr a.L)])) false],_,_)]) trivial ⟨(wc (JE t) [0,1]),trivial⟩) (Ew1 u) ?_
  exact Bn <|Ro [0,1]
 refine T0 [2,3,4,7,27] ?_;refine Cd ?_ ?_
 ·refine Bd fun v w =>Ck fun x =>Bd fun ax y =>Lt fun g z =>Ge (O':=[.box [.bs false 1 (g.length) 0 (g.length)] false,.buf 1 (L AU g) false,_,_]) [[],[],[],[2],[1,2,3],[1,2,3,4],[1,2,3,4,5],[0,1,2,3,4,5,6]] [] (Ag (l:=[(30,_,_,_)]) (m:=[(36,25,[.ref 0 0,.sl false (L AU ([nth v a.N.toNat]:List (List UInt8)))],[.box [.bs false 1 (b.l.length) 0 (b.l.length)] false,.buf 1 (L AU b.l) false,.box [.ref 0 0] false,.box (i64 a.Op::i64 a.N::(C1 i64 a.Unit.l++[.sl false (L cApi_Expr a.L)])) false],_,_)]) ⟨CM  w,trivial⟩ ⟨(wc (Ap y) [0,1]),trivial⟩) (Ew2 (qR x) z) ?_
  exact Bn <|Ro [0,1]
 refine T0 [2,3,4,7,37] ?_;refine Cd ?_ ?_
 ·refine Bd fun ay aa =>Lt fun i ab =>?_
  refine Ffq (O':=[.box [.bs false 1 (i.length) 0 (i.length)] false,.buf 1 (L AU i) false,_,_]) [] (Ag (l:=[]) (m:=[(41,104,[.str ([105,102]:List UInt8),.sl false (L AU ([([60]:List UInt8),([44]:List UInt8),([44]:List UInt8),([41]:List UInt8)]:List (List UInt8))),.ref 2 0,.ref 3 0],[.box [.bs false 1 (b.l.length) 0 (b.l.length)] false,.buf 1 (L AU b.l) false,.box [.ref 0 0] false,.box (i64 a.Op::i64 a.N::(C1 i64 a.Unit.l++[.sl false (L cApi_Expr a.L)])) false],_,_)]) trivial ⟨(wc (F8 (fun h=>hrec h) aa) [0,2,1,3]),trivial⟩) (Ew1 ab) ?_;exact Bn <|Ro [0,1]
 refine Ja (fun n=>⟨Al 74 [(2,.ref 2 0),(3,.ref 3 0),(4,.fn 104 [.ref 2 0,.ref 3 0]),(42,.bool n)],[.box [.bs false 1 (b.l.length) 0 (b.l.length)] false,.buf 1 (L AU b.l) false,.box [.ref 0 0] false,.box (i64 a.Op::i64 a.N::(C1 i64 a.Unit.l++[.sl false (L cApi_Expr a.L)])) false]⟩) ?_ ?_
 ·intro az;refine T0 [2,3,4,7,42] ?_;refine Cd ?_ ?_
  ·exact Sk <|Jm (ws [0,1,2,3])
  refine T0 [2,3,4,7,42] ?_;refine Cd ?_ ?_
  ·exact Sk <|Jm (ws [0,1,2,3])
  refine F0 [2,3,4,42] ?_;exact Jm (ws [0,1,2,3])
 intro n;refine Cd ?_ ?_
 ·refine Ck fun ac =>Bd fun ad ae =>Bd fun aA af =>Lt fun d ag =>De (O':=[.box [.bs false 1 (d.length) 0 (d.length)] false,.buf 1 (L AU d) false,_,_]) [[],[],[1],[1,2],[1,2,3],[],[5],[5,6],[0,1,2,3,4,5,6,7]] [2,3] (Ag (l:=[(53,_,_,_)]) (m:=[(54,106,[.ref 0 0,.agg (i64 ((nth a.L 0).Op)::i64 ((nth a.L 0).N)::(C1 i64 ((nth a.L 0).Unit).l++[.sl false (L cApi_Expr ((nth a.L 0).L))])),i64 ad],[.box [.bs false 1 (b.l.length) 0 (b.l.length)] false,.buf 1 (L AU b.l) false,.box [.ref 0 0] false,.box (i64 a.Op::i64 a.N::(C1 i64 a.Unit.l++[.sl false (L cApi_Expr a.L)])) false],_,_)]) ⟨Hn  ae,trivial⟩ ⟨(wc (Ft (fun h=>hrec h) af) [0,1]),trivial⟩) (Ew2 (qL ac) ag) ?_
  refine Ck fun o=>?_
  have p:=o;simp only[Apo,ApN,Ao5,Apb,Apr,Aqg,Nat.reduceAdd]at p;refine Bd fun aB ah =>Lt fun e ai =>De (O':=[.box [.bs false 1 (e.length) 0 (e.length)] false,.buf 1 (L AU e) false,_,_]) [[],[],[],[2],[2,3],[1,2,3,4],[1,2,3,4,5],[1,2,3,4,5,6],[0,1,2,3,4,5,6,7]] [2,3] (Ag (l:=[]) (m:=[(63,25,[.ref 0 0,.sl false (L AU ([nth ([([43]:List UInt8),([45]:List UInt8),([42]:List UInt8)]:List (List UInt8)) ((w64 (a.Op-3)).toNat)]:List (List UInt8)))],[.box [.bs false 1 (d.length) 0 (d.length)] false,.buf 1 (L AU d) false,.box [.ref 0 0] false,.box (i64 a.Op::i64 a.N::(C1 i64 a.Unit.l++[.sl false (L cApi_Expr a.L)])) false],_,_)]) trivial ⟨(wc (Ap ah) [0,1]),trivial⟩) (Ew3 (qR o) (qR p) ai) ?_
  refine Ck fun aj =>Bd fun ak al =>Bd fun aC am =>Lt fun j an =>Ge (O':=[.box [.bs false 1 (j.length) 0 (j.length)] false,.buf 1 (L AU j) false,_,_]) [[],[],[1],[1,2],[1,2,3],[],[5],[5,6],[5,6,7],[0,1,2,3,4,5,6,7,8]] [] (Ag (l:=[(71,_,_,_)]) (m:=[(73,106,[.ref 0 0,.agg (i64 ((nth a.L 1).Op)::i64 ((nth a.L 1).N)::(C1 i64 ((nth a.L 1).Unit).l++[.sl false (L cApi_Expr ((nth a.L 1).L))])),i64 (w64 (ak+1))],[.box [.bs false 1 (e.length) 0 (e.length)] false,.buf 1 (L AU e) false,.box [.ref 0 0] false,.box (i64 a.Op::i64 a.N::(C1 i64 a.Unit.l++[.sl false (L cApi_Expr a.L)])) false],_,_)]) ⟨Hn  al,trivial⟩ ⟨(wc (Ft (fun h=>hrec h) am) [0,1]),trivial⟩) (Ew2 (qL aj) an) ?_
  exact Bn <|Ro [0,1]
 refine Bd fun ao ap =>Ck fun aq =>Bd fun aD ar =>Lt fun k au =>?_
 refine Gq (O':=[.box [.bs false 1 (k.length) 0 (k.length)] false,.buf 1 (L AU k) false,_,_]) [[],[],[],[2],[2,3],[1,2,3,4],[1,2,3,4,5],[],[0,1,2,3,4,5,6,7]] [] (Ag (l:=[(9,_,_,_)]) (m:=[(16,104,[.str (nth ao ((w64 (a.Op-6)).toNat)),.sl false (L AU ([([44]:List UInt8),([41]:List UInt8)]:List (List UInt8))),.ref 2 0,.ref 3 0],[.box [.bs false 1 (b.l.length) 0 (b.l.length)] false,.buf 1 (L AU b.l) false,.box [.ref 0 0] false,.box (i64 a.Op::i64 a.N::(C1 i64 a.Unit.l++[.sl false (L cApi_Expr a.L)])) false],_,_)]) ⟨CM  ap,trivial⟩ ⟨(wc (F8 (fun h=>hrec h) ar) [0,2,1,3]),trivial⟩) (Ew2 (qR aq) au) ?_;exact Bn <|Ro [0,1]
theorem I1(n:Nat):∀{b:AoV} {a:AoM} {r:AoV},D8 n b a=some r->Con (B rs) 64 [.ref 0 0,.agg (i64 a.Op::i64 a.N::(C1 i64 a.Unit.l++[.sl false (L cApi_Expr a.L)]))] [.box [.bs false 1 (b.l.length) 0 (b.l.length)] false,.buf 1 (L AU b.l) false] (fun r' O'=>r'=.tup []/\O'=[.box [.bs false 1 (r.l.length) 0 (r.l.length)] false,.buf 1 (L AU r.l) false]):=by
 induction n with
 |zero=>intro b a r h;cases h
 |succ n ih=>intro b a r h;exact I3 ih h
theorem Jv{b:AoV}{a:AoM}{r:AoV}(h:FP b a=some r):Con (B rs) 64 [.ref 0 0,.agg (i64 a.Op::i64 a.N::(C1 i64 a.Unit.l++[.sl false (L cApi_Expr a.L)]))] [.box [.bs false 1 (b.l.length) 0 (b.l.length)] false,.buf 1 (L AU b.l) false] (fun r' O'=>r'=.tup []/\O'=[.box [.bs false 1 (r.l.length) 0 (r.l.length)] false,.buf 1 (L AU r.l) false]):=I1 _ h
open Go.Shelf
def Tryz.lays156_ren:Go.Shelf.Ren:=⟨fun|156=>28|165=>65|166=>66|169=>67|240=>108|241=>109|276=>157|277=>158|n=>n,fun|31=>76|9=>9|3=>3|4=>4|0=>0|20=>20|72=>131|76=>134|70=>128|37=>129|75=>133|127=>191|164=>244|5=>5|80=>110|n=>n,fun|n=>n⟩
theorem Tryz.lays156:Go.Proofs.Lays.n156 Tryz.prog Tryz.lays156_ren:={
 mixed:=by kernel_rfl
 f156:=Tryz.func28.trans (ApV some (by kernel_rfl))
 f165:=Tryz.func65.trans (ApV some (by kernel_rfl))
 f166:=Tryz.func66.trans (ApV some (by kernel_rfl))
 f169:=Tryz.func67.trans (ApV some (by kernel_rfl))
 f240:=Tryz.func108.trans (ApV some (by kernel_rfl))
 f241:=Tryz.func109.trans (ApV some (by kernel_rfl))
 f276:=Tryz.func157.trans (ApV some (by kernel_rfl))
 f277:=Tryz.func158.trans (ApV some (by kernel_rfl))
 t0:=Tryz.underlying0
 a0:=Tryz.isAgg0
 z0:=Tryz.sizeOf0
 v0:=Tryz.zeroValue0
 t3:=Tryz.underlying3
 a3:=Tryz.isAgg3
 z3:=Tryz.sizeOf3
 v3:=Tryz.zeroValue3
 t4:=Tryz.underlying4
 a4:=Tryz.isAgg4
 z4:=Tryz.sizeOf4
 v4:=Tryz.zeroValue4
 t9:=Tryz.underlying9
 a9:=Tryz.isAgg9
 z9:=Tryz.sizeOf9
 v9:=Tryz.zeroValue9
 t20:=Tryz.underlying20
 a20:=Tryz.isAgg20
 z20:=Tryz.sizeOf20
 v20:=Tryz.zeroValue20
 t31:=Tryz.underlying76
 a31:=Tryz.isAgg76
 z31:=Tryz.sizeOf76
 v31:=Tryz.zeroValue76
 t37:=Tryz.underlying129
 a37:=Tryz.isAgg129
 z37:=Tryz.sizeOf129
 v37:=Tryz.zeroValue129
 t70:=Tryz.underlying128
 a70:=Tryz.isAgg128
 z70:=Tryz.sizeOf128
 v70:=Tryz.zeroValue128
 t72:=Tryz.underlying131
 a72:=Tryz.isAgg131
 z72:=Tryz.sizeOf131
 v72:=Tryz.zeroValue131
 t75:=Tryz.underlying133
 a75:=Tryz.isAgg133
 z75:=Tryz.sizeOf133
 v75:=Tryz.zeroValue133
 t76:=Tryz.underlying134
 a76:=Tryz.isAgg134
 z76:=Tryz.sizeOf134
 v76:=Tryz.zeroValue134
 t127:=Tryz.underlying191
 a127:=Tryz.isAgg191
 z127:=Tryz.sizeOf191
 v127:=Tryz.zeroValue191
 t164:=Tryz.underlying244
 a164:=Tryz.isAgg244
 z164:=Tryz.sizeOf244
 v164:=Tryz.zeroValue244 }
theorem Tryz.Builder_Extra_156:Builder.Extra Tryz.prog Tryz.lays156_ren:={
 sizeBuilder:=by kernel_rfl
 liesBuilder:=by kernel_rfl
 t5:=Tryz.underlying5
 a5:=Tryz.isAgg5
 z5:=Tryz.sizeOf5
 v5:=Tryz.zeroValue5
 infoByte:=by kernel_rfl
 cellsByte:=by kernel_rfl
 sizeByte:=by kernel_rfl
 neB5:=by decide }
open Go.Shelf Go.RowKit
theorem AaV(s y:List UInt8):∀l:List (List UInt8),l≠[]->Lib.join (l++[y]) s=Lib.join l s++s++y
 |[],h=>(h rfl).elim
 |x::r,_=>by
  rw[Apo,Lib.join_cons,Lib.join_cons];simp[Lib.joinTail,ApZ]
theorem Uu(s y:List UInt8)(l:List (List UInt8))(k:Nat)(h0:0<k)(hy:l[k]?=some y):Lib.join (l.take (k+1)) s=Lib.join (l.take k) s++s++y:=by
 rw[List.take_add_one,hy];refine AaV s y _ fun e=>?_
 have hk:k<l.length:=(AoZ.1 hy).1;have h:(l.take k).length=0:=by rw[e];rfl
 rw[Aqb]at h;omega
theorem AgR(s:List UInt8)(l:List (List UInt8))(k:Nat)(hk:k<=l.length):(Lib.join (l.take k) s).length<=(Lib.join l s).length:=by
 have key:∀m j,j+m=l.length->(Lib.join (l.take j) s).length<=(Lib.join l s).length:=by
  intro m
  induction m with
  |zero=>intro j hj;rw[ApP (by omega)];exact Apf _
  |succ m ih=>
   intro j hj;refine Aqs ?_ (ih (j+1) (by omega));cases j with
   |zero=>simp[Lib.join_nil]
   |succ j=>rw[Uu s l[j+1] l (j+1) (by omega) (Ao2 (by omega))];simp only[Ao5];omega
 exact key (l.length-k) k (by omega)
theorem ZN(s:List UInt8)(l:List (List UInt8)){y:List UInt8}(hy:l[0]?=some y):Lib.join (l.take 1) s=y:=by
 cases l with
 |nil=>cases hy
 |cons x r=>cases hy;exact Lib.join_one _ _
theorem AfP(b n:Nat)(w:World)(hb:b<=w.heap.size)(hbk:w.heap[b]?=some (.cells #[.pointer none,.slice none 0 0] 131 (0,0)))(hn:n<=281474976710656) :Calls Tryz.prog 65 #[.pointer (some ⟨b,0,none⟩),.int .i64 n] w fun e w'=>e=.returned (.tuple #[])/\(Lib.BuilderAt 131 5 b b (.pointer (some ⟨b,0,none⟩)) [] w'/\Below b w w') :=
 Any.Builder_Grow_fresh { Tryz.lays156 with } Tryz.Builder_Extra_156 b b n w (Apf _) hbk hb hn
theorem SD(b:Nat)(bs:List Value)(s:ByteArray)(w:World)(h:Lib.BuilderAt 131 5 b b (.pointer (some ⟨b,0,none⟩)) bs w)(hl:bs.length+s.size<=140737488355328)(hb:b<=w.heap.size) :Calls Tryz.prog 66 #[.pointer (some ⟨b,0,none⟩),.string s] w fun e w'=>e=.returned (.tuple #[.int .i64 s.size,.nilIface])/\(Lib.BuilderAt 131 5 b b (.pointer (some ⟨b,0,none⟩)) (bs++Lib.strCells s) w'/\Below b w w') :=
 Any.Builder_WriteString { Tryz.lays156 with } Tryz.Builder_Extra_156 b b bs s w (.inr h) hl hb
theorem Z3(b:Nat)(l:List UInt8)(w:World)(h:Lib.BuilderAt 131 5 b b (.pointer (some ⟨b,0,none⟩)) (Lib.byteCells l) w)(hb:b<=w.heap.size) :Calls Tryz.prog 67 #[.pointer (some ⟨b,0,none⟩)] w fun e w'=>e=.returned (.string ⟨l.toArray⟩)/\Below b w w' :=
 Any.Builder_String_any { Tryz.lays156 with } Tryz.Builder_Extra_156 b b l w (.inr h) hb
theorem Af3(a:Option Addr)(c:Nat)(sep:ByteArray)(w:World):Calls Tryz.prog 28 #[.slice a 0 c,.string sep] w fun e w'=>e=.returned (.string ⟨#[]⟩)/\w'=w:=by
 go_enter Tryz.func28,Tryz.ntmps28
 go_wp2
 go_ret
 exact⟨rfl,rfl⟩
theorem AaY(bk o c:Nat)(x sep:ByteArray)(w:World)(hc:w.cell? ⟨bk,o,none⟩=some (.string x)):Calls Tryz.prog 28 #[.slice (some ⟨bk,o,none⟩) 1 c,.string sep] w fun e w'=>e=.returned (.string x)/\w'=w:=by
 go_enter Tryz.func28,Tryz.ntmps28
 go_wp2
 go_ret
 exact⟨rfl,rfl⟩
open Go.Shelf Go.RowKit
theorem S2{p:Prop}(h:p):Hid p:=h
theorem AdD{N S T M:Nat}(hN:2<=N)(hN2:N<=140737488355328)(hM:S*(N-1)=M)(h:M+T<=140737488355328) :¬(9223372036854775807/((N:Int)-1)<=(S:Int))/\wrap64 ((S:Int)*((N:Int)-1))=(M:Int):=by
 have e1:((N:Int)-1)=((N-1:Nat):Int):=by omega
 have e2:(S:Int)*((N-1:Nat):Int)=((S*(N-1):Nat):Int):=(ArU _ _).symm;rw[e1,e2,hM];refine⟨fun hle=>?_,IntWalk.wrap64_in _ ⟨by omega,by omega⟩⟩;have e3:(9223372036854775807:Int)/((N-1:Nat):Int)=((9223372036854775807/(N-1):Nat):Int):=(Int.natCast_ediv _ _).symm;rw[e3]at hle;have h1:9223372036854775807/(N-1)<=S:=by omega
 have h2:9223372036854775807/(N-1)<S+1:=by omega
 have h3:=(Aqp (by omega:0<N-1)).1 h2;rw[ApA,hM]at h3;omega
set_option maxHeartbeats 4000000 in
set_option maxRecDepth 100000 in
theorem Ag2(bk o c:Nat)(xs:List ByteArray)(sep:ByteArray)(w:World)(hcells:∀(j:Nat) x,xs[j]?=some x->w.cell? ⟨bk,o+j,none⟩=some (.string x))(hbk:bk<w.heap.size) (h2:2<=xs.length) (hN:xs.length<=140737488355328) (hcap:xs.length<=c) (hlen:(Lib.join (xs.map (·.data.toList)) sep.data.toList).length<=140737488355328) :Calls Tryz.prog 28 #[.slice (some ⟨bk,o,none⟩) xs.length c,.string sep] w fun e w'=>e=.returned (.string ⟨(Lib.join (xs.map (·.data.toList)) sep.data.toList).toArray⟩)/\Below w.heap.size w w':=by
 have CE:=S2 hcells;have LE:=S2 hlen;obtain⟨M,hM⟩:∃M,sep.size*(xs.length-1)=M:=⟨_,rfl⟩
 have hsum:M+Lib.lens (xs.map (·.data.toList))<=140737488355328:=by
  cases hx:xs with
  |nil=>rw[hx]at h2;simp at h2
  |cons a t=>
   rw[hx]at hlen hM;rw[ApE]at hlen ⊢;rw[Lib.join_length,Ap4,<-Lib.size_eq]at hlen;rw[Apb,ArB]at hM;omega
 obtain⟨hdv,hprod⟩:=AdD h2 hN hM hsum;have hM0:sep.size=0->M=0:=fun e=>by rw[<-hM,e,Arc]
 clear hcells hlen hM;have hne0:((xs.length:Int)==0)=false:=AqU.2 (by omega);have hne1:((xs.length:Int)==1)=false:=AqU.2 (by omega)
 go_enter Tryz.func28,Tryz.ntmps28
 go_wp2_with fail
 all_goals (
  go_loop [5,41] (fun n i=>∃k:Nat,k<=xs.length/\i=.int .i64 k/\n=.int .i64 ((M+Lib.lens ((xs.map (·.data.toList)).take k):Nat):Int)) (fun _ i=>xs.length-(intOf i).toNat)
  case atStart=>exact⟨0,Apx _,rfl,by first|(simp[Lib.lens];done)|(rw[hM0 (by omega)];simp[Lib.lens])⟩
  case round=>
   obtain⟨k,hk,rfl,rfl⟩:=hrel;rcases ApQ k xs.length with hlt|hge
   ·have hx:xs[k]?=some xs[k]:=Ao2 hlt;generalize xs[k]=x at hx;have hc:=CE.out k x hx;have hs1:=Lib.lens_take_succ (xs.map (·.data.toList)) k x.data.toList (by simp[hx]);have hs2:=Lib.lens_take_le (xs.map (·.data.toList)) (k+1);rw[<-Lib.size_eq]at hs1;obtain⟨A1,hA⟩:∃A1,Lib.lens ((xs.map (·.data.toList)).take (k+1))=A1:=⟨_,rfl⟩;rw[hA]at hs1 hs2;have HA:=S2 hA;clear hA;generalize Lib.lens ((xs.map (·.data.toList)).take k)=A0 at hs1
    go_wp2
    exact⟨⟨k+1,hlt,by go_num,by rw[HA.out];refine ApV _ ?_;omega⟩,by simp[intOf];omega⟩
   obtain rfl:k=xs.length:=by omega
   have hT:Lib.lens ((xs.map (·.data.toList)).take xs.length)=Lib.lens (xs.map (·.data.toList)):=by rw[ApP (by simp)]
   rw[hT];clear hT;generalize Lib.lens (xs.map (·.data.toList))=T at hsum
   go_wp2_with fail
   have hMT:((M:Int)+(T:Int))=((M+T:Nat):Int):=by omega
   rw[hMT];refine(AfP w.heap.size (M+T) _ (by simp) (heap_alloc_new w _) (by omega)).mono ?_;rintro e w1 ⟨rfl,b1,l1⟩;have l1':Below w.heap.size w w1:=((Below.refl w.heap.size w).alloc (Apf _) _).trans l1;obtain⟨x0,hx0⟩:∃x0,xs[0]?=some x0:=⟨xs[0],Ao2 (by omega)⟩
   have hc0:w1.cell? ⟨bk,o,none⟩=some (.string x0):=by
    rw[l1'.cell (p:=⟨bk,o,none⟩) hbk];exact CE.out 0 x0 hx0
   have B1:=S2 b1;have L1:=S2 l1';have z1:w.heap.size<=w1.heap.size:=l1'.size;have JL:Hid (∀k,k<=xs.length->(Lib.join ((xs.map (·.data.toList)).take k) sep.data.toList).length<=140737488355328):=S2 fun k hk=>Aqs (AgR _ _ _ (by simpa using hk)) LE.out
   have J1:Lib.join ((xs.map (·.data.toList)).take 1) sep.data.toList=x0.data.toList:=ZN _ _ (by simp[hx0]);have HJ1:=S2 J1;clear b1 l1 l1' hMT hx0 J1
   go_wp2_with fail
   refine(SD w.heap.size [] x0 w1 B1.out (by have h:=JL.out 1 (by omega);rw[HJ1.out,<-Lib.size_eq]at h;simpa using h) z1).mono ?_;rintro e w2 ⟨rfl,b2,l2⟩;rw[show([]:List Value)++Lib.strCells x0=Lib.byteCells (Lib.join ((xs.map (·.data.toList)).take 1) sep.data.toList) by rw[HJ1.out];simp[Lib.strCells_eq]]at b2;have B2:=S2 b2;have L2:=S2 (L1.out.trans l2);clear b2 l2
   go_wp2_with fail
   go_loopw [65] (fun i wr=>∃k:Nat,k+1<=xs.length/\i=.int .i64 k/\Hid (Lib.BuilderAt 131 5 w.heap.size w.heap.size (.pointer (some ⟨w.heap.size,0,none⟩)) (Lib.byteCells (Lib.join ((xs.map (·.data.toList)).take (k+1)) sep.data.toList)) wr)/\Hid (Below w.heap.size w wr)) (fun i _=>xs.length-(intOf i).toNat)
   case atStart=>exact⟨0,by omega,rfl,B2,L2⟩
   case round=>
    obtain⟨k,hk',rfl,BK,LK⟩:=hrel;have zr:w.heap.size<=wr.heap.size:=LK.out.size;rcases ApQ (k+1) xs.length with hlt|hge
    ·have hy:xs[k+1]?=some xs[k+1]:=Ao2 hlt;generalize xs[k+1]=y at hy
     have hcy:wr.cell? ⟨bk,o+1+k,none⟩=some (.string y):=by
      rw[LK.out.cell (p:=⟨bk,o+1+k,none⟩) hbk,show o+1+k=o+(k+1) by omega];exact CE.out (k+1) y hy
     have st:=Uu sep.data.toList y.data.toList (xs.map (·.data.toList)) (k+1) (by omega) (by simp[hy])
     have nx:Lib.byteCells (Lib.join ((xs.map (·.data.toList)).take (k+1)) sep.data.toList)++Lib.strCells sep++Lib.strCells y=Lib.byteCells (Lib.join ((xs.map (·.data.toList)).take (k+1+1)) sep.data.toList):=by
      rw[st,Lib.strCells_eq,Lib.strCells_eq,<-Lib.byteCells_append,<-Lib.byteCells_append]
     have jl:=JL.out (k+1+1) (by omega);rw[st]at jl;simp only[Ao5,<-Lib.size_eq]at jl;have bl:(Lib.byteCells (Lib.join ((xs.map (·.data.toList)).take (k+1)) sep.data.toList)).length=(Lib.join ((xs.map (·.data.toList)).take (k+1)) sep.data.toList).length:=Lib.byteCells_length _;generalize(Lib.join ((xs.map (·.data.toList)).take (k+1)) sep.data.toList).length=J at jl bl;have NX:=S2 nx;have BL:=S2 bl;clear nx st hy bl
     go_wp2_with fail
     refine(SD w.heap.size _ sep wr BK.out (by rw[BL.out];omega) zr).mono ?_;rintro e w3 ⟨rfl,b3,l3⟩;have z3:w.heap.size<=w3.heap.size:=Aqs zr l3.size;have B3:=S2 b3;have L3:=S2 l3;clear b3 l3
     go_wp2_with fail
     refine(SD w.heap.size _ y w3 B3.out (by rw[Ao5,BL.out,Lib.strCells_length];omega) z3).mono ?_;rintro e w4 ⟨rfl,b4,l4⟩;rw[NX.out]at b4;have B4:=S2 b4;have L4:=S2 ((LK.out.trans L3.out).trans l4);clear b4 l4
     go_wp2
     exact⟨⟨k+1,by omega,by go_num,B4,L4⟩,by simp[intOf];omega⟩
    have hke:k+1=xs.length:=by omega
    have hb:=BK.out;rw[hke,ApP (by simp)]at hb
    go_wp2_with fail
    refine(Z3 w.heap.size _ wr hb zr).mono ?_;rintro e w5 ⟨rfl,l5⟩;have L5:=S2 (LK.out.trans l5);clear l5 hb
    go_wp2
    go_ret
    exact⟨rfl,L5.out⟩)
open Go.Rv Go.RowKit
theorem TB{w:World}{a:Addr}{u:Value}(h:w.cell? a=some u):a.spot=none:=by
 unfold World.cell? at h;split at h
 ·cases hs:a.spot with
  |none=>rfl
  |some q=>simp[hs]at h
 cases h
theorem Adl{rs:AoH}{xs:List (List UInt8)}{sep r:List UInt8}{b:Bool}(h:Aej xs sep=some r):Con (B rs) 28 [.sl b (L (fun s=>[.str s]) xs),.str sep] [] (fun r' O'=>r'=.str r/\O'=[]):=by
 unfold Aej at h;split at h
 case isFalse=>cases h
 rename_i hl;obtain⟨hl1,hl2⟩:=hl;simp only[Ao0]at h;subst h;refine⟨fun F w g vs hm ha=>.inl ⟨⟨Tryz.f28,_,Tryz.func28,rfl,by decide +kernel⟩,?_⟩⟩;have hg:g=[]:=ApF.1 hm.len;subst hg;obtain⟨vs⟩:=vs
 have key:Calls Tryz.prog 28 ⟨vs⟩ w fun e w'=>e=.returned (.string ⟨(Lib.join xs sep).toArray⟩)/\Below w.heap.size w w':=by
  match vs,ha with
  | [u,v],⟨h1,h2,_⟩=>
   obtain⟨s,rfl,hs⟩:=GJ h2;have es:s=⟨sep.toArray⟩:=by subst hs;rfl
   subst es;cases h1 with
   | sl _ a len cap _ _ k c hlen hcap hfull hnone hk hc hr=>
    have hln:xs.length=len:=by rw[<-hlen];simp[L]
    subst hln
    have hraw:∀(i:Nat) (l:List UInt8),xs[i]?=some l->∃a',a=some a'/\w.cell? (a'.add i)=some (.string ⟨l.toArray⟩):=by
     intro i l hi;have e1:(L (fun s=>[AV.str s]) xs)[i]?=some [.str l]:=by simp[L,hi]
     have hk1:k=1:=by simpa using(hk i _ e1).symm
     subst hk1;obtain⟨a',ea,c1,_,_⟩:=hc i _ 0 _ e1 rfl;have c2:=hr i _ 0 _ e1 rfl;obtain⟨q,eq,hq⟩:=GJ c2;rw[eq,Arg,Aqw]at c1;have e2:q=⟨l.toArray⟩:=by subst hq;rfl
     exact⟨a',ea,by rw[c1,e2]⟩
    have h0:∀x,xs[0]?=some x->∃bk o,a=some ⟨bk,o,none⟩:=by
     intro x hx;obtain⟨a',ea,c1⟩:=hraw 0 x hx;rw[Go.Rv.add_zero]at c1;have sp:=TB c1;obtain⟨bk,o,spt⟩:=a';have sp':spt=none:=sp;subst sp';exact⟨bk,o,ea⟩
    have hcell:∀bk o,a=some ⟨bk,o,none⟩->∀(i:Nat) (l:List UInt8),xs[i]?=some l->w.cell? ⟨bk,o+i,none⟩=some (.string ⟨l.toArray⟩):=by
     intro bk o ea i l hi;obtain⟨a',ea',c1⟩:=hraw i l hi;rw[ea]at ea';cases ea';rw[<-c1];unfold Addr.add;by_cases hz:i=0
     ·subst hz;rfl
     rw[Ao6 hz]
    clear hraw hc hr hk hlen
    match xs,h0,hcell,hl1,hl2,hcap with
    |[],_,_,_,_,_=>exact(Af3 a cap _ w).mono fun e w' ⟨e1,e2⟩=>⟨e1,e2 ▸ Below.refl _ _⟩
    |[x],h0,hcell,_,_,_=>
     obtain⟨bk,o,rfl⟩:=h0 x rfl;have hx:=hcell bk o rfl 0 x rfl;exact(AaY bk o cap _ _ w hx).mono fun e w' ⟨e1,e2⟩=>⟨by rw[e1,Lib.join_one],e2 ▸ Below.refl _ _⟩
    | x::y::l,h0,hcell,hl1,hl2,hcap=>
     obtain⟨bk,o,rfl⟩:=h0 x rfl;have hx:=hcell bk o rfl 0 x rfl;have em:((x::y::l).map fun l=>(⟨l.toArray⟩:ByteArray)).map (·.data.toList)=x::y::l:=by simp[Ar0,ArM]
     have:=Ag2 bk o cap ((x::y::l).map fun l=>(⟨l.toArray⟩:ByteArray)) ⟨sep.toArray⟩ w (fun j z hz=>by
      rw[Apw,AoY]at hz;obtain⟨l',hl',rfl⟩:=hz;exact hcell bk o rfl j l' hl') (cell?_lt hx) (by simp) (by simpa using hl2) (by simpa using hcap) (by rw[em];exact hl1)
     rw[em,Ap4]at this;exact this
 refine key.mono fun e w' ⟨he,hb⟩=>?_
 have evo:Evo ((B rs).env F) 0 w [] w' []:=⟨hb.os,hb.tape,hb.output,hb.size,fun a u hc hp=>⟨by
  rw[<-hc];simp only[World.cell?,hb.block _ (cell?_lt hc)],hp⟩,fun β hβ hn=>⟨hb.block β hβ,hn⟩,fun _ hh=>absurd hh (ApT _)⟩
 exact⟨_,_,[],[],he,⟨rfl,rfl⟩,(Oo hm evo).1,evo,.str _ _ _ (by simp)⟩
variable {rs:AoH}
theorem I8{f a r}(h:CG f a=some r):Con (B rs) 27 [.ref 0 0,.agg (Ab a)] [.box [.bs false 1 (f.l.length) 0 (f.l.length)] false,.buf 1 (L AU f.l) false] (fun r' O'=>r'=.tup []/\O'=[.box [.bs false 1 (r.l.length) 0 (r.l.length)] false,.buf 1 (L AU r.l) false]):=by
 refine Co 2 69 [] Tryz.func27 (fun F hE=>?_) h;unfold CG;refine T0 [0,3] ?_;refine Bd fun aJ ab =>Lt fun t ac =>?_
 refine Tfe (O':=[.box [.bs false 1 (t.length) 0 (t.length)] false,.buf 1 (L AU t) false,_]) [0,3] (Ag (l:=[]) (m:=[(10,25,[.ref 0 0,.sl false (L AU ([([99,108,97,117,115,101]:List UInt8),a.Zd]:List (List UInt8)))],[.box [.bs false 1 (f.l.length) 0 (f.l.length)] false,.buf 1 (L AU f.l) false,.box (Ab a) false],_,_)]) trivial ⟨(wc (Ap ab) [0,1]),trivial⟩) (Ew1 ac) ?_;refine Ja (fun g=>⟨Al 69 [(0,.ref 0 0),(3,.ref 2 0)],[.box [.bs false 1 (g.length) 0 (g.length)] false,.buf 1 (L AU g) false,.box (Ab a) false]⟩) ?_ ?_
 ·intro aK;refine T0 [0,3,12,13,14] ?_;refine Sb ?_;refine Lo (fun(v:Int×List (List UInt8))=>(⟨Al 69 [(0,.ref 0 0),(3,.ref 2 0),(12,.sl false (L Ae a.Ze)),(13,i64 (a.Ze.length:Int)),(14,i64 v.1)],[.box [.bs false 1 (v.2.length) 0 (v.2.length)] false,.buf 1 (L AU v.2) false,.box (Ab a) false]⟩:St)) (ws [0,1,2]) ?_;rintro⟨u,i⟩ aL ad ae af;show B7 a u i=some ad->_;unfold B7;refine T0 [0,3,12,13,14,15] ?_;refine Sq <|Cd ?_ ?_
  ·refine Sk <|Tn <|?_
   refine Ja (fun s=>⟨Al 69 [(0,.ref 0 0),(3,.ref 2 0),(12,.sl false (L Ae a.Ze)),(13,i64 (a.Ze.length:Int)),(14,i64 u)],[.box [.bs false 1 (s.length) 0 (s.length)] false,.buf 1 (L AU s) false,.box (Ab a) false]⟩) ?_ ?_
   ·intro aM;refine Sb <|Ck fun ag =>Lt fun c ah =>Lt fun b ai =>Lt fun d aj =>Te (O':=[_,_,_,.box [i64 c,i64 b,i64 d] false]) [0,3,4,5,12,13,14] Ac (Ew4 (qR ag) ah ai aj) ?_
    refine Ck fun z=>?_
    have aa:=z;simp only[Apo,ApN,Ao5,Apb,Apr,Aqg,Nat.reduceAdd]at aa;refine Bd fun ak al =>Ck fun am =>Bd fun aN an =>Lt fun e ao =>De (O':=[.box [.bs false 1 (e.length) 0 (e.length)] false,.buf 1 (L AU e) false,_,_]) [[],[],[],[2],[1,2,3],[1,2,3,4],[],[],[7],[6,7,8],[6,7,8,9],[1,2,3,4,5,6,7,8,9,10],[0,1,2,3,4,5,6,7,8,9,10,11]] [0,3,5,12,13,14] (Ag (l:=[(25,_,_,_)]) (m:=[(31,25,[.ref 0 0,.sl false (L AU ([nth ([([119,104,101,110]:List UInt8),([97,110,100]:List UInt8)]:List (List UInt8)) ((Qm u 1).toNat),nth ak c.toNat]:List (List UInt8)))],[.box [.bs false 1 (i.length) 0 (i.length)] false,.buf 1 (L AU i) false,.box (Ab a) false,.box [i64 c,i64 b,i64 d] false],_,_)]) ⟨CM  al,trivial⟩ ⟨(wc (Ap an) [0,1]),trivial⟩) (Ew4 (qR z) (qR aa) (qR am) ao) ?_
    refine Sq <|T0 [0,3,5,12,13,14,36] ?_
    refine Cd ?_ ?_
    ·refine Bd fun aO ap =>Lt fun j aq =>?_
     refine Tfe (O':=[.box [.bs false 1 (j.length) 0 (j.length)] false,.buf 1 (L AU j) false,_,_]) [0,3,5,12,13,14] (Ag (l:=[]) (m:=[(39,25,[.ref 0 0,.sl false (L AU ([([105,115]:List UInt8)]:List (List UInt8)))],[.box [.bs false 1 (e.length) 0 (e.length)] false,.buf 1 (L AU e) false,.box (Ab a) false,.box [i64 c,i64 b,i64 d] false],_,_)]) trivial ⟨(wc (Ap ap) [0,1]),trivial⟩) (Ew1 aq) ?_;refine Bd fun aP ar =>Lt fun w au =>Te (O':=[.box [.bs false 1 (w.length) 0 (w.length)] false,.buf 1 (L AU w) false,_,_]) [0,3,12,13,14] (Ag (l:=[]) (m:=[(43,63,[.ref 0 0,i64 b],[.box [.bs false 1 (j.length) 0 (j.length)] false,.buf 1 (L AU j) false,.box (Ab a) false,.box [i64 c,i64 b,i64 d] false],_,_)]) trivial ⟨(wc (C9 ar) [0,1]),trivial⟩) (Ew1 au) ?_
     exact Sx <|Tx <|Bx <|Jm (ws [0,1,2])
    refine Sk <|Tn <|Bd fun aQ av =>Lt fun k aw =>?_
    refine Tfe (O':=[.box [.bs false 1 (k.length) 0 (k.length)] false,.buf 1 (L AU k) false,_,_]) [0,3,5,12,13,14] (Ag (l:=[]) (m:=[(46,25,[.ref 0 0,.sl false (L AU ([([105,110]:List UInt8)]:List (List UInt8)))],[.box [.bs false 1 (e.length) 0 (e.length)] false,.buf 1 (L AU e) false,.box (Ab a) false,.box [i64 c,i64 b,i64 d] false],_,_)]) trivial ⟨(wc (Ap av) [0,1]),trivial⟩) (Ew1 aw) ?_;refine Bd fun aR ax =>Lt fun n ay =>Te (O':=[.box [.bs false 1 (n.length) 0 (n.length)] false,.buf 1 (L AU n) false,_,_]) [0,3,5,12,13,14] (Ag (l:=[]) (m:=[(50,63,[.ref 0 0,i64 b],[.box [.bs false 1 (k.length) 0 (k.length)] false,.buf 1 (L AU k) false,.box (Ab a) false,.box [i64 c,i64 b,i64 d] false],_,_)]) trivial ⟨(wc (C9 ax) [0,1]),trivial⟩) (Ew1 ay) ?_
    refine Bd fun aS az =>Lt fun o aA =>?_
    refine Tfe (O':=[.box [.bs false 1 (o.length) 0 (o.length)] false,.buf 1 (L AU o) false,_,_]) [0,3,5,12,13,14] (Ag (l:=[]) (m:=[(53,25,[.ref 0 0,.sl false (L AU ([([46,46]:List UInt8)]:List (List UInt8)))],[.box [.bs false 1 (n.length) 0 (n.length)] false,.buf 1 (L AU n) false,.box (Ab a) false,.box [i64 c,i64 b,i64 d] false],_,_)]) trivial ⟨(wc (Ap az) [0,1]),trivial⟩) (Ew1 aA) ?_;refine Bd fun aT aB =>Lt fun x aC =>Fe (O':=[.box [.bs false 1 (x.length) 0 (x.length)] false,.buf 1 (L AU x) false,_,_]) [0,3,12,13,14] (Ag (l:=[]) (m:=[(57,63,[.ref 0 0,i64 d],[.box [.bs false 1 (o.length) 0 (o.length)] false,.buf 1 (L AU o) false,.box (Ab a) false,.box [i64 c,i64 b,i64 d] false],_,_)]) trivial ⟨(wc (C9 aB) [0,1]),trivial⟩) (Ew1 aC) ?_
    exact Bn <|Jm (ws [0,1,2])
   intro s;refine F0 [0,3,12,13,14] ?_;exact Ln (ws [0,1,2])
  refine Sx <|Tx <|Ly af ae <|Bx <|?_
  exact Jm ((ws (l':=[(0,.ref 0 0),(3,.ref 2 0)]) (O':=[.box [.bs false 1 (i.length) 0 (i.length)] false,.buf 1 (L AU i) false,.box (Ab a) false]) [0,1,2]).trans (ws [0,1,2]))
 intro g;refine Bd fun aU aD =>Lt fun p aE =>?_
 refine Tfe (O':=[.box [.bs false 1 (p.length) 0 (p.length)] false,.buf 1 (L AU p) false,_]) [0,3] (Ag (l:=[]) (m:=[(61,25,[.ref 0 0,.sl false (L AU ([([112,97,121]:List UInt8)]:List (List UInt8)))],[.box [.bs false 1 (g.length) 0 (g.length)] false,.buf 1 (L AU g) false,.box (Ab a) false],_,_)]) trivial ⟨(wc (Ap aD) [0,1]),trivial⟩) (Ew1 aE) ?_;refine Bd fun aV aF =>Lt fun q aG =>Te (O':=[.box [.bs false 1 (q.length) 0 (q.length)] false,.buf 1 (L AU q) false,_]) [0] (Ag (l:=[]) (m:=[(65,64,[.ref 0 0,.agg (i64 a.Pay.Op::i64 a.Pay.N::(C1 i64 a.Pay.Unit.l++[.sl false (L cApi_Expr a.Pay.L)]))],[.box [.bs false 1 (p.length) 0 (p.length)] false,.buf 1 (L AU p) false,.box (Ab a) false],_,_)]) trivial ⟨(wc (Jv aF) [0,1]),trivial⟩) (Ew1 aG) ?_
 refine Bd fun aW aH =>Lt fun y aI =>?_
 refine Ffe (O':=[.box [.bs false 1 (y.length) 0 (y.length)] false,.buf 1 (L AU y) false,_]) [] (Ag (l:=[]) (m:=[(68,25,[.ref 0 0,.sl false (L AU ([([59]:List UInt8)]:List (List UInt8)))],[.box [.bs false 1 (q.length) 0 (q.length)] false,.buf 1 (L AU q) false,.box (Ab a) false],_,_)]) trivial ⟨(wc (Ap aH) [0,1]),trivial⟩) (Ew1 aI) ?_;exact Ro [0,1]
theorem NR{xs:List (List UInt8)}{sep:List UInt8}{r:List UInt8}(h:Kh xs sep=some r):Con (B rs) 28 [.sl false (L AU xs),.str sep] [] (fun r' O'=>r'=.str r/\O'=[]) :=
 Adl h
theorem NY{a r}(h:Ee a=some r):Con (B rs) 12 [.agg (Af a)] [] (fun r' O'=>r'=.tup [.str r.1,i64 r.2]/\O'=[]):=by
 refine Cw 50 [.tmp 2,.tmp 3] Tryz.func12 (fun F hE=>?_) h;unfold Ee;refine T0 [1] ?_;refine Sq <|Bd fun an p =>Te [1,4] (o1 10 (Hi p)) Ev ?_
 refine T0 [1,4,12] ?_;refine Cd ?_ ?_
 ·refine T0 [2,3] ?_;exact Sr <|Tr <|Rr
 refine Sk <|Tn <|T0 [1,5] ?_
 refine Rw (Ib 1 0 1 rfl rfl) ?_;refine Bd fun q s =>Ck fun t =>Bd fun ao u =>Lt fun d w =>De (O':=[_,.box [.bs false 2 (d.length) 0 (d.length)] false,.buf 1 (L AU d) false]) [[],[],[1],[],[],[4],[4,5],[3,4,5,6],[3,4,5,6,7],[1,2,3,4,5,6,7,8],[0,1,2,3,4,5,6,7,8,9]] [1,5] (Ag (l:=[(19,_,_,_)]) (m:=[(26,25,[.ref 1 0,.sl false (L AU ([([116,97,114,105,102,102]:List UInt8),a.Zd,([102,111,114]:List UInt8),nth q ((w64 (a.For-1)).toNat),([123]:List UInt8)]:List (List UInt8)))],[.box (Af a) false,.box [.bs true 2 0 0 0] false,.buf 1 (L AU ([])) false],_,_)]) ⟨CM  s,trivial⟩ ⟨(wc (Ap u) [1,2]),trivial⟩) (Ew2 (qR t) w) ?_
 refine Ja (fun b=>⟨Al 50 [(5,.ref 0 0)],[.box [.bs false 1 (b.length) 0 (b.length)] false,.buf 1 (L AU b) false]⟩) ?_ ?_
 ·intro ap;refine T0 [5,28,29,30] ?_;refine Sb ?_;refine Lo (fun(v:Int×List (List UInt8))=>(⟨Al 50 [(5,.ref 0 0),(28,.sl false (L Ab a.Zf)),(29,i64 (a.Zf.length:Int)),(30,i64 v.1)],[.box [.bs false 1 (v.2.length) 0 (v.2.length)] false,.buf 1 (L AU v.2) false]⟩:St)) (ws [1,2]) ?_;rintro⟨x,c⟩ aq y z aa;show Eb a x c=some y->_;unfold Eb;refine T0 [5,28,29,30,31] ?_;refine Sq <|Cd ?_ ?_
  ·refine Sk <|Tn <|Sq <|Sb <|Ck fun ab =>Lt fun e ac =>Lt fun f ad =>Lt fun g ae =>Lt fun i af =>Lt fun j ag =>Lt fun k ah =>Te (O':=[_,_,.box (.str e::.sl false (L Ae f)::i64 g::i64 i::(C1 i64 j.l++[.sl false (L cApi_Expr k)])) false]) [5,7,28,29,30] Ac (Ev (by simp only[go_sem,qR ab,ac,ad,ae,af,ag,ah];exact CL)) ?_
   refine Bd fun ar ai =>Lt fun n aj =>Fe (O':=[.box [.bs false 1 (n.length) 0 (n.length)] false,.buf 1 (L AU n) false,_]) [5,28,29,30] (Ag (l:=[]) (m:=[(36,27,[.ref 0 0,.agg (.str e::.sl false (L Ae f)::i64 g::i64 i::(C1 i64 j.l++[.sl false (L cApi_Expr k)]))],[.box [.bs false 1 (c.length) 0 (c.length)] false,.buf 1 (L AU c) false,.box (.str e::.sl false (L Ae f)::i64 g::i64 i::(C1 i64 j.l++[.sl false (L cApi_Expr k)])) false],_,_)]) trivial ⟨(wc (I8 ai) [0,1]),trivial⟩) (Ew1 aj) ?_
   refine Bn <|Tn <|F0 [5,28,29,30] ?_
   exact Ln (ws [0,1])
  refine Sx <|Tx <|Ly aa z <|Bx <|?_
  exact Jm ((ws (l':=[(5,.ref 0 0)]) (O':=[.box [.bs false 1 (c.length) 0 (c.length)] false,.buf 1 (L AU c) false]) [0,1]).trans (ws [0,1]))
 intro b;refine Bd fun au ak =>Lt fun o al =>?_
 refine Tfe (O':=[.box [.bs false 1 (o.length) 0 (o.length)] false,.buf 1 (L AU o) false]) [5] (Ag (l:=[]) (m:=[(40,25,[.ref 0 0,.sl false (L AU ([([125]:List UInt8)]:List (List UInt8)))],[.box [.bs false 1 (b.length) 0 (b.length)] false,.buf 1 (L AU b) false],_,_)]) trivial ⟨(wc (Ap ak) [0,1]),trivial⟩) (Ew1 al) ?_;refine Bd fun av am =>Te [8] (o1 45 (NR am)) Ev ?_
 refine Sq <|T0 [8,48] ?_
 refine Cd ?_ ?_
 ·refine T0 [2,3] ?_;exact Sr <|Tr <|Rr
 refine Sk <|Tn <|T0 [2,3] ?_
 exact Sr <|Rr
theorem F3{a b r}(h:AZ a b=some r):Con (B rs) 92 [.ref 1 0,.ref 3 0] [.box [.bs false 2 (a.code.length) 0 (a.code.length)] false,.box [.ref 0 0] false,.buf 3 (L Ak a.code) false,.box [i64 b] false] (fun r' O'=>r'=.tup []/\O'=[.box [.bs false 2 (r.code.length) 0 (r.code.length)] false,.box [.ref 0 0] false,.buf 3 (L Ak r.code) false,.box [i64 b] false]):=by
 refine Co 4 14 [] Tryz.func92 (fun F hE=>?_) h;unfold AZ;refine Ck fun d =>Lt fun c e =>Ge (O':=[.box [.bs false 2 (c.length) 0 (c.length)] false,_,.buf 3 (L Ak c) false,_]) [[],[0],[0,1],[0,1,2],[],[],[5],[5,6],[5,6,7],[5,6,7,8],[0,1,2,3,4,5,6,7,8,9],[0,1,2,3,4,5,6,7,8,9,10],[0,1,2,3,4,5,6,7,8,9,10,11]] [] Ac (Ew2 (qR d) e) ?_
 exact Ro [0,1,2,3]
theorem A7{a c d e r}(h:Ar a c d e=some r):Con (B rs) 55 [.ref 0 0,i64 c,i64 d,i64 e] [.box [.bs false 1 (a.code.length) 0 (a.code.length)] false,.buf 3 (L Ak a.code) false] (fun r' O'=>r'=.fn 92 [.ref 2 0,.ref 3 0]/\O'=[.box [.bs false 1 (r.2.code.length) 0 (r.2.code.length)] false,.buf 3 (L Ak r.2.code) false,.box [.ref 0 0] false,.box [i64 r.1] false]):=by
 refine Co 2 29 [.tmp 8] Tryz.func55 (fun F hE=>?_) h;unfold Ar;refine T0 [1,2,3,4] ?_;refine Lt fun f i =>Te (O':=[_,_,_,.box [i64 f] false]) [1,2,3,4,9] Ac (Ew1 i) ?_
 refine Ck fun g =>Lt fun b j =>?_
 intro h;refine TC hE H8 [[],[],[1],[1,2],[1,2,3],[],[],[],[5,6,7],[5,6,7,8],[1,2,3,4,5,6,7,8,9],[0,1,2,3,4,5,6,7,8,9,10],[0,1,2,3,4,5,6,7,8,9,10,11],[0,1,2,3,4,5,6,7,8,9,10,11,12]] (by kernel_rfl) [(4,2)] [] [(19,1)] [] [4,9,19] (by kernel_rfl) (fr':=[(4,.ref 2 0),(9,.ref 3 0),(19,.bs false 1 (a.code.length) 0 (a.code.length))]) (O':=[.box [.bs false 1 (b.length) 0 (b.length)] false,.buf 3 (L Ak b) false,.box [.ref 0 0] false,.box [i64 f] false]) ⟨rfl,trivial⟩ ⟨(by exact And.intro rfl (And.intro rfl rfl)),trivial⟩ trivial ⟨_,_,Ac,(by simp only[XOk]),?_⟩ ?_
 ·subst j;first|(simp only[go_sem,g];done)|(simp only[go_sem,g];simp only[AqI 1])
 revert h;refine T0 [8] ?_;exact Sr <|Ro [0,1,2,3]
variable {rs:AoH}
theorem NL{a r}(h:GX a=some r):Con (B rs) 56 [.sl false (L Ak a)] [] (fun r' O'=>r'=.tup [i64 r.1,i64 r.2]/\O'=[]):=by
 refine Cw 149 [.tmp 2,.tmp 3] Tryz.func56 (fun F hE=>?_) h;unfold GX;refine T0 [0,2] ?_;refine Sq <|T0 [0,2,16] ?_
 refine Cd ?_ ?_
 ·refine T0 [2,3] ?_;exact Sr <|Tr <|Rr
 refine Sk <|Tn <|Sq <|?_
 refine Tw [0,2,23] (fun ak=>⟨Al 149 [(0,.sl false (L Ak a)),(2,i64 0),(23,.bool ak)],[]⟩) ?_ ?_
 ·intro _;refine Sp (fun x=>?_) fun x=>?_
  ·exact Lf Ac (Ew1 x) (ws [])
  refine Bd fun aT ax=>?_
  exact Lf (o1 22 (HS (fun h=>LZ h) ax)) (Ew1 x) (ws [])
 intro ak;refine Cd ?_ ?_
 ·refine T0 [2,3] ?_;exact Sr <|Tr <|Rr
 refine Sk <|Tn <|Bd fun aU ay =>?_
 refine Tfe [0,2,4] (Ag (l:=[]) (m:=[(27,96,[.sl false (L IF ([(-1)]:List Int)),i64 (a.length:Int)],[],_,_)]) trivial ⟨(wc (KY ay) []),trivial⟩) Ev ?_;refine Ck fun az =>Lt fun y aA =>Te (fr':=[(0,_),(2,_),(4,.bs false 0 (y.length) 0 (y.length))]) (O':=[.buf 1 (L IF y) false]) [0,2,4] Ac (Ew2 (qL az) aA) ?_
 refine Jo (fun al=>⟨Al 149 [(2,i64 al)],[]⟩) ?_ ?_
 ·intro aV am;refine T0 [0,2,4,30,31,32] ?_;refine Sb ?_;refine Lo (fun⟨o,b,c⟩=>⟨Al 149 [(0,.sl false (L Ak a)),(2,i64 o),(4,.bs false 0 (c.length) 0 (c.length)),(30,.sl false (L Ak a)),(31,i64 (a.length:Int)),(32,i64 b)],[.buf 1 (L IF c) false]⟩) (ws [0]) ?_;rintro⟨o,b,c⟩ aW aB z aa;show Gv a o b c=some aB->_;unfold Gv;refine T0 [0,2,4,30,31,32,33] ?_;refine Sq <|Cd ?_ ?_
  ·refine Sk <|Tn <|?_
   refine Jo (fun(v:Int×List Int)=>(⟨Al 149 [(0,.sl false (L Ak a)),(2,i64 v.1),(4,.bs false 0 (v.2.length) 0 (v.2.length)),(30,.sl false (L Ak a)),(31,i64 (a.length:Int)),(32,i64 b)],[.buf 1 (L IF v.2) false]⟩:St)) ?_ ?_
   ·intro aX an;refine Sb <|Ck fun aC =>Lt fun p aD =>Lt fun q aE =>Lt fun s aF =>Te (O':=[_,.box [i64 p,i64 q,i64 s] false]) [0,2,4,5,6,30,31,32] Ac (Ew4 (qR aC) aD aE aF) ?_
    refine Ck fun aG =>Te [0,2,4,5,6,7,30,31,32] Ac (Ew1 (qR aG)) ?_
    refine Sq <|T0 [0,2,4,5,6,7,30,31,32,42] ?_
    refine Cd ?_ ?_
    ·exact Sx <|Tx <|Bx <|Jn (ws [0])
    refine Sk <|Tn <|Bd fun aY aH =>Te [0,2,4,5,6,7,8,9,30,31,32] (o1 46 (NK aH)) Ev ?_
    refine Lt fun e aI =>Te (fr':=[(0,_),(2,_),(4,_),(5,_),(6,_),(7,_),(8,_),(10,i64 e),(30,_),(31,_),(32,_)]) [0,2,4,5,6,7,8,10,30,31,32] Ac (Ew1 aI) ?_
    refine Lt fun f aJ =>Te (fr':=[(0,_),(2,i64 f),(4,_),(5,_),(6,_),(7,_),(8,_),(10,_),(30,_),(31,_),(32,_)]) [0,2,4,5,6,7,8,10,30,31,32] Ac (Ew1 aJ) ?_
    refine Sq ?_;refine Tw [0,2,4,5,6,10,30,31,32,78] (fun ao=>⟨Al 149 [(0,.sl false (L Ak a)),(2,i64 f),(4,.bs false 0 (c.length) 0 (c.length)),(5,i64 b),(6,.ref 1 0),(10,i64 e),(30,.sl false (L Ak a)),(31,i64 (a.length:Int)),(32,i64 b),(78,.bool ao)],[.buf 1 (L IF c) false,.box [i64 p,i64 q,i64 s] false]⟩) ?_ ?_
    ·intro _;refine Sp (fun g=>?_) fun g=>?_
     ·exact Lf Ac (Ew1 g) (ws [0,1])
     refine Sp (fun k=>?_) fun k=>?_
     ·refine Sp (fun t=>?_) fun t=>?_
      ·exact Lf Ac (Ew3 g k t) (ws [0,1])
      refine Sp (fun ab=>?_) fun ab=>?_
      ·exact Lf Ac (Ew4 g k t ab) (ws [0,1])
      exact Lf Ac (Ew4 g k t ab) (ws [0,1])
     refine Sp (fun ac=>?_) fun ac=>?_
     ·exact Lf Ac (Ew3 g k ac) (ws [0,1])
     exact Lf Ac (Ew3 g k ac) (ws [0,1])
    intro ao;refine Cd ?_ ?_
    ·refine T0 [2,3] ?_;exact Sr <|Tr <|Br <|Jr an <|Lr aa z <|Br <|Jr am <|Rr
    refine Sk <|Tn <|T0 [0,2,4,5,6,10,11,30,31,32] ?_
    refine Ja (fun i=>⟨Al 149 [(0,.sl false (L Ak a)),(2,i64 f),(4,.bs false 0 (c.length) 0 (c.length)),(5,i64 b),(6,.ref 1 0),(10,i64 e),(11,.bs false 2 (i.length) 0 (i.length)),(30,.sl false (L Ak a)),(31,i64 (a.length:Int)),(32,i64 b)],[.buf 1 (L IF c) false,.box [i64 p,i64 q,i64 s] false,.buf 1 (L IF i) false]⟩) ?_ ?_
    ·intro aZ;refine Tw [0,2,4,5,6,10,11,30,31,32,86] (fun ap=>⟨Al 149 [(0,.sl false (L Ak a)),(2,i64 f),(4,.bs false 0 (c.length) 0 (c.length)),(5,i64 b),(6,.ref 1 0),(10,i64 e),(11,.sl true (L IF ([]))),(30,.sl false (L Ak a)),(31,i64 (a.length:Int)),(32,i64 b),(86,.bool ap)],[.buf 1 (L IF c) false,.box [i64 p,i64 q,i64 s] false]⟩) ?_ ?_
     ·intro _;refine Sp (fun ad=>?_) fun ad=>?_
      ·exact Lf Ac (Ew1 ad) (ws [0,1])
      exact Lf Ac (Ew1 ad) (ws [0,1])
     intro ap;refine Cd ?_ ?_
     ·have aK:FY 1 8:=by decide
      refine Lt fun ae aL =>Fe (fr':=[(0,_),(2,_),(4,_),(5,_),(6,_),(10,_),(11,.bs false 3 (ae.length) 0 (ae.length)),(30,_),(31,_),(32,_)]) (O':=[_,_,_,.buf 1 (L IF ae) false]) [0,2,4,5,6,10,11,30,31,32] Ac (Ew2 aK aL) ?_
      exact Jm (ws [0,1,3])
     refine Sk ?_;exact Jm ((LV 11 1 rfl).trans (ws [0,1,2]))
    intro i;refine Ja (fun d=>⟨Al 149 [(0,.sl false (L Ak a)),(2,i64 f),(4,.bs false 0 (c.length) 0 (c.length)),(5,i64 b),(10,i64 e),(11,.bs false 1 (d.length) 0 (d.length)),(30,.sl false (L Ak a)),(31,i64 (a.length:Int)),(32,i64 b)],[.buf 1 (L IF c) false,.buf 1 (L IF d) false]⟩) ?_ ?_
    ·intro a0;refine Tw [0,2,4,5,10,11,30,31,32,104] (fun aq=>⟨Al 149 [(0,.sl false (L Ak a)),(2,i64 f),(4,.bs false 0 (c.length) 0 (c.length)),(5,i64 b),(10,i64 e),(11,.bs false 1 (i.length) 0 (i.length)),(30,.sl false (L Ak a)),(31,i64 (a.length:Int)),(32,i64 b),(104,.bool aq)],[.buf 1 (L IF c) false,.buf 1 (L IF i) false]⟩) ?_ ?_
     ·intro _;refine Sp (fun u=>?_) fun u=>?_
      ·refine Sp (fun af=>?_) fun af=>?_
       ·exact Lf Ac (Ew2 u af) (ws [0,2])
       exact Lf Ac (Ew2 u af) (ws [0,2])
      exact Lf Ac (Ew1 u) (ws [0,2])
     intro aq;refine Cd ?_ ?_
     ·refine Ck fun aM =>Lt fun ag aN =>Fe (fr':=[(0,_),(2,_),(4,_),(5,_),(10,_),(11,.bs false 1 (ag.length) 0 (ag.length)),(30,_),(31,_),(32,_)]) (O':=[_,.buf 1 (L IF ag) false,_]) [0,2,4,5,10,11,30,31,32] Ac (Ew2 aM aN) ?_
      exact Jm (ws [0,1])
     exact Sk <|Jm (ws [0,1])
    intro d;refine T0 [0,2,4,5,10,30,31,32,110,111,112] ?_;refine Sb ?_;refine Lo (fun(v:Int×List Int)=>(⟨Al 149 [(0,.sl false (L Ak a)),(2,i64 f),(4,.bs false 0 (v.2.length) 0 (v.2.length)),(5,i64 b),(10,i64 e),(30,.sl false (L Ak a)),(31,i64 (a.length:Int)),(32,i64 b),(110,.bs false 1 (d.length) 0 (d.length)),(111,i64 (d.length:Int)),(112,i64 v.1)],[.buf 1 (L IF v.2) false,.buf 1 (L IF d) false]⟩:St)) (ws [0,1]) ?_;rintro⟨ah,j⟩ a1 aO ar au;show EI a b e d ah j=some aO->_;unfold EI;refine T0 [0,2,4,5,10,30,31,32,110,111,112,113] ?_;refine Sq <|Cd ?_ ?_
    ·refine Sk <|Tn <|Sq <|Sb <|Ck fun aP =>Te [0,2,4,5,10,13,30,31,32,110,111,112] Ac (Ew1 (qR aP)) ?_
     refine Sq ?_;refine Tw [0,2,4,5,10,13,30,31,32,110,111,112,139] (fun av=>⟨Al 149 [(0,.sl false (L Ak a)),(2,i64 f),(4,.bs false 0 (j.length) 0 (j.length)),(5,i64 b),(10,i64 e),(13,i64 (nth d ah.toNat)),(30,.sl false (L Ak a)),(31,i64 (a.length:Int)),(32,i64 b),(110,.bs false 1 (d.length) 0 (d.length)),(111,i64 (d.length:Int)),(112,i64 ah),(139,.bool av)],[.buf 1 (L IF j) false,.buf 1 (L IF d) false]⟩) ?_ ?_
     ·intro _;refine Sp (fun n=>?_) fun n=>?_
      ·exact Lf Ac (Ew1 n) (ws [0,1])
      refine Sp (fun w=>?_) fun w=>?_
      ·exact Lf Ac (Ew2 n w) (ws [0,1])
      refine Ck fun aw=>?_
      refine Sp (fun ai=>?_) fun ai=>?_
      ·refine Ck fun aQ=>?_
       exact Lf Ac (Ew5 n w (qR aw) ai (qR aQ)) (ws [0,1])
      exact Lf Ac (Ew4 n w (qR aw) ai) (ws [0,1])
     intro av;refine Cd ?_ ?_
     ·refine T0 [2,3] ?_;exact Sr <|Tr <|Br <|Tr <|Lr au ar <|Br <|Br <|Jr an <|Lr aa z <|Br <|Jr am <|Rr
     refine Sk <|Tn <|Ck fun aR =>Lt fun aj aS =>Fe (fr':=[(0,_),(2,_),(4,.bs false 0 (aj.length) 0 (aj.length)),(5,_),(10,_),(30,_),(31,_),(32,_),(110,_),(111,_),(112,_)]) (O':=[.buf 1 (L IF aj) false,_]) [0,2,4,5,10,30,31,32,110,111,112] Ac (Ew2 (qR aR) aS) ?_
     refine Bn <|Tn <|F0 [0,2,4,5,10,30,31,32,110,111,112] ?_
     exact Ln (ws [0,1])
    refine Sx <|Tx <|Lx au ar <|Bx <|Bn <|?_
    exact Jn ((ws (l':=[(0,.sl false (L Ak a)),(2,i64 f),(4,.bs false 0 (j.length) 0 (j.length)),(30,.sl false (L Ak a)),(31,i64 (a.length:Int)),(32,i64 b)]) (O':=[.buf 1 (L IF j) false]) [0]).trans (ws [0]))
   rintro⟨a2,a3⟩;refine F0 [0,2,4,30,31,32] ?_;exact Ln (ws [0])
  refine Sx <|Tx <|Lx aa z <|Bx <|?_
  exact Jn ((ws (l':=[(2,i64 o)]) (O':=[]) []).trans (ws []))
 intro al;refine Sq <|T0 [2,147] ?_
 refine Cd ?_ ?_
 ·refine T0 [2,3] ?_;exact Sr <|Tr <|Rr
 refine Sk <|Tn <|T0 [2,3] ?_
 exact Sr <|Rr
variable {rs:AoH}
theorem GF{rec_:AoW->AoM->Option (AoW)}(hrec:∀{b:AoW} {a:AoM} {r:AoW},rec_ b a=some r->Con (B rs) 91 [.ref 0 0,.agg (i64 a.Op::i64 a.N::(C1 i64 a.Unit.l++[.sl false (L cApi_Expr a.L)]))] [.box [.bs false 1 (b.code.length) 0 (b.code.length)] false,.buf 3 (L Ak b.code) false] (fun r' O'=>r'=.tup []/\O'=[.box [.bs false 1 (r.code.length) 0 (r.code.length)] false,.buf 3 (L Ak r.code) false])){b:AoW}{a:AoM}{r:AoW}(h:BA rec_ b a=some r):Con (B rs) 91 [.ref 0 0,.agg (i64 a.Op::i64 a.N::(C1 i64 a.Unit.l++[.sl false (L cApi_Expr a.L)]))] [.box [.bs false 1 (b.code.length) 0 (b.code.length)] false,.buf 3 (L Ak b.code) false] (fun r' O'=>r'=.tup []/\O'=[.box [.bs false 1 (r.code.length) 0 (r.code.length)] false,.buf 3 (L Ak r.code) false]):=by
 refine Ih (N:=74) (rs:=[]) 2 rfl ok Tryz.func91 rfl (by decide +kernel) rfl rfl (Apj rfl) (fun F=>?_);have hE:=(ok (rs:=rs)).env F;unfold BA at h;show Run ((B rs).env F) 2 _ ⟨Al 74 [(0,.ref 0 0),(1,.agg (i64 a.Op::i64 a.N::(C1 i64 a.Unit.l++[.sl false (L cApi_Expr a.L)])))],[.box [.bs false 1 (b.code.length) 0 (b.code.length)] false,.buf 3 (L Ak b.code) false]⟩ _;refine BR ?_;revert h;refine T0 [0,3] ?_;refine T0 [0,3,7] ?_;refine Sb <|T0 [0,3,7,26] ?_
 refine Cd ?_ ?_
 ·refine Bd fun aH x =>Lt fun s y =>Fe (O':=[.box [.bs false 1 (s.length) 0 (s.length)] false,.buf 3 (L Ak s) false,_,_,_]) [] (Ag (l:=[]) (m:=[(31,55,[.ref 0 0,i64 1,i64 a.N,i64 0],[.box [.bs false 1 (b.code.length) 0 (b.code.length)] false,.buf 3 (L Ak b.code) false,.box (i64 a.Op::i64 a.N::(C1 i64 a.Unit.l++[.sl false (L cApi_Expr a.L)])) false],_,_)]) trivial ⟨(wc (A7 x) [0,1]),trivial⟩) (Ew1 y) ?_
  exact Bn <|Ro [0,1]
 refine T0 [0,3,7,32] ?_;refine Cd ?_ ?_
 ·refine Bd fun aI z =>Lt fun t aa =>Fe (O':=[.box [.bs false 1 (t.length) 0 (t.length)] false,.buf 3 (L Ak t) false,_,_,_]) [] (Ag (l:=[]) (m:=[(37,55,[.ref 0 0,i64 2,i64 a.N,i64 0],[.box [.bs false 1 (b.code.length) 0 (b.code.length)] false,.buf 3 (L Ak b.code) false,.box (i64 a.Op::i64 a.N::(C1 i64 a.Unit.l++[.sl false (L cApi_Expr a.L)])) false],_,_)]) trivial ⟨(wc (A7 z) [0,1]),trivial⟩) (Ew1 aa) ?_
  exact Bn <|Ro [0,1]
 refine T0 [0,3,38] ?_;refine Cd ?_ ?_
 ·refine Ck fun ab =>Bd fun aJ ac =>Lt fun c ad =>Te (O':=[.box [.bs false 1 (c.length) 0 (c.length)] false,.buf 3 (L Ak c) false,_]) [0,3] (Ag (l:=[]) (m:=[(45,91,[.ref 0 0,.agg (i64 ((nth a.L 0).Op)::i64 ((nth a.L 0).N)::(C1 i64 ((nth a.L 0).Unit).l++[.sl false (L cApi_Expr ((nth a.L 0).L))]))],[.box [.bs false 1 (b.code.length) 0 (b.code.length)] false,.buf 3 (L Ak b.code) false,.box (i64 a.Op::i64 a.N::(C1 i64 a.Unit.l++[.sl false (L cApi_Expr a.L)])) false],_,_)]) trivial ⟨(wc (hrec ac) [0,1]),trivial⟩) (Ew2 (qL ab) ad) ?_
  refine Ck fun ae =>Bd fun aK af =>Lt fun d ag =>Te (O':=[.box [.bs false 1 (d.length) 0 (d.length)] false,.buf 3 (L Ak d) false,_]) [0,3] (Ag (l:=[]) (m:=[(51,91,[.ref 0 0,.agg (i64 ((nth a.L 1).Op)::i64 ((nth a.L 1).N)::(C1 i64 ((nth a.L 1).Unit).l++[.sl false (L cApi_Expr ((nth a.L 1).L))]))],[.box [.bs false 1 (c.length) 0 (c.length)] false,.buf 3 (L Ak c) false,.box (i64 a.Op::i64 a.N::(C1 i64 a.Unit.l++[.sl false (L cApi_Expr a.L)])) false],_,_)]) trivial ⟨(wc (hrec af) [0,1]),trivial⟩) (Ew2 (qL ae) ag) ?_
  refine Bd fun e ah =>Lt fun f ai =>Te (O':=[.box [.bs false 1 (f.length) 0 (f.length)] false,.buf 3 (L Ak f) false,_,_,_]) [0,3] (Ag (l:=[]) (m:=[(53,55,[.ref 0 0,i64 11,i64 0,i64 0],[.box [.bs false 1 (d.length) 0 (d.length)] false,.buf 3 (L Ak d) false,.box (i64 a.Op::i64 a.N::(C1 i64 a.Unit.l++[.sl false (L cApi_Expr a.L)])) false],_,_)]) trivial ⟨(wc (A7 ah) [0,1]),trivial⟩) (Ew1 ai) ?_
  refine Bd fun q aj =>Lt fun g ak =>Te (O':=[.box [.bs false 1 (g.length) 0 (g.length)] false,.buf 3 (L Ak g) false,_,_,_,_,_]) [0,3,4] (Ag (l:=[]) (m:=[(55,55,[.ref 0 0,i64 13,i64 0,i64 0],[.box [.bs false 1 (f.length) 0 (f.length)] false,.buf 3 (L Ak f) false,.box (i64 a.Op::i64 a.N::(C1 i64 a.Unit.l++[.sl false (L cApi_Expr a.L)])) false,.box [.ref 0 0] false,.box [i64 e.1] false],_,_)]) trivial ⟨(wc (A7 aj) [0,1]),trivial⟩) (Ew1 ak) ?_
  refine Ck fun al =>Bd fun aL am =>Lt fun i an =>Te (O':=[.box [.bs false 1 (i.length) 0 (i.length)] false,.buf 3 (L Ak i) false,_,_,_,_,_]) [0,3,4] (Ag (l:=[]) (m:=[(61,91,[.ref 0 0,.agg (i64 ((nth a.L 2).Op)::i64 ((nth a.L 2).N)::(C1 i64 ((nth a.L 2).Unit).l++[.sl false (L cApi_Expr ((nth a.L 2).L))]))],[.box [.bs false 1 (g.length) 0 (g.length)] false,.buf 3 (L Ak g) false,.box (i64 a.Op::i64 a.N::(C1 i64 a.Unit.l++[.sl false (L cApi_Expr a.L)])) false,.box [.ref 0 0] false,.box [i64 e.1] false,.box [.ref 0 0] false,.box [i64 q.1] false],_,_)]) trivial ⟨(wc (hrec am) [0,1]),trivial⟩) (Ew2 (qL al) an) ?_
  refine Bd fun u ao =>Lt fun j ap =>Te (O':=[.box [.bs false 1 (j.length) 0 (j.length)] false,.buf 3 (L Ak j) false,_,_,_,_,_,_,_]) [0,3,4,5] (Ag (l:=[]) (m:=[(63,55,[.ref 0 0,i64 14,i64 0,i64 0],[.box [.bs false 1 (i.length) 0 (i.length)] false,.buf 3 (L Ak i) false,.box (i64 a.Op::i64 a.N::(C1 i64 a.Unit.l++[.sl false (L cApi_Expr a.L)])) false,.box [.ref 0 0] false,.box [i64 e.1] false,.box [.ref 0 0] false,.box [i64 q.1] false],_,_)]) trivial ⟨(wc (A7 ao) [0,1]),trivial⟩) (Ew1 ap) ?_
  refine Bd fun aM aq =>Lt fun k ar =>Te (O':=[.box [.bs false 1 (k.length) 0 (k.length)] false,.buf 3 (L Ak k) false,_,_,_,_,_,_,_]) [0,3,5] (Ag (l:=[]) (m:=[(65,92,[.ref 5 0,.ref 6 0],[.box [.bs false 1 (j.length) 0 (j.length)] false,.buf 3 (L Ak j) false,.box (i64 a.Op::i64 a.N::(C1 i64 a.Unit.l++[.sl false (L cApi_Expr a.L)])) false,.box [.ref 0 0] false,.box [i64 e.1] false,.box [.ref 0 0] false,.box [i64 q.1] false,.box [.ref 0 0] false,.box [i64 u.1] false],_,_)]) trivial ⟨(wc (F3 aq) [0,5,1,6]),trivial⟩) (Ew1 ar) ?_
  refine Ck fun au =>Bd fun aN av =>Lt fun n aw =>Te (O':=[.box [.bs false 1 (n.length) 0 (n.length)] false,.buf 3 (L Ak n) false,_,_,_,_,_,_,_]) [5] (Ag (l:=[]) (m:=[(71,91,[.ref 0 0,.agg (i64 ((nth a.L 3).Op)::i64 ((nth a.L 3).N)::(C1 i64 ((nth a.L 3).Unit).l++[.sl false (L cApi_Expr ((nth a.L 3).L))]))],[.box [.bs false 1 (k.length) 0 (k.length)] false,.buf 3 (L Ak k) false,.box (i64 a.Op::i64 a.N::(C1 i64 a.Unit.l++[.sl false (L cApi_Expr a.L)])) false,.box [.ref 0 0] false,.box [i64 e.1] false,.box [.ref 0 0] false,.box [i64 q.1] false,.box [.ref 0 0] false,.box [i64 u.1] false],_,_)]) trivial ⟨(wc (hrec av) [0,1]),trivial⟩) (Ew2 (qL au) aw) ?_
  refine Bd fun aO ax =>Lt fun v ay =>Fe (O':=[.box [.bs false 1 (v.length) 0 (v.length)] false,.buf 3 (L Ak v) false,_,_,_,_,_,_,_]) [] (Ag (l:=[]) (m:=[(73,92,[.ref 7 0,.ref 8 0],[.box [.bs false 1 (n.length) 0 (n.length)] false,.buf 3 (L Ak n) false,.box (i64 a.Op::i64 a.N::(C1 i64 a.Unit.l++[.sl false (L cApi_Expr a.L)])) false,.box [.ref 0 0] false,.box [i64 e.1] false,.box [.ref 0 0] false,.box [i64 q.1] false,.box [.ref 0 0] false,.box [i64 u.1] false],_,_)]) trivial ⟨(wc (F3 ax) [0,7,1,8]),trivial⟩) (Ew1 ay) ?_
  exact Bn <|Ro [0,1]
 refine Ck fun az =>Bd fun aP aA =>Lt fun o aB =>Te (O':=[.box [.bs false 1 (o.length) 0 (o.length)] false,.buf 3 (L Ak o) false,_]) [0,3] (Ag (l:=[]) (m:=[(13,91,[.ref 0 0,.agg (i64 ((nth a.L 0).Op)::i64 ((nth a.L 0).N)::(C1 i64 ((nth a.L 0).Unit).l++[.sl false (L cApi_Expr ((nth a.L 0).L))]))],[.box [.bs false 1 (b.code.length) 0 (b.code.length)] false,.buf 3 (L Ak b.code) false,.box (i64 a.Op::i64 a.N::(C1 i64 a.Unit.l++[.sl false (L cApi_Expr a.L)])) false],_,_)]) trivial ⟨(wc (hrec aA) [0,1]),trivial⟩) (Ew2 (qL az) aB) ?_
 refine Ck fun aC =>Bd fun aQ aD =>Lt fun p aE =>Te (O':=[.box [.bs false 1 (p.length) 0 (p.length)] false,.buf 3 (L Ak p) false,_]) [0,3] (Ag (l:=[]) (m:=[(19,91,[.ref 0 0,.agg (i64 ((nth a.L 1).Op)::i64 ((nth a.L 1).N)::(C1 i64 ((nth a.L 1).Unit).l++[.sl false (L cApi_Expr ((nth a.L 1).L))]))],[.box [.bs false 1 (o.length) 0 (o.length)] false,.buf 3 (L Ak o) false,.box (i64 a.Op::i64 a.N::(C1 i64 a.Unit.l++[.sl false (L cApi_Expr a.L)])) false],_,_)]) trivial ⟨(wc (hrec aD) [0,1]),trivial⟩) (Ew2 (qL aC) aE) ?_
 refine Bd fun aR aF =>Lt fun w aG =>Fe (O':=[.box [.bs false 1 (w.length) 0 (w.length)] false,.buf 3 (L Ak w) false,_,_,_]) [] (Ag (l:=[]) (m:=[(25,55,[.ref 0 0,i64 (w64 ((w64 (3+a.Op))-3)),i64 0,i64 0],[.box [.bs false 1 (p.length) 0 (p.length)] false,.buf 3 (L Ak p) false,.box (i64 a.Op::i64 a.N::(C1 i64 a.Unit.l++[.sl false (L cApi_Expr a.L)])) false],_,_)]) trivial ⟨(wc (A7 aF) [0,1]),trivial⟩) (Ew1 aG) ?_
 exact Bn <|Ro [0,1]
theorem GA(n:Nat):∀{b:AoW} {a:AoM} {r:AoW},Cg n b a=some r->Con (B rs) 91 [.ref 0 0,.agg (i64 a.Op::i64 a.N::(C1 i64 a.Unit.l++[.sl false (L cApi_Expr a.L)]))] [.box [.bs false 1 (b.code.length) 0 (b.code.length)] false,.buf 3 (L Ak b.code) false] (fun r' O'=>r'=.tup []/\O'=[.box [.bs false 1 (r.code.length) 0 (r.code.length)] false,.buf 3 (L Ak r.code) false]):=by
 induction n with
 |zero=>intro b a r h;cases h
 |succ n ih=>intro b a r h;exact GF ih h
theorem Hk{b:AoW}{a:AoM}{r:AoW}(h:F5 b a=some r):Con (B rs) 91 [.ref 0 0,.agg (i64 a.Op::i64 a.N::(C1 i64 a.Unit.l++[.sl false (L cApi_Expr a.L)]))] [.box [.bs false 1 (b.code.length) 0 (b.code.length)] false,.buf 3 (L Ak b.code) false] (fun r' O'=>r'=.tup []/\O'=[.box [.bs false 1 (r.code.length) 0 (r.code.length)] false,.buf 3 (L Ak r.code) false]):=GA _ h
variable {rs:AoH}
theorem Agh{c:AoW}{p:Int}{r:AoW}(h:AZ c p=some r):Aku (B rs) 92 [.ref 1 0,.rp [i64 p]] [.box [.bs false 2 (c.code.length) 0 (c.code.length)] false,.box [.ref 0 0] true,.buf 3 (L Ak c.code) false] (fun r' O'=>r'=.tup []/\O'=[.box [.bs false 2 (r.code.length) 0 (r.code.length)] false,.box [.ref 0 0] true,.buf 3 (L Ak r.code) false]):=by
 refine Cdf 3 14 [] Tryz.func92 (fun F hE=>?_) h;unfold AZ;refine Ck fun hc =>Lt fun l hz =>Ge (O':=[.box [.bs false 2 (l.length) 0 (l.length)] false,_,.buf 3 (L Ak l) false]) [[],[0],[0,1],[0,1,2],[],[],[5],[5,6],[5,6,7],[5,6,7,8],[0,1,2,3,4,5,6,7,8,9],[0,1,2,3,4,5,6,7,8,9,10],[0,1,2,3,4,5,6,7,8,9,10,11]] [] Ac (Ew2 (qR hc) hz) ?_
 exact Ro [0,1,2]
def dOf(p:Nat×Nat×Int):Deferred:={ target:=.fn (.func 92) #[.pointer (some ⟨p.1,0,none⟩),.pointer (some ⟨p.2.1,0,none⟩)],args:=#[] }
structure Dk(rs:AoH)(F:Addr->Prop)(w0:World)(g0:Gh)(β0:Nat)(w:World)(g:Gh)(p:Nat×Nat×Int):Prop where
  fresh:∀β,β<w0.heap.size->¬Fy g0 β->β≠p.1
  a:∃t fz,w.heap[p.1]?=some (.cells #[.pointer (some ⟨β0,0,none⟩)] t fz)/\noFreeze fz 0 1
  am:¬Fy g p.1
  b:∃t fz,w.heap[p.2.1]?=some (.cells #[.int .i64 p.2.2] t fz)
  bm:¬Fy g p.2.1
  ne:p.2.1≠p.1
  fa:∀a,F a->a.block≠p.1/\a.block≠p.2.1
  ga:∀i cs,(B rs).G i=some cs->i≠p.1
  wa:∀i vs,(B rs).whole i=some vs->i≠p.1
section
variable {F:Addr->Prop}{w0 w w':World}{g0 g g':Gh}{β0:Nat}{p:Nat×Nat×Int}
theorem Dk.step(h:Dk rs F w0 g0 β0 w g p)(ha:w'.heap[p.1]?=w.heap[p.1]?/\¬Fy g' p.1)(hb:w'.heap[p.2.1]?=w.heap[p.2.1]?/\¬Fy g' p.2.1):Dk rs F w0 g0 β0 w' g' p:=by
 obtain⟨t,fz,h1,h2⟩:=h.a;obtain⟨t2,fz2,h3⟩:=h.b;exact⟨h.fresh,⟨t,fz,ha.1.trans h1,h2⟩,ha.2,⟨t2,fz2,hb.1.trans h3⟩,hb.2,h.ne,h.fa,h.ga,h.wa⟩
theorem Dk.lt(h:Dk rs F w0 g0 β0 w g p):p.1<w.heap.size/\p.2.1<w.heap.size:=by
 obtain⟨t,fz,h1,h2⟩:=h.a;obtain⟨t2,fz2,h3⟩:=h.b;exact⟨(Apd.1 h1).1,(Apd.1 h3).1⟩
theorem Dk.evo{E:Env}{n:Nat}(h:Dk rs F w0 g0 β0 w g p)(he:Evo E n w g w' g'):Dk rs F w0 g0 β0 w' g' p:=h.step (he.blocks _ h.lt.1 h.am) (he.blocks _ h.lt.2 h.bm)
end
abbrev Ahj(L:List (Nat×Nat×Int)):Prop:=L.Pairwise fun p q=>q.1≠p.1/\q.2.1≠p.1
def At0(β0:Nat)(g:Gh):Prop:=∃b,g[0]?=some b/\b.blk=some β0/\b.isBox=true
theorem At0.evo{E:Env}{n:Nat}{w w':World}{g g':Gh}{β0:Nat}(h:At0 β0 g)(he:Evo E (n+1) w g w' g'):At0 β0 g':=by
 obtain⟨b,h1,h2,h3⟩:=h;obtain⟨b',k1,k2⟩:=he.ids 0 (Nat.succ_pos n) b h1;rcases k2 with k2|⟨k2,_⟩
 ·exact⟨b',k1,k2.1.trans h2,k2.2.2.2.2.2.trans h3⟩
 rw[h3]at k2;cases k2
abbrev clS(c:AoW):Ad:=[.box [.bs false 1 (c.code.length) 0 (c.code.length)] false,.buf 3 (L Ak c.code) false]
theorem Aao{sel:List Nat}{g:Gh}(hs:∀i∈sel,i<g.length){id i:Nat}(h:sel[id]?=some i):(CK sel g)[id]?=g[i]?:=by
 have hi:i<g.length:=hs i (Ao8 h);rw[Ao2 hi];exact(A6 hs).2 ⟨i,h,Ao2 hi⟩
theorem N0{fn:Func}{tmps:Array Value}{F:Addr->Prop}{w0:World}{g0:Gh}{β0:Nat}(hres:∀w,(results fn tmps).run (B rs).P w=.ok (.tuple #[]) w){c':AoW}:∀(ls:List (Nat×Nat×Int)) (c:AoW) (w:World) (g:Gh),Cn (ls.map (·.2.2)) c=some c'->Mem ((B rs).env F) w g (clS c)->At0 β0 g->Evo ((B rs).env F) 2 w0 g0 w g->(∀p∈ls,Dk rs F w0 g0 β0 w g p)->Ahj ls ->Leaves (B rs).P fn tmps (fun e w'=>∃v r O' g',e=.returned v/\(r=.tup []/\O'=clS c')/\Mem ((B rs).env F) w' g' O'/\Evo ((B rs).env F) 2 w0 g0 w' g'/\Rep w' (A2 ((B rs).env F) g') g' v r) (ls.map dOf) .returning w
 |[],c,w,g,h,hm,h0,he,_,_=>by
  cases h;exact⟨.tuple #[],hres w,_,_,_,g,rfl,⟨rfl,rfl⟩,hm,he,.tup _ #[] [] rfl (fun i x h=>by simp at h)⟩
 | p :: ls,c,w,g,h,hm,h0,he,hD,hA=>by
  rw[ApE]at h;unfold Cn at h;rw[Ao3]at h;obtain⟨c1,e1,e2⟩:=h;obtain⟨hp1,hp2⟩:=AqJ.1 hA;have hd:=hD p Apn;obtain⟨t,fz,ha1,ha2⟩:=hd.a;obtain⟨tb,fzb,hb1⟩:=hd.b;obtain⟨b0,q1,q2,q3⟩:=h0
  obtain⟨hadd,hprA⟩:=Agz hm ha1 rfl hd.am (fun a hF=>(hd.fa a hF).1) hd.ga hd.wa ha2 rfl (x:=.ref 0 0) (fun pr g' hle=>by
   obtain⟨b',k1,k2⟩:=hle 0 b0 q1;rcases k2 with k2|⟨k2,_⟩
   ·exact .ref _ 0 0 β0 b' k1 (k2.2.2.2.2.2.trans q3) (k2.1.trans q2)
   rw[q3]at k2;cases k2)
  have hgl:g.length=2:=hm.len;obtain⟨s1,s2,s3,s4⟩:=J6 (n:=0) (O':=[.box [.bs false 2 (c.code.length) 0 (c.code.length)] false,.box [.ref 0 0] true,.buf 3 (L Ak c.code) false]) hadd [0,2,1] (by decide) rfl gs
  have hminA:∀β,Fy (CK [0,2,1] (g++[⟨some p.1,0,1,1,0,true,true⟩])) β->Fy g β\/β=p.1:=by
   intro β hh;obtain⟨id,b,k1,k2⟩:=DD s1 hh;rcases ApQ id g.length with hl|hl
   ·rw[Ao9 hl]at k1;exact .inl ⟨id,b,k1,k2⟩
   rw[Ao7 hl]at k1
   have:id-g.length=0:=by
    have:=(AoZ.1 k1).1;simp at this;exact this
   rw[this]at k1;cases k1;exact .inr (Ao1 k2).symm
  refine leaves_cons (f:=92) (args:=#[]++#[.pointer (some ⟨p.1,0,none⟩),.pointer (some ⟨p.2.1,0,none⟩)]) (by simp) ?_ ?_
  ·exact J5 Tryz.func92 rfl (by decide +kernel) _ _
  refine(Agh e1 F w _ _ .returning s2 ?_).mono ?_
  ·refine⟨?_,?_,trivial⟩
   ·refine .ref _ 1 0 p.1 ⟨some p.1,0,1,1,0,true,true⟩ ?_ rfl rfl;rw[Aao s1 (i:=2) rfl,Ao7 (by omega),hgl];rfl
   have hcell:w.cell? ⟨p.2.1,0,none⟩=some (.int .i64 p.2.2):=by
    unfold World.cell?;simp only[hb1];rfl
   refine .rp _ ⟨p.2.1,0,none⟩ [i64 p.2.2] (fun _=>.int .i64 p.2.2) (fun j x hj=>?_) (fun j x hj=>?_)
   ·match j,hj with
    |0,hj=>
     rw[Go.Rv.add_zero];refine⟨hcell,Bw (fun hF=>(hd.fa _ hF).2 rfl) (fun hh=>?_),rfl⟩;rcases hminA _ hh with k|k
     ·exact hd.bm k
     exact hd.ne k
   match j,hj with
   |0,hj=>cases hj;exact .int _ _ _
  rintro e u' w' ⟨rfl,v,r,O',g',rfl,⟨rfl,rfl⟩,hm',he',hrep⟩;obtain⟨m1,m2,m3,m4⟩:=J6 (n:=0) (O':=clS c1) hm' [0,2] (by decide) rfl gs
  have hblk:∀β,β<w.heap.size->¬Fy g β->β≠p.1->w'.heap[β]?=w.heap[β]?/\¬Fy (CK [0,2] g') β:=by
   intro β hβ hn hne
   obtain⟨r1,r2⟩:=he'.blocks β hβ (fun hh=>by
    rcases hminA _ hh with k|k
    ·exact hn k
    exact hne k)
   exact⟨r1,fun hh=>r2 (DD m1 hh)⟩
  have hids:∀id,id<2->∀b,g[id]?=some b->∃b',(CK [0,2] g')[id]?=some b'/\b.step b':=by
   intro id hid b hb
   match id,hid with
   |0,_=>
    obtain⟨b',k1,k2⟩:=he'.ids 0 (by simp) b (by rw[Aao s1 (i:=0) rfl,Ao9 (by omega)];exact hb);exact⟨b',by rw[Aao m1 (i:=0) rfl];exact k1,k2⟩
   |1,_=>
    obtain⟨b',k1,k2⟩:=he'.ids 2 (by simp) b (by rw[Aao s1 (i:=1) rfl,Ao9 (by omega)];exact hb);exact⟨b',by rw[Aao m1 (i:=2) rfl];exact k1,k2⟩
  have hevo:Evo ((B rs).env F) 2 w0 g0 w' (CK [0,2] g'):=by
   refine⟨he'.os.trans he.os,he'.tape.trans he.tape,he'.output.trans he.output,Aqs he.size he'.size,fun a u hc hp=>?_,fun β hβ hn=>?_,fun id hid b hb=>?_⟩
   ·obtain⟨c1',p1⟩:=he.cells a u hc hp;obtain⟨c2,p2⟩:=he'.cells a u c1' (s4 a (hprA a u c1' p1));exact⟨c2,m4 a p2⟩
   ·obtain⟨r1,r2⟩:=he.blocks β hβ hn;obtain⟨r3,r4⟩:=hblk β (AqA hβ he.size) r2 (hd.fresh β hβ hn);exact⟨r3.trans r1,r4⟩
   obtain⟨b1,k1,k2⟩:=he.ids id hid b hb;obtain⟨b2,k3,k4⟩:=hids id hid b1 k1;exact⟨b2,k3,k2.trans k4⟩
  have h0':At0 β0 (CK [0,2] g'):=by
   obtain⟨b',k1,k2⟩:=hids 0 (by omega) b0 q1;rcases k2 with k2|⟨k2,_⟩
   ·exact⟨b',k1,k2.1.trans q2,k2.2.2.2.2.2.trans q3⟩
   rw[q3]at k2;cases k2
  exact N0 hres ls c1 w' _ e2 m2 h0' hevo (fun q hq=>by
   have hq':=hD q (ApI _ hq);obtain⟨n1,n2⟩:=hp1 q hq;exact hq'.step (hblk _ hq'.lt.1 hq'.am n1) (hblk _ hq'.lt.2 hq'.bm n2)) hp2
noncomputable abbrev clX(x:AoN):ABlk:=.box (Ab x) false
noncomputable abbrev clR(x:AoN)(index:Int)(k:Nat)(c:AoW):Rv.St:=⟨Al 35 [(0,.ref 0 0),(2,i64 index),(4,.ref 2 0),(9,.sl false (L Ae x.Ze)),(10,i64 (x.Ze.length:Int)),(11,i64 (k:Int))],[.box [.bs false 1 (c.code.length) 0 (c.code.length)] false,.buf 3 (L Ak c.code) false,clX x]⟩
section
variable {F:Addr->Prop}{w0:World}{g0:Gh}{β0:Nat}{x:AoN}{index:Int}
theorem Mv{b:Code}{Q:Exit->Act->World->Prop}{s:AoW×List Int} (hround:∀(k:Nat) (c:AoW) (ds:List Deferred) (a:Act) (w:World) (g:Gh) (y1 y2 y3:Int×AoW) (Q':Exit->Act->World->Prop),k<x.Ze.length->Ar c 2 (nth x.Ze k).Attr 0=some y1->Ar y1.2 12 (nth x.Ze k).Low (nth x.Ze k).Zc=some y2->Ar y2.2 13 0 0=some y3 ->Rel ((B rs).env { F:=F,D:=ds }) w g (clR x index k c) a->At0 β0 g->Evo ((B rs).env F) 2 w0 g0 w g ->(∀a' w' g' p,Rel ((B rs).env { F:=F,D:=dOf p::ds }) w' g' (clR x index (k+1) y3.2) a'->Evo ((B rs).env F) 2 w g w' g'->Dk rs F w0 g0 β0 w' g' p->p.2.2=y3.1->(∀β,β<w.heap.size->¬Fy g β->β≠p.1)->Q' .normal a' w')->b.wp (B rs).P Q' a w) (hexit:∀(c:AoW) (ds:List Deferred) (a:Act) (w:World) (g:Gh) (Q':Exit->Act->World->Prop),Rel ((B rs).env { F:=F,D:=ds }) w g (clR x index x.Ze.length c) a ->(∀a' w' g',Rel ((B rs).env { F:=F,D:=ds }) w' g' (clR x index x.Ze.length c) a'->Evo ((B rs).env F) 2 w g w' g'->Q' (.exit 0) a' w')->b.wp (B rs).P Q' a w) (hQ:∀a' w' g' L',Rel ((B rs).env { F:=F,D:=L'.map dOf }) w' g' (clR x index x.Ze.length s.1) a'->Evo ((B rs).env F) 2 w0 g0 w' g'->At0 β0 g'->(∀p∈L',Dk rs F w0 g0 β0 w' g' p)->Ahj L'->L'.map (·.2.2)=s.2->Q (.exit 0) a' w') :∀(l:List AoK) (k:Nat) (c:AoW) (ls:List (Nat×Nat×Int)) (a:Act) (w:World) (g:Gh),x.Ze.drop k=l->k+l.length=x.Ze.length->BO l c (ls.map (·.2.2))=some s ->Rel ((B rs).env { F:=F,D:=ls.map dOf }) w g (clR x index k c) a->At0 β0 g->Evo ((B rs).env F) 2 w0 g0 w g->(∀p∈ls,Dk rs F w0 g0 β0 w g p)->Ahj ls->Code.rounds (B rs).P b Q (l.length+1) a w
 |[],k,c,ls,a,w,g,_,hk,hc,hr,h0,he,hD,hA=>by
  cases hc;have hk':k=x.Ze.length:=by simpa using hk
  subst hk';rw[rounds_succ];refine hexit c _ a w g _ hr fun a' w' g' hr' he'=>?_
  exact hQ a' w' g' ls hr' (he.trans he') (h0.evo (n:=1) he') (fun p hp=>(hD p hp).evo he') hA rfl
 | t::l,k,c,ls,a,w,g,hd,hk,hc,hr,h0,he,hD,hA=>by
  have hkl:k<x.Ze.length:=by simp only[Apb]at hk;omega
  have ht:nth x.Ze k=t:=by
   have e:(x.Ze.drop k)[0]?=some t:=by rw[hd];rfl
   rw[ApC,Aqw]at e;unfold nth;rw[Apm,e];rfl
  unfold BO at hc;rw[Ao3]at hc;obtain⟨y1,e1,hc⟩:=hc;rw[Ao3]at hc;obtain⟨y2,e2,hc⟩:=hc;rw[Ao3]at hc;obtain⟨y3,e3,hc⟩:=hc;rw[rounds_succ];rw[<-ht]at e1 e2;refine hround k c _ a w g y1 y2 y3 _ hkl e1 e2 e3 hr h0 he fun a' w' g' p hr' he' hp hat hnew=>?_
  have hat':y3.1::ls.map (·.2.2)=(p::ls).map (·.2.2):=by rw[ApE,hat]
  rw[hat']at hc;refine Mv hround hexit hQ l (k+1) y3.2 (p::ls) a' w' g' ?_ (by simp only[Apb]at hk;omega) hc hr' (h0.evo (n:=1) he') (he.trans he') ?_ ?_
  ·rw[<-Asb,hd];rfl
  ·intro q hq;rcases Apq.1 hq with rfl|hq
   ·exact hp
   exact(hD q hq).evo he'
  refine AqJ.2 ⟨fun q hq=>?_,hA⟩;have hq':=hD q hq;exact⟨hnew _ hq'.lt.1 hq'.am,hnew _ hq'.lt.2 hq'.bm⟩
end
set_option linter.unusedVariables false in
theorem IE{c x index r}(h:CF c x index=some r):Con (B rs) 54 [.ref 0 0,.agg (Ab x),i64 index] (clS c) (fun r' O'=>r'=.tup []/\O'=clS r):=by
 unfold CF at h;split at h
 case isFalse=>cases h
 rename_i hx;rw[Ao3]at h;obtain⟨s,hs,h⟩:=h;rw[Ao3]at h;obtain⟨c1,hc1,h⟩:=h;rw[Ao3]at h;obtain⟨y,hy,h⟩:=h;refine⟨fun F w g vs hm ha=>.inl ⟨⟨Tryz.f54,_,Tryz.func54,rfl,by decide +kernel⟩,?_⟩⟩;have hE:=(ok (rs:=rs)).env F;refine calls_of_wp_defers Tryz.func54 rfl ?_;have hr0:=Mq (fn:=Tryz.f54) hm ha;rw[G3 Tryz.f54.ntmps _ (Apj rfl) (NE 0 _) (fun t _=>GZ _ 0 t (Apx _))]at hr0;have hr0':Rel ((B rs).env F) w g ⟨Al 35 [(0,.ref 0 0),(1,.agg (Ab x)),(2,i64 index)],clS c⟩ _:=hr0;have hgl:g.length=2:=hm.len;have hg0:g[0]?=some g[0]:=Ao2 (by omega);obtain⟨k1,_,_,_,_,β0,_,_,_,k6,_⟩:=hm.blk 0 _ _ hg0 rfl;have h0:At0 β0 g:=⟨_,hg0,k6,k1⟩;refine Tc (n:=2) (to0 [0,2,4]) rfl hr0' ?_;intro a1 w1 g1 hr1 he1;refine wp_seq ?_;refine Tc (n:=2) (to0 [0,2,4,9,10,11]) rfl hr1 ?_;intro a2 w2 g2 hr2 he2;refine wp_block ?_;refine wp_loop_rounds (x.Ze.length+1) ?_;have h02:At0 β0 g2:=(h0.evo (n:=1) he1).evo (n:=1) he2;refine Mv (F:=F) (w0:=w) (g0:=g) (β0:=β0) (x:=x) (index:=index) (s:=s) ?_ ?_ ?_ x.Ze 0 c [] a2 w2 g2 rfl (by simp) hs hr2 h02 (he1.trans he2) (by simp) .nil
 ·intro k c ds a w3 g3 y1 y2 y3 Q' hk e1 e2 e3 hr3 h03 he3 hn;have hE':=(ok (rs:=rs)).env { F:=F,D:=ds };refine Tc (n:=2) (to0 [0,2,4,9,10,11,12]) rfl hr3 ?_;intro a4 w4 g4 hr4 he4;refine wp_seq (wp_cond_true ?_ (wp_skip ?_))
  ·have h1:=Ex hr4 (.tmp 12);rw[show ev _ (.tmp 12)=AV.bool (decide ((k:Int)<(x.Ze.length:Int)))from rfl,decide_eq_true (by omega)]at h1;exact Fm h1
  refine wp_seq (wp_block ?_);have hc:InR (k:Int) x.Ze.length:=⟨by omega,by simpa using hk⟩;refine Tc (n:=2) (toe [0,2,4,7,9,10,11] Ac (Ev (by simp only[go_sem,qR hc,Apc];exact CL))) rfl hr4 ?_;intro a5 w5 g5 hr5 he5;refine Tc (n:=2) (toe (O':=[.box [.bs false 1 (y1.2.code.length) 0 (y1.2.code.length)] false,.buf 3 (L Ak y1.2.code) false,_,_,_,_]) [0,2,4,7,9,10,11] (Ag (l:=[]) (m:=[(18,55,[.ref 0 0,i64 2,i64 (nth x.Ze k).Attr,i64 0],[.box [.bs false 1 (c.code.length) 0 (c.code.length)] false,.buf 3 (L Ak c.code) false,clX x,.box [i64 (nth x.Ze k).Attr,i64 (nth x.Ze k).Low,i64 (nth x.Ze k).Zc] false],_,_)]) trivial ⟨(wc (A7 e1) [0,1]),trivial⟩) (Ev (by simp only[go_sem];exact CL))) rfl hr5 ?_;intro a6 w6 g6 hr6 he6;refine Tc (n:=2) (st':=clR x index k y2.2) (tow (O':=[.box [.bs false 1 (y2.2.code.length) 0 (y2.2.code.length)] false,.buf 3 (L Ak y2.2.code) false,_,_,_,_,_,_]) [0,2,4,9,10,11] (Ag (l:=[]) (m:=[(24,55,[.ref 0 0,i64 12,i64 (nth x.Ze k).Low,i64 (nth x.Ze k).Zc],[.box [.bs false 1 (y1.2.code.length) 0 (y1.2.code.length)] false,.buf 3 (L Ak y1.2.code) false,clX x,.box [i64 (nth x.Ze k).Attr,i64 (nth x.Ze k).Low,i64 (nth x.Ze k).Zc] false,.box [.ref 0 0] false,.box [i64 y1.1] false],_,_)]) trivial ⟨(wc (A7 e2) [0,1]),trivial⟩) (Ev (by simp only[go_sem];exact CL)) (ws [0,1,2])) rfl hr6 ?_;intro a7 w7 g7 hr7 he7;refine wp_region_lit ?_;simp only[wpList,Region.wanted,ApL];left;refine MQ hE' (Ac none) (r:=(.ref 0 0,[.box [.bs false 1 (y2.2.code.length) 0 (y2.2.code.length)] false,.buf 3 (L Ak y2.2.code) false,clX x])) rfl hr7 ?_;intro a8 w8 g8 hr8 he8 hle8;left;refine MQ hE' ((Ag (l:=[]) (m:=[(26,55,[.ref 0 0,i64 13,i64 0,i64 0],[.box [.bs false 1 (y2.2.code.length) 0 (y2.2.code.length)] false,.buf 3 (L Ak y2.2.code) false,clX x],_,_)]) trivial ⟨(wc (A7 e3) [0,1]),trivial⟩) (some 26)) (r:=(.fn 92 [.ref 3 0,.ref 4 0],[.box [.bs false 1 (y3.2.code.length) 0 (y3.2.code.length)] false,.buf 3 (L Ak y3.2.code) false,clX x,.box [.ref 0 0] false,.box [i64 y3.1] false])) gs hr8 ?_;intro a9 w9 g9 hr9 he9 hle9;left;have heT:Evo ((B rs).env F) 2 w3 g3 w9 g9:=(Mn he4).trans ((Mn he5).trans ((Mn he6).trans ((Mn he7).trans ((Mn (he8.of_gle hle8)).trans (Mn (he9.of_gle hle9))))));have hdef:a9.defers=ds:=hr9.defers.eq rfl;have hfv:=Ex hr9 (.tmp 26);rw[show ev _ (.tmp 26)=AV.fn 92 [.ref 3 0,.ref 4 0]from rfl]at hfv;obtain⟨⟨capl⟩,hcv,hcr⟩:=Ed hfv
  match capl,hcr,hcv with
  |[u1,u2],⟨hu1,hu2,_⟩,hcv=>
  obtain⟨α,bα,q1,q2,q3,rfl⟩:=MD hu1;obtain⟨β,bβ,r1,r2,r3,rfl⟩:=MD hu2;have h09:At0 β0 g9:=h03.evo (n:=1) heT;obtain⟨b0,z1,z2,z3⟩:=h09;obtain⟨_,_,_,_,_,α',arr,tα,fz,e1',e2',e3',e4',e5'⟩:=hr9.mem.blk 3 bα _ q1 rfl;obtain rfl:α'=α:=Ao1 (e1'.symm.trans q3);obtain⟨_,_,_,_,_,β',arrb,tβ,fzb,f1',f2',f3',f4',f5'⟩:=hr9.mem.blk 4 bβ _ r1 rfl;obtain rfl:β'=β:=Ao1 (f1'.symm.trans r3)
  have harr:arr=#[.pointer (some ⟨β0,0,none⟩)]:=by
   obtain⟨βx,bx,x1,x2,x3,x4⟩:=MD (e5' 0 (.ref 0 0) rfl).1;rw[z1]at x1;obtain rfl:=Ao1 x1;obtain rfl:β0=βx:=Ao1 (z2.symm.trans x3);obtain⟨al⟩:=arr
   match al,e3',x4 with
   |[v],_,x4=>exact ApV (fun v=>#[v]) x4
  have harrb:arrb=#[.int .i64 y3.1]:=by
   have x4:=DM (f5' 0 (i64 y3.1) rfl).1;obtain⟨al⟩:=arrb
   match al,f3',x4 with
   |[v],_,x4=>exact ApV (fun v=>#[v]) x4
  subst harr harrb;have hmα:Fy g9 α':=⟨3,bα,q1,q3⟩;have hmβ:Fy g9 β':=⟨4,bβ,r1,r3⟩
  have hdop:∀o3:Oper,o3.op=.defer ⟨.value (.tmp 26),#[],#[]⟩->(execOp a9.eval o3).run ((B rs).env { F:=F,D:=ds }).P w9=.ok (.defer (dOf (α',β',y3.1))) w9:=by
   intro o3 ho3;have hev:a9.eval (.tmp 26)=.func (.func 92) #[] #[.pointer (some ⟨α',0,none⟩),.pointer (some ⟨β',0,none⟩)]:=hcv;simp only[execOp,ho3,resolve,hev,Deferred.ofValue,Sem.run_bind,Sem.run_pure,Result.andThen_ok];simp[dOf]
  unfold Oper.wp;rw[hdop,Oper.upon_defer]
  rotate_left
  ·rfl
  obtain⟨hrs,hes,hsl⟩:=AfF (n:=2) (l':=[(0,.ref 0 0),(2,i64 index),(4,.ref 2 0),(9,.sl false (L Ae x.Ze)),(10,i64 (x.Ze.length:Int)),(11,i64 (k:Int))]) (O':=[.box [.bs false 1 (y3.2.code.length) 0 (y3.2.code.length)] false,.buf 3 (L Ak y3.2.code) false,clX x]) [0,1,2] (by decide) rfl gs gs hr9;have hr10:Rel ((B rs).env { F:=F,D:=dOf (α',β',y3.1)::ds }) w9 (CK [0,1,2] g9) (clR x index k y3.2) { a9 with defers:=dOf (α',β',y3.1)::a9.defers }:=⟨hrs.size,hrs.slot,AeB hrs.mem,.plain (by rw[hdef];rfl)⟩;have hE'':=(ok (rs:=rs)).env { F:=F,D:=dOf (α',β',y3.1)::ds };have hw:w64 ((k:Int)+1)=((k+1:Nat):Int):=by rw[Hq (by omega)];rfl
  show Code.wp _ _ _ _ _;refine Afz (E:=(B rs).env { F:=F,D:=dOf (α',β',y3.1)::ds }) (n:=2) (st':=clR x index (k+1) y3.2) (toe [0,2,4,9,10,11] Ac (Ew1 hw)) rfl hr10 ?_;intro a11 w11 g11 hr11 he11
  have hnm:∀δ,Fy (CK [0,1,2] g9) δ->(δ=α'->False)/\(δ=β'->False):=by
   rintro δ ⟨id,b,hb,hδ⟩;obtain⟨i,hi,hgi⟩:=(A6 hsl).1 hb
   have hi3:i<3:=by
    have:=Ao8 hi;simp at this;omega
   refine⟨fun e=>?_,fun e=>?_⟩
   ·subst e;have:=hr9.mem.inj i 3 b bα δ hgi q1 hδ q3;omega
   subst e;have:=hr9.mem.inj i 4 b bβ δ hgi r1 hδ r3;omega
  have hdk:Dk rs F w g β0 w9 (CK [0,1,2] g9) (α',β',y3.1):=by
   refine⟨fun δ hδ hn' e=>?_,⟨_,fz,e2',e4'⟩,fun hh=>(hnm _ hh).1 rfl,⟨_,fzb,f2'⟩,fun hh=>(hnm _ hh).2 rfl,fun e=>?_,fun a' hF=>⟨fun e=>?_,fun e=>?_⟩,fun i cs hG e=>?_,fun i vs hG e=>?_⟩
   ·have:=((he3.trans heT).blocks δ hδ hn').2;exact this (by rw[e];exact hmα)
   ·have e':β'=α':=e;subst e';have:=hr9.mem.inj 3 4 bα bβ β' q1 r1 q3 r3;omega
   ·exact(hr9.mem.foreign a' hF).2 (by rw[e];exact hmα)
   ·exact(hr9.mem.foreign a' hF).2 (by rw[e];exact hmβ)
   ·exact(hr9.mem.glob i cs hG).2.1 (by rw[e];exact hmα)
   exact(hr9.mem.whole i vs hG).1 (by rw[e];exact hmα)
  refine hn a11 w11 g11 (α',β',y3.1) hr11 (heT.trans ((Mn hes).trans (Mn he11))) (hdk.evo he11) rfl fun δ hδ hn' e=>?_
  have:=(heT.blocks δ hδ hn').2;exact this (by rw[e];exact hmα)
 ·intro c ds a w3 g3 Q' hr3 hn;have hE':=(ok (rs:=rs)).env { F:=F,D:=ds };refine Tc (n:=2) (to0 [0,2,4,9,10,11,12]) rfl hr3 ?_;intro a4 w4 g4 hr4 he4;refine wp_seq (wp_cond_false ?_ (wp_exit ?_))
  ·have h1:=Ex hr4 (.tmp 12);rw[show ev _ (.tmp 12)=AV.bool (decide ((x.Ze.length:Int)<(x.Ze.length:Int)))from rfl,decide_eq_false (by omega)]at h1;exact Fm h1
  obtain⟨g5,hr5,he5⟩:=(ws [0,1,2]:Weak ((B rs).env { F:=F,D:=ds }) 2 _ (clR x index x.Ze.length c)) a4 w4 g4 hr4;exact hn a4 w4 g5 hr5 ((Mn he4).trans (Mn he5))
 intro a3 w3 g3 ls hr3 he3 h03 hD hA hL;have hE':=(ok (rs:=rs)).env { F:=F,D:=ls.map dOf };simp only[Exit.inBlock,ApL];show Code.wp _ _ _ _ _;refine Tc (E:=(B rs).env { F:=F,D:=ls.map dOf }) (n:=2) (toe (O':=[.box [.bs false 1 (c1.code.length) 0 (c1.code.length)] false,.buf 3 (L Ak c1.code) false,_]) [0,2] (Ag (l:=[]) (m:=[(31,91,[.ref 0 0,.agg (i64 x.Pay.Op::i64 x.Pay.N::(C1 i64 x.Pay.Unit.l++[.sl false (L cApi_Expr x.Pay.L)]))],[.box [.bs false 1 (s.1.code.length) 0 (s.1.code.length)] false,.buf 3 (L Ak s.1.code) false,clX x],_,_)]) trivial ⟨(wc (Hk hc1) [0,1]),trivial⟩) (Ev (by simp only[go_sem];exact CL))) rfl hr3 ?_;intro a4 w4 g4 hr4 he4;refine Afz (E:=(B rs).env { F:=F,D:=ls.map dOf }) (n:=2) (st':=⟨Al 35 [],clS y.2⟩) (tow (O':=[.box [.bs false 1 (y.2.code.length) 0 (y.2.code.length)] false,.buf 3 (L Ak y.2.code) false,_,_,_]) [] (Ag (l:=[]) (m:=[(34,55,[.ref 0 0,i64 15,i64 index,i64 0],[.box [.bs false 1 (c1.code.length) 0 (c1.code.length)] false,.buf 3 (L Ak c1.code) false,clX x],_,_)]) trivial ⟨(wc (A7 hy) [0,1]),trivial⟩) (Ev (by simp only[go_sem];exact CL)) (ws [0,1])) rfl hr4 ?_;intro a5 w5 g5 hr5 he5;have hdef:a5.defers=ls.map dOf:=hr5.defers.eq rfl;show Leaves _ _ _ _ a5.defers .returning w5;rw[hdef];have heT:Evo ((B rs).env F) 2 w3 g3 w5 g5:=(Mn he4).trans (Mn he5)
 have hres:∀w,(results Tryz.f54 a5.tmps).run (B rs).P w=.ok (.tuple #[]) w:=by
  intro w;have e:results Tryz.f54 a5.tmps=(do let vs <-(#[]:Array ResultVar).mapM (Ke a5.tmps);pure (if h:vs.size=1 then vs[0]else .tuple vs)):=rfl;rw[e];simp[Sem.run_bind,Sem.run_pure,Result.andThen_ok]
 exact N0 hres ls y.2 w5 g5 (by rw[hL];exact h) (AeB (D':=[]) hr5.mem) (h03.evo (n:=1) heT) (he3.trans heT) (fun p hp=>(hD p hp).evo heT) hA
variable {rs:AoH}
theorem MC{c r}(h:Fk c=some r):Con (B rs) 23 [.agg (Af c)] [] (fun r' O'=>r'=.tup [.sl false (L Ak r.1),i64 r.2]/\O'=[]):=by
 refine Cw 35 [.tmp 2,.tmp 3] Tryz.func23 (fun F hE=>?_) h;unfold Fk;refine T0 [1] ?_;refine Sq <|Bd fun ah p =>Te [1,3] (o1 8 (Hi p)) Ev ?_
 refine T0 [1,3,10] ?_;refine Cd ?_ ?_
 ·refine T0 [2,3] ?_;exact Sr <|Tr <|Rr
 refine Sk <|Tn <|T0 [1,4] ?_
 refine Ja (fun a=>⟨Al 35 [(4,.ref 0 0)],[.box [.bs false 1 (a.length) 0 (a.length)] false,.buf 3 (L Ak a) false]⟩) ?_ ?_
 ·intro ai;refine T0 [4,13,14,15] ?_;refine Sb ?_;refine Lo (fun(v:Int×List AoU)=>(⟨Al 35 [(4,.ref 0 0),(13,.sl false (L Ab c.Zf)),(14,i64 (c.Zf.length:Int)),(15,i64 v.1)],[.box [.bs false 1 (v.2.length) 0 (v.2.length)] false,.buf 3 (L Ak v.2) false]⟩:St)) ((Ib 1 0 3 rfl rfl).trans (ws [1,2])) ?_;rintro⟨o,b⟩ aj q s t;show FF c o b=some q->_;unfold FF;refine T0 [4,13,14,15,16] ?_;refine Sq <|Cd ?_ ?_
  ·refine Sk <|Tn <|Sq <|Sb <|Ck fun u =>Lt fun d w =>Lt fun e x =>Lt fun f y =>Lt fun g z =>Lt fun i aa =>Lt fun j ab =>Te (O':=[_,_,.box (.str d::.sl false (L Ae e)::i64 f::i64 g::(C1 i64 i.l++[.sl false (L cApi_Expr j)])) false]) [4,5,6,13,14,15] Ac (Ev (by simp only[go_sem,qR u,w,x,y,z,aa,ab];exact CL)) ?_
   refine Bd fun ak ac =>Lt fun k ad =>Fe (O':=[.box [.bs false 1 (k.length) 0 (k.length)] false,.buf 3 (L Ak k) false,_]) [4,13,14,15] (Ag (l:=[]) (m:=[(22,54,[.ref 0 0,.agg (.str d::.sl false (L Ae e)::i64 f::i64 g::(C1 i64 i.l++[.sl false (L cApi_Expr j)])),i64 o],[.box [.bs false 1 (b.length) 0 (b.length)] false,.buf 3 (L Ak b) false,.box (.str d::.sl false (L Ae e)::i64 f::i64 g::(C1 i64 i.l++[.sl false (L cApi_Expr j)])) false],_,_)]) trivial ⟨(wc (IE ac) [0,1]),trivial⟩) (Ew1 ad) ?_
   refine Bn <|Tn <|F0 [4,13,14,15] ?_
   exact Ln (ws [0,1])
  refine Sx <|Tx <|Ly t s <|Bx <|?_
  exact Jm ((ws (l':=[(4,.ref 0 0)]) (O':=[.box [.bs false 1 (b.length) 0 (b.length)] false,.buf 3 (L Ak b) false]) [0,1]).trans (ws [0,1]))
 intro a;refine Bd fun al ae =>Lt fun n af =>Te (O':=[.box [.bs false 1 (n.length) 0 (n.length)] false,.buf 3 (L Ak n) false,_,_]) [4] (Ag (l:=[]) (m:=[(24,55,[.ref 0 0,i64 16,i64 0,i64 0],[.box [.bs false 1 (a.length) 0 (a.length)] false,.buf 3 (L Ak a) false],_,_)]) trivial ⟨(wc (A7 ae) [0,1]),trivial⟩) (Ew1 af) ?_
 refine Sq <|Bd fun am ag =>Te [3,4] (o1 28 (NL ag)) Ev ?_
 refine T0 [4,32] ?_;refine Cd ?_ ?_
 ·refine T0 [2,3] ?_;exact Sr <|Tr <|Rr
 refine Sk <|Tn <|T0 [2,3] ?_
 exact Sr <|Rr
theorem KP{a r}(h:FG a=some r):Con (B rs) 38 [.rp (Af a)] [] (fun r' O'=>r'=i64 r/\O'=[]):=by
 refine Co 0 10 [.tmp 1] Tryz.func38 (fun F hE=>?_) h;unfold FG;refine T0 [0] ?_;refine Bd fun c b =>Te [3] (o1 6 (NY b)) Ev ?_
 refine T0 [1] ?_;exact Sr <|Ro []
theorem KR{a r}(h:FE a=some r):Con (B rs) 39 [.rp (Af a)] [] (fun r' O'=>r'=i64 r/\O'=[]):=by
 refine Co 0 10 [.tmp 1] Tryz.func39 (fun F hE=>?_) h;unfold FE;refine T0 [0] ?_;refine Bd fun c b =>Te [3] (o1 6 (PZ b)) Ev ?_
 refine T0 [1] ?_;exact Sr <|Ro []
theorem KQ{a r}(h:FJ a=some r):Con (B rs) 41 [.rp (Af a)] [] (fun r' O'=>r'=i64 r/\O'=[]):=by
 refine Co 0 4 [.tmp 1] Tryz.func41 (fun F hE=>?_) h;unfold FJ;refine T0 [0] ?_;refine Bd fun c b =>Te [1] (o1 3 (Qj b)) Ev ?_
 exact Sr <|Ro []
theorem KZ{a r}(h:FM a=some r):Con (B rs) 43 [.rp (Af a)] [] (fun r' O'=>r'=i64 r/\O'=[]):=by
 refine Co 0 10 [.tmp 1] Tryz.func43 (fun F hE=>?_) h;unfold FM;refine T0 [0] ?_;refine Bd fun c b =>Te [3] (o1 6 (MC b)) Ev ?_
 refine T0 [1] ?_;exact Sr <|Ro []
theorem Gp{a r}(h:BT a=some r):Con (B rs) 37 [.sl false [[.fn 38 [.rp (Af a)]],[.fn 39 [.rp (Af a)]],[.fn 41 [.rp (Af a)]],[.fn 43 [.rp (Af a)]]]] [] (fun r' O'=>r'=i64 r/\O'=[]):=by
 refine Cw 18 [.tmp 2] Tryz.func37 (fun F hE=>?_) h;unfold BT;refine T0 [0] ?_;refine Jo (fun _=>⟨Al 18 [],[]⟩) ?_ ?_
 ·intro s b;refine T0 [6,7,8] ?_;refine Sb ?_;refine Ul 9 ?_;refine Ug (m:=8) ?_;refine T0 [6,7,8,9] ?_;refine Sq <|Ct <|Sk <|Tn <|Sq <|Sb <|?_
  have c:InR 0 4:=by decide
  refine Te [4,6,7,8] Ac (Ev (by simp only[go_sem,c,c.2];exact CL)) ?_;refine Bd fun t g =>Te [5,6,7,8] (Ag (l:=[]) (m:=[(13,38,[.rp (Af a)],[],_,_)]) trivial ⟨(wc (KP g) []),trivial⟩) Ev ?_
  refine T0 [5,6,7,8,15] ?_;refine Cd ?_ ?_
  ·refine T0 [2] ?_;exact Sr <|Br <|Tr <|Ur <|Br <|Jr b <|Rr
  refine Sk <|Bn <|Tn <|?_
  have i:w64 1=1:=by decide
  refine Fe [6,7,8] Ac (Ew1 i) ?_;refine Un ?_;refine Ug (m:=7) ?_;refine T0 [6,7,8,9] ?_;refine Sq <|Ct <|Sk <|Tn <|Sq <|Sb <|?_
  have d:InR 1 4:=by decide
  refine Te [4,6,7,8] Ac (Ev (by simp only[go_sem,d,d.2];exact CL)) ?_;refine Bd fun u j =>Te [5,6,7,8] (Ag (l:=[]) (m:=[(13,39,[.rp (Af a)],[],_,_)]) trivial ⟨(wc (KR j) []),trivial⟩) Ev ?_
  refine T0 [5,6,7,8,15] ?_;refine Cd ?_ ?_
  ·refine T0 [2] ?_;exact Sr <|Br <|Tr <|Ur <|Br <|Jr b <|Rr
  refine Sk <|Bn <|Tn <|?_
  have k:w64 2=2:=by decide
  refine Fe [6,7,8] Ac (Ew1 k) ?_;refine Un ?_;refine Ug (m:=6) ?_;refine T0 [6,7,8,9] ?_;refine Sq <|Ct <|Sk <|Tn <|Sq <|Sb <|?_
  have e:InR 2 4:=by decide
  refine Te [4,6,7,8] Ac (Ev (by simp only[go_sem,e,e.2];exact CL)) ?_;refine Bd fun v n =>Te [5,6,7,8] (Ag (l:=[]) (m:=[(13,41,[.rp (Af a)],[],_,_)]) trivial ⟨(wc (KQ n) []),trivial⟩) Ev ?_
  refine T0 [5,6,7,8,15] ?_;refine Cd ?_ ?_
  ·refine T0 [2] ?_;exact Sr <|Br <|Tr <|Ur <|Br <|Jr b <|Rr
  refine Sk <|Bn <|Tn <|?_
  have o:w64 3=3:=by decide
  refine Fe [6,7,8] Ac (Ew1 o) ?_;refine Un ?_;refine Ug (m:=5) ?_;refine T0 [6,7,8,9] ?_;refine Sq <|Ct <|Sk <|Tn <|Sq <|Sb <|?_
  have f:InR 3 4:=by decide
  refine Te [4,6,7,8] Ac (Ev (by simp only[go_sem,f,f.2];exact CL)) ?_;refine Bd fun w p =>Te [5,6,7,8] (Ag (l:=[]) (m:=[(13,43,[.rp (Af a)],[],_,_)]) trivial ⟨(wc (KZ p) []),trivial⟩) Ev ?_
  refine T0 [5,6,7,8,15] ?_;refine Cd ?_ ?_
  ·refine T0 [2] ?_;exact Sr <|Br <|Tr <|Ur <|Br <|Jr b <|Rr
  refine Sk <|Bn <|Tn <|?_
  have q:w64 4=4:=by decide
  refine Fe [6,7,8] Ac (Ew1 q) ?_;refine Un ?_;refine Ug (m:=4) ?_;refine T0 [6,7,8,9] ?_;exact Sq <|Cf <|Sx <|Tx <|Ux <|Bx <|Jn (ws [])
 intro _;refine T0 [2] ?_;exact Sr <|Rr
theorem Ig{a r}(h:BC a=some r):Con (B rs) 17 [.agg (Af a)] [] (fun r' O'=>r'=i64 r/\O'=[]):=by
 refine Cw 9 [.tmp 2] Tryz.func17 (fun F hE=>?_) h;unfold BC;refine T0 [1] ?_;refine Rw (Ag4 1 0 gs rfl (by simp[closed_i64,closed_u8,closed_u32,closed_u64,closed_bool,closed_str,closed_sl]) (by rfl)) ?_;refine Bd fun c b=>?_
 refine Tfe [2] (o1 8 (Gp b)) Ev ?_;exact Sr <|Rr
variable {rs:AoH}
theorem Mt{b a r}(h:DK b a=some r):Con (B rs) 16 [.agg (Af b),.agg (Af a)] [] (fun r' O'=>r'=.agg (Af r)/\O'=[]):=by
 refine Cw 82 [.cell 4 34] Tryz.func16 (fun F hE=>?_) h;unfold DK;refine T0 [2,3,4] ?_;refine T0 [2,3,4,5] ?_;refine Ja (fun k=>⟨Al 82 [(2,.ref 0 0),(3,.ref 1 0),(4,.ref 2 0),(5,.mref 3)],[.box (Af b) false,.box (Af a) false,.box [.str ([]:List UInt8),i64 0,.sl true (L Ab ([]))] false,.mp true (MS SE k)]⟩) ?_ ?_
 ·intro bq;refine T0 [2,3,4,5,19,20,21] ?_;refine Sb ?_;refine Lo (fun(v:Int×RA)=>(⟨Al 82 [(2,.ref 0 0),(3,.ref 1 0),(4,.ref 2 0),(5,.mref 3),(19,.sl false (L Ab a.Zf)),(20,i64 (a.Zf.length:Int)),(21,i64 v.1)],[.box (Af b) false,.box (Af a) false,.box [.str ([]:List UInt8),i64 0,.sl true (L Ab ([]))] false,.mp true (MS SE v.2)]⟩:St)) (ws [0,1,2,3]) ?_;rintro⟨t,q⟩ br u w x;show Ff a t q=some u->_;unfold Ff;refine T0 [2,3,4,5,19,20,21,22] ?_;refine Sq <|Cd ?_ ?_
  ·refine Sk <|Tn <|Sq <|Sb <|Ck fun y =>Lt fun z aa =>Lt fun ab ac =>Lt fun ad ae =>Lt fun af ag =>Lt fun ah ai =>Lt fun aj ak =>Te (O':=[_,_,_,_,.box (.str z::.sl false (L Ae ab)::i64 ad::i64 af::(C1 i64 ah.l++[.sl false (L cApi_Expr aj)])) false]) [2,3,4,5,7,19,20,21] Ac (Ev (by simp only[go_sem,qR y,aa,ac,ae,ag,ai,ak];exact CL)) ?_
   refine Lt fun al am =>Fe (O':=[_,_,_,.mp true (MS SE al),_]) [2,3,4,5,19,20,21] Ac (Ew1 am) ?_
   refine Bn <|Tn <|F0 [2,3,4,5,19,20,21] ?_
   exact Ln (ws [0,1,2,3])
  refine Sx <|Tx <|Ly x w <|Bx <|?_
  exact Jm ((ws (l':=[(2,.ref 0 0),(3,.ref 1 0),(4,.ref 2 0),(5,.mref 3)]) (O':=[.box (Af b) false,.box (Af a) false,.box [.str ([]:List UInt8),i64 0,.sl true (L Ab ([]))] false,.mp true (MS SE q)]) [0,1,2,3]).trans (ws [0,1,2,3]))
 intro k;refine Bd fun n an =>Te [2,3,4,5,8] (Ag (l:=[]) (m:=[(32,36,[.sl false (L Ab b.Zf)],[.box (Af b) false,.box (Af a) false,.box [.str ([]:List UInt8),i64 0,.sl true (L Ab ([]))] false,.mp true (MS SE k)],_,_)]) trivial ⟨(wc (Lz an) []),trivial⟩) Ev ?_
 refine Ja (fun(v:RA×List AoN)=>(⟨Al 82 [(2,.ref 0 0),(3,.ref 1 0),(4,.ref 2 0),(5,.mref 3),(8,.bs false 4 (v.2.length) 0 (v.2.length))],[.box (Af b) false,.box (Af a) false,.box [.str ([]:List UInt8),i64 0,.sl true (L Ab ([]))] false,.mp true (MS SE v.1),.buf 9 (L Ab v.2) false]⟩:St)) ?_ ?_
 ·intro bt;refine T0 [2,3,4,5,8,33,34,35] ?_;refine Sb ?_;refine Lo (fun⟨e,f,c⟩=>⟨Al 82 [(2,.ref 0 0),(3,.ref 1 0),(4,.ref 2 0),(5,.mref 3),(8,.bs false 4 (c.length) 0 (c.length)),(33,.bs false 4 (c.length) 0 (c.length)),(34,i64 (n.length:Int)),(35,i64 e)],[.box (Af b) false,.box (Af a) false,.box [.str ([]:List UInt8),i64 0,.sl true (L Ab ([]))] false,.mp true (MS SE f),.buf 9 (L Ab c) false]⟩) (ws [0,1,2,3,4]) ?_;rintro⟨e,f,c⟩ bu ao ap aq;show Fl n e f c=some ao->_;unfold Fl;refine T0 [2,3,4,5,8,33,34,35,36] ?_;refine Sq <|Cd ?_ ?_
  ·refine Sk <|Tn <|?_
   refine Ja (fun(v:RA×List AoN)=>(⟨Al 82 [(2,.ref 0 0),(3,.ref 1 0),(4,.ref 2 0),(5,.mref 3),(8,.bs false 4 (v.2.length) 0 (v.2.length)),(33,.bs false 4 (v.2.length) 0 (v.2.length)),(34,i64 (n.length:Int)),(35,i64 e)],[.box (Af b) false,.box (Af a) false,.box [.str ([]:List UInt8),i64 0,.sl true (L Ab ([]))] false,.mp true (MS SE v.1),.buf 9 (L Ab v.2) false]⟩:St)) ?_ ?_
   ·intro bv;refine Sb <|Ck fun ar =>Lt fun au av =>Lt fun aw ax =>Lt fun ay az =>Lt fun aA aB =>Lt fun aC aD =>Lt fun aE aF =>Te (O':=[_,_,_,_,_,.box (.str au::.sl false (L Ae aw)::i64 ay::i64 aA::(C1 i64 aC.l++[.sl false (L cApi_Expr aE)])) false]) [2,3,4,5,8,9,10,33,34,35] Ac (Ev (by simp only[go_sem,qR ar,av,ax,az,aB,aD,aF];exact CL)) ?_
    refine Lt fun aG aH =>Lt fun aI aJ =>Lt fun aK aL =>Lt fun aM aN =>Lt fun aO aP =>Lt fun aQ aR =>Te (O':=[_,_,_,_,_,_,.box (.str aG::.sl false (L Ae aI)::i64 aK::i64 aM::(C1 i64 aO.l++[.sl false (L cApi_Expr aQ)])) false]) [2,3,4,5,8,9,10,11,12,33,34,35] Ac (Ev (by simp only[go_sem,aH,aJ,aL,aN,aP,aR];exact CL)) ?_
    refine T0 [2,3,4,5,8,9,10,11,33,34,35,47] ?_;refine Cd ?_ ?_
    ·refine Ck fun aS =>Lt fun d aT =>Te (fr':=[(2,_),(3,_),(4,_),(5,_),(8,.bs false 4 (d.length) 0 (d.length)),(10,_),(33,.bs false 4 (d.length) 0 (d.length)),(34,_),(35,_)]) (O':=[_,_,_,_,.buf 9 (L Ab d) false,_,_]) [2,3,4,5,8,10,33,34,35] Ac (Ew2 (qR aS) aT) ?_
     refine Lt fun aU aV =>Fe (O':=[_,_,_,.mp true (MS SE aU),_,_,_]) [2,3,4,5,8,33,34,35] Ac (Ew1 aV) ?_
     exact Bn <|Jm (ws [0,1,2,3,4])
    exact Sk <|Bn <|Jm (ws [0,1,2,3,4])
   rintro⟨bw,bx⟩;refine F0 [2,3,4,5,8,33,34,35] ?_;exact Ln (ws [0,1,2,3,4])
  refine Sx <|Tx <|Ly aq ap <|Bx <|?_
  exact Jm ((ws (l':=[(2,.ref 0 0),(3,.ref 1 0),(4,.ref 2 0),(5,.mref 3),(8,.bs false 4 (c.length) 0 (c.length))]) (O':=[.box (Af b) false,.box (Af a) false,.box [.str ([]:List UInt8),i64 0,.sl true (L Ab ([]))] false,.mp true (MS SE f),.buf 9 (L Ab c) false]) [0,1,2,3,4]).trans (ws [0,1,2,3,4]))
 rintro⟨o,bz⟩;refine Ja (fun g=>⟨Al 82 [(2,.ref 0 0),(4,.ref 1 0),(8,.bs false 2 (g.length) 0 (g.length))],[.box (Af b) false,.box [.str ([]:List UInt8),i64 0,.sl true (L Ab ([]))] false,.buf 9 (L Ab g) false]⟩) ?_ ?_
 ·intro bA;refine T0 [2,4,5,8,57,58,59] ?_;refine Sb ?_;refine Lo (fun(v:Int×List AoN)=>(⟨Al 82 [(2,.ref 0 0),(4,.ref 1 0),(5,.mref 2),(8,.bs false 3 (v.2.length) 0 (v.2.length)),(57,.sl false (L Ab a.Zf)),(58,i64 (a.Zf.length:Int)),(59,i64 v.1)],[.box (Af b) false,.box [.str ([]:List UInt8),i64 0,.sl true (L Ab ([]))] false,.mp true (MS SE o),.buf 9 (L Ab v.2) false]⟩:St)) (ws [0,2,3,4]) ?_;rintro⟨s,i⟩ bB aW aX aY;show Fj a o s i=some aW->_;unfold Fj;refine T0 [2,4,5,8,57,58,59,60] ?_;refine Sq <|Cd ?_ ?_
  ·refine Sk <|Tn <|?_
   refine Ja (fun j=>⟨Al 82 [(2,.ref 0 0),(4,.ref 1 0),(5,.mref 2),(8,.bs false 3 (j.length) 0 (j.length)),(57,.sl false (L Ab a.Zf)),(58,i64 (a.Zf.length:Int)),(59,i64 s)],[.box (Af b) false,.box [.str ([]:List UInt8),i64 0,.sl true (L Ab ([]))] false,.mp true (MS SE o),.buf 9 (L Ab j) false]⟩) ?_ ?_
   ·intro bC;refine Sb <|Ck fun aZ =>Lt fun a0 a1 =>Lt fun a2 a3 =>Lt fun a4 a5 =>Lt fun a6 a7 =>Lt fun a8 a9 =>Lt fun ba bb =>Te (O':=[_,_,_,_,.box (.str a0::.sl false (L Ae a2)::i64 a4::i64 a6::(C1 i64 a8.l++[.sl false (L cApi_Expr ba)])) false]) [2,4,5,8,14,57,58,59] Ac (Ev (by simp only[go_sem,qR aZ,a1,a3,a5,a7,a9,bb];exact CL)) ?_
    refine Lt fun bc bd =>Lt fun be bf =>Lt fun bg bh =>Lt fun bi bj =>Lt fun bk bl =>Lt fun bm bn =>Te (O':=[_,_,_,_,_,.box (.str bc::.sl false (L Ae be)::i64 bg::i64 bi::(C1 i64 bk.l++[.sl false (L cApi_Expr bm)])) false]) [2,4,5,8,14,16,57,58,59] Ac (Ev (by simp only[go_sem,bd,bf,bh,bj,bl,bn];exact CL)) ?_
    refine T0 [2,4,5,8,14,57,58,59,70] ?_;refine Cd ?_ ?_
    ·refine Ck fun bo =>Lt fun p bp =>Fe (fr':=[(2,_),(4,_),(5,_),(8,.bs false 3 (p.length) 0 (p.length)),(57,_),(58,_),(59,_)]) (O':=[_,_,_,.buf 9 (L Ab p) false,_,_,_]) [2,4,5,8,57,58,59] Ac (Ew2 bo bp) ?_
     exact Bn <|Jm (ws [0,1,2,3])
    exact Sk <|Bn <|Jm (ws [0,1,2,3])
   intro j;refine F0 [2,4,5,8,57,58,59] ?_;exact Ln (ws [0,1,2,3])
  refine Sx <|Tx <|Ly aY aX <|Bx <|?_
  exact Jm ((ws (l':=[(2,.ref 0 0),(4,.ref 1 0),(8,.bs false 2 (i.length) 0 (i.length))]) (O':=[.box (Af b) false,.box [.str ([]:List UInt8),i64 0,.sl true (L Ab ([]))] false,.buf 9 (L Ab i) false]) [0,1,3]).trans (ws [0,1,2]))
 intro g;refine T0 [4] ?_;exact Sr <|Rr
theorem G6{b c r}(h:DC b c=some r):Con (B rs) 9 [.str b,i64 c] [] (fun r' O'=>r'=.tup [.agg (Af r.1),i64 r.2]/\O'=[]):=by
 refine Cw 39 [.cell 4 34,.tmp 5] Tryz.func9 (fun F hE=>?_) h;unfold DC;refine T0 [0,1,4] ?_;refine Sq ?_;refine Tw [0,1,4,14] (fun f=>⟨Al 39 [(0,.str b),(1,i64 c),(4,.ref 0 0),(14,.bool f)],[.box [.str ([]:List UInt8),i64 0,.sl true (L Ab ([]))] false]⟩) ?_ ?_
 ·intro _;refine Sp (fun d=>?_) fun d=>?_
  ·exact Lf Ac (Ew1 d) (ws [0])
  exact Lf Ac (Ew1 d) (ws [0])
 intro f;refine Cd ?_ ?_
 ·refine T0 [4,5] ?_;exact Sr <|Tr <|Rr
 refine Sk <|Tn <|Bd fun a k =>Te [1,4,6,8] (o1 18 (NS k)) Ev ?_
 refine Ja (fun g=>⟨Al 39 [(4,.ref 0 0),(6,.ref 1 0),(8,i64 g)],[.box [.str ([]:List UInt8),i64 0,.sl true (L Ab ([]))] false,.box (Af a.1) false]⟩) ?_ ?_
 ·intro m;refine Tw [4,6,8,29] (fun i=>⟨Al 39 [(4,.ref 0 0),(6,.ref 1 0),(8,i64 a.2.2),(29,.bool i)],[.box [.str ([]:List UInt8),i64 0,.sl true (L Ab ([]))] false,.box (Af a.1) false]⟩) ?_ ?_
  ·intro _;refine Sp (fun e=>?_) fun e=>?_
   ·exact Lf Ac (Ew1 e) (ws [0,1])
   exact Lf Ac (Ew1 e) (ws [0,1])
  intro i;refine Cd ?_ ?_
  ·refine F0 [4,6,8] ?_;exact Jm (ws [0,1])
  exact Sk <|Jm (ws [0,1])
 intro g;refine Ja (fun j=>⟨Al 39 [(4,.ref 0 0),(6,.ref 1 0),(8,i64 j)],[.box [.str ([]:List UInt8),i64 0,.sl true (L Ab ([]))] false,.box (Af a.1) false]⟩) ?_ ?_
 ·intro n;refine T0 [4,6,8,31] ?_;refine Cd ?_ ?_
  ·refine Bd fun o l =>Fe [4,6,8] (o1 33 (Ig l)) Ev ?_
   exact Jm (ws [0,1])
  exact Sk <|Jm (ws [0,1])
 intro j;refine Sq <|T0 [4,6,8,35] ?_
 refine Cd ?_ ?_
 ·refine T0 [4,5] ?_;exact Sr <|Tr <|Rr
 refine Sk <|Tn <|T0 [4,5] ?_
 exact Sr <|Rr
variable {rs:AoH}
theorem DR{k l a b r}(h:BU k l a b=some r):Con (B rs) 7 [.sl false (L Ah k),i64 l,i64 a,i64 b] [] (fun r' O'=>r'=.tup [.agg (Af r.1),i64 r.2]/\O'=[]):=by
 refine Cw 80 [.cell 8 34,.tmp 9] Tryz.func7 (fun F hE=>?_) h;unfold BU;refine T0 [0,1,2,3,8] ?_;refine Sc <|Sq <|?_
 refine Tw [0,1,2,3,8,28] (fun o=>⟨Al 80 [(0,.sl false (L Ah k)),(1,i64 l),(2,i64 a),(3,i64 b),(8,.ref 0 0),(28,.bool o)],[.box [.str ([]:List UInt8),i64 0,.sl true (L Ab ([]))] false]⟩) ?_ ?_
 ·intro _;refine Bd fun aZ m=>?_
  refine Sp (fun i=>?_) fun i=>?_
  ·exact Lf (o1 19 (Gr m)) (Ew1 i) (ws [0])
  refine Sp (fun n=>?_) fun n=>?_
  ·exact Lf (o1 19 (Gr m)) (Ew2 i n) (ws [0])
  exact Lf (o1 19 (Gr m)) (Ew2 i n) (ws [0])
 intro o;refine Cd ?_ ?_
 ·refine T0 [8,9] ?_;exact Sr <|Tr <|Cr <|Rr
 refine Sk <|Tn <|T0 [0,1,2,3,8,10] ?_
 refine T0 [0,1,2,3,8,10,11] ?_;refine Sq <|Sl <|Tn <|?_
 refine Ja (fun⟨p,q,s,t⟩=>⟨Al 80 [(8,.ref 0 0),(10,.ref 1 0),(11,.bool p)],[.box [.str ([]:List UInt8),i64 0,.sl true (L Ab ([]))] false,.box [.str q,i64 s,.sl false (L Ab t)] false]⟩) ?_ ?_
 ·intro a0;refine Bd fun c aa =>Te [2,3,8,10,11,33,34,35] (o1 33 (Kj aa)) Ev ?_
  refine Sb ?_;refine Lo (fun⟨d,j,e,f,g⟩=>⟨Al 80 [(2,i64 a),(3,i64 b),(8,.ref 0 0),(10,.ref 1 0),(11,.bool d),(33,.sl false (L Ah c)),(34,i64 (c.length:Int)),(35,i64 j)],[.box [.str ([]:List UInt8),i64 0,.sl true (L Ab ([]))] false,.box [.str e,i64 f,.sl false (L Ab g)] false]⟩) (ws [0,1]) ?_;rintro⟨d,j,e,f,g⟩ a1 ab u v;show En a b c d j e f g=some ab->_;unfold En;refine T0 [2,3,8,10,11,33,34,35,36] ?_;refine Sq <|Cd ?_ ?_
  ·refine Sk <|Tn <|?_
   refine Jo (fun⟨w,x,y,z⟩=>⟨Al 80 [(2,i64 a),(3,i64 b),(8,.ref 0 0),(10,.ref 1 0),(11,.bool w),(33,.sl false (L Ah c)),(34,i64 (c.length:Int)),(35,i64 j)],[.box [.str ([]:List UInt8),i64 0,.sl true (L Ab ([]))] false,.box [.str x,i64 y,.sl false (L Ab z)] false]⟩) ?_ ?_
   ·intro a2 ac;refine Sb <|Ck fun ad =>Lt fun ae af =>Lt fun ag ah =>Lt fun ai aj =>Lt fun ak al =>Lt fun am an =>Lt fun ao ap =>Lt fun aq ar =>Lt fun au av =>Lt fun aw ax =>Lt fun ay az =>Lt fun aA aB =>Lt fun aC aD =>Lt fun aE aF =>Lt fun aG aH =>Lt fun aI aJ =>Lt fun aK aL =>Lt fun aM aN =>Lt fun aO aP =>Lt fun aQ aR =>Lt fun aS aT =>Lt fun aU aV =>Te (O':=[_,_,.box [i64 ae,i64 ag,i64 ai,i64 ak,i64 am,i64 ao,i64 aq,i64 au,i64 aw,i64 ay,i64 aA,i64 aC,i64 aE,i64 aG,i64 aI,i64 aK,i64 aM,i64 aO,i64 aQ,.str aS,.sl false (L Dr aU)] false]) [2,3,8,10,11,13,33,34,35] Ac (Ev (by simp only[go_sem,qR ad,af,ah,aj,al,an,ap,ar,av,ax,az,aB,aD,aF,aH,aJ,aL,aN,aP,aR,aT,aV];exact CL)) ?_
    refine Sq <|T0 [2,3,8,10,11,13,33,34,35,43] ?_
    refine Cd ?_ ?_
    ·refine Sx <|Tx <|Bo <|Jx ac <|Ly v u <|Bx <|?_
     exact Jm ((ws (l':=[(8,.ref 0 0),(10,.ref 1 0),(11,.bool d)]) (O':=[.box [.str ([]:List UInt8),i64 0,.sl true (L Ab ([]))] false,.box [.str e,i64 f,.sl false (L Ab g)] false]) [0,1]).trans (ws [0,1]))
    refine Sk <|Tn <|Sq <|T0 [2,3,8,10,11,13,33,34,35,47] ?_
    refine Cd ?_ ?_
    ·refine T0 [2,3,8,10,11,33,34,35] ?_;exact Sx <|Tx <|Bx <|Jn (ws [0,1])
    refine Sk <|Tn <|Bd fun a3 aW =>Te [2,3,8,10,11,13,14,15,33,34,35] (o1 54 (G6 aW)) Ev ?_
    refine Sb <|T0 [2,3,8,10,11,13,14,33,34,35,57] ?_
    refine Cd ?_ ?_
    ·exact Sx <|Bo <|Bx <|Jn (ws [0,1])
    refine T0 [2,3,8,10,11,14,33,34,35,60] ?_;refine Cd ?_ ?_
    ·refine F0 [2,3,8,10,11,33,34,35] ?_;exact Bn <|Bn <|Jn (ws [0,1])
    refine T0 [2,3,8,10,11,14,33,34,35,66] ?_;refine Cd ?_ ?_
    ·refine Bd fun a4 aX =>Te [2,3,8,10,11,16,33,34,35] (o1 70 (Mt aX)) Ev ?_
     refine Bd fun a5 aY =>Te [2,3,8,10,11,16,33,34,35,73] (o1 72 (Ig aY)) Ev ?_
     refine Cd ?_ ?_
     ·refine F0 [2,3,8,10,11,33,34,35] ?_;exact Bn <|Bn <|Jn (ws [0,1])
     exact Sk <|Bn <|Bn <|Jn (ws [0,1])
    exact Sk <|Bn <|Bn <|Jn (ws [0,1])
   rintro⟨w,x,y,z⟩;refine F0 [2,3,8,10,11,33,34,35] ?_;exact Ln (ws [0,1])
  refine Sx <|Tx <|Ly v u <|Bx <|?_
  exact Jm ((ws (l':=[(8,.ref 0 0),(10,.ref 1 0),(11,.bool d)]) (O':=[.box [.str ([]:List UInt8),i64 0,.sl true (L Ab ([]))] false,.box [.str e,i64 f,.sl false (L Ab g)] false]) [0,1]).trans (ws [0,1]))
 rintro⟨p,q,s,t⟩;refine Sq <|T0 [8,10,77] ?_
 refine Cd ?_ ?_
 ·refine T0 [8,9] ?_;exact Sr <|Tr <|Cr <|Rr
 refine Sk <|Tn <|T0 [8,9] ?_
 exact Sr <|Cr <|Rr
theorem La{r}(h:top_editionsSane  = some r):Con (B rs) 5 [] [] (fun r' O'=>r'=.bool r/\O'=[]):=by
 refine Cw 32 [.tmp 0] Tryz.func5 (fun F hE=>?_) h;unfold top_editionsSane;refine T0 [] ?_;refine Lt fun b e =>Te (fr':=[(1,.bs true 0 (b.length) 0 (b.length))]) (O':=[.buf 21 (L Ah b) false]) [1] Ac (Ew1 e) ?_
 refine Bd fun i f =>Te [1,2,3] (o1 13 (DR f)) Ev ?_
 refine Bd fun j g =>Te [2,3,5] (o1 18 (DR g)) Ev ?_
 refine Tw [0] (fun d=>⟨Al 32 [(0,.bool d)],[]⟩) ?_ ?_
 ·intro _;refine Sp (fun a=>?_) fun a=>?_
  ·refine Sp (fun c=>?_) fun c=>?_
   ·exact Lf Ac (Ew2 a c) (ws [])
   exact Lf Ac (Ew2 a c) (ws [])
  exact Lf Ac (Ew1 a) (ws [])
 intro d;exact Sr <|Rr
variable {rs:AoH}
theorem JS{d e i f af r}(h:Fg d e i f af=some r):Con (B rs) 3 [.sl false (L Ah d),.agg (Ah e),i64 i,i64 f,i64 af] [] (fun r' O'=>r'=.bool r/\O'=[]):=by
 refine Cw 242 [.tmp 10] Tryz.func3 (fun F hE=>?_) h;unfold Fg;refine T0 [0,2,3,4,6] ?_;refine Sq <|Bd fun ci aQ =>Te [0,2,3,4,6,29] (o1 28 (La aQ)) Ev ?_
 refine Cd ?_ ?_
 ·refine T0 [10] ?_;exact Sr <|Tr <|Rr
 refine Sk <|Tn <|Ck fun ag =>?_
 have ah:=ag;simp only[Apo,ApN,Ao5,Apb,Apr,Aqg,Nat.reduceAdd]at ah;refine Ck fun ai=>?_
 have aj:=ai;simp only[Apo,ApN,Ao5,Apb,Apr,Aqg,Nat.reduceAdd]at aj;refine Lt fun ak aR=>?_
 intro h;refine AcF (n:=242) hE H8 [[],[],[0,1],[],[3],[0,1,2,3,4],[0,1,2,3,4,5]] (by kernel_rfl) [(6,0)] [] [(30,1)] [(30,1)] [0,2,3,4,6,11,30] (by kernel_rfl) (fr':=[(0,.sl false (L Ah d)),(2,i64 i),(3,i64 f),(4,i64 af),(6,.ref 0 0),(11,.bs false 1 (ak.length) 0 (ak.length)),(30,.bs true 1 (([]:List AoT).length) 0 (([]:List AoT).length))]) (O':=[.box (Ah e) false,.buf 21 (L Ah ak) false]) ⟨rfl,trivial⟩ trivial ⟨⟨rfl,rfl,rfl⟩,trivial⟩ ⟨rfl,trivial⟩ ⟨_,Ac,?_⟩ ?_
 ·subst aR;first|(simp only[go_sem,ag,ah,ai,aj];done)|(simp only[go_sem,ag,ah,ai,aj];simp only[AqI 1])
 revert h;refine Sq <|Bd fun cj aS =>Te [0,2,3,4,6,11,38] (o1 37 (MA aS)) Ev ?_
 refine Cd ?_ ?_
 ·refine T0 [10] ?_;exact Sr <|Tr <|Rr
 refine Sk <|Tn <|Bd fun b aT =>Te [0,2,3,4,6,11,12,13] (o1 44 (DR aT)) Ev ?_
 refine Bd fun a aU =>Te [0,2,3,4,6,12,13,14,15] (o1 52 (DR aU)) Ev ?_
 refine Sq ?_;refine Tw [0,2,3,6,12,13,14,15,91] (fun aw=>⟨Al 242 [(0,.sl false (L Ah d)),(2,i64 i),(3,i64 f),(6,.ref 0 0),(12,.ref 1 0),(13,i64 b.2),(14,.ref 2 0),(15,i64 a.2),(91,.bool aw)],[.box (Ah e) false,.box (Af b.1) false,.box (Af a.1) false]⟩) ?_ ?_
 ·intro _;refine Sp (fun j=>?_) fun j=>?_
  ·exact Lf Ac (Ew1 j) (ws [0,2,3])
  refine Sp (fun k=>?_) fun k=>?_
  ·exact Lf Ac (Ew2 j k) (ws [0,2,3])
  refine Sp (fun o=>?_) fun o=>?_
  ·exact Lf Ac (Ew3 j k o) (ws [0,2,3])
  refine Sp (fun x=>?_) fun x=>?_
  ·refine Sp (fun al=>?_) fun al=>?_
   ·exact Lf Ac (Ew5 j k o x al) (ws [0,2,3])
   exact Lf Ac (Ew5 j k o x al) (ws [0,2,3])
  exact Lf Ac (Ew4 j k o x) (ws [0,2,3])
 intro aw;refine Cd ?_ ?_
 ·refine Tw [10] (fun ax=>⟨Al 242 [(10,.bool ax)],[]⟩) ?_ ?_
  ·intro _;refine Sp (fun am=>?_) fun am=>?_
   ·refine Bd fun ck aV=>?_
    exact Lf (o1 98 (DV aV)) (Ew1 am) (ws [])
   exact Lf Ac (Ew1 am) (ws [])
  intro ax;exact Sr <|Tr <|Rr
 refine Sk <|Tn <|T0 [0,2,3,6,12,13,14,15,16] ?_
 refine Ja (fun ay=>⟨Al 242 [(3,i64 f),(6,.ref 0 0),(12,.ref 1 0),(13,i64 b.2),(14,.ref 2 0),(15,i64 a.2),(16,.bool ay)],[.box (Ah e) false,.box (Af b.1) false,.box (Af a.1) false]⟩) ?_ ?_
 ·intro cl;refine T0 [2,3,6,12,13,14,15,16,100,101,102] ?_;refine Sb ?_;refine Lo (fun(v:Bool×Int)=>(⟨Al 242 [(2,i64 i),(3,i64 f),(6,.ref 0 0),(12,.ref 1 0),(13,i64 b.2),(14,.ref 2 0),(15,i64 a.2),(16,.bool v.1),(100,.sl false (L Ah d)),(101,i64 (d.length:Int)),(102,i64 v.2)],[.box (Ah e) false,.box (Af b.1) false,.box (Af a.1) false]⟩:St)) (ws [0,1,2]) ?_;rintro⟨az,aA⟩ cm aW aX aY;show CV d e i f az aA=some aW->_;unfold CV;refine T0 [2,3,6,12,13,14,15,16,100,101,102,103] ?_;refine Sq <|Cd ?_ ?_
  ·refine Sk <|Tn <|Sq <|Sb <|Ck fun aZ =>Lt fun a0 a1 =>Lt fun a2 a3 =>Lt fun a4 a5 =>Lt fun a6 a7 =>Lt fun a8 a9 =>Lt fun ba bb =>Lt fun bc bd =>Lt fun be bf =>Lt fun bg bh =>Lt fun bi bj =>Lt fun bk bl =>Lt fun bm bn =>Lt fun bo bp =>Lt fun bq br =>Lt fun bt bu =>Lt fun bv bw =>Lt fun bx bz =>Lt fun bA bB =>Lt fun bC bD =>Lt fun bE bF =>Lt fun bG bH =>Te (O':=[_,_,_,.box [i64 a0,i64 a2,i64 a4,i64 a6,i64 a8,i64 ba,i64 bc,i64 be,i64 bg,i64 bi,i64 bk,i64 bm,i64 bo,i64 bq,i64 bt,i64 bv,i64 bx,i64 bA,i64 bC,.str bE,.sl false (L Dr bG)] false]) [2,3,6,12,13,14,15,16,18,100,101,102] Ac (Ev (by simp only[go_sem,qR aZ,a1,a3,a5,a7,a9,bb,bd,bf,bh,bj,bl,bn,bp,br,bu,bw,bz,bB,bD,bF,bH];exact CL)) ?_
   refine Fw [2,3,6,12,13,14,15,16,100,101,102] (fun aB=>⟨Al 242 [(2,i64 i),(3,i64 f),(6,.ref 0 0),(12,.ref 1 0),(13,i64 b.2),(14,.ref 2 0),(15,i64 a.2),(16,.bool aB),(100,.sl false (L Ah d)),(101,i64 (d.length:Int)),(102,i64 aA)],[.box (Ah e) false,.box (Af b.1) false,.box (Af a.1) false]⟩) ?_ ?_
   ·intro _;refine Sp (fun p=>?_) fun p=>?_
    ·refine Sp (fun y=>?_) fun y=>?_
     ·exact Lf Ac (Ew2 p y) (ws [0,1,2])
     refine Sp (fun an=>?_) fun an=>?_
     ·exact Lf Ac (Ew3 p y an) (ws [0,1,2])
     exact Lf Ac (Ew3 p y an) (ws [0,1,2])
    exact Lf Ac (Ew1 p) (ws [0,1,2])
   intro aB;refine Bn <|Tn <|F0 [2,3,6,12,13,14,15,16,100,101,102] ?_
   exact Ln (ws [0,1,2])
  refine Sx <|Tx <|Ly aY aX <|Bx <|?_
  exact Jm ((ws (l':=[(3,i64 f),(6,.ref 0 0),(12,.ref 1 0),(13,i64 b.2),(14,.ref 2 0),(15,i64 a.2),(16,.bool az)]) (O':=[.box (Ah e) false,.box (Af b.1) false,.box (Af a.1) false]) [0,1,2]).trans (ws [0,1,2]))
 intro ay;refine Sq <|T0 [3,6,12,13,14,15,132] ?_
 refine Cd ?_ ?_
 ·refine T0 [10] ?_;exact Sr <|Tr <|Rr
 refine Sk <|Tn <|Sq <|T0 [3,6,12,13,14,15,135] ?_
 refine Sb <|T0 [3,6,12,13,14,15,135,136] ?_
 refine Cd ?_ ?_
 ·refine Tw [10] (fun aC=>⟨Al 242 [(10,.bool aC)],[]⟩) ?_ ?_
  ·intro _;refine Sp (fun z=>?_) fun z=>?_
   ·exact Lf Ac (Ew1 z) (ws [])
   refine Sp (fun ao=>?_) fun ao=>?_
   ·exact Lf Ac (Ew2 z ao) (ws [])
   exact Lf Ac (Ew2 z ao) (ws [])
  intro aC;exact Sr <|Br <|Tr <|Rr
 refine T0 [3,6,12,13,14,15,148] ?_;refine Cd ?_ ?_
 ·refine Bd fun bI bJ =>Te [12,13,14,15,19,20] (o1 155 (G6 bJ)) Ev ?_
  refine Sq ?_;refine Tw [12,13,14,15,19,163] (fun aD=>⟨Al 242 [(12,.ref 0 0),(13,i64 b.2),(14,.ref 1 0),(15,i64 a.2),(19,.ref 2 0),(163,.bool aD)],[.box (Af b.1) false,.box (Af a.1) false,.box (Af bI.1) false]⟩) ?_ ?_
  ·intro _;refine Sp (fun ap=>?_) fun ap=>?_
   ·exact Lf Ac (Ew1 ap) (ws [1,2,3])
   exact Lf Ac (Ew1 ap) (ws [1,2,3])
  intro aD;refine Cd ?_ ?_
  ·refine Tw [10] (fun aE=>⟨Al 242 [(10,.bool aE)],[]⟩) ?_ ?_
   ·intro _;refine Sp (fun aq=>?_) fun aq=>?_
    ·refine Bd fun cn bK=>?_
     exact Lf (o1 169 (DV bK)) (Ew1 aq) (ws [])
    exact Lf Ac (Ew1 aq) (ws [])
   intro aE;exact Sr <|Tr <|Br <|Tr <|Rr
  refine Sk <|Tn <|?_
  refine Tw [10] (fun aF=>⟨Al 242 [(10,.bool aF)],[]⟩) ?_ ?_
  ·intro _;refine Sp (fun ar=>?_) fun ar=>?_
   ·refine Bd fun co bL=>?_
    exact Lf (o1 177 (DV bL)) (Ew1 ar) (ws [])
   exact Lf Ac (Ew1 ar) (ws [])
  intro aF;exact Sr <|Br <|Tr <|Rr
 refine Sk <|Bn <|Tn <|Bd fun c bM =>Te [12,13,14,15,21,22] (o1 184 (G6 bM)) Ev ?_
 refine Sq ?_;refine Tw [12,13,14,15,21,196] (fun aG=>⟨Al 242 [(12,.ref 0 0),(13,i64 b.2),(14,.ref 1 0),(15,i64 a.2),(21,.ref 2 0),(196,.bool aG)],[.box (Af b.1) false,.box (Af a.1) false,.box (Af c.1) false]⟩) ?_ ?_
 ·intro _;refine Sp (fun aa=>?_) fun aa=>?_
  ·exact Lf Ac (Ew1 aa) (ws [1,2,3])
  refine Sp (fun au=>?_) fun au=>?_
  ·exact Lf Ac (Ew2 aa au) (ws [1,2,3])
  exact Lf Ac (Ew2 aa au) (ws [1,2,3])
 intro aG;refine Cd ?_ ?_
 ·refine Tw [10] (fun aH=>⟨Al 242 [(10,.bool aH)],[]⟩) ?_ ?_
  ·intro _;refine Sp (fun av=>?_) fun av=>?_
   ·refine Bd fun cp bN=>?_
    exact Lf (o1 203 (DV bN)) (Ew1 av) (ws [])
   exact Lf Ac (Ew1 av) (ws [])
  intro aH;exact Sr <|Tr <|Rr
 refine Sk <|Tn <|Sq <|Bd fun cq bO =>Te [12,14,21,207] (o1 207 (DV bO)) Ev ?_
 refine Cd ?_ ?_
 ·refine T0 [10] ?_;exact Sr <|Tr <|Rr
 refine Sk <|Tn <|?_
 refine Jo (fun _=>⟨Al 242 [(12,.ref 0 0),(14,.ref 1 0)],[.box (Af b.1) false,.box (Af a.1) false]⟩) ?_ ?_
 ·intro cr bP;refine T0 [12,14,21,209,210,211] ?_;refine Sb ?_;refine Lo (fun g=>⟨Al 242 [(12,.ref 0 0),(14,.ref 1 0),(21,.ref 2 0),(209,.sl false (L Ab a.1.Zf)),(210,i64 (a.1.Zf.length:Int)),(211,i64 g)],[.box (Af b.1) false,.box (Af a.1) false,.box (Af c.1) false]⟩) (ws [0,1,2]) ?_;rintro g cs bQ aI aJ;show Cx b a c g=some bQ->_;unfold Cx;refine T0 [12,14,21,209,210,211,212] ?_;refine Sq <|Cd ?_ ?_
  ·refine Sk <|Tn <|?_
   refine Jo (fun _=>⟨Al 242 [(12,.ref 0 0),(14,.ref 1 0),(21,.ref 2 0),(209,.sl false (L Ab a.1.Zf)),(210,i64 (a.1.Zf.length:Int)),(211,i64 g)],[.box (Af b.1) false,.box (Af a.1) false,.box (Af c.1) false]⟩) ?_ ?_
   ·intro ct bR;refine Sb <|Ck fun bS =>Lt fun m bT =>Lt fun q bU =>Lt fun s bV =>Lt fun t bW =>Lt fun u bX =>Lt fun w bY =>Te (O':=[_,_,_,.box (.str m::.sl false (L Ae q)::i64 s::i64 t::(C1 i64 u.l++[.sl false (L cApi_Expr w)])) false]) [12,14,21,24,209,210,211] Ac (Ev (by simp only[go_sem,qR bS,bT,bU,bV,bW,bX,bY];exact CL)) ?_
    refine T0 [12,14,21,24,25,209,210,211] ?_;refine Ja (fun⟨aK,aL,aM⟩=>⟨Al 242 [(12,.ref 0 0),(14,.ref 1 0),(21,.ref 2 0),(24,.ref 3 0),(25,.ref 4 0),(209,.sl false (L Ab a.1.Zf)),(210,i64 (a.1.Zf.length:Int)),(211,i64 g)],[.box (Af b.1) false,.box (Af a.1) false,.box (Af c.1) false,.box (.str m::.sl false (L Ae q)::i64 s::i64 t::(C1 i64 u.l++[.sl false (L cApi_Expr w)])) false,.box [.str aK,i64 aL,.sl false (L Ab aM)] false]⟩) ?_ ?_
    ·intro cu;refine T0 [12,14,21,24,25,209,210,211,217,218,219] ?_;refine Sb ?_;refine Lo (fun⟨ab,ac,ad,ae⟩=>⟨Al 242 [(12,.ref 0 0),(14,.ref 1 0),(21,.ref 2 0),(24,.ref 3 0),(25,.ref 4 0),(209,.sl false (L Ab a.1.Zf)),(210,i64 (a.1.Zf.length:Int)),(211,i64 g),(217,.sl false (L Ab c.1.Zf)),(218,i64 (c.1.Zf.length:Int)),(219,i64 ab)],[.box (Af b.1) false,.box (Af a.1) false,.box (Af c.1) false,.box (.str m::.sl false (L Ae q)::i64 s::i64 t::(C1 i64 u.l++[.sl false (L cApi_Expr w)])) false,.box [.str ac,i64 ad,.sl false (L Ab ae)] false]⟩) (ws [0,1,2,3,4]) ?_;rintro⟨ab,ac,ad,ae⟩ cv bZ b0 b1;show CW c m ab ac ad ae=some bZ->_;unfold CW;refine T0 [12,14,21,24,25,209,210,211,217,218,219,220] ?_;refine Sq <|Cd ?_ ?_
     ·refine Sk <|Tn <|?_
      refine Ja (fun⟨aN,aO,aP⟩=>⟨Al 242 [(12,.ref 0 0),(14,.ref 1 0),(21,.ref 2 0),(24,.ref 3 0),(25,.ref 4 0),(209,.sl false (L Ab a.1.Zf)),(210,i64 (a.1.Zf.length:Int)),(211,i64 g),(217,.sl false (L Ab c.1.Zf)),(218,i64 (c.1.Zf.length:Int)),(219,i64 ab)],[.box (Af b.1) false,.box (Af a.1) false,.box (Af c.1) false,.box (.str m::.sl false (L Ae q)::i64 s::i64 t::(C1 i64 u.l++[.sl false (L cApi_Expr w)])) false,.box [.str aN,i64 aO,.sl false (L Ab aP)] false]⟩) ?_ ?_
      ·intro cw;refine Sb <|Ck fun b2 =>Lt fun b3 b4 =>Lt fun b5 b6 =>Lt fun b7 b8 =>Lt fun b9 ca =>Lt fun cb cc =>Lt fun cd ce =>Te (O':=[_,_,_,_,_,.box (.str b3::.sl false (L Ae b5)::i64 b7::i64 b9::(C1 i64 cb.l++[.sl false (L cApi_Expr cd)])) false]) [12,14,21,24,25,27,209,210,211,217,218,219] Ac (Ev (by simp only[go_sem,qR b2,b4,b6,b8,ca,cc,ce];exact CL)) ?_
       refine T0 [12,14,21,24,25,209,210,211,217,218,219,227] ?_;refine Cd ?_ ?_
       ·refine F0 [12,14,21,24,25,209,210,211,217,218,219] ?_;exact Bn <|Jm (ws [0,1,2,3,4])
       exact Sk <|Bn <|Jm (ws [0,1,2,3,4])
      rintro⟨aN,aO,aP⟩;refine F0 [12,14,21,24,25,209,210,211,217,218,219] ?_;exact Ln (ws [0,1,2,3,4])
     refine Sx <|Tx <|Ly b1 b0 <|Bx <|?_
     exact Jm ((ws (l':=[(12,.ref 0 0),(14,.ref 1 0),(21,.ref 2 0),(24,.ref 3 0),(25,.ref 4 0),(209,.sl false (L Ab a.1.Zf)),(210,i64 (a.1.Zf.length:Int)),(211,i64 g)]) (O':=[.box (Af b.1) false,.box (Af a.1) false,.box (Af c.1) false,.box (.str m::.sl false (L Ae q)::i64 s::i64 t::(C1 i64 u.l++[.sl false (L cApi_Expr w)])) false,.box [.str ac,i64 ad,.sl false (L Ab ae)] false]) [0,1,2,3,4]).trans (ws [0,1,2,3,4]))
    rintro⟨aK,aL,aM⟩;refine Bd fun cx cf =>Te [12,14,21,209,210,211,233] (o1 232 (MO cf)) Ev ?_
    refine Cd ?_ ?_
    ·refine T0 [10] ?_;exact Sr <|Br <|Jr bR <|Lr aJ aI <|Br <|Jr bP <|Rr
    exact Sk <|Bn <|Jn (ws [0,1,2])
   intro _;refine F0 [12,14,21,209,210,211] ?_;exact Ln (ws [0,1,2])
  refine Sx <|Tx <|Lx aJ aI <|Bx <|?_
  exact Jn ((ws (l':=[(12,.ref 0 0),(14,.ref 1 0)]) (O':=[.box (Af b.1) false,.box (Af a.1) false]) [0,1]).trans (ws [0,1]))
 intro _;refine Lt fun cg ch =>Te (fr':=[(10,.bool cg)]) [10] Ac (Ew1 ch) ?_
 exact Sr <|Rr
set_option maxRecDepth 8000
theorem Bt{α β:Type}(x:α)(f:α->Option β):lt1 x f=f x:=ArN (eq_self (f x))
theorem Bv{k:Nat}(h:k<9223372036854775807):w64 ((k:Int)+1)=((k+1:Nat):Int):=by rw[Hq (by omega)];rfl
theorem Ai{α β:Type}(x:α)(f:α->Option β):(some x).bind f=f x:=ArN (eq_self (f x))
theorem Mx{V X S:Type}(n:Nat)(f:V->Option (V⊕X))(st:Int->S->V)(F:Nat->S)(out:S->X)(hn:n<1152921504606846976) (hs:∀k:Nat,k<n->f (st (k:Int) (F k))=some (.inl (st ((k+1:Nat):Int) (F (k+1))))) (he:f (st (n:Int) (F n))=some (.inr (out (F n)))) :Be f (st 0 (F 0))=some (out (F n)):=by
 obtain⟨x,hx,hq⟩:∃x,Be f (st 0 (F 0))=some x/\x=out (F n):=by
  refine Aal n (fun k v=>v=st (k:Int) (F k)) _ (by omega) ?_ ?_ rfl
  ·rintro k v hk rfl;exact⟨_,hs k hk,rfl⟩
  rintro v rfl;exact⟨_,he,rfl⟩
 rw[hx,hq]
def TP{α:Type}(o:Option α)(P:α->Prop):Prop:=∃a,o=some a/\P a
abbrev Yz{α:Type}(o:Option α):Prop:=TP o fun _=>True
section
variable {α β:Type}{P:α->Prop}{Q:β->Prop}
theorem Aj{a:α}(h:P a):TP (some a) P:=⟨a,rfl,h⟩
theorem AD{o:Option β}{f:β->Option α}(h:TP o Q)(k:∀b,Q b->TP (f b) P):TP (o.bind f) P:=by
 obtain⟨b,rfl,hb⟩:=h;exact k b hb
theorem AhV{o:Option β}{f:β->Option α}(h:Yz o)(k:∀b,TP (f b) P):TP (o.bind f) P:=AD h fun b _=>k b
theorem AB{c:Prop}[Decidable c]{x y:Option α}(h:c->TP x P)(k:¬c->TP y P):TP (if c then x else y) P:=by
 by_cases hc:c
 ·rw[Ao4 hc];exact h hc
 rw[Ao6 hc];exact k hc
theorem D1{c:Prop}[Decidable c]{x:Option α}(h:c)(k:TP x P):TP (if c then x else none) P:=by rw[Ao4 h];exact k
theorem A9{x:β}{f:β->Option α}(h:TP (f x) P):TP (lt1 x f) P:=by rw[Bt];exact h
theorem Ami{P':α->Prop}{o:Option α}(h:TP o P)(k:∀a,P a->P' a):TP o P':=by
 obtain⟨a,e,hp⟩:=h;exact⟨a,e,k a hp⟩
end
theorem AY{V X:Type}(I:V->Prop)(μ:V->Nat){Q:X->Prop}{f:V->Option (V⊕X)}{v0:V}(h:∀v,I v->TP (f v) fun y=>match y with|.inl v'=>I v'/\μ v'<μ v|.inr x=>Q x)(h0:I v0)(hm:μ v0<18446744073709551616):TP (Be f v0) Q:=by
 refine K5 I μ Q (fun v hv=>?_) h0 hm;obtain⟨y,e,hy⟩:=h v hv;cases y with
 |inl v'=>exact .inl ⟨v',e,hy.1,hy.2⟩
 |inr x=>exact .inr ⟨x,e,hy⟩
theorem AgL{k:Nat}(h:k<9223372036854775807):w64 (k:Int)=(k:Int):=Hq (by omega)
theorem Au{k n:Nat}(h:k<n):InR (k:Int) n:=by unfold InR;omega
theorem Py{k n:Nat}(h:k<=n):InB (k:Int) n:=by unfold InB;omega
theorem TK{α β:Type}{o:Option α}{a:α}{f:α->Option β}(h:o=some a):o.bind f=f a:=by rw[h];rfl
theorem BB{α:Type}[Inhabited α]{l:List α}{k:Nat}(h:k<l.length):nth l k=l[k]:=by simp[nth,h]
theorem AP{α:Type}[Inhabited α]{l:List α}{k:Nat}(h:k<l.length):nth l k∈l:=by rw[BB h];exact Aqi h
theorem Ht(x:AoM):AoM.mk x.Op x.N x.Unit x.L=x:=by cases x;rfl
theorem Fa(c:AoN):({ Zd:=c.Zd,Ze:=c.Ze,Pay:=AoM.mk c.Pay.Op c.Pay.N c.Pay.Unit c.Pay.L }:AoN)=c:=by rw[Ht]
def w_attributes:List (List UInt8):=[[116,121,112,101],[111,119,110,101,114],[114,97,105,108,119,97,121],[115,104,105,112,112,101,114],[99,108,97,115,115],[119,101,105,103,104,116],[107,109],[109,105,110,117,116,101,115],[119,111,114,107,105,110,103],[99,111,100,101],[119,111,114,116,104],[99,111,115,116],[109,111,110,116,104],[98,101,103,105,110],[112,97,114,116,115],[112,97,114,116]]
theorem HY:Bi ([116,121,112,101,32,111,119,110,101,114,32,114,97,105,108,119,97,121,32,115,104,105,112,112,101,114,32,99,108,97,115,115,32,119,101,105,103,104,116,32,107,109,32,109,105,110,117,116,101,115,32,119,111,114,107,105,110,103,32,99,111,100,101,32,119,111,114,116,104,32,99,111,115,116,32,109,111,110,116,104,32,98,101,103,105,110,32,112,97,114,116,115,32,112,97,114,116]:List UInt8)=some w_attributes:=by decide +kernel
def w_kinds:List (List UInt8):=[[104,105,114,101],[100,101,109,117,114,114,97,103,101],[102,114,101,105,103,104,116],[114,101,112,97,105,114],[108,111,115,115],[99,108,101,97,110,105,110,103]]
theorem AaO:Bi ([104,105,114,101,32,100,101,109,117,114,114,97,103,101,32,102,114,101,105,103,104,116,32,114,101,112,97,105,114,32,108,111,115,115,32,99,108,101,97,110,105,110,103]:List UInt8)=some w_kinds:=by decide +kernel
def w_units:List (List UInt8):=[[109,111,110,101,121],[109,105,110,117,116,101],[107,109],[107,103]]
theorem Wo:Bi ([109,111,110,101,121,32,109,105,110,117,116,101,32,107,109,32,107,103]:List UInt8)=some w_units:=by decide +kernel
def w_calls:List (List UInt8):=[[109,105,110],[109,97,120],[100,111,119,110],[117,112],[104,97,108,102]]
theorem Aak:Bi ([109,105,110,32,109,97,120,32,100,111,119,110,32,117,112,32,104,97,108,102]:List UInt8)=some w_calls:=by decide +kernel
abbrev Ps:=AoP
abbrev Aeh:=Int×Int×Ps
def Ai8(p:Ps):Int:=match p.l with
 |[]=>p.end_
 |t::_=>t.At
def O6(p:Ps)(s:List UInt8):Bool×Ps:=match p.l with
 |[]=>(false,p)
 |t::r=>if t.Za≠2/\t.Zb=s then(true,⟨r,p.end_⟩)else(false,p)
def PO(p:Ps):Aeh:=(Ai8 p,160,p)
def US(p:Ps)(s:List UInt8):Ps⊕Aeh:=if(O6 p s).1=true then .inl (O6 p s).2 else .inr (PO p)
def Ae6(p:Ps):(Int×Ps)⊕Aeh:=match p.l with
 |[]=>.inr (PO p)
 |t::r=>if t.Za=2 then .inl (t.N,⟨r,p.end_⟩)else .inr (PO p)
def Af4(s:List UInt8):Bool:=Jd false tab1 s
def YY(p:Ps):(List UInt8×Ps)⊕Aeh:=match p.l with
 |[]=>.inr (PO p)
 |t::r=>if t.Za=1 then(if Af4 t.Zb=true then .inr (t.At,161,p)else .inl (t.Zb,⟨r,p.end_⟩))else .inr (PO p)
def chS(p:Ps)(ws:List (List UInt8)):Option (Nat×Ps):=match p.l with
 |[]=>none
 |t::r=>if t.Za=1/\ws.findIdx (t.Zb==·)<ws.length then some (ws.findIdx (t.Zb==·),⟨r,p.end_⟩)else none
def U3(p:Ps)(ws:List (List UInt8)):(Int×Ps)⊕Aeh:=match chS p ws with
 |some (i,q)=>.inl ((i:Int),q)
 |none=>.inr (PO p)
theorem MH(p:Ps):Bk p=some (Ai8 p,p):=by
 obtain⟨l,e⟩:=p;cases l with
 |nil=>rfl
 |cons t r=>
  unfold Bk;rw[Ao4 (by simp),Ao4 (show InR 0 _ from⟨by decide,by simp⟩)];rfl
theorem Mw(p:Ps):Bs p=some (.inr (PO p)):=by
 unfold Bs;rw[MH];rfl
theorem Rf{t:AoI}{r:List AoI}:(((t::r).drop 1).take ((t::r).length-1))=r:=by
 simp
def UI(p:Ps)(k:Int):AoI×Bool×Ps:=match p.l with
 |[]=>({ Za:=0,Zb:=[],N:=0,At:=0 },false,p)
 |t::r=>if t.Za=k then(t,true,p)else({ Za:=0,Zb:=[],N:=0,At:=0 },false,p)
theorem AgO{p:Ps}{k:Int}:(UI p k).2.2=p:=by
 unfold UI;split
 ·rfl
 split<;>rfl
theorem R5(p:Ps)(k:Int):BI p k=some (UI p k):=by
 unfold UI;obtain⟨l,e⟩:=p;cases l with
 |nil=>rfl
 | cons t r=>
  unfold BI;have hi:InR 0 (t::r).length:=⟨by decide,by simp⟩;rw[Ao6 (by simp;omega)];simp only[Ao4 hi,Ai];show(if(t.Za != k)then _ else _)=_;by_cases h:t.Za=k
  ·rw[Ao6 (by simp[h])];simp only[h,ApL];rfl
  rw[Ao4 (by simp[h])];simp only[h,ApY]
theorem ER(p:Ps)(s:List UInt8):Av p s=some (O6 p s):=by
 obtain⟨l,e⟩:=p;cases l with
 |nil=>rfl
 | cons t r=>
  unfold Av O6;have hi:InR 0 (t::r).length:=⟨by decide,by simp⟩;have hb:InB 1 (t::r).length:=⟨by decide,by simp⟩;rw[Ao6 (by simp;omega)];simp only[Ao4 hi,Ao4 hb,Rf,Bt];show((if(t.Za==2)then some true else some (!(t.Zb==s))).bind _)=_;by_cases h:t.Za=2
  ·rw[Ao4 (by simp[h])];simp[h]
  rw[Ao6 (by simp[h])];simp only[Ai];by_cases h2:t.Zb=s
  ·simp[h,h2]
  simp[h,h2]
theorem EV(p:Ps)(s:List UInt8):Ax p s=some (US p s):=by
 unfold Ax US;rw[ER];simp only[Ai];by_cases h:(O6 p s).1=true
 ·rw[Ao6 (by simp[h]),Ao4 h]
 rw[Ao4 (by simp[h]),Ao6 h]
 have:(O6 p s).2=p:=by
  unfold O6 at h ⊢;split<;>rename_i hl
  ·rfl
  rw[hl]at h;simp only at h;split at h
  ·exact(h rfl).elim
  rename_i hc;rw[Ao6 hc]
 rw[this,Mw];rfl
theorem KH(p:Ps):Bl p=some (Ae6 p):=by
 unfold Bl Ae6;rw[R5];unfold UI;obtain⟨l,e⟩:=p;cases l with
 |nil=>rfl
 |cons t r=>
  have hb:InB 1 (t::r).length:=⟨by decide,by simp⟩;simp only[Ai];by_cases h:t.Za=2
  ·simp only[h,ApL,AqV,Apu,ApY,Ai,Ao4 hb,Rf,Bt]
  simp only[h,ApY,Ark,ApL,Mw,Ai]
theorem L6(s:List UInt8):El s=some (Af4 s):=by
 unfold El;rfl
theorem Aa9(p:Ps):CN p=some (YY p):=by
 unfold CN YY;rw[R5];unfold UI;obtain⟨l,e⟩:=p;cases l with
 |nil=>rfl
 | cons t r=>
  have hb:InB 1 (t::r).length:=⟨by decide,by simp⟩;simp only[Ai];by_cases h:t.Za=1
  ·simp only[h,ApL,AqV,Apu,ApY,Ai,Ao4 hb,Rf,Bt,L6];split<;>rfl
  simp only[h,ApY,Ark,ApL,Mw,Ai]
theorem Sw(s:List (List UInt8))(v:List UInt8)(hl:s.length<1000000):D6 s v=some (if s.findIdx (v==·)<s.length then((s.findIdx (v==·):Nat):Int)else -1):=by
 have key:TP (D6 s v) fun r=>r=if s.findIdx (v==·)<s.length then((s.findIdx (v==·):Nat):Int)else -1:=by
  unfold D6
  refine AD (Q:=fun z=>match z with
   |.inl ()=>s.findIdx (v==·)=s.length
   |.inr r=>s.findIdx (v==·)<s.length/\r=((s.findIdx (v==·):Nat):Int)) ?_ fun z hz=>?_
  ·refine AD (Q:=fun z=>match z with
    |.inl ()=>s.findIdx (v==·)=s.length
    |.inr (.inr r)=>s.findIdx (v==·)<s.length/\r=((s.findIdx (v==·):Nat):Int)
    |_=>False) ?_ fun z hz=>?_
   ·refine AY (fun i=>∃k:Nat,i=(k:Int)/\k<=s.length/\∀j,j<k->(v==nth s j)=false) (fun i=>((s.length:Int)-i).toNat) ?_ ⟨0,rfl,Apx _,fun j h=>by omega⟩ (by simp;omega);rintro _ ⟨k,rfl,hk,hj⟩;unfold Ep;refine AB (fun h=>?_) fun h=>Aj ?_
    ·have hk':k<s.length:=by simpa using h
     refine D1 (Au hk') ?_;simp only[Apc];refine AB (fun hv=>?_) fun hv=>Aj ⟨⟨k+1,Bv (by omega),hk',fun j h1=>?_⟩,by rw[Bv (by omega)];omega⟩
     ·have he:s.findIdx (v==·)=k:=by
       rw[List.findIdx_eq hk'];refine⟨by rw[<-BB hk'];exact hv,fun j hjk=>?_⟩;rw[<-BB (by omega)];exact hj j hjk
      refine Aj ⟨by rw[he];exact hk',by rw[he]⟩
     by_cases e:j<k
     ·exact hj j e
     have:j=k:=by omega
     subst this;exact Apy hv
    have:k=s.length:=by simp at h;omega
    subst this;rw[List.findIdx_eq_length];intro x hx;obtain⟨j,hj',rfl⟩:=ApW hx;rw[<-BB hj'];exact hj j hj'
   match z,hz with
   |.inl (),hz=>exact Aj hz
   |.inr (.inr r),hz=>exact Aj hz
  match z,hz with
  |.inl (),hz=>exact Aj (by rw[Ao6 (by omega)])
  |.inr r,hz=>exact Aj (by rw[Ao4 hz.1];exact hz.2)
 obtain⟨r,e,h⟩:=key;rw[e,h]
theorem O5(p:Ps){words:List UInt8}{ws:List (List UInt8)}(hf:Bi words=some ws)(hl:ws.length<1000000):BF p words=some (match chS p ws with
  |some (i,q)=>((i:Int),true,q)
  |none=>(0,false,p)):=by
 unfold BF chS;rw[R5,hf];unfold UI;obtain⟨l,e⟩:=p;cases l with
 |nil=>
  simp only[Ai,Sw _ _ hl];rfl
 | cons t r=>
  have hb:InB 1 (t::r).length:=⟨by decide,by simp⟩;simp only[Ai];by_cases h:t.Za=1
  ·simp only[h,ApL,Sw _ _ hl,Ai,AqV,Apu,ApY,true_and];by_cases h2:ws.findIdx (t.Zb==·)<ws.length
   ·rw[Ao4 h2,Ao4 h2,Ao6 (by simp),Ao4 hb,Bt,Rf]
   rw[Ao6 h2,Ao6 h2,Ao4 (by decide)]
  simp only[h,ApY,false_and,Sw _ _ hl,Ai,Ark,ApL]
theorem S9(p:Ps){words:List UInt8}{ws:List (List UInt8)}(hf:Bi words=some ws)(hl:ws.length<1000000):BG p words=some (U3 p ws):=by
 unfold BG U3;rw[O5 p hf hl];simp only[Ai];cases h:chS p ws with
 |none=>simp only[Ark,ApL,Mw,Ai]
 |some q=>simp only[AqV,Apu,ApY,Ai]
variable{p q:Ps}{s:List UInt8}{x:AoM}{d:Nat}
theorem Lj(h:(O6 p s).1=true):(O6 p s).2.l.length+1=p.l.length:=by
 unfold O6 at h ⊢;split<;>rename_i hl
 ·rw[hl]at h;cases h
 rw[hl]at h ⊢;simp only at h;split at h<;>rename_i hc
 ·rw[Ao4 hc];simp
 cases h
theorem NB(h:¬(O6 p s).1=true):(O6 p s).2=p:=by
 unfold O6 at h ⊢;split<;>rename_i hl
 ·rfl
 rw[hl]at h;simp only at h;split at h<;>rename_i hc
 ·exact(h rfl).elim
 rw[Ao6 hc]
theorem P7:(O6 p s).2.l.length<=p.l.length:=by
 by_cases h:(O6 p s).1=true
 ·have:=Lj h;omega
 rw[NB h];exact Apf _
theorem GN(h:US p s=.inl q):q.l.length+1=p.l.length:=by
 unfold US at h;split at h
 ·rename_i hc;cases h;exact Lj hc
 cases h
theorem Ow{n:Int}(h:Ae6 p=.inl (n,q)):q.l.length+1=p.l.length:=by
 unfold Ae6 at h;split at h
 ·cases h
 rename_i hl;split at h
 ·cases h;rw[hl];simp
 cases h
theorem SV{n:List UInt8}(h:YY p=.inl (n,q)):q.l.length+1=p.l.length:=by
 unfold YY at h;split at h
 ·cases h
 rename_i hl;split at h
 ·split at h
  ·cases h
  cases h;rw[hl];simp
 cases h
theorem We{ws:List (List UInt8)}{i:Nat}(h:chS p ws=some (i,q)):q.l.length+1=p.l.length/\i<ws.length:=by
 unfold chS at h;split at h
 ·cases h
 rename_i hl;split at h
 ·rename_i hc;cases h;exact⟨by rw[hl];simp,hc.2⟩
 cases h
theorem My{ws:List (List UInt8)}{i:Int}(h:U3 p ws=.inl (i,q)):q.l.length+1=p.l.length/\0<=i/\i<(ws.length:Int):=by
 unfold U3 at h;split at h
 ·rename_i hc;cases h;have:=We hc;exact⟨this.1,by omega,by omega⟩
 cases h
abbrev AmJ{α:Type}(p:Ps)(r:(α×Ps)⊕Aeh):Prop:=∀x q,r=.inl (x,q)->q.l.length<=p.l.length
theorem Abn(p:Ps):TP (DB p) (AmJ p):=by
 unfold DB;refine AD (Q:=fun z=>z.1.length<=p.l.length) ?_ ?_
 ·rw[O5 p Wo (by decide)];simp only[Ai];cases h:chS p w_units with
  |none=>
   simp only[Apu,ApY];exact Aj (Apf _)
  |some q=>
   obtain⟨i,q⟩:=q;obtain⟨h1,h2⟩:=We h;simp only[ApL];have h4:i<4:=h2;exact D1 (Au h4) (D1 (Au h4) (A9 (Aj (by simp only;omega))))
 rintro⟨l,e,d⟩ hl;simp only at hl ⊢
 refine AD (Q:=fun z=>match z with
  |.inl z=>z.1.length<=p.l.length
  |.inr (.inl _)=>False
  |.inr (.inr _)=>True) ?_ fun z hz=>?_
 ·rw[ER];simp only[Ai];have ha:=P7 (p:=⟨l,e⟩) (s:=[112,101,114]);refine AB (fun h=>?_) fun h=>Aj ?_
  ·rw[S9 _ Wo (by decide)];simp only[Ai];cases hm:U3 (O6 ⟨l,e⟩ [112,101,114]).2 w_units with
   |inr e=>exact Aj trivial
   |inl q=>
    obtain⟨i,q⟩:=q;obtain⟨h1,h2,h3⟩:=My hm;have h4:i<4:=h3;refine D1 ⟨h2,by omega⟩ (D1 ⟨h2,by omega⟩ (A9 (Aj ?_)));have h1':q.l.length+1=_:=h1;show q.l.length<=_;have ha':(O6 ⟨l,e⟩ [112,101,114]).2.l.length<=l.length:=ha;omega
  have ha':(O6 ⟨l,e⟩ [112,101,114]).2.l.length<=l.length:=ha;show(O6 ⟨l,e⟩ [112,101,114]).2.l.length<=_;omega
 match z,hz with
 |.inl (l2,e2,d2),hz=>
  refine Aj fun x q hh=>?_
  cases hh;exact hz
 |.inr (.inr z),hz=>exact Aj fun x q hh=>by cases hh
def Dp:Nat->AoM->Prop
 |0,_=>False
 |d+1,x=>x.L.length<=4/\∀y∈x.L,Dp d y
theorem Dp.mono:∀{d e:Nat} {x:AoM},Dp d x->d<=e->Dp e x
 |0,_,_,h,_=>h.elim
 |d+1,0,_,_,h=>by omega
 |d+1,e+1,x,h,hh=>⟨h.1,fun y hy=>(h.2 y hy).mono (by omega)⟩
theorem AfW(h:x.L=[])(hd:0<d):Dp d x:=by
 obtain⟨d,rfl⟩:∃e,d=e+1:=⟨d-1,by omega⟩;exact⟨by rw[h];simp,by rw[h];simp⟩
def nod:Nat->AoM->Nat
 |0,_=>0
 |d+1,x=>1+(x.L.map (nod d)).sum
theorem JT{α:Type}{f g:α->Nat}:∀{l:List α},(∀x∈l,f x=g x)->(l.map f).sum=(l.map g).sum
 |[],_=>rfl
 |x::l,h=>by
  rw[ApE,ApE,AqC,AqC,h x Apn,JT fun y hy=>h y (ApI _ hy)]
theorem KN:∀{d e:Nat} {x:AoM},Dp d x->d<=e->nod e x=nod d x
 |0,_,_,h,_=>h.elim
 |d+1,0,_,_,h=>by omega
 |d+1,e+1,x,h,hh=>by
  show 1+_=1+_;rw[JT fun y hy=>KN (h.2 y hy) (by omega)]
def Ez(m:Nat)(x:AoM):Prop:=Dp m x/\nod m x<=m
def EzL(m:Nat)(l:List AoM):Prop:=(∀x∈l,Dp m x)/\(l.map (nod m)).sum<=m
theorem Ez.mono{m n:Nat}{x:AoM}(h:Ez m x)(k:m<=n):Ez n x:=⟨h.1.mono k,by rw[KN h.1 k];exact Aqs h.2 k⟩
theorem EzL.mono{m n:Nat}{l:List AoM}(h:EzL m l)(k:m<=n):EzL n l:=⟨fun x hx=>(h.1 x hx).mono k,(JT fun x hx=>KN (h.1 x hx) k:(l.map (nod n)).sum=(l.map (nod m)).sum) ▸ Aqs h.2 k⟩
theorem EzL.nil{m:Nat}:EzL m []:=⟨fun x hx=>(by cases hx),Apx _⟩
theorem EzL.snoc{m k n:Nat}{l:List AoM}{x:AoM}(h:EzL m l)(hx:Ez k x)(hn:m+k<=n):EzL n (l++[x]):=by
 refine⟨fun y hy=>?_,?_⟩
 ·rcases Apl.1 hy with hy|hy
  ·exact(h.1 y hy).mono (by omega)
  simp only[ApJ]at hy;subst hy;exact hx.1.mono (by omega)
 have h1:=h.2;have h2:=hx.2;have e:(l.map (nod n)).sum=(l.map (nod m)).sum:=JT fun y hy=>KN (h.1 y hy) (by omega)
 rw[AqN,Ar2,e];simp only[ApE,Aqk,AqC,List.sum_nil,Aqw];rw[KN hx.1 (show k<=n by omega)];omega
theorem Ab8(h:x.L=[])(hd:0<d):Ez d x:=by
 refine⟨AfW h hd,?_⟩;obtain⟨d,rfl⟩:∃e,d=e+1:=⟨d-1,by omega⟩;show 1+_<=_;rw[h];simp
theorem AaC{m n:Nat}(h4:x.L.length<=4)(h:EzL m x.L)(hn:m+1<=n):Ez n x:=by
 obtain⟨n,rfl⟩:∃e,n=e+1:=⟨n-1,by omega⟩;have h':=h.mono (show m<=n by omega);refine⟨⟨h4,h'.1⟩,?_⟩;show 1+_<=_;have e:(x.L.map (nod n)).sum=(x.L.map (nod m)).sum:=JT fun y hy=>KN (h.1 y hy) (by omega)
 rw[e];have:=h.2;omega
theorem Kq:∀(d:Nat) (x:AoM) (n:Nat),Dp d x->d<=n->d<1000000->TP (Ey n x) fun k=>0<=k/\k<=(d:Int)
 |0,x,n,h,_,_=>h.elim
 |d+1,x,0,_,h,_=>by omega
 | d+1,x,n+1,h,hn,hd=>by
  show TP (E1 (Ey n) x) _;unfold E1;refine AD (Q:=fun k=>0<=k/\k<=(d:Int)) (AD (Q:=fun k=>0<=k/\k<=(d:Int)) ?_ fun k hk=>Aj hk) fun k hk=>Aj ?_
  ·refine AY (fun v=>(0<=v.1/\v.1<=(d:Int))/\∃k:Nat,v.2=(k:Int)/\k<=x.L.length) (fun v=>((x.L.length:Int)-v.2).toNat) ?_ ⟨⟨by decide,by simp⟩,0,rfl,Apx _⟩ (by have:=h.1;simp;omega);rintro⟨m,_⟩ ⟨hm,k,rfl,hk⟩;simp only at hm ⊢;have h4:=h.1;unfold EX;refine AB (fun hh=>?_) fun hh=>Aj hm
   have hk':k<x.L.length:=by simpa using hh
   simp only[Ao4 (Au hk'),Bt,Apc,Ht];refine AD (Kq d _ n (h.2 _ (AP hk')) (by omega) (by omega)) fun r hr=>Aj ⟨⟨?_,k+1,Bv (by omega),hk'⟩,by simp only;rw[Bv (by omega)];omega⟩
   simp only;unfold Qe;split<;>omega
  rw[Hq (by omega)];omega
abbrev Y2(p:Ps)(r:(AoM×Ps)⊕Aeh):Prop:=∀x q,r=.inl (x,q)->q.l.length<p.l.length/\Ez (p.l.length-q.l.length) x
def SY(n:Nat)(rec_:Ps->Option ((AoM×Ps)⊕Aeh)):Prop:=∀p:Ps,p.l.length<n->TP (rec_ p) (Y2 p)
section
variable {rec_:Ps->Option ((AoM×Ps)⊕Aeh)}{n:Nat}
theorem LR(hr:SY n rec_)(hn:n<1000000)(p:Ps)(hp:p.l.length<=n)(op:Int)(signs:List (List UInt8))(hs:signs.length<=4) :TP (BM rec_ p op signs) fun r=>∀x q ss,r=.inl (x,q,ss)->q.l.length<p.l.length/\Ez (p.l.length-q.l.length) x:=by
 unfold BM;rw[EV];simp only[Ai];cases he:US p [40]with
 |inr e=>exact Aj fun x q ss h=>by cases h
 | inl q0=>
  have hq0:=GN he
  refine AD (Q:=fun z=>match z with
   |.inl z=>z.1.length<=q0.l.length/\z.2.2.length<=4/\EzL (q0.l.length-z.1.length) z.2.2
   |.inr (.inl _)=>False
   |.inr (.inr _)=>True) ?_ fun z hz=>?_
  ·refine AD (Q:=fun z=>match z with
    |.inl z=>z.1.length<=q0.l.length/\z.2.2.length<=4/\EzL (q0.l.length-z.1.length) z.2.2
    |.inr (.inr (.inr _))=>True
    |_=>False) ?_ fun z hz=>?_
   ·refine AY (fun v=>∃k:Nat,v.1=(k:Int)/\k<=signs.length/\v.2.1.length<=q0.l.length/\v.2.2.2.length=k/\EzL (q0.l.length-v.2.1.length) v.2.2.2) (fun v=>((signs.length:Int)-v.1).toNat) ?_ ⟨0,rfl,Apx _,Apf _,rfl,EzL.nil⟩ (by simp;omega);rintro⟨_,l,e,xs⟩ ⟨k,rfl,hk,hl,hx,hd⟩;simp only at hl hx hd ⊢;unfold CA;refine AB (fun hh=>?_) fun hh=>Aj ⟨hl,by simp only;omega,hd⟩
    have hk':k<signs.length:=by simpa using hh
    simp only[Ao4 (Au hk'),Bt,Apc];refine AD (hr ⟨l,e⟩ (by show l.length<n;omega)) fun y hy=>?_
    cases y with
    |inr e=>exact Aj trivial
    | inl y=>
     obtain⟨y,q⟩:=y;obtain⟨y1,y2⟩:=hy y q rfl;have y1':q.l.length<l.length:=y1;have y2':Ez (l.length-q.l.length) y:=y2;refine D1 ⟨by unfold maxLen;omega,by unfold Hu;omega⟩ ?_;rw[EV];simp only[Ai];cases he2:US q (nth signs k)with
     |inr e=>exact Aj trivial
     |inl q2=>
      have hq2:=GN he2;refine Aj ⟨⟨k+1,Bv (by omega),hk',by simp only;omega,by simp[hx],hd.snoc y2' (by simp only;omega)⟩,by simp only;rw[Bv (by omega)];omega⟩
   match z,hz with
   |.inl z,hz=>exact Aj hz
   |.inr (.inr (.inr z)),hz=>exact Aj hz
  match z,hz with
  |.inl (l,e,xs),hz=>
   refine Aj fun x q ss h=>?_
   cases h;obtain⟨h1,h2,h3⟩:=hz;simp only at h1 h2 h3;exact⟨by simp only;omega,AaC h2 h3 (by simp only;omega)⟩
  |.inr (.inr z),hz=>exact Aj fun x q ss h=>by cases h
theorem Pw(hr:SY n rec_)(hn:n<1000000)(p:Ps)(hp:p.l.length<=n):TP (Cv rec_ p) (Y2 p):=by
 unfold Cv;rw[R5];simp only[Ai];rw[AgO];refine AB (fun _=>?_) fun _=>?_
 ·rw[KH];simp only[Ai];cases hi:Ae6 p with
  |inr e=>exact Aj fun x q h=>by cases h
  | inl q=>
   obtain⟨m,q⟩:=q;have hq:=Ow hi;simp only;refine AD (Abn q) fun r hu=>?_
   cases r with
   |inr e=>exact Aj fun x q h=>by cases h
   |inl r=>
    obtain⟨d,q2⟩:=r;refine Aj fun x q' h=>?_
    cases h;have:=hu d q2 rfl;exact⟨by simp only;omega,Ab8 rfl (by simp only;omega)⟩
 rw [ER];simp only[Ai];refine AB (fun h=>?_) fun h=>?_
 ·have hq:=Lj h;refine AD (hr _ (by omega)) fun y hy=>?_
  cases y with
  |inr e=>exact Aj fun x q h=>by cases h
  | inl y=>
   obtain⟨y,q⟩:=y;obtain⟨y1,y2⟩:=hy y q rfl;simp only[EV,Ai];cases he:US q [41]with
   |inr e=>exact Aj fun x q h=>by cases h
   |inl q2=>
    have h2:=GN he;refine Aj fun x q' h=>?_
    cases h;exact⟨by omega,y2.mono (by omega)⟩
 rw [NB h,ER];simp only[Ai];refine AB (fun h=>?_) fun h=>?_
 ·have hq:=Lj h;refine AD (LR hr hn _ (by omega) _ _ (by decide)) fun r hh=>?_
  cases r with
  |inr e=>exact Aj fun x q h=>by cases h
  |inl r=>
   obtain⟨x,q,ss⟩:=r;obtain⟨h1,h2⟩:=hh x q ss rfl;refine Aj fun x q' h=>?_
   cases h;exact⟨by simp only;omega,h2.mono (by simp only;omega)⟩
 rw[NB h,O5 p Aak (by decide)];simp only[Ai];cases hc:chS p w_calls with
 | some q=>
  obtain⟨i,q⟩:=q;obtain⟨h1,h2⟩:=We hc;simp only[ApL];refine AD (LR hr hn q (by omega) _ _ (by decide)) fun r hh=>?_
  cases r with
  |inr e=>exact Aj fun x q h=>by cases h
  |inl r=>
   obtain⟨x,q2,ss⟩:=r;obtain⟨h3,h4⟩:=hh x q2 ss rfl;refine Aj fun x q' h=>?_
   cases h;exact⟨by simp only;omega,h4.mono (by simp only;omega)⟩
 | none=>
  simp only[Apu,ApY];rw[S9 p HY (by decide)];simp only[Ai];cases hm:U3 p w_attributes with
  |inr e=>exact Aj fun x q h=>by cases h
  |inl q=>
   obtain⟨i,q⟩:=q;obtain⟨h1,_⟩:=My hm;refine Aj fun x q' h=>?_
   cases h;exact⟨by simp only;omega,Ab8 rfl (by simp only;omega)⟩
theorem SW(p:Ps):TP (BP p) fun r=>(r.1=0->r.2.l.length=p.l.length)/\(r.1≠0->r.2.l.length+1=p.l.length):=by
 unfold BP;rw[ER];simp only[Ai];refine AB (fun h=>Aj ⟨fun e=>(by cases e),fun _=>Lj h⟩) fun h=>Aj ⟨fun _=>by rw[NB h],fun e=>(e rfl).elim⟩
theorem ZF(p:Ps):TP (Cu p) fun r=>(r.1=0->r.2.l.length=p.l.length)/\(r.1≠0->r.2.l.length+1=p.l.length):=by
 unfold Cu;rw[ER];simp only[Ai];refine AB (fun h=>Aj ⟨fun e=>(by cases e),fun _=>Lj h⟩) fun h=>?_
 rw[NB h,ER];simp only[Ai];refine AB (fun h=>Aj ⟨fun e=>(by cases e),fun _=>Lj h⟩) fun h=>Aj ⟨fun _=>by rw[NB h],fun e=>(e rfl).elim⟩
theorem Afn{a b:AoM}{op:Int}{u:Arr Int 4}{d1 d2:Nat}(h1:Ez d1 a)(h2:Ez d2 b)(e:d1+d2+1<=d):Ez d (AoM.mk op 0 u [a,b]) :=
 AaC (x:=AoM.mk op 0 u [a,b]) (by show[a,b].length<=4;simp) ((EzL.nil (m:=0)).snoc h1 (Apf _) |>.snoc h2 (Apf _)) (by omega)
theorem Vo(hr:SY n rec_)(hn:n<1000000)(p:Ps)(hp:p.l.length<=n):TP (Bb rec_ p) (Y2 p):=by
 unfold Bb;refine AD (Pw hr hn p hp) fun r h0=>?_
 cases r with
 |inr e=>exact Aj fun x q h=>by cases h
 | inl r=>
  obtain⟨x,q⟩:=r;obtain⟨h1,h2⟩:=h0 x q rfl;simp only
  refine AD (Q:=fun z=>match z with
   |.inl z=>z.1.length<p.l.length/\Ez (p.l.length-z.1.length) (AoM.mk z.2.2.1 z.2.2.2.1 z.2.2.2.2.1 z.2.2.2.2.2)
   |.inr (.inl _)=>False
   |.inr (.inr _)=>True) ?_ fun z hz=>?_
  ·refine AD (SW q) fun y hy=>AD (Q:=fun z=>match z with
    |.inl z=>z.1.length<p.l.length/\Ez (p.l.length-z.1.length) (AoM.mk z.2.2.1 z.2.2.2.1 z.2.2.2.2.1 z.2.2.2.2.2)
    |.inr (.inr (.inr _))=>True
    |_=>False) ?_ fun z hz=>?_
   ·obtain⟨op,q1⟩:=y;simp only at hy ⊢
    refine AY (fun v=>∃d:Nat,v.2.1.length<p.l.length/\Ez d (AoM.mk v.2.2.2.1 v.2.2.2.2.1 v.2.2.2.2.2.1 v.2.2.2.2.2.2)/\(v.1=0->d+v.2.1.length<=p.l.length)/\(v.1≠0->d+1+v.2.1.length<=p.l.length)) (fun v=>v.2.1.length+(if v.1=0 then 0 else 1)) ?_
     ⟨p.l.length-q.l.length,?_,by simp only[Ht];exact h2,fun e=>?_,fun e=>?_⟩ ?_
    ·rintro⟨op,l,e,a,b,c,xs⟩ ⟨d,hl,hd,g0,g1⟩;simp only at hl hd g0 g1 ⊢;unfold Bq;refine AB (fun hh=>?_) fun hh=>Aj ⟨hl,hd.mono ?_⟩
     ·have hop:op≠0:=by simpa using hh
      refine AD (Pw hr hn ⟨l,e⟩ (by show l.length<=n;omega)) fun r2 hh2=>?_
      cases r2 with
      |inr e=>exact Aj trivial
      | inl r2=>
       obtain⟨x2,q2⟩:=r2;obtain⟨k1,k2⟩:=hh2 x2 q2 rfl;have k1':q2.l.length<l.length:=k1;have k2':Ez (l.length-q2.l.length) x2:=k2;refine A9 (AD (SW q2) fun y hy=>Aj ?_);have g1':=g1 hop;obtain⟨op2,q3⟩:=y;simp only at hy ⊢
       have hle:q3.l.length<=q2.l.length:=by
        by_cases e0:op2=0
        ·have:=hy.1 e0;omega
        have:=hy.2 e0;omega
       refine⟨⟨p.l.length-q2.l.length,by omega,Afn hd k2' (by omega),fun e0=>?_,fun e0=>?_⟩,?_⟩
       ·have:=hy.1 e0;omega
       ·have:=hy.2 e0;omega
       rw[Ao6 hop];by_cases e0:op2=0
       ·have:=hy.1 e0;rw[Ao4 e0];omega
       have:=hy.2 e0;rw[Ao6 e0];omega
     have:op=0:=by simpa using hh
     have:=g0 this;simp only;omega
    ·simp only;by_cases e0:op=0
     ·have:=hy.1 e0;omega
     have:=hy.2 e0;omega
    ·have:=hy.1 e;simp only;omega
    ·have:=hy.2 e;simp only;omega
    simp only
    have:q1.l.length<=n:=by
     by_cases e0:op=0
     ·have:=hy.1 e0;omega
     have:=hy.2 e0;omega
    split<;>omega
   match z,hz with
   |.inl z,hz=>exact Aj hz
   |.inr (.inr (.inr z)),hz=>exact Aj hz
  match z,hz with
  |.inl (l,e,a,b,c,xs),hz=>
   refine Aj fun x q h=>?_
   cases h;exact hz
  |.inr (.inr z),hz=>exact Aj fun x q h=>by cases h
theorem SN(hr:SY n rec_)(hn:n<1000000)(p:Ps)(hp:p.l.length<=n):TP (Cm rec_ p) (Y2 p):=by
 unfold Cm;refine AD (Vo hr hn p hp) fun r h=>?_
 cases r with
 |inr e=>exact Aj fun x q h=>by cases h
 |inl r=>exact Aj h
theorem Wh(hr:SY n rec_)(hn:n<1000000)(p:Ps)(hp:p.l.length<=n):TP (Bc rec_ p) (Y2 p):=by
 unfold Bc;refine AD (SN hr hn p hp) fun r h0=>?_
 cases r with
 |inr e=>exact Aj fun x q h=>by cases h
 | inl r=>
  obtain⟨x,q⟩:=r;obtain⟨h1,h2⟩:=h0 x q rfl;simp only
  refine AD (Q:=fun z=>match z with
   |.inl z=>z.1.length<p.l.length/\Ez (p.l.length-z.1.length) (AoM.mk z.2.2.1 z.2.2.2.1 z.2.2.2.2.1 z.2.2.2.2.2)
   |.inr (.inl _)=>False
   |.inr (.inr _)=>True) ?_ fun z hz=>?_
  ·refine AD (ZF q) fun y hy=>AD (Q:=fun z=>match z with
    |.inl z=>z.1.length<p.l.length/\Ez (p.l.length-z.1.length) (AoM.mk z.2.2.1 z.2.2.2.1 z.2.2.2.2.1 z.2.2.2.2.2)
    |.inr (.inr (.inr _))=>True
    |_=>False) ?_ fun z hz=>?_
   ·obtain⟨op,q1⟩:=y;simp only at hy ⊢
    refine AY (fun v=>∃d:Nat,v.2.1.length<p.l.length/\Ez d (AoM.mk v.2.2.2.1 v.2.2.2.2.1 v.2.2.2.2.2.1 v.2.2.2.2.2.2)/\(v.1=0->d+v.2.1.length<=p.l.length)/\(v.1≠0->d+1+v.2.1.length<=p.l.length)) (fun v=>v.2.1.length+(if v.1=0 then 0 else 1)) ?_
     ⟨p.l.length-q.l.length,?_,by simp only[Ht];exact h2,fun e=>?_,fun e=>?_⟩ ?_
    ·rintro⟨op,l,e,a,b,c,xs⟩ ⟨d,hl,hd,g0,g1⟩;simp only at hl hd g0 g1 ⊢;unfold Bp;refine AB (fun hh=>?_) fun hh=>Aj ⟨hl,hd.mono ?_⟩
     ·have hop:op≠0:=by simpa using hh
      refine AD (SN hr hn ⟨l,e⟩ (by show l.length<=n;omega)) fun r2 hh2=>?_
      cases r2 with
      |inr e=>exact Aj trivial
      | inl r2=>
       obtain⟨x2,q2⟩:=r2;obtain⟨k1,k2⟩:=hh2 x2 q2 rfl;have k1':q2.l.length<l.length:=k1;have k2':Ez (l.length-q2.l.length) x2:=k2;refine A9 (AD (ZF q2) fun y hy=>Aj ?_);have g1':=g1 hop;obtain⟨op2,q3⟩:=y;simp only at hy ⊢
       have hle:q3.l.length<=q2.l.length:=by
        by_cases e0:op2=0
        ·have:=hy.1 e0;omega
        have:=hy.2 e0;omega
       refine⟨⟨p.l.length-q2.l.length,by omega,Afn hd k2' (by omega),fun e0=>?_,fun e0=>?_⟩,?_⟩
       ·have:=hy.1 e0;omega
       ·have:=hy.2 e0;omega
       rw[Ao6 hop];by_cases e0:op2=0
       ·have:=hy.1 e0;rw[Ao4 e0];omega
       have:=hy.2 e0;rw[Ao6 e0];omega
     have:op=0:=by simpa using hh
     have:=g0 this;simp only;omega
    ·simp only;by_cases e0:op=0
     ·have:=hy.1 e0;omega
     have:=hy.2 e0;omega
    ·have:=hy.1 e;simp only;omega
    ·have:=hy.2 e;simp only;omega
    simp only
    have:q1.l.length<=n:=by
     by_cases e0:op=0
     ·have:=hy.1 e0;omega
     have:=hy.2 e0;omega
    split<;>omega
   match z,hz with
   |.inl z,hz=>exact Aj hz
   |.inr (.inr (.inr z)),hz=>exact Aj hz
  match z,hz with
  |.inl (l,e,a,b,c,xs),hz=>
   refine Aj fun x q h=>?_
   cases h;exact hz
  |.inr (.inr z),hz=>exact Aj fun x q h=>by cases h
theorem Abv(hr:SY n rec_)(hn:n<1000000):SY (n+1) (CU rec_):=by
 intro p hp;unfold CU;refine AD (Wh hr hn p (by omega)) fun r h=>?_
 cases r with
 |inr e=>exact Aj fun x q h=>by cases h
 |inl r=>exact Aj h
end
theorem QQ:∀k n,k<1000000->k<=n->SY k (DS n)
 |0,n,_,_=>fun p h=>absurd h (ApT _)
 |k+1,0,_,h=>by omega
 |k+1,n+1,h,hn=>Abv (QQ k n (by omega) (by omega)) (by omega)
theorem AcQ(p:Ps)(hp:p.l.length<900000):TP (Gm p) (Y2 p):=QQ 900000 _ (by omega) (by omega) p hp
end Go.Proofs.YtldngkmkhfddpaaGreatDoor
