/-
  Part 46.
-/
import Derived.Test.YtioapcamanmoiaaGreatDoorYA41
import Derived.Test.YtioapcamanmoiaaGreatDoorYA42
import Derived.Test.YtioapcamanmoiaaGreatDoorYA44
import Derived.Test.YtioapcamanmoiaaGreatDoorYA45
import Derived.KernelRfl
import Derived.Lib.Mul64
set_option linter.unusedVariables false
set_option linter.unusedSimpArgs false
namespace Go.Proofs.YtioapcamanmoiaaGreatDoor
open Go.Rv
set_option maxRecDepth 20000
set_option maxHeartbeats 4000000
theorem RS{r}(h:law14_sane  = some r):Con B 6 [] [] (fun r' σ'=>r'=.bool r∧σ'=[]):=by
 refine Cw 203 [.tmp 0] Tryz.func6 (fun F hE=>?_) h;unfold law14_sane;refine T0 [] ?_;refine Bd fun aF al =>Te [1] (o1 25 (OL al)) Ev ?_
 refine T0 [1,2] ?_;refine Bd fun aG am =>Bd fun aH an =>De [[],[],[],[0,1,2],[0,1,2,3],[0,1,2,3,4],[0,1,2,3,4],[],[0,1,2,3,4,5,7],[0,1,2,3,4,5,6,7,8]] [1,2,3,4] (o2 30 (Fa am) 31 (EN an)) Ev ?_
 refine Bd fun ao ap =>Te [1,2,3,4,5,6] (o1 38 (D6 ap)) Ev ?_
 refine Bd fun aI aq =>Te [1,2,3,4,5,6,7,8] (o1 45 (D6 aq)) Ev ?_
 refine Bd fun aJ ar =>Bd fun aK au =>De [[],[],[],[0,1,2],[0,1,2,3],[0,1,2,3,4],[0,1,2,3,4],[],[0,1,2,3,4,5,7],[0,1,2,3,4,5,6,7,8]] [1,2,3,4,5,6,7,8,10] (o2 51 (Fa ar) 52 (EN au)) Ev ?_
 refine Bd fun aL av =>Bd fun aw ax =>De [[],[],[],[0,1,2],[0,1,2,3],[0,1,2,3,4],[0,1,2,3,4],[],[0,1,2,3,4,5,7],[0,1,2,3,4,5,6,7,8]] [1,2,3,4,5,6,7,8,10,11,12] (o2 58 (Fa av) 59 (EN ax)) Ev ?_
 refine Bd fun ac ay =>Te [1,2,3,4,5,6,7,8,10,12,13,14] (o1 66 (D6 ay)) Ev ?_
 refine Bd fun aM az =>Bd fun ad aA =>De [[],[],[],[0,1,2],[0,1,2,3],[0,1,2,3,4],[0,1,2,3,4],[],[0,1,2,3,4,5,7],[0,1,2,3,4,5,6,7,8]] [1,2,3,4,5,6,7,8,10,12,13,14,16] (o2 72 (Fa az) 73 (EN aA)) Ev ?_
 refine Bd fun ae aB =>Te [1,2,3,4,5,6,7,8,10,12,13,14,16,17,18] (o1 81 (EN aB)) Ev ?_
 refine Bd fun q aC =>Te [1,2,3,4,5,6,7,8,10,12,13,14,16,18,19,20] (o1 88 (D6 aC)) Ev ?_
 refine Bd fun af aD =>Te [3,4,5,6,7,8,10,12,13,14,16,18,19,20,22] (o1 96 (EN aD)) Ev ?_
 refine Tw [5,12,13,14,16,18,19,20,22,23] (fun x=>⟨Ao 203 [(5,.ref 0 0),(12,i64 aw.2),(13,.ref 1 0),(14,i64 ac.2),(16,i64 ad.2),(18,i64 ae.2),(19,.ref 2 0),(20,i64 q.2),(22,i64 af.2),(23,.bool x)],[.box (Aj ao.1) false,.box (Aj ac.1) false,.box (Aj q.1) false]⟩) ?_ ?_
 ·intro _;refine Sp (fun a=>?_) fun a=>?_
  ·refine Sp (fun b=>?_) fun b=>?_
   ·refine Sp (fun c=>?_) fun c=>?_
    ·refine Sp (fun f=>?_) fun f=>?_
     ·refine Sp (fun j=>?_) fun j=>?_
      ·refine Ck fun s=>?_
       refine Sp (fun n=>?_) fun n=>?_
       ·refine Sp (fun t=>?_) fun t=>?_
        ·refine Bd fun aN ag=>?_
         refine Sp (fun y=>?_) fun y=>?_
         ·exact Lf (o1 137 (Ks ag)) (Ev (by simp only[go_sem,a,b,GA,GQ,ER,c,f,j,qL s,n,t,y];exact AL)) (ws [3,7,10])
         ·exact Lf (o1 137 (Ks ag)) (Ev (by simp only[go_sem,a,b,GA,GQ,ER,c,f,j,qL s,n,t,y];exact AL)) (ws [3,7,10])
        ·exact Lf Aa (Ev (by simp only[go_sem,a,b,GA,GQ,ER,c,f,j,qL s,n,t];exact AL)) (ws [3,7,10])
       ·exact Lf Aa (Ev (by simp only[go_sem,a,b,GA,GQ,ER,c,f,j,qL s,n];exact AL)) (ws [3,7,10])
      ·exact Lf Aa (Ev (by simp only[go_sem,a,b,GA,GQ,ER,c,f,j];exact AL)) (ws [3,7,10])
     ·exact Lf Aa (Ev (by simp only[go_sem,a,b,GA,GQ,ER,c,f];exact AL)) (ws [3,7,10])
    ·exact Lf Aa (Ev (by simp only[go_sem,a,b,GA,GQ,ER,c];exact AL)) (ws [3,7,10])
   ·exact Lf Aa (Ew2 a b) (ws [3,7,10])
  ·exact Lf Aa (Ew1 a) (ws [3,7,10])
 intro x;refine Tw [16,18,19,20,22,23,24] (fun ah=>⟨Ao 203 [(16,i64 ad.2),(18,i64 ae.2),(19,.ref 0 0),(20,i64 q.2),(22,i64 af.2),(23,.bool x),(24,.bool ah)],[.box (Aj q.1) false]⟩) ?_ ?_
 ·intro _;refine Sp (fun d=>?_) fun d=>?_
  ·refine Sp (fun g=>?_) fun g=>?_
   ·refine Sp (fun k=>?_) fun k=>?_
    ·refine Bd fun aO u=>?_
     refine Sp (fun o=>?_) fun o=>?_
     ·refine Bd fun aP z=>?_
      refine Sp (fun v=>?_) fun v=>?_
      ·refine Bd fun aQ ai=>?_
       refine Sp (fun aa=>?_) fun aa=>?_
       ·refine Bd fun aR aE=>?_
        exact Lf (Bt (l:=[(157,_,_,_),(162,_,_,_),(167,_,_,_),(173,_,_,_)]) ⟨C4  u,C4  z,DO  ai,DO  aE,trivial⟩) (Ev (by simp only[go_sem,d,g,k,o,v,aa];exact AL)) (ws [2])
       ·exact Lf (Bt (l:=[(157,_,_,_),(162,_,_,_),(167,_,_,_)]) ⟨C4  u,C4  z,DO  ai,trivial⟩) (Ev (by simp only[go_sem,d,g,k,o,v,aa];exact AL)) (ws [2])
      ·exact Lf (o2 157 (C4 u) 162 (C4 z)) (Ew5 d g k o v) (ws [2])
     ·exact Lf (o1 157 (C4 u)) (Ew4 d g k o) (ws [2])
    ·exact Lf Aa (Ew3 d g k) (ws [2])
   ·exact Lf Aa (Ew2 d g) (ws [2])
  ·exact Lf Aa (Ew1 d) (ws [2])
 intro ah;refine Tw [0] (fun aj=>⟨Ao 203 [(0,.bool aj)],[]⟩) ?_ ?_
 ·intro _;refine Sp (fun e=>?_) fun e=>?_
  ·refine Sp (fun i=>?_) fun i=>?_
   ·refine Sp (fun m=>?_) fun m=>?_
    ·refine Sp (fun p=>?_) fun p=>?_
     ·refine Sp (fun w=>?_) fun w=>?_
      ·refine Bd fun aS ak=>?_
       refine Sp (fun ab=>?_) fun ab=>?_
       ·exact Lf (o1 195 (DO ak)) (Ev (by simp only[go_sem,e,i,m,p,w,ab];exact AL)) (ws [])
       ·exact Lf (o1 195 (DO ak)) (Ev (by simp only[go_sem,e,i,m,p,w,ab];exact AL)) (ws [])
      ·exact Lf Aa (Ew5 e i m p w) (ws [])
     ·exact Lf Aa (Ew4 e i m p) (ws [])
    ·exact Lf Aa (Ew3 e i m) (ws [])
   ·exact Lf Aa (Ew2 e i) (ws [])
  ·exact Lf Aa (Ew1 e) (ws [])
 intro aj;exact Sr <|Rr
theorem Jh{a r}(h:Ii a=some r):Con B 7 [.agg (Ar a)] [] (fun r' σ'=>r'=.bool r∧σ'=[]):=by
 refine Cw 86 [.tmp 2] Tryz.func7 (fun F hE=>?_) h;unfold Ii;refine T0 [1] ?_;refine Jo (fun _=>⟨Ao 86 [(1,.ref 0 0)],[.box (Ar a) false]⟩) ?_ ?_
 ·intro y t;refine T0 [1,3] ?_;refine Sb ?_;refine Lo (fun e=>⟨Ao 86 [(1,.ref 0 0),(3,i64 e)],[.box (Ar a) false]⟩) (ws [0]) ?_;rintro e z u n o;show Gy a e=some u→_;unfold Gy;refine Sq ?_;refine Tw [1,3,14] (fun p=>⟨Ao 86 [(1,.ref 0 0),(3,i64 e),(14,.bool p)],[.box (Ar a) false]⟩) ?_ ?_
  ·intro _;refine Sp (fun i=>?_) fun i=>?_
   ·exact Lf Aa (Ew1 i) (ws [0])
   ·exact Lf Aa (Ew1 i) (ws [0])
  intro p;refine Cd ?_ ?_
  ·refine Sk <|Tn <|Sq <|Sb <|Ck fun v =>Lt fun w x =>Te (fr':=[(1,_),(3,_),(25,.bool w)]) [1,3,25] Aa (Ew2 (qR v) x) ?_
   refine Cd ?_ ?_
   ·refine T0 [2] ?_;exact Sr <|Br <|Tr <|Lr o n <|Br <|Jr t <|Rr
   ·refine Sk <|Bn <|Tn <|F0 [1,3] ?_
    exact Ln (ws [0])
  ·refine Sx <|Tx <|Lx o n <|Bx <|?_
   exact Jn ((ws (l':=[(1,.ref 0 0)]) (σ':=[.box (Ar a) false]) [0]).trans (ws [0]))
 intro _;refine Tw [1,4] (fun j=>⟨Ao 86 [(1,.ref 0 0),(4,.bool j)],[.box (Ar a) false]⟩) ?_ ?_
 ·intro _;refine Sp (fun k=>?_) fun k=>?_
  ·exact Lf Aa (Ew1 k) (ws [0])
  ·exact Lf Aa (Ew1 k) (ws [0])
 intro j;refine Tw [1,4,5] (fun q=>⟨Ao 86 [(1,.ref 0 0),(4,.bool j),(5,.bool q)],[.box (Ar a) false]⟩) ?_ ?_
 ·intro _;refine Sp (fun c=>?_) fun c=>?_
  ·refine Sp (fun f=>?_) fun f=>?_
   ·refine Sp (fun l=>?_) fun l=>?_
    ·exact Lf Aa (Ew3 c f l) (ws [0])
    ·exact Lf Aa (Ew3 c f l) (ws [0])
   ·exact Lf Aa (Ew2 c f) (ws [0])
  ·exact Lf Aa (Ew1 c) (ws [0])
 intro q;refine Tw [2] (fun s=>⟨Ao 86 [(2,.bool s)],[]⟩) ?_ ?_
 ·intro _;refine Sp (fun b=>?_) fun b=>?_
  ·refine Sp (fun d=>?_) fun d=>?_
   ·refine Sp (fun g=>?_) fun g=>?_
    ·refine Sp (fun m=>?_) fun m=>?_
     ·exact Lf Aa (Ew4 b d g m) (ws [])
     ·exact Lf Aa (Ew4 b d g m) (ws [])
    ·exact Lf Aa (Ew3 b d g) (ws [])
   ·exact Lf Aa (Ew2 b d) (ws [])
  ·exact Lf Aa (Ew1 b) (ws [])
 intro s;exact Sr <|Rr
theorem El{b r}(h:DE b=some r):Con B 9 [.agg (A1 b)] [] (fun r' σ'=>r'=.bool r∧σ'=[]):=by
 refine Cw 13 [.tmp 2] Tryz.func9 (fun F hE=>?_) h;unfold DE;refine T0 [1] ?_;refine Tw [2] (fun c=>⟨Ao 13 [(2,.bool c)],[]⟩) ?_ ?_
 ·intro _;refine Sp (fun a=>?_) fun a=>?_
  ·exact Lf Aa (Ew1 a) (ws [])
  ·exact Lf Aa (Ew1 a) (ws [])
 intro c;exact Sr <|Rr
theorem Kr{a r}(h:Gu a=some r):Con B 8 [.agg (Aj a)] [] (fun r' σ'=>r'=.bool r∧σ'=[]):=by
 refine Cw 78 [.tmp 2] Tryz.func8 (fun F hE=>?_) h;unfold Gu;refine T0 [1] ?_;refine Sq ?_;refine Tw [1,15] (fun j=>⟨Ao 78 [(1,.ref 0 0),(15,.bool j)],[.box (Aj a) false]⟩) ?_ ?_
 ·intro _;refine Sp (fun d=>?_) fun d=>?_
  ·exact Lf Aa (Ew1 d) (ws [0])
  ·exact Lf Aa (Ew1 d) (ws [0])
 intro j;refine Cd ?_ ?_
 ·refine T0 [2] ?_;exact Sr <|Tr <|Rr
 ·refine Sk <|Tn <|?_
  refine Jo (fun _=>⟨Ao 78 [(1,.ref 0 0)],[.box (Aj a) false]⟩) ?_ ?_
  ·intro aj k;refine T0 [1,3] ?_;refine Sb ?_;refine Lo (fun b=>⟨Ao 78 [(1,.ref 0 0),(3,i64 b)],[.box (Aj a) false]⟩) (ws [0]) ?_;rintro b ak u e f;show DR a b=some u→_;unfold DR;refine Sq <|T0 [1,3,20] ?_
   refine Cd ?_ ?_
   ·refine Sk <|Tn <|?_
    refine Jo (fun _=>⟨Ao 78 [(1,.ref 0 0),(3,i64 b)],[.box (Aj a) false]⟩) ?_ ?_
    ·intro al l;refine Sb <|Sq <|Ck fun v =>Lt fun w x =>Te (fr':=[(1,_),(3,_),(29,.bool w)]) [1,3,29] Aa (Ew2 (qR v) x) ?_
     refine Cd ?_ ?_
     ·refine T0 [2] ?_;exact Sr <|Tr <|Br <|Jr l <|Lr f e <|Br <|Jr k <|Rr
     ·refine Sk <|Tn <|T0 [1,3,4] ?_
      refine Sb ?_;refine Lo (fun g=>⟨Ao 78 [(1,.ref 0 0),(3,i64 b),(4,i64 g)],[.box (Aj a) false]⟩) (ws [0]) ?_;rintro g am y m n;show Dr a b g=some y→_;unfold Dr;refine Sq <|Ck fun z =>Lt fun aa ab =>Te (fr':=[(1,_),(3,_),(4,_),(37,.bool aa)]) [1,3,4,37] Aa (Ew2 (qR z) ab) ?_
      refine Cd ?_ ?_
      ·refine Sk <|Tn <|Sq <|Sb <|Ck fun ac =>Ck fun ad =>Bd fun an ae =>Te [1,3,4,50] (o1 49 (El ae)) (Ew2 (qR ac) (qR ad)) ?_
       refine Cd ?_ ?_
       ·refine T0 [2] ?_;exact Sr <|Br <|Tr <|Lr n m <|Br <|Br <|Jr l <|Lr f e <|Br <|Jr k <|Rr
       ·refine Sk <|Bn <|Tn <|F0 [1,3,4] ?_
        exact Ln (ws [0])
      ·refine Sx <|Tx <|Lx n m <|Bx <|Bn <|?_
       exact Jn ((ws (l':=[(1,.ref 0 0),(3,i64 b)]) (σ':=[.box (Aj a) false]) [0]).trans (ws [0]))
    intro _;refine F0 [1,3] ?_;exact Ln (ws [0])
   ·refine Sx <|Tx <|Lx f e <|Bx <|?_
    exact Jn ((ws (l':=[(1,.ref 0 0)]) (σ':=[.box (Aj a) false]) [0]).trans (ws [0]))
  intro _;refine Jo (fun _=>⟨Ao 78 [],[]⟩) ?_ ?_
  ·intro ao af;refine T0 [1,5] ?_;refine Sb ?_;refine Lo (fun c=>⟨Ao 78 [(1,.ref 0 0),(5,i64 c)],[.box (Aj a) false]⟩) (ws [0]) ?_;rintro c ap ag o p;show DV a c=some ag→_;unfold DV;refine Sq <|T0 [1,5,55] ?_
   refine Cd ?_ ?_
   ·refine Sk <|Tn <|Sq <|Sb <|?_
    refine Tw [1,5,77] (fun q=>⟨Ao 78 [(1,.ref 0 0),(5,i64 c),(77,.bool q)],[.box (Aj a) false]⟩) ?_ ?_
    ·intro _;refine Ck fun s =>Bd fun aq t =>?_
     refine Sp (fun i=>?_) fun i=>?_
     ·exact Lf (o1 65 (El t)) (Ew2 (qR s) i) (ws [0])
     ·refine Ck fun ah =>Bd fun ar ai =>?_
      exact Lf (o2 65 (El t) 75 (El ai)) (Ew3 (qR s) i (qR ah)) (ws [0])
    intro q;refine Cd ?_ ?_
    ·refine T0 [2] ?_;exact Sr <|Br <|Tr <|Lr p o <|Br <|Jr af <|Rr
    ·refine Sk <|Bn <|Tn <|F0 [1,5] ?_
     exact Ln (ws [0])
   ·refine Sx <|Tx <|Lx p o <|Bx <|?_
    exact Jn ((ws (l':=[]) (σ':=[]) []).trans (ws []))
  intro _;refine T0 [2] ?_;exact Sr <|Rr
theorem A5{b c d r}(h:CD b c d=some r):Con B 122 [i64 b,i64 c,i64 d] [] (fun r' σ'=>r'=.bool r∧σ'=[]):=by
 refine Cw 15 [.tmp 6] Tryz.func122 (fun F hE=>?_) h;unfold CD;refine T0 [0,1,2] ?_;refine Tw [6] (fun e=>⟨Ao 15 [(6,.bool e)],[]⟩) ?_ ?_
 ·intro _;refine Sp (fun a=>?_) fun a=>?_
  ·exact Lf Aa (Ew1 a) (ws [])
  ·exact Lf Aa (Ew1 a) (ws [])
 intro e;exact Sr <|Rr
theorem Tq{a r}(h:G5 a=some r):Con B 71 [.agg [i64 a.Za,i64 a.Zb,i64 a.Zc]] [] (fun r' σ'=>r'=.bool r∧σ'=[]):=by
 refine Cw 29 [.tmp 2] Tryz.func71 (fun F hE=>?_) h;unfold G5;refine T0 [1] ?_;refine Sq ?_;refine Tw [1,12] (fun d=>⟨Ao 29 [(1,.ref 0 0),(12,.bool d)],[.box [i64 a.Za,i64 a.Zb,i64 a.Zc] false]⟩) ?_ ?_
 ·intro _;refine Bd fun j e=>?_
  refine Sp (fun b=>?_) fun b=>?_
  ·exact Lf (o1 5 (A5 e)) (Ew1 b) (ws [0])
  ·refine Bd fun k i=>?_
   exact Lf (o2 5 (A5 e) 10 (A5 i)) (Ew1 b) (ws [0])
 intro d;refine Cd ?_ ?_
 ·refine T0 [2] ?_;exact Sr <|Tr <|Rr
 ·refine Sk <|Tn <|Sq <|T0 [1,15] ?_
  refine Cd ?_ ?_
  ·refine Tw [2] (fun f=>⟨Ao 29 [(2,.bool f)],[]⟩) ?_ ?_
   ·intro _;refine Bd fun l g=>?_
    refine Sp (fun c=>?_) fun c=>?_
    ·exact Lf (o1 18 (A5 g)) (Ew1 c) (ws [])
    ·exact Lf (o1 18 (A5 g)) (Ew1 c) (ws [])
   intro f;exact Sr <|Tr <|Rr
  ·refine Sk <|Tn <|T0 [2] ?_
   exact Sr <|Rr
theorem Uz{b k r}(h:Ju b k=some r):Con B 72 [.agg [i64 b.A,i64 b.B,i64 b.Zb,i64 b.Zd,i64 b.Km],i64 k] [] (fun r' σ'=>r'=.bool r∧σ'=[]):=by
 refine Cw 39 [.tmp 4] Tryz.func72 (fun F hE=>?_) h;unfold Ju;refine T0 [1,2] ?_;refine Tw [4] (fun m=>⟨Ao 39 [(4,.bool m)],[]⟩) ?_ ?_
 ·intro _;refine Bd fun p c=>?_
  refine Sp (fun a=>?_) fun a=>?_
  ·refine Bd fun q e=>?_
   refine Sp (fun d=>?_) fun d=>?_
   ·refine Sp (fun f=>?_) fun f=>?_
    ·refine Bd fun s i=>?_
     refine Sp (fun g=>?_) fun g=>?_
     ·refine Bd fun t n=>?_
      refine Sp (fun j=>?_) fun j=>?_
      ·refine Bd fun u o=>?_
       exact Lf (Bt (l:=[(9,_,_,_),(15,_,_,_),(27,_,_,_),(32,_,_,_),(37,_,_,_)]) ⟨A5  c,A5  e,A5  i,A5  n,A5  o,trivial⟩) (Ew5 a d f g j) (ws [])
      ·exact Lf (Bt (l:=[(9,_,_,_),(15,_,_,_),(27,_,_,_),(32,_,_,_)]) ⟨A5  c,A5  e,A5  i,A5  n,trivial⟩) (Ew5 a d f g j) (ws [])
     ·exact Lf (Bt (l:=[(9,_,_,_),(15,_,_,_),(27,_,_,_)]) ⟨A5  c,A5  e,A5  i,trivial⟩) (Ew4 a d f g) (ws [])
    ·exact Lf (o2 9 (A5 c) 15 (A5 e)) (Ew3 a d f) (ws [])
   ·exact Lf (o2 9 (A5 c) 15 (A5 e)) (Ew2 a d) (ws [])
  ·exact Lf (o1 9 (A5 c)) (Ew1 a) (ws [])
 intro m;exact Sr <|Rr
theorem TV{a r}(h:JX a=some r):Con B 38 [.agg [.sl false (L Am a.Ze),.sl false (L Au a.Zf)]] [] (fun r' σ'=>r'=i64 r∧σ'=[]):=by
 refine Cw 46 [.tmp 2] Tryz.func38 (fun F hE=>?_) h;unfold JX;refine T0 [1] ?_;refine Sq ?_;refine Tw [1,14] (fun e=>⟨Ao 46 [(1,.ref 0 0),(14,.bool e)],[.box [.sl false (L Am a.Ze),.sl false (L Au a.Zf)] false]⟩) ?_ ?_
 ·intro _;refine Sp (fun b=>?_) fun b=>?_
  ·exact Lf Aa (Ew1 b) (ws [0])
  ·exact Lf Aa (Ew1 b) (ws [0])
 intro e;refine Cd ?_ ?_
 ·refine T0 [2] ?_;exact Sr <|Tr <|Rr
 ·refine Sk <|Tn <|?_
  refine Jo (fun _=>⟨Ao 46 [(1,.ref 0 0)],[.box [.sl false (L Am a.Ze),.sl false (L Au a.Zf)] false]⟩) ?_ ?_
  ·intro t k;refine T0 [1,3] ?_;refine Sb ?_;refine Lo (fun c=>⟨Ao 46 [(1,.ref 0 0),(3,i64 c)],[.box [.sl false (L Am a.Ze),.sl false (L Au a.Zf)] false]⟩) (ws [0]) ?_;rintro c u l f g;show DZ a c=some l→_;unfold DZ;refine Sq <|T0 [1,3,19] ?_
   refine Cd ?_ ?_
   ·refine Sk <|Tn <|Sq <|Sb <|Ck fun m =>Bd fun v n =>Te [1,3,28] (o1 27 (Tq n)) (Ew1 (qR m)) ?_
    refine Cd ?_ ?_
    ·refine T0 [2] ?_;exact Sr <|Br <|Tr <|Lr g f <|Br <|Jr k <|Rr
    ·refine Sk <|Bn <|Tn <|F0 [1,3] ?_
     exact Ln (ws [0])
   ·refine Sx <|Tx <|Lx g f <|Bx <|?_
    exact Jn ((ws (l':=[(1,.ref 0 0)]) (σ':=[.box [.sl false (L Am a.Ze),.sl false (L Au a.Zf)] false]) [0]).trans (ws [0]))
  intro _;refine Jo (fun _=>⟨Ao 46 [],[]⟩) ?_ ?_
  ·intro w o;refine T0 [1,4] ?_;refine Sb ?_;refine Lo (fun d=>⟨Ao 46 [(1,.ref 0 0),(4,i64 d)],[.box [.sl false (L Am a.Ze),.sl false (L Au a.Zf)] false]⟩) (ws [0]) ?_;rintro d x p i j;show Ez a d=some p→_;unfold Ez;refine Sq <|T0 [1,4,33] ?_
   refine Cd ?_ ?_
   ·refine Sk <|Tn <|Sq <|Sb <|Ck fun q =>Bd fun y s =>De [[],[0],[],[0,1,2],[0,1,2,3],[],[5],[5,6],[0,1,2,3,4,5,6,7],[0,1,2,3,4,5,6,7,8]] [1,4,45] (o1 44 (Uz s)) (Ew1 (qR q)) ?_
    refine Cd ?_ ?_
    ·refine T0 [2] ?_;exact Sr <|Br <|Tr <|Lr j i <|Br <|Jr o <|Rr
    ·refine Sk <|Bn <|Tn <|F0 [1,4] ?_
     exact Ln (ws [0])
   ·refine Sx <|Tx <|Lx j i <|Bx <|?_
    exact Jn ((ws (l':=[]) (σ':=[]) []).trans (ws []))
  intro _;refine T0 [2] ?_;exact Sr <|Rr
theorem Ai{b c d r}(h:Bc b c d=some r):Con B 75 [i64 b,i64 c,i64 d] [] (fun r' σ'=>r'=.bool r∧σ'=[]):=by
 refine Cw 15 [.tmp 6] Tryz.func75 (fun F hE=>?_) h;unfold Bc;refine T0 [0,1,2] ?_;refine Tw [6] (fun e=>⟨Ao 15 [(6,.bool e)],[]⟩) ?_ ?_
 ·intro _;refine Sp (fun a=>?_) fun a=>?_
  ·exact Lf Aa (Ew1 a) (ws [])
  ·exact Lf Aa (Ew1 a) (ws [])
 intro e;exact Sr <|Rr
theorem Mv{a r}(h:DI a=some r):Con B 73 [.agg [i64 a.Zg,i64 a.Zh,i64 a.Zi,i64 a.Zj,i64 a.Zk,u64 a.Zl,i64 a.Zm,i64 a.Zn]] [] (fun r' σ'=>r'=.bool r∧σ'=[]):=by
 refine Cw 36 [.tmp 2] Tryz.func73 (fun F hE=>?_) h;unfold DI;refine T0 [1] ?_;refine Tw [2] (fun o=>⟨Ao 36 [(2,.bool o)],[]⟩) ?_ ?_
 ·intro _;refine Bd fun s c=>?_
  refine Sp (fun b=>?_) fun b=>?_
  ·refine Bd fun t e=>?_
   refine Sp (fun d=>?_) fun d=>?_
   ·refine Bd fun u g=>?_
    refine Sp (fun f=>?_) fun f=>?_
    ·refine Bd fun v j=>?_
     refine Sp (fun i=>?_) fun i=>?_
     ·refine Bd fun w m=>?_
      refine Sp (fun k=>?_) fun k=>?_
      ·refine Bd fun x p=>?_
       refine Sp (fun n=>?_) fun n=>?_
       ·refine Bd fun y q=>?_
        exact Lf (Bt (l:=[(5,_,_,_),(9,_,_,_),(14,_,_,_),(19,_,_,_),(24,_,_,_),(29,_,_,_),(34,_,_,_)]) ⟨Ai  c,Ai  e,Ai  g,Ai  j,Ai  m,Ai  p,Ai  q,trivial⟩) (Ev (by simp only[go_sem,b,d,f,i,k,n];exact AL)) (ws [])
       ·exact Lf (Bt (l:=[(5,_,_,_),(9,_,_,_),(14,_,_,_),(19,_,_,_),(24,_,_,_),(29,_,_,_)]) ⟨Ai  c,Ai  e,Ai  g,Ai  j,Ai  m,Ai  p,trivial⟩) (Ev (by simp only[go_sem,b,d,f,i,k,n];exact AL)) (ws [])
      ·exact Lf (Bt (l:=[(5,_,_,_),(9,_,_,_),(14,_,_,_),(19,_,_,_),(24,_,_,_)]) ⟨Ai  c,Ai  e,Ai  g,Ai  j,Ai  m,trivial⟩) (Ew5 b d f i k) (ws [])
     ·exact Lf (Bt (l:=[(5,_,_,_),(9,_,_,_),(14,_,_,_),(19,_,_,_)]) ⟨Ai  c,Ai  e,Ai  g,Ai  j,trivial⟩) (Ew4 b d f i) (ws [])
    ·exact Lf (Bt (l:=[(5,_,_,_),(9,_,_,_),(14,_,_,_)]) ⟨Ai  c,Ai  e,Ai  g,trivial⟩) (Ew3 b d f) (ws [])
   ·exact Lf (o2 5 (Ai c) 9 (Ai e)) (Ew2 b d) (ws [])
  ·exact Lf (o1 5 (Ai c)) (Ew1 b) (ws [])
 intro o;exact Sr <|Rr
theorem Mj{a j r}(h:Dt a j=some r):Con B 74 [.agg [i64 a.Zo,i64 a.Zp,i64 a.Zq,i64 a.Zr,i64 a.Zs],i64 j] [] (fun r' σ'=>r'=.bool r∧σ'=[]):=by
 refine Cw 30 [.tmp 4] Tryz.func74 (fun F hE=>?_) h;unfold Dt;refine T0 [1,2] ?_;refine Tw [4] (fun k=>⟨Ao 30 [(4,.bool k)],[]⟩) ?_ ?_
 ·intro _;refine Bd fun o c=>?_
  refine Sp (fun b=>?_) fun b=>?_
  ·refine Bd fun p e=>?_
   refine Sp (fun d=>?_) fun d=>?_
   ·refine Bd fun q g=>?_
    refine Sp (fun f=>?_) fun f=>?_
    ·refine Bd fun s m=>?_
     refine Sp (fun i=>?_) fun i=>?_
     ·refine Bd fun t n=>?_
      exact Lf (Bt (l:=[(9,_,_,_),(13,_,_,_),(18,_,_,_),(23,_,_,_),(28,_,_,_)]) ⟨Ai  c,Ai  e,Ai  g,Ai  m,Ai  n,trivial⟩) (Ew4 b d f i) (ws [])
     ·exact Lf (Bt (l:=[(9,_,_,_),(13,_,_,_),(18,_,_,_),(23,_,_,_)]) ⟨Ai  c,Ai  e,Ai  g,Ai  m,trivial⟩) (Ew4 b d f i) (ws [])
    ·exact Lf (Bt (l:=[(9,_,_,_),(13,_,_,_),(18,_,_,_)]) ⟨Ai  c,Ai  e,Ai  g,trivial⟩) (Ew3 b d f) (ws [])
   ·exact Lf (o2 9 (Ai c) 13 (Ai e)) (Ew2 b d) (ws [])
  ·exact Lf (o1 9 (Ai c)) (Ew1 b) (ws [])
 intro k;exact Sr <|Rr
theorem LH{a r}(h:G0 a=some r):Con B 42 [.agg [i64 a.Zd1.1.Zw,i64 a.Zd1.1.To,i64 a.Zd1.2.1.Zw,i64 a.Zd1.2.1.To,i64 a.Zd1.2.2.1.Zw,i64 a.Zd1.2.2.1.To,i64 a.Zd1.2.2.2.1.Zw,i64 a.Zd1.2.2.2.1.To,i64 a.Zd1.2.2.2.2.1.Zw,i64 a.Zd1.2.2.2.2.1.To,i64 a.Zd1.2.2.2.2.2.1.Zw,i64 a.Zd1.2.2.2.2.2.1.To,i64 a.Zd1.2.2.2.2.2.2.Zw,i64 a.Zd1.2.2.2.2.2.2.To,.sl false (L H9 a.Ze1)]] [] (fun r' σ'=>r'=i64 r∧σ'=[]):=by
 refine Cw 62 [.tmp 2] Tryz.func42 (fun F hE=>?_) h;unfold G0;refine Lt fun b av =>Lt fun c aw =>Lt fun d ax =>Lt fun e ay =>Lt fun f az =>Te (σ':=[.box [i64 a.Zd1.1.Zw,i64 a.Zd1.1.To,i64 a.Zd1.2.1.Zw,i64 a.Zd1.2.1.To,i64 a.Zd1.2.2.1.Zw,i64 a.Zd1.2.2.1.To,i64 a.Zd1.2.2.2.1.Zw,i64 a.Zd1.2.2.2.1.To,i64 b,i64 a.Zd1.2.2.2.2.1.To,i64 c,i64 d,i64 e,i64 f,.sl false (L H9 a.Ze1)] false]) [1] Aa (Ew5 av aw ax ay az) ?_
 refine Jo (fun _=>⟨Ao 62 [(1,.ref 0 0)],[.box [i64 a.Zd1.1.Zw,i64 a.Zd1.1.To,i64 a.Zd1.2.1.Zw,i64 a.Zd1.2.1.To,i64 a.Zd1.2.2.1.Zw,i64 a.Zd1.2.2.1.To,i64 a.Zd1.2.2.2.1.Zw,i64 a.Zd1.2.2.2.1.To,i64 b,i64 a.Zd1.2.2.2.2.1.To,i64 c,i64 d,i64 e,i64 f,.sl false (L H9 a.Ze1)] false]⟩) ?_ ?_
 ·intro aN g;refine T0 [1,3] ?_;refine Sb ?_;refine Ul 17 ?_;refine Ug (m:=16) ?_;refine Sq <|T0 [1,3,8] ?_
  refine Ct <|Sk <|Tn <|Sq <|Sb <|?_
  have ac:InR 0 7:=by decide
  refine Te [1,3,4] Aa (Ev (by simp only[go_sem,ac,ac.2];exact AL)) ?_;refine Tw [1,3,29] (fun ad=>⟨Ao 62 [(1,.ref 0 0),(3,i64 0),(29,.bool ad)],[.box [i64 a.Zd1.1.Zw,i64 a.Zd1.1.To,i64 a.Zd1.2.1.Zw,i64 a.Zd1.2.1.To,i64 a.Zd1.2.2.1.Zw,i64 a.Zd1.2.2.1.To,i64 a.Zd1.2.2.2.1.Zw,i64 a.Zd1.2.2.2.1.To,i64 b,i64 a.Zd1.2.2.2.2.1.To,i64 c,i64 d,i64 e,i64 f,.sl false (L H9 a.Ze1)] false]⟩) ?_ ?_
  ·intro _;refine Sp (fun j=>?_) fun j=>?_
   ·exact Lf Aa (Ew1 j) (ws [0])
   ·refine Sp (fun u=>?_) fun u=>?_
    ·exact Lf Aa (Ew2 j u) (ws [0])
    ·exact Lf Aa (Ew2 j u) (ws [0])
  intro ad;refine Cd ?_ ?_
  ·refine T0 [2] ?_;exact Sr <|Br <|Tr <|Ur <|Br <|Jr g <|Rr
  ·refine Sk <|Bn <|Tn <|?_
   have aA:w64 1=1:=by decide
   refine Fe [1,3] Aa (Ew1 aA) ?_;refine Un ?_;refine Ug (m:=15) ?_;refine Sq <|T0 [1,3,8] ?_
   refine Ct <|Sk <|Tn <|Sq <|Sb <|?_
   have ae:InR 1 7:=by decide
   refine Te [1,3,4] Aa (Ev (by simp only[go_sem,ae,ae.2];exact AL)) ?_;refine Tw [1,3,29] (fun af=>⟨Ao 62 [(1,.ref 0 0),(3,i64 1),(29,.bool af)],[.box [i64 a.Zd1.1.Zw,i64 a.Zd1.1.To,i64 a.Zd1.2.1.Zw,i64 a.Zd1.2.1.To,i64 a.Zd1.2.2.1.Zw,i64 a.Zd1.2.2.1.To,i64 a.Zd1.2.2.2.1.Zw,i64 a.Zd1.2.2.2.1.To,i64 b,i64 a.Zd1.2.2.2.2.1.To,i64 c,i64 d,i64 e,i64 f,.sl false (L H9 a.Ze1)] false]⟩) ?_ ?_
   ·intro _;refine Sp (fun k=>?_) fun k=>?_
    ·exact Lf Aa (Ew1 k) (ws [0])
    ·refine Sp (fun v=>?_) fun v=>?_
     ·exact Lf Aa (Ew2 k v) (ws [0])
     ·exact Lf Aa (Ew2 k v) (ws [0])
   intro af;refine Cd ?_ ?_
   ·refine T0 [2] ?_;exact Sr <|Br <|Tr <|Ur <|Br <|Jr g <|Rr
   ·refine Sk <|Bn <|Tn <|?_
    have aB:w64 2=2:=by decide
    refine Fe [1,3] Aa (Ew1 aB) ?_;refine Un ?_;refine Ug (m:=14) ?_;refine Sq <|T0 [1,3,8] ?_
    refine Ct <|Sk <|Tn <|Sq <|Sb <|?_
    have ag:InR 2 7:=by decide
    refine Te [1,3,4] Aa (Ev (by simp only[go_sem,ag,ag.2];exact AL)) ?_;refine Tw [1,3,29] (fun ah=>⟨Ao 62 [(1,.ref 0 0),(3,i64 2),(29,.bool ah)],[.box [i64 a.Zd1.1.Zw,i64 a.Zd1.1.To,i64 a.Zd1.2.1.Zw,i64 a.Zd1.2.1.To,i64 a.Zd1.2.2.1.Zw,i64 a.Zd1.2.2.1.To,i64 a.Zd1.2.2.2.1.Zw,i64 a.Zd1.2.2.2.1.To,i64 b,i64 a.Zd1.2.2.2.2.1.To,i64 c,i64 d,i64 e,i64 f,.sl false (L H9 a.Ze1)] false]⟩) ?_ ?_
    ·intro _;refine Sp (fun l=>?_) fun l=>?_
     ·exact Lf Aa (Ew1 l) (ws [0])
     ·refine Sp (fun w=>?_) fun w=>?_
      ·exact Lf Aa (Ew2 l w) (ws [0])
      ·exact Lf Aa (Ew2 l w) (ws [0])
    intro ah;refine Cd ?_ ?_
    ·refine T0 [2] ?_;exact Sr <|Br <|Tr <|Ur <|Br <|Jr g <|Rr
    ·refine Sk <|Bn <|Tn <|?_
     have aC:w64 3=3:=by decide
     refine Fe [1,3] Aa (Ew1 aC) ?_;refine Un ?_;refine Ug (m:=13) ?_;refine Sq <|T0 [1,3,8] ?_
     refine Ct <|Sk <|Tn <|Sq <|Sb <|?_
     have ai:InR 3 7:=by decide
     refine Te [1,3,4] Aa (Ev (by simp only[go_sem,ai,ai.2];exact AL)) ?_;refine Tw [1,3,29] (fun aj=>⟨Ao 62 [(1,.ref 0 0),(3,i64 3),(29,.bool aj)],[.box [i64 a.Zd1.1.Zw,i64 a.Zd1.1.To,i64 a.Zd1.2.1.Zw,i64 a.Zd1.2.1.To,i64 a.Zd1.2.2.1.Zw,i64 a.Zd1.2.2.1.To,i64 a.Zd1.2.2.2.1.Zw,i64 a.Zd1.2.2.2.1.To,i64 b,i64 a.Zd1.2.2.2.2.1.To,i64 c,i64 d,i64 e,i64 f,.sl false (L H9 a.Ze1)] false]⟩) ?_ ?_
     ·intro _;refine Sp (fun n=>?_) fun n=>?_
      ·exact Lf Aa (Ew1 n) (ws [0])
      ·refine Sp (fun x=>?_) fun x=>?_
       ·exact Lf Aa (Ew2 n x) (ws [0])
       ·exact Lf Aa (Ew2 n x) (ws [0])
     intro aj;refine Cd ?_ ?_
     ·refine T0 [2] ?_;exact Sr <|Br <|Tr <|Ur <|Br <|Jr g <|Rr
     ·refine Sk <|Bn <|Tn <|?_
      have aD:w64 4=4:=by decide
      refine Fe [1,3] Aa (Ew1 aD) ?_;refine Un ?_;refine Ug (m:=12) ?_;refine Sq <|T0 [1,3,8] ?_
      refine Ct <|Sk <|Tn <|Sq <|Sb <|?_
      have ak:InR 4 7:=by decide
      refine Te [1,3,4] Aa (Ev (by simp only[go_sem,ak,ak.2];exact AL)) ?_;refine Tw [1,3,29] (fun al=>⟨Ao 62 [(1,.ref 0 0),(3,i64 4),(29,.bool al)],[.box [i64 a.Zd1.1.Zw,i64 a.Zd1.1.To,i64 a.Zd1.2.1.Zw,i64 a.Zd1.2.1.To,i64 a.Zd1.2.2.1.Zw,i64 a.Zd1.2.2.1.To,i64 a.Zd1.2.2.2.1.Zw,i64 a.Zd1.2.2.2.1.To,i64 b,i64 a.Zd1.2.2.2.2.1.To,i64 c,i64 d,i64 e,i64 f,.sl false (L H9 a.Ze1)] false]⟩) ?_ ?_
      ·intro _;refine Sp (fun o=>?_) fun o=>?_
       ·exact Lf Aa (Ew1 o) (ws [0])
       ·refine Sp (fun y=>?_) fun y=>?_
        ·exact Lf Aa (Ew2 o y) (ws [0])
        ·exact Lf Aa (Ew2 o y) (ws [0])
      intro al;refine Cd ?_ ?_
      ·refine T0 [2] ?_;exact Sr <|Br <|Tr <|Ur <|Br <|Jr g <|Rr
      ·refine Sk <|Bn <|Tn <|?_
       have aE:w64 5=5:=by decide
       refine Fe [1,3] Aa (Ew1 aE) ?_;refine Un ?_;refine Ug (m:=11) ?_;refine Sq <|T0 [1,3,8] ?_
       refine Ct <|Sk <|Tn <|Sq <|Sb <|?_
       have am:InR 5 7:=by decide
       refine Te [1,3,4] Aa (Ev (by simp only[go_sem,am,am.2];exact AL)) ?_;refine Tw [1,3,29] (fun an=>⟨Ao 62 [(1,.ref 0 0),(3,i64 5),(29,.bool an)],[.box [i64 a.Zd1.1.Zw,i64 a.Zd1.1.To,i64 a.Zd1.2.1.Zw,i64 a.Zd1.2.1.To,i64 a.Zd1.2.2.1.Zw,i64 a.Zd1.2.2.1.To,i64 a.Zd1.2.2.2.1.Zw,i64 a.Zd1.2.2.2.1.To,i64 b,i64 a.Zd1.2.2.2.2.1.To,i64 c,i64 d,i64 e,i64 f,.sl false (L H9 a.Ze1)] false]⟩) ?_ ?_
       ·intro _;refine Sp (fun p=>?_) fun p=>?_
        ·exact Lf Aa (Ew1 p) (ws [0])
        ·refine Sp (fun z=>?_) fun z=>?_
         ·exact Lf Aa (Ew2 p z) (ws [0])
         ·exact Lf Aa (Ew2 p z) (ws [0])
       intro an;refine Cd ?_ ?_
       ·refine T0 [2] ?_;exact Sr <|Br <|Tr <|Ur <|Br <|Jr g <|Rr
       ·refine Sk <|Bn <|Tn <|?_
        have aF:w64 6=6:=by decide
        refine Fe [1,3] Aa (Ew1 aF) ?_;refine Un ?_;refine Ug (m:=10) ?_;refine Sq <|T0 [1,3,8] ?_
        refine Ct <|Sk <|Tn <|Sq <|Sb <|?_
        have ao:InR 6 7:=by decide
        refine Te [1,3,4] Aa (Ev (by simp only[go_sem,ao,ao.2];exact AL)) ?_;refine Tw [1,3,29] (fun ap=>⟨Ao 62 [(1,.ref 0 0),(3,i64 6),(29,.bool ap)],[.box [i64 a.Zd1.1.Zw,i64 a.Zd1.1.To,i64 a.Zd1.2.1.Zw,i64 a.Zd1.2.1.To,i64 a.Zd1.2.2.1.Zw,i64 a.Zd1.2.2.1.To,i64 a.Zd1.2.2.2.1.Zw,i64 a.Zd1.2.2.2.1.To,i64 b,i64 a.Zd1.2.2.2.2.1.To,i64 c,i64 d,i64 e,i64 f,.sl false (L H9 a.Ze1)] false]⟩) ?_ ?_
        ·intro _;refine Sp (fun q=>?_) fun q=>?_
         ·exact Lf Aa (Ew1 q) (ws [0])
         ·refine Sp (fun aa=>?_) fun aa=>?_
          ·exact Lf Aa (Ew2 q aa) (ws [0])
          ·exact Lf Aa (Ew2 q aa) (ws [0])
        intro ap;refine Cd ?_ ?_
        ·refine T0 [2] ?_;exact Sr <|Br <|Tr <|Ur <|Br <|Jr g <|Rr
        ·refine Sk <|Bn <|Tn <|?_
         have aG:w64 7=7:=by decide
         refine Fe [1,3] Aa (Ew1 aG) ?_;refine Un ?_;refine Ug (m:=9) ?_;refine Sq <|T0 [1,3,8] ?_
         exact Cf <|Sx <|Tx <|Ux <|Bx <|Jn (ws [0])
 intro _;refine Jo (fun _=>⟨Ao 62 [],[]⟩) ?_ ?_
 ·intro aO aH;refine T0 [1,5] ?_;refine Sb ?_;refine Lo (fun s=>⟨Ao 62 [(1,.ref 0 0),(5,i64 s)],[.box [i64 a.Zd1.1.Zw,i64 a.Zd1.1.To,i64 a.Zd1.2.1.Zw,i64 a.Zd1.2.1.To,i64 a.Zd1.2.2.1.Zw,i64 a.Zd1.2.2.1.To,i64 a.Zd1.2.2.2.1.Zw,i64 a.Zd1.2.2.2.1.To,i64 b,i64 a.Zd1.2.2.2.2.1.To,i64 c,i64 d,i64 e,i64 f,.sl false (L H9 a.Ze1)] false]⟩) (ws [0]) ?_;rintro s aP aI aq ar;show Ek a s=some aI→_;unfold Ek;refine Sq <|T0 [1,5,34] ?_
  refine Cd ?_ ?_
  ·refine Sk <|Tn <|Sq <|Sb <|Ck fun aJ =>Lt fun aK aL =>Te (fr':=[(1,_),(5,_),(6,i64 aK)]) [1,5,6] Aa (Ew2 (qR aJ) aL) ?_
   refine Tw [1,5,61] (fun au=>⟨Ao 62 [(1,.ref 0 0),(5,i64 s),(61,.bool au)],[.box [i64 a.Zd1.1.Zw,i64 a.Zd1.1.To,i64 a.Zd1.2.1.Zw,i64 a.Zd1.2.1.To,i64 a.Zd1.2.2.1.Zw,i64 a.Zd1.2.2.1.To,i64 a.Zd1.2.2.2.1.Zw,i64 a.Zd1.2.2.2.1.To,i64 b,i64 a.Zd1.2.2.2.2.1.To,i64 c,i64 d,i64 e,i64 f,.sl false (L H9 a.Ze1)] false]⟩) ?_ ?_
   ·intro _;refine Sp (fun i=>?_) fun i=>?_
    ·exact Lf Aa (Ew1 i) (ws [0])
    ·refine Sp (fun t=>?_) fun t=>?_
     ·exact Lf Aa (Ew2 i t) (ws [0])
     ·refine Sp (fun ab=>?_) fun ab=>?_
      ·refine Ck fun aM=>?_
       exact Lf Aa (Ew4 i t ab (qR aM)) (ws [0])
      ·exact Lf Aa (Ew3 i t ab) (ws [0])
   intro au;refine Cd ?_ ?_
   ·refine T0 [2] ?_;exact Sr <|Br <|Tr <|Lr ar aq <|Br <|Jr aH <|Rr
   ·refine Sk <|Bn <|Tn <|F0 [1,5] ?_
    exact Ln (ws [0])
  ·refine Sx <|Tx <|Lx ar aq <|Bx <|?_
   exact Jn ((ws (l':=[]) (σ':=[]) []).trans (ws []))
 intro _;refine T0 [2] ?_;exact Sr <|Rr
theorem LF{c r}(h:GF c=some r):Con B 43 [u64 c] [] (fun r' σ'=>r'=.bool r∧σ'=[]):=by
 refine Cw 14 [.tmp 2] Tryz.func43 (fun F hE=>?_) h;unfold GF;refine T0 [0] ?_;refine Tw [2] (fun d=>⟨Ao 14 [(2,.bool d)],[]⟩) ?_ ?_
 ·intro _;refine Sp (fun a=>?_) fun a=>?_
  ·refine Sp (fun b=>?_) fun b=>?_
   ·refine Bd fun f e=>?_
    exact Lf (o1 11 (Jv e)) (Ew2 a b) (ws [])
   ·exact Lf Aa (Ew2 a b) (ws [])
  ·exact Lf Aa (Ew1 a) (ws [])
 intro d;exact Sr <|Rr
theorem Rk{a r}(h:I0 a=some r):Con B 76 [.sl false (L Ak a)] [] (fun r' σ'=>r'=i64 r∧σ'=[]):=by
 refine Cw 57 [.tmp 2] Tryz.func76 (fun F hE=>?_) h;unfold I0;refine T0 [0] ?_;refine Ck fun u =>Lt fun f w =>Te (fr':=[(0,_),(3,.bs true 0 (f.length) 0 (f.length))]) (σ':=[.buf 1 (L Pw f) false]) [0,3] Aa (Ew2 u w) ?_
 refine Jo (fun _=>⟨Ao 57 [],[]⟩) ?_ ?_
 ·intro ag n;refine T0 [0,3,4] ?_;refine Sb ?_;refine Lo (fun(v:Int×List Bool)=>(⟨Ao 57 [(0,.sl false (L Ak a)),(3,.bs true 0 (v.2.length) 0 (v.2.length)),(4,i64 v.1)],[.buf 1 (L Pw v.2) false]⟩:St)) (ws [0]) ?_;rintro⟨o,c⟩ ah x g i;show FN a o c=some x→_;unfold FN;refine Sq <|T0 [0,3,4,10] ?_
  refine Cd ?_ ?_
  ·refine Sk <|Tn <|Sq <|Sb <|Ck fun y =>Lt fun p z =>Lt fun q aa =>Lt fun s ab =>Te (σ':=[_,.box [i64 p,i64 q,i64 s] false]) [0,3,4,5] Aa (Ew4 (qR y) z aa ab) ?_
   refine Sq ?_;refine Tw [0,3,4,5,39] (fun t=>⟨Ao 57 [(0,.sl false (L Ak a)),(3,.bs true 0 (c.length) 0 (c.length)),(4,i64 o),(5,.ref 1 0),(39,.bool t)],[.buf 1 (L Pw c) false,.box [i64 p,i64 q,i64 s] false]⟩) ?_ ?_
   ·intro _;refine Bd fun ai d=>?_
    refine Sp (fun b=>?_) fun b=>?_
    ·exact Lf (o1 19 (Ai d)) (Ew1 b) (ws [0,1])
    ·refine Bd fun aj j=>?_
     refine Sp (fun e=>?_) fun e=>?_
     ·exact Lf (o2 19 (Ai d) 24 (Ai j)) (Ew2 b e) (ws [0,1])
     ·refine Sp (fun k=>?_) fun k=>?_
      ·exact Lf (o2 19 (Ai d) 24 (Ai j)) (Ew3 b e k) (ws [0,1])
      ·refine Bd fun ak ac=>?_
       exact Lf (Bt (l:=[(19,_,_,_),(24,_,_,_),(37,_,_,_)]) ⟨Ai  d,Ai  j,Ai  ac,trivial⟩) (Ew3 b e k) (ws [0,1])
   intro t;refine Cd ?_ ?_
   ·refine T0 [2] ?_;exact Sr <|Tr <|Br <|Tr <|Lr i g <|Br <|Jr n <|Rr
   ·refine Sk <|Tn <|Sq <|Ck fun ad =>Te [0,3,4,5,48] Aa (Ew1 (qR ad)) ?_
    refine Cd ?_ ?_
    ·refine T0 [2] ?_;exact Sr <|Tr <|Br <|Tr <|Lr i g <|Br <|Jr n <|Rr
    ·refine Sk <|Tn <|Ck fun ae =>Lt fun m af =>Fe (fr':=[(0,_),(3,.bs true 0 (m.length) 0 (m.length)),(4,_)]) (σ':=[.buf 1 (L Pw m) false,_]) [0,3,4] Aa (Ew2 (qR ae) af) ?_
     refine Bn <|Tn <|F0 [0,3,4] ?_
     exact Ln (ws [0])
  ·refine Sx <|Tx <|Lx i g <|Bx <|?_
   exact Jn ((ws (l':=[]) (σ':=[]) []).trans (ws []))
 intro _;refine T0 [2] ?_;exact Sr <|Rr
theorem TG{a r}(h:Ku a=some r):Con B 39 [.agg [.sl false (L Ac a.Zx),.sl false (L Af a.Zy),.sl false (L Al a.Zz),.sl false (L Ak a.Za1)]] [] (fun r' σ'=>r'=i64 r∧σ'=[]):=by
 refine Cw 106 [.tmp 2] Tryz.func39 (fun F hE=>?_) h;unfold Ku;refine T0 [1] ?_;refine Sq ?_;refine Tw [1,28] (fun o=>⟨Ao 106 [(1,.ref 0 0),(28,.bool o)],[.box [.sl false (L Ac a.Zx),.sl false (L Af a.Zy),.sl false (L Al a.Zz),.sl false (L Ak a.Za1)] false]⟩) ?_ ?_
 ·intro _;refine Sp (fun b=>?_) fun b=>?_
  ·exact Lf Aa (Ew1 b) (ws [0])
  ·refine Sp (fun d=>?_) fun d=>?_
   ·exact Lf Aa (Ew2 b d) (ws [0])
   ·refine Sp (fun i=>?_) fun i=>?_
    ·exact Lf Aa (Ew3 b d i) (ws [0])
    ·exact Lf Aa (Ew3 b d i) (ws [0])
 intro o;refine Cd ?_ ?_
 ·refine T0 [2] ?_;exact Sr <|Tr <|Rr
 ·refine Sk <|Tn <|?_
  refine Jo (fun _=>⟨Ao 106 [(1,.ref 0 0)],[.box [.sl false (L Ac a.Zx),.sl false (L Af a.Zy),.sl false (L Al a.Zz),.sl false (L Ak a.Za1)] false]⟩) ?_ ?_
  ·intro aq x;refine T0 [1,3] ?_;refine Sb ?_;refine Lo (fun j=>⟨Ao 106 [(1,.ref 0 0),(3,i64 j)],[.box [.sl false (L Ac a.Zx),.sl false (L Af a.Zy),.sl false (L Al a.Zz),.sl false (L Ak a.Za1)] false]⟩) (ws [0]) ?_;rintro j ar y p q;show E3 a j=some y→_;unfold E3;refine Sq <|T0 [1,3,33] ?_
   refine Cd ?_ ?_
   ·refine Sk <|Tn <|Sq <|Sb <|Ck fun z =>Bd fun au aa =>Te [1,3,42] (o1 41 (Mv aa)) (Ew1 (qR z)) ?_
    refine Cd ?_ ?_
    ·refine T0 [2] ?_;exact Sr <|Br <|Tr <|Lr q p <|Br <|Jr x <|Rr
    ·refine Sk <|Bn <|Tn <|F0 [1,3] ?_
     exact Ln (ws [0])
   ·refine Sx <|Tx <|Lx q p <|Bx <|?_
    exact Jn ((ws (l':=[(1,.ref 0 0)]) (σ':=[.box [.sl false (L Ac a.Zx),.sl false (L Af a.Zy),.sl false (L Al a.Zz),.sl false (L Ak a.Za1)] false]) [0]).trans (ws [0]))
  intro _;refine Jo (fun _=>⟨Ao 106 [(1,.ref 0 0)],[.box [.sl false (L Ac a.Zx),.sl false (L Af a.Zy),.sl false (L Al a.Zz),.sl false (L Ak a.Za1)] false]⟩) ?_ ?_
  ·intro av ab;refine T0 [1,4] ?_;refine Sb ?_;refine Lo (fun k=>⟨Ao 106 [(1,.ref 0 0),(4,i64 k)],[.box [.sl false (L Ac a.Zx),.sl false (L Af a.Zy),.sl false (L Al a.Zz),.sl false (L Ak a.Za1)] false]⟩) (ws [0]) ?_;rintro k aw ac s t;show Et a k=some ac→_;unfold Et;refine Sq <|T0 [1,4,47] ?_
   refine Cd ?_ ?_
   ·refine Sk <|Tn <|Sq <|Sb <|Ck fun ad =>Bd fun ax ae =>De [[],[0],[],[0,1,2],[0,1,2,3],[],[5],[5,6],[0,1,2,3,4,5,6,7],[0,1,2,3,4,5,6,7,8]] [1,4,59] (o1 58 (Mj ae)) (Ew1 (qR ad)) ?_
    refine Cd ?_ ?_
    ·refine T0 [2] ?_;exact Sr <|Br <|Tr <|Lr t s <|Br <|Jr ab <|Rr
    ·refine Sk <|Bn <|Tn <|F0 [1,4] ?_
     exact Ln (ws [0])
   ·refine Sx <|Tx <|Lx t s <|Bx <|?_
    exact Jn ((ws (l':=[(1,.ref 0 0)]) (σ':=[.box [.sl false (L Ac a.Zx),.sl false (L Af a.Zy),.sl false (L Al a.Zz),.sl false (L Ak a.Za1)] false]) [0]).trans (ws [0]))
  intro _;refine Jo (fun _=>⟨Ao 106 [(1,.ref 0 0)],[.box [.sl false (L Ac a.Zx),.sl false (L Af a.Zy),.sl false (L Al a.Zz),.sl false (L Ak a.Za1)] false]⟩) ?_ ?_
  ·intro ay af;refine T0 [1,5] ?_;refine Sb ?_;refine Lo (fun e=>⟨Ao 106 [(1,.ref 0 0),(5,i64 e)],[.box [.sl false (L Ac a.Zx),.sl false (L Af a.Zy),.sl false (L Al a.Zz),.sl false (L Ak a.Za1)] false]⟩) (ws [0]) ?_;rintro e az ag u v;show DY a e=some ag→_;unfold DY;refine Sq <|T0 [1,5,64] ?_
   refine Cd ?_ ?_
   ·refine Sk <|Tn <|Sq <|Sb <|Ck fun ah =>Lt fun ai aj =>Lt fun ak al =>Lt fun am an =>Te (σ':=[_,.box [i64 ai,i64 ak,i64 am] false]) [1,5,6] Aa (Ew4 (qR ah) aj al an) ?_
    refine Tw [1,5,102] (fun w=>⟨Ao 106 [(1,.ref 0 0),(5,i64 e),(102,.bool w)],[.box [.sl false (L Ac a.Zx),.sl false (L Af a.Zy),.sl false (L Al a.Zz),.sl false (L Ak a.Za1)] false]⟩) ?_ ?_
    ·intro _;refine Bd fun aA f=>?_
     refine Sp (fun c=>?_) fun c=>?_
     ·exact Lf (o1 78 (Ai f)) (Ew1 c) (ws [0])
     ·refine Bd fun aB m=>?_
      refine Sp (fun g=>?_) fun g=>?_
      ·exact Lf (o2 78 (Ai f) 87 (Ai m)) (Ew2 c g) (ws [0])
      ·refine Sp (fun n=>?_) fun n=>?_
       ·exact Lf (o2 78 (Ai f) 87 (Ai m)) (Ew3 c g n) (ws [0])
       ·refine Bd fun aC ao=>?_
        exact Lf (Bt (l:=[(78,_,_,_),(87,_,_,_),(100,_,_,_)]) ⟨Ai  f,Ai  m,Ai  ao,trivial⟩) (Ew3 c g n) (ws [0])
    intro w;refine Cd ?_ ?_
    ·refine T0 [2] ?_;exact Sr <|Br <|Tr <|Lr v u <|Br <|Jr af <|Rr
    ·refine Sk <|Bn <|Tn <|F0 [1,5] ?_
     exact Ln (ws [0])
   ·refine Sx <|Tx <|Lx v u <|Bx <|?_
    exact Jn ((ws (l':=[(1,.ref 0 0)]) (σ':=[.box [.sl false (L Ac a.Zx),.sl false (L Af a.Zy),.sl false (L Al a.Zz),.sl false (L Ak a.Za1)] false]) [0]).trans (ws [0]))
  intro _;refine Bd fun aD ap =>Te [2] (o1 105 (Rk ap)) Ev ?_
  exact Sr <|Rr
theorem Nw{a r}(h:Mh a=some r):Con B 40 [.agg (Ar a)] [] (fun r' σ'=>r'=.bool r∧σ'=[]):=by
 refine Cw 96 [.tmp 2] Tryz.func40 (fun F hE=>?_) h;unfold Mh;refine T0 [1] ?_;refine Lt fun b w =>Te (fr':=[(1,_),(3,i64 b)]) [1,3] Aa (Ew1 w) ?_
 refine Jo (fun _=>⟨Ao 96 [(1,.ref 0 0),(3,i64 b)],[.box (Ar a) false]⟩) ?_ ?_
 ·intro ap x;refine T0 [1,3,4] ?_;refine Sb ?_;refine Lo (fun d=>⟨Ao 96 [(1,.ref 0 0),(3,i64 b),(4,i64 d)],[.box (Ar a) false]⟩) (ws [0]) ?_;rintro d aq y l m;show Fb a b d=some y→_;unfold Fb;refine Sq <|T0 [1,3,4,16] ?_
  refine Cd ?_ ?_
  ·refine Sk <|Tn <|Sq <|Sb <|Ck fun z =>Lt fun aa ab =>Lt fun ac ad =>Lt fun ae af =>Te (σ':=[_,.box [i64 aa,i64 ac,i64 ae] false]) [1,3,4,5] Aa (Ew4 (qR z) ab ad af) ?_
   refine Tw [1,3,4,46] (fun n=>⟨Ao 96 [(1,.ref 0 0),(3,i64 b),(4,i64 d),(46,.bool n)],[.box (Ar a) false]⟩) ?_ ?_
   ·intro _;refine Bd fun ar e=>?_
    refine Sp (fun c=>?_) fun c=>?_
    ·exact Lf (o1 28 (Ai e)) (Ew1 c) (ws [0])
    ·refine Sp (fun f=>?_) fun f=>?_
     ·exact Lf (o1 28 (Ai e)) (Ew2 c f) (ws [0])
     ·refine Sp (fun i=>?_) fun i=>?_
      ·exact Lf (o1 28 (Ai e)) (Ew3 c f i) (ws [0])
      ·exact Lf (o1 28 (Ai e)) (Ew3 c f i) (ws [0])
   intro n;refine Cd ?_ ?_
   ·refine T0 [2] ?_;exact Sr <|Br <|Tr <|Lr m l <|Br <|Jr x <|Rr
   ·refine Sk <|Bn <|Tn <|F0 [1,3,4] ?_
    exact Ln (ws [0])
  ·refine Sx <|Tx <|Lx m l <|Bx <|?_
   exact Jn ((ws (l':=[(1,.ref 0 0),(3,i64 b)]) (σ':=[.box (Ar a) false]) [0]).trans (ws [0]))
 intro _;refine Jo (fun _=>⟨Ao 96 [(1,.ref 0 0),(3,i64 b)],[.box (Ar a) false]⟩) ?_ ?_
 ·intro au ag;refine T0 [1,3,6] ?_;refine Sb ?_;refine Lo (fun g=>⟨Ao 96 [(1,.ref 0 0),(3,i64 b),(6,i64 g)],[.box (Ar a) false]⟩) (ws [0]) ?_;rintro g av ah o p;show Fh a b g=some ah→_;unfold Fh;refine Sq <|T0 [1,3,6,51] ?_
  refine Cd ?_ ?_
  ·refine Sk <|Tn <|Sq <|Sb <|?_
   refine Dw [[],[0],[],[0,1,2],[0,1,2,3],[0,1,2,3,4],[],[6],[0,1,2,3,4,5,6,7],[0,1,2,3,4,5,6,7,8],[0,1,2,3,4,5,6,7,8,9],[0,1,2,3,4,5,6,7,8,9,10],[0,1,2,3,4,5,6,7,8,9,10,11],[0,1,2,3,4,5,6,7,8,9,10,11,12],[0,1,2,3,4,5,6,7,8,9,10],[0,1,2,3,4,5,6,7,8,9,10,14],[0,1,2,3,4,5,6,7,8,9,10],[0,1,2,3,4,5,6,7,8,9,10,14,15,16],[0,1,2,3,4,5,6,7,8,9,10,14,15,16,17],[0,1,2,3,4,5,6,7,8,9,10,14,15,16,17,18],[0,1,2,3,4,5,6,7,8,9,10,11,12,13,14,15,16,17,18,19],[0,1,2,3,4,5,6,7,8,9,10,11,12,13,14,15,16,17,18,19,20],[0,1,2,3,4,5,6,7,8,9,10,11,12,13,14,15,16,17,18,19,20,21],[0,1,2,3,4,5,6,7,8,9,10,11,12,13,14,15,16,17,18,19,20,21,22],[0,1,2,3,4,5,6,7,8,9,10,11,12,13,14,15,16,17,18,19,20,21,22,23]] [1,3,6,78] (fun q=>⟨Ao 96 [(1,.ref 0 0),(3,i64 b),(6,i64 g),(78,.bool q)],[.box (Ar a) false]⟩) ?_ ?_
   ·intro _;refine Ck fun s =>Bd fun aw t =>?_
    refine Sp (fun j=>?_) fun j=>?_
    ·exact Lf (o1 62 (Ai t)) (Ew2 (qR s) j) (ws [0])
    ·refine Ck fun ai =>Ck fun aj =>?_
     exact Lf (o1 62 (Ai t)) (Ew4 (qR s) j (qR ai) (qR aj)) (ws [0])
   intro q;refine Cd ?_ ?_
   ·refine T0 [2] ?_;exact Sr <|Br <|Tr <|Lr p o <|Br <|Jr ag <|Rr
   ·refine Sk <|Bn <|Tn <|F0 [1,3,6] ?_
    exact Ln (ws [0])
  ·refine Sx <|Tx <|Lx p o <|Bx <|?_
   exact Jn ((ws (l':=[(1,.ref 0 0),(3,i64 b)]) (σ':=[.box (Ar a) false]) [0]).trans (ws [0]))
 intro _;refine Jo (fun _=>⟨Ao 96 [],[]⟩) ?_ ?_
 ·intro ax ak;refine T0 [1,3,7] ?_;refine Sb ?_;refine Lo (fun k=>⟨Ao 96 [(1,.ref 0 0),(3,i64 b),(7,i64 k)],[.box (Ar a) false]⟩) (ws [0]) ?_;rintro k ay al u v;show Fg a b k=some al→_;unfold Fg;refine Sq <|T0 [1,3,7,84] ?_
  refine Cd ?_ ?_
  ·refine Sk <|Tn <|Sq <|Sb <|Ck fun am =>Lt fun an ao =>Te (fr':=[(1,_),(3,_),(7,_),(95,.bool an)]) [1,3,7,95] Aa (Ew2 (qR am) ao) ?_
   refine Cd ?_ ?_
   ·refine T0 [2] ?_;exact Sr <|Br <|Tr <|Lr v u <|Br <|Jr ak <|Rr
   ·refine Sk <|Bn <|Tn <|F0 [1,3,7] ?_
    exact Ln (ws [0])
  ·refine Sx <|Tx <|Lx v u <|Bx <|?_
   exact Jn ((ws (l':=[]) (σ':=[]) []).trans (ws []))
 intro _;refine T0 [2] ?_;exact Sr <|Rr
theorem T9{a r}(h:Kv a=some r):Con B 41 [.agg (Ar a)] [] (fun r' σ'=>r'=.bool r∧σ'=[]):=by
 refine Cw 51 [.tmp 2] Tryz.func41 (fun F hE=>?_) h;unfold Kv;refine T0 [1] ?_;refine Lt fun b l =>Te (fr':=[(1,_),(3,i64 b)]) [1,3] Aa (Ew1 l) ?_
 refine Jo (fun _=>⟨Ao 51 [(1,.ref 0 0),(3,i64 b)],[.box (Ar a) false]⟩) ?_ ?_
 ·intro ab m;refine T0 [1,3,4] ?_;refine Sb ?_;refine Lo (fun c=>⟨Ao 51 [(1,.ref 0 0),(3,i64 b),(4,i64 c)],[.box (Ar a) false]⟩) (ws [0]) ?_;rintro c ac n f g;show Ec a b c=some n→_;unfold Ec;refine Sq <|T0 [1,3,4,15] ?_
  refine Cd ?_ ?_
  ·refine Sk <|Tn <|Sq <|Sb <|Ck fun o =>Lt fun p q =>Lt fun s t =>Lt fun u v =>Te (σ':=[_,.box [i64 p,i64 s,i64 u] false]) [1,3,4,5] Aa (Ew4 (qR o) q t v) ?_
   refine Tw [1,3,4,33] (fun i=>⟨Ao 51 [(1,.ref 0 0),(3,i64 b),(4,i64 c),(33,.bool i)],[.box (Ar a) false]⟩) ?_ ?_
   ·intro _;refine Sp (fun d=>?_) fun d=>?_
    ·exact Lf Aa (Ew1 d) (ws [0])
    ·exact Lf Aa (Ew1 d) (ws [0])
   intro i;refine Cd ?_ ?_
   ·refine T0 [2] ?_;exact Sr <|Br <|Tr <|Lr g f <|Br <|Jr m <|Rr
   ·refine Sk <|Bn <|Tn <|F0 [1,3,4] ?_
    exact Ln (ws [0])
  ·refine Sx <|Tx <|Lx g f <|Bx <|?_
   exact Jn ((ws (l':=[(1,.ref 0 0),(3,i64 b)]) (σ':=[.box (Ar a) false]) [0]).trans (ws [0]))
 intro _;refine Jo (fun _=>⟨Ao 51 [],[]⟩) ?_ ?_
 ·intro ad w;refine T0 [1,3,6] ?_;refine Sb ?_;refine Lo (fun e=>⟨Ao 51 [(1,.ref 0 0),(3,i64 b),(6,i64 e)],[.box (Ar a) false]⟩) (ws [0]) ?_;rintro e ae x j k;show E8 a b e=some x→_;unfold E8;refine Sq <|T0 [1,3,6,39] ?_
  refine Cd ?_ ?_
  ·refine Sk <|Tn <|Sq <|Sb <|Ck fun y =>Lt fun z aa =>Te (fr':=[(1,_),(3,_),(6,_),(50,.bool z)]) [1,3,6,50] Aa (Ew2 (qR y) aa) ?_
   refine Cd ?_ ?_
   ·refine T0 [2] ?_;exact Sr <|Br <|Tr <|Lr k j <|Br <|Jr w <|Rr
   ·refine Sk <|Bn <|Tn <|F0 [1,3,6] ?_
    exact Ln (ws [0])
  ·refine Sx <|Tx <|Lx k j <|Bx <|?_
   exact Jn ((ws (l':=[]) (σ':=[]) []).trans (ws []))
 intro _;refine T0 [2] ?_;exact Sr <|Rr
theorem MO{a r}(h:EG a=some r):Con B 13 [.agg (Ar a)] [] (fun r' σ'=>r'=i64 r∧σ'=[]):=by
 refine Cw 70 [.tmp 2] Tryz.func13 (fun F hE=>?_) h;unfold EG;refine T0 [1] ?_;refine Bd fun x p =>Te [1,3] (o1 7 (TV p)) Ev ?_
 refine Sq <|T0 [1,3,9] ?_
 refine Cd ?_ ?_
 ·refine T0 [2] ?_;exact Sr <|Tr <|Rr
 ·refine Sk <|Tn <|Bd fun y q =>Te [1,3] (o1 13 (TG q)) Ev ?_
  refine Sq <|T0 [1,3,15] ?_
  refine Cd ?_ ?_
  ·refine T0 [2] ?_;exact Sr <|Tr <|Rr
  ·refine Sk <|Tn <|Sq <|?_
   refine Tw [1,32] (fun g=>⟨Ao 70 [(1,.ref 0 0),(32,.bool g)],[.box (Ar a) false]⟩) ?_ ?_
   ·intro _;refine Sp (fun b=>?_) fun b=>?_
    ·exact Lf Aa (Ew1 b) (ws [0])
    ·refine Sp (fun d=>?_) fun d=>?_
     ·exact Lf Aa (Ew2 b d) (ws [0])
     ·exact Lf Aa (Ew2 b d) (ws [0])
   intro g;refine Cd ?_ ?_
   ·refine T0 [2] ?_;exact Sr <|Tr <|Rr
   ·refine Sk <|Tn <|Sq <|?_
    refine Tw [1,40] (fun i=>⟨Ao 70 [(1,.ref 0 0),(40,.bool i)],[.box (Ar a) false]⟩) ?_ ?_
    ·intro _;refine Bd fun z j=>?_
     refine Sp (fun e=>?_) fun e=>?_
     ·exact Lf (o1 34 (Nw j)) (Ew1 e) (ws [0])
     ·refine Bd fun aa s=>?_
      exact Lf (o2 34 (Nw j) 38 (T9 s)) (Ew1 e) (ws [0])
    intro i;refine Cd ?_ ?_
    ·refine T0 [2] ?_;exact Sr <|Tr <|Rr
    ·refine Sk <|Tn <|?_
     refine Jo (fun _=>⟨Ao 70 [(1,.ref 0 0)],[.box (Ar a) false]⟩) ?_ ?_
     ·intro ab t;refine T0 [1,4] ?_;refine Sb ?_;refine Lo (fun c=>⟨Ao 70 [(1,.ref 0 0),(4,i64 c)],[.box (Ar a) false]⟩) (ws [0]) ?_;rintro c ac u k l;show CF a c=some u→_;unfold CF;refine Sq <|T0 [1,4,45] ?_
      refine Cd ?_ ?_
      ·refine Sk <|Tn <|Sq <|Sb <|?_
       refine Tw [1,4,65] (fun m=>⟨Ao 70 [(1,.ref 0 0),(4,i64 c),(65,.bool m)],[.box (Ar a) false]⟩) ?_ ?_
       ·intro _;refine Ck fun n =>Bd fun ad o =>?_
        refine Sp (fun f=>?_) fun f=>?_
        ·exact Lf (o1 54 (LH o)) (Ew2 (qR n) f) (ws [0])
        ·refine Ck fun v =>Bd fun ae w =>?_
         exact Lf (o2 54 (LH o) 63 (LF w)) (Ew3 (qR n) f (qR v)) (ws [0])
       intro m;refine Cd ?_ ?_
       ·refine T0 [2] ?_;exact Sr <|Br <|Tr <|Lr l k <|Br <|Jr t <|Rr
       ·refine Sk <|Bn <|Tn <|F0 [1,4] ?_
        exact Ln (ws [0])
      ·refine Sx <|Tx <|Lx l k <|Bx <|?_
       exact Jn ((ws (l':=[(1,.ref 0 0)]) (σ':=[.box (Ar a) false]) [0]).trans (ws [0]))
     intro _;refine Sq <|T0 [69] ?_
     refine Cd ?_ ?_
     ·refine T0 [2] ?_;exact Sr <|Tr <|Rr
     ·refine Sk <|Tn <|T0 [2] ?_
      exact Sr <|Rr
theorem UB{a r}(h:F3 a=some r):Con B 109 [i64 a] [] (fun r' σ'=>r'=.str r∧σ'=[]):=by
 refine Cw 30 [.tmp 2] Tryz.func109 (fun F hE=>?_) h;unfold F3;refine T0 [0] ?_;refine Sq <|T0 [3] ?_
 refine Sb <|T0 [3,4] ?_
 refine Cd ?_ ?_
 ·refine T0 [2] ?_;exact Sr <|Br <|Tr <|Rr
 ·refine T0 [3,6] ?_;refine Cd ?_ ?_
  ·refine T0 [2] ?_;exact Sr <|Br <|Tr <|Rr
  ·refine Ja (fun b=>⟨Ao 30 [(3,i64 a),(8,.bool b)],[]⟩) ?_ ?_
   ·intro d;refine T0 [3,8] ?_;refine Cd ?_ ?_
    ·exact Sk <|Jm (ws [])
    ·refine F0 [3,8] ?_;exact Jm (ws [])
   intro b;refine Cd ?_ ?_
   ·refine T0 [2] ?_;exact Sr <|Br <|Tr <|Rr
   ·refine T0 [3,11] ?_;refine Cd ?_ ?_
    ·refine T0 [2] ?_;exact Sr <|Br <|Tr <|Rr
    ·refine T0 [3,13] ?_;refine Cd ?_ ?_
     ·refine T0 [2] ?_;exact Sr <|Br <|Tr <|Rr
     ·refine T0 [3,15] ?_;refine Cd ?_ ?_
      ·refine T0 [2] ?_;exact Sr <|Br <|Tr <|Rr
      ·refine T0 [3,17] ?_;refine Cd ?_ ?_
       ·refine T0 [2] ?_;exact Sr <|Br <|Tr <|Rr
       ·refine T0 [3,19] ?_;refine Cd ?_ ?_
        ·refine T0 [2] ?_;exact Sr <|Br <|Tr <|Rr
        ·refine T0 [3,21] ?_;refine Cd ?_ ?_
         ·refine T0 [2] ?_;exact Sr <|Br <|Tr <|Rr
         ·refine Ja (fun c=>⟨Ao 30 [(3,i64 a),(23,.bool c)],[]⟩) ?_ ?_
          ·intro e;refine T0 [3,23] ?_;refine Cd ?_ ?_
           ·exact Sk <|Jm (ws [])
           ·refine F0 [3,23] ?_;exact Jm (ws [])
          intro c;refine Cd ?_ ?_
          ·refine T0 [2] ?_;exact Sr <|Br <|Tr <|Rr
          ·refine T0 [3,26] ?_;refine Cd ?_ ?_
           ·refine T0 [2] ?_;exact Sr <|Br <|Tr <|Rr
           ·refine T0 [28] ?_;refine Cd ?_ ?_
            ·refine T0 [2] ?_;exact Sr <|Br <|Tr <|Rr
            ·refine Sk <|Bn <|Tn <|T0 [2] ?_
             exact Sr <|Rr
theorem Aw{b c d r}(h:AC b c d=some r):Con B 110 [i64 b,i64 c,i64 d] [] (fun r' σ'=>r'=.bool r∧σ'=[]):=by
 refine Cw 15 [.tmp 6] Tryz.func110 (fun F hE=>?_) h;unfold AC;refine T0 [0,1,2] ?_;refine Tw [6] (fun e=>⟨Ao 15 [(6,.bool e)],[]⟩) ?_ ?_
 ·intro _;refine Sp (fun a=>?_) fun a=>?_
  ·exact Lf Aa (Ew1 a) (ws [])
  ·exact Lf Aa (Ew1 a) (ws [])
 intro e;exact Sr <|Rr
theorem Mq{b r}(h:Dc b=some r):Con B 111 [.agg (A1 b)] [] (fun r' σ'=>r'=.bool r∧σ'=[]):=by
 refine Cw 20 [.tmp 2] Tryz.func111 (fun F hE=>?_) h;unfold Dc;refine T0 [1] ?_;refine Sq <|T0 [1,6] ?_
 refine Cd ?_ ?_
 ·refine T0 [2] ?_;exact Sr <|Tr <|Rr
 ·refine Sk <|Tn <|?_
  refine Tw [2] (fun c=>⟨Ao 20 [(2,.bool c)],[]⟩) ?_ ?_
  ·intro _;refine Bd fun f d=>?_
   refine Sp (fun a=>?_) fun a=>?_
   ·refine Bd fun g e=>?_
    exact Lf (o2 13 (Aw d) 18 (Aw e)) (Ew1 a) (ws [])
   ·exact Lf (o1 13 (Aw d)) (Ew1 a) (ws [])
  intro c;exact Sr <|Rr
theorem BE{a b r}(h:Kn a b=some r):Con B 112 [.str a,u8 b] [] (fun r' σ'=>r'=.bool r∧σ'=[]):=by
 refine Cw 17 [.tmp 4] Tryz.func112 (fun F hE=>?_) h;unfold Kn;refine T0 [0,1] ?_;refine Jo (fun _=>⟨Ao 17 [],[]⟩) ?_ ?_
 ·intro j f;refine T0 [0,1,5] ?_;refine Sb ?_;refine Lo (fun c=>⟨Ao 17 [(0,.str a),(1,u8 b),(5,i64 c)],[]⟩) (ws []) ?_;rintro c k g d e;show Hu a b c=some g→_;unfold Hu;refine Sq <|T0 [0,1,5,9] ?_
  refine Cd ?_ ?_
  ·refine Sk <|Tn <|Sq <|Sb <|Ck fun i =>Te [0,1,5,16] Aa (Ew1 (qR i)) ?_
   refine Cd ?_ ?_
   ·refine T0 [4] ?_;exact Sr <|Br <|Tr <|Lr e d <|Br <|Jr f <|Rr
   ·refine Sk <|Bn <|Tn <|F0 [0,1,5] ?_
    exact Ln (ws [])
  ·refine Sx <|Tx <|Lx e d <|Bx <|?_
   exact Jn ((ws (l':=[]) (σ':=[]) []).trans (ws []))
 intro _;refine T0 [4] ?_;exact Sr <|Rr
theorem Tm{b a r}(h:Kq b a=some r):Con B 134 [.agg (Ar b),.agg (A1 a)] [] (fun r' σ'=>r'=.bool r∧σ'=[]):=by
 refine Cw 34 [.tmp 4] Tryz.func134 (fun F hE=>?_) h;unfold Kq;refine T0 [2,3] ?_;refine Sq <|Bd fun i e =>Te [2,3,14] (o1 13 (Aw e)) Ev ?_
 refine Cd ?_ ?_
 ·refine T0 [4] ?_;exact Sr <|Tr <|Rr
 ·refine Sk <|Tn <|Ck fun f =>Lt fun c g =>Te (fr':=[(3,_),(5,i64 c)]) [3,5] Aa (Ew2 (qR f) g) ?_
  refine Sq <|T0 [5,24] ?_
  refine Sb ?_;refine Ja (fun d=>⟨Ao 34 [(5,i64 c),(24,i64 a.Za),(25,.bool d)],[]⟩) ?_ ?_
  ·intro j;refine T0 [5,24,25] ?_;refine Cd ?_ ?_
   ·exact Sk <|Jm (ws [])
   ·refine F0 [5,24,25] ?_;exact Jm (ws [])
  intro d;refine Cd ?_ ?_
  ·refine T0 [4] ?_;exact Sr <|Br <|Tr <|Rr
  ·refine T0 [5,30] ?_;refine Cd ?_ ?_
   ·refine T0 [4] ?_;exact Sr <|Br <|Tr <|Rr
   ·refine Sk <|Bn <|Tn <|T0 [4] ?_
    exact Sr <|Rr
theorem SX{b a r}(h:Kf b a=some r):Con B 135 [.agg (Ar b),.agg (A1 a)] [] (fun r' σ'=>r'=.bool r∧σ'=[]):=by
 refine Cw 51 [.tmp 4] Tryz.func135 (fun F hE=>?_) h;unfold Kf;refine T0 [2,3] ?_;refine Sq <|T0 [2,3,7] ?_
 refine Sb <|T0 [2,3,7,8] ?_
 refine Cd ?_ ?_
 ·refine Bd fun q f =>Te [4] (o1 16 (Aw f)) Ev ?_
  exact Sr <|Br <|Tr <|Rr
 ·refine Ja (fun d=>⟨Ao 51 [(2,.ref 0 0),(3,.ref 1 0),(7,i64 a.Za),(17,.bool d)],[.box (Ar b) false,.box (A1 a) false]⟩) ?_ ?_
  ·intro s;refine T0 [2,3,7,17] ?_;refine Cd ?_ ?_
   ·exact Sk <|Jm (ws [0,1])
   ·refine F0 [2,3,7,17] ?_;exact Jm (ws [0,1])
  intro d;refine Cd ?_ ?_
  ·refine Ck fun g =>Lt fun i j =>Lt fun k l =>Lt fun m n =>Te (σ':=[_,_,.box [i64 i,i64 k,i64 m] false]) [3,5] Aa (Ew4 (qR g) j l n) ?_
   refine Tw [4] (fun e=>⟨Ao 51 [(4,.bool e)],[]⟩) ?_ ?_
   ·intro _;refine Sp (fun c=>?_) fun c=>?_
    ·exact Lf Aa (Ew1 c) (ws [])
    ·exact Lf Aa (Ew1 c) (ws [])
   intro e;exact Sr <|Br <|Tr <|Rr
  ·refine T0 [2,3,39] ?_;refine Cd ?_ ?_
   ·refine Bd fun t o =>Te [4] (o1 43 (Aw o)) Ev ?_
    exact Sr <|Br <|Tr <|Rr
   ·refine Sk <|Bn <|Tn <|Bd fun u p =>Te [4] (o1 50 (Aw p)) Ev ?_
    exact Sr <|Rr
theorem R1{a b r}(h:I9 a b=some r):Con B 136 [.agg (Ar a),.agg (A1 b)] [] (fun r' σ'=>r'=.bool r∧σ'=[]):=by
 refine Cw 25 [.tmp 4] Tryz.func136 (fun F hE=>?_) h;unfold I9;refine T0 [2,3] ?_;refine Sq <|T0 [2,3,6] ?_
 refine Sb <|T0 [2,3,6,7] ?_
 refine Cd ?_ ?_
 ·refine Bd fun f c =>Te [4] (o1 11 (Aw c)) Ev ?_
  exact Sr <|Br <|Tr <|Rr
 ·refine T0 [2,3,12] ?_;refine Cd ?_ ?_
  ·refine Bd fun g d =>Te [4] (o1 21 (Aw d)) Ev ?_
   exact Sr <|Br <|Tr <|Rr
  ·refine Sk <|Bn <|Tn <|Bd fun i e =>Te [4] (o1 24 (Aw e)) Ev ?_
   exact Sr <|Rr
theorem VM{a r}(h:Mn a=some r):Con B 137 [.agg (A1 a)] [] (fun r' σ'=>r'=.bool r∧σ'=[]):=by
 refine Cw 24 [.tmp 2] Tryz.func137 (fun F hE=>?_) h;unfold Mn;refine T0 [1] ?_;refine Sq <|T0 [1,4] ?_
 refine Sb ?_;refine Ja (fun b=>⟨Ao 24 [(1,.ref 0 0),(4,i64 a.Za),(5,.bool b)],[.box (A1 a) false]⟩) ?_ ?_
 ·intro g;refine T0 [1,4,5] ?_;refine Cd ?_ ?_
  ·exact Sk <|Jm (ws [0])
  ·refine F0 [1,4,5] ?_;exact Jm (ws [0])
 intro b;refine Cd ?_ ?_
 ·refine Bd fun i c =>Te [2] (o1 10 (Aw c)) Ev ?_
  exact Sr <|Br <|Tr <|Rr
 ·refine T0 [1,4,11] ?_;refine Cd ?_ ?_
  ·refine Bd fun j d =>Te [2] (o1 15 (Aw d)) Ev ?_
   exact Sr <|Br <|Tr <|Rr
  ·refine T0 [1,16] ?_;refine Cd ?_ ?_
   ·refine Bd fun k e =>Te [2] (o1 20 (Aw e)) Ev ?_
    exact Sr <|Br <|Tr <|Rr
   ·refine Sk <|Bn <|Tn <|Bd fun l f =>Te [2] (o1 23 (Aw f)) Ev ?_
    exact Sr <|Rr
theorem IK{a b c r}(h:Kb a b c=some r):Con B 113 [.agg (Ar a),.agg (A1 b),u8 c] [] (fun r' σ'=>r'=.bool r∧σ'=[]):=by
 refine Cw 78 [.tmp 6] Tryz.func113 (fun F hE=>?_) h;unfold Kb;refine T0 [2,3,4] ?_;refine Sq <|T0 [3,4,7] ?_
 refine Sb <|T0 [3,4,7,8] ?_
 refine Cd ?_ ?_
 ·refine Bd fun q d =>Te [6] (o1 17 (Aw d)) Ev ?_
  exact Sr <|Br <|Tr <|Rr
 ·refine T0 [3,4,7,18] ?_;refine Cd ?_ ?_
  ·refine Bd fun s e =>Te [6] (o1 22 (Tm e)) Ev ?_
   exact Sr <|Br <|Tr <|Rr
  ·refine T0 [3,4,7,23] ?_;refine Cd ?_ ?_
   ·refine Bd fun t f =>Te [6] (o1 27 (SX f)) Ev ?_
    exact Sr <|Br <|Tr <|Rr
   ·refine T0 [3,4,7,28] ?_;refine Cd ?_ ?_
    ·refine Bd fun u g =>Te [6] (o1 32 (R1 g)) Ev ?_
     exact Sr <|Br <|Tr <|Rr
    ·refine T0 [3,4,7,33] ?_;refine Cd ?_ ?_
     ·refine Bd fun v i =>Te [6] (o1 37 (Aw i)) Ev ?_
      exact Sr <|Br <|Tr <|Rr
     ·refine T0 [3,4,7,38] ?_;refine Cd ?_ ?_
      ·refine Bd fun w j =>Te [6] (o1 44 (Aw j)) Ev ?_
       exact Sr <|Br <|Tr <|Rr
      ·refine T0 [3,4,7,45] ?_;refine Cd ?_ ?_
       ·refine Bd fun x k =>Te [6] (o1 48 (VM k)) Ev ?_
        exact Sr <|Br <|Tr <|Rr
       ·refine T0 [3,4,7,49] ?_;refine Cd ?_ ?_
        ·refine Bd fun y l =>Te [6] (o1 58 (Aw l)) Ev ?_
         exact Sr <|Br <|Tr <|Rr
        ·refine T0 [4,7,59] ?_;refine Cd ?_ ?_
         ·refine Bd fun z m =>Te [6] (o1 63 (Aw m)) Ev ?_
          exact Sr <|Br <|Tr <|Rr
         ·refine T0 [4,64] ?_;refine Cd ?_ ?_
          ·refine Sq <|T0 [4,68] ?_
           refine Cd ?_ ?_
           ·refine Bd fun aa n =>Te [6] (o1 71 (Aw n)) Ev ?_
            exact Sr <|Tr <|Br <|Tr <|Rr
           ·refine Sk <|Tn <|Bd fun ab o =>Te [6] (o1 74 (Aw o)) Ev ?_
            exact Sr <|Br <|Tr <|Rr
          ·refine Sk <|Bn <|Tn <|Bd fun ac p =>Te [6] (o1 77 (Aw p)) Ev ?_
           exact Sr <|Rr
theorem Jc{a r}(h:JE a=some r):Con B 114 [.agg (A1 a)] [] (fun r' σ'=>r'=.bool r∧σ'=[]):=by
 refine Cw 51 [.tmp 2] Tryz.func114 (fun F hE=>?_) h;unfold JE;refine T0 [1] ?_;refine Sq ?_;refine Tw [1,19] (fun k=>⟨Ao 51 [(1,.ref 0 0),(19,.bool k)],[.box (A1 a) false]⟩) ?_ ?_
 ·intro _;refine Sp (fun c=>?_) fun c=>?_
  ·exact Lf Aa (Ew1 c) (ws [0])
  ·refine Sp (fun g=>?_) fun g=>?_
   ·exact Lf Aa (Ew2 c g) (ws [0])
   ·exact Lf Aa (Ew2 c g) (ws [0])
 intro k;refine Cd ?_ ?_
 ·refine T0 [2] ?_;exact Sr <|Tr <|Rr
 ·refine Sk <|Tn <|?_
  refine Jo (fun _=>⟨Ao 51 [],[]⟩) ?_ ?_
  ·intro y o;refine T0 [1,3] ?_;refine Sb ?_;refine Lo (fun d=>⟨Ao 51 [(1,.ref 0 0),(3,i64 d)],[.box (A1 a) false]⟩) (ws [0]) ?_;rintro d z p l m;show Ej a d=some p→_;unfold Ej;refine Sq <|T0 [1,3,24] ?_
   refine Cd ?_ ?_
   ·refine Sk <|Tn <|Sq <|Sb <|Ck fun q =>Lt fun s t =>Lt fun u v =>Lt fun w x =>Te (σ':=[_,.box [i64 s,i64 u,.bool w] false]) [1,3,4] Aa (Ew4 (qR q) t v x) ?_
    refine Tw [1,3,50] (fun n=>⟨Ao 51 [(1,.ref 0 0),(3,i64 d),(50,.bool n)],[.box (A1 a) false]⟩) ?_ ?_
    ·intro _;refine Bd fun aa e=>?_
     refine Sp (fun b=>?_) fun b=>?_
     ·exact Lf (o1 34 (Aw e)) (Ew1 b) (ws [0])
     ·refine Bd fun ab i=>?_
      refine Sp (fun f=>?_) fun f=>?_
      ·exact Lf (o2 34 (Aw e) 39 (Aw i)) (Ew2 b f) (ws [0])
      ·refine Sp (fun j=>?_) fun j=>?_
       ·exact Lf (o2 34 (Aw e) 39 (Aw i)) (Ew3 b f j) (ws [0])
       ·exact Lf (o2 34 (Aw e) 39 (Aw i)) (Ew3 b f j) (ws [0])
    intro n;refine Cd ?_ ?_
    ·refine T0 [2] ?_;exact Sr <|Br <|Tr <|Lr m l <|Br <|Jr o <|Rr
    ·refine Sk <|Bn <|Tn <|F0 [1,3] ?_
     exact Ln (ws [0])
   ·refine Sx <|Tx <|Lx m l <|Bx <|?_
    exact Jn ((ws (l':=[]) (σ':=[]) []).trans (ws []))
  intro _;refine T0 [2] ?_;exact Sr <|Rr
theorem TL{c a r}(h:Hz c a=some r):Con B 67 [.agg (Ar c),.agg (A1 a)] [] (fun r' σ'=>r'=.bool r∧σ'=[]):=by
 refine Cw 77 [.tmp 4] Tryz.func67 (fun F hE=>?_) h;unfold Hz;refine T0 [2,3] ?_;refine Bd fun b ah =>Te [2,3,5] (o1 10 (UB ah)) Ev ?_
 refine Sq ?_;refine Tw [2,3,5,19] (fun v=>⟨Ao 77 [(2,.ref 0 0),(3,.ref 1 0),(5,.str b),(19,.bool v)],[.box (Ar c) false,.box (A1 a) false]⟩) ?_ ?_
 ·intro _;refine Bd fun ar w=>?_
  refine Sp (fun m=>?_) fun m=>?_
  ·exact Lf (o1 13 (Aw w)) (Ew1 m) (ws [0,1])
  ·refine Bd fun au ai=>?_
   exact Lf (o2 13 (Aw w) 17 (Mq ai)) (Ew1 m) (ws [0,1])
 intro v;refine Cd ?_ ?_
 ·refine T0 [4] ?_;exact Sr <|Tr <|Rr
 ·refine Sk <|Tn <|?_
  refine Jo (fun _=>⟨Ao 77 [(3,.ref 0 0),(5,.str b)],[.box (A1 a) false]⟩) ?_ ?_
  ·intro av aj;refine T0 [2,3,5,6] ?_;refine Sb ?_;refine Lo (fun i=>⟨Ao 77 [(2,.ref 0 0),(3,.ref 1 0),(5,.str b),(6,i64 i)],[.box (Ar c) false,.box (A1 a) false]⟩) (ws [0,1]) ?_;rintro i aw ak x y;show Eg c a b i=some ak→_;unfold Eg;refine Sq <|T0 [2,3,5,6,21] ?_
   refine Cd ?_ ?_
   ·refine Sk <|Tn <|Sq <|Sb <|Ck fun z =>?_
    have aa:=z;simp only[Atj,AtH,Ate,Ati,Atr,AtN,Nat.reduceAdd]at aa;refine Lt fun al am =>Te (fr':=[(2,_),(3,_),(5,_),(6,_),(7,u8 al)]) [2,3,5,6,7] Aa (Ew3 (qR z) aa am) ?_
    refine Tw [2,3,5,6,47] (fun ab=>⟨Ao 77 [(2,.ref 0 0),(3,.ref 1 0),(5,.str b),(6,i64 i),(47,.bool ab)],[.box (Ar c) false,.box (A1 a) false]⟩) ?_ ?_
    ·intro _;refine Bd fun ax f=>?_
     refine Sp (fun d=>?_) fun d=>?_
     ·refine Bd fun ay n=>?_
      refine Sp (fun j=>?_) fun j=>?_
      ·exact Lf (o2 28 (BE f) 33 (IK n)) (Ew2 d j) (ws [0,1])
      ·refine Bd fun az ac=>?_
       refine Sp (fun o=>?_) fun o=>?_
       ·refine Bd fun aA an=>?_
        exact Lf (Bt (l:=[(28,_,_,_),(33,_,_,_),(39,_,_,_),(44,_,_,_)]) ⟨BE  f,IK  n,BE  ac,GU  an,trivial⟩) (Ew3 d j o) (ws [0,1])
       ·exact Lf (Bt (l:=[(28,_,_,_),(33,_,_,_),(39,_,_,_)]) ⟨BE  f,IK  n,BE  ac,trivial⟩) (Ew3 d j o) (ws [0,1])
     ·refine Bd fun aB ad=>?_
      refine Sp (fun p=>?_) fun p=>?_
      ·refine Bd fun aC ao=>?_
       exact Lf (Bt (l:=[(28,_,_,_),(39,_,_,_),(44,_,_,_)]) ⟨BE  f,BE  ad,GU  ao,trivial⟩) (Ew2 d p) (ws [0,1])
      ·exact Lf (o2 28 (BE f) 39 (BE ad)) (Ew2 d p) (ws [0,1])
    intro ab;refine Cd ?_ ?_
    ·refine T0 [4] ?_;exact Sr <|Br <|Tr <|Lr y x <|Br <|Jr aj <|Rr
    ·refine Sk <|Bn <|Tn <|F0 [2,3,5,6] ?_
     exact Ln (ws [0,1])
   ·refine Sx <|Tx <|Lx y x <|Bx <|?_
    exact Jn ((ws (l':=[(3,.ref 0 0),(5,.str b)]) (σ':=[.box (A1 a) false]) [1]).trans (ws [0]))
  intro _;refine Sq ?_;refine Dw [[],[0],[],[2],[2,3],[0,1,2,3,4],[0,1,2,3,4,5],[0,1,2,3,4,5,6],[0,1,2,3,4,5,6,7],[0,1,2,3,4,5,6,7,8],[0,1,2,3,4,5,6,7,8,9],[0,1,2,3,4,5,6,7,8,9,10]] [3,5,59] (fun ae=>⟨Ao 77 [(3,.ref 0 0),(5,.str b),(59,.bool ae)],[.box (A1 a) false]⟩) ?_ ?_
  ·intro _;refine Bd fun aD af=>?_
   refine Sp (fun q=>?_) fun q=>?_
   ·exact Lf (o1 49 (BE af)) (Ew1 q) (ws [0])
   ·exact Lf (o1 49 (BE af)) (Ew1 q) (ws [0])
  intro ae;refine Cd ?_ ?_
  ·refine T0 [4] ?_;exact Sr <|Tr <|Rr
  ·refine Sk <|Tn <|?_
   refine Tw [4] (fun ag=>⟨Ao 77 [(4,.bool ag)],[]⟩) ?_ ?_
   ·intro _;refine Bd fun aE g=>?_
    refine Sp (fun e=>?_) fun e=>?_
    ·refine Bd fun aF s=>?_
     refine Sp (fun k=>?_) fun k=>?_
     ·exact Lf (o2 61 (BE g) 64 (Jc s)) (Ew2 e k) (ws [])
     ·refine Sp (fun t=>?_) fun t=>?_
      ·refine Bd fun aG ap=>?_
       exact Lf (Bt (l:=[(61,_,_,_),(64,_,_,_),(73,_,_,_)]) ⟨BE  g,Jc  s,BE  ap,trivial⟩) (Ew3 e k t) (ws [])
      ·exact Lf (o2 61 (BE g) 64 (Jc s)) (Ew3 e k t) (ws [])
    ·refine Sp (fun u=>?_) fun u=>?_
     ·refine Bd fun aH aq=>?_
      exact Lf (o2 61 (BE g) 73 (BE aq)) (Ew2 e u) (ws [])
     ·exact Lf (o1 61 (BE g)) (Ew2 e u) (ws [])
   intro ag;exact Sr <|Rr
theorem Bb{a r}(h:CE a=some r):Con B 140 [i64 a] [] (fun r' σ'=>r'=.agg [i64 r.Za,i64 r.N,.sl false (L cU8 r.B),.sl false (L cApi_Value r.L)]∧σ'=[]):=by
 refine Cw 5 [.cell 2 105] Tryz.func140 (fun F hE=>?_) h;unfold CE;refine T0 [0,2] ?_;refine T0 [2] ?_;exact Sr <|Rr
theorem Eo{a r}(h:FS a=some r):Con B 116 [.sl false (L cApi_Value a)] [] (fun r' σ'=>r'=.agg [i64 r.Za,i64 r.N,.sl false (L cU8 r.B),.sl false (L cApi_Value r.L)]∧σ'=[]):=by
 refine Cw 5 [.cell 2 105] Tryz.func116 (fun F hE=>?_) h;unfold FS;refine T0 [0,2] ?_;refine T0 [2] ?_;exact Sr <|Rr
theorem Vw{a r}(h:On a=some r):Con B 160 [.str a] [] (fun r' σ'=>r'=.agg [i64 r.Za,i64 r.N,.sl false (L cU8 r.B),.sl false (L cApi_Value r.L)]∧σ'=[]):=by
 refine Cw 6 [.cell 2 105] Tryz.func160 (fun F hE=>?_) h;unfold On;refine T0 [0,2] ?_;refine T0 [2] ?_;exact Sr <|Rr
theorem V6{a r}(h:L6 a=some r):Con B 161 [.bool a] [] (fun r' σ'=>r'=.agg [i64 r.Za,i64 r.N,.sl false (L cU8 r.B),.sl false (L cApi_Value r.L)]∧σ'=[]):=by
 refine Cw 6 [.cell 2 105] Tryz.func161 (fun F hE=>?_) h;unfold L6;refine T0 [0,2] ?_;refine Sq <|T0 [2,3] ?_
 refine Cd ?_ ?_
 ·refine Bd fun d b =>Te [2] (o1 4 (Bb b)) Ev ?_
  exact Sr <|Tr <|Rr
 ·refine Sk <|Tn <|Bd fun e c =>Te [2] (o1 5 (Bb c)) Ev ?_
  exact Sr <|Rr
theorem TK{b r}(h:J7 b=some r):Con B 141 [.agg (A1 b)] [] (fun r' σ'=>r'=.agg [i64 r.Za,i64 r.N,.sl false (L cU8 r.B),.sl false (L cApi_Value r.L)]∧σ'=[]):=by
 refine Cw 92 [.cell 2 105] Tryz.func141 (fun F hE=>?_) h;unfold J7;refine T0 [1,2] ?_;refine Bd fun ay g =>Bd fun az i =>Bd fun aA j =>De [[],[0],[0,1],[0,1,2],[],[4],[4,5],[0,1,2,3,4,5,6],[0,1,2,3,4,5,6,7],[0,1,2,3,4,5,6,7,8],[],[0,1,2,3,4,5,6,7,8,9,10]] [1,2,3] (Bt (l:=[(11,_,_,_),(15,_,_,_),(17,_,_,_)]) ⟨Bb  g,Bb  i,Eo  j,trivial⟩) Ev ?_
 refine Bd fun aB k =>Bd fun aC m =>Bd fun aD n =>Bd fun aE o =>Bd fun aF p =>Bd fun aG q =>Bd fun aH s =>Bd fun aI t =>Bd fun aJ u =>Bd fun aK w =>Bd fun aL x =>Bd fun aM y =>Bd fun aN z =>Lt fun a aa =>De (fr':=[(1,_),(2,_),(4,.bs true 3 (a.length) 0 (a.length))]) (σ':=[_,_,_,.buf 4 (L cApi_Value a) false]) [[],[0],[0,1],[],[],[4],[0,1,2,4,5],[],[7],[0,1,2,4,5,6,7,8],[],[10],[0,1,2,4,5,6,7,8,9,10,11],[],[13],[0,1,2,4,5,6,7,8,9,10,11,12,13,14],[],[16],[0,1,2,4,5,6,7,8,9,10,11,12,13,14,15,16,17],[],[19],[0,1,2,4,5,6,7,8,9,10,11,12,13,14,15,16,17,18,19,20],[],[22],[0,1,2,4,5,6,7,8,9,10,11,12,13,14,15,16,17,18,19,20,21,22,23],[],[25],[0,1,2,4,5,6,7,8,9,10,11,12,13,14,15,16,17,18,19,20,21,22,23,24,25,26],[],[28],[0,1,2,4,5,6,7,8,9,10,11,12,13,14,15,16,17,18,19,20,21,22,23,24,25,26,27,28,29],[],[31],[0,1,2,4,5,6,7,8,9,10,11,12,13,14,15,16,17,18,19,20,21,22,23,24,25,26,27,28,29,30,31,32],[],[34],[0,1,2,4,5,6,7,8,9,10,11,12,13,14,15,16,17,18,19,20,21,22,23,24,25,26,27,28,29,30,31,32,33,34,35],[],[37],[0,1,2,4,5,6,7,8,9,10,11,12,13,14,15,16,17,18,19,20,21,22,23,24,25,26,27,28,29,30,31,32,33,34,35,36,37,38],[0,1,2,3,4,5,6,7,8,9,10,11,12,13,14,15,16,17,18,19,20,21,22,23,24,25,26,27,28,29,30,31,32,33,34,35,36,37,38,39],[0,1,2,3,4,5,6,7,8,9,10,11,12,13,14,15,16,17,18,19,20,21,22,23,24,25,26,27,28,29,30,31,32,33,34,35,36,37,38,39,40]] [1,2,4] (Bt (l:=[(20,_,_,_),(24,_,_,_),(27,_,_,_),(30,_,_,_),(33,_,_,_),(36,_,_,_),(39,_,_,_),(42,_,_,_),(45,_,_,_),(48,_,_,_),(51,_,_,_),(54,_,_,_),(57,_,_,_)]) ⟨Bb  k,Bb  m,Bb  n,Bb  o,Bb  p,Bb  q,Bb  s,Bb  t,Bb  u,Bb  w,Bb  x,Bb  y,Vw  z,trivial⟩) (Ew1 aa) ?_
 refine Lt fun e ab =>Te (fr':=[(1,_),(2,_),(4,_),(5,.bs true 4 (e.length) 0 (e.length))]) (σ':=[_,_,_,_,.buf 4 (L cApi_Value e) false]) [1,2,4,5] Aa (Ew1 ab) ?_
 refine Ja (fun c=>⟨Ao 92 [(2,.ref 0 0),(4,.bs true 1 (a.length) 0 (a.length)),(5,.bs false 2 (c.length) 0 (c.length))],[.box [i64 0,i64 0,.sl true (L cU8 ([])),.sl true (L cApi_Value ([]))] false,.buf 4 (L cApi_Value a) false,.buf 4 (L cApi_Value c) false]⟩) ?_ ?_
 ·intro aO;refine T0 [1,2,4,5,6] ?_;refine Sb ?_;refine Lo (fun(v:Int×List AsP)=>(⟨Ao 92 [(1,.ref 0 0),(2,.ref 1 0),(4,.bs true 2 (a.length) 0 (a.length)),(5,.bs false 3 (v.2.length) 0 (v.2.length)),(6,i64 v.1)],[.box (A1 b) false,.box [i64 0,i64 0,.sl true (L cU8 ([])),.sl true (L cApi_Value ([]))] false,.buf 4 (L cApi_Value a) false,.buf 4 (L cApi_Value v.2) false]⟩:St)) (ws [0,1,3,4]) ?_;rintro⟨ac,d⟩ aP ad ae af;show Ei b ac d=some ad→_;unfold Ei;refine Sq <|T0 [1,2,4,5,6,64] ?_
  refine Cd ?_ ?_
  ·refine Sk <|Tn <|Sq <|Sb <|Ck fun ag =>Lt fun ah ai =>Lt fun aj ak =>Lt fun al am =>Te (σ':=[_,_,_,_,.box [i64 ah,i64 aj,.bool al] false]) [1,2,4,5,6,7] Aa (Ew4 (qR ag) ai ak am) ?_
   refine Bd fun aQ an =>Bd fun aR ao =>Bd fun aS ap =>Bd fun aT aq =>Ck fun ar =>Lt fun f au =>Ge (fr':=[(1,_),(2,_),(4,_),(5,.bs false 3 (f.length) 0 (f.length)),(6,_)]) (σ':=[_,_,_,.buf 4 (L cApi_Value f) false,_]) [[],[],[1],[1,2],[],[4],[1,2,3,4,5],[],[7],[1,2,3,4,5,6,7,8],[1,2,3,4,5,6,7,8,9],[1,2,3,4,5,6,7,8,9,10],[1,2,3,4,5,6,7,8,9,10,11],[0,1,2,3,4,5,6,7,8,9,10,11,12],[0,1,2,3,4,5,6,7,8,9,10,11,12,13]] [1,2,4,5,6] (Bt (l:=[(75,_,_,_),(78,_,_,_),(81,_,_,_),(83,_,_,_)]) ⟨Bb  an,Bb  ao,V6  ap,Eo  aq,trivial⟩) (Ew2 ar au) ?_
   refine Bn <|Tn <|F0 [1,2,4,5,6] ?_
   exact Ln (ws [0,1,2,3])
  ·refine Sx <|Tx <|Ly af ae <|Bx <|?_
   exact Jm ((ws (l':=[(2,.ref 0 0),(4,.bs true 1 (a.length) 0 (a.length)),(5,.bs false 2 (d.length) 0 (d.length))]) (σ':=[.box [i64 0,i64 0,.sl true (L cU8 ([])),.sl true (L cApi_Value ([]))] false,.buf 4 (L cApi_Value a) false,.buf 4 (L cApi_Value d) false]) [1,2,3]).trans (ws [0,1,2]))
 intro c;refine Bd fun aU av =>Ck fun aw =>Bd fun aV ax =>Te [2] (o2 88 (Eo av) 91 (Eo ax)) (Ew1 aw) ?_
 exact Sr <|Rr
theorem Nm{c r}(h:K8 c=some r):Con B 117 [.agg (Ab c)] [] (fun r' σ'=>r'=.bs false 0 (r.length) 0 (r.length)∧σ'=[.buf 4 (L cApi_Value r) false]):=by
 refine Co 0 23 [.tmp 2] Tryz.func117 (fun F hE=>?_) h;unfold K8;refine T0 [1] ?_;refine Ck fun d=>?_
 have e:=d;simp only[Atj,AtH,Ate,Ati,Atr,AtN,Nat.reduceAdd]at e;refine Lt fun a f =>Te (σ':=[_,.buf 1 (L cU8 a) false,.box [i64 2,i64 0,.bs false 1 (a.length) 0 (a.length),.sl true (L cApi_Value ([]))] false]) [1,3] Aa (Ew3 d e f) ?_
 refine Rw (H3 2 2 rfl rfl rfl gs gs) ?_;refine Bd fun n g =>Bd fun o i =>Bd fun p j =>Bd fun q k =>Lt fun b m =>De (fr':=[(2,.bs true 3 (b.length) 0 (b.length))]) (σ':=[_,_,_,.buf 4 (L cApi_Value b) false]) [[],[0],[0,1],[],[3],[0,1,2,3,4],[],[],[7],[0,1,2,3,4,5,7,8],[],[10],[0,1,2,3,4,5,7,8,9,10,11],[0,1,2,3,4,5,6,7,8,9,10,11,12],[0,1,2,3,4,5,6,7,8,9,10,11,12,13]] [2] (Bt (l:=[(11,_,_,_),(14,_,_,_),(18,_,_,_),(21,_,_,_)]) ⟨Bb  g,Bb  i,Bb  j,TK  k,trivial⟩) (Ew1 m) ?_
 exact Sr <|Ro [3]
theorem Qt{rec_:AsP→Option (Bool)}(hrec:∀{a:AsP} {r:Bool},rec_ a=some r→Con B 157 [.agg [i64 a.Za,i64 a.N,.sl false (L cU8 a.B),.sl false (L cApi_Value a.L)]] [] (fun r' σ'=>r'=.bool r∧σ'=[])){a:AsP}{r:Bool}(h:Hq rec_ a=some r):Con B 157 [.agg [i64 a.Za,i64 a.N,.sl false (L cU8 a.B),.sl false (L cApi_Value a.L)]] [] (fun r' σ'=>r'=.bool r∧σ'=[]):=by
 refine Jq (N:=61) (rs:=[.tmp 2]) ok Tryz.func157 rfl (by decide +kernel) rfl rfl (AtM rfl) (fun F=>?_);have hE:=ok.env F;unfold Hq at h;show Run (B.env F) 0 _ ⟨Ao 61 [(0,.agg [i64 a.Za,i64 a.N,.sl false (L cU8 a.B),.sl false (L cApi_Value a.L)])],[]⟩ _;refine Gn ?_;revert h;refine T0 [1] ?_;refine Sq ?_;refine Tw [1,33] (fun p=>⟨Ao 61 [(1,.ref 0 0),(33,.bool p)],[.box [i64 a.Za,i64 a.N,.sl false (L cU8 a.B),.sl false (L cApi_Value a.L)] false]⟩) ?_ ?_
 ·intro _;refine Sp (fun b=>?_) fun b=>?_
  ·refine Sp (fun c=>?_) fun c=>?_
   ·exact Lf Aa (Ew2 b c) (ws [0])
   ·refine Sp (fun d=>?_) fun d=>?_
    ·refine Sp (fun f=>?_) fun f=>?_
     ·exact Lf Aa (Ew4 b c d f) (ws [0])
     ·refine Sp (fun j=>?_) fun j=>?_
      ·exact Lf Aa (Ew5 b c d f j) (ws [0])
      ·exact Lf Aa (Ew5 b c d f j) (ws [0])
    ·refine Sp (fun k=>?_) fun k=>?_
     ·exact Lf Aa (Ew4 b c d k) (ws [0])
     ·exact Lf Aa (Ew4 b c d k) (ws [0])
  ·refine Sp (fun e=>?_) fun e=>?_
   ·refine Sp (fun g=>?_) fun g=>?_
    ·exact Lf Aa (Ew3 b e g) (ws [0])
    ·refine Sp (fun l=>?_) fun l=>?_
     ·exact Lf Aa (Ew4 b e g l) (ws [0])
     ·exact Lf Aa (Ew4 b e g l) (ws [0])
   ·refine Sp (fun m=>?_) fun m=>?_
    ·exact Lf Aa (Ew3 b e m) (ws [0])
    ·exact Lf Aa (Ew3 b e m) (ws [0])
 intro p;refine Cd ?_ ?_
 ·refine T0 [2] ?_;exact Sr <|Tr <|Rr
 ·refine Sk <|Tn <|?_
  refine Jo (fun _=>⟨Ao 61 [(1,.ref 0 0)],[.box [i64 a.Za,i64 a.N,.sl false (L cU8 a.B),.sl false (L cApi_Value a.L)] false]⟩) ?_ ?_
  ·intro y u;refine T0 [1,3] ?_;refine Sb ?_;refine Lo (fun n=>⟨Ao 61 [(1,.ref 0 0),(3,i64 n)],[.box [i64 a.Za,i64 a.N,.sl false (L cU8 a.B),.sl false (L cApi_Value a.L)] false]⟩) (ws [0]) ?_;rintro n z v q s;show Fp a rec_ n=some v→_;unfold Fp;refine Sq <|T0 [1,3,38] ?_
   refine Cd ?_ ?_
   ·refine Sk <|Tn <|Sq <|Sb <|Ck fun w =>Bd fun aa x =>Te [1,3,47] (o1 46 (hrec x)) (Ew1 (qR w)) ?_
    refine Cd ?_ ?_
    ·refine T0 [2] ?_;exact Sr <|Br <|Tr <|Lr s q <|Br <|Jr u <|Rr
    ·refine Sk <|Bn <|Tn <|F0 [1,3] ?_
     exact Ln (ws [0])
   ·refine Sx <|Tx <|Lx s q <|Bx <|?_
    exact Jn ((ws (l':=[(1,.ref 0 0)]) (σ':=[.box [i64 a.Za,i64 a.N,.sl false (L cU8 a.B),.sl false (L cApi_Value a.L)] false]) [0]).trans (ws [0]))
  intro _;refine Tw [2] (fun t=>⟨Ao 61 [(2,.bool t)],[]⟩) ?_ ?_
  ·intro _;refine Sp (fun i=>?_) fun i=>?_
   ·exact Lf Aa (Ew1 i) (ws [])
   ·refine Sp (fun o=>?_) fun o=>?_
    ·exact Lf Aa (Ew2 i o) (ws [])
    ·exact Lf Aa (Ew2 i o) (ws [])
  intro t;exact Sr <|Rr
theorem Qx(n:Nat):∀{a:AsP} {r:Bool},Gm n a=some r→Con B 157 [.agg [i64 a.Za,i64 a.N,.sl false (L cU8 a.B),.sl false (L cApi_Value a.L)]] [] (fun r' σ'=>r'=.bool r∧σ'=[]):=by
 induction n with
 |zero=>intro a r h;cases h
 |succ n ih=>intro a r h;exact Qt ih h
theorem Td{a:AsP}{r:Bool}(h:P2 a=some r):Con B 157 [.agg [i64 a.Za,i64 a.N,.sl false (L cU8 a.B),.sl false (L cApi_Value a.L)]] [] (fun r' σ'=>r'=.bool r∧σ'=[]):=Qx _ h
theorem Nd{rec_:AsP→Option (Int)}(hrec:∀{a:AsP} {r:Int},rec_ a=some r→Con B 158 [.agg [i64 a.Za,i64 a.N,.sl false (L cU8 a.B),.sl false (L cApi_Value a.L)]] [] (fun r' σ'=>r'=i64 r∧σ'=[])){a:AsP}{r:Int}(h:F9 rec_ a=some r):Con B 158 [.agg [i64 a.Za,i64 a.N,.sl false (L cU8 a.B),.sl false (L cApi_Value a.L)]] [] (fun r' σ'=>r'=i64 r∧σ'=[]):=by
 refine Jq (N:=26) (rs:=[.tmp 2]) ok Tryz.func158 rfl (by decide +kernel) rfl rfl (AtM rfl) (fun F=>?_);have hE:=ok.env F;unfold F9 at h;show Run (B.env F) 0 _ ⟨Ao 26 [(0,.agg [i64 a.Za,i64 a.N,.sl false (L cU8 a.B),.sl false (L cApi_Value a.L)])],[]⟩ _;refine Gn ?_;revert h;refine T0 [1] ?_;refine T0 [1,3] ?_;refine Ja (fun b=>⟨Ao 26 [(1,.ref 0 0),(3,i64 b)],[.box [i64 a.Za,i64 a.N,.sl false (L cU8 a.B),.sl false (L cApi_Value a.L)] false]⟩) ?_ ?_
 ·intro k;refine T0 [1,3,4] ?_;refine Sb ?_;refine Lo (fun(v:Int×Int)=>(⟨Ao 26 [(1,.ref 0 0),(3,i64 v.1),(4,i64 v.2)],[.box [i64 a.Za,i64 a.N,.sl false (L cU8 a.B),.sl false (L cApi_Value a.L)] false]⟩:St)) (ws [0]) ?_;rintro⟨c,d⟩ l e f g;show DU a rec_ c d=some e→_;unfold DU;refine Sq <|T0 [1,3,4,9] ?_
  refine Cd ?_ ?_
  ·refine Sk <|Tn <|Sq <|Sb <|Ck fun i =>Bd fun m j =>Fe [1,3,4] (o1 18 (hrec j)) (Ew1 (qR i)) ?_
   refine Bn <|Tn <|F0 [1,3,4] ?_
   exact Ln (ws [0])
  ·refine Sx <|Tx <|Ly g f <|Bx <|?_
   exact Jm ((ws (l':=[(1,.ref 0 0),(3,i64 c)]) (σ':=[.box [i64 a.Za,i64 a.N,.sl false (L cU8 a.B),.sl false (L cApi_Value a.L)] false]) [0]).trans (ws [0]))
 intro b;refine Sq <|T0 [3,22] ?_
 refine Cd ?_ ?_
 ·refine T0 [2] ?_;exact Sr <|Tr <|Rr
 ·refine Sk <|Tn <|T0 [2] ?_
  exact Sr <|Rr
theorem MV(n:Nat):∀{a:AsP} {r:Int},Df n a=some r→Con B 158 [.agg [i64 a.Za,i64 a.N,.sl false (L cU8 a.B),.sl false (L cApi_Value a.L)]] [] (fun r' σ'=>r'=i64 r∧σ'=[]):=by
 induction n with
 |zero=>intro a r h;cases h
 |succ n ih=>intro a r h;exact Nd ih h
theorem JS{a:AsP}{r:Int}(h:Lu a=some r):Con B 158 [.agg [i64 a.Za,i64 a.N,.sl false (L cU8 a.B),.sl false (L cApi_Value a.L)]] [] (fun r' σ'=>r'=i64 r∧σ'=[]):=MV _ h
theorem KV{b r}(h:He b=some r):Con B 166 [i64 b] [] (fun r' σ'=>r'=.sl false (L cU8 r)∧σ'=[]):=by
 refine Cw 27 [.tmp 2] Tryz.func166 (fun F hE=>?_) h;unfold He;refine T0 [0] ?_;refine Lt fun e l =>Te (fr':=[(0,_),(3,.bs true 0 (e.length) 0 (e.length))]) (σ':=[.buf 1 (L cU8 e) false]) [0,3] Aa (Ew1 l) ?_
 refine Ja (fun c=>⟨Ao 27 [(3,.bs false 0 (c.length) 0 (c.length))],[.buf 1 (L cU8 c) false]⟩) ?_ ?_
 ·intro u;refine T0 [0,3,4] ?_;refine Sb ?_;refine Lo (fun(v:Int×List UInt8)=>(⟨Ao 27 [(0,i64 b),(3,.bs false 0 (v.2.length) 0 (v.2.length)),(4,i64 v.1)],[.buf 1 (L cU8 v.2) false]⟩:St)) (ws [0]) ?_;rintro⟨f,a⟩ w m n o;show CK b f a=some m→_;unfold CK;refine Sq <|T0 [0,3,4,8] ?_
  refine Cd ?_ ?_
  ·refine Sk <|Tn <|?_
   refine Ja (fun d=>⟨Ao 27 [(0,i64 b),(3,.bs false 0 (d.length) 0 (d.length)),(4,i64 f)],[.buf 1 (L cU8 d) false]⟩) ?_ ?_
   ·intro x;refine Sb <|Ck fun p =>Lt fun j q =>Te (fr':=[(0,_),(3,_),(4,_),(5,u8 j)]) [0,3,4,5] Aa (Ew2 p q) ?_
    refine Tw [0,3,4,5,21] (fun k=>⟨Ao 27 [(0,i64 b),(3,.bs false 0 (a.length) 0 (a.length)),(4,i64 f),(5,u8 j),(21,.bool k)],[.buf 1 (L cU8 a) false]⟩) ?_ ?_
    ·intro _;refine Sp (fun g=>?_) fun g=>?_
     ·exact Lf Aa (Ew1 g) (ws [0])
     ·exact Lf Aa (Ew1 g) (ws [0])
    intro k;refine Cd ?_ ?_
    ·refine Ck fun s =>Lt fun i t =>Fe (fr':=[(0,_),(3,.bs false 0 (i.length) 0 (i.length)),(4,_)]) (σ':=[.buf 1 (L cU8 i) false,_]) [0,3,4] Aa (Ew2 s t) ?_
     exact Bn <|Jm (ws [0])
    ·exact Sk <|Bn <|Jm (ws [0])
   intro d;refine F0 [0,3,4] ?_;exact Ln (ws [0])
  ·refine Sx <|Tx <|Ly o n <|Bx <|?_
   exact Jm ((ws (l':=[(3,.bs false 0 (a.length) 0 (a.length))]) (σ':=[.buf 1 (L cU8 a) false]) [0]).trans (ws [0]))
 intro c;refine T0 [2] ?_;exact Sr <|Rr
theorem Qo{g r}(h:H6 g=some r):Con B 159 [i64 g] [] (fun r' σ'=>r'=.sl false (L cU8 r)∧σ'=[]):=by
 refine Cw 44 [.tmp 2] Tryz.func159 (fun F hE=>?_) h;unfold H6;refine T0 [0] ?_;refine Sq <|T0 [0,9] ?_
 refine Cd ?_ ?_
 ·refine Bd fun y j =>Te [3] (o1 11 (KV j)) Ev ?_
  refine Lt fun c k =>Te (fr':=[(3,_),(4,.bs true 0 (c.length) 0 (c.length))]) (σ':=[.buf 1 (L cU8 c) false]) [3,4] Aa (Ew1 k) ?_
  refine Ck fun l =>Lt fun d m =>Te (fr':=[(2,.bs false 0 (d.length) 0 (d.length))]) (σ':=[.buf 1 (L cU8 d) false]) [2] Aa (Ew2 l m) ?_
  exact Sr <|Tr <|Rr
 ·refine Sk <|Tn <|Bd fun i n =>Te [5] (o1 23 (KV n)) Ev ?_
  refine Lt fun e o =>Te (fr':=[(5,_),(6,.bs true 0 (e.length) 0 (e.length))]) (σ':=[.buf 1 (L cU8 e) false]) [5,6] Aa (Ew1 o) ?_
  refine Ja (fun a=>⟨Ao 44 [(6,.bs false 0 (a.length) 0 (a.length))],[.buf 1 (L cU8 a) false]⟩) ?_ ?_
  ·intro z;refine T0 [5,6,7] ?_;refine Sb ?_;refine Lo (fun(v:Int×List UInt8)=>(⟨Ao 44 [(5,.sl false (L cU8 i)),(6,.bs false 0 (v.2.length) 0 (v.2.length)),(7,i64 v.1)],[.buf 1 (L cU8 v.2) false]⟩:St)) (ws [0]) ?_;rintro⟨p,b⟩ aa q s t;show Cv i p b=some q→_;unfold Cv;refine Sq <|T0 [5,6,7,32] ?_
   refine Cd ?_ ?_
   ·refine Sk <|Tn <|Sq <|Sb <|Ck fun u =>Ck fun w =>Lt fun f x =>Fe (fr':=[(5,_),(6,.bs false 0 (f.length) 0 (f.length)),(7,_)]) (σ':=[.buf 1 (L cU8 f) false,_]) [5,6,7] Aa (Ew3 (qR u) w x) ?_
    refine Bn <|Tn <|F0 [5,6,7] ?_
    exact Ln (ws [0])
   ·refine Sx <|Tx <|Ly t s <|Bx <|?_
    exact Jm ((ws (l':=[(6,.bs false 0 (b.length) 0 (b.length))]) (σ':=[.buf 1 (L cU8 b) false]) [0]).trans (ws [0]))
  intro a;refine T0 [2] ?_;exact Sr <|Rr
theorem Pg{rec_:AsP→Option (List UInt8)}(hrec:∀{a:AsP} {r:List UInt8},rec_ a=some r→Con B 139 [.agg [i64 a.Za,i64 a.N,.sl false (L cU8 a.B),.sl false (L cApi_Value a.L)]] [] (fun r' σ'=>r'=.sl false (L cU8 r)∧σ'=[])){a:AsP}{r:List UInt8}(h:Hk rec_ a=some r):Con B 139 [.agg [i64 a.Za,i64 a.N,.sl false (L cU8 a.B),.sl false (L cApi_Value a.L)]] [] (fun r' σ'=>r'=.sl false (L cU8 r)∧σ'=[]):=by
 refine Jq (N:=67) (rs:=[.tmp 2]) ok Tryz.func139 rfl (by decide +kernel) rfl rfl (AtM rfl) (fun F=>?_);have hE:=ok.env F;unfold Hk at h;show Run (B.env F) 0 _ ⟨Ao 67 [(0,.agg [i64 a.Za,i64 a.N,.sl false (L cU8 a.B),.sl false (L cApi_Value a.L)])],[]⟩ _;refine Gn ?_;revert h;refine T0 [1] ?_;refine Sq <|T0 [1,8] ?_
 refine Cd ?_ ?_
 ·refine Bd fun aw q =>Te [2] (o1 11 (Qo q)) Ev ?_
  exact Sr <|Tr <|Rr
 ·refine Sk <|Tn <|Lt fun b s =>Te (fr':=[(1,_),(3,.bs true 1 (b.length) 0 (b.length))]) (σ':=[_,.buf 1 (L cU8 b) false]) [1,3] Aa (Ew1 s) ?_
  refine Jo (fun _=>⟨Ao 67 [(1,.ref 0 0),(3,.bs true 1 (b.length) 0 (b.length))],[.box [i64 a.Za,i64 a.N,.sl false (L cU8 a.B),.sl false (L cApi_Value a.L)] false,.buf 1 (L cU8 b) false]⟩) ?_ ?_
  ·intro ax t;refine T0 [1,3,15] ?_;refine Cd ?_ ?_
   ·refine Ck fun u =>Lt fun i w =>Te (fr':=[(1,_),(3,.bs false 1 (i.length) 0 (i.length))]) (σ':=[_,.buf 1 (L cU8 i) false,_]) [1,3] Aa (Ew2 u w) ?_
    refine Ja (fun c=>⟨Ao 67 [(3,.bs false 0 (c.length) 0 (c.length))],[.buf 1 (L cU8 c) false]⟩) ?_ ?_
    ·intro ay;refine T0 [1,3,4] ?_;refine Sb ?_;refine Lo (fun(v:Int×List UInt8)=>(⟨Ao 67 [(1,.ref 0 0),(3,.bs false 1 (v.2.length) 0 (v.2.length)),(4,i64 v.1)],[.box [i64 a.Za,i64 a.N,.sl false (L cU8 a.B),.sl false (L cApi_Value a.L)] false,.buf 1 (L cU8 v.2) false]⟩:St)) (ws [0,1]) ?_;rintro⟨p,d⟩ az x y z;show Di a p d=some x→_;unfold Di;refine Sq <|T0 [1,3,4,23] ?_
     refine Cd ?_ ?_
     ·refine Sk <|Tn <|?_
      refine Ja (fun e=>⟨Ao 67 [(1,.ref 0 0),(3,.bs false 1 (e.length) 0 (e.length)),(4,i64 p)],[.box [i64 a.Za,i64 a.N,.sl false (L cU8 a.B),.sl false (L cApi_Value a.L)] false,.buf 1 (L cU8 e) false]⟩) ?_ ?_
      ·intro aA;refine Sb <|Ck fun aa =>Ck fun ab =>Lt fun j ac =>Te (fr':=[(1,_),(3,.bs false 1 (j.length) 0 (j.length)),(4,_)]) (σ':=[_,.buf 1 (L cU8 j) false,_]) [1,3,4] Aa (Ew3 (qR aa) ab ac) ?_
       refine Ck fun ad =>Te [1,3,4,39] Aa (Ew1 (qR ad)) ?_
       refine Cd ?_ ?_
       ·refine Ck fun ae =>Lt fun k af =>Fe (fr':=[(1,_),(3,.bs false 1 (k.length) 0 (k.length)),(4,_)]) (σ':=[_,.buf 1 (L cU8 k) false,_,_]) [1,3,4] Aa (Ew2 ae af) ?_
        exact Bn <|Jm (ws [0,1])
       ·exact Sk <|Bn <|Jm (ws [0,1])
      intro e;refine F0 [1,3,4] ?_;exact Ln (ws [0,1])
     ·refine Sx <|Tx <|Ly z y <|Bx <|?_
      exact Jm ((ws (l':=[(3,.bs false 0 (d.length) 0 (d.length))]) (σ':=[.buf 1 (L cU8 d) false]) [1]).trans (ws [0]))
    intro c;refine Ck fun ag =>Lt fun l ah =>Te (fr':=[(2,.bs false 0 (l.length) 0 (l.length))]) (σ':=[.buf 1 (L cU8 l) false,_]) [2] Aa (Ew2 ag ah) ?_
    exact Sr <|Jr t <|Rr
   ·exact Sk <|Jn (ws [0,1])
  intro _;refine Ck fun ai =>Lt fun m aj =>Te (fr':=[(1,_),(3,.bs false 1 (m.length) 0 (m.length))]) (σ':=[_,.buf 1 (L cU8 m) false,_]) [1,3] Aa (Ew2 ai aj) ?_
  refine Ja (fun f=>⟨Ao 67 [(3,.bs false 0 (f.length) 0 (f.length))],[.buf 1 (L cU8 f) false]⟩) ?_ ?_
  ·intro aB;refine T0 [1,3,5] ?_;refine Sb ?_;refine Lo (fun(v:Int×List UInt8)=>(⟨Ao 67 [(1,.ref 0 0),(3,.bs false 1 (v.2.length) 0 (v.2.length)),(5,i64 v.1)],[.box [i64 a.Za,i64 a.N,.sl false (L cU8 a.B),.sl false (L cApi_Value a.L)] false,.buf 1 (L cU8 v.2) false]⟩:St)) (ws [0,1]) ?_;rintro⟨ak,g⟩ aC al am an;show Db a rec_ ak g=some al→_;unfold Db;refine Sq <|T0 [1,3,5,53] ?_
   refine Cd ?_ ?_
   ·refine Sk <|Tn <|Sq <|Sb <|Ck fun ao =>Bd fun aD ap =>Ck fun aq =>Lt fun n ar =>Fe (fr':=[(1,_),(3,.bs false 1 (n.length) 0 (n.length)),(5,_)]) (σ':=[_,.buf 1 (L cU8 n) false]) [1,3,5] (o1 62 (hrec ap)) (Ew3 (qR ao) aq ar) ?_
    refine Bn <|Tn <|F0 [1,3,5] ?_
    exact Ln (ws [0,1])
   ·refine Sx <|Tx <|Ly an am <|Bx <|?_
    exact Jm ((ws (l':=[(3,.bs false 0 (g.length) 0 (g.length))]) (σ':=[.buf 1 (L cU8 g) false]) [1]).trans (ws [0]))
  intro f;refine Ck fun au =>Lt fun o av =>Te (fr':=[(2,.bs false 0 (o.length) 0 (o.length))]) (σ':=[.buf 1 (L cU8 o) false,_]) [2] Aa (Ew2 au av) ?_
  exact Sr <|Rr
theorem OC(n:Nat):∀{a:AsP} {r:List UInt8},Gj n a=some r→Con B 139 [.agg [i64 a.Za,i64 a.N,.sl false (L cU8 a.B),.sl false (L cApi_Value a.L)]] [] (fun r' σ'=>r'=.sl false (L cU8 r)∧σ'=[]):=by
 induction n with
 |zero=>intro a r h;cases h
 |succ n ih=>intro a r h;exact Pg ih h
theorem L9{a:AsP}{r:List UInt8}(h:LA a=some r):Con B 139 [.agg [i64 a.Za,i64 a.N,.sl false (L cU8 a.B),.sl false (L cApi_Value a.L)]] [] (fun r' σ'=>r'=.sl false (L cU8 r)∧σ'=[]):=OC _ h
theorem Tj{a r}(h:Ko a=some r):Con B 138 [.agg [i64 a.Za,i64 a.N,.sl false (L cU8 a.B),.sl false (L cApi_Value a.L)]] [] (fun r' σ'=>r'=i64 r∧σ'=[]):=by
 refine Cw 15 [.tmp 2] Tryz.func138 (fun F hE=>?_) h;unfold Ko;refine T0 [1] ?_;refine Sq <|Bd fun g e =>Te [1,5] (o1 4 (Td e)) Ev ?_
 refine Cd ?_ ?_
 ·refine T0 [2] ?_;exact Sr <|Tr <|Rr
 ·refine Sk <|Tn <|Sq <|?_
  refine Tw [14] (fun c=>⟨Ao 15 [(14,.bool c)],[]⟩) ?_ ?_
  ·intro _;refine Bd fun i d=>?_
   refine Sp (fun b=>?_) fun b=>?_
   ·exact Lf (o1 7 (JS d)) (Ew1 b) (ws [])
   ·refine Bd fun j f=>?_
    exact Lf (o2 7 (JS d) 11 (L9 f)) (Ew1 b) (ws [])
  intro c;refine Cd ?_ ?_
  ·refine T0 [2] ?_;exact Sr <|Tr <|Rr
  ·refine Sk <|Tn <|T0 [2] ?_
   exact Sr <|Rr
theorem KU{a r}(h:GZ a=some r):Con B 115 [.agg [i64 a.Za,i64 a.N,.sl false (L cU8 a.B),.sl false (L cApi_Value a.L)]] [] (fun r' σ'=>r'=.tup [.sl false (L cU8 r.1),i64 r.2]∧σ'=[]):=by
 refine Cw 12 [.tmp 2,.tmp 3] Tryz.func115 (fun F hE=>?_) h;unfold GZ;refine T0 [1] ?_;refine Bd fun d b =>Te [1,4] (o1 6 (Tj b)) Ev ?_
 refine Sq <|T0 [1,4,8] ?_
 refine Cd ?_ ?_
 ·refine T0 [2,3] ?_;exact Sr <|Tr <|Rr
 ·refine Sk <|Tn <|Bd fun e c =>Te [2,3] (o1 11 (L9 c)) Ev ?_
  exact Sr <|Rr
theorem VJ{a r}(h:LY a=some r):Con B 68 [.agg (Ab a)] [] (fun r' σ'=>r'=.tup [.sl false (L cU8 r.1),i64 r.2]∧σ'=[]):=by
 refine Cw 10 [.tmp 2,.tmp 3] Tryz.func68 (fun F hE=>?_) h;unfold LY;refine T0 [1] ?_;refine Bd fun e b =>Bd fun f c =>Bd fun g d =>Te [2,3] (Av (l:=[(6,_,_,_),(7,_,_,_)]) (m:=[(5,117,[.agg (Ab a)],[.box (Ab a) false],_,_)]) ⟨Eo  c,KU  d,trivial⟩ ⟨(wc (Nm b) []),trivial⟩) Ev ?_
 exact Sr <|Rr
theorem LQ{a r}(h:Ie a=some r):Con B 142 [u64 a] [] (fun r' σ'=>r'=.bs false 0 (r.length) 0 (r.length)∧σ'=[.buf 1 (L cU8 r) false]):=by
 refine Co 0 17 [.tmp 2] Tryz.func142 (fun F hE=>?_) h;unfold Ie;refine T0 [0] ?_;refine T0 [0,3] ?_;refine Ja (fun b=>⟨Ao 17 [(3,.bs false 0 (b.length) 0 (b.length))],[.buf 1 (L cU8 b) false]⟩) ?_ ?_
 ·intro m;refine T0 [0,3,4] ?_;refine Sb ?_;refine Lo (fun(v:Int×List UInt8)=>(⟨Ao 17 [(0,u64 a),(3,.bs false 0 (v.2.length) 0 (v.2.length)),(4,i64 v.1)],[.buf 1 (L cU8 v.2) false]⟩:St)) ((Oe 3 1 rfl).trans (ws [0])) ?_;rintro⟨e,c⟩ n f g i;show Fz a e c=some f→_;unfold Fz;refine Sq <|T0 [0,3,4,6] ?_
  refine Cd ?_ ?_
  ·refine Sk <|Tn <|Sq <|Sb <|Ck fun j =>Ck fun k =>Lt fun d l =>Fe (fr':=[(0,_),(3,.bs false 0 (d.length) 0 (d.length)),(4,_)]) (σ':=[.buf 1 (L cU8 d) false,_]) [0,3,4] Aa (Ew3 j k l) ?_
   refine Bn <|Tn <|F0 [0,3,4] ?_
   exact Ln (ws [0])
  ·refine Sx <|Tx <|Ly i g <|Bx <|?_
   exact Jm ((ws (l':=[(3,.bs false 0 (c.length) 0 (c.length))]) (σ':=[.buf 1 (L cU8 c) false]) [0]).trans (ws [0]))
 intro b;refine T0 [2] ?_;exact Sr <|Ro [0]
theorem R3{d e r}(h:K2 d e=some r):Con B 146 [.str d,.sl false (L cU8 e)] [] (fun r' σ'=>r'=.sl false (L cU8 r)∧σ'=[]):=by
 refine Cw 23 [.tmp 4] Tryz.func146 (fun F hE=>?_) h;unfold K2;refine T0 [0,1] ?_;refine Ck fun f =>Lt fun g i =>Te (fr':=[(1,_),(5,.str g)]) [1,5] Aa (Ew2 f i) ?_
 refine Lt fun a j =>Te (fr':=[(1,_),(5,_),(6,.bs true 0 (a.length) 0 (a.length))]) (σ':=[.buf 1 (L cU8 a) false]) [1,5,6] Aa (Ew1 j) ?_
 refine Ck fun k =>Lt fun b l =>Te (fr':=[(1,_),(6,.bs false 0 (b.length) 0 (b.length))]) (σ':=[.buf 1 (L cU8 b) false,_]) [1,6] Aa (Ew2 k l) ?_
 refine Ck fun m =>Lt fun c n =>Te (fr':=[(4,.bs false 0 (c.length) 0 (c.length))]) (σ':=[.buf 1 (L cU8 c) false,_]) [4] Aa (Ew2 m n) ?_
 exact Sr <|Rr
theorem Re{b r}(h:I7 b=some r):Con B 163 [.sl false (L cU8 b)] [] (fun r' σ'=>r'=.sl false (L cU8 r)∧σ'=[]):=by
 refine Cw 38 [.tmp 2] Tryz.func163 (fun F hE=>?_) h;unfold I7;refine T0 [0] ?_;refine Lt fun f m =>Te (fr':=[(0,_),(3,.bs true 0 (f.length) 0 (f.length))]) (σ':=[.buf 1 (L cU8 f) false]) [0,3] Aa (Ew1 m) ?_
 refine Ck fun n =>Lt fun g o =>Te (fr':=[(0,_),(3,.bs false 0 (g.length) 0 (g.length))]) (σ':=[.buf 1 (L cU8 g) false]) [0,3] Aa (Ew2 n o) ?_
 refine Ck fun p =>Lt fun i q =>Te (fr':=[(0,_),(3,.bs false 0 (i.length) 0 (i.length))]) (σ':=[.buf 1 (L cU8 i) false,_]) [0,3] Aa (Ew2 p q) ?_
 refine Ja (fun c=>⟨Ao 38 [(0,.sl false (L cU8 b)),(3,.bs false 0 (c.length) 0 (c.length))],[.buf 1 (L cU8 c) false]⟩) ?_ ?_
 ·intro ah;refine Sb ?_;refine Lo (fun a=>⟨Ao 38 [(0,.sl false (L cU8 b)),(3,.bs false 0 (a.length) 0 (a.length))],[.buf 1 (L cU8 a) false]⟩) (ws [0]) ?_;rintro a ai s t u;show F7 a=some s→_;unfold F7;refine Sq ?_;have w:¬(64:Int)=0:=by decide
  refine Te [0,3,16] Aa (Ew1 w) ?_;refine Cd ?_ ?_
  ·refine Sk <|Tn <|Sb <|Ck fun x =>Lt fun j y =>Fe (fr':=[(0,_),(3,.bs false 0 (j.length) 0 (j.length))]) (σ':=[.buf 1 (L cU8 j) false,_]) [0,3] Aa (Ew2 x y) ?_
   exact Bn <|Ln (ws [0])
  ·refine Sx <|Tx <|Ly u t <|Bx <|?_
   exact Jm ((ws (l':=[(0,.sl false (L cU8 b)),(3,.bs false 0 (a.length) 0 (a.length))]) (σ':=[.buf 1 (L cU8 a) false]) [0]).trans (ws [0]))
 intro c;refine Lt fun k z =>Te (fr':=[(3,_),(4,u64 k)]) [3,4] Aa (Ew1 z) ?_
 refine Ja (fun d=>⟨Ao 38 [(3,.bs false 0 (d.length) 0 (d.length))],[.buf 1 (L cU8 d) false]⟩) ?_ ?_
 ·intro aj;refine T0 [3,4,5] ?_;refine Sb ?_;refine Lo (fun(v:Int×List UInt8)=>(⟨Ao 38 [(3,.bs false 0 (v.2.length) 0 (v.2.length)),(4,u64 k),(5,i64 v.1)],[.buf 1 (L cU8 v.2) false]⟩:St)) (ws [0]) ?_;rintro⟨aa,e⟩ ak ab ac ad;show CN k aa e=some ab→_;unfold CN;refine Sq <|T0 [3,4,5,25] ?_
  refine Cd ?_ ?_
  ·refine Sk <|Tn <|Sq <|Sb <|Ck fun ae =>Ck fun af =>Lt fun l ag =>Fe (fr':=[(3,.bs false 0 (l.length) 0 (l.length)),(4,_),(5,_)]) (σ':=[.buf 1 (L cU8 l) false,_]) [3,4,5] Aa (Ew3 ae af ag) ?_
   refine Bn <|Tn <|F0 [3,4,5] ?_
   exact Ln (ws [0])
  ·refine Sx <|Tx <|Ly ad ac <|Bx <|?_
   exact Jm ((ws (l':=[(3,.bs false 0 (e.length) 0 (e.length))]) (σ':=[.buf 1 (L cU8 e) false]) [0]).trans (ws [0]))
 intro d;refine T0 [2] ?_;exact Sr <|Rr
theorem CO{a b r}(h:BS a b=some r):Con B 169 [u32 a,i64 b] [] (fun r' σ'=>r'=u32 r∧σ'=[]):=by
 refine Cw 13 [.tmp 4] Tryz.func169 (fun F hE=>?_) h;unfold BS;refine T0 [0,1] ?_;refine Ck fun c =>Ck fun d =>Lt fun e f =>De (fr':=[(4,u32 e)]) [[],[],[0,1],[],[],[4],[3,4,5],[0,1,2,3,4,5,6],[0,1,2,3,4,5,6,7]] [4] Aa (Ew3 c d f) ?_
 exact Sr <|Rr
theorem NG{a r}(h:G3 a=some r):Con B 167 [.sl false (L cU8 a)] [] (fun r' σ'=>r'=.agg (C1 u32 r.l)∧σ'=[]):=by
 refine Cw 102 [.cell 2 232] Tryz.func167 (fun F hE=>?_) h;unfold G3;refine T0 [0,2] ?_;refine Lt fun f g =>Te (σ':=[.box (C1 u32 (Arr.rep 64 (0:UInt32)).l) false,.box (C1 u32 f.l) false]) [0,2,3] Aa (Ev (by simp only[go_sem,GA,GQ,ER,g];exact AL)) ?_
 refine Ja (fun b=>⟨Ao 102 [(2,.ref 0 0),(3,.ref 1 0)],[.box (C1 u32 (Arr.rep 64 (0:UInt32)).l) false,.box (C1 u32 b.l) false]⟩) ?_ ?_
 ·intro ar;refine T0 [0,2,3,4] ?_;refine Sb ?_;refine Lo (fun(v:Int×Arr UInt32 64)=>(⟨Ao 102 [(0,.sl false (L cU8 a)),(2,.ref 0 0),(3,.ref 1 0),(4,i64 v.1)],[.box (C1 u32 (Arr.rep 64 (0:UInt32)).l) false,.box (C1 u32 v.2.l) false]⟩:St)) (ws [0,1]) ?_;rintro⟨i,c⟩ au j k m;show Er a i c=some j→_;unfold Er;refine Sq <|T0 [0,2,3,4,10] ?_
  refine Cd ?_ ?_
  ·refine Sk <|Tn <|Sq <|Sb <|Ck fun n =>Ck fun o =>Ck fun p =>Ck fun q =>Ck fun s =>Lt fun t u =>Ge (σ':=[_,.box (C1 u32 t.l) false]) [[],[],[],[2],[1,2,3],[1,2,3,4],[1,2,3,4,5],[1,2,3,4,5,6],[],[],[9],[9,10],[8,9,10,11],[8,9,10,11,12],[8,9,10,11,12,13],[8,9,10,11,12,13,14],[1,2,3,4,5,6,7,8,9,10,11,12,13,14,15],[],[],[18],[18,19],[17,18,19,20],[17,18,19,20,21],[17,18,19,20,21,22],[17,18,19,20,21,22,23],[1,2,3,4,5,6,7,8,9,10,11,12,13,14,15,16,17,18,19,20,21,22,23,24],[],[],[27],[27,28],[26,27,28,29],[26,27,28,29,30],[26,27,28,29,30,31],[1,2,3,4,5,6,7,8,9,10,11,12,13,14,15,16,17,18,19,20,21,22,23,24,25,26,27,28,29,30,31,32],[0,1,2,3,4,5,6,7,8,9,10,11,12,13,14,15,16,17,18,19,20,21,22,23,24,25,26,27,28,29,30,31,32,33],[0,1,2,3,4,5,6,7,8,9,10,11,12,13,14,15,16,17,18,19,20,21,22,23,24,25,26,27,28,29,30,31,32,33,34]] [0,2,3,4] Aa (Ev (by simp only[go_sem,qR n,qR o,qR p,qR q,qR s,u];exact AL)) ?_
   refine Bn <|Tn <|F0 [0,2,3,4] ?_
   exact Ln (ws [0,1])
  ·refine Sx <|Tx <|Ly m k <|Bx <|?_
   exact Jm ((ws (l':=[(2,.ref 0 0),(3,.ref 1 0)]) (σ':=[.box (C1 u32 (Arr.rep 64 (0:UInt32)).l) false,.box (C1 u32 c.l) false]) [0,1]).trans (ws [0,1]))
 intro b;refine Ja (fun d=>⟨Ao 102 [(2,.ref 0 0),(3,.ref 1 0)],[.box (C1 u32 (Arr.rep 64 (0:UInt32)).l) false,.box (C1 u32 d.l) false]⟩) ?_ ?_
 ·intro av;refine T0 [2,3,5] ?_;refine Sb ?_;refine Lo (fun(v:Int×Arr UInt32 64)=>(⟨Ao 102 [(2,.ref 0 0),(3,.ref 1 0),(5,i64 v.1)],[.box (C1 u32 (Arr.rep 64 (0:UInt32)).l) false,.box (C1 u32 v.2.l) false]⟩:St)) (ws [0,1]) ?_;rintro⟨w,e⟩ aw x y z;show Dz w e=some x→_;unfold Dz;refine Sq <|T0 [2,3,5,49] ?_
  refine Cd ?_ ?_
  ·refine Sk <|Tn <|Sq <|Sb <|Ck fun aa =>Bd fun ax ab =>Ck fun ac =>Bd fun ay ad =>Ck fun ae =>Lt fun s0_13437 af =>De (fr':=[(2,_),(3,_),(5,_),(6,u32 s0_13437)]) [[],[0],[0,1],[0,1,2],[0,1,2,3],[],[5],[5,6],[5,6,7],[0,1,2,3,4,5,6,7,8],[0,1,2,3,4,5,6,7,8,9],[],[11],[11,12],[11,12,13],[11,12,13,14],[0,1,2,3,4,5,6,7,8,9,10,11,12,13,14,15],[0,1,2,3,4,5,6,7,8,9,10,11,12,13,14,15,16]] [2,3,5,6] (o2 56 (CO ab) 61 (CO ad)) (Ew4 (qR aa) (qR ac) (qR ae) af) ?_
   refine Ck fun ag =>Bd fun az ah =>Ck fun ai =>Bd fun aA aj =>Ck fun ak =>Lt fun s1_13446 al =>De (fr':=[(2,_),(3,_),(5,_),(6,_),(7,u32 s1_13446)]) [[],[0],[0,1],[0,1,2],[0,1,2,3],[],[5],[5,6],[5,6,7],[0,1,2,3,4,5,6,7,8],[0,1,2,3,4,5,6,7,8,9],[],[11],[11,12],[11,12,13],[11,12,13,14],[0,1,2,3,4,5,6,7,8,9,10,11,12,13,14,15],[0,1,2,3,4,5,6,7,8,9,10,11,12,13,14,15,16]] [2,3,5,6,7] (o2 73 (CO ah) 78 (CO aj)) (Ew4 (qR ag) (qR ai) (qR ak) al) ?_
   refine Ck fun am =>Ck fun an =>Ck fun ao =>Lt fun ap aq =>Ge (σ':=[_,.box (C1 u32 ap.l) false]) [[],[],[1],[1,2],[1,2,3],[],[1,2,3,4,5],[],[7],[7,8],[7,8,9],[1,2,3,4,5,6,7,8,9,10],[],[1,2,3,4,5,6,7,8,9,10,11,12],[0,1,2,3,4,5,6,7,8,9,10,11,12,13],[0,1,2,3,4,5,6,7,8,9,10,11,12,13,14]] [2,3,5] Aa (Ew4 (qR am) (qR an) (qR ao) aq) ?_
   refine Bn <|Tn <|F0 [2,3,5] ?_
   exact Ln (ws [0,1])
  ·refine Sx <|Tx <|Ly z y <|Bx <|?_
   exact Jm ((ws (l':=[(2,.ref 0 0),(3,.ref 1 0)]) (σ':=[.box (C1 u32 (Arr.rep 64 (0:UInt32)).l) false,.box (C1 u32 e.l) false]) [0,1]).trans (ws [0,1]))
 intro d;refine T0 [2] ?_;exact Sr <|Rr
theorem MD{r}(h:r02_constants  = some r):Con B 168 [] [] (fun r' σ'=>r'=.agg (C1 u32 r.l)∧σ'=[]):=by
 refine Cw 2 [.cell 0 232] Tryz.func168 (fun F hE=>?_) h;unfold r02_constants;refine T0 [0] ?_;refine Lt fun a b =>Te (σ':=[.box (C1 u32 a.l) false]) [0] Aa (Ev (by simp only[go_sem,GA,GQ,ER,b];exact AL)) ?_
 exact Sr <|Rr
theorem Ub{a c r}(h:Kp a c=some r):Con B 164 [.agg (C1 u32 a.l),.sl false (L cU8 c)] [] (fun r' σ'=>r'=.agg (C1 u32 r.l)∧σ'=[]):=by
 refine Cw 126 [.cell 4 221] Tryz.func164 (fun F hE=>?_) h;unfold Kp;refine T0 [1,2,4] ?_;refine Bd fun d ak =>Te [2,4,5] (o1 17 (NG ak)) Ev ?_
 refine Bd fun e al =>Te [2,4,5,6] (o1 18 (MD al)) Ev ?_
 refine T0 [2,4,5,6,7] ?_;refine Ja (fun b=>⟨Ao 126 [(2,.ref 0 0),(4,.ref 1 0),(7,.ref 2 0)],[.box (C1 u32 a.l) false,.box (C1 u32 (Arr.rep 8 (0:UInt32)).l) false,.box (C1 u32 b.l) false]⟩) ?_ ?_
 ·intro aZ;refine T0 [2,4,5,6,7,8] ?_;refine Sb ?_;refine Lo (fun(v:Int×Arr UInt32 8)=>(⟨Ao 126 [(2,.ref 0 0),(4,.ref 1 0),(5,.ref 2 0),(6,.ref 3 0),(7,.ref 4 0),(8,i64 v.1)],[.box (C1 u32 a.l) false,.box (C1 u32 (Arr.rep 8 (0:UInt32)).l) false,.box (C1 u32 d.l) false,.box (C1 u32 e.l) false,.box (C1 u32 v.2.l) false]⟩:St)) (ws [0,1,2,3,4]) ?_;rintro⟨am,f⟩ a0 an ao ap;show Ft d e am f=some an→_;unfold Ft;refine Sq <|T0 [2,4,5,6,7,8,21] ?_
  refine Cd ?_ ?_
  ·refine Sk <|Tn <|Sq <|Sb <|?_
   have g:InR 4 8:=by decide
   refine Bd fun aq ar=>?_
   have i:InR 4 8:=by decide
   refine Bd fun au av=>?_
   have j:InR 4 8:=by decide
   refine Bd fun aw ax =>Lt fun s1_13750 ay =>De (fr':=[(2,_),(4,_),(5,_),(6,_),(7,_),(8,_),(9,u32 s1_13750)]) [[],[0],[0,1],[],[3],[0,1,2,3,4],[0,1,2,3,4,5],[],[7],[0,1,2,3,4,5,7,8],[0,1,2,3,4,5,6,7,8,9],[0,1,2,3,4,5,6,7,8,9,10]] [2,4,5,6,7,8,9] (Bt (l:=[(26,_,_,u32 aq),(29,_,_,u32 au),(33,_,_,u32 aw)]) ⟨CO  ar,CO  av,CO  ax,trivial⟩) (Ev (by simp only[go_sem,g,g.2,i,i.2,j,j.2,ay];exact AL)) ?_
   have k:InR 4 8:=by decide
   have m:InR 5 8:=by decide
   have n:InR 4 8:=by decide
   have o:InR 6 8:=by decide
   refine Lt fun az aA =>Te (fr':=[(2,_),(4,_),(5,_),(6,_),(7,_),(8,_),(9,_),(10,u32 az)]) [2,4,5,6,7,8,9,10] Aa (Ev (by simp only[go_sem,k,k.2,m,m.2,n,n.2,o,o.2,aA];exact AL)) ?_
   have p:InR 7 8:=by decide
   refine Ck fun aB =>Ck fun aC =>Lt fun t1_13761 aD =>De (fr':=[(2,_),(4,_),(5,_),(6,_),(7,_),(8,_),(11,u32 t1_13761)]) [[],[0],[],[0,1,2],[],[0,1,2,3,4],[],[6],[6,7],[0,1,2,3,4,5,6,7,8],[],[10],[10,11],[0,1,2,3,4,5,6,7,8,9,10,11,12],[0,1,2,3,4,5,6,7,8,9,10,11,12,13]] [2,4,5,6,7,8,11] Aa (Ev (by simp only[go_sem,p,p.2,qR aB,qR aC,aD];exact AL)) ?_
   have q:InR 0 8:=by decide
   refine Bd fun aE aF=>?_
   have s:InR 0 8:=by decide
   refine Bd fun aG aH=>?_
   have t:InR 0 8:=by decide
   refine Bd fun aI aJ =>Lt fun s0_13772 aK =>De (fr':=[(2,_),(4,_),(5,_),(6,_),(7,_),(8,_),(11,_),(12,u32 s0_13772)]) [[],[0],[0,1],[],[3],[0,1,2,3,4],[0,1,2,3,4,5],[],[7],[0,1,2,3,4,5,7,8],[0,1,2,3,4,5,6,7,8,9],[0,1,2,3,4,5,6,7,8,9,10]] [2,4,5,6,7,8,11,12] (Bt (l:=[(63,_,_,u32 aE),(66,_,_,u32 aG),(70,_,_,u32 aI)]) ⟨CO  aF,CO  aH,CO  aJ,trivial⟩) (Ev (by simp only[go_sem,q,q.2,s,s.2,t,t.2,aK];exact AL)) ?_
   have u:InR 0 8:=by decide
   have w:InR 1 8:=by decide
   have x:InR 0 8:=by decide
   have y:InR 2 8:=by decide
   have z:InR 1 8:=by decide
   have aa:InR 2 8:=by decide
   refine Lt fun aL aM =>Te (fr':=[(2,_),(4,_),(5,_),(6,_),(7,_),(8,_),(11,_),(12,_),(13,u32 aL)]) [2,4,5,6,7,8,11,12,13] Aa (Ev (by simp only[go_sem,u,u.2,w,w.2,x,x.2,y,y.2,z,z.2,aa,aa.2,aM];exact AL)) ?_
   refine Lt fun t2_13782 aN =>Te (fr':=[(2,_),(4,_),(5,_),(6,_),(7,_),(8,_),(11,_),(14,u32 t2_13782)]) [2,4,5,6,7,8,11,14] Aa (Ew1 aN) ?_
   have ab:InR 0 8:=by decide
   have ac:InR 1 8:=by decide
   have ad:InR 2 8:=by decide
   have ae:InR 3 8:=by decide
   have af:InR 4 8:=by decide
   have ag:InR 5 8:=by decide
   have ah:InR 6 8:=by decide
   refine Lt fun aO aP =>Fe (σ':=[_,.box (C1 u32 (Arr.rep 8 (0:UInt32)).l) false,_,_,.box (C1 u32 aO.l) false]) [2,4,5,6,7,8] Aa (Ev (by simp only[go_sem,ab,ab.2,ac,ac.2,ad,ad.2,ae,ae.2,af,af.2,ag,ag.2,ah,ah.2,GA,GQ,ER,aP];exact AL)) ?_
   refine Bn <|Tn <|F0 [2,4,5,6,7,8] ?_
   exact Ln (ws [0,1,2,3,4])
  ·refine Sx <|Tx <|Ly ap ao <|Bx <|?_
   exact Jm ((ws (l':=[(2,.ref 0 0),(4,.ref 1 0),(7,.ref 2 0)]) (σ':=[.box (C1 u32 a.l) false,.box (C1 u32 (Arr.rep 8 (0:UInt32)).l) false,.box (C1 u32 f.l) false]) [0,1,4]).trans (ws [0,1,2]))
 intro b;refine Ja (fun ai=>⟨Ao 126 [(2,.ref 0 0),(4,.ref 1 0)],[.box (C1 u32 ai.l) false,.box (C1 u32 (Arr.rep 8 (0:UInt32)).l) false]⟩) ?_ ?_
 ·intro a1;refine T0 [2,4,7,15] ?_;refine Sb ?_;refine Lo (fun(v:Int×Arr UInt32 8)=>(⟨Ao 126 [(2,.ref 0 0),(4,.ref 1 0),(7,.ref 2 0),(15,i64 v.1)],[.box (C1 u32 v.2.l) false,.box (C1 u32 (Arr.rep 8 (0:UInt32)).l) false,.box (C1 u32 b.l) false]⟩:St)) (ws [0,1,2]) ?_;rintro⟨aQ,aj⟩ a2 aR aS aT;show GE b aQ aj=some aR→_;unfold GE;refine Sq <|T0 [2,4,7,15,113] ?_
  refine Cd ?_ ?_
  ·refine Sk <|Tn <|Sq <|Sb <|Ck fun aU =>Ck fun aV =>Ck fun aW =>Lt fun aX aY =>Ge (σ':=[.box (C1 u32 aX.l) false,_,_]) [[],[],[1],[1,2],[],[4],[4,5],[1,2,3,4,5,6],[0,1,2,3,4,5,6,7],[0,1,2,3,4,5,6,7,8]] [2,4,7,15] Aa (Ew4 (qR aU) (qR aV) (qR aW) aY) ?_
   refine Bn <|Tn <|F0 [2,4,7,15] ?_
   exact Ln (ws [0,1,2])
  ·refine Sx <|Tx <|Ly aT aS <|Bx <|?_
   exact Jm ((ws (l':=[(2,.ref 0 0),(4,.ref 1 0)]) (σ':=[.box (C1 u32 aj.l) false,.box (C1 u32 (Arr.rep 8 (0:UInt32)).l) false]) [0,1]).trans (ws [0,1]))
 intro ai;refine T0 [4] ?_;exact Sr <|Rr
theorem W9{b r}(h:Ld b=some r):Con B 145 [.sl false (L cU8 b)] [] (fun r' σ'=>r'=.agg (C1 u8 r.l)∧σ'=[]):=by
 refine Cw 42 [.cell 2 42] Tryz.func145 (fun F hE=>?_) h;unfold Ld;refine T0 [0,2] ?_;refine Lt fun g i =>Te (σ':=[.box (C1 u8 (Arr.rep 32 (0:UInt8)).l) false,.box (C1 u32 g.l) false]) [0,2,3] Aa (Ev (by simp only[go_sem,GA,GQ,ER,i];exact AL)) ?_
 refine Bd fun c j =>Te [2,3,4] (o1 10 (Re j)) Ev ?_
 refine Ja (fun a=>⟨Ao 42 [(2,.ref 0 0),(3,.ref 1 0)],[.box (C1 u8 (Arr.rep 32 (0:UInt8)).l) false,.box (C1 u32 a.l) false]⟩) ?_ ?_
 ·intro ah;refine T0 [2,3,4,5] ?_;refine Sb ?_;refine Lo (fun(v:Int×Arr UInt32 8)=>(⟨Ao 42 [(2,.ref 0 0),(3,.ref 1 0),(4,.sl false (L cU8 c)),(5,i64 v.1)],[.box (C1 u8 (Arr.rep 32 (0:UInt8)).l) false,.box (C1 u32 v.2.l) false]⟩:St)) (ws [0,1]) ?_;rintro⟨k,d⟩ ai m n o;show EI c k d=some m→_;unfold EI;refine Sq <|T0 [2,3,4,5,14] ?_
  refine Cd ?_ ?_
  ·refine Sk <|Tn <|Sq <|Sb <|Ck fun p =>Ck fun q =>Bd fun aj s =>Ge [[],[],[],[],[3],[1,2,3,4],[0,1,2,3,4,5],[0,1,2,3,4,5,6]] [2,3,4,5] (o1 23 (Ub s)) (Ew2 p q) ?_
   refine Bn <|Tn <|F0 [2,3,4,5] ?_
   exact Ln (ws [0,1])
  ·refine Sx <|Tx <|Ly o n <|Bx <|?_
   exact Jm ((ws (l':=[(2,.ref 0 0),(3,.ref 1 0)]) (σ':=[.box (C1 u8 (Arr.rep 32 (0:UInt8)).l) false,.box (C1 u32 d.l) false]) [0,1]).trans (ws [0,1]))
 intro a;refine Lt fun t u =>Te (σ':=[.box (C1 u8 (Arr.rep 32 (0:UInt8)).l) false,_,.box (C1 u8 t.l) false]) [2,3,6] Aa (Ev (by simp only[go_sem,GA,GQ,ER,u];exact AL)) ?_
 refine Ja (fun e=>⟨Ao 42 [(2,.ref 0 0),(6,.ref 1 0)],[.box (C1 u8 (Arr.rep 32 (0:UInt8)).l) false,.box (C1 u8 e.l) false]⟩) ?_ ?_
 ·intro ak;refine T0 [2,3,6,7] ?_;refine Sb ?_;refine Lo (fun(v:Int×Arr UInt8 32)=>(⟨Ao 42 [(2,.ref 0 0),(3,.ref 1 0),(6,.ref 2 0),(7,i64 v.1)],[.box (C1 u8 (Arr.rep 32 (0:UInt8)).l) false,.box (C1 u32 a.l) false,.box (C1 u8 v.2.l) false]⟩:St)) (ws [0,1,2]) ?_;rintro⟨w,f⟩ al x y z;show I5 a w f=some x→_;unfold I5;refine Sq <|T0 [2,3,6,7,26] ?_
  refine Cd ?_ ?_
  ·refine Sk <|Tn <|Sq <|Sb <|?_
   have aa:¬(4:Int)=0:=by decide
   refine Ck fun ab=>?_
   have ac:¬(4:Int)=0:=by decide
   refine Ck fun ad =>Ck fun ae =>Lt fun af ag =>Fe (σ':=[_,_,.box (C1 u8 af.l) false]) [2,3,6,7] Aa (Ev (by simp only[go_sem,aa,qR ab,ac,ad,qR ae,ag];exact AL)) ?_
   refine Bn <|Tn <|F0 [2,3,6,7] ?_
   exact Ln (ws [0,1,2])
  ·refine Sx <|Tx <|Ly z y <|Bx <|?_
   exact Jm ((ws (l':=[(2,.ref 0 0),(6,.ref 1 0)]) (σ':=[.box (C1 u8 (Arr.rep 32 (0:UInt8)).l) false,.box (C1 u8 f.l) false]) [0,2]).trans (ws [0,1]))
 intro e;refine T0 [2] ?_;exact Sr <|Rr
theorem KQ{a b r}(h:Hb a b=some r):Con B 121 [.str a,.sl false (L cU8 b)] [] (fun r' σ'=>r'=.agg (C1 u8 r.l)∧σ'=[]):=by
 refine Cw 9 [.cell 4 42] Tryz.func121 (fun F hE=>?_) h;unfold Hb;refine T0 [0,1,4] ?_;refine Bd fun e c =>Bd fun f d =>Te [4] (o2 7 (R3 c) 8 (W9 d)) Ev ?_
 exact Sr <|Rr
theorem RN{a r}(h:Iz a=some r):Con B 143 [.agg (C1 u8 a.l)] [] (fun r' σ'=>r'=u64 r∧σ'=[]):=by
 refine Cw 17 [.tmp 2] Tryz.func143 (fun F hE=>?_) h;unfold Iz;refine T0 [1] ?_;refine T0 [1,3] ?_;refine Ja (fun b=>⟨Ao 17 [(3,u64 b)],[]⟩) ?_ ?_
 ·intro m;refine T0 [1,3,4] ?_;refine Sb ?_;refine Lo (fun(v:UInt64×Int)=>(⟨Ao 17 [(1,.ref 0 0),(3,u64 v.1),(4,i64 v.2)],[.box (C1 u8 a.l) false]⟩:St)) (ws [0]) ?_;rintro⟨c,d⟩ n e f g;show FW a c d=some e→_;unfold FW;refine Sq <|T0 [1,3,4,6] ?_
  refine Cd ?_ ?_
  ·refine Sk <|Tn <|Sq <|Sb <|Ck fun i =>Lt fun j k =>Fe (fr':=[(1,_),(3,u64 j),(4,_)]) [1,3,4] Aa (Ew2 (qR i) k) ?_
   refine Bn <|Tn <|F0 [1,3,4] ?_
   exact Ln (ws [0])
  ·refine Sx <|Tx <|Ly g f <|Bx <|?_
   exact Jm ((ws (l':=[(3,u64 c)]) (σ':=[]) []).trans (ws []))
 intro b;refine T0 [2] ?_;exact Sr <|Rr
theorem M0{a b e r}(h:FJ a b e=some r):Con B 119 [u64 a,u64 b,.sl false (L cU8 e)] [] (fun r' σ'=>r'=u64 r∧σ'=[]):=by
 refine Cw 20 [.tmp 6] Tryz.func119 (fun F hE=>?_) h;unfold FJ;refine T0 [0,1,2] ?_;refine Bd fun f g =>Bd fun t i =>Ck fun j =>Lt fun c k =>Te (fr':=[(2,_),(7,.bs false 0 (c.length) 0 (c.length))]) (σ':=[.buf 1 (L cU8 c) false,_]) [2,7] (Av (l:=[]) (m:=[(9,142,[u64 a],[],_,_),(11,142,[u64 b],[.buf 1 (L cU8 f) false],_,_)]) trivial ⟨(wc (LQ g) []),(wc (LQ i) []),trivial⟩) (Ew2 j k) ?_
 refine Ck fun n =>Lt fun d o =>Te (fr':=[(7,.bs false 0 (d.length) 0 (d.length))]) (σ':=[.buf 1 (L cU8 d) false,_]) [7] Aa (Ew2 n o) ?_
 refine Bd fun u p =>Bd fun v q =>?_
 have s:¬(1152921504606845399:UInt64)=0:=by decide
 refine Te [6] (o2 17 (KQ p) 18 (RN q)) (Ew1 s) ?_;exact Sr <|Rr
theorem Rz{d e a r}(h:Ih d e a=some r):Con B 69 [u64 d,.sl false (L cU8 e),.agg [u64 a.C,u64 a.S]] [] (fun r' σ'=>r'=.bool r∧σ'=[]):=by
 refine Cw 42 [.tmp 6] Tryz.func69 (fun F hE=>?_) h;unfold Ih;refine T0 [0,1,5] ?_;refine Sq ?_;refine Tw [0,1,5,25] (fun g=>⟨Ao 42 [(0,u64 d),(1,.sl false (L cU8 e)),(5,.ref 0 0),(25,.bool g)],[.box [u64 a.C,u64 a.S] false]⟩) ?_ ?_
 ·intro _;refine Sp (fun b=>?_) fun b=>?_
  ·exact Lf Aa (Ew1 b) (ws [0])
  ·refine Sp (fun c=>?_) fun c=>?_
   ·exact Lf Aa (Ew2 b c) (ws [0])
   ·refine Sp (fun f=>?_) fun f=>?_
    ·exact Lf Aa (Ew3 b c f) (ws [0])
    ·refine Bd fun s i=>?_
     exact Lf (o1 23 (LF i)) (Ew3 b c f) (ws [0])
 intro g;refine Cd ?_ ?_
 ·refine T0 [6] ?_;exact Sr <|Tr <|Rr
 ·refine Sk <|Tn <|Bd fun j k =>Bd fun m n =>Bd fun o p =>De [[],[0],[0,1],[],[],[4],[4,5],[0,1,2,3,4,5,6],[0,1,2,3,4,5,6,7],[0,1,2,3,4,5,6,7,8]] [0,1,5,7] (Bt (l:=[(28,_,_,u64 j),(33,_,_,u64 m),(34,_,_,u64 o)]) ⟨Jv  k,Jv  n,Je  p,trivial⟩) Ev ?_
  refine Bd fun t q =>De [[],[],[],[0,1,2],[],[4],[0,1,2,3,4,5],[0,1,2,3,4,5,6]] [6] (o1 38 (M0 q)) Ev ?_
  exact Sr <|Rr
theorem Rl{g i r}(h:IG g i=some r):Con B 33 [.agg (Ar g),.agg (Ab i)] [] (fun r' σ'=>r'=i64 r∧σ'=[]):=by
 refine Cw 81 [.tmp 4] Tryz.func33 (fun F hE=>?_) h;unfold IG;refine T0 [2,3] ?_;refine Bd fun q l =>Te [2,3,5] (o1 9 (MO l)) Ev ?_
 refine Sq <|T0 [2,3,5,11] ?_
 refine Cd ?_ ?_
 ·refine T0 [4] ?_;exact Sr <|Tr <|Rr
 ·refine Sk <|Tn <|Sq <|?_
  refine Tw [2,3,55] (fun k=>⟨Ao 81 [(2,.ref 0 0),(3,.ref 1 0),(55,.bool k)],[.box (Ar g) false,.box (Ab i) false]⟩) ?_ ?_
  ·intro _;refine Sp (fun a=>?_) fun a=>?_
   ·exact Lf Aa (Ew1 a) (ws [0,1])
   ·refine Sp (fun b=>?_) fun b=>?_
    ·exact Lf Aa (Ew2 a b) (ws [0,1])
    ·refine Sp (fun c=>?_) fun c=>?_
     ·exact Lf Aa (Ew3 a b c) (ws [0,1])
     ·refine Sp (fun d=>?_) fun d=>?_
      ·exact Lf Aa (Ew4 a b c d) (ws [0,1])
      ·refine Sp (fun e=>?_) fun e=>?_
       ·exact Lf Aa (Ew5 a b c d e) (ws [0,1])
       ·refine Sp (fun f=>?_) fun f=>?_
        ·exact Lf Aa (Ev (by simp only[go_sem,a,b,c,d,e,f];exact AL)) (ws [0,1])
        ·refine Sp (fun j=>?_) fun j=>?_
         ·exact Lf Aa (Ev (by simp only[go_sem,a,b,c,d,e,f,j];exact AL)) (ws [0,1])
         ·exact Lf Aa (Ev (by simp only[go_sem,a,b,c,d,e,f,j];exact AL)) (ws [0,1])
  intro k;refine Cd ?_ ?_
  ·refine T0 [4] ?_;exact Sr <|Tr <|Rr
  ·refine Sk <|Tn <|Sq <|Bd fun s m =>Te [2,3,60] (o1 59 (TL m)) Ev ?_
   refine Cd ?_ ?_
   ·refine T0 [4] ?_;exact Sr <|Tr <|Rr
   ·refine Sk <|Tn <|Bd fun t n =>Te [2,3,6,7] (o1 63 (VJ n)) Ev ?_
    refine Sq <|T0 [2,3,6,7,67] ?_
    refine Cd ?_ ?_
    ·refine T0 [4] ?_;exact Sr <|Tr <|Rr
    ·refine Sk <|Tn <|Sq <|Ck fun o =>Bd fun u p =>De [[],[0],[],[2],[0,1,2,3],[0,1,2,3,4],[0,1,2,3,4,5],[],[],[8],[0,1,2,3,4,5,6,7,8,9],[0,1,2,3,4,5,6,7,8,9,10]] [80] (o1 79 (Rz p)) (Ew1 (qR o)) ?_
     refine Cd ?_ ?_
     ·refine T0 [4] ?_;exact Sr <|Tr <|Rr
     ·refine Sk <|Tn <|T0 [4] ?_
      exact Sr <|Rr
theorem WG{a b r}(h:Ph a b=some r):Con B 34 [.agg (Aj a),i64 b] [] (fun r' σ'=>r'=.sl false (L Ab r)∧σ'=[]):=by
 refine Cw 19 [.tmp 4] Tryz.func34 (fun F hE=>?_) h;unfold Ph;refine T0 [1,2] ?_;refine Sq ?_;refine Tw [1,2,13] (fun d=>⟨Ao 19 [(1,i64 b),(2,.ref 0 0),(13,.bool d)],[.box (Aj a) false]⟩) ?_ ?_
 ·intro _;refine Sp (fun c=>?_) fun c=>?_
  ·exact Lf Aa (Ew1 c) (ws [0])
  ·exact Lf Aa (Ew1 c) (ws [0])
 intro d;refine Cd ?_ ?_
 ·refine T0 [4] ?_;exact Sr <|Tr <|Rr
 ·refine Sk <|Tn <|Ck fun e =>Te [4] Aa (Ew1 (qR e)) ?_
  exact Sr <|Rr
theorem N8{a r}(h:K1 a=some r):Con B 162 [u64 a] [] (fun r' σ'=>r'=.agg [i64 r.Za,i64 r.N,.sl false (L cU8 r.B),.sl false (L cApi_Value r.L)]∧σ'=[]):=by
 refine Cw 21 [.cell 2 105] Tryz.func162 (fun F hE=>?_) h;unfold K1;refine T0 [0,2] ?_;refine Lt fun d f =>Te (fr':=[(0,_),(2,_),(3,.bs true 1 (d.length) 0 (d.length))]) (σ':=[_,.buf 1 (L cU8 d) false]) [0,2,3] Aa (Ew1 f) ?_
 refine Ja (fun b=>⟨Ao 21 [(2,.ref 0 0),(3,.bs false 1 (b.length) 0 (b.length))],[.box [i64 0,i64 0,.sl true (L cU8 ([])),.sl true (L cApi_Value ([]))] false,.buf 1 (L cU8 b) false]⟩) ?_ ?_
 ·intro o;refine T0 [0,2,3,4] ?_;refine Sb ?_;refine Lo (fun(v:Int×List UInt8)=>(⟨Ao 21 [(0,u64 a),(2,.ref 0 0),(3,.bs false 1 (v.2.length) 0 (v.2.length)),(4,i64 v.1)],[.box [i64 0,i64 0,.sl true (L cU8 ([])),.sl true (L cApi_Value ([]))] false,.buf 1 (L cU8 v.2) false]⟩:St)) (ws [0,1]) ?_;rintro⟨g,c⟩ p i j k;show Fc a g c=some i→_;unfold Fc;refine Sq <|T0 [0,2,3,4,7] ?_
  refine Cd ?_ ?_
  ·refine Sk <|Tn <|Sq <|Sb <|Ck fun l =>Ck fun m =>Lt fun e n =>Fe (fr':=[(0,_),(2,_),(3,.bs false 1 (e.length) 0 (e.length)),(4,_)]) (σ':=[_,.buf 1 (L cU8 e) false,_]) [0,2,3,4] Aa (Ew3 l m n) ?_
   refine Bn <|Tn <|F0 [0,2,3,4] ?_
   exact Ln (ws [0,1])
  ·refine Sx <|Tx <|Ly k j <|Bx <|?_
   exact Jm ((ws (l':=[(2,.ref 0 0),(3,.bs false 1 (c.length) 0 (c.length))]) (σ':=[.box [i64 0,i64 0,.sl true (L cU8 ([])),.sl true (L cApi_Value ([]))] false,.buf 1 (L cU8 c) false]) [0,1]).trans (ws [0,1]))
 intro b;refine T0 [2] ?_;exact Sr <|Rr
theorem S8{b r}(h:JP b=some r):Con B 144 [.agg (Ab b)] [] (fun r' σ'=>r'=.agg [i64 r.Za,i64 r.N,.sl false (L cU8 r.B),.sl false (L cApi_Value r.L)]∧σ'=[]):=by
 refine Cw 20 [.cell 2 105] Tryz.func144 (fun F hE=>?_) h;unfold JP;refine T0 [1,2] ?_;refine Bd fun n e =>Bd fun o f =>Bd fun a g =>De [[],[0],[0,1],[0,1,2],[],[4],[4,5],[0,1,2,3,4,5,6],[0,1,2,3,4,5,6,7],[0,1,2,3,4,5,6,7,8],[],[0,1,2,3,4,5,6,7,8,9,10]] [1,2,3] (Bt (l:=[(7,_,_,_),(11,_,_,_),(13,_,_,_)]) ⟨N8  e,N8  f,Eo  g,trivial⟩) Ev ?_
 refine Bd fun i j =>Ck fun d =>Bd fun c k =>?_
 intro h;refine Acj hE MF [[],[0],[],[2],[0,1,2,3],[0,1,2,3,4],[0,1,2,3,4,5]] (by kernel_rfl) [(),(),(),()] [(),(),()] (by kernel_rfl) [(3,2)] [(15,2)] [3] [2,3] (by kernel_rfl) (fr':=[(2,.ref 1 0),(3,.ref 2 0)]) (σ':=[.box (Ab b) false,.box [i64 c.Za,i64 c.N,.sl false (L cU8 c.B),.sl false (L cApi_Value c.L)] false,.box [i64 a.Za,i64 a.N,.sl false (L cU8 a.B),.sl false (L cApi_Value a.L)] false,.buf 4 (L cApi_Value (i++([a]:List AsP))) true]) ⟨_,_,(Av (l:=[(19,_,_,_)]) (m:=[(15,117,[.agg (Ab b)],[.box (Ab b) false,.box [i64 0,i64 0,.sl true (L cU8 ([])),.sl true (L cApi_Value ([]))] false,.box [i64 a.Za,i64 a.N,.sl false (L cU8 a.B),.sl false (L cApi_Value a.L)] false],_,_)]) ⟨Eo  k,trivial⟩ ⟨(wc (Nm j) []),trivial⟩),(by repeat' (first|exact trivial|(refine And.intro ?_ ?_)|exact fun _=>rfl|exact fun h=>absurd h (by decide))),_,_,(by simp only[go_sem,d];exact AL),(by exact⟨rfl,trivial⟩),(by simp only[go_sem,d];exact AL)⟩ ?_;revert h;exact Sr <|Rr
theorem Rj{a r}(h:Ig a=some r):Con B 120 [.agg (Ab a)] [] (fun r' σ'=>r'=.tup [.sl false (L cU8 r.1),i64 r.2]∧σ'=[]):=by
 refine Cw 9 [.tmp 2,.tmp 3] Tryz.func120 (fun F hE=>?_) h;unfold Ig;refine T0 [1] ?_;refine Bd fun d b =>Bd fun e c =>Te [2,3] (o2 5 (S8 b) 6 (KU c)) Ev ?_
 exact Sr <|Rr
theorem RE{a r}(h:IF a=some r):Con B 70 [.agg (Ab a)] [] (fun r' σ'=>r'=.tup [.agg (C1 u8 r.1.l),i64 r.2]∧σ'=[]):=by
 refine Cw 17 [.cell 2 42,.tmp 3] Tryz.func70 (fun F hE=>?_) h;unfold IF;refine T0 [1,2] ?_;refine Bd fun f b =>Te [2,4,5] (o1 8 (Rj b)) Ev ?_
 refine Sq <|T0 [2,4,5,12] ?_
 refine Cd ?_ ?_
 ·refine Lt fun c d =>Te (σ':=[_,.box (C1 u8 c.l) false]) [2,3] Aa (Ev (by simp only[go_sem,GA,GQ,ER,d];exact AL)) ?_
  exact Sr <|Tr <|Rr
 ·refine Sk <|Tn <|Bd fun g e =>Te [2,3] (o1 16 (KQ e)) Ev ?_
  exact Sr <|Rr
theorem RD{a b r}(h:Im a b=some r):Con B 35 [.sl false (L Ab a),.agg (Ab b)] [] (fun r' σ'=>r'=i64 r∧σ'=[]):=by
 refine Cw 85 [.tmp 4] Tryz.func35 (fun F hE=>?_) h;unfold Im;refine T0 [0,3] ?_;refine Sq ?_;refine Tw [0,3,20] (fun i=>⟨Ao 85 [(0,.sl false (L Ab a)),(3,.ref 0 0),(20,.bool i)],[.box (Ab b) false]⟩) ?_ ?_
 ·intro _;refine Sp (fun e=>?_) fun e=>?_
  ·exact Lf Aa (Ew1 e) (ws [0])
  ·exact Lf Aa (Ew1 e) (ws [0])
 intro i;refine Cd ?_ ?_
 ·refine T0 [4] ?_;exact Sr <|Tr <|Rr
 ·refine Sk <|Tn <|Lt fun j o =>Te (σ':=[_,.box (C1 u8 j.l) false]) [0,3,5] Aa (Ev (by simp only[go_sem,GA,GQ,ER,o];exact AL)) ?_
  refine Jo (fun k=>⟨Ao 85 [(0,.sl false (L Ab a)),(3,.ref 0 0),(5,.ref 1 0)],[.box (Ab b) false,.box (C1 u8 k.l) false]⟩) ?_ ?_
  ·intro aR p;refine T0 [0,3,5,24] ?_;refine Cd ?_ ?_
   ·refine Ck fun q =>Lt fun s t =>Lt fun u v =>Lt fun w x =>Lt fun y z =>Lt fun aa ab =>Lt fun ac ad =>Lt fun ae af =>Lt fun ag ah =>Lt fun ai aj =>Lt fun ak al =>Lt fun am an =>Lt fun ao ap =>Lt fun aq ar =>Lt fun au av =>Lt fun aw ax =>Lt fun ay az =>Lt fun aA aB =>Lt fun aC aD =>Lt fun aE aF =>Lt fun aG aH =>Lt fun aI aJ =>Lt fun aK aL =>Te (σ':=[_,_,.box (i64 s::i64 u::(C1 u8 w.l++[i64 y,i64 aa,i64 ac,i64 ae,i64 ag,i64 ai,i64 ak,i64 am,i64 ao,i64 aq,i64 au,i64 aw,i64 ay,i64 aA,i64 aC,.str aE,.sl false (L An aG),u64 aI,u64 aK])) false]) [0,3,5,6] Aa (Ev (by simp only[go_sem,qR q,t,v,x,z,ab,ad,af,ah,aj,al,an,ap,ar,av,ax,az,aB,aD,aF,aH,aJ,aL];exact AL)) ?_
    refine Bd fun aM aN =>Te [0,3,5,6,7,8] (o1 33 (RE aN)) Ev ?_
    refine Sq ?_;refine Tw [0,3,5,7,44] (fun m=>⟨Ao 85 [(0,.sl false (L Ab a)),(3,.ref 0 0),(5,.ref 1 0),(7,.ref 2 0),(44,.bool m)],[.box (Ab b) false,.box (C1 u8 j.l) false,.box (C1 u8 aM.1.l) false]⟩) ?_ ?_
    ·intro _;refine Sp (fun f=>?_) fun f=>?_
     ·exact Lf Aa (Ew1 f) (ws [0,1,3])
     ·exact Lf Aa (Ew1 f) (ws [0,1,3])
    intro m;refine Cd ?_ ?_
    ·refine T0 [4] ?_;exact Sr <|Tr <|Jr p <|Rr
    ·refine Sk <|Tn <|F0 [0,3,5] ?_
     exact Jn (ws [0,1])
   ·exact Sk <|Jn (ws [0,1])
  intro k;refine Sq <|T0 [0,3,49] ?_
  refine Cd ?_ ?_
  ·refine T0 [4] ?_;exact Sr <|Tr <|Rr
  ·refine Sk <|Tn <|T0 [0,3,9] ?_
   refine Sq <|Lt fun aO aP =>Te (fr':=[(0,_),(3,_),(9,_),(55,.bool aO)]) [0,3,9,55] Aa (Ew1 aP) ?_
   refine Cd ?_ ?_
   ·refine T0 [4] ?_;exact Sr <|Tr <|Rr
   ·refine Sk <|Tn <|Sq <|?_
    refine Tw [84] (fun n=>⟨Ao 85 [(84,.bool n)],[]⟩) ?_ ?_
    ·intro _;refine Sp (fun c=>?_) fun c=>?_
     ·exact Lf Aa (Ew1 c) (ws [])
     ·refine Sp (fun d=>?_) fun d=>?_
      ·exact Lf Aa (Ew2 c d) (ws [])
      ·refine Sp (fun g=>?_) fun g=>?_
       ·exact Lf Aa (Ew3 c d g) (ws [])
       ·refine Ck fun aQ=>?_
        exact Lf Aa (Ew4 c d g (qR aQ)) (ws [])
    intro n;refine Cd ?_ ?_
    ·refine T0 [4] ?_;exact Sr <|Tr <|Rr
    ·refine Sk <|Tn <|T0 [4] ?_
     exact Sr <|Rr
theorem V4{b c d r}(h:K9 b c d=some r):Con B 36 [.sl false (L (cSl Ab) b),.agg (Ab c),i64 d] [] (fun r' σ'=>r'=.sl false (L (cSl Ab) r)∧σ'=[]):=by
 refine Cw 46 [.tmp 6] Tryz.func36 (fun F hE=>?_) h;unfold K9;refine T0 [0,2,4] ?_;refine Lt fun j q =>Te (fr':=[(0,_),(2,_),(4,_),(7,.bs true 1 (j.length) 0 (j.length))]) (σ':=[_,.buf 1 (L (cSl Ab) j) false]) [0,2,4,7] Aa (Ew1 q) ?_
 refine Ja (fun e=>⟨Ao 46 [(7,.bs false 0 (e.length) 0 (e.length))],[.buf 1 (L (cSl Ab) e) false]⟩) ?_ ?_
 ·intro ae;refine T0 [0,2,4,7,8] ?_;refine Sb ?_;refine Lo (fun(v:Int×List (List AsM))=>(⟨Ao 46 [(0,.sl false (L (cSl Ab) b)),(2,i64 d),(4,.ref 0 0),(7,.bs false 1 (v.2.length) 0 (v.2.length)),(8,i64 v.1)],[.box (Ab c) false,.buf 1 (L (cSl Ab) v.2) false]⟩:St)) (ws [0,1]) ?_;rintro⟨f,a⟩ af s t u;show Fl b c d f a=some s→_;unfold Fl;refine Sq ?_;refine Tw [0,2,4,7,8,19] (fun p=>⟨Ao 46 [(0,.sl false (L (cSl Ab) b)),(2,i64 d),(4,.ref 0 0),(7,.bs false 1 (a.length) 0 (a.length)),(8,i64 f),(19,.bool p)],[.box (Ab c) false,.buf 1 (L (cSl Ab) a) false]⟩) ?_ ?_
  ·intro _;refine Sp (fun k=>?_) fun k=>?_
   ·exact Lf Aa (Ew1 k) (ws [0,1])
   ·exact Lf Aa (Ew1 k) (ws [0,1])
  intro p;refine Cd ?_ ?_
  ·refine Sk <|Tn <|Sq <|Sb <|Lt fun l w =>Te (fr':=[(0,_),(2,_),(4,_),(7,_),(8,_),(9,.bs true 2 (l.length) 0 (l.length))]) (σ':=[_,_,.buf 53 (L Ab l) false]) [0,2,4,7,8,9] Aa (Ew1 w) ?_
   refine Ja (fun g=>⟨Ao 46 [(0,.sl false (L (cSl Ab) b)),(2,i64 d),(4,.ref 0 0),(7,.bs false 1 (a.length) 0 (a.length)),(8,i64 f),(9,.bs false 2 (g.length) 0 (g.length))],[.box (Ab c) false,.buf 1 (L (cSl Ab) a) false,.buf 53 (L Ab g) false]⟩) ?_ ?_
   ·intro ag;refine T0 [0,2,4,7,8,9,26] ?_;refine Cd ?_ ?_
    ·refine Ck fun x =>Ck fun y =>Lt fun m z =>Fe (fr':=[(0,_),(2,_),(4,_),(7,_),(8,_),(9,.bs false 2 (m.length) 0 (m.length))]) (σ':=[_,_,.buf 53 (L Ab m) false]) [0,2,4,7,8,9] Aa (Ew3 (qR x) y z) ?_
     exact Jm (ws [0,1,2])
    ·exact Sk <|Jm (ws [0,1,2])
   intro g;refine Ja (fun i=>⟨Ao 46 [(0,.sl false (L (cSl Ab) b)),(2,i64 d),(4,.ref 0 0),(7,.bs false 1 (a.length) 0 (a.length)),(8,i64 f),(9,.bs false 2 (i.length) 0 (i.length))],[.box (Ab c) false,.buf 1 (L (cSl Ab) a) false,.buf 53 (L Ab i) false]⟩) ?_ ?_
   ·intro ah;refine T0 [0,2,4,7,8,9,36] ?_;refine Cd ?_ ?_
    ·refine Ck fun aa =>Lt fun n ab =>Fe (fr':=[(0,_),(2,_),(4,_),(7,_),(8,_),(9,.bs false 2 (n.length) 0 (n.length))]) (σ':=[_,_,.buf 53 (L Ab n) false,_]) [0,2,4,7,8,9] Aa (Ew2 aa ab) ?_
     exact Jm (ws [0,1,2])
    ·exact Sk <|Jm (ws [0,1,2])
   intro i;refine Ck fun ac =>Lt fun o ad =>Fe (fr':=[(0,_),(2,_),(4,_),(7,.bs false 1 (o.length) 0 (o.length)),(8,_)]) (σ':=[_,.buf 1 (L (cSl Ab) o) false,_,_]) [0,2,4,7,8] Aa (Ew2 ac ad) ?_
   refine Bn <|Tn <|F0 [0,2,4,7,8] ?_
   exact Ln (ws [0,1])
  ·refine Sx <|Tx <|Ly u t <|Bx <|?_
   exact Jm ((ws (l':=[(7,.bs false 0 (a.length) 0 (a.length))]) (σ':=[.buf 1 (L (cSl Ab) a) false]) [1]).trans (ws [0]))
 intro e;refine T0 [6] ?_;exact Sr <|Rr
theorem TH{a b r}(h:J8 a b=some r):Con B 37 [.sl false (L A3 a),.agg (Ab b)] [] (fun r' σ'=>r'=.bool r∧σ'=[]):=by
 refine Cw 32 [.tmp 4] Tryz.func37 (fun F hE=>?_) h;unfold J8;refine T0 [0,3] ?_;refine Jo (fun _=>⟨Ao 32 [],[]⟩) ?_ ?_
 ·intro m j;refine T0 [0,3,5] ?_;refine Sb ?_;refine Lo (fun c=>⟨Ao 32 [(0,.sl false (L A3 a)),(3,.ref 0 0),(5,i64 c)],[.box (Ab b) false]⟩) (ws [0]) ?_;rintro c n k e f;show Fu a b c=some k→_;unfold Fu;refine Sq <|T0 [0,3,5,9] ?_
  refine Cd ?_ ?_
  ·refine Sk <|Tn <|Sq <|Sb <|?_
   refine Dw [[],[],[0,1],[0,1,2],[0,1,2,3],[0,1,2,3,4],[],[6],[0,1,2,3,4,5,6,7],[0,1,2,3,4,5,6,7,8],[0,1,2,3,4,5,6,7,8,9],[0,1,2,3,4,5,6,7,8,9],[0,1,2,3,4,5,6,7,8,9,10,11],[0,1,2,3,4,5,6,7,8,9,10,11,12],[0,1,2,3,4,5,6,7,8,9,10,11,12,13],[0,1,2,3,4,5,6,7,8,9,10,11,12,13,14],[0,1,2,3,4,5,6,7,8,9],[0,1,2,3,4,5,6,7,8,9,16],[0,1,2,3,4,5,6,7,8,9,10,11,12,13,14,15,16,17],[0,1,2,3,4,5,6,7,8,9,10,11,12,13,14,15,16,17,18]] [0,3,5,31] (fun g=>⟨Ao 32 [(0,.sl false (L A3 a)),(3,.ref 0 0),(5,i64 c),(31,.bool g)],[.box (Ab b) false]⟩) ?_ ?_
   ·intro _;refine Ck fun i=>?_
    refine Sp (fun d=>?_) fun d=>?_
    ·refine Ck fun l=>?_
     exact Lf Aa (Ew3 (qR i) d (qR l)) (ws [0])
    ·exact Lf Aa (Ew2 (qR i) d) (ws [0])
   intro g;refine Cd ?_ ?_
   ·refine T0 [4] ?_;exact Sr <|Br <|Tr <|Lr f e <|Br <|Jr j <|Rr
   ·refine Sk <|Bn <|Tn <|F0 [0,3,5] ?_
    exact Ln (ws [0])
  ·refine Sx <|Tx <|Lx f e <|Bx <|?_
   exact Jn ((ws (l':=[]) (σ':=[]) []).trans (ws []))
 intro _;refine T0 [4] ?_;exact Sr <|Rr
theorem QY{c a d r}(h:IB c a d=some r):Con B 11 [.agg (Ar c),.agg (Aj a),.agg (Ab d)] [] (fun r' σ'=>r'=.tup [.agg (Aj r.1),i64 r.2]∧σ'=[]):=by
 refine Cw 85 [.cell 6 40,.tmp 7] Tryz.func11 (fun F hE=>?_) h;unfold IB;refine T0 [3,4,5,6] ?_;refine Bd fun x k =>Te [3,4,5,6,8] (o1 14 (Rl k)) Ev ?_
 refine Sq <|T0 [3,4,5,6,8,16] ?_
 refine Cd ?_ ?_
 ·refine T0 [6,7] ?_;exact Sr <|Tr <|Rr
 ·refine Sk <|Tn <|Bd fun l m =>Te [3,4,5,6,9] (o1 22 (WG m)) Ev ?_
  refine Sq ?_;refine Dw [[],[0],[],[2],[0,1,2,3],[0,1,2,3,4],[0,1,2,3,4,5],[0,1,2,3,4,5],[0,1,2,3,4,5,7],[0,1,2,3,4,5,7,8],[0,1,2,3,4,5,6,7,8,9],[0,1,2,3,4,5,6,7,8,9,10],[0,1,2,3,4,5],[0,1,2,3,4,5,6,7,8,9,10,11,12],[0,1,2,3,4,5,6,7,8,9,10,11,12,13]] [3,4,5,6,9,37] (fun g=>⟨Ao 85 [(3,.ref 0 0),(4,.ref 1 0),(5,.ref 2 0),(6,.ref 3 0),(9,.sl false (L Ab l)),(37,.bool g)],[.box (Ar c) false,.box (Aj a) false,.box (Ab d) false,.box [.sl true (L (cSl Ab) ([])),.sl true (L A3 ([]))] false]⟩) ?_ ?_
  ·intro _;refine Sp (fun e=>?_) fun e=>?_
   ·refine Ck fun n =>Bd fun y o =>?_
    exact Lf (o1 36 (Dd o)) (Ew2 e (qR n)) (ws [0,1,2,3])
   ·exact Lf Aa (Ew1 e) (ws [0,1,2,3])
  intro g;refine Cd ?_ ?_
  ·refine T0 [6,7] ?_;exact Sr <|Tr <|Rr
  ·refine Sk <|Tn <|Bd fun z p =>Te [3,4,5,6,9,10] (o1 41 (RD p)) Ev ?_
   refine Sq <|T0 [3,4,5,6,9,10,43] ?_
   refine Cd ?_ ?_
   ·refine T0 [6,7] ?_;exact Sr <|Tr <|Rr
   ·refine Sk <|Tn <|Sq <|T0 [3,4,5,6,9,51] ?_
    refine Cd ?_ ?_
    ·refine Bd fun aa q =>De [[],[0],[],[],[3],[3,4],[0,1,2,3,4,5],[],[7],[0,1,2,3,4,5,6,7,8],[0,1,2,3,4,5,6,7,8,9],[0,1,2,3,4,5,6,7,8,9,10]] [6,7] (o1 58 (V4 q)) Ev ?_
     exact Sr <|Tr <|Rr
    ·refine Sk <|Tn <|Sq <|Bd fun ab s =>Te [4,5,6,9,65] (o1 65 (TH s)) Ev ?_
     refine Cd ?_ ?_
     ·refine T0 [6,7] ?_;exact Sr <|Tr <|Rr
     ·refine Sk <|Tn <|Ck fun i =>?_
      have j:=i;simp only[Atj,AtH,Ate,Ati,Atr,AtN,Nat.reduceAdd]at j;refine Lt fun b t =>Te (fr':=[(4,_),(5,_),(6,_),(9,_),(11,.bs false 4 (b.length) 0 (b.length))]) (σ':=[_,_,_,_,.buf 106 (L A3 b) false]) [4,5,6,9,11] Aa (Ew3 i j t) ?_
      refine Ck fun u =>Ck fun v =>Lt fun f w =>?_
      intro h;refine V1 hE MF [[],[0],[],[],[],[4],[4,5],[3,4,5,6],[3,4,5,6,7],[],[3,4,5,6,7,8,9],[3,4,5,6,7,8,9,10],[2,3,4,5,6,7,8,9,10,11],[0,1,2,3,4,5,6,7,8,9,10,11,12],[0,1,2,3,4,5,6,7,8,9,10,11,12,13],[0,1,2,3,4,5,6,7,8,9,10,11,12,13,14]] (by kernel_rfl) [(4,1),(71,1)] [] [(73,4)] [] [4,6,7,71,73] (by kernel_rfl) (fr':=[(4,.ref 1 0),(6,.ref 3 0),(7,i64 0),(71,.ref 1 0),(73,.bs false 4 (b.length) 0 (b.length))]) (σ':=[.box (Ar c) false,.box (Aj a) false,.box (Ab d) false,.box [.sl false (L (cSl Ab) a.Zy1),.bs false 4 (f.length) 0 (f.length)] false,.buf 106 (L A3 f) false]) ⟨rfl,rfl,trivial⟩ ⟨(by exact And.intro rfl (And.intro rfl rfl)),trivial⟩ trivial ⟨_,_,Aa,(by simp only[XOk]),?_⟩ ?_
      ·subst w;simp only[go_sem,qR u,v]
      revert h;exact Sr <|Rr
theorem EW{b c d r}(h:Be b c d=some r):Con B 3 [.agg (Ar b),.agg (Aj c),.agg (Ab d)] [] (fun r' σ'=>r'=.bool r∧σ'=[]):=by
 refine Cw 49 [.tmp 6] Tryz.func3 (fun F hE=>?_) h;unfold Be;refine T0 [3,4,5] ?_;refine Sq <|Bd fun s m =>Te [3,4,5,12] (o1 11 (RS m)) Ev ?_
 refine Cd ?_ ?_
 ·refine T0 [6] ?_;exact Sr <|Tr <|Rr
 ·refine Sk <|Tn <|Sq <|?_
  refine Tw [3,4,5,26] (fun i=>⟨Ao 49 [(3,.ref 0 0),(4,.ref 1 0),(5,.ref 2 0),(26,.bool i)],[.box (Ar b) false,.box (Aj c) false,.box (Ab d) false]⟩) ?_ ?_
  ·intro _;refine Bd fun t e=>?_
   refine Sp (fun a=>?_) fun a=>?_
   ·exact Lf (o1 14 (Jh e)) (Ew1 a) (ws [0,1,2])
   ·refine Bd fun u j=>?_
    refine Sp (fun f=>?_) fun f=>?_
    ·exact Lf (o2 14 (Jh e) 18 (Kr j)) (Ew2 a f) (ws [0,1,2])
    ·refine Bd fun v n=>?_
     exact Lf (Bt (l:=[(14,_,_,_),(18,_,_,_),(24,_,_,_)]) ⟨Jh  e,Kr  j,El  n,trivial⟩) (Ew2 a f) (ws [0,1,2])
  intro i;refine Cd ?_ ?_
  ·refine T0 [6] ?_;exact Sr <|Tr <|Rr
  ·refine Sk <|Tn <|Bd fun w o =>Te [3,4,5,7,8] (o1 31 (D6 o)) Ev ?_
   refine Bd fun x p =>Te [7,8,9,10] (o1 38 (QY p)) Ev ?_
   refine Tw [6] (fun k=>⟨Ao 49 [(6,.bool k)],[]⟩) ?_ ?_
   ·intro _;refine Sp (fun g=>?_) fun g=>?_
    ·refine Bd fun y q=>?_
     exact Lf (o1 47 (Ks q)) (Ew1 g) (ws [])
    ·exact Lf Aa (Ew1 g) (ws [])
   intro k;exact Sr <|Rr
set_option maxRecDepth 4000
variable{u r:Nat}
theorem Lv(x:UInt64)(n:Nat):(CY x n).toNat=x.toNat/2^n:=by
 show(x.toBitVec >>> n).toNat=_;rw[AvT,Avd];rfl
theorem AbF(x:UInt64)(n:Nat):(Jp x n).toNat=x.toNat*2^n%18446744073709551616:=by
 show(x.toBitVec <<< n).toNat=_;rw[BitVec.toNat_shiftLeft,AvY];rfl
theorem AgX(x:UInt64):(x &&& 4294967295).toNat=x.toNat%4294967296:=by
 rw[UInt64.toNat_and];exact Avq x.toNat 32
theorem Ahi(x:UInt64):x.toNat<18446744073709551616:=x.toNat_lt
theorem R7(x y:UInt64):(x*y).toNat=x.toNat*y.toNat%18446744073709551616:=UInt64.toNat_mul x y
theorem V2(x y:UInt64):(x+y).toNat=(x.toNat+y.toNat)%18446744073709551616:=UInt64.toNat_add x y
theorem AkE{x y:UInt64}(h:x.toNat=y.toNat):x=y:=Avf.1 h
theorem g_32:((32:UInt64)).toNat=32:=rfl
theorem Afw(x y:UInt64):∃r,IH x y=some r∧r.1.toNat=x.toNat*y.toNat/18446744073709551616∧r.2.toNat=x.toNat*y.toNat%18446744073709551616:=by
 obtain⟨bd,bt,bw,hhi⟩:=Lib.mul64_hi x.toNat y.toNat (Ahi x) (Ahi y);have hx:=Ahi x;have hy:=Ahi y;have ba:=Lib.half_mul_le (a:=x.toNat/4294967296) (b:=y.toNat/4294967296) (by omega) (by omega);have bb:=Lib.half_mul_le (a:=x.toNat/4294967296) (b:=y.toNat%4294967296) (by omega) (by omega);have bc:=Lib.half_mul_le (a:=x.toNat%4294967296) (b:=y.toNat/4294967296) (by omega) (by omega);unfold IH;simp only[lt1];refine⟨_,rfl,?_,R7 x y⟩;rw[←hhi];simp only[V2,R7,Lv,AgX,g_32,Nat.reducePow];generalize x.toNat/4294967296*(y.toNat/4294967296)=a at *;generalize x.toNat/4294967296*(y.toNat%4294967296)=b at *;generalize x.toNat%4294967296*(y.toNat/4294967296)=c at *;generalize x.toNat%4294967296*(y.toNat%4294967296)=d at *;omega
structure Dig(u w q r:Nat):Prop where
  eq:u=q*4294967295+r
  up:(q+1)*18446744073709526392>u*4294967296+w
theorem Vx{w:Nat}(hu:u<18446744073709526392)(hw:w<4294967296):Dig u w (u/4294967295) (u%4294967295):=⟨by omega,by omega⟩
theorem Nt{a b c:Nat}(h:a=b)(k:b<c):a<c:=by omega
theorem Vs{q q' r':Nat}(he:u=q*4294967295+r)(hq:1≤q)(h1:q'=q-1)(h2:r'=r+4294967295):u=q'*4294967295+r':=by
 have key:∀c:Nat,u=q*c+r→r'=r+c→u=q'*c+r':=by
  intro c he h2;obtain⟨k,rfl⟩:∃k,q=k+1:=⟨q-1,by omega⟩;have:q'=k:=by omega
  subst this;rw[he,h2,Atn,AtI,Auz,Nat.add_comm c r]
 exact key _ he h2
theorem Ve{w q q':Nat}(he:u=q*4294967295+r)(hu:u<18446744073709526392)(hw:w<4294967296)(h:4294967296≤q∨4294967296*r+w<q*4294942072)(hq:1≤q)(h1:q'=q-1):(q'+1)*18446744073709526392>u*4294967296+w:=by subst h1;omega
theorem U7{r':Nat}(h:r<4294967296)(h2:r'=r+4294967295):4294967296-r'<4294967296-r:=by omega
theorem Ad8(un32 un1:UInt64)(hu:un32.toNat<18446744073709526392)(hw:un1.toNat<4294967296) :∃q,Ax (fun(v:UInt64×UInt64)=>EE 4294967295 4294942072 un1 v.1 v.2) ((un32/4294967295),(un32-(un32/4294967295)*4294967295))=some q∧q.toNat=(un32.toNat*4294967296+un1.toNat)/18446744073709526392:=by
 have hq0:(un32/4294967295).toNat=un32.toNat/4294967295:=Avg _ _
 have hr0:(un32-(un32/4294967295)*4294967295).toNat=un32.toNat%4294967295:=by
  have h1:((un32/4294967295)*4294967295).toNat=un32.toNat/4294967295*4294967295:=by
   rw[R7,hq0];show un32.toNat/4294967295*4294967295%_=_;omega
  rw[AuZ _ _ (AtD.2 (by rw[h1];omega)),h1];omega
 have hd:=Vx hu hw;rw[←hq0,←hr0]at hd;generalize un32/4294967295=q0 at *;generalize un32-q0*4294967295=r0 at *;refine BF (fun v=>Dig un32.toNat un1.toNat v.1.toNat v.2.toNat∧v.2.toNat<4294967296) (fun v=>4294967296-v.2.toNat) _ ?_ ⟨hd,by rw[hr0];omega⟩ (by simp only;omega);rintro⟨q,r⟩ ⟨⟨he,hup⟩,hr⟩;simp only at he hup hr;unfold EE;have hqb:q.toNat≤4294967297:=by omega
 have m1:(q*4294942072).toNat=q.toNat*4294942072:=by
  rw[R7];show q.toNat*4294942072%_=_;omega
 have m2:((4294967296:UInt64)*r+un1).toNat=4294967296*r.toNat+un1.toNat:=by
  rw[V2,R7];show(4294967296*r.toNat%_+_)%_=_;omega
 have m3:(r+4294967295).toNat=r.toNat+4294967295:=by
  rw[V2];show(r.toNat+4294967295)%_=_;omega
 have hb:(q≥(4294967296:UInt64))↔4294967296≤q.toNat:=AtD;have hg:(q*4294942072>(4294967296:UInt64)*r+un1)↔4294967296*r.toNat+un1.toNat<q.toNat*4294942072:=by rw[Avp,AtJ,m1,m2]
 have hh:(r+4294967295≥(4294967296:UInt64))↔4294967296≤r.toNat+4294967295:=by rw[ge_iff_le,AtD,m3];rfl
 have htest:(if(decide (q≥(4294967296:UInt64)))then some true else some ((decide ((q*(4294942072:UInt64))>(((4294967296:UInt64)*r)+un1)))):Option Bool)=some (decide (4294967296≤q.toNat∨4294967296*r.toNat+un1.toNat<q.toNat*4294942072)):=by
  by_cases h1:4294967296≤q.toNat
  ·rw[AsU (As9 (hb.2 h1))];simp[h1]
  ·rw[AsX (by simp only[Atg];exact fun e=>h1 (hb.1 e))];simp[h1,hg]
 rw[htest,AsY];by_cases ht:4294967296≤q.toNat∨4294967296*r.toNat+un1.toNat<q.toNat*4294942072
 ·have hs:(q-1).toNat=q.toNat-1:=by
   rw[AuZ _ _ (AtD.2 (by show 1≤q.toNat;omega))];rfl
  rw[AsU (As9 ht)];by_cases h2:4294967296≤r.toNat+4294967295
  ·right;rw[AsU (As9 (hh.2 h2))];refine⟨_,rfl,?_⟩;rw[hs];omega
  ·left;rw[AsX (by simp only[Atg];exact fun e=>h2 (hh.1 e))];refine⟨_,rfl,⟨⟨?_,?_⟩,?_⟩,?_⟩
   ·show un32.toNat=(q-1).toNat*4294967295+(r+4294967295).toNat;exact Vs he (by omega) hs m3
   ·show((q-1).toNat+1)*18446744073709526392>un32.toNat*4294967296+un1.toNat;exact Ve he hu hw ht (by omega) hs
   ·exact Nt m3 (Nat.lt_of_not_le h2)
   ·exact U7 hr m3
 ·right;rw[AsX (by simp only[Atg];exact ht)];refine⟨_,rfl,?_⟩;show q.toNat=_;omega
theorem Ac8(un32 un1:UInt64)(hu:un32.toNat<18446744073709526392)(hw:un1.toNat<4294967296) :∃q,Ax (fun(v:UInt64×UInt64)=>EM 4294967295 4294942072 un1 v.1 v.2) ((un32-(un32/4294967295)*4294967295),(un32/4294967295))=some q∧q.toNat=(un32.toNat*4294967296+un1.toNat)/18446744073709526392:=by
 have hq0:(un32/4294967295).toNat=un32.toNat/4294967295:=Avg _ _
 have hr0:(un32-(un32/4294967295)*4294967295).toNat=un32.toNat%4294967295:=by
  have h1:((un32/4294967295)*4294967295).toNat=un32.toNat/4294967295*4294967295:=by
   rw[R7,hq0];show un32.toNat/4294967295*4294967295%_=_;omega
  rw[AuZ _ _ (AtD.2 (by rw[h1];omega)),h1];omega
 have hd:=Vx hu hw;rw[←hq0,←hr0]at hd;generalize un32/4294967295=q0 at *;generalize un32-q0*4294967295=r0 at *;refine BF (fun v=>Dig un32.toNat un1.toNat v.2.toNat v.1.toNat∧v.1.toNat<4294967296) (fun v=>4294967296-v.1.toNat) _ ?_ ⟨hd,by rw[hr0];omega⟩ (by simp only;omega);rintro⟨r,q⟩ ⟨⟨he,hup⟩,hr⟩;simp only at he hup hr;unfold EM;have hqb:q.toNat≤4294967297:=by omega
 have m1:(q*4294942072).toNat=q.toNat*4294942072:=by
  rw[R7];show q.toNat*4294942072%_=_;omega
 have m2:((4294967296:UInt64)*r+un1).toNat=4294967296*r.toNat+un1.toNat:=by
  rw[V2,R7];show(4294967296*r.toNat%_+_)%_=_;omega
 have m3:(r+4294967295).toNat=r.toNat+4294967295:=by
  rw[V2];show(r.toNat+4294967295)%_=_;omega
 have hb:(q≥(4294967296:UInt64))↔4294967296≤q.toNat:=AtD;have hg:(q*4294942072>(4294967296:UInt64)*r+un1)↔4294967296*r.toNat+un1.toNat<q.toNat*4294942072:=by rw[Avp,AtJ,m1,m2]
 have hh:(r+4294967295≥(4294967296:UInt64))↔4294967296≤r.toNat+4294967295:=by rw[ge_iff_le,AtD,m3];rfl
 have htest:(if(decide (q≥(4294967296:UInt64)))then some true else some ((decide ((q*(4294942072:UInt64))>(((4294967296:UInt64)*r)+un1)))):Option Bool)=some (decide (4294967296≤q.toNat∨4294967296*r.toNat+un1.toNat<q.toNat*4294942072)):=by
  by_cases h1:4294967296≤q.toNat
  ·rw[AsU (As9 (hb.2 h1))];simp[h1]
  ·rw[AsX (by simp only[Atg];exact fun e=>h1 (hb.1 e))];simp[h1,hg]
 rw[htest,AsY];by_cases ht:4294967296≤q.toNat∨4294967296*r.toNat+un1.toNat<q.toNat*4294942072
 ·have hs:(q-1).toNat=q.toNat-1:=by
   rw[AuZ _ _ (AtD.2 (by show 1≤q.toNat;omega))];rfl
  rw[AsU (As9 ht)];by_cases h2:4294967296≤r.toNat+4294967295
  ·right;rw[AsU (As9 (hh.2 h2))];refine⟨_,rfl,?_⟩;rw[hs];omega
  ·left;rw[AsX (by simp only[Atg];exact fun e=>h2 (hh.1 e))];refine⟨_,rfl,⟨⟨?_,?_⟩,?_⟩,?_⟩
   ·show un32.toNat=(q-1).toNat*4294967295+(r+4294967295).toNat;exact Vs he (by omega) hs m3
   ·show((q-1).toNat+1)*18446744073709526392>un32.toNat*4294967296+un1.toNat;exact Ve he hu hw ht (by omega) hs
   ·exact Nt m3 (Nat.lt_of_not_le h2)
   ·exact U7 hr m3
 ·right;rw[AsX (by simp only[Atg];exact ht)];refine⟨_,rfl,?_⟩;show q.toNat=_;omega
theorem lz_P:CX 2305843009213690799=some 3:=by decide +kernel
theorem y8:Jp 2305843009213690799 3=18446744073709526392:=by decide +kernel
theorem ArI:CY 18446744073709526392 ((32:UInt64)).toNat=4294967295:=by decide +kernel
theorem Aph:(18446744073709526392:UInt64) &&& 4294967295=4294942072:=by decide +kernel
theorem s3:(UInt64.ofInt 3).toNat=3:=by decide +kernel
theorem s61:((64:UInt64)-UInt64.ofInt 3).toNat=61:=by decide +kernel
theorem Alc(a b:UInt64)(ha:a.toNat%8=0)(hb:b.toNat<8):(a ||| b).toNat=a.toNat+b.toNat:=by
 rw[UInt64.toNat_or];have e:a.toNat=(a.toNat/8) <<< 3:=by rw[AvY];omega
 rw[e,←Nat.shiftLeft_add_eq_or_of_lt (by simpa using hb)]
theorem Ah9(u w q:UInt64)(v:Nat)(hv:v=18446744073709526392)(hq:q.toNat=(u.toNat*4294967296+w.toNat)/v):(u*4294967296+w-q*18446744073709526392).toNat=(u.toNat*4294967296+w.toNat)%v:=by
 have h1:(u*4294967296+w).toNat=(u.toNat*4294967296+w.toNat)%18446744073709551616:=by
  rw[V2,R7];show(u.toNat*4294967296%18446744073709551616+w.toNat)%18446744073709551616=_;rw[Nat.mod_add_mod]
 have h2:(q*18446744073709526392).toNat=(q.toNat*v)%18446744073709551616:=by rw[R7,hv];rfl
 rw[UInt64.toNat_sub,h1,h2,hq];have h3:=AuO (u.toNat*4294967296+w.toNat) v;have h4:(u.toNat*4294967296+w.toNat)%v<18446744073709551616:=Auc (AuJ _ (by omega)) (by omega);generalize u.toNat*4294967296+w.toNat=U at *;generalize hr:U%v=r at *;rw[Auq v]at h3;generalize U/v*v=z at *;subst h3;show(18446744073709551616-z%18446744073709551616+(z+r)%18446744073709551616)%18446744073709551616=r;omega
theorem mod8(N P m:Nat)(h:m=8*P):8*N%m/8=N%P:=by subst h;rw[Nat.mul_mod_mul_left,Nat.mul_div_cancel_left _ (by omega)]
theorem Aeq(a b c m:Nat):(a%m*c+b)%m=(a*c+b)%m:=by
 rw[AvB,Avi,Nat.mod_mod,←Avi,←AvB]
theorem AhL(hi lo:Nat)(hlo:lo<18446744073709551616):((hi*8+lo/2305843009213693952)*4294967296+lo*8%18446744073709551616/4294967296)*4294967296+lo*8%18446744073709551616%4294967296=8*(hi*18446744073709551616+lo):=by omega
theorem Aau(hi lo m P:Nat)(hm:m=8*P)(hlo:lo<18446744073709551616):(((hi*8+lo/2305843009213693952)*4294967296+lo*8%18446744073709551616/4294967296)%m*4294967296+lo*8%18446744073709551616%4294967296)%m/8=(hi*18446744073709551616+lo)%P:=by
 rw[Aeq,AhL hi lo hlo];exact mod8 _ _ _ hm
theorem Af8(n1 n0 un32 un1:UInt64)(h1:n1=4294967295)(h0:n0=4294942072)(hu:un32.toNat<18446744073709526392)(hw:un1.toNat<4294967296) :∃q,Ax (fun(v:UInt64×UInt64)=>EE n1 n0 un1 v.1 v.2) ((un32/n1),(un32-(un32/n1)*n1))=some q∧q.toNat=(un32.toNat*4294967296+un1.toNat)/18446744073709526392:=by
 subst h1 h0;exact Ad8 un32 un1 hu hw
theorem Afr(n1 n0 un32 un1:UInt64)(h1:n1=4294967295)(h0:n0=4294942072)(hu:un32.toNat<18446744073709526392)(hw:un1.toNat<4294967296) :∃q,Ax (fun(v:UInt64×UInt64)=>EM n1 n0 un1 v.1 v.2) ((un32-(un32/n1)*n1),(un32/n1))=some q∧q.toNat=(un32.toNat*4294967296+un1.toNat)/18446744073709526392:=by
 subst h1 h0;exact Ac8 un32 un1 hu hw
theorem AcD(u w q v8:UInt64)(h8:v8=18446744073709526392)(hq:q.toNat=(u.toNat*4294967296+w.toNat)/18446744073709526392):(u*4294967296+w-q*v8).toNat=(u.toNat*4294967296+w.toNat)%18446744073709526392:=by
 subst h8;exact Ah9 u w q _ rfl hq
theorem AfD(hi lo y:UInt64)(hy:y=2305843009213690799)(h:hi.toNat<2305843009213690799):∃r,Hf hi lo y=some r∧r.2.toNat=(hi.toNat*18446744073709551616+lo.toNat)%2305843009213690799:=by
 have hP:y.toNat=2305843009213690799:=by rw[hy];rfl
 have hlo:=Ahi lo;have hy0:¬y=0:=by rw[hy];decide
 have hlz:CX y=some 3:=by rw[hy];exact lz_P
 obtain⟨v8,hv8⟩:∃v8,v8=Jp y 3:=⟨_,rfl⟩;obtain⟨n1,hn1⟩:∃n1,n1=CY v8 ((32:UInt64)).toNat:=⟨_,rfl⟩;obtain⟨n0,hn0⟩:∃n0,n0=v8 &&& 4294967295:=⟨_,rfl⟩;have e8:v8=18446744073709526392:=by rw[hv8,hy];exact y8
 have e1:n1=4294967295:=by rw[hn1,e8];exact ArI
 have e0:n0=4294942072:=by rw[hn0,e8];exact Aph
 have hn1z:¬n1=0:=by rw[e1];decide
 unfold Hf;rw[AsX (by simpa using hy0),AsX (by simp only[Atg,AtD,hP];omega)];by_cases h0:hi=0
 ·subst h0;rw[AsU (by decide),AsU hy0,AsU hy0];refine⟨_,rfl,?_⟩;show(lo%y).toNat=_;rw[Auh,hP];simp
 ·rw[AsX (by simpa using h0),hlz,AsY];simp only[AD,s3,s61];rw[←hv8,←hn1,←hn0];clear hv8 hn1 hn0 hlz hy;have a1:(Jp hi 3).toNat=hi.toNat*8:=by rw[AbF];omega
  have a2:(CY lo 61).toNat=lo.toNat/2305843009213693952:=Lv lo 61;have a3:(Jp hi 3 ||| CY lo 61).toNat=hi.toNat*8+lo.toNat/2305843009213693952:=by rw[Alc _ _ (by omega) (by omega),a1,a2]
  have a4:(Jp lo 3).toNat=lo.toNat*8%18446744073709551616:=AbF lo 3;have a5:(CY (Jp lo 3) ((32:UInt64)).toNat).toNat=lo.toNat*8%18446744073709551616/4294967296:=by rw[Lv,a4];rfl
  have a6:(Jp lo 3 &&& 4294967295).toNat=lo.toNat*8%18446744073709551616%4294967296:=by rw[AgX,a4]
  generalize Jp hi 3 ||| CY lo 61=un32 at *
  generalize CY (Jp lo 3) ((32:UInt64)).toNat=un1 at *;generalize Jp lo 3 &&& 4294967295=un0 at *;obtain⟨q1,hq1,f1⟩:=Af8 n1 n0 un32 un1 e1 e0 (by omega) (by omega);have r1:=AcD un32 un1 q1 v8 e8 f1;rw[AsU hn1z,hq1];simp only[AsY];generalize un32*4294967296+un1-q1*v8=un21 at *;obtain⟨q0,hq0,f0⟩:=Afr n1 n0 un21 un0 e1 e0 (by omega) (by omega);have r0:=AcD un21 un0 q0 v8 e8 f0;rw[AsU hn1z,hq0];simp only[AsY];refine⟨_,rfl,?_⟩;show(CY (un21*4294967296+un0-q0*v8) 3).toNat=_;rw[Lv,r0,r1,a3,a5,a6];exact Aau hi.toNat lo.toNat _ _ (by decide) hlo
theorem Akr(hi lo:UInt64)(h:hi.toNat<2305843009213690799):∃r,Hf hi lo 2305843009213690799=some r∧r.2.toNat=(hi.toNat*18446744073709551616+lo.toNat)%2305843009213690799:=AfD hi lo _ rfl h
abbrev PN:Nat:=2305843009213690799
theorem L8(a b:UInt64):∃r,Dj a b 2305843009213690799=some (r,2305843009213690799)∧r.toNat=a.toNat*b.toNat%PN:=by
 have hP:((2305843009213690799:UInt64)).toNat=2305843009213690799:=rfl;unfold Dj;obtain⟨⟨hi,lo⟩,hm,h1,h2⟩:=Afw (a%2305843009213690799) (b%2305843009213690799);rw[AsU (by decide),AsU (by decide),hm,AsY];simp only at h1 h2 ⊢;rw[Auh,Auh,hP]at h1 h2;have ha:a.toNat%2305843009213690799<2305843009213690799:=AuJ _ (by omega);have hb:b.toNat%2305843009213690799<2305843009213690799:=AuJ _ (by omega);have hab:a.toNat%2305843009213690799*(b.toNat%2305843009213690799)<2305843009213690799*2305843009213690799:=Nat.mul_lt_mul'' ha hb
 have hhi:hi.toNat<2305843009213690799:=by
  rw[h1];generalize a.toNat%2305843009213690799*(b.toNat%2305843009213690799)=z at *;omega
 obtain⟨⟨q,r⟩,hd,hr⟩:=Akr hi lo hhi;rw[hd,AsY];refine⟨r,rfl,?_⟩;simp only at hr;rw[hr,h1,h2,Nat.div_add_mod',←Avi]
theorem AmZ(b k P:Nat):(b^k%P)*(b^k%P)%P=b^(2*k)%P:=by rw[←Avi,←AvU,Nat.two_mul]
theorem Af3(b k P:Nat):(b^k%P)*b%P=b^(k+1)%P:=by rw[Awa,Au8]
theorem Agk(n e:Nat):n/2^e=2*(n/2^(e+1))+n/2^e%2:=by
 rw[Au8,←Au0];omega
theorem ArZ(x:UInt64):((x &&& 1)==1)=decide (x.toNat%2=1):=by
 have h:(x &&& 1).toNat=x.toNat%2:=by rw[UInt64.toNat_and];exact Avq x.toNat 1
 rw[Atz,AtW,Atg,←h];exact⟨fun e=>by rw[e];rfl,fun e=>AkE e⟩
theorem Agd(b n out:UInt64)(len i:Nat)(hl:EA n=some (len:Int))(h64:len≤64)(hi:i<len)(ho:out.toNat=b.toNat^(n.toNat/2^(len-i))%PN) :∃o,Fm b n (len:Int) out (i:Int) 2305843009213690799=some (.inl (o,((i+1:Nat):Int),2305843009213690799))∧o.toNat=b.toNat^(n.toNat/2^(len-(i+1)))%PN:=by
 unfold Fm;rw[AsU (by simp;omega)];obtain⟨r,hr,er⟩:=L8 out out;rw[hr,AsY,hl,AsY]
 have e1:w64 (w64 ((len:Int)-1)-(i:Int))=((len-1-i:Nat):Int):=by
  rw[AE (x:=(len:Int)-1) (by omega),AE (by omega)];omega
 rw[e1,AsU (by unfold Cb;omega)];simp only[AD,As1,ArZ,Lv];have hk:=Agk n.toNat (len-1-i);rw[show len-1-i+1=len-i by omega]at hk;rw[show len-(i+1)=len-1-i by omega];rw[ho,AmZ]at er;by_cases hb:n.toNat/2^(len-1-i)%2=1
 ·rw[AsU (As9 hb)];obtain⟨q,hq,eq⟩:=L8 r b;rw[hq];simp only[AsY];refine⟨q,by rw[CG (by omega)],?_⟩;rw[eq,er,Af3,hk,hb]
 ·rw[AsX (by simpa using hb)];simp only[AsY];refine⟨r,by rw[CG (by omega)],?_⟩;rw[er,hk,show n.toNat/2^(len-1-i)%2=0 by omega,AuE]
theorem Ahc(b n:UInt64)(len:Nat)(hl:EA n=some (len:Int))(hn:n.toNat<2^len)(h64:len≤64):∃r,FQ b n=some r∧r.toNat=b.toNat^n.toNat%PN:=by
 unfold FQ Ew;rw[AsY,hl,AsY]
 obtain⟨x,hx,hq⟩:∃x,Ax (fun(v:UInt64×Int×UInt64)=>Fm b n (len:Int) v.1 v.2.1 v.2.2) ((1:UInt64),0,(2305843009213690799:UInt64))=some x∧x.toNat=b.toNat^n.toNat%PN:=by
  refine Bm len (fun k v=>∃o:UInt64,v=(o,(k:Int),(2305843009213690799:UInt64))∧o.toNat=b.toNat^(n.toNat/2^(len-k))%PN) _ (by omega) ?_ ?_ ⟨1,rfl,?_⟩
  ·rintro k v hk ⟨o,rfl,ho⟩;obtain⟨o',h1,h2⟩:=Agd b n o len k hl h64 hk ho;exact⟨_,h1,o',rfl,h2⟩
  ·rintro v ⟨o,rfl,ho⟩;refine⟨o,?_,by rw[ho,AuQ,Awb,Nat.div_one]⟩;simp only;unfold Fm;rw[AsX (by simp)]
  ·rw[Nat.sub_zero,Avr hn,Awb];decide
 rw[hx];exact⟨x,rfl,hq⟩
theorem TR(a b:UInt64)(ha:a.toNat<PN):∃r,H4 a b 2305843009213690799=some r∧r.toNat=a.toNat*b.toNat%PN:=by
 have hP:((2305843009213690799:UInt64)).toNat=2305843009213690799:=rfl;unfold H4
 obtain⟨x,hx,hq⟩:∃x,Ax (fun(v:UInt64×UInt64×UInt64)=>G2 2305843009213690799 v.1 v.2.1 v.2.2) (a,b,(0:UInt64))=some x∧x.toNat=a.toNat*b.toNat%PN:=by
  refine BF (fun v=>v.1.toNat<PN∧v.2.2.toNat<PN∧(v.2.2.toNat+v.1.toNat*v.2.1.toNat)%PN=a.toNat*b.toNat%PN) (fun v=>v.2.1.toNat) _ ?_ ⟨ha,by show(0:UInt64).toNat<PN;decide,by show(0+_)%_=_;rw[AtN]⟩ (by have:=Ahi b;simp only;omega);rintro⟨a1,b1,o1⟩ ⟨h1,h2,h3⟩;simp only at h1 h2 h3;have hPN:PN=2305843009213690799:=rfl;unfold G2;have hz:(b1>(0:UInt64))↔0<b1.toNat:=by rw[Avp,AtJ];rfl
  have hpz:¬(2305843009213690799:UInt64)=0:=by decide
  by_cases hb:0<b1.toNat
  ·left;rw[AsU (As9 (hz.2 hb))]
   have hodd:((b1%(2:UInt64))==(1:UInt64))=decide (b1.toNat%2=1):=by
    rw[Atz,AtW,Atg];have:(b1%(2:UInt64)).toNat=b1.toNat%2:=Auh _ _;rw[←this];exact⟨fun e=>by rw[e];rfl,fun e=>AkE e⟩
   have ho:((o1+a1)%2305843009213690799).toNat=(o1.toNat+a1.toNat)%PN:=by
    rw[Auh,V2,hP,Aur (a:=o1.toNat+a1.toNat) (by omega)]
   have hd:((a1+a1)%2305843009213690799).toNat=(a1.toNat+a1.toNat)%PN:=by
    rw[Auh,V2,hP,Aur (a:=a1.toNat+a1.toNat) (by omega)]
   have hh:(b1/2).toNat=b1.toNat/2:=Avg _ _;have hlt:∀x:Nat,x%PN<PN:=fun x=>AuJ _ (by decide)
   simp only[hodd,AD,AsU hpz];by_cases hp:b1.toNat%2=1
   ·rw[AsU (As9 hp)];refine⟨_,rfl,⟨?_,?_,?_⟩,?_⟩
    ·show((a1+a1)%2305843009213690799).toNat<PN;rw[hd];exact hlt _
    ·show((o1+a1)%2305843009213690799).toNat<PN;rw[ho];exact hlt _
    ·show(((o1+a1)%2305843009213690799).toNat+((a1+a1)%2305843009213690799).toNat*(b1/2).toNat)%PN=_;rw[ho,hd,hh,←h3,AvB,Nat.mod_mod,Awa,←AvB];congr 1;have e:b1.toNat=2*(b1.toNat/2)+1:=by omega
     generalize b1.toNat/2=c at *;rw[e,Nat.mul_add,AuR,←AvV,Nat.mul_two];omega
    ·show(b1/2).toNat<b1.toNat;rw[hh];omega
   ·rw[AsX (by simpa using hp)];refine⟨_,rfl,⟨?_,h2,?_⟩,?_⟩
    ·show((a1+a1)%2305843009213690799).toNat<PN;rw[hd];exact hlt _
    ·show(o1.toNat+((a1+a1)%2305843009213690799).toNat*(b1/2).toNat)%PN=_;rw[hd,hh,←h3,AvB,Awa,←AvB];congr 1;have e:b1.toNat=2*(b1.toNat/2):=by omega
     generalize b1.toNat/2=c at *;rw[e,←AvV,Nat.mul_two]
    ·show(b1/2).toNat<b1.toNat;rw[hh];omega
  ·right;rw[AsX (by simp only[Atg];exact fun e=>hb (hz.1 e))];refine⟨_,rfl,?_⟩;have:b1.toNat=0:=by omega
   rw[this,Nat.mul_zero,AuE,Aur h2]at h3;exact h3
 rw[hx];exact⟨x,rfl,hq⟩
theorem AbX(b n:UInt64):∃r,Jk b n=some r∧r.toNat=b.toNat^n.toNat%PN:=by
 have hP:((2305843009213690799:UInt64)).toNat=2305843009213690799:=rfl;have hlt:∀x:Nat,x%PN<PN:=fun x=>AuJ _ (by decide)
 unfold Jk;rw[AD]
 obtain⟨x,hx,hq⟩:∃x,Ax (fun(v:UInt64×UInt64×UInt64)=>Ij v.1 v.2.1 v.2.2) ((b%2305843009213690799),n,(1:UInt64))=some x∧x.toNat=b.toNat^n.toNat%PN:=by
  refine BF (fun v=>v.1.toNat<PN∧v.2.2.toNat<PN∧(v.2.2.toNat*v.1.toNat^v.2.1.toNat)%PN=b.toNat^n.toNat%PN) (fun v=>v.2.1.toNat) _ ?_ ⟨?_,by show(1:UInt64).toNat<PN;decide,?_⟩ (by have:=Ahi n;simp only;omega)
  ·rintro⟨b1,n1,o1⟩ ⟨h1,h2,h3⟩;simp only at h1 h2 h3;unfold Ij;have hz:(n1>(0:UInt64))↔0<n1.toNat:=by rw[Avp,AtJ];rfl
   by_cases hb:0<n1.toNat
   ·left;rw[AsU (As9 (hz.2 hb))]
    have hodd:((n1%(2:UInt64))==(1:UInt64))=decide (n1.toNat%2=1):=by
     rw[Atz,AtW,Atg];have:(n1%(2:UInt64)).toNat=n1.toNat%2:=Auh _ _;rw[←this];exact⟨fun e=>by rw[e];rfl,fun e=>AkE e⟩
    obtain⟨s,hs,es⟩:=TR b1 b1 h1;obtain⟨t,ht,et⟩:=TR o1 b1 h2;have hh:(n1/2).toNat=n1.toNat/2:=Avg _ _;simp only[hodd,hs,ht,AsY]
    have hsq:∀k:Nat,(b1.toNat*b1.toNat%PN)^k%PN=b1.toNat^(2*k)%PN:=fun k=>by
     rw[←Nat.pow_mod,←Nat.pow_two,←Nat.pow_mul]
    by_cases hp:n1.toNat%2=1
    ·rw[AsU (As9 hp)];refine⟨_,rfl,⟨?_,?_,?_⟩,?_⟩
     ·show s.toNat<PN;rw[es];exact hlt _
     ·show t.toNat<PN;rw[et];exact hlt _
     ·show(t.toNat*s.toNat^(n1/2).toNat)%PN=_;rw[et,es,hh,←h3,Avi,Nat.mod_mod,hsq,←Avi];have e:n1.toNat=2*(n1.toNat/2)+1:=by omega
      generalize n1.toNat/2=c at *;rw[e,Au8,AvV,Auq b1.toNat]
     ·show(n1/2).toNat<n1.toNat;rw[hh];omega
    ·rw[AsX (by simpa using hp)];refine⟨_,rfl,⟨?_,h2,?_⟩,?_⟩
     ·show s.toNat<PN;rw[es];exact hlt _
     ·show(o1.toNat*s.toNat^(n1/2).toNat)%PN=_;rw[es,hh,←h3,Avi,hsq,←Avi];have e:n1.toNat=2*(n1.toNat/2):=by omega
      generalize n1.toNat/2=c at *;rw[e]
     ·show(n1/2).toNat<n1.toNat;rw[hh];omega
   ·right;rw[AsX (by simp only[Atg];exact fun e=>hb (hz.1 e))];refine⟨_,rfl,?_⟩;have:n1.toNat=0:=by omega
    rw[this,Awb,AuR,Aur h2]at h3;exact h3
  ·show(b%2305843009213690799).toNat<PN;rw[Auh,hP];exact hlt _
  ·show(1*(b%2305843009213690799).toNat^n.toNat)%PN=_;rw[AtI,Auh,hP,←Nat.pow_mod]
 rw[hx];exact⟨x,rfl,hq⟩
theorem Aps:EA 1152921504606845399=some ((60:Nat):Int):=by decide +kernel
theorem Uc(x:UInt64):∃b,Gb x=some b∧GF x=some b:=by
 unfold Gb GF;obtain⟨r,hr,er⟩:=Ahc x 1152921504606845399 60 Aps (by decide) (by omega);obtain⟨s,hs,es⟩:=AbX x 1152921504606845399;have e:r=s:=AkE (er.trans es.symm);subst e;rw[hr,hs];by_cases h1:decide (x≥2)=true
 ·rw[AsU h1];by_cases h2:decide (x<2305843009213690799)=true
  ·rw[AsU h2];exact⟨_,rfl,rfl⟩
  ·rw[AsX h2];exact⟨_,rfl,rfl⟩
 ·rw[AsX h1];exact⟨_,rfl,rfl⟩
theorem We(n lo hi:Int):AG n lo hi=some (decide (lo≤n)&&decide (n≤hi)):=by
 unfold AG;by_cases h:lo≤n<;>simp[h]
theorem Ac4(n lo hi:Int):CD n lo hi=some (decide (lo≤n)&&decide (n≤hi)):=by
 unfold CD;by_cases h:lo≤n<;>simp[h]
theorem Us(n lo hi:Int):Bc n lo hi=some (decide (lo≤n)&&decide (n≤hi)):=by
 unfold Bc;by_cases h:lo≤n<;>simp[h]
theorem HS{α:Type}(q:α→Bool)(l:List α):∀b:Bool,l.foldl (fun b x=>b||q x) b=(b||l.any q):=by
 induction l with
 |nil=>intro b;simp
 |cons x l ih=>intro b;simp[ih,AvW]
theorem Apt(a b c:Int):Mo a b<c↔a<c∨b<c:=by unfold Mo;split<;>omega
theorem Arw(a b c:Int):J6 a b≥c↔a≥c∨b≥c:=by unfold J6;split<;>omega
def GP(p:Asu):Bool:=(G5 p).getD false
theorem Akv(p:Asu):G5 p=some (GP p):=by
 unfold GP G5;simp only[Ac4,A2,Ib,Eb];simp only[Pj,At0]
theorem Aic(p:Asu):FR p=some (GP p):=by
 unfold GP FR G5;simp only[Ac4,A2,Ib,Eb];simp only[Pj,At0];congr 1;rw[Atz];by_cases h3:p.Za=3
 ·simp[h3];omega
 ·simp[h3];omega
def Oo(n:Int)(x:Asv):Bool:=(Ju x n).getD false
theorem Anz(n:Int)(x:Asv):Ju x n=some (Oo n x):=by
 unfold Oo Ju;simp only[Ac4,A2,Ib,Eb];simp only[Pj,At0]
theorem AlT(n:Asw)(hp:n.Ze.length≤4096)(he:n.Zf.length≤4096):∃e,FG n=some e∧JX n=some e∧(e=0→n.Ze.all GP=true):=by
 have w1:∀k:Nat,k<5000→w64 ((k:Int)+1)=((k+1:Nat):Int):=fun k hk=>CG (by omega)
 have l1:Ax (fun(v:Int)=>CH n v) 0=some (if n.Ze.all GP=true then .inl ()else .inr (.inr 1)):=by
  refine C2 n.Ze (CH n) GP _ _ (by omega) (fun k hk=>?_) ?_
  ·unfold CH;rw[AsU (by simp;omega),AsU (A9 hk)];simp only[AD,As1,w1 k (by omega)];rw[show(⟨(nth n.Ze k).Za,(nth n.Ze k).Zb,(nth n.Ze k).Zc⟩:Asu)=nth n.Ze k from rfl,Aic];simp only[A2];cases GP (nth n.Ze k)<;>rfl
  ·unfold CH;rw[AsX (by simp)]
 have r1:Ax (fun(v:Int)=>DZ n v) 0=some (if n.Ze.all GP=true then .inl ()else .inr (.inr 1)):=by
  refine C2 n.Ze (DZ n) GP _ _ (by omega) (fun k hk=>?_) ?_
  ·unfold DZ;rw[AsU (by simp;omega),AsU (A9 hk)];simp only[AD,As1,w1 k (by omega),Akv,A2];cases GP (nth n.Ze k)<;>rfl
  ·unfold DZ;rw[AsX (by simp)]
 have l2:Ax (fun(v:Int)=>CC n (n.Ze.length:Int) v) 0=some (if n.Zf.all (Oo (n.Ze.length:Int))=true then .inl ()else .inr (.inr 1)):=by
  refine C2 n.Zf (CC n (n.Ze.length:Int)) (Oo (n.Ze.length:Int)) _ _ (by omega) (fun k hk=>?_) ?_
  ·unfold CC;rw[AsU (by simp;omega),AsU (A9 hk)];simp only[AD,As1,w1 k (by omega)];generalize nth n.Zf k=x
   have e:(if(decide ((Mo (Mo (Mo x.A x.B) x.Zb) x.Km)<0))then some true else if(decide ((J6 x.A x.B)≥(n.Ze.length:Int)))then some true else if(x.A==x.B)then some true else if(decide (x.Zb≥16))then some true else if(decide (x.Zd<1))then some true else if(decide (x.Zd>100000))then some true else some ((decide (x.Km>10000))):Option Bool)=some (!Oo (n.Ze.length:Int) x):=by
    unfold Oo Ju;simp only[Ac4,A2,Ib,Eb,At0];congr 1;rw[Atz,show w64 ((n.Ze.length:Int)-1)=(n.Ze.length:Int)-1 from AE (by omega)];simp only[Apt,Arw,Atv,Ata,Aum,Auj,Atg,AtE,AtW,Avy,bne_eq_false_iff_eq];omega
   rw[e,A2];cases Oo (n.Ze.length:Int) x<;>rfl
  ·unfold CC;rw[AsX (by simp)]
 have r2:Ax (fun(v:Int)=>Ez n v) 0=some (if n.Zf.all (Oo (n.Ze.length:Int))=true then .inl ()else .inr (.inr 1)):=by
  refine C2 n.Zf (Ez n) (Oo (n.Ze.length:Int)) _ _ (by omega) (fun k hk=>?_) ?_
  ·unfold Ez;rw[AsU (by simp;omega),AsU (A9 hk)];simp only[AD,As1,w1 k (by omega),Anz,A2];cases Oo (n.Ze.length:Int) (nth n.Zf k)<;>rfl
  ·unfold Ez;rw[AsX (by simp)]
 unfold FG JX;simp only[AD,Ib,A2];rw[l1,r1,l2,r2];simp only[A2];by_cases h:(decide ((n.Ze.length:Int)>512)||decide ((n.Zf.length:Int)>2048))=true
 ·simp only[AsU h];exact⟨_,rfl,rfl,fun e=>by omega⟩
 ·simp only[AsX h];cases n.Ze.all GP
  ·exact⟨_,rfl,rfl,fun e=>by omega⟩
  ·cases n.Zf.all (Oo (n.Ze.length:Int))<;>exact⟨_,rfl,rfl,fun _=>rfl⟩
theorem Ab1{n k:Nat}(h:k<n):nth (List.range n) k=k:=by simp[nth,h]
def Abu(l:List Int)(k:Nat):Bool:=decide (0≤nth l k)&&(decide (nth l k≤745654)&&(decide (k=0)||decide (nth l (k-1)<nth l k)))
theorem Aj1(c:AsF)(hl:c.Ze1.length≤1000000):Ax (fun(v:Int)=>Ek c v) 0=some (if(List.range c.Ze1.length).all (Abu c.Ze1)=true then .inl ()else .inr (.inr 1)):=by
 have h:=C2 (List.range c.Ze1.length) (Ek c) (Abu c.Ze1) (.inl ()) (.inr (.inr 1)) (by simp;omega) (fun k hk=>?_) ?_
 ·exact h
 ·rw[Auu]at hk;rw[Ab1 hk];unfold Ek;rw[AsU (by simp;omega),AsU (A9 hk)];simp only[AD,As1,CG (k:=k) (by omega)]
  have e:(if(decide (nth c.Ze1 k<0))then some true else if(decide (nth c.Ze1 k>745654))then some true else if(decide ((k:Int)>0))then(if InR ((w64 ((k:Int)-1))) c.Ze1.length then some ((decide (nth c.Ze1 (((w64 ((k:Int)-1))).toNat)≥nth c.Ze1 k)))else none)else some false:Option Bool)=some (!Abu c.Ze1 k):=by
   unfold Abu;by_cases hz:k=0
   ·subst hz;rw[AsX (c:=decide (((0:Nat):Int)>0)=true) (by simp)];simp only[Ib];congr 1;rw[Atz];simp<;>omega
   ·have hw:w64 ((k:Int)-1)=((k-1:Nat):Int):=by rw[AE (by omega)];omega
    rw[AsU (c:=decide ((k:Int)>0)=true) (by simp;omega),hw,AsU (A9 (by omega))];simp only[Ib,As1];congr 1;rw[Atz];simp[hz]<;>omega
  rw[e,A2];cases Abu c.Ze1 k<;>rfl
 ·rw[Auu];unfold Ek;rw[AsX (by simp)]
theorem Aev(c:AsF)(hl:c.Ze1.length≤1000000):Ax (fun(v:Int×Int)=>CS c v.1 v.2) (-1,0)=some (if(List.range c.Ze1.length).all (Abu c.Ze1)=true then .inl ()else .inr (.inr 1)):=by
 obtain⟨x,hx,hq⟩:∃x,Ax (fun(v:Int×Int)=>CS c v.1 v.2) (-1,0)=some x∧x=(if(List.range c.Ze1.length).all (Abu c.Ze1)=true then .inl ()else .inr (.inr 1)):=by
  refine BF (fun v=>∃k:Nat,v.2=(k:Int)∧k≤c.Ze1.length∧(∀j,j<k→Abu c.Ze1 j=true)∧v.1=(if k=0 then -1 else nth c.Ze1 (k-1))∧-1≤v.1) (fun v=>((c.Ze1.length:Int)-v.2).toNat) _ ?_ ⟨0,rfl,Atp _,fun j hj=>by omega,rfl,by show(-1:Int)≤-1;omega⟩ (by simp;omega);rintro⟨last,t⟩ ⟨k,rfl,hk,ht,hlast,hge⟩;simp only at hlast hge ⊢;unfold CS;by_cases h1:k<c.Ze1.length
  ·rw[AsU (by simp;omega),AsU (A9 h1)];simp only[AD,As1,CG (k:=k) (by omega),Ib,A2]
   have e:(decide (nth c.Ze1 k≤last)||decide (nth c.Ze1 k>745654))=!Abu c.Ze1 k:=by
    unfold Abu;rw[Atz];by_cases hz:k=0
    ·subst hz;simp at hlast;subst hlast;simp<;>omega
    ·rw[AsX hz]at hlast;simp[hz,←hlast]<;>omega
   rw[e];by_cases hp:Abu c.Ze1 k=true
   ·left;rw[AsX (by simp[hp])];refine⟨_,rfl,⟨k+1,rfl,by omega,fun j hj=>?_,by simp,?_⟩,by simp only;omega⟩
    ·by_cases hjk:j=k
     ·subst hjk;exact hp
     ·exact ht j (by omega)
    ·show -1≤nth c.Ze1 k;unfold Abu at hp;simp at hp;omega
   ·right;rw[AsU (by simpa using hp)];refine⟨_,rfl,?_⟩;rw[AsX];intro ha;rw[Atc]at ha;exact hp (ha k (AtR.2 h1))
  ·right;have hkl:k=c.Ze1.length:=by omega
   rw[AsX (by simp;omega)];refine⟨_,rfl,?_⟩;rw[AsU];rw[Atc];intro j hj;exact ht j (by rw[hkl];exact AtR.1 hj)
 rw[hx,hq]
theorem Ag1(c:AsF)(hl:c.Ze1.length≤1000000):∃e,Dm c=some e∧G0 c=some e:=by
 unfold Dm G0;simp only[AD,Ib,A2];rw[Aev c hl,Aj1 c hl];generalize(List.range c.Ze1.length).all (Abu c.Ze1)=z
 repeat' split
 all_goals first
  |exact⟨_,rfl,rfl⟩
  |(cases z<;>exact⟨_,rfl,rfl⟩)
def E1(b:Bool):Int:=if b then 1 else 0
theorem Aaf(ok b:Bool):AO ok (E1 b)=some (E1 (b||!ok)):=by cases ok<;>cases b<;>rfl
theorem Aiq(a b c:Bool):(if a then some (E1 (b||!c))else some (E1 (b||!false)))=some (E1 (b||!(a&&c))):=by cases a<;>cases b<;>cases c<;>rfl
theorem Wh{α:Type}(p:α→Bool)(l:List α):l.any (fun x=>!p x)=!(l.all p):=by
 induction l with
 |nil=>rfl
 |cons x l ih=>rw[List.any_cons,ih,Avw,Awc]
def OM(t:Asx):Bool:=(DI t).getD false
theorem Anc(t:Asx):DI t=some (OM t):=by
 unfold OM DI;simp only[Us,A2,Eb,At0]
def KT(n:Int)(t:Asy):Bool:=(Dt t n).getD false
theorem AhZ(n:Int)(t:Asy):Dt t n=some (KT n t):=by
 unfold KT Dt;simp only[Us,A2,Eb,At0]
def SG(n:Int)(s:Asz):Bool:=(decide (0≤s.Zt)&&decide (s.Zt≤n-1))&&((decide (0≤s.Zu)&&decide (s.Zu≤n-1))&&((s.Zt != s.Zu)&&(decide (0≤s.Zv)&&decide (s.Zv≤1000000000))))
def TQ(w:AsA):Bool:=(decide (0≤w.Zw)&&decide (w.Zw≤63))&&((decide (0≤w.To)&&decide (w.To≤63))&&((w.Zw != w.To)&&(decide (0≤w.Zd)&&decide (w.Zd≤100000))))
def washK(w:AsA):Nat:=w.Zw.toNat*64+w.To.toNat
theorem Tg{w:AsA}(h:TQ w=true):0≤w.Zw∧w.Zw≤63∧0≤w.To∧w.To≤63:=by
 unfold TQ at h;simp at h;omega
section
variable (f:AsB)
theorem Aa6(hl:f.Zx.length≤4096):Ax (fun(v:Int×Int)=>Dl f v.1 v.2) (0,0)=some (E1 (!(f.Zx.all OM))):=by
 have h:=E6 f.Zx (fun(v:Int×Int)=>Dl f v.1 v.2) (fun k b=>(k,E1 b)) (fun b t=>b||!OM t) E1 false (by omega) (fun k b hk=>?_) (fun b=>?_)
 ·rw[HS,Wh]at h;exact h
 ·simp only;unfold Dl;rw[AsU (by simp;omega),AsU (A9 hk)];simp only[AD,As1,CG (k:=k) (by omega)];generalize nth f.Zx k=t;have hi:=E6 ([t.Zg,t.Zh,t.Zi,t.Zk]:List Int) (fun(v:Int×Int)=>DQ (([t.Zg,t.Zh,t.Zi,t.Zk]:List Int).length:Int) [t.Zg,t.Zh,t.Zi,t.Zk] v.1 v.2) (fun k b=>(k,E1 b)) (fun b n=>b||!(decide (0≤n)&&decide (n≤1000000))) E1 b (by simp) (fun k b hk=>?_) (fun b=>?_)
  ·rw[HS]at hi;rw[hi];simp only[A2,We,Aaf,Aiq]
   have e:(b||([t.Zg,t.Zh,t.Zi,t.Zk]:List Int).any (fun n=>!(decide (0≤n)&&decide (n≤1000000)))||!((decide (0≤t.Zj)&&decide (t.Zj≤7))&&((decide (1≤t.Zm)&&decide (t.Zm≤1073741824))&&(decide (0≤t.Zn)&&decide (t.Zn≤100)))))=(b||!OM t):=by
    unfold OM DI;simp only[Us,A2,Eb,At0,List.any_cons,List.any_nil,AvX];rw[AvW];congr 1;simp only[Awc,AvW]
   rw[e]
  ·simp only;unfold DQ;rw[AsU (by simp;simp at hk;omega),AsU (A9 hk)];simp only[We,A2,Aaf,As1,CG (k:=k) (by simp at hk;omega)]
  ·simp only;unfold DQ;rw[AsX (by simp)]
 ·simp only;unfold Dl;rw[AsX (by simp)]
theorem W6(b0:Bool)(hl:f.Zy.length≤4096)(ht:f.Zx.length≤4096):Ax (fun(v:Int×Int)=>Dv f v.1 v.2) (0,E1 b0)=some (E1 (b0||!(f.Zy.all (KT (f.Zx.length:Int))))):=by
 have h:=E6 f.Zy (fun(v:Int×Int)=>Dv f v.1 v.2) (fun k b=>(k,E1 b)) (fun b t=>b||!KT (f.Zx.length:Int) t) E1 b0 (by omega) (fun k b hk=>?_) (fun b=>?_)
 ·rw[HS,Wh]at h;exact h
 ·simp only;unfold Dv;rw[AsU (by simp;omega),AsU (A9 hk)];simp only[AD,As1,CG (k:=k) (by omega),We,A2,Aaf,Aiq];generalize nth f.Zy k=t;have e:∀a c d e g:Bool,(b||!(a&&(c&&d))||!(e&&g))=(b||!(a&&(c&&(d&&(e&&g))))):=by intro a c d e g;cases a<;>cases b<;>cases c<;>cases d<;>cases e<;>cases g<;>rfl
  rw[e];unfold KT Dt;simp only[Us,A2,Eb,At0]
 ·simp only;unfold Dv;rw[AsX (by simp)]
theorem AaP(b0:Bool)(hl:f.Zz.length≤4096)(ht:f.Zx.length≤4096):Ax (fun(v:Int×Int)=>Ds f v.1 v.2) (0,E1 b0)=some (E1 (b0||!(f.Zz.all (SG (f.Zx.length:Int))))):=by
 have hw:w64 ((f.Zx.length:Int)-1)=(f.Zx.length:Int)-1:=AE (by omega);have h:=E6 f.Zz (fun(v:Int×Int)=>Ds f v.1 v.2) (fun k b=>(k,E1 b)) (fun b t=>b||!SG (f.Zx.length:Int) t) E1 b0 (by omega) (fun k b hk=>?_) (fun b=>?_)
 ·rw[HS,Wh]at h;exact h
 ·simp only;unfold Ds;rw[AsU (by simp;omega),AsU (A9 hk)];simp only[AD,As1,CG (k:=k) (by omega),We,A2,Aaf,Aiq,hw];rfl
 ·simp only;unfold Ds;rw[AsX (by simp)]
theorem AdR(hl:f.Zx.length≤4096):Ax (fun(v:Int)=>E3 f v) 0=some (if f.Zx.all OM=true then .inl ()else .inr (.inr 1)):=by
 refine C2 f.Zx (E3 f) OM _ _ (by omega) (fun k hk=>?_) ?_
 ·unfold E3;rw[AsU (by simp;omega),AsU (A9 hk)];simp only[As1,CG (k:=k) (by omega),Anc,A2];cases OM (nth f.Zx k)<;>rfl
 ·unfold E3;rw[AsX (by simp)]
theorem Aak(hl:f.Zy.length≤4096):Ax (fun(v:Int)=>Et f v) 0=some (if f.Zy.all (KT (f.Zx.length:Int))=true then .inl ()else .inr (.inr 1)):=by
 refine C2 f.Zy (Et f) (KT (f.Zx.length:Int)) _ _ (by omega) (fun k hk=>?_) ?_
 ·unfold Et;rw[AsU (by simp;omega),AsU (A9 hk)];simp only[As1,CG (k:=k) (by omega),AhZ,A2];cases KT (f.Zx.length:Int) (nth f.Zy k)<;>rfl
 ·unfold Et;rw[AsX (by simp)]
theorem Acf(hl:f.Zz.length≤4096)(ht:f.Zx.length≤4096):Ax (fun(v:Int)=>DY f v) 0=some (if f.Zz.all (SG (f.Zx.length:Int))=true then .inl ()else .inr (.inr 1)):=by
 have hw:w64 ((f.Zx.length:Int)-1)=(f.Zx.length:Int)-1:=AE (by omega);refine C2 f.Zz (DY f) (SG (f.Zx.length:Int)) _ _ (by omega) (fun k hk=>?_) ?_
 ·unfold DY;rw[AsU (by simp;omega),AsU (A9 hk)];simp only[AD,As1,CG (k:=k) (by omega),Us,A2,Ib,hw];generalize nth f.Zz k=s
  have e:(!(decide (0≤s.Zt)&&decide (s.Zt≤(f.Zx.length:Int)-1))||(!(decide (0≤s.Zu)&&decide (s.Zu≤(f.Zx.length:Int)-1))||((s.Zt==s.Zu)||!(decide (0≤s.Zv)&&decide (s.Zv≤1000000000)))))=!SG (f.Zx.length:Int) s:=by
   unfold SG;simp only[Awc,bne,AvL]
  rw[e];cases SG (f.Zx.length:Int) s<;>rfl
 ·unfold DY;rw[AsX (by simp)]
def GV(s:Bool×Arr Bool 4096)(w:AsA):Bool×Arr Bool 4096:=if TQ w=true then(s.1||s.2.get (washK w),s.2.set (washK w) true)else(true,s.2)
theorem AgB(b c:Bool)(g:Arr Bool 4096)(w:AsA):GV (b||c,g) w=(b||(GV (c,g) w).1,(GV (c,g) w).2):=by
 unfold GV;split<;>simp[AvW]
theorem YN(l:List AsA):∀(b c:Bool) (g:Arr Bool 4096),(l.foldl GV (b||c,g)).1=(b||(l.foldl GV (c,g)).1):=by
  induction l with
  |nil=>intro b c g;rfl
  | cons w l ih=>
    intro b c g;rw[Av3,Av3,AgB];generalize GV (c,g) w=s;obtain⟨d,g'⟩:=s;exact ih b d g'
theorem UC(l:List AsA)(g:Arr Bool 4096):(l.foldl GV (true,g)).1=true:=by
 have:=YN l true false g;simpa using this
theorem AgR{w:AsA}(h:TQ w=true):washK w<4096:=by have:=Tg h;unfold washK;omega
theorem XC(b0:Bool)(g0:Arr Bool 4096)(hl:f.Za1.length≤4096):Ax (fun(v:Int×Int×Arr Bool 4096)=>Do f v.1 v.2.1 v.2.2) (0,E1 b0,g0)=some (E1 (f.Za1.foldl GV (b0,g0)).1):=by
 refine E6 f.Za1 (fun(v:Int×Int×Arr Bool 4096)=>Do f v.1 v.2.1 v.2.2) (fun k s=>(k,E1 s.1,s.2)) GV (fun s=>E1 s.1) (b0,g0) (by omega) (fun k s hk=>?_) (fun s=>?_)
 ·obtain⟨b,g⟩:=s;simp only;unfold Do;rw[AsU (by simp;omega),AsU (A9 hk)];simp only[AD,As1,CG (k:=k) (by omega),We,A2,Eb,Aaf];generalize nth f.Za1 k=w;rw[show((decide (0≤w.Zw)&&decide (w.Zw≤63))&&((decide (0≤w.To)&&decide (w.To≤63))&&((w.Zw != w.To)&&(decide (0≤w.Zd)&&decide (w.Zd≤100000)))))=TQ w from rfl];unfold GV;by_cases h:TQ w=true
  ·have hr:=Tg h;rw[AsU h,AsU h,AsU (show InR w.Zw 64 by unfold InR;omega),AsU (show InR w.To 64 by unfold InR;omega)];simp only[h,A2,Bool.not_true,AvX,AvL,show AO (!(g.get (w.Zw.toNat*64+w.To.toNat))) (E1 b)=some (E1 (b||!(!(g.get (w.Zw.toNat*64+w.To.toNat)))))from Aaf _ _];rw[AsU (show InR w.Zw 64 by unfold InR;omega),AsU (show InR w.To 64 by unfold InR;omega),A2];rfl
  ·rw[AsX h,AsX h];simp only[AuK]at h;simp only[h,A2,Awg,Bool.or_true]
 ·simp only;unfold Do;rw[AsX (by simp)]
theorem ZT(l:List AsA)(hl:l.length≤4096):I0 l=some (E1 (l.foldl GV (false,Arr.rep 4096 false)).1):=by
 unfold I0;rw[AsU (by unfold Mk maxLen Fi;omega),AD]
 obtain⟨x,hx,hq⟩:∃x,Ax (fun(v:Int×List Bool)=>FN l v.1 v.2) (0,List.replicate 4096 false)=some x∧x=(if(l.foldl GV (false,Arr.rep 4096 false)).1=true then .inr (.inr 1)else .inl ()):=by
  refine BF (fun v=>∃(k:Nat) (g:Arr Bool 4096),v=((k:Int),g.l)∧k≤l.length∧(l.take k).foldl GV (false,Arr.rep 4096 false)=(false,g)) (fun v=>((l.length:Int)-v.1).toNat) _ ?_ ⟨0,Arr.rep 4096 false,rfl,Atp _,rfl⟩ (by simp;omega);rintro v ⟨k,g,rfl,hk,hf⟩;simp only;unfold FN;by_cases h1:k<l.length
  ·rw[AsU (by simp;omega),AsU (A9 h1)];have hn:nth l k=l[k]:=by simp[nth,h1]
   have hstep:l.foldl GV (false,Arr.rep 4096 false)=(l.drop (k+1)).foldl GV (GV (false,g) (nth l k)):=by
    conv=>lhs;rw[←At8 (k+1) l,Avn,Aty h1,Avn,hf]
    rw[hn];rfl
   simp only[AD,As1,CG (k:=k) (by omega),Us,A2,Ib];generalize nth l k=w at *
   have e:(!(decide (0≤w.Zw)&&decide (w.Zw≤63))||(!(decide (0≤w.To)&&decide (w.To≤63))||((w.Zw==w.To)||!(decide (0≤w.Zd)&&decide (w.Zd≤100000)))))=!TQ w:=by
    unfold TQ;simp only[Awc,bne,AvL]
   rw[e];by_cases h:TQ w=true
   ·have hr:=Tg h
    have hkey:w64 (w64 (64*w.Zw)+w.To)=((washK w:Nat):Int):=by
     rw[AE (x:=64*w.Zw) (by omega),AE (by omega)];unfold washK;omega
    rw[AsX (by simp[h]),hkey,AsU (by rw[g.h];exact A9 (AgR h))];simp only[As1];have hG:GV (false,g) w=(g.get (washK w),g.set (washK w) true):=by unfold GV;rw[AsU h];simp
    by_cases hs:nth g.l (washK w)=true
    ·right;rw[AsU hs];refine⟨_,rfl,?_⟩;rw[hstep,hG,show g.get (washK w)=true from hs,UC];rfl
    ·left;rw[AsX hs,AsU (by rw[g.h];exact A9 (AgR h))];refine⟨_,rfl,⟨k+1,g.set (washK w) true,rfl,by omega,?_⟩,by simp only;omega⟩;rw[Aty h1,Avn,hf,←hn];show GV (false,g) w=_;rw[hG,show g.get (washK w)=false from(AuK _).mp hs]
   ·right;rw[AsU (by simpa using h)];refine⟨_,rfl,?_⟩;have hG:GV (false,g) w=(true,g):=by unfold GV;rw[AsX h]
    rw[hstep,hG,UC];rfl
  ·right;have:k=l.length:=by omega
   subst this;rw[AsX (by simp)];rw[AtP]at hf;exact⟨_,rfl,by rw[hf];rfl⟩
 rw[hx,hq];cases(l.foldl GV (false,Arr.rep 4096 false)).1<;>rfl
theorem Afd(h1:f.Zx.length≤4096)(h2:f.Zy.length≤4096)(h3:f.Zz.length≤4096)(h4:f.Za1.length≤4096):∃e,Hw f=some e∧Ku f=some e:=by
 unfold Hw Ku;simp only[Ib,A2];rw[Aa6 f h1];simp only[A2];rw[W6 f _ h2 h1];simp only[A2];rw[AaP f _ h3 h1];simp only[A2];rw[XC f _ _ h4];simp only[A2];rw[AdR f h1,Aak f h2,Acf f h3 h1,ZT _ h4];split
 ·exact⟨_,rfl,rfl⟩
 ·have hF:=YN f.Za1 (!f.Zx.all OM||!f.Zy.all (KT (f.Zx.length:Int))||!f.Zz.all (SG (f.Zx.length:Int))) false (Arr.rep 4096 false);rw[AvX]at hF;rw[hF];refine⟨_,rfl,?_⟩;generalize(f.Za1.foldl GV (false,Arr.rep 4096 false)).1=z;cases f.Zx.all OM<;>cases f.Zy.all (KT (f.Zx.length:Int))<;>cases f.Zz.all (SG (f.Zx.length:Int))<;>cases z<;>rfl
end
structure Few(p:AsH):Prop where
  places:p.Zg1.Ze.length≤4096
  edges:p.Zg1.Zf.length≤4096
  types:p.Zh1.Zx.length≤4096
  wagons:p.Zh1.Zy.length≤4096
  swaps:p.Zh1.Zz.length≤4096
  washes:p.Zh1.Za1.length≤4096
  readers:p.Zi1.length≤4096
  shippers:p.Zj1.length≤4096
  railways:p.Zk1.length≤4096
  days:∀k,k<p.Zk1.length→(nth p.Zk1 k).Zf1.Ze1.length≤1000000
def Aho(c:AsF):Int:=(G0 c).getD 0
theorem Aqq{c:AsF}(hl:c.Ze1.length≤1000000):Dm c=some (Aho c):=by
 obtain⟨e,h1,h2⟩:=Ag1 c hl;rw[h1];unfold Aho;rw[h2];rfl
theorem AqD{c:AsF}(hl:c.Ze1.length≤1000000):G0 c=some (Aho c):=by
 obtain⟨e,h1,h2⟩:=Ag1 c hl;unfold Aho;rw[h2];rfl
def Pb(x:UInt64):Bool:=(GF x).getD false
theorem AlO(x:UInt64):Gb x=some (Pb x):=by
 obtain⟨e,h1,h2⟩:=Uc x;rw[h1];unfold Pb;rw[h2];rfl
theorem Ara(x:UInt64):GF x=some (Pb x):=by
 obtain⟨e,h1,h2⟩:=Uc x;unfold Pb;rw[h2];rfl
def Jg(n:Int)(r:AsC):Bool:=!(decide (0≤r.Zb1)&&decide (r.Zb1≤n-1))||(decide (r.Low < -1000)||(decide (r.Low>r.Zc1)||decide (r.Zc1>1000)))
def SL(p:AsH)(s:AsD):Bool:=if 0≤s.Zb1∧s.Zb1<(p.Zg1.Ze.length:Int)then(nth p.Zg1.Ze s.Zb1.toNat).Za != 4 else true
def SW(n:Int)(w:Asy):Bool:=decide (w.Zq≥n)
def Ma(n:Int)(x:Asu):Bool:=decide (x.Zb≥n)||decide (x.Zc≥n)
def TE(n:Int)(x:Asv):Bool:=decide (x.Zb≥n)
def WZ(r:AsG):Bool:=(Aho r.Zf1 != 0)||!Pb r.Key
section
variable {p:AsH}(h:Few p)
include h
theorem p1(b0:Bool):Ax (fun(v:Bool×Int)=>Ch p v.1 v.2) (b0,0)=some (b0||p.Zi1.any (Jg (p.Zg1.Ze.length:Int))):=by
 have hh:=h.readers;have hp:=h.places;have hw:w64 ((p.Zg1.Ze.length:Int)-1)=(p.Zg1.Ze.length:Int)-1:=AE (by omega);have:=E6 p.Zi1 (fun(v:Bool×Int)=>Ch p v.1 v.2) (fun k b=>(b,k)) (fun b t=>b||Jg (p.Zg1.Ze.length:Int) t) id b0 (by omega) (fun k b hk=>?_) (fun b=>?_)
 ·rw[HS]at this;exact this
 ·simp only;unfold Ch;rw[AsU (by simp;omega),AsU (A9 hk)];simp only[AD,As1,CG (k:=k) (by omega),We,A2,Ib,hw];rfl
 ·simp only;unfold Ch;rw[AsX (by simp)];rfl
theorem p2(b0:Bool):Ax (fun(v:Bool×Int)=>BZ p v.1 v.2) (b0,0)=some (b0||p.Zj1.any (SL p)):=by
 have hh:=h.shippers;have hp:=h.places;have hw:w64 ((p.Zg1.Ze.length:Int)-1)=(p.Zg1.Ze.length:Int)-1:=AE (by omega);have:=E6 p.Zj1 (fun(v:Bool×Int)=>BZ p v.1 v.2) (fun k b=>(b,k)) (fun b t=>b||SL p t) id b0 (by omega) (fun k b hk=>?_) (fun b=>?_)
 ·rw[HS]at this;exact this
 ·simp only;unfold BZ;rw[AsU (by simp;omega),AsU (A9 hk)];simp only[AD,As1,CG (k:=k) (by omega),We,A2,hw];generalize nth p.Zj1 k=s;unfold SL;cases b
  ·rw[AsX (by simp)];by_cases hq:0≤s.Zb1∧s.Zb1<(p.Zg1.Ze.length:Int)
   ·rw[AsX (by simp;omega),AsU (show InR s.Zb1 p.Zg1.Ze.length by unfold InR;omega),A2,AsU hq];rfl
   ·rw[AsU (by simp;omega),A2,AsX hq];rfl
  ·rw[AsU rfl,A2];rfl
 ·simp only;unfold BZ;rw[AsX (by simp)];rfl
theorem p3(b0:Bool):Ax (fun(v:Bool×Int)=>BU p v.1 v.2) (b0,0)=some (b0||p.Zh1.Zy.any (SW (p.Zg1.Ze.length:Int))):=by
 have hh:=h.wagons;have:=E6 p.Zh1.Zy (fun(v:Bool×Int)=>BU p v.1 v.2) (fun k b=>(b,k)) (fun b t=>b||SW (p.Zg1.Ze.length:Int) t) id b0 (by omega) (fun k b hk=>?_) (fun b=>?_)
 ·rw[HS]at this;exact this
 ·simp only;unfold BU;rw[AsU (by simp;omega),AsU (A9 hk)];simp only[AD,As1,CG (k:=k) (by omega),A2,Ib];rfl
 ·simp only;unfold BU;rw[AsX (by simp)];rfl
theorem p4(n:Int)(b0:Bool):Ax (fun(v:Bool×Int)=>BW p n v.1 v.2) (b0,0)=some (b0||p.Zg1.Ze.any (Ma n)):=by
 have hh:=h.places;have:=E6 p.Zg1.Ze (fun(v:Bool×Int)=>BW p n v.1 v.2) (fun k b=>(b,k)) (fun b t=>b||Ma n t) id b0 (by omega) (fun k b hk=>?_) (fun b=>?_)
 ·rw[HS]at this;exact this
 ·simp only;unfold BW;rw[AsU (by simp;omega),AsU (A9 hk)];simp only[AD,As1,CG (k:=k) (by omega),A2,Ib];rfl
 ·simp only;unfold BW;rw[AsX (by simp)];rfl
theorem p5(n:Int)(b0:Bool):Ax (fun(v:Bool×Int)=>BX p n v.1 v.2) (b0,0)=some (b0||p.Zg1.Zf.any (TE n)):=by
 have hh:=h.edges;have:=E6 p.Zg1.Zf (fun(v:Bool×Int)=>BX p n v.1 v.2) (fun k b=>(b,k)) (fun b t=>b||TE n t) id b0 (by omega) (fun k b hk=>?_) (fun b=>?_)
 ·rw[HS]at this;exact this
 ·simp only;unfold BX;rw[AsU (by simp;omega),AsU (A9 hk)];simp only[AD,As1,CG (k:=k) (by omega),A2,Ib];rfl
 ·simp only;unfold BX;rw[AsX (by simp)];rfl
theorem p6(b0:Bool):Ax (fun(v:Bool×Int)=>BV p v.1 v.2) (b0,0)=some (b0||p.Zk1.any WZ):=by
 have hh:=h.railways;have:=E6 p.Zk1 (fun(v:Bool×Int)=>BV p v.1 v.2) (fun k b=>(b,k)) (fun b t=>b||WZ t) id b0 (by omega) (fun k b hk=>?_) (fun b=>?_)
 ·rw[HS]at this;exact this
 ·simp only;unfold BV;rw[AsU (by simp;omega),AsU (A9 hk)];simp only[AD,As1,CG (k:=k) (by omega)];have hc:=Aqq (h.days k hk);generalize nth p.Zk1 k=r at *;rw[show Dm _=some (Aho r.Zf1)from hc];simp only[AlO,A2,Ib];rfl
 ·simp only;unfold BV;rw[AsX (by simp)];rfl
theorem r1(n:Int)(hn:n=(p.Zg1.Ze.length:Int)):Ax (fun(v:Int)=>Fb p n v) 0=some (if p.Zi1.all (fun x=>!Jg n x)=true then .inl ()else .inr (.inr false)):=by
 have hh:=h.readers;have hp:=h.places;have hw:w64 (n-1)=n-1:=AE (by omega);refine C2 p.Zi1 (Fb p n) (fun x=>!Jg n x) _ _ (by omega) (fun k hk=>?_) ?_
 ·unfold Fb;rw[AsU (by simp;omega),AsU (A9 hk)];simp only[AD,As1,CG (k:=k) (by omega),Us,A2,Ib,hw];generalize nth p.Zi1 k=r;rw[show(!(decide (0≤r.Zb1)&&decide (r.Zb1≤n-1))||(decide (r.Low < -1000)||(decide (r.Zc1<r.Low)||decide (r.Zc1>1000))))=Jg n r from rfl];cases Jg n r<;>rfl
 ·unfold Fb;rw[AsX (by simp)]
theorem r2:Ax (fun(v:Int)=>Fh p (p.Zg1.Ze.length:Int) v) 0=some (if p.Zj1.all (fun x=>!SL p x)=true then .inl ()else .inr (.inr false)):=by
 have hh:=h.shippers;have hp:=h.places;have hw:w64 ((p.Zg1.Ze.length:Int)-1)=(p.Zg1.Ze.length:Int)-1:=AE (by omega);refine C2 p.Zj1 (Fh p (p.Zg1.Ze.length:Int)) (fun x=>!SL p x) _ _ (by omega) (fun k hk=>?_) ?_
 ·unfold Fh;rw[AsU (by simp;omega),AsU (A9 hk)];simp only[AD,As1,CG (k:=k) (by omega),Us,A2,hw];rw[AsU (A9 hk)];generalize nth p.Zj1 k=s;unfold SL;by_cases hq:0≤s.Zb1∧s.Zb1<(p.Zg1.Ze.length:Int)
  ·rw[AsX (by simp;omega),AsU (show InR s.Zb1 p.Zg1.Ze.length by unfold InR;omega),A2,AsU hq];cases(nth p.Zg1.Ze s.Zb1.toNat).Za != 4<;>rfl
  ·rw[AsU (by simp;omega),A2,AsX hq];rfl
 ·unfold Fh;rw[AsX (by simp)]
theorem r3(n:Int):Ax (fun(v:Int)=>Fg p n v) 0=some (if p.Zh1.Zy.all (fun x=>!SW n x)=true then .inl ()else .inr (.inr false)):=by
 have hh:=h.wagons;refine C2 p.Zh1.Zy (Fg p n) (fun x=>!SW n x) _ _ (by omega) (fun k hk=>?_) ?_
 ·unfold Fg;rw[AsU (by simp;omega),AsU (A9 hk)];simp only[AD,As1,CG (k:=k) (by omega)];rw[show decide ((nth p.Zh1.Zy k).Zq≥n)=SW n (nth p.Zh1.Zy k)from rfl];cases SW n (nth p.Zh1.Zy k)<;>rfl
 ·unfold Fg;rw[AsX (by simp)]
theorem r4(n:Int):Ax (fun(v:Int)=>Ec p n v) 0=some (if p.Zg1.Ze.all (fun x=>!Ma n x)=true then .inl ()else .inr (.inr false)):=by
 have hh:=h.places;refine C2 p.Zg1.Ze (Ec p n) (fun x=>!Ma n x) _ _ (by omega) (fun k hk=>?_) ?_
 ·unfold Ec;rw[AsU (by simp;omega),AsU (A9 hk)];simp only[AD,As1,CG (k:=k) (by omega),Ib,A2];generalize nth p.Zg1.Ze k=w;rw[show(decide (w.Zb≥n)||decide (w.Zc≥n))=Ma n w from rfl];cases Ma n w<;>rfl
 ·unfold Ec;rw[AsX (by simp)]
theorem r5(n:Int):Ax (fun(v:Int)=>E8 p n v) 0=some (if p.Zg1.Zf.all (fun x=>!TE n x)=true then .inl ()else .inr (.inr false)):=by
 have hh:=h.edges;refine C2 p.Zg1.Zf (E8 p n) (fun x=>!TE n x) _ _ (by omega) (fun k hk=>?_) ?_
 ·unfold E8;rw[AsU (by simp;omega),AsU (A9 hk)];simp only[AD,As1,CG (k:=k) (by omega)];rw[show decide ((nth p.Zg1.Zf k).Zb≥n)=TE n (nth p.Zg1.Zf k)from rfl];cases TE n (nth p.Zg1.Zf k)<;>rfl
 ·unfold E8;rw[AsX (by simp)]
theorem r6:Ax (fun(v:Int)=>CF p v) 0=some (if p.Zk1.all (fun x=>!WZ x)=true then .inl ()else .inr (.inr 1)):=by
 have hh:=h.railways;refine C2 p.Zk1 (CF p) (fun x=>!WZ x) _ _ (by omega) (fun k hk=>?_) ?_
 ·unfold CF;rw[AsU (by simp;omega),AsU (A9 hk)];simp only[AD,As1,CG (k:=k) (by omega)];have hc:=AqD (h.days k hk);rw[AsU (A9 hk)];generalize nth p.Zk1 k=r at *;rw[show G0 _=some (Aho r.Zf1)from hc];simp only[Ara,A2,Ib];rw[show((Aho r.Zf1 != 0)||!Pb r.Key)=WZ r from rfl];cases WZ r<;>rfl
 ·unfold CF;rw[AsX (by simp)]
theorem Ah8:Mh p=some (!(p.Zi1.any (Jg (p.Zg1.Ze.length:Int))||(p.Zj1.any (SL p)||p.Zh1.Zy.any (SW (p.Zg1.Ze.length:Int))))):=by
 unfold Mh;rw[AD,r1 h _ rfl,r2 h,r3 h];simp only[A2,←Aum,←AuD];cases p.Zi1.any (Jg (p.Zg1.Ze.length:Int))<;>cases p.Zj1.any (SL p)<;>cases p.Zh1.Zy.any (SW (p.Zg1.Ze.length:Int))<;>rfl
theorem Ae0:Kv p=some (!(p.Zg1.Ze.any (Ma (p.Zk1.length:Int))||p.Zg1.Zf.any (TE (p.Zk1.length:Int)))):=by
 unfold Kv;rw[AD,r4 h,r5 h];simp only[A2,←AuD];cases p.Zg1.Ze.any (Ma (p.Zk1.length:Int))<;>cases p.Zg1.Zf.any (TE (p.Zk1.length:Int))<;>rfl
theorem Akt:∃e,BI p=some e∧EG p=some e∧(e=0→p.Zg1.Ze.all GP=true):=by
 obtain⟨e1,n1,n2,n3⟩:=AlT p.Zg1 h.places h.edges;obtain⟨e2,f1,f2⟩:=Afd p.Zh1 h.types h.wagons h.swaps h.washes;unfold BI EG;rw[n1,n2,f1,f2];simp only[A2,AD,Ib];rw[Ah8 h,Ae0 h,r6 h,p1 h];simp only[A2];rw[p2 h];simp only[A2];rw[p3 h];simp only[A2];rw[p4 h];simp only[A2];rw[p5 h];simp only[A2];rw[p6 h];simp only[A2,Ib,AvL,←AuD];split
 ·rename_i q1;exact⟨_,rfl,rfl,fun e=>by subst e;exact absurd q1 (by decide)⟩
 rename_i q1;have q0:e1=0:=by simpa using q1
 have hall:=n3 q0;split
 ·exact⟨_,rfl,rfl,fun _=>hall⟩
 split
 ·exact⟨_,rfl,rfl,fun _=>hall⟩
 ·generalize((p.Zk1.length:Int)==0)=z;cases z<;>cases p.Zi1.any (Jg (p.Zg1.Ze.length:Int))<;>cases p.Zj1.any (SL p)<;>cases p.Zh1.Zy.any (SW (p.Zg1.Ze.length:Int))<;>cases p.Zg1.Ze.any (Ma (p.Zk1.length:Int))<;>cases p.Zg1.Zf.any (TE (p.Zk1.length:Int))<;>cases p.Zk1.any WZ<;>exact⟨_,rfl,rfl,fun _=>hall⟩
end
theorem LR(n lo hi:Int):AC n lo hi=some (decide (lo≤n)&&decide (n≤hi)):=by
 unfold AC;by_cases h:lo≤n<;>simp[h]
theorem Ak9(c:AsQ)(lo hi:Int):C5 c lo hi=some { c with it:={ c.it with Zn1:=0 },ok:=c.ok&&(decide (lo≤c.it.Zn1)&&decide (c.it.Zn1≤hi)) }:=by
 unfold C5;simp only[Eb,A2]
theorem Ak4(c:AsQ)(lo hi:Int):B5 c lo hi=some { c with it:={ c.it with Zc:=0 },ok:=c.ok&&(decide (lo≤c.it.Zc)&&decide (c.it.Zc≤hi)) }:=by
 unfold B5;simp only[Eb,A2]
theorem Am4(c:AsQ)(lo hi:Int):B4 c lo hi=some { c with it:={ c.it with Zo1:=0 },ok:=c.ok&&(decide (lo≤c.it.Zo1)&&decide (c.it.Zo1≤hi)) }:=by
 unfold B4;simp only[Eb,A2]
theorem Amm(c:AsQ)(lo hi:Int):CB c lo hi=some { c with it:={ c.it with Zw:=0 },ok:=c.ok&&(decide (lo≤c.it.Zw)&&decide (c.it.Zw≤hi)) }:=by
 unfold CB;simp only[Eb,A2]
theorem An0(c:AsQ)(lo hi:Int):C7 c lo hi=some { c with it:={ c.it with To:=0 },ok:=c.ok&&(decide (lo≤c.it.To)&&decide (c.it.To≤hi)) }:=by
 unfold C7;simp only[Eb,A2]
theorem AlR(c:AsQ)(lo hi:Int):Bl c lo hi=some { c with it:={ c.it with Code:=0 },ok:=c.ok&&(decide (lo≤c.it.Code)&&decide (c.it.Code≤hi)) }:=by
 unfold Bl;simp only[Eb,A2]
theorem Alo(c:AsQ)(lo hi:Int):CA c lo hi=some { c with it:={ c.it with Zp1:=0 },ok:=c.ok&&(decide (lo≤c.it.Zp1)&&decide (c.it.Zp1≤hi)) }:=by
 unfold CA;simp only[Eb,A2]
theorem AlS(c:AsQ)(lo hi:Int):C6 c lo hi=some { c with it:={ c.it with Zq1:=0 },ok:=c.ok&&(decide (lo≤c.it.Zq1)&&decide (c.it.Zq1≤hi)) }:=by
 unfold C6;simp only[Eb,A2]
theorem AkS(c:AsQ)(lo hi:Int):BM c lo hi=some { c with it:={ c.it with Zr1:=0 },ok:=c.ok&&(decide (lo≤c.it.Zr1)&&decide (c.it.Zr1≤hi)) }:=by
 unfold BM;simp only[Eb,A2]
theorem Any(c:AsQ)(lo hi:Int):BO c lo hi=some { c with it:={ c.it with Zs1:=0 },ok:=c.ok&&(decide (lo≤c.it.Zs1)&&decide (c.it.Zs1≤hi)) }:=by
 unfold BO;simp only[Eb,A2]
def FV(p:AsH)(i:Int):Asu:=if 0≤i∧i<(p.Zg1.Ze.length:Int)then nth p.Zg1.Ze i.toNat else⟨0,0,0⟩
theorem Aou(c:AsQ)(kind:Int):Bv c kind=some (FV c.p c.it.Zb1,{ c with it:={ c.it with Zb1:=0 },ok:=c.ok&&((FV c.p c.it.Zb1).Za != 0&&((kind==0)||((FV c.p c.it.Zb1).Za==kind))) }):=by
 unfold Bv FV;by_cases h:0≤c.it.Zb1∧c.it.Zb1<(c.p.Zg1.Ze.length:Int)
 ·have e:(decide (c.it.Zb1≥0)&&decide (c.it.Zb1<(c.p.Zg1.Ze.length:Int)))=true:=by simp;omega
  simp only[Eb,A2,e,AuA];rw[AsU (show InR c.it.Zb1 c.p.Zg1.Ze.length by unfold InR;omega),AsU h];simp only[AD,A2,Eb,Ib]
 ·have e:(decide (c.it.Zb1≥0)&&decide (c.it.Zb1<(c.p.Zg1.Ze.length:Int)))=false:=by
   rw[Avo];simp;omega
  simp only[Eb,A2,e,AtQ,AuH];rw[AsX h];simp only[A2,Eb,Ib]
def J5(fit:Bool)(x:AsJ):Bool:=(decide (1≤x.Za)&&decide (x.Za≤3))&&((decide (0≤x.Zl1)&&decide (x.Zl1≤1073741824))&&!(x.Zm1&&!fit))
theorem AjB(l:List AsJ)(fit:Bool)(hl:l.length≤1000000):Ip l fit=some (l.all (J5 fit)&&decide ((l.length:Int)≤16)):=by
 have h:Ax (fun(v:Int)=>DX l fit v) 0=some (if l.all (J5 fit)=true then .inl ()else .inr (.inr false)):=by
  refine C2 l (DX l fit) (J5 fit) _ _ (by omega) (fun k hk=>?_) ?_
  ·unfold DX;rw[AsU (by simp;omega),AsU (A9 hk)];simp only[AD,As1,CG (k:=k) (by omega),Ib,Eb,A2];generalize nth l k=x
   have e:(decide (x.Za<1)||(decide (x.Za>3)||(decide (x.Zl1<0)||(decide (x.Zl1>1073741824)||(x.Zm1&&!fit)))))=!J5 fit x:=by
    unfold J5;rw[Atz];cases x.Zm1<;>cases fit<;>simp<;>omega
   rw[e];cases J5 fit x<;>rfl
  ·unfold DX;rw[AsX (by simp)]
 unfold Ip;rw[h];simp only[A2];cases l.all (J5 fit)<;>rfl
theorem Ajh(it:AsK)(hl:it.Zu1.length≤1000000):JE it=some (!(decide ((it.Zu1.length:Int)>16)||((it.Za==10)&&((it.Zu1.length:Int)==0)))&&it.Zu1.all (J5 (!(it.Za==10)))):=by
 have h:Ax (fun(v:Int)=>Ej it v) 0=some (if it.Zu1.all (J5 (!(it.Za==10)))=true then .inl ()else .inr (.inr false)):=by
  refine C2 it.Zu1 (Ej it) (J5 (!(it.Za==10))) _ _ (by omega) (fun k hk=>?_) ?_
  ·unfold Ej;rw[AsU (by simp;omega),AsU (A9 hk)];simp only[AD,As1,CG (k:=k) (by omega),LR,Ib,Eb,A2];generalize nth it.Zu1 k=x;generalize(it.Za==10)=z
   have e:(!(decide (1≤x.Za)&&decide (x.Za≤3))||(!(decide (0≤x.Zl1)&&decide (x.Zl1≤1073741824))||(z&&x.Zm1)))=!J5 (!z) x:=by
    unfold J5;rw[Atz];cases x.Zm1<;>cases z<;>simp<;>omega
   rw[e];cases J5 (!z) x<;>rfl
  ·unfold Ej;rw[AsX (by simp)]
 unfold JE;rw[h];simp only[A2,Ib,Eb];cases it.Zu1.all (J5 (!(it.Za==10)))<;>cases(decide ((it.Zu1.length:Int)>16)||((it.Za==10)&&((it.Zu1.length:Int)==0)))<;>rfl
theorem AeF(it:AsK):FB it=Dc it:=by
 unfold FB Dc;simp only[LR,Eb,A2];congr 2;rw[Atz];simp<;>omega
def Ahe(it:AsK):Bool:=(Dc it).getD false
theorem Am5(it:AsK):Dc it=some (Ahe it):=by
 unfold Ahe Dc;simp only[LR,Eb,A2];simp only[Pj,At0]
theorem Amt(s:List UInt8)(b:UInt8)(hl:s.length≤1000000):Kn s b=some (s.any (fun c=>c==b)):=by
 have h:Ax (fun(v:Int)=>Hu s b v) 0=some (if s.all (fun c=>!(c==b))=true then .inl ()else .inr (.inr true)):=by
  refine C2 s (Hu s b) (fun c=>!(c==b)) _ _ (by omega) (fun k hk=>?_) ?_
  ·unfold Hu;rw[AsU (by simp;omega),AsU (A9 hk)];simp only[As1,CG (k:=k) (by omega)];cases nth s k==b<;>rfl
  ·unfold Hu;rw[AsX (by simp)]
 unfold Kn;rw[h,←AuD];cases s.any (fun c=>c==b)<;>rfl
theorem Acm{α X:Type}[Inhabited α](l:List α)(f:Int→Option (Int⊕X))(p:α→Bool)(good bad:X)(hl:l.length<1152921504606846976) (hs:∀k:Nat,k<l.length→(∀j,j<k→p (nth l j)=true)→f (k:Int)=some (if p (nth l k)=true then .inl ((k+1:Nat):Int)else .inr bad)) (he:f (l.length:Int)=some (.inr good)) :Ax (fun v=>f v) 0=some (if l.all p=true then good else bad):=by
 obtain⟨x,hx,hq⟩:∃x,Ax (fun v=>f v) 0=some x∧x=(if l.all p=true then good else bad):=by
  refine BF (fun v=>∃k:Nat,v=(k:Int)∧k≤l.length∧(l.take k).all p=true∧∀j,j<k→p (nth l j)=true) (fun v=>(l.length-v).toNat) _ ?_ ⟨0,rfl,Atp _,rfl,fun j hj=>by omega⟩ (by simp;omega);rintro v ⟨k,rfl,hk,ht,hj⟩;by_cases h1:k<l.length
  ·have hn:nth l k=l[k]:=by simp[nth,h1]
   rw[hs k h1 hj];by_cases hp:p (nth l k)=true
   ·left;refine⟨_,by rw[AsU hp],⟨k+1,rfl,by omega,?_,fun j hjk=>?_⟩,by omega⟩
    ·rw[Aty h1,List.all_append,ht,←hn];simp[hp]
    ·by_cases e:j=k
     ·subst e;exact hp
     ·exact hj j (by omega)
   ·right;refine⟨_,by rw[AsX hp],?_⟩;rw[AsX];intro ha;rw[Atc]at ha;exact hp (by rw[hn];exact ha _ (AtL h1))
  ·right;have:k=l.length:=by omega
   subst this;rw[AtP]at ht;exact⟨_,he,by rw[AsU ht]⟩
 rw[hx,hq]
def LN:List UInt8:=[119,112,111,110,102,116,99,100,107,103,97]
def DA(it:AsK)(x:UInt8):Int:=(BG it x).getD 0
theorem Aiw(it:AsK)(x:UInt8):BG it x=some (DA it x):=by
 unfold DA BG;simp only[Pj,At0]
def IQ(p:AsH)(i:Int):Bool:=decide (0≤i)&&decide (i≤(p.Zg1.Ze.length:Int)-1)
def QQ(p:AsH)(it:AsK):Bool:=IQ p it.Zb1&&(if((it.Za==3)||(it.Za==4))then(FV p it.Zb1).Za==3 else if(it.Za==9)then(FV p it.Zb1).Za==5 else true)
def VN(p:AsH)(it:AsK):Bool :=
 if(it.Za==1)then decide (0≤it.Zc)&&decide (it.Zc≤(p.Zi1.length:Int)-1)
 else if((it.Za==3)||(it.Za==4))then(it.Zc==(FV p it.Zb1).Zb)||(it.Zc==(FV p it.Zb1).Zc)
 else if(it.Za==10)then decide (0≤it.Zc)&&decide (it.Zc≤63)
 else decide (0≤it.Zc)&&decide (it.Zc≤(p.Zj1.length:Int)-1)
def OK(p:AsH)(it:AsK):Bool :=
 if(it.Za==5)then decide (1≤it.Zo1)&&decide (it.Zo1≤1000000000)
 else if(it.Za==15)then decide (0≤it.Zo1)&&decide (it.Zo1≤(p.Zh1.Zx.length:Int)-1)
 else decide (1≤it.Zo1)&&decide (it.Zo1≤6)
def Adh(it:AsK):Bool :=
 if((it.Za==3)||(it.Za==4))then decide (0≤it.Code)&&decide (it.Code≤8)
 else if(it.Za==6)then decide (0≤it.Code)&&decide (it.Code≤1)
 else if(it.Za==8)then decide (1≤it.Code)&&decide (it.Code≤9)
 else decide (1≤it.Code)&&decide (it.Code≤2)
def DC(p:AsH)(it:AsK)(x:UInt8):Bool :=
 if(x==119)then decide (0≤it.Zn1)&&decide (it.Zn1≤(p.Zh1.Zy.length:Int)-1)
 else if(x==112)then QQ p it
 else if(x==111)then VN p it
 else if(x==110)then OK p it
 else if(x==102)then decide (0≤it.Zw)&&decide (it.Zw≤1073741824)
 else if(x==116)then decide (it.Zw≤it.To)&&decide (it.To≤1073741824)
 else if(x==99)then Adh it
 else if(x==100)then IQ p it.Zp1
 else if(x==107)then decide (0≤it.Zq1)&&decide (it.Zq1≤63)
 else if(x==103)then(if(it.Za==15)then decide (1≤it.Zr1)&&decide (it.Zr1≤1000)else decide (0≤it.Zr1)&&decide (it.Zr1≤1000000))
 else decide (0≤it.Zs1)&&decide (it.Zs1≤1000000000)
theorem TO(a b:Bool):(if a then some a else some b)=some (a||b):=by cases a<;>rfl
section
variable {p:AsH}(h:Few p)(it:AsK)
include h
theorem AoT:w64 ((p.Zg1.Ze.length:Int)-1)=(p.Zg1.Ze.length:Int)-1:=AE (by have:=h.places;omega)
theorem w_wg:w64 ((p.Zh1.Zy.length:Int)-1)=(p.Zh1.Zy.length:Int)-1:=AE (by have:=h.wagons;omega)
theorem w_ty:w64 ((p.Zh1.Zx.length:Int)-1)=(p.Zh1.Zx.length:Int)-1:=AE (by have:=h.types;omega)
theorem w_rd:w64 ((p.Zi1.length:Int)-1)=(p.Zi1.length:Int)-1:=AE (by have:=h.readers;omega)
theorem w_sh:w64 ((p.Zj1.length:Int)-1)=(p.Zj1.length:Int)-1:=AE (by have:=h.shippers;omega)
theorem Aif:Kq p it=some (QQ p it):=by
 unfold Kq QQ IQ FV;simp only[LR,A2,AoT h,TO];by_cases hr:0≤it.Zb1∧it.Zb1<(p.Zg1.Ze.length:Int)
 ·have e:(decide (0≤it.Zb1)&&decide (it.Zb1≤(p.Zg1.Ze.length:Int)-1))=true:=by simp;omega
  rw[e,AsX (by simp),AsU (show InR it.Zb1 p.Zg1.Ze.length by unfold InR;omega),AsU hr];simp only[AD,A2,Pj,AuU]
 ·have e:(decide (0≤it.Zb1)&&decide (it.Zb1≤(p.Zg1.Ze.length:Int)-1))=false:=by rw[Avo];simp;omega
  rw[e,AsU (by simp),Ave]
theorem Ajm(hr:it.Za=3∨it.Za=4→IQ p it.Zb1=true):Kf p it=some (VN p it):=by
 unfold Kf VN;simp only[LR,A2,w_rd h,w_sh h,TO,Ib];by_cases h1:(it.Za==1)=true
 ·rw[AsU h1,AsU h1]
 ·rw[AsX h1,AsX h1];by_cases h3:((it.Za==3)||(it.Za==4))=true
  ·have hk:it.Za=3∨it.Za=4:=by simpa using h3
   have hq:=hr hk;unfold IQ at hq;have hq':0≤it.Zb1∧it.Zb1<(p.Zg1.Ze.length:Int):=by simp at hq;omega
   rw[AsU h3,AsU h3,AsU (show InR it.Zb1 p.Zg1.Ze.length by unfold InR;omega)];unfold FV;rw[AsU hq'];simp only[AD]
  ·rw[AsX h3,AsX h3];simp only[Pj]
theorem AgA:I9 p it=some (OK p it):=by
 unfold I9 OK;simp only[LR,A2,w_ty h,Pj]
omit h in
theorem AmF:Mn it=some (Adh it):=by
 unfold Mn Adh;simp only[LR,A2,TO];simp only[Pj]
theorem AhK(x:UInt8)(hr:x=111→it.Za=3∨it.Za=4→IQ p it.Zb1=true):Kb p it x=some (DC p it x):=by
 unfold Kb DC;simp only[Aif h,AgA h,AmF,LR,A2,w_wg h,AoT h];by_cases h1:(x==111)=true
 ·have hx:x=111:=by simpa using h1
  rw[Ajm h it (hr hx)];simp only[A2,Pj];rfl
 ·rw[AsX h1,AsX h1];simp only[Pj];rfl
def rb(p:AsH)(it:AsK)(u:List UInt8)(x:UInt8):Bool:=if u.any (fun c=>c==x)=true then DC p it x else DA it x==0
def UO(p:AsH)(it:AsK)(u:List UInt8):Bool :=
 LN.all (rb p it u)&&(((u.any (fun c=>c==120)==!(it.Zt1==[]))&&!decide ((it.Zt1.length:Int)>2000)) &&
  (if u.any (fun c=>c==113)=true then !(decide ((it.Zu1.length:Int)>16)||((it.Za==10)&&((it.Zu1.length:Int)==0)))&&it.Zu1.all (J5 (!(it.Za==10)))else(it.Zu1.length:Int)==0))
theorem AdV(u:List UInt8)(hu:F3 it.Za=some u)(hul:u.length≤100)(hpl:it.Za=3∨it.Za=4→u.any (fun c=>c==112)=true)(hpt:it.Zu1.length≤1000000) :Hz p it=some (((decide (1≤it.Za)&&decide (it.Za≤15))&&Ahe it)&&UO p it u):=by
 have hl:Ax (fun(v:Int)=>Eg p it u v) 0=some (if LN.all (rb p it u)=true then .inl ()else .inr (.inr false)):=by
  refine Acm LN (Eg p it u) (rb p it u) _ _ (by decide) (fun k hk hj=>?_) ?_
  ·have hk':k<11:=hk;unfold Eg;rw[AsU (by simp;omega),AsU (show InR (k:Int) ([119,112,111,110,102,116,99,100,107,103,97]:List UInt8).length from A9 hk)];simp only[AD,As1,CG (k:=k) (by omega)];rw[show nth ([119,112,111,110,102,116,99,100,107,103,97]:List UInt8) k=nth LN k from rfl]
   have hrr:nth LN k=111→it.Za=3∨it.Za=4→IQ p it.Zb1=true:=by
    intro hx hkk
    have h2:k=2:=by
     have:∀q:Fin 11,nth LN q.val=111→q.val=2:=by decide
     exact this ⟨k,hk'⟩ hx
    have hp1:=hj 1 (by omega);unfold rb at hp1;rw[show nth LN 1=112 from rfl,AsU (hpl hkk)]at hp1;have:QQ p it=true:=hp1;unfold QQ at this;rw[Ata]at this;exact this.1
   rw[Amt u _ (by omega),AhK h it _ hrr,Aiw];simp only[A2];unfold rb;cases u.any (fun c=>c==nth LN k)
   ·cases hf:(DA it (nth LN k)==0)<;>simp[bne,hf]
   ·cases DC p it (nth LN k)<;>rfl
  ·unfold Eg;rw[AsX (by decide)]
 unfold Hz UO;rw[hu];simp only[A2,LR,Am5,Ib,Amt u _ (show u.length≤1000000 by omega),Ajh it hpt];rw[hl];simp only[A2];generalize LN.all (rb p it u)=z1;generalize(decide (1≤it.Za)&&decide (it.Za≤15))=z2;generalize Ahe it=z3;generalize(u.any (fun c=>c==120)==!(it.Zt1==[]))=z4;generalize decide ((it.Zt1.length:Int)>2000)=z5;generalize u.any (fun c=>c==113)=z6;generalize(!(decide ((it.Zu1.length:Int)>16)||((it.Za==10)&&((it.Zu1.length:Int)==0)))&&it.Zu1.all (J5 (!(it.Za==10))))=z7;generalize((it.Zu1.length:Int)==0)=z8;cases z1<;>cases z2<;>cases z3<;>cases z4<;>cases z5<;>cases z6<;>cases z7<;>cases z8<;>rfl
end
set_option maxRecDepth 8000
set_option maxHeartbeats 8000000
theorem Aqv(a b c:Int):J6 a b≤c↔a≤c∧b≤c:=by unfold J6;split<;>omega
theorem Ai4(l:List UInt8):(l==([]:List UInt8))=decide ((l.length:Int)=0):=by cases l<;>simp<;>omega
theorem Akb(n m:Int):(n==m)=decide (n=m):=by rw[Atz];simp
theorem Yu(a b:UInt8):(a==b)=(a.toNat==b.toNat):=by rw[Atz,AtW,AtW,Au7]
theorem AhE(n m:Int):(n != m)=decide (¬n=m):=by rw[Atz];simp
theorem rv_w(p:AsH)(it:AsK):DC p it 119=(decide (0≤it.Zn1)&&decide (it.Zn1≤(p.Zh1.Zy.length:Int)-1)):=by unfold DC;rw[AsU (by decide)]
theorem fv_w(it:AsK):DA it 119=it.Zn1:=by unfold DA BG;rw[AsU (by decide)];rfl
theorem rv_p(p:AsH)(it:AsK):DC p it 112=QQ p it:=by unfold DC;rw[AsX (by decide),AsU (by decide)]
theorem fv_p(it:AsK):DA it 112=it.Zb1:=by unfold DA BG;rw[AsX (by decide),AsU (by decide)];rfl
theorem rv_o(p:AsH)(it:AsK):DC p it 111=VN p it:=by unfold DC;rw[AsX (by decide),AsX (by decide),AsU (by decide)]
theorem fv_o(it:AsK):DA it 111=it.Zc:=by unfold DA BG;rw[AsX (by decide),AsX (by decide),AsU (by decide)];rfl
theorem rv_n(p:AsH)(it:AsK):DC p it 110=OK p it:=by unfold DC;rw[AsX (by decide),AsX (by decide),AsX (by decide),AsU (by decide)]
theorem fv_n(it:AsK):DA it 110=it.Zo1:=by unfold DA BG;rw[AsX (by decide),AsX (by decide),AsX (by decide),AsU (by decide)];rfl
theorem rv_f(p:AsH)(it:AsK):DC p it 102=(decide (0≤it.Zw)&&decide (it.Zw≤1073741824)):=by unfold DC;rw[AsX (by decide),AsX (by decide),AsX (by decide),AsX (by decide),AsU (by decide)]
theorem fv_f(it:AsK):DA it 102=it.Zw:=by unfold DA BG;rw[AsX (by decide),AsX (by decide),AsX (by decide),AsX (by decide),AsU (by decide)];rfl
theorem rv_t(p:AsH)(it:AsK):DC p it 116=(decide (it.Zw≤it.To)&&decide (it.To≤1073741824)):=by unfold DC;rw[AsX (by decide),AsX (by decide),AsX (by decide),AsX (by decide),AsX (by decide),AsU (by decide)]
theorem fv_t(it:AsK):DA it 116=it.To:=by unfold DA BG;rw[AsX (by decide),AsX (by decide),AsX (by decide),AsX (by decide),AsX (by decide),AsU (by decide)];rfl
theorem rv_c(p:AsH)(it:AsK):DC p it 99=Adh it:=by unfold DC;rw[AsX (by decide),AsX (by decide),AsX (by decide),AsX (by decide),AsX (by decide),AsX (by decide),AsU (by decide)]
theorem fv_c(it:AsK):DA it 99=it.Code:=by unfold DA BG;rw[AsX (by decide),AsX (by decide),AsX (by decide),AsX (by decide),AsX (by decide),AsX (by decide),AsU (by decide)];rfl
theorem rv_d(p:AsH)(it:AsK):DC p it 100=IQ p it.Zp1:=by unfold DC;rw[AsX (by decide),AsX (by decide),AsX (by decide),AsX (by decide),AsX (by decide),AsX (by decide),AsX (by decide),AsU (by decide)]
theorem fv_d(it:AsK):DA it 100=it.Zp1:=by unfold DA BG;rw[AsX (by decide),AsX (by decide),AsX (by decide),AsX (by decide),AsX (by decide),AsX (by decide),AsX (by decide),AsU (by decide)];rfl
theorem rv_k(p:AsH)(it:AsK):DC p it 107=(decide (0≤it.Zq1)&&decide (it.Zq1≤63)):=by unfold DC;rw[AsX (by decide),AsX (by decide),AsX (by decide),AsX (by decide),AsX (by decide),AsX (by decide),AsX (by decide),AsX (by decide),AsU (by decide)]
theorem fv_k(it:AsK):DA it 107=it.Zq1:=by unfold DA BG;rw[AsX (by decide),AsX (by decide),AsX (by decide),AsX (by decide),AsX (by decide),AsX (by decide),AsX (by decide),AsX (by decide),AsU (by decide)];rfl
theorem rv_g(p:AsH)(it:AsK):DC p it 103=(if(it.Za==15)then decide (1≤it.Zr1)&&decide (it.Zr1≤1000)else decide (0≤it.Zr1)&&decide (it.Zr1≤1000000)):=by unfold DC;rw[AsX (by decide),AsX (by decide),AsX (by decide),AsX (by decide),AsX (by decide),AsX (by decide),AsX (by decide),AsX (by decide),AsX (by decide),AsU (by decide)]
theorem fv_g(it:AsK):DA it 103=it.Zr1:=by unfold DA BG;rw[AsX (by decide),AsX (by decide),AsX (by decide),AsX (by decide),AsX (by decide),AsX (by decide),AsX (by decide),AsX (by decide),AsX (by decide),AsU (by decide)];rfl
theorem rv_a(p:AsH)(it:AsK):DC p it 97=(decide (0≤it.Zs1)&&decide (it.Zs1≤1000000000)):=by unfold DC;rw[AsX (by decide),AsX (by decide),AsX (by decide),AsX (by decide),AsX (by decide),AsX (by decide),AsX (by decide),AsX (by decide),AsX (by decide),AsX (by decide)]
theorem fv_a(it:AsK):DA it 97=it.Zs1:=by unfold DA BG;rw[AsX (by decide),AsX (by decide),AsX (by decide),AsX (by decide),AsX (by decide),AsX (by decide),AsX (by decide),AsX (by decide),AsX (by decide),AsX (by decide)];rfl
theorem AbG{p:AsH}(h:Few p)(hv:∀i:Int,((FV p i).Za != 0)=(decide (0≤i)&&decide (i≤(p.Zg1.Ze.length:Int)-1)))(R:AsI)(w pl o n f t c d cl g a:Int)(tx:List UInt8)(ps:List AsJ)(hps:ps.length≤1000000)(K:Int)(hK:¬(K<1∨15<K)) :∃u,F3 K=some u∧u.length≤100∧(K=3∨K=4→u.any (fun c=>c==112)=true)∧EK p ⟨K,R,w,pl,o,n,f,t,c,d,cl,g,a,tx,ps⟩=some (UO p ⟨K,R,w,pl,o,n,f,t,c,d,cl,g,a,tx,ps⟩ u):=by
 have hK:K=1∨K=2∨K=3∨K=4∨K=5∨K=6∨K=7∨K=8∨K=9∨K=10∨K=11∨K=12∨K=13∨K=14∨K=15:=by omega
 rcases hK with rfl|rfl|rfl|rfl|rfl|rfl|rfl|rfl|rfl|rfl|rfl|rfl|rfl|rfl|rfl<;>refine⟨_,rfl,by decide,by decide,?_⟩<;>unfold EK CI D7 UO LN <;>
  simp only[CT,B7,Cq,D5,Da,Ak9,Aou,Ak4,Am4,Amm,An0,AlR,Alo,AlS,AkS,Any,AjB ps _ hps,AoT h,w_wg h,w_ty h,w_rd h,w_sh h,A2,Eb,Ib,TO,hv,Avw,List.all_nil,rb,List.any_cons,List.any_nil,Yu,UInt8.reduceToNat,Nat.reduceBEq,rv_w,fv_w,rv_p,fv_p,rv_o,fv_o,rv_n,fv_n,rv_f,fv_f,rv_t,fv_t,rv_c,fv_c,rv_d,fv_d,rv_k,fv_k,rv_g,fv_g,rv_a,fv_a,QQ,VN,OK,Adh,IQ,
   Int.reduceLE,Int.reduceLT,Int.reduceBEq,Int.reduceBNe,Int.reduceEq,Int.reduceGT,Int.reduceGE,decide_true,decide_false,AuA,AuH,AtQ,AuU,Bool.and_true,Bool.true_or,Bool.or_true,Bool.false_or,AvX,Ave,Bool.not_true,Awg,beq_self_eq_true,Atr,Bool.true_beq,Bool.false_beq,AvL,Int.ofNat_zero,Int.cast_ofNat_Int,AsW] <;>
  rw[Atz] <;>
  simp only[Ai4,Akb,AhE,Ata,Atv,Aum,Atg,AtE,Aqv,Bool.or_eq_false_iff,Bool.not_eq_eq_eq_not,Bool.not_true,Awg,Awv,Au9,and_assoc]
 ·constructor
  ·rintro⟨h0,h1,h2,h3,h4,h5,h6,h7,h8,h9,h10,h11,h12,h13,h14,h15⟩;exact⟨h0,h1,h6,h2,h3,h7,h4,h5,h8,h9,h10,h11,h12,h13,h14,by first|omega|rfl,h15⟩
  ·rintro⟨h0,h1,h2,h3,h4,h5,h6,h7,h8,h9,h10,h11,h12,h13,h14,h15,h16⟩;exact⟨h0,h1,h3,h4,h6,h7,h2,h5,h8,h9,h10,h11,h12,h13,h14,h16⟩
 ·constructor
  ·rintro⟨h0,h1,h2,h3,h4,h5,h6,h7,h8,h9,h10,h11,h12,h13,h14,h15,h16,h17⟩;exact⟨h0,h1,h2,h3,h9,h10,h7,h8,h4,h6,h11,h12,h13,h14,h15,h16,by first|omega|rfl,h17⟩
  ·rintro⟨h0,h1,h2,h3,h4,h5,h6,h7,h8,h9,h10,h11,h12,h13,h14,h15,h16,h17⟩;exact⟨h0,h1,h2,h3,h8,by first|omega|rfl,h9,h6,h7,h4,h5,h10,h11,h12,h13,h14,h15,h17⟩
 ·constructor
  ·rintro⟨h0,h1,h2,h3,h4,h5,h6,h7,h8,h9,h10,h11,h12,h13,h14,h15,h16,h17⟩;exact⟨h0,h1,h2,h3,h4,h5,h10,h6,h7,h11,h8,h9,h12,h13,h14,h15,h16,by first|omega|rfl,h17⟩
  ·rintro⟨h0,h1,h2,h3,h4,h5,h6,h7,h8,h9,h10,h11,h12,h13,h14,h15,h16,h17,h18⟩;exact⟨h0,h1,h2,h3,h4,h5,h7,h8,h10,h11,h6,h9,h12,h13,h14,h15,h16,h18⟩
 ·constructor
  ·rintro⟨h0,h1,h2,h3,h4,h5,h6,h7,h8,h9,h10,h11,h12,h13,h14,h15,h16,h17⟩;exact⟨h0,h1,h2,h3,h4,h5,h10,h6,h7,h11,h8,h9,h12,h13,h14,h15,h16,by first|omega|rfl,h17⟩
  ·rintro⟨h0,h1,h2,h3,h4,h5,h6,h7,h8,h9,h10,h11,h12,h13,h14,h15,h16,h17,h18⟩;exact⟨h0,h1,h2,h3,h4,h5,h7,h8,h10,h11,h6,h9,h12,h13,h14,h15,h16,h18⟩
 ·constructor
  ·rintro⟨h0,h1,h2,h3,h4,h5,h6,h7,h8,h9,h10,h11,h12,h13,h14,h15,h16,h17,h18,h19,h20⟩;exact⟨h0,h1,h6,h7,h4,h5,h2,h3,h14,h15,h16,h17,h8,h9,h10,h11,h12,h13,h18,h19,by first|omega|rfl,h20⟩
  ·rintro⟨h0,h1,h2,h3,h4,h5,h6,h7,h8,h9,h10,h11,h12,h13,h14,h15,h16,h17,h18,h19,h20,h21⟩;exact⟨h0,h1,h6,h7,h4,h5,h2,h3,h12,h13,h14,h15,h16,h17,h8,h9,h10,h11,h18,h19,h21⟩
 ·constructor
  ·rintro⟨h0,h1,h2,h3,h4,h5,h6,h7,h8,h9,h10,h11,h12,h13,h14,h15,h16,h17⟩;exact⟨h0,h1,h2,h3,h4,h5,h10,h6,h7,h11,h8,h9,h12,h13,h14,h15,h16,by first|omega|rfl,h17⟩
  ·rintro⟨h0,h1,h2,h3,h4,h5,h6,h7,h8,h9,h10,h11,h12,h13,h14,h15,h16,h17,h18⟩;exact⟨h0,h1,h2,h3,h4,h5,h7,h8,h10,h11,h6,h9,h12,h13,h14,h15,h16,h18⟩
 ·constructor
  ·rintro⟨h0,h1,h2,h3,h4,h5,h6,h7,h8,h9,h10,h11,h12,h13,h14,h15,h16⟩;exact⟨h0,h1,h2,h3,h4,h5,h8,h6,h7,h9,h10,h11,h12,h13,h14,h15,by first|omega|rfl,h16⟩
  ·rintro⟨h0,h1,h2,h3,h4,h5,h6,h7,h8,h9,h10,h11,h12,h13,h14,h15,h16,h17⟩;exact⟨h0,h1,h2,h3,h4,h5,h7,h8,h6,h9,h10,h11,h12,h13,h14,h15,h17⟩
 ·constructor
  ·rintro⟨h0,h1,h2,h3,h4,h5,h6,h7,h8,h9,h10,h11,h12,h13,h14,h15⟩;exact⟨h0,h1,h6,h7,h8,h2,h3,h9,h4,h5,h10,h11,h12,h13,h14,by first|omega|rfl,h15⟩
  ·rintro⟨h0,h1,h2,h3,h4,h5,h6,h7,h8,h9,h10,h11,h12,h13,h14,h15,h16⟩;exact⟨h0,h1,h5,h6,h8,h9,h2,h3,h4,h7,h10,h11,h12,h13,h14,h16⟩
 ·generalize ps.all (J5 true)=z;cases z
  ·simp only[AtQ,and_false,false_and]
  ·simp only[eq_self,Au9,Awv,and_assoc];constructor
   ·rintro⟨h0,h1,h2,h3,h4,h5,h6,h7,h8,h9,h10,h11,h12,h13,h14,h15,h16,h17,h18,h19,h20⟩;exact⟨h0,h1,h2,h3,h4,h15,h16,h8,h9,h5,h7,h10,h11,h17,h18,h19,h12,h13,h20,by first|omega|rfl,by first|omega|rfl⟩
   ·rintro⟨h0,h1,h2,h3,h4,h5,h6,h7,h8,h9,h10,h11,h12,h13,h14,h15,h16,h17,h18,h19,h20⟩;exact⟨h0,h1,h2,h3,h4,h9,by first|omega|rfl,h10,h7,h8,h11,h12,h16,h17,by first|omega|rfl,h5,h6,h13,h14,h15,h18⟩
 ·generalize ps.all (J5 false)=z;cases z
  ·simp only[AtQ,and_false,false_and]
  ·simp only[eq_self,Au9,Awv,and_assoc];constructor
   ·rintro⟨h0,h1,h2,h3,h4,h5,h6,h7,h8,h9,h10,h11,h12,h13,h14⟩;exact⟨h4,h5,h0,h1,h6,h7,h8,h9,h10,h11,h12,h13,h14,by first|omega|rfl,by first|omega|rfl,by first|omega|rfl⟩
   ·rintro⟨h0,h1,h2,h3,h4,h5,h6,h7,h8,h9,h10,h11,h12,h13,h14,h15⟩;exact⟨h2,h3,by first|omega|rfl,by first|omega|rfl,h0,h1,h4,h5,h6,h7,h8,h9,h10,h11,h12⟩
 ·constructor
  ·rintro⟨h0,h1,h2,h3,h4,h5,h6,h7,h8,h9,h10,h11,h12,h13,h14,h15⟩;exact⟨h6,h7,h8,h0,h1,h2,h3,h9,h10,h11,h12,h13,h14,by first|omega|rfl,by first|omega|rfl,h15⟩
  ·rintro⟨h0,h1,h2,h3,h4,h5,h6,h7,h8,h9,h10,h11,h12,h13,h14,h15⟩;exact⟨h3,h4,h5,h6,by first|omega|rfl,by first|omega|rfl,h0,h1,h2,h7,h8,h9,h10,h11,h12,h15⟩
 ·constructor
  ·rintro⟨h0,h1,h2,h3,h4,h5,h6,h7,h8,h9,h10,h11,h12,h13,h14,h15⟩;exact⟨h6,h7,h8,h0,h1,h2,h3,h9,h10,h11,h12,h13,h14,by first|omega|rfl,by first|omega|rfl,h15⟩
  ·rintro⟨h0,h1,h2,h3,h4,h5,h6,h7,h8,h9,h10,h11,h12,h13,h14,h15⟩;exact⟨h3,h4,h5,h6,by first|omega|rfl,by first|omega|rfl,h0,h1,h2,h7,h8,h9,h10,h11,h12,h15⟩
 ·constructor
  ·rintro⟨h0,h1,h2,h3,h4,h5,h6,h7,h8,h9,h10,h11,h12,h13,h14⟩;exact⟨h4,h5,h6,h0,h1,h2,h3,h7,h8,h9,h10,h11,h12,h13,by first|omega|rfl,h14⟩
  ·rintro⟨h0,h1,h2,h3,h4,h5,h6,h7,h8,h9,h10,h11,h12,h13,h14,h15⟩;exact⟨h3,h4,h5,h6,h0,h1,h2,h7,h8,h9,h10,h11,h12,h13,h15⟩
 ·constructor
  ·rintro⟨h0,h1,h2,h3,h4,h5,h6,h7,h8,h9,h10,h11,h12⟩;exact⟨h0,h1,h2,h3,h4,h5,h6,h7,h8,h9,h10,h11,by first|omega|rfl,h12⟩
  ·rintro⟨h0,h1,h2,h3,h4,h5,h6,h7,h8,h9,h10,h11,h12,h13⟩;exact⟨h0,h1,h2,h3,h4,h5,h6,h7,h8,h9,h10,h11,h13⟩
 ·constructor
  ·rintro⟨h0,h1,h2,h3,h4,h5,h6,h7,h8,h9,h10,h11,h12,h13,h14,h15,h16,h17,h18,h19,h20,h21⟩;exact⟨h17,h2,h3,h0,h1,h6,h7,h13,h14,h10,h12,h18,h19,h4,h5,h8,h9,h15,h16,h20,by first|omega|rfl,h21⟩
  ·rintro⟨h0,h1,h2,h3,h4,h5,h6,h7,h8,h9,h10,h11,h12,h13,h14,h15,h16,h17,h18,h19,h20,h21⟩;exact⟨h3,h4,h1,h2,h13,h14,h5,h6,h15,h16,h9,by first|omega|rfl,h10,h7,h8,h17,h18,h0,h11,h12,h19,h21⟩
end Go.Proofs.YtioapcamanmoiaaGreatDoor
