/-
  Part 45.
-/
import Derived.Test.YtioapcamanmoiaaGreatDoorYA41
import Derived.Test.YtioapcamanmoiaaGreatDoorYA44
import Derived.KernelRfl
set_option linter.unusedVariables false
set_option linter.unusedSimpArgs false
namespace Go.Proofs.YtioapcamanmoiaaGreatDoor
open Go.Rv
set_option maxRecDepth 20000
set_option maxHeartbeats 4000000
theorem Pv{a r}(h:Hw a=some r):Con B 97 [.agg [.sl false (L Ac a.Zx),.sl false (L Af a.Zy),.sl false (L Al a.Zz),.sl false (L Ak a.Za1)]] [] (fun r' σ'=>r'=i64 r∧σ'=[]):=by
 refine Cw 206 [.tmp 2] Tryz.func97 (fun F hE=>?_) h;unfold Hw;refine T0 [1] ?_;refine Sq ?_;refine Tw [1,38] (fun aI=>⟨Ao 206 [(1,.ref 0 0),(38,.bool aI)],[.box [.sl false (L Ac a.Zx),.sl false (L Af a.Zy),.sl false (L Al a.Zz),.sl false (L Ak a.Za1)] false]⟩) ?_ ?_
 ·intro _;refine Sp (fun aa=>?_) fun aa=>?_
  ·exact Lf Aa (Ew1 aa) (ws [0])
  ·refine Sp (fun aj=>?_) fun aj=>?_
   ·exact Lf Aa (Ew2 aa aj) (ws [0])
   ·refine Sp (fun au=>?_) fun au=>?_
    ·exact Lf Aa (Ew3 aa aj au) (ws [0])
    ·exact Lf Aa (Ew3 aa aj au) (ws [0])
 intro aI;refine Cd ?_ ?_
 ·refine T0 [2] ?_;exact Sr <|Tr <|Rr
 ·refine Sk <|Tn <|T0 [1,3] ?_
  refine T0 [1,3,4] ?_;refine Ja (fun aJ=>⟨Ao 206 [(1,.ref 0 0),(3,.ref 1 0),(4,.fn 129 [.ref 1 0])],[.box [.sl false (L Ac a.Zx),.sl false (L Af a.Zy),.sl false (L Al a.Zz),.sl false (L Ak a.Za1)] false,.box [i64 aJ] false]⟩) ?_ ?_
  ·intro cf;refine T0 [1,3,4,41,42,43] ?_;refine Sb ?_;refine Lo (fun(v:Int×Int)=>(⟨Ao 206 [(1,.ref 0 0),(3,.ref 1 0),(4,.fn 129 [.ref 1 0]),(41,.sl false (L Ac a.Zx)),(42,i64 (a.Zx.length:Int)),(43,i64 v.1)],[.box [.sl false (L Ac a.Zx),.sl false (L Af a.Zy),.sl false (L Al a.Zz),.sl false (L Ak a.Za1)] false,.box [i64 v.2] false]⟩:St)) (ws [0,1]) ?_;rintro⟨x,aK⟩ cg a2 a3 a4;show Dl a x aK=some a2→_;unfold Dl;refine T0 [1,3,4,41,42,43,44] ?_;refine Sq <|Cd ?_ ?_
   ·refine Sk <|Tn <|?_
    refine Ja (fun aL=>⟨Ao 206 [(1,.ref 0 0),(3,.ref 1 0),(4,.fn 129 [.ref 1 0]),(41,.sl false (L Ac a.Zx)),(42,i64 (a.Zx.length:Int)),(43,i64 x)],[.box [.sl false (L Ac a.Zx),.sl false (L Af a.Zy),.sl false (L Al a.Zz),.sl false (L Ak a.Za1)] false,.box [i64 aL] false]⟩) ?_ ?_
    ·intro ch;refine Sb <|Ck fun a5 =>Lt fun d a6 =>Lt fun e a7 =>Lt fun f a8 =>Lt fun g a9 =>Lt fun i ba =>Lt fun j bb =>Lt fun k bc =>Lt fun n bd =>Te (σ':=[_,_,.box [i64 d,i64 e,i64 f,i64 g,i64 i,u64 j,i64 k,i64 n] false]) [1,3,4,6,41,42,43] Aa (Ev (by simp only[go_sem,qR a5,a6,a7,a8,a9,ba,bb,bc,bd];exact AL)) ?_
     refine Ja (fun ab=>⟨Ao 206 [(1,.ref 0 0),(3,.ref 1 0),(4,.fn 129 [.ref 1 0]),(6,.ref 2 0),(41,.sl false (L Ac a.Zx)),(42,i64 (a.Zx.length:Int)),(43,i64 x)],[.box [.sl false (L Ac a.Zx),.sl false (L Af a.Zy),.sl false (L Al a.Zz),.sl false (L Ak a.Za1)] false,.box [i64 ab] false,.box [i64 d,i64 e,i64 f,i64 g,i64 i,u64 j,i64 k,i64 n] false]⟩) ?_ ?_
     ·intro ci;refine Lt fun av be =>Lt fun o bf =>Te (fr':=[(1,_),(3,_),(4,_),(6,_),(41,_),(42,_),(43,_),(55,.bs true 3 (o.length) 0 (o.length)),(56,i64 av),(57,_)]) (σ':=[_,_,_,.buf 1 (L H9 o) false]) [1,3,4,6,41,42,43,55,56,57] Aa (Ew2 be bf) ?_
      refine Sb ?_;refine Lo (fun(v:Int×Int)=>(⟨Ao 206 [(1,.ref 0 0),(3,.ref 1 0),(4,.fn 129 [.ref 1 0]),(6,.ref 2 0),(41,.sl false (L Ac a.Zx)),(42,i64 (a.Zx.length:Int)),(43,i64 x),(55,.bs true 3 (o.length) 0 (o.length)),(56,i64 av),(57,i64 v.1)],[.box [.sl false (L Ac a.Zx),.sl false (L Af a.Zy),.sl false (L Al a.Zz),.sl false (L Ak a.Za1)] false,.box [i64 v.2] false,.box [i64 d,i64 e,i64 f,i64 g,i64 i,u64 j,i64 k,i64 n] false,.buf 1 (L H9 o) false]⟩:St)) (ws [0,1,2,3]) ?_;rintro⟨bg,aw⟩ cj bh bi bj;show DQ av o bg aw=some bh→_;unfold DQ;refine T0 [1,3,4,6,41,42,43,55,56,57,58] ?_;refine Sq <|Cd ?_ ?_
      ·refine Sk <|Tn <|Sq <|Sb <|Ck fun bk =>Te [1,3,4,6,8,41,42,43,55,56,57] Aa (Ew1 (qR bk)) ?_
       refine Bd fun bl bm =>Bd fun ck bn =>Fe [1,3,4,6,41,42,43,55,56,57] (Av (l:=[(63,_,_,_)]) (m:=[(64,129,[.bool bl,.ref 1 0],[.box [.sl false (L Ac a.Zx),.sl false (L Af a.Zy),.sl false (L Al a.Zz),.sl false (L Ak a.Za1)] false,.box [i64 aw] false,.box [i64 d,i64 e,i64 f,i64 g,i64 i,u64 j,i64 k,i64 n] false,.buf 1 (L H9 o) false],_,_)]) ⟨Aq  bm,trivial⟩ ⟨(wc (AF bn) [1]),trivial⟩) Ev ?_
       refine Bn <|Tn <|F0 [1,3,4,6,41,42,43,55,56,57] ?_
       exact Ln (ws [0,1,2,3])
      ·refine Sx <|Tx <|Ly bj bi <|Bx <|?_
       exact Jm ((ws (l':=[(1,.ref 0 0),(3,.ref 1 0),(4,.fn 129 [.ref 1 0]),(6,.ref 2 0),(41,.sl false (L Ac a.Zx)),(42,i64 (a.Zx.length:Int)),(43,i64 x)]) (σ':=[.box [.sl false (L Ac a.Zx),.sl false (L Af a.Zy),.sl false (L Al a.Zz),.sl false (L Ak a.Za1)] false,.box [i64 aw] false,.box [i64 d,i64 e,i64 f,i64 g,i64 i,u64 j,i64 k,i64 n] false]) [0,1,2]).trans (ws [0,1,2]))
     intro ab;refine Fw [1,3,4,41,42,43] (fun aM=>⟨Ao 206 [(1,.ref 0 0),(3,.ref 1 0),(4,.fn 129 [.ref 1 0]),(41,.sl false (L Ac a.Zx)),(42,i64 (a.Zx.length:Int)),(43,i64 x)],[.box [.sl false (L Ac a.Zx),.sl false (L Af a.Zy),.sl false (L Al a.Zz),.sl false (L Ak a.Za1)] false,.box [i64 aM] false]⟩) ?_ ?_
     ·intro _;refine Bd fun cl ax=>?_
      refine Sp (fun ak=>?_) fun ak=>?_
      ·refine Bd fun cm aN=>?_
       refine Sp (fun ay=>?_) fun ay=>?_
       ·refine Bd fun bo bp =>Bd fun cn bq =>?_
        exact Lf (Av (l:=[(69,_,_,_),(73,_,_,_),(78,_,_,_)]) (m:=[(80,129,[.bool bo,.ref 1 0],[.box [.sl false (L Ac a.Zx),.sl false (L Af a.Zy),.sl false (L Al a.Zz),.sl false (L Ak a.Za1)] false,.box [i64 ab] false,.box [i64 d,i64 e,i64 f,i64 g,i64 i,u64 j,i64 k,i64 n] false],_,_)]) ⟨Aq  ax,Aq  aN,Aq  bp,trivial⟩ ⟨(wc (AF bq) [1]),trivial⟩) (Ew2 ak ay) (ws [0,1])
       ·refine Bd fun co br=>?_
        exact Lf (Av (l:=[(69,_,_,_),(73,_,_,_)]) (m:=[(80,129,[.bool false,.ref 1 0],[.box [.sl false (L Ac a.Zx),.sl false (L Af a.Zy),.sl false (L Al a.Zz),.sl false (L Ak a.Za1)] false,.box [i64 ab] false,.box [i64 d,i64 e,i64 f,i64 g,i64 i,u64 j,i64 k,i64 n] false],_,_)]) ⟨Aq  ax,Aq  aN,trivial⟩ ⟨(wc (AF br) [1]),trivial⟩) (Ew2 ak ay) (ws [0,1])
      ·refine Bd fun cp bt=>?_
       exact Lf (Av (l:=[(69,_,_,_)]) (m:=[(80,129,[.bool false,.ref 1 0],[.box [.sl false (L Ac a.Zx),.sl false (L Af a.Zy),.sl false (L Al a.Zz),.sl false (L Ak a.Za1)] false,.box [i64 ab] false,.box [i64 d,i64 e,i64 f,i64 g,i64 i,u64 j,i64 k,i64 n] false],_,_)]) ⟨Aq  ax,trivial⟩ ⟨(wc (AF bt) [1]),trivial⟩) (Ew1 ak) (ws [0,1])
     intro aM;exact Bn <|Jm (ws [0,1])
    intro aL;refine F0 [1,3,4,41,42,43] ?_;exact Ln (ws [0,1])
   ·refine Sx <|Tx <|Ly a4 a3 <|Bx <|?_
    exact Jm ((ws (l':=[(1,.ref 0 0),(3,.ref 1 0),(4,.fn 129 [.ref 1 0])]) (σ':=[.box [.sl false (L Ac a.Zx),.sl false (L Af a.Zy),.sl false (L Al a.Zz),.sl false (L Ak a.Za1)] false,.box [i64 aK] false]) [0,1]).trans (ws [0,1]))
  intro aJ;refine Ja (fun aO=>⟨Ao 206 [(1,.ref 0 0),(3,.ref 1 0),(4,.fn 129 [.ref 1 0])],[.box [.sl false (L Ac a.Zx),.sl false (L Af a.Zy),.sl false (L Al a.Zz),.sl false (L Ak a.Za1)] false,.box [i64 aO] false]⟩) ?_ ?_
  ·intro cq;refine T0 [1,3,4,83,84,85] ?_;refine Sb ?_;refine Lo (fun(v:Int×Int)=>(⟨Ao 206 [(1,.ref 0 0),(3,.ref 1 0),(4,.fn 129 [.ref 1 0]),(83,.sl false (L Af a.Zy)),(84,i64 (a.Zy.length:Int)),(85,i64 v.1)],[.box [.sl false (L Ac a.Zx),.sl false (L Af a.Zy),.sl false (L Al a.Zz),.sl false (L Ak a.Za1)] false,.box [i64 v.2] false]⟩:St)) (ws [0,1]) ?_;rintro⟨az,ac⟩ cr bu bv bw;show Dv a az ac=some bu→_;unfold Dv;refine T0 [1,3,4,83,84,85,86] ?_;refine Sq <|Cd ?_ ?_
   ·refine Sk <|Tn <|Sq <|Sb <|Ck fun bx =>Lt fun p bz =>Lt fun q bA =>Lt fun s bB =>Lt fun t bC =>Lt fun u bD =>Te (σ':=[_,_,.box [i64 p,i64 q,i64 s,i64 t,i64 u] false]) [1,3,4,10,83,84,85] Aa (Ev (by simp only[go_sem,qR bx,bz,bA,bB,bC,bD];exact AL)) ?_
    refine Tw [1,3,4,10,83,84,85] (fun al=>⟨Ao 206 [(1,.ref 0 0),(3,.ref 1 0),(4,.fn 129 [.ref 1 0]),(10,.ref 2 0),(83,.sl false (L Af a.Zy)),(84,i64 (a.Zy.length:Int)),(85,i64 az)],[.box [.sl false (L Ac a.Zx),.sl false (L Af a.Zy),.sl false (L Al a.Zz),.sl false (L Ak a.Za1)] false,.box [i64 al] false,.box [i64 p,i64 q,i64 s,i64 t,i64 u] false]⟩) ?_ ?_
    ·intro _;refine Bd fun cs aA=>?_
     refine Sp (fun am=>?_) fun am=>?_
     ·refine Bd fun ct aP=>?_
      refine Sp (fun aB=>?_) fun aB=>?_
      ·refine Bd fun bE bF =>Bd fun cu bG =>?_
       exact Lf (Av (l:=[(96,_,_,_),(100,_,_,_),(105,_,_,_)]) (m:=[(107,129,[.bool bE,.ref 1 0],[.box [.sl false (L Ac a.Zx),.sl false (L Af a.Zy),.sl false (L Al a.Zz),.sl false (L Ak a.Za1)] false,.box [i64 ac] false,.box [i64 p,i64 q,i64 s,i64 t,i64 u] false],_,_)]) ⟨Aq  aA,Aq  aP,Aq  bF,trivial⟩ ⟨(wc (AF bG) [1]),trivial⟩) (Ew2 am aB) (ws [0,1,2])
      ·refine Bd fun cv bH=>?_
       exact Lf (Av (l:=[(96,_,_,_),(100,_,_,_)]) (m:=[(107,129,[.bool false,.ref 1 0],[.box [.sl false (L Ac a.Zx),.sl false (L Af a.Zy),.sl false (L Al a.Zz),.sl false (L Ak a.Za1)] false,.box [i64 ac] false,.box [i64 p,i64 q,i64 s,i64 t,i64 u] false],_,_)]) ⟨Aq  aA,Aq  aP,trivial⟩ ⟨(wc (AF bH) [1]),trivial⟩) (Ew2 am aB) (ws [0,1,2])
     ·refine Bd fun cw bI=>?_
      exact Lf (Av (l:=[(96,_,_,_)]) (m:=[(107,129,[.bool false,.ref 1 0],[.box [.sl false (L Ac a.Zx),.sl false (L Af a.Zy),.sl false (L Al a.Zz),.sl false (L Ak a.Za1)] false,.box [i64 ac] false,.box [i64 p,i64 q,i64 s,i64 t,i64 u] false],_,_)]) ⟨Aq  aA,trivial⟩ ⟨(wc (AF bI) [1]),trivial⟩) (Ew1 am) (ws [0,1,2])
    intro al;refine Fw [1,3,4,83,84,85] (fun aQ=>⟨Ao 206 [(1,.ref 0 0),(3,.ref 1 0),(4,.fn 129 [.ref 1 0]),(83,.sl false (L Af a.Zy)),(84,i64 (a.Zy.length:Int)),(85,i64 az)],[.box [.sl false (L Ac a.Zx),.sl false (L Af a.Zy),.sl false (L Al a.Zz),.sl false (L Ak a.Za1)] false,.box [i64 aQ] false]⟩) ?_ ?_
    ·intro _;refine Bd fun cx aR=>?_
     refine Sp (fun aC=>?_) fun aC=>?_
     ·refine Bd fun bJ bK =>Bd fun cy bL =>?_
      exact Lf (Av (l:=[(111,_,_,_),(115,_,_,_)]) (m:=[(117,129,[.bool bJ,.ref 1 0],[.box [.sl false (L Ac a.Zx),.sl false (L Af a.Zy),.sl false (L Al a.Zz),.sl false (L Ak a.Za1)] false,.box [i64 al] false,.box [i64 p,i64 q,i64 s,i64 t,i64 u] false],_,_)]) ⟨Aq  aR,Aq  bK,trivial⟩ ⟨(wc (AF bL) [1]),trivial⟩) (Ew1 aC) (ws [0,1])
     ·refine Bd fun cz bM=>?_
      exact Lf (Av (l:=[(111,_,_,_)]) (m:=[(117,129,[.bool false,.ref 1 0],[.box [.sl false (L Ac a.Zx),.sl false (L Af a.Zy),.sl false (L Al a.Zz),.sl false (L Ak a.Za1)] false,.box [i64 al] false,.box [i64 p,i64 q,i64 s,i64 t,i64 u] false],_,_)]) ⟨Aq  aR,trivial⟩ ⟨(wc (AF bM) [1]),trivial⟩) (Ew1 aC) (ws [0,1])
    intro aQ;refine Bn <|Tn <|F0 [1,3,4,83,84,85] ?_
    exact Ln (ws [0,1])
   ·refine Sx <|Tx <|Ly bw bv <|Bx <|?_
    exact Jm ((ws (l':=[(1,.ref 0 0),(3,.ref 1 0),(4,.fn 129 [.ref 1 0])]) (σ':=[.box [.sl false (L Ac a.Zx),.sl false (L Af a.Zy),.sl false (L Al a.Zz),.sl false (L Ak a.Za1)] false,.box [i64 ac] false]) [0,1]).trans (ws [0,1]))
  intro aO;refine Ja (fun aS=>⟨Ao 206 [(1,.ref 0 0),(3,.ref 1 0),(4,.fn 129 [.ref 1 0])],[.box [.sl false (L Ac a.Zx),.sl false (L Af a.Zy),.sl false (L Al a.Zz),.sl false (L Ak a.Za1)] false,.box [i64 aS] false]⟩) ?_ ?_
  ·intro cA;refine T0 [1,3,4,120,121,122] ?_;refine Sb ?_;refine Lo (fun(v:Int×Int)=>(⟨Ao 206 [(1,.ref 0 0),(3,.ref 1 0),(4,.fn 129 [.ref 1 0]),(120,.sl false (L Al a.Zz)),(121,i64 (a.Zz.length:Int)),(122,i64 v.1)],[.box [.sl false (L Ac a.Zx),.sl false (L Af a.Zy),.sl false (L Al a.Zz),.sl false (L Ak a.Za1)] false,.box [i64 v.2] false]⟩:St)) (ws [0,1]) ?_;rintro⟨aT,y⟩ cB bN bO bP;show Ds a aT y=some bN→_;unfold Ds;refine T0 [1,3,4,120,121,122,123] ?_;refine Sq <|Cd ?_ ?_
   ·refine Sk <|Tn <|Sq <|Sb <|Ck fun bQ =>Lt fun ad bR =>Lt fun ae bS =>Lt fun af bT =>Te (σ':=[_,_,.box [i64 ad,i64 ae,i64 af] false]) [1,3,4,12,120,121,122] Aa (Ew4 (qR bQ) bR bS bT) ?_
    refine Fw [1,3,4,120,121,122] (fun aU=>⟨Ao 206 [(1,.ref 0 0),(3,.ref 1 0),(4,.fn 129 [.ref 1 0]),(120,.sl false (L Al a.Zz)),(121,i64 (a.Zz.length:Int)),(122,i64 aT)],[.box [.sl false (L Ac a.Zx),.sl false (L Af a.Zy),.sl false (L Al a.Zz),.sl false (L Ak a.Za1)] false,.box [i64 aU] false]⟩) ?_ ?_
    ·intro _;refine Bd fun cC an=>?_
     refine Sp (fun ag=>?_) fun ag=>?_
     ·refine Bd fun cD aD=>?_
      refine Sp (fun ao=>?_) fun ao=>?_
      ·refine Sp (fun aE=>?_) fun aE=>?_
       ·refine Bd fun bU bV =>Bd fun cE bW =>?_
        exact Lf (Av (l:=[(133,_,_,_),(141,_,_,_),(153,_,_,_)]) (m:=[(155,129,[.bool bU,.ref 1 0],[.box [.sl false (L Ac a.Zx),.sl false (L Af a.Zy),.sl false (L Al a.Zz),.sl false (L Ak a.Za1)] false,.box [i64 y] false,.box [i64 ad,i64 ae,i64 af] false],_,_)]) ⟨Aq  an,Aq  aD,Aq  bV,trivial⟩ ⟨(wc (AF bW) [1]),trivial⟩) (Ew3 ag ao aE) (ws [0,1])
       ·refine Bd fun cF bX=>?_
        exact Lf (Av (l:=[(133,_,_,_),(141,_,_,_)]) (m:=[(155,129,[.bool false,.ref 1 0],[.box [.sl false (L Ac a.Zx),.sl false (L Af a.Zy),.sl false (L Al a.Zz),.sl false (L Ak a.Za1)] false,.box [i64 y] false,.box [i64 ad,i64 ae,i64 af] false],_,_)]) ⟨Aq  an,Aq  aD,trivial⟩ ⟨(wc (AF bX) [1]),trivial⟩) (Ew3 ag ao aE) (ws [0,1])
      ·refine Bd fun cG bY=>?_
       exact Lf (Av (l:=[(133,_,_,_),(141,_,_,_)]) (m:=[(155,129,[.bool false,.ref 1 0],[.box [.sl false (L Ac a.Zx),.sl false (L Af a.Zy),.sl false (L Al a.Zz),.sl false (L Ak a.Za1)] false,.box [i64 y] false,.box [i64 ad,i64 ae,i64 af] false],_,_)]) ⟨Aq  an,Aq  aD,trivial⟩ ⟨(wc (AF bY) [1]),trivial⟩) (Ew2 ag ao) (ws [0,1])
     ·refine Bd fun cH bZ=>?_
      exact Lf (Av (l:=[(133,_,_,_)]) (m:=[(155,129,[.bool false,.ref 1 0],[.box [.sl false (L Ac a.Zx),.sl false (L Af a.Zy),.sl false (L Al a.Zz),.sl false (L Ak a.Za1)] false,.box [i64 y] false,.box [i64 ad,i64 ae,i64 af] false],_,_)]) ⟨Aq  an,trivial⟩ ⟨(wc (AF bZ) [1]),trivial⟩) (Ew1 ag) (ws [0,1])
    intro aU;refine Bn <|Tn <|F0 [1,3,4,120,121,122] ?_
    exact Ln (ws [0,1])
   ·refine Sx <|Tx <|Ly bP bO <|Bx <|?_
    exact Jm ((ws (l':=[(1,.ref 0 0),(3,.ref 1 0),(4,.fn 129 [.ref 1 0])]) (σ':=[.box [.sl false (L Ac a.Zx),.sl false (L Af a.Zy),.sl false (L Al a.Zz),.sl false (L Ak a.Za1)] false,.box [i64 y] false]) [0,1]).trans (ws [0,1]))
  intro aS;refine T0 [1,3,4,13] ?_;refine Ja (fun aV=>⟨Ao 206 [(3,.ref 0 0)],[.box [i64 aV] false]⟩) ?_ ?_
  ·intro cI;refine T0 [3,4,13,158,159,160] ?_;refine Sb ?_;refine Lo (fun⟨ah,z,w⟩=>⟨Ao 206 [(3,.ref 0 0),(4,.fn 129 [.ref 0 0]),(13,.ref 1 0),(158,.sl false (L Ak a.Za1)),(159,i64 (a.Za1.length:Int)),(160,i64 ah)],[.box [i64 z] false,.box (C1 AV.bool w.l) false]⟩) (ws [1,2]) ?_;rintro⟨ah,z,w⟩ cJ b0 b1 b2;show Do a ah z w=some b0→_;unfold Do;refine T0 [3,4,13,158,159,160,161] ?_;refine Sq <|Cd ?_ ?_
   ·refine Sk <|Tn <|?_
    refine Ja (fun(v:Int×Arr Bool 4096)=>(⟨Ao 206 [(3,.ref 0 0),(4,.fn 129 [.ref 0 0]),(13,.ref 1 0),(158,.sl false (L Ak a.Za1)),(159,i64 (a.Za1.length:Int)),(160,i64 ah)],[.box [i64 v.1] false,.box (C1 AV.bool v.2.l) false]⟩:St)) ?_ ?_
    ·intro cK;refine Sb <|Ck fun b3 =>Lt fun b b4 =>Lt fun c b5 =>Lt fun ap b6 =>Te (σ':=[_,_,.box [i64 b,i64 c,i64 ap] false]) [3,4,13,15,158,159,160] Aa (Ew4 (qR b3) b4 b5 b6) ?_
     refine Tw [3,4,13,15,16,158,159,160] (fun aF=>⟨Ao 206 [(3,.ref 0 0),(4,.fn 129 [.ref 0 0]),(13,.ref 1 0),(15,.ref 2 0),(16,.bool aF),(158,.sl false (L Ak a.Za1)),(159,i64 (a.Za1.length:Int)),(160,i64 ah)],[.box [i64 z] false,.box (C1 AV.bool w.l) false,.box [i64 b,i64 c,i64 ap] false]⟩) ?_ ?_
     ·intro _;refine Bd fun cL aq=>?_
      refine Sp (fun ai=>?_) fun ai=>?_
      ·refine Bd fun cM aG=>?_
       refine Sp (fun ar=>?_) fun ar=>?_
       ·refine Sp (fun aH=>?_) fun aH=>?_
        ·refine Bd fun cN b7=>?_
         exact Lf (Bt (l:=[(166,_,_,_),(170,_,_,_),(182,_,_,_)]) ⟨Aq  aq,Aq  aG,Aq  b7,trivial⟩) (Ew3 ai ar aH) (ws [0,1,2])
        ·exact Lf (o2 166 (Aq aq) 170 (Aq aG)) (Ew3 ai ar aH) (ws [0,1,2])
       ·exact Lf (o2 166 (Aq aq) 170 (Aq aG)) (Ew2 ai ar) (ws [0,1,2])
      ·exact Lf (o1 166 (Aq aq)) (Ew1 ai) (ws [0,1,2])
     intro aF;refine Bd fun b8 b9 =>Te [3,4,13,15,16,158,159,160] (Av (l:=[]) (m:=[(186,129,[.bool aF,.ref 0 0],[.box [i64 z] false,.box (C1 AV.bool w.l) false,.box [i64 b,i64 c,i64 ap] false],_,_)]) trivial ⟨(wc (AF b9) [0]),trivial⟩) Ev ?_
     refine T0 [3,4,13,15,158,159,160,187] ?_;refine Cd ?_ ?_
     ·refine Ck fun aW =>Ck fun aX =>?_
      have aY:b.toNat*64+c.toNat<4096:=Acn aW.2 aX.2;have ca:b.toNat*64+c.toNat≤4095:=Nat.le_of_lt_succ aY;refine Bd fun cO cb=>?_
      refine Dq [[],[],[1],[],[3],[1,2],[1,2,3,4,5],[1,2,3,4,5,6],[1,2,3,4,5,6,7],[0,1,2,3,4,5,6,7,8]] [3,4,13,15,158,159,160] (Av (l:=[]) (m:=[(197,129,[.bool (!(w.get (b.toNat*64+c.toNat))),.ref 0 0],[.box [i64 b8] false,.box (C1 AV.bool w.l) false,.box [i64 b,i64 c,i64 ap] false],_,_)]) trivial ⟨(wc (AF cb) [0]),trivial⟩) (Ew4 (qR aW) (qR aX) aY ca) ?_;refine Ck fun aZ =>Ck fun a0 =>?_
      have a1:b.toNat*64+c.toNat<4096:=Acn aZ.2 a0.2;have cc:b.toNat*64+c.toNat≤4095:=Nat.le_of_lt_succ a1;refine Lt fun cd ce =>Ge (σ':=[_,.box (C1 AV.bool cd.l) false,_]) [[],[0],[],[2],[0,1],[0,1,2,3,4],[0,1,2,3,4,5]] [3,4,13,158,159,160] Aa (Ew5 (qR aZ) (qR a0) a1 cc ce) ?_
      exact Bn <|Jm (ws [0,1])
     ·exact Sk <|Bn <|Jm (ws [0,1])
    rintro⟨cP,cQ⟩;refine F0 [3,4,13,158,159,160] ?_;exact Ln (ws [0,1])
   ·refine Sx <|Tx <|Ly b2 b1 <|Bx <|?_
    exact Jm ((ws (l':=[(3,.ref 0 0)]) (σ':=[.box [i64 z] false]) [0]).trans (ws [0]))
  intro aV;refine T0 [2] ?_;exact Sr <|Rr
theorem HF{a r}(h:Dm a=some r):Con B 99 [.agg [i64 a.Zd1.1.Zw,i64 a.Zd1.1.To,i64 a.Zd1.2.1.Zw,i64 a.Zd1.2.1.To,i64 a.Zd1.2.2.1.Zw,i64 a.Zd1.2.2.1.To,i64 a.Zd1.2.2.2.1.Zw,i64 a.Zd1.2.2.2.1.To,i64 a.Zd1.2.2.2.2.1.Zw,i64 a.Zd1.2.2.2.2.1.To,i64 a.Zd1.2.2.2.2.2.1.Zw,i64 a.Zd1.2.2.2.2.2.1.To,i64 a.Zd1.2.2.2.2.2.2.Zw,i64 a.Zd1.2.2.2.2.2.2.To,.sl false (L H9 a.Ze1)]] [] (fun r' σ'=>r'=i64 r∧σ'=[]):=by
 refine Cw 45 [.tmp 2] Tryz.func99 (fun F hE=>?_) h;unfold Dm;refine Lt fun b aq =>Lt fun c ar =>Te (σ':=[.box [i64 a.Zd1.1.Zw,i64 a.Zd1.1.To,i64 a.Zd1.2.1.Zw,i64 a.Zd1.2.1.To,i64 a.Zd1.2.2.1.Zw,i64 a.Zd1.2.2.1.To,i64 a.Zd1.2.2.2.1.Zw,i64 a.Zd1.2.2.2.1.To,i64 a.Zd1.2.2.2.2.1.Zw,i64 a.Zd1.2.2.2.2.1.To,i64 b,i64 a.Zd1.2.2.2.2.2.1.To,i64 c,i64 a.Zd1.2.2.2.2.2.2.To,.sl false (L H9 a.Ze1)] false]) [1] Aa (Ew2 aq ar) ?_
 refine Jo (fun _=>⟨Ao 45 [(1,.ref 0 0)],[.box [i64 a.Zd1.1.Zw,i64 a.Zd1.1.To,i64 a.Zd1.2.1.Zw,i64 a.Zd1.2.1.To,i64 a.Zd1.2.2.1.Zw,i64 a.Zd1.2.2.1.To,i64 a.Zd1.2.2.2.1.Zw,i64 a.Zd1.2.2.2.1.To,i64 a.Zd1.2.2.2.2.1.Zw,i64 a.Zd1.2.2.2.2.1.To,i64 b,i64 a.Zd1.2.2.2.2.2.1.To,i64 c,i64 a.Zd1.2.2.2.2.2.2.To,.sl false (L H9 a.Ze1)] false]⟩) ?_ ?_
 ·intro aG d;refine T0 [1,9,10] ?_;refine Sb ?_;refine Ul 17 ?_;refine Ug (m:=16) ?_;refine T0 [1,9,10,11] ?_;refine Sq <|Ct <|Sk <|Tn <|Sq <|Sb <|?_
  have x:InR 0 7:=by decide
  refine Te [1,4,9,10] Aa (Ev (by simp only[go_sem,x,x.2];exact AL)) ?_;refine Tw [1,9,10,27] (fun y=>⟨Ao 45 [(1,.ref 0 0),(9,.agg [i64 a.Zd1.1.Zw,i64 a.Zd1.1.To,i64 a.Zd1.2.1.Zw,i64 a.Zd1.2.1.To,i64 a.Zd1.2.2.1.Zw,i64 a.Zd1.2.2.1.To,i64 a.Zd1.2.2.2.1.Zw,i64 a.Zd1.2.2.2.1.To,i64 a.Zd1.2.2.2.2.1.Zw,i64 a.Zd1.2.2.2.2.1.To,i64 b,i64 a.Zd1.2.2.2.2.2.1.To,i64 c,i64 a.Zd1.2.2.2.2.2.2.To]),(10,i64 0),(27,.bool y)],[.box [i64 a.Zd1.1.Zw,i64 a.Zd1.1.To,i64 a.Zd1.2.1.Zw,i64 a.Zd1.2.1.To,i64 a.Zd1.2.2.1.Zw,i64 a.Zd1.2.2.1.To,i64 a.Zd1.2.2.2.1.Zw,i64 a.Zd1.2.2.2.1.To,i64 a.Zd1.2.2.2.2.1.Zw,i64 a.Zd1.2.2.2.2.1.To,i64 b,i64 a.Zd1.2.2.2.2.2.1.To,i64 c,i64 a.Zd1.2.2.2.2.2.2.To,.sl false (L H9 a.Ze1)] false]⟩) ?_ ?_
  ·intro _;refine Sp (fun e=>?_) fun e=>?_
   ·exact Lf Aa (Ew1 e) (ws [0])
   ·refine Sp (fun n=>?_) fun n=>?_
    ·exact Lf Aa (Ew2 e n) (ws [0])
    ·exact Lf Aa (Ew2 e n) (ws [0])
  intro y;refine Cd ?_ ?_
  ·refine T0 [2] ?_;exact Sr <|Br <|Tr <|Ur <|Br <|Jr d <|Rr
  ·refine Sk <|Bn <|Tn <|?_
   have au:w64 1=1:=by decide
   refine Fe [1,9,10] Aa (Ew1 au) ?_;refine Un ?_;refine Ug (m:=15) ?_;refine T0 [1,9,10,11] ?_;refine Sq <|Ct <|Sk <|Tn <|Sq <|Sb <|?_
   have z:InR 1 7:=by decide
   refine Te [1,4,9,10] Aa (Ev (by simp only[go_sem,z,z.2];exact AL)) ?_;refine Tw [1,9,10,27] (fun aa=>⟨Ao 45 [(1,.ref 0 0),(9,.agg [i64 a.Zd1.1.Zw,i64 a.Zd1.1.To,i64 a.Zd1.2.1.Zw,i64 a.Zd1.2.1.To,i64 a.Zd1.2.2.1.Zw,i64 a.Zd1.2.2.1.To,i64 a.Zd1.2.2.2.1.Zw,i64 a.Zd1.2.2.2.1.To,i64 a.Zd1.2.2.2.2.1.Zw,i64 a.Zd1.2.2.2.2.1.To,i64 b,i64 a.Zd1.2.2.2.2.2.1.To,i64 c,i64 a.Zd1.2.2.2.2.2.2.To]),(10,i64 1),(27,.bool aa)],[.box [i64 a.Zd1.1.Zw,i64 a.Zd1.1.To,i64 a.Zd1.2.1.Zw,i64 a.Zd1.2.1.To,i64 a.Zd1.2.2.1.Zw,i64 a.Zd1.2.2.1.To,i64 a.Zd1.2.2.2.1.Zw,i64 a.Zd1.2.2.2.1.To,i64 a.Zd1.2.2.2.2.1.Zw,i64 a.Zd1.2.2.2.2.1.To,i64 b,i64 a.Zd1.2.2.2.2.2.1.To,i64 c,i64 a.Zd1.2.2.2.2.2.2.To,.sl false (L H9 a.Ze1)] false]⟩) ?_ ?_
   ·intro _;refine Sp (fun f=>?_) fun f=>?_
    ·exact Lf Aa (Ew1 f) (ws [0])
    ·refine Sp (fun o=>?_) fun o=>?_
     ·exact Lf Aa (Ew2 f o) (ws [0])
     ·exact Lf Aa (Ew2 f o) (ws [0])
   intro aa;refine Cd ?_ ?_
   ·refine T0 [2] ?_;exact Sr <|Br <|Tr <|Ur <|Br <|Jr d <|Rr
   ·refine Sk <|Bn <|Tn <|?_
    have av:w64 2=2:=by decide
    refine Fe [1,9,10] Aa (Ew1 av) ?_;refine Un ?_;refine Ug (m:=14) ?_;refine T0 [1,9,10,11] ?_;refine Sq <|Ct <|Sk <|Tn <|Sq <|Sb <|?_
    have ab:InR 2 7:=by decide
    refine Te [1,4,9,10] Aa (Ev (by simp only[go_sem,ab,ab.2];exact AL)) ?_;refine Tw [1,9,10,27] (fun ac=>⟨Ao 45 [(1,.ref 0 0),(9,.agg [i64 a.Zd1.1.Zw,i64 a.Zd1.1.To,i64 a.Zd1.2.1.Zw,i64 a.Zd1.2.1.To,i64 a.Zd1.2.2.1.Zw,i64 a.Zd1.2.2.1.To,i64 a.Zd1.2.2.2.1.Zw,i64 a.Zd1.2.2.2.1.To,i64 a.Zd1.2.2.2.2.1.Zw,i64 a.Zd1.2.2.2.2.1.To,i64 b,i64 a.Zd1.2.2.2.2.2.1.To,i64 c,i64 a.Zd1.2.2.2.2.2.2.To]),(10,i64 2),(27,.bool ac)],[.box [i64 a.Zd1.1.Zw,i64 a.Zd1.1.To,i64 a.Zd1.2.1.Zw,i64 a.Zd1.2.1.To,i64 a.Zd1.2.2.1.Zw,i64 a.Zd1.2.2.1.To,i64 a.Zd1.2.2.2.1.Zw,i64 a.Zd1.2.2.2.1.To,i64 a.Zd1.2.2.2.2.1.Zw,i64 a.Zd1.2.2.2.2.1.To,i64 b,i64 a.Zd1.2.2.2.2.2.1.To,i64 c,i64 a.Zd1.2.2.2.2.2.2.To,.sl false (L H9 a.Ze1)] false]⟩) ?_ ?_
    ·intro _;refine Sp (fun g=>?_) fun g=>?_
     ·exact Lf Aa (Ew1 g) (ws [0])
     ·refine Sp (fun p=>?_) fun p=>?_
      ·exact Lf Aa (Ew2 g p) (ws [0])
      ·exact Lf Aa (Ew2 g p) (ws [0])
    intro ac;refine Cd ?_ ?_
    ·refine T0 [2] ?_;exact Sr <|Br <|Tr <|Ur <|Br <|Jr d <|Rr
    ·refine Sk <|Bn <|Tn <|?_
     have aw:w64 3=3:=by decide
     refine Fe [1,9,10] Aa (Ew1 aw) ?_;refine Un ?_;refine Ug (m:=13) ?_;refine T0 [1,9,10,11] ?_;refine Sq <|Ct <|Sk <|Tn <|Sq <|Sb <|?_
     have ad:InR 3 7:=by decide
     refine Te [1,4,9,10] Aa (Ev (by simp only[go_sem,ad,ad.2];exact AL)) ?_;refine Tw [1,9,10,27] (fun ae=>⟨Ao 45 [(1,.ref 0 0),(9,.agg [i64 a.Zd1.1.Zw,i64 a.Zd1.1.To,i64 a.Zd1.2.1.Zw,i64 a.Zd1.2.1.To,i64 a.Zd1.2.2.1.Zw,i64 a.Zd1.2.2.1.To,i64 a.Zd1.2.2.2.1.Zw,i64 a.Zd1.2.2.2.1.To,i64 a.Zd1.2.2.2.2.1.Zw,i64 a.Zd1.2.2.2.2.1.To,i64 b,i64 a.Zd1.2.2.2.2.2.1.To,i64 c,i64 a.Zd1.2.2.2.2.2.2.To]),(10,i64 3),(27,.bool ae)],[.box [i64 a.Zd1.1.Zw,i64 a.Zd1.1.To,i64 a.Zd1.2.1.Zw,i64 a.Zd1.2.1.To,i64 a.Zd1.2.2.1.Zw,i64 a.Zd1.2.2.1.To,i64 a.Zd1.2.2.2.1.Zw,i64 a.Zd1.2.2.2.1.To,i64 a.Zd1.2.2.2.2.1.Zw,i64 a.Zd1.2.2.2.2.1.To,i64 b,i64 a.Zd1.2.2.2.2.2.1.To,i64 c,i64 a.Zd1.2.2.2.2.2.2.To,.sl false (L H9 a.Ze1)] false]⟩) ?_ ?_
     ·intro _;refine Sp (fun i=>?_) fun i=>?_
      ·exact Lf Aa (Ew1 i) (ws [0])
      ·refine Sp (fun q=>?_) fun q=>?_
       ·exact Lf Aa (Ew2 i q) (ws [0])
       ·exact Lf Aa (Ew2 i q) (ws [0])
     intro ae;refine Cd ?_ ?_
     ·refine T0 [2] ?_;exact Sr <|Br <|Tr <|Ur <|Br <|Jr d <|Rr
     ·refine Sk <|Bn <|Tn <|?_
      have ax:w64 4=4:=by decide
      refine Fe [1,9,10] Aa (Ew1 ax) ?_;refine Un ?_;refine Ug (m:=12) ?_;refine T0 [1,9,10,11] ?_;refine Sq <|Ct <|Sk <|Tn <|Sq <|Sb <|?_
      have af:InR 4 7:=by decide
      refine Te [1,4,9,10] Aa (Ev (by simp only[go_sem,af,af.2];exact AL)) ?_;refine Tw [1,9,10,27] (fun ag=>⟨Ao 45 [(1,.ref 0 0),(9,.agg [i64 a.Zd1.1.Zw,i64 a.Zd1.1.To,i64 a.Zd1.2.1.Zw,i64 a.Zd1.2.1.To,i64 a.Zd1.2.2.1.Zw,i64 a.Zd1.2.2.1.To,i64 a.Zd1.2.2.2.1.Zw,i64 a.Zd1.2.2.2.1.To,i64 a.Zd1.2.2.2.2.1.Zw,i64 a.Zd1.2.2.2.2.1.To,i64 b,i64 a.Zd1.2.2.2.2.2.1.To,i64 c,i64 a.Zd1.2.2.2.2.2.2.To]),(10,i64 4),(27,.bool ag)],[.box [i64 a.Zd1.1.Zw,i64 a.Zd1.1.To,i64 a.Zd1.2.1.Zw,i64 a.Zd1.2.1.To,i64 a.Zd1.2.2.1.Zw,i64 a.Zd1.2.2.1.To,i64 a.Zd1.2.2.2.1.Zw,i64 a.Zd1.2.2.2.1.To,i64 a.Zd1.2.2.2.2.1.Zw,i64 a.Zd1.2.2.2.2.1.To,i64 b,i64 a.Zd1.2.2.2.2.2.1.To,i64 c,i64 a.Zd1.2.2.2.2.2.2.To,.sl false (L H9 a.Ze1)] false]⟩) ?_ ?_
      ·intro _;refine Sp (fun j=>?_) fun j=>?_
       ·exact Lf Aa (Ew1 j) (ws [0])
       ·refine Sp (fun s=>?_) fun s=>?_
        ·exact Lf Aa (Ew2 j s) (ws [0])
        ·exact Lf Aa (Ew2 j s) (ws [0])
      intro ag;refine Cd ?_ ?_
      ·refine T0 [2] ?_;exact Sr <|Br <|Tr <|Ur <|Br <|Jr d <|Rr
      ·refine Sk <|Bn <|Tn <|?_
       have ay:w64 5=5:=by decide
       refine Fe [1,9,10] Aa (Ew1 ay) ?_;refine Un ?_;refine Ug (m:=11) ?_;refine T0 [1,9,10,11] ?_;refine Sq <|Ct <|Sk <|Tn <|Sq <|Sb <|?_
       have ah:InR 5 7:=by decide
       refine Te [1,4,9,10] Aa (Ev (by simp only[go_sem,ah,ah.2];exact AL)) ?_;refine Tw [1,9,10,27] (fun ai=>⟨Ao 45 [(1,.ref 0 0),(9,.agg [i64 a.Zd1.1.Zw,i64 a.Zd1.1.To,i64 a.Zd1.2.1.Zw,i64 a.Zd1.2.1.To,i64 a.Zd1.2.2.1.Zw,i64 a.Zd1.2.2.1.To,i64 a.Zd1.2.2.2.1.Zw,i64 a.Zd1.2.2.2.1.To,i64 a.Zd1.2.2.2.2.1.Zw,i64 a.Zd1.2.2.2.2.1.To,i64 b,i64 a.Zd1.2.2.2.2.2.1.To,i64 c,i64 a.Zd1.2.2.2.2.2.2.To]),(10,i64 5),(27,.bool ai)],[.box [i64 a.Zd1.1.Zw,i64 a.Zd1.1.To,i64 a.Zd1.2.1.Zw,i64 a.Zd1.2.1.To,i64 a.Zd1.2.2.1.Zw,i64 a.Zd1.2.2.1.To,i64 a.Zd1.2.2.2.1.Zw,i64 a.Zd1.2.2.2.1.To,i64 a.Zd1.2.2.2.2.1.Zw,i64 a.Zd1.2.2.2.2.1.To,i64 b,i64 a.Zd1.2.2.2.2.2.1.To,i64 c,i64 a.Zd1.2.2.2.2.2.2.To,.sl false (L H9 a.Ze1)] false]⟩) ?_ ?_
       ·intro _;refine Sp (fun k=>?_) fun k=>?_
        ·exact Lf Aa (Ew1 k) (ws [0])
        ·refine Sp (fun t=>?_) fun t=>?_
         ·exact Lf Aa (Ew2 k t) (ws [0])
         ·exact Lf Aa (Ew2 k t) (ws [0])
       intro ai;refine Cd ?_ ?_
       ·refine T0 [2] ?_;exact Sr <|Br <|Tr <|Ur <|Br <|Jr d <|Rr
       ·refine Sk <|Bn <|Tn <|?_
        have az:w64 6=6:=by decide
        refine Fe [1,9,10] Aa (Ew1 az) ?_;refine Un ?_;refine Ug (m:=10) ?_;refine T0 [1,9,10,11] ?_;refine Sq <|Ct <|Sk <|Tn <|Sq <|Sb <|?_
        have aj:InR 6 7:=by decide
        refine Te [1,4,9,10] Aa (Ev (by simp only[go_sem,aj,aj.2];exact AL)) ?_;refine Tw [1,9,10,27] (fun ak=>⟨Ao 45 [(1,.ref 0 0),(9,.agg [i64 a.Zd1.1.Zw,i64 a.Zd1.1.To,i64 a.Zd1.2.1.Zw,i64 a.Zd1.2.1.To,i64 a.Zd1.2.2.1.Zw,i64 a.Zd1.2.2.1.To,i64 a.Zd1.2.2.2.1.Zw,i64 a.Zd1.2.2.2.1.To,i64 a.Zd1.2.2.2.2.1.Zw,i64 a.Zd1.2.2.2.2.1.To,i64 b,i64 a.Zd1.2.2.2.2.2.1.To,i64 c,i64 a.Zd1.2.2.2.2.2.2.To]),(10,i64 6),(27,.bool ak)],[.box [i64 a.Zd1.1.Zw,i64 a.Zd1.1.To,i64 a.Zd1.2.1.Zw,i64 a.Zd1.2.1.To,i64 a.Zd1.2.2.1.Zw,i64 a.Zd1.2.2.1.To,i64 a.Zd1.2.2.2.1.Zw,i64 a.Zd1.2.2.2.1.To,i64 a.Zd1.2.2.2.2.1.Zw,i64 a.Zd1.2.2.2.2.1.To,i64 b,i64 a.Zd1.2.2.2.2.2.1.To,i64 c,i64 a.Zd1.2.2.2.2.2.2.To,.sl false (L H9 a.Ze1)] false]⟩) ?_ ?_
        ·intro _;refine Sp (fun l=>?_) fun l=>?_
         ·exact Lf Aa (Ew1 l) (ws [0])
         ·refine Sp (fun u=>?_) fun u=>?_
          ·exact Lf Aa (Ew2 l u) (ws [0])
          ·exact Lf Aa (Ew2 l u) (ws [0])
        intro ak;refine Cd ?_ ?_
        ·refine T0 [2] ?_;exact Sr <|Br <|Tr <|Ur <|Br <|Jr d <|Rr
        ·refine Sk <|Bn <|Tn <|?_
         have aA:w64 7=7:=by decide
         refine Fe [1,9,10] Aa (Ew1 aA) ?_;refine Un ?_;refine Ug (m:=9) ?_;refine T0 [1,9,10,11] ?_;exact Sq <|Cf <|Sx <|Tx <|Ux <|Bx <|Jn (ws [0])
 intro _;refine T0 [1,5] ?_;refine Jo (fun _=>⟨Ao 45 [],[]⟩) ?_ ?_
 ·intro aH aB;refine T0 [5,30,31,32] ?_;refine Sb ?_;refine Lo (fun(v:Int×Int)=>(⟨Ao 45 [(5,i64 v.1),(30,.sl false (L H9 a.Ze1)),(31,i64 (a.Ze1.length:Int)),(32,i64 v.2)],[]⟩:St)) (ws []) ?_;rintro⟨aC,al⟩ aI aD am an;show CS a aC al=some aD→_;unfold CS;refine T0 [5,30,31,32,33] ?_;refine Sq <|Cd ?_ ?_
  ·refine Sk <|Tn <|Sq <|Sb <|Ck fun aE =>Lt fun ao aF =>Te (fr':=[(5,_),(7,i64 ao),(30,_),(31,_),(32,_)]) [5,7,30,31,32] Aa (Ew2 (qR aE) aF) ?_
   refine Sq ?_;refine Tw [7,30,31,32,42] (fun ap=>⟨Ao 45 [(7,i64 ao),(30,.sl false (L H9 a.Ze1)),(31,i64 (a.Ze1.length:Int)),(32,i64 al),(42,.bool ap)],[]⟩) ?_ ?_
   ·intro _;refine Sp (fun w=>?_) fun w=>?_
    ·exact Lf Aa (Ew1 w) (ws [])
    ·exact Lf Aa (Ew1 w) (ws [])
   intro ap;refine Cd ?_ ?_
   ·refine T0 [2] ?_;exact Sr <|Tr <|Br <|Tr <|Lr an am <|Br <|Jr aB <|Rr
   ·refine Sk <|Tn <|F0 [5,30,31,32] ?_
    refine Bn <|Tn <|F0 [5,30,31,32] ?_
    exact Ln (ws [])
  ·refine Sx <|Tx <|Lx an am <|Bx <|?_
   exact Jn ((ws (l':=[]) (σ':=[]) []).trans (ws []))
 intro _;refine T0 [2] ?_;exact Sr <|Rr
theorem Fj{a r}(h:BI a=some r):Con B 57 [.agg (Ar a)] [] (fun r' σ'=>r'=i64 r∧σ'=[]):=by
 refine Cw 193 [.tmp 2] Tryz.func57 (fun F hE=>?_) h;unfold BI;refine T0 [1] ?_;refine Sq <|Bd fun b5 ax =>Te [1,3] (o1 22 (MI ax)) Ev ?_
 refine T0 [1,3,24] ?_;refine Cd ?_ ?_
 ·refine T0 [2] ?_;exact Sr <|Tr <|Rr
 ·refine Sk <|Tn <|Sq <|Bd fun b6 ay =>Te [1,4] (o1 28 (Pv ay)) Ev ?_
  refine T0 [1,4,30] ?_;refine Cd ?_ ?_
  ·refine T0 [2] ?_;exact Sr <|Tr <|Rr
  ·refine Sk <|Tn <|Sq <|?_
   refine Tw [1,47] (fun t=>⟨Ao 193 [(1,.ref 0 0),(47,.bool t)],[.box (Ar a) false]⟩) ?_ ?_
   ·intro _;refine Sp (fun e=>?_) fun e=>?_
    ·exact Lf Aa (Ew1 e) (ws [0])
    ·refine Sp (fun l=>?_) fun l=>?_
     ·exact Lf Aa (Ew2 e l) (ws [0])
     ·exact Lf Aa (Ew2 e l) (ws [0])
   intro t;refine Cd ?_ ?_
   ·refine T0 [2] ?_;exact Sr <|Tr <|Rr
   ·refine Sk <|Tn <|Lt fun b az =>De (fr':=[(1,_),(5,_),(6,i64 b)]) [[],[0],[0,1],[],[3],[3,4],[0,1,2],[0,1,2,3,4,5,6]] [1,5,6] Aa (Ew1 az) ?_
    refine T0 [1,5,6,7] ?_;refine Ja (fun u=>⟨Ao 193 [(1,.ref 0 0),(5,.sl false (L Am a.Zg1.Ze)),(6,i64 b),(7,.bool u)],[.box (Ar a) false]⟩) ?_ ?_
    ·intro b7;refine T0 [1,5,6,7,57,58,59] ?_;refine Sb ?_;refine Lo (fun(v:Bool×Int)=>(⟨Ao 193 [(1,.ref 0 0),(5,.sl false (L Am a.Zg1.Ze)),(6,i64 b),(7,.bool v.1),(57,.sl false (L As a.Zi1)),(58,i64 (a.Zi1.length:Int)),(59,i64 v.2)],[.box (Ar a) false]⟩:St)) (ws [0]) ?_;rintro⟨w,x⟩ b8 aA aB aC;show Ch a w x=some aA→_;unfold Ch;refine T0 [1,5,6,7,57,58,59,60] ?_;refine Sq <|Cd ?_ ?_
     ·refine Sk <|Tn <|Sq <|Sb <|Ck fun aD =>Lt fun aE aF =>Lt fun aG aH =>Lt fun aI aJ =>Te (σ':=[_,.box [i64 aE,i64 aG,i64 aI] false]) [1,5,6,7,9,57,58,59] Aa (Ew4 (qR aD) aF aH aJ) ?_
      refine Fw [1,5,6,7,57,58,59] (fun y=>⟨Ao 193 [(1,.ref 0 0),(5,.sl false (L Am a.Zg1.Ze)),(6,i64 b),(7,.bool y),(57,.sl false (L As a.Zi1)),(58,i64 (a.Zi1.length:Int)),(59,i64 x)],[.box (Ar a) false]⟩) ?_ ?_
      ·intro _;refine Sp (fun c=>?_) fun c=>?_
       ·exact Lf Aa (Ew1 c) (ws [0])
       ·refine Bd fun b9 f=>?_
        refine Sp (fun d=>?_) fun d=>?_
        ·exact Lf (o1 70 (Aq f)) (Ew2 c d) (ws [0])
        ·refine Sp (fun g=>?_) fun g=>?_
         ·exact Lf (o1 70 (Aq f)) (Ew3 c d g) (ws [0])
         ·refine Sp (fun m=>?_) fun m=>?_
          ·exact Lf (o1 70 (Aq f)) (Ew4 c d g m) (ws [0])
          ·exact Lf (o1 70 (Aq f)) (Ew4 c d g m) (ws [0])
      intro y;refine Bn <|Tn <|F0 [1,5,6,7,57,58,59] ?_
      exact Ln (ws [0])
     ·refine Sx <|Tx <|Ly aC aB <|Bx <|?_
      exact Jm ((ws (l':=[(1,.ref 0 0),(5,.sl false (L Am a.Zg1.Ze)),(6,i64 b),(7,.bool w)]) (σ':=[.box (Ar a) false]) [0]).trans (ws [0]))
    intro u;refine Ja (fun z=>⟨Ao 193 [(1,.ref 0 0),(5,.sl false (L Am a.Zg1.Ze)),(6,i64 b),(7,.bool z)],[.box (Ar a) false]⟩) ?_ ?_
    ·intro ca;refine T0 [1,5,6,7,92,93,94] ?_;refine Sb ?_;refine Lo (fun(v:Bool×Int)=>(⟨Ao 193 [(1,.ref 0 0),(5,.sl false (L Am a.Zg1.Ze)),(6,i64 b),(7,.bool v.1),(92,.sl false (L Ap a.Zj1)),(93,i64 (a.Zj1.length:Int)),(94,i64 v.2)],[.box (Ar a) false]⟩:St)) (ws [0]) ?_;rintro⟨aa,ab⟩ cb aK aL aM;show BZ a aa ab=some aK→_;unfold BZ;refine T0 [1,5,6,7,92,93,94,95] ?_;refine Sq <|Cd ?_ ?_
     ·refine Sk <|Tn <|Sq <|Sb <|Ck fun aN =>Lt fun aO aP =>Te (σ':=[_,.box [i64 aO] false]) [1,5,6,7,11,92,93,94] Aa (Ew2 (qR aN) aP) ?_
      refine Fw [1,5,6,7,92,93,94] (fun ac=>⟨Ao 193 [(1,.ref 0 0),(5,.sl false (L Am a.Zg1.Ze)),(6,i64 b),(7,.bool ac),(92,.sl false (L Ap a.Zj1)),(93,i64 (a.Zj1.length:Int)),(94,i64 ab)],[.box (Ar a) false]⟩) ?_ ?_
      ·intro _;refine Sp (fun i=>?_) fun i=>?_
       ·exact Lf Aa (Ew1 i) (ws [0])
       ·refine Bd fun cc ad=>?_
        refine Sp (fun n=>?_) fun n=>?_
        ·exact Lf (o1 105 (Aq ad)) (Ew2 i n) (ws [0])
        ·refine Ck fun aQ=>?_
         exact Lf (o1 105 (Aq ad)) (Ew3 i n (qR aQ)) (ws [0])
      intro ac;refine Bn <|Tn <|F0 [1,5,6,7,92,93,94] ?_
      exact Ln (ws [0])
     ·refine Sx <|Tx <|Ly aM aL <|Bx <|?_
      exact Jm ((ws (l':=[(1,.ref 0 0),(5,.sl false (L Am a.Zg1.Ze)),(6,i64 b),(7,.bool aa)]) (σ':=[.box (Ar a) false]) [0]).trans (ws [0]))
    intro z;refine Ja (fun ae=>⟨Ao 193 [(1,.ref 0 0),(5,.sl false (L Am a.Zg1.Ze)),(6,i64 b),(7,.bool ae)],[.box (Ar a) false]⟩) ?_ ?_
    ·intro cd;refine T0 [1,5,6,7,120,121,122] ?_;refine Sb ?_;refine Lo (fun(v:Bool×Int)=>(⟨Ao 193 [(1,.ref 0 0),(5,.sl false (L Am a.Zg1.Ze)),(6,i64 b),(7,.bool v.1),(120,.sl false (L Af a.Zh1.Zy)),(121,i64 (a.Zh1.Zy.length:Int)),(122,i64 v.2)],[.box (Ar a) false]⟩:St)) (ws [0]) ?_;rintro⟨af,ag⟩ ce aR aS aT;show BU a af ag=some aR→_;unfold BU;refine T0 [1,5,6,7,120,121,122,123] ?_;refine Sq <|Cd ?_ ?_
     ·refine Sk <|Tn <|Sq <|Sb <|Ck fun aU =>Lt fun aV aW =>Lt fun aX aY =>Lt fun aZ a0 =>Lt fun a1 a2 =>Lt fun a3 a4 =>Te (σ':=[_,.box [i64 aV,i64 aX,i64 aZ,i64 a1,i64 a3] false]) [1,5,6,7,13,120,121,122] Aa (Ev (by simp only[go_sem,qR aU,aW,aY,a0,a2,a4];exact AL)) ?_
      refine Fw [1,5,6,7,120,121,122] (fun ah=>⟨Ao 193 [(1,.ref 0 0),(5,.sl false (L Am a.Zg1.Ze)),(6,i64 b),(7,.bool ah),(120,.sl false (L Af a.Zh1.Zy)),(121,i64 (a.Zh1.Zy.length:Int)),(122,i64 ag)],[.box (Ar a) false]⟩) ?_ ?_
      ·intro _;refine Sp (fun o=>?_) fun o=>?_
       ·exact Lf Aa (Ew1 o) (ws [0])
       ·exact Lf Aa (Ew1 o) (ws [0])
      intro ah;refine Bn <|Tn <|F0 [1,5,6,7,120,121,122] ?_
      exact Ln (ws [0])
     ·refine Sx <|Tx <|Ly aT aS <|Bx <|?_
      exact Jm ((ws (l':=[(1,.ref 0 0),(5,.sl false (L Am a.Zg1.Ze)),(6,i64 b),(7,.bool af)]) (σ':=[.box (Ar a) false]) [0]).trans (ws [0]))
    intro ae;refine Ja (fun ai=>⟨Ao 193 [(1,.ref 0 0),(6,i64 b),(7,.bool ai)],[.box (Ar a) false]⟩) ?_ ?_
    ·intro cf;refine T0 [1,6,7,135,136,137] ?_;refine Sb ?_;refine Lo (fun(v:Bool×Int)=>(⟨Ao 193 [(1,.ref 0 0),(6,i64 b),(7,.bool v.1),(135,.sl false (L Am a.Zg1.Ze)),(136,i64 (a.Zg1.Ze.length:Int)),(137,i64 v.2)],[.box (Ar a) false]⟩:St)) (ws [0]) ?_;rintro⟨aj,ak⟩ cg a5 a6 a7;show BW a b aj ak=some a5→_;unfold BW;refine T0 [1,6,7,135,136,137,138] ?_;refine Sq <|Cd ?_ ?_
     ·refine Sk <|Tn <|Sq <|Sb <|Ck fun a8 =>Lt fun a9 ba =>Lt fun bb bc =>Lt fun bd be =>Te (σ':=[_,.box [i64 a9,i64 bb,i64 bd] false]) [1,6,7,15,135,136,137] Aa (Ew4 (qR a8) ba bc be) ?_
      refine Fw [1,6,7,135,136,137] (fun al=>⟨Ao 193 [(1,.ref 0 0),(6,i64 b),(7,.bool al),(135,.sl false (L Am a.Zg1.Ze)),(136,i64 (a.Zg1.Ze.length:Int)),(137,i64 ak)],[.box (Ar a) false]⟩) ?_ ?_
      ·intro _;refine Sp (fun j=>?_) fun j=>?_
       ·exact Lf Aa (Ew1 j) (ws [0])
       ·refine Sp (fun p=>?_) fun p=>?_
        ·exact Lf Aa (Ew2 j p) (ws [0])
        ·exact Lf Aa (Ew2 j p) (ws [0])
      intro al;refine Bn <|Tn <|F0 [1,6,7,135,136,137] ?_
      exact Ln (ws [0])
     ·refine Sx <|Tx <|Ly a7 a6 <|Bx <|?_
      exact Jm ((ws (l':=[(1,.ref 0 0),(6,i64 b),(7,.bool aj)]) (σ':=[.box (Ar a) false]) [0]).trans (ws [0]))
    intro ai;refine Ja (fun am=>⟨Ao 193 [(1,.ref 0 0),(7,.bool am)],[.box (Ar a) false]⟩) ?_ ?_
    ·intro ch;refine T0 [1,6,7,157,158,159] ?_;refine Sb ?_;refine Lo (fun(v:Bool×Int)=>(⟨Ao 193 [(1,.ref 0 0),(6,i64 b),(7,.bool v.1),(157,.sl false (L Au a.Zg1.Zf)),(158,i64 (a.Zg1.Zf.length:Int)),(159,i64 v.2)],[.box (Ar a) false]⟩:St)) (ws [0]) ?_;rintro⟨an,ao⟩ ci bf bg bh;show BX a b an ao=some bf→_;unfold BX;refine T0 [1,6,7,157,158,159,160] ?_;refine Sq <|Cd ?_ ?_
     ·refine Sk <|Tn <|Sq <|Sb <|Ck fun bi =>Lt fun bj bk =>Lt fun bl bm =>Lt fun bn bo =>Lt fun bp bq =>Lt fun br bs =>Te (σ':=[_,.box [i64 bj,i64 bl,i64 bn,i64 bp,i64 br] false]) [1,6,7,17,157,158,159] Aa (Ev (by simp only[go_sem,qR bi,bk,bm,bo,bq,bs];exact AL)) ?_
      refine Fw [1,6,7,157,158,159] (fun ap=>⟨Ao 193 [(1,.ref 0 0),(6,i64 b),(7,.bool ap),(157,.sl false (L Au a.Zg1.Zf)),(158,i64 (a.Zg1.Zf.length:Int)),(159,i64 ao)],[.box (Ar a) false]⟩) ?_ ?_
      ·intro _;refine Sp (fun q=>?_) fun q=>?_
       ·exact Lf Aa (Ew1 q) (ws [0])
       ·exact Lf Aa (Ew1 q) (ws [0])
      intro ap;refine Bn <|Tn <|F0 [1,6,7,157,158,159] ?_
      exact Ln (ws [0])
     ·refine Sx <|Tx <|Ly bh bg <|Bx <|?_
      exact Jm ((ws (l':=[(1,.ref 0 0),(7,.bool an)]) (σ':=[.box (Ar a) false]) [0]).trans (ws [0]))
    intro am;refine Ja (fun aq=>⟨Ao 193 [(7,.bool aq)],[]⟩) ?_ ?_
    ·intro cj;refine T0 [7,172,173,174] ?_;refine Sb ?_;refine Lo (fun(v:Bool×Int)=>(⟨Ao 193 [(7,.bool v.1),(172,.sl false (L Ae a.Zk1)),(173,i64 (a.Zk1.length:Int)),(174,i64 v.2)],[]⟩:St)) (ws []) ?_;rintro⟨ar,au⟩ ck bt bu bv;show BV a ar au=some bt→_;unfold BV;refine T0 [7,172,173,174,175] ?_;refine Sq <|Cd ?_ ?_
     ·refine Sk <|Tn <|Sq <|Sb <|Ck fun bw =>Lt fun bx bz =>Lt fun bA bB =>Lt fun bC bD =>Lt fun bE bF =>Lt fun bG bH =>Lt fun bI bJ =>Lt fun bK bL =>Lt fun bM bN =>Lt fun bO bP =>Lt fun bQ bR =>Lt fun bS bT =>Lt fun bU bV =>Lt fun bW bX =>Lt fun bY bZ =>Lt fun b0 b1 =>Lt fun b2 b3 =>Te (σ':=[.box [u64 bx,i64 bA,i64 bC,i64 bE,i64 bG,i64 bI,i64 bK,i64 bM,i64 bO,i64 bQ,i64 bS,i64 bU,i64 bW,i64 bY,i64 b0,.sl false (L H9 b2)] false]) [7,19,172,173,174] Aa (Ev (by simp only[go_sem,qR bw,bz,bB,bD,bF,bH,bJ,bL,bN,bP,bR,bT,bV,bX,bZ,b1,b3];exact AL)) ?_
      refine Fw [7,172,173,174] (fun av=>⟨Ao 193 [(7,.bool av),(172,.sl false (L Ae a.Zk1)),(173,i64 (a.Zk1.length:Int)),(174,i64 au)],[]⟩) ?_ ?_
      ·intro _;refine Sp (fun k=>?_) fun k=>?_
       ·exact Lf Aa (Ew1 k) (ws [])
       ·refine Bd fun cl aw=>?_
        refine Sp (fun s=>?_) fun s=>?_
        ·exact Lf (o1 182 (HF aw)) (Ew2 k s) (ws [])
        ·refine Bd fun cm b4=>?_
         exact Lf (o2 182 (HF aw) 188 (KW b4)) (Ew2 k s) (ws [])
      intro av;refine Bn <|Tn <|F0 [7,172,173,174] ?_
      exact Ln (ws [])
     ·refine Sx <|Tx <|Ly bv bu <|Bx <|?_
      exact Jm ((ws (l':=[(7,.bool ar)]) (σ':=[]) []).trans (ws []))
    intro aq;refine Sq <|T0 [192] ?_
    refine Cd ?_ ?_
    ·refine T0 [2] ?_;exact Sr <|Tr <|Rr
    ·refine Sk <|Tn <|T0 [2] ?_
     exact Sr <|Rr
theorem IW{b r}(h:Hx b=some r):Con B 65 [.agg (A1 b)] [] (fun r' σ'=>r'=.agg [i64 r.Za,i64 r.N,.sl false (L cU8 r.B),.sl false (L cApi_Value r.L)]∧σ'=[]):=by
 refine Cw 70 [.cell 2 105] Tryz.func65 (fun F hE=>?_) h;unfold Hx;refine T0 [1,2] ?_;refine Bd fun bE au =>Bd fun av aw =>Bd fun ax ay =>Bd fun bF az =>Lt fun f aA =>De (fr':=[(1,_),(2,_),(3,.bs true 2 (f.length) 0 (f.length))]) (σ':=[_,_,.buf 4 (L cApi_Value f) false]) [[],[0],[0,1],[],[3],[3,4],[0,1,2,3,4,5],[],[7],[7,8],[0,1,2,3,4,5,6,7,8,9],[0,1,2,3,4,5,6,7,8,9,10],[0,1,2,3,4,5,6,7,8,9,10,11],[0,1,2,3,4,5,6,7,8,9,10,11,12],[0,1,2,3,4,5,6,7,8,9,10,11,12,13]] [1,2,3] (Av (l:=[(12,_,_,_),(16,_,_,_),(20,_,_,_)]) (m:=[(22,107,[.sl false (L cApi_Value ([av,ax]:List AsP))],[.box (A1 b) false,.box [i64 0,i64 0,.sl true (L cU8 ([])),.sl true (L cApi_Value ([]))] false],_,_)]) ⟨AJ  au,AJ  aw,AJ  ay,trivial⟩ ⟨(wc (Iy az) []),trivial⟩) (Ew1 aA) ?_
 refine Ja (fun a=>⟨Ao 70 [(1,.ref 0 0),(2,.ref 1 0),(3,.bs false 2 (a.length) 0 (a.length))],[.box (A1 b) false,.box [i64 0,i64 0,.sl true (L cU8 ([])),.sl true (L cApi_Value ([]))] false,.buf 4 (L cApi_Value a) false]⟩) ?_ ?_
 ·intro bG;refine Te [1,2,3,24,25] (Av (l:=[]) (m:=[(24,92,[.ref 0 0],[.box (A1 b) false,.box [i64 0,i64 0,.sl true (L cU8 ([])),.sl true (L cApi_Value ([]))] false,.buf 4 (L cApi_Value f) false],.agg [.ref 0 3,.ref 0 4,.ref 0 5,.ref 0 6,.ref 0 7,.ref 0 8,.ref 0 9,.ref 0 10,.ref 0 11,.ref 0 12,.ref 0 13],[.box (A1 b) false,.box [i64 0,i64 0,.sl true (L cU8 ([])),.sl true (L cApi_Value ([]))] false,.buf 4 (L cApi_Value f) false])]) trivial ⟨NC,trivial⟩) Ev ?_;refine Sb ?_;refine Ul 17 ?_;refine Ug (m:=16) ?_;refine T0 [1,2,3,24,25,26] ?_;refine Sq <|Ct <|Sk <|Tn <|Sq <|Sb <|?_
  have ad:InR 0 11:=by decide
  refine Te [1,2,3,5,24,25] Aa (Ev (by simp only[go_sem,ad,ad.2];exact AL)) ?_;refine Bd fun bH aB =>Ck fun aC =>Lt fun k aD =>Fe (fr':=[(1,_),(2,_),(3,.bs false 2 (k.length) 0 (k.length)),(24,_),(25,_)]) (σ':=[_,_,.buf 4 (L cApi_Value k) false,_]) [1,2,3,24,25] (o1 32 (AJ aB)) (Ew2 aC aD) ?_
  refine Bn <|Tn <|?_
  have aE:w64 1=1:=by decide
  refine Fe [1,2,3,24,25] Aa (Ew1 aE) ?_;refine Un ?_;refine Ug (m:=15) ?_;refine T0 [1,2,3,24,25,26] ?_;refine Sq <|Ct <|Sk <|Tn <|Sq <|Sb <|?_
  have ae:InR 1 11:=by decide
  refine Te [1,2,3,5,24,25] Aa (Ev (by simp only[go_sem,ae,ae.2];exact AL)) ?_;refine Bd fun bI aF =>Ck fun aG =>Lt fun n aH =>Fe (fr':=[(1,_),(2,_),(3,.bs false 2 (n.length) 0 (n.length)),(24,_),(25,_)]) (σ':=[_,_,.buf 4 (L cApi_Value n) false,_,_]) [1,2,3,24,25] (o1 32 (AJ aF)) (Ew2 aG aH) ?_
  refine Bn <|Tn <|?_
  have aI:w64 2=2:=by decide
  refine Fe [1,2,3,24,25] Aa (Ew1 aI) ?_;refine Un ?_;refine Ug (m:=14) ?_;refine T0 [1,2,3,24,25,26] ?_;refine Sq <|Ct <|Sk <|Tn <|Sq <|Sb <|?_
  have af:InR 2 11:=by decide
  refine Te [1,2,3,5,24,25] Aa (Ev (by simp only[go_sem,af,af.2];exact AL)) ?_;refine Bd fun bJ aJ =>Ck fun aK =>Lt fun o aL =>Fe (fr':=[(1,_),(2,_),(3,.bs false 2 (o.length) 0 (o.length)),(24,_),(25,_)]) (σ':=[_,_,.buf 4 (L cApi_Value o) false,_,_,_]) [1,2,3,24,25] (o1 32 (AJ aJ)) (Ew2 aK aL) ?_
  refine Bn <|Tn <|?_
  have aM:w64 3=3:=by decide
  refine Fe [1,2,3,24,25] Aa (Ew1 aM) ?_;refine Un ?_;refine Ug (m:=13) ?_;refine T0 [1,2,3,24,25,26] ?_;refine Sq <|Ct <|Sk <|Tn <|Sq <|Sb <|?_
  have ag:InR 3 11:=by decide
  refine Te [1,2,3,5,24,25] Aa (Ev (by simp only[go_sem,ag,ag.2];exact AL)) ?_;refine Bd fun bK aN =>Ck fun aO =>Lt fun p aP =>Fe (fr':=[(1,_),(2,_),(3,.bs false 2 (p.length) 0 (p.length)),(24,_),(25,_)]) (σ':=[_,_,.buf 4 (L cApi_Value p) false,_,_,_,_]) [1,2,3,24,25] (o1 32 (AJ aN)) (Ew2 aO aP) ?_
  refine Bn <|Tn <|?_
  have aQ:w64 4=4:=by decide
  refine Fe [1,2,3,24,25] Aa (Ew1 aQ) ?_;refine Un ?_;refine Ug (m:=12) ?_;refine T0 [1,2,3,24,25,26] ?_;refine Sq <|Ct <|Sk <|Tn <|Sq <|Sb <|?_
  have ah:InR 4 11:=by decide
  refine Te [1,2,3,5,24,25] Aa (Ev (by simp only[go_sem,ah,ah.2];exact AL)) ?_;refine Bd fun bL aR =>Ck fun aS =>Lt fun q aT =>Fe (fr':=[(1,_),(2,_),(3,.bs false 2 (q.length) 0 (q.length)),(24,_),(25,_)]) (σ':=[_,_,.buf 4 (L cApi_Value q) false,_,_,_,_,_]) [1,2,3,24,25] (o1 32 (AJ aR)) (Ew2 aS aT) ?_
  refine Bn <|Tn <|?_
  have aU:w64 5=5:=by decide
  refine Fe [1,2,3,24,25] Aa (Ew1 aU) ?_;refine Un ?_;refine Ug (m:=11) ?_;refine T0 [1,2,3,24,25,26] ?_;refine Sq <|Ct <|Sk <|Tn <|Sq <|Sb <|?_
  have ai:InR 5 11:=by decide
  refine Te [1,2,3,5,24,25] Aa (Ev (by simp only[go_sem,ai,ai.2];exact AL)) ?_;refine Bd fun bM aV =>Ck fun aW =>Lt fun s aX =>Fe (fr':=[(1,_),(2,_),(3,.bs false 2 (s.length) 0 (s.length)),(24,_),(25,_)]) (σ':=[_,_,.buf 4 (L cApi_Value s) false,_,_,_,_,_,_]) [1,2,3,24,25] (o1 32 (AJ aV)) (Ew2 aW aX) ?_
  refine Bn <|Tn <|?_
  have aY:w64 6=6:=by decide
  refine Fe [1,2,3,24,25] Aa (Ew1 aY) ?_;refine Un ?_;refine Ug (m:=10) ?_;refine T0 [1,2,3,24,25,26] ?_;refine Sq <|Ct <|Sk <|Tn <|Sq <|Sb <|?_
  have aj:InR 6 11:=by decide
  refine Te [1,2,3,5,24,25] Aa (Ev (by simp only[go_sem,aj,aj.2];exact AL)) ?_;refine Bd fun bN aZ =>Ck fun a0 =>Lt fun t a1 =>Fe (fr':=[(1,_),(2,_),(3,.bs false 2 (t.length) 0 (t.length)),(24,_),(25,_)]) (σ':=[_,_,.buf 4 (L cApi_Value t) false,_,_,_,_,_,_,_]) [1,2,3,24,25] (o1 32 (AJ aZ)) (Ew2 a0 a1) ?_
  refine Bn <|Tn <|?_
  have a2:w64 7=7:=by decide
  refine Fe [1,2,3,24,25] Aa (Ew1 a2) ?_;refine Un ?_;refine Ug (m:=9) ?_;refine T0 [1,2,3,24,25,26] ?_;refine Sq <|Ct <|Sk <|Tn <|Sq <|Sb <|?_
  have ak:InR 7 11:=by decide
  refine Te [1,2,3,5,24,25] Aa (Ev (by simp only[go_sem,ak,ak.2];exact AL)) ?_;refine Bd fun bO a3 =>Ck fun a4 =>Lt fun u a5 =>Fe (fr':=[(1,_),(2,_),(3,.bs false 2 (u.length) 0 (u.length)),(24,_),(25,_)]) (σ':=[_,_,.buf 4 (L cApi_Value u) false,_,_,_,_,_,_,_,_]) [1,2,3,24,25] (o1 32 (AJ a3)) (Ew2 a4 a5) ?_
  refine Bn <|Tn <|?_
  have a6:w64 8=8:=by decide
  refine Fe [1,2,3,24,25] Aa (Ew1 a6) ?_;refine Un ?_;refine Ug (m:=8) ?_;refine T0 [1,2,3,24,25,26] ?_;refine Sq <|Ct <|Sk <|Tn <|Sq <|Sb <|?_
  have al:InR 8 11:=by decide
  refine Te [1,2,3,5,24,25] Aa (Ev (by simp only[go_sem,al,al.2];exact AL)) ?_;refine Bd fun bP a7 =>Ck fun a8 =>Lt fun w a9 =>Fe (fr':=[(1,_),(2,_),(3,.bs false 2 (w.length) 0 (w.length)),(24,_),(25,_)]) (σ':=[_,_,.buf 4 (L cApi_Value w) false,_,_,_,_,_,_,_,_,_]) [1,2,3,24,25] (o1 32 (AJ a7)) (Ew2 a8 a9) ?_
  refine Bn <|Tn <|?_
  have ba:w64 9=9:=by decide
  refine Fe [1,2,3,24,25] Aa (Ew1 ba) ?_;refine Un ?_;refine Ug (m:=7) ?_;refine T0 [1,2,3,24,25,26] ?_;refine Sq <|Ct <|Sk <|Tn <|Sq <|Sb <|?_
  have am:InR 9 11:=by decide
  refine Te [1,2,3,5,24,25] Aa (Ev (by simp only[go_sem,am,am.2];exact AL)) ?_;refine Bd fun bQ bb =>Ck fun bc =>Lt fun x bd =>Fe (fr':=[(1,_),(2,_),(3,.bs false 2 (x.length) 0 (x.length)),(24,_),(25,_)]) (σ':=[_,_,.buf 4 (L cApi_Value x) false,_,_,_,_,_,_,_,_,_,_]) [1,2,3,24,25] (o1 32 (AJ bb)) (Ew2 bc bd) ?_
  refine Bn <|Tn <|?_
  have be:w64 10=10:=by decide
  refine Fe [1,2,3,24,25] Aa (Ew1 be) ?_;refine Un ?_;refine Ug (m:=6) ?_;refine T0 [1,2,3,24,25,26] ?_;refine Sq <|Ct <|Sk <|Tn <|Sq <|Sb <|?_
  have an:InR 10 11:=by decide
  refine Te [1,2,3,5,24,25] Aa (Ev (by simp only[go_sem,an,an.2];exact AL)) ?_;refine Bd fun bR bf =>Ck fun bg =>Lt fun y bh =>Fe (fr':=[(1,_),(2,_),(3,.bs false 2 (y.length) 0 (y.length)),(24,_),(25,_)]) (σ':=[_,_,.buf 4 (L cApi_Value y) false,_,_,_,_,_,_,_,_,_,_,_]) [1,2,3,24,25] (o1 32 (AJ bf)) (Ew2 bg bh) ?_
  refine Bn <|Tn <|?_
  have bi:w64 11=11:=by decide
  refine Fe [1,2,3,24,25] Aa (Ew1 bi) ?_;refine Un ?_;refine Ug (m:=5) ?_;refine T0 [1,2,3,24,25,26] ?_;exact Sq <|Cf <|Sx <|Tx <|Ux <|Bx <|Jm (ws [0,1,2])
 intro a;refine Bd fun c bj =>Te [1,2,3,6] (Av (l:=[]) (m:=[(36,107,[.sl true (L cApi_Value ([]))],[.box (A1 b) false,.box [i64 0,i64 0,.sl true (L cU8 ([])),.sl true (L cApi_Value ([]))] false,.buf 4 (L cApi_Value a) false],_,_)]) trivial ⟨(wc (MS bj) []),trivial⟩) Ev ?_
 refine Ja (fun e=>⟨Ao 70 [(1,.ref 0 0),(2,.ref 1 0),(3,.bs false 2 (a.length) 0 (a.length)),(6,.ref 3 0)],[.box (A1 b) false,.box [i64 0,i64 0,.sl true (L cU8 ([])),.sl true (L cApi_Value ([]))] false,.buf 4 (L cApi_Value a) false,.box [i64 c.Za,i64 c.N,.sl true (L cU8 ([])),.bs false 4 (e.length) 0 (e.length)] false,.buf 4 (L cApi_Value e) false]⟩) ?_ ?_
 ·intro bS;refine T0 [1,2,3,6,38,39,40] ?_;refine Sb ?_;refine Lo (fun(v:Int×List AsP)=>(⟨Ao 70 [(1,.ref 0 0),(2,.ref 1 0),(3,.bs false 2 (a.length) 0 (a.length)),(6,.ref 3 0),(38,.sl false (L An b.Zu1)),(39,i64 (b.Zu1.length:Int)),(40,i64 v.1)],[.box (A1 b) false,.box [i64 0,i64 0,.sl true (L cU8 ([])),.sl true (L cApi_Value ([]))] false,.buf 4 (L cApi_Value a) false,.box [i64 c.Za,i64 c.N,.sl true (L cU8 ([])),.bs false 4 (v.2.length) 0 (v.2.length)] false,.buf 4 (L cApi_Value v.2) false]⟩:St)) ((HG 3 3 4 rfl rfl).trans (ws [0,1,2,3,4])) ?_;rintro⟨z,d⟩ bT bk bl bm;show E4 b z d=some bk→_;unfold E4;refine T0 [1,2,3,6,38,39,40,41] ?_;refine Sq <|Cd ?_ ?_
  ·refine Sk <|Tn <|Sq <|Sb <|Ck fun bn =>Lt fun g bo =>Lt fun i bp =>Lt fun j bq =>Te (σ':=[_,_,_,_,_,.box [i64 g,i64 i,.bool j] false]) [1,2,3,6,8,38,39,40] Aa (Ew4 (qR bn) bo bp bq) ?_
   refine T0 [1,2,3,6,8,9,38,39,40] ?_;refine Ja (fun ao=>⟨Ao 70 [(1,.ref 0 0),(2,.ref 1 0),(3,.bs false 2 (a.length) 0 (a.length)),(6,.ref 3 0),(8,.ref 4 0),(9,i64 ao),(38,.sl false (L An b.Zu1)),(39,i64 (b.Zu1.length:Int)),(40,i64 z)],[.box (A1 b) false,.box [i64 0,i64 0,.sl true (L cU8 ([])),.sl true (L cApi_Value ([]))] false,.buf 4 (L cApi_Value a) false,.box [i64 c.Za,i64 c.N,.sl true (L cU8 ([])),.bs false 5 (d.length) 0 (d.length)] false,.box [i64 g,i64 i,.bool j] false,.buf 4 (L cApi_Value d) false]⟩) ?_ ?_
   ·intro bU;refine T0 [1,2,3,6,8,9,38,39,40,45] ?_;refine Cd ?_ ?_
    ·refine F0 [1,2,3,6,8,9,38,39,40] ?_;exact Jm (ws [0,1,2,3,5,4])
    ·exact Sk <|Jm (ws [0,1,2,3,5,4])
   intro ao;refine Bd fun br bt =>Bd fun bu bv =>Bd fun bw bx =>Bd fun bV bz =>Ck fun ap =>Lt fun aa aq =>?_
   intro h;refine ZU hE MF [[],[0],[],[2],[2,3],[],[5],[2,3,4,5,6],[],[2,3,4,5,6,7,8],[2,3,4,5,6,7,8,9],[2,3,4,5,6,7,8,9,10],[2,3,4,5,6,7,8,9,10,11],[0,1,2,3,4,5,6,7,8,9,10,11,12],[0,1,2,3,4,5,6,7,8,9,10,11,12,13],[0,1,2,3,4,5,6,7,8,9,10,11,12,13,14]] (by kernel_rfl) 11 [0,1] [1,2,3,6,38,39,40,46] (by kernel_rfl) (Mi JD) (fr':=[(1,.ref 0 0),(2,.ref 1 0),(3,.bs false 2 (a.length) 0 (a.length)),(6,.ref 3 0),(38,.sl false (L An b.Zu1)),(39,i64 (b.Zu1.length:Int)),(40,i64 z),(46,.ref 3 3)]) (σ':=[.box (A1 b) false,.box [i64 0,i64 0,.sl true (L cU8 ([])),.sl true (L cApi_Value ([]))] false,.buf 4 (L cApi_Value a) false,.box [i64 c.Za,i64 c.N,.sl true (L cU8 ([])),.bs false 5 (aa.length) 0 (aa.length)] false,.box [i64 g,i64 i,.bool j] false,.buf 4 (L cApi_Value aa) false]) ⟨_,_,_,_,_,_,_,rfl,?_,(Av (l:=[(50,_,_,_),(53,_,_,_),(55,_,_,_)]) (m:=[(57,107,[.sl false (L cApi_Value ([br,bu,bw]:List AsP))],[.box (A1 b) false,.box [i64 0,i64 0,.sl true (L cU8 ([])),.sl true (L cApi_Value ([]))] false,.buf 4 (L cApi_Value a) false,.box [i64 c.Za,i64 c.N,.sl true (L cU8 ([])),.bs false 5 (d.length) 0 (d.length)] false,.box [i64 g,i64 i,.bool j] false,.buf 4 (L cApi_Value d) false],_,_)]) ⟨AJ  bt,AJ  bv,AJ  bx,trivial⟩ ⟨(wc (Iy bz) []),trivial⟩),?_⟩ ?_
   ·subst aq;simp only[go_sem,ap]
   ·subst aq;simp only[go_sem,ap]
   revert h;refine Bn <|Tn <|F0 [1,2,3,6,38,39,40] ?_
   exact Ln (ws [0,1,2,3,5])
  ·refine Sx <|Tx <|Ly bm bl <|Bx <|?_
   exact Jm ((ws (l':=[(1,.ref 0 0),(2,.ref 1 0),(3,.bs false 2 (a.length) 0 (a.length)),(6,.ref 3 0)]) (σ':=[.box (A1 b) false,.box [i64 0,i64 0,.sl true (L cU8 ([])),.sl true (L cApi_Value ([]))] false,.buf 4 (L cApi_Value a) false,.box [i64 c.Za,i64 c.N,.sl true (L cU8 ([])),.bs false 4 (d.length) 0 (d.length)] false,.buf 4 (L cApi_Value d) false]) [0,1,2,3,4]).trans (ws [0,1,2,3,4]))
 intro e;refine Rw (H3 3 3 rfl rfl rfl gs gs) ?_;refine Bd fun ab bA =>Ck fun bB =>Bd fun ar bC =>Lt fun ac bD =>De (σ':=[_,.box [i64 ar.Za,i64 ar.N,.sl true (L cU8 ([])),.bs false 2 (ac.length) 0 (ac.length)] false,.buf 4 (L cApi_Value ac) false,_,_]) [[],[],[1],[1,2],[],[1,2,3,4],[0,1,2,3,4,5],[0,1,2,3,4,5,6],[0,1,2,3,4,5,6,7]] [2] (Av (l:=[(65,_,_,_)]) (m:=[(69,107,[.bs false 2 ((a++([ab,(AsP.mk c.Za c.N ([]) e)]:List AsP)).length) 0 ((a++([ab,(AsP.mk c.Za c.N ([]) e)]:List AsP)).length)],[.box (A1 b) false,.box [i64 0,i64 0,.sl true (L cU8 ([])),.sl true (L cApi_Value ([]))] false,.buf 4 (L cApi_Value (a++([ab,(AsP.mk c.Za c.N ([]) e)]:List AsP))) false,.box [i64 c.Za,i64 c.N,.sl true (L cU8 ([])),.sl false (L cApi_Value e)] false,.buf 4 (L cApi_Value e) true],_,_)]) ⟨VD  bA,trivial⟩ ⟨(wc (NB bC) [2]),trivial⟩) (Ew2 bB bD) ?_
 exact Sr <|Rr
theorem IC{b r}(h:ED b=some r):Con B 46 [.agg (Ab b)] [] (fun r' σ'=>r'=.bs false 0 (r.length) 0 (r.length)∧σ'=[.buf 4 (L cApi_Value r) false]):=by
 refine Co 0 19 [.tmp 2] Tryz.func46 (fun F hE=>?_) h;unfold ED;refine T0 [1] ?_;refine Bd fun j c =>Bd fun k d =>Bd fun m e =>Bd fun n f =>Bd fun o g =>Lt fun a i =>De (fr':=[(2,.bs true 1 (a.length) 0 (a.length))]) (σ':=[_,.buf 4 (L cApi_Value a) false]) [[],[0],[0,1],[],[3],[0,1,2,3,4],[],[6],[0,1,2,3,4,5,6,7],[],[9],[0,1,2,3,4,5,6,7,8,9,10],[],[12],[0,1,2,3,4,5,6,7,8,9,10,11,12,13],[0,1,2,3,4,5,6,7,8,9,10,11,12,13,14],[0,1,2,3,4,5,6,7,8,9,10,11,12,13,14,15]] [2] (Bt (l:=[(5,_,_,_),(8,_,_,_),(11,_,_,_),(14,_,_,_),(17,_,_,_)]) ⟨GN  c,GN  d,KM  e,GN  f,IW  g,trivial⟩) (Ew1 i) ?_
 exact Sr <|Ro [1]
theorem LB{b r}(h:Ix b=some r):Con B 51 [u64 b] [] (fun r' σ'=>r'=.agg [i64 r.Za,i64 r.N,.sl false (L cU8 r.B),.sl false (L cApi_Value r.L)]∧σ'=[]):=by
 refine Cw 23 [.cell 2 105] Tryz.func51 (fun F hE=>?_) h;unfold Ix;refine T0 [0,2] ?_;refine Ck fun f =>Lt fun a g =>Te (fr':=[(0,_),(2,_),(3,.bs true 1 (a.length) 0 (a.length))]) (σ':=[_,.buf 1 (L cU8 a) false]) [0,2,3] Aa (Ew2 f g) ?_
 refine Ja (fun c=>⟨Ao 23 [(2,.ref 0 0),(3,.bs true 1 (c.length) 0 (c.length))],[.box [i64 0,i64 0,.sl true (L cU8 ([])),.sl true (L cApi_Value ([]))] false,.buf 1 (L cU8 c) false]⟩) ?_ ?_
 ·intro q;refine T0 [0,2,3,7,8] ?_;refine Sb ?_;refine Lo (fun(v:Int×List UInt8)=>(⟨Ao 23 [(0,u64 b),(2,.ref 0 0),(3,.bs true 1 (v.2.length) 0 (v.2.length)),(7,i64 (a.length:Int)),(8,i64 v.1)],[.box [i64 0,i64 0,.sl true (L cU8 ([])),.sl true (L cApi_Value ([]))] false,.buf 1 (L cU8 v.2) false]⟩:St)) (ws [0,1]) ?_;rintro⟨i,d⟩ s j k l;show Ep b a i d=some j→_;unfold Ep;refine T0 [0,2,3,7,8,9] ?_;refine Sq <|Cd ?_ ?_
  ·refine Sk <|Tn <|Sq <|Sb <|T0 [0,2,3,4,7,8] ?_
   refine Ck fun m =>Ck fun n =>Lt fun e o =>Fe (fr':=[(0,_),(2,_),(3,.bs true 1 (e.length) 0 (e.length)),(7,_),(8,_)]) (σ':=[_,.buf 1 (L cU8 e) false]) [0,2,3,7,8] Aa (Ew3 m (qR n) o) ?_
   refine Bn <|Tn <|F0 [0,2,3,7,8] ?_
   exact Ln (ws [0,1])
  ·refine Sx <|Tx <|Ly l k <|Bx <|?_
   exact Jm ((ws (l':=[(2,.ref 0 0),(3,.bs true 1 (d.length) 0 (d.length))]) (σ':=[.box [i64 0,i64 0,.sl true (L cU8 ([])),.sl true (L cApi_Value ([]))] false,.buf 1 (L cU8 d) false]) [0,1]).trans (ws [0,1]))
 intro c;refine Bd fun t p =>Te [2] (o1 22 (KM p)) Ev ?_
 exact Sr <|Rr
theorem IU{a r}(h:JO a=some r):Con B 45 [.sl false (L cApi_Value a)] [] (fun r' σ'=>r'=.agg [i64 r.Za,i64 r.N,.sl false (L cU8 r.B),.sl false (L cApi_Value r.L)]∧σ'=[]):=by
 refine Cw 5 [.cell 2 105] Tryz.func45 (fun F hE=>?_) h;unfold JO;refine T0 [0,2] ?_;refine T0 [2] ?_;exact Sr <|Rr
theorem M1{rec_:AsP→Option (Int×Bool)}(hrec:∀{a:AsP} {r:Int×Bool},rec_ a=some r→Con B 78 [.agg [i64 a.Za,i64 a.N,.sl false (L cU8 a.B),.sl false (L cApi_Value a.L)]] [] (fun r' σ'=>r'=.tup [i64 r.1,.bool r.2]∧σ'=[])){a:AsP}{r:Int×Bool}(h:FK rec_ a=some r):Con B 78 [.agg [i64 a.Za,i64 a.N,.sl false (L cU8 a.B),.sl false (L cApi_Value a.L)]] [] (fun r' σ'=>r'=.tup [i64 r.1,.bool r.2]∧σ'=[]):=by
 refine Jq (N:=64) (rs:=[.tmp 2,.tmp 3]) ok Tryz.func78 rfl (by decide +kernel) rfl rfl (AtM rfl) (fun F=>?_);have hE:=ok.env F;unfold FK at h;show Run (B.env F) 0 _ ⟨Ao 64 [(0,.agg [i64 a.Za,i64 a.N,.sl false (L cU8 a.B),.sl false (L cApi_Value a.L)])],[]⟩ _;refine Gn ?_;revert h;refine T0 [1,2] ?_;refine Jo (fun _=>⟨Ao 64 [],[]⟩) ?_ ?_
 ·intro ac b;refine T0 [1,2,9] ?_;refine Sb <|T0 [1,2,9,10] ?_
  refine Cd ?_ ?_
  ·refine Dw [[],[0],[0,1],[0,1,2],[0,1,2,3],[0,1,2,3,4],[0,1,2,3,4,5],[0,1,2,3,4,5,6],[0,1,2,3,4,5,6,7],[0,1,2,3,4,5,6,7,8],[0,1,2,3,4],[0,1,2,3,4,5,6,7,8,9,10]] [2,3] (fun f=>⟨Ao 64 [(2,i64 0),(3,.bool f)],[]⟩) ?_ ?_
   ·intro _;refine Sp (fun c=>?_) fun c=>?_
    ·exact Lf Aa (Ew1 c) (ws [])
    ·exact Lf Aa (Ew1 c) (ws [])
   intro f;exact Sr <|Br <|Jr b <|Rr
  ·refine T0 [1,2,9,22] ?_;refine Cd ?_ ?_
   ·refine Dw [[],[0],[0,1],[0,1,2],[0,1,2,3],[0,1,2,3,4],[0,1,2,3,4,5],[0,1,2,3,4,5,6],[0,1,2,3,4,5,6,7],[0,1,2,3],[0,1,2,3,4,5,6,7,8,9]] [2,3] (fun g=>⟨Ao 64 [(2,i64 0),(3,.bool g)],[]⟩) ?_ ?_
    ·intro _;refine Sp (fun d=>?_) fun d=>?_
     ·exact Lf Aa (Ew1 d) (ws [])
     ·exact Lf Aa (Ew1 d) (ws [])
    intro g;exact Sr <|Br <|Jr b <|Rr
   ·refine T0 [1,2,33] ?_;refine Cd ?_ ?_
    ·refine Sq ?_;refine Tw [1,2,43] (fun i=>⟨Ao 64 [(1,.ref 0 0),(2,i64 0),(43,.bool i)],[.box [i64 a.Za,i64 a.N,.sl false (L cU8 a.B),.sl false (L cApi_Value a.L)] false]⟩) ?_ ?_
     ·intro _;refine Sp (fun e=>?_) fun e=>?_
      ·exact Lf Aa (Ew1 e) (ws [0])
      ·exact Lf Aa (Ew1 e) (ws [0])
     intro i;refine Cd ?_ ?_
     ·refine T0 [2,3] ?_;exact Sr <|Tr <|Br <|Jr b <|Rr
     ·refine Sk <|Tn <|?_
      refine Jo (fun j=>⟨Ao 64 [(2,i64 j)],[]⟩) ?_ ?_
      ·intro ad n;refine T0 [2,45,46,47] ?_;refine Sb ?_;refine Lo (fun(v:Int×Int)=>(⟨Ao 64 [(2,i64 v.1),(45,.sl false (L cApi_Value a.L)),(46,i64 (a.L.length:Int)),(47,i64 v.2)],[]⟩:St)) (ws []) ?_;rintro⟨k,o⟩ ae p l m;show Cz a rec_ k o=some p→_;unfold Cz;refine T0 [2,45,46,47,48] ?_;refine Sq <|Cd ?_ ?_
       ·refine Sk <|Tn <|Sq <|Sb <|Ck fun q =>Lt fun s t =>Lt fun u w =>Lt fun x y =>Lt fun z aa =>Te (σ':=[.box [i64 s,i64 u,.sl false (L cU8 x),.sl false (L cApi_Value z)] false]) [2,5,45,46,47] Aa (Ew5 (qR q) t w y aa) ?_
        refine Bd fun af ab =>Te [2,6,7,45,46,47] (o1 53 (hrec ab)) Ev ?_
        refine Sq <|T0 [2,6,45,46,47,57] ?_
        refine Cd ?_ ?_
        ·refine T0 [2,3] ?_;exact Sr <|Tr <|Br <|Tr <|Lr m l <|Br <|Jr n <|Br <|Jr b <|Rr
        ·refine Sk <|Tn <|F0 [2,45,46,47] ?_
         refine Bn <|Tn <|F0 [2,45,46,47] ?_
         exact Ln (ws [])
       ·refine Sx <|Tx <|Lx m l <|Bx <|?_
        exact Jn ((ws (l':=[(2,i64 k)]) (σ':=[]) []).trans (ws []))
      intro j;refine T0 [2,3] ?_;exact Sr <|Br <|Jr b <|Rr
    ·exact Sk <|Bn <|Jn (ws [])
 intro _;refine T0 [2,3] ?_;exact Sr <|Rr
theorem Mx(n:Nat):∀{a:AsP} {r:Int×Bool},EH n a=some r→Con B 78 [.agg [i64 a.Za,i64 a.N,.sl false (L cU8 a.B),.sl false (L cApi_Value a.L)]] [] (fun r' σ'=>r'=.tup [i64 r.1,.bool r.2]∧σ'=[]):=by
 induction n with
 |zero=>intro a r h;cases h
 |succ n ih=>intro a r h;exact M1 ih h
theorem PB{a:AsP}{r:Int×Bool}(h:Lz a=some r):Con B 78 [.agg [i64 a.Za,i64 a.N,.sl false (L cU8 a.B),.sl false (L cApi_Value a.L)]] [] (fun r' σ'=>r'=.tup [i64 r.1,.bool r.2]∧σ'=[]):=Mx _ h
theorem G6{a r}(h:Cp a=some r):Con B 147 [u64 a] [] (fun r' σ'=>r'=i64 r∧σ'=[]):=by
 refine Cw 10 [.tmp 2] Tryz.func147 (fun F hE=>?_) h;unfold Cp;refine T0 [0,2] ?_;refine Ja (fun b=>⟨Ao 10 [(2,i64 b)],[]⟩) ?_ ?_
 ·intro k;refine Sb ?_;refine Lo (fun(v:UInt64×Int)=>(⟨Ao 10 [(0,u64 v.1),(2,i64 v.2)],[]⟩:St)) (ws []) ?_;rintro⟨d,c⟩ l e f g;show B0 d c=some e→_;unfold B0;refine Sq <|T0 [0,2,4] ?_
  refine Cd ?_ ?_
  ·refine Sk <|Tn <|Sq <|Sb <|F0 [0,2] ?_
   refine Bn <|Tn <|Lt fun i j =>Fe (fr':=[(0,u64 i),(2,_)]) [0,2] Aa (Ew1 j) ?_
   exact Ln (ws [])
  ·refine Sx <|Tx <|Ly g f <|Bx <|?_
   exact Jm ((ws (l':=[(2,i64 c)]) (σ':=[]) []).trans (ws []))
 intro b;refine T0 [2] ?_;exact Sr <|Rr
theorem L1{a b r}(h:E5 a b=some r):Con B 123 [.bs false 0 (a.length) 0 (a.length),i64 b] [.buf 1 (L cU8 a) false] (fun r' σ'=>r'=.bs false 0 (r.length) 0 (r.length)∧σ'=[.buf 1 (L cU8 r) false]):=by
 refine Co 1 48 [.tmp 4] Tryz.func123 (fun F hE=>?_) h;unfold E5;refine T0 [0,1] ?_;refine T0 [0,1,5] ?_;refine Bd fun z i =>Te [0,1,5,6] (o1 12 (G6 i)) Ev ?_
 refine Lt fun j k =>Te (fr':=[(0,_),(1,_),(5,_),(6,_),(7,u8 j)]) [0,1,5,6,7] Aa (Ew1 k) ?_
 refine Ja (fun(v:Int×UInt8)=>(⟨Ao 48 [(0,.bs false 0 (a.length) 0 (a.length)),(1,i64 b),(6,i64 v.1),(7,u8 v.2)],[.buf 1 (L cU8 a) false]⟩:St)) ?_ ?_
 ·intro aa;refine T0 [0,1,5,6,7,17] ?_;refine Cd ?_ ?_
  ·refine Bd fun ab l =>Te [0,1,6] (o1 22 (G6 l)) Ev ?_
   refine Lt fun m n =>Fe (fr':=[(0,_),(1,_),(6,_),(7,u8 m)]) [0,1,6,7] Aa (Ew1 n) ?_
   exact Jm (ws [0])
  ·exact Sk <|Jm (ws [0])
 rintro⟨e,ac⟩;refine Ck fun o =>Lt fun f p =>Te (fr':=[(0,.bs false 0 (f.length) 0 (f.length)),(1,_),(6,_)]) (σ':=[.buf 1 (L cU8 f) false,_]) [0,1,6] Aa (Ew2 o p) ?_
 refine Ja (fun c=>⟨Ao 48 [(0,.bs false 0 (c.length) 0 (c.length))],[.buf 1 (L cU8 c) false]⟩) ?_ ?_
 ·intro ad;refine T0 [0,1,6,30,31] ?_;refine Sb ?_;refine Lo (fun(v:Int×List UInt8)=>(⟨Ao 48 [(0,.bs false 0 (v.2.length) 0 (v.2.length)),(1,i64 b),(6,i64 e),(30,i64 e),(31,i64 v.1)],[.buf 1 (L cU8 v.2) false]⟩:St)) (ws [0]) ?_;rintro⟨q,d⟩ ae s t u;show B1 b e q d=some s→_;unfold B1;refine T0 [0,1,6,30,31,32] ?_;refine Sq <|Cd ?_ ?_
  ·refine Sk <|Tn <|Sq <|Sb <|T0 [0,1,6,8,30,31] ?_
   refine Ck fun w =>Ck fun x =>Lt fun g y =>Fe (fr':=[(0,.bs false 0 (g.length) 0 (g.length)),(1,_),(6,_),(30,_),(31,_)]) (σ':=[.buf 1 (L cU8 g) false,_]) [0,1,6,30,31] Aa (Ew3 w x y) ?_
   refine Bn <|Tn <|F0 [0,1,6,30,31] ?_
   exact Ln (ws [0])
  ·refine Sx <|Tx <|Ly u t <|Bx <|?_
   exact Jm ((ws (l':=[(0,.bs false 0 (d.length) 0 (d.length))]) (σ':=[.buf 1 (L cU8 d) false]) [0]).trans (ws [0]))
 intro c;refine T0 [4] ?_;exact Sr <|Ro [0]
theorem IV{rec_:(List UInt8)→AsP→Option (List UInt8)}(hrec:∀{b:List UInt8} {a:AsP} {r:List UInt8},rec_ b a=some r→Con B 79 [.bs false 0 (b.length) 0 (b.length),.agg [i64 a.Za,i64 a.N,.sl false (L cU8 a.B),.sl false (L cApi_Value a.L)]] [.buf 1 (L cU8 b) false] (fun r' σ'=>r'=.bs false 0 (r.length) 0 (r.length)∧σ'=[.buf 1 (L cU8 r) false])){b:List UInt8}{a:AsP}{r:List UInt8}(h:CV rec_ b a=some r):Con B 79 [.bs false 0 (b.length) 0 (b.length),.agg [i64 a.Za,i64 a.N,.sl false (L cU8 a.B),.sl false (L cApi_Value a.L)]] [.buf 1 (L cU8 b) false] (fun r' σ'=>r'=.bs false 0 (r.length) 0 (r.length)∧σ'=[.buf 1 (L cU8 r) false]):=by
 refine Ns (N:=59) (rs:=[.tmp 4]) 1 rfl ok Tryz.func79 rfl (by decide +kernel) rfl rfl (AtM rfl) (fun F=>?_);have hE:=ok.env F;unfold CV at h;show Run (B.env F) 1 _ ⟨Ao 59 [(0,.bs false 0 (b.length) 0 (b.length)),(1,.agg [i64 a.Za,i64 a.N,.sl false (L cU8 a.B),.sl false (L cApi_Value a.L)])],[.buf 1 (L cU8 b) false]⟩ _;refine Gn ?_;revert h;refine T0 [0,3] ?_;refine Jo (fun _=>⟨Ao 59 [(0,.bs false 0 (b.length) 0 (b.length)),(3,.ref 1 0)],[.buf 1 (L cU8 b) false,.box [i64 a.Za,i64 a.N,.sl false (L cU8 a.B),.sl false (L cApi_Value a.L)] false]⟩) ?_ ?_
 ·intro aB w;refine T0 [0,3,10] ?_;refine Sb <|T0 [0,3,10,11] ?_
  refine Cd ?_ ?_
  ·refine Bd fun aC y =>Te [4] (Av (l:=[]) (m:=[(16,123,[.bs false 0 (b.length) 0 (b.length),i64 a.N],[.buf 1 (L cU8 b) false,.box [i64 a.Za,i64 a.N,.sl false (L cU8 a.B),.sl false (L cApi_Value a.L)] false],_,_)]) trivial ⟨(wc (L1 y) [0]),trivial⟩) Ev ?_
   exact Sr <|Br <|Jr w <|Ro [0]
  ·refine T0 [0,3,17] ?_;refine Cd ?_ ?_
   ·refine Ck fun z =>Lt fun i aa =>Te (fr':=[(0,.bs false 0 (i.length) 0 (i.length)),(3,_)]) (σ':=[.buf 1 (L cU8 i) false,_,_]) [0,3] Aa (Ew2 z aa) ?_
    refine Ja (fun d=>⟨Ao 59 [(0,.bs false 0 (d.length) 0 (d.length))],[.buf 1 (L cU8 d) false]⟩) ?_ ?_
    ·intro aD;refine T0 [0,23,24,25] ?_;refine Sb ?_;refine Lo (fun(v:Int×List UInt8)=>(⟨Ao 59 [(0,.bs false 0 (v.2.length) 0 (v.2.length)),(23,.sl false (L cU8 a.B)),(24,i64 (a.B.length:Int)),(25,i64 v.1)],[.buf 1 (L cU8 v.2) false]⟩:St)) (ws [0]) ?_;rintro⟨x,e⟩ aE ab ac ad;show Bf a x e=some ab→_;unfold Bf;refine T0 [0,23,24,25,26] ?_;refine Sq <|Cd ?_ ?_
     ·refine Sk <|Tn <|?_
      refine Ja (fun f=>⟨Ao 59 [(0,.bs false 0 (f.length) 0 (f.length)),(23,.sl false (L cU8 a.B)),(24,i64 (a.B.length:Int)),(25,i64 x)],[.buf 1 (L cU8 f) false]⟩) ?_ ?_
      ·intro aF;refine Sb <|Ck fun ae =>Te [0,6,23,24,25] Aa (Ew1 (qR ae)) ?_
       refine Ck fun af =>Lt fun j ag =>Te (fr':=[(0,.bs false 0 (j.length) 0 (j.length)),(6,_),(23,_),(24,_),(25,_)]) (σ':=[.buf 1 (L cU8 j) false,_]) [0,6,23,24,25] Aa (Ew2 af ag) ?_
       refine T0 [0,23,24,25,34] ?_;refine Cd ?_ ?_
       ·refine Ck fun ah =>Lt fun k ai =>Fe (fr':=[(0,.bs false 0 (k.length) 0 (k.length)),(23,_),(24,_),(25,_)]) (σ':=[.buf 1 (L cU8 k) false,_,_]) [0,23,24,25] Aa (Ew2 ah ai) ?_
        exact Bn <|Jm (ws [0])
       ·exact Sk <|Bn <|Jm (ws [0])
      intro f;refine F0 [0,23,24,25] ?_;exact Ln (ws [0])
     ·refine Sx <|Tx <|Ly ad ac <|Bx <|?_
      exact Jm ((ws (l':=[(0,.bs false 0 (e.length) 0 (e.length))]) (σ':=[.buf 1 (L cU8 e) false]) [0]).trans (ws [0]))
    intro d;refine Ck fun aj =>Lt fun n ak =>Te (fr':=[(4,.bs false 0 (n.length) 0 (n.length))]) (σ':=[.buf 1 (L cU8 n) false,_]) [4] Aa (Ew2 aj ak) ?_
    exact Sr <|Br <|Jr w <|Ro [0]
   ·exact Sk <|Bn <|Jn (ws [0,1])
 intro _;refine Ck fun al =>Lt fun o am =>Te (fr':=[(0,.bs false 0 (o.length) 0 (o.length)),(3,_)]) (σ':=[.buf 1 (L cU8 o) false,_,_]) [0,3] Aa (Ew2 al am) ?_
 refine Ja (fun g=>⟨Ao 59 [(0,.bs false 0 (g.length) 0 (g.length))],[.buf 1 (L cU8 g) false]⟩) ?_ ?_
 ·intro aG;refine T0 [0,46,47,48] ?_;refine Sb ?_;refine Lo (fun(v:Int×List UInt8)=>(⟨Ao 59 [(0,.bs false 0 (v.2.length) 0 (v.2.length)),(46,.sl false (L cApi_Value a.L)),(47,i64 (a.L.length:Int)),(48,i64 v.1)],[.buf 1 (L cU8 v.2) false]⟩:St)) (ws [0]) ?_;rintro⟨an,c⟩ aH ao ap aq;show Bg a rec_ an c=some ao→_;unfold Bg;refine T0 [0,46,47,48,49] ?_;refine Sq <|Cd ?_ ?_
  ·refine Sk <|Tn <|Sq <|Sb <|Ck fun ar =>Lt fun p au =>Lt fun q av =>Lt fun s aw =>Lt fun t ax =>Te (σ':=[_,.box [i64 p,i64 q,.sl false (L cU8 s),.sl false (L cApi_Value t)] false]) [0,8,46,47,48] Aa (Ew5 (qR ar) au av aw ax) ?_
   refine Bd fun aI ay =>Fe [0,46,47,48] (Av (l:=[]) (m:=[(54,79,[.bs false 0 (c.length) 0 (c.length),.agg [i64 p,i64 q,.sl false (L cU8 s),.sl false (L cApi_Value t)]],[.buf 1 (L cU8 c) false,.box [i64 p,i64 q,.sl false (L cU8 s),.sl false (L cApi_Value t)] false],_,_)]) trivial ⟨(wc (hrec ay) [0]),trivial⟩) Ev ?_
   refine Bn <|Tn <|F0 [0,46,47,48] ?_
   exact Ln (ws [0])
  ·refine Sx <|Tx <|Ly aq ap <|Bx <|?_
   exact Jm ((ws (l':=[(0,.bs false 0 (c.length) 0 (c.length))]) (σ':=[.buf 1 (L cU8 c) false]) [0]).trans (ws [0]))
 intro g;refine Ck fun az =>Lt fun u aA =>Te (fr':=[(4,.bs false 0 (u.length) 0 (u.length))]) (σ':=[.buf 1 (L cU8 u) false,_]) [4] Aa (Ew2 az aA) ?_
 exact Sr <|Ro [0]
theorem IP(n:Nat):∀{b:List UInt8} {a:AsP} {r:List UInt8},Cs n b a=some r→Con B 79 [.bs false 0 (b.length) 0 (b.length),.agg [i64 a.Za,i64 a.N,.sl false (L cU8 a.B),.sl false (L cApi_Value a.L)]] [.buf 1 (L cU8 b) false] (fun r' σ'=>r'=.bs false 0 (r.length) 0 (r.length)∧σ'=[.buf 1 (L cU8 r) false]):=by
 induction n with
 |zero=>intro b a r h;cases h
 |succ n ih=>intro b a r h;exact IV ih h
theorem J9{b:List UInt8}{a:AsP}{r:List UInt8}(h:Gs b a=some r):Con B 79 [.bs false 0 (b.length) 0 (b.length),.agg [i64 a.Za,i64 a.N,.sl false (L cU8 a.B),.sl false (L cApi_Value a.L)]] [.buf 1 (L cU8 b) false] (fun r' σ'=>r'=.bs false 0 (r.length) 0 (r.length)∧σ'=[.buf 1 (L cU8 r) false]):=IP _ h
theorem J1{a r}(h:Fo a=some r):Con B 44 [.agg [i64 a.Za,i64 a.N,.sl false (L cU8 a.B),.sl false (L cApi_Value a.L)]] [] (fun r' σ'=>r'=.tup [.sl false (L cU8 r.1),i64 r.2]∧σ'=[]):=by
 refine Cw 22 [.tmp 2,.tmp 3] Tryz.func44 (fun F hE=>?_) h;unfold Fo;refine T0 [1] ?_;refine Bd fun d b =>Te [1,4,5] (o1 9 (PB b)) Ev ?_
 refine Sq <|T0 [1,4,13] ?_
 refine Cd ?_ ?_
 ·refine T0 [2,3] ?_;exact Sr <|Tr <|Rr
 ·refine Sk <|Tn <|Sq <|T0 [1,15] ?_
  refine Cd ?_ ?_
  ·refine T0 [2,3] ?_;exact Sr <|Tr <|Rr
  ·refine Sk <|Tn <|Bd fun e c =>Te [6] (Av (l:=[]) (m:=[(17,79,[.sl true (L cU8 ([])),.agg [i64 a.Za,i64 a.N,.sl false (L cU8 a.B),.sl false (L cApi_Value a.L)]],[.box [i64 a.Za,i64 a.N,.sl false (L cU8 a.B),.sl false (L cApi_Value a.L)] false],_,_)]) trivial ⟨(Agw 1 (args':=[.bs true 1 0 0 0,.agg [i64 a.Za,i64 a.N,.sl false (L cU8 a.B),.sl false (L cApi_Value a.L)]]) gs (wc (J9 c) [1])),trivial⟩) Ev ?_
   refine Sq <|T0 [6,20] ?_
   refine Cd ?_ ?_
   ·refine T0 [2,3] ?_;exact Sr <|Tr <|Rr
   ·refine Sk <|Tn <|T0 [2,3] ?_
    exact Sr <|Rr
theorem Pk{a r}(h:Hg a=some r):Con B 17 [.agg (Ab a)] [] (fun r' σ'=>r'=.tup [.sl false (L cU8 r.1),i64 r.2]∧σ'=[]):=by
 refine Cw 22 [.tmp 2,.tmp 3] Tryz.func17 (fun F hE=>?_) h;unfold Hg;refine T0 [1] ?_;refine Bd fun e f =>Bd fun g i =>Bd fun j k =>Bd fun b n =>Ck fun c =>Bd fun q o =>Bd fun d p =>?_
 intro h;refine UA hE MF [[],[0],[],[2],[2,3],[0,1,2,3,4],[],[6],[6,7],[0,1,2,3,4,5,6,7,8],[0,1,2,3,4,5,6,7,8,9],[0,1,2,3,4,5,6,7,8,9,10],[0,1,2,3,4,5,6,7,8,9,10,11],[0,1,2,3,4,5,6,7,8,9,10,11,12],[0,1,2,3,4,5,6,7,8,9,10,11,12,13],[0,1,2,3,4,5,6,7,8,9,10,11,12,13,14],[0,1,2,3,4,5,6,7,8,9,10,11,12,13,14,15],[0,1,2,3,4,5,6,7,8,9,10,11,12,13,14,15],[0,1,2,3,4,5,6,7,8,9,10,11,12,13,14,15,16,17],[0,1,2,3,4,5,6,7,8,9,10,11,12,13,14,15,16,17,18]] (by kernel_rfl) [(),(),(),(),(),(),(),(),()] [(),(),(),(),(),(),()] (by kernel_rfl) [(1,0),(6,0),(7,0),(10,0),(11,0)] [(5,0)] [1,6,7,10,11] [1,2,3,6,7,10,11] (by kernel_rfl) (fr':=[(1,.ref 0 0),(2,.sl false (L cU8 d.1)),(3,i64 d.2),(6,.ref 0 51),(7,.ref 0 51),(10,.ref 0 51),(11,.ref 0 52)]) (σ':=[.box (Ab a) false,.buf 4 (L cApi_Value (e++([b]:List AsP))) true,.buf 4 (L cApi_Value ([g,j]:List AsP)) true,.buf 4 (L cApi_Value ([b]:List AsP)) false]) ⟨_,_,(Av (l:=[(9,_,_,_),(13,_,_,_),(15,_,_,_),(18,_,_,_),(19,_,_,_)]) (m:=[(5,46,[.agg (Ab a)],[.box (Ab a) false],_,_)]) ⟨LB  i,LB  k,IU  n,IU  o,J1  p,trivial⟩ ⟨(wc (IC f) []),trivial⟩),(by repeat' (first|exact trivial|(refine And.intro ?_ ?_)|exact fun _=>rfl|exact fun h=>absurd h (by decide))),_,_,(by simp only[go_sem,c];exact AL),(by exact⟨rfl,rfl,rfl,rfl,rfl,trivial⟩),(by simp only[go_sem,c];exact AL)⟩ ?_;revert h;exact Sr <|Rr
theorem AQ{a b r}(h:A0 a b=some r):Con B 165 [u32 a,i64 b] [] (fun r' σ'=>r'=u32 r∧σ'=[]):=by
 refine Cw 17 [.tmp 4] Tryz.func165 (fun F hE=>?_) h;unfold A0;refine T0 [0,1] ?_;refine Lt fun c d =>Te (fr':=[(0,_),(5,u64 c)]) [0,5] Aa (Ew1 d) ?_
 refine Lt fun e f =>Te (fr':=[(4,u32 e)]) [4] Aa (Ew1 f) ?_
 exact Sr <|Rr
theorem NI{a b r}(h:Dh a b=some r):Con B 148 [.agg (C1 u32 a.l),.sl false (L cU8 b)] [] (fun r' σ'=>r'=.agg (C1 u32 r.l)∧σ'=[]):=by
 refine Cw 195 [.cell 4 221] Tryz.func148 (fun F hE=>?_) h;unfold Dh;refine T0 [1,2,4] ?_;refine T0 [1,2,4,5] ?_;refine Ja (fun e=>⟨Ao 195 [(2,.ref 0 0),(4,.ref 1 0),(5,.ref 2 0)],[.box (C1 u32 a.l) false,.box (C1 u32 (Arr.rep 8 (0:UInt32)).l) false,.box (C1 u32 e.l) false]⟩) ?_ ?_
 ·intro bh;refine T0 [1,2,4,5,19] ?_;refine Sb ?_;refine Lo (fun(v:Int×Arr UInt32 64)=>(⟨Ao 195 [(1,.sl false (L cU8 b)),(2,.ref 0 0),(4,.ref 1 0),(5,.ref 2 0),(19,i64 v.1)],[.box (C1 u32 a.l) false,.box (C1 u32 (Arr.rep 8 (0:UInt32)).l) false,.box (C1 u32 v.2.l) false]⟩:St)) (ws [0,1,2]) ?_;rintro⟨ac,f⟩ bi ad ae af;show Bh b ac f=some ad→_;unfold Bh;refine T0 [1,2,4,5,19,20] ?_;refine Sq <|Cd ?_ ?_
  ·refine Sk <|Tn <|Sq <|Sb <|T0 [1,2,4,5,6,19] ?_
   refine Ck fun ag =>Ck fun ah =>Ck fun ai =>Ck fun aj =>Ck fun ak =>Lt fun al am =>Ge (σ':=[_,_,.box (C1 u32 al.l) false]) [[],[],[],[2],[1,2,3],[1,2,3,4],[1,2,3,4,5],[1,2,3,4,5,6],[],[],[9],[9,10],[8,9,10,11],[8,9,10,11,12],[8,9,10,11,12,13],[8,9,10,11,12,13,14],[1,2,3,4,5,6,7,8,9,10,11,12,13,14,15],[],[],[18],[18,19],[17,18,19,20],[17,18,19,20,21],[17,18,19,20,21,22],[17,18,19,20,21,22,23],[1,2,3,4,5,6,7,8,9,10,11,12,13,14,15,16,17,18,19,20,21,22,23,24],[],[],[27],[27,28],[26,27,28,29],[26,27,28,29,30],[26,27,28,29,30,31],[1,2,3,4,5,6,7,8,9,10,11,12,13,14,15,16,17,18,19,20,21,22,23,24,25,26,27,28,29,30,31,32],[0,1,2,3,4,5,6,7,8,9,10,11,12,13,14,15,16,17,18,19,20,21,22,23,24,25,26,27,28,29,30,31,32,33],[0,1,2,3,4,5,6,7,8,9,10,11,12,13,14,15,16,17,18,19,20,21,22,23,24,25,26,27,28,29,30,31,32,33,34]] [1,2,4,5,19] Aa (Ev (by simp only[go_sem,qR ag,qR ah,qR ai,qR aj,qR ak,am];exact AL)) ?_
   refine Bn <|Tn <|F0 [1,2,4,5,19] ?_
   exact Ln (ws [0,1,2])
  ·refine Sx <|Tx <|Ly af ae <|Bx <|?_
   exact Jm ((ws (l':=[(2,.ref 0 0),(4,.ref 1 0),(5,.ref 2 0)]) (σ':=[.box (C1 u32 a.l) false,.box (C1 u32 (Arr.rep 8 (0:UInt32)).l) false,.box (C1 u32 f.l) false]) [0,1,2]).trans (ws [0,1,2]))
 intro e;refine Ja (fun c=>⟨Ao 195 [(2,.ref 0 0),(4,.ref 1 0),(5,.ref 2 0)],[.box (C1 u32 a.l) false,.box (C1 u32 (Arr.rep 8 (0:UInt32)).l) false,.box (C1 u32 c.l) false]⟩) ?_ ?_
 ·intro bj;refine T0 [2,4,5,7] ?_;refine Sb ?_;refine Lo (fun(v:Int×Arr UInt32 64)=>(⟨Ao 195 [(2,.ref 0 0),(4,.ref 1 0),(5,.ref 2 0),(7,i64 v.1)],[.box (C1 u32 a.l) false,.box (C1 u32 (Arr.rep 8 (0:UInt32)).l) false,.box (C1 u32 v.2.l) false]⟩:St)) (ws [0,1,2]) ?_;rintro⟨an,g⟩ bk ao ap aq;show AX an g=some ao→_;unfold AX;refine Sq <|T0 [2,4,5,7,59] ?_
  refine Cd ?_ ?_
  ·refine Sk <|Tn <|Sq <|Sb <|Ck fun ar =>Ck fun au =>Lt fun av aw =>Lt fun ax ay =>De (fr':=[(2,_),(4,_),(5,_),(7,_),(8,u32 av),(9,u32 ax)]) [[],[0],[0,1],[0,1,2],[],[4],[4,5],[4,5,6],[0,1,2,3],[0,1,2,3,4,5,6,7,8]] [2,4,5,7,8,9] Aa (Ew4 (qR ar) (qR au) aw ay) ?_
   refine Bd fun bl az =>Bd fun bm aA =>Lt fun s0_5401 aB =>Te (fr':=[(2,_),(4,_),(5,_),(7,_),(9,_),(10,u32 s0_5401)]) [2,4,5,7,9,10] (o2 71 (AQ az) 73 (AQ aA)) (Ew1 aB) ?_
   refine Bd fun bn aC =>Bd fun bo aD =>Lt fun s1_5407 aE =>Te (fr':=[(2,_),(4,_),(5,_),(7,_),(10,_),(11,u32 s1_5407)]) [2,4,5,7,10,11] (o2 79 (AQ aC) 81 (AQ aD)) (Ew1 aE) ?_
   refine Ck fun aF =>Ck fun aG =>Ck fun aH =>Lt fun aI aJ =>Ge (σ':=[_,_,.box (C1 u32 aI.l) false]) [[],[],[1],[1,2],[1,2,3],[],[1,2,3,4,5],[],[7],[7,8],[7,8,9],[1,2,3,4,5,6,7,8,9,10],[],[1,2,3,4,5,6,7,8,9,10,11,12],[0,1,2,3,4,5,6,7,8,9,10,11,12,13],[0,1,2,3,4,5,6,7,8,9,10,11,12,13,14]] [2,4,5,7] Aa (Ew4 (qR aF) (qR aG) (qR aH) aJ) ?_
   refine Bn <|Tn <|F0 [2,4,5,7] ?_
   exact Ln (ws [0,1,2])
  ·refine Sx <|Tx <|Ly aq ap <|Bx <|?_
   exact Jm ((ws (l':=[(2,.ref 0 0),(4,.ref 1 0),(5,.ref 2 0)]) (σ':=[.box (C1 u32 a.l) false,.box (C1 u32 (Arr.rep 8 (0:UInt32)).l) false,.box (C1 u32 g.l) false]) [0,1,2]).trans (ws [0,1,2]))
 intro c;refine T0 [2,4,5,12] ?_;refine Ja (fun d=>⟨Ao 195 [(2,.ref 0 0),(4,.ref 1 0),(12,.ref 2 0)],[.box (C1 u32 a.l) false,.box (C1 u32 (Arr.rep 8 (0:UInt32)).l) false,.box (C1 u32 d.l) false]⟩) ?_ ?_
 ·intro bp;refine T0 [2,4,5,12,102] ?_;refine Sb ?_;refine Lo (fun(v:Int×Arr UInt32 8)=>(⟨Ao 195 [(2,.ref 0 0),(4,.ref 1 0),(5,.ref 2 0),(12,.ref 3 0),(102,i64 v.1)],[.box (C1 u32 a.l) false,.box (C1 u32 (Arr.rep 8 (0:UInt32)).l) false,.box (C1 u32 c.l) false,.box (C1 u32 v.2.l) false]⟩:St)) (ws [0,1,2,3]) ?_;rintro⟨aK,i⟩ bq aL aM aN;show Bi c aK i=some aL→_;unfold Bi;refine T0 [2,4,5,12,102,103] ?_;refine Sq <|Cd ?_ ?_
  ·refine Sk <|Tn <|Sq <|Sb <|T0 [2,4,5,12,13,102] ?_
   have j:InR 0 8:=by decide
   have k:InR 4 8:=by decide
   refine De [[],[0],[],[2],[0,1],[0,1,2,3,4]] [2,4,5,12,13,14,15,102] Aa (Ev (by simp only[go_sem,j,j.2,k,k.2];exact AL)) ?_;have m:InR 7 8:=by decide
   refine Bd fun aO aP =>Bd fun aQ aR =>Bd fun aS aT =>?_
   have n:InR 5 8:=by decide
   have o:InR 6 8:=by decide
   refine Ck fun aU =>Ck fun aV =>Lt fun aW aX =>De (fr':=[(2,_),(4,_),(5,_),(12,_),(14,_),(15,_),(16,u32 aW),(102,_)]) [[],[0],[],[2],[],[2,3,4],[2,3,4,5],[],[2,3,4,5,7],[2,3,4,5,6,7,8],[0,1,2,3,4,5,6,7,8,9],[],[],[12],[11,12,13],[],[15],[],[17],[15,16,17,18],[11,12,13,14,15,16,17,18,19],[0,1,2,3,4,5,6,7,8,9,10,11,12,13,14,15,16,17,18,19,20],[],[22],[22,23],[0,1,2,3,4,5,6,7,8,9,10,11,12,13,14,15,16,17,18,19,20,21,22,23,24],[],[26],[26,27],[0,1,2,3,4,5,6,7,8,9,10,11,12,13,14,15,16,17,18,19,20,21,22,23,24,25,26,27,28],[0,1,2,3,4,5,6,7,8,9,10,11,12,13,14,15,16,17,18,19,20,21,22,23,24,25,26,27,28,29]] [2,4,5,12,14,15,16,102] (Bt (l:=[(112,_,_,u32 aO),(114,_,_,u32 aQ),(117,_,_,u32 aS)]) ⟨AQ  aP,AQ  aR,AQ  aT,trivial⟩) (Ev (by simp only[go_sem,m,m.2,n,n.2,o,o.2,qR aU,qR aV,aX];exact AL)) ?_
   refine Bd fun aY aZ =>Bd fun a0 a1 =>Bd fun a2 a3 =>?_
   have p:InR 1 8:=by decide
   have q:InR 2 8:=by decide
   have s:InR 1 8:=by decide
   have t:InR 2 8:=by decide
   refine Lt fun a4 a5 =>De (fr':=[(2,_),(4,_),(5,_),(12,_),(14,_),(15,_),(16,_),(17,u32 a4),(102,_)]) [[],[0],[],[0,1,2],[0,1,2,3],[],[0,1,2,3,5],[0,1,2,3,4,5,6],[],[],[9],[8,9,10],[],[],[13],[12,13,14],[8,9,10,11,12,13,14,15],[],[17],[],[19],[17,18,19,20],[8,9,10,11,12,13,14,15,16,17,18,19,20,21],[0,1,2,3,4,5,6,7,8,9,10,11,12,13,14,15,16,17,18,19,20,21,22],[0,1,2,3,4,5,6,7,8,9,10,11,12,13,14,15,16,17,18,19,20,21,22,23]] [2,4,5,12,14,15,16,17,102] (Bt (l:=[(140,_,_,u32 aY),(142,_,_,u32 a0),(145,_,_,u32 a2)]) ⟨AQ  aZ,AQ  a1,AQ  a3,trivial⟩) (Ev (by simp only[go_sem,p,p.2,q,q.2,s,s.2,t,t.2,a5];exact AL)) ?_
   have u:InR 1 8:=by decide
   have w:InR 2 8:=by decide
   have x:InR 3 8:=by decide
   have y:InR 5 8:=by decide
   have z:InR 6 8:=by decide
   refine Lt fun a6 a7 =>Fe (σ':=[_,.box (C1 u32 (Arr.rep 8 (0:UInt32)).l) false,_,.box (C1 u32 a6.l) false]) [2,4,5,12,102] Aa (Ev (by simp only[go_sem,u,u.2,w,w.2,x,x.2,y,y.2,z,z.2,GA,GQ,ER,a7];exact AL)) ?_
   refine Bn <|Tn <|F0 [2,4,5,12,102] ?_
   exact Ln (ws [0,1,2,3])
  ·refine Sx <|Tx <|Ly aN aM <|Bx <|?_
   exact Jm ((ws (l':=[(2,.ref 0 0),(4,.ref 1 0),(12,.ref 2 0)]) (σ':=[.box (C1 u32 a.l) false,.box (C1 u32 (Arr.rep 8 (0:UInt32)).l) false,.box (C1 u32 i.l) false]) [0,1,3]).trans (ws [0,1,2]))
 intro d;refine Ja (fun aa=>⟨Ao 195 [(2,.ref 0 0),(4,.ref 1 0)],[.box (C1 u32 aa.l) false,.box (C1 u32 (Arr.rep 8 (0:UInt32)).l) false]⟩) ?_ ?_
 ·intro br;refine T0 [2,4,12,182] ?_;refine Sb ?_;refine Lo (fun(v:Int×Arr UInt32 8)=>(⟨Ao 195 [(2,.ref 0 0),(4,.ref 1 0),(12,.ref 2 0),(182,i64 v.1)],[.box (C1 u32 v.2.l) false,.box (C1 u32 (Arr.rep 8 (0:UInt32)).l) false,.box (C1 u32 d.l) false]⟩:St)) (ws [0,1,2]) ?_;rintro⟨a8,ab⟩ bs a9 ba bb;show Bs d a8 ab=some a9→_;unfold Bs;refine T0 [2,4,12,182,183] ?_;refine Sq <|Cd ?_ ?_
  ·refine Sk <|Tn <|Sq <|Sb <|T0 [2,4,12,18,182] ?_
   refine Ck fun bc =>Ck fun bd =>Ck fun be =>Lt fun bf bg =>Ge (σ':=[.box (C1 u32 bf.l) false,_,_]) [[],[0],[0,1],[],[3],[3,4],[0,1,2,3,4,5],[0,1,2,3,4,5,6],[0,1,2,3,4,5,6,7]] [2,4,12,182] Aa (Ew4 (qR bc) (qR bd) (qR be) bg) ?_
   refine Bn <|Tn <|F0 [2,4,12,182] ?_
   exact Ln (ws [0,1,2])
  ·refine Sx <|Tx <|Ly bb ba <|Bx <|?_
   exact Jm ((ws (l':=[(2,.ref 0 0),(4,.ref 1 0)]) (σ':=[.box (C1 u32 ab.l) false,.box (C1 u32 (Arr.rep 8 (0:UInt32)).l) false]) [0,1]).trans (ws [0,1]))
 intro aa;refine T0 [4] ?_;exact Sr <|Rr
theorem Rt{d r}(h:Gf d=some r):Con B 125 [.sl false (L (cSl cU8) d)] [] (fun r' σ'=>r'=.agg (C1 u8 r.l)∧σ'=[]):=by
 refine Cw 72 [.cell 2 42] Tryz.func125 (fun F hE=>?_) h;unfold Gf;refine T0 [0,2] ?_;refine T0 [0,2,3] ?_;refine Ja (fun e=>⟨Ao 72 [(2,.ref 0 0),(3,.bs false 1 (e.length) 0 (e.length))],[.box (C1 u8 (Arr.rep 32 (0:UInt8)).l) false,.buf 1 (L cU8 e) false]⟩) ?_ ?_
 ·intro aQ;refine T0 [2,3,10,11,12] ?_;refine Sb ?_;refine Lo (fun(v:Int×List UInt8)=>(⟨Ao 72 [(2,.ref 0 0),(3,.bs false 1 (v.2.length) 0 (v.2.length)),(10,.sl false (L (cSl cU8) d)),(11,i64 (d.length:Int)),(12,i64 v.1)],[.box (C1 u8 (Arr.rep 32 (0:UInt8)).l) false,.buf 1 (L cU8 v.2) false]⟩:St)) ((Oe 3 1 rfl).trans (ws [0,1])) ?_;rintro⟨w,f⟩ aR x y z;show Cy d w f=some x→_;unfold Cy;refine T0 [2,3,10,11,12,13] ?_;refine Sq <|Cd ?_ ?_
  ·refine Sk <|Tn <|Sq <|Sb <|Ck fun aa =>Lt fun ab ac =>Te (fr':=[(2,_),(3,_),(5,.sl false (L cU8 ab)),(10,_),(11,_),(12,_)]) [2,3,5,10,11,12] Aa (Ew2 (qR aa) ac) ?_
   refine Ck fun ad =>Lt fun m ae =>Fe (fr':=[(2,_),(3,.bs false 1 (m.length) 0 (m.length)),(10,_),(11,_),(12,_)]) (σ':=[_,.buf 1 (L cU8 m) false]) [2,3,10,11,12] Aa (Ew2 ad ae) ?_
   refine Bn <|Tn <|F0 [2,3,10,11,12] ?_
   exact Ln (ws [0,1])
  ·refine Sx <|Tx <|Ly z y <|Bx <|?_
   exact Jm ((ws (l':=[(2,.ref 0 0),(3,.bs false 1 (f.length) 0 (f.length))]) (σ':=[.box (C1 u8 (Arr.rep 32 (0:UInt8)).l) false,.buf 1 (L cU8 f) false]) [0,1]).trans (ws [0,1]))
 intro e;refine Lt fun c af =>Te (fr':=[(2,_),(3,_),(6,u64 c)]) [2,3,6] Aa (Ew1 af) ?_
 refine Ck fun ag =>Lt fun n ah =>Te (fr':=[(2,_),(3,.bs false 1 (n.length) 0 (n.length)),(6,_)]) (σ':=[_,.buf 1 (L cU8 n) false,_]) [2,3,6] Aa (Ew2 ag ah) ?_
 refine Ja (fun g=>⟨Ao 72 [(2,.ref 0 0),(3,.bs false 1 (g.length) 0 (g.length)),(6,u64 c)],[.box (C1 u8 (Arr.rep 32 (0:UInt8)).l) false,.buf 1 (L cU8 g) false]⟩) ?_ ?_
 ·intro aS;refine Sb ?_;refine Lo (fun a=>⟨Ao 72 [(2,.ref 0 0),(3,.bs false 1 (a.length) 0 (a.length)),(6,u64 c)],[.box (C1 u8 (Arr.rep 32 (0:UInt8)).l) false,.buf 1 (L cU8 a) false]⟩) (ws [0,1]) ?_;rintro a aT ai aj ak;show BJ a=some ai→_;unfold BJ;refine Sq ?_;have al:¬(64:Int)=0:=by decide
  refine Te [2,3,6,30] Aa (Ew1 al) ?_;refine Cd ?_ ?_
  ·refine Sk <|Tn <|Sb <|Ck fun am =>Lt fun o an =>Fe (fr':=[(2,_),(3,.bs false 1 (o.length) 0 (o.length)),(6,_)]) (σ':=[_,.buf 1 (L cU8 o) false,_]) [2,3,6] Aa (Ew2 am an) ?_
   exact Bn <|Ln (ws [0,1])
  ·refine Sx <|Tx <|Ly ak aj <|Bx <|?_
   exact Jm ((ws (l':=[(2,.ref 0 0),(3,.bs false 1 (a.length) 0 (a.length)),(6,u64 c)]) (σ':=[.box (C1 u8 (Arr.rep 32 (0:UInt8)).l) false,.buf 1 (L cU8 a) false]) [0,1]).trans (ws [0,1]))
 intro g;refine Ja (fun b=>⟨Ao 72 [(2,.ref 0 0),(3,.bs false 1 (b.length) 0 (b.length))],[.box (C1 u8 (Arr.rep 32 (0:UInt8)).l) false,.buf 1 (L cU8 b) false]⟩) ?_ ?_
 ·intro aU;refine T0 [2,3,6,7] ?_;refine Sb ?_;refine Lo (fun(v:Int×List UInt8)=>(⟨Ao 72 [(2,.ref 0 0),(3,.bs false 1 (v.2.length) 0 (v.2.length)),(6,u64 c),(7,i64 v.1)],[.box (C1 u8 (Arr.rep 32 (0:UInt8)).l) false,.buf 1 (L cU8 v.2) false]⟩:St)) (ws [0,1]) ?_;rintro⟨ao,i⟩ aV ap aq ar;show CL c ao i=some ap→_;unfold CL;refine Sq <|T0 [2,3,6,7,35] ?_
  refine Cd ?_ ?_
  ·refine Sk <|Tn <|Sq <|Sb <|Ck fun au =>Ck fun av =>Lt fun p aw =>Fe (fr':=[(2,_),(3,.bs false 1 (p.length) 0 (p.length)),(6,_),(7,_)]) (σ':=[_,.buf 1 (L cU8 p) false,_]) [2,3,6,7] Aa (Ew3 au av aw) ?_
   refine Bn <|Tn <|F0 [2,3,6,7] ?_
   exact Ln (ws [0,1])
  ·refine Sx <|Tx <|Ly ar aq <|Bx <|?_
   exact Jm ((ws (l':=[(2,.ref 0 0),(3,.bs false 1 (i.length) 0 (i.length))]) (σ':=[.box (C1 u8 (Arr.rep 32 (0:UInt8)).l) false,.buf 1 (L cU8 i) false]) [0,1]).trans (ws [0,1]))
 intro b;refine Lt fun ax ay =>Te (σ':=[.box (C1 u8 (Arr.rep 32 (0:UInt8)).l) false,_,.box (C1 u32 ax.l) false]) [2,3,8] Aa (Ev (by simp only[go_sem,GA,GQ,ER,ay];exact AL)) ?_
 refine Ja (fun j=>⟨Ao 72 [(2,.ref 0 0),(8,.ref 1 0)],[.box (C1 u8 (Arr.rep 32 (0:UInt8)).l) false,.box (C1 u32 j.l) false]⟩) ?_ ?_
 ·intro aW;refine Sb ?_;refine Lo (fun⟨q,s,k⟩=>⟨Ao 72 [(2,.ref 0 0),(3,.bs false 1 (b.length) q s),(8,.ref 2 0)],[.box (C1 u8 (Arr.rep 32 (0:UInt8)).l) false,.buf 1 (L cU8 b) false,.box (C1 u32 k.l) false]⟩) (ws [0,1,2]) ?_;rintro⟨q,s,k⟩ aX az aA aB;show CJ b q s k=some az→_;unfold CJ;refine Sq <|T0 [2,3,8,48] ?_
  refine Cd ?_ ?_
  ·refine Sk <|Tn <|Sq <|Sb <|Ck fun aC =>Bd fun aY aD =>Ge [[],[],[1],[0,1,2],[0,1,2,3]] [2,3,8] (o1 54 (NI aD)) (Ew1 aC) ?_
   refine Bn <|Tn <|Ck fun aE =>Fe [2,3,8] Aa (Ew1 aE) ?_
   exact Ln (ws [0,1,2])
  ·refine Sx <|Tx <|Ly aB aA <|Bx <|?_
   exact Jm ((ws (l':=[(2,.ref 0 0),(8,.ref 1 0)]) (σ':=[.box (C1 u8 (Arr.rep 32 (0:UInt8)).l) false,.box (C1 u32 k.l) false]) [0,2]).trans (ws [0,1]))
 intro j;refine Ja (fun t=>⟨Ao 72 [(2,.ref 0 0)],[.box (C1 u8 t.l) false]⟩) ?_ ?_
 ·intro aZ;refine T0 [2,8,55] ?_;refine Sb ?_;refine Lo (fun(v:Int×Arr UInt8 32)=>(⟨Ao 72 [(2,.ref 0 0),(8,.ref 1 0),(55,i64 v.1)],[.box (C1 u8 v.2.l) false,.box (C1 u32 j.l) false]⟩:St)) (ws [0,1]) ?_;rintro⟨aF,u⟩ a0 aG aH aI;show Ce j aF u=some aG→_;unfold Ce;refine T0 [2,8,55,56] ?_;refine Sq <|Cd ?_ ?_
  ·refine Sk <|Tn <|Sq <|Sb <|T0 [2,8,9,55] ?_
   have aJ:¬(4:Int)=0:=by decide
   refine Ck fun aK=>?_
   have aL:¬(4:Int)=0:=by decide
   refine Ck fun aM =>Ck fun aN =>Lt fun aO aP =>Fe (σ':=[.box (C1 u8 aO.l) false,_]) [2,8,55] Aa (Ev (by simp only[go_sem,aJ,qR aK,aL,aM,qR aN,aP];exact AL)) ?_
   refine Bn <|Tn <|F0 [2,8,55] ?_
   exact Ln (ws [0,1])
  ·refine Sx <|Tx <|Ly aI aH <|Bx <|?_
   exact Jm ((ws (l':=[(2,.ref 0 0)]) (σ':=[.box (C1 u8 u.l) false]) [0]).trans (ws [0]))
 intro t;refine T0 [2] ?_;exact Sr <|Rr
theorem Gi{a b r}(h:C0 a b=some r):Con B 87 [.str a,.sl false (L cU8 b)] [] (fun r' σ'=>r'=.agg (C1 u8 r.l)∧σ'=[]):=by
 refine Cw 19 [.cell 4 42] Tryz.func87 (fun F hE=>?_) h;unfold C0;refine T0 [0,1,4] ?_;refine Ck fun c =>Lt fun d e =>Te (fr':=[(0,.str d),(1,_),(4,_)]) [0,1,4] Aa (Ew2 c e) ?_
 refine Bd fun g f =>Te [4] (o1 18 (Rt f)) Ev ?_
 exact Sr <|Rr
theorem JC{a r}(h:Dx a=some r):Con B 59 [.agg (Ab a)] [] (fun r' σ'=>r'=.tup [.agg (C1 u8 r.1.l),i64 r.2]∧σ'=[]):=by
 refine Cw 16 [.cell 2 42,.tmp 3] Tryz.func59 (fun F hE=>?_) h;unfold Dx;refine T0 [1,2] ?_;refine Bd fun d b =>Te [2,3,4] (o1 7 (Pk b)) Ev ?_
 refine Sq <|T0 [2,3,4,11] ?_
 refine Cd ?_ ?_
 ·refine T0 [2,3] ?_;exact Sr <|Tr <|Rr
 ·refine Sk <|Tn <|Bd fun e c =>Te [2,3] (o1 15 (Gi c)) Ev ?_
  exact Sr <|Rr
theorem LD{a r}(h:Hp a=some r):Con B 14 [.agg (Ab a)] [] (fun r' σ'=>r'=.tup [.sl false (L cU8 r.1),i64 r.2]∧σ'=[]):=by
 refine Cw 10 [.tmp 2,.tmp 3] Tryz.func14 (fun F hE=>?_) h;unfold Hp;refine T0 [1] ?_;refine Bd fun e b =>Bd fun f c =>Bd fun g d =>Te [2,3] (Av (l:=[(6,_,_,_),(7,_,_,_)]) (m:=[(5,46,[.agg (Ab a)],[.box (Ab a) false],_,_)]) ⟨IU  c,J1  d,trivial⟩ ⟨(wc (IC b) []),trivial⟩) Ev ?_
 exact Sr <|Rr
theorem Kg{b a r}(h:Ef b a=some r):Con B 88 [.sl false (L cU8 b),.sl false (L Ui a)] [] (fun r' σ'=>r'=.sl false (L cU8 r)∧σ'=[]):=by
 refine Cw 39 [.tmp 4] Tryz.func88 (fun F hE=>?_) h;unfold Ef;refine T0 [0,1] ?_;refine Ck fun m =>Lt fun i n =>Te (fr':=[(0,_),(1,_),(5,.bs (0==(w64 ((w64 (8*(a.length:Int)))+(b.length:Int)))) 0 (i.length) 0 (i.length))]) (σ':=[.buf 1 (L cU8 i) false]) [0,1,5] Aa (Ew2 m n) ?_
 refine Ja (fun c=>⟨Ao 39 [(0,.sl false (L cU8 b)),(5,.bs false 0 (c.length) 0 (c.length))],[.buf 1 (L cU8 c) false]⟩) ?_ ?_
 ·intro ae;refine T0 [0,5,16,17,18] ?_;refine Sb ?_;refine Lo (fun(v:Int×List UInt8)=>(⟨Ao 39 [(0,.sl false (L cU8 b)),(5,.bs false 0 (v.2.length) 0 (v.2.length)),(16,.sl false (L Ui a)),(17,i64 (a.length:Int)),(18,i64 v.1)],[.buf 1 (L cU8 v.2) false]⟩:St)) (ws [0]) ?_;rintro⟨d,e⟩ af o p q;show BH a d e=some o→_;unfold BH;refine T0 [0,5,16,17,18,19] ?_;refine Sq <|Cd ?_ ?_
  ·refine Sk <|Tn <|?_
   refine Ja (fun f=>⟨Ao 39 [(0,.sl false (L cU8 b)),(5,.bs false 0 (f.length) 0 (f.length)),(16,.sl false (L Ui a)),(17,i64 (a.length:Int)),(18,i64 d)],[.buf 1 (L cU8 f) false]⟩) ?_ ?_
   ·intro ag;refine Sb <|Ck fun s =>Lt fun j t =>Te (fr':=[(0,_),(5,_),(7,u64 j),(16,_),(17,_),(18,_)]) [0,5,7,16,17,18] Aa (Ew2 (qR s) t) ?_
    refine T0 [0,5,7,16,17,18,22] ?_;refine Sb ?_;refine Lo (fun(v:Int×List UInt8)=>(⟨Ao 39 [(0,.sl false (L cU8 b)),(5,.bs false 0 (v.2.length) 0 (v.2.length)),(7,u64 j),(16,.sl false (L Ui a)),(17,i64 (a.length:Int)),(18,i64 d),(22,i64 v.1)],[.buf 1 (L cU8 v.2) false]⟩:St)) (ws [0]) ?_;rintro⟨u,g⟩ ah w x y;show BT j u g=some w→_;unfold BT;refine T0 [0,5,7,16,17,18,22,23] ?_;refine Sq <|Cd ?_ ?_
    ·refine Sk <|Tn <|Sq <|Sb <|T0 [0,5,7,8,16,17,18,22] ?_
     refine Ck fun z =>Ck fun aa =>Lt fun k ab =>Fe (fr':=[(0,_),(5,.bs false 0 (k.length) 0 (k.length)),(7,_),(16,_),(17,_),(18,_),(22,_)]) (σ':=[.buf 1 (L cU8 k) false,_]) [0,5,7,16,17,18,22] Aa (Ew3 z aa ab) ?_
     refine Bn <|Tn <|F0 [0,5,7,16,17,18,22] ?_
     exact Ln (ws [0])
    ·refine Sx <|Tx <|Ly y x <|Bx <|Bn <|?_
     exact Jm ((ws (l':=[(0,.sl false (L cU8 b)),(5,.bs false 0 (g.length) 0 (g.length)),(16,.sl false (L Ui a)),(17,i64 (a.length:Int)),(18,i64 d)]) (σ':=[.buf 1 (L cU8 g) false]) [0]).trans (ws [0]))
   intro f;refine F0 [0,5,16,17,18] ?_;exact Ln (ws [0])
  ·refine Sx <|Tx <|Ly q p <|Bx <|?_
   exact Jm ((ws (l':=[(0,.sl false (L cU8 b)),(5,.bs false 0 (e.length) 0 (e.length))]) (σ':=[.buf 1 (L cU8 e) false]) [0]).trans (ws [0]))
 intro c;refine Ck fun ac =>Lt fun l ad =>Te (fr':=[(4,.bs false 0 (l.length) 0 (l.length))]) (σ':=[.buf 1 (L cU8 l) false]) [4] Aa (Ew2 ac ad) ?_
 exact Sr <|Rr
theorem I8{a r}(h:Dk a=some r):Con B 86 [.agg (C1 u8 a.l)] [] (fun r' σ'=>r'=u64 r∧σ'=[]):=by
 refine Cw 18 [.tmp 2] Tryz.func86 (fun F hE=>?_) h;unfold Dk;refine T0 [1,2] ?_;refine Ja (fun b=>⟨Ao 18 [(2,u64 b)],[]⟩) ?_ ?_
 ·intro p;have d:InB 8 32:=by decide
  refine Te [2,5,6,7] Aa (Ew1 d) ?_;refine Sb ?_;refine Lo (fun(v:UInt64×Int)=>(⟨Ao 18 [(2,u64 v.1),(5,.sl false (L cU8 (a.l.take 8))),(6,i64 ((a.l.take 8).length:Int)),(7,i64 v.2)],[]⟩:St)) (ws []) ?_;rintro⟨c,e⟩ q f g i;show B6 a c e=some f→_;unfold B6;refine T0 [2,5,6,7,8] ?_;refine Sq <|Cd ?_ ?_
  ·refine Sk <|Tn <|Sq <|Sb <|Ck fun j =>Lt fun k m =>Te (fr':=[(2,_),(4,u8 k),(5,_),(6,_),(7,_)]) [2,4,5,6,7] Aa (Ew2 (qR j) m) ?_
   refine Lt fun n o =>Fe (fr':=[(2,u64 n),(5,_),(6,_),(7,_)]) [2,5,6,7] Aa (Ew1 o) ?_
   refine Bn <|Tn <|F0 [2,5,6,7] ?_
   exact Ln (ws [])
  ·refine Sx <|Tx <|Ly i g <|Bx <|?_
   exact Jm ((ws (l':=[(2,u64 c)]) (σ':=[]) []).trans (ws []))
 intro b;refine T0 [2] ?_;exact Sr <|Rr
theorem HC{a b c r}(h:CQ a b c=some r):Con B 50 [u64 a,u64 b,.sl false (L cU8 c)] [] (fun r' σ'=>r'=u64 r∧σ'=[]):=by
 refine Cw 15 [.tmp 6] Tryz.func50 (fun F hE=>?_) h;unfold CQ;refine T0 [0,1,2] ?_;refine Bd fun j d =>Bd fun k e =>Bd fun f g =>?_
 have i:¬(1152921504606845399:UInt64)=0:=by decide
 refine Te [6] (Bt (l:=[(11,_,_,_),(12,_,_,_),(13,_,_,u64 f)]) ⟨Kg  d,Gi  e,I8  g,trivial⟩) (Ew1 i) ?_;exact Sr <|Rr
theorem Ua{a b r}(h:O0 a b=some r):Con B 60 [u64 a,.sl false (L cU8 b)] [] (fun r' σ'=>r'=.tup [.agg [u64 r.1.C,u64 r.1.S],i64 r.2]∧σ'=[]):=by
 refine Cw 45 [.cell 4 50,.tmp 5] Tryz.func60 (fun F hE=>?_) h;unfold O0;refine T0 [0,1,4] ?_;refine Bd fun x d =>Te [0,1,4,6,7] (o1 12 (Kd d)) Ev ?_
 refine Sq <|T0 [0,1,4,6,7,16] ?_
 refine Cd ?_ ?_
 ·refine T0 [4,5] ?_;exact Sr <|Tr <|Rr
 ·refine Sk <|Tn <|Sq <|T0 [0,1,4,6,21] ?_
  refine Cd ?_ ?_
  ·refine T0 [4,5] ?_;exact Sr <|Tr <|Rr
  ·refine Sk <|Tn <|Bd fun y e =>Bd fun z f =>Bd fun g i =>?_
   have j:¬(1152921504606845398:UInt64)=0:=by decide
   refine Lt fun k n =>Te (fr':=[(0,_),(1,_),(4,_),(6,_),(8,u64 k)]) [0,1,4,6,8] (Bt (l:=[(26,_,_,_),(27,_,_,_),(28,_,_,u64 g)]) ⟨Kg  e,Gi  f,I8  i,trivial⟩) (Ew2 j n) ?_
   refine Bd fun aa o =>Bd fun c p =>Te [0,4,8,9] (o2 32 (GG o) 35 (HC p)) Ev ?_
   refine Bd fun q s =>Bd fun ab t =>?_
   have u:¬(1152921504606845399:UInt64)=0:=by decide
   refine Lt fun v w =>Te (σ':=[.box [u64 c,u64 v] false,_,_]) [4,5] (Av (l:=[]) (m:=[(38,48,[u64 (1152921504606845399:UInt64)],[.box [u64 (0:UInt64),u64 (0:UInt64)] false,.buf 1 (L Ui ([a]:List UInt64)) true],_,_),(41,82,[u64 c,u64 a,.ref 2 0],[.box [u64 (0:UInt64),u64 (0:UInt64)] false,.buf 1 (L Ui ([a]:List UInt64)) true,.box [u64 q] false],_,_)]) trivial ⟨(wc (Hy s) []),(wc (EB t) [2]),trivial⟩) (Ew2 u w) ?_
   exact Sr <|Rr
theorem Iw{d r}(h:FB d=some r):Con B 101 [.agg (A1 d)] [] (fun r' σ'=>r'=.bool r∧σ'=[]):=by
 refine Cw 32 [.tmp 2] Tryz.func101 (fun F hE=>?_) h;unfold FB;refine T0 [1] ?_;refine Sq <|T0 [1,6] ?_
 refine Cd ?_ ?_
 ·refine T0 [2] ?_;exact Sr <|Tr <|Rr
 ·refine Sk <|Tn <|?_
  refine Tw [2] (fun e=>⟨Ao 32 [(2,.bool e)],[]⟩) ?_ ?_
  ·intro _;refine Sp (fun a=>?_) fun a=>?_
   ·refine Sp (fun b=>?_) fun b=>?_
    ·refine Sp (fun c=>?_) fun c=>?_
     ·exact Lf Aa (Ew3 a b c) (ws [])
     ·exact Lf Aa (Ew3 a b c) (ws [])
    ·exact Lf Aa (Ew2 a b) (ws [])
   ·exact Lf Aa (Ew1 a) (ws [])
  intro e;exact Sr <|Rr
theorem HX{a d e r}(h:C5 a d e=some r):Con B 150 [.ref 0 0,.ref 0 12,i64 d,i64 e] [.box (Ag a) false] (fun r' σ'=>r'=.tup []∧σ'=[.box (Ag r) false]):=by
 refine Co 1 31 [] Tryz.func150 (fun F hE=>?_) h;unfold C5;refine Tw [1] (fun f=>⟨Ao 31 [(1,.ref 0 12)],[.box [.sl false (L Am a.p.Zg1.Ze),.sl false (L Au a.p.Zg1.Zf),.sl false (L Ac a.p.Zh1.Zx),.sl false (L Af a.p.Zh1.Zy),.sl false (L Al a.p.Zh1.Zz),.sl false (L Ak a.p.Zh1.Za1),.sl false (L As a.p.Zi1),.sl false (L Ap a.p.Zj1),.sl false (L Ae a.p.Zk1),i64 a.it.Za,i64 a.it.Ref.Zb,i64 a.it.Ref.No,i64 a.it.Zn1,i64 a.it.Zb1,i64 a.it.Zc,i64 a.it.Zo1,i64 a.it.Zw,i64 a.it.To,i64 a.it.Code,i64 a.it.Zp1,i64 a.it.Zq1,i64 a.it.Zr1,i64 a.it.Zs1,.str a.it.Zt1,.sl false (L An a.it.Zu1),.bool f] false]⟩) ?_ ?_
 ·intro _;refine Sp (fun b=>?_) fun b=>?_
  ·refine Sp (fun c=>?_) fun c=>?_
   ·exact Lf Aa (Ew2 b c) (ws [0])
   ·exact Lf Aa (Ew2 b c) (ws [0])
  ·exact Lf Aa (Ew1 b) (ws [0])
 intro f;refine F0 [] ?_;exact Ro [0]
theorem Du{a d e r}(h:B5 a d e=some r):Con B 150 [.ref 0 0,.ref 0 14,i64 d,i64 e] [.box (Ag a) false] (fun r' σ'=>r'=.tup []∧σ'=[.box (Ag r) false]):=by
 refine Co 1 31 [] Tryz.func150 (fun F hE=>?_) h;unfold B5;refine Tw [1] (fun f=>⟨Ao 31 [(1,.ref 0 14)],[.box [.sl false (L Am a.p.Zg1.Ze),.sl false (L Au a.p.Zg1.Zf),.sl false (L Ac a.p.Zh1.Zx),.sl false (L Af a.p.Zh1.Zy),.sl false (L Al a.p.Zh1.Zz),.sl false (L Ak a.p.Zh1.Za1),.sl false (L As a.p.Zi1),.sl false (L Ap a.p.Zj1),.sl false (L Ae a.p.Zk1),i64 a.it.Za,i64 a.it.Ref.Zb,i64 a.it.Ref.No,i64 a.it.Zn1,i64 a.it.Zb1,i64 a.it.Zc,i64 a.it.Zo1,i64 a.it.Zw,i64 a.it.To,i64 a.it.Code,i64 a.it.Zp1,i64 a.it.Zq1,i64 a.it.Zr1,i64 a.it.Zs1,.str a.it.Zt1,.sl false (L An a.it.Zu1),.bool f] false]⟩) ?_ ?_
 ·intro _;refine Sp (fun b=>?_) fun b=>?_
  ·refine Sp (fun c=>?_) fun c=>?_
   ·exact Lf Aa (Ew2 b c) (ws [0])
   ·exact Lf Aa (Ew2 b c) (ws [0])
  ·exact Lf Aa (Ew1 b) (ws [0])
 intro f;refine F0 [] ?_;exact Ro [0]
theorem Dn{a d e r}(h:B4 a d e=some r):Con B 150 [.ref 0 0,.ref 0 15,i64 d,i64 e] [.box (Ag a) false] (fun r' σ'=>r'=.tup []∧σ'=[.box (Ag r) false]):=by
 refine Co 1 31 [] Tryz.func150 (fun F hE=>?_) h;unfold B4;refine Tw [1] (fun f=>⟨Ao 31 [(1,.ref 0 15)],[.box [.sl false (L Am a.p.Zg1.Ze),.sl false (L Au a.p.Zg1.Zf),.sl false (L Ac a.p.Zh1.Zx),.sl false (L Af a.p.Zh1.Zy),.sl false (L Al a.p.Zh1.Zz),.sl false (L Ak a.p.Zh1.Za1),.sl false (L As a.p.Zi1),.sl false (L Ap a.p.Zj1),.sl false (L Ae a.p.Zk1),i64 a.it.Za,i64 a.it.Ref.Zb,i64 a.it.Ref.No,i64 a.it.Zn1,i64 a.it.Zb1,i64 a.it.Zc,i64 a.it.Zo1,i64 a.it.Zw,i64 a.it.To,i64 a.it.Code,i64 a.it.Zp1,i64 a.it.Zq1,i64 a.it.Zr1,i64 a.it.Zs1,.str a.it.Zt1,.sl false (L An a.it.Zu1),.bool f] false]⟩) ?_ ?_
 ·intro _;refine Sp (fun b=>?_) fun b=>?_
  ·refine Sp (fun c=>?_) fun c=>?_
   ·exact Lf Aa (Ew2 b c) (ws [0])
   ·exact Lf Aa (Ew2 b c) (ws [0])
  ·exact Lf Aa (Ew1 b) (ws [0])
 intro f;refine F0 [] ?_;exact Ro [0]
theorem HR{a d e r}(h:CB a d e=some r):Con B 150 [.ref 0 0,.ref 0 16,i64 d,i64 e] [.box (Ag a) false] (fun r' σ'=>r'=.tup []∧σ'=[.box (Ag r) false]):=by
 refine Co 1 31 [] Tryz.func150 (fun F hE=>?_) h;unfold CB;refine Tw [1] (fun f=>⟨Ao 31 [(1,.ref 0 16)],[.box [.sl false (L Am a.p.Zg1.Ze),.sl false (L Au a.p.Zg1.Zf),.sl false (L Ac a.p.Zh1.Zx),.sl false (L Af a.p.Zh1.Zy),.sl false (L Al a.p.Zh1.Zz),.sl false (L Ak a.p.Zh1.Za1),.sl false (L As a.p.Zi1),.sl false (L Ap a.p.Zj1),.sl false (L Ae a.p.Zk1),i64 a.it.Za,i64 a.it.Ref.Zb,i64 a.it.Ref.No,i64 a.it.Zn1,i64 a.it.Zb1,i64 a.it.Zc,i64 a.it.Zo1,i64 a.it.Zw,i64 a.it.To,i64 a.it.Code,i64 a.it.Zp1,i64 a.it.Zq1,i64 a.it.Zr1,i64 a.it.Zs1,.str a.it.Zt1,.sl false (L An a.it.Zu1),.bool f] false]⟩) ?_ ?_
 ·intro _;refine Sp (fun b=>?_) fun b=>?_
  ·refine Sp (fun c=>?_) fun c=>?_
   ·exact Lf Aa (Ew2 b c) (ws [0])
   ·exact Lf Aa (Ew2 b c) (ws [0])
  ·exact Lf Aa (Ew1 b) (ws [0])
 intro f;refine F0 [] ?_;exact Ro [0]
theorem HT{a d e r}(h:C7 a d e=some r):Con B 150 [.ref 0 0,.ref 0 17,i64 d,i64 e] [.box (Ag a) false] (fun r' σ'=>r'=.tup []∧σ'=[.box (Ag r) false]):=by
 refine Co 1 31 [] Tryz.func150 (fun F hE=>?_) h;unfold C7;refine Tw [1] (fun f=>⟨Ao 31 [(1,.ref 0 17)],[.box [.sl false (L Am a.p.Zg1.Ze),.sl false (L Au a.p.Zg1.Zf),.sl false (L Ac a.p.Zh1.Zx),.sl false (L Af a.p.Zh1.Zy),.sl false (L Al a.p.Zh1.Zz),.sl false (L Ak a.p.Zh1.Za1),.sl false (L As a.p.Zi1),.sl false (L Ap a.p.Zj1),.sl false (L Ae a.p.Zk1),i64 a.it.Za,i64 a.it.Ref.Zb,i64 a.it.Ref.No,i64 a.it.Zn1,i64 a.it.Zb1,i64 a.it.Zc,i64 a.it.Zo1,i64 a.it.Zw,i64 a.it.To,i64 a.it.Code,i64 a.it.Zp1,i64 a.it.Zq1,i64 a.it.Zr1,i64 a.it.Zs1,.str a.it.Zt1,.sl false (L An a.it.Zu1),.bool f] false]⟩) ?_ ?_
 ·intro _;refine Sp (fun b=>?_) fun b=>?_
  ·refine Sp (fun c=>?_) fun c=>?_
   ·exact Lf Aa (Ew2 b c) (ws [0])
   ·exact Lf Aa (Ew2 b c) (ws [0])
  ·exact Lf Aa (Ew1 b) (ws [0])
 intro f;refine F0 [] ?_;exact Ro [0]
theorem Cx{a d e r}(h:Bl a d e=some r):Con B 150 [.ref 0 0,.ref 0 18,i64 d,i64 e] [.box (Ag a) false] (fun r' σ'=>r'=.tup []∧σ'=[.box (Ag r) false]):=by
 refine Co 1 31 [] Tryz.func150 (fun F hE=>?_) h;unfold Bl;refine Tw [1] (fun f=>⟨Ao 31 [(1,.ref 0 18)],[.box [.sl false (L Am a.p.Zg1.Ze),.sl false (L Au a.p.Zg1.Zf),.sl false (L Ac a.p.Zh1.Zx),.sl false (L Af a.p.Zh1.Zy),.sl false (L Al a.p.Zh1.Zz),.sl false (L Ak a.p.Zh1.Za1),.sl false (L As a.p.Zi1),.sl false (L Ap a.p.Zj1),.sl false (L Ae a.p.Zk1),i64 a.it.Za,i64 a.it.Ref.Zb,i64 a.it.Ref.No,i64 a.it.Zn1,i64 a.it.Zb1,i64 a.it.Zc,i64 a.it.Zo1,i64 a.it.Zw,i64 a.it.To,i64 a.it.Code,i64 a.it.Zp1,i64 a.it.Zq1,i64 a.it.Zr1,i64 a.it.Zs1,.str a.it.Zt1,.sl false (L An a.it.Zu1),.bool f] false]⟩) ?_ ?_
 ·intro _;refine Sp (fun b=>?_) fun b=>?_
  ·refine Sp (fun c=>?_) fun c=>?_
   ·exact Lf Aa (Ew2 b c) (ws [0])
   ·exact Lf Aa (Ew2 b c) (ws [0])
  ·exact Lf Aa (Ew1 b) (ws [0])
 intro f;refine F0 [] ?_;exact Ro [0]
theorem Ia{a d e r}(h:CA a d e=some r):Con B 150 [.ref 0 0,.ref 0 19,i64 d,i64 e] [.box (Ag a) false] (fun r' σ'=>r'=.tup []∧σ'=[.box (Ag r) false]):=by
 refine Co 1 31 [] Tryz.func150 (fun F hE=>?_) h;unfold CA;refine Tw [1] (fun f=>⟨Ao 31 [(1,.ref 0 19)],[.box [.sl false (L Am a.p.Zg1.Ze),.sl false (L Au a.p.Zg1.Zf),.sl false (L Ac a.p.Zh1.Zx),.sl false (L Af a.p.Zh1.Zy),.sl false (L Al a.p.Zh1.Zz),.sl false (L Ak a.p.Zh1.Za1),.sl false (L As a.p.Zi1),.sl false (L Ap a.p.Zj1),.sl false (L Ae a.p.Zk1),i64 a.it.Za,i64 a.it.Ref.Zb,i64 a.it.Ref.No,i64 a.it.Zn1,i64 a.it.Zb1,i64 a.it.Zc,i64 a.it.Zo1,i64 a.it.Zw,i64 a.it.To,i64 a.it.Code,i64 a.it.Zp1,i64 a.it.Zq1,i64 a.it.Zr1,i64 a.it.Zs1,.str a.it.Zt1,.sl false (L An a.it.Zu1),.bool f] false]⟩) ?_ ?_
 ·intro _;refine Sp (fun b=>?_) fun b=>?_
  ·refine Sp (fun c=>?_) fun c=>?_
   ·exact Lf Aa (Ew2 b c) (ws [0])
   ·exact Lf Aa (Ew2 b c) (ws [0])
  ·exact Lf Aa (Ew1 b) (ws [0])
 intro f;refine F0 [] ?_;exact Ro [0]
theorem HV{a d e r}(h:C6 a d e=some r):Con B 150 [.ref 0 0,.ref 0 20,i64 d,i64 e] [.box (Ag a) false] (fun r' σ'=>r'=.tup []∧σ'=[.box (Ag r) false]):=by
 refine Co 1 31 [] Tryz.func150 (fun F hE=>?_) h;unfold C6;refine Tw [1] (fun f=>⟨Ao 31 [(1,.ref 0 20)],[.box [.sl false (L Am a.p.Zg1.Ze),.sl false (L Au a.p.Zg1.Zf),.sl false (L Ac a.p.Zh1.Zx),.sl false (L Af a.p.Zh1.Zy),.sl false (L Al a.p.Zh1.Zz),.sl false (L Ak a.p.Zh1.Za1),.sl false (L As a.p.Zi1),.sl false (L Ap a.p.Zj1),.sl false (L Ae a.p.Zk1),i64 a.it.Za,i64 a.it.Ref.Zb,i64 a.it.Ref.No,i64 a.it.Zn1,i64 a.it.Zb1,i64 a.it.Zc,i64 a.it.Zo1,i64 a.it.Zw,i64 a.it.To,i64 a.it.Code,i64 a.it.Zp1,i64 a.it.Zq1,i64 a.it.Zr1,i64 a.it.Zs1,.str a.it.Zt1,.sl false (L An a.it.Zu1),.bool f] false]⟩) ?_ ?_
 ·intro _;refine Sp (fun b=>?_) fun b=>?_
  ·refine Sp (fun c=>?_) fun c=>?_
   ·exact Lf Aa (Ew2 b c) (ws [0])
   ·exact Lf Aa (Ew2 b c) (ws [0])
  ·exact Lf Aa (Ew1 b) (ws [0])
 intro f;refine F0 [] ?_;exact Ro [0]
theorem EX{a d e r}(h:BM a d e=some r):Con B 150 [.ref 0 0,.ref 0 21,i64 d,i64 e] [.box (Ag a) false] (fun r' σ'=>r'=.tup []∧σ'=[.box (Ag r) false]):=by
 refine Co 1 31 [] Tryz.func150 (fun F hE=>?_) h;unfold BM;refine Tw [1] (fun f=>⟨Ao 31 [(1,.ref 0 21)],[.box [.sl false (L Am a.p.Zg1.Ze),.sl false (L Au a.p.Zg1.Zf),.sl false (L Ac a.p.Zh1.Zx),.sl false (L Af a.p.Zh1.Zy),.sl false (L Al a.p.Zh1.Zz),.sl false (L Ak a.p.Zh1.Za1),.sl false (L As a.p.Zi1),.sl false (L Ap a.p.Zj1),.sl false (L Ae a.p.Zk1),i64 a.it.Za,i64 a.it.Ref.Zb,i64 a.it.Ref.No,i64 a.it.Zn1,i64 a.it.Zb1,i64 a.it.Zc,i64 a.it.Zo1,i64 a.it.Zw,i64 a.it.To,i64 a.it.Code,i64 a.it.Zp1,i64 a.it.Zq1,i64 a.it.Zr1,i64 a.it.Zs1,.str a.it.Zt1,.sl false (L An a.it.Zu1),.bool f] false]⟩) ?_ ?_
 ·intro _;refine Sp (fun b=>?_) fun b=>?_
  ·refine Sp (fun c=>?_) fun c=>?_
   ·exact Lf Aa (Ew2 b c) (ws [0])
   ·exact Lf Aa (Ew2 b c) (ws [0])
  ·exact Lf Aa (Ew1 b) (ws [0])
 intro f;refine F0 [] ?_;exact Ro [0]
theorem EU{a d e r}(h:BO a d e=some r):Con B 150 [.ref 0 0,.ref 0 22,i64 d,i64 e] [.box (Ag a) false] (fun r' σ'=>r'=.tup []∧σ'=[.box (Ag r) false]):=by
 refine Co 1 31 [] Tryz.func150 (fun F hE=>?_) h;unfold BO;refine Tw [1] (fun f=>⟨Ao 31 [(1,.ref 0 22)],[.box [.sl false (L Am a.p.Zg1.Ze),.sl false (L Au a.p.Zg1.Zf),.sl false (L Ac a.p.Zh1.Zx),.sl false (L Af a.p.Zh1.Zy),.sl false (L Al a.p.Zh1.Zz),.sl false (L Ak a.p.Zh1.Za1),.sl false (L As a.p.Zi1),.sl false (L Ap a.p.Zj1),.sl false (L Ae a.p.Zk1),i64 a.it.Za,i64 a.it.Ref.Zb,i64 a.it.Ref.No,i64 a.it.Zn1,i64 a.it.Zb1,i64 a.it.Zc,i64 a.it.Zo1,i64 a.it.Zw,i64 a.it.To,i64 a.it.Code,i64 a.it.Zp1,i64 a.it.Zq1,i64 a.it.Zr1,i64 a.it.Zs1,.str a.it.Zt1,.sl false (L An a.it.Zu1),.bool f] false]⟩) ?_ ?_
 ·intro _;refine Sp (fun b=>?_) fun b=>?_
  ·refine Sp (fun c=>?_) fun c=>?_
   ·exact Lf Aa (Ew2 b c) (ws [0])
   ·exact Lf Aa (Ew2 b c) (ws [0])
  ·exact Lf Aa (Ew1 b) (ws [0])
 intro f;refine F0 [] ?_;exact Ro [0]
theorem E9{a r}(h:CT a=some r):Con B 149 [.ref 0 0] [.box (Ag a) false] (fun r' σ'=>r'=.tup []∧σ'=[.box (Ag r) false]):=by
 refine Co 1 16 [] Tryz.func149 (fun F hE=>?_) h;unfold CT;refine Bd fun c b =>Ge [[],[],[1],[1,2],[1,2,3],[],[5],[5,6],[5,6,7],[5,6,7,8],[5,6,7,8,9],[5,6,7,8,9,10],[5,6,7,8,9,10,11],[0,1,2,3,4,5,6,7,8,9,10,11,12]] [] (Av (l:=[]) (m:=[(15,150,[.ref 0 0,.ref 0 12,i64 0,i64 (w64 ((a.p.Zh1.Zy.length:Int)-1))],[.box (Ag a) false],_,_)]) trivial ⟨(wc (HX b) [0]),trivial⟩) Ev ?_
 exact Ro [0]
theorem BD{a r}(h:B7 a=some r):Con B 151 [.ref 0 0] [.box (Ag a) false] (fun r' σ'=>r'=.tup []∧σ'=[.box (Ag r) false]):=by
 refine Co 1 8 [] Tryz.func151 (fun F hE=>?_) h;unfold B7;refine Bd fun c b =>Fe [] (Av (l:=[]) (m:=[(7,150,[.ref 0 0,.ref 0 16,i64 0,i64 1073741824],[.box (Ag a) false],_,_)]) trivial ⟨(wc (HR b) [0]),trivial⟩) Ev ?_
 exact Ro [0]
theorem BK{a c r}(h:Bv a c=some r):Con B 152 [.ref 0 0,i64 c] [.box (Ag a) false] (fun r' σ'=>r'=.agg [i64 r.1.Za,i64 r.1.Zb,i64 r.1.Zc]∧σ'=[.box (Ag r.2) false]):=by
 refine Co 1 66 [.cell 4 120] Tryz.func152 (fun F hE=>?_) h;unfold Bv;refine T0 [0,1,4] ?_;refine Ja (fun⟨e,f,g⟩=>⟨Ao 66 [(0,.ref 0 0),(1,i64 c),(4,.ref 1 0)],[.box (Ag a) false,.box [i64 e,i64 f,i64 g] false]⟩) ?_ ?_
 ·intro v;refine Dw [[],[0],[0,1],[0,1,2],[0,1,2,3],[0,1,2,3,4],[0,1,2,3,4,5],[0,1,2,3,4,5,6],[0,1,2,3,4,5,6,7],[0,1,2,3,4,5,6,7,8],[0,1,2,3,4,5,6,7,8,9],[0,1,2,3,4,5,6,7,8,9,10],[0,1,2,3,4,5,6],[0,1,2,3,4,5,6,12],[0,1,2,3,4,5,6,12,13],[0,1,2,3,4,5,6,12,13,14],[0,1,2,3,4,5,6,12,13,14,15],[0,1,2,3,4,5,6,12,13,14,15,16],[0,1,2,3,4,5,6,12,13,14,15,16,17],[0,1,2,3,4,5,6,7,8,9,10,11,12,13,14,15,16,17,18],[0,1,2,3,4,5,6,7,8,9,10,11,12,13,14,15,16,17,18,19]] [0,1,4,25] (fun k=>⟨Ao 66 [(0,.ref 0 0),(1,i64 c),(4,.ref 1 0),(25,.bool k)],[.box (Ag a) false,.box [i64 0,i64 0,i64 0] false]⟩) ?_ ?_
  ·intro _;refine Sp (fun i=>?_) fun i=>?_
   ·exact Lf Aa (Ew1 i) (ws [0,1])
   ·exact Lf Aa (Ew1 i) (ws [0,1])
  intro k;refine Cd ?_ ?_
  ·refine Ck fun m =>Lt fun n o =>Lt fun q s =>Lt fun t u =>Ge (σ':=[_,.box [i64 n,i64 q,i64 t] false]) [[],[0],[0,1],[0,1,2],[0,1,2,3],[0,1,2,3,4],[],[6],[6,7],[6,7,8],[6,7,8,9],[0,1,2,3,4,5,6,7,8,9,10],[0,1,2,3,4,5,6,7,8,9,10,11],[0,1,2,3,4,5,6,7,8,9,10,11,12]] [0,1,4] Aa (Ew4 (qR m) o s u) ?_
   exact Jm (ws [0,1])
  ·exact Sk <|Jm (ws [0,1])
 rintro⟨e,f,g⟩;refine Tw [0,4] (fun l=>⟨Ao 66 [(0,.ref 0 0),(4,.ref 1 0)],[.box [.sl false (L Am a.p.Zg1.Ze),.sl false (L Au a.p.Zg1.Zf),.sl false (L Ac a.p.Zh1.Zx),.sl false (L Af a.p.Zh1.Zy),.sl false (L Al a.p.Zh1.Zz),.sl false (L Ak a.p.Zh1.Za1),.sl false (L As a.p.Zi1),.sl false (L Ap a.p.Zj1),.sl false (L Ae a.p.Zk1),i64 a.it.Za,i64 a.it.Ref.Zb,i64 a.it.Ref.No,i64 a.it.Zn1,i64 a.it.Zb1,i64 a.it.Zc,i64 a.it.Zo1,i64 a.it.Zw,i64 a.it.To,i64 a.it.Code,i64 a.it.Zp1,i64 a.it.Zq1,i64 a.it.Zr1,i64 a.it.Zs1,.str a.it.Zt1,.sl false (L An a.it.Zu1),.bool l] false,.box [i64 e,i64 f,i64 g] false]⟩) ?_ ?_
 ·intro _;refine Sp (fun b=>?_) fun b=>?_
  ·refine Sp (fun d=>?_) fun d=>?_
   ·refine Sp (fun j=>?_) fun j=>?_
    ·exact Lf Aa (Ew3 b d j) (ws [0,1])
    ·exact Lf Aa (Ew3 b d j) (ws [0,1])
   ·exact Lf Aa (Ew2 b d) (ws [0,1])
  ·exact Lf Aa (Ew1 b) (ws [0,1])
 intro l;refine T0 [4] ?_;refine T0 [4] ?_;exact Sr <|Ro [0]
theorem EO{a r}(h:Da a=some r):Con B 153 [.ref 0 0] [.box (Ag a) false] (fun r' σ'=>r'=.tup []∧σ'=[.box (Ag r) false]):=by
 refine Co 1 16 [] Tryz.func153 (fun F hE=>?_) h;unfold Da;refine Bd fun b c =>De [[],[],[1],[1,2],[1,2,3],[],[5],[5,6],[5,6,7],[5,6,7,8],[5,6,7,8,9],[0,1,2,3,4,5,6,7,8,9,10]] [0] (Av (l:=[]) (m:=[(13,150,[.ref 0 0,.ref 0 17,i64 (J6 a.it.Zw 0),i64 1073741824],[.box (Ag a) false],_,_)]) trivial ⟨(wc (HT c) [0]),trivial⟩) Ev ?_
 refine Bd fun e d =>Fe [] (Av (l:=[]) (m:=[(15,151,[.ref 0 0],[.box (Ag b) false],_,_)]) trivial ⟨(wc (BD d) [0]),trivial⟩) Ev ?_
 exact Ro [0]
theorem DK{a r}(h:Cq a=some r):Con B 154 [.ref 0 0] [.box (Ag a) false] (fun r' σ'=>r'=.tup []∧σ'=[.box (Ag r) false]):=by
 refine Co 1 15 [] Tryz.func154 (fun F hE=>?_) h;unfold Cq;refine Bd fun c b =>Ge [[],[],[1],[1,2],[1,2,3],[],[5],[5,6],[5,6,7],[5,6,7,8],[5,6,7,8,9],[5,6,7,8,9,10],[0,1,2,3,4,5,6,7,8,9,10,11]] [] (Av (l:=[]) (m:=[(14,150,[.ref 0 0,.ref 0 14,i64 0,i64 (w64 ((a.p.Zj1.length:Int)-1))],[.box (Ag a) false],_,_)]) trivial ⟨(wc (Du b) [0]),trivial⟩) Ev ?_
 exact Ro [0]
theorem G4{a r}(h:D5 a=some r):Con B 155 [.ref 0 0] [.box (Ag a) false] (fun r' σ'=>r'=.tup []∧σ'=[.box (Ag r) false]):=by
 refine Co 1 8 [] Tryz.func155 (fun F hE=>?_) h;unfold D5;refine Bd fun c b =>Fe [] (Av (l:=[]) (m:=[(7,150,[.ref 0 0,.ref 0 20,i64 0,i64 63],[.box (Ag a) false],_,_)]) trivial ⟨(wc (HV b) [0]),trivial⟩) Ev ?_
 exact Ro [0]
theorem Ir{d r}(h:CI d=some r):Con B 130 [.ref 0 0] [.box (Ag d) false] (fun r' σ'=>r'=.tup []∧σ'=[.box (Ag r) false]):=by
 refine Co 1 135 [] Tryz.func130 (fun F hE=>?_) h;unfold CI;refine T0 [0,2] ?_;refine Sq <|T0 [0,2,11] ?_
 refine Cd ?_ ?_
 ·refine T0 [] ?_;exact Sr <|Tr <|Ro [0]
 ·refine Sk <|Tn <|Bd fun b k =>Te [0,2] (Av (l:=[]) (m:=[(16,149,[.ref 0 0],[.box (Ag d) false],_,_)]) trivial ⟨(wc (E9 k) [0]),trivial⟩) Ev ?_
  refine T0 [0,2,20] ?_;refine Sb <|T0 [0,2,20,21] ?_
  refine Cd ?_ ?_
  ·refine Bd fun n o =>De [[],[],[1],[1,2],[],[4],[4,5],[4,5,6],[4,5,6,7],[4,5,6,7,8],[4,5,6,7,8,9],[0,1,2,3,4,5,6,7,8,9,10]] [0] (Av (l:=[]) (m:=[(34,150,[.ref 0 0,.ref 0 14,i64 0,i64 (w64 ((b.p.Zi1.length:Int)-1))],[.box (Ag b) false],_,_)]) trivial ⟨(wc (Du o) [0]),trivial⟩) Ev ?_
   refine Bd fun au q =>Fe [] (Av (l:=[]) (m:=[(36,151,[.ref 0 0],[.box (Ag n) false],_,_)]) trivial ⟨(wc (BD q) [0]),trivial⟩) Ev ?_
   exact Bn <|Ro [0]
  ·refine T0 [0,2,20,37] ?_;refine Cd ?_ ?_
   ·refine Bd fun s t =>Te [0] (Av (l:=[]) (m:=[(40,152,[.ref 0 0,i64 0],[.box (Ag b) false],_,_)]) trivial ⟨(wc (BK t) [0]),trivial⟩) Ev ?_
    refine Bd fun av u =>Fe [] (Av (l:=[]) (m:=[(42,153,[.ref 0 0],[.box (Ag s.2) false],_,_)]) trivial ⟨(wc (EO u) [0]),trivial⟩) Ev ?_
    exact Bn <|Ro [0]
   ·refine Ja (fun g=>⟨Ao 135 [(0,.ref 0 0),(2,.ref 0 9),(20,i64 b.it.Za),(43,.bool g)],[.box (Ag b) false]⟩) ?_ ?_
    ·intro aw;refine T0 [0,2,20,43] ?_;refine Cd ?_ ?_
     ·exact Sk <|Jm (ws [0])
     ·refine F0 [0,2,20,43] ?_;exact Jm (ws [0])
    intro g;refine Cd ?_ ?_
    ·refine Bd fun a v =>Te [0,2,3] (Av (l:=[]) (m:=[(47,152,[.ref 0 0,i64 3],[.box (Ag b) false],_,_)]) trivial ⟨(wc (BK v) [0]),trivial⟩) Ev ?_
     refine Dw [[],[],[1],[1,2],[1,2,3],[1,2,3,4],[1,2,3,4,5],[1,2,3,4,5,6],[1,2,3,4,5,6,7],[1,2,3,4,5,6,7,8],[1,2,3,4,5],[1,2,3,4,5,10],[1,2,3,4,5,6,7,8,9,10,11],[1,2,3,4,5,6,7,8,9,10,11,12],[1,2,3,4,5,6,7,8,9,10,11,12,13],[1,2,3,4,5,6,7,8,9,10,11,12,13,14],[1,2,3,4,5,6,7,8,9,10,11,12,13,14,15],[1,2,3,4,5,6,7,8,9,10,11,12,13,14,15,16],[1,2,3,4,5,6,7,8,9,10,11,12,13],[1,2,3,4,5,6,7,8,9,10,11,12,13,18],[1,2,3,4,5,6,7,8,9,10,11,12,13,14,15,16,17,18,19],[1,2,3,4,5,6,7,8,9,10,11,12,13,14,15,16,17,18,19,20],[1,2,3,4,5,6,7,8,9,10,11,12,13,14,15,16,17,18,19,20,21],[0,1,2,3,4,5,6,7,8,9,10,11,12,13,14,15,16,17,18,19,20,21,22],[0,1,2,3,4,5,6,7,8,9,10,11,12,13,14,15,16,17,18,19,20,21,22,23],[0,1,2,3,4,5,6,7,8,9,10,11,12,13,14,15,16,17,18,19,20,21,22,23,24]] [0,2] (fun e=>⟨Ao 135 [(0,.ref 0 0),(2,.ref 0 9)],[.box [.sl false (L Am a.2.p.Zg1.Ze),.sl false (L Au a.2.p.Zg1.Zf),.sl false (L Ac a.2.p.Zh1.Zx),.sl false (L Af a.2.p.Zh1.Zy),.sl false (L Al a.2.p.Zh1.Zz),.sl false (L Ak a.2.p.Zh1.Za1),.sl false (L As a.2.p.Zi1),.sl false (L Ap a.2.p.Zj1),.sl false (L Ae a.2.p.Zk1),i64 a.2.it.Za,i64 a.2.it.Ref.Zb,i64 a.2.it.Ref.No,i64 a.2.it.Zn1,i64 a.2.it.Zb1,i64 a.2.it.Zc,i64 a.2.it.Zo1,i64 a.2.it.Zw,i64 a.2.it.To,i64 a.2.it.Code,i64 a.2.it.Zp1,i64 a.2.it.Zq1,i64 a.2.it.Zr1,i64 a.2.it.Zs1,.str a.2.it.Zt1,.sl false (L An a.2.it.Zu1),.bool e] false]⟩) ?_ ?_
     ·intro _;refine Sp (fun c=>?_) fun c=>?_
      ·refine Sp (fun f=>?_) fun f=>?_
       ·exact Lf Aa (Ew2 c f) (ws [0])
       ·exact Lf Aa (Ew2 c f) (ws [0])
      ·exact Lf Aa (Ew1 c) (ws [0])
     intro e;refine T0 [0,2] ?_;refine Bd fun w x =>Te [0,2] (Av (l:=[]) (m:=[(77,151,[.ref 0 0],[.box [.sl false (L Am a.2.p.Zg1.Ze),.sl false (L Au a.2.p.Zg1.Zf),.sl false (L Ac a.2.p.Zh1.Zx),.sl false (L Af a.2.p.Zh1.Zy),.sl false (L Al a.2.p.Zh1.Zz),.sl false (L Ak a.2.p.Zh1.Za1),.sl false (L As a.2.p.Zi1),.sl false (L Ap a.2.p.Zj1),.sl false (L Ae a.2.p.Zk1),i64 a.2.it.Za,i64 a.2.it.Ref.Zb,i64 a.2.it.Ref.No,i64 a.2.it.Zn1,i64 a.2.it.Zb1,i64 0,i64 a.2.it.Zo1,i64 a.2.it.Zw,i64 a.2.it.To,i64 a.2.it.Code,i64 a.2.it.Zp1,i64 a.2.it.Zq1,i64 a.2.it.Zr1,i64 a.2.it.Zs1,.str a.2.it.Zt1,.sl false (L An a.2.it.Zu1),.bool e] false],_,_)]) trivial ⟨(wc (BD x) [0]),trivial⟩) Ev ?_
     refine Bd fun ax y =>Fe [] (Av (l:=[]) (m:=[(82,150,[.ref 0 0,.ref 0 18,i64 0,i64 8],[.box (Ag w) false],_,_)]) trivial ⟨(wc (Cx y) [0]),trivial⟩) Ev ?_
     exact Bn <|Ro [0]
    ·refine T0 [0,2,20,83] ?_;refine Cd ?_ ?_
     ·refine Bd fun z aa =>Te [0,2] (Av (l:=[]) (m:=[(89,150,[.ref 0 0,.ref 0 15,i64 1,i64 1000000000],[.box (Ag b) false],_,_)]) trivial ⟨(wc (Dn aa) [0]),trivial⟩) Ev ?_
      refine Bd fun ab ac =>Te [0,2] (Av (l:=[]) (m:=[(91,154,[.ref 0 0],[.box (Ag z) false],_,_)]) trivial ⟨(wc (DK ac) [0]),trivial⟩) Ev ?_
      refine Bd fun i ad =>Te [0,2] (Av (l:=[]) (m:=[(93,152,[.ref 0 0,i64 0],[.box (Ag ab) false],_,_)]) trivial ⟨(wc (BK ad) [0]),trivial⟩) Ev ?_
      refine Bd fun ae af =>De [[],[],[1],[1,2],[],[4],[4,5],[4,5,6],[4,5,6,7],[4,5,6,7,8],[4,5,6,7,8,9],[4,5,6,7,8,9,10],[0,1,2,3,4,5,6,7,8,9,10,11]] [0,2] (Av (l:=[]) (m:=[(106,150,[.ref 0 0,.ref 0 19,i64 0,i64 (w64 ((i.2.p.Zg1.Ze.length:Int)-1))],[.box (Ag i.2) false],_,_)]) trivial ⟨(wc (Ia af) [0]),trivial⟩) Ev ?_
      refine Bd fun ag ah =>Te [0,2] (Av (l:=[]) (m:=[(108,155,[.ref 0 0],[.box (Ag ae) false],_,_)]) trivial ⟨(wc (G4 ah) [0]),trivial⟩) Ev ?_
      refine Bd fun ai aj =>Te [0] (Av (l:=[]) (m:=[(113,150,[.ref 0 0,.ref 0 21,i64 0,i64 1000000],[.box (Ag ag) false],_,_)]) trivial ⟨(wc (EX aj) [0]),trivial⟩) Ev ?_
      refine Bd fun ay ak =>Fe [] (Av (l:=[]) (m:=[(115,151,[.ref 0 0],[.box (Ag ai) false],_,_)]) trivial ⟨(wc (BD ak) [0]),trivial⟩) Ev ?_
      exact Bn <|Ro [0]
     ·refine Ja (fun j=>⟨Ao 135 [(0,.ref 0 0),(2,.ref 0 9),(116,.bool j)],[.box (Ag b) false]⟩) ?_ ?_
      ·intro az;refine T0 [0,2,20,116] ?_;refine Cd ?_ ?_
       ·exact Sk <|Jm (ws [0])
       ·refine F0 [0,2,116] ?_;exact Jm (ws [0])
      intro j;refine Cd ?_ ?_
      ·refine Bd fun al am =>Te [0,2] (Av (l:=[]) (m:=[(120,152,[.ref 0 0,i64 0],[.box (Ag b) false],_,_)]) trivial ⟨(wc (BK am) [0]),trivial⟩) Ev ?_
       refine Bd fun an ao =>Te [0,2] (Av (l:=[]) (m:=[(122,154,[.ref 0 0],[.box (Ag al.2) false],_,_)]) trivial ⟨(wc (DK ao) [0]),trivial⟩) Ev ?_
       refine Bd fun ap aq =>Te [0,2] (Av (l:=[]) (m:=[(124,151,[.ref 0 0],[.box (Ag an) false],_,_)]) trivial ⟨(wc (BD aq) [0]),trivial⟩) Ev ?_
       refine T0 [0,2,129] ?_;refine Cd ?_ ?_
       ·refine Bd fun aA ar =>Fe [] (Av (l:=[]) (m:=[(134,150,[.ref 0 0,.ref 0 18,i64 0,i64 1],[.box (Ag ap) false],_,_)]) trivial ⟨(wc (Cx ar) [0]),trivial⟩) Ev ?_
        exact Bn <|Ro [0]
       ·exact Sk <|Bn <|Ro [0]
      ·exact Sk <|Bn <|Ro [0]
theorem L4{a g r}(h:Ip a g=some r):Con B 156 [.sl false (L An a),.bool g] [] (fun r' σ'=>r'=.bool r∧σ'=[]):=by
 refine Cw 43 [.tmp 4] Tryz.func156 (fun F hE=>?_) h;unfold Ip;refine T0 [0,1] ?_;refine Jo (fun _=>⟨Ao 43 [(0,.sl false (L An a))],[]⟩) ?_ ?_
 ·intro w m;refine T0 [0,1,7,8,9] ?_;refine Sb ?_;refine Lo (fun i=>⟨Ao 43 [(0,.sl false (L An a)),(1,.bool g),(7,.sl false (L An a)),(8,i64 (a.length:Int)),(9,i64 i)],[]⟩) (ws []) ?_;rintro i x n j k;show DX a g i=some n→_;unfold DX;refine T0 [0,1,7,8,9,10] ?_;refine Sq <|Cd ?_ ?_
  ·refine Sk <|Tn <|Sq <|Sb <|Ck fun o =>Lt fun p q =>Lt fun s t =>Lt fun u v =>Te (σ':=[.box [i64 p,i64 s,.bool u] false]) [0,1,6,7,8,9] Aa (Ew4 (qR o) q t v) ?_
   refine Tw [0,1,7,8,9,38] (fun l=>⟨Ao 43 [(0,.sl false (L An a)),(1,.bool g),(7,.sl false (L An a)),(8,i64 (a.length:Int)),(9,i64 i),(38,.bool l)],[]⟩) ?_ ?_
   ·intro _;refine Sp (fun b=>?_) fun b=>?_
    ·exact Lf Aa (Ew1 b) (ws [])
    ·refine Sp (fun c=>?_) fun c=>?_
     ·exact Lf Aa (Ew2 b c) (ws [])
     ·refine Sp (fun d=>?_) fun d=>?_
      ·exact Lf Aa (Ew3 b c d) (ws [])
      ·refine Sp (fun e=>?_) fun e=>?_
       ·exact Lf Aa (Ew4 b c d e) (ws [])
       ·refine Sp (fun f=>?_) fun f=>?_
        ·exact Lf Aa (Ew5 b c d e f) (ws [] (by simp only[go_sem,b,c,d,e,f]) (by simp only[go_sem,b,c,d,e,f]))
        ·exact Lf Aa (Ew5 b c d e f) (ws [] (by simp only[go_sem,b,c,d,e,f]) (by simp only[go_sem,b,c,d,e,f]))
   intro l;refine Cd ?_ ?_
   ·refine T0 [4] ?_;exact Sr <|Br <|Tr <|Lr k j <|Br <|Jr m <|Rr
   ·refine Sk <|Bn <|Tn <|F0 [0,1,7,8,9] ?_
    exact Ln (ws [])
  ·refine Sx <|Tx <|Lx k j <|Bx <|?_
   exact Jn ((ws (l':=[(0,.sl false (L An a))]) (σ':=[]) []).trans (ws []))
 intro _;refine T0 [4] ?_;exact Sr <|Rr
theorem Ki{d r}(h:D7 d=some r):Con B 131 [.ref 0 0] [.box (Ag d) false] (fun r' σ'=>r'=.tup []∧σ'=[.box (Ag r) false]):=by
 refine Co 1 168 [] Tryz.func131 (fun F hE=>?_) h;unfold D7;refine T0 [0,2] ?_;refine T0 [0,2,9] ?_;refine Sb <|T0 [0,2,9,13] ?_
 refine Cd ?_ ?_
 ·refine Bd fun t u =>Te [0,2] (Av (l:=[]) (m:=[(16,149,[.ref 0 0],[.box (Ag d) false],_,_)]) trivial ⟨(wc (E9 u) [0]),trivial⟩) Ev ?_
  refine Bd fun v w =>Te [0,2] (Av (l:=[]) (m:=[(18,151,[.ref 0 0],[.box (Ag t) false],_,_)]) trivial ⟨(wc (BD w) [0]),trivial⟩) Ev ?_
  refine Bd fun aB x =>Fe [] (Av (l:=[]) (m:=[(23,150,[.ref 0 0,.ref 0 18,i64 1,i64 9],[.box (Ag v) false],_,_)]) trivial ⟨(wc (Cx x) [0]),trivial⟩) Ev ?_
  exact Bn <|Ro [0]
 ·refine T0 [0,2,9,24] ?_;refine Cd ?_ ?_
  ·refine Bd fun y z =>Te [0,2] (Av (l:=[]) (m:=[(27,149,[.ref 0 0],[.box (Ag d) false],_,_)]) trivial ⟨(wc (E9 z) [0]),trivial⟩) Ev ?_
   refine Bd fun aa ab =>Te [0,2] (Av (l:=[]) (m:=[(29,152,[.ref 0 0,i64 5],[.box (Ag y) false],_,_)]) trivial ⟨(wc (BK ab) [0]),trivial⟩) Ev ?_
   refine Bd fun ac ad =>Te [0,2] (Av (l:=[]) (m:=[(31,153,[.ref 0 0],[.box (Ag aa.2) false],_,_)]) trivial ⟨(wc (EO ad) [0]),trivial⟩) Ev ?_
   refine Bd fun ae af =>Te [0,2] (Av (l:=[]) (m:=[(36,150,[.ref 0 0,.ref 0 18,i64 1,i64 2],[.box (Ag ac) false],_,_)]) trivial ⟨(wc (Cx af) [0]),trivial⟩) Ev ?_
   refine Bd fun a ag =>Te [0,2] (Av (l:=[]) (m:=[(41,150,[.ref 0 0,.ref 0 22,i64 0,i64 1000000000],[.box (Ag ae) false],_,_)]) trivial ⟨(wc (EU ag) [0]),trivial⟩) Ev ?_
   refine Tw [2] (fun k=>⟨Ao 168 [(2,.ref 0 9)],[.box [.sl false (L Am a.p.Zg1.Ze),.sl false (L Au a.p.Zg1.Zf),.sl false (L Ac a.p.Zh1.Zx),.sl false (L Af a.p.Zh1.Zy),.sl false (L Al a.p.Zh1.Zz),.sl false (L Ak a.p.Zh1.Za1),.sl false (L As a.p.Zi1),.sl false (L Ap a.p.Zj1),.sl false (L Ae a.p.Zk1),i64 a.it.Za,i64 a.it.Ref.Zb,i64 a.it.Ref.No,i64 a.it.Zn1,i64 a.it.Zb1,i64 a.it.Zc,i64 a.it.Zo1,i64 a.it.Zw,i64 a.it.To,i64 a.it.Code,i64 a.it.Zp1,i64 a.it.Zq1,i64 a.it.Zr1,i64 a.it.Zs1,.str a.it.Zt1,.sl false (L An a.it.Zu1),.bool k] false]⟩) ?_ ?_
   ·intro _;refine Sp (fun g=>?_) fun g=>?_
    ·refine Bd fun aC ah=>?_
     exact Lf (o1 52 (L4 ah)) (Ew1 g) (ws [0])
    ·exact Lf Aa (Ew1 g) (ws [0])
   intro k;refine F0 [] ?_;exact Bn <|Ro [0]
  ·refine T0 [0,2,9,59] ?_;refine Cd ?_ ?_
   ·refine Bd fun b ai =>Te [0,2] (Av (l:=[]) (m:=[(65,150,[.ref 0 0,.ref 0 14,i64 0,i64 63],[.box (Ag d) false],_,_)]) trivial ⟨(wc (Du ai) [0]),trivial⟩) Ev ?_
    refine Tw [2] (fun n=>⟨Ao 168 [(2,.ref 0 9)],[.box [.sl false (L Am b.p.Zg1.Ze),.sl false (L Au b.p.Zg1.Zf),.sl false (L Ac b.p.Zh1.Zx),.sl false (L Af b.p.Zh1.Zy),.sl false (L Al b.p.Zh1.Zz),.sl false (L Ak b.p.Zh1.Za1),.sl false (L As b.p.Zi1),.sl false (L Ap b.p.Zj1),.sl false (L Ae b.p.Zk1),i64 b.it.Za,i64 b.it.Ref.Zb,i64 b.it.Ref.No,i64 b.it.Zn1,i64 b.it.Zb1,i64 b.it.Zc,i64 b.it.Zo1,i64 b.it.Zw,i64 b.it.To,i64 b.it.Code,i64 b.it.Zp1,i64 b.it.Zq1,i64 b.it.Zr1,i64 b.it.Zs1,.str b.it.Zt1,.sl false (L An b.it.Zu1),.bool n] false]⟩) ?_ ?_
    ·intro _;refine Sp (fun e=>?_) fun e=>?_
     ·refine Sp (fun i=>?_) fun i=>?_
      ·refine Bd fun aD aj=>?_
       exact Lf (o1 84 (L4 aj)) (Ew2 e i) (ws [0])
      ·exact Lf Aa (Ew2 e i) (ws [0])
     ·exact Lf Aa (Ew1 e) (ws [0])
    intro n;refine F0 [] ?_;exact Bn <|Ro [0]
   ·refine Ja (fun o=>⟨Ao 168 [(0,.ref 0 0),(2,.ref 0 9),(9,i64 d.it.Za),(91,.bool o)],[.box (Ag d) false]⟩) ?_ ?_
    ·intro aE;refine T0 [0,2,9,91] ?_;refine Cd ?_ ?_
     ·exact Sk <|Jm (ws [0])
     ·refine T0 [0,2,9,91] ?_;refine Cd ?_ ?_
      ·exact Sk <|Jm (ws [0])
      ·refine F0 [0,2,9,91] ?_;exact Jm (ws [0])
    intro o;refine Cd ?_ ?_
    ·refine Bd fun ak al =>Te [0,2] (Av (l:=[]) (m:=[(99,150,[.ref 0 0,.ref 0 15,i64 1,i64 6],[.box (Ag d) false],_,_)]) trivial ⟨(wc (Dn al) [0]),trivial⟩) Ev ?_
     refine Bd fun c am =>Te [0,2] (Av (l:=[]) (m:=[(101,151,[.ref 0 0],[.box (Ag ak) false],_,_)]) trivial ⟨(wc (BD am) [0]),trivial⟩) Ev ?_
     refine T0 [0,2,106] ?_;refine Cd ?_ ?_
     ·refine Tw [2] (fun q=>⟨Ao 168 [(2,.ref 0 9)],[.box [.sl false (L Am c.p.Zg1.Ze),.sl false (L Au c.p.Zg1.Zf),.sl false (L Ac c.p.Zh1.Zx),.sl false (L Af c.p.Zh1.Zy),.sl false (L Al c.p.Zh1.Zz),.sl false (L Ak c.p.Zh1.Za1),.sl false (L As c.p.Zi1),.sl false (L Ap c.p.Zj1),.sl false (L Ae c.p.Zk1),i64 c.it.Za,i64 c.it.Ref.Zb,i64 c.it.Ref.No,i64 c.it.Zn1,i64 c.it.Zb1,i64 c.it.Zc,i64 c.it.Zo1,i64 c.it.Zw,i64 c.it.To,i64 c.it.Code,i64 c.it.Zp1,i64 c.it.Zq1,i64 c.it.Zr1,i64 c.it.Zs1,.str c.it.Zt1,.sl false (L An c.it.Zu1),.bool q] false]⟩) ?_ ?_
      ·intro _;refine Sp (fun f=>?_) fun f=>?_
       ·refine Sp (fun j=>?_) fun j=>?_
        ·exact Lf Aa (Ew2 f j) (ws [0])
        ·exact Lf Aa (Ew2 f j) (ws [0])
       ·exact Lf Aa (Ew1 f) (ws [0])
      intro q;refine F0 [] ?_;exact Bn <|Ro [0]
     ·exact Sk <|Bn <|Ro [0]
    ·refine T0 [0,2,9,133] ?_;refine Cd ?_ ?_
     ·exact Sk <|Bn <|Ro [0]
     ·refine T0 [0,2,135] ?_;refine Cd ?_ ?_
      ·refine Bd fun an ao =>Te [0,2] (Av (l:=[]) (m:=[(138,154,[.ref 0 0],[.box (Ag d) false],_,_)]) trivial ⟨(wc (DK ao) [0]),trivial⟩) Ev ?_
       refine Bd fun ap aq =>Te [0,2] (Av (l:=[]) (m:=[(140,152,[.ref 0 0,i64 0],[.box (Ag an) false],_,_)]) trivial ⟨(wc (BK aq) [0]),trivial⟩) Ev ?_
       refine Bd fun s ar =>Te [0,2] (Av (l:=[]) (m:=[(142,155,[.ref 0 0],[.box (Ag ap.2) false],_,_)]) trivial ⟨(wc (G4 ar) [0]),trivial⟩) Ev ?_
       refine Bd fun au av =>De [[],[],[1],[1,2],[],[4],[4,5],[4,5,6],[4,5,6,7],[4,5,6,7,8],[4,5,6,7,8,9],[4,5,6,7,8,9,10],[0,1,2,3,4,5,6,7,8,9,10,11]] [0,2] (Av (l:=[]) (m:=[(155,150,[.ref 0 0,.ref 0 15,i64 0,i64 (w64 ((s.p.Zh1.Zx.length:Int)-1))],[.box (Ag s) false],_,_)]) trivial ⟨(wc (Dn av) [0]),trivial⟩) Ev ?_
       refine Bd fun aw ax =>Te [0,2] (Av (l:=[]) (m:=[(160,150,[.ref 0 0,.ref 0 21,i64 1,i64 1000],[.box (Ag au) false],_,_)]) trivial ⟨(wc (EX ax) [0]),trivial⟩) Ev ?_
       refine Bd fun ay az =>Te [0,2] (Av (l:=[]) (m:=[(162,153,[.ref 0 0],[.box (Ag aw) false],_,_)]) trivial ⟨(wc (EO az) [0]),trivial⟩) Ev ?_
       refine Bd fun aF aA =>Fe [] (Av (l:=[]) (m:=[(167,150,[.ref 0 0,.ref 0 22,i64 0,i64 1000000000],[.box (Ag ay) false],_,_)]) trivial ⟨(wc (EU aA) [0]),trivial⟩) Ev ?_
       exact Bn <|Ro [0]
      ·refine F0 [] ?_;exact Bn <|Ro [0]
theorem RB{b a r}(h:EK b a=some r):Con B 102 [.agg (Ar b),.agg (A1 a)] [] (fun r' σ'=>r'=.bool r∧σ'=[]):=by
 refine Cw 46 [.tmp 4] Tryz.func102 (fun F hE=>?_) h;unfold EK;refine T0 [2,3] ?_;refine T0 [3,5] ?_;refine Ja (fun⟨c,d,e,f,g,i,j,k,n,o,p,q,s,t,u,v,w,x,y,z,aa,ab,ac,ad,ae,ah⟩=>⟨Ao 46 [(5,.ref 0 0)],[.box [.sl false (L Am c),.sl false (L Au d),.sl false (L Ac e),.sl false (L Af f),.sl false (L Al g),.sl false (L Ak i),.sl false (L As j),.sl false (L Ap k),.sl false (L Ae n),i64 o,i64 p,i64 q,i64 s,i64 t,i64 u,i64 v,i64 w,i64 x,i64 y,i64 z,i64 aa,i64 ab,i64 ac,.str ad,.sl false (L An ae),.bool ah] false]⟩) ?_ ?_
 ·intro a6;refine T0 [5,13] ?_;refine Cd ?_ ?_
  ·refine Bd fun a7 aT =>Fe [5] (Av (l:=[]) (m:=[(14,130,[.ref 2 0],[.box (Ar b) false,.box (A1 a) false,.box [.sl false (L Am b.Zg1.Ze),.sl false (L Au b.Zg1.Zf),.sl false (L Ac b.Zh1.Zx),.sl false (L Af b.Zh1.Zy),.sl false (L Al b.Zh1.Zz),.sl false (L Ak b.Zh1.Za1),.sl false (L As b.Zi1),.sl false (L Ap b.Zj1),.sl false (L Ae b.Zk1),i64 a.Za,i64 a.Ref.Zb,i64 a.Ref.No,i64 a.Zn1,i64 a.Zb1,i64 a.Zc,i64 a.Zo1,i64 a.Zw,i64 a.To,i64 a.Code,i64 a.Zp1,i64 a.Zq1,i64 a.Zr1,i64 a.Zs1,.str a.Zt1,.sl false (L An a.Zu1),.bool true] false],_,_)]) trivial ⟨(wc (Ir aT) [2]),trivial⟩) Ev ?_
   exact Jm (ws [2])
  ·refine Bd fun a8 aU =>Fe [5] (Av (l:=[]) (m:=[(15,131,[.ref 2 0],[.box (Ar b) false,.box (A1 a) false,.box [.sl false (L Am b.Zg1.Ze),.sl false (L Au b.Zg1.Zf),.sl false (L Ac b.Zh1.Zx),.sl false (L Af b.Zh1.Zy),.sl false (L Al b.Zh1.Zz),.sl false (L Ak b.Zh1.Za1),.sl false (L As b.Zi1),.sl false (L Ap b.Zj1),.sl false (L Ae b.Zk1),i64 a.Za,i64 a.Ref.Zb,i64 a.Ref.No,i64 a.Zn1,i64 a.Zb1,i64 a.Zc,i64 a.Zo1,i64 a.Zw,i64 a.To,i64 a.Code,i64 a.Zp1,i64 a.Zq1,i64 a.Zr1,i64 a.Zs1,.str a.Zt1,.sl false (L An a.Zu1),.bool true] false],_,_)]) trivial ⟨(wc (Ki aU) [2]),trivial⟩) Ev ?_
   exact Jm (ws [2])
 rintro⟨c,d,e,f,g,i,j,k,n,o,p,q,s,t,u,v,w,x,y,z,aa,ab,ac,ad,ae,ah⟩;refine Ja (fun av=>⟨Ao 46 [(5,.ref 0 0)],[.box [.sl false (L Am c),.sl false (L Au d),.sl false (L Ac e),.sl false (L Af f),.sl false (L Al g),.sl false (L Ak i),.sl false (L As j),.sl false (L Ap k),.sl false (L Ae n),i64 o,i64 p,i64 q,i64 s,i64 t,i64 u,i64 v,i64 w,i64 x,i64 y,i64 z,i64 aa,i64 ab,i64 ac,.str ad,.sl false (L An ae),.bool av] false]⟩) ?_ ?_
 ·intro a9;refine Te [5,17,18] (Av (l:=[]) (m:=[(17,92,[.ref 0 9],[.box [.sl false (L Am c),.sl false (L Au d),.sl false (L Ac e),.sl false (L Af f),.sl false (L Al g),.sl false (L Ak i),.sl false (L As j),.sl false (L Ap k),.sl false (L Ae n),i64 o,i64 p,i64 q,i64 s,i64 t,i64 u,i64 v,i64 w,i64 x,i64 y,i64 z,i64 aa,i64 ab,i64 ac,.str ad,.sl false (L An ae),.bool ah] false],.agg [.ref 0 12,.ref 0 13,.ref 0 14,.ref 0 15,.ref 0 16,.ref 0 17,.ref 0 18,.ref 0 19,.ref 0 20,.ref 0 21,.ref 0 22],[.box [.sl false (L Am c),.sl false (L Au d),.sl false (L Ac e),.sl false (L Af f),.sl false (L Al g),.sl false (L Ak i),.sl false (L As j),.sl false (L Ap k),.sl false (L Ae n),i64 o,i64 p,i64 q,i64 s,i64 t,i64 u,i64 v,i64 w,i64 x,i64 y,i64 z,i64 aa,i64 ab,i64 ac,.str ad,.sl false (L An ae),.bool ah] false])]) trivial ⟨MQ,trivial⟩) Ev ?_;refine Sb ?_;refine Ul 17 ?_;refine Ug (m:=16) ?_;refine T0 [5,17,18,19] ?_;refine Sq <|Ct <|Sk <|Tn <|Sq <|Sb <|?_
  have aw:InR 0 11:=by decide
  refine Te [5,7,17,18] Aa (Ev (by simp only[go_sem,aw,aw.2];exact AL)) ?_;refine Fw [5,17,18] (fun ax=>⟨Ao 46 [(5,.ref 0 0),(17,.agg [.ref 0 12,.ref 0 13,.ref 0 14,.ref 0 15,.ref 0 16,.ref 0 17,.ref 0 18,.ref 0 19,.ref 0 20,.ref 0 21,.ref 0 22]),(18,i64 0)],[.box [.sl false (L Am c),.sl false (L Au d),.sl false (L Ac e),.sl false (L Af f),.sl false (L Al g),.sl false (L Ak i),.sl false (L As j),.sl false (L Ap k),.sl false (L Ae n),i64 o,i64 p,i64 q,i64 s,i64 t,i64 u,i64 v,i64 w,i64 x,i64 y,i64 z,i64 aa,i64 ab,i64 ac,.str ad,.sl false (L An ae),.bool ax] false]⟩) ?_ ?_
  ·intro _;refine Sp (fun ai=>?_) fun ai=>?_
   ·exact Lf Aa (Ew1 ai) (ws [0])
   ·exact Lf Aa (Ew1 ai) (ws [0])
  intro ax;refine Bn <|Tn <|?_
  have aV:w64 1=1:=by decide
  refine Fe [5,17,18] Aa (Ew1 aV) ?_;refine Un ?_;refine Ug (m:=15) ?_;refine T0 [5,17,18,19] ?_;refine Sq <|Ct <|Sk <|Tn <|Sq <|Sb <|?_
  have ay:InR 1 11:=by decide
  refine Te [5,7,17,18] Aa (Ev (by simp only[go_sem,ay,ay.2];exact AL)) ?_;refine Fw [5,17,18] (fun az=>⟨Ao 46 [(5,.ref 0 0),(17,.agg [.ref 0 12,.ref 0 13,.ref 0 14,.ref 0 15,.ref 0 16,.ref 0 17,.ref 0 18,.ref 0 19,.ref 0 20,.ref 0 21,.ref 0 22]),(18,i64 1)],[.box [.sl false (L Am c),.sl false (L Au d),.sl false (L Ac e),.sl false (L Af f),.sl false (L Al g),.sl false (L Ak i),.sl false (L As j),.sl false (L Ap k),.sl false (L Ae n),i64 o,i64 p,i64 q,i64 s,i64 t,i64 u,i64 v,i64 w,i64 x,i64 y,i64 z,i64 aa,i64 ab,i64 ac,.str ad,.sl false (L An ae),.bool az] false]⟩) ?_ ?_
  ·intro _;refine Sp (fun aj=>?_) fun aj=>?_
   ·exact Lf Aa (Ew1 aj) (ws [0])
   ·exact Lf Aa (Ew1 aj) (ws [0])
  intro az;refine Bn <|Tn <|?_
  have aW:w64 2=2:=by decide
  refine Fe [5,17,18] Aa (Ew1 aW) ?_;refine Un ?_;refine Ug (m:=14) ?_;refine T0 [5,17,18,19] ?_;refine Sq <|Ct <|Sk <|Tn <|Sq <|Sb <|?_
  have aA:InR 2 11:=by decide
  refine Te [5,7,17,18] Aa (Ev (by simp only[go_sem,aA,aA.2];exact AL)) ?_;refine Fw [5,17,18] (fun aB=>⟨Ao 46 [(5,.ref 0 0),(17,.agg [.ref 0 12,.ref 0 13,.ref 0 14,.ref 0 15,.ref 0 16,.ref 0 17,.ref 0 18,.ref 0 19,.ref 0 20,.ref 0 21,.ref 0 22]),(18,i64 2)],[.box [.sl false (L Am c),.sl false (L Au d),.sl false (L Ac e),.sl false (L Af f),.sl false (L Al g),.sl false (L Ak i),.sl false (L As j),.sl false (L Ap k),.sl false (L Ae n),i64 o,i64 p,i64 q,i64 s,i64 t,i64 u,i64 v,i64 w,i64 x,i64 y,i64 z,i64 aa,i64 ab,i64 ac,.str ad,.sl false (L An ae),.bool aB] false]⟩) ?_ ?_
  ·intro _;refine Sp (fun ak=>?_) fun ak=>?_
   ·exact Lf Aa (Ew1 ak) (ws [0])
   ·exact Lf Aa (Ew1 ak) (ws [0])
  intro aB;refine Bn <|Tn <|?_
  have aX:w64 3=3:=by decide
  refine Fe [5,17,18] Aa (Ew1 aX) ?_;refine Un ?_;refine Ug (m:=13) ?_;refine T0 [5,17,18,19] ?_;refine Sq <|Ct <|Sk <|Tn <|Sq <|Sb <|?_
  have aC:InR 3 11:=by decide
  refine Te [5,7,17,18] Aa (Ev (by simp only[go_sem,aC,aC.2];exact AL)) ?_;refine Fw [5,17,18] (fun aD=>⟨Ao 46 [(5,.ref 0 0),(17,.agg [.ref 0 12,.ref 0 13,.ref 0 14,.ref 0 15,.ref 0 16,.ref 0 17,.ref 0 18,.ref 0 19,.ref 0 20,.ref 0 21,.ref 0 22]),(18,i64 3)],[.box [.sl false (L Am c),.sl false (L Au d),.sl false (L Ac e),.sl false (L Af f),.sl false (L Al g),.sl false (L Ak i),.sl false (L As j),.sl false (L Ap k),.sl false (L Ae n),i64 o,i64 p,i64 q,i64 s,i64 t,i64 u,i64 v,i64 w,i64 x,i64 y,i64 z,i64 aa,i64 ab,i64 ac,.str ad,.sl false (L An ae),.bool aD] false]⟩) ?_ ?_
  ·intro _;refine Sp (fun al=>?_) fun al=>?_
   ·exact Lf Aa (Ew1 al) (ws [0])
   ·exact Lf Aa (Ew1 al) (ws [0])
  intro aD;refine Bn <|Tn <|?_
  have aY:w64 4=4:=by decide
  refine Fe [5,17,18] Aa (Ew1 aY) ?_;refine Un ?_;refine Ug (m:=12) ?_;refine T0 [5,17,18,19] ?_;refine Sq <|Ct <|Sk <|Tn <|Sq <|Sb <|?_
  have aE:InR 4 11:=by decide
  refine Te [5,7,17,18] Aa (Ev (by simp only[go_sem,aE,aE.2];exact AL)) ?_;refine Fw [5,17,18] (fun aF=>⟨Ao 46 [(5,.ref 0 0),(17,.agg [.ref 0 12,.ref 0 13,.ref 0 14,.ref 0 15,.ref 0 16,.ref 0 17,.ref 0 18,.ref 0 19,.ref 0 20,.ref 0 21,.ref 0 22]),(18,i64 4)],[.box [.sl false (L Am c),.sl false (L Au d),.sl false (L Ac e),.sl false (L Af f),.sl false (L Al g),.sl false (L Ak i),.sl false (L As j),.sl false (L Ap k),.sl false (L Ae n),i64 o,i64 p,i64 q,i64 s,i64 t,i64 u,i64 v,i64 w,i64 x,i64 y,i64 z,i64 aa,i64 ab,i64 ac,.str ad,.sl false (L An ae),.bool aF] false]⟩) ?_ ?_
  ·intro _;refine Sp (fun am=>?_) fun am=>?_
   ·exact Lf Aa (Ew1 am) (ws [0])
   ·exact Lf Aa (Ew1 am) (ws [0])
  intro aF;refine Bn <|Tn <|?_
  have aZ:w64 5=5:=by decide
  refine Fe [5,17,18] Aa (Ew1 aZ) ?_;refine Un ?_;refine Ug (m:=11) ?_;refine T0 [5,17,18,19] ?_;refine Sq <|Ct <|Sk <|Tn <|Sq <|Sb <|?_
  have aG:InR 5 11:=by decide
  refine Te [5,7,17,18] Aa (Ev (by simp only[go_sem,aG,aG.2];exact AL)) ?_;refine Fw [5,17,18] (fun aH=>⟨Ao 46 [(5,.ref 0 0),(17,.agg [.ref 0 12,.ref 0 13,.ref 0 14,.ref 0 15,.ref 0 16,.ref 0 17,.ref 0 18,.ref 0 19,.ref 0 20,.ref 0 21,.ref 0 22]),(18,i64 5)],[.box [.sl false (L Am c),.sl false (L Au d),.sl false (L Ac e),.sl false (L Af f),.sl false (L Al g),.sl false (L Ak i),.sl false (L As j),.sl false (L Ap k),.sl false (L Ae n),i64 o,i64 p,i64 q,i64 s,i64 t,i64 u,i64 v,i64 w,i64 x,i64 y,i64 z,i64 aa,i64 ab,i64 ac,.str ad,.sl false (L An ae),.bool aH] false]⟩) ?_ ?_
  ·intro _;refine Sp (fun an=>?_) fun an=>?_
   ·exact Lf Aa (Ew1 an) (ws [0])
   ·exact Lf Aa (Ew1 an) (ws [0])
  intro aH;refine Bn <|Tn <|?_
  have a0:w64 6=6:=by decide
  refine Fe [5,17,18] Aa (Ew1 a0) ?_;refine Un ?_;refine Ug (m:=10) ?_;refine T0 [5,17,18,19] ?_;refine Sq <|Ct <|Sk <|Tn <|Sq <|Sb <|?_
  have aI:InR 6 11:=by decide
  refine Te [5,7,17,18] Aa (Ev (by simp only[go_sem,aI,aI.2];exact AL)) ?_;refine Fw [5,17,18] (fun aJ=>⟨Ao 46 [(5,.ref 0 0),(17,.agg [.ref 0 12,.ref 0 13,.ref 0 14,.ref 0 15,.ref 0 16,.ref 0 17,.ref 0 18,.ref 0 19,.ref 0 20,.ref 0 21,.ref 0 22]),(18,i64 6)],[.box [.sl false (L Am c),.sl false (L Au d),.sl false (L Ac e),.sl false (L Af f),.sl false (L Al g),.sl false (L Ak i),.sl false (L As j),.sl false (L Ap k),.sl false (L Ae n),i64 o,i64 p,i64 q,i64 s,i64 t,i64 u,i64 v,i64 w,i64 x,i64 y,i64 z,i64 aa,i64 ab,i64 ac,.str ad,.sl false (L An ae),.bool aJ] false]⟩) ?_ ?_
  ·intro _;refine Sp (fun ao=>?_) fun ao=>?_
   ·exact Lf Aa (Ew1 ao) (ws [0])
   ·exact Lf Aa (Ew1 ao) (ws [0])
  intro aJ;refine Bn <|Tn <|?_
  have a1:w64 7=7:=by decide
  refine Fe [5,17,18] Aa (Ew1 a1) ?_;refine Un ?_;refine Ug (m:=9) ?_;refine T0 [5,17,18,19] ?_;refine Sq <|Ct <|Sk <|Tn <|Sq <|Sb <|?_
  have aK:InR 7 11:=by decide
  refine Te [5,7,17,18] Aa (Ev (by simp only[go_sem,aK,aK.2];exact AL)) ?_;refine Fw [5,17,18] (fun aL=>⟨Ao 46 [(5,.ref 0 0),(17,.agg [.ref 0 12,.ref 0 13,.ref 0 14,.ref 0 15,.ref 0 16,.ref 0 17,.ref 0 18,.ref 0 19,.ref 0 20,.ref 0 21,.ref 0 22]),(18,i64 7)],[.box [.sl false (L Am c),.sl false (L Au d),.sl false (L Ac e),.sl false (L Af f),.sl false (L Al g),.sl false (L Ak i),.sl false (L As j),.sl false (L Ap k),.sl false (L Ae n),i64 o,i64 p,i64 q,i64 s,i64 t,i64 u,i64 v,i64 w,i64 x,i64 y,i64 z,i64 aa,i64 ab,i64 ac,.str ad,.sl false (L An ae),.bool aL] false]⟩) ?_ ?_
  ·intro _;refine Sp (fun ap=>?_) fun ap=>?_
   ·exact Lf Aa (Ew1 ap) (ws [0])
   ·exact Lf Aa (Ew1 ap) (ws [0])
  intro aL;refine Bn <|Tn <|?_
  have a2:w64 8=8:=by decide
  refine Fe [5,17,18] Aa (Ew1 a2) ?_;refine Un ?_;refine Ug (m:=8) ?_;refine T0 [5,17,18,19] ?_;refine Sq <|Ct <|Sk <|Tn <|Sq <|Sb <|?_
  have aM:InR 8 11:=by decide
  refine Te [5,7,17,18] Aa (Ev (by simp only[go_sem,aM,aM.2];exact AL)) ?_;refine Fw [5,17,18] (fun aN=>⟨Ao 46 [(5,.ref 0 0),(17,.agg [.ref 0 12,.ref 0 13,.ref 0 14,.ref 0 15,.ref 0 16,.ref 0 17,.ref 0 18,.ref 0 19,.ref 0 20,.ref 0 21,.ref 0 22]),(18,i64 8)],[.box [.sl false (L Am c),.sl false (L Au d),.sl false (L Ac e),.sl false (L Af f),.sl false (L Al g),.sl false (L Ak i),.sl false (L As j),.sl false (L Ap k),.sl false (L Ae n),i64 o,i64 p,i64 q,i64 s,i64 t,i64 u,i64 v,i64 w,i64 x,i64 y,i64 z,i64 aa,i64 ab,i64 ac,.str ad,.sl false (L An ae),.bool aN] false]⟩) ?_ ?_
  ·intro _;refine Sp (fun aq=>?_) fun aq=>?_
   ·exact Lf Aa (Ew1 aq) (ws [0])
   ·exact Lf Aa (Ew1 aq) (ws [0])
  intro aN;refine Bn <|Tn <|?_
  have a3:w64 9=9:=by decide
  refine Fe [5,17,18] Aa (Ew1 a3) ?_;refine Un ?_;refine Ug (m:=7) ?_;refine T0 [5,17,18,19] ?_;refine Sq <|Ct <|Sk <|Tn <|Sq <|Sb <|?_
  have aO:InR 9 11:=by decide
  refine Te [5,7,17,18] Aa (Ev (by simp only[go_sem,aO,aO.2];exact AL)) ?_;refine Fw [5,17,18] (fun aP=>⟨Ao 46 [(5,.ref 0 0),(17,.agg [.ref 0 12,.ref 0 13,.ref 0 14,.ref 0 15,.ref 0 16,.ref 0 17,.ref 0 18,.ref 0 19,.ref 0 20,.ref 0 21,.ref 0 22]),(18,i64 9)],[.box [.sl false (L Am c),.sl false (L Au d),.sl false (L Ac e),.sl false (L Af f),.sl false (L Al g),.sl false (L Ak i),.sl false (L As j),.sl false (L Ap k),.sl false (L Ae n),i64 o,i64 p,i64 q,i64 s,i64 t,i64 u,i64 v,i64 w,i64 x,i64 y,i64 z,i64 aa,i64 ab,i64 ac,.str ad,.sl false (L An ae),.bool aP] false]⟩) ?_ ?_
  ·intro _;refine Sp (fun ar=>?_) fun ar=>?_
   ·exact Lf Aa (Ew1 ar) (ws [0])
   ·exact Lf Aa (Ew1 ar) (ws [0])
  intro aP;refine Bn <|Tn <|?_
  have a4:w64 10=10:=by decide
  refine Fe [5,17,18] Aa (Ew1 a4) ?_;refine Un ?_;refine Ug (m:=6) ?_;refine T0 [5,17,18,19] ?_;refine Sq <|Ct <|Sk <|Tn <|Sq <|Sb <|?_
  have aQ:InR 10 11:=by decide
  refine Te [5,7,17,18] Aa (Ev (by simp only[go_sem,aQ,aQ.2];exact AL)) ?_;refine Fw [5,17,18] (fun aR=>⟨Ao 46 [(5,.ref 0 0),(17,.agg [.ref 0 12,.ref 0 13,.ref 0 14,.ref 0 15,.ref 0 16,.ref 0 17,.ref 0 18,.ref 0 19,.ref 0 20,.ref 0 21,.ref 0 22]),(18,i64 10)],[.box [.sl false (L Am c),.sl false (L Au d),.sl false (L Ac e),.sl false (L Af f),.sl false (L Al g),.sl false (L Ak i),.sl false (L As j),.sl false (L Ap k),.sl false (L Ae n),i64 o,i64 p,i64 q,i64 s,i64 t,i64 u,i64 v,i64 w,i64 x,i64 y,i64 z,i64 aa,i64 ab,i64 ac,.str ad,.sl false (L An ae),.bool aR] false]⟩) ?_ ?_
  ·intro _;refine Sp (fun au=>?_) fun au=>?_
   ·exact Lf Aa (Ew1 au) (ws [0])
   ·exact Lf Aa (Ew1 au) (ws [0])
  intro aR;refine Bn <|Tn <|?_
  have a5:w64 11=11:=by decide
  refine Fe [5,17,18] Aa (Ew1 a5) ?_;refine Un ?_;refine Ug (m:=5) ?_;refine T0 [5,17,18,19] ?_;exact Sq <|Cf <|Sx <|Tx <|Ux <|Bx <|Jm (ws [0])
 intro av;refine Tw [4] (fun aS=>⟨Ao 46 [(4,.bool aS)],[]⟩) ?_ ?_
 ·intro _;refine Sp (fun af=>?_) fun af=>?_
  ·refine Sp (fun ag=>?_) fun ag=>?_
   ·exact Lf Aa (Ew2 af ag) (ws [] (by simp only[go_sem,af,ag]) (by simp only[go_sem,af,ag]))
   ·exact Lf Aa (Ew2 af ag) (ws [] (by simp only[go_sem,af,ag]) (by simp only[go_sem,af,ag]))
  ·exact Lf Aa (Ew1 af) (ws [] (by simp only[go_sem,af]) (by simp only[go_sem,af]))
 intro aS;exact Sr <|Rr
theorem Tz{b c r}(h:Hr b c=some r):Con B 63 [.agg (Ar b),.agg (A1 c)] [] (fun r' σ'=>r'=i64 r∧σ'=[]):=by
 refine Cw 19 [.tmp 4] Tryz.func63 (fun F hE=>?_) h;unfold Hr;refine T0 [2,3] ?_;refine Sq <|Bd fun i f =>Te [2,3,4] (o1 6 (Fj f)) Ev ?_
 refine T0 [2,3,4,8] ?_;refine Cd ?_ ?_
 ·refine T0 [4] ?_;exact Sr <|Tr <|Rr
 ·refine Sk <|Tn <|Sq <|?_
  refine Tw [18] (fun d=>⟨Ao 19 [(18,.bool d)],[]⟩) ?_ ?_
  ·intro _;refine Bd fun j e=>?_
   refine Sp (fun a=>?_) fun a=>?_
   ·exact Lf (o1 11 (Iw e)) (Ew1 a) (ws [])
   ·refine Bd fun k g=>?_
    exact Lf (o2 11 (Iw e) 16 (RB g)) (Ew1 a) (ws [])
  intro d;refine Cd ?_ ?_
  ·refine T0 [4] ?_;exact Sr <|Tr <|Rr
  ·refine Sk <|Tn <|T0 [4] ?_
   exact Sr <|Rr
theorem Qn{c d a r}(h:E2 c d a=some r):Con B 15 [u64 c,.sl false (L cU8 d),.agg [u64 a.C,u64 a.S]] [] (fun r' σ'=>r'=.bool r∧σ'=[]):=by
 refine Cw 43 [.tmp 6] Tryz.func15 (fun F hE=>?_) h;unfold E2;refine T0 [0,1,5] ?_;refine Sq ?_;refine Tw [0,1,5,25] (fun g=>⟨Ao 43 [(0,u64 c),(1,.sl false (L cU8 d)),(5,.ref 0 0),(25,.bool g)],[.box [u64 a.C,u64 a.S] false]⟩) ?_ ?_
 ·intro _;refine Sp (fun b=>?_) fun b=>?_
  ·exact Lf Aa (Ew1 b) (ws [0])
  ·refine Sp (fun e=>?_) fun e=>?_
   ·exact Lf Aa (Ew2 b e) (ws [0])
   ·refine Sp (fun f=>?_) fun f=>?_
    ·exact Lf Aa (Ew3 b e f) (ws [0])
    ·refine Bd fun v n=>?_
     exact Lf (o1 23 (KW n)) (Ew3 b e f) (ws [0])
 intro g;refine Cd ?_ ?_
 ·refine T0 [6] ?_;exact Sr <|Tr <|Rr
 ·refine Sk <|Tn <|Bd fun o p =>Bd fun i q =>Bd fun j s =>Bd fun k t =>?_
  intro h;refine UA hE MF [[],[],[1],[0,1,2],[],[],[5],[5,6],[0,1,2,3,4,5,6,7],[0,1,2,3,4,5,6,7,8],[0,1,2,3,4,5,6,7,8,9]] (by kernel_rfl) [(),(),(),(),(),(),(),()] [(),(),()] (by kernel_rfl) [(5,0),(27,0),(31,0)] [(26,0)] [5,27,31] [0,1,5,7,27,31] (by kernel_rfl) (fr':=[(0,u64 c),(1,.sl false (L cU8 d)),(5,.ref 0 0),(7,u64 k.1),(27,.ref 0 1),(31,.ref 0 0)]) (σ':=[.box [u64 a.C,u64 a.S] false,.box [u64 k.2] false]) ⟨_,_,(Av (l:=[(29,_,_,u64 i),(34,_,_,u64 j)]) (m:=[(26,48,[u64 (2305843009213690799:UInt64)],[.box [u64 a.C,u64 a.S] false],_,_),(35,82,[u64 i,u64 j,.ref 1 0],[.box [u64 a.C,u64 a.S] false,.box [u64 o] false],_,_)]) ⟨GG  q,GG  s,trivial⟩ ⟨(wc (Hy p) []),(wc (EB t) [1]),trivial⟩),(by repeat' (first|exact trivial|(refine And.intro ?_ ?_)|exact fun _=>rfl|exact fun h=>absurd h (by decide))),_,_,(by simp only[go_sem];exact AL),(by exact⟨rfl,rfl,rfl,trivial⟩),(by simp only[go_sem];exact AL)⟩ ?_;revert h;refine Bd fun w u =>De [[],[],[],[0,1,2],[],[4],[0,1,2,3,4,5],[0,1,2,3,4,5,6]] [6] (o1 39 (HC u)) Ev ?_
  exact Sr <|Rr
theorem PF{f g r}(h:Ex f g=some r):Con B 25 [.agg (Ar f),.agg (Ab g)] [] (fun r' σ'=>r'=i64 r∧σ'=[]):=by
 refine Cw 82 [.tmp 4] Tryz.func25 (fun F hE=>?_) h;unfold Ex;refine T0 [2,3] ?_;refine Sq <|Bd fun p k =>Te [2,3,5] (o1 10 (Fj k)) Ev ?_
 refine T0 [2,3,5,12] ?_;refine Cd ?_ ?_
 ·refine T0 [4] ?_;exact Sr <|Tr <|Rr
 ·refine Sk <|Tn <|Sq <|?_
  refine Tw [2,3,54] (fun j=>⟨Ao 82 [(2,.ref 0 0),(3,.ref 1 0),(54,.bool j)],[.box (Ar f) false,.box (Ab g) false]⟩) ?_ ?_
  ·intro _;refine Sp (fun a=>?_) fun a=>?_
   ·exact Lf Aa (Ew1 a) (ws [0,1])
   ·refine Sp (fun b=>?_) fun b=>?_
    ·exact Lf Aa (Ew2 a b) (ws [0,1])
    ·refine Sp (fun c=>?_) fun c=>?_
     ·exact Lf Aa (Ew3 a b c) (ws [0,1])
     ·refine Sp (fun d=>?_) fun d=>?_
      ·exact Lf Aa (Ew4 a b c d) (ws [0,1])
      ·refine Sp (fun e=>?_) fun e=>?_
       ·exact Lf Aa (Ew5 a b c d e) (ws [0,1])
       ·refine Sp (fun i=>?_) fun i=>?_
        ·exact Lf Aa (Ev (by simp only[go_sem,a,b,c,d,e,i];exact AL)) (ws [0,1])
        ·exact Lf Aa (Ev (by simp only[go_sem,a,b,c,d,e,i];exact AL)) (ws [0,1])
  intro j;refine Cd ?_ ?_
  ·refine T0 [4] ?_;exact Sr <|Tr <|Rr
  ·refine Sk <|Tn <|Sq <|Bd fun q l =>Te [2,3,6] (o1 58 (Tz l)) Ev ?_
   refine T0 [2,3,6,60] ?_;refine Cd ?_ ?_
   ·refine T0 [4] ?_;exact Sr <|Tr <|Rr
   ·refine Sk <|Tn <|Bd fun s m =>Te [2,3,7,8] (o1 64 (LD m)) Ev ?_
    refine Sq <|T0 [2,3,7,8,68] ?_
    refine Cd ?_ ?_
    ·refine T0 [4] ?_;exact Sr <|Tr <|Rr
    ·refine Sk <|Tn <|Sq <|Ck fun n =>Bd fun t o =>De [[],[0],[],[2],[0,1,2,3],[0,1,2,3,4],[0,1,2,3,4,5],[],[],[8],[0,1,2,3,4,5,6,7,8,9],[0,1,2,3,4,5,6,7,8,9,10]] [81] (o1 80 (Qn o)) (Ew1 (qR n)) ?_
     refine Cd ?_ ?_
     ·refine T0 [4] ?_;exact Sr <|Tr <|Rr
     ·refine Sk <|Tn <|T0 [4] ?_
      exact Sr <|Rr
theorem It{a r}(h:FE a=some r):Con B 132 [i64 a] [] (fun r' σ'=>r'=.bool r∧σ'=[]):=by
 refine Cw 6 [.tmp 2] Tryz.func132 (fun F hE=>?_) h;unfold FE;refine T0 [0] ?_;refine T0 [2] ?_;exact Sr <|Rr
theorem H1{a b r}(h:D4 a b=some r):Con B 103 [i64 a,i64 b] [] (fun r' σ'=>r'=i64 r∧σ'=[]):=by
 refine Cw 20 [.tmp 4] Tryz.func103 (fun F hE=>?_) h;unfold D4;refine T0 [0,1] ?_;refine Bd fun e c =>Te [0,1,5] (o1 8 (It c)) Ev ?_
 refine Bd fun f d =>Te [0,1,5,6] (o1 10 (It d)) Ev ?_
 refine Sq <|T0 [0,1,6,11] ?_
 refine Cd ?_ ?_
 ·refine Sq <|T0 [12] ?_
  refine Cd ?_ ?_
  ·refine T0 [4] ?_;exact Sr <|Tr <|Tr <|Rr
  ·refine Sk <|Tn <|T0 [4] ?_
   exact Sr <|Tr <|Rr
 ·refine Sk <|Tn <|Sq <|T0 [0,1,13] ?_
  refine Cd ?_ ?_
  ·refine T0 [4] ?_;exact Sr <|Tr <|Rr
  ·refine Sk <|Tn <|Sq <|T0 [0,1,16] ?_
   refine Cd ?_ ?_
   ·refine T0 [4] ?_;exact Sr <|Tr <|Rr
   ·refine Sk <|Tn <|Sq <|T0 [19] ?_
    refine Cd ?_ ?_
    ·refine T0 [4] ?_;exact Sr <|Tr <|Rr
    ·refine Sk <|Tn <|T0 [4] ?_
     exact Sr <|Rr
theorem Ll{a:List UInt8}{b:List UInt8}{r:Int}(h:Hh a b=some r):Con B 133 [.sl false (L cU8 a),.sl false (L cU8 b)] [] (fun r' σ'=>r'=i64 r∧σ'=[]) :=
 XM Tryz.func133 (by decide +kernel) rfl (by kernel_rfl) (by kernel_rfl) h
theorem MH{a b r}(h:F6 a b=some r):Con B 104 [.sl false (L cU8 a),.sl false (L cU8 b)] [] (fun r' σ'=>r'=i64 r∧σ'=[]):=by
 refine Cw 8 [.tmp 4] Tryz.func104 (fun F hE=>?_) h;unfold F6;refine T0 [0,1] ?_;refine Bd fun d c =>Te [4] (o1 7 (Ll c)) Ev ?_
 exact Sr <|Rr
theorem H8{f:AsP→AsP→Option (Int)}{s1_7111:List AsP}{s2_7112:List AsP}{b:AsP→AsP→Option (Int)}(h64:∀{a0:AsP} {a1:AsP} {r:Int},f a0 a1=some r→Con B 64 [.agg [i64 a0.Za,i64 a0.N,.sl false (L cU8 a0.B),.sl false (L cApi_Value a0.L)],.agg [i64 a1.Za,i64 a1.N,.sl false (L cU8 a1.B),.sl false (L cApi_Value a1.L)]] [] (fun r' σ'=>r'=i64 r∧σ'=[])){a:Nat}(i:∀{a0:AsP} {a1:AsP} {r:Int},b a0 a1=some r→Con B a [.agg [i64 a0.Za,i64 a0.N,.sl false (L cU8 a0.B),.sl false (L cApi_Value a0.L)],.agg [i64 a1.Za,i64 a1.N,.sl false (L cU8 a1.B),.sl false (L cApi_Value a1.L)]] [] (fun r' σ'=>r'=i64 r∧σ'=[])){r:Int}(h:Cn f s1_7111 s2_7112 b=some r):Con B 105 [.sl false (L cApi_Value s1_7111),.sl false (L cApi_Value s2_7112),.fn a []] [] (fun r' σ'=>r'=i64 r∧σ'=[]):=by
 refine Jq (N:=39) (rs:=[.tmp 6]) ok Tryz.func105 rfl (by decide +kernel) rfl rfl (AtM rfl) (fun F=>?_);have hE:=ok.env F;unfold Cn at h;show Run (B.env F) 0 _ ⟨Ao 39 [(0,.sl false (L cApi_Value s1_7111)),(1,.sl false (L cApi_Value s2_7112)),(2,.fn a [])],[]⟩ _;refine Gn ?_;revert h;refine T0 [0,1,2] ?_;refine Jo (fun _=>⟨Ao 39 [(0,.sl false (L cApi_Value s1_7111)),(1,.sl false (L cApi_Value s2_7112))],[]⟩) ?_ ?_
 ·intro ae g;refine T0 [0,1,2,11,12,13] ?_;refine Sb ?_;refine Lo (fun c=>⟨Ao 39 [(0,.sl false (L cApi_Value s1_7111)),(1,.sl false (L cApi_Value s2_7112)),(2,.fn a []),(11,.sl false (L cApi_Value s1_7111)),(12,i64 (s1_7111.length:Int)),(13,i64 c)],[]⟩) (ws []) ?_;rintro c af j d e;show Bz s1_7111 s2_7112 b c=some j→_;unfold Bz;refine T0 [0,1,2,11,12,13,14] ?_;refine Sq <|Cd ?_ ?_
  ·refine Sk <|Tn <|Sq <|Sb <|Ck fun k =>Lt fun l m =>Lt fun n o =>Lt fun p q =>Lt fun s t =>Te (σ':=[.box [i64 l,i64 n,.sl false (L cU8 p),.sl false (L cApi_Value s)] false]) [0,1,2,7,8,11,12,13] Aa (Ew5 (qR k) m o q t) ?_
   refine Sq <|T0 [0,1,2,7,8,11,12,13,21] ?_
   refine Cd ?_ ?_
   ·refine T0 [6] ?_;exact Sr <|Tr <|Br <|Tr <|Lr e d <|Br <|Jr g <|Rr
   ·refine Sk <|Tn <|Ck fun u =>Lt fun v w =>Lt fun x y =>Lt fun z aa =>Lt fun ab ac =>Te (σ':=[_,.box [i64 v,i64 x,.sl false (L cU8 z),.sl false (L cApi_Value ab)] false]) [0,1,2,8,9,11,12,13] Aa (Ew5 (qR u) w y aa ac) ?_
    refine Bd fun ag ad =>Te [0,1,2,10,11,12,13] (o1 29 (i ad)) Ev ?_
    refine T0 [0,1,2,10,11,12,13,31] ?_;refine Cd ?_ ?_
    ·refine T0 [6] ?_;exact Sr <|Br <|Tr <|Lr e d <|Br <|Jr g <|Rr
    ·refine Sk <|Bn <|Tn <|F0 [0,1,2,11,12,13] ?_
     exact Ln (ws [])
  ·refine Sx <|Tx <|Lx e d <|Bx <|?_
   exact Jn ((ws (l':=[(0,.sl false (L cApi_Value s1_7111)),(1,.sl false (L cApi_Value s2_7112))]) (σ':=[]) []).trans (ws []))
 intro _;refine Sq <|T0 [38] ?_
 refine Cd ?_ ?_
 ·refine T0 [6] ?_;exact Sr <|Tr <|Rr
 ·refine Sk <|Tn <|T0 [6] ?_
  exact Sr <|Rr
theorem Lq{rec_:AsP→AsP→Option (Int)}(hrec:∀{a:AsP} {b:AsP} {r:Int},rec_ a b=some r→Con B 64 [.agg [i64 a.Za,i64 a.N,.sl false (L cU8 a.B),.sl false (L cApi_Value a.L)],.agg [i64 b.Za,i64 b.N,.sl false (L cU8 b.B),.sl false (L cApi_Value b.L)]] [] (fun r' σ'=>r'=i64 r∧σ'=[])){a:AsP}{b:AsP}{r:Int}(h:E0 rec_ a b=some r):Con B 64 [.agg [i64 a.Za,i64 a.N,.sl false (L cU8 a.B),.sl false (L cApi_Value a.L)],.agg [i64 b.Za,i64 b.N,.sl false (L cU8 b.B),.sl false (L cApi_Value b.L)]] [] (fun r' σ'=>r'=i64 r∧σ'=[]):=by
 refine Jq (N:=37) (rs:=[.tmp 4]) ok Tryz.func64 rfl (by decide +kernel) rfl rfl (AtM rfl) (fun F=>?_);have hE:=ok.env F;unfold E0 at h;show Run (B.env F) 0 _ ⟨Ao 37 [(0,.agg [i64 a.Za,i64 a.N,.sl false (L cU8 a.B),.sl false (L cApi_Value a.L)]),(1,.agg [i64 b.Za,i64 b.N,.sl false (L cU8 b.B),.sl false (L cApi_Value b.L)])],[]⟩ _;refine Gn ?_;revert h;refine T0 [2,3] ?_;refine Sq <|Bd fun g c =>Te [2,3,5] (o1 10 (H1 c)) Ev ?_
 refine T0 [2,3,5,12] ?_;refine Cd ?_ ?_
 ·refine T0 [4] ?_;exact Sr <|Tr <|Rr
 ·refine Sk <|Tn <|Sq <|T0 [2,3,15] ?_
  refine Sb <|T0 [2,3,15,16] ?_
  refine Cd ?_ ?_
  ·refine Bd fun i d =>Te [4] (o1 22 (H1 d)) Ev ?_
   exact Sr <|Br <|Tr <|Rr
  ·refine T0 [2,3,15,23] ?_;refine Cd ?_ ?_
   ·refine Bd fun j e =>Te [4] (o1 29 (MH e)) Ev ?_
    exact Sr <|Br <|Tr <|Rr
   ·refine T0 [2,3,30] ?_;refine Cd ?_ ?_
    ·refine Bd fun k f =>Te [4] (o1 36 (H8 (fun h=>hrec h) (fun h=>hrec h) f)) Ev ?_
     exact Sr <|Br <|Tr <|Rr
    ·refine Sk <|Bn <|Tn <|T0 [4] ?_
     exact Sr <|Rr
theorem KZ(n:Nat):∀{a:AsP} {b:AsP} {r:Int},Ee n a b=some r→Con B 64 [.agg [i64 a.Za,i64 a.N,.sl false (L cU8 a.B),.sl false (L cApi_Value a.L)],.agg [i64 b.Za,i64 b.N,.sl false (L cU8 b.B),.sl false (L cApi_Value b.L)]] [] (fun r' σ'=>r'=i64 r∧σ'=[]):=by
 induction n with
 |zero=>intro a b r h;cases h
 |succ n ih=>intro a b r h;exact Lq ih h
theorem My{a:AsP}{b:AsP}{r:Int}(h:GT a b=some r):Con B 64 [.agg [i64 a.Za,i64 a.N,.sl false (L cU8 a.B),.sl false (L cApi_Value a.L)],.agg [i64 b.Za,i64 b.N,.sl false (L cU8 b.B),.sl false (L cApi_Value b.L)]] [] (fun r' σ'=>r'=i64 r∧σ'=[]):=KZ _ h
theorem TP{d e r}(h:Io d e=some r):Con B 27 [.agg (Ab d),.agg (Ab e)] [] (fun r' σ'=>r'=.bool r∧σ'=[]):=by
 refine Cw 50 [.tmp 4] Tryz.func27 (fun F hE=>?_) h;unfold Io;refine T0 [2,3] ?_;refine Tw [2,3,5] (fun i=>⟨Ao 50 [(2,.ref 0 0),(3,.ref 1 0),(5,.bool i)],[.box (Ab d) false,.box (Ab e) false]⟩) ?_ ?_
 ·intro _;refine Sp (fun a=>?_) fun a=>?_
  ·refine Sp (fun b=>?_) fun b=>?_
   ·refine Sp (fun c=>?_) fun c=>?_
    ·refine Sp (fun f=>?_) fun f=>?_
     ·exact Lf Aa (Ew4 a b c f) (ws [0,1])
     ·exact Lf Aa (Ew4 a b c f) (ws [0,1])
    ·exact Lf Aa (Ew3 a b c) (ws [0,1])
   ·exact Lf Aa (Ew2 a b) (ws [0,1])
  ·exact Lf Aa (Ew1 a) (ws [0,1])
 intro i;refine Dw [[],[0],[0,1],[0,1,2],[0,1,2,3],[0,1],[0,1,5],[0,1,2,3,4,5,6],[0,1,2,3,4,5,6,7],[0,1,2,3,4,5,6,7,8],[0,1,2,3,4,5,6,7,8,9],[0,1,2,3,4,5,6,7,8,9,10]] [4] (fun j=>⟨Ao 50 [(4,.bool j)],[]⟩) ?_ ?_
 ·intro _;refine Sp (fun g=>?_) fun g=>?_
  ·refine Bd fun o k =>Bd fun p m =>Bd fun q n =>?_
   exact Lf (Bt (l:=[(43,_,_,_),(46,_,_,_),(47,_,_,_)]) ⟨IW  k,IW  m,My  n,trivial⟩) (Ew1 g) (ws [])
  ·exact Lf Aa (Ew1 g) (ws [])
 intro j;exact Sr <|Rr
theorem NM{c d r}(h:D9 c d=some r):Con B 28 [.sl false (L Ab c),.agg (Ab d)] [] (fun r' σ'=>r'=i64 r∧σ'=[]):=by
 refine Cw 85 [.tmp 4] Tryz.func28 (fun F hE=>?_) h;unfold D9;refine T0 [0,3] ?_;refine Sq <|T0 [0,3,15] ?_
 refine Cd ?_ ?_
 ·refine T0 [4] ?_;exact Sr <|Tr <|Rr
 ·refine Sk <|Tn <|T0 [0,3,5] ?_
  refine Jo (fun i=>⟨Ao 85 [(0,.sl false (L Ab c)),(3,.ref 0 0),(5,.ref 1 0)],[.box (Ab d) false,.box (C1 u8 i.l) false]⟩) ?_ ?_
  ·intro t m;refine T0 [0,3,5,18] ?_;refine Cd ?_ ?_
   ·refine Ck fun n =>Bd fun o p =>Te [0,3,5,6,7] (o1 26 (JC p)) (Ew1 (qR n)) ?_
    refine Sq ?_;refine Dw [[],[0],[0,1],[0,1,2],[0,1,2,3],[0,1,2],[0,1,2],[0,1,2,6],[0,1,2,6,7],[0,1,2,5,6,7,8],[0,1,2,5,6,7,8,9],[0,1,2,5,6,7,8,9,10],[0,1,2,3,4,5,6,7,8,9,10,11],[0,1,2,3,4,5,6,7,8,9,10,11,12]] [0,3,5,6,42] (fun j=>⟨Ao 85 [(0,.sl false (L Ab c)),(3,.ref 0 0),(5,.ref 1 0),(6,.ref 2 0),(42,.bool j)],[.box (Ab d) false,.box (C1 u8 (Arr.rep 32 (0:UInt8)).l) false,.box (C1 u8 o.1.l) false]⟩) ?_ ?_
    ·intro _;refine Sp (fun f=>?_) fun f=>?_
     ·exact Lf Aa (Ew1 f) (ws [0,1,2])
     ·refine Ck fun q=>?_
      exact Lf Aa (Ew2 f (qR q)) (ws [0,1,2])
    intro j;refine Cd ?_ ?_
    ·refine T0 [4] ?_;exact Sr <|Tr <|Jr m <|Rr
    ·refine Sk <|Tn <|F0 [0,3,5] ?_
     exact Jn (ws [0,1])
   ·exact Sk <|Jn (ws [0,1])
  intro i;refine Sq <|T0 [0,3,47] ?_
  refine Cd ?_ ?_
  ·refine T0 [4] ?_;exact Sr <|Tr <|Rr
  ·refine Sk <|Tn <|T0 [0,3,8] ?_
   refine T0 [0,3,8,9] ?_;refine Sq ?_;refine Dw [[],[],[0,1],[0,1,2],[0,1,2,3],[0,1,2,3,4],[0,1,2,3],[0,1,2,3,6],[0,1,2,3,4,5,6,7],[0,1,2,3,4,5,6,7,8],[0,1,2,3,4,5,6,7,8,9],[0,1,2,3,4,5,6,7,8,9,10],[0,1,2,3,4,5,6,7,8,9,10,11],[0,1,2,3,4,5,6,7,8,9,10,11,12],[0,1,2,3,4,5,6,7,8,9,10,11,12,13],[0,1,2,3,4,5,6,7,8,9,10,11,12,13,14],[0,1,2,3,4,5,6,7,8,9,10,11,12,13,14,15],[0,1,2,3,4,5,6,7,8,9,10,11,12,13,14],[0,1,2,3,4,5,6,7,8,9,10,11,12,13,14,17],[0,1,2,3,4,5,6,7,8,9,10,11,12,13,14,15,16,17,18],[0,1,2,3,4,5,6,7,8,9,10,11,12,13,14,15,16,17,18,19],[0,1,2,3,4,5,6,7,8,9,10,11,12,13,14,15,16,17,18,19,20],[0,1,2,3,4,5,6,7,8,9,10,11,12,13,14,15,16,17,18,19,20,21],[0,1,2,3,4,5,6,7,8,9,10,11,12,13,14,15,16,17,18,19,20,21],[0,1,2,3,4,5,6,7,8,9,10,11,12,13,14,15,16,17,18,19,20,21,23],[0,1,2,3,4,5,6,7,8,9,10,11,12,13,14,15,16,17,18,19,20,21,23,24],[0,1,2,3,4,5,6,7,8,9,10,11,12,13,14,15,16,17,18,19,20,21,22,23,24,25],[0,1,2,3,4,5,6,7,8,9,10,11,12,13,14,15,16,17,18,19,20,21,22,23,24,25,26],[0,1,2,3,4,5,6,7,8,9,10,11,12,13,14,15,16,17,18,19,20,21,22,23,24,25,26,27],[0,1,2,3,4,5,6,7,8,9,10,11,12,13,14,15,16,17,18,19,20,21,22,23,24,25,26,27,28],[0,1,2,3,4,5,6,7,8,9,10,11,12,13,14,15,16,17,18,19,20,21],[0,1,2,3,4,5,6,7,8,9,10,11,12,13,14,15,16,17,18,19,20,21,22,23,24,25,26,27,28,29,30],[0,1,2,3,4,5,6,7,8,9,10,11,12,13,14,15,16,17,18,19,20,21,22,23,24,25,26,27,28,29,30,31],[0,1,2,3,4,5,6,7,8,9,10,11,12,13,14,15,16,17,18,19,20,21,22,23,24,25,26,27,28,29,30,31,32]] [84] (fun k=>⟨Ao 85 [(84,.bool k)],[]⟩) ?_ ?_
   ·intro _;refine Sp (fun a=>?_) fun a=>?_
    ·refine Sp (fun b=>?_) fun b=>?_
     ·exact Lf Aa (Ew2 a b) (ws [])
     ·refine Sp (fun e=>?_) fun e=>?_
      ·exact Lf Aa (Ew3 a b e) (ws [])
      ·refine Sp (fun g=>?_) fun g=>?_
       ·exact Lf Aa (Ew4 a b e g) (ws [])
       ·refine Ck fun s=>?_
        exact Lf Aa (Ew5 a b e g (qR s)) (ws [])
    ·exact Lf Aa (Ew1 a) (ws [])
   intro k;refine Cd ?_ ?_
   ·refine T0 [4] ?_;exact Sr <|Tr <|Rr
   ·refine Sk <|Tn <|T0 [4] ?_
    exact Sr <|Rr
theorem Lk{a r}(h:En a=some r):Con B 29 [.sl false (L Ab a)] [] (fun r' σ'=>r'=.bs false 0 (r.length) 0 (r.length)∧σ'=[.buf 53 (L Ab r) false]):=by
 refine Co 0 8 [.tmp 2] Tryz.func29 (fun F hE=>?_) h;unfold En;refine T0 [0] ?_;refine Sq ?_;intro h;refine Se hE 0 3 4 75 52 rfl rfl rfl rfl rfl rfl rfl (by decide) Tryz.underlying75 (fun b_ hb_=>?_);cases b_
 ·revert h;refine Cf <|Sk <|Tn <|Ck fun c =>?_
  have d:=c;simp only[Atj,AtH,Ate,Ati,Atr,AtN,Nat.reduceAdd]at d;refine Lt fun b e =>Te (fr':=[(2,.bs false 0 (b.length) 0 (b.length))]) (σ':=[.buf 53 (L Ab b) false]) [2] Aa (Ew3 c d e) ?_
  exact Sr <|Ro [0]
 ·obtain rfl:a=[]:=List.map_eq_nil_iff.1 (hb_ rfl);replace h:some ([])=some r:=by first|exact h|(split at h<;>first|exact h|cases h)
  revert h;refine Ct <|T0 [2] ?_
  refine Rw (Oe 2 53 rfl) ?_;exact Sr <|Tr <|Ro [0]
theorem Nc{a b r}(h:FD a b=some r):Con B 31 [.agg (i64 a.A.Zb::i64 a.A.No::(C1 u8 a.A.Zv1.l++i64 a.A.Zw1::i64 a.A.Zx1.Za::i64 a.A.Zx1.Ref.Zb::i64 a.A.Zx1.Ref.No::i64 a.A.Zx1.Zn1::i64 a.A.Zx1.Zb1::i64 a.A.Zx1.Zc::i64 a.A.Zx1.Zo1::i64 a.A.Zx1.Zw::i64 a.A.Zx1.To::i64 a.A.Zx1.Code::i64 a.A.Zx1.Zp1::i64 a.A.Zx1.Zq1::i64 a.A.Zx1.Zr1::i64 a.A.Zx1.Zs1::.str a.A.Zx1.Zt1::.sl false (L An a.A.Zx1.Zu1)::u64 a.A.Sig.C::u64 a.A.Sig.S::i64 a.B.Zb::i64 a.B.No::(C1 u8 a.B.Zv1.l++[i64 a.B.Zw1,i64 a.B.Zx1.Za,i64 a.B.Zx1.Ref.Zb,i64 a.B.Zx1.Ref.No,i64 a.B.Zx1.Zn1,i64 a.B.Zx1.Zb1,i64 a.B.Zx1.Zc,i64 a.B.Zx1.Zo1,i64 a.B.Zx1.Zw,i64 a.B.Zx1.To,i64 a.B.Zx1.Code,i64 a.B.Zx1.Zp1,i64 a.B.Zx1.Zq1,i64 a.B.Zx1.Zr1,i64 a.B.Zx1.Zs1,.str a.B.Zx1.Zt1,.sl false (L An a.B.Zx1.Zu1),u64 a.B.Sig.C,u64 a.B.Sig.S]))),.ref 0 0] [.box (Ab b) false] (fun r' σ'=>r'=.bool r.1∧σ'=[.box (Ab r.2) false]):=by
 refine Co 1 18 [.tmp 3] Tryz.func31 (fun F hE=>?_) h;unfold FD;refine T0 [1,2] ?_;refine Tw [3] (fun d=>⟨Ao 18 [(3,.bool d)],[.box (Ab b) false]⟩) ?_ ?_
 ·intro _;refine Sp (fun c=>?_) fun c=>?_
  ·exact Lf Aa (Ew1 c) (ws [0])
  ·exact Lf Aa (Ew1 c) (ws [0])
 intro d;exact Sr <|Ro [0]
theorem GH{a ac r}(h:Cl a ac=some r):Con B 66 [.sl false (L A3 a),.fn 31 [.ref 0 0]] [.box (Ab ac) false] (fun r' σ'=>r'=i64 r.1∧σ'=[.box (Ab r.2) false]):=by
 refine Co 1 19 [.tmp 4] Tryz.func66 (fun F hE=>?_) h;unfold Cl;refine T0 [0,1] ?_;refine Jo (fun⟨ad,ae,af,ag,ah,ai,aj,ak,al,am,an,ao,ap,aq,ar,au,av,aw,ax,ay,az,aA⟩=>⟨Ao 19 [],[.box (i64 ad::i64 ae::(C1 u8 af.l++[i64 ag,i64 ah,i64 ai,i64 aj,i64 ak,i64 al,i64 am,i64 an,i64 ao,i64 ap,i64 aq,i64 ar,i64 au,i64 av,i64 aw,.str ax,.sl false (L An ay),u64 az,u64 aA])) false]⟩) ?_ ?_
 ·intro aH aD;refine T0 [0,1,7,8] ?_;refine Sb ?_;refine Lo (fun⟨b,c,d,e,f,g,i,j,k,n,o,p,q,s,t,u,v,w,x,y,z,aa,ab⟩=>⟨Ao 19 [(0,.sl false (L A3 a)),(1,.fn 31 [.ref 0 0]),(7,i64 (a.length:Int)),(8,i64 b)],[.box (i64 c::i64 d::(C1 u8 e.l++[i64 f,i64 g,i64 i,i64 j,i64 k,i64 n,i64 o,i64 p,i64 q,i64 s,i64 t,i64 u,i64 v,i64 w,i64 x,.str y,.sl false (L An z),u64 aa,u64 ab])) false]⟩) (ws [0]) ?_;rintro⟨b,c,d,e,f,g,i,j,k,n,o,p,q,s,t,u,v,w,x,y,z,aa,ab⟩ aI aE aB aC;show AW a b c d e f g i j k n o p q s t u v w x y z aa ab=some aE→_;unfold AW;refine T0 [0,1,7,8,9] ?_;refine Sq <|Cd ?_ ?_
  ·refine Sk <|Tn <|Sq <|Sb <|T0 [0,1,5,7,8] ?_
   refine Ck fun aF =>Bd fun aJ aG =>Te [0,1,5,7,8,16] (Av (l:=[]) (m:=[(16,31,[.agg (i64 (((nth a b.toNat).A).Zb)::i64 (((nth a b.toNat).A).No)::(C1 u8 (((nth a b.toNat).A).Zv1).l++i64 (((nth a b.toNat).A).Zw1)::i64 ((((nth a b.toNat).A).Zx1).Za)::i64 (((((nth a b.toNat).A).Zx1).Ref).Zb)::i64 (((((nth a b.toNat).A).Zx1).Ref).No)::i64 ((((nth a b.toNat).A).Zx1).Zn1)::i64 ((((nth a b.toNat).A).Zx1).Zb1)::i64 ((((nth a b.toNat).A).Zx1).Zc)::i64 ((((nth a b.toNat).A).Zx1).Zo1)::i64 ((((nth a b.toNat).A).Zx1).Zw)::i64 ((((nth a b.toNat).A).Zx1).To)::i64 ((((nth a b.toNat).A).Zx1).Code)::i64 ((((nth a b.toNat).A).Zx1).Zp1)::i64 ((((nth a b.toNat).A).Zx1).Zq1)::i64 ((((nth a b.toNat).A).Zx1).Zr1)::i64 ((((nth a b.toNat).A).Zx1).Zs1)::.str ((((nth a b.toNat).A).Zx1).Zt1)::.sl false (L An ((((nth a b.toNat).A).Zx1).Zu1))::u64 ((((nth a b.toNat).A).Sig).C)::u64 ((((nth a b.toNat).A).Sig).S)::i64 (((nth a b.toNat).B).Zb)::i64 (((nth a b.toNat).B).No)::(C1 u8 (((nth a b.toNat).B).Zv1).l++[i64 (((nth a b.toNat).B).Zw1),i64 ((((nth a b.toNat).B).Zx1).Za),i64 (((((nth a b.toNat).B).Zx1).Ref).Zb),i64 (((((nth a b.toNat).B).Zx1).Ref).No),i64 ((((nth a b.toNat).B).Zx1).Zn1),i64 ((((nth a b.toNat).B).Zx1).Zb1),i64 ((((nth a b.toNat).B).Zx1).Zc),i64 ((((nth a b.toNat).B).Zx1).Zo1),i64 ((((nth a b.toNat).B).Zx1).Zw),i64 ((((nth a b.toNat).B).Zx1).To),i64 ((((nth a b.toNat).B).Zx1).Code),i64 ((((nth a b.toNat).B).Zx1).Zp1),i64 ((((nth a b.toNat).B).Zx1).Zq1),i64 ((((nth a b.toNat).B).Zx1).Zr1),i64 ((((nth a b.toNat).B).Zx1).Zs1),.str ((((nth a b.toNat).B).Zx1).Zt1),.sl false (L An ((((nth a b.toNat).B).Zx1).Zu1)),u64 ((((nth a b.toNat).B).Sig).C),u64 ((((nth a b.toNat).B).Sig).S)]))),.ref 0 0],[.box (i64 c::i64 d::(C1 u8 e.l++[i64 f,i64 g,i64 i,i64 j,i64 k,i64 n,i64 o,i64 p,i64 q,i64 s,i64 t,i64 u,i64 v,i64 w,i64 x,.str y,.sl false (L An z),u64 aa,u64 ab])) false],_,_)]) trivial ⟨(wc (Nc aG) [0]),trivial⟩) (Ew1 (qR aF)) ?_
   refine Cd ?_ ?_
   ·refine T0 [4] ?_;exact Sr <|Br <|Tr <|Lr aC aB <|Br <|Jr aD <|Ro [0]
   ·refine Sk <|Bn <|Tn <|F0 [0,1,7,8] ?_
    exact Ln (ws [0])
  ·refine Sx <|Tx <|Lx aC aB <|Bx <|?_
   exact Jn ((ws (l':=[]) (σ':=[.box (i64 c::i64 d::(C1 u8 e.l++[i64 f,i64 g,i64 i,i64 j,i64 k,i64 n,i64 o,i64 p,i64 q,i64 s,i64 t,i64 u,i64 v,i64 w,i64 x,.str y,.sl false (L An z),u64 aa,u64 ab])) false]) [0]).trans (ws [0]))
 rintro⟨ad,ae,af,ag,ah,ai,aj,ak,al,am,an,ao,ap,aq,ar,au,av,aw,ax,ay,az,aA⟩;refine T0 [4] ?_;exact Sr <|Ro [0]
theorem F5{a b r}(h:Bu a b=some r):Con B 30 [.sl false (L A3 a),.fn 31 [.ref 0 0]] [.box (Ab b) false] (fun r' σ'=>r'=.bool r.1∧σ'=[.box (Ab r.2) false]):=by
 refine Co 1 9 [.tmp 4] Tryz.func30 (fun F hE=>?_) h;unfold Bu;refine T0 [0,1] ?_;refine Bd fun d c =>Te [4] (Av (l:=[]) (m:=[(7,66,[.sl false (L A3 a),.fn 31 [.ref 0 0]],[.box (Ab b) false],_,_)]) trivial ⟨(wc (GH c) [0]),trivial⟩) Ev ?_
 exact Sr <|Ro [0]
theorem Lc{a r}(h:E7 a=some r):Con B 32 [.sl false (L A3 a)] [] (fun r' σ'=>r'=.bs false 0 (r.length) 0 (r.length)∧σ'=[.buf 106 (L A3 r) false]):=by
 refine Co 0 8 [.tmp 2] Tryz.func32 (fun F hE=>?_) h;unfold E7;refine T0 [0] ?_;refine Sq ?_;intro h;refine Se hE 0 3 4 38 88 rfl rfl rfl rfl rfl rfl rfl (by decide) Tryz.underlying38 (fun b_ hb_=>?_);cases b_
 ·revert h;refine Cf <|Sk <|Tn <|Ck fun c =>?_
  have d:=c;simp only[Atj,AtH,Ate,Ati,Atr,AtN,Nat.reduceAdd]at d;refine Lt fun b e =>Te (fr':=[(2,.bs false 0 (b.length) 0 (b.length))]) (σ':=[.buf 106 (L A3 b) false]) [2] Aa (Ew3 c d e) ?_
  exact Sr <|Ro [0]
 ·obtain rfl:a=[]:=List.map_eq_nil_iff.1 (hb_ rfl);replace h:some ([])=some r:=by first|exact h|(split at h<;>first|exact h|cases h)
  revert h;refine Ct <|T0 [2] ?_
  refine Rw (Oe 2 106 rfl) ?_;exact Sr <|Tr <|Ro [0]
theorem D6{e c d r}(h:Bk e c d=some r):Con B 10 [.agg (Ar e),.agg (Aj c),.agg (Ab d)] [] (fun r' σ'=>r'=.tup [.agg (Aj r.1),i64 r.2]∧σ'=[]):=by
 refine Cw 95 [.cell 6 40,.tmp 7] Tryz.func10 (fun F hE=>?_) h;unfold Bk;refine T0 [3,4,5,6] ?_;refine Sq <|Bd fun aj t =>Te [3,4,5,6,7] (o1 11 (PF t)) Ev ?_
 refine T0 [3,4,5,6,7,13] ?_;refine Cd ?_ ?_
 ·refine T0 [6,7] ?_;exact Sr <|Tr <|Rr
 ·refine Sk <|Tn <|Bd fun a u =>Te [3,4,5,6,8] (o1 19 (KN u)) Ev ?_
  refine Sq ?_;refine Dw [[],[0],[],[2],[0,1,2,3],[0,1,2,3,4],[0,1,2,3,4,5],[0,1,2,3,4,5],[0,1,2,3,4,5,7],[0,1,2,3,4,5,7,8],[0,1,2,3,4,5,6,7,8,9],[0,1,2,3,4,5,6,7,8,9,10],[0,1,2,3,4,5],[0,1,2,3,4,5,6,7,8,9,10,11,12],[0,1,2,3,4,5,6,7,8,9,10,11,12,13]] [3,4,5,6,8,34] (fun p=>⟨Ao 95 [(3,.ref 0 0),(4,.ref 1 0),(5,.ref 2 0),(6,.ref 3 0),(8,.sl false (L Ab a)),(34,.bool p)],[.box (Ar e) false,.box (Aj c) false,.box (Ab d) false,.box [.sl true (L (cSl Ab) ([])),.sl true (L A3 ([]))] false]⟩) ?_ ?_
  ·intro _;refine Sp (fun k=>?_) fun k=>?_
   ·refine Ck fun v =>Bd fun ak w =>?_
    exact Lf (o1 33 (TP w)) (Ew2 k (qR v)) (ws [0,1,2,3])
   ·exact Lf Aa (Ew1 k) (ws [0,1,2,3])
  intro p;refine Cd ?_ ?_
  ·refine T0 [6,7] ?_;exact Sr <|Tr <|Rr
  ·refine Sk <|Tn <|Sq <|Bd fun al x =>Te [3,4,5,6,7,8] (o1 38 (NM x)) Ev ?_
   refine T0 [3,4,5,6,7,8,40] ?_;refine Cd ?_ ?_
   ·refine T0 [6,7] ?_;exact Sr <|Tr <|Rr
   ·refine Sk <|Tn <|T0 [3,4,5,6,8] ?_
    refine Sq <|T0 [3,4,5,6,8,49] ?_
    refine Cd ?_ ?_
    ·refine Ck fun y =>Lt fun n z =>Te (σ':=[_,_,_,.box [.bs true 4 (n.length) 0 (n.length),.sl false (L A3 c.Zz1)] false,.buf 1 (L (cSl Ab) n) false]) [4,5,6,8] Aa (Ew2 y z) ?_
     refine Lt fun f aa =>Te (σ':=[_,_,_,.box [.bs true 4 (f.length) 0 (f.length),.sl false (L A3 c.Zz1)] false,.buf 1 (L (cSl Ab) f) false]) [5,6,8] Aa (Ew1 aa) ?_
     refine Bd fun g ab =>Ck fun ac =>Ck fun ad =>Lt fun j q =>?_
     intro h;refine V1 hE MF [[],[0],[],[2],[],[4],[],[6],[4,5,6,7],[0,1,2,3,4,5,6,7,8],[0,1,2,3,4,5,6,7,8,9]] (by kernel_rfl) [(5,2),(6,3),(64,3),(66,2)] [(69,2),(69,3)] [(69,5)] [] [5,6,64,66,69] (by kernel_rfl) (fr':=[(5,.ref 2 0),(6,.ref 3 0),(64,.ref 3 0),(66,.ref 2 0),(69,.bs false 5 (g.length) 0 (g.length))]) (σ':=[.box (Ar e) false,.box (Aj c) false,.box (Ab d) false,.box [.bs true 4 (j.length) 0 (j.length),.sl false (L A3 c.Zz1)] false,.buf 1 ((L (cSl Ab) f).set (d.Zb.toNat) [.bs false 5 ((g++([d]:List AsM)).length) 0 ((g++([d]:List AsM)).length)]) false,.buf 53 (L Ab (g++([d]:List AsM))) false]) ⟨rfl,rfl,rfl,rfl,trivial⟩ ⟨(by exact And.intro rfl (And.intro rfl rfl)),trivial⟩ trivial ⟨_,_,(Av (l:=[]) (m:=[(69,29,[.sl false (L Ab a)],[.box (Ar e) false,.box (Aj c) false,.box (Ab d) false,.box [.bs true 4 (f.length) 0 (f.length),.sl false (L A3 c.Zz1)] false,.buf 1 (L (cSl Ab) f) false],_,_)]) trivial ⟨(wc (Lk ab) []),trivial⟩),(by repeat' (first|exact trivial|(refine And.intro ?_ ?_)|exact fun _=>rfl|exact fun h=>absurd h (by decide))),?_⟩ ?_
     ·subst q;simp only[go_sem,ac,qR ad]
     revert h;refine Rw (XL 4 5 (cr:=Ab) (lg:=f) (lg':=j) (i:=d.Zb) (row:=(g++([d]:List AsM))) (full:=false) (σ':=[.box (Ar e) false,.box (Aj c) false,.box (Ab d) false,.box [.bs true 4 (j.length) 0 (j.length),.sl false (L A3 c.Zz1)] false,.buf 1 (L (cSl Ab) j) false,.buf 53 (L Ab (g++([d]:List AsM))) true]) (by assumption) rfl rfl (by decide) gs q rfl) ?_;refine T0 [6,7] ?_;exact Sr <|Tr <|Rr
    ·refine Sk <|Tn <|?_
     refine Ja (fun s=>⟨Ao 95 [(6,.ref 0 0)],[.box [.sl false (L (cSl Ab) c.Zy1),.sl false (L A3 s)] false]⟩) ?_ ?_
     ·intro am;refine Bd fun b ae =>Te [4,5,6,8,79] (Av (l:=[]) (m:=[(78,30,[.sl false (L A3 c.Zz1),.fn 31 [.ref 2 0]],[.box (Ar e) false,.box (Aj c) false,.box (Ab d) false,.box (Aj c) false],_,_)]) trivial ⟨(wc (F5 ae) [2]),trivial⟩) Ev ?_
      refine Cd ?_ ?_
      ·refine Bd fun an af =>Ck fun ag =>Ck fun ah =>Lt fun o ai =>?_
       intro h;refine Sf hE MF [[],[0],[0,1],[],[],[4],[4,5],[3,4,5,6],[3,4,5,6,7],[],[3,4,5,6,7,8,9],[3,4,5,6,7,8,9,10],[0,1,2,3,4,5,6,7,8,9,10,11],[0,1,2,3,4,5,6,7,8,9,10,11,12],[0,1,2,3,4,5,6,7,8,9,10,11,12,13]] (by kernel_rfl) [(5,2),(84,2)] [(82,2)] [] [83,87] [5,6,83,84,87] (by kernel_rfl) P1 (fr':=[(5,.ref 2 0),(6,.ref 3 0),(83,.sl false (L Ab a)),(84,.ref 2 1),(87,.rp (i64 ((nth a ((w64 (b.2.No-1)).toNat)).Zb)::i64 ((nth a ((w64 (b.2.No-1)).toNat)).No)::(C1 u8 ((nth a ((w64 (b.2.No-1)).toNat)).Zv1).l++[i64 ((nth a ((w64 (b.2.No-1)).toNat)).Zw1),i64 (((nth a ((w64 (b.2.No-1)).toNat)).Zx1).Za),i64 ((((nth a ((w64 (b.2.No-1)).toNat)).Zx1).Ref).Zb),i64 ((((nth a ((w64 (b.2.No-1)).toNat)).Zx1).Ref).No),i64 (((nth a ((w64 (b.2.No-1)).toNat)).Zx1).Zn1),i64 (((nth a ((w64 (b.2.No-1)).toNat)).Zx1).Zb1),i64 (((nth a ((w64 (b.2.No-1)).toNat)).Zx1).Zc),i64 (((nth a ((w64 (b.2.No-1)).toNat)).Zx1).Zo1),i64 (((nth a ((w64 (b.2.No-1)).toNat)).Zx1).Zw),i64 (((nth a ((w64 (b.2.No-1)).toNat)).Zx1).To),i64 (((nth a ((w64 (b.2.No-1)).toNat)).Zx1).Code),i64 (((nth a ((w64 (b.2.No-1)).toNat)).Zx1).Zp1),i64 (((nth a ((w64 (b.2.No-1)).toNat)).Zx1).Zq1),i64 (((nth a ((w64 (b.2.No-1)).toNat)).Zx1).Zr1),i64 (((nth a ((w64 (b.2.No-1)).toNat)).Zx1).Zs1),.str (((nth a ((w64 (b.2.No-1)).toNat)).Zx1).Zt1),.sl false (L An (((nth a ((w64 (b.2.No-1)).toNat)).Zx1).Zu1)),u64 (((nth a ((w64 (b.2.No-1)).toNat)).Sig).C),u64 (((nth a ((w64 (b.2.No-1)).toNat)).Sig).S)])))]) (σ':=[.box (Ar e) false,.box (Aj c) false,.box (Ab b.2) false,.box [.sl false (L (cSl Ab) c.Zy1),.bs false 4 (o.length) 0 (o.length)] false,.buf 106 (L A3 o) false]) ⟨rfl,rfl,trivial⟩ trivial ⟨rfl,rfl,trivial⟩ ⟨_,_,(Av (l:=[]) (m:=[(82,32,[.sl false (L A3 c.Zz1)],[.box (Ar e) false,.box (Aj c) false,.box (Ab b.2) false,.box (Aj c) false],_,_)]) trivial ⟨(wc (Lc af) []),trivial⟩),(by repeat' (first|exact trivial|(refine And.intro ?_ ?_)|exact fun _=>rfl|exact fun h=>absurd h (by decide))),?_⟩ ?_
       ·subst ai;simp only[go_sem,qR ag,ah]
       revert h;exact Jm ((H3 3 1 rfl rfl rfl gs gs).trans (ws [3]))
      ·exact Sk <|Jm (ws [3])
     intro s;refine T0 [6,7] ?_;exact Sr <|Rr
theorem EN{d e b f c a r}(h:BL d e b f c a=some r):Con B 21 [.agg (Ar d),.agg (Aj e),i64 b,u64 f,i64 c,.agg (A1 a)] [] (fun r' σ'=>r'=.tup [.agg (Ab r.1),i64 r.2]∧σ'=[]):=by
 refine Cw 112 [.cell 12 52,.tmp 13] Tryz.func21 (fun F hE=>?_) h;unfold BL;refine T0 [2,3,4,6,7,11,12] ?_;refine Sq <|Bd fun y m =>Te [2,3,4,6,7,11,12,13] (o1 19 (Fj m)) Ev ?_
 refine T0 [2,3,4,6,7,11,12,13,21] ?_;refine Cd ?_ ?_
 ·refine T0 [12,13] ?_;exact Sr <|Tr <|Rr
 ·refine Sk <|Tn <|Sq <|?_
  refine Tw [2,3,4,6,7,11,12,32] (fun i=>⟨Ao 112 [(2,i64 b),(3,u64 f),(4,i64 c),(6,.ref 0 0),(7,.ref 1 0),(11,.ref 2 0),(12,.ref 3 0),(32,.bool i)],[.box (Ar d) false,.box (Aj e) false,.box (A1 a) false,.box (i64 0::i64 0::(C1 u8 (Arr.rep 32 (0:UInt8)).l++[i64 0,i64 0,i64 0,i64 0,i64 0,i64 0,i64 0,i64 0,i64 0,i64 0,i64 0,i64 0,i64 0,i64 0,i64 0,.str ([]:List UInt8),.sl true (L An ([])),u64 (0:UInt64),u64 (0:UInt64)])) false]⟩) ?_ ?_
  ·intro _;refine Sp (fun g=>?_) fun g=>?_
   ·exact Lf Aa (Ew1 g) (ws [0,1,2,3])
   ·exact Lf Aa (Ew1 g) (ws [0,1,2,3])
  intro i;refine Cd ?_ ?_
  ·refine T0 [12,13] ?_;exact Sr <|Tr <|Rr
  ·refine Sk <|Tn <|Bd fun z n =>Te [2,3,4,6,7,11,12,13,14] (o1 36 (Kd n)) Ev ?_
   refine Sq <|T0 [2,3,4,6,7,11,12,13,14,40] ?_
   refine Cd ?_ ?_
   ·refine T0 [12,13] ?_;exact Sr <|Tr <|Rr
   ·refine Sk <|Tn <|Sq <|Ck fun o =>Te [2,3,4,6,7,11,12,50] Aa (Ew1 (qR o)) ?_
    refine Cd ?_ ?_
    ·refine T0 [12,13] ?_;exact Sr <|Tr <|Rr
    ·refine Sk <|Tn <|Bd fun aa p =>Te [2,3,4,6,7,11,12,15] (o1 54 (KN p)) Ev ?_
     refine Lt fun j q =>Te (σ':=[_,_,_,_,.box (i64 b::i64 j::(C1 u8 (Arr.rep 32 (0:UInt8)).l++[i64 c,i64 a.Za,i64 a.Ref.Zb,i64 a.Ref.No,i64 a.Zn1,i64 a.Zb1,i64 a.Zc,i64 a.Zo1,i64 a.Zw,i64 a.To,i64 a.Code,i64 a.Zp1,i64 a.Zq1,i64 a.Zr1,i64 a.Zs1,.str a.Zt1,.sl false (L An a.Zu1),u64 (0:UInt64),u64 (0:UInt64)])) false]) [3,6,7,12,15,16] Aa (Ew1 q) ?_
     refine Jo (fun k=>⟨Ao 112 [(3,u64 f),(6,.ref 0 0),(7,.ref 1 0),(12,.ref 2 0),(16,.ref 3 0)],[.box (Ar d) false,.box (Aj e) false,.box (i64 0::i64 0::(C1 u8 (Arr.rep 32 (0:UInt8)).l++[i64 0,i64 0,i64 0,i64 0,i64 0,i64 0,i64 0,i64 0,i64 0,i64 0,i64 0,i64 0,i64 0,i64 0,i64 0,.str ([]:List UInt8),.sl true (L An ([])),u64 (0:UInt64),u64 (0:UInt64)])) false,.box (i64 b::i64 j::(C1 u8 k.l++[i64 c,i64 a.Za,i64 a.Ref.Zb,i64 a.Ref.No,i64 a.Zn1,i64 a.Zb1,i64 a.Zc,i64 a.Zo1,i64 a.Zw,i64 a.To,i64 a.Code,i64 a.Zp1,i64 a.Zq1,i64 a.Zr1,i64 a.Zs1,.str a.Zt1,.sl false (L An a.Zu1),u64 (0:UInt64),u64 (0:UInt64)])) false]⟩) ?_ ?_
     ·intro ab s;refine T0 [3,6,7,12,15,16,64] ?_;refine Cd ?_ ?_
      ·refine Ck fun t =>Bd fun ac u =>Te [3,6,7,12,13,16] (o1 72 (JC u)) (Ew1 (qR t)) ?_
       refine T0 [3,6,7,12,13,16,77] ?_;refine Cd ?_ ?_
       ·refine T0 [12,13] ?_;exact Sr <|Jr s <|Rr
       ·exact Sk <|Jn (ws [0,1,3,4])
      ·exact Sk <|Jn (ws [0,1,3,4])
     intro k;refine Bd fun ad v =>Te [3,6,7,12,13,16,17] (o1 82 (LD v)) Ev ?_
     refine Sq <|T0 [3,6,7,12,13,16,17,86] ?_
     refine Cd ?_ ?_
     ·refine T0 [12,13] ?_;exact Sr <|Tr <|Rr
     ·refine Sk <|Tn <|Sq <|Bd fun ae w =>Te [6,7,12,13,16] (o1 92 (Ua w)) Ev ?_
      refine T0 [6,7,12,13,16,97] ?_;refine Cd ?_ ?_
      ·refine T0 [12,13] ?_;exact Sr <|Tr <|Rr
      ·refine Sk <|Tn <|Sq <|Bd fun af x =>Te [12,13,16] (o1 104 (D6 x)) Ev ?_
       refine T0 [12,13,16,108] ?_;refine Cd ?_ ?_
       ·refine T0 [12,13] ?_;exact Sr <|Tr <|Rr
       ·refine Sk <|Tn <|T0 [12,13] ?_
        exact Sr <|Rr
theorem GU{a b r}(h:BG a b=some r):Con B 94 [.agg (A1 a),u8 b] [] (fun r' σ'=>r'=i64 r∧σ'=[]):=by
 refine Cw 48 [.tmp 4] Tryz.func94 (fun F hE=>?_) h;unfold BG;refine T0 [1,2] ?_;refine Sq <|T0 [2,5] ?_
 refine Sb <|T0 [2,5,6] ?_
 refine Cd ?_ ?_
 ·refine T0 [4] ?_;exact Sr <|Br <|Tr <|Rr
 ·refine T0 [2,5,10] ?_;refine Cd ?_ ?_
  ·refine T0 [4] ?_;exact Sr <|Br <|Tr <|Rr
  ·refine T0 [2,5,14] ?_;refine Cd ?_ ?_
   ·refine T0 [4] ?_;exact Sr <|Br <|Tr <|Rr
   ·refine T0 [2,5,18] ?_;refine Cd ?_ ?_
    ·refine T0 [4] ?_;exact Sr <|Br <|Tr <|Rr
    ·refine T0 [2,5,22] ?_;refine Cd ?_ ?_
     ·refine T0 [4] ?_;exact Sr <|Br <|Tr <|Rr
     ·refine T0 [2,5,26] ?_;refine Cd ?_ ?_
      ·refine T0 [4] ?_;exact Sr <|Br <|Tr <|Rr
      ·refine T0 [2,5,30] ?_;refine Cd ?_ ?_
       ·refine T0 [4] ?_;exact Sr <|Br <|Tr <|Rr
       ·refine T0 [2,5,34] ?_;refine Cd ?_ ?_
        ·refine T0 [4] ?_;exact Sr <|Br <|Tr <|Rr
        ·refine T0 [2,5,38] ?_;refine Cd ?_ ?_
         ·refine T0 [4] ?_;exact Sr <|Br <|Tr <|Rr
         ·refine T0 [2,42] ?_;refine Cd ?_ ?_
          ·refine T0 [4] ?_;exact Sr <|Br <|Tr <|Rr
          ·refine Sk <|Bn <|Tn <|T0 [4] ?_
           exact Sr <|Rr
theorem Mr{a b r}(h:FP a b=some r):Con B 95 [.sl false (L An a),.sl false (L An b)] [] (fun r' σ'=>r'=.bool r∧σ'=[]):=by
 refine Cw 26 [.tmp 4] Tryz.func95 (fun F hE=>?_) h;unfold FP;refine T0 [0,1] ?_;refine Sq <|T0 [0,1,10] ?_
 refine Cd ?_ ?_
 ·refine T0 [4] ?_;exact Sr <|Tr <|Rr
 ·refine Sk <|Tn <|?_
  refine Jo (fun _=>⟨Ao 26 [],[]⟩) ?_ ?_
  ·intro m f;refine T0 [0,1,5] ?_;refine Sb ?_;refine Lo (fun c=>⟨Ao 26 [(0,.sl false (L An a)),(1,.sl false (L An b)),(5,i64 c)],[]⟩) (ws []) ?_;rintro c n g d e;show CZ a b c=some g→_;unfold CZ;refine Sq <|T0 [0,1,5,14] ?_
   refine Cd ?_ ?_
   ·refine Sk <|Tn <|Sq <|Sb <|Ck fun i =>Ck fun j =>Lt fun k l =>De (fr':=[(0,_),(1,_),(5,_),(25,.bool k)]) [[],[],[0,1],[0,1,2],[],[],[4,5],[4,5,6],[0,1,2,3,4,5,6,7]] [0,1,5,25] Aa (Ew3 (qR i) (qR j) l) ?_
    refine Cd ?_ ?_
    ·refine T0 [4] ?_;exact Sr <|Br <|Tr <|Lr e d <|Br <|Jr f <|Rr
    ·refine Sk <|Bn <|Tn <|F0 [0,1,5] ?_
     exact Ln (ws [])
   ·refine Sx <|Tx <|Lx e d <|Bx <|?_
    exact Jn ((ws (l':=[]) (σ':=[]) []).trans (ws []))
  intro _;refine T0 [4] ?_;exact Sr <|Rr
theorem Up{a b r}(h:Mc a b=some r):Con B 55 [.agg (A1 a),.agg (A1 b)] [] (fun r' σ'=>r'=.bool r∧σ'=[]):=by
 refine Cw 45 [.tmp 4] Tryz.func55 (fun F hE=>?_) h;unfold Mc;refine T0 [2,3] ?_;refine Jo (fun _=>⟨Ao 45 [(2,.ref 0 0),(3,.ref 1 0)],[.box (A1 a) false,.box (A1 b) false]⟩) ?_ ?_
 ·intro u o;refine T0 [2,3,5] ?_;refine Sb ?_;refine Lo (fun e=>⟨Ao 45 [(2,.ref 0 0),(3,.ref 1 0),(5,i64 e)],[.box (A1 a) false,.box (A1 b) false]⟩) (ws [0,1]) ?_;rintro e v p g i;show Gt a b e=some p→_;unfold Gt;refine Sq <|T0 [2,3,5,7] ?_
  refine Cd ?_ ?_
  ·refine Sk <|Tn <|Sq <|Sb <|Ck fun j =>?_
   have k:=j;simp only[Atj,AtH,Ate,Ati,Atr,AtN,Nat.reduceAdd]at k;refine Bd fun w q =>Ck fun l =>?_
   have m:=l;simp only[Atj,AtH,Ate,Ati,Atr,AtN,Nat.reduceAdd]at m;refine Bd fun x s =>De [[],[],[1],[0,1,2],[],[],[5],[0,1,2,3,4,5,6],[0,1,2,3,4,5,6,7]] [2,3,5,18] (o2 13 (GU q) 17 (GU s)) (Ew4 (qR j) k (qR l) m) ?_
   refine Cd ?_ ?_
   ·refine T0 [4] ?_;exact Sr <|Br <|Tr <|Lr i g <|Br <|Jr o <|Rr
   ·refine Sk <|Bn <|Tn <|F0 [2,3,5] ?_
    exact Ln (ws [0,1])
  ·refine Sx <|Tx <|Lx i g <|Bx <|?_
   exact Jn ((ws (l':=[(2,.ref 0 0),(3,.ref 1 0)]) (σ':=[.box (A1 a) false,.box (A1 b) false]) [0,1]).trans (ws [0,1]))
 intro _;refine Tw [4] (fun n=>⟨Ao 45 [(4,.bool n)],[]⟩) ?_ ?_
 ·intro _;refine Sp (fun c=>?_) fun c=>?_
  ·refine Sp (fun d=>?_) fun d=>?_
   ·refine Sp (fun f=>?_) fun f=>?_
    ·refine Bd fun y t=>?_
     exact Lf (o1 43 (Mr t)) (Ew3 c d f) (ws [])
    ·exact Lf Aa (Ew3 c d f) (ws [])
   ·exact Lf Aa (Ew2 c d) (ws [])
  ·exact Lf Aa (Ew1 c) (ws [])
 intro n;exact Sr <|Rr
theorem Dd{f g r}(h:Cu f g=some r):Con B 19 [.agg (Ab f),.agg (Ab g)] [] (fun r' σ'=>r'=.bool r∧σ'=[]):=by
 refine Cw 45 [.tmp 4] Tryz.func19 (fun F hE=>?_) h;unfold Cu;refine T0 [2,3] ?_;refine Tw [4] (fun i=>⟨Ao 45 [(4,.bool i)],[]⟩) ?_ ?_
 ·intro _;refine Sp (fun a=>?_) fun a=>?_
  ·refine Sp (fun b=>?_) fun b=>?_
   ·refine Sp (fun c=>?_) fun c=>?_
    ·refine Sp (fun d=>?_) fun d=>?_
     ·refine Sp (fun e=>?_) fun e=>?_
      ·refine Bd fun k j=>?_
       exact Lf (o1 43 (Up j)) (Ew5 a b c d e) (ws [])
      ·exact Lf Aa (Ew5 a b c d e) (ws [])
     ·exact Lf Aa (Ew4 a b c d) (ws [])
    ·exact Lf Aa (Ew3 a b c) (ws [])
   ·exact Lf Aa (Ew2 a b) (ws [])
  ·exact Lf Aa (Ew1 a) (ws [])
 intro i;exact Sr <|Rr
theorem Oq{a b r}(h:H0 a b=some r):Con B 16 [.sl false (L Ab a),.sl false (L Ab b)] [] (fun r' σ'=>r'=.bool r∧σ'=[]):=by
 refine Cw 27 [.tmp 4] Tryz.func16 (fun F hE=>?_) h;unfold H0;refine T0 [0,1] ?_;refine Sq <|T0 [0,1,10] ?_
 refine Cd ?_ ?_
 ·refine T0 [4] ?_;exact Sr <|Tr <|Rr
 ·refine Sk <|Tn <|?_
  refine Jo (fun _=>⟨Ao 27 [],[]⟩) ?_ ?_
  ·intro l f;refine T0 [0,1,5] ?_;refine Sb ?_;refine Lo (fun c=>⟨Ao 27 [(0,.sl false (L Ab a)),(1,.sl false (L Ab b)),(5,i64 c)],[]⟩) (ws []) ?_;rintro c m g d e;show DT a b c=some g→_;unfold DT;refine Sq <|T0 [0,1,5,14] ?_
   refine Cd ?_ ?_
   ·refine Sk <|Tn <|Sq <|Sb <|Ck fun i =>Ck fun j =>Bd fun n k =>De [[],[],[0,1],[0,1,2],[],[],[4,5],[4,5,6],[0,1,2,3,4,5,6,7],[0,1,2,3,4,5,6,7,8]] [0,1,5,26] (o1 25 (Dd k)) (Ew2 (qR i) (qR j)) ?_
    refine Cd ?_ ?_
    ·refine T0 [4] ?_;exact Sr <|Br <|Tr <|Lr e d <|Br <|Jr f <|Rr
    ·refine Sk <|Bn <|Tn <|F0 [0,1,5] ?_
     exact Ln (ws [])
   ·refine Sx <|Tx <|Lx e d <|Bx <|?_
    exact Jn ((ws (l':=[]) (σ':=[]) []).trans (ws []))
  intro _;refine T0 [4] ?_;exact Sr <|Rr
theorem Ks{a b r}(h:EY a b=some r):Con B 12 [.agg (Aj a),.agg (Aj b)] [] (fun r' σ'=>r'=.bool r∧σ'=[]):=by
 refine Cw 79 [.tmp 4] Tryz.func12 (fun F hE=>?_) h;unfold EY;refine T0 [2,3] ?_;refine Sq ?_;refine Tw [2,3,22] (fun g=>⟨Ao 79 [(2,.ref 0 0),(3,.ref 1 0),(22,.bool g)],[.box (Aj a) false,.box (Aj b) false]⟩) ?_ ?_
 ·intro _;refine Sp (fun d=>?_) fun d=>?_
  ·exact Lf Aa (Ew1 d) (ws [0,1])
  ·exact Lf Aa (Ew1 d) (ws [0,1])
 intro g;refine Cd ?_ ?_
 ·refine T0 [4] ?_;exact Sr <|Tr <|Rr
 ·refine Sk <|Tn <|?_
  refine Jo (fun _=>⟨Ao 79 [(2,.ref 0 0),(3,.ref 1 0)],[.box (Aj a) false,.box (Aj b) false]⟩) ?_ ?_
  ·intro ab q;refine T0 [2,3,5] ?_;refine Sb ?_;refine Lo (fun e=>⟨Ao 79 [(2,.ref 0 0),(3,.ref 1 0),(5,i64 e)],[.box (Aj a) false,.box (Aj b) false]⟩) (ws [0,1]) ?_;rintro e ac s i j;show Gp a b e=some s→_;unfold Gp;refine Sq <|T0 [2,3,5,27] ?_
   refine Cd ?_ ?_
   ·refine Sk <|Tn <|Sq <|Sb <|Ck fun t =>Ck fun u =>Bd fun ad v =>De [[],[0],[],[0,1,2],[0,1,2,3],[],[5],[],[5,6,7],[5,6,7,8],[0,1,2,3,4,5,6,7,8,9],[0,1,2,3,4,5,6,7,8,9,10]] [2,3,5,41] (o1 40 (Oq v)) (Ew2 (qR t) (qR u)) ?_
    refine Cd ?_ ?_
    ·refine T0 [4] ?_;exact Sr <|Br <|Tr <|Lr j i <|Br <|Jr q <|Rr
    ·refine Sk <|Bn <|Tn <|F0 [2,3,5] ?_
     exact Ln (ws [0,1])
   ·refine Sx <|Tx <|Lx j i <|Bx <|?_
    exact Jn ((ws (l':=[(2,.ref 0 0),(3,.ref 1 0)]) (σ':=[.box (Aj a) false,.box (Aj b) false]) [0,1]).trans (ws [0,1]))
  intro _;refine Jo (fun _=>⟨Ao 79 [],[]⟩) ?_ ?_
  ·intro ae w;refine T0 [2,3,6] ?_;refine Sb ?_;refine Lo (fun c=>⟨Ao 79 [(2,.ref 0 0),(3,.ref 1 0),(6,i64 c)],[.box (Aj a) false,.box (Aj b) false]⟩) (ws [0,1]) ?_;rintro c af x k l;show Gg a b c=some x→_;unfold Gg;refine Sq <|T0 [2,3,6,46] ?_
   refine Cd ?_ ?_
   ·refine Sk <|Tn <|Sq <|Sb <|?_
    refine Dw [[],[0],[],[0,1,2],[0,1,2,3],[0,1,2,3,4],[],[6],[],[6,7,8],[6,7,8,9],[6,7,8,9,10],[0,1,2,3,4,5,6,7,8,9,10,11],[0,1,2,3,4,5,6,7,8,9,10,11,12],[0,1,2,3,4,5,6,7,8,9,10,11,12,13],[0,1,2,3,4,5,6,7,8,9,10,11,12,13,14],[0,1,2,3,4,5,6,7,8,9,10,11,12,13,14,15],[0,1,2,3,4,5,6,7,8,9,10,11,12,13,14],[0,1,2,3,4,5,6,7,8,9,10,11,12,13,14,15,16,17],[0,1,2,3,4,5,6,7,8,9,10,11,12,13,14,15,16,17,18],[0,1,2,3,4,5,6,7,8,9,10,11,12,13,14,15,16,17,18,19],[0,1,2,3,4,5,6,7,8,9,10,11,12,13,14],[0,1,2,3,4,5,6,7,8,9,10,11,12,13,14,21],[0,1,2,3,4,5,6,7,8,9,10,11,12,13,14],[0,1,2,3,4,5,6,7,8,9,10,11,12,13,14,21,22,23],[0,1,2,3,4,5,6,7,8,9,10,11,12,13,14,21,22,23,24],[0,1,2,3,4,5,6,7,8,9,10,11,12,13,14,21,22,23,24,25],[0,1,2,3,4,5,6,7,8,9,10,11,12,13,14,15,16,17,18,19,20,21,22,23,24,25,26],[0,1,2,3,4,5,6,7,8,9,10,11,12,13,14,15,16,17,18,19,20,21,22,23,24,25,26,27],[0,1,2,3,4,5,6,7,8,9,10,11,12,13,14,15,16,17,18,19,20,21,22,23,24,25,26,27,28]] [2,3,6,78] (fun m=>⟨Ao 79 [(2,.ref 0 0),(3,.ref 1 0),(6,i64 c),(78,.bool m)],[.box (Aj a) false,.box (Aj b) false]⟩) ?_ ?_
    ·intro _;refine Ck fun n =>Ck fun o =>Bd fun ag p =>?_
     refine Sp (fun f=>?_) fun f=>?_
     ·exact Lf (o1 61 (Dd p)) (Ew3 (qR n) (qR o) f) (ws [0,1])
     ·refine Ck fun y =>Ck fun z =>Bd fun ah aa =>?_
      exact Lf (o2 61 (Dd p) 76 (Dd aa)) (Ew5 (qR n) (qR o) f (qR y) (qR z)) (ws [0,1])
    intro m;refine Cd ?_ ?_
    ·refine T0 [4] ?_;exact Sr <|Br <|Tr <|Lr l k <|Br <|Jr w <|Rr
    ·refine Sk <|Bn <|Tn <|F0 [2,3,6] ?_
     exact Ln (ws [0,1])
   ·refine Sx <|Tx <|Lx l k <|Bx <|?_
    exact Jn ((ws (l':=[]) (σ':=[]) []).trans (ws []))
  intro _;refine T0 [4] ?_;exact Sr <|Rr
theorem C4{a b r}(h:DJ a b=some r):Con B 23 [.agg (Aj a),i64 b] [] (fun r' σ'=>r'=i64 r∧σ'=[]):=by
 refine Cw 41 [.tmp 4] Tryz.func23 (fun F hE=>?_) h;unfold DJ;refine T0 [1,2,4] ?_;refine Ja (fun i=>⟨Ao 41 [(4,i64 i)],[]⟩) ?_ ?_
 ·intro bu;refine T0 [1,4,8,9,10] ?_;refine Sb ?_;refine Lo (fun(v:Int×Int)=>(⟨Ao 41 [(1,i64 b),(4,i64 v.1),(8,.sl false (L A3 a.Zz1)),(9,i64 (a.Zz1.length:Int)),(10,i64 v.2)],[]⟩:St)) (ws []) ?_;rintro⟨e,f⟩ bv aI aJ aK;show HU a b e f=some aI→_;unfold HU;refine T0 [1,4,8,9,10,11] ?_;refine Sq <|Cd ?_ ?_
  ·refine Sk <|Tn <|?_
   refine Ja (fun j=>⟨Ao 41 [(1,i64 b),(4,i64 j),(8,.sl false (L A3 a.Zz1)),(9,i64 (a.Zz1.length:Int)),(10,i64 f)],[]⟩) ?_ ?_
   ·intro bw;refine Sb <|Ck fun aL =>Lt fun k aM =>Lt fun m aN =>Lt fun n aO =>Lt fun o aP =>Lt fun p aQ =>Lt fun q aR =>Lt fun s aS =>Lt fun t aT =>Lt fun u aU =>Lt fun w aV =>Lt fun x aW =>Lt fun y aX =>Lt fun z aY =>Lt fun aa aZ =>Lt fun ab a0 =>Lt fun ac a1 =>Lt fun ad a2 =>Lt fun ae a3 =>Lt fun af a4 =>Lt fun ag a5 =>Lt fun ah a6 =>Lt fun ai a7 =>Lt fun aj a8 =>Lt fun ak a9 =>Lt fun al ba =>Lt fun am bb =>Lt fun an bc =>Lt fun ao bd =>Lt fun ap be =>Lt fun aq bf =>Lt fun ar bg =>Lt fun au bh =>Lt fun av bi =>Lt fun aw bj =>Lt fun ax bk =>Lt fun ay bl =>Lt fun az bm =>Lt fun aA bn =>Lt fun aB bo =>Lt fun aC bp =>Lt fun aD bq =>Lt fun aE br =>Lt fun aF bs =>Lt fun aG bt =>Te (σ':=[.box (i64 k::i64 m::(C1 u8 n.l++i64 o::i64 p::i64 q::i64 s::i64 t::i64 u::i64 w::i64 x::i64 y::i64 z::i64 aa::i64 ab::i64 ac::i64 ad::i64 ae::.str af::.sl false (L An ag)::u64 ah::u64 ai::i64 aj::i64 ak::(C1 u8 al.l++[i64 am,i64 an,i64 ao,i64 ap,i64 aq,i64 ar,i64 au,i64 av,i64 aw,i64 ax,i64 ay,i64 az,i64 aA,i64 aB,i64 aC,.str aD,.sl false (L An aE),u64 aF,u64 aG]))) false]) [1,4,6,8,9,10] Aa (Ev (by simp only[go_sem,qR aL,aM,aN,aO,aP,aQ,aR,aS,aT,aU,aV,aW,aX,aY,aZ,a0,a1,a2,a3,a4,a5,a6,a7,a8,a9,ba,bb,bc,bd,be,bf,bg,bh,bi,bj,bk,bl,bm,bn,bo,bp,bq,br,bs,bt];exact AL)) ?_
    refine Tw [1,4,6,8,9,10,35] (fun aH=>⟨Ao 41 [(1,i64 b),(4,i64 e),(6,.ref 0 0),(8,.sl false (L A3 a.Zz1)),(9,i64 (a.Zz1.length:Int)),(10,i64 f),(35,.bool aH)],[.box (i64 k::i64 m::(C1 u8 n.l++i64 o::i64 p::i64 q::i64 s::i64 t::i64 u::i64 w::i64 x::i64 y::i64 z::i64 aa::i64 ab::i64 ac::i64 ad::i64 ae::.str af::.sl false (L An ag)::u64 ah::u64 ai::i64 aj::i64 ak::(C1 u8 al.l++[i64 am,i64 an,i64 ao,i64 ap,i64 aq,i64 ar,i64 au,i64 av,i64 aw,i64 ax,i64 ay,i64 az,i64 aA,i64 aB,i64 aC,.str aD,.sl false (L An aE),u64 aF,u64 aG]))) false]⟩) ?_ ?_
    ·intro _;refine Sp (fun c=>?_) fun c=>?_
     ·refine Sp (fun d=>?_) fun d=>?_
      ·refine Sp (fun g=>?_) fun g=>?_
       ·exact Lf Aa (Ew3 c d g) (ws [0])
       ·exact Lf Aa (Ew3 c d g) (ws [0])
      ·exact Lf Aa (Ew2 c d) (ws [0])
     ·exact Lf Aa (Ew1 c) (ws [0])
    intro aH;refine Cd ?_ ?_
    ·refine F0 [1,4,8,9,10] ?_;exact Bn <|Jm (ws [])
    ·exact Sk <|Bn <|Jm (ws [])
   intro j;refine F0 [1,4,8,9,10] ?_;exact Ln (ws [])
  ·refine Sx <|Tx <|Ly aK aJ <|Bx <|?_
   exact Jm ((ws (l':=[(4,i64 e)]) (σ':=[]) []).trans (ws []))
 intro i;refine T0 [4] ?_;exact Sr <|Rr
theorem NO{a r}(h:Kt a=some r):Con B 61 [.agg (Aj a)] [] (fun r' σ'=>r'=.agg (Aj r)∧σ'=[]):=by
 refine Cw 34 [.cell 2 40] Tryz.func61 (fun F hE=>?_) h;unfold Kt;refine T0 [1,2] ?_;refine Ja (fun c=>⟨Ao 34 [(2,.ref 0 0)],[.box [.bs false 1 (c.length) 0 (c.length),.sl true (L A3 ([]))] false,.buf 1 (L (cSl Ab) c) false]⟩) ?_ ?_
 ·intro u;refine T0 [1,2,7,8,9] ?_;refine Sb ?_;refine Lo (fun(v:Int×List (List AsM))=>(⟨Ao 34 [(1,.ref 0 0),(2,.ref 1 0),(7,.sl false (L (cSl Ab) a.Zy1)),(8,i64 (a.Zy1.length:Int)),(9,i64 v.1)],[.box (Aj a) false,.box [.bs false 2 (v.2.length) 0 (v.2.length),.sl true (L A3 ([]))] false,.buf 1 (L (cSl Ab) v.2) false]⟩:St)) ((HG 1 0 1 rfl rfl).trans (ws [0,1,2])) ?_;rintro⟨e,b⟩ w g i j;show Hv a e b=some g→_;unfold Hv;refine T0 [1,2,7,8,9,10] ?_;refine Sq <|Cd ?_ ?_
  ·refine Sk <|Tn <|Sq <|Sb <|Ck fun k =>Lt fun l m =>Te (fr':=[(1,_),(2,_),(3,_),(4,.sl false (L Ab l)),(7,_),(8,_),(9,_)]) [1,2,3,4,7,8,9] Aa (Ew2 (qR k) m) ?_
   refine Ja (fun f=>⟨Ao 34 [(1,.ref 0 0),(2,.ref 1 0),(4,.sl false (L Ab f)),(7,.sl false (L (cSl Ab) a.Zy1)),(8,i64 (a.Zy1.length:Int)),(9,i64 e)],[.box (Aj a) false,.box [.bs false 2 (b.length) 0 (b.length),.sl true (L A3 ([]))] false,.buf 1 (L (cSl Ab) b) false]⟩) ?_ ?_
   ·intro x;refine Bd fun y n =>Te [1,2,4,5,7,8,9] (o1 16 (C4 n)) Ev ?_
    refine T0 [1,2,4,5,7,8,9,18] ?_;refine Cd ?_ ?_
    ·refine Ck fun o =>Lt fun p q =>Fe (fr':=[(1,_),(2,_),(4,.sl false (L Ab p)),(7,_),(8,_),(9,_)]) [1,2,4,7,8,9] Aa (Ew2 o q) ?_
     exact Jm (ws [0,1,2])
    ·exact Sk <|Jm (ws [0,1,2])
   intro f;refine Ck fun s =>Lt fun d t =>Fe (σ':=[_,.box [.bs false 2 (d.length) 0 (d.length),.sl true (L A3 ([]))] false,.buf 1 (L (cSl Ab) d) false,_]) [1,2,7,8,9] Aa (Ew2 s t) ?_
   refine Bn <|Tn <|F0 [1,2,7,8,9] ?_
   exact Ln (ws [0,1,2])
  ·refine Sx <|Tx <|Ly j i <|Bx <|?_
   exact Jm ((ws (l':=[(2,.ref 0 0)]) (σ':=[.box [.bs false 1 (b.length) 0 (b.length),.sl true (L A3 ([]))] false,.buf 1 (L (cSl Ab) b) false]) [1,2]).trans (ws [0,1]))
 intro c;refine T0 [2] ?_;exact Sr <|Rr
theorem Nk{a r}(h:Od a=some r):Con B 62 [.agg (Aj a)] [] (fun r' σ'=>r'=.fn 100 [.ref 0 0]∧σ'=[.box (Aj r) false]):=by
 refine Co 0 4 [.tmp 2] Tryz.func62 (fun F hE=>?_) h;unfold Od;refine T0 [1] ?_;refine T0 [2] ?_;exact Sr <|Ro [0]
theorem Akc{F:Out}{σ:Ad}{id:Nat}{a b:Int}{x:AV}:VI (B.env F) σ 138 (.mref id) (.agg [i64 a,i64 b]) x=(if U4 a b then(match σ[id]? with
 |some (.mp es)=>if x.closed=true then some (σ.set id (.mp (NL es (a,b) x)))else none
 |_=>none)else none):=Adx rfl rfl
attribute [local go_sem] Akc
theorem DO{n r}(h:BP n=some r):Con B 24 [.agg (Aj n)] [] (fun r' σ'=>r'=.sl false (L AB r)∧σ'=[]):=by
 refine Cm 78 [.cell 2 85] Tryz.func24 (fun F b_ hE=>?_) h;unfold BP;refine T0 [1,2] ?_;refine Bd fun c aq =>Te [2,3] (o1 14 (NO aq)) Ev ?_
 refine T0 [2,3,4] ?_;refine T0 [2,3,4,5] ?_;refine Sq <|Bd fun d ar =>Te [2,3,4,5,17] (Av (l:=[]) (m:=[(17,62,[.agg (Aj c)],[.box (Aj n) false,.box [.sl true (L AB ([]))] false,.box (Aj c) false,.box [i64 0,i64 0] false,.mp (M2 F2 ([])),.box [.mref 4] false],_,_)]) trivial ⟨(wc (Nk ar) []),trivial⟩) Ev ?_
 refine Sb ?_;refine Rw (ws (l':=[(2,.ref 0 0),(3,.ref 1 0),(4,.ref 2 0),(5,.ref 3 0),(17,.fn 100 [.ref 4 0])]) (σ':=[.box [.sl true (L AB ([]))] false,.box (Aj c) false,.box [i64 0,i64 0] false,.box [.mref 5] false,.box (Aj d) false,.mp (M2 F2 ([]))]) [1,2,3,5,6,4]) ?_;refine Bd ?_;rintro b hx_x_9418 hP_x_9418;refine Ra (fun(v:List ((Int×Int)×AsR))=>[.box [.sl true (L AB ([]))] false,.box (Aj c) false,.box [i64 0,i64 0] false,.box [.mref 5] false,.box (Aj d) false,.mp (M2 F2 v)]) [(4,.ref 2 0),(5,.ref 3 0)] 6 [.box [.sl true (L AB ([]))] false,.box (Aj c) false,.box [i64 0,i64 0] false,.box [.mref 5] false,.box (Aj d) false,.mp (M2 F2 ([]))] [.box [.sl true (L AB ([]))] false,.box (Aj c) false,.box [i64 0,i64 0] false,.box [.mref 5] false,.box (Aj d) false,.mp (M2 F2 b),.gone] ?_ ?_ hx_x_9418 (⟨⟨by decide,rfl⟩,⟨by decide,rfl⟩,trivial⟩)
 ·intro lp_ ac_ bd_;rintro b j k f v_;show Hn b j k f=some v_→Run _ _ _ ⟨Ao 78 [(19,.agg (Ab f)),(18,.agg [i64 j,i64 k]),(4,.ref 2 0),(5,.ref 3 0)],[.box [.sl true (L AB ([]))] false,.box (Aj c) false,.box [i64 0,i64 0] false,.box [.mref 5] false,.box (Aj d) false,.mp (M2 F2 b),.lp false 78 [(4,.ref 2 0),(5,.ref 3 0)] #[18,19] ac_ bd_,.box (Ab f) false]⟩ _;have hE:=ok.env { F:=F,rd:=some lp_ };unfold Hn;refine T0 [4,5,6,19] ?_;refine F0 [4,5,6,7] ?_;refine Wp (Weak.refl _ _) ?_;refine Yb (N':=0) [.box [.sl true (L AB ([]))] false,.box (Aj c) false,.box [i64 0,i64 0] false,.box [.mref 5] false,.box (Aj d) false,.mp (M2 F2 b),.lp true 78 [(4,.ref 2 0),(5,.ref 3 0)] #[18,19] ac_ bd_,.box (Ab f) false,.box [i64 j,i64 k] false,.box (Ab f) false] ?_;refine Sb <|T0 [4,5,6,7,8] ?_
  refine Tw [5,6,7,8,32] (fun s=>⟨Ao 78 [(5,.ref 3 0),(6,.ref 7 0),(7,.ref 8 0),(8,.ref 9 0),(32,.bool s)],[.box [.sl true (L AB ([]))] false,.box (Aj c) false,.box [i64 0,i64 0] false,.box [.mref 5] false,.box (Aj d) false,.mp (M2 F2 b),.lp true 78 [(4,.ref 2 0),(5,.ref 3 0)] #[18,19] ac_ bd_,.box [i64 j,i64 k] false,.box (Ab f) false,.box [i64 f.Zx1.Ref.Zb,i64 f.Zx1.Ref.No] false]⟩) ?_ ?_
  ·intro _;refine Sp (fun o=>?_) fun o=>?_
   ·exact Lf Aa (Ew1 o) (ws [0,1,2,3,4,5,6,8,9,10])
   ·exact Lf Aa (Ew1 o) (ws [0,1,2,3,4,5,6,8,9,10])
  intro s;refine Cd ?_ ?_
  ·refine Ck fun au =>Lt fun t av =>Fe (σ':=[_,_,_,_,_,.mp (M2 F2 t),_,_,_,_]) [] Aa (Ew2 au av) ?_
   refine Bn ?_;refine Wp (ws (l':=[]) (σ':=[.box [.sl true (L AB ([]))] false,.box (Aj c) false,.box [i64 0,i64 0] false,.box [.mref 5] false,.box (Aj d) false,.mp (M2 F2 t),.lp true 78 [(4,.ref 2 0),(5,.ref 3 0)] #[18,19] ac_ bd_]) [0,1,2,3,4,5,6]) ?_;exact Yf
  ·refine Sk <|Bn <|?_
   refine Wp (ws (l':=[]) (σ':=[.box [.sl true (L AB ([]))] false,.box (Aj c) false,.box [i64 0,i64 0] false,.box [.mref 5] false,.box (Aj d) false,.mp (M2 F2 b),.lp true 78 [(4,.ref 2 0),(5,.ref 3 0)] #[18,19] ac_ bd_]) [0,1,2,3,4,5,6]) ?_;exact Yf
 ·revert hP_x_9418;refine Bn <|Tn <|?_
  refine Rw (ws (l':=[(2,.ref 0 0),(3,.ref 1 0),(4,.ref 2 0),(5,.ref 3 0)]) (σ':=[.box [.sl true (L AB ([]))] false,.box (Aj c) false,.box [i64 0,i64 0] false,.box [.mref 5] false,.box (Aj d) false,.mp (M2 F2 b)]) [0,1,2,3,4,5]) ?_;refine Sq <|Bd fun e aw =>Te [2,4,5,43] (Av (l:=[]) (m:=[(43,62,[.agg (Aj c)],[.box [.sl true (L AB ([]))] false,.box (Aj c) false,.box [i64 0,i64 0] false,.box [.mref 5] false,.box (Aj d) false,.mp (M2 F2 b)],_,_)]) trivial ⟨(wc (Nk aw) []),trivial⟩) Ev ?_
  refine Sb ?_;refine Rw ((HG 0 0 21 rfl rfl).trans (ws (l':=[(2,.ref 0 0),(4,.ref 1 0),(5,.ref 2 0),(43,.fn 100 [.ref 3 0])]) (σ':=[.box [.bs false 4 (([]:List AsR).length) 0 (([]:List AsR).length)] false,.box [i64 0,i64 0] false,.box [.mref 5] false,.box (Aj e) false,.buf 21 (L AB ([])) false,.mp (M2 F2 b)]) [0,2,3,6,7,5])) ?_;refine Bd ?_;rintro a hx_x_9587 hP_x_9587;refine Ra (fun(v:List AsR)=>[.box [.bs false 4 (v.length) 0 (v.length)] false,.box [i64 0,i64 0] false,.box [.mref 5] false,.box (Aj e) false,.buf 21 (L AB v) false,.mp (M2 F2 b)]) [(2,.ref 0 0),(4,.ref 1 0),(5,.ref 2 0)] 6 [.box [.bs false 4 (([]:List AsR).length) 0 (([]:List AsR).length)] false,.box [i64 0,i64 0] false,.box [.mref 5] false,.box (Aj e) false,.buf 21 (L AB ([])) false,.mp (M2 F2 b)] [.box [.bs false 4 (a.length) 0 (a.length)] false,.box [i64 0,i64 0] false,.box [.mref 5] false,.box (Aj e) false,.buf 21 (L AB a) false,.mp (M2 F2 b),.gone] ?_ ?_ hx_x_9587 (⟨⟨by decide,rfl⟩,⟨by decide,rfl⟩,⟨by decide,rfl⟩,trivial⟩)
  ·intro lp_ ac_ bd_;rintro a p q i v_;show Hl b a p q i=some v_→Run _ _ _ ⟨Ao 78 [(45,.agg (Ab i)),(44,.agg [i64 p,i64 q]),(2,.ref 0 0),(4,.ref 1 0),(5,.ref 2 0)],[.box [.bs false 4 (a.length) 0 (a.length)] false,.box [i64 0,i64 0] false,.box [.mref 5] false,.box (Aj e) false,.buf 21 (L AB a) false,.mp (M2 F2 b),.lp false 78 [(2,.ref 0 0),(4,.ref 1 0),(5,.ref 2 0)] #[44,45] ac_ bd_,.box (Ab i) false]⟩ _;have hE:=ok.env { F:=F,rd:=some lp_ };unfold Hl;refine T0 [2,4,5,9,45] ?_;refine F0 [2,4,5,9,10] ?_;refine Wp (Weak.refl _ _) ?_;refine Yb (N':=0) [.box [.bs false 4 (a.length) 0 (a.length)] false,.box [i64 0,i64 0] false,.box [.mref 5] false,.box (Aj e) false,.buf 21 (L AB a) false,.mp (M2 F2 b),.lp true 78 [(2,.ref 0 0),(4,.ref 1 0),(5,.ref 2 0)] #[44,45] ac_ bd_,.box (Ab i) false,.box [i64 p,i64 q] false,.box (Ab i) false] ?_;refine Sb <|Sq <|Lt fun ax ay =>Te (fr':=[(2,_),(4,_),(5,_),(9,_),(10,_),(50,.bool ax)]) [2,4,5,9,10,50] Aa (Ew1 ay) ?_
   refine Cd ?_ ?_
   ·refine Sx <|Tx <|Bx <|?_
    refine Wp (ws (l':=[]) (σ':=[.box [.bs false 4 (a.length) 0 (a.length)] false,.box [i64 0,i64 0] false,.box [.mref 5] false,.box (Aj e) false,.buf 21 (L AB a) false,.mp (M2 F2 b),.lp true 78 [(2,.ref 0 0),(4,.ref 1 0),(5,.ref 2 0)] #[44,45] ac_ bd_]) [0,1,2,3,4,5,6]) ?_;exact Yf
   ·refine Sk <|Tn <|Ck fun az =>Lt fun aA aB =>Lt fun aC aD =>Lt fun aE aF =>Lt fun aG aH =>Lt fun aI aJ =>Lt fun aK aL =>Lt fun aM aN =>Lt fun aO aP =>Lt fun aQ aR =>Lt fun aS aT =>Lt fun aU aV =>Lt fun aW aX =>Lt fun aY aZ =>Lt fun a0 a1 =>Lt fun a2 a3 =>Lt fun a4 a5 =>Lt fun a6 a7 =>Lt fun a8 a9 =>Lt fun ba bb =>Lt fun bc bd =>Lt fun be bf =>Lt fun bg bh =>Te (fr':=[(2,_),(4,_),(9,_),(10,_),(11,_),(12,.bool aA)]) (σ':=[_,_,_,_,_,_,_,_,_,_,.box [i64 aC,i64 aE,i64 aG,i64 aI,i64 aK,i64 aM,i64 aO,i64 aQ,i64 aS,i64 aU,i64 aW,i64 aY,i64 a0,i64 a2,i64 a4,i64 a6,i64 a8,i64 ba,i64 bc,.str be,.sl false (L An bg)] false]) [2,4,9,10,11,12] Aa (Ev (by simp only[go_sem,az,aB,aD,aF,aH,aJ,aL,aN,aP,aR,aT,aV,aX,aZ,a1,a3,a5,a7,a9,bb,bd,bf,bh];exact AL)) ?_
    refine Jo (fun⟨u,w,x,y,z,aa,ab,ac,ad,ae,af,ag,ah,ai,aj,ak,al,am,an,ao,ap⟩=>⟨Ao 78 [(2,.ref 0 0),(4,.ref 1 0),(11,.ref 7 0)],[.box [.bs false 4 (a.length) 0 (a.length)] false,.box [i64 0,i64 0] false,.box [.mref 5] false,.box (Aj e) false,.buf 21 (L AB a) false,.mp (M2 F2 b),.lp true 78 [(2,.ref 0 0),(4,.ref 1 0),(5,.ref 2 0)] #[44,45] ac_ bd_,.box [i64 u,i64 w,i64 x,i64 y,i64 z,i64 aa,i64 ab,i64 ac,i64 ad,i64 ae,i64 af,i64 ag,i64 ah,i64 ai,i64 aj,i64 ak,i64 al,i64 am,i64 an,.str ao,.sl false (L An ap)] false]⟩) ?_ ?_
    ·intro bl bi;refine T0 [2,4,9,10,11,58] ?_;refine Cd ?_ ?_
     ·refine F0 [2,4,11] ?_;exact Jn (ws [0,1,2,3,4,5,6,10])
     ·refine T0 [2,4,11,69] ?_;refine Cd ?_ ?_
      ·refine Sx <|Jx bi <|Bx <|?_
       refine Wp (ws (l':=[]) (σ':=[.box [.bs false 4 (a.length) 0 (a.length)] false,.box [i64 0,i64 0] false,.box [.mref 5] false,.box (Aj e) false,.buf 21 (L AB a) false,.mp (M2 F2 b),.lp true 78 [(2,.ref 0 0),(4,.ref 1 0),(5,.ref 2 0)] #[44,45] ac_ bd_]) [0,1,2,3,4,5,6]) ?_;exact Yf
      ·exact Sk <|Jn (ws [0,1,2,3,4,5,6,10])
    rintro⟨u,w,x,y,z,aa,ab,ac,ad,ae,af,ag,ah,ai,aj,ak,al,am,an,ao,ap⟩;refine T0 [2,11] ?_;refine Ck fun bj =>Lt fun g bk =>Fe (σ':=[.box [.bs false 4 (g.length) 0 (g.length)] false,_,_,_,.buf 21 (L AB g) false,_,_,_,_]) [] Aa (Ew2 bj bk) ?_
    refine Bn ?_;refine Wp (ws (l':=[]) (σ':=[.box [.bs false 4 (g.length) 0 (g.length)] false,.box [i64 0,i64 0] false,.box [.mref 5] false,.box (Aj e) false,.buf 21 (L AB g) false,.mp (M2 F2 b),.lp true 78 [(2,.ref 0 0),(4,.ref 1 0),(5,.ref 2 0)] #[44,45] ac_ bd_]) [0,1,2,3,4,5,6]) ?_;exact Yf
  ·revert hP_x_9587;refine Bn <|Tn <|?_
   refine Rw (ws (l':=[(2,.ref 0 0)]) (σ':=[.box [.bs false 4 (a.length) 0 (a.length)] false,.box [i64 0,i64 0] false,.box [.mref 5] false,.box (Aj e) false,.buf 21 (L AB a) false,.mp (M2 F2 b)]) [0,1,2,3,4,5]) ?_;refine T0 [2] ?_;exact Sr <|Rr
end Go.Proofs.YtioapcamanmoiaaGreatDoor
