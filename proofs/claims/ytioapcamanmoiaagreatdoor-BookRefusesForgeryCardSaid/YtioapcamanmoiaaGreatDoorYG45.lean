/-
  Part 45.
-/
import Derived.Test.YtioapcamanmoiaaGreatDoorYG26
import Derived.Test.YtioapcamanmoiaaGreatDoorYG42
import Derived.Test.YtioapcamanmoiaaGreatDoorYG43
import Derived.Test.YtioapcamanmoiaaGreatDoorYG44
import Derived.KernelRfl
import Derived.Lib.Mul64
namespace Go.Proofs.YtioapcamanmoiaaGreatDoor
open Go.Rv
set_option linter.unusedVariables false
set_option linter.unusedSimpArgs false
set_option maxRecDepth 20000
set_option maxHeartbeats 4000000
theorem Ft{a r}(h:El a=some r):Con B 13 [.agg [.sl false (L Ag a.Zg1.Ze),.sl false (L Al a.Zg1.Zf),.sl false (L Aa a.Zh1.Zx),.sl false (L Ae a.Zh1.Zy),.sl false (L Ai a.Zh1.Zz),.sl false (L Ah a.Zh1.Za1),.sl false (L Af a.Zi1),.sl false (L Ad a.Zj1),.sl false (L Ab a.Zk1)]] [] (fun r' σ'=>r'=i64 r∧σ'=[]):=by
 refine Cw 70 [.tmp 2] Tryz.func13 (fun F hE=>?_) h;unfold El;refine T0 [1] ?_;refine Bd fun x p =>Te [1,3] (o1 7 (QN p)) Ev ?_
 refine Sq <|T0 [1,3,9] ?_
 refine Cd ?_ ?_
 ·refine T0 [2] ?_;exact Sr <|Tr <|Rr
 ·refine Sk <|Tn <|Bd fun y q =>Te [1,3] (o1 13 (RB q)) Ev ?_
  refine Sq <|T0 [1,3,15] ?_
  refine Cd ?_ ?_
  ·refine T0 [2] ?_;exact Sr <|Tr <|Rr
  ·refine Sk <|Tn <|Sq <|?_
   refine Tw [1,32] (fun g=>⟨Ar 70 [(1,.ref 0 0),(32,.bool g)],[.box [.sl false (L Ag a.Zg1.Ze),.sl false (L Al a.Zg1.Zf),.sl false (L Aa a.Zh1.Zx),.sl false (L Ae a.Zh1.Zy),.sl false (L Ai a.Zh1.Zz),.sl false (L Ah a.Zh1.Za1),.sl false (L Af a.Zi1),.sl false (L Ad a.Zj1),.sl false (L Ab a.Zk1)] false]⟩) ?_ ?_
   ·intro _;refine Sp (fun b=>?_) fun b=>?_
    ·exact Lf Ac (Ew1 b) (ws [0])
    ·refine Sp (fun d=>?_) fun d=>?_
     ·exact Lf Ac (Ew2 b d) (ws [0])
     ·exact Lf Ac (Ew2 b d) (ws [0])
   intro g;refine Cd ?_ ?_
   ·refine T0 [2] ?_;exact Sr <|Tr <|Rr
   ·refine Sk <|Tn <|Sq <|?_
    refine Tw [1,40] (fun i=>⟨Ar 70 [(1,.ref 0 0),(40,.bool i)],[.box [.sl false (L Ag a.Zg1.Ze),.sl false (L Al a.Zg1.Zf),.sl false (L Aa a.Zh1.Zx),.sl false (L Ae a.Zh1.Zy),.sl false (L Ai a.Zh1.Zz),.sl false (L Ah a.Zh1.Za1),.sl false (L Af a.Zi1),.sl false (L Ad a.Zj1),.sl false (L Ab a.Zk1)] false]⟩) ?_ ?_
    ·intro _;refine Bd fun z j=>?_
     refine Sp (fun e=>?_) fun e=>?_
     ·exact Lf (o1 34 (LF j)) (Ew1 e) (ws [0])
     ·refine Bd fun aa s=>?_
      exact Lf (o2 34 (LF j) 38 (Rx s)) (Ew1 e) (ws [0])
    intro i;refine Cd ?_ ?_
    ·refine T0 [2] ?_;exact Sr <|Tr <|Rr
    ·refine Sk <|Tn <|?_
     refine Jo (fun _=>⟨Ar 70 [(1,.ref 0 0)],[.box [.sl false (L Ag a.Zg1.Ze),.sl false (L Al a.Zg1.Zf),.sl false (L Aa a.Zh1.Zx),.sl false (L Ae a.Zh1.Zy),.sl false (L Ai a.Zh1.Zz),.sl false (L Ah a.Zh1.Za1),.sl false (L Af a.Zi1),.sl false (L Ad a.Zj1),.sl false (L Ab a.Zk1)] false]⟩) ?_ ?_
     ·intro ab t;refine T0 [1,4] ?_;refine Sb ?_;refine Lo (fun c=>⟨Ar 70 [(1,.ref 0 0),(4,i64 c)],[.box [.sl false (L Ag a.Zg1.Ze),.sl false (L Al a.Zg1.Zf),.sl false (L Aa a.Zh1.Zx),.sl false (L Ae a.Zh1.Zy),.sl false (L Ai a.Zh1.Zz),.sl false (L Ah a.Zh1.Za1),.sl false (L Af a.Zi1),.sl false (L Ad a.Zj1),.sl false (L Ab a.Zk1)] false]⟩) (ws [0]) ?_;rintro c ac u k l;show C0 a c=some u→_;unfold C0;refine Sq <|T0 [1,4,45] ?_
      refine Cd ?_ ?_
      ·refine Sk <|Tn <|Sq <|Sb <|?_
       refine Tw [1,4,65] (fun m=>⟨Ar 70 [(1,.ref 0 0),(4,i64 c),(65,.bool m)],[.box [.sl false (L Ag a.Zg1.Ze),.sl false (L Al a.Zg1.Zf),.sl false (L Aa a.Zh1.Zx),.sl false (L Ae a.Zh1.Zy),.sl false (L Ai a.Zh1.Zz),.sl false (L Ah a.Zh1.Za1),.sl false (L Af a.Zi1),.sl false (L Ad a.Zj1),.sl false (L Ab a.Zk1)] false]⟩) ?_ ?_
       ·intro _;refine Ck fun n =>Bd fun ad o =>?_
        refine Sp (fun f=>?_) fun f=>?_
        ·exact Lf (o1 54 (Kk o)) (Ew2 (qR n) f) (ws [0])
        ·refine Ck fun v =>Bd fun ae w =>?_
         exact Lf (o2 54 (Kk o) 63 (Rf w)) (Ew3 (qR n) f (qR v)) (ws [0])
       intro m;refine Cd ?_ ?_
       ·refine T0 [2] ?_;exact Sr <|Br <|Tr <|Lr l k <|Br <|Jr t <|Rr
       ·refine Sk <|Bn <|Tn <|F0 [1,4] ?_
        exact Ln (ws [0])
      ·refine Sx <|Tx <|Lx l k <|Bx <|?_
       exact Jn ((ws (l':=[(1,.ref 0 0)]) (σ':=[.box [.sl false (L Ag a.Zg1.Ze),.sl false (L Al a.Zg1.Zf),.sl false (L Aa a.Zh1.Zx),.sl false (L Ae a.Zh1.Zy),.sl false (L Ai a.Zh1.Zz),.sl false (L Ah a.Zh1.Za1),.sl false (L Af a.Zi1),.sl false (L Ad a.Zj1),.sl false (L Ab a.Zk1)] false]) [0]).trans (ws [0]))
     intro _;refine Sq <|T0 [69] ?_
     refine Cd ?_ ?_
     ·refine T0 [2] ?_;exact Sr <|Tr <|Rr
     ·refine Sk <|Tn <|T0 [2] ?_
      exact Sr <|Rr
theorem Ga{b c a r}(h:BB b c a=some r):Con B 4 [.agg [.sl false (L Ag b.Zg1.Ze),.sl false (L Al b.Zg1.Zf),.sl false (L Aa b.Zh1.Zx),.sl false (L Ae b.Zh1.Zy),.sl false (L Ai b.Zh1.Zz),.sl false (L Ah b.Zh1.Za1),.sl false (L Af b.Zi1),.sl false (L Ad b.Zj1),.sl false (L Ab b.Zk1)],.agg [.sl false (L (cSl Ak) c.Zy1),.sl false (L An c.Zz1)],.agg (i64 a.Zb::i64 a.No::(C1 u8 a.Zv1.l++[i64 a.Zw1,i64 a.Zx1.Za,i64 a.Zx1.Ref.Zb,i64 a.Zx1.Ref.No,i64 a.Zx1.Zn1,i64 a.Zx1.Zb1,i64 a.Zx1.Zc,i64 a.Zx1.Zo1,i64 a.Zx1.Zw,i64 a.Zx1.To,i64 a.Zx1.Code,i64 a.Zx1.Zp1,i64 a.Zx1.Zq1,i64 a.Zx1.Zr1,i64 a.Zx1.Zs1,.str a.Zx1.Zt1,.sl false (L Aj a.Zx1.Zu1),u64 a.Sig.C,u64 a.Sig.S]))] [] (fun r' σ'=>r'=.bool r∧σ'=[]):=by
 refine Cw 138 [.tmp 6] Tryz.func4 (fun F hE=>?_) h;unfold BB;refine T0 [3,4,5] ?_;refine Sq <|Bd fun ar ac =>Te [3,4,5,14] (o1 13 (PY ac)) Ev ?_
 refine Cd ?_ ?_
 ·refine T0 [6] ?_;exact Sr <|Tr <|Rr
 ·refine Sk <|Tn <|Sq <|?_
  refine Tw [3,4,5,28] (fun u=>⟨Ar 138 [(3,.ref 0 0),(4,.ref 1 0),(5,.ref 2 0),(28,.bool u)],[.box [.sl false (L Ag b.Zg1.Ze),.sl false (L Al b.Zg1.Zf),.sl false (L Aa b.Zh1.Zx),.sl false (L Ae b.Zh1.Zy),.sl false (L Ai b.Zh1.Zz),.sl false (L Ah b.Zh1.Za1),.sl false (L Af b.Zi1),.sl false (L Ad b.Zj1),.sl false (L Ab b.Zk1)] false,.box [.sl false (L (cSl Ak) c.Zy1),.sl false (L An c.Zz1)] false,.box (i64 a.Zb::i64 a.No::(C1 u8 a.Zv1.l++[i64 a.Zw1,i64 a.Zx1.Za,i64 a.Zx1.Ref.Zb,i64 a.Zx1.Ref.No,i64 a.Zx1.Zn1,i64 a.Zx1.Zb1,i64 a.Zx1.Zc,i64 a.Zx1.Zo1,i64 a.Zx1.Zw,i64 a.Zx1.To,i64 a.Zx1.Code,i64 a.Zx1.Zp1,i64 a.Zx1.Zq1,i64 a.Zx1.Zr1,i64 a.Zx1.Zs1,.str a.Zx1.Zt1,.sl false (L Aj a.Zx1.Zu1),u64 a.Sig.C,u64 a.Sig.S])) false]⟩) ?_ ?_
  ·intro _;refine Bd fun au k=>?_
   refine Sp (fun f=>?_) fun f=>?_
   ·exact Lf (o1 16 (HJ k)) (Ew1 f) (ws [0,1,2])
   ·refine Bd fun av v=>?_
    refine Sp (fun m=>?_) fun m=>?_
    ·exact Lf (o2 16 (HJ k) 20 (Ip v)) (Ew2 f m) (ws [0,1,2])
    ·refine Bd fun aw ad=>?_
     exact Lf (Cp (l:=[(16,_,_,_),(20,_,_,_),(26,_,_,_)]) ⟨HJ  k,Ip  v,DR  ad,trivial⟩) (Ew2 f m) (ws [0,1,2])
  intro u;refine Cd ?_ ?_
  ·refine T0 [6] ?_;exact Sr <|Tr <|Rr
  ·refine Sk <|Tn <|Bd fun d ae =>Te [3,4,5,7,8] (o1 33 (Dd ae)) Ev ?_
   refine Sq <|T0 [3,4,5,7,37] ?_
   refine Cd ?_ ?_
   ·refine Lt fun af ag =>Te (fr':=[(6,.bool af)]) [6] Ac (Ew1 ag) ?_
    exact Sr <|Tr <|Rr
   ·refine Sk <|Tn <|Sq <|?_
    refine Tw [3,4,5,7,61] (fun w=>⟨Ar 138 [(3,.ref 0 0),(4,.ref 1 0),(5,.ref 2 0),(7,.ref 3 0),(61,.bool w)],[.box [.sl false (L Ag b.Zg1.Ze),.sl false (L Al b.Zg1.Zf),.sl false (L Aa b.Zh1.Zx),.sl false (L Ae b.Zh1.Zy),.sl false (L Ai b.Zh1.Zz),.sl false (L Ah b.Zh1.Za1),.sl false (L Af b.Zi1),.sl false (L Ad b.Zj1),.sl false (L Ab b.Zk1)] false,.box [.sl false (L (cSl Ak) c.Zy1),.sl false (L An c.Zz1)] false,.box (i64 a.Zb::i64 a.No::(C1 u8 a.Zv1.l++[i64 a.Zw1,i64 a.Zx1.Za,i64 a.Zx1.Ref.Zb,i64 a.Zx1.Ref.No,i64 a.Zx1.Zn1,i64 a.Zx1.Zb1,i64 a.Zx1.Zc,i64 a.Zx1.Zo1,i64 a.Zx1.Zw,i64 a.Zx1.To,i64 a.Zx1.Code,i64 a.Zx1.Zp1,i64 a.Zx1.Zq1,i64 a.Zx1.Zr1,i64 a.Zx1.Zs1,.str a.Zx1.Zt1,.sl false (L Aj a.Zx1.Zu1),u64 a.Sig.C,u64 a.Sig.S])) false,.box [.sl false (L (cSl Ak) d.1.Zy1),.sl false (L An d.1.Zz1)] false]⟩) ?_ ?_
    ·intro _;refine Bd fun ax n=>?_
     refine Sp (fun g=>?_) fun g=>?_
     ·exact Lf (o1 47 (Ft n)) (Ew1 g) (ws [0,1,2,3])
     ·refine Sp (fun o=>?_) fun o=>?_
      ·exact Lf (o1 47 (Ft n)) (Ew2 g o) (ws [0,1,2,3])
      ·exact Lf (o1 47 (Ft n)) (Ew2 g o) (ws [0,1,2,3])
    intro w;refine Cd ?_ ?_
    ·refine T0 [6] ?_;exact Sr <|Tr <|Rr
    ·refine Sk <|Tn <|Bd fun ay ah =>Te [3,4,5,7,9,10] (o1 64 (HA ah)) Ev ?_
     refine Sq ?_;refine Dw [[],[0],[0,1],[0,1,2],[0,1,2,3],[0,1,2],[0,1,2,5],[0,1,2,3,4,5,6],[0,1,2,3,4,5,6,7],[0,1,2,3,4,5,6,7,8],[0,1,2],[0,1,2],[0,1,2,11],[0,1,2,3,4,5,6,7,8,9,10,11,12],[0,1,2,3,4,5,6,7,8,9,10,11,12,13],[0,1,2,3,4,5,6,7,8,9,10,11,12,13,14],[0,1,2,3,4,5,6,7,8,9,10,11,12,13,14,15],[0,1,2,3,4,5,6,7,8,9,10,11,12,13,14,15,16],[0,1,2,3,4,5,6,7,8,9,10,11,12,13,14,15,16,17],[0,1,2,3,4,5,6,7,8,9,10,11,12,13,14,15,16,17,18],[0,1,2,3,4,5,6,7,8,9,10,11,12,13,14,15,16],[0,1,2,3,4,5,6,7,8,9,10,11,12,13,14,15,16,20],[0,1,2,3,4,5,6,7,8,9,10,11,12,13,14,15,16,20,21],[0,1,2,3,4,5,6,7,8,9,10,11,12,13,14,15,16,17,18,19,20,21,22],[0,1,2,3,4,5,6,7,8,9,10,11,12,13,14,15,16,17,18,19,20,21,22,23],[0,1,2,3,4,5,6,7,8,9,10,11,12,13,14,15,16,17,18,19,20,21,22,23,24],[0,1,2,3,4,5,6,7,8,9,10,11,12,13,14,15,16,17,18,19,20,21,22,23,24,25],[0,1,2,3,4,5,6,7,8,9,10,11,12,13,14,15,16,17,18,19,20,21,22,23,24,25,26],[0,1,2,3,4,5,6,7,8,9,10,11,12,13,14,15,16,17,18,19,20,21,22,23,24,25,26,27],[0,1,2,3,4,5,6,7,8,9,10,11,12,13,14,15,16,17,18,19,20,21,22,23,24,25],[0,1,2,3,4,5,6,7,8,9,10,11,12,13,14,15,16,17,18,19,20,21,22,23,24,25,29],[0,1,2,3,4,5,6,7,8,9,10,11,12,13,14,15,16,17,18,19,20,21,22,23,24,25,29,30],[0,1,2,3,4,5,6,7,8,9,10,11,12,13,14,15,16,17,18,19,20,21,22,23,24,25,26,27,28,29,30,31],[0,1,2,3,4,5,6,7,8,9,10,11,12,13,14,15,16,17,18,19,20,21,22,23,24,25,26,27,28,29,30,31,32]] [4,7,100] (fun x=>⟨Ar 138 [(4,.ref 0 0),(7,.ref 1 0),(100,.bool x)],[.box [.sl false (L (cSl Ak) c.Zy1),.sl false (L An c.Zz1)] false,.box [.sl false (L (cSl Ak) d.1.Zy1),.sl false (L An d.1.Zz1)] false]⟩) ?_ ?_
     ·intro _;refine Sp (fun e=>?_) fun e=>?_
      ·exact Lf Ac (Ew1 e) (ws [1,3])
      ·refine Ck fun p =>Bd fun az q =>?_
       refine Sp (fun i=>?_) fun i=>?_
       ·exact Lf (o1 80 (Fl q)) (Ew3 e (qR p) i) (ws [1,3])
       ·refine Sp (fun s=>?_) fun s=>?_
        ·exact Lf (o1 80 (Fl q)) (Ew4 e (qR p) i s) (ws [1,3])
        ·exact Lf (o1 80 (Fl q)) (Ew4 e (qR p) i s) (ws [1,3])
     intro x;refine Cd ?_ ?_
     ·refine T0 [6] ?_;exact Sr <|Tr <|Rr
     ·refine Sk <|Tn <|?_
      refine Jo (fun _=>⟨Ar 138 [],[]⟩) ?_ ?_
      ·intro aA ai;refine T0 [4,7,11] ?_;refine Sb ?_;refine Lo (fun j=>⟨Ar 138 [(4,.ref 0 0),(7,.ref 1 0),(11,i64 j)],[.box [.sl false (L (cSl Ak) c.Zy1),.sl false (L An c.Zz1)] false,.box [.sl false (L (cSl Ak) d.1.Zy1),.sl false (L An d.1.Zz1)] false]⟩) (ws [0,1]) ?_;rintro j aB aj y z;show AG c d j=some aj→_;unfold AG;refine Sq <|T0 [4,7,11,105] ?_
       refine Cd ?_ ?_
       ·refine Sk <|Tn <|Sq <|Sb <|Ck fun ak =>Lt fun al am =>Te (fr':=[(4,_),(7,_),(11,_),(12,i64 al)]) [4,7,11,12] Ac (Ew2 (qR ak) am) ?_
        refine Dw [[],[0],[],[0,1,2],[0,1,2,3],[0,1,2,3,4],[],[0,1,2,3,4,5,6],[0,1,2,3,4,5,6,7],[0,1,2,3,4,5,6,7,8],[0,1,2,3,4,5,6,7,8,9],[0,1,2,3,4,5,6,7,8],[0,1,2,3,4,5,6,7,8,9,10,11],[0,1,2,3,4,5,6,7,8,9,10,11,12],[0,1,2,3,4,5,6,7,8],[0,1,2,3,4,5,6,7,8,9,10,11,12,13,14],[0,1,2,3,4,5,6,7,8],[0,1,2,3,4,5,6,7,8,16],[0,1,2,3,4,5,6,7,8],[0,1,2,3,4,5,6,7,8,16,17,18],[0,1,2,3,4,5,6,7,8,16,17,18,19],[0,1,2,3,4,5,6,7,8,9,10,11,12,13,14,15,16,17,18,19,20],[0,1,2,3,4,5,6,7,8,9,10,11,12,13,14,15,16,17,18,19,20,21],[0,1,2,3,4,5,6,7,8,9,10,11,12,13,14,15,16,17,18,19,20,21,22]] [4,7,11,137] (fun aa=>⟨Ar 138 [(4,.ref 0 0),(7,.ref 1 0),(11,i64 j),(137,.bool aa)],[.box [.sl false (L (cSl Ak) c.Zy1),.sl false (L An c.Zz1)] false,.box [.sl false (L (cSl Ak) d.1.Zy1),.sl false (L An d.1.Zz1)] false]⟩) ?_ ?_
        ·intro _;refine Ck fun ab=>?_
         refine Sp (fun t=>?_) fun t=>?_
         ·exact Lf Ac (Ew2 (qR ab) t) (ws [0,1])
         ·refine Ck fun an =>Ck fun ao =>Ck fun ap =>Bd fun aC aq =>?_
          exact Lf (o1 135 (IH aq)) (Ew5 (qR ab) t (qR an) ao (qR ap)) (ws [0,1])
        intro aa;refine Cd ?_ ?_
        ·refine T0 [6] ?_;exact Sr <|Br <|Tr <|Lr z y <|Br <|Jr ai <|Rr
        ·refine Sk <|Bn <|Tn <|F0 [4,7,11] ?_
         exact Ln (ws [0,1])
       ·refine Sx <|Tx <|Lx z y <|Bx <|?_
        exact Jn ((ws (l':=[]) (σ':=[]) []).trans (ws []))
      intro _;refine T0 [6] ?_;exact Sr <|Rr
set_option maxRecDepth 4000
variable{u r:Nat}
theorem JD(x:UInt64)(n:Nat):(CM x n).toNat=x.toNat/2^n:=by
 show(x.toBitVec >>> n).toNat=_;rw[AsG,Ar6];rfl
theorem ZQ(x:UInt64)(n:Nat):(Ic x n).toNat=x.toNat*2^n%18446744073709551616:=by
 show(x.toBitVec <<< n).toNat=_;rw[BitVec.toNat_shiftLeft,AsN];rfl
theorem Ad5(x:UInt64):(x &&& 4294967295).toNat=x.toNat%4294967296:=by
 rw[UInt64.toNat_and];exact Asj x.toNat 32
theorem Aeb(x:UInt64):x.toNat<18446744073709551616:=x.toNat_lt
theorem PB(x y:UInt64):(x*y).toNat=x.toNat*y.toNat%18446744073709551616:=UInt64.toNat_mul x y
theorem S6(x y:UInt64):(x+y).toNat=(x.toNat+y.toNat)%18446744073709551616:=UInt64.toNat_add x y
theorem AlJ{x y:UInt64}(h:x.toNat=y.toNat):x=y:=Ar8.1 h
theorem g_32:((32:UInt64)).toNat=32:=rfl
theorem AbH(x y:UInt64):∃r,Ht x y=some r∧r.1.toNat=x.toNat*y.toNat/18446744073709551616∧r.2.toNat=x.toNat*y.toNat%18446744073709551616:=by
 obtain⟨bd,bt,bw,hhi⟩:=Lib.mul64_hi x.toNat y.toNat (Aeb x) (Aeb y);have hx:=Aeb x;have hy:=Aeb y;have ba:=Lib.half_mul_le (a:=x.toNat/4294967296) (b:=y.toNat/4294967296) (by omega) (by omega);have bb:=Lib.half_mul_le (a:=x.toNat/4294967296) (b:=y.toNat%4294967296) (by omega) (by omega);have bc:=Lib.half_mul_le (a:=x.toNat%4294967296) (b:=y.toNat/4294967296) (by omega) (by omega);unfold Ht;simp only[lt1];refine⟨_,rfl,?_,PB x y⟩;rw[←hhi];simp only[S6,PB,JD,Ad5,g_32,Nat.reducePow];generalize x.toNat/4294967296*(y.toNat/4294967296)=a at *;generalize x.toNat/4294967296*(y.toNat%4294967296)=b at *;generalize x.toNat%4294967296*(y.toNat/4294967296)=c at *;generalize x.toNat%4294967296*(y.toNat%4294967296)=d at *;omega
structure Dig(u w q r:Nat):Prop where
  eq:u=q*4294967295+r
  up:(q+1)*18446744073709526392>u*4294967296+w
theorem SJ{w:Nat}(hu:u<18446744073709526392)(hw:w<4294967296):Dig u w (u/4294967295) (u%4294967295):=⟨by omega,by omega⟩
theorem L5{a b c:Nat}(h:a=b)(k:b<c):a<c:=by omega
theorem Tf{q q' r':Nat}(he:u=q*4294967295+r)(hq:1≤q)(h1:q'=q-1)(h2:r'=r+4294967295):u=q'*4294967295+r':=by
 have key:∀c:Nat,u=q*c+r→r'=r+c→u=q'*c+r':=by
  intro c he h2;obtain⟨k,rfl⟩:∃k,q=k+1:=⟨q-1,by omega⟩;have:q'=k:=by omega
  subst this;rw[he,h2,Aqi,AqB,Arp,Nat.add_comm c r]
 exact key _ he h2
theorem SS{w q q':Nat}(he:u=q*4294967295+r)(hu:u<18446744073709526392)(hw:w<4294967296)(h:4294967296≤q∨4294967296*r+w<q*4294942072)(hq:1≤q)(h1:q'=q-1):(q'+1)*18446744073709526392>u*4294967296+w:=by subst h1;omega
theorem RW{r':Nat}(h:r<4294967296)(h2:r'=r+4294967295):4294967296-r'<4294967296-r:=by omega
theorem AaX(un32 un1:UInt64)(hu:un32.toNat<18446744073709526392)(hw:un1.toNat<4294967296) :∃q,Ax (fun(v:UInt64×UInt64)=>Et 4294967295 4294942072 un1 v.1 v.2) ((un32/4294967295),(un32-(un32/4294967295)*4294967295))=some q∧q.toNat=(un32.toNat*4294967296+un1.toNat)/18446744073709526392:=by
 have hq0:(un32/4294967295).toNat=un32.toNat/4294967295:=Ar9 _ _
 have hr0:(un32-(un32/4294967295)*4294967295).toNat=un32.toNat%4294967295:=by
  have h1:((un32/4294967295)*4294967295).toNat=un32.toNat/4294967295*4294967295:=by
   rw[PB,hq0];show un32.toNat/4294967295*4294967295%_=_;omega
  rw[ArU _ _ (AqI.2 (by rw[h1];omega)),h1];omega
 have hd:=SJ hu hw;rw[←hq0,←hr0]at hd;generalize un32/4294967295=q0 at *;generalize un32-q0*4294967295=r0 at *;refine BR (fun v=>Dig un32.toNat un1.toNat v.1.toNat v.2.toNat∧v.2.toNat<4294967296) (fun v=>4294967296-v.2.toNat) _ ?_ ⟨hd,by rw[hr0];omega⟩ (by simp only;omega);rintro⟨q,r⟩ ⟨⟨he,hup⟩,hr⟩;simp only at he hup hr;unfold Et;have hqb:q.toNat≤4294967297:=by omega
 have m1:(q*4294942072).toNat=q.toNat*4294942072:=by
  rw[PB];show q.toNat*4294942072%_=_;omega
 have m2:((4294967296:UInt64)*r+un1).toNat=4294967296*r.toNat+un1.toNat:=by
  rw[S6,PB];show(4294967296*r.toNat%_+_)%_=_;omega
 have m3:(r+4294967295).toNat=r.toNat+4294967295:=by
  rw[S6];show(r.toNat+4294967295)%_=_;omega
 have hb:(q≥(4294967296:UInt64))↔4294967296≤q.toNat:=AqI;have hg:(q*4294942072>(4294967296:UInt64)*r+un1)↔4294967296*r.toNat+un1.toNat<q.toNat*4294942072:=by rw[Asi,AqH,m1,m2]
 have hh:(r+4294967295≥(4294967296:UInt64))↔4294967296≤r.toNat+4294967295:=by rw[ge_iff_le,AqI,m3];rfl
 have htest:(if(decide (q≥(4294967296:UInt64)))then some true else some ((decide ((q*(4294942072:UInt64))>(((4294967296:UInt64)*r)+un1)))):Option Bool)=some (decide (4294967296≤q.toNat∨4294967296*r.toNat+un1.toNat<q.toNat*4294942072)):=by
  by_cases h1:4294967296≤q.toNat
  ·rw[ApU (Aqf (hb.2 h1))];simp[h1]
  ·rw[ApV (by simp only[Aqd];exact fun e=>h1 (hb.1 e))];simp[h1,hg]
 rw[htest,ApX];by_cases ht:4294967296≤q.toNat∨4294967296*r.toNat+un1.toNat<q.toNat*4294942072
 ·have hs:(q-1).toNat=q.toNat-1:=by
   rw[ArU _ _ (AqI.2 (by show 1≤q.toNat;omega))];rfl
  rw[ApU (Aqf ht)];by_cases h2:4294967296≤r.toNat+4294967295
  ·right;rw[ApU (Aqf (hh.2 h2))];refine⟨_,rfl,?_⟩;rw[hs];omega
  ·left;rw[ApV (by simp only[Aqd];exact fun e=>h2 (hh.1 e))];refine⟨_,rfl,⟨⟨?_,?_⟩,?_⟩,?_⟩
   ·show un32.toNat=(q-1).toNat*4294967295+(r+4294967295).toNat;exact Tf he (by omega) hs m3
   ·show((q-1).toNat+1)*18446744073709526392>un32.toNat*4294967296+un1.toNat;exact SS he hu hw ht (by omega) hs
   ·exact L5 m3 (Nat.lt_of_not_le h2)
   ·exact RW hr m3
 ·right;rw[ApV (by simp only[Aqd];exact ht)];refine⟨_,rfl,?_⟩;show q.toNat=_;omega
theorem ZS(un32 un1:UInt64)(hu:un32.toNat<18446744073709526392)(hw:un1.toNat<4294967296) :∃q,Ax (fun(v:UInt64×UInt64)=>Eg 4294967295 4294942072 un1 v.1 v.2) ((un32-(un32/4294967295)*4294967295),(un32/4294967295))=some q∧q.toNat=(un32.toNat*4294967296+un1.toNat)/18446744073709526392:=by
 have hq0:(un32/4294967295).toNat=un32.toNat/4294967295:=Ar9 _ _
 have hr0:(un32-(un32/4294967295)*4294967295).toNat=un32.toNat%4294967295:=by
  have h1:((un32/4294967295)*4294967295).toNat=un32.toNat/4294967295*4294967295:=by
   rw[PB,hq0];show un32.toNat/4294967295*4294967295%_=_;omega
  rw[ArU _ _ (AqI.2 (by rw[h1];omega)),h1];omega
 have hd:=SJ hu hw;rw[←hq0,←hr0]at hd;generalize un32/4294967295=q0 at *;generalize un32-q0*4294967295=r0 at *;refine BR (fun v=>Dig un32.toNat un1.toNat v.2.toNat v.1.toNat∧v.1.toNat<4294967296) (fun v=>4294967296-v.1.toNat) _ ?_ ⟨hd,by rw[hr0];omega⟩ (by simp only;omega);rintro⟨r,q⟩ ⟨⟨he,hup⟩,hr⟩;simp only at he hup hr;unfold Eg;have hqb:q.toNat≤4294967297:=by omega
 have m1:(q*4294942072).toNat=q.toNat*4294942072:=by
  rw[PB];show q.toNat*4294942072%_=_;omega
 have m2:((4294967296:UInt64)*r+un1).toNat=4294967296*r.toNat+un1.toNat:=by
  rw[S6,PB];show(4294967296*r.toNat%_+_)%_=_;omega
 have m3:(r+4294967295).toNat=r.toNat+4294967295:=by
  rw[S6];show(r.toNat+4294967295)%_=_;omega
 have hb:(q≥(4294967296:UInt64))↔4294967296≤q.toNat:=AqI;have hg:(q*4294942072>(4294967296:UInt64)*r+un1)↔4294967296*r.toNat+un1.toNat<q.toNat*4294942072:=by rw[Asi,AqH,m1,m2]
 have hh:(r+4294967295≥(4294967296:UInt64))↔4294967296≤r.toNat+4294967295:=by rw[ge_iff_le,AqI,m3];rfl
 have htest:(if(decide (q≥(4294967296:UInt64)))then some true else some ((decide ((q*(4294942072:UInt64))>(((4294967296:UInt64)*r)+un1)))):Option Bool)=some (decide (4294967296≤q.toNat∨4294967296*r.toNat+un1.toNat<q.toNat*4294942072)):=by
  by_cases h1:4294967296≤q.toNat
  ·rw[ApU (Aqf (hb.2 h1))];simp[h1]
  ·rw[ApV (by simp only[Aqd];exact fun e=>h1 (hb.1 e))];simp[h1,hg]
 rw[htest,ApX];by_cases ht:4294967296≤q.toNat∨4294967296*r.toNat+un1.toNat<q.toNat*4294942072
 ·have hs:(q-1).toNat=q.toNat-1:=by
   rw[ArU _ _ (AqI.2 (by show 1≤q.toNat;omega))];rfl
  rw[ApU (Aqf ht)];by_cases h2:4294967296≤r.toNat+4294967295
  ·right;rw[ApU (Aqf (hh.2 h2))];refine⟨_,rfl,?_⟩;rw[hs];omega
  ·left;rw[ApV (by simp only[Aqd];exact fun e=>h2 (hh.1 e))];refine⟨_,rfl,⟨⟨?_,?_⟩,?_⟩,?_⟩
   ·show un32.toNat=(q-1).toNat*4294967295+(r+4294967295).toNat;exact Tf he (by omega) hs m3
   ·show((q-1).toNat+1)*18446744073709526392>un32.toNat*4294967296+un1.toNat;exact SS he hu hw ht (by omega) hs
   ·exact L5 m3 (Nat.lt_of_not_le h2)
   ·exact RW hr m3
 ·right;rw[ApV (by simp only[Aqd];exact ht)];refine⟨_,rfl,?_⟩;show q.toNat=_;omega
theorem lz_P:CE 2305843009213690799=some 3:=by decide +kernel
theorem y8:Ic 2305843009213690799 3=18446744073709526392:=by decide +kernel
theorem Al9:CM 18446744073709526392 ((32:UInt64)).toNat=4294967295:=by decide +kernel
theorem AoT:(18446744073709526392:UInt64) &&& 4294967295=4294942072:=by decide +kernel
theorem s3:(UInt64.ofInt 3).toNat=3:=by decide +kernel
theorem s61:((64:UInt64)-UInt64.ofInt 3).toNat=61:=by decide +kernel
theorem Ajm(a b:UInt64)(ha:a.toNat%8=0)(hb:b.toNat<8):(a ||| b).toNat=a.toNat+b.toNat:=by
 rw[UInt64.toNat_or];have e:a.toNat=(a.toNat/8) <<< 3:=by rw[AsN];omega
 rw[e,←Nat.shiftLeft_add_eq_or_of_lt (by simpa using hb)]
theorem Ahz(u w q:UInt64)(v:Nat)(hv:v=18446744073709526392)(hq:q.toNat=(u.toNat*4294967296+w.toNat)/v):(u*4294967296+w-q*18446744073709526392).toNat=(u.toNat*4294967296+w.toNat)%v:=by
 have h1:(u*4294967296+w).toNat=(u.toNat*4294967296+w.toNat)%18446744073709551616:=by
  rw[S6,PB];show(u.toNat*4294967296%18446744073709551616+w.toNat)%18446744073709551616=_;rw[Nat.mod_add_mod]
 have h2:(q*18446744073709526392).toNat=(q.toNat*v)%18446744073709551616:=by rw[PB,hv];rfl
 rw[UInt64.toNat_sub,h1,h2,hq];have h3:=ArH (u.toNat*4294967296+w.toNat) v;have h4:(u.toNat*4294967296+w.toNat)%v<18446744073709551616:=Aq7 (ArG _ (by omega)) (by omega);generalize u.toNat*4294967296+w.toNat=U at *;generalize hr:U%v=r at *;rw[Arx v]at h3;generalize U/v*v=z at *;subst h3;show(18446744073709551616-z%18446744073709551616+(z+r)%18446744073709551616)%18446744073709551616=r;omega
theorem mod8(N P m:Nat)(h:m=8*P):8*N%m/8=N%P:=by subst h;rw[Nat.mul_mod_mul_left,Nat.mul_div_cancel_left _ (by omega)]
theorem AbA(a b c m:Nat):(a%m*c+b)%m=(a*c+b)%m:=by
 rw[Asr,Asb,Nat.mod_mod,←Asb,←Asr]
theorem Ahf(hi lo:Nat)(hlo:lo<18446744073709551616):((hi*8+lo/2305843009213693952)*4294967296+lo*8%18446744073709551616/4294967296)*4294967296+lo*8%18446744073709551616%4294967296=8*(hi*18446744073709551616+lo):=by omega
theorem XG(hi lo m P:Nat)(hm:m=8*P)(hlo:lo<18446744073709551616):(((hi*8+lo/2305843009213693952)*4294967296+lo*8%18446744073709551616/4294967296)%m*4294967296+lo*8%18446744073709551616%4294967296)%m/8=(hi*18446744073709551616+lo)%P:=by
 rw[AbA,Ahf hi lo hlo];exact mod8 _ _ _ hm
theorem AcU(n1 n0 un32 un1:UInt64)(h1:n1=4294967295)(h0:n0=4294942072)(hu:un32.toNat<18446744073709526392)(hw:un1.toNat<4294967296) :∃q,Ax (fun(v:UInt64×UInt64)=>Et n1 n0 un1 v.1 v.2) ((un32/n1),(un32-(un32/n1)*n1))=some q∧q.toNat=(un32.toNat*4294967296+un1.toNat)/18446744073709526392:=by
 subst h1 h0;exact AaX un32 un1 hu hw
theorem AcF(n1 n0 un32 un1:UInt64)(h1:n1=4294967295)(h0:n0=4294942072)(hu:un32.toNat<18446744073709526392)(hw:un1.toNat<4294967296) :∃q,Ax (fun(v:UInt64×UInt64)=>Eg n1 n0 un1 v.1 v.2) ((un32-(un32/n1)*n1),(un32/n1))=some q∧q.toNat=(un32.toNat*4294967296+un1.toNat)/18446744073709526392:=by
 subst h1 h0;exact ZS un32 un1 hu hw
theorem YV(u w q v8:UInt64)(h8:v8=18446744073709526392)(hq:q.toNat=(u.toNat*4294967296+w.toNat)/18446744073709526392):(u*4294967296+w-q*v8).toNat=(u.toNat*4294967296+w.toNat)%18446744073709526392:=by
 subst h8;exact Ahz u w q _ rfl hq
theorem AdA(hi lo y:UInt64)(hy:y=2305843009213690799)(h:hi.toNat<2305843009213690799):∃r,Gj hi lo y=some r∧r.2.toNat=(hi.toNat*18446744073709551616+lo.toNat)%2305843009213690799:=by
 have hP:y.toNat=2305843009213690799:=by rw[hy];rfl
 have hlo:=Aeb lo;have hy0:¬y=0:=by rw[hy];decide
 have hlz:CE y=some 3:=by rw[hy];exact lz_P
 obtain⟨v8,hv8⟩:∃v8,v8=Ic y 3:=⟨_,rfl⟩;obtain⟨n1,hn1⟩:∃n1,n1=CM v8 ((32:UInt64)).toNat:=⟨_,rfl⟩;obtain⟨n0,hn0⟩:∃n0,n0=v8 &&& 4294967295:=⟨_,rfl⟩;have e8:v8=18446744073709526392:=by rw[hv8,hy];exact y8
 have e1:n1=4294967295:=by rw[hn1,e8];exact Al9
 have e0:n0=4294942072:=by rw[hn0,e8];exact AoT
 have hn1z:¬n1=0:=by rw[e1];decide
 unfold Gj;rw[ApV (by simpa using hy0),ApV (by simp only[Aqd,AqI,hP];omega)];by_cases h0:hi=0
 ·subst h0;rw[ApU (by decide),ApU hy0,ApU hy0];refine⟨_,rfl,?_⟩;show(lo%y).toNat=_;rw[Aq9,hP];simp
 ·rw[ApV (by simpa using h0),hlz,ApX];simp only[AJ,s3,s61];rw[←hv8,←hn1,←hn0];clear hv8 hn1 hn0 hlz hy;have a1:(Ic hi 3).toNat=hi.toNat*8:=by rw[ZQ];omega
  have a2:(CM lo 61).toNat=lo.toNat/2305843009213693952:=JD lo 61;have a3:(Ic hi 3 ||| CM lo 61).toNat=hi.toNat*8+lo.toNat/2305843009213693952:=by rw[Ajm _ _ (by omega) (by omega),a1,a2]
  have a4:(Ic lo 3).toNat=lo.toNat*8%18446744073709551616:=ZQ lo 3;have a5:(CM (Ic lo 3) ((32:UInt64)).toNat).toNat=lo.toNat*8%18446744073709551616/4294967296:=by rw[JD,a4];rfl
  have a6:(Ic lo 3 &&& 4294967295).toNat=lo.toNat*8%18446744073709551616%4294967296:=by rw[Ad5,a4]
  generalize Ic hi 3 ||| CM lo 61=un32 at *
  generalize CM (Ic lo 3) ((32:UInt64)).toNat=un1 at *;generalize Ic lo 3 &&& 4294967295=un0 at *;obtain⟨q1,hq1,f1⟩:=AcU n1 n0 un32 un1 e1 e0 (by omega) (by omega);have r1:=YV un32 un1 q1 v8 e8 f1;rw[ApU hn1z,hq1];simp only[ApX];generalize un32*4294967296+un1-q1*v8=un21 at *;obtain⟨q0,hq0,f0⟩:=AcF n1 n0 un21 un0 e1 e0 (by omega) (by omega);have r0:=YV un21 un0 q0 v8 e8 f0;rw[ApU hn1z,hq0];simp only[ApX];refine⟨_,rfl,?_⟩;show(CM (un21*4294967296+un0-q0*v8) 3).toNat=_;rw[JD,r0,r1,a3,a5,a6];exact XG hi.toNat lo.toNat _ _ (by decide) hlo
theorem Agz(hi lo:UInt64)(h:hi.toNat<2305843009213690799):∃r,Gj hi lo 2305843009213690799=some r∧r.2.toNat=(hi.toNat*18446744073709551616+lo.toNat)%2305843009213690799:=AdA hi lo _ rfl h
abbrev PN:Nat:=2305843009213690799
theorem Oh(a b:UInt64):∃r,CJ a b 2305843009213690799=some (r,2305843009213690799)∧r.toNat=a.toNat*b.toNat%PN:=by
 have hP:((2305843009213690799:UInt64)).toNat=2305843009213690799:=rfl;unfold CJ;obtain⟨⟨hi,lo⟩,hm,h1,h2⟩:=AbH (a%2305843009213690799) (b%2305843009213690799);rw[ApU (by decide),ApU (by decide),hm,ApX];simp only at h1 h2 ⊢;rw[Aq9,Aq9,hP]at h1 h2;have ha:a.toNat%2305843009213690799<2305843009213690799:=ArG _ (by omega);have hb:b.toNat%2305843009213690799<2305843009213690799:=ArG _ (by omega);have hab:a.toNat%2305843009213690799*(b.toNat%2305843009213690799)<2305843009213690799*2305843009213690799:=Nat.mul_lt_mul'' ha hb
 have hhi:hi.toNat<2305843009213690799:=by
  rw[h1];generalize a.toNat%2305843009213690799*(b.toNat%2305843009213690799)=z at *;omega
 obtain⟨⟨q,r⟩,hd,hr⟩:=Agz hi lo hhi;rw[hd,ApX];refine⟨r,rfl,?_⟩;simp only at hr;rw[hr,h1,h2,Nat.div_add_mod',←Asb]
theorem Akp(b k P:Nat):(b^k%P)*(b^k%P)%P=b^(2*k)%P:=by rw[←Asb,←AsH,Nat.two_mul]
theorem AbV(b k P:Nat):(b^k%P)*b%P=b^(k+1)%P:=by rw[AsY,AsZ]
theorem Ab5(n e:Nat):n/2^e=2*(n/2^(e+1))+n/2^e%2:=by
 rw[AsZ,←Nat.div_div_eq_div_mul];omega
theorem Amh(x:UInt64):((x &&& 1)==1)=decide (x.toNat%2=1):=by
 have h:(x &&& 1).toNat=x.toNat%2:=by rw[UInt64.toNat_and];exact Asj x.toNat 1
 rw[Aqw,AqV,Aqd,←h];exact⟨fun e=>by rw[e];rfl,fun e=>AlJ e⟩
theorem Adk(b n out:UInt64)(len i:Nat)(hl:Es n=some (len:Int))(h64:len≤64)(hi:i<len)(ho:out.toNat=b.toNat^(n.toNat/2^(len-i))%PN) :∃o,E6 b n (len:Int) out (i:Int) 2305843009213690799=some (.inl (o,((i+1:Nat):Int),2305843009213690799))∧o.toNat=b.toNat^(n.toNat/2^(len-(i+1)))%PN:=by
 unfold E6;rw[ApU (by simp;omega)];obtain⟨r,hr,er⟩:=Oh out out;rw[hr,ApX,hl,ApX]
 have e1:w64 (w64 ((len:Int)-1)-(i:Int))=((len-1-i:Nat):Int):=by
  rw[AH (x:=(len:Int)-1) (by omega),AH (by omega)];omega
 rw[e1,ApU (by unfold DV;omega)];simp only[AJ,Ap1,Amh,JD];have hk:=Ab5 n.toNat (len-1-i);rw[show len-1-i+1=len-i by omega]at hk;rw[show len-(i+1)=len-1-i by omega];rw[ho,Akp]at er;by_cases hb:n.toNat/2^(len-1-i)%2=1
 ·rw[ApU (Aqf hb)];obtain⟨q,hq,eq⟩:=Oh r b;rw[hq];simp only[ApX];refine⟨q,by rw[CF (by omega)],?_⟩;rw[eq,er,AbV,hk,hb]
 ·rw[ApV (by simpa using hb)];simp only[ApX];refine⟨r,by rw[CF (by omega)],?_⟩;rw[er,hk,show n.toNat/2^(len-1-i)%2=0 by omega,Arv]
theorem Ad0(b n:UInt64)(len:Nat)(hl:Es n=some (len:Int))(hn:n.toNat<2^len)(h64:len≤64):∃r,F8 b n=some r∧r.toNat=b.toNat^n.toNat%PN:=by
 unfold F8 E9;rw[ApX,hl,ApX]
 obtain⟨x,hx,hq⟩:∃x,Ax (fun(v:UInt64×Int×UInt64)=>E6 b n (len:Int) v.1 v.2.1 v.2.2) ((1:UInt64),0,(2305843009213690799:UInt64))=some x∧x.toNat=b.toNat^n.toNat%PN:=by
  refine BA len (fun k v=>∃o:UInt64,v=(o,(k:Int),(2305843009213690799:UInt64))∧o.toNat=b.toNat^(n.toNat/2^(len-k))%PN) _ (by omega) ?_ ?_ ⟨1,rfl,?_⟩
  ·rintro k v hk ⟨o,rfl,ho⟩;obtain⟨o',h1,h2⟩:=Adk b n o len k hl h64 hk ho;exact⟨_,h1,o',rfl,h2⟩
  ·rintro v ⟨o,rfl,ho⟩;refine⟨o,?_,by rw[ho,ArJ,As0,Nat.div_one]⟩;simp only;unfold E6;rw[ApV (by simp)]
  ·rw[Nat.sub_zero,AsM hn,As0];decide
 rw[hx];exact⟨x,rfl,hq⟩
theorem Wv(a b:UInt64)(ha:a.toNat<PN):∃r,Hp a b 2305843009213690799=some r∧r.toNat=a.toNat*b.toNat%PN:=by
 have hP:((2305843009213690799:UInt64)).toNat=2305843009213690799:=rfl;unfold Hp
 obtain⟨x,hx,hq⟩:∃x,Ax (fun(v:UInt64×UInt64×UInt64)=>FP 2305843009213690799 v.1 v.2.1 v.2.2) (a,b,(0:UInt64))=some x∧x.toNat=a.toNat*b.toNat%PN:=by
  refine BR (fun v=>v.1.toNat<PN∧v.2.2.toNat<PN∧(v.2.2.toNat+v.1.toNat*v.2.1.toNat)%PN=a.toNat*b.toNat%PN) (fun v=>v.2.1.toNat) _ ?_ ⟨ha,by show(0:UInt64).toNat<PN;decide,by show(0+_)%_=_;rw[AqO]⟩ (by have:=Aeb b;simp only;omega);rintro⟨a1,b1,o1⟩ ⟨h1,h2,h3⟩;simp only at h1 h2 h3;have hPN:PN=2305843009213690799:=rfl;unfold FP;have hz:(b1>(0:UInt64))↔0<b1.toNat:=by rw[Asi,AqH];rfl
  have hpz:¬(2305843009213690799:UInt64)=0:=by decide
  by_cases hb:0<b1.toNat
  ·left;rw[ApU (Aqf (hz.2 hb))]
   have hodd:((b1%(2:UInt64))==(1:UInt64))=decide (b1.toNat%2=1):=by
    rw[Aqw,AqV,Aqd];have:(b1%(2:UInt64)).toNat=b1.toNat%2:=Aq9 _ _;rw[←this];exact⟨fun e=>by rw[e];rfl,fun e=>AlJ e⟩
   have ho:((o1+a1)%2305843009213690799).toNat=(o1.toNat+a1.toNat)%PN:=by
    rw[Aq9,S6,hP,Arg (a:=o1.toNat+a1.toNat) (by omega)]
   have hd:((a1+a1)%2305843009213690799).toNat=(a1.toNat+a1.toNat)%PN:=by
    rw[Aq9,S6,hP,Arg (a:=a1.toNat+a1.toNat) (by omega)]
   have hh:(b1/2).toNat=b1.toNat/2:=Ar9 _ _;have hlt:∀x:Nat,x%PN<PN:=fun x=>ArG _ (by decide)
   simp only[hodd,AJ,ApU hpz];by_cases hp:b1.toNat%2=1
   ·rw[ApU (Aqf hp)];refine⟨_,rfl,⟨?_,?_,?_⟩,?_⟩
    ·show((a1+a1)%2305843009213690799).toNat<PN;rw[hd];exact hlt _
    ·show((o1+a1)%2305843009213690799).toNat<PN;rw[ho];exact hlt _
    ·show(((o1+a1)%2305843009213690799).toNat+((a1+a1)%2305843009213690799).toNat*(b1/2).toNat)%PN=_;rw[ho,hd,hh,←h3,Asr,Nat.mod_mod,AsY,←Asr];congr 1;have e:b1.toNat=2*(b1.toNat/2)+1:=by omega
     generalize b1.toNat/2=c at *;rw[e,Nat.mul_add,ArL,←AsI,Nat.mul_two];omega
    ·show(b1/2).toNat<b1.toNat;rw[hh];omega
   ·rw[ApV (by simpa using hp)];refine⟨_,rfl,⟨?_,h2,?_⟩,?_⟩
    ·show((a1+a1)%2305843009213690799).toNat<PN;rw[hd];exact hlt _
    ·show(o1.toNat+((a1+a1)%2305843009213690799).toNat*(b1/2).toNat)%PN=_;rw[hd,hh,←h3,Asr,AsY,←Asr];congr 1;have e:b1.toNat=2*(b1.toNat/2):=by omega
     generalize b1.toNat/2=c at *;rw[e,←AsI,Nat.mul_two]
    ·show(b1/2).toNat<b1.toNat;rw[hh];omega
  ·right;rw[ApV (by simp only[Aqd];exact fun e=>hb (hz.1 e))];refine⟨_,rfl,?_⟩;have:b1.toNat=0:=by omega
   rw[this,Nat.mul_zero,Arv,Arg h2]at h3;exact h3
 rw[hx];exact⟨x,rfl,hq⟩
theorem Aff(b n:UInt64):∃r,Lm b n=some r∧r.toNat=b.toNat^n.toNat%PN:=by
 have hP:((2305843009213690799:UInt64)).toNat=2305843009213690799:=rfl;have hlt:∀x:Nat,x%PN<PN:=fun x=>ArG _ (by decide)
 unfold Lm;rw[AJ]
 obtain⟨x,hx,hq⟩:∃x,Ax (fun(v:UInt64×UInt64×UInt64)=>H1 v.1 v.2.1 v.2.2) ((b%2305843009213690799),n,(1:UInt64))=some x∧x.toNat=b.toNat^n.toNat%PN:=by
  refine BR (fun v=>v.1.toNat<PN∧v.2.2.toNat<PN∧(v.2.2.toNat*v.1.toNat^v.2.1.toNat)%PN=b.toNat^n.toNat%PN) (fun v=>v.2.1.toNat) _ ?_ ⟨?_,by show(1:UInt64).toNat<PN;decide,?_⟩ (by have:=Aeb n;simp only;omega)
  ·rintro⟨b1,n1,o1⟩ ⟨h1,h2,h3⟩;simp only at h1 h2 h3;unfold H1;have hz:(n1>(0:UInt64))↔0<n1.toNat:=by rw[Asi,AqH];rfl
   by_cases hb:0<n1.toNat
   ·left;rw[ApU (Aqf (hz.2 hb))]
    have hodd:((n1%(2:UInt64))==(1:UInt64))=decide (n1.toNat%2=1):=by
     rw[Aqw,AqV,Aqd];have:(n1%(2:UInt64)).toNat=n1.toNat%2:=Aq9 _ _;rw[←this];exact⟨fun e=>by rw[e];rfl,fun e=>AlJ e⟩
    obtain⟨s,hs,es⟩:=Wv b1 b1 h1;obtain⟨t,ht,et⟩:=Wv o1 b1 h2;have hh:(n1/2).toNat=n1.toNat/2:=Ar9 _ _;simp only[hodd,hs,ht,ApX]
    have hsq:∀k:Nat,(b1.toNat*b1.toNat%PN)^k%PN=b1.toNat^(2*k)%PN:=fun k=>by
     rw[←Nat.pow_mod,←Nat.pow_two,←Nat.pow_mul]
    by_cases hp:n1.toNat%2=1
    ·rw[ApU (Aqf hp)];refine⟨_,rfl,⟨?_,?_,?_⟩,?_⟩
     ·show s.toNat<PN;rw[es];exact hlt _
     ·show t.toNat<PN;rw[et];exact hlt _
     ·show(t.toNat*s.toNat^(n1/2).toNat)%PN=_;rw[et,es,hh,←h3,Asb,Nat.mod_mod,hsq,←Asb];have e:n1.toNat=2*(n1.toNat/2)+1:=by omega
      generalize n1.toNat/2=c at *;rw[e,AsZ,AsI,Arx b1.toNat]
     ·show(n1/2).toNat<n1.toNat;rw[hh];omega
    ·rw[ApV (by simpa using hp)];refine⟨_,rfl,⟨?_,h2,?_⟩,?_⟩
     ·show s.toNat<PN;rw[es];exact hlt _
     ·show(o1.toNat*s.toNat^(n1/2).toNat)%PN=_;rw[es,hh,←h3,Asb,hsq,←Asb];have e:n1.toNat=2*(n1.toNat/2):=by omega
      generalize n1.toNat/2=c at *;rw[e]
     ·show(n1/2).toNat<n1.toNat;rw[hh];omega
   ·right;rw[ApV (by simp only[Aqd];exact fun e=>hb (hz.1 e))];refine⟨_,rfl,?_⟩;have:n1.toNat=0:=by omega
    rw[this,As0,ArL,Arg h2]at h3;exact h3
  ·show(b%2305843009213690799).toNat<PN;rw[Aq9,hP];exact hlt _
  ·show(1*(b%2305843009213690799).toNat^n.toNat)%PN=_;rw[AqB,Aq9,hP,←Nat.pow_mod]
 rw[hx];exact⟨x,rfl,hq⟩
theorem Aoe:Es 1152921504606845399=some ((60:Nat):Int):=by decide +kernel
theorem Wf(x:UInt64):∃b,F4 x=some b∧Gu x=some b:=by
 unfold F4 Gu;obtain⟨r,hr,er⟩:=Ad0 x 1152921504606845399 60 Aoe (by decide) (by omega);obtain⟨s,hs,es⟩:=Aff x 1152921504606845399;have e:r=s:=AlJ (er.trans es.symm);subst e;rw[hr,hs];by_cases h1:decide (x≥2)=true
 ·rw[ApU h1];by_cases h2:decide (x<2305843009213690799)=true
  ·rw[ApU h2];exact⟨_,rfl,rfl⟩
  ·rw[ApV h2];exact⟨_,rfl,rfl⟩
 ·rw[ApV h1];exact⟨_,rfl,rfl⟩
theorem VL(n lo hi:Int):A6 n lo hi=some (decide (lo≤n)&&decide (n≤hi)):=by
 unfold A6;by_cases h:lo≤n<;>simp[h]
theorem ZG(n lo hi:Int):C2 n lo hi=some (decide (lo≤n)&&decide (n≤hi)):=by
 unfold C2;by_cases h:lo≤n<;>simp[h]
theorem S7(n lo hi:Int):AU n lo hi=some (decide (lo≤n)&&decide (n≤hi)):=by
 unfold AU;by_cases h:lo≤n<;>simp[h]
theorem Hd{α:Type}(q:α→Bool)(l:List α):∀b:Bool,l.foldl (fun b x=>b||q x) b=(b||l.any q):=by
 induction l with
 |nil=>intro b;simp
 |cons x l ih=>intro b;simp[ih,AsK]
theorem AoS(a b c:Int):Pm a b<c↔a<c∨b<c:=by unfold Pm;split<;>omega
theorem AlR(a b c:Int):JT a b≥c↔a≥c∨b≥c:=by unfold JT;split<;>omega
def FV(p:Aps):Bool:=(FD p).getD false
theorem Afq(p:Aps):FD p=some (FV p):=by
 unfold FV FD;simp only[ZG,Ay,I7,Ee];simp only[N7,AqX]
theorem AfZ(p:Aps):Fj p=some (FV p):=by
 unfold FV Fj FD;simp only[ZG,Ay,I7,Ee];simp only[N7,AqX];congr 1;rw[Aqw];by_cases h3:p.Za=3
 ·simp[h3];omega
 ·simp[h3];omega
def MH(n:Int)(x:Apt):Bool:=(HD x n).getD false
theorem Akd(n:Int)(x:Apt):HD x n=some (MH n x):=by
 unfold MH HD;simp only[ZG,Ay,I7,Ee];simp only[N7,AqX]
theorem Ai1(n:Apu)(hp:n.Ze.length≤4096)(he:n.Zf.length≤4096):∃e,EO n=some e∧ID n=some e∧(e=0→n.Ze.all FV=true):=by
 have w1:∀k:Nat,k<5000→w64 ((k:Int)+1)=((k+1:Nat):Int):=fun k hk=>CF (by omega)
 have l1:Ax (fun(v:Int)=>Cz n v) 0=some (if n.Ze.all FV=true then .inl ()else .inr (.inr 1)):=by
  refine Cx n.Ze (Cz n) FV _ _ (by omega) (fun k hk=>?_) ?_
  ·unfold Cz;rw[ApU (by simp;omega),ApU (A4 hk)];simp only[AJ,Ap1,w1 k (by omega)];rw[show(⟨(nth n.Ze k).Za,(nth n.Ze k).Zb,(nth n.Ze k).Zc⟩:Aps)=nth n.Ze k from rfl,AfZ];simp only[Ay];cases FV (nth n.Ze k)<;>rfl
  ·unfold Cz;rw[ApV (by simp)]
 have r1:Ax (fun(v:Int)=>DU n v) 0=some (if n.Ze.all FV=true then .inl ()else .inr (.inr 1)):=by
  refine Cx n.Ze (DU n) FV _ _ (by omega) (fun k hk=>?_) ?_
  ·unfold DU;rw[ApU (by simp;omega),ApU (A4 hk)];simp only[AJ,Ap1,w1 k (by omega),Afq,Ay];cases FV (nth n.Ze k)<;>rfl
  ·unfold DU;rw[ApV (by simp)]
 have l2:Ax (fun(v:Int)=>Cy n (n.Ze.length:Int) v) 0=some (if n.Zf.all (MH (n.Ze.length:Int))=true then .inl ()else .inr (.inr 1)):=by
  refine Cx n.Zf (Cy n (n.Ze.length:Int)) (MH (n.Ze.length:Int)) _ _ (by omega) (fun k hk=>?_) ?_
  ·unfold Cy;rw[ApU (by simp;omega),ApU (A4 hk)];simp only[AJ,Ap1,w1 k (by omega)];generalize nth n.Zf k=x
   have e:(if(decide ((Pm (Pm (Pm x.A x.B) x.Zb) x.Km)<0))then some true else if(decide ((JT x.A x.B)≥(n.Ze.length:Int)))then some true else if(x.A==x.B)then some true else if(decide (x.Zb≥16))then some true else if(decide (x.Zd<1))then some true else if(decide (x.Zd>100000))then some true else some ((decide (x.Km>10000))):Option Bool)=some (!MH (n.Ze.length:Int) x):=by
    unfold MH HD;simp only[ZG,Ay,I7,Ee,AqX];congr 1;rw[Aqw,show w64 ((n.Ze.length:Int)-1)=(n.Ze.length:Int)-1 from AH (by omega)];simp only[AoS,AlR,AqD,Ap9,Arj,Arm,Aqd,AqK,AqV,AsF,bne_eq_false_iff_eq];omega
   rw[e,Ay];cases MH (n.Ze.length:Int) x<;>rfl
  ·unfold Cy;rw[ApV (by simp)]
 have r2:Ax (fun(v:Int)=>DL n v) 0=some (if n.Zf.all (MH (n.Ze.length:Int))=true then .inl ()else .inr (.inr 1)):=by
  refine Cx n.Zf (DL n) (MH (n.Ze.length:Int)) _ _ (by omega) (fun k hk=>?_) ?_
  ·unfold DL;rw[ApU (by simp;omega),ApU (A4 hk)];simp only[AJ,Ap1,w1 k (by omega),Akd,Ay];cases MH (n.Ze.length:Int) (nth n.Zf k)<;>rfl
  ·unfold DL;rw[ApV (by simp)]
 unfold EO ID;simp only[AJ,I7,Ay];rw[l1,r1,l2,r2];simp only[Ay];by_cases h:(decide ((n.Ze.length:Int)>512)||decide ((n.Zf.length:Int)>2048))=true
 ·simp only[ApU h];exact⟨_,rfl,rfl,fun e=>by omega⟩
 ·simp only[ApV h];cases n.Ze.all FV
  ·exact⟨_,rfl,rfl,fun e=>by omega⟩
  ·cases n.Zf.all (MH (n.Ze.length:Int))<;>exact⟨_,rfl,rfl,fun _=>rfl⟩
theorem AaY{n k:Nat}(h:k<n):nth (List.range n) k=k:=by simp[nth,h]
def X5(l:List Int)(k:Nat):Bool:=decide (0≤nth l k)&&(decide (nth l k≤745654)&&(decide (k=0)||decide (nth l (k-1)<nth l k)))
theorem Ahi(c:ApD)(hl:c.Ze1.length≤1000000):Ax (fun(v:Int)=>DE c v) 0=some (if(List.range c.Ze1.length).all (X5 c.Ze1)=true then .inl ()else .inr (.inr 1)):=by
 have h:=Cx (List.range c.Ze1.length) (DE c) (X5 c.Ze1) (.inl ()) (.inr (.inr 1)) (by simp;omega) (fun k hk=>?_) ?_
 ·exact h
 ·rw[Ary]at hk;rw[AaY hk];unfold DE;rw[ApU (by simp;omega),ApU (A4 hk)];simp only[AJ,Ap1,CF (k:=k) (by omega)]
  have e:(if(decide (nth c.Ze1 k<0))then some true else if(decide (nth c.Ze1 k>745654))then some true else if(decide ((k:Int)>0))then(if InR ((w64 ((k:Int)-1))) c.Ze1.length then some ((decide (nth c.Ze1 (((w64 ((k:Int)-1))).toNat)≥nth c.Ze1 k)))else none)else some false:Option Bool)=some (!X5 c.Ze1 k):=by
   unfold X5;by_cases hz:k=0
   ·subst hz;rw[ApV (c:=decide (((0:Nat):Int)>0)=true) (by simp)];simp only[I7];congr 1;rw[Aqw];simp<;>omega
   ·have hw:w64 ((k:Int)-1)=((k-1:Nat):Int):=by rw[AH (by omega)];omega
    rw[ApU (c:=decide ((k:Int)>0)=true) (by simp;omega),hw,ApU (A4 (by omega))];simp only[I7,Ap1];congr 1;rw[Aqw];simp[hz]<;>omega
  rw[e,Ay];cases X5 c.Ze1 k<;>rfl
 ·rw[Ary];unfold DE;rw[ApV (by simp)]
theorem Adz(c:ApD)(hl:c.Ze1.length≤1000000):Ax (fun(v:Int×Int)=>CA c v.1 v.2) (-1,0)=some (if(List.range c.Ze1.length).all (X5 c.Ze1)=true then .inl ()else .inr (.inr 1)):=by
 obtain⟨x,hx,hq⟩:∃x,Ax (fun(v:Int×Int)=>CA c v.1 v.2) (-1,0)=some x∧x=(if(List.range c.Ze1.length).all (X5 c.Ze1)=true then .inl ()else .inr (.inr 1)):=by
  refine BR (fun v=>∃k:Nat,v.2=(k:Int)∧k≤c.Ze1.length∧(∀j,j<k→X5 c.Ze1 j=true)∧v.1=(if k=0 then -1 else nth c.Ze1 (k-1))∧-1≤v.1) (fun v=>((c.Ze1.length:Int)-v.2).toNat) _ ?_ ⟨0,rfl,Aqm _,fun j hj=>by omega,rfl,by show(-1:Int)≤-1;omega⟩ (by simp;omega);rintro⟨last,t⟩ ⟨k,rfl,hk,ht,hlast,hge⟩;simp only at hlast hge ⊢;unfold CA;by_cases h1:k<c.Ze1.length
  ·rw[ApU (by simp;omega),ApU (A4 h1)];simp only[AJ,Ap1,CF (k:=k) (by omega),I7,Ay]
   have e:(decide (nth c.Ze1 k≤last)||decide (nth c.Ze1 k>745654))=!X5 c.Ze1 k:=by
    unfold X5;rw[Aqw];by_cases hz:k=0
    ·subst hz;simp at hlast;subst hlast;simp<;>omega
    ·rw[ApV hz]at hlast;simp[hz,←hlast]<;>omega
   rw[e];by_cases hp:X5 c.Ze1 k=true
   ·left;rw[ApV (by simp[hp])];refine⟨_,rfl,⟨k+1,rfl,by omega,fun j hj=>?_,by simp,?_⟩,by simp only;omega⟩
    ·by_cases hjk:j=k
     ·subst hjk;exact hp
     ·exact ht j (by omega)
    ·show -1≤nth c.Ze1 k;unfold X5 at hp;simp at hp;omega
   ·right;rw[ApU (by simpa using hp)];refine⟨_,rfl,?_⟩;rw[ApV];intro ha;rw[Ap8]at ha;exact hp (ha k (AqN.2 h1))
  ·right;have hkl:k=c.Ze1.length:=by omega
   rw[ApV (by simp;omega)];refine⟨_,rfl,?_⟩;rw[ApU];rw[Ap8];intro j hj;exact ht j (by rw[hkl];exact AqN.1 hj)
 rw[hx,hq]
theorem Ad1(c:ApD)(hl:c.Ze1.length≤1000000):∃e,CR c=some e∧FE c=some e:=by
 unfold CR FE;simp only[AJ,I7,Ay];rw[Adz c hl,Ahi c hl];generalize(List.range c.Ze1.length).all (X5 c.Ze1)=z
 repeat' split
 all_goals first
  |exact⟨_,rfl,rfl⟩
  |(cases z<;>exact⟨_,rfl,rfl⟩)
def E1(b:Bool):Int:=if b then 1 else 0
theorem Xk(ok b:Bool):AC ok (E1 b)=some (E1 (b||!ok)):=by cases ok<;>cases b<;>rfl
theorem Ahp(a b c:Bool):(if a then some (E1 (b||!c))else some (E1 (b||!false)))=some (E1 (b||!(a&&c))):=by cases a<;>cases b<;>cases c<;>rfl
theorem Vo{α:Type}(p:α→Bool)(l:List α):l.any (fun x=>!p x)=!(l.all p):=by
 induction l with
 |nil=>rfl
 |cons x l ih=>rw[List.any_cons,ih,List.all_cons,As1]
def MI(t:Apv):Bool:=(Dl t).getD false
theorem Ajz(t:Apv):Dl t=some (MI t):=by
 unfold MI Dl;simp only[S7,Ay,Ee,AqX]
def Jv(n:Int)(t:Apw):Bool:=(CP t n).getD false
theorem Age(n:Int)(t:Apw):CP t n=some (Jv n t):=by
 unfold Jv CP;simp only[S7,Ay,Ee,AqX]
def RE(n:Int)(s:Apx):Bool:=(decide (0≤s.Zt)&&decide (s.Zt≤n-1))&&((decide (0≤s.Zu)&&decide (s.Zu≤n-1))&&((s.Zt != s.Zu)&&(decide (0≤s.Zv)&&decide (s.Zv≤1000000000))))
def QR(w:Apy):Bool:=(decide (0≤w.Zw)&&decide (w.Zw≤63))&&((decide (0≤w.To)&&decide (w.To≤63))&&((w.Zw != w.To)&&(decide (0≤w.Zd)&&decide (w.Zd≤100000))))
def washK(w:Apy):Nat:=w.Zw.toNat*64+w.To.toNat
theorem QY{w:Apy}(h:QR w=true):0≤w.Zw∧w.Zw≤63∧0≤w.To∧w.To≤63:=by
 unfold QR at h;simp at h;omega
section
variable (f:Apz)
theorem XZ(hl:f.Zx.length≤4096):Ax (fun(v:Int×Int)=>CX f v.1 v.2) (0,0)=some (E1 (!(f.Zx.all MI))):=by
 have h:=Ea f.Zx (fun(v:Int×Int)=>CX f v.1 v.2) (fun k b=>(k,E1 b)) (fun b t=>b||!MI t) E1 false (by omega) (fun k b hk=>?_) (fun b=>?_)
 ·rw[Hd,Vo]at h;exact h
 ·simp only;unfold CX;rw[ApU (by simp;omega),ApU (A4 hk)];simp only[AJ,Ap1,CF (k:=k) (by omega)];generalize nth f.Zx k=t;have hi:=Ea ([t.Zg,t.Zh,t.Zi,t.Zk]:List Int) (fun(v:Int×Int)=>D6 (([t.Zg,t.Zh,t.Zi,t.Zk]:List Int).length:Int) [t.Zg,t.Zh,t.Zi,t.Zk] v.1 v.2) (fun k b=>(k,E1 b)) (fun b n=>b||!(decide (0≤n)&&decide (n≤1000000))) E1 b (by simp) (fun k b hk=>?_) (fun b=>?_)
  ·rw[Hd]at hi;rw[hi];simp only[Ay,VL,Xk,Ahp]
   have e:(b||([t.Zg,t.Zh,t.Zi,t.Zk]:List Int).any (fun n=>!(decide (0≤n)&&decide (n≤1000000)))||!((decide (0≤t.Zj)&&decide (t.Zj≤7))&&((decide (1≤t.Zm)&&decide (t.Zm≤1073741824))&&(decide (0≤t.Zn)&&decide (t.Zn≤100)))))=(b||!MI t):=by
    unfold MI Dl;simp only[S7,Ay,Ee,AqX,List.any_cons,List.any_nil,AsL];rw[AsK];congr 1;simp only[As1,AsK]
   rw[e]
  ·simp only;unfold D6;rw[ApU (by simp;simp at hk;omega),ApU (A4 hk)];simp only[VL,Ay,Xk,Ap1,CF (k:=k) (by simp at hk;omega)]
  ·simp only;unfold D6;rw[ApV (by simp)]
 ·simp only;unfold CX;rw[ApV (by simp)]
theorem TV(b0:Bool)(hl:f.Zy.length≤4096)(ht:f.Zx.length≤4096):Ax (fun(v:Int×Int)=>CW f v.1 v.2) (0,E1 b0)=some (E1 (b0||!(f.Zy.all (Jv (f.Zx.length:Int))))):=by
 have h:=Ea f.Zy (fun(v:Int×Int)=>CW f v.1 v.2) (fun k b=>(k,E1 b)) (fun b t=>b||!Jv (f.Zx.length:Int) t) E1 b0 (by omega) (fun k b hk=>?_) (fun b=>?_)
 ·rw[Hd,Vo]at h;exact h
 ·simp only;unfold CW;rw[ApU (by simp;omega),ApU (A4 hk)];simp only[AJ,Ap1,CF (k:=k) (by omega),VL,Ay,Xk,Ahp];generalize nth f.Zy k=t;have e:∀a c d e g:Bool,(b||!(a&&(c&&d))||!(e&&g))=(b||!(a&&(c&&(d&&(e&&g))))):=by intro a c d e g;cases a<;>cases b<;>cases c<;>cases d<;>cases e<;>cases g<;>rfl
  rw[e];unfold Jv CP;simp only[S7,Ay,Ee,AqX]
 ·simp only;unfold CW;rw[ApV (by simp)]
theorem Xe(b0:Bool)(hl:f.Zz.length≤4096)(ht:f.Zx.length≤4096):Ax (fun(v:Int×Int)=>CV f v.1 v.2) (0,E1 b0)=some (E1 (b0||!(f.Zz.all (RE (f.Zx.length:Int))))):=by
 have hw:w64 ((f.Zx.length:Int)-1)=(f.Zx.length:Int)-1:=AH (by omega);have h:=Ea f.Zz (fun(v:Int×Int)=>CV f v.1 v.2) (fun k b=>(k,E1 b)) (fun b t=>b||!RE (f.Zx.length:Int) t) E1 b0 (by omega) (fun k b hk=>?_) (fun b=>?_)
 ·rw[Hd,Vo]at h;exact h
 ·simp only;unfold CV;rw[ApU (by simp;omega),ApU (A4 hk)];simp only[AJ,Ap1,CF (k:=k) (by omega),VL,Ay,Xk,Ahp,hw];rfl
 ·simp only;unfold CV;rw[ApV (by simp)]
theorem YG(hl:f.Zx.length≤4096):Ax (fun(v:Int)=>DM f v) 0=some (if f.Zx.all MI=true then .inl ()else .inr (.inr 1)):=by
 refine Cx f.Zx (DM f) MI _ _ (by omega) (fun k hk=>?_) ?_
 ·unfold DM;rw[ApU (by simp;omega),ApU (A4 hk)];simp only[Ap1,CF (k:=k) (by omega),Ajz,Ay];cases MI (nth f.Zx k)<;>rfl
 ·unfold DM;rw[ApV (by simp)]
theorem Yv(hl:f.Zy.length≤4096):Ax (fun(v:Int)=>DG f v) 0=some (if f.Zy.all (Jv (f.Zx.length:Int))=true then .inl ()else .inr (.inr 1)):=by
 refine Cx f.Zy (DG f) (Jv (f.Zx.length:Int)) _ _ (by omega) (fun k hk=>?_) ?_
 ·unfold DG;rw[ApU (by simp;omega),ApU (A4 hk)];simp only[Ap1,CF (k:=k) (by omega),Age,Ay];cases Jv (f.Zx.length:Int) (nth f.Zy k)<;>rfl
 ·unfold DG;rw[ApV (by simp)]
theorem ZP(hl:f.Zz.length≤4096)(ht:f.Zx.length≤4096):Ax (fun(v:Int)=>DF f v) 0=some (if f.Zz.all (RE (f.Zx.length:Int))=true then .inl ()else .inr (.inr 1)):=by
 have hw:w64 ((f.Zx.length:Int)-1)=(f.Zx.length:Int)-1:=AH (by omega);refine Cx f.Zz (DF f) (RE (f.Zx.length:Int)) _ _ (by omega) (fun k hk=>?_) ?_
 ·unfold DF;rw[ApU (by simp;omega),ApU (A4 hk)];simp only[AJ,Ap1,CF (k:=k) (by omega),S7,Ay,I7,hw];generalize nth f.Zz k=s
  have e:(!(decide (0≤s.Zt)&&decide (s.Zt≤(f.Zx.length:Int)-1))||(!(decide (0≤s.Zu)&&decide (s.Zu≤(f.Zx.length:Int)-1))||((s.Zt==s.Zu)||!(decide (0≤s.Zv)&&decide (s.Zv≤1000000000)))))=!RE (f.Zx.length:Int) s:=by
   unfold RE;simp only[As1,bne,Asy]
  rw[e];cases RE (f.Zx.length:Int) s<;>rfl
 ·unfold DF;rw[ApV (by simp)]
def FX(s:Bool×Arr Bool 4096)(w:Apy):Bool×Arr Bool 4096:=if QR w=true then(s.1||s.2.get (washK w),s.2.set (washK w) true)else(true,s.2)
theorem AcW(b c:Bool)(g:Arr Bool 4096)(w:Apy):FX (b||c,g) w=(b||(FX (c,g) w).1,(FX (c,g) w).2):=by
 unfold FX;split<;>simp[AsK]
theorem WW(l:List Apy):∀(b c:Bool) (g:Arr Bool 4096),(l.foldl FX (b||c,g)).1=(b||(l.foldl FX (c,g)).1):=by
  induction l with
  |nil=>intro b c g;rfl
  | cons w l ih=>
    intro b c g;rw[AsR,AsR,AcW];generalize FX (c,g) w=s;obtain⟨d,g'⟩:=s;exact ih b d g'
theorem Sn(l:List Apy)(g:Arr Bool 4096):(l.foldl FX (true,g)).1=true:=by
 have:=WW l true false g;simpa using this
theorem Ad3{w:Apy}(h:QR w=true):washK w<4096:=by have:=QY h;unfold washK;omega
theorem VE(b0:Bool)(g0:Arr Bool 4096)(hl:f.Za1.length≤4096):Ax (fun(v:Int×Int×Arr Bool 4096)=>CO f v.1 v.2.1 v.2.2) (0,E1 b0,g0)=some (E1 (f.Za1.foldl FX (b0,g0)).1):=by
 refine Ea f.Za1 (fun(v:Int×Int×Arr Bool 4096)=>CO f v.1 v.2.1 v.2.2) (fun k s=>(k,E1 s.1,s.2)) FX (fun s=>E1 s.1) (b0,g0) (by omega) (fun k s hk=>?_) (fun s=>?_)
 ·obtain⟨b,g⟩:=s;simp only;unfold CO;rw[ApU (by simp;omega),ApU (A4 hk)];simp only[AJ,Ap1,CF (k:=k) (by omega),VL,Ay,Ee,Xk];generalize nth f.Za1 k=w;rw[show((decide (0≤w.Zw)&&decide (w.Zw≤63))&&((decide (0≤w.To)&&decide (w.To≤63))&&((w.Zw != w.To)&&(decide (0≤w.Zd)&&decide (w.Zd≤100000)))))=QR w from rfl];unfold FX;by_cases h:QR w=true
  ·have hr:=QY h;rw[ApU h,ApU h,ApU (show InR w.Zw 64 by unfold InR;omega),ApU (show InR w.To 64 by unfold InR;omega)];simp only[h,Ay,Bool.not_true,AsL,Asy,show AC (!(g.get (w.Zw.toNat*64+w.To.toNat))) (E1 b)=some (E1 (b||!(!(g.get (w.Zw.toNat*64+w.To.toNat)))))from Xk _ _];rw[ApU (show InR w.Zw 64 by unfold InR;omega),ApU (show InR w.To 64 by unfold InR;omega),Ay];rfl
  ·rw[ApV h,ApV h];simp only[ArR]at h;simp only[h,Ay,As5,Bool.or_true]
 ·simp only;unfold CO;rw[ApV (by simp)]
theorem Xs(l:List Apy)(hl:l.length≤4096):Hq l=some (E1 (l.foldl FX (false,Arr.rep 4096 false)).1):=by
 unfold Hq;rw[ApU (by unfold Mk maxLen GT;omega),AJ]
 obtain⟨x,hx,hq⟩:∃x,Ax (fun(v:Int×List Bool)=>Fh l v.1 v.2) (0,List.replicate 4096 false)=some x∧x=(if(l.foldl FX (false,Arr.rep 4096 false)).1=true then .inr (.inr 1)else .inl ()):=by
  refine BR (fun v=>∃(k:Nat) (g:Arr Bool 4096),v=((k:Int),g.l)∧k≤l.length∧(l.take k).foldl FX (false,Arr.rep 4096 false)=(false,g)) (fun v=>((l.length:Int)-v.1).toNat) _ ?_ ⟨0,Arr.rep 4096 false,rfl,Aqm _,rfl⟩ (by simp;omega);rintro v ⟨k,g,rfl,hk,hf⟩;simp only;unfold Fh;by_cases h1:k<l.length
  ·rw[ApU (by simp;omega),ApU (A4 h1)];have hn:nth l k=l[k]:=by simp[nth,h1]
   have hstep:l.foldl FX (false,Arr.rep 4096 false)=(l.drop (k+1)).foldl FX (FX (false,g) (nth l k)):=by
    conv=>lhs;rw[←Arl (k+1) l,Asf,AqJ h1,Asf,hf]
    rw[hn];rfl
   simp only[AJ,Ap1,CF (k:=k) (by omega),S7,Ay,I7];generalize nth l k=w at *
   have e:(!(decide (0≤w.Zw)&&decide (w.Zw≤63))||(!(decide (0≤w.To)&&decide (w.To≤63))||((w.Zw==w.To)||!(decide (0≤w.Zd)&&decide (w.Zd≤100000)))))=!QR w:=by
    unfold QR;simp only[As1,bne,Asy]
   rw[e];by_cases h:QR w=true
   ·have hr:=QY h
    have hkey:w64 (w64 (64*w.Zw)+w.To)=((washK w:Nat):Int):=by
     rw[AH (x:=64*w.Zw) (by omega),AH (by omega)];unfold washK;omega
    rw[ApV (by simp[h]),hkey,ApU (by rw[g.h];exact A4 (Ad3 h))];simp only[Ap1];have hG:FX (false,g) w=(g.get (washK w),g.set (washK w) true):=by unfold FX;rw[ApU h];simp
    by_cases hs:nth g.l (washK w)=true
    ·right;rw[ApU hs];refine⟨_,rfl,?_⟩;rw[hstep,hG,show g.get (washK w)=true from hs,Sn];rfl
    ·left;rw[ApV hs,ApU (by rw[g.h];exact A4 (Ad3 h))];refine⟨_,rfl,⟨k+1,g.set (washK w) true,rfl,by omega,?_⟩,by simp only;omega⟩;rw[AqJ h1,Asf,hf,←hn];show FX (false,g) w=_;rw[hG,show g.get (washK w)=false from(ArR _).mp hs]
   ·right;rw[ApU (by simpa using h)];refine⟨_,rfl,?_⟩;have hG:FX (false,g) w=(true,g):=by unfold FX;rw[ApV h]
    rw[hstep,hG,Sn];rfl
  ·right;have:k=l.length:=by omega
   subst this;rw[ApV (by simp)];rw[AqT]at hf;exact⟨_,rfl,by rw[hf];rfl⟩
 rw[hx,hq];cases(l.foldl FX (false,Arr.rep 4096 false)).1<;>rfl
theorem AcH(h1:f.Zx.length≤4096)(h2:f.Zy.length≤4096)(h3:f.Zz.length≤4096)(h4:f.Za1.length≤4096):∃e,G0 f=some e∧IE f=some e:=by
 unfold G0 IE;simp only[I7,Ay];rw[XZ f h1];simp only[Ay];rw[TV f _ h2 h1];simp only[Ay];rw[Xe f _ h3 h1];simp only[Ay];rw[VE f _ _ h4];simp only[Ay];rw[YG f h1,Yv f h2,ZP f h3 h1,Xs _ h4];split
 ·exact⟨_,rfl,rfl⟩
 ·have hF:=WW f.Za1 (!f.Zx.all MI||!f.Zy.all (Jv (f.Zx.length:Int))||!f.Zz.all (RE (f.Zx.length:Int))) false (Arr.rep 4096 false);rw[AsL]at hF;rw[hF];refine⟨_,rfl,?_⟩;generalize(f.Za1.foldl FX (false,Arr.rep 4096 false)).1=z;cases f.Zx.all MI<;>cases f.Zy.all (Jv (f.Zx.length:Int))<;>cases f.Zz.all (RE (f.Zx.length:Int))<;>cases z<;>rfl
end
structure Few(p:ApF):Prop where
  places:p.Zg1.Ze.length≤4096
  edges:p.Zg1.Zf.length≤4096
  types:p.Zh1.Zx.length≤4096
  wagons:p.Zh1.Zy.length≤4096
  swaps:p.Zh1.Zz.length≤4096
  washes:p.Zh1.Za1.length≤4096
  readers:p.Zi1.length≤4096
  shippers:p.Zj1.length≤4096
  railways:p.Zk1.length≤4096
  days:∀k,k<p.Zk1.length→(nth p.Zk1 k).Zf1.Ze1.length≤1000000
def Ael(c:ApD):Int:=(FE c).getD 0
theorem Apq{c:ApD}(hl:c.Ze1.length≤1000000):CR c=some (Ael c):=by
 obtain⟨e,h1,h2⟩:=Ad1 c hl;rw[h1];unfold Ael;rw[h2];rfl
theorem Apa{c:ApD}(hl:c.Ze1.length≤1000000):FE c=some (Ael c):=by
 obtain⟨e,h1,h2⟩:=Ad1 c hl;unfold Ael;rw[h2];rfl
def Nd(x:UInt64):Bool:=(Gu x).getD false
theorem Ajr(x:UInt64):F4 x=some (Nd x):=by
 obtain⟨e,h1,h2⟩:=Wf x;rw[h1];unfold Nd;rw[h2];rfl
theorem AmC(x:UInt64):Gu x=some (Nd x):=by
 obtain⟨e,h1,h2⟩:=Wf x;unfold Nd;rw[h2];rfl
def HO(n:Int)(r:ApA):Bool:=!(decide (0≤r.Zb1)&&decide (r.Zb1≤n-1))||(decide (r.Low < -1000)||(decide (r.Low>r.Zc1)||decide (r.Zc1>1000)))
def RA(p:ApF)(s:ApB):Bool:=if 0≤s.Zb1∧s.Zb1<(p.Zg1.Ze.length:Int)then(nth p.Zg1.Ze s.Zb1.toNat).Za != 4 else true
def RI(n:Int)(w:Apw):Bool:=decide (w.Zq≥n)
def JY(n:Int)(x:Aps):Bool:=decide (x.Zb≥n)||decide (x.Zc≥n)
def R1(n:Int)(x:Apt):Bool:=decide (x.Zb≥n)
def TY(r:ApE):Bool:=(Ael r.Zf1 != 0)||!Nd r.Key
section
variable {p:ApF}(h:Few p)
include h
theorem p1(b0:Bool):Ax (fun(v:Bool×Int)=>BN p v.1 v.2) (b0,0)=some (b0||p.Zi1.any (HO (p.Zg1.Ze.length:Int))):=by
 have hh:=h.readers;have hp:=h.places;have hw:w64 ((p.Zg1.Ze.length:Int)-1)=(p.Zg1.Ze.length:Int)-1:=AH (by omega);have:=Ea p.Zi1 (fun(v:Bool×Int)=>BN p v.1 v.2) (fun k b=>(b,k)) (fun b t=>b||HO (p.Zg1.Ze.length:Int) t) id b0 (by omega) (fun k b hk=>?_) (fun b=>?_)
 ·rw[Hd]at this;exact this
 ·simp only;unfold BN;rw[ApU (by simp;omega),ApU (A4 hk)];simp only[AJ,Ap1,CF (k:=k) (by omega),VL,Ay,I7,hw];rfl
 ·simp only;unfold BN;rw[ApV (by simp)];rfl
theorem p2(b0:Bool):Ax (fun(v:Bool×Int)=>BQ p v.1 v.2) (b0,0)=some (b0||p.Zj1.any (RA p)):=by
 have hh:=h.shippers;have hp:=h.places;have hw:w64 ((p.Zg1.Ze.length:Int)-1)=(p.Zg1.Ze.length:Int)-1:=AH (by omega);have:=Ea p.Zj1 (fun(v:Bool×Int)=>BQ p v.1 v.2) (fun k b=>(b,k)) (fun b t=>b||RA p t) id b0 (by omega) (fun k b hk=>?_) (fun b=>?_)
 ·rw[Hd]at this;exact this
 ·simp only;unfold BQ;rw[ApU (by simp;omega),ApU (A4 hk)];simp only[AJ,Ap1,CF (k:=k) (by omega),VL,Ay,hw];generalize nth p.Zj1 k=s;unfold RA;cases b
  ·rw[ApV (by simp)];by_cases hq:0≤s.Zb1∧s.Zb1<(p.Zg1.Ze.length:Int)
   ·rw[ApV (by simp;omega),ApU (show InR s.Zb1 p.Zg1.Ze.length by unfold InR;omega),Ay,ApU hq];rfl
   ·rw[ApU (by simp;omega),Ay,ApV hq];rfl
  ·rw[ApU rfl,Ay];rfl
 ·simp only;unfold BQ;rw[ApV (by simp)];rfl
theorem p3(b0:Bool):Ax (fun(v:Bool×Int)=>BL p v.1 v.2) (b0,0)=some (b0||p.Zh1.Zy.any (RI (p.Zg1.Ze.length:Int))):=by
 have hh:=h.wagons;have:=Ea p.Zh1.Zy (fun(v:Bool×Int)=>BL p v.1 v.2) (fun k b=>(b,k)) (fun b t=>b||RI (p.Zg1.Ze.length:Int) t) id b0 (by omega) (fun k b hk=>?_) (fun b=>?_)
 ·rw[Hd]at this;exact this
 ·simp only;unfold BL;rw[ApU (by simp;omega),ApU (A4 hk)];simp only[AJ,Ap1,CF (k:=k) (by omega),Ay,I7];rfl
 ·simp only;unfold BL;rw[ApV (by simp)];rfl
theorem p4(n:Int)(b0:Bool):Ax (fun(v:Bool×Int)=>BO p n v.1 v.2) (b0,0)=some (b0||p.Zg1.Ze.any (JY n)):=by
 have hh:=h.places;have:=Ea p.Zg1.Ze (fun(v:Bool×Int)=>BO p n v.1 v.2) (fun k b=>(b,k)) (fun b t=>b||JY n t) id b0 (by omega) (fun k b hk=>?_) (fun b=>?_)
 ·rw[Hd]at this;exact this
 ·simp only;unfold BO;rw[ApU (by simp;omega),ApU (A4 hk)];simp only[AJ,Ap1,CF (k:=k) (by omega),Ay,I7];rfl
 ·simp only;unfold BO;rw[ApV (by simp)];rfl
theorem p5(n:Int)(b0:Bool):Ax (fun(v:Bool×Int)=>BI p n v.1 v.2) (b0,0)=some (b0||p.Zg1.Zf.any (R1 n)):=by
 have hh:=h.edges;have:=Ea p.Zg1.Zf (fun(v:Bool×Int)=>BI p n v.1 v.2) (fun k b=>(b,k)) (fun b t=>b||R1 n t) id b0 (by omega) (fun k b hk=>?_) (fun b=>?_)
 ·rw[Hd]at this;exact this
 ·simp only;unfold BI;rw[ApU (by simp;omega),ApU (A4 hk)];simp only[AJ,Ap1,CF (k:=k) (by omega),Ay,I7];rfl
 ·simp only;unfold BI;rw[ApV (by simp)];rfl
theorem p6(b0:Bool):Ax (fun(v:Bool×Int)=>BH p v.1 v.2) (b0,0)=some (b0||p.Zk1.any TY):=by
 have hh:=h.railways;have:=Ea p.Zk1 (fun(v:Bool×Int)=>BH p v.1 v.2) (fun k b=>(b,k)) (fun b t=>b||TY t) id b0 (by omega) (fun k b hk=>?_) (fun b=>?_)
 ·rw[Hd]at this;exact this
 ·simp only;unfold BH;rw[ApU (by simp;omega),ApU (A4 hk)];simp only[AJ,Ap1,CF (k:=k) (by omega)];have hc:=Apq (h.days k hk);generalize nth p.Zk1 k=r at *;rw[show CR _=some (Ael r.Zf1)from hc];simp only[Ajr,Ay,I7];rfl
 ·simp only;unfold BH;rw[ApV (by simp)];rfl
theorem r1(n:Int)(hn:n=(p.Zg1.Ze.length:Int)):Ax (fun(v:Int)=>ED p n v) 0=some (if p.Zi1.all (fun x=>!HO n x)=true then .inl ()else .inr (.inr false)):=by
 have hh:=h.readers;have hp:=h.places;have hw:w64 (n-1)=n-1:=AH (by omega);refine Cx p.Zi1 (ED p n) (fun x=>!HO n x) _ _ (by omega) (fun k hk=>?_) ?_
 ·unfold ED;rw[ApU (by simp;omega),ApU (A4 hk)];simp only[AJ,Ap1,CF (k:=k) (by omega),S7,Ay,I7,hw];generalize nth p.Zi1 k=r;rw[show(!(decide (0≤r.Zb1)&&decide (r.Zb1≤n-1))||(decide (r.Low < -1000)||(decide (r.Zc1<r.Low)||decide (r.Zc1>1000))))=HO n r from rfl];cases HO n r<;>rfl
 ·unfold ED;rw[ApV (by simp)]
theorem r2:Ax (fun(v:Int)=>E7 p (p.Zg1.Ze.length:Int) v) 0=some (if p.Zj1.all (fun x=>!RA p x)=true then .inl ()else .inr (.inr false)):=by
 have hh:=h.shippers;have hp:=h.places;have hw:w64 ((p.Zg1.Ze.length:Int)-1)=(p.Zg1.Ze.length:Int)-1:=AH (by omega);refine Cx p.Zj1 (E7 p (p.Zg1.Ze.length:Int)) (fun x=>!RA p x) _ _ (by omega) (fun k hk=>?_) ?_
 ·unfold E7;rw[ApU (by simp;omega),ApU (A4 hk)];simp only[AJ,Ap1,CF (k:=k) (by omega),S7,Ay,hw];rw[ApU (A4 hk)];generalize nth p.Zj1 k=s;unfold RA;by_cases hq:0≤s.Zb1∧s.Zb1<(p.Zg1.Ze.length:Int)
  ·rw[ApV (by simp;omega),ApU (show InR s.Zb1 p.Zg1.Ze.length by unfold InR;omega),Ay,ApU hq];cases(nth p.Zg1.Ze s.Zb1.toNat).Za != 4<;>rfl
  ·rw[ApU (by simp;omega),Ay,ApV hq];rfl
 ·unfold E7;rw[ApV (by simp)]
theorem r3(n:Int):Ax (fun(v:Int)=>EB p n v) 0=some (if p.Zh1.Zy.all (fun x=>!RI n x)=true then .inl ()else .inr (.inr false)):=by
 have hh:=h.wagons;refine Cx p.Zh1.Zy (EB p n) (fun x=>!RI n x) _ _ (by omega) (fun k hk=>?_) ?_
 ·unfold EB;rw[ApU (by simp;omega),ApU (A4 hk)];simp only[AJ,Ap1,CF (k:=k) (by omega)];rw[show decide ((nth p.Zh1.Zy k).Zq≥n)=RI n (nth p.Zh1.Zy k)from rfl];cases RI n (nth p.Zh1.Zy k)<;>rfl
 ·unfold EB;rw[ApV (by simp)]
theorem r4(n:Int):Ax (fun(v:Int)=>Ed p n v) 0=some (if p.Zg1.Ze.all (fun x=>!JY n x)=true then .inl ()else .inr (.inr false)):=by
 have hh:=h.places;refine Cx p.Zg1.Ze (Ed p n) (fun x=>!JY n x) _ _ (by omega) (fun k hk=>?_) ?_
 ·unfold Ed;rw[ApU (by simp;omega),ApU (A4 hk)];simp only[AJ,Ap1,CF (k:=k) (by omega),I7,Ay];generalize nth p.Zg1.Ze k=w;rw[show(decide (w.Zb≥n)||decide (w.Zc≥n))=JY n w from rfl];cases JY n w<;>rfl
 ·unfold Ed;rw[ApV (by simp)]
theorem r5(n:Int):Ax (fun(v:Int)=>DX p n v) 0=some (if p.Zg1.Zf.all (fun x=>!R1 n x)=true then .inl ()else .inr (.inr false)):=by
 have hh:=h.edges;refine Cx p.Zg1.Zf (DX p n) (fun x=>!R1 n x) _ _ (by omega) (fun k hk=>?_) ?_
 ·unfold DX;rw[ApU (by simp;omega),ApU (A4 hk)];simp only[AJ,Ap1,CF (k:=k) (by omega)];rw[show decide ((nth p.Zg1.Zf k).Zb≥n)=R1 n (nth p.Zg1.Zf k)from rfl];cases R1 n (nth p.Zg1.Zf k)<;>rfl
 ·unfold DX;rw[ApV (by simp)]
theorem r6:Ax (fun(v:Int)=>C0 p v) 0=some (if p.Zk1.all (fun x=>!TY x)=true then .inl ()else .inr (.inr 1)):=by
 have hh:=h.railways;refine Cx p.Zk1 (C0 p) (fun x=>!TY x) _ _ (by omega) (fun k hk=>?_) ?_
 ·unfold C0;rw[ApU (by simp;omega),ApU (A4 hk)];simp only[AJ,Ap1,CF (k:=k) (by omega)];have hc:=Apa (h.days k hk);rw[ApU (A4 hk)];generalize nth p.Zk1 k=r at *;rw[show FE _=some (Ael r.Zf1)from hc];simp only[AmC,Ay,I7];rw[show((Ael r.Zf1 != 0)||!Nd r.Key)=TY r from rfl];cases TY r<;>rfl
 ·unfold C0;rw[ApV (by simp)]
theorem AeF:Ka p=some (!(p.Zi1.any (HO (p.Zg1.Ze.length:Int))||(p.Zj1.any (RA p)||p.Zh1.Zy.any (RI (p.Zg1.Ze.length:Int))))):=by
 unfold Ka;rw[AJ,r1 h _ rfl,r2 h,r3 h];simp only[Ay,←Arj,←ArQ];cases p.Zi1.any (HO (p.Zg1.Ze.length:Int))<;>cases p.Zj1.any (RA p)<;>cases p.Zh1.Zy.any (RI (p.Zg1.Ze.length:Int))<;>rfl
theorem Ac8:I8 p=some (!(p.Zg1.Ze.any (JY (p.Zk1.length:Int))||p.Zg1.Zf.any (R1 (p.Zk1.length:Int)))):=by
 unfold I8;rw[AJ,r4 h,r5 h];simp only[Ay,←ArQ];cases p.Zg1.Ze.any (JY (p.Zk1.length:Int))<;>cases p.Zg1.Zf.any (R1 (p.Zk1.length:Int))<;>rfl
theorem AgK:∃e,B5 p=some e∧El p=some e∧(e=0→p.Zg1.Ze.all FV=true):=by
 obtain⟨e1,n1,n2,n3⟩:=Ai1 p.Zg1 h.places h.edges;obtain⟨e2,f1,f2⟩:=AcH p.Zh1 h.types h.wagons h.swaps h.washes;unfold B5 El;rw[n1,n2,f1,f2];simp only[Ay,AJ,I7];rw[AeF h,Ac8 h,r6 h,p1 h];simp only[Ay];rw[p2 h];simp only[Ay];rw[p3 h];simp only[Ay];rw[p4 h];simp only[Ay];rw[p5 h];simp only[Ay];rw[p6 h];simp only[Ay,I7,Asy,←ArQ];split
 ·rename_i q1;exact⟨_,rfl,rfl,fun e=>by subst e;exact absurd q1 (by decide)⟩
 rename_i q1;have q0:e1=0:=by simpa using q1
 have hall:=n3 q0;split
 ·exact⟨_,rfl,rfl,fun _=>hall⟩
 split
 ·exact⟨_,rfl,rfl,fun _=>hall⟩
 ·generalize((p.Zk1.length:Int)==0)=z;cases z<;>cases p.Zi1.any (HO (p.Zg1.Ze.length:Int))<;>cases p.Zj1.any (RA p)<;>cases p.Zh1.Zy.any (RI (p.Zg1.Ze.length:Int))<;>cases p.Zg1.Ze.any (JY (p.Zk1.length:Int))<;>cases p.Zg1.Zf.any (R1 (p.Zk1.length:Int))<;>cases p.Zk1.any TY<;>exact⟨_,rfl,rfl,fun _=>hall⟩
end
theorem JM(n lo hi:Int):A9 n lo hi=some (decide (lo≤n)&&decide (n≤hi)):=by
 unfold A9;by_cases h:lo≤n<;>simp[h]
theorem Ais(c:ApO)(lo hi:Int):Cj c lo hi=some { c with it:={ c.it with Zn1:=0 },ok:=c.ok&&(decide (lo≤c.it.Zn1)&&decide (c.it.Zn1≤hi)) }:=by
 unfold Cj;simp only[Ee,Ay]
theorem Ajy(c:ApO)(lo hi:Int):Bt c lo hi=some { c with it:={ c.it with Zc:=0 },ok:=c.ok&&(decide (lo≤c.it.Zc)&&decide (c.it.Zc≤hi)) }:=by
 unfold Bt;simp only[Ee,Ay]
theorem Aif(c:ApO)(lo hi:Int):Bu c lo hi=some { c with it:={ c.it with Zo1:=0 },ok:=c.ok&&(decide (lo≤c.it.Zo1)&&decide (c.it.Zo1≤hi)) }:=by
 unfold Bu;simp only[Ee,Ay]
theorem Ajq(c:ApO)(lo hi:Int):Cq c lo hi=some { c with it:={ c.it with Zw:=0 },ok:=c.ok&&(decide (lo≤c.it.Zw)&&decide (c.it.Zw≤hi)) }:=by
 unfold Cq;simp only[Ee,Ay]
theorem AiC(c:ApO)(lo hi:Int):Cr c lo hi=some { c with it:={ c.it with To:=0 },ok:=c.ok&&(decide (lo≤c.it.To)&&decide (c.it.To≤hi)) }:=by
 unfold Cr;simp only[Ee,Ay]
theorem Aih(c:ApO)(lo hi:Int):Be c lo hi=some { c with it:={ c.it with Code:=0 },ok:=c.ok&&(decide (lo≤c.it.Code)&&decide (c.it.Code≤hi)) }:=by
 unfold Be;simp only[Ee,Ay]
theorem Ah0(c:ApO)(lo hi:Int):Cu c lo hi=some { c with it:={ c.it with Zp1:=0 },ok:=c.ok&&(decide (lo≤c.it.Zp1)&&decide (c.it.Zp1≤hi)) }:=by
 unfold Cu;simp only[Ee,Ay]
theorem Ake(c:ApO)(lo hi:Int):Cn c lo hi=some { c with it:={ c.it with Zq1:=0 },ok:=c.ok&&(decide (lo≤c.it.Zq1)&&decide (c.it.Zq1≤hi)) }:=by
 unfold Cn;simp only[Ee,Ay]
theorem Ajh(c:ApO)(lo hi:Int):B8 c lo hi=some { c with it:={ c.it with Zr1:=0 },ok:=c.ok&&(decide (lo≤c.it.Zr1)&&decide (c.it.Zr1≤hi)) }:=by
 unfold B8;simp only[Ee,Ay]
theorem AhI(c:ApO)(lo hi:Int):B9 c lo hi=some { c with it:={ c.it with Zs1:=0 },ok:=c.ok&&(decide (lo≤c.it.Zs1)&&decide (c.it.Zs1≤hi)) }:=by
 unfold B9;simp only[Ee,Ay]
def ES(p:ApF)(i:Int):Aps:=if 0≤i∧i<(p.Zg1.Ze.length:Int)then nth p.Zg1.Ze i.toNat else⟨0,0,0⟩
theorem Aky(c:ApO)(kind:Int):Bj c kind=some (ES c.p c.it.Zb1,{ c with it:={ c.it with Zb1:=0 },ok:=c.ok&&((ES c.p c.it.Zb1).Za != 0&&((kind==0)||((ES c.p c.it.Zb1).Za==kind))) }):=by
 unfold Bj ES;by_cases h:0≤c.it.Zb1∧c.it.Zb1<(c.p.Zg1.Ze.length:Int)
 ·have e:(decide (c.it.Zb1≥0)&&decide (c.it.Zb1<(c.p.Zg1.Ze.length:Int)))=true:=by simp;omega
  simp only[Ee,Ay,e,Arq];rw[ApU (show InR c.it.Zb1 c.p.Zg1.Ze.length by unfold InR;omega),ApU h];simp only[AJ,Ay,Ee,I7]
 ·have e:(decide (c.it.Zb1≥0)&&decide (c.it.Zb1<(c.p.Zg1.Ze.length:Int)))=false:=by
   rw[Asg];simp;omega
  simp only[Ee,Ay,e,AqF,ArA];rw[ApV h];simp only[Ay,Ee,I7]
def Ie(fit:Bool)(x:ApH):Bool:=(decide (1≤x.Za)&&decide (x.Za≤3))&&((decide (0≤x.Zl1)&&decide (x.Zl1≤1073741824))&&!(x.Zm1&&!fit))
theorem Ahv(l:List ApH)(fit:Bool)(hl:l.length≤1000000):H0 l fit=some (l.all (Ie fit)&&decide ((l.length:Int)≤16)):=by
 have h:Ax (fun(v:Int)=>Eb l fit v) 0=some (if l.all (Ie fit)=true then .inl ()else .inr (.inr false)):=by
  refine Cx l (Eb l fit) (Ie fit) _ _ (by omega) (fun k hk=>?_) ?_
  ·unfold Eb;rw[ApU (by simp;omega),ApU (A4 hk)];simp only[AJ,Ap1,CF (k:=k) (by omega),I7,Ee,Ay];generalize nth l k=x
   have e:(decide (x.Za<1)||(decide (x.Za>3)||(decide (x.Zl1<0)||(decide (x.Zl1>1073741824)||(x.Zm1&&!fit)))))=!Ie fit x:=by
    unfold Ie;rw[Aqw];cases x.Zm1<;>cases fit<;>simp<;>omega
   rw[e];cases Ie fit x<;>rfl
  ·unfold Eb;rw[ApV (by simp)]
 unfold H0;rw[h];simp only[Ay];cases l.all (Ie fit)<;>rfl
theorem Ahc(it:ApI)(hl:it.Zu1.length≤1000000):Nt it=some (!(decide ((it.Zu1.length:Int)>16)||((it.Za==10)&&((it.Zu1.length:Int)==0)))&&it.Zu1.all (Ie (!(it.Za==10)))):=by
 have h:Ax (fun(v:Int)=>FH it v) 0=some (if it.Zu1.all (Ie (!(it.Za==10)))=true then .inl ()else .inr (.inr false)):=by
  refine Cx it.Zu1 (FH it) (Ie (!(it.Za==10))) _ _ (by omega) (fun k hk=>?_) ?_
  ·unfold FH;rw[ApU (by simp;omega),ApU (A4 hk)];simp only[AJ,Ap1,CF (k:=k) (by omega),JM,I7,Ee,Ay];generalize nth it.Zu1 k=x;generalize(it.Za==10)=z
   have e:(!(decide (1≤x.Za)&&decide (x.Za≤3))||(!(decide (0≤x.Zl1)&&decide (x.Zl1≤1073741824))||(z&&x.Zm1)))=!Ie (!z) x:=by
    unfold Ie;rw[Aqw];cases x.Zm1<;>cases z<;>simp<;>omega
   rw[e];cases Ie (!z) x<;>rfl
  ·unfold FH;rw[ApV (by simp)]
 unfold Nt;rw[h];simp only[Ay,I7,Ee];cases it.Zu1.all (Ie (!(it.Za==10)))<;>cases(decide ((it.Zu1.length:Int)>16)||((it.Za==10)&&((it.Zu1.length:Int)==0)))<;>rfl
theorem Ac9(it:ApI):Fa it=Ef it:=by
 unfold Fa Ef;simp only[JM,Ee,Ay];congr 2;rw[Aqw];simp<;>omega
def Aek(it:ApI):Bool:=(Ef it).getD false
theorem AiI(it:ApI):Ef it=some (Aek it):=by
 unfold Aek Ef;simp only[JM,Ee,Ay];simp only[N7,AqX]
theorem Akl(s:List UInt8)(b:UInt8)(hl:s.length≤1000000):JX s b=some (s.any (fun c=>c==b)):=by
 have h:Ax (fun(v:Int)=>IP s b v) 0=some (if s.all (fun c=>!(c==b))=true then .inl ()else .inr (.inr true)):=by
  refine Cx s (IP s b) (fun c=>!(c==b)) _ _ (by omega) (fun k hk=>?_) ?_
  ·unfold IP;rw[ApU (by simp;omega),ApU (A4 hk)];simp only[Ap1,CF (k:=k) (by omega)];cases nth s k==b<;>rfl
  ·unfold IP;rw[ApV (by simp)]
 unfold JX;rw[h,←ArQ];cases s.any (fun c=>c==b)<;>rfl
theorem ZA{α X:Type}[Inhabited α](l:List α)(f:Int→Option (Int⊕X))(p:α→Bool)(good bad:X)(hl:l.length<1152921504606846976) (hs:∀k:Nat,k<l.length→(∀j,j<k→p (nth l j)=true)→f (k:Int)=some (if p (nth l k)=true then .inl ((k+1:Nat):Int)else .inr bad)) (he:f (l.length:Int)=some (.inr good)) :Ax (fun v=>f v) 0=some (if l.all p=true then good else bad):=by
 obtain⟨x,hx,hq⟩:∃x,Ax (fun v=>f v) 0=some x∧x=(if l.all p=true then good else bad):=by
  refine BR (fun v=>∃k:Nat,v=(k:Int)∧k≤l.length∧(l.take k).all p=true∧∀j,j<k→p (nth l j)=true) (fun v=>(l.length-v).toNat) _ ?_ ⟨0,rfl,Aqm _,rfl,fun j hj=>by omega⟩ (by simp;omega);rintro v ⟨k,rfl,hk,ht,hj⟩;by_cases h1:k<l.length
  ·have hn:nth l k=l[k]:=by simp[nth,h1]
   rw[hs k h1 hj];by_cases hp:p (nth l k)=true
   ·left;refine⟨_,by rw[ApU hp],⟨k+1,rfl,by omega,?_,fun j hjk=>?_⟩,by omega⟩
    ·rw[AqJ h1,List.all_append,ht,←hn];simp[hp]
    ·by_cases e:j=k
     ·subst e;exact hp
     ·exact hj j (by omega)
   ·right;refine⟨_,by rw[ApV hp],?_⟩;rw[ApV];intro ha;rw[Ap8]at ha;exact hp (by rw[hn];exact ha _ (AqL h1))
  ·right;have:k=l.length:=by omega
   subst this;rw[AqT]at ht;exact⟨_,he,by rw[ApU ht]⟩
 rw[hx,hq]
def LN:List UInt8:=[119,112,111,110,102,116,99,100,107,103,97]
def Dh(it:ApI)(x:UInt8):Int:=(B6 it x).getD 0
theorem Agf(it:ApI)(x:UInt8):B6 it x=some (Dh it x):=by
 unfold Dh B6;simp only[N7,AqX]
def HC(p:ApF)(i:Int):Bool:=decide (0≤i)&&decide (i≤(p.Zg1.Ze.length:Int)-1)
def NU(p:ApF)(it:ApI):Bool:=HC p it.Zb1&&(if((it.Za==3)||(it.Za==4))then(ES p it.Zb1).Za==3 else if(it.Za==9)then(ES p it.Zb1).Za==5 else true)
def Tt(p:ApF)(it:ApI):Bool :=
 if(it.Za==1)then decide (0≤it.Zc)&&decide (it.Zc≤(p.Zi1.length:Int)-1)
 else if((it.Za==3)||(it.Za==4))then(it.Zc==(ES p it.Zb1).Zb)||(it.Zc==(ES p it.Zb1).Zc)
 else if(it.Za==10)then decide (0≤it.Zc)&&decide (it.Zc≤63)
 else decide (0≤it.Zc)&&decide (it.Zc≤(p.Zj1.length:Int)-1)
def On(p:ApF)(it:ApI):Bool :=
 if(it.Za==5)then decide (1≤it.Zo1)&&decide (it.Zo1≤1000000000)
 else if(it.Za==15)then decide (0≤it.Zo1)&&decide (it.Zo1≤(p.Zh1.Zx.length:Int)-1)
 else decide (1≤it.Zo1)&&decide (it.Zo1≤6)
def ZV(it:ApI):Bool :=
 if((it.Za==3)||(it.Za==4))then decide (0≤it.Code)&&decide (it.Code≤8)
 else if(it.Za==6)then decide (0≤it.Code)&&decide (it.Code≤1)
 else if(it.Za==8)then decide (1≤it.Code)&&decide (it.Code≤9)
 else decide (1≤it.Code)&&decide (it.Code≤2)
def Dg(p:ApF)(it:ApI)(x:UInt8):Bool :=
 if(x==119)then decide (0≤it.Zn1)&&decide (it.Zn1≤(p.Zh1.Zy.length:Int)-1)
 else if(x==112)then NU p it
 else if(x==111)then Tt p it
 else if(x==110)then On p it
 else if(x==102)then decide (0≤it.Zw)&&decide (it.Zw≤1073741824)
 else if(x==116)then decide (it.Zw≤it.To)&&decide (it.To≤1073741824)
 else if(x==99)then ZV it
 else if(x==100)then HC p it.Zp1
 else if(x==107)then decide (0≤it.Zq1)&&decide (it.Zq1≤63)
 else if(x==103)then(if(it.Za==15)then decide (1≤it.Zr1)&&decide (it.Zr1≤1000)else decide (0≤it.Zr1)&&decide (it.Zr1≤1000000))
 else decide (0≤it.Zs1)&&decide (it.Zs1≤1000000000)
theorem QF(a b:Bool):(if a then some a else some b)=some (a||b):=by cases a<;>rfl
section
variable {p:ApF}(h:Few p)(it:ApI)
include h
theorem An6:w64 ((p.Zg1.Ze.length:Int)-1)=(p.Zg1.Ze.length:Int)-1:=AH (by have:=h.places;omega)
theorem w_wg:w64 ((p.Zh1.Zy.length:Int)-1)=(p.Zh1.Zy.length:Int)-1:=AH (by have:=h.wagons;omega)
theorem w_ty:w64 ((p.Zh1.Zx.length:Int)-1)=(p.Zh1.Zx.length:Int)-1:=AH (by have:=h.types;omega)
theorem w_rd:w64 ((p.Zi1.length:Int)-1)=(p.Zi1.length:Int)-1:=AH (by have:=h.readers;omega)
theorem w_sh:w64 ((p.Zj1.length:Int)-1)=(p.Zj1.length:Int)-1:=AH (by have:=h.shippers;omega)
theorem AeE:Ox p it=some (NU p it):=by
 unfold Ox NU HC ES;simp only[JM,Ay,An6 h,QF];by_cases hr:0≤it.Zb1∧it.Zb1<(p.Zg1.Ze.length:Int)
 ·have e:(decide (0≤it.Zb1)&&decide (it.Zb1≤(p.Zg1.Ze.length:Int)-1))=true:=by simp;omega
  rw[e,ApV (by simp),ApU (show InR it.Zb1 p.Zg1.Ze.length by unfold InR;omega),ApU hr];simp only[AJ,Ay,N7,ArO]
 ·have e:(decide (0≤it.Zb1)&&decide (it.Zb1≤(p.Zg1.Ze.length:Int)-1))=false:=by rw[Asg];simp;omega
  rw[e,ApU (by simp),Ar7]
theorem AfF(hr:it.Za=3∨it.Za=4→HC p it.Zb1=true):OD p it=some (Tt p it):=by
 unfold OD Tt;simp only[JM,Ay,w_rd h,w_sh h,QF,I7];by_cases h1:(it.Za==1)=true
 ·rw[ApU h1,ApU h1]
 ·rw[ApV h1,ApV h1];by_cases h3:((it.Za==3)||(it.Za==4))=true
  ·have hk:it.Za=3∨it.Za=4:=by simpa using h3
   have hq:=hr hk;unfold HC at hq;have hq':0≤it.Zb1∧it.Zb1<(p.Zg1.Ze.length:Int):=by simp at hq;omega
   rw[ApU h3,ApU h3,ApU (show InR it.Zb1 p.Zg1.Ze.length by unfold InR;omega)];unfold ES;rw[ApU hq'];simp only[AJ]
  ·rw[ApV h3,ApV h3];simp only[N7]
theorem AbZ:Lu p it=some (On p it):=by
 unfold Lu On;simp only[JM,Ay,w_ty h,N7]
omit h in
theorem Ak3:RJ it=some (ZV it):=by
 unfold RJ ZV;simp only[JM,Ay,QF];simp only[N7]
theorem Afh(x:UInt8)(hr:x=111→it.Za=3∨it.Za=4→HC p it.Zb1=true):Ow p it x=some (Dg p it x):=by
 unfold Ow Dg;simp only[AeE h,AbZ h,Ak3,JM,Ay,w_wg h,An6 h];by_cases h1:(x==111)=true
 ·have hx:x=111:=by simpa using h1
  rw[AfF h it (hr hx)];simp only[Ay,N7];rfl
 ·rw[ApV h1,ApV h1];simp only[N7];rfl
def rb(p:ApF)(it:ApI)(u:List UInt8)(x:UInt8):Bool:=if u.any (fun c=>c==x)=true then Dg p it x else Dh it x==0
def Tb(p:ApF)(it:ApI)(u:List UInt8):Bool :=
 LN.all (rb p it u)&&(((u.any (fun c=>c==120)==!(it.Zt1==[]))&&!decide ((it.Zt1.length:Int)>2000)) &&
  (if u.any (fun c=>c==113)=true then !(decide ((it.Zu1.length:Int)>16)||((it.Za==10)&&((it.Zu1.length:Int)==0)))&&it.Zu1.all (Ie (!(it.Za==10)))else(it.Zu1.length:Int)==0))
theorem Aad(u:List UInt8)(hu:Gb it.Za=some u)(hul:u.length≤100)(hpl:it.Za=3∨it.Za=4→u.any (fun c=>c==112)=true)(hpt:it.Zu1.length≤1000000) :K0 p it=some (((decide (1≤it.Za)&&decide (it.Za≤15))&&Aek it)&&Tb p it u):=by
 have hl:Ax (fun(v:Int)=>FC p it u v) 0=some (if LN.all (rb p it u)=true then .inl ()else .inr (.inr false)):=by
  refine ZA LN (FC p it u) (rb p it u) _ _ (by decide) (fun k hk hj=>?_) ?_
  ·have hk':k<11:=hk;unfold FC;rw[ApU (by simp;omega),ApU (show InR (k:Int) ([119,112,111,110,102,116,99,100,107,103,97]:List UInt8).length from A4 hk)];simp only[AJ,Ap1,CF (k:=k) (by omega)];rw[show nth ([119,112,111,110,102,116,99,100,107,103,97]:List UInt8) k=nth LN k from rfl]
   have hrr:nth LN k=111→it.Za=3∨it.Za=4→HC p it.Zb1=true:=by
    intro hx hkk
    have h2:k=2:=by
     have:∀q:Fin 11,nth LN q.val=111→q.val=2:=by decide
     exact this ⟨k,hk'⟩ hx
    have hp1:=hj 1 (by omega);unfold rb at hp1;rw[show nth LN 1=112 from rfl,ApU (hpl hkk)]at hp1;have:NU p it=true:=hp1;unfold NU at this;rw[Ap9]at this;exact this.1
   rw[Akl u _ (by omega),Afh h it _ hrr,Agf];simp only[Ay];unfold rb;cases u.any (fun c=>c==nth LN k)
   ·cases hf:(Dh it (nth LN k)==0)<;>simp[bne,hf]
   ·cases Dg p it (nth LN k)<;>rfl
  ·unfold FC;rw[ApV (by decide)]
 unfold K0 Tb;rw[hu];simp only[Ay,JM,AiI,I7,Akl u _ (show u.length≤1000000 by omega),Ahc it hpt];rw[hl];simp only[Ay];generalize LN.all (rb p it u)=z1;generalize(decide (1≤it.Za)&&decide (it.Za≤15))=z2;generalize Aek it=z3;generalize(u.any (fun c=>c==120)==!(it.Zt1==[]))=z4;generalize decide ((it.Zt1.length:Int)>2000)=z5;generalize u.any (fun c=>c==113)=z6;generalize(!(decide ((it.Zu1.length:Int)>16)||((it.Za==10)&&((it.Zu1.length:Int)==0)))&&it.Zu1.all (Ie (!(it.Za==10))))=z7;generalize((it.Zu1.length:Int)==0)=z8;cases z1<;>cases z2<;>cases z3<;>cases z4<;>cases z5<;>cases z6<;>cases z7<;>cases z8<;>rfl
end
set_option maxRecDepth 8000
set_option maxHeartbeats 8000000
theorem Amq(a b c:Int):JT a b≤c↔a≤c∧b≤c:=by unfold JT;split<;>omega
theorem Ahw(l:List UInt8):(l==([]:List UInt8))=decide ((l.length:Int)=0):=by cases l<;>simp<;>omega
theorem AeI(n m:Int):(n==m)=decide (n=m):=by rw[Aqw];simp
theorem Z9(a b:UInt8):(a==b)=(a.toNat==b.toNat):=by rw[Aqw,AqV,AqV,AsV]
theorem Af9(n m:Int):(n != m)=decide (¬n=m):=by rw[Aqw];simp
theorem rv_w(p:ApF)(it:ApI):Dg p it 119=(decide (0≤it.Zn1)&&decide (it.Zn1≤(p.Zh1.Zy.length:Int)-1)):=by unfold Dg;rw[ApU (by decide)]
theorem fv_w(it:ApI):Dh it 119=it.Zn1:=by unfold Dh B6;rw[ApU (by decide)];rfl
theorem rv_p(p:ApF)(it:ApI):Dg p it 112=NU p it:=by unfold Dg;rw[ApV (by decide),ApU (by decide)]
theorem fv_p(it:ApI):Dh it 112=it.Zb1:=by unfold Dh B6;rw[ApV (by decide),ApU (by decide)];rfl
theorem rv_o(p:ApF)(it:ApI):Dg p it 111=Tt p it:=by unfold Dg;rw[ApV (by decide),ApV (by decide),ApU (by decide)]
theorem fv_o(it:ApI):Dh it 111=it.Zc:=by unfold Dh B6;rw[ApV (by decide),ApV (by decide),ApU (by decide)];rfl
theorem rv_n(p:ApF)(it:ApI):Dg p it 110=On p it:=by unfold Dg;rw[ApV (by decide),ApV (by decide),ApV (by decide),ApU (by decide)]
theorem fv_n(it:ApI):Dh it 110=it.Zo1:=by unfold Dh B6;rw[ApV (by decide),ApV (by decide),ApV (by decide),ApU (by decide)];rfl
theorem rv_f(p:ApF)(it:ApI):Dg p it 102=(decide (0≤it.Zw)&&decide (it.Zw≤1073741824)):=by unfold Dg;rw[ApV (by decide),ApV (by decide),ApV (by decide),ApV (by decide),ApU (by decide)]
theorem fv_f(it:ApI):Dh it 102=it.Zw:=by unfold Dh B6;rw[ApV (by decide),ApV (by decide),ApV (by decide),ApV (by decide),ApU (by decide)];rfl
theorem rv_t(p:ApF)(it:ApI):Dg p it 116=(decide (it.Zw≤it.To)&&decide (it.To≤1073741824)):=by unfold Dg;rw[ApV (by decide),ApV (by decide),ApV (by decide),ApV (by decide),ApV (by decide),ApU (by decide)]
theorem fv_t(it:ApI):Dh it 116=it.To:=by unfold Dh B6;rw[ApV (by decide),ApV (by decide),ApV (by decide),ApV (by decide),ApV (by decide),ApU (by decide)];rfl
theorem rv_c(p:ApF)(it:ApI):Dg p it 99=ZV it:=by unfold Dg;rw[ApV (by decide),ApV (by decide),ApV (by decide),ApV (by decide),ApV (by decide),ApV (by decide),ApU (by decide)]
theorem fv_c(it:ApI):Dh it 99=it.Code:=by unfold Dh B6;rw[ApV (by decide),ApV (by decide),ApV (by decide),ApV (by decide),ApV (by decide),ApV (by decide),ApU (by decide)];rfl
theorem rv_d(p:ApF)(it:ApI):Dg p it 100=HC p it.Zp1:=by unfold Dg;rw[ApV (by decide),ApV (by decide),ApV (by decide),ApV (by decide),ApV (by decide),ApV (by decide),ApV (by decide),ApU (by decide)]
theorem fv_d(it:ApI):Dh it 100=it.Zp1:=by unfold Dh B6;rw[ApV (by decide),ApV (by decide),ApV (by decide),ApV (by decide),ApV (by decide),ApV (by decide),ApV (by decide),ApU (by decide)];rfl
theorem rv_k(p:ApF)(it:ApI):Dg p it 107=(decide (0≤it.Zq1)&&decide (it.Zq1≤63)):=by unfold Dg;rw[ApV (by decide),ApV (by decide),ApV (by decide),ApV (by decide),ApV (by decide),ApV (by decide),ApV (by decide),ApV (by decide),ApU (by decide)]
theorem fv_k(it:ApI):Dh it 107=it.Zq1:=by unfold Dh B6;rw[ApV (by decide),ApV (by decide),ApV (by decide),ApV (by decide),ApV (by decide),ApV (by decide),ApV (by decide),ApV (by decide),ApU (by decide)];rfl
theorem rv_g(p:ApF)(it:ApI):Dg p it 103=(if(it.Za==15)then decide (1≤it.Zr1)&&decide (it.Zr1≤1000)else decide (0≤it.Zr1)&&decide (it.Zr1≤1000000)):=by unfold Dg;rw[ApV (by decide),ApV (by decide),ApV (by decide),ApV (by decide),ApV (by decide),ApV (by decide),ApV (by decide),ApV (by decide),ApV (by decide),ApU (by decide)]
theorem fv_g(it:ApI):Dh it 103=it.Zr1:=by unfold Dh B6;rw[ApV (by decide),ApV (by decide),ApV (by decide),ApV (by decide),ApV (by decide),ApV (by decide),ApV (by decide),ApV (by decide),ApV (by decide),ApU (by decide)];rfl
theorem rv_a(p:ApF)(it:ApI):Dg p it 97=(decide (0≤it.Zs1)&&decide (it.Zs1≤1000000000)):=by unfold Dg;rw[ApV (by decide),ApV (by decide),ApV (by decide),ApV (by decide),ApV (by decide),ApV (by decide),ApV (by decide),ApV (by decide),ApV (by decide),ApV (by decide)]
theorem fv_a(it:ApI):Dh it 97=it.Zs1:=by unfold Dh B6;rw[ApV (by decide),ApV (by decide),ApV (by decide),ApV (by decide),ApV (by decide),ApV (by decide),ApV (by decide),ApV (by decide),ApV (by decide),ApV (by decide)];rfl
theorem ZE{p:ApF}(h:Few p)(hv:∀i:Int,((ES p i).Za != 0)=(decide (0≤i)&&decide (i≤(p.Zg1.Ze.length:Int)-1)))(R:ApG)(w pl o n f t c d cl g a:Int)(tx:List UInt8)(ps:List ApH)(hps:ps.length≤1000000)(K:Int)(hK:¬(K<1∨15<K)) :∃u,Gb K=some u∧u.length≤100∧(K=3∨K=4→u.any (fun c=>c==112)=true)∧Ep p ⟨K,R,w,pl,o,n,f,t,c,d,cl,g,a,tx,ps⟩=some (Tb p ⟨K,R,w,pl,o,n,f,t,c,d,cl,g,a,tx,ps⟩ u):=by
 have hK:K=1∨K=2∨K=3∨K=4∨K=5∨K=6∨K=7∨K=8∨K=9∨K=10∨K=11∨K=12∨K=13∨K=14∨K=15:=by omega
 rcases hK with rfl|rfl|rfl|rfl|rfl|rfl|rfl|rfl|rfl|rfl|rfl|rfl|rfl|rfl|rfl<;>refine⟨_,rfl,by decide,by decide,?_⟩<;>unfold Ep C3 Db Tb LN <;>
  simp only[CB,Bw,Cc,Dc,CH,Ais,Aky,Ajy,Aif,Ajq,AiC,Aih,Ah0,Ake,Ajh,AhI,Ahv ps _ hps,An6 h,w_wg h,w_ty h,w_rd h,w_sh h,Ay,Ee,I7,QF,hv,List.all_cons,List.all_nil,rb,List.any_cons,List.any_nil,Z9,UInt8.reduceToNat,Nat.reduceBEq,rv_w,fv_w,rv_p,fv_p,rv_o,fv_o,rv_n,fv_n,rv_f,fv_f,rv_t,fv_t,rv_c,fv_c,rv_d,fv_d,rv_k,fv_k,rv_g,fv_g,rv_a,fv_a,NU,Tt,On,ZV,HC,
   Int.reduceLE,Int.reduceLT,Int.reduceBEq,Int.reduceBNe,Int.reduceEq,Int.reduceGT,Int.reduceGE,decide_true,decide_false,Arq,ArA,AqF,ArO,Bool.and_true,Bool.true_or,Bool.or_true,Bool.false_or,AsL,Ar7,Bool.not_true,As5,beq_self_eq_true,Aqr,Bool.true_beq,Bool.false_beq,Asy,Int.ofNat_zero,Int.cast_ofNat_Int,ApT] <;>
  rw[Aqw] <;>
  simp only[Ahw,AeI,Af9,Ap9,AqD,Arj,Aqd,AqK,Amq,Bool.or_eq_false_iff,Bool.not_eq_eq_eq_not,Bool.not_true,As5,true_and,Ash,and_assoc]
 ·constructor
  ·rintro⟨h0,h1,h2,h3,h4,h5,h6,h7,h8,h9,h10,h11,h12,h13,h14,h15⟩;exact⟨h0,h1,h6,h2,h3,h7,h4,h5,h8,h9,h10,h11,h12,h13,h14,by first|omega|rfl,h15⟩
  ·rintro⟨h0,h1,h2,h3,h4,h5,h6,h7,h8,h9,h10,h11,h12,h13,h14,h15,h16⟩;exact⟨h0,h1,h3,h4,h6,h7,h2,h5,h8,h9,h10,h11,h12,h13,h14,h16⟩
 ·constructor
  ·rintro⟨h0,h1,h2,h3,h4,h5,h6,h7,h8,h9,h10,h11,h12,h13,h14,h15,h16,h17⟩;exact⟨h0,h1,h2,h3,h9,h10,h7,h8,h4,h6,h11,h12,h13,h14,h15,h16,by first|omega|rfl,h17⟩
  ·rintro⟨h0,h1,h2,h3,h4,h5,h6,h7,h8,h9,h10,h11,h12,h13,h14,h15,h16,h17⟩;exact⟨h0,h1,h2,h3,h8,by first|omega|rfl,h9,h6,h7,h4,h5,h10,h11,h12,h13,h14,h15,h17⟩
 ·constructor
  ·rintro⟨h0,h1,h2,h3,h4,h5,h6,h7,h8,h9,h10,h11,h12,h13,h14,h15,h16,h17⟩;exact⟨h0,h1,h2,h3,h4,h5,h10,h6,h7,h11,h8,h9,h12,h13,h14,h15,h16,by first|omega|rfl,h17⟩
  ·rintro⟨h0,h1,h2,h3,h4,h5,h6,h7,h8,h9,h10,h11,h12,h13,h14,h15,h16,h17,h18⟩;exact⟨h0,h1,h2,h3,h4,h5,h7,h8,h10,h11,h6,h9,h12,h13,h14,h15,h16,h18⟩
 ·constructor
  ·rintro⟨h0,h1,h2,h3,h4,h5,h6,h7,h8,h9,h10,h11,h12,h13,h14,h15,h16,h17⟩;exact⟨h0,h1,h2,h3,h4,h5,h10,h6,h7,h11,h8,h9,h12,h13,h14,h15,h16,by first|omega|rfl,h17⟩
  ·rintro⟨h0,h1,h2,h3,h4,h5,h6,h7,h8,h9,h10,h11,h12,h13,h14,h15,h16,h17,h18⟩;exact⟨h0,h1,h2,h3,h4,h5,h7,h8,h10,h11,h6,h9,h12,h13,h14,h15,h16,h18⟩
 ·constructor
  ·rintro⟨h0,h1,h2,h3,h4,h5,h6,h7,h8,h9,h10,h11,h12,h13,h14,h15,h16,h17,h18,h19,h20⟩;exact⟨h0,h1,h6,h7,h4,h5,h2,h3,h14,h15,h16,h17,h8,h9,h10,h11,h12,h13,h18,h19,by first|omega|rfl,h20⟩
  ·rintro⟨h0,h1,h2,h3,h4,h5,h6,h7,h8,h9,h10,h11,h12,h13,h14,h15,h16,h17,h18,h19,h20,h21⟩;exact⟨h0,h1,h6,h7,h4,h5,h2,h3,h12,h13,h14,h15,h16,h17,h8,h9,h10,h11,h18,h19,h21⟩
 ·constructor
  ·rintro⟨h0,h1,h2,h3,h4,h5,h6,h7,h8,h9,h10,h11,h12,h13,h14,h15,h16,h17⟩;exact⟨h0,h1,h2,h3,h4,h5,h10,h6,h7,h11,h8,h9,h12,h13,h14,h15,h16,by first|omega|rfl,h17⟩
  ·rintro⟨h0,h1,h2,h3,h4,h5,h6,h7,h8,h9,h10,h11,h12,h13,h14,h15,h16,h17,h18⟩;exact⟨h0,h1,h2,h3,h4,h5,h7,h8,h10,h11,h6,h9,h12,h13,h14,h15,h16,h18⟩
 ·constructor
  ·rintro⟨h0,h1,h2,h3,h4,h5,h6,h7,h8,h9,h10,h11,h12,h13,h14,h15,h16⟩;exact⟨h0,h1,h2,h3,h4,h5,h8,h6,h7,h9,h10,h11,h12,h13,h14,h15,by first|omega|rfl,h16⟩
  ·rintro⟨h0,h1,h2,h3,h4,h5,h6,h7,h8,h9,h10,h11,h12,h13,h14,h15,h16,h17⟩;exact⟨h0,h1,h2,h3,h4,h5,h7,h8,h6,h9,h10,h11,h12,h13,h14,h15,h17⟩
 ·constructor
  ·rintro⟨h0,h1,h2,h3,h4,h5,h6,h7,h8,h9,h10,h11,h12,h13,h14,h15⟩;exact⟨h0,h1,h6,h7,h8,h2,h3,h9,h4,h5,h10,h11,h12,h13,h14,by first|omega|rfl,h15⟩
  ·rintro⟨h0,h1,h2,h3,h4,h5,h6,h7,h8,h9,h10,h11,h12,h13,h14,h15,h16⟩;exact⟨h0,h1,h5,h6,h8,h9,h2,h3,h4,h7,h10,h11,h12,h13,h14,h16⟩
 ·generalize ps.all (Ie true)=z;cases z
  ·simp only[AqF,and_false,false_and]
  ·simp only[eq_self,Ash,true_and,and_assoc];constructor
   ·rintro⟨h0,h1,h2,h3,h4,h5,h6,h7,h8,h9,h10,h11,h12,h13,h14,h15,h16,h17,h18,h19,h20⟩;exact⟨h0,h1,h2,h3,h4,h15,h16,h8,h9,h5,h7,h10,h11,h17,h18,h19,h12,h13,h20,by first|omega|rfl,by first|omega|rfl⟩
   ·rintro⟨h0,h1,h2,h3,h4,h5,h6,h7,h8,h9,h10,h11,h12,h13,h14,h15,h16,h17,h18,h19,h20⟩;exact⟨h0,h1,h2,h3,h4,h9,by first|omega|rfl,h10,h7,h8,h11,h12,h16,h17,by first|omega|rfl,h5,h6,h13,h14,h15,h18⟩
 ·generalize ps.all (Ie false)=z;cases z
  ·simp only[AqF,and_false,false_and]
  ·simp only[eq_self,Ash,true_and,and_assoc];constructor
   ·rintro⟨h0,h1,h2,h3,h4,h5,h6,h7,h8,h9,h10,h11,h12,h13,h14⟩;exact⟨h4,h5,h0,h1,h6,h7,h8,h9,h10,h11,h12,h13,h14,by first|omega|rfl,by first|omega|rfl,by first|omega|rfl⟩
   ·rintro⟨h0,h1,h2,h3,h4,h5,h6,h7,h8,h9,h10,h11,h12,h13,h14,h15⟩;exact⟨h2,h3,by first|omega|rfl,by first|omega|rfl,h0,h1,h4,h5,h6,h7,h8,h9,h10,h11,h12⟩
 ·constructor
  ·rintro⟨h0,h1,h2,h3,h4,h5,h6,h7,h8,h9,h10,h11,h12,h13,h14,h15⟩;exact⟨h6,h7,h8,h0,h1,h2,h3,h9,h10,h11,h12,h13,h14,by first|omega|rfl,by first|omega|rfl,h15⟩
  ·rintro⟨h0,h1,h2,h3,h4,h5,h6,h7,h8,h9,h10,h11,h12,h13,h14,h15⟩;exact⟨h3,h4,h5,h6,by first|omega|rfl,by first|omega|rfl,h0,h1,h2,h7,h8,h9,h10,h11,h12,h15⟩
 ·constructor
  ·rintro⟨h0,h1,h2,h3,h4,h5,h6,h7,h8,h9,h10,h11,h12,h13,h14,h15⟩;exact⟨h6,h7,h8,h0,h1,h2,h3,h9,h10,h11,h12,h13,h14,by first|omega|rfl,by first|omega|rfl,h15⟩
  ·rintro⟨h0,h1,h2,h3,h4,h5,h6,h7,h8,h9,h10,h11,h12,h13,h14,h15⟩;exact⟨h3,h4,h5,h6,by first|omega|rfl,by first|omega|rfl,h0,h1,h2,h7,h8,h9,h10,h11,h12,h15⟩
 ·constructor
  ·rintro⟨h0,h1,h2,h3,h4,h5,h6,h7,h8,h9,h10,h11,h12,h13,h14⟩;exact⟨h4,h5,h6,h0,h1,h2,h3,h7,h8,h9,h10,h11,h12,h13,by first|omega|rfl,h14⟩
  ·rintro⟨h0,h1,h2,h3,h4,h5,h6,h7,h8,h9,h10,h11,h12,h13,h14,h15⟩;exact⟨h3,h4,h5,h6,h0,h1,h2,h7,h8,h9,h10,h11,h12,h13,h15⟩
 ·constructor
  ·rintro⟨h0,h1,h2,h3,h4,h5,h6,h7,h8,h9,h10,h11,h12⟩;exact⟨h0,h1,h2,h3,h4,h5,h6,h7,h8,h9,h10,h11,by first|omega|rfl,h12⟩
  ·rintro⟨h0,h1,h2,h3,h4,h5,h6,h7,h8,h9,h10,h11,h12,h13⟩;exact⟨h0,h1,h2,h3,h4,h5,h6,h7,h8,h9,h10,h11,h13⟩
 ·constructor
  ·rintro⟨h0,h1,h2,h3,h4,h5,h6,h7,h8,h9,h10,h11,h12,h13,h14,h15,h16,h17,h18,h19,h20,h21⟩;exact⟨h17,h2,h3,h0,h1,h6,h7,h13,h14,h10,h12,h18,h19,h4,h5,h8,h9,h15,h16,h20,by first|omega|rfl,h21⟩
  ·rintro⟨h0,h1,h2,h3,h4,h5,h6,h7,h8,h9,h10,h11,h12,h13,h14,h15,h16,h17,h18,h19,h20,h21⟩;exact⟨h3,h4,h1,h2,h13,h14,h5,h6,h15,h16,h9,by first|omega|rfl,h10,h7,h8,h17,h18,h0,h11,h12,h19,h21⟩
set_option maxRecDepth 4000
variable{p:ApF}
theorem TG{x:Aps}(h:FV x=true):x.Za≠0:=by
 intro hk;unfold FV FD at h;simp only[ZG,Ay,I7,Ee,hk]at h;simp at h
theorem Ac0(h:p.Zg1.Ze.all FV=true)(i:Int):((ES p i).Za != 0)=(decide (0≤i)&&decide (i≤(p.Zg1.Ze.length:Int)-1)):=by
 unfold ES;by_cases hr:0≤i∧i<(p.Zg1.Ze.length:Int)
 ·rw[ApU hr];have hlt:i.toNat<p.Zg1.Ze.length:=by omega
  have hm:nth p.Zg1.Ze i.toNat∈p.Zg1.Ze:=by
   have:nth p.Zg1.Ze i.toNat=p.Zg1.Ze[i.toNat]:=by simp[nth,hlt]
   rw[this];exact AqL hlt
  have hk:=TG (Ap8.1 h _ hm);rw[show(decide (0≤i)&&decide (i≤(p.Zg1.Ze.length:Int)-1))=true by simp;omega];simpa using hk
 ·rw[ApV hr,show(decide (0≤i)&&decide (i≤(p.Zg1.Ze.length:Int)-1))=false by rw[Asg];simp;omega];rfl
theorem Xm(h:Few p)(it:ApI)(hk:it.Za<1∨15<it.Za):Ep p it=some false:=by
 unfold Ep;rcases hk with hk|hk
 ·rw[ApU (by simp;omega)];unfold C3;rw[ApU (by simp;omega)];simp only[Ay,Ee,Ar7,AqF,ArA]
 ·rw[ApV (by simp;omega)];unfold Db;have e:∀n:Int,n≤15→(it.Za==n)=false:=fun n hn=>by simp;omega
  simp only[e 8 (by omega),e 9 (by omega),e 10 (by omega),e 11 (by omega),e 12 (by omega),e 13 (by omega),e 14 (by omega),e 15 (by omega),AqF,ArA,Ay,Ee,Ar7]
theorem Wb(k:Int)(hk:k<1∨15<k):Gb k=some []:=by
 unfold Gb;have e:∀n:Int,1≤n→n≤15→(k==n)=false:=fun n h1 h2=>by simp;omega
 simp only[e 1 (by omega) (by omega),e 2 (by omega) (by omega),e 3 (by omega) (by omega),e 4 (by omega) (by omega),e 5 (by omega) (by omega),e 6 (by omega) (by omega),e 7 (by omega) (by omega),e 8 (by omega) (by omega),e 9 (by omega) (by omega),e 10 (by omega) (by omega),e 11 (by omega) (by omega),e 12 (by omega) (by omega),e 13 (by omega) (by omega),e 15 (by omega) (by omega),AqF,ArA,Ay]
theorem AeG(K:Int)(hk:¬(K<1∨15<K)):∃u,Gb K=some u∧u.length≤100:=by
 have hK:K=1∨K=2∨K=3∨K=4∨K=5∨K=6∨K=7∨K=8∨K=9∨K=10∨K=11∨K=12∨K=13∨K=14∨K=15:=by omega
 rcases hK with rfl|rfl|rfl|rfl|rfl|rfl|rfl|rfl|rfl|rfl|rfl|rfl|rfl|rfl|rfl<;>exact⟨_,rfl,by decide⟩
theorem Xp(h:Few p)(hv:∀i:Int,((ES p i).Za != 0)=(decide (0≤i)&&decide (i≤(p.Zg1.Ze.length:Int)-1)))(it:ApI)(hps:it.Zu1.length≤1000000) :∃u,Gb it.Za=some u∧u.length≤100∧(it.Za=3∨it.Za=4→u.any (fun c=>c==112)=true)∧Ep p it=some ((decide (1≤it.Za)&&decide (it.Za≤15))&&Tb p it u):=by
 by_cases hk:it.Za<1∨15<it.Za
 ·refine⟨[],Wb _ hk,by decide,fun e=>by omega,?_⟩;rw[Xm h it hk,show(decide (1≤it.Za)&&decide (it.Za≤15))=false by rw[Asg];simp;omega,Ar7]
 ·obtain⟨K,R,w,pl,o,n,f,t,c,d,cl,g,a,tx,ps⟩:=it;simp only at hk hps ⊢;obtain⟨u,a1,a2,a3,a4⟩:=ZE h hv R w pl o n f t c d cl g a tx ps hps K hk;exact⟨u,a1,a2,a3,by rw[a4,show(decide (1≤K)&&decide (K≤15))=true by simp;omega,ArO]⟩
def okB(p:ApF)(it:ApI)(u:List UInt8):Bool:=((decide (1≤it.Za)&&decide (it.Za≤15))&&Aek it)&&Tb p it u
def Ad8(p:ApF)(it:ApI)(f:Int)(u:List UInt8):Int:=if(f != 0)then f else if okB p it u=true then 0 else 110
theorem RZ(h:Few p):∃f,B5 p=some f∧El p=some f∧∀it:ApI,it.Zu1.length≤1000000→∃u,Gb it.Za=some u∧u.length≤100∧Gt p it=some (Ad8 p it f u)∧(f=0→K0 p it=some (okB p it u)):=by
 obtain⟨f,h1,h2,h3⟩:=AgK h;refine⟨f,h1,h2,fun it hps=>?_⟩;unfold Gt Ad8;rw[h1];simp only[Ay];by_cases hf:(f != 0)=true
 ·obtain⟨u,hu⟩:∃u,Gb it.Za=some u∧u.length≤100:=by
   by_cases hk:it.Za<1∨15<it.Za
   ·exact⟨[],Wb _ hk,by decide⟩
   ·exact AeG it.Za hk
  refine⟨u,hu.1,hu.2,?_,fun h0=>?_⟩
  ·rw[ApU hf,ApU hf]
  ·subst h0;exact absurd hf (by decide)
 ·have hf0:f=0:=by simpa using hf
  obtain⟨u,u1,u2,u3,u4⟩:=Xp h (Ac0 (h3 hf0)) it hps;refine⟨u,u1,u2,?_,fun _=>?_⟩
  ·rw[ApV hf,ApV hf,Ac9,AiI,show Ep _ it=_ from u4];simp only[Ay,I7];unfold okB;cases Aek it<;>cases(decide (1≤it.Za)&&decide (it.Za≤15))<;>cases Tb p it u<;>rfl
  ·rw[show K0 _ it=_ from Aad h it u u1 u2 u3 hps];unfold okB;cases Aek it<;>cases(decide (1≤it.Za)&&decide (it.Za≤15))<;>cases Tb p it u<;>rfl
variable{α β:Type}
def ror(x:UInt32)(k:Nat):UInt32:=LX x k ||| OC x (32-k)
theorem PP(x:UInt32)(k:Nat)(hk:0<k∧k<32):Aw x (-(k:Int))=some (ror x k):=by
 have key:∀j:Fin 32,0<j.val→((UInt64.ofInt (-(j.val:Int))) &&& 31).toNat=32-j.val∧((32:UInt64)-((UInt64.ofInt (-(j.val:Int))) &&& 31)).toNat=j.val:=by decide
 obtain⟨h1,h2⟩:=key ⟨k,hk.2⟩ hk.1;unfold Aw ror;simp only[lt1];rw[h1,h2,UInt32.or_comm]
theorem Pr(x:UInt32)(k:Nat)(hk:0<k∧k<32):BW x (k:Int)=some (ror x k):=by
 unfold BW ror;have e:w64 (32-(k:Int))=((32-k:Nat):Int):=by rw[AH (by omega)];omega
 rw[e,ApU (by unfold DV;omega),ApU (by unfold DV;omega)];rfl
theorem l2(x:UInt32):Aw x (-2)=some (ror x 2):=PP x 2 (by decide)
theorem l6(x:UInt32):Aw x (-6)=some (ror x 6):=PP x 6 (by decide)
theorem l7(x:UInt32):Aw x (-7)=some (ror x 7):=PP x 7 (by decide)
theorem l11(x:UInt32):Aw x (-11)=some (ror x 11):=PP x 11 (by decide)
theorem l13(x:UInt32):Aw x (-13)=some (ror x 13):=PP x 13 (by decide)
theorem l17(x:UInt32):Aw x (-17)=some (ror x 17):=PP x 17 (by decide)
theorem l18(x:UInt32):Aw x (-18)=some (ror x 18):=PP x 18 (by decide)
theorem l19(x:UInt32):Aw x (-19)=some (ror x 19):=PP x 19 (by decide)
theorem l22(x:UInt32):Aw x (-22)=some (ror x 22):=PP x 22 (by decide)
theorem l25(x:UInt32):Aw x (-25)=some (ror x 25):=PP x 25 (by decide)
theorem rq2(x:UInt32):BW x 2=some (ror x 2):=Pr x 2 (by decide)
theorem rq6(x:UInt32):BW x 6=some (ror x 6):=Pr x 6 (by decide)
theorem rq7(x:UInt32):BW x 7=some (ror x 7):=Pr x 7 (by decide)
theorem rq11(x:UInt32):BW x 11=some (ror x 11):=Pr x 11 (by decide)
theorem rq13(x:UInt32):BW x 13=some (ror x 13):=Pr x 13 (by decide)
theorem rq17(x:UInt32):BW x 17=some (ror x 17):=Pr x 17 (by decide)
theorem rq18(x:UInt32):BW x 18=some (ror x 18):=Pr x 18 (by decide)
theorem rq19(x:UInt32):BW x 19=some (ror x 19):=Pr x 19 (by decide)
theorem rq22(x:UInt32):BW x 22=some (ror x 22):=Pr x 22 (by decide)
theorem rq25(x:UInt32):BW x 25=some (ror x 25):=Pr x 25 (by decide)
theorem consts:r02_constants=some glob3:=by unfold r02_constants glob3;rfl
theorem Aje(i:Int)(f:Arr UInt32 64):AM i f=Fc i f:=by
 unfold AM Fc;simp only[l7,l18,l17,l19,rq7,rq18,rq17,rq19,ApX,lt1];by_cases h1:InR (w64 (i-15)) 64<;>by_cases h2:InR (w64 (i-2)) 64<;>simp only[h1,h2,Arq,ArA]
theorem Aj3(w:Arr UInt32 64)(i:Int)(f:Arr UInt32 8):Ba w i f=GP w glob3 i f:=by
 unfold Ba GP;simp only[l6,l11,l25,l2,l13,l22,rq6,rq11,rq25,rq2,rq13,rq22,ApX,lt1]
theorem Jh(x y:α)(f:α→Option β)(h:x=y):lt1 x f=f y:=by rw[h];rfl
theorem AbU(b:List UInt8):IA b=(Ax (fun(v:Int×Arr UInt32 64)=>Bc b v.1 v.2) (0,Arr.rep 64 (0:UInt32))).bind fun f=>Ax (fun(v:Int×Arr UInt32 64)=>AM v.1 v.2) (16,f):=by
 have e1:(fun v:Int×Arr UInt32 64=>G7 b v.1 v.2)=fun v=>Bc b v.1 v.2:=by funext v;unfold Bc G7;rfl
 have e2:(fun v:Int×Arr UInt32 64=>Fc v.1 v.2)=fun v=>AM v.1 v.2:=funext fun v=>(Aje _ _).symm
 unfold IA;refine(Jh _ (Arr.rep 64 0) _ (Arr.ext' rfl)).trans ?_;simp only[Bk];rw[e1,e2]
theorem Ada(h:Arr UInt32 8)(b:List UInt8):CK h b=Ns h b:=by
 have e3:∀w:Arr UInt32 64,(fun v:Int×Arr UInt32 8=>Ba w v.1 v.2)=fun v=>GP w glob3 v.1 v.2:=fun w=>funext fun v=>Aj3 _ _ _
 have e4:∀w:Arr UInt32 8,(fun v:Int×Arr UInt32 8=>Bi w v.1 v.2)=fun v=>IL w v.1 v.2:=fun w=>by funext v;unfold Bi IL;rfl
 unfold Ns;rw[consts,AbU];unfold CK;simp only[Bk,ApX,Option.bind_assoc,e3,e4]
theorem Amp(b:List UInt8)(hb:64≤b.length)(f0:Arr UInt32 64):∃x,Ax (fun(v:Int×Arr UInt32 64)=>Bc b v.1 v.2) (0,f0)=some x:=by
 obtain⟨x,hx,_⟩:=BA (f:=fun(v:Int×Arr UInt32 64)=>Bc b v.1 v.2) 16 (fun k v=>v.1=((k:Nat):Int)) (fun _=>True) (by omega)
  (fun k v hk hi=>by
   obtain⟨i,f⟩:=v;have hi':i=((k:Nat):Int):=hi;subst hi';have e0:w64 ((4:Int)*((k:Nat):Int))=((4*k:Nat):Int):=by rw[AH (by omega)];omega
   have e1:w64 (((4*k:Nat):Int)+1)=((4*k+1:Nat):Int):=by rw[AH (by omega)];omega
   have e2:w64 (((4*k:Nat):Int)+2)=((4*k+2:Nat):Int):=by rw[AH (by omega)];omega
   have e3:w64 (((4*k:Nat):Int)+3)=((4*k+3:Nat):Int):=by rw[AH (by omega)];omega
   exact⟨_,by
    show Bc b ((k:Nat):Int) f=_;unfold Bc;simp only[e0,e1,e2,e3,lt1];rw[ApU (by simp;omega),ApU (A4 (by omega)),ApU (A4 (by omega)),ApU (A4 (by omega)),ApU (A4 (by omega)),ApU (A4 (by omega))],by
    show w64 (((k:Nat):Int)+1)=(((k+1):Nat):Int);rw[AH (by omega)];omega⟩)
  (fun v hi=>by
   obtain⟨i,f⟩:=v;have hi':i=((16:Nat):Int):=hi;subst hi';exact⟨f,by show Bc b ((16:Nat):Int) f=_;unfold Bc;rw[ApV (by simp)],trivial⟩) (v0:=(0,f0)) rfl
 exact⟨x,hx⟩
theorem AmT (f0:Arr UInt32 64):∃x,Ax (fun(v:Int×Arr UInt32 64)=>AM v.1 v.2) (16,f0)=some x:=by
 obtain⟨x,hx,_⟩:=BA (f:=fun(v:Int×Arr UInt32 64)=>AM v.1 v.2) 48 (fun k v=>v.1=((16+k:Nat):Int)) (fun _=>True) (by omega)
  (fun k v hk hi=>by
   obtain⟨i,f⟩:=v;have hi':i=((16+k:Nat):Int):=hi;subst hi';have e15:w64 (((16+k:Nat):Int)-15)=((1+k:Nat):Int):=by rw[AH (by omega)];omega
   have e2:w64 (((16+k:Nat):Int)-2)=((14+k:Nat):Int):=by rw[AH (by omega)];omega
   have e16:w64 (((16+k:Nat):Int)-16)=((k:Nat):Int):=by rw[AH (by omega)];omega
   have e7:w64 (((16+k:Nat):Int)-7)=((9+k:Nat):Int):=by rw[AH (by omega)];omega
   exact⟨_,by
    show AM ((16+k:Nat):Int) f=_;unfold AM;simp only[e15,e2,e16,e7,lt1,l7,l18,l17,l19,ApX];rw[ApU (by simp;omega),ApU (A4 (by omega)),ApU (A4 (by omega)),ApU (A4 (by omega)),ApU (A4 (by omega)),ApU (A4 (by omega))],by
    show w64 (((16+k:Nat):Int)+1)=((16+(k+1):Nat):Int);rw[AH (by omega)];omega⟩)
  (fun v hi=>by
   obtain⟨i,f⟩:=v;have hi':i=((16+48:Nat):Int):=hi;subst hi';exact⟨f,by show AM ((16+48:Nat):Int) f=_;unfold AM;rw[ApV (by simp)],trivial⟩) (v0:=(16,f0)) rfl
 exact⟨x,hx⟩
theorem Aot(w:Arr UInt32 64)(f0:Arr UInt32 8):∃x,Ax (fun(v:Int×Arr UInt32 8)=>Ba w v.1 v.2) (0,f0)=some x:=by
 obtain⟨x,hx,_⟩:=BA (f:=fun(v:Int×Arr UInt32 8)=>Ba w v.1 v.2) 64 (fun k v=>v.1=((k:Nat):Int)) (fun _=>True) (by omega)
  (fun k v hk hi=>by
   obtain⟨i,f⟩:=v;have hi':i=((k:Nat):Int):=hi;subst hi'
   exact⟨_,by
    show Ba w ((k:Nat):Int) f=_;unfold Ba;simp only[lt1,l6,l11,l25,l2,l13,l22,ApX];rw[ApU (by simp;omega),ApU (A4 hk),ApU (A4 hk)],by
    show w64 (((k:Nat):Int)+1)=(((k+1):Nat):Int);rw[AH (by omega)];omega⟩)
  (fun v hi=>by
   obtain⟨i,f⟩:=v;have hi':i=((64:Nat):Int):=hi;subst hi';exact⟨f,by show Ba w ((64:Nat):Int) f=_;unfold Ba;rw[ApV (by simp)],trivial⟩) (v0:=(0,f0)) rfl
 exact⟨x,hx⟩
theorem Aox(w:Arr UInt32 8)(f0:Arr UInt32 8):∃x,Ax (fun(v:Int×Arr UInt32 8)=>Bi w v.1 v.2) (0,f0)=some x:=by
 obtain⟨x,hx,_⟩:=BA (f:=fun(v:Int×Arr UInt32 8)=>Bi w v.1 v.2) 8 (fun k v=>v.1=((k:Nat):Int)) (fun _=>True) (by omega)
  (fun k v hk hi=>by
   obtain⟨i,f⟩:=v;have hi':i=((k:Nat):Int):=hi;subst hi'
   exact⟨_,by
    show Bi w ((k:Nat):Int) f=_;unfold Bi;simp only[lt1];rw[ApU (by simp;omega),ApU (A4 hk),ApU (A4 hk),ApU (A4 hk)],by
    show w64 (((k:Nat):Int)+1)=(((k+1):Nat):Int);rw[AH (by omega)];omega⟩)
  (fun v hi=>by
   obtain⟨i,f⟩:=v;have hi':i=((8:Nat):Int):=hi;subst hi';exact⟨f,by show Bi w ((8:Nat):Int) f=_;unfold Bi;rw[ApV (by simp)],trivial⟩) (v0:=(0,f0)) rfl
 exact⟨x,hx⟩
theorem AmY{A C:Type}(o1:Option A)(g2:A→Option A)(g3:A→Option C)(g4:C→Option C)(h1:∃a,o1=some a)(h2:∀a,∃x,g2 a=some x)(h3:∀a,∃x,g3 a=some x)(h4:∀a,∃x,g4 a=some x) :∃r,((o1.bind fun f=>some f).bind fun f=>((g2 f).bind fun f=>some f).bind fun f=>((g3 f).bind fun f=>some f).bind fun f=>((g4 f).bind fun f=>some f).bind fun f=>some f)=some r:=by
 obtain⟨a,rfl⟩:=h1;obtain⟨b,hb⟩:=h2 a;obtain⟨c,hc⟩:=h3 b;obtain⟨d,hd⟩:=h4 c;exact⟨d,by simp[hb,hc,hd]⟩
theorem X9(h:Arr UInt32 8)(b:List UInt8)(hb:64≤b.length):∃r,CK h b=some r:=by
 unfold CK
 exact AmY (Ax (fun(v:Int×Arr UInt32 64)=>Bc b v.1 v.2) (0,Arr.rep 64 (0:UInt32))) (fun w=>Ax (fun(v:Int×Arr UInt32 64)=>AM v.1 v.2) (16,w)) (fun w=>Ax (fun(v:Int×Arr UInt32 8)=>Ba w v.1 v.2) (0,h)) (fun w=>Ax (fun(v:Int×Arr UInt32 8)=>Bi w v.1 v.2) (0,h))
  (Amp b hb _) (fun w=>AmT w) (fun w=>Aot w h) (fun w=>Aox w h)
noncomputable def blk(h:Arr UInt32 8)(b:List UInt8):Arr UInt32 8:=(CK h b).getD h
theorem Aen(h:Arr UInt32 8)(b:List UInt8)(hb:64≤b.length):CK h b=some (blk h b):=by
 obtain⟨r,hr⟩:=X9 h b hb;have e:blk h b=r:=by unfold blk;rw[hr];exact AqX
 rw[e];exact hr
theorem SD{o:Option α}{a:α}{f:α→Option β}(h:o=some a):(o.bind fun x=>some x).bind f=f a:=by rw[h];rfl
theorem AdN{o:Option α}{a:α}{f:α→Option β}(h:o=some a):o.bind f=f a:=by rw[h];rfl
theorem Va{c:Prop}[Decidable c]{x y:α}(h:c):(if c then x else y)=x:=ApU h
theorem Vf{n:Nat}(h:n≤1000000):Dt n 1:=M3 (by omega)
theorem AcR:(fun v:List UInt8=>HR v)=fun v=>B7 v:=by funext v;unfold HR B7;rfl
theorem Ad9(n:Nat):((n:Int):Int).tmod 64=((n%64:Nat):Int):=rfl
theorem Abl(l:List UInt8)(hl:l.length≤200000):∃p,Ax (fun v:List UInt8=>B7 v) l=some p∧(p.length%64=56∧p.length≤l.length+64):=by
 refine BR (f:=fun v:List UInt8=>B7 v) (fun v=>v.length+(120-v.length%64)%64≤l.length+63) (fun v=>(120-v.length%64)%64) (fun p=>p.length%64=56∧p.length≤l.length+64) ?_ (v0:=l) (by show l.length+(120-l.length%64)%64≤l.length+63;omega) (by show(120-l.length%64)%64<_;omega);intro v hv;have hv':v.length+(120-v.length%64)%64≤l.length+63:=hv;by_cases h:v.length%64=56
 ·right;refine⟨v,?_,h,by omega⟩;show B7 v=_;unfold B7;rw[Ad9,h];rfl
 ·left;refine⟨v++[0],?_,?_,?_⟩
  ·show B7 v=_;unfold B7;rw[Ad9,ApU (by simp;omega),ApU (Vf (by omega))];rfl
  ·show(v++[0]).length+(120-(v++[0]).length%64)%64≤l.length+63;simp only[Aqe,Aqg,Aqr];omega
  ·show(120-(v++[0]).length%64)%64<(120-v.length%64)%64;simp only[Aqe,Aqg,Aqr];omega
def Aa4(n:UInt64)(k:Nat):UInt8:=(CM n (56-8*k)).toUInt8
theorem Ac6(n:UInt64)(p:List UInt8)(hp:p.length≤200100):Ax (fun v:Int×List UInt8=>C5 n v.1 v.2) (56,p)=some (p++(List.range 8).map (Aa4 n)):=by
 obtain⟨x,hx,rfl⟩:=BA (f:=fun v:Int×List UInt8=>C5 n v.1 v.2) 8 (fun k v=>v=(56-8*(k:Int),p++(List.range k).map (Aa4 n))) (fun x=>x=p++(List.range 8).map (Aa4 n)) (by omega)
  (fun k v hk hv=>by
   subst hv;refine⟨_,?_,rfl⟩;show C5 n (56-8*(k:Int)) (p++(List.range k).map (Aa4 n))=_;unfold C5;have e1:w64 (56-8*(k:Int)-8)=56-8*((k+1:Nat):Int):=by rw[AH (by omega)];omega
   have e2:(56-8*(k:Int)).toNat=56-8*k:=by omega
   rw[ApU (by simp;omega),ApU (by unfold DV;omega),ApU (Vf (by simp;omega)),e1,e2,Ar3,Ar2,←AqU];rfl)
  (fun v hv=>by
   subst hv;refine⟨_,?_,rfl⟩;show C5 n (56-8*((8:Nat):Int)) _=_;unfold C5;rw[ApV (by decide)]) (v0:=(56,p)) (by simp)
 exact hx
theorem Ym(n:UInt64)(p:List UInt8)(hp:p.length≤200100):Ax (fun v:Int×List UInt8=>Di n v.1 v.2) (0,p)=some (p++(List.range 8).map (Aa4 n)):=by
 obtain⟨x,hx,rfl⟩:=BA (f:=fun v:Int×List UInt8=>Di n v.1 v.2) 8 (fun k v=>v=((k:Int),p++(List.range k).map (Aa4 n))) (fun x=>x=p++(List.range 8).map (Aa4 n)) (by omega)
  (fun k v hk hv=>by
   subst hv;refine⟨_,?_,rfl⟩;show Di n (k:Int) (p++(List.range k).map (Aa4 n))=_;unfold Di;have e0:w64 (8*(k:Int))=((8*k:Nat):Int):=by rw[AH (by omega)];omega
   have e3:w64 (56-((8*k:Nat):Int))=((56-8*k:Nat):Int):=by rw[AH (by omega)];omega
   have e1:w64 ((k:Int)+1)=((k+1:Nat):Int):=by rw[AH (by omega)];omega
   have e2:(((56-8*k:Nat):Int)).toNat=56-8*k:=by omega
   rw[e0,e3,ApU (by simp;omega),ApU (by unfold DV;omega),ApU (Vf (by simp;omega)),e1,e2,Ar3,Ar2,←AqU];rfl)
  (fun v hv=>by
   subst hv;refine⟨_,?_,rfl⟩;show Di n ((8:Nat):Int) _=_;unfold Di;rw[ApV (by decide)]) (v0:=(0,p)) (by simp)
 exact hx
noncomputable def Hs(h0:Arr UInt32 8)(q:List UInt8):Nat→Arr UInt32 8
 |0=>h0
 |k+1=>blk (Hs h0 q k) ((q.drop (64*k)).take 64)
theorem Aby(h0:Arr UInt32 8)(q:List UInt8)(n:Nat)(hq:q.length=64*n)(hn:n≤10000) :Ax (fun v:Nat×Nat×Arr UInt32 8=>C4 q v.1 v.2.1 v.2.2) (0,q.length,h0)=some (Hs h0 q n):=by
 obtain⟨x,hx,rfl⟩:=BA (f:=fun v:Nat×Nat×Arr UInt32 8=>C4 q v.1 v.2.1 v.2.2) n (fun k v=>v=(64*k,q.length-64*k,Hs h0 q k)) (fun x=>x=Hs h0 q n) (by omega)
  (fun k v hk hv=>by
   subst hv;refine⟨_,?_,rfl⟩;show C4 q (64*k) (q.length-64*k) (Hs h0 q k)=_;unfold C4;rw[ApU (by simp;omega),ApU (by unfold InB;omega),AdN (Aen _ _ (by simp;omega)),ApU (by unfold InB;omega)];have e1:64*k+64=64*(k+1):=by omega
   have e2:q.length-64*k-64=q.length-64*(k+1):=by omega
   rw[e1,e2];rfl)
  (fun v hv=>by
   subst hv;refine⟨_,?_,rfl⟩;show C4 q (64*n) (q.length-64*n) (Hs h0 q n)=_;unfold C4;rw[ApV (by simp;omega)]) (v0:=(0,q.length,h0)) (by simp[Hs])
 exact hx
theorem AcS(h0:Arr UInt32 8)(q:List UInt8)(n:Nat)(hq:q.length=64*n)(hn:n≤10000) :Ax (fun v:Int×Arr UInt32 8=>F6 q v.1 v.2) (0,h0)=some (Hs h0 q n):=by
 obtain⟨x,hx,rfl⟩:=BA (f:=fun v:Int×Arr UInt32 8=>F6 q v.1 v.2) n (fun k v=>v=(((64*k:Nat):Int),Hs h0 q k)) (fun x=>x=Hs h0 q n) (by omega)
  (fun k v hk hv=>by
   subst hv;refine⟨_,?_,rfl⟩;show F6 q ((64*k:Nat):Int) (Hs h0 q k)=_;unfold F6;have e1:w64 (((64*k:Nat):Int)+64)=((64*(k+1):Nat):Int):=by rw[AH (by omega)];omega
   have e2:(((64*(k+1):Nat):Int)).toNat-(((64*k:Nat):Int)).toNat=64:=by omega
   have e3:(((64*k:Nat):Int)).toNat=64*k:=by omega
   rw[e1,ApU (by simp;omega),ApU (by unfold InB;omega),ApU (by unfold InB;omega),e2,e3,←Ada,AdN (Aen _ _ (by simp;omega))];rfl)
  (fun v hv=>by
   subst hv;refine⟨_,?_,rfl⟩;show F6 q ((64*n:Nat):Int) (Hs h0 q n)=_;unfold F6;rw[ApV (by simp;omega)]) (v0:=(0,h0)) (by simp[Hs])
 exact hx
theorem Adw(f:Arr UInt32 8):(fun v:Int×Arr UInt8 32=>Lb f v.1 v.2)=fun v=>BP f v.1 v.2:=by funext v;unfold Lb BP;rfl
theorem AcT(f:Arr UInt32 8):∃d,Ax (fun v:Int×Arr UInt8 32=>BP f v.1 v.2) (0,Arr.rep 32 (0:UInt8))=some d:=by
 obtain⟨x,hx,_⟩:=BA (f:=fun v:Int×Arr UInt8 32=>BP f v.1 v.2) 32 (fun k v=>v.1=(k:Int)) (fun _=>True) (by omega)
  (fun k v hk hi=>by
   obtain⟨i,d⟩:=v;have hi':i=(k:Int):=hi;subst hi';have e4:((k:Int):Int).tdiv 4=((k/4:Nat):Int):=rfl;have e5:((k:Int):Int).tmod 4=((k%4:Nat):Int):=rfl;have e6:w64 ((k/4:Nat):Int)=((k/4:Nat):Int):=AH (by omega);have e7:w64 (8*((k%4:Nat):Int))=((8*(k%4):Nat):Int):=by rw[AH (by omega)];omega
   have e8:w64 (24-((8*(k%4):Nat):Int))=((24-8*(k%4):Nat):Int):=by rw[AH (by omega)];omega
   exact⟨_,by
    show BP f (k:Int) d=_;unfold BP;rw[e4,e5,e6,e7,e8,ApU (by simp;omega),ApU (A4 (by omega)),ApU (by unfold DV;omega),ApU (A4 hk)];rfl,by
    show w64 ((k:Int)+1)=((k+1:Nat):Int);rw[AH (by omega)];omega⟩)
  (fun v hi=>by
   obtain⟨i,d⟩:=v;have hi':i=((32:Nat):Int):=hi;subst hi';exact⟨d,by show BP f ((32:Nat):Int) d=_;unfold BP;rw[ApV (by simp)],trivial⟩) (v0:=(0,Arr.rep 32 (0:UInt8))) rfl
 exact⟨x,hx⟩
theorem Y2(ps:List (List UInt8))(hl:ps.length≤100)(h:ps.flatten.length≤200000):Ax (fun v:Int×List UInt8=>Ch ps v.1 v.2) (0,[])=some ps.flatten:=by
 obtain⟨x,hx,rfl⟩:=BA (f:=fun v:Int×List UInt8=>Ch ps v.1 v.2) ps.length (fun k v=>v=((k:Int),(ps.take k).flatten)) (fun x=>x=ps.flatten) (by omega)
  (fun k v hk hv=>by
   subst hv;refine⟨_,?_,rfl⟩;show Ch ps (k:Int) (ps.take k).flatten=_;unfold Ch;have e1:w64 ((k:Int)+1)=((k+1:Nat):Int):=by rw[AH (by omega)];omega
   have e2:nth ps ((k:Int)).toNat=ps[k]:=by simp[nth,hk]
   have e3:(ps.take (k+1)).flatten=(ps.take k).flatten++ps[k]:=by rw[AqJ hk,List.flatten_append,List.flatten_cons,List.flatten_nil,Are]
   have e4:(ps.take (k+1)).flatten.length≤200000:=by
    have:ps.flatten=(ps.take (k+1)).flatten++(ps.drop (k+1)).flatten:=by rw[←List.flatten_append,Arl]
    rw[this,Aqe]at h;omega
   rw[e3,Aqe]at e4;rw[ApU (by simp;omega),ApU (A4 hk),e2];show(if Dt ((ps.take k).flatten.length+ps[k].length) 1 then _ else none)=_;rw[ApU (Vf (by omega)),e1,e3];rfl)
  (fun v hv=>by
   subst hv;refine⟨ps.flatten,?_,rfl⟩;show Ch ps (ps.length:Int) (ps.take ps.length).flatten=_;unfold Ch;rw[ApV (by simp),AqT]) (v0:=(0,[])) (by simp)
 exact hx
theorem Aci:∃R:List UInt8→Option (Arr UInt8 32),(∀ps,Fv ps=(Ax (fun v:Int×List UInt8=>Ch ps v.1 v.2) (0,[])).bind R)∧∀m:List UInt8,m.length≤150000→∃d,R m=some d∧VI m=some d:=by
 refine⟨_,fun ps=>by unfold Fv;rw[Bk],fun m hm=>?_⟩;obtain⟨p,hp,hp1,hp2⟩:=Abl (m++[128]) (by simp;omega);simp only[Aqe,Aqg,Aqr]at hp2;have hq:(p++(List.range 8).map (Aa4 (UInt64.ofInt (m.length:Int)*8))).length=64*((p.length+8)/64):=by simp;omega
 obtain⟨d,hd⟩:=AcT (Hs ⟨[(1779033703:UInt32),3144134277,1013904242,2773480762,1359893119,2600822924,528734635,1541459225],rfl⟩ (p++(List.range 8).map (Aa4 (UInt64.ofInt (m.length:Int)*8))) ((p.length+8)/64));have hlb:=Ac6 (UInt64.ofInt (m.length:Int)*8) p (by omega);have hlr:=Ym (UInt64.ofInt (m.length:Int)*8) p (by omega);refine⟨d,?_,?_⟩
 ·refine(Jh _ _ _ rfl).trans ?_;refine(Va (Vf (by omega))).trans ?_;refine(Jh _ _ _ rfl).trans ?_;refine(SD hp).trans ?_;refine(SD hlb).trans ?_;refine(Jh _ _ _ rfl).trans ?_;refine(SD (Aby _ _ _ hq (by omega))).trans ?_;exact SD hd
 ·unfold VI;refine(Jh _ _ _ rfl).trans ?_
  have hpad:KO m=some (p++(List.range 8).map (Aa4 (UInt64.ofInt (m.length:Int)*8))):=by
   unfold KO;refine(Jh _ _ _ rfl).trans ?_;refine(Va (Vf (by simp;omega))).trans ?_;refine(Jh _ _ _ rfl).trans ?_;refine(Va (Vf (by simp;omega))).trans ?_;refine(Jh _ _ _ rfl).trans ?_;rw[AcR];refine(SD (o:=Ax (fun v:List UInt8=>B7 v) (([]++m)++[128])) hp).trans ?_;refine(Jh _ _ _ rfl).trans ?_;exact SD hlr
  refine(AdN hpad).trans ?_;refine(SD (AcS _ _ _ hq (by omega))).trans ?_;refine(Jh _ (Arr.rep 32 0) _ (Arr.ext' rfl)).trans ?_;have hd':=hd;rw[←Adw]at hd';exact SD hd'
noncomputable def DS(m:List UInt8):Arr UInt8 32:=(VI m).getD default
theorem RM(ps:List (List UInt8))(hl:ps.length≤100)(h:ps.flatten.length≤150000):Fv ps=some (DS ps.flatten):=by
 obtain⟨R,h1,hR⟩:=Aci;obtain⟨d,hd,hd2⟩:=hR ps.flatten h;rw[h1 ps,AdN (Y2 ps hl (by omega)),hd];have:DS ps.flatten=d:=by unfold DS;rw[hd2];exact AqX
 rw[this]
theorem Pu(ps:List (List UInt8))(hl:ps.length≤100)(h:ps.flatten.length≤150000):∃d,Fv ps=some d:=⟨_,RM ps hl h⟩
theorem Ql(tag b:List UInt8)(h1:tag.length≤200)(h2:b.length≤100000):∃d,CL tag b=some d:=by
 have e1:Pm (tag.length:Int) 255=(tag.length:Int):=by unfold Pm;omega
 have e2:tag.take (Pm (tag.length:Int) 255).toNat=tag:=by rw[e1,Ap1,AqT]
 unfold CL;rw[ApU (show InB (Pm (tag.length:Int) 255) tag.length by rw[e1];unfold InB;omega),e2];simp only[AJ];obtain⟨d,hd⟩:=Pu [[UInt8.ofInt (tag.length:Int)],tag,b] (by simp) (by simp;omega);exact⟨d,by rw[hd];rfl⟩
theorem Xx(d:Arr UInt8 32):∃n,Er d=some n:=by
 have hl:(d.l.take 8).length=8:=by rw[Asl,d.h];rfl
 obtain⟨x,hx,_⟩:∃x,Ax (fun(v:UInt64×Int)=>BU d v.1 v.2) ((0:UInt64),0)=some x∧True:=by
  refine BR (fun v=>∃k:Nat,v.2=(k:Int)∧k≤8) (fun v=>(8-v.2).toNat) _ ?_ ⟨0,rfl,by omega⟩ (by simp);rintro⟨n,_⟩ ⟨k,rfl,hk⟩;by_cases h:k<8
  ·left;refine⟨(Ic n ((8:UInt64)).toNat ||| (nth (d.l.take 8) k).toUInt64,((k+1:Nat):Int)),?_,⟨k+1,rfl,by omega⟩,?_⟩
   ·show BU d n (k:Int)=_;unfold BU;rw[ApU (Aqf (by rw[hl];omega)),ApU (show InR (k:Int) (d.l.take 8).length from A4 (by omega))];simp only[AJ,Ap1];rw[CF (by omega)]
   ·simp only;omega
  ·right;refine⟨n,?_,trivial⟩;show BU d n (k:Int)=_;unfold BU;rw[ApV (by rw[hl];simp;omega)]
 unfold Er;rw[hx];exact⟨_,rfl⟩
set_option maxRecDepth 8000
def lenTab:List UInt8:=([0,1,2,2,3,3,3,3,4,4,4,4,4,4,4,4,5,5,5,5,5,5,5,5,5,5,5,5,5,5,5,5,6,6,6,6,6,6,6,6,6,6,6,6,6,6,6,6,6,6,6,6,6,6,6,6,6,6,6,6,6,6,6,6,7,7,7,7,7,7,7,7,7,7,7,7,7,7,7,7,7,7,7,7,7,7,7,7,7,7,7,7,7,7,7,7,7,7,7,7,7,7,7,7,7,7,7,7,7,7,7,7,7,7,7,7,7,7,7,7,7,7,7,7,7,7,7,7,8,8,8,8,8,8,8,8,8,8,8,8,8,8,8,8,8,8,8,8,8,8,8,8,8,8,8,8,8,8,8,8,8,8,8,8,8,8,8,8,8,8,8,8,8,8,8,8,8,8,8,8,8,8,8,8,8,8,8,8,8,8,8,8,8,8,8,8,8,8,8,8,8,8,8,8,8,8,8,8,8,8,8,8,8,8,8,8,8,8,8,8,8,8,8,8,8,8,8,8,8,8,8,8,8,8,8,8,8,8,8,8,8,8,8,8,8,8,8,8,8,8,8,8,8,8,8,8]:List UInt8)
theorem AeY:((List.range 256).all fun i=>decide (i<2^(nth lenTab i).toNat)&&decide ((nth lenTab i).toNat≤8))=true:=by decide +kernel
theorem Aey:lenTab.length=256:=by decide +kernel
theorem AkL{i:Nat}(h:i<256):i<2^(nth lenTab i).toNat∧(nth lenTab i).toNat≤8:=by
 have:=Ap8.1 AeY i (AqN.2 h);simpa using this
theorem Aoz{x:UInt64}(h:x.toNat<256):x.toUInt8.toNat=x.toNat:=by
 rw[UInt64.toNat_toUInt8];omega
theorem Abw(x0 x:UInt64)(n:Nat)(hx:x.toNat<256)(hn:n≤56)(h:x0.toNat/2^n=x.toNat) :∃len:Nat,(if InR ((x.toUInt8.toNat:Int)) (lenTab.length)then some (w64 ((n:Int)+(((nth lenTab x.toUInt8.toNat)).toNat:Int)))else none)=some (len:Int)∧x0.toNat<2^len∧len≤64:=by
 have e:=Aoz hx;obtain⟨h1,h2⟩:=AkL hx;refine⟨n+(nth lenTab x.toNat).toNat,?_,?_,by omega⟩
 ·rw[e,ApU (by rw[Aey];exact A4 hx),AH (by omega)];congr 1
 ·have h3:x0.toNat<(x.toNat+1)*2^n:=by
   have h4:x0.toNat/2^n<x.toNat+1:=by omega
   exact(Arb (Nat.two_pow_pos n)).1 h4
  refine Aq7 h3 ?_;rw[AsH,Arx];exact Nat.mul_le_mul_left _ h1
theorem dd(a n k:Nat):a/2^(n+k)=a/2^n/2^k:=by rw[AsH,Nat.div_div_eq_div_mul]
theorem Agv(x0 x:UInt64)(n k:Nat)(c s:UInt64)(hc:c.toNat=2^k)(hs:s.toNat=k)(hn:n+k≤100)(hx:x.toNat<2^(k+k))(h:x0.toNat/2^n=x.toNat){β:Type}(g:UInt64→Int→Option β)(Q:β→Prop) (hg:∀(x':UInt64) (n':Nat),n'≤n+k→x'.toNat<2^k→x0.toNat/2^n'=x'.toNat→∃b,g x' (n':Int)=some b∧Q b) :∃b,((if(decide (x≥c))then lt1 (CM x s.toNat) fun(y:UInt64)=>some (y,w64 ((n:Int)+(k:Int)))else some (x,(n:Int)):Option (UInt64×Int)).bind fun(x',n')=>g x' n')=some b∧Q b:=by
 by_cases hd:x≥c
 ·rw[ApU (Aqf hd),AJ,ApX,AH (by omega)];have:x0.toNat/2^(n+k)=(CM x s.toNat).toNat:=by rw[JD,dd,h,hs]
  refine hg _ (n+k) (Ap5 _) ?_ this;rw[JD,hs];rw[AsH]at hx;exact Nat.div_lt_of_lt_mul hx
 ·rw[ApV (by simpa using hd),ApX];refine hg x n (by omega) ?_ h
  have:x.toNat<c.toNat:=by
   have:=UInt64.not_le.1 hd;exact AqH.1 this
  omega
theorem AbR(x:UInt64):∃len:Nat,Es x=some (len:Int)∧x.toNat<2^len∧len≤64:=by
 have key:=Agv x x 0 32 4294967296 32 (by decide) (by decide) (by omega) (Aq7 (Aeb x) (by decide)) (by rw[As0,Nat.div_one])
  (fun x n=>((if(decide (x≥65536))then lt1 (CM x (16:UInt64).toNat) fun(y:UInt64)=>some (y,w64 (n+16))else some (x,n):Option (UInt64×Int)).bind fun(x,n)=>
   ((if(decide (x≥256))then lt1 (CM x (8:UInt64).toNat) fun(y:UInt64)=>some (y,w64 (n+8))else some (x,n):Option (UInt64×Int)).bind fun(x,n)=>
    if InR ((x.toUInt8.toNat:Int)) (lenTab.length)then some (w64 (n+(((nth lenTab x.toUInt8.toNat)).toNat:Int)))else none)))
  (fun b=>∃len:Nat,b=(len:Int)∧x.toNat<2^len∧len≤64) (fun x1 n1 hn1 hx1 h1=>?_)
 ·obtain⟨b,hb,len,rfl,h1,h2⟩:=key;exact⟨len,hb,h1,h2⟩
 ·refine Agv x x1 n1 16 65536 16 (by decide) (by decide) (by omega) (by simpa using hx1) h1
   (fun x n=>((if(decide (x≥256))then lt1 (CM x (8:UInt64).toNat) fun(y:UInt64)=>some (y,w64 (n+8))else some (x,n):Option (UInt64×Int)).bind fun(x,n)=>
    if InR ((x.toUInt8.toNat:Int)) (lenTab.length)then some (w64 (n+(((nth lenTab x.toUInt8.toNat)).toNat:Int)))else none)) _ (fun x2 n2 hn2 hx2 h2=>?_)
  refine Agv x x2 n2 8 256 8 (by decide) (by decide) (by omega) (by simpa using hx2) h2
   (fun x n=>if InR ((x.toUInt8.toNat:Int)) (lenTab.length)then some (w64 (n+(((nth lenTab x.toUInt8.toNat)).toNat:Int)))else none) _ (fun x3 n3 hn3 hx3 h3=>?_)
  obtain⟨len,e1,e2,e3⟩:=Abw x x3 n3 (by simpa using hx3) (by omega) h3;exact⟨_,e1,len,rfl,e2,e3⟩
theorem Wl(b n:UInt64):∃r,F8 b n=some r∧r.toNat=b.toNat^n.toNat%PN:=by
 obtain⟨len,h1,h2,h3⟩:=AbR n;exact Ad0 b n len h1 h2 h3
theorem Aay(n:UInt64)(l:List UInt8)(h:l.length≤200000):∃m,Ax (fun(v:Int×List UInt8)=>Dz n v.1 v.2) (0,l)=some m∧m.length=l.length+8:=by
 refine BA 8 (fun k v=>v.1=(k:Int)∧v.2.length=l.length+k) _ (by omega) ?_ ?_ ⟨rfl,rfl⟩
 ·rintro k ⟨_,m⟩ hk ⟨rfl,hm⟩;simp only at hm ⊢;have e1:w64 (56-w64 (8*(k:Int)))=((56-8*k:Nat):Int):=by rw[AH (x:=8*(k:Int)) (by omega),AH (by omega)];omega
  unfold Dz;rw[ApU (Aqf (by omega)),e1,ApU (by unfold DV;omega),ApU (M3 (by omega))];simp only[AJ];rw[CF (by omega)];exact⟨_,rfl,rfl,by simp;omega⟩
 ·rintro⟨_,m⟩ ⟨rfl,hm⟩;simp only at hm ⊢;unfold Dz;rw[ApV (by decide)];exact⟨_,rfl,hm⟩
theorem TJ(msg:List UInt8)(ns:List UInt64)(h1:msg.length≤70000)(h2:ns.length≤100):∃m,F5 msg ns=some m∧m.length=8*ns.length+msg.length:=by
 obtain⟨x,hx,hq⟩:∃x,Ax (fun(v:Int×List UInt8)=>D0 ns v.1 v.2) (0,[])=some x∧x.length=8*ns.length:=by
  refine BA ns.length (fun k v=>v.1=(k:Int)∧v.2.length=8*k) _ (by omega) ?_ ?_ ⟨rfl,rfl⟩
  ·rintro k ⟨_,m⟩ hk ⟨rfl,hm⟩;simp only at hm ⊢;obtain⟨m',e1,e2⟩:=Aay (nth ns k) m (by omega);unfold D0;rw[ApU (Aqf (by omega)),ApU (A4 hk)];simp only[AJ,Ap1];rw[e1];simp only[ApX];rw[CF (by omega)];exact⟨_,rfl,rfl,by simp only;omega⟩
  ·rintro⟨_,m⟩ ⟨rfl,hm⟩;simp only at hm ⊢;unfold D0;rw[ApV (by simp)];exact⟨_,rfl,hm⟩
 unfold F5;have e1:w64 (w64 (8*(ns.length:Int))+(msg.length:Int))=((8*ns.length+msg.length:Nat):Int):=by rw[AH (x:=8*(ns.length:Int)) (by omega),AH (by omega)];omega
 rw[e1,ApU (by unfold Mk maxLen GT;omega)];simp only[AJ,List.replicate_zero];rw[hx];simp only[ApX];rw[ApU (M3 (by omega))];exact⟨_,rfl,by simp;omega⟩
theorem P0(r p:UInt64)(msg:List UInt8)(h:msg.length≤70000):∃c,D8 r p msg=some c:=by
 obtain⟨m,h1,h2⟩:=TJ msg [r,p] h (by simp);simp only[Aqg,Aqr]at h2;obtain⟨d,hd⟩:=Ql [99,104,97,108,108,101,110,103,101] m (by simp) (by omega);obtain⟨n,hn⟩:=Xx d;unfold D8;rw[h1,ApX,hd,ApX,hn];exact⟨_,rfl⟩
theorem V5(p:UInt64)(msg:List UInt8)(s:ApJ):∃r,E5 p msg s=some r:=by
 unfold E5;rw[Ajr];simp only[Ay,I7];split
 ·exact⟨_,rfl⟩
 ·rename_i hl
  have hl':msg.length≤70000:=by
   simp only[AqD,not_or,Aqd]at hl;omega
  unfold E9;obtain⟨a,ha,_⟩:=Wl 4 s.S;obtain⟨b,hb,_⟩:=Wl p (1152921504606845399-s.C);obtain⟨c,hc,_⟩:=Oh a b;rw[ApX,ha,ApX,hb,ApX,hc,ApX];obtain⟨d,hd⟩:=P0 c p msg hl';simp only;rw[hd];exact⟨_,rfl⟩
theorem XW{p:ApF}(h:Few p):∃f,B5 p=some f∧∀it:ApI,it.Zu1.length≤1000000→∃e,Gt p it=some e:=by
 obtain⟨f,hf,_,hc⟩:=RZ h;refine⟨f,hf,fun it hp=>?_⟩;obtain⟨u,_,_,hi,_⟩:=hc it hp;exact⟨_,hi⟩
end Go.Proofs.YtioapcamanmoiaaGreatDoor
namespace Go.Proofs.YtioapcamanmoiaaGreatDoor.Kc
open Go.Rv
set_option linter.unusedVariables false
set_option linter.unusedSimpArgs false
theorem B4{α β:Type}{o:Option α}{a:α}{f:α→Option β}(h:o=some a):o.bind f=f a:=by rw[h];rfl
theorem Acl{α β:Type}(x y:α)(f:α→Option β)(h:x=y):lt1 x f=f y:=by rw[h];rfl
theorem Aga(x:UInt64)(n:Nat):(CM x n).toNat=x.toNat/2^n:=by
 show(x.toBitVec >>> n).toNat=_;rw[AsG,Ar6];rfl
theorem PZ{k:Nat}(h:k<9223372036854775807):w64 ((k:Int)+1)=((k+1:Nat):Int):=by
 rw[AH (by omega)];rfl
theorem JU(x:ApN):ApN.mk x.Za x.N x.B x.L=x:=by cases x;rfl
mutual
def szV:ApN→Nat
 |.mk _ _ b l=>b.length+1+szVs l
def szVs:List ApN→Nat
 |[]=>0
 |x::l=>szV x+szVs l
end
theorem Af0(x:ApN):0<szV x:=by
 cases x with
 |mk k n b l=>simp only[szV];omega
theorem IZ{l:List ApN}{x:ApN}(h:x∈l):szV x≤szVs l:=by
  induction l with
  |nil=>cases h
  | cons y l ih=>
    simp only[szVs];rcases Aqq.1 h with rfl|h
    · omega
    · have:=ih h;omega
theorem Rp(l:List ApN):l.length≤szVs l:=by
  induction l with
  |nil=>simp[szVs]
  | cons y l ih=>
    have:=Af0 y;simp only[szVs,Aqg];omega
theorem szV_eq(x:ApN):szV x=x.B.length+1+szVs x.L:=by
 cases x with
 |mk k n b l=>rfl
def nbF:Nat→Nat→Nat
 |0,_=>0
 |f+1,u=>if u=0 then 0 else nbF f (u/256)+1
def nb(u:Nat):Nat:=nbF 8 u
theorem Aj7(f u:Nat):nbF f u≤f:=by
  induction f generalizing u with
  |zero=>exact Ap5 _
  | succ f ih=>
    unfold nbF;split
    · omega
    · have:=ih (u/256);omega
theorem AjX(f u:Nat)(h:u<256^f)(m:Nat):nbF (f+m) u=nbF f u:=by
  induction f generalizing u with
  | zero=>
    have:u=0:=by simpa using h
    subst this;cases m with
    |zero=>rfl
    |succ m=>rw[AqO];unfold nbF;simp
  | succ f ih=>
    rw[show f+1+m=(f+m)+1 by omega];unfold nbF;split
    · rfl
    · rw[ih (u/256) (by rw[AsZ]at h;omega)]
theorem Ajl(u:Nat):nb u≤8:=Aj7 8 u
theorem Afv:nb 0=0:=rfl
theorem Afj(u:Nat)(h:u≠0)(hu:u<256^8):nb u=nb (u/256)+1:=by
 unfold nb;rw[show(8:Nat)=7+1 from rfl];rw[AjX 7 (u/256) (by have:(256:Nat)^8=256^7*256:=rfl;omega) 1]
 conv=>lhs;unfold nbF
 rw[ApV h]
theorem AaW(u:UInt64):Cb u=some ((nb u.toNat:Nat):Int):=by
 obtain⟨x,hx,hq⟩:=BR (f:=fun(v:UInt64×Int)=>Bm v.1 v.2)
  (fun v=>∃k:Nat,v.2=(k:Int)∧k+nb v.1.toNat=nb u.toNat) (fun v=>v.1.toNat) (fun x=>x=((nb u.toNat:Nat):Int))
  (by
   rintro⟨u',k'⟩ ⟨k,hk,hkn⟩;simp only at hk hkn;subst hk;have hlt:u'.toNat<256^8:=by have:=u'.toNat_lt;exact this
   by_cases h0:u'.toNat=0
   ·right;refine⟨(k:Int),?_,?_⟩
    ·show Bm u' (k:Int)=_;unfold Bm;rw[ApV];simp only[Aqd,Asi,AqH];show ¬0<u'.toNat;omega
    ·rw[h0,Afv]at hkn;rw[←hkn];rfl
   ·left;have hs:(CM u' ((8:UInt64)).toNat).toNat=u'.toNat/256:=by rw[Aga];rfl
    refine⟨(CM u' ((8:UInt64)).toNat,((k+1:Nat):Int)),?_,⟨k+1,rfl,?_⟩,?_⟩
    ·show Bm u' (k:Int)=_;unfold Bm;have:=Ajl u.toNat;rw[ApU,PZ (by omega)]
     ·rfl
     ·simp only[Aqd,Asi,AqH];show 0<u'.toNat;omega
    ·simp only[hs];have:=Afj _ h0 hlt;omega
    ·simp only[hs];omega) (v0:=(u,0)) ⟨0,rfl,by simp⟩ (by have:=u.toNat_lt;omega)
 subst hq;unfold Cb;exact(B4 (B4 hx)).trans rfl
def nbI(n:Int):Nat:=if n<0 then nb (~~~(UInt64.ofInt n)).toNat else nb (UInt64.ofInt n).toNat
def AfB(n:Int):UInt8:=if n<0 then UInt8.ofInt (31-(nbI n:Int))else UInt8.ofInt (32+(nbI n:Int))
def AkX(n:Int)(k i:Nat):UInt8:=(CM (UInt64.ofInt n) (8*(k-1-i))).toUInt8
def Ahx(n:Int):List UInt8:=AfB n::(List.range (nbI n)).map (AkX n (nbI n))
theorem Ad6(n:Int):nbI n≤8:=by unfold nbI;split<;>exact Ajl _
theorem AdU(n:Int):(Ahx n).length=nbI n+1:=by simp[Ahx]
theorem RP(b:List UInt8)(n:Int)(hb:b.length≤1099511627776):DP b n=some (b++Ahx n):=by
 have h8:=Ad6 n
 have key:∃x,Ax (fun(v:Int×List UInt8)=>Bq n ((nbI n:Nat):Int) v.1 v.2) (0,b++[AfB n])=some x∧x=b++Ahx n :=
  BA (f:=fun(v:Int×List UInt8)=>Bq n ((nbI n:Nat):Int) v.1 v.2) (nbI n)
   (fun k v=>v=((k:Int),b++AfB n::(List.range k).map (AkX n (nbI n)))) (fun x=>x=b++Ahx n) (by omega)
   (fun k v hk hv=>by
    subst hv;refine⟨_,?_,rfl⟩;show Bq n ((nbI n:Nat):Int) (k:Int) _=_;unfold Bq;have e1:w64 (((nbI n:Nat):Int)-1)=((nbI n-1:Nat):Int):=by rw[AH (by omega)];omega
    have e2:w64 (((nbI n-1:Nat):Int)-(k:Int))=((nbI n-1-k:Nat):Int):=by rw[AH (by omega)];omega
    have e3:w64 (8*((nbI n-1-k:Nat):Int))=((8*(nbI n-1-k):Nat):Int):=by rw[AH (by omega)];omega
    rw[ApU (by simp;omega),e1,e2,e3,ApU (by unfold DV;omega),ApU (M3 (by simp;omega)),PZ (by omega)];simp only[lt1,Ar3,Ar2,Aru,AsX,AqU,Aqh];rfl)
   (fun v hv=>by
    subst hv;refine⟨_,?_,rfl⟩;show Bq n ((nbI n:Nat):Int) ((nbI n:Nat):Int) _=_;unfold Bq;rw[ApV (by simp)];rfl) (v0:=(0,b++[AfB n])) rfl
 obtain⟨x,hx,rfl⟩:=key
 have hp:(if decide (n<0)=true then
   (Cb (~~~UInt64.ofInt n)).bind fun y=>lt1 (UInt8.ofInt (w64 (31-y))) fun(tag:UInt8)=>some (y,tag)
  else some (((nb (UInt64.ofInt n).toNat:Nat):Int),UInt8.ofInt (w64 (32+((nb (UInt64.ofInt n).toNat:Nat):Int)))):Option (Int×UInt8))=some (((nbI n:Nat):Int),AfB n):=by
  by_cases h:n<0
  ·rw[ApU (by simpa using h),AaW];have e:nbI n=nb (~~~(UInt64.ofInt n)).toNat:=ApU h;rw[←e];show some (((nbI n:Nat):Int),UInt8.ofInt (w64 (31-((nbI n:Nat):Int))))=_;rw[AH (by omega)];unfold AfB;rw[ApU h]
  ·rw[ApV (by simpa using h)];have e:nbI n=nb (UInt64.ofInt n).toNat:=ApV h;rw[←e,AH (by omega)];unfold AfB;rw[ApV h]
 unfold DP;refine(B4 (AaW _)).trans ?_;refine(Acl _ _ _ rfl).trans ?_;refine(B4 hp).trans ?_;refine(ApU (M3 (by omega))).trans ?_;refine(Acl _ _ _ rfl).trans ?_;exact(B4 (B4 hx)).trans rfl
mutual
def PU:ApN→Int×Bool
 |.mk k n b l=>
  if k=1 then(0,b.length==0&&l.length==0)
  else if k=2 then(0,n==0&&l.length==0)
  else if k=3 then(if n=0∧b.length=0 then SX 0 l else(0,false))
  else(0,false)
def SX(d:Int):List ApN→Int×Bool
 |[]=>(d+1,true)
 |x::l=>if(PU x).2=true then SX (JT d (PU x).1) l else(0,false)
end
mutual
theorem ZN:∀v:ApN,0≤(PU v).1∧(PU v).1≤szV v
  | .mk k n b l=>by
    have h:=Aai 0 l;unfold PU szV;split
    · simp;omega
    · split
      · simp;omega
      · split
        · split
          · omega
          · simp;omega
        · simp;omega
theorem Aai:∀(d:Int) (l:List ApN),0≤d→0≤(SX d l).1∧(SX d l).1≤max d (szVs l)+1
  |d,[]=>by intro h;simp[SX,szVs];omega
  | d,x::l=>by
    intro h;have h1:=ZN x;have hm:0≤JT d (PU x).1∧JT d (PU x).1≤max d (szV x):=by unfold JT;split<;>omega
    have h2:=Aai (JT d (PU x).1) l hm.1;unfold SX szVs;split
    · omega
    · simp;omega
end
theorem Gv{l:List ApN}{k:Nat}(h:k<l.length):nth l k=l[k]:=by simp[nth,Ap7,h]
theorem AlV{α:Type}(l:List α):((l.length:Int)==0)=(l.length==0):=by
 cases l with
 |nil=>rfl
 |cons a l=>simp;omega
theorem Abr(d:Int):SX d []=(d+1,true):=by unfold SX;rfl
theorem ZW(d:Int)(x:ApN)(l:List ApN):SX d (x::l)=if(PU x).2=true then SX (JT d (PU x).1) l else(0,false):=by
 conv=>lhs;unfold SX
theorem Yi(v:ApN)(rec_:ApN→Option (Int×Bool))(hr:∀x∈v.L,rec_ x=some (PU x))(hs:szV v≤1099511627776) :∃x,Ax (fun(s:Int×Int)=>Cg v rec_ s.1 s.2) (0,0)=some x ∧((∃d:Int,SX 0 v.L=(d+1,true)∧0≤d∧d≤1099511627776∧x=.inl d)∨(SX 0 v.L=(0,false)∧x=.inr (.inr (.inr (0,false))))):=by
 have hsz:=szV_eq v;have hlen:=Rp v.L
 refine BR (f:=fun(s:Int×Int)=>Cg v rec_ s.1 s.2)
  (fun s=>∃k:Nat,s.2=(k:Int)∧k≤v.L.length∧0≤s.1∧s.1≤1099511627776∧SX 0 v.L=SX s.1 (v.L.drop k)) (fun s=>v.L.length-s.2.toNat) _ ?_ ⟨0,rfl,Aqm _,by simp,by simp,rfl⟩ (by omega)
 rintro⟨d,t⟩ ⟨k,ht,hk,hd0,hd1,hsp⟩;simp only at ht hd0 hd1 hsp;subst ht;by_cases hkl:k<v.L.length
 ·have hx:v.L.drop k=v.L[k]::v.L.drop (k+1):=AqA hkl;have hm:v.L[k]∈v.L:=AqL hkl;have hsx:=IZ hm;have hle:=ZN v.L[k];rw[hx,ZW]at hsp
  have hb:Cg v rec_ d (k:Int)=if(!(PU v.L[k]).2)then some (.inr (.inr (.inr (.inr (0,false)))))else some (.inl (JT d (PU v.L[k]).1,((k+1:Nat):Int))):=by
   unfold Cg;rw[ApU (by simp;omega),ApU (A4 hkl)];simp only[Ap1,Gv hkl,lt1,JU];refine(B4 (hr _ hm)).trans ?_;rw[PZ (by omega)];rfl
  by_cases hg:(PU v.L[k]).2=true
  ·left;rw[ApU hg]at hsp;rw[ApV (by simp[hg])]at hb;refine⟨_,hb,⟨k+1,rfl,hkl,?_,?_,hsp⟩,?_⟩
   ·simp only[JT];split<;>omega
   ·simp only[JT];split<;>omega
   ·simp only[Ap1];omega
  ·right;rw[ApV hg]at hsp;rw[ApU (by simp[hg])]at hb;exact⟨_,hb,.inr ⟨hsp,rfl⟩⟩
 ·right;have hkk:k=v.L.length:=by omega
  subst hkk;rw[Arh,Abr]at hsp;refine⟨.inl d,?_,.inl ⟨d,hsp,hd0,hd1,rfl⟩⟩;show Cg v rec_ d ((v.L.length:Nat):Int)=_;unfold Cg;rw[ApV (by simp)]
theorem YD : ∀ (n:Nat) (v:ApN),szV v<n→szV v≤1099511627776→Ej n v=some (PU v)
  |0,v,h,_=>absurd h (Aqy _)
  | n + 1,v,h,hs=>by
    show EV (Ej n) v=_;have hsz:=szV_eq v;obtain⟨x,hx,hq⟩:=Yi v (Ej n) (fun y hy=>YD n y (by have:=IZ hy;omega) (by have:=IZ hy;omega)) hs
    have hv:PU v=if v.Za=1 then(0,v.B.length==0&&v.L.length==0)else if v.Za=2 then(0,v.N==0&&v.L.length==0)else if v.Za=3 then(if v.N=0∧v.B.length=0 then SX 0 v.L else(0,false))else(0,false):=by
      cases v with
      |mk k n b l=>unfold PU;rfl
    rw[hv];unfold EV;by_cases h1:v.Za=1
    · rw[ApU (by simp[h1]),ApU h1]
      rw[AlV,AlV];by_cases hb:v.B.length=0
      · simp[hb]
      · have:(v.B.length==0)=false:=by simpa using hb
        simp[this]
    · rw[ApV (by simp[h1]),ApV h1]
      by_cases h2:v.Za=2
      · rw[ApU (by simp[h2]),ApU h2,AlV]
        by_cases hn:v.N=0
        · simp[hn]
        · simp[hn]
      · rw[ApV (by simp[h2]),ApV h2]
        by_cases h3:v.Za=3
        · rw[ApU (by simp[h3]),ApU h3]
          by_cases hn:v.N=0
          · by_cases hb:v.B.length=0
            · rw[ApU (show v.N=0∧v.B.length=0 from⟨hn,hb⟩)]
              have e1:(if(v.N != 0)then some true else some ((v.B.length:Int) != 0):Option Bool)=some false:=by simp[hn,hb]
              refine(B4 (a:=(.inr (SX 0 v.L):Unit⊕(Int×Bool))) ?_).trans rfl;refine(B4 e1).trans ?_;rw[ApV (by simp)];rcases hq with⟨d,e,h0,hd,rfl⟩|⟨e,rfl⟩
              · rw[hx,e]
                show some (Sum.inr (w64 (d+1),true))=_;rw[AH (by omega)]
              · rw[hx,e]
                rfl
            · rw[ApV (show ¬(v.N=0∧v.B.length=0)from fun h=>hb h.2)]
              have e1:(if(v.N != 0)then some true else some ((v.B.length:Int) != 0):Option Bool)=some true:=by
                rw[ApV (by simp[hn])];simp;intro e;apply hb;simp[e]
              refine(B4 (a:=(.inr (0,false):Unit⊕(Int×Bool))) ?_).trans rfl;exact(B4 e1).trans rfl
          · rw[ApV (show ¬(v.N=0∧v.B.length=0)from fun h=>hn h.1)]
            have e1:(if(v.N != 0)then some true else some ((v.B.length:Int) != 0):Option Bool)=some true:=by simp[hn]
            refine(B4 (a:=(.inr (0,false):Unit⊕(Int×Bool))) ?_).trans rfl;exact(B4 e1).trans rfl
        · rw[ApV (by simp[h3]),ApV h3]
          rfl
def Sm:List UInt8→List UInt8
 |[]=>[]
 |c::l=>if c=0 then 0::255::Sm l else c::Sm l
theorem AdE(a b:List UInt8):Sm (a++b)=Sm a++Sm b:=by
 induction a with
 |nil=>rfl
 |cons c a ih=>simp only[Aqh,Sm];split<;>simp[ih]
theorem QG(a:List UInt8):(Sm a).length≤2*a.length:=by
 induction a with
 |nil=>simp[Sm]
 |cons c a ih=>simp only[Sm];split<;>simp only[Aqg]<;>omega
mutual
def Abk:ApN→List UInt8
 |.mk k n b l=>if k=1 then Ahx n else if k=2 then 48::(Sm b++[0,0])else 64::(VT l++[0])
def VT:List ApN→List UInt8
 |[]=>[]
 |x::l=>Abk x++VT l
end
theorem Afi(v:ApN):Abk v=if v.Za=1 then Ahx v.N else if v.Za=2 then 48::(Sm v.B++[0,0])else 64::(VT v.L++[0]):=by
 cases v with
 |mk k n b l=>unfold Abk;rfl
theorem AdJ(a b:List ApN):VT (a++b)=VT a++VT b:=by
 induction a with
 |nil=>rfl
 |cons c a ih=>simp only[Aqh,VT,ih,AqU]
mutual
theorem encV_len:∀v:ApN,(Abk v).length≤9*szV v
  | .mk k n b l=>by
    have h:=Md l;have h1:=AdU n;have h2:=Ad6 n;have h3:=QG b;unfold Abk szV;split
    · omega
    · split
      · simp only[Aqg,Aqe,Aqr];omega
      · simp only[Aqg,Aqe,Aqr];omega
theorem Md:∀l:List ApN,(VT l).length≤9*szVs l
  |[]=>by simp[VT]
  | x::l=>by
    have h1:=encV_len x;have h2:=Md l;unfold VT szVs;simp only[Aqe];omega
end
theorem XV(v:ApN)(a:List UInt8)(ha:a.length+2*v.B.length≤100000000000000) :∃x,Ax (fun(s:Int×List UInt8)=>AX v s.1 s.2) (0,a)=some x∧x=a++Sm v.B:=by
 refine BA (f:=fun(s:Int×List UInt8)=>AX v s.1 s.2) v.B.length (fun k s=>s=((k:Int),a++Sm (v.B.take k))) _ (by omega) ?_ ?_ (by simp[Sm])
 ·intro k s hk hs;subst hs;have hx:v.B.take (k+1)=v.B.take k++[v.B[k]]:=by rw[Ar4,ApW hk];rfl
  have hn:nth v.B k=v.B[k]:=by simp[nth,Ap7,hk]
  have hl:=QG (v.B.take k);rw[Asl]at hl;refine⟨_,?_,rfl⟩;show AX v (k:Int) _=_;unfold AX;rw[ApU (by simp;omega),ApU (A4 hk),ApU (M3 (by simp only[Aqe];omega)),PZ (by omega)];simp only[Ap1,hn,lt1,hx,AdE];by_cases h0:v.B[k]=0
  ·rw[ApU (by simp[h0]),ApU (M3 (by simp only[Aqe,Aqg,Aqr];omega))];simp[Sm,h0]
  ·rw[ApV (by simp[h0])];simp[Sm,h0]
 ·intro s hs;subst hs;refine⟨_,?_,rfl⟩;show AX v ((v.B.length:Nat):Int) _=_;unfold AX;rw[ApV (by simp),AqT]
theorem Aan(v:ApN)(a:List UInt8)(rec_:List UInt8→ApN→Option (List UInt8))(hr:∀x∈v.L,∀b,b.length+9*szV x≤a.length+9*szVs v.L→rec_ b x=some (b++Abk x))(hs:szV v≤1099511627776) :∃x,Ax (fun(s:Int×List UInt8)=>AW v rec_ s.1 s.2) (0,a)=some x∧x=a++VT v.L:=by
  have hsz:=szV_eq v;have hlen:=Rp v.L;refine BA (f:=fun(s:Int×List UInt8)=>AW v rec_ s.1 s.2) v.L.length (fun k s=>s=((k:Int),a++VT (v.L.take k))) _ (by omega) ?_ ?_ (by simp[VT])
  · intro k s hk hs'
    subst hs';have hx:v.L.take (k+1)=v.L.take k++[v.L[k]]:=by rw[Ar4,ApW hk];rfl
    have hm:v.L[k]∈v.L:=AqL hk
    have hsp:szVs v.L=szVs (v.L.take k)+szVs (v.L.drop k):=by
      have key:∀a b:List ApN,szVs (a++b)=szVs a+szVs b:=by
        intro a b
        induction a with
        |nil=>simp[szVs]
        |cons y a ih=>simp only[Aqh,szVs,ih];omega
      rw[←key,Arl]
    rw[AqA hk]at hsp;simp only[szVs]at hsp;have hl:=Md (v.L.take k);refine⟨_,?_,rfl⟩;show AW v rec_ (k:Int) _=_;unfold AW;rw[ApU (by simp;omega),ApU (A4 hk),PZ (by omega)];simp only[Ap1,Gv hk,lt1,JU];refine(B4 (hr _ hm _ (by simp only[Aqe];omega))).trans ?_;rw[hx,AdJ];simp[VT]
  · intro s hs'
    subst hs';refine⟨_,?_,rfl⟩;show AW v rec_ ((v.L.length:Nat):Int) _=_;unfold AW;rw[ApV (by simp),AqT]
theorem VY:∀(n:Nat) (b:List UInt8) (v:ApN),szV v<n→b.length+9*szV v≤1099511627776→Ca n b v=some (b++Abk v)
  |0,b,v,h,_=>absurd h (Aqy _)
  | n + 1,b,v,h,hs=>by
    show CD (Ca n) b v=_;have hsz:=szV_eq v;rw[Afi];unfold CD;by_cases h1:v.Za=1
    · rw[ApU (by simp[h1]),ApU h1]
      rw[RP b v.N (by omega)];rfl
    · rw[ApV (by simp[h1]),ApV h1]
      by_cases h2:v.Za=2
      · rw[ApU (by simp[h2]),ApU h2]
        obtain⟨x,hx,rfl⟩:=XV v (b++[48]) (by simp only[Aqe,Aqg,Aqr];omega);have hl:=QG v.B;refine(B4 (a:=(.inr (b++48::(Sm v.B++[0,0])):Unit⊕List UInt8)) ?_).trans rfl;refine(ApU (M3 (by omega))).trans ?_;refine(Acl _ _ _ rfl).trans ?_;refine(B4 (B4 hx)).trans ?_;refine(ApU (M3 (by simp only[Aqe,Aqg,Aqr];omega))).trans ?_;simp[lt1]
      · rw[ApV (by simp[h2]),ApV h2]
        obtain⟨x,hx,rfl⟩:=Aan v (b++[64]) (Ca n) (fun y hy c hc=>VY n c y (by have:=IZ hy;omega) (by simp only[Aqe,Aqg,Aqr]at hc;omega)) (by omega);have hl:=Md v.L;refine(B4 (a:=(.inl ():Unit⊕List UInt8)) rfl).trans ?_;refine(ApU (M3 (by omega))).trans ?_;refine(Acl _ _ _ rfl).trans ?_;refine(B4 (B4 hx)).trans ?_;refine(ApU (M3 (by simp only[Aqe,Aqg,Aqr];omega))).trans ?_;simp[lt1]
def Enc(v:ApN):List UInt8×Int :=
 if(PU v).2=true then(if(PU v).1>16 then([],2)else if(Abk v).length>65536 then([],2)else(Abk v,0))else([],10)
theorem encode_eq(v:ApN)(h:szV v≤100000000000):EL v=some (Enc v):=by
 unfold EL JJ Fx Enc;refine(B4 (YD 18446744073709551616 v (by omega) (by omega))).trans ?_;by_cases h1:(PU v).2=true
 ·rw[ApV (by simp[h1]),ApU h1];by_cases h2:(PU v).1>16
  ·rw[ApU (by simpa using h2),ApU h2]
  ·rw[ApV (by simpa using h2),ApV h2];refine(B4 (VY 18446744073709551616 [] v (by omega) (by simp;omega))).trans ?_;by_cases h3:(Abk v).length>65536
   ·rw[ApU (by simp;omega),ApU h3]
   ·rw[ApV (by simp;omega),ApV h3];rfl
 ·rw[ApU (by simp[h1]),ApV h1]
variable{k:Nat}
def cmpI(a b:Int):Int:=if a<b then -1 else if b<a then 1 else 0
def cmpB:List UInt8→List UInt8→Int
 |[],[]=>0
 |[],_::_=>-1
 |_::_,[]=>1
 |x::l,y::m=>if x=y then cmpB l m else if x<y then -1 else 1
mutual
def cmpV:ApN→ApN→Int
 |.mk k n b l,w=>if k≠w.Za then cmpI k w.Za else if k=1 then cmpI n w.N else if k=2 then cmpB b w.B else if k=3 then cmpL l w.L else 0
def cmpL:List ApN→List ApN→Int
 |[],[]=>0
 |[],_::_=>-1
 |_::_,[]=>1
 |x::l,y::m=>if cmpV x y≠0 then cmpV x y else cmpL l m
end
theorem cmpV_eq(v w:ApN):cmpV v w=if v.Za≠w.Za then cmpI v.Za w.Za else if v.Za=1 then cmpI v.N w.N else if v.Za=2 then cmpB v.B w.B else if v.Za=3 then cmpL v.L w.L else 0:=by
 cases v with
 |mk k n b l=>rw[cmpV];rfl
theorem Qu{α:Type}[Inhabited α]{l:List α}(h:k<l.length):nth l k=l[k]:=by simp[nth,Ap7,h]
theorem Abc{a b:List UInt8}(ha:k<a.length)(hb:k<b.length):cmpB (a.drop k) (b.drop k)=if nth a k=nth b k then cmpB (a.drop (k+1)) (b.drop (k+1))else if nth a k<nth b k then -1 else 1:=by
 rw[AqA ha,AqA hb,Qu ha,Qu hb,cmpB]
theorem Adp{a b:List UInt8}(hk:k≤a.length)(hk':k≤b.length)(h:¬(k<a.length∧k<b.length)):cmpB (a.drop k) (b.drop k)=cmpI (a.length:Int) (b.length:Int):=by
 unfold cmpI;rcases Nat.lt_trichotomy a.length b.length with hl|hl|hl
 ·have hka:k=a.length:=by omega
  rw[ApU (by omega),hka,Arh,AqA (by omega)];rfl
 ·have hka:k=a.length:=by omega
  rw[ApV (by omega),ApV (by omega),hka,Arh,hl,Arh];rfl
 ·have hkb:k=b.length:=by omega
  rw[ApV (by omega),ApU (by omega),hkb,Arh,AqA (by omega)];rfl
theorem W4{l:List UInt8}{i:Nat}(h:i<l.length):(⟨l.toArray⟩:ByteArray)[i]! = nth l i:=by
 rw[Qu h];have h2:i<(⟨l.toArray⟩:ByteArray).size:=by simpa [ByteArray.size]using h
 rw[getElem!_pos (⟨l.toArray⟩:ByteArray) i h2];show l.toArray[i]=_;simp
theorem Wi(a b:List UInt8):∀(m k:Nat),k+m=min a.length b.length →(match(List.range' k m).find? fun i=>(⟨a.toArray⟩:ByteArray)[i]! != (⟨b.toArray⟩:ByteArray)[i]! with
      |some i=>if(⟨a.toArray⟩:ByteArray)[i]!<(⟨b.toArray⟩:ByteArray)[i]! then -1 else 1
      |none=>if(⟨a.toArray⟩:ByteArray).size<(⟨b.toArray⟩:ByteArray).size then(-1:Int)else if(⟨a.toArray⟩:ByteArray).size>(⟨b.toArray⟩:ByteArray).size then 1 else 0)=cmpB (a.drop k) (b.drop k)
  | 0,k,h=>by
    rw[List.range'_zero,List.find?_nil,Adp (by omega) (by omega) (by omega)];have e:∀l:List UInt8,(⟨l.toArray⟩:ByteArray).size=l.length:=fun l=>by simp[ByteArray.size]
    simp only[e,cmpI,Int.ofNat_lt,Asi]
  | m + 1,k,h=>by
    have ha:k<a.length:=by omega
    have hb:k<b.length:=by omega
    rw[List.range'_succ,AsW,Abc ha hb,W4 ha,W4 hb];by_cases he:nth a k=nth b k
    · have:(nth a k != nth b k)=false:=by simp[he]
      rw[this,ApU he];exact Wi a b m (k+1) (by omega)
    · have:(nth a k != nth b k)=true:=by simp[he]
      rw[this,ApV he];show(if(⟨a.toArray⟩:ByteArray)[k]!<(⟨b.toArray⟩:ByteArray)[k]! then(-1:Int)else 1)=_;rw[W4 ha,W4 hb]
theorem Ua(a b:List UInt8):Mm a b=cmpB a b:=by
 have h:=Wi a b (min a.length b.length) 0 (by omega);rw[←AqZ]at h;unfold Mm Extern.BytealgCompare.cmp;have e:∀l:List UInt8,(⟨l.toArray⟩:ByteArray).size=l.length:=fun l=>by simp[ByteArray.size]
 rw[e,e];rw[e,e]at h;exact h
theorem MY(a b:List UInt8):Ff a b=some (cmpB a b):=by
 unfold Ff Gq OQ;rw[Ua];rfl
theorem Sl(a b:Int):Df a b=some (cmpI a b):=by
 unfold Df EN cmpI;by_cases h:a<b
 ·simp[h]
 ·by_cases h2:b<a<;>simp[h,h2]
theorem YQ{a b:List ApN}(ha:k<a.length)(hb:k<b.length):cmpL (a.drop k) (b.drop k)=if cmpV (nth a k) (nth b k)≠0 then cmpV (nth a k) (nth b k)else cmpL (a.drop (k+1)) (b.drop (k+1)):=by
 rw[AqA ha,AqA hb,Qu ha,Qu hb,cmpL]
theorem VU{a b:List ApN}(hk:k≤a.length)(hk':k≤b.length)(h:¬(k<a.length∧k<b.length)):cmpL (a.drop k) (b.drop k)=cmpI (a.length:Int) (b.length:Int):=by
 unfold cmpI;rcases Nat.lt_trichotomy a.length b.length with hl|hl|hl
 ·have hka:k=a.length:=by omega
  rw[ApU (by omega),hka,Arh,AqA (by omega),cmpL]
 ·have hka:k=a.length:=by omega
  rw[ApV (by omega),ApV (by omega),hka,Arh,hl,Arh,cmpL]
 ·have hkb:k=b.length:=by omega
  rw[ApV (by omega),ApU (by omega),hkb,Arh,AqA (by omega),cmpL]
theorem PL(a b:List ApN)(f:ApN→ApN→Option Int)(hf:∀x∈a,∀y,f x y=some (cmpV x y))(ha:a.length≤9223372036854775807):BX f a b f=some (cmpL a b):=by
 have key:∃x,Ax (fun(v:Int)=>Bl a b f v) 0=some x∧((x=.inl ()∧a.length≤b.length∧cmpL a b=cmpI (a.length:Int) (b.length:Int))∨(x=.inr (.inr (cmpL a b)))):=by
  refine BR (f:=fun(v:Int)=>Bl a b f v) (fun i=>∃k:Nat,i=(k:Int)∧k≤a.length∧k≤b.length∧cmpL a b=cmpL (a.drop k) (b.drop k)) (fun i=>a.length-i.toNat) _ ?_ ⟨0,rfl,by simp,by simp,rfl⟩ (by omega);rintro _ ⟨k,rfl,hka,hkb,he⟩;show _∨_;unfold Bl;by_cases h1:k<a.length
  ·have r1:InR (k:Int) a.length:=⟨by omega,by omega⟩;rw[ApU (by simp;omega),ApU r1];simp only[lt1,Ap1];by_cases h2:k<b.length
   ·have r2:InR (k:Int) b.length:=⟨by omega,by omega⟩;rw[ApV (by simp;omega),ApU r2];rw[JU,JU,hf _ (by rw[Qu h1];exact AqL h1)];rw[YQ h1 h2]at he;by_cases hz:cmpV (nth a k) (nth b k)=0
    ·left;rw[ApV (by simpa using hz)]at he;refine⟨_,(B4 rfl).trans ?_,⟨k+1,rfl,by omega,by omega,he⟩,?_⟩
     ·rw[ApV (by simp[hz]),PZ (by omega)]
     ·simp only[Ap1];omega
    ·right;rw[ApU hz]at he;refine⟨_,(B4 rfl).trans ?_,.inr rfl⟩;rw[ApU (by simpa using hz),he];rfl
   ·right;rw[ApU (by simp;omega)];refine⟨_,rfl,.inr ?_⟩;rw[he,VU hka hkb (by omega)];unfold cmpI;rw[ApV (by omega),ApU (by omega)]
  ·right;rw[ApV (by simp;omega)];exact⟨_,rfl,.inl ⟨rfl,by omega,by rw[he];exact VU hka hkb (by omega)⟩⟩
 obtain⟨x,hx,hq⟩:=key;unfold BX;rcases hq with⟨rfl,hl,he⟩|rfl
 ·refine(B4 (a:=.inl ()) ((B4 hx).trans rfl)).trans ?_;rw[he];unfold cmpI;by_cases h:(a.length:Int)<(b.length:Int)
  ·simp[h]
  ·have:¬(b.length:Int)<(a.length:Int):=by omega
   simp[h,this]
 ·exact(B4 (a:=.inr (cmpL a b)) ((B4 hx).trans rfl)).trans rfl
theorem Sv:∀(n:Nat) (a b:ApN),szV a<n→szV a≤1099511627776→DJ n a b=some (cmpV a b)
  |0,a,b,h,_=>absurd h (Aqy _)
  | n + 1,a,b,h,hs=>by
    show DD (DJ n) a b=_;have hsz:=szV_eq a;have hlen:=Rp a.L;unfold DD;rw[cmpV_eq];refine(B4 (Sl _ _)).trans ?_;by_cases hk:a.Za=b.Za
    · have hz:cmpI a.Za b.Za=0:=by unfold cmpI;simp[hk]
      rw[ApV (show ¬(cmpI a.Za b.Za != 0)=true by simp[hz]),ApV (show ¬(a.Za≠b.Za) by simpa using hk)];by_cases h1:a.Za=1
      · rw[ApU (show(a.Za==1)=true by simp[h1]),ApU h1];exact B4 (Sl _ _)
      · rw[ApV (show ¬(a.Za==1)=true by simp[h1]),ApV h1]
        by_cases h2:a.Za=2
        · rw[ApU (show(a.Za==2)=true by simp[h2]),ApU h2];exact B4 (MY _ _)
        · rw[ApV (show ¬(a.Za==2)=true by simp[h2]),ApV h2]
          by_cases h3:a.Za=3
          · rw[ApU (show(a.Za==3)=true by simp[h3]),ApU h3]
            exact B4 (PL _ _ _ (fun x hx y=>Sv n x y (by have:=IZ hx;omega) (by have:=IZ hx;omega)) (by omega))
          · rw[ApV (show ¬(a.Za==3)=true by simp[h3]),ApV h3]
    · have hz:cmpI a.Za b.Za≠0:=by
        unfold cmpI;rcases Int.lt_trichotomy a.Za b.Za with h|h|h
        · rw[ApU h];decide
        · exact(hk h).elim
        · rw[ApV (by omega),ApU h];decide
      rw[ApU (show(cmpI a.Za b.Za != 0)=true by simpa using hz),ApU (show a.Za≠b.Za from hk)]
theorem compare_eq(a b:ApN)(h:szV a≤100000000000):FZ a b=some (cmpV a b):=Sv _ a b (by omega) (by omega)
theorem cmpI_zero{a b:Int}:cmpI a b=0↔a=b:=by
 unfold cmpI;by_cases h:a<b
 ·rw[ApU h];constructor
  ·intro h;cases h
  ·intro h;omega
 ·rw[ApV h];by_cases h2:b<a
  ·rw[ApU h2];constructor
   ·intro h;cases h
   ·intro h;omega
  ·rw[ApV h2];constructor<;>intros<;>omega
end Go.Proofs.YtioapcamanmoiaaGreatDoor.Kc
namespace Go.Proofs.YtioapcamanmoiaaGreatDoor
open Go.Rv
set_option linter.unusedVariables false
set_option linter.unusedSimpArgs false
set_option maxRecDepth 100000
variable{r:ApK}
theorem WR{n:Nat}(h:n≤2100000):Dt n 64:=⟨ArD h (by decide),ArD (Ap3 64 h) (by decide)⟩
def iV(n:Int):ApN:=ApN.mk 1 n [] []
def tV(s:List UInt8):ApN:=ApN.mk 2 0 s []
def lV(l:List ApN):ApN:=ApN.mk 3 0 [] l
def MX(x:ApH):ApN:=lV [iV x.Za,iV x.Zl1,iV (if x.Zm1=true then 1 else 0)]
def Agn(it:ApI):List ApN:=[iV it.Za,lV [iV it.Ref.Zb,iV it.Ref.No],iV it.Zn1,iV it.Zb1,iV it.Zc,iV it.Zo1,iV it.Zw,iV it.To,iV it.Code,iV it.Zp1,iV it.Zq1,iV it.Zr1,iV it.Zs1]
def val(it:ApI):ApN:=lV (Agn it++[tV it.Zt1,lV (it.Zu1.map MX)])
theorem map_take{α β:Type}[Inhabited α](f:α→β)(l:List α)(k:Nat)(hk:k<l.length):(l.take (k+1)).map f=(l.take k).map f++[f (nth l k)]:=by
 have h:l.take (k+1)=l.take k++[nth l k]:=by
  rw[Ar4,ApW hk];simp[nth,ApW hk]
 rw[h];simp
theorem AfA{it:ApI}(hp:it.Zu1.length≤2000000):Ax (fun(v:Int×List ApN)=>DN it v.1 v.2) (0,[])=some (it.Zu1.map MX):=by
 obtain⟨x,hx,rfl⟩:=BA (f:=fun(v:Int×List ApN)=>DN it v.1 v.2) it.Zu1.length (fun k v=>v=((k:Int),(it.Zu1.take k).map MX)) (fun x=>x=it.Zu1.map MX) (by omega) (by
  rintro k v hk rfl;refine⟨_,?_,rfl⟩;have hin:InR (k:Int) it.Zu1.length:=⟨by omega,by simpa using hk⟩;unfold DN;rw[ApU (Aqf (by omega)),ApU hin,CF (by omega),map_take _ _ k hk];simp only[Ap1,AJ];have e:(if(nth it.Zu1 k).Zm1=true then some 1 else some 0:Option Int)=some (if(nth it.Zu1 k).Zm1=true then 1 else 0):=by split<;>rfl
  rw[e];simp only[ApX,AR,Ek];rw[ApU (WR (by simp;omega))];rfl) (by
  rintro v rfl;refine⟨_,?_,rfl⟩;unfold DN;rw[ApV (by simp)];simp) (v0:=(0,[])) (by simp)
 exact hx
theorem Ry{it:ApI}(hp:it.Zu1.length≤2000000):G2 it=some (val it):=by
 unfold G2;simp only[ApX,AR,Ek,GN,edi_list_cnil,Mi,AJ,AfA hp]
 repeat rw[ApU (WR (by simp))]
 simp only[ApX];rw[ApU (WR (by simp))];rfl
def AbE(n:UInt64)(k:Nat):UInt8:=(CM n (56-8*k)).toUInt8
def RN(n:UInt64):List UInt8:=(List.range 8).map (AbE n)
def Aaw(n:UInt64)(k:Nat):List UInt8:=(List.range 8).map fun j=>if j<k then AbE n j else 0
theorem AaI(n:UInt64):∀{k:Nat},k<8→(Aaw n k).set k (AbE n k)=Aaw n (k+1)
 |0,_=>rfl
 |1,_=>rfl
 |2,_=>rfl
 |3,_=>rfl
 |4,_=>rfl
 |5,_=>rfl
 |6,_=>rfl
 |7,_=>rfl
 |k+8,h=>by omega
theorem AaQ(n:UInt64):H6 n=some (tV (RN n)):=by
 have h:Ax (fun(v:Int×List UInt8)=>DO n (List.replicate 8 (0:UInt8)) v.1 v.2) (0,List.replicate 8 (0:UInt8))=some (RN n):=by
  refine AbL 8 (fun(v:Int×List UInt8)=>DO n (List.replicate 8 (0:UInt8)) v.1 v.2) (fun k s=>(k,s)) (Aaw n) id (by omega) (fun k hk=>?_) ?_
  ·have e1:w64 (56-w64 (8*(k:Int)))=((56-8*k:Nat):Int):=by rw[AH (x:=8*(k:Int)) (by omega),AH (by omega)];omega
   simp only;unfold DO;rw[ApU (Aqf (by simp;omega)),e1,ApU (by unfold DV;omega),ApU (show InR (k:Int) (Aaw n k).length from A4 (by simpa [Aaw]using hk))];simp only[AJ,Ap1];rw[CF (by omega),show(CM n (56-8*k)).toUInt8=AbE n k from rfl,AaI n hk]
  ·simp only;unfold DO;rw[ApV (by simp)];rfl
 unfold H6;rw[ApU (by unfold Mk maxLen GT;omega)];simp only[AJ];rw[h];rfl
def Na(r:ApK):List ApN:=[iV r.Zb,iV r.No,tV r.Zv1.l,iV r.Zw1,val r.Zx1]
def YW(r:ApK):ApN:=lV (Na r++[lV [tV (RN r.Sig.C),tV (RN r.Sig.S)]])
theorem N6(hp:r.Zx1.Zu1.length≤2000000):Eo r=some (Na r):=by
 unfold Eo;rw[Ry hp];rfl
theorem Y6(n:Int):Kc.szV (iV n)=1:=by rw[Kc.szV_eq];rfl
theorem Kg:Kc.szVs []=0:=rfl
theorem ET(x:ApN)(l:List ApN):Kc.szVs (x::l)=Kc.szV x+Kc.szVs l:=rfl
theorem VV(a b:List ApN):Kc.szVs (a++b)=Kc.szVs a+Kc.szVs b:=by
 induction a with
 |nil=>rw[AqP,Kg];omega
 |cons x a ih=>rw[Aqh,ET,ET,ih];omega
theorem AeT(s:List UInt8):Kc.szV (tV s)=s.length+1:=by rw[Kc.szV_eq];rfl
theorem U2(l:List ApN):Kc.szV (lV l)=1+Kc.szVs l:=by rw[Kc.szV_eq];show 0+1+Kc.szVs l=_;omega
theorem Aba(l:List ApH):Kc.szVs (l.map MX)=4*l.length:=by
  induction l with
  |nil=>rfl
  | cons x l ih=>
    rw[Aru,ET,ih];unfold MX;rw[U2,ET,ET,ET,Kg,Y6,Y6,Y6,Aqg];omega
theorem Z8(it:ApI):Kc.szV (val it)=18+it.Zt1.length+4*it.Zu1.length:=by
 unfold val Agn;rw[U2,VV];simp only[ET,Kg,Y6,U2,AeT,Aba];omega
theorem WV(r:ApK):Kc.szV (lV (Na r))=55+r.Zx1.Zt1.length+4*r.Zx1.Zu1.length:=by
 unfold Na;rw[U2];simp only[ET,Kg,Y6,AeT,Z8,r.Zv1.h];omega
theorem YZ(r:ApK):Kc.szV (YW r)=74+r.Zx1.Zt1.length+4*r.Zx1.Zu1.length:=by
 have h:=WV r;rw[U2]at h;have hw:∀n,(RN n).length=8:=fun n=>by simp[RN]
 unfold YW;rw[U2,VV];simp only[ET,Kg,U2,AeT,hw];omega
theorem Aab(h:Small r.Zx1):Gm r=some (Kc.Enc (lV (Na r))):=by
 have h1:=h.text;have h2:=h.parts;unfold Gm;rw[N6 (by omega),ApX];show(some (lV (Na r))).bind _=_;rw[ApX,Kc.encode_eq _ (by rw[WV];omega)];rfl
theorem Xn(h:Small r.Zx1):Gs r=some (Kc.Enc (YW r)):=by
 have h1:=h.text;have h2:=h.parts;unfold Gs;rw[N6 (by omega),ApX,AaQ,ApX,AaQ,ApX];show(some (lV [tV (RN r.Sig.C),tV (RN r.Sig.S)])).bind _=_;rw[ApX,ApU (WR (by simp[Na]))];show(some (YW r)).bind _=_;rw[ApX,Kc.encode_eq _ (by rw[YZ];omega)];rfl
theorem Af7(v:ApN):(Kc.Enc v).1.length≤9*Kc.szV v:=by
 unfold Kc.Enc
 repeat' split
 all_goals first|exact Kc.encV_len v|simp
theorem V4(h:Small r.Zx1):∃d,DQ r=some d∧((Kc.Enc (YW r)).2≠0→d.2=(Kc.Enc (YW r)).2)∧((Kc.Enc (YW r)).2=0→d.2=0∧CL [114,101,99,111,114,100] (Kc.Enc (YW r)).1=some d.1):=by
 have h1:=h.text;have h2:=h.parts;have h3:=Af7 (YW r);rw[YZ]at h3;unfold DQ;rw[Xn h,ApX];by_cases he:(Kc.Enc (YW r)).2=0
 ·rw[ApV (by simpa using he)];obtain⟨d,hd⟩:=Ql [114,101,99,111,114,100] (Kc.Enc (YW r)).1 (by simp) (by omega);rw[hd];exact⟨_,rfl,fun h=>absurd he h,fun _=>⟨rfl,rfl⟩⟩
 ·rw[ApU (by simpa using he)];exact⟨_,rfl,fun _=>rfl,fun h=>absurd h he⟩
set_option maxRecDepth 8000
theorem z_i{x y:Int}:Kc.cmpV (iV x) (iV y)=0↔x=y:=by
 rw[Kc.cmpV_eq];show(if(1:Int)≠1 then _ else if(1:Int)=1 then Kc.cmpI x y else _)=0↔_;rw[ApV (by simp),ApU rfl,Kc.cmpI_zero]
theorem z_b:∀{a b:List UInt8},Kc.cmpB a b=0↔a=b
  |[],[]=>by simp[Kc.cmpB]
  |[],_::_=>by simp[Kc.cmpB]
  |_::_,[]=>by simp[Kc.cmpB]
  | x :: l,y::m=>by
    unfold Kc.cmpB;by_cases h:x=y
    · rw[ApU h,z_b (a:=l) (b:=m),h];simp
    · rw[ApV h]
      split<;>simp[h]
theorem z_t{a b:List UInt8}:Kc.cmpV (tV a) (tV b)=0↔a=b:=by
 rw[Kc.cmpV_eq];show(if(2:Int)≠2 then _ else if(2:Int)=1 then _ else if(2:Int)=2 then Kc.cmpB a b else _)=0↔_;rw[ApV (by simp),ApV (by decide),ApU rfl,z_b]
theorem c_l{a b:List ApN}:Kc.cmpV (lV a) (lV b)=Kc.cmpL a b:=by
 rw[Kc.cmpV_eq];show(if(3:Int)≠3 then _ else if(3:Int)=1 then _ else if(3:Int)=2 then _ else if(3:Int)=3 then Kc.cmpL a b else _)=_;rw[ApV (by simp),ApV (by decide),ApV (by decide),ApU rfl]
theorem z_c{x y:ApN}{l m:List ApN}:Kc.cmpL (x::l) (y::m)=0↔Kc.cmpV x y=0∧Kc.cmpL l m=0:=by
 rw[Kc.cmpL];by_cases h:Kc.cmpV x y=0
 ·rw[ApV (by simpa using h)];simp[h]
 ·rw[ApU h];simp[h]
theorem z_n:Kc.cmpL [] []=0:=by rw[Kc.cmpL]
theorem z_p{x y:ApH}:Kc.cmpV (MX x) (MX y)=0↔x=y:=by
 unfold MX;rw[c_l,z_c,z_c,z_c,z_i,z_i,z_i];rcases x with⟨a,b,c⟩
 rcases y with⟨d,e,f⟩
 simp only[z_n,Ash,ApH.mk.injEq];cases c<;>cases f<;>simp
theorem z_ps:∀{l m:List ApH},Kc.cmpL (l.map MX) (m.map MX)=0↔l=m
 |[],[]=>by simp[z_n]
 |[],y::m=>by rw[AsX,Aru,Kc.cmpL];simp
 |x::l,[]=>by rw[AsX,Aru,Kc.cmpL];simp
 |x::l,y::m=>by rw[Aru,Aru,z_c,z_p,z_ps];simp
theorem z_val{a b:ApI}:Kc.cmpV (val a) (val b)=0↔a=b:=by
 unfold val Agn;simp only[c_l,Aqh,AqP,z_c,z_i,z_t,z_ps,z_n,Ash];rcases a with⟨k,⟨r,n⟩,a1,a2,a3,a4,a5,a6,a7,a8,a9,a10,a11,t,p⟩
 rcases b with⟨k',⟨r',n'⟩,b1,b2,b3,b4,b5,b6,b7,b8,b9,b10,b11,t',p'⟩
 simp only[ApI.mk.injEq,ApG.mk.injEq]
theorem Agg{a b:ApK}(ha:Small a.Zx1)(hb:Small b.Zx1):H5 a b=some (decide (a=b)):=by
 have hz:FZ (val a.Zx1) (val b.Zx1)=some (Kc.cmpV (val a.Zx1) (val b.Zx1)):=Kc.compare_eq _ _ (by rw[Z8];have:=ha.text;have:=ha.parts;omega);unfold H5;by_cases h1:a.Zb=b.Zb
 case neg=>rw[ApV (by simpa using h1),Aqs (fun h=>h1 (by rw[h]))];rfl
 by_cases h2:a.No=b.No
 case neg=>rw[ApU (by simpa using h1),ApV (by simpa using h2),Aqs (fun h=>h2 (by rw[h]))];rfl
 by_cases h3:a.Zv1=b.Zv1
 case neg=>rw[ApU (by simpa using h1),ApU (by simpa using h2),ApV (by simpa using h3),Aqs (fun h=>h3 (by rw[h]))];rfl
 by_cases h4:a.Zw1=b.Zw1
 case neg=>rw[ApU (by simpa using h1),ApU (by simpa using h2),ApU (by simpa using h3),ApV (by simpa using h4),Aqs (fun h=>h4 (by rw[h]))];rfl
 rw[ApU (by simpa using h1),ApU (by simpa using h2),ApU (by simpa using h3),ApU (by simpa using h4),ApX];by_cases h5:((a.Sig.C==b.Sig.C)&&(a.Sig.S==b.Sig.S))=true
 case neg=>
  rw[ApV h5,Aqs (fun h=>h5 (by rw[h];simp))];rfl
 rw[ApU h5,Ry (by have:=ha.parts;omega),ApX,Ry (by have:=hb.parts;omega),ApX,hz];simp only[ApX];simp only[Ap9,AqV]at h5;by_cases h6:a.Zx1=b.Zx1
 ·rw[Aqf (Aar h1 h2 h3 h4 h5.1 h5.2 h6),h6,z_val.2 rfl];rfl
 ·rw[Aqs (fun h=>h6 (by rw[h]))];congr 1;simp only[ArP,ne_eq];exact fun h=>h6 (z_val.1 h)
def Jl(r:ApK)(f:ApL):Bool:=(f.A.Zb==r.Zb)&&(f.A.No==r.No)
theorem acc1(f:ApL)(r:ApK):Fk f r=some (Jl r f,r):=by
 unfold Fk Jl;by_cases h:f.A.Zb=r.Zb<;>simp[h]
theorem Vu(l:List ApL)(r:ApK)(hl:l.length≤1000000):Bh l r=some (l.any (Jl r),r):=by
 unfold Bh BV;generalize hF:(fun(v:Int×Int×Int×Arr UInt8 32×Int×Int×Int×Int×Int×Int×Int×Int×Int×Int×Int×Int×Int×Int×Int×List UInt8×List ApH×UInt64×UInt64)=>AL l v.1 v.2.1 v.2.2.1 v.2.2.2.1 v.2.2.2.2.1 v.2.2.2.2.2.1 v.2.2.2.2.2.2.1 v.2.2.2.2.2.2.2.1 v.2.2.2.2.2.2.2.2.1 v.2.2.2.2.2.2.2.2.2.1 v.2.2.2.2.2.2.2.2.2.2.1 v.2.2.2.2.2.2.2.2.2.2.2.1 v.2.2.2.2.2.2.2.2.2.2.2.2.1 v.2.2.2.2.2.2.2.2.2.2.2.2.2.1 v.2.2.2.2.2.2.2.2.2.2.2.2.2.2.1 v.2.2.2.2.2.2.2.2.2.2.2.2.2.2.2.1 v.2.2.2.2.2.2.2.2.2.2.2.2.2.2.2.2.1 v.2.2.2.2.2.2.2.2.2.2.2.2.2.2.2.2.2.1 v.2.2.2.2.2.2.2.2.2.2.2.2.2.2.2.2.2.2.1 v.2.2.2.2.2.2.2.2.2.2.2.2.2.2.2.2.2.2.2.1 v.2.2.2.2.2.2.2.2.2.2.2.2.2.2.2.2.2.2.2.2.1 v.2.2.2.2.2.2.2.2.2.2.2.2.2.2.2.2.2.2.2.2.2.1 v.2.2.2.2.2.2.2.2.2.2.2.2.2.2.2.2.2.2.2.2.2.2)=F
 have hs:∀k:Nat,F ((k:Int),r.Zb,r.No,r.Zv1,r.Zw1,r.Zx1.Za,r.Zx1.Ref.Zb,r.Zx1.Ref.No,r.Zx1.Zn1,r.Zx1.Zb1,r.Zx1.Zc,r.Zx1.Zo1,r.Zx1.Zw,r.Zx1.To,r.Zx1.Code,r.Zx1.Zp1,r.Zx1.Zq1,r.Zx1.Zr1,r.Zx1.Zs1,r.Zx1.Zt1,r.Zx1.Zu1,r.Sig.C,r.Sig.S)=
   AL l (k:Int) r.Zb r.No r.Zv1 r.Zw1 r.Zx1.Za r.Zx1.Ref.Zb r.Zx1.Ref.No r.Zx1.Zn1 r.Zx1.Zb1 r.Zx1.Zc r.Zx1.Zo1 r.Zx1.Zw r.Zx1.To r.Zx1.Code r.Zx1.Zp1 r.Zx1.Zq1 r.Zx1.Zr1 r.Zx1.Zs1 r.Zx1.Zt1 r.Zx1.Zu1 r.Sig.C r.Sig.S:=fun k=>by rw[←hF]
 have hlp:=BR (f:=F) (fun v=>∃k:Nat,k≤l.length∧(l.take k).any (Jl r)=false∧v=((k:Int),r.Zb,r.No,r.Zv1,r.Zw1,r.Zx1.Za,r.Zx1.Ref.Zb,r.Zx1.Ref.No,r.Zx1.Zn1,r.Zx1.Zb1,r.Zx1.Zc,r.Zx1.Zo1,r.Zx1.Zw,r.Zx1.To,r.Zx1.Code,r.Zx1.Zp1,r.Zx1.Zq1,r.Zx1.Zr1,r.Zx1.Zs1,r.Zx1.Zt1,r.Zx1.Zu1,r.Sig.C,r.Sig.S)) (fun v=>(l.length-v.1).toNat)
  (fun x=>(l.any (Jl r)=false∧x=.inl (r.Zb,r.No,r.Zv1,r.Zw1,r.Zx1.Za,r.Zx1.Ref.Zb,r.Zx1.Ref.No,r.Zx1.Zn1,r.Zx1.Zb1,r.Zx1.Zc,r.Zx1.Zo1,r.Zx1.Zw,r.Zx1.To,r.Zx1.Code,r.Zx1.Zp1,r.Zx1.Zq1,r.Zx1.Zr1,r.Zx1.Zs1,r.Zx1.Zt1,r.Zx1.Zu1,r.Sig.C,r.Sig.S))∨(l.any (Jl r)=true∧∃k:Nat,x=.inr (.inr ((k:Int),r)))) ?_ ⟨0,by omega,rfl,rfl⟩ (by simp;omega)
 ·obtain⟨x,hx,hq⟩:=hlp;show((((Ax F ((0:Int),r.Zb,r.No,r.Zv1,r.Zw1,r.Zx1.Za,r.Zx1.Ref.Zb,r.Zx1.Ref.No,r.Zx1.Zn1,r.Zx1.Zb1,r.Zx1.Zc,r.Zx1.Zo1,r.Zx1.Zw,r.Zx1.To,r.Zx1.Code,r.Zx1.Zp1,r.Zx1.Zq1,r.Zx1.Zr1,r.Zx1.Zs1,r.Zx1.Zt1,r.Zx1.Zu1,r.Sig.C,r.Sig.S)).bind _).bind _).bind _)=_;rw[show Ax F ((0:Int),r.Zb,r.No,r.Zv1,r.Zw1,r.Zx1.Za,r.Zx1.Ref.Zb,r.Zx1.Ref.No,r.Zx1.Zn1,r.Zx1.Zb1,r.Zx1.Zc,r.Zx1.Zo1,r.Zx1.Zw,r.Zx1.To,r.Zx1.Code,r.Zx1.Zp1,r.Zx1.Zq1,r.Zx1.Zr1,r.Zx1.Zs1,r.Zx1.Zt1,r.Zx1.Zu1,r.Sig.C,r.Sig.S)=some x from hx];rcases hq with⟨h1,rfl⟩|⟨h1,k,rfl⟩
  ·rw[h1];rfl
  ·rw[h1];simp only[ApX];rw[Aqf (by omega)]
 ·rintro v ⟨k,hk,ht,rfl⟩;rw[hs];unfold AL;by_cases h1:k<l.length
  ·rw[ApU (Aqf (by omega)),ApU (A4 h1)];simp only[Ap1];rw[acc1,ApX];show(∃v',(if Jl r (nth l k)=true then _ else _)=_∧_)∨_;have hn:nth l k=l[k]:=by simp[nth,h1]
   by_cases h2:Jl r (nth l k)=true
   ·right;refine⟨_,by rw[ApU h2];rfl,.inr ⟨?_,k,rfl⟩⟩;rw[List.any_eq_true];exact⟨_,Gv h1,h2⟩
   ·left;refine⟨_,by rw[ApV h2],⟨k+1,by omega,?_,by rw[CF (by omega)]⟩,?_⟩
    ·rw[AqJ h1,List.any_append,ht,←hn];simpa using h2
    ·show((l.length:Int)-w64 ((k:Int)+1)).toNat<((l.length:Int)-(k:Int)).toNat;rw[CF (by omega)];omega
  ·have:k=l.length:=by omega
   subst this;rw[AqT]at ht;right;exact⟨_,by rw[ApV (by simp)],.inl ⟨ht,rfl⟩⟩
variable{r:ApK}
structure SingleOk(p:ApF)(r:ApK):Prop where
  pool:B5 p=some 0
  rail:0≤r.Zb∧r.Zb<(p.Zk1.length:Int)
  no:1≤r.No∧r.No≤4096
  time:0≤r.Zw1∧r.Zw1≤1073741824
  item:Gt p r.Zx1=some 0
  body:(Kc.Enc (lV (Na r))).2=0
  ver:E5 (nth p.Zk1 r.Zb.toNat).Key (Kc.Enc (lV (Na r))).1 r.Sig=some true
theorem VH{p:ApF}(h:Few p)(hs:Small r.Zx1):∃e,E8 p r=some e∧(e=0→SingleOk p r):=by
 obtain⟨f,hf,hc⟩:=XW h;obtain⟨u,hi⟩:=hc r.Zx1 (by have:=hs.parts;omega);unfold E8;rw[hf,ApX];by_cases h0:(f != 0)=true
 ·rw[ApU h0];exact⟨f,rfl,fun e=>by subst e;exact absurd h0 (by decide)⟩
 rw[ApV h0];have f0:f=0:=by simpa using h0
 simp only[I7,Ay];split
 ·exact⟨_,rfl,fun e=>absurd e (by decide)⟩
 rename_i h1;simp only[AqD,not_or,Aqd]at h1;obtain⟨a1,a2,a3,a4,a5,a6,a7⟩:=h1;rw[hi,ApX];by_cases h2:(u != 0)=true
 ·rw[ApU h2];exact⟨_,rfl,fun e=>by rw[e]at h2;exact absurd h2 (by decide)⟩
 rw[ApV h2,Aab hs,ApX];by_cases h3:((Kc.Enc (lV (Na r))).2 != 0)=true
 ·rw[ApU h3];exact⟨_,rfl,fun e=>by rw[e]at h3;exact absurd h3 (by decide)⟩
 rw[ApV h3,ApU (show InR r.Zb p.Zk1.length from⟨by omega,by omega⟩)];obtain⟨b,hb⟩:=V5 (nth p.Zk1 r.Zb.toNat).Key (Kc.Enc (lV (Na r))).1 r.Sig;rw[hb,ApX];cases b
 ·exact⟨31,rfl,fun e=>absurd e (by decide)⟩
 ·refine⟨0,rfl,fun _=>⟨by rw[hf,f0],⟨by omega,by omega⟩,⟨by omega,by omega⟩,⟨by omega,by omega⟩,?_,by simpa using h3,hb⟩⟩;rw[hi];congr 1;simpa using h2
def XP(r:ApG):Bool:=(r.Zb==0)&&(r.No==0)
structure FollowsOk(l:List ApK)(r:ApK):Prop where
  no:r.No≤(l.length:Int)+1
  prev:1<r.No→DQ (nth l (r.No-2).toNat)=some (r.Zv1,0)∧(nth l (r.No-2).toNat).Zw1≤r.Zw1
  first:¬1<r.No→r.Zv1=Arr.rep 32 (0:UInt8)
  ref:XP r.Zx1.Ref=true∨(r.Zx1.Ref.Zb=r.Zb∧1≤r.Zx1.Ref.No∧r.Zx1.Ref.No<r.No∧XP (nth l (r.Zx1.Ref.No-1).toNat).Zx1.Ref=true)
theorem XF(h:Small r.Zx1):∃d,DQ r=some d:=by
 obtain⟨d,h1,_⟩:=V4 h;exact⟨d,h1⟩
theorem Ti{l:List ApK}(hl:l.length≤10000)(hs:∀x∈l,Small x.Zx1)(hn:1≤r.No):∃e,EJ l r=some e∧(e=0↔FollowsOk l r):=by
 have w1:w64 ((l.length:Int)+1)=(l.length:Int)+1:=AH (by omega);unfold EJ;rw[w1];by_cases h1:r.No>(l.length:Int)+1
 ·rw[ApU (Aqf h1)];exact⟨140,rfl,⟨fun e=>absurd e (by decide),fun h=>by have:=h.no;omega⟩⟩
 rw[ApV (by simpa using h1)];have w2:w64 (r.No-2)=r.No-2:=AH (by omega)
 have tail:∀d:Arr UInt8 32,∃e,(if(!(d==r.Zv1))then some 140 else
    (if (!((r.Zx1.Ref.Zb==0)&&(r.Zx1.Ref.No==0)))then
     if(r.Zx1.Ref.Zb != r.Zb)then some true
     else
      if(decide (r.Zx1.Ref.No<1))then some true
      else
       if(decide (r.Zx1.Ref.No≥r.No))then some true
       else
        if InR ((w64 (r.Zx1.Ref.No-1))) l.length then
         some ((!(((((nth l (((w64 (r.Zx1.Ref.No-1))).toNat)).Zx1).Ref).Zb==0)&&((((nth l (((w64 (r.Zx1.Ref.No-1))).toNat)).Zx1).Ref).No==0))))
        else none
    else some false:Option (Bool)).bind fun t=>if t then some 110 else some 0:Option Int)=some e ∧
   (e=0↔d=r.Zv1∧(XP r.Zx1.Ref=true∨(r.Zx1.Ref.Zb=r.Zb∧1≤r.Zx1.Ref.No∧r.Zx1.Ref.No<r.No∧XP (nth l (r.Zx1.Ref.No-1).toNat).Zx1.Ref=true))):=by
  intro d;by_cases h2:d=r.Zv1
  case neg=>rw[ApU (by simpa using h2)];exact⟨140,rfl,⟨fun e=>absurd e (by decide),fun h=>absurd h.1 h2⟩⟩
  rw[ApV (by simpa using h2)];by_cases h3:XP r.Zx1.Ref=true
  ·have h3':(!((r.Zx1.Ref.Zb==0)&&(r.Zx1.Ref.No==0)))=false:=by rw[show((r.Zx1.Ref.Zb==0)&&(r.Zx1.Ref.No==0))=true from h3];rfl
   rw[h3',ApV (by simp)];exact⟨0,rfl,⟨fun _=>⟨h2,.inl h3⟩,fun _=>rfl⟩⟩
  have h3':(!((r.Zx1.Ref.Zb==0)&&(r.Zx1.Ref.No==0)))=true:=by
   rw[ArR]at h3;rw[show((r.Zx1.Ref.Zb==0)&&(r.Zx1.Ref.No==0))=false from h3];rfl
  rw[ApU h3'];by_cases h4:r.Zx1.Ref.Zb=r.Zb
  case neg=>rw[ApU (by simpa using h4)];exact⟨110,rfl,⟨fun e=>absurd e (by decide),fun h=>(h.2.resolve_left h3).1 |> fun q=>absurd q h4⟩⟩
  rw[ApV (by simpa using h4)];by_cases h5:r.Zx1.Ref.No<1
  ·rw[ApU (Aqf h5)];exact⟨110,rfl,⟨fun e=>absurd e (by decide),fun h=>by have:=(h.2.resolve_left h3).2.1;omega⟩⟩
  rw[ApV (by simpa using h5)];by_cases h6:r.Zx1.Ref.No≥r.No
  ·rw[ApU (Aqf h6)];exact⟨110,rfl,⟨fun e=>absurd e (by decide),fun h=>by have:=(h.2.resolve_left h3).2.2.1;omega⟩⟩
  rw[ApV (by simpa using h6)];have w3:w64 (r.Zx1.Ref.No-1)=r.Zx1.Ref.No-1:=AH (by omega);rw[w3,ApU (show InR (r.Zx1.Ref.No-1) l.length from⟨by omega,by omega⟩),ApX];by_cases h7:XP (nth l (r.Zx1.Ref.No-1).toNat).Zx1.Ref=true
  ·have h7':(!((((nth l (r.Zx1.Ref.No-1).toNat).Zx1.Ref.Zb==0)&&((nth l (r.Zx1.Ref.No-1).toNat).Zx1.Ref.No==0))))=false:=by
    rw[show(((nth l (r.Zx1.Ref.No-1).toNat).Zx1.Ref.Zb==0)&&((nth l (r.Zx1.Ref.No-1).toNat).Zx1.Ref.No==0))=true from h7];rfl
   rw[h7',ApV (by simp)];exact⟨0,rfl,⟨fun _=>⟨h2,.inr ⟨h4,by omega,by omega,h7⟩⟩,fun _=>rfl⟩⟩
  ·have h7':(!((((nth l (r.Zx1.Ref.No-1).toNat).Zx1.Ref.Zb==0)&&((nth l (r.Zx1.Ref.No-1).toNat).Zx1.Ref.No==0))))=true:=by
    rw[ArR]at h7;rw[show(((nth l (r.Zx1.Ref.No-1).toNat).Zx1.Ref.Zb==0)&&((nth l (r.Zx1.Ref.No-1).toNat).Zx1.Ref.No==0))=false from h7];rfl
   rw[h7',ApU rfl];exact⟨110,rfl,⟨fun e=>absurd e (by decide),fun h=>absurd (h.2.resolve_left h3).2.2.2 h7⟩⟩
 by_cases h2:r.No>1
 ·rw[ApU (Aqf h2),w2];have hin:InR (r.No-2) l.length:=⟨by omega,by omega⟩;rw[ApU hin];have hk:(r.No-2).toNat<l.length:=by omega
  obtain⟨d,hd⟩:=XF (hs _ (Gv hk));rw[hd,ApX];by_cases h3:d.2=0
  case neg=>
   rw[ApU (by simpa using h3)];refine⟨140,rfl,⟨fun e=>absurd e (by decide),fun h=>?_⟩⟩;have:=(h.prev h2).1;rw[hd]at this;exact absurd (Ars Prod.snd (Aqp this)) h3
  rw[ApV (by simpa using h3),ApU hin,ApX];by_cases h4:r.Zw1<(nth l (r.No-2).toNat).Zw1
  ·rw[ApU (Aqf h4)];exact⟨140,rfl,⟨fun e=>absurd e (by decide),fun h=>by have:=(h.prev h2).2;omega⟩⟩
  rw[ApV (by simpa using h4),ApX];obtain⟨e,he,hq⟩:=tail d.1;refine⟨e,he,hq.trans ⟨fun h=>⟨by omega,fun _=>⟨?_,by omega⟩,fun h5=>absurd h2 h5,h.2⟩,fun h=>⟨?_,h.ref⟩⟩⟩
  ·rw[hd,←h.1,←h3]
  ·have:=(h.prev h2).1;rw[hd]at this;exact Ars Prod.fst (Aqp this)
 ·rw[ApV (by simpa using h2),ApX];obtain⟨e,he,hq⟩:=tail (Arr.rep 32 (0:UInt8));exact⟨e,he,hq.trans ⟨fun h=>⟨by omega,fun h5=>absurd h5 h2,fun _=>h.1.symm,h.2⟩,fun h=>⟨(h.first h2).symm,h.ref⟩⟩⟩
variable{b:ApM}
structure Mid(n:Nat)(b:ApM):Prop where
  logs:b.Zy1.length≤n
  forks:b.Zz1.length≤n
  row:∀l∈b.Zy1,l.length≤n
  item:∀l∈b.Zy1,∀r∈l,Small r.Zx1
theorem Short.mid{b:ApM}(h:Short b):Mid 12 b:=⟨by have:=h.logs;omega,by have:=h.forks;omega,h.row,h.item⟩
def logV(b:ApM)(rw:Int):List ApK:=if 0≤rw∧rw<(b.Zy1.length:Int)then nth b.Zy1 rw.toNat else[]
theorem Acw{rw:Int}(h:0≤rw):Gl b rw=some (logV b rw):=by
 unfold Gl logV;by_cases h1:rw<(b.Zy1.length:Int)
 ·rw[ApV (by simp;omega),ApU (show InR rw b.Zy1.length from⟨h,by omega⟩),ApU ⟨h,h1⟩]
 ·rw[ApU (by simp;omega),ApV (fun h2=>h1 h2.2)]
theorem log_eq(b:ApM)(rw:Int):YN b rw=some (logV b rw):=by
 unfold YN logV;rw[I7,ApX];by_cases h:0≤rw∧rw<(b.Zy1.length:Int)
 ·rw[ApV (by simp;omega),ApU (show InR rw b.Zy1.length from⟨h.1,by omega⟩),ApU h]
 ·rw[ApU (by simp;omega),ApV h]
theorem Mid.logV{n:Nat}{b:ApM}(h:Mid n b)(rw:Int):(logV b rw).length≤n∧∀r∈Proofs.YtioapcamanmoiaaGreatDoor.logV b rw,Small r.Zx1:=by
 unfold Proofs.YtioapcamanmoiaaGreatDoor.logV;split
 ·rename_i h1;have hk:rw.toNat<b.Zy1.length:=by omega
  exact⟨h.row _ (Gv hk),h.item _ (Gv hk)⟩
 ·exact⟨by simp,fun r hr=>by simp at hr⟩
def Y4(N:Nat)(L:List (List ApK)):List (List ApK):=L++List.replicate (N-L.length) []
theorem AeA(N:Nat)(L:List (List ApK))(h:L.length≤N):ovl (List.replicate N ([]:List ApK)) (L.take (min L.length (List.replicate N ([]:List ApK)).length)) 0=Y4 N L:=by
 unfold ovl Y4;rw[Ar0,ArZ h,AqT];simp
def Abi(p:ApF)(b:ApM)(r:ApK):ApM:={ Zy1:=(Y4 (max b.Zy1.length p.Zk1.length) b.Zy1).set r.Zb.toNat (logV b r.Zb++[r]),Zz1:=b.Zz1 }
def XQ(b:ApM)(r:ApK):ApM:={ Zy1:=b.Zy1,Zz1:=if b.Zz1.any (Jl r)=true then b.Zz1 else b.Zz1++[{ A:=nth (logV b r.Zb) (r.No-1).toNat,B:=r }] }
abbrev noB:ApM:={ Zy1:=[],Zz1:=[] }
def D9(p:ApF)(b:ApM)(r:ApK)(es ef:Int):ApM×Int :=
 if es≠0 then(noB,es)else if r.No≤((logV b r.Zb).length:Int)∧nth (logV b r.Zb) (r.No-1).toNat=r then(b,0)
 else if ef≠0 then(noB,ef)else if r.No=((logV b r.Zb).length:Int)+1 then(Abi p b r,0)else(XQ b r,0)
theorem Ahq{l:List ApK}(h:l.length≤100000):DK l=some l:=by
 unfold DK;rw[ApU (by unfold Dt maxLen GT;omega)];simp only[AJ,AqP]
theorem Ae3{l:List ApL}(h:l.length≤100000):DH l=some l:=by
 unfold DH;rw[ApU (by unfold Dt maxLen GT;omega)];simp only[AJ,AqP]
theorem Ue{p:ApF}{r:ApK}{n:Nat}(h:Few p)(hm:Mid n b)(hn:n≤10000)(hr:Small r.Zx1) :∃es ef,E8 p r=some es∧(es=0→SingleOk p r∧EJ (logV b r.Zb) r=some ef∧(ef=0↔FollowsOk (logV b r.Zb) r))∧Bb p b r=some (D9 p b r es ef):=by
 obtain⟨es,h1,h2⟩:=VH h hr;by_cases h0:es=0
 case neg=>
  refine⟨es,0,h1,fun e=>absurd e h0,?_⟩;unfold Bb D9;rw[h1,ApX,ApU (by simpa using h0),ApU h0]
 have hs:=h2 h0;obtain⟨l1,l2⟩:=hm.logV r.Zb;obtain⟨ef,f1,f2⟩:=Ti (l:=logV b r.Zb) (r:=r) (by omega) l2 hs.no.1;refine⟨es,ef,h1,fun _=>⟨hs,f1,f2⟩,?_⟩;unfold Bb D9;rw[h1,ApX,ApV (show ¬(es != 0)=true by simpa using h0),Acw hs.rail.1,ApX,ApV (show ¬es≠0 from fun h=>h h0)];generalize hl:logV b r.Zb=l at *;obtain⟨n1,n2⟩:=hs.no;have w1:w64 (r.No-1)=r.No-1:=AH (by omega);have w2:w64 ((l.length:Int)+1)=(l.length:Int)+1:=AH (by omega)
 have hsame:(if(decide (r.No≤(l.length:Int)))then if InR ((w64 (r.No-1))) l.length then(H5 (nth l (((w64 (r.No-1))).toNat)) r).bind fun y=>some y else none else some false:Option Bool)=some (decide (r.No≤(l.length:Int)∧nth l (r.No-1).toNat=r)):=by
  by_cases h3:r.No≤(l.length:Int)
  ·have hk:(r.No-1).toNat<l.length:=by omega
   rw[ApU (Aqf h3),w1,ApU (show InR (r.No-1) l.length from⟨by omega,by omega⟩),Agg (l2 _ (Gv hk)) hr,ApX];congr 1;simp[h3]
  ·rw[ApV (by simpa using h3),Aqs (fun h=>h3 h.1)]
 rw[hsame,ApX];by_cases h4:r.No≤(l.length:Int)∧nth l (r.No-1).toNat=r
 ·rw[ApU (Aqf h4),ApU h4]
 rw[ApV (by simpa using h4),ApV h4,f1,ApX];by_cases h5:ef=0
 case neg=>rw[ApU (by simpa using h5),ApU h5]
 rw[ApV (show ¬(ef != 0)=true by simpa using h5),ApV (show ¬ef≠0 from fun h=>h h5),w2];have hno:=(f2.1 h5).no;by_cases h6:r.No=(l.length:Int)+1
 ·have hmx:JT (b.Zy1.length:Int) (p.Zk1.length:Int)=((max b.Zy1.length p.Zk1.length:Nat):Int):=by unfold JT;split<;>omega
  have hb:=hm.logs;have hp:=h.railways;rw[ApU (by simpa using h6),ApU h6,hmx,ApU (by unfold Mk maxLen GT;omega)];simp only[AJ,Ap1];rw[AeA _ _ (by omega),Ahq (by omega),ApX,ApU (by unfold Dt maxLen GT;omega)];have hlen:(Y4 (max b.Zy1.length p.Zk1.length) b.Zy1).length=max b.Zy1.length p.Zk1.length:=by simp[Y4];omega
  rw[ApU (show InR r.Zb (Y4 (max b.Zy1.length p.Zk1.length) b.Zy1).length by
   rw[hlen];have r1:=hs.rail.1;have r2:=hs.rail.2;exact⟨r1,by omega⟩)]
  unfold Abi;rw[hl]
 ·rw[ApV (by simpa using h6),ApV h6,Vu _ _ (by have:=hm.forks;omega),ApX];unfold XQ;have hk:(r.No-1).toNat<l.length:=by omega
  by_cases h7:b.Zz1.any (Jl r)=true
  ·rw[ApV (by simpa using h7),ApU h7];rfl
  ·rw[ApU (by simpa using h7),ApV h7,Ae3 (by have:=hm.forks;omega),ApX,w1,ApU (show InR (r.No-1) l.length from⟨by omega,by omega⟩),ApU (by have:=hm.forks;unfold Dt maxLen GT;omega)];simp only[AJ,ApX];rw[hl]
theorem YH{p:ApF}{r:ApK}{n:Nat}(h:Few p)(hm:Mid n b)(hn:n≤10000)(hr:Small r.Zx1) :∃es ef,E8 p r=some es∧(es=0→SingleOk p r∧(ef=0↔FollowsOk (logV b r.Zb) r))∧Bb p b r=some (D9 p b r es ef):=by
 obtain⟨es,ef,h1,h2,h3⟩:=Ue h hm hn hr;exact⟨es,ef,h1,fun e=>⟨(h2 e).1,(h2 e).2.2⟩,h3⟩
structure FewP(p:ApF):Prop where
  few:Few p
  rails:p.Zk1.length≤4
theorem Adf(p:ApF):∃b,H7 p=some b∧(b=true→FewP p):=by
 obtain⟨x,hx,hq⟩:∃x,Ax (fun(v:Int)=>FN p v) 0=some x∧(x=.inr (.inr false)∨(x=.inl ()∧∀j,j<p.Zk1.length→j<5→(nth p.Zk1 j).Zf1.Ze1.length≤5)):=by
  refine BR (fun v=>∃k:Nat,v=(k:Int)∧k≤5∧k≤p.Zk1.length∧∀j,j<k→(nth p.Zk1 j).Zf1.Ze1.length≤5) (fun v=>(5-v).toNat) _ ?_ ⟨0,rfl,by omega,by omega,fun j hj=>by omega⟩ (by simp);rintro v ⟨k,rfl,h1,h2,h3⟩;unfold FN;simp only[Ee,Ay];by_cases hk:k<p.Zk1.length∧k<5
  ·rw[ApU (by simp;omega),ApU (A4 hk.1)];simp only[AJ,Ap1,CF (k:=k) (by omega)];by_cases hd:(nth p.Zk1 k).Zf1.Ze1.length≤5
   ·left;rw[ApV (by simp;omega)];refine⟨_,rfl,⟨k+1,rfl,by omega,by omega,fun j hj=>?_⟩,by omega⟩;by_cases e:j=k
    ·subst e;exact hd
    ·exact h3 j (by omega)
   ·right;rw[ApU (by simp;omega)];exact⟨_,rfl,.inl rfl⟩
  ·right;rw[ApV (by simp;omega)];exact⟨_,rfl,.inr ⟨rfl,fun j hj hj2=>h3 j (by omega)⟩⟩
 unfold H7;rw[hx];rcases hq with rfl|⟨rfl,hall⟩
 ·exact⟨false,rfl,fun e=>by cases e⟩
 ·simp only[Ay,Ee];refine⟨_,rfl,fun e=>?_⟩;simp only[Ap9,Aqd]at e;obtain⟨⟨a1,a2⟩,⟨b1,b2,b3,b4⟩,c1,c2,c3⟩:=e;exact⟨⟨by omega,by omega,by omega,by omega,by omega,by omega,by omega,by omega,by omega,fun k hk=>by have:=hall k hk (by omega);omega⟩,by omega⟩
theorem Ab2{α:Type}{p:ApF}{b:ApM}{it:ApI}{X:Option Bool}(hX:FewP p→Short b→Small it→X=some true) :(((H7 p).bind fun y=>if(!y)then some true else(F2 b).bind fun y=>if(!y)then some true else(Dm it).bind fun y=>some (!y):Option Bool).bind fun t=>if t then some true else X)=some true:=by
 obtain⟨f,hf,hq⟩:=Adf p;rw[hf,ApX];cases f
 ·rfl
 rw[ApV (by simp),Acv,ApX];by_cases hs:Ks b=true
 case neg=>rw[ApU (by simpa using hs)];rfl
 rw[ApV (by simpa using hs),R5,ApX,ApX];by_cases hi:GE it=true
 case neg=>rw[ApU (by simpa using hi)]
 rw[ApV (by simpa using hi)];exact hX (hq rfl) (AdQ hs) (Mn hi)
theorem Ado{it:ApI}(h:Small it):it.Zu1.length≤1000000:=by have:=h.parts;omega
theorem PM{p:ApF}{b:ApM}{r:ApK}{es ef:Int}(h:(D9 p b r es ef).2=0):es=0:=by
 unfold D9 at h;split at h
 ·exact h
 ·rename_i h';exact Decidable.not_not.1 h'
set_option maxRecDepth 100000
def exQ:ApF:=r14_Example.getD default
def Ah8:ApI:={ Za:=8,Ref:={ Zb:=0,No:=0 },Zn1:=0,Zb1:=0,Zc:=0,Zo1:=0,Zw:=3,To:=0,Code:=1,Zp1:=0,Zq1:=0,Zr1:=0,Zs1:=0,Zt1:=[],Zu1:=[] }
def Aon:ApI:={ Za:=8,Ref:={ Zb:=0,No:=0 },Zn1:=0,Zb1:=0,Zc:=0,Zo1:=0,Zw:=3,To:=0,Code:=2,Zp1:=0,Zq1:=0,Zr1:=0,Zs1:=0,Zt1:=[],Zu1:=[] }
def Am2:ApI:={ Za:=14,Ref:={ Zb:=0,No:=1 },Zn1:=0,Zb1:=0,Zc:=0,Zo1:=0,Zw:=0,To:=0,Code:=0,Zp1:=0,Zq1:=0,Zr1:=0,Zs1:=0,Zt1:=[],Zu1:=[] }
def bk0:ApM:={ Zy1:=[],Zz1:=[] }
def AgI:ApK:={ Zb:=0,No:=1,Zv1:=⟨[(0:UInt8),0,0,0,0,0,0,0,0,0,0,0,0,0,0,0,0,0,0,0,0,0,0,0,0,0,0,0,0,0,0,0],rfl⟩,Zw1:=5,Zx1:=Ah8,Sig:={ C:=132576837295297174,S:=235879338771529970 } }
def AoI:ApK:={ Zb:=0,No:=1,Zv1:=⟨[(0:UInt8),0,0,0,0,0,0,0,0,0,0,0,0,0,0,0,0,0,0,0,0,0,0,0,0,0,0,0,0,0,0,0],rfl⟩,Zw1:=5,Zx1:=Aon,Sig:={ C:=1010642900596539425,S:=208674642754336471 } }
def An9:ApK:={ Zb:=0,No:=2,Zv1:=⟨[(20:UInt8),74,221,126,247,131,164,99,193,192,56,34,114,40,146,82,204,54,168,83,74,158,104,72,195,63,51,126,164,162,16,232],rfl⟩,Zw1:=6,Zx1:=Am2,Sig:={ C:=531156149537135704,S:=378193558781781181 } }
def Anx:ApK:={ Zb:=0,No:=0,Zv1:=(Arr.rep 32 (0:UInt8)),Zw1:=0,Zx1:={ Za:=0,Ref:={ Zb:=0,No:=0 },Zn1:=0,Zb1:=0,Zc:=0,Zo1:=0,Zw:=0,To:=0,Code:=0,Zp1:=0,Zq1:=0,Zr1:=0,Zs1:=0,Zt1:=([]:List UInt8),Zu1:=[] },Sig:={ C:=(0:UInt64),S:=(0:UInt64) } }
def bk1:ApM:={ Zy1:=[[AgI],[]],Zz1:=[] }
def bk2:ApM:={ Zy1:=[[AgI],[]],Zz1:=[{ A:=AgI,B:=AoI }] }
def bk3:ApM:={ Zy1:=[[AgI,An9],[]],Zz1:=[] }
theorem Agu{p:ApF}{d1 d2:ApI}{R S T Z1 Z2 Z3:ApK}{b1 b2 b3:ApM}{l1 l2 l3:List ApP}(hp:r14_Example=some p)(h1:C7 1=some d1)(h2:C7 2=some d2) (n1:BE p { Zy1:=[],Zz1:=[] } 0 7 5 d1=some (R,0)) (a1:Bb p { Zy1:=[],Zz1:=[] } R=some (b1,0)) (a2:Bb p b1 R=some (b1,0)) (n2:BE p b1 0 7 4 d1=some (Z1,140)) (n3:BE p { Zy1:=[],Zz1:=[] } 0 7 5 d2=some (S,0)) (a3:Bb p b1 S=some (b2,0)) (n4:BE p { Zy1:=[],Zz1:=[] } 0 8 5 d1=some (Z2,30)) (n5:BE p b1 0 7 6 { Za:=14,Ref:={ Zb:=0,No:=1 },Zn1:=0,Zb1:=0,Zc:=0,Zo1:=0,Zw:=0,To:=0,Code:=0,Zp1:=0,Zq1:=0,Zr1:=0,Zs1:=0,Zt1:=[],Zu1:=[] }=some (T,0)) (a4:Bb p b1 T=some (b3,0)) (n6:BE p { Zy1:=[],Zz1:=[] } 0 7 5 { Za:=14,Ref:={ Zb:=0,No:=1 },Zn1:=0,Zb1:=0,Zc:=0,Zo1:=0,Zw:=0,To:=0,Code:=0,Zp1:=0,Zq1:=0,Zr1:=0,Zs1:=0,Zt1:=[],Zu1:=[] }=some (Z3,110)) (c1:R.No=1) (c2:R.Zv1=⟨[(0:UInt8),0,0,0,0,0,0,0,0,0,0,0,0,0,0,0,0,0,0,0,0,0,0,0,0,0,0,0,0,0,0,0],rfl⟩) (c3:b1.Zy1.length=2) (c4:(nth b1.Zy1 0).length=1) (s1:JR b1 b1=some true) (c5:b2.Zz1.length=1) (f1:Dn b2 0=some 1) (f2:Dn b1 0=some 0) (r1:BF b2=some l1) (q1:l1.length=0) (r2:BF b1=some l2) (q2:l2.length=1) (r3:BF b3=some l3) (q3:l3.length=0):law14_sane=some true:=by
 have k0:InR 0 2:=by decide
 have k1:((2:Nat):Int)=2:=rfl;have k2:((1:Nat):Int)=1:=rfl;have k3:((0:Nat):Int)=0:=rfl;unfold law14_sane;simp only[hp,h1,h2,ApX,n1,a1,a2,n2,n3,a3,n4,n5,a4,n6,c1,c2,c3,c4,s1,c5,f1,f2,r1,q1,r2,q2,r3,q3,k1,k2,k3,beq_self_eq_true,Arq,ApU k0]
theorem e_ex:r14_Example=some exQ:=by kernel_rfl
theorem e_d1:C7 1=some Ah8:=rfl
theorem e_d2:C7 2=some Aon:=rfl
theorem e_n1:BE exQ bk0 0 7 5 Ah8=some (AgI,0):=by decide +kernel
theorem e_a1:Bb exQ bk0 AgI=some (bk1,0):=by decide +kernel
theorem e_a2:Bb exQ bk1 AgI=some (bk1,0):=by decide +kernel
theorem e_n2:BE exQ bk1 0 7 4 Ah8=some (Anx,140):=by decide +kernel
theorem e_n3:BE exQ bk0 0 7 5 Aon=some (AoI,0):=by decide +kernel
theorem e_a3:Bb exQ bk1 AoI=some (bk2,0):=by decide +kernel
theorem e_n4:BE exQ bk0 0 8 5 Ah8=some (Anx,30):=by decide +kernel
theorem e_n5:BE exQ bk1 0 7 6 Am2=some (An9,0):=by decide +kernel
theorem e_a4:Bb exQ bk1 An9=some (bk3,0):=by decide +kernel
theorem e_n6:BE exQ bk0 0 7 5 Am2=some (Anx,110):=by decide +kernel
theorem e_s1:JR bk1 bk1=some true:=by decide +kernel
theorem e_f1:Dn bk2 0=some 1:=by decide +kernel
theorem e_f2:Dn bk1 0=some 0:=by decide +kernel
theorem e_r1:(BF bk2)=some []:=by decide +kernel
theorem e_r2:(BF bk1).map List.length=some 1:=by decide +kernel
theorem e_r3:(BF bk3)=some []:=by decide +kernel
theorem AeM:law14_sane=some true:=by
 obtain⟨l,hl,hr⟩:∃l,BF bk1=some l∧l.length=1:=by
  have:=e_r2;cases h:BF bk1 with
  |none=>rw[h]at this;cases this
  |some l=>rw[h]at this;exact⟨l,rfl,by simpa using this⟩
 exact Agu e_ex e_d1 e_d2 e_n1 e_a1 e_a2 e_n2 e_n3 e_a3 e_n4 e_n5 e_a4 e_n6 rfl rfl rfl rfl e_s1 rfl e_f1 e_f2 e_r1 rfl hl hr e_r3 rfl
set_option maxRecDepth 8000
set_option maxHeartbeats 1000000
variable{p:ApF}{b:ApM}{r:ApK}
theorem Vl(N:Nat)(L:List (List ApK))(h:L.length≤N):(Y4 N L).length=N:=by simp[Y4];omega
theorem AbC(h:0≤r.Zb∧r.Zb<(p.Zk1.length:Int)):nth (Abi p b r).Zy1 r.Zb.toNat=logV b r.Zb++[r]:=by
 unfold Abi;have:r.Zb.toNat<(Y4 (max b.Zy1.length p.Zk1.length) b.Zy1).length:=by rw[Vl _ _ (by omega)];omega
 simp[nth,this]
theorem Ab8:(Abi p b r).Zy1.length=max b.Zy1.length p.Zk1.length:=by
 unfold Abi;rw[Arn,Vl _ _ (by omega)]
theorem XN{i:Nat}(h:r.Zb.toNat≠i)(hi:i<max b.Zy1.length p.Zk1.length):nth (Abi p b r).Zy1 i=if i<b.Zy1.length then nth b.Zy1 i else[]:=by
 have hl:i<(Y4 (max b.Zy1.length p.Zk1.length) b.Zy1).length:=by rw[Vl _ _ (by omega)];exact hi
 unfold Abi;show((Y4 (max b.Zy1.length p.Zk1.length) b.Zy1).set r.Zb.toNat (logV b r.Zb++[r])).getD i default=_;rw[Ap7,Aqx h];unfold Y4;by_cases h1:i<b.Zy1.length
 ·rw[ApU h1,Ap0 h1];simp[nth]
 ·rw[ApV h1,ApY (by omega),Art];split<;>rfl
theorem RH(p:ApF)(b:ApM)(r:ApK)(es ef:Int):((D9 p b r es ef).2≠0∧(D9 p b r es ef).1=noB)∨(D9 p b r es ef).1=b∨(D9 p b r es ef).1=Abi p b r∨(D9 p b r es ef).1=XQ b r:=by
 unfold D9;split
 ·exact .inl ⟨by assumption,rfl⟩
 ·split
  ·exact .inr (.inl rfl)
  ·split
   ·exact .inl ⟨by assumption,rfl⟩
   ·split
    ·exact .inr (.inr (.inl rfl))
    ·exact .inr (.inr (.inr rfl))
theorem TO{es ef:Int}(h:(D9 p b r es ef).2≠0):(D9 p b r es ef).1=noB:=by
 unfold D9 at h ⊢;split
 ·rfl
 ·rename_i h0;rw[ApV h0]at h;split
  ·rename_i h1;rw[ApU h1]at h;exact absurd rfl h
  ·rename_i h1;rw[ApV h1]at h;split
   ·rfl
   ·rename_i h2;rw[ApV h2]at h;split at h<;>exact absurd rfl h
structure Holds(b x:ApM):Prop where
  logs:b.Zy1.length≤x.Zy1.length
  forks:b.Zz1.length≤x.Zz1.length
  row:∀i,i<b.Zy1.length→∃s,nth x.Zy1 i=nth b.Zy1 i++s
theorem Xa(b:ApM):Holds b b:=⟨Ap5 _,Ap5 _,fun i _=>⟨[],by simp⟩⟩
theorem Yn(b:ApM)(r:ApK):Holds b (XQ b r):=by
 refine⟨Ap5 _,?_,fun i _=>⟨[],by simp[XQ]⟩⟩;unfold XQ;simp only;split
 ·exact Ap5 _
 ·simp
theorem YA(h:0≤r.Zb∧r.Zb<(p.Zk1.length:Int)):Holds b (Abi p b r):=by
 refine⟨by rw[Ab8];omega,Ap5 _,fun i hi=>?_⟩;by_cases h1:r.Zb.toNat=i
 ·subst h1;rw[AbC h];unfold logV;rw[ApU ⟨h.1,by omega⟩];exact⟨_,rfl⟩
 ·rw[XN h1 (by omega),ApU hi];exact⟨[],by simp⟩
theorem U5(p:ApF)(b:ApM)(r:ApK):BB p b r=some true:=by
 unfold BB;rw[AeM,ApX,ApV (by simp)];refine Ab2 (α:=Unit) fun hp hb hr=>?_
 obtain⟨es,ef,h1,h2,h3⟩:=YH hp.few hb.mid (by omega) hr;rw[h3,ApX];by_cases he:(D9 p b r es ef).2=0
 case neg=>
  rw[ApU (by simpa using he),TO he,AJ];congr 1
 rw[ApV (by simpa using he)];obtain⟨hs,_⟩:=h2 (PM he)
 have hold:Holds b (D9 p b r es ef).1:=by
  rcases RH p b r es ef with h|h|h|h
  ·exact absurd he h.1
  ·rw[h];exact Xa b
  ·rw[h];exact YA hs.rail
  ·rw[h];exact Yn b r
 obtain⟨f,f1,f2,_⟩:=RZ hp.few
 have hf:f=0:=by
  rw[hs.pool]at f1;exact(Aqp f1).symm
 have hr1:=hs.rail.1;have hr2:=hs.rail.2;rw[f2,ApX,hf,ApV (by simp),ApV (by simp;omega),ApX,ApV (by simp;omega),Aab hr,ApX,ApV (by simp[hs.body]),ApU (show InR r.Zb p.Zk1.length from⟨hr1,by omega⟩),hs.ver,ApX,ApV (by simp)];rw[ApV (by have:=hold.logs;simp;omega),ApX,ApV (by have:=hold.forks;simp;omega)];generalize D9 p b r es ef=y at hold
 have hl:Ax (fun(v:Int)=>AG b y v) 0=some (.inl ()):=by
  obtain⟨x,hx,rfl⟩:∃x,Ax (fun(v:Int)=>AG b y v) 0=some x∧x=.inl ():=by
   refine BA b.Zy1.length (fun k v=>v=(k:Int)) _ (by have:=hb.logs;omega) ?_ ?_ rfl
   ·rintro k v hk rfl;refine⟨_,?_,rfl⟩;obtain⟨s,hsk⟩:=hold.row k hk;have hkx:k<y.1.Zy1.length:=by have:=hold.logs;omega
    have hn:(nth b.Zy1 k).length≤12:=hb.row _ (Gv hk);have hlen:(nth y.1.Zy1 k).length=(nth b.Zy1 k).length+s.length:=by rw[hsk,Aqe]
    have ht:(nth y.1.Zy1 k).take (nth b.Zy1 k).length=nth b.Zy1 k:=by rw[hsk];exact List.take_left
    unfold AG;rw[ApU (Aqf (by omega)),ApU (A4 hk),AJ];simp only[Ap1];rw[ApU (A4 hkx),ApV (by simp;omega),ApU (A4 hkx),ApU (show InB ((nth b.Zy1 k).length:Int) (nth y.1.Zy1 k).length from⟨by omega,by omega⟩),ApU (A4 hk),ht];rw[Abn (by omega) (fun q hq=>Ado (hb.item _ (Gv hk) q hq)),ApX,ApX,ApV (by simp),CF (by have:=hb.logs;omega)]
   ·rintro v rfl;refine⟨_,?_,rfl⟩;unfold AG;rw[ApV (by simp)]
  exact hx
 rw[hl];rfl
theorem Si{p:ApF}(_:S3 p){b:ApM}(_:Qz b){r:ApK}(_:EA r):BB p b r=some true:=U5 p b r
end Go.Proofs.YtioapcamanmoiaaGreatDoor
