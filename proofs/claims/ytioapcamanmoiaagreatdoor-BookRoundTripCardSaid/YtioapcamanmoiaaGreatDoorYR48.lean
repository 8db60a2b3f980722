/-
  Part 48.
-/
import Derived.Test.YtioapcamanmoiaaGreatDoorYR44
import Derived.Test.YtioapcamanmoiaaGreatDoorYR46
import Derived.Test.YtioapcamanmoiaaGreatDoorYR47
import Derived.KernelRfl
namespace Go.Proofs.YtioapcamanmoiaaGreatDoor
open Go.Rv
set_option linter.unusedVariables false
set_option linter.unusedSimpArgs false
set_option maxRecDepth 20000
set_option maxHeartbeats 4000000
theorem QG{d e r}(h:Nm d e=some r):Con B 27 [.agg (Ad d),.agg (Ad e)] [] (fun r' σ'=>r'=.bool r∧σ'=[]):=by
 refine Cw 50 [.tmp 4] Tryz.func27 (fun F hE=>?_) h;unfold Nm;refine T0 [2,3] ?_;refine Tw [2,3,5] (fun i=>⟨Aq 50 [(2,.ref 0 0),(3,.ref 1 0),(5,.bool i)],[.box (Ad d) false,.box (Ad e) false]⟩) ?_ ?_
 ·intro _;refine Sp (fun a=>?_) fun a=>?_
  ·refine Sp (fun b=>?_) fun b=>?_
   ·refine Sp (fun c=>?_) fun c=>?_
    ·refine Sp (fun f=>?_) fun f=>?_
     ·exact Lf Aa (Ew4 a b c f) (ws [0,1])
     ·exact Lf Aa (Ew4 a b c f) (ws [0,1])
    ·exact Lf Aa (Ew3 a b c) (ws [0,1])
   ·exact Lf Aa (Ew2 a b) (ws [0,1])
  ·exact Lf Aa (Ew1 a) (ws [0,1])
 intro i;refine Dw [[],[0],[0,1],[0,1,2],[0,1,2,3],[0,1],[0,1,5],[0,1,2,3,4,5,6],[0,1,2,3,4,5,6,7],[0,1,2,3,4,5,6,7,8],[0,1,2,3,4,5,6,7,8,9],[0,1,2,3,4,5,6,7,8,9,10]] [4] (fun j=>⟨Aq 50 [(4,.bool j)],[]⟩) ?_ ?_
 ·intro _;refine Sp (fun g=>?_) fun g=>?_
  ·refine Bd fun o k =>Bd fun p m =>Bd fun q n =>?_
   exact Lf (Fp (l:=[(43,_,_,_),(46,_,_,_),(47,_,_,_)]) ⟨F5  k,F5  m,C6  n,trivial⟩) (Ew1 g) (ws [])
  ·exact Lf Aa (Ew1 g) (ws [])
 intro j;exact Sr <|Rr
theorem LN{c d r}(h:Ii c d=some r):Con B 28 [.sl false (L Ad c),.agg (Ad d)] [] (fun r' σ'=>r'=i64 r∧σ'=[]):=by
 refine Cw 85 [.tmp 4] Tryz.func28 (fun F hE=>?_) h;unfold Ii;refine T0 [0,3] ?_;refine Sq <|T0 [0,3,15] ?_
 refine Cd ?_ ?_
 ·refine T0 [4] ?_;exact Sr <|Tr <|Rr
 ·refine Sk <|Tn <|T0 [0,3,5] ?_
  refine Jo (fun i=>⟨Aq 85 [(0,.sl false (L Ad c)),(3,.ref 0 0),(5,.ref 1 0)],[.box (Ad d) false,.box (C1 u8 i.l) false]⟩) ?_ ?_
  ·intro t m;refine T0 [0,3,5,18] ?_;refine Cd ?_ ?_
   ·refine Ck fun n =>Bd fun o p =>Te [0,3,5,6,7] (o1 26 (ID p)) (Ew1 (qR n)) ?_
    refine Sq ?_;refine Dw [[],[0],[0,1],[0,1,2],[0,1,2,3],[0,1,2],[0,1,2],[0,1,2,6],[0,1,2,6,7],[0,1,2,5,6,7,8],[0,1,2,5,6,7,8,9],[0,1,2,5,6,7,8,9,10],[0,1,2,3,4,5,6,7,8,9,10,11],[0,1,2,3,4,5,6,7,8,9,10,11,12]] [0,3,5,6,42] (fun j=>⟨Aq 85 [(0,.sl false (L Ad c)),(3,.ref 0 0),(5,.ref 1 0),(6,.ref 2 0),(42,.bool j)],[.box (Ad d) false,.box (C1 u8 (Arr.rep 32 (0:UInt8)).l) false,.box (C1 u8 o.1.l) false]⟩) ?_ ?_
    ·intro _;refine Sp (fun f=>?_) fun f=>?_
     ·exact Lf Aa (Ew1 f) (ws [0,1,2])
     ·refine Ck fun q=>?_
      exact Lf Aa (Ew2 f (qR q)) (ws [0,1,2])
    intro j;refine Cd ?_ ?_
    ·refine T0 [4] ?_;exact Sr <|Tr <|Jr m <|Rr
    ·refine Sk <|Tn <|F0 [0,3,5] ?_
     exact Jn (ws [0,1])
   ·exact Sk <|Jn (ws [0,1])
  intro i;refine Sq <|T0 [0,3,47] ?_
  refine Cd ?_ ?_
  ·refine T0 [4] ?_;exact Sr <|Tr <|Rr
  ·refine Sk <|Tn <|T0 [0,3,8] ?_
   refine T0 [0,3,8,9] ?_;refine Sq ?_;refine Dw [[],[],[0,1],[0,1,2],[0,1,2,3],[0,1,2,3,4],[0,1,2,3],[0,1,2,3,6],[0,1,2,3,4,5,6,7],[0,1,2,3,4,5,6,7,8],[0,1,2,3,4,5,6,7,8,9],[0,1,2,3,4,5,6,7,8,9,10],[0,1,2,3,4,5,6,7,8,9,10,11],[0,1,2,3,4,5,6,7,8,9,10,11,12],[0,1,2,3,4,5,6,7,8,9,10,11,12,13],[0,1,2,3,4,5,6,7,8,9,10,11,12,13,14],[0,1,2,3,4,5,6,7,8,9,10,11,12,13,14,15],[0,1,2,3,4,5,6,7,8,9,10,11,12,13,14],[0,1,2,3,4,5,6,7,8,9,10,11,12,13,14,17],[0,1,2,3,4,5,6,7,8,9,10,11,12,13,14,15,16,17,18],[0,1,2,3,4,5,6,7,8,9,10,11,12,13,14,15,16,17,18,19],[0,1,2,3,4,5,6,7,8,9,10,11,12,13,14,15,16,17,18,19,20],[0,1,2,3,4,5,6,7,8,9,10,11,12,13,14,15,16,17,18,19,20,21],[0,1,2,3,4,5,6,7,8,9,10,11,12,13,14,15,16,17,18,19,20,21],[0,1,2,3,4,5,6,7,8,9,10,11,12,13,14,15,16,17,18,19,20,21,23],[0,1,2,3,4,5,6,7,8,9,10,11,12,13,14,15,16,17,18,19,20,21,23,24],[0,1,2,3,4,5,6,7,8,9,10,11,12,13,14,15,16,17,18,19,20,21,22,23,24,25],[0,1,2,3,4,5,6,7,8,9,10,11,12,13,14,15,16,17,18,19,20,21,22,23,24,25,26],[0,1,2,3,4,5,6,7,8,9,10,11,12,13,14,15,16,17,18,19,20,21,22,23,24,25,26,27],[0,1,2,3,4,5,6,7,8,9,10,11,12,13,14,15,16,17,18,19,20,21,22,23,24,25,26,27,28],[0,1,2,3,4,5,6,7,8,9,10,11,12,13,14,15,16,17,18,19,20,21],[0,1,2,3,4,5,6,7,8,9,10,11,12,13,14,15,16,17,18,19,20,21,22,23,24,25,26,27,28,29,30],[0,1,2,3,4,5,6,7,8,9,10,11,12,13,14,15,16,17,18,19,20,21,22,23,24,25,26,27,28,29,30,31],[0,1,2,3,4,5,6,7,8,9,10,11,12,13,14,15,16,17,18,19,20,21,22,23,24,25,26,27,28,29,30,31,32]] [84] (fun k=>⟨Aq 85 [(84,.bool k)],[]⟩) ?_ ?_
   ·intro _;refine Sp (fun a=>?_) fun a=>?_
    ·refine Sp (fun b=>?_) fun b=>?_
     ·exact Lf Aa (Ew2 a b) (ws [])
     ·refine Sp (fun e=>?_) fun e=>?_
      ·exact Lf Aa (Ew3 a b e) (ws [])
      ·refine Sp (fun g=>?_) fun g=>?_
       ·exact Lf Aa (Ew4 a b e g) (ws [])
       ·refine Ck fun s=>?_
        exact Lf Aa (Ew5 a b e g (qR s)) (ws [])
    ·exact Lf Aa (Ew1 a) (ws [])
   intro k;refine Cd ?_ ?_
   ·refine T0 [4] ?_;exact Sr <|Tr <|Rr
   ·refine Sk <|Tn <|T0 [4] ?_
    exact Sr <|Rr
theorem JA{a r}(h:FH a=some r):Con B 29 [.sl false (L Ad a)] [] (fun r' σ'=>r'=.bs false 0 (r.length) 0 (r.length)∧σ'=[.buf 53 (L Ad r) false]):=by
 refine Co 0 8 [.tmp 2] Tryz.func29 (fun F hE=>?_) h;unfold FH;refine T0 [0] ?_;refine Sq ?_;intro h;refine PT hE 0 3 4 75 52 rfl rfl rfl rfl rfl rfl rfl (by decide) Tryz.underlying75 (fun b_ hb_=>?_);cases b_
 ·revert h;refine Cf <|Sk <|Tn <|Ck fun c =>?_
  have d:=c;simp only[Ao5,ApC,Ao7,Ape,Apr,ApG,Nat.reduceAdd]at d;refine Lt fun b e =>Te (fr':=[(2,.bs false 0 (b.length) 0 (b.length))]) (σ':=[.buf 53 (L Ad b) false]) [2] Aa (Ew3 c d e) ?_
  exact Sr <|Ro [0]
 ·obtain rfl:a=[]:=List.map_eq_nil_iff.1 (hb_ rfl);replace h:some ([])=some r:=by first|exact h|(split at h<;>first|exact h|cases h)
  revert h;refine Ct <|T0 [2] ?_
  refine Rw (Rz 2 53 rfl) ?_;exact Sr <|Tr <|Ro [0]
theorem KW{a b r}(h:Hx a b=some r):Con B 31 [.agg (i64 a.A.Zb::i64 a.A.No::(C1 u8 a.A.Zv1.l++i64 a.A.Zw1::i64 a.A.Zx1.Za::i64 a.A.Zx1.Ref.Zb::i64 a.A.Zx1.Ref.No::i64 a.A.Zx1.Zn1::i64 a.A.Zx1.Zb1::i64 a.A.Zx1.Zc::i64 a.A.Zx1.Zo1::i64 a.A.Zx1.Zw::i64 a.A.Zx1.To::i64 a.A.Zx1.Code::i64 a.A.Zx1.Zp1::i64 a.A.Zx1.Zq1::i64 a.A.Zx1.Zr1::i64 a.A.Zx1.Zs1::.str a.A.Zx1.Zt1::.sl false (L Ah a.A.Zx1.Zu1)::u64 a.A.Sig.C::u64 a.A.Sig.S::i64 a.B.Zb::i64 a.B.No::(C1 u8 a.B.Zv1.l++[i64 a.B.Zw1,i64 a.B.Zx1.Za,i64 a.B.Zx1.Ref.Zb,i64 a.B.Zx1.Ref.No,i64 a.B.Zx1.Zn1,i64 a.B.Zx1.Zb1,i64 a.B.Zx1.Zc,i64 a.B.Zx1.Zo1,i64 a.B.Zx1.Zw,i64 a.B.Zx1.To,i64 a.B.Zx1.Code,i64 a.B.Zx1.Zp1,i64 a.B.Zx1.Zq1,i64 a.B.Zx1.Zr1,i64 a.B.Zx1.Zs1,.str a.B.Zx1.Zt1,.sl false (L Ah a.B.Zx1.Zu1),u64 a.B.Sig.C,u64 a.B.Sig.S]))),.ref 0 0] [.box (Ad b) false] (fun r' σ'=>r'=.bool r.1∧σ'=[.box (Ad r.2) false]):=by
 refine Co 1 18 [.tmp 3] Tryz.func31 (fun F hE=>?_) h;unfold Hx;refine T0 [1,2] ?_;refine Tw [3] (fun d=>⟨Aq 18 [(3,.bool d)],[.box (Ad b) false]⟩) ?_ ?_
 ·intro _;refine Sp (fun c=>?_) fun c=>?_
  ·exact Lf Aa (Ew1 c) (ws [0])
  ·exact Lf Aa (Ew1 c) (ws [0])
 intro d;exact Sr <|Ro [0]
theorem EZ{a ac r}(h:Cn a ac=some r):Con B 66 [.sl false (L A9 a),.fn 31 [.ref 0 0]] [.box (Ad ac) false] (fun r' σ'=>r'=i64 r.1∧σ'=[.box (Ad r.2) false]):=by
 refine Co 1 19 [.tmp 4] Tryz.func66 (fun F hE=>?_) h;unfold Cn;refine T0 [0,1] ?_;refine Jo (fun⟨ad,ae,af,ag,ah,ai,aj,ak,al,am,an,ao,ap,aq,ar,au,av,aw,ax,ay,az,aA⟩=>⟨Aq 19 [],[.box (i64 ad::i64 ae::(C1 u8 af.l++[i64 ag,i64 ah,i64 ai,i64 aj,i64 ak,i64 al,i64 am,i64 an,i64 ao,i64 ap,i64 aq,i64 ar,i64 au,i64 av,i64 aw,.str ax,.sl false (L Ah ay),u64 az,u64 aA])) false]⟩) ?_ ?_
 ·intro aH aD;refine T0 [0,1,7,8] ?_;refine Sb ?_;refine Lo (fun⟨b,c,d,e,f,g,i,j,k,n,o,p,q,s,t,u,v,w,x,y,z,aa,ab⟩=>⟨Aq 19 [(0,.sl false (L A9 a)),(1,.fn 31 [.ref 0 0]),(7,i64 (a.length:Int)),(8,i64 b)],[.box (i64 c::i64 d::(C1 u8 e.l++[i64 f,i64 g,i64 i,i64 j,i64 k,i64 n,i64 o,i64 p,i64 q,i64 s,i64 t,i64 u,i64 v,i64 w,i64 x,.str y,.sl false (L Ah z),u64 aa,u64 ab])) false]⟩) (ws [0]) ?_;rintro⟨b,c,d,e,f,g,i,j,k,n,o,p,q,s,t,u,v,w,x,y,z,aa,ab⟩ aI aE aB aC;show BS a b c d e f g i j k n o p q s t u v w x y z aa ab=some aE→_;unfold BS;refine T0 [0,1,7,8,9] ?_;refine Sq <|Cd ?_ ?_
  ·refine Sk <|Tn <|Sq <|Sb <|T0 [0,1,5,7,8] ?_
   refine Ck fun aF =>Bd fun aJ aG =>Te [0,1,5,7,8,16] (Ao (l:=[]) (m:=[(16,31,[.agg (i64 (((nth a b.toNat).A).Zb)::i64 (((nth a b.toNat).A).No)::(C1 u8 (((nth a b.toNat).A).Zv1).l++i64 (((nth a b.toNat).A).Zw1)::i64 ((((nth a b.toNat).A).Zx1).Za)::i64 (((((nth a b.toNat).A).Zx1).Ref).Zb)::i64 (((((nth a b.toNat).A).Zx1).Ref).No)::i64 ((((nth a b.toNat).A).Zx1).Zn1)::i64 ((((nth a b.toNat).A).Zx1).Zb1)::i64 ((((nth a b.toNat).A).Zx1).Zc)::i64 ((((nth a b.toNat).A).Zx1).Zo1)::i64 ((((nth a b.toNat).A).Zx1).Zw)::i64 ((((nth a b.toNat).A).Zx1).To)::i64 ((((nth a b.toNat).A).Zx1).Code)::i64 ((((nth a b.toNat).A).Zx1).Zp1)::i64 ((((nth a b.toNat).A).Zx1).Zq1)::i64 ((((nth a b.toNat).A).Zx1).Zr1)::i64 ((((nth a b.toNat).A).Zx1).Zs1)::.str ((((nth a b.toNat).A).Zx1).Zt1)::.sl false (L Ah ((((nth a b.toNat).A).Zx1).Zu1))::u64 ((((nth a b.toNat).A).Sig).C)::u64 ((((nth a b.toNat).A).Sig).S)::i64 (((nth a b.toNat).B).Zb)::i64 (((nth a b.toNat).B).No)::(C1 u8 (((nth a b.toNat).B).Zv1).l++[i64 (((nth a b.toNat).B).Zw1),i64 ((((nth a b.toNat).B).Zx1).Za),i64 (((((nth a b.toNat).B).Zx1).Ref).Zb),i64 (((((nth a b.toNat).B).Zx1).Ref).No),i64 ((((nth a b.toNat).B).Zx1).Zn1),i64 ((((nth a b.toNat).B).Zx1).Zb1),i64 ((((nth a b.toNat).B).Zx1).Zc),i64 ((((nth a b.toNat).B).Zx1).Zo1),i64 ((((nth a b.toNat).B).Zx1).Zw),i64 ((((nth a b.toNat).B).Zx1).To),i64 ((((nth a b.toNat).B).Zx1).Code),i64 ((((nth a b.toNat).B).Zx1).Zp1),i64 ((((nth a b.toNat).B).Zx1).Zq1),i64 ((((nth a b.toNat).B).Zx1).Zr1),i64 ((((nth a b.toNat).B).Zx1).Zs1),.str ((((nth a b.toNat).B).Zx1).Zt1),.sl false (L Ah ((((nth a b.toNat).B).Zx1).Zu1)),u64 ((((nth a b.toNat).B).Sig).C),u64 ((((nth a b.toNat).B).Sig).S)]))),.ref 0 0],[.box (i64 c::i64 d::(C1 u8 e.l++[i64 f,i64 g,i64 i,i64 j,i64 k,i64 n,i64 o,i64 p,i64 q,i64 s,i64 t,i64 u,i64 v,i64 w,i64 x,.str y,.sl false (L Ah z),u64 aa,u64 ab])) false],_,_)]) trivial ⟨(wc (KW aG) [0]),trivial⟩) (Ew1 (qR aF)) ?_
   refine Cd ?_ ?_
   ·refine T0 [4] ?_;exact Sr <|Br <|Tr <|Lr aC aB <|Br <|Jr aD <|Ro [0]
   ·refine Sk <|Bn <|Tn <|F0 [0,1,7,8] ?_
    exact Ln (ws [0])
  ·refine Sx <|Tx <|Lx aC aB <|Bx <|?_
   exact Jn ((ws (l':=[]) (σ':=[.box (i64 c::i64 d::(C1 u8 e.l++[i64 f,i64 g,i64 i,i64 j,i64 k,i64 n,i64 o,i64 p,i64 q,i64 s,i64 t,i64 u,i64 v,i64 w,i64 x,.str y,.sl false (L Ah z),u64 aa,u64 ab])) false]) [0]).trans (ws [0]))
 rintro⟨ad,ae,af,ag,ah,ai,aj,ak,al,am,an,ao,ap,aq,ar,au,av,aw,ax,ay,az,aA⟩;refine T0 [4] ?_;exact Sr <|Ro [0]
theorem Em{a b r}(h:BT a b=some r):Con B 30 [.sl false (L A9 a),.fn 31 [.ref 0 0]] [.box (Ad b) false] (fun r' σ'=>r'=.bool r.1∧σ'=[.box (Ad r.2) false]):=by
 refine Co 1 9 [.tmp 4] Tryz.func30 (fun F hE=>?_) h;unfold BT;refine T0 [0,1] ?_;refine Bd fun d c =>Te [4] (Ao (l:=[]) (m:=[(7,66,[.sl false (L A9 a),.fn 31 [.ref 0 0]],[.box (Ad b) false],_,_)]) trivial ⟨(wc (EZ c) [0]),trivial⟩) Ev ?_
 exact Sr <|Ro [0]
theorem JM{a r}(h:FK a=some r):Con B 32 [.sl false (L A9 a)] [] (fun r' σ'=>r'=.bs false 0 (r.length) 0 (r.length)∧σ'=[.buf 106 (L A9 r) false]):=by
 refine Co 0 8 [.tmp 2] Tryz.func32 (fun F hE=>?_) h;unfold FK;refine T0 [0] ?_;refine Sq ?_;intro h;refine PT hE 0 3 4 38 88 rfl rfl rfl rfl rfl rfl rfl (by decide) Tryz.underlying38 (fun b_ hb_=>?_);cases b_
 ·revert h;refine Cf <|Sk <|Tn <|Ck fun c =>?_
  have d:=c;simp only[Ao5,ApC,Ao7,Ape,Apr,ApG,Nat.reduceAdd]at d;refine Lt fun b e =>Te (fr':=[(2,.bs false 0 (b.length) 0 (b.length))]) (σ':=[.buf 106 (L A9 b) false]) [2] Aa (Ew3 c d e) ?_
  exact Sr <|Ro [0]
 ·obtain rfl:a=[]:=List.map_eq_nil_iff.1 (hb_ rfl);replace h:some ([])=some r:=by first|exact h|(split at h<;>first|exact h|cases h)
  revert h;refine Ct <|T0 [2] ?_
  refine Rw (Rz 2 106 rfl) ?_;exact Sr <|Tr <|Ro [0]
theorem Dk{e c d r}(h:Bv e c d=some r):Con B 10 [.agg (A3 e),.agg (Ak c),.agg (Ad d)] [] (fun r' σ'=>r'=.tup [.agg (Ak r.1),i64 r.2]∧σ'=[]):=by
 refine Cw 95 [.cell 6 40,.tmp 7] Tryz.func10 (fun F hE=>?_) h;unfold Bv;refine T0 [3,4,5,6] ?_;refine Sq <|Bd fun aj t =>Te [3,4,5,6,7] (o1 11 (NC t)) Ev ?_
 refine T0 [3,4,5,6,7,13] ?_;refine Cd ?_ ?_
 ·refine T0 [6,7] ?_;exact Sr <|Tr <|Rr
 ·refine Sk <|Tn <|Bd fun a u =>Te [3,4,5,6,8] (o1 19 (Jw u)) Ev ?_
  refine Sq ?_;refine Dw [[],[0],[],[2],[0,1,2,3],[0,1,2,3,4],[0,1,2,3,4,5],[0,1,2,3,4,5],[0,1,2,3,4,5,7],[0,1,2,3,4,5,7,8],[0,1,2,3,4,5,6,7,8,9],[0,1,2,3,4,5,6,7,8,9,10],[0,1,2,3,4,5],[0,1,2,3,4,5,6,7,8,9,10,11,12],[0,1,2,3,4,5,6,7,8,9,10,11,12,13]] [3,4,5,6,8,34] (fun p=>⟨Aq 95 [(3,.ref 0 0),(4,.ref 1 0),(5,.ref 2 0),(6,.ref 3 0),(8,.sl false (L Ad a)),(34,.bool p)],[.box (A3 e) false,.box (Ak c) false,.box (Ad d) false,.box [.sl true (L (cSl Ad) ([])),.sl true (L A9 ([]))] false]⟩) ?_ ?_
  ·intro _;refine Sp (fun k=>?_) fun k=>?_
   ·refine Ck fun v =>Bd fun ak w =>?_
    exact Lf (o1 33 (QG w)) (Ew2 k (qR v)) (ws [0,1,2,3])
   ·exact Lf Aa (Ew1 k) (ws [0,1,2,3])
  intro p;refine Cd ?_ ?_
  ·refine T0 [6,7] ?_;exact Sr <|Tr <|Rr
  ·refine Sk <|Tn <|Sq <|Bd fun al x =>Te [3,4,5,6,7,8] (o1 38 (LN x)) Ev ?_
   refine T0 [3,4,5,6,7,8,40] ?_;refine Cd ?_ ?_
   ·refine T0 [6,7] ?_;exact Sr <|Tr <|Rr
   ·refine Sk <|Tn <|T0 [3,4,5,6,8] ?_
    refine Sq <|T0 [3,4,5,6,8,49] ?_
    refine Cd ?_ ?_
    ·refine Ck fun y =>Lt fun n z =>Te (σ':=[_,_,_,.box [.bs true 4 (n.length) 0 (n.length),.sl false (L A9 c.Zz1)] false,.buf 1 (L (cSl Ad) n) false]) [4,5,6,8] Aa (Ew2 y z) ?_
     refine Lt fun f aa =>Te (σ':=[_,_,_,.box [.bs true 4 (f.length) 0 (f.length),.sl false (L A9 c.Zz1)] false,.buf 1 (L (cSl Ad) f) false]) [5,6,8] Aa (Ew1 aa) ?_
     refine Bd fun g ab =>Ck fun ac =>Ck fun ad =>Lt fun j q =>?_
     intro h;refine Yk hE KE [[],[0],[],[2],[],[4],[],[6],[4,5,6,7],[0,1,2,3,4,5,6,7,8],[0,1,2,3,4,5,6,7,8,9]] (by kernel_rfl) [(5,2),(6,3),(64,3),(66,2)] [(69,2),(69,3)] [(69,5)] [] [5,6,64,66,69] (by kernel_rfl) (fr':=[(5,.ref 2 0),(6,.ref 3 0),(64,.ref 3 0),(66,.ref 2 0),(69,.bs false 5 (g.length) 0 (g.length))]) (σ':=[.box (A3 e) false,.box (Ak c) false,.box (Ad d) false,.box [.bs true 4 (j.length) 0 (j.length),.sl false (L A9 c.Zz1)] false,.buf 1 ((L (cSl Ad) f).set (d.Zb.toNat) [.bs false 5 ((g++([d]:List AoD)).length) 0 ((g++([d]:List AoD)).length)]) false,.buf 53 (L Ad (g++([d]:List AoD))) false]) ⟨rfl,rfl,rfl,rfl,trivial⟩ ⟨(by exact And.intro rfl (And.intro rfl rfl)),trivial⟩ trivial ⟨_,_,(Ao (l:=[]) (m:=[(69,29,[.sl false (L Ad a)],[.box (A3 e) false,.box (Ak c) false,.box (Ad d) false,.box [.bs true 4 (f.length) 0 (f.length),.sl false (L A9 c.Zz1)] false,.buf 1 (L (cSl Ad) f) false],_,_)]) trivial ⟨(wc (JA ab) []),trivial⟩),(by repeat' (first|exact trivial|(refine And.intro ?_ ?_)|exact fun _=>rfl|exact fun h=>absurd h (by decide))),?_⟩ ?_
     ·subst q;simp only[go_sem,ac,qR ad]
     revert h;refine Rw (T8 4 5 (cr:=Ad) (lg:=f) (lg':=j) (i:=d.Zb) (row:=(g++([d]:List AoD))) (full:=false) (σ':=[.box (A3 e) false,.box (Ak c) false,.box (Ad d) false,.box [.bs true 4 (j.length) 0 (j.length),.sl false (L A9 c.Zz1)] false,.buf 1 (L (cSl Ad) j) false,.buf 53 (L Ad (g++([d]:List AoD))) true]) (by assumption) rfl rfl (by decide) gs q rfl) ?_;refine T0 [6,7] ?_;exact Sr <|Tr <|Rr
    ·refine Sk <|Tn <|?_
     refine Ja (fun s=>⟨Aq 95 [(6,.ref 0 0)],[.box [.sl false (L (cSl Ad) c.Zy1),.sl false (L A9 s)] false]⟩) ?_ ?_
     ·intro am;refine Bd fun b ae =>Te [4,5,6,8,79] (Ao (l:=[]) (m:=[(78,30,[.sl false (L A9 c.Zz1),.fn 31 [.ref 2 0]],[.box (A3 e) false,.box (Ak c) false,.box (Ad d) false,.box (Ak c) false],_,_)]) trivial ⟨(wc (Em ae) [2]),trivial⟩) Ev ?_
      refine Cd ?_ ?_
      ·refine Bd fun an af =>Ck fun ag =>Ck fun ah =>Lt fun o ai =>?_
       intro h;refine Qf hE KE [[],[0],[0,1],[],[],[4],[4,5],[3,4,5,6],[3,4,5,6,7],[],[3,4,5,6,7,8,9],[3,4,5,6,7,8,9,10],[0,1,2,3,4,5,6,7,8,9,10,11],[0,1,2,3,4,5,6,7,8,9,10,11,12],[0,1,2,3,4,5,6,7,8,9,10,11,12,13]] (by kernel_rfl) [(5,2),(84,2)] [(82,2)] [] [83,87] [5,6,83,84,87] (by kernel_rfl) O8 (fr':=[(5,.ref 2 0),(6,.ref 3 0),(83,.sl false (L Ad a)),(84,.ref 2 1),(87,.rp (i64 ((nth a ((w64 (b.2.No-1)).toNat)).Zb)::i64 ((nth a ((w64 (b.2.No-1)).toNat)).No)::(C1 u8 ((nth a ((w64 (b.2.No-1)).toNat)).Zv1).l++[i64 ((nth a ((w64 (b.2.No-1)).toNat)).Zw1),i64 (((nth a ((w64 (b.2.No-1)).toNat)).Zx1).Za),i64 ((((nth a ((w64 (b.2.No-1)).toNat)).Zx1).Ref).Zb),i64 ((((nth a ((w64 (b.2.No-1)).toNat)).Zx1).Ref).No),i64 (((nth a ((w64 (b.2.No-1)).toNat)).Zx1).Zn1),i64 (((nth a ((w64 (b.2.No-1)).toNat)).Zx1).Zb1),i64 (((nth a ((w64 (b.2.No-1)).toNat)).Zx1).Zc),i64 (((nth a ((w64 (b.2.No-1)).toNat)).Zx1).Zo1),i64 (((nth a ((w64 (b.2.No-1)).toNat)).Zx1).Zw),i64 (((nth a ((w64 (b.2.No-1)).toNat)).Zx1).To),i64 (((nth a ((w64 (b.2.No-1)).toNat)).Zx1).Code),i64 (((nth a ((w64 (b.2.No-1)).toNat)).Zx1).Zp1),i64 (((nth a ((w64 (b.2.No-1)).toNat)).Zx1).Zq1),i64 (((nth a ((w64 (b.2.No-1)).toNat)).Zx1).Zr1),i64 (((nth a ((w64 (b.2.No-1)).toNat)).Zx1).Zs1),.str (((nth a ((w64 (b.2.No-1)).toNat)).Zx1).Zt1),.sl false (L Ah (((nth a ((w64 (b.2.No-1)).toNat)).Zx1).Zu1)),u64 (((nth a ((w64 (b.2.No-1)).toNat)).Sig).C),u64 (((nth a ((w64 (b.2.No-1)).toNat)).Sig).S)])))]) (σ':=[.box (A3 e) false,.box (Ak c) false,.box (Ad b.2) false,.box [.sl false (L (cSl Ad) c.Zy1),.bs false 4 (o.length) 0 (o.length)] false,.buf 106 (L A9 o) false]) ⟨rfl,rfl,trivial⟩ trivial ⟨rfl,rfl,trivial⟩ ⟨_,_,(Ao (l:=[]) (m:=[(82,32,[.sl false (L A9 c.Zz1)],[.box (A3 e) false,.box (Ak c) false,.box (Ad b.2) false,.box (Ak c) false],_,_)]) trivial ⟨(wc (JM af) []),trivial⟩),(by repeat' (first|exact trivial|(refine And.intro ?_ ?_)|exact fun _=>rfl|exact fun h=>absurd h (by decide))),?_⟩ ?_
       ·subst ai;simp only[go_sem,qR ag,ah]
       revert h;exact Jm ((FI 3 1 rfl rfl rfl gs gs).trans (ws [3]))
      ·exact Sk <|Jm (ws [3])
     intro s;refine T0 [6,7] ?_;exact Sr <|Rr
theorem DC{d e b f c a r}(h:B3 d e b f c a=some r):Con B 21 [.agg (A3 d),.agg (Ak e),i64 b,u64 f,i64 c,.agg (AB a)] [] (fun r' σ'=>r'=.tup [.agg (Ad r.1),i64 r.2]∧σ'=[]):=by
 refine Cw 112 [.cell 12 52,.tmp 13] Tryz.func21 (fun F hE=>?_) h;unfold B3;refine T0 [2,3,4,6,7,11,12] ?_;refine Sq <|Bd fun y m =>Te [2,3,4,6,7,11,12,13] (o1 19 (DY m)) Ev ?_
 refine T0 [2,3,4,6,7,11,12,13,21] ?_;refine Cd ?_ ?_
 ·refine T0 [12,13] ?_;exact Sr <|Tr <|Rr
 ·refine Sk <|Tn <|Sq <|?_
  refine Tw [2,3,4,6,7,11,12,32] (fun i=>⟨Aq 112 [(2,i64 b),(3,u64 f),(4,i64 c),(6,.ref 0 0),(7,.ref 1 0),(11,.ref 2 0),(12,.ref 3 0),(32,.bool i)],[.box (A3 d) false,.box (Ak e) false,.box (AB a) false,.box (i64 0::i64 0::(C1 u8 (Arr.rep 32 (0:UInt8)).l++[i64 0,i64 0,i64 0,i64 0,i64 0,i64 0,i64 0,i64 0,i64 0,i64 0,i64 0,i64 0,i64 0,i64 0,i64 0,.str ([]:List UInt8),.sl true (L Ah ([])),u64 (0:UInt64),u64 (0:UInt64)])) false]⟩) ?_ ?_
  ·intro _;refine Sp (fun g=>?_) fun g=>?_
   ·exact Lf Aa (Ew1 g) (ws [0,1,2,3])
   ·exact Lf Aa (Ew1 g) (ws [0,1,2,3])
  intro i;refine Cd ?_ ?_
  ·refine T0 [12,13] ?_;exact Sr <|Tr <|Rr
  ·refine Sk <|Tn <|Bd fun z n =>Te [2,3,4,6,7,11,12,13,14] (o1 36 (IJ n)) Ev ?_
   refine Sq <|T0 [2,3,4,6,7,11,12,13,14,40] ?_
   refine Cd ?_ ?_
   ·refine T0 [12,13] ?_;exact Sr <|Tr <|Rr
   ·refine Sk <|Tn <|Sq <|Ck fun o =>Te [2,3,4,6,7,11,12,50] Aa (Ew1 (qR o)) ?_
    refine Cd ?_ ?_
    ·refine T0 [12,13] ?_;exact Sr <|Tr <|Rr
    ·refine Sk <|Tn <|Bd fun aa p =>Te [2,3,4,6,7,11,12,15] (o1 54 (Jw p)) Ev ?_
     refine Lt fun j q =>Te (σ':=[_,_,_,_,.box (i64 b::i64 j::(C1 u8 (Arr.rep 32 (0:UInt8)).l++[i64 c,i64 a.Za,i64 a.Ref.Zb,i64 a.Ref.No,i64 a.Zn1,i64 a.Zb1,i64 a.Zc,i64 a.Zo1,i64 a.Zw,i64 a.To,i64 a.Code,i64 a.Zp1,i64 a.Zq1,i64 a.Zr1,i64 a.Zs1,.str a.Zt1,.sl false (L Ah a.Zu1),u64 (0:UInt64),u64 (0:UInt64)])) false]) [3,6,7,12,15,16] Aa (Ew1 q) ?_
     refine Jo (fun k=>⟨Aq 112 [(3,u64 f),(6,.ref 0 0),(7,.ref 1 0),(12,.ref 2 0),(16,.ref 3 0)],[.box (A3 d) false,.box (Ak e) false,.box (i64 0::i64 0::(C1 u8 (Arr.rep 32 (0:UInt8)).l++[i64 0,i64 0,i64 0,i64 0,i64 0,i64 0,i64 0,i64 0,i64 0,i64 0,i64 0,i64 0,i64 0,i64 0,i64 0,.str ([]:List UInt8),.sl true (L Ah ([])),u64 (0:UInt64),u64 (0:UInt64)])) false,.box (i64 b::i64 j::(C1 u8 k.l++[i64 c,i64 a.Za,i64 a.Ref.Zb,i64 a.Ref.No,i64 a.Zn1,i64 a.Zb1,i64 a.Zc,i64 a.Zo1,i64 a.Zw,i64 a.To,i64 a.Code,i64 a.Zp1,i64 a.Zq1,i64 a.Zr1,i64 a.Zs1,.str a.Zt1,.sl false (L Ah a.Zu1),u64 (0:UInt64),u64 (0:UInt64)])) false]⟩) ?_ ?_
     ·intro ab s;refine T0 [3,6,7,12,15,16,64] ?_;refine Cd ?_ ?_
      ·refine Ck fun t =>Bd fun ac u =>Te [3,6,7,12,13,16] (o1 72 (ID u)) (Ew1 (qR t)) ?_
       refine T0 [3,6,7,12,13,16,77] ?_;refine Cd ?_ ?_
       ·refine T0 [12,13] ?_;exact Sr <|Jr s <|Rr
       ·exact Sk <|Jn (ws [0,1,3,4])
      ·exact Sk <|Jn (ws [0,1,3,4])
     intro k;refine Bd fun ad v =>Te [3,6,7,12,13,16,17] (o1 82 (Fy v)) Ev ?_
     refine Sq <|T0 [3,6,7,12,13,16,17,86] ?_
     refine Cd ?_ ?_
     ·refine T0 [12,13] ?_;exact Sr <|Tr <|Rr
     ·refine Sk <|Tn <|Sq <|Bd fun ae w =>Te [6,7,12,13,16] (o1 92 (QU w)) Ev ?_
      refine T0 [6,7,12,13,16,97] ?_;refine Cd ?_ ?_
      ·refine T0 [12,13] ?_;exact Sr <|Tr <|Rr
      ·refine Sk <|Tn <|Sq <|Bd fun af x =>Te [12,13,16] (o1 104 (Dk x)) Ev ?_
       refine T0 [12,13,16,108] ?_;refine Cd ?_ ?_
       ·refine T0 [12,13] ?_;exact Sr <|Tr <|Rr
       ·refine Sk <|Tn <|T0 [12,13] ?_
        exact Sr <|Rr
theorem K4{a b r}(h:Iy a b=some r):Con B 94 [.agg (AB a),u8 b] [] (fun r' σ'=>r'=i64 r∧σ'=[]):=by
 refine Cw 48 [.tmp 4] Tryz.func94 (fun F hE=>?_) h;unfold Iy;refine T0 [1,2] ?_;refine Sq <|T0 [2,5] ?_
 refine Sb <|T0 [2,5,6] ?_
 refine Cd ?_ ?_
 ·refine T0 [4] ?_;exact Sr <|Br <|Tr <|Rr
 ·refine T0 [2,5,10] ?_;refine Cd ?_ ?_
  ·refine T0 [4] ?_;exact Sr <|Br <|Tr <|Rr
  ·refine T0 [2,5,14] ?_;refine Cd ?_ ?_
   ·refine T0 [4] ?_;exact Sr <|Br <|Tr <|Rr
   ·refine T0 [2,5,18] ?_;refine Cd ?_ ?_
    ·refine T0 [4] ?_;exact Sr <|Br <|Tr <|Rr
    ·refine T0 [2,5,22] ?_;refine Cd ?_ ?_
     ·refine T0 [4] ?_;exact Sr <|Br <|Tr <|Rr
     ·refine T0 [2,5,26] ?_;refine Cd ?_ ?_
      ·refine T0 [4] ?_;exact Sr <|Br <|Tr <|Rr
      ·refine T0 [2,5,30] ?_;refine Cd ?_ ?_
       ·refine T0 [4] ?_;exact Sr <|Br <|Tr <|Rr
       ·refine T0 [2,5,34] ?_;refine Cd ?_ ?_
        ·refine T0 [4] ?_;exact Sr <|Br <|Tr <|Rr
        ·refine T0 [2,5,38] ?_;refine Cd ?_ ?_
         ·refine T0 [4] ?_;exact Sr <|Br <|Tr <|Rr
         ·refine T0 [2,42] ?_;refine Cd ?_ ?_
          ·refine T0 [4] ?_;exact Sr <|Br <|Tr <|Rr
          ·refine Sk <|Bn <|Tn <|T0 [4] ?_
           exact Sr <|Rr
theorem Lp{a b r}(h:E2 a b=some r):Con B 95 [.sl false (L Ah a),.sl false (L Ah b)] [] (fun r' σ'=>r'=.bool r∧σ'=[]):=by
 refine Cw 26 [.tmp 4] Tryz.func95 (fun F hE=>?_) h;unfold E2;refine T0 [0,1] ?_;refine Sq <|T0 [0,1,10] ?_
 refine Cd ?_ ?_
 ·refine T0 [4] ?_;exact Sr <|Tr <|Rr
 ·refine Sk <|Tn <|?_
  refine Jo (fun _=>⟨Aq 26 [],[]⟩) ?_ ?_
  ·intro m f;refine T0 [0,1,5] ?_;refine Sb ?_;refine Lo (fun c=>⟨Aq 26 [(0,.sl false (L Ah a)),(1,.sl false (L Ah b)),(5,i64 c)],[]⟩) (ws []) ?_;rintro c n g d e;show Cq a b c=some g→_;unfold Cq;refine Sq <|T0 [0,1,5,14] ?_
   refine Cd ?_ ?_
   ·refine Sk <|Tn <|Sq <|Sb <|Ck fun i =>Ck fun j =>Lt fun k l =>De (fr':=[(0,_),(1,_),(5,_),(25,.bool k)]) [[],[],[0,1],[0,1,2],[],[],[4,5],[4,5,6],[0,1,2,3,4,5,6,7]] [0,1,5,25] Aa (Ew3 (qR i) (qR j) l) ?_
    refine Cd ?_ ?_
    ·refine T0 [4] ?_;exact Sr <|Br <|Tr <|Lr e d <|Br <|Jr f <|Rr
    ·refine Sk <|Bn <|Tn <|F0 [0,1,5] ?_
     exact Ln (ws [])
   ·refine Sx <|Tx <|Lx e d <|Bx <|?_
    exact Jn ((ws (l':=[]) (σ':=[]) []).trans (ws []))
  intro _;refine T0 [4] ?_;exact Sr <|Rr
theorem SP{a b r}(h:JY a b=some r):Con B 55 [.agg (AB a),.agg (AB b)] [] (fun r' σ'=>r'=.bool r∧σ'=[]):=by
 refine Cw 45 [.tmp 4] Tryz.func55 (fun F hE=>?_) h;unfold JY;refine T0 [2,3] ?_;refine Jo (fun _=>⟨Aq 45 [(2,.ref 0 0),(3,.ref 1 0)],[.box (AB a) false,.box (AB b) false]⟩) ?_ ?_
 ·intro u o;refine T0 [2,3,5] ?_;refine Sb ?_;refine Lo (fun e=>⟨Aq 45 [(2,.ref 0 0),(3,.ref 1 0),(5,i64 e)],[.box (AB a) false,.box (AB b) false]⟩) (ws [0,1]) ?_;rintro e v p g i;show ED a b e=some p→_;unfold ED;refine Sq <|T0 [2,3,5,7] ?_
  refine Cd ?_ ?_
  ·refine Sk <|Tn <|Sq <|Sb <|Ck fun j =>?_
   have k:=j;simp only[Ao5,ApC,Ao7,Ape,Apr,ApG,Nat.reduceAdd]at k;refine Bd fun w q =>Ck fun l =>?_
   have m:=l;simp only[Ao5,ApC,Ao7,Ape,Apr,ApG,Nat.reduceAdd]at m;refine Bd fun x s =>De [[],[],[1],[0,1,2],[],[],[5],[0,1,2,3,4,5,6],[0,1,2,3,4,5,6,7]] [2,3,5,18] (o2 13 (K4 q) 17 (K4 s)) (Ew4 (qR j) k (qR l) m) ?_
   refine Cd ?_ ?_
   ·refine T0 [4] ?_;exact Sr <|Br <|Tr <|Lr i g <|Br <|Jr o <|Rr
   ·refine Sk <|Bn <|Tn <|F0 [2,3,5] ?_
    exact Ln (ws [0,1])
  ·refine Sx <|Tx <|Lx i g <|Bx <|?_
   exact Jn ((ws (l':=[(2,.ref 0 0),(3,.ref 1 0)]) (σ':=[.box (AB a) false,.box (AB b) false]) [0,1]).trans (ws [0,1]))
 intro _;refine Tw [4] (fun n=>⟨Aq 45 [(4,.bool n)],[]⟩) ?_ ?_
 ·intro _;refine Sp (fun c=>?_) fun c=>?_
  ·refine Sp (fun d=>?_) fun d=>?_
   ·refine Sp (fun f=>?_) fun f=>?_
    ·refine Bd fun y t=>?_
     exact Lf (o1 43 (Lp t)) (Ew3 c d f) (ws [])
    ·exact Lf Aa (Ew3 c d f) (ws [])
   ·exact Lf Aa (Ew2 c d) (ws [])
  ·exact Lf Aa (Ew1 c) (ws [])
 intro n;exact Sr <|Rr
theorem Bs{f g r}(h:Bj f g=some r):Con B 19 [.agg (Ad f),.agg (Ad g)] [] (fun r' σ'=>r'=.bool r∧σ'=[]):=by
 refine Cw 45 [.tmp 4] Tryz.func19 (fun F hE=>?_) h;unfold Bj;refine T0 [2,3] ?_;refine Tw [4] (fun i=>⟨Aq 45 [(4,.bool i)],[]⟩) ?_ ?_
 ·intro _;refine Sp (fun a=>?_) fun a=>?_
  ·refine Sp (fun b=>?_) fun b=>?_
   ·refine Sp (fun c=>?_) fun c=>?_
    ·refine Sp (fun d=>?_) fun d=>?_
     ·refine Sp (fun e=>?_) fun e=>?_
      ·refine Bd fun k j=>?_
       exact Lf (o1 43 (SP j)) (Ew5 a b c d e) (ws [])
      ·exact Lf Aa (Ew5 a b c d e) (ws [])
     ·exact Lf Aa (Ew4 a b c d) (ws [])
    ·exact Lf Aa (Ew3 a b c) (ws [])
   ·exact Lf Aa (Ew2 a b) (ws [])
  ·exact Lf Aa (Ew1 a) (ws [])
 intro i;exact Sr <|Rr
theorem Od{a b r}(h:J3 a b=some r):Con B 16 [.sl false (L Ad a),.sl false (L Ad b)] [] (fun r' σ'=>r'=.bool r∧σ'=[]):=by
 refine Cw 27 [.tmp 4] Tryz.func16 (fun F hE=>?_) h;unfold J3;refine T0 [0,1] ?_;refine Sq <|T0 [0,1,10] ?_
 refine Cd ?_ ?_
 ·refine T0 [4] ?_;exact Sr <|Tr <|Rr
 ·refine Sk <|Tn <|?_
  refine Jo (fun _=>⟨Aq 27 [],[]⟩) ?_ ?_
  ·intro l f;refine T0 [0,1,5] ?_;refine Sb ?_;refine Lo (fun c=>⟨Aq 27 [(0,.sl false (L Ad a)),(1,.sl false (L Ad b)),(5,i64 c)],[]⟩) (ws []) ?_;rintro c m g d e;show GL a b c=some g→_;unfold GL;refine Sq <|T0 [0,1,5,14] ?_
   refine Cd ?_ ?_
   ·refine Sk <|Tn <|Sq <|Sb <|Ck fun i =>Ck fun j =>Bd fun n k =>De [[],[],[0,1],[0,1,2],[],[],[4,5],[4,5,6],[0,1,2,3,4,5,6,7],[0,1,2,3,4,5,6,7,8]] [0,1,5,26] (o1 25 (Bs k)) (Ew2 (qR i) (qR j)) ?_
    refine Cd ?_ ?_
    ·refine T0 [4] ?_;exact Sr <|Br <|Tr <|Lr e d <|Br <|Jr f <|Rr
    ·refine Sk <|Bn <|Tn <|F0 [0,1,5] ?_
     exact Ln (ws [])
   ·refine Sx <|Tx <|Lx e d <|Bx <|?_
    exact Jn ((ws (l':=[]) (σ':=[]) []).trans (ws []))
  intro _;refine T0 [4] ?_;exact Sr <|Rr
theorem L7{a b r}(h:Kh a b=some r):Con B 12 [.agg (Ak a),.agg (Ak b)] [] (fun r' σ'=>r'=.bool r∧σ'=[]):=by
 refine Cw 79 [.tmp 4] Tryz.func12 (fun F hE=>?_) h;unfold Kh;refine T0 [2,3] ?_;refine Sq ?_;refine Tw [2,3,22] (fun g=>⟨Aq 79 [(2,.ref 0 0),(3,.ref 1 0),(22,.bool g)],[.box (Ak a) false,.box (Ak b) false]⟩) ?_ ?_
 ·intro _;refine Sp (fun d=>?_) fun d=>?_
  ·exact Lf Aa (Ew1 d) (ws [0,1])
  ·exact Lf Aa (Ew1 d) (ws [0,1])
 intro g;refine Cd ?_ ?_
 ·refine T0 [4] ?_;exact Sr <|Tr <|Rr
 ·refine Sk <|Tn <|?_
  refine Jo (fun _=>⟨Aq 79 [(2,.ref 0 0),(3,.ref 1 0)],[.box (Ak a) false,.box (Ak b) false]⟩) ?_ ?_
  ·intro ab q;refine T0 [2,3,5] ?_;refine Sb ?_;refine Lo (fun e=>⟨Aq 79 [(2,.ref 0 0),(3,.ref 1 0),(5,i64 e)],[.box (Ak a) false,.box (Ak b) false]⟩) (ws [0,1]) ?_;rintro e ac s i j;show J8 a b e=some s→_;unfold J8;refine Sq <|T0 [2,3,5,27] ?_
   refine Cd ?_ ?_
   ·refine Sk <|Tn <|Sq <|Sb <|Ck fun t =>Ck fun u =>Bd fun ad v =>De [[],[0],[],[0,1,2],[0,1,2,3],[],[5],[],[5,6,7],[5,6,7,8],[0,1,2,3,4,5,6,7,8,9],[0,1,2,3,4,5,6,7,8,9,10]] [2,3,5,41] (o1 40 (Od v)) (Ew2 (qR t) (qR u)) ?_
    refine Cd ?_ ?_
    ·refine T0 [4] ?_;exact Sr <|Br <|Tr <|Lr j i <|Br <|Jr q <|Rr
    ·refine Sk <|Bn <|Tn <|F0 [2,3,5] ?_
     exact Ln (ws [0,1])
   ·refine Sx <|Tx <|Lx j i <|Bx <|?_
    exact Jn ((ws (l':=[(2,.ref 0 0),(3,.ref 1 0)]) (σ':=[.box (Ak a) false,.box (Ak b) false]) [0,1]).trans (ws [0,1]))
  intro _;refine Jo (fun _=>⟨Aq 79 [],[]⟩) ?_ ?_
  ·intro ae w;refine T0 [2,3,6] ?_;refine Sb ?_;refine Lo (fun c=>⟨Aq 79 [(2,.ref 0 0),(3,.ref 1 0),(6,i64 c)],[.box (Ak a) false,.box (Ak b) false]⟩) (ws [0,1]) ?_;rintro c af x k l;show JP a b c=some x→_;unfold JP;refine Sq <|T0 [2,3,6,46] ?_
   refine Cd ?_ ?_
   ·refine Sk <|Tn <|Sq <|Sb <|?_
    refine Dw [[],[0],[],[0,1,2],[0,1,2,3],[0,1,2,3,4],[],[6],[],[6,7,8],[6,7,8,9],[6,7,8,9,10],[0,1,2,3,4,5,6,7,8,9,10,11],[0,1,2,3,4,5,6,7,8,9,10,11,12],[0,1,2,3,4,5,6,7,8,9,10,11,12,13],[0,1,2,3,4,5,6,7,8,9,10,11,12,13,14],[0,1,2,3,4,5,6,7,8,9,10,11,12,13,14,15],[0,1,2,3,4,5,6,7,8,9,10,11,12,13,14],[0,1,2,3,4,5,6,7,8,9,10,11,12,13,14,15,16,17],[0,1,2,3,4,5,6,7,8,9,10,11,12,13,14,15,16,17,18],[0,1,2,3,4,5,6,7,8,9,10,11,12,13,14,15,16,17,18,19],[0,1,2,3,4,5,6,7,8,9,10,11,12,13,14],[0,1,2,3,4,5,6,7,8,9,10,11,12,13,14,21],[0,1,2,3,4,5,6,7,8,9,10,11,12,13,14],[0,1,2,3,4,5,6,7,8,9,10,11,12,13,14,21,22,23],[0,1,2,3,4,5,6,7,8,9,10,11,12,13,14,21,22,23,24],[0,1,2,3,4,5,6,7,8,9,10,11,12,13,14,21,22,23,24,25],[0,1,2,3,4,5,6,7,8,9,10,11,12,13,14,15,16,17,18,19,20,21,22,23,24,25,26],[0,1,2,3,4,5,6,7,8,9,10,11,12,13,14,15,16,17,18,19,20,21,22,23,24,25,26,27],[0,1,2,3,4,5,6,7,8,9,10,11,12,13,14,15,16,17,18,19,20,21,22,23,24,25,26,27,28]] [2,3,6,78] (fun m=>⟨Aq 79 [(2,.ref 0 0),(3,.ref 1 0),(6,i64 c),(78,.bool m)],[.box (Ak a) false,.box (Ak b) false]⟩) ?_ ?_
    ·intro _;refine Ck fun n =>Ck fun o =>Bd fun ag p =>?_
     refine Sp (fun f=>?_) fun f=>?_
     ·exact Lf (o1 61 (Bs p)) (Ew3 (qR n) (qR o) f) (ws [0,1])
     ·refine Ck fun y =>Ck fun z =>Bd fun ah aa =>?_
      exact Lf (o2 61 (Bs p) 76 (Bs aa)) (Ew5 (qR n) (qR o) f (qR y) (qR z)) (ws [0,1])
    intro m;refine Cd ?_ ?_
    ·refine T0 [4] ?_;exact Sr <|Br <|Tr <|Lr l k <|Br <|Jr w <|Rr
    ·refine Sk <|Bn <|Tn <|F0 [2,3,6] ?_
     exact Ln (ws [0,1])
   ·refine Sx <|Tx <|Lx l k <|Bx <|?_
    exact Jn ((ws (l':=[]) (σ':=[]) []).trans (ws []))
  intro _;refine T0 [4] ?_;exact Sr <|Rr
theorem BL{a b r}(h:CF a b=some r):Con B 23 [.agg (Ak a),i64 b] [] (fun r' σ'=>r'=i64 r∧σ'=[]):=by
 refine Cw 41 [.tmp 4] Tryz.func23 (fun F hE=>?_) h;unfold CF;refine T0 [1,2,4] ?_;refine Ja (fun i=>⟨Aq 41 [(4,i64 i)],[]⟩) ?_ ?_
 ·intro bu;refine T0 [1,4,8,9,10] ?_;refine Sb ?_;refine Lo (fun(v:Int×Int)=>(⟨Aq 41 [(1,i64 b),(4,i64 v.1),(8,.sl false (L A9 a.Zz1)),(9,i64 (a.Zz1.length:Int)),(10,i64 v.2)],[]⟩:St)) (ws []) ?_;rintro⟨e,f⟩ bv aI aJ aK;show G8 a b e f=some aI→_;unfold G8;refine T0 [1,4,8,9,10,11] ?_;refine Sq <|Cd ?_ ?_
  ·refine Sk <|Tn <|?_
   refine Ja (fun j=>⟨Aq 41 [(1,i64 b),(4,i64 j),(8,.sl false (L A9 a.Zz1)),(9,i64 (a.Zz1.length:Int)),(10,i64 f)],[]⟩) ?_ ?_
   ·intro bw;refine Sb <|Ck fun aL =>Lt fun k aM =>Lt fun m aN =>Lt fun n aO =>Lt fun o aP =>Lt fun p aQ =>Lt fun q aR =>Lt fun s aS =>Lt fun t aT =>Lt fun u aU =>Lt fun w aV =>Lt fun x aW =>Lt fun y aX =>Lt fun z aY =>Lt fun aa aZ =>Lt fun ab a0 =>Lt fun ac a1 =>Lt fun ad a2 =>Lt fun ae a3 =>Lt fun af a4 =>Lt fun ag a5 =>Lt fun ah a6 =>Lt fun ai a7 =>Lt fun aj a8 =>Lt fun ak a9 =>Lt fun al ba =>Lt fun am bb =>Lt fun an bc =>Lt fun ao bd =>Lt fun ap be =>Lt fun aq bf =>Lt fun ar bg =>Lt fun au bh =>Lt fun av bi =>Lt fun aw bj =>Lt fun ax bk =>Lt fun ay bl =>Lt fun az bm =>Lt fun aA bn =>Lt fun aB bo =>Lt fun aC bp =>Lt fun aD bq =>Lt fun aE br =>Lt fun aF bs =>Lt fun aG bt =>Te (σ':=[.box (i64 k::i64 m::(C1 u8 n.l++i64 o::i64 p::i64 q::i64 s::i64 t::i64 u::i64 w::i64 x::i64 y::i64 z::i64 aa::i64 ab::i64 ac::i64 ad::i64 ae::.str af::.sl false (L Ah ag)::u64 ah::u64 ai::i64 aj::i64 ak::(C1 u8 al.l++[i64 am,i64 an,i64 ao,i64 ap,i64 aq,i64 ar,i64 au,i64 av,i64 aw,i64 ax,i64 ay,i64 az,i64 aA,i64 aB,i64 aC,.str aD,.sl false (L Ah aE),u64 aF,u64 aG]))) false]) [1,4,6,8,9,10] Aa (Ev (by simp only[go_sem,qR aL,aM,aN,aO,aP,aQ,aR,aS,aT,aU,aV,aW,aX,aY,aZ,a0,a1,a2,a3,a4,a5,a6,a7,a8,a9,ba,bb,bc,bd,be,bf,bg,bh,bi,bj,bk,bl,bm,bn,bo,bp,bq,br,bs,bt];exact AP)) ?_
    refine Tw [1,4,6,8,9,10,35] (fun aH=>⟨Aq 41 [(1,i64 b),(4,i64 e),(6,.ref 0 0),(8,.sl false (L A9 a.Zz1)),(9,i64 (a.Zz1.length:Int)),(10,i64 f),(35,.bool aH)],[.box (i64 k::i64 m::(C1 u8 n.l++i64 o::i64 p::i64 q::i64 s::i64 t::i64 u::i64 w::i64 x::i64 y::i64 z::i64 aa::i64 ab::i64 ac::i64 ad::i64 ae::.str af::.sl false (L Ah ag)::u64 ah::u64 ai::i64 aj::i64 ak::(C1 u8 al.l++[i64 am,i64 an,i64 ao,i64 ap,i64 aq,i64 ar,i64 au,i64 av,i64 aw,i64 ax,i64 ay,i64 az,i64 aA,i64 aB,i64 aC,.str aD,.sl false (L Ah aE),u64 aF,u64 aG]))) false]⟩) ?_ ?_
    ·intro _;refine Sp (fun c=>?_) fun c=>?_
     ·refine Sp (fun d=>?_) fun d=>?_
      ·refine Sp (fun g=>?_) fun g=>?_
       ·exact Lf Aa (Ew3 c d g) (ws [0])
       ·exact Lf Aa (Ew3 c d g) (ws [0])
      ·exact Lf Aa (Ew2 c d) (ws [0])
     ·exact Lf Aa (Ew1 c) (ws [0])
    intro aH;refine Cd ?_ ?_
    ·refine F0 [1,4,8,9,10] ?_;exact Bn <|Jm (ws [])
    ·exact Sk <|Bn <|Jm (ws [])
   intro j;refine F0 [1,4,8,9,10] ?_;exact Ln (ws [])
  ·refine Sx <|Tx <|Ly aK aJ <|Bx <|?_
   exact Jm ((ws (l':=[(4,i64 e)]) (σ':=[]) []).trans (ws []))
 intro i;refine T0 [4] ?_;exact Sr <|Rr
theorem LL{a r}(h:IC a=some r):Con B 61 [.agg (Ak a)] [] (fun r' σ'=>r'=.agg (Ak r)∧σ'=[]):=by
 refine Cw 34 [.cell 2 40] Tryz.func61 (fun F hE=>?_) h;unfold IC;refine T0 [1,2] ?_;refine Ja (fun c=>⟨Aq 34 [(2,.ref 0 0)],[.box [.bs false 1 (c.length) 0 (c.length),.sl true (L A9 ([]))] false,.buf 1 (L (cSl Ad) c) false]⟩) ?_ ?_
 ·intro u;refine T0 [1,2,7,8,9] ?_;refine Sb ?_;refine Lo (fun(v:Int×List (List AoD))=>(⟨Aq 34 [(1,.ref 0 0),(2,.ref 1 0),(7,.sl false (L (cSl Ad) a.Zy1)),(8,i64 (a.Zy1.length:Int)),(9,i64 v.1)],[.box (Ak a) false,.box [.bs false 2 (v.2.length) 0 (v.2.length),.sl true (L A9 ([]))] false,.buf 1 (L (cSl Ad) v.2) false]⟩:St)) ((Dm 1 0 1 rfl rfl).trans (ws [0,1,2])) ?_;rintro⟨e,b⟩ w g i j;show FO a e b=some g→_;unfold FO;refine T0 [1,2,7,8,9,10] ?_;refine Sq <|Cd ?_ ?_
  ·refine Sk <|Tn <|Sq <|Sb <|Ck fun k =>Lt fun l m =>Te (fr':=[(1,_),(2,_),(3,_),(4,.sl false (L Ad l)),(7,_),(8,_),(9,_)]) [1,2,3,4,7,8,9] Aa (Ew2 (qR k) m) ?_
   refine Ja (fun f=>⟨Aq 34 [(1,.ref 0 0),(2,.ref 1 0),(4,.sl false (L Ad f)),(7,.sl false (L (cSl Ad) a.Zy1)),(8,i64 (a.Zy1.length:Int)),(9,i64 e)],[.box (Ak a) false,.box [.bs false 2 (b.length) 0 (b.length),.sl true (L A9 ([]))] false,.buf 1 (L (cSl Ad) b) false]⟩) ?_ ?_
   ·intro x;refine Bd fun y n =>Te [1,2,4,5,7,8,9] (o1 16 (BL n)) Ev ?_
    refine T0 [1,2,4,5,7,8,9,18] ?_;refine Cd ?_ ?_
    ·refine Ck fun o =>Lt fun p q =>Fe (fr':=[(1,_),(2,_),(4,.sl false (L Ad p)),(7,_),(8,_),(9,_)]) [1,2,4,7,8,9] Aa (Ew2 o q) ?_
     exact Jm (ws [0,1,2])
    ·exact Sk <|Jm (ws [0,1,2])
   intro f;refine Ck fun s =>Lt fun d t =>Fe (σ':=[_,.box [.bs false 2 (d.length) 0 (d.length),.sl true (L A9 ([]))] false,.buf 1 (L (cSl Ad) d) false,_]) [1,2,7,8,9] Aa (Ew2 s t) ?_
   refine Bn <|Tn <|F0 [1,2,7,8,9] ?_
   exact Ln (ws [0,1,2])
  ·refine Sx <|Tx <|Ly j i <|Bx <|?_
   exact Jm ((ws (l':=[(2,.ref 0 0)]) (σ':=[.box [.bs false 1 (b.length) 0 (b.length),.sl true (L A9 ([]))] false,.buf 1 (L (cSl Ad) b) false]) [1,2]).trans (ws [0,1]))
 intro c;refine T0 [2] ?_;exact Sr <|Rr
theorem L9{a r}(h:Mb a=some r):Con B 62 [.agg (Ak a)] [] (fun r' σ'=>r'=.fn 100 [.ref 0 0]∧σ'=[.box (Ak r) false]):=by
 refine Co 0 4 [.tmp 2] Tryz.func62 (fun F hE=>?_) h;unfold Mb;refine T0 [1] ?_;refine T0 [2] ?_;exact Sr <|Ro [0]
theorem Afn{F:Out}{σ:Ab}{id:Nat}{a b:Int}{x:AV}:SB (B.env F) σ 138 (.mref id) (.agg [i64 a,i64 b]) x=(if Tg a b then(match σ[id]? with
 |some (.mp es)=>if x.closed=true then some (σ.set id (.mp (LY es (a,b) x)))else none
 |_=>none)else none):=Yr rfl rfl
attribute [local go_sem] Afn
theorem CT{n r}(h:Bz n=some r):Con B 24 [.agg (Ak n)] [] (fun r' σ'=>r'=.sl false (L A6 r)∧σ'=[]):=by
 refine Cm 78 [.cell 2 85] Tryz.func24 (fun F b_ hE=>?_) h;unfold Bz;refine T0 [1,2] ?_;refine Bd fun c aq =>Te [2,3] (o1 14 (LL aq)) Ev ?_
 refine T0 [2,3,4] ?_;refine T0 [2,3,4,5] ?_;refine Sq <|Bd fun d ar =>Te [2,3,4,5,17] (Ao (l:=[]) (m:=[(17,62,[.agg (Ak c)],[.box (Ak n) false,.box [.sl true (L A6 ([]))] false,.box (Ak c) false,.box [i64 0,i64 0] false,.mp (M2 Eh ([])),.box [.mref 4] false],_,_)]) trivial ⟨(wc (L9 ar) []),trivial⟩) Ev ?_
 refine Sb ?_;refine Rw (ws (l':=[(2,.ref 0 0),(3,.ref 1 0),(4,.ref 2 0),(5,.ref 3 0),(17,.fn 100 [.ref 4 0])]) (σ':=[.box [.sl true (L A6 ([]))] false,.box (Ak c) false,.box [i64 0,i64 0] false,.box [.mref 5] false,.box (Ak d) false,.mp (M2 Eh ([]))]) [1,2,3,5,6,4]) ?_;refine Bd ?_;rintro b hx_x_9418 hP_x_9418;refine Ra (fun(v:List ((Int×Int)×AoI))=>[.box [.sl true (L A6 ([]))] false,.box (Ak c) false,.box [i64 0,i64 0] false,.box [.mref 5] false,.box (Ak d) false,.mp (M2 Eh v)]) [(4,.ref 2 0),(5,.ref 3 0)] 6 [.box [.sl true (L A6 ([]))] false,.box (Ak c) false,.box [i64 0,i64 0] false,.box [.mref 5] false,.box (Ak d) false,.mp (M2 Eh ([]))] [.box [.sl true (L A6 ([]))] false,.box (Ak c) false,.box [i64 0,i64 0] false,.box [.mref 5] false,.box (Ak d) false,.mp (M2 Eh b),.gone] ?_ ?_ hx_x_9418 (⟨⟨by decide,rfl⟩,⟨by decide,rfl⟩,trivial⟩)
 ·intro lp_ ac_ bd_;rintro b j k f v_;show FS b j k f=some v_→Run _ _ _ ⟨Aq 78 [(19,.agg (Ad f)),(18,.agg [i64 j,i64 k]),(4,.ref 2 0),(5,.ref 3 0)],[.box [.sl true (L A6 ([]))] false,.box (Ak c) false,.box [i64 0,i64 0] false,.box [.mref 5] false,.box (Ak d) false,.mp (M2 Eh b),.lp false 78 [(4,.ref 2 0),(5,.ref 3 0)] #[18,19] ac_ bd_,.box (Ad f) false]⟩ _;have hE:=ok.env { F:=F,rd:=some lp_ };unfold FS;refine T0 [4,5,6,19] ?_;refine F0 [4,5,6,7] ?_;refine Wp (Weak.refl _ _) ?_;refine Yb (N':=0) [.box [.sl true (L A6 ([]))] false,.box (Ak c) false,.box [i64 0,i64 0] false,.box [.mref 5] false,.box (Ak d) false,.mp (M2 Eh b),.lp true 78 [(4,.ref 2 0),(5,.ref 3 0)] #[18,19] ac_ bd_,.box (Ad f) false,.box [i64 j,i64 k] false,.box (Ad f) false] ?_;refine Sb <|T0 [4,5,6,7,8] ?_
  refine Tw [5,6,7,8,32] (fun s=>⟨Aq 78 [(5,.ref 3 0),(6,.ref 7 0),(7,.ref 8 0),(8,.ref 9 0),(32,.bool s)],[.box [.sl true (L A6 ([]))] false,.box (Ak c) false,.box [i64 0,i64 0] false,.box [.mref 5] false,.box (Ak d) false,.mp (M2 Eh b),.lp true 78 [(4,.ref 2 0),(5,.ref 3 0)] #[18,19] ac_ bd_,.box [i64 j,i64 k] false,.box (Ad f) false,.box [i64 f.Zx1.Ref.Zb,i64 f.Zx1.Ref.No] false]⟩) ?_ ?_
  ·intro _;refine Sp (fun o=>?_) fun o=>?_
   ·exact Lf Aa (Ew1 o) (ws [0,1,2,3,4,5,6,8,9,10])
   ·exact Lf Aa (Ew1 o) (ws [0,1,2,3,4,5,6,8,9,10])
  intro s;refine Cd ?_ ?_
  ·refine Ck fun au =>Lt fun t av =>Fe (σ':=[_,_,_,_,_,.mp (M2 Eh t),_,_,_,_]) [] Aa (Ew2 au av) ?_
   refine Bn ?_;refine Wp (ws (l':=[]) (σ':=[.box [.sl true (L A6 ([]))] false,.box (Ak c) false,.box [i64 0,i64 0] false,.box [.mref 5] false,.box (Ak d) false,.mp (M2 Eh t),.lp true 78 [(4,.ref 2 0),(5,.ref 3 0)] #[18,19] ac_ bd_]) [0,1,2,3,4,5,6]) ?_;exact Yf
  ·refine Sk <|Bn <|?_
   refine Wp (ws (l':=[]) (σ':=[.box [.sl true (L A6 ([]))] false,.box (Ak c) false,.box [i64 0,i64 0] false,.box [.mref 5] false,.box (Ak d) false,.mp (M2 Eh b),.lp true 78 [(4,.ref 2 0),(5,.ref 3 0)] #[18,19] ac_ bd_]) [0,1,2,3,4,5,6]) ?_;exact Yf
 ·revert hP_x_9418;refine Bn <|Tn <|?_
  refine Rw (ws (l':=[(2,.ref 0 0),(3,.ref 1 0),(4,.ref 2 0),(5,.ref 3 0)]) (σ':=[.box [.sl true (L A6 ([]))] false,.box (Ak c) false,.box [i64 0,i64 0] false,.box [.mref 5] false,.box (Ak d) false,.mp (M2 Eh b)]) [0,1,2,3,4,5]) ?_;refine Sq <|Bd fun e aw =>Te [2,4,5,43] (Ao (l:=[]) (m:=[(43,62,[.agg (Ak c)],[.box [.sl true (L A6 ([]))] false,.box (Ak c) false,.box [i64 0,i64 0] false,.box [.mref 5] false,.box (Ak d) false,.mp (M2 Eh b)],_,_)]) trivial ⟨(wc (L9 aw) []),trivial⟩) Ev ?_
  refine Sb ?_;refine Rw ((Dm 0 0 21 rfl rfl).trans (ws (l':=[(2,.ref 0 0),(4,.ref 1 0),(5,.ref 2 0),(43,.fn 100 [.ref 3 0])]) (σ':=[.box [.bs false 4 (([]:List AoI).length) 0 (([]:List AoI).length)] false,.box [i64 0,i64 0] false,.box [.mref 5] false,.box (Ak e) false,.buf 21 (L A6 ([])) false,.mp (M2 Eh b)]) [0,2,3,6,7,5])) ?_;refine Bd ?_;rintro a hx_x_9587 hP_x_9587;refine Ra (fun(v:List AoI)=>[.box [.bs false 4 (v.length) 0 (v.length)] false,.box [i64 0,i64 0] false,.box [.mref 5] false,.box (Ak e) false,.buf 21 (L A6 v) false,.mp (M2 Eh b)]) [(2,.ref 0 0),(4,.ref 1 0),(5,.ref 2 0)] 6 [.box [.bs false 4 (([]:List AoI).length) 0 (([]:List AoI).length)] false,.box [i64 0,i64 0] false,.box [.mref 5] false,.box (Ak e) false,.buf 21 (L A6 ([])) false,.mp (M2 Eh b)] [.box [.bs false 4 (a.length) 0 (a.length)] false,.box [i64 0,i64 0] false,.box [.mref 5] false,.box (Ak e) false,.buf 21 (L A6 a) false,.mp (M2 Eh b),.gone] ?_ ?_ hx_x_9587 (⟨⟨by decide,rfl⟩,⟨by decide,rfl⟩,⟨by decide,rfl⟩,trivial⟩)
  ·intro lp_ ac_ bd_;rintro a p q i v_;show FY b a p q i=some v_→Run _ _ _ ⟨Aq 78 [(45,.agg (Ad i)),(44,.agg [i64 p,i64 q]),(2,.ref 0 0),(4,.ref 1 0),(5,.ref 2 0)],[.box [.bs false 4 (a.length) 0 (a.length)] false,.box [i64 0,i64 0] false,.box [.mref 5] false,.box (Ak e) false,.buf 21 (L A6 a) false,.mp (M2 Eh b),.lp false 78 [(2,.ref 0 0),(4,.ref 1 0),(5,.ref 2 0)] #[44,45] ac_ bd_,.box (Ad i) false]⟩ _;have hE:=ok.env { F:=F,rd:=some lp_ };unfold FY;refine T0 [2,4,5,9,45] ?_;refine F0 [2,4,5,9,10] ?_;refine Wp (Weak.refl _ _) ?_;refine Yb (N':=0) [.box [.bs false 4 (a.length) 0 (a.length)] false,.box [i64 0,i64 0] false,.box [.mref 5] false,.box (Ak e) false,.buf 21 (L A6 a) false,.mp (M2 Eh b),.lp true 78 [(2,.ref 0 0),(4,.ref 1 0),(5,.ref 2 0)] #[44,45] ac_ bd_,.box (Ad i) false,.box [i64 p,i64 q] false,.box (Ad i) false] ?_;refine Sb <|Sq <|Lt fun ax ay =>Te (fr':=[(2,_),(4,_),(5,_),(9,_),(10,_),(50,.bool ax)]) [2,4,5,9,10,50] Aa (Ew1 ay) ?_
   refine Cd ?_ ?_
   ·refine Sx <|Tx <|Bx <|?_
    refine Wp (ws (l':=[]) (σ':=[.box [.bs false 4 (a.length) 0 (a.length)] false,.box [i64 0,i64 0] false,.box [.mref 5] false,.box (Ak e) false,.buf 21 (L A6 a) false,.mp (M2 Eh b),.lp true 78 [(2,.ref 0 0),(4,.ref 1 0),(5,.ref 2 0)] #[44,45] ac_ bd_]) [0,1,2,3,4,5,6]) ?_;exact Yf
   ·refine Sk <|Tn <|Ck fun az =>Lt fun aA aB =>Lt fun aC aD =>Lt fun aE aF =>Lt fun aG aH =>Lt fun aI aJ =>Lt fun aK aL =>Lt fun aM aN =>Lt fun aO aP =>Lt fun aQ aR =>Lt fun aS aT =>Lt fun aU aV =>Lt fun aW aX =>Lt fun aY aZ =>Lt fun a0 a1 =>Lt fun a2 a3 =>Lt fun a4 a5 =>Lt fun a6 a7 =>Lt fun a8 a9 =>Lt fun ba bb =>Lt fun bc bd =>Lt fun be bf =>Lt fun bg bh =>Te (fr':=[(2,_),(4,_),(9,_),(10,_),(11,_),(12,.bool aA)]) (σ':=[_,_,_,_,_,_,_,_,_,_,.box [i64 aC,i64 aE,i64 aG,i64 aI,i64 aK,i64 aM,i64 aO,i64 aQ,i64 aS,i64 aU,i64 aW,i64 aY,i64 a0,i64 a2,i64 a4,i64 a6,i64 a8,i64 ba,i64 bc,.str be,.sl false (L Ah bg)] false]) [2,4,9,10,11,12] Aa (Ev (by simp only[go_sem,az,aB,aD,aF,aH,aJ,aL,aN,aP,aR,aT,aV,aX,aZ,a1,a3,a5,a7,a9,bb,bd,bf,bh];exact AP)) ?_
    refine Jo (fun⟨u,w,x,y,z,aa,ab,ac,ad,ae,af,ag,ah,ai,aj,ak,al,am,an,ao,ap⟩=>⟨Aq 78 [(2,.ref 0 0),(4,.ref 1 0),(11,.ref 7 0)],[.box [.bs false 4 (a.length) 0 (a.length)] false,.box [i64 0,i64 0] false,.box [.mref 5] false,.box (Ak e) false,.buf 21 (L A6 a) false,.mp (M2 Eh b),.lp true 78 [(2,.ref 0 0),(4,.ref 1 0),(5,.ref 2 0)] #[44,45] ac_ bd_,.box [i64 u,i64 w,i64 x,i64 y,i64 z,i64 aa,i64 ab,i64 ac,i64 ad,i64 ae,i64 af,i64 ag,i64 ah,i64 ai,i64 aj,i64 ak,i64 al,i64 am,i64 an,.str ao,.sl false (L Ah ap)] false]⟩) ?_ ?_
    ·intro bl bi;refine T0 [2,4,9,10,11,58] ?_;refine Cd ?_ ?_
     ·refine F0 [2,4,11] ?_;exact Jn (ws [0,1,2,3,4,5,6,10])
     ·refine T0 [2,4,11,69] ?_;refine Cd ?_ ?_
      ·refine Sx <|Jx bi <|Bx <|?_
       refine Wp (ws (l':=[]) (σ':=[.box [.bs false 4 (a.length) 0 (a.length)] false,.box [i64 0,i64 0] false,.box [.mref 5] false,.box (Ak e) false,.buf 21 (L A6 a) false,.mp (M2 Eh b),.lp true 78 [(2,.ref 0 0),(4,.ref 1 0),(5,.ref 2 0)] #[44,45] ac_ bd_]) [0,1,2,3,4,5,6]) ?_;exact Yf
      ·exact Sk <|Jn (ws [0,1,2,3,4,5,6,10])
    rintro⟨u,w,x,y,z,aa,ab,ac,ad,ae,af,ag,ah,ai,aj,ak,al,am,an,ao,ap⟩;refine T0 [2,11] ?_;refine Ck fun bj =>Lt fun g bk =>Fe (σ':=[.box [.bs false 4 (g.length) 0 (g.length)] false,_,_,_,.buf 21 (L A6 g) false,_,_,_,_]) [] Aa (Ew2 bj bk) ?_
    refine Bn ?_;refine Wp (ws (l':=[]) (σ':=[.box [.bs false 4 (g.length) 0 (g.length)] false,.box [i64 0,i64 0] false,.box [.mref 5] false,.box (Ak e) false,.buf 21 (L A6 g) false,.mp (M2 Eh b),.lp true 78 [(2,.ref 0 0),(4,.ref 1 0),(5,.ref 2 0)] #[44,45] ac_ bd_]) [0,1,2,3,4,5,6]) ?_;exact Yf
  ·revert hP_x_9587;refine Bn <|Tn <|?_
   refine Rw (ws (l':=[(2,.ref 0 0)]) (σ':=[.box [.bs false 4 (a.length) 0 (a.length)] false,.box [i64 0,i64 0] false,.box [.mref 5] false,.box (Ak e) false,.buf 21 (L A6 a) false,.mp (M2 Eh b)]) [0,1,2,3,4,5]) ?_;refine T0 [2] ?_;exact Sr <|Rr
theorem Pa{r}(h:law14_sane  = some r):Con B 6 [] [] (fun r' σ'=>r'=.bool r∧σ'=[]):=by
 refine Cw 203 [.tmp 0] Tryz.func6 (fun F hE=>?_) h;unfold law14_sane;refine T0 [] ?_;refine Bd fun aF al =>Te [1] (o1 25 (MV al)) Ev ?_
 refine T0 [1,2] ?_;refine Bd fun aG am =>Bd fun aH an =>De [[],[],[],[0,1,2],[0,1,2,3],[0,1,2,3,4],[0,1,2,3,4],[],[0,1,2,3,4,5,7],[0,1,2,3,4,5,6,7,8]] [1,2,3,4] (o2 30 (DU am) 31 (DC an)) Ev ?_
 refine Bd fun ao ap =>Te [1,2,3,4,5,6] (o1 38 (Dk ap)) Ev ?_
 refine Bd fun aI aq =>Te [1,2,3,4,5,6,7,8] (o1 45 (Dk aq)) Ev ?_
 refine Bd fun aJ ar =>Bd fun aK au =>De [[],[],[],[0,1,2],[0,1,2,3],[0,1,2,3,4],[0,1,2,3,4],[],[0,1,2,3,4,5,7],[0,1,2,3,4,5,6,7,8]] [1,2,3,4,5,6,7,8,10] (o2 51 (DU ar) 52 (DC au)) Ev ?_
 refine Bd fun aL av =>Bd fun aw ax =>De [[],[],[],[0,1,2],[0,1,2,3],[0,1,2,3,4],[0,1,2,3,4],[],[0,1,2,3,4,5,7],[0,1,2,3,4,5,6,7,8]] [1,2,3,4,5,6,7,8,10,11,12] (o2 58 (DU av) 59 (DC ax)) Ev ?_
 refine Bd fun ac ay =>Te [1,2,3,4,5,6,7,8,10,12,13,14] (o1 66 (Dk ay)) Ev ?_
 refine Bd fun aM az =>Bd fun ad aA =>De [[],[],[],[0,1,2],[0,1,2,3],[0,1,2,3,4],[0,1,2,3,4],[],[0,1,2,3,4,5,7],[0,1,2,3,4,5,6,7,8]] [1,2,3,4,5,6,7,8,10,12,13,14,16] (o2 72 (DU az) 73 (DC aA)) Ev ?_
 refine Bd fun ae aB =>Te [1,2,3,4,5,6,7,8,10,12,13,14,16,17,18] (o1 81 (DC aB)) Ev ?_
 refine Bd fun q aC =>Te [1,2,3,4,5,6,7,8,10,12,13,14,16,18,19,20] (o1 88 (Dk aC)) Ev ?_
 refine Bd fun af aD =>Te [3,4,5,6,7,8,10,12,13,14,16,18,19,20,22] (o1 96 (DC aD)) Ev ?_
 refine Tw [5,12,13,14,16,18,19,20,22,23] (fun x=>⟨Aq 203 [(5,.ref 0 0),(12,i64 aw.2),(13,.ref 1 0),(14,i64 ac.2),(16,i64 ad.2),(18,i64 ae.2),(19,.ref 2 0),(20,i64 q.2),(22,i64 af.2),(23,.bool x)],[.box (Ak ao.1) false,.box (Ak ac.1) false,.box (Ak q.1) false]⟩) ?_ ?_
 ·intro _;refine Sp (fun a=>?_) fun a=>?_
  ·refine Sp (fun b=>?_) fun b=>?_
   ·refine Sp (fun c=>?_) fun c=>?_
    ·refine Sp (fun f=>?_) fun f=>?_
     ·refine Sp (fun j=>?_) fun j=>?_
      ·refine Ck fun s=>?_
       refine Sp (fun n=>?_) fun n=>?_
       ·refine Sp (fun t=>?_) fun t=>?_
        ·refine Bd fun aN ag=>?_
         refine Sp (fun y=>?_) fun y=>?_
         ·exact Lf (o1 137 (L7 ag)) (Ev (by simp only[go_sem,a,b,Js,Kv,H9,c,f,j,qL s,n,t,y];exact AP)) (ws [3,7,10])
         ·exact Lf (o1 137 (L7 ag)) (Ev (by simp only[go_sem,a,b,Js,Kv,H9,c,f,j,qL s,n,t,y];exact AP)) (ws [3,7,10])
        ·exact Lf Aa (Ev (by simp only[go_sem,a,b,Js,Kv,H9,c,f,j,qL s,n,t];exact AP)) (ws [3,7,10])
       ·exact Lf Aa (Ev (by simp only[go_sem,a,b,Js,Kv,H9,c,f,j,qL s,n];exact AP)) (ws [3,7,10])
      ·exact Lf Aa (Ev (by simp only[go_sem,a,b,Js,Kv,H9,c,f,j];exact AP)) (ws [3,7,10])
     ·exact Lf Aa (Ev (by simp only[go_sem,a,b,Js,Kv,H9,c,f];exact AP)) (ws [3,7,10])
    ·exact Lf Aa (Ev (by simp only[go_sem,a,b,Js,Kv,H9,c];exact AP)) (ws [3,7,10])
   ·exact Lf Aa (Ew2 a b) (ws [3,7,10])
  ·exact Lf Aa (Ew1 a) (ws [3,7,10])
 intro x;refine Tw [16,18,19,20,22,23,24] (fun ah=>⟨Aq 203 [(16,i64 ad.2),(18,i64 ae.2),(19,.ref 0 0),(20,i64 q.2),(22,i64 af.2),(23,.bool x),(24,.bool ah)],[.box (Ak q.1) false]⟩) ?_ ?_
 ·intro _;refine Sp (fun d=>?_) fun d=>?_
  ·refine Sp (fun g=>?_) fun g=>?_
   ·refine Sp (fun k=>?_) fun k=>?_
    ·refine Bd fun aO u=>?_
     refine Sp (fun o=>?_) fun o=>?_
     ·refine Bd fun aP z=>?_
      refine Sp (fun v=>?_) fun v=>?_
      ·refine Bd fun aQ ai=>?_
       refine Sp (fun aa=>?_) fun aa=>?_
       ·refine Bd fun aR aE=>?_
        exact Lf (Fp (l:=[(157,_,_,_),(162,_,_,_),(167,_,_,_),(173,_,_,_)]) ⟨BL  u,BL  z,CT  ai,CT  aE,trivial⟩) (Ev (by simp only[go_sem,d,g,k,o,v,aa];exact AP)) (ws [2])
       ·exact Lf (Fp (l:=[(157,_,_,_),(162,_,_,_),(167,_,_,_)]) ⟨BL  u,BL  z,CT  ai,trivial⟩) (Ev (by simp only[go_sem,d,g,k,o,v,aa];exact AP)) (ws [2])
      ·exact Lf (o2 157 (BL u) 162 (BL z)) (Ew5 d g k o v) (ws [2])
     ·exact Lf (o1 157 (BL u)) (Ew4 d g k o) (ws [2])
    ·exact Lf Aa (Ew3 d g k) (ws [2])
   ·exact Lf Aa (Ew2 d g) (ws [2])
  ·exact Lf Aa (Ew1 d) (ws [2])
 intro ah;refine Tw [0] (fun aj=>⟨Aq 203 [(0,.bool aj)],[]⟩) ?_ ?_
 ·intro _;refine Sp (fun e=>?_) fun e=>?_
  ·refine Sp (fun i=>?_) fun i=>?_
   ·refine Sp (fun m=>?_) fun m=>?_
    ·refine Sp (fun p=>?_) fun p=>?_
     ·refine Sp (fun w=>?_) fun w=>?_
      ·refine Bd fun aS ak=>?_
       refine Sp (fun ab=>?_) fun ab=>?_
       ·exact Lf (o1 195 (CT ak)) (Ev (by simp only[go_sem,e,i,m,p,w,ab];exact AP)) (ws [])
       ·exact Lf (o1 195 (CT ak)) (Ev (by simp only[go_sem,e,i,m,p,w,ab];exact AP)) (ws [])
      ·exact Lf Aa (Ew5 e i m p w) (ws [])
     ·exact Lf Aa (Ew4 e i m p) (ws [])
    ·exact Lf Aa (Ew3 e i m) (ws [])
   ·exact Lf Aa (Ew2 e i) (ws [])
  ·exact Lf Aa (Ew1 e) (ws [])
 intro aj;exact Sr <|Rr
theorem Dt{b r}(h:EC b=some r):Con B 9 [.agg (AB b)] [] (fun r' σ'=>r'=.bool r∧σ'=[]):=by
 refine Cw 13 [.tmp 2] Tryz.func9 (fun F hE=>?_) h;unfold EC;refine T0 [1] ?_;refine Tw [2] (fun c=>⟨Aq 13 [(2,.bool c)],[]⟩) ?_ ?_
 ·intro _;refine Sp (fun a=>?_) fun a=>?_
  ·exact Lf Aa (Ew1 a) (ws [])
  ·exact Lf Aa (Ew1 a) (ws [])
 intro c;exact Sr <|Rr
end Go.Proofs.YtioapcamanmoiaaGreatDoor
