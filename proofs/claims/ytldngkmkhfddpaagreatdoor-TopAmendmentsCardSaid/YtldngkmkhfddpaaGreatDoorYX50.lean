/-
  Part 50.
-/
import Derived.Test.YtldngkmkhfddpaaGreatDoorYX48
import Derived.Test.YtldngkmkhfddpaaGreatDoorYX49
import Derived.KernelRfl
import Derived.Lib.Bytealg
import Derived.Lib.Join
namespace Go.Proofs.YtldngkmkhfddpaaGreatDoor
open Go.Rv
set_option linter.unusedVariables false
set_option linter.unusedSimpArgs false
set_option maxRecDepth 20000
variable {rs:AoO}
set_option maxHeartbeats 4000000
theorem I4{f a r}(h:CA f a=some r):Con (B rs) 27 [.ref 0 0,.agg (Aa a)] [.box [.bs false 1 (f.l.length) 0 (f.l.length)] false,.buf 1 (L Bc f.l) false] (fun r' O'=>r'=.tup []/\O'=[.box [.bs false 1 (r.l.length) 0 (r.l.length)] false,.buf 1 (L Bc r.l) false]):=by
 refine Co 2 69 [] Tryz.func27 (fun F hE=>?_) h;unfold CA;refine T0 [0,3] ?_;refine Bd fun aJ ab =>Lt fun t ac =>?_
 refine Tfe (O':=[.box [.bs false 1 (t.length) 0 (t.length)] false,.buf 1 (L Bc t) false,_]) [0,3] (Ag (l:=[]) (m:=[(10,25,[.ref 0 0,.sl false (L Bc ([([99,108,97,117,115,101]:List UInt8),a.Zd]:List (List UInt8)))],[.box [.bs false 1 (f.l.length) 0 (f.l.length)] false,.buf 1 (L Bc f.l) false,.box (Aa a) false],_,_)]) trivial ⟨(wc (Ap ab) [0,1]),trivial⟩) (Ew1 ac) ?_;refine Ja (fun g=>⟨Ai 69 [(0,.ref 0 0),(3,.ref 2 0)],[.box [.bs false 1 (g.length) 0 (g.length)] false,.buf 1 (L Bc g) false,.box (Aa a) false]⟩) ?_ ?_
 ·intro aK;refine T0 [0,3,12,13,14] ?_;refine Sb ?_;refine Lo (fun(v:Int×List (List UInt8))=>(⟨Ai 69 [(0,.ref 0 0),(3,.ref 2 0),(12,.sl false (L Af a.Ze)),(13,i64 (a.Ze.length:Int)),(14,i64 v.1)],[.box [.bs false 1 (v.2.length) 0 (v.2.length)] false,.buf 1 (L Bc v.2) false,.box (Aa a) false]⟩:St)) (ws [0,1,2]) ?_;rintro⟨u,i⟩ aL ad ae af;show B0 a u i=some ad->_;unfold B0;refine T0 [0,3,12,13,14,15] ?_;refine Sq <|Cd ?_ ?_
  ·refine Sk <|Tn <|?_
   refine Ja (fun s=>⟨Ai 69 [(0,.ref 0 0),(3,.ref 2 0),(12,.sl false (L Af a.Ze)),(13,i64 (a.Ze.length:Int)),(14,i64 u)],[.box [.bs false 1 (s.length) 0 (s.length)] false,.buf 1 (L Bc s) false,.box (Aa a) false]⟩) ?_ ?_
   ·intro aM;refine Sb <|Ck fun ag =>Lt fun c ah =>Lt fun b ai =>Lt fun d aj =>Te (O':=[_,_,_,.box [i64 c,i64 b,i64 d] false]) [0,3,4,5,12,13,14] Ab (Ew4 (qR ag) ah ai aj) ?_
    refine Ck fun z=>?_
    have aa:=z;simp only[Apv,ApR,Apc,Api,Apy,Aqn,Nat.reduceAdd]at aa;refine Bd fun ak al =>Ck fun am =>Bd fun aN an =>Lt fun e ao =>De (O':=[.box [.bs false 1 (e.length) 0 (e.length)] false,.buf 1 (L Bc e) false,_,_]) [[],[],[],[2],[1,2,3],[1,2,3,4],[],[],[7],[6,7,8],[6,7,8,9],[1,2,3,4,5,6,7,8,9,10],[0,1,2,3,4,5,6,7,8,9,10,11]] [0,3,5,12,13,14] (Ag (l:=[(25,_,_,_)]) (m:=[(31,25,[.ref 0 0,.sl false (L Bc ([nth ([([119,104,101,110]:List UInt8),([97,110,100]:List UInt8)]:List (List UInt8)) ((Qc u 1).toNat),nth ak c.toNat]:List (List UInt8)))],[.box [.bs false 1 (i.length) 0 (i.length)] false,.buf 1 (L Bc i) false,.box (Aa a) false,.box [i64 c,i64 b,i64 d] false],_,_)]) ⟨CK  al,trivial⟩ ⟨(wc (Ap an) [0,1]),trivial⟩) (Ew4 (qR z) (qR aa) (qR am) ao) ?_
    refine Sq <|T0 [0,3,5,12,13,14,36] ?_
    refine Cd ?_ ?_
    ·refine Bd fun aO ap =>Lt fun j aq =>?_
     refine Tfe (O':=[.box [.bs false 1 (j.length) 0 (j.length)] false,.buf 1 (L Bc j) false,_,_]) [0,3,5,12,13,14] (Ag (l:=[]) (m:=[(39,25,[.ref 0 0,.sl false (L Bc ([([105,115]:List UInt8)]:List (List UInt8)))],[.box [.bs false 1 (e.length) 0 (e.length)] false,.buf 1 (L Bc e) false,.box (Aa a) false,.box [i64 c,i64 b,i64 d] false],_,_)]) trivial ⟨(wc (Ap ap) [0,1]),trivial⟩) (Ew1 aq) ?_;refine Bd fun aP ar =>Lt fun w au =>Te (O':=[.box [.bs false 1 (w.length) 0 (w.length)] false,.buf 1 (L Bc w) false,_,_]) [0,3,12,13,14] (Ag (l:=[]) (m:=[(43,63,[.ref 0 0,i64 b],[.box [.bs false 1 (j.length) 0 (j.length)] false,.buf 1 (L Bc j) false,.box (Aa a) false,.box [i64 c,i64 b,i64 d] false],_,_)]) trivial ⟨(wc (C9 ar) [0,1]),trivial⟩) (Ew1 au) ?_
     exact Sx <|Tx <|Bx <|Jm (ws [0,1,2])
    refine Sk <|Tn <|Bd fun aQ av =>Lt fun k aw =>?_
    refine Tfe (O':=[.box [.bs false 1 (k.length) 0 (k.length)] false,.buf 1 (L Bc k) false,_,_]) [0,3,5,12,13,14] (Ag (l:=[]) (m:=[(46,25,[.ref 0 0,.sl false (L Bc ([([105,110]:List UInt8)]:List (List UInt8)))],[.box [.bs false 1 (e.length) 0 (e.length)] false,.buf 1 (L Bc e) false,.box (Aa a) false,.box [i64 c,i64 b,i64 d] false],_,_)]) trivial ⟨(wc (Ap av) [0,1]),trivial⟩) (Ew1 aw) ?_;refine Bd fun aR ax =>Lt fun n ay =>Te (O':=[.box [.bs false 1 (n.length) 0 (n.length)] false,.buf 1 (L Bc n) false,_,_]) [0,3,5,12,13,14] (Ag (l:=[]) (m:=[(50,63,[.ref 0 0,i64 b],[.box [.bs false 1 (k.length) 0 (k.length)] false,.buf 1 (L Bc k) false,.box (Aa a) false,.box [i64 c,i64 b,i64 d] false],_,_)]) trivial ⟨(wc (C9 ax) [0,1]),trivial⟩) (Ew1 ay) ?_
    refine Bd fun aS az =>Lt fun o aA =>?_
    refine Tfe (O':=[.box [.bs false 1 (o.length) 0 (o.length)] false,.buf 1 (L Bc o) false,_,_]) [0,3,5,12,13,14] (Ag (l:=[]) (m:=[(53,25,[.ref 0 0,.sl false (L Bc ([([46,46]:List UInt8)]:List (List UInt8)))],[.box [.bs false 1 (n.length) 0 (n.length)] false,.buf 1 (L Bc n) false,.box (Aa a) false,.box [i64 c,i64 b,i64 d] false],_,_)]) trivial ⟨(wc (Ap az) [0,1]),trivial⟩) (Ew1 aA) ?_;refine Bd fun aT aB =>Lt fun x aC =>Fe (O':=[.box [.bs false 1 (x.length) 0 (x.length)] false,.buf 1 (L Bc x) false,_,_]) [0,3,12,13,14] (Ag (l:=[]) (m:=[(57,63,[.ref 0 0,i64 d],[.box [.bs false 1 (o.length) 0 (o.length)] false,.buf 1 (L Bc o) false,.box (Aa a) false,.box [i64 c,i64 b,i64 d] false],_,_)]) trivial ⟨(wc (C9 aB) [0,1]),trivial⟩) (Ew1 aC) ?_
    exact Bn <|Jm (ws [0,1,2])
   intro s;refine F0 [0,3,12,13,14] ?_;exact Ln (ws [0,1,2])
  refine Sx <|Tx <|Ly af ae <|Bx <|?_
  exact Jm ((ws (l':=[(0,.ref 0 0),(3,.ref 2 0)]) (O':=[.box [.bs false 1 (i.length) 0 (i.length)] false,.buf 1 (L Bc i) false,.box (Aa a) false]) [0,1,2]).trans (ws [0,1,2]))
 intro g;refine Bd fun aU aD =>Lt fun p aE =>?_
 refine Tfe (O':=[.box [.bs false 1 (p.length) 0 (p.length)] false,.buf 1 (L Bc p) false,_]) [0,3] (Ag (l:=[]) (m:=[(61,25,[.ref 0 0,.sl false (L Bc ([([112,97,121]:List UInt8)]:List (List UInt8)))],[.box [.bs false 1 (g.length) 0 (g.length)] false,.buf 1 (L Bc g) false,.box (Aa a) false],_,_)]) trivial ⟨(wc (Ap aD) [0,1]),trivial⟩) (Ew1 aE) ?_;refine Bd fun aV aF =>Lt fun q aG =>Te (O':=[.box [.bs false 1 (q.length) 0 (q.length)] false,.buf 1 (L Bc q) false,_]) [0] (Ag (l:=[]) (m:=[(65,64,[.ref 0 0,.agg (xE a.Pay)],[.box [.bs false 1 (p.length) 0 (p.length)] false,.buf 1 (L Bc p) false,.box (Aa a) false],_,_)]) trivial ⟨(wc (JA aF) [0,1]),trivial⟩) (Ew1 aG) ?_
 refine Bd fun aW aH =>Lt fun y aI =>?_
 refine Ffe (O':=[.box [.bs false 1 (y.length) 0 (y.length)] false,.buf 1 (L Bc y) false,_]) [] (Ag (l:=[]) (m:=[(68,25,[.ref 0 0,.sl false (L Bc ([([59]:List UInt8)]:List (List UInt8)))],[.box [.bs false 1 (q.length) 0 (q.length)] false,.buf 1 (L Bc q) false,.box (Aa a) false],_,_)]) trivial ⟨(wc (Ap aH) [0,1]),trivial⟩) (Ew1 aI) ?_;exact Ro [0,1]
theorem NW{xs:List (List UInt8)}{sep:List UInt8}{r:List UInt8}(h:JR xs sep=some r):Con (B rs) 28 [.sl false (L Bc xs),.str sep] [] (fun r' O'=>r'=.str r/\O'=[]) :=
 Ae5 h
theorem NK{a r}(h:DY a=some r):Con (B rs) 12 [.agg (Ad a)] [] (fun r' O'=>r'=.tup [.str r.1,i64 r.2]/\O'=[]):=by
 refine Cw 50 [.tmp 2,.tmp 3] Tryz.func12 (fun F hE=>?_) h;unfold DY;refine T0 [1] ?_;refine Sq <|Bd fun an p =>Te [1,4] (o1 10 (Hm p)) Ev ?_
 refine T0 [1,4,12] ?_;refine Cd ?_ ?_
 ·refine T0 [2,3] ?_;exact Sr <|Tr <|Rr
 refine Sk <|Tn <|T0 [1,5] ?_
 refine Rw (Ir 1 0 1 rfl rfl) ?_;refine Bd fun q s =>Ck fun t =>Bd fun ao u =>Lt fun d w =>De (O':=[_,.box [.bs false 2 (d.length) 0 (d.length)] false,.buf 1 (L Bc d) false]) [[],[],[1],[],[],[4],[4,5],[3,4,5,6],[3,4,5,6,7],[1,2,3,4,5,6,7,8],[0,1,2,3,4,5,6,7,8,9]] [1,5] (Ag (l:=[(19,_,_,_)]) (m:=[(26,25,[.ref 1 0,.sl false (L Bc ([([116,97,114,105,102,102]:List UInt8),a.Zd,([102,111,114]:List UInt8),nth q ((w64 (a.For-1)).toNat),([123]:List UInt8)]:List (List UInt8)))],[.box (Ad a) false,.box [.bs true 2 0 0 0] false,.buf 1 (L Bc ([])) false],_,_)]) ⟨CK  s,trivial⟩ ⟨(wc (Ap u) [1,2]),trivial⟩) (Ew2 (qR t) w) ?_
 refine Ja (fun b=>⟨Ai 50 [(5,.ref 0 0)],[.box [.bs false 1 (b.length) 0 (b.length)] false,.buf 1 (L Bc b) false]⟩) ?_ ?_
 ·intro ap;refine T0 [5,28,29,30] ?_;refine Sb ?_;refine Lo (fun(v:Int×List (List UInt8))=>(⟨Ai 50 [(5,.ref 0 0),(28,.sl false (L Aa a.Zf)),(29,i64 (a.Zf.length:Int)),(30,i64 v.1)],[.box [.bs false 1 (v.2.length) 0 (v.2.length)] false,.buf 1 (L Bc v.2) false]⟩:St)) (ws [1,2]) ?_;rintro⟨x,c⟩ aq y z aa;show DS a x c=some y->_;unfold DS;refine T0 [5,28,29,30,31] ?_;refine Sq <|Cd ?_ ?_
  ·refine Sk <|Tn <|Sq <|Sb <|Ck fun ab =>Lt fun e ac =>Lt fun f ad =>Lt fun g ae =>Lt fun i af =>Lt fun j ag =>Lt fun k ah =>Te (O':=[_,_,.box (.str e::.sl false (L Af f)::i64 g::i64 i::(C1 i64 j.l++[.sl false (L cApi_Expr k)])) false]) [5,7,28,29,30] Ab (Ev (by simp only[go_sem,qR ab,ac,ad,ae,af,ag,ah];exact C2)) ?_
   refine Bd fun ar ai =>Lt fun n aj =>Fe (O':=[.box [.bs false 1 (n.length) 0 (n.length)] false,.buf 1 (L Bc n) false,_]) [5,28,29,30] (Ag (l:=[]) (m:=[(36,27,[.ref 0 0,.agg (.str e::.sl false (L Af f)::i64 g::i64 i::(C1 i64 j.l++[.sl false (L cApi_Expr k)]))],[.box [.bs false 1 (c.length) 0 (c.length)] false,.buf 1 (L Bc c) false,.box (.str e::.sl false (L Af f)::i64 g::i64 i::(C1 i64 j.l++[.sl false (L cApi_Expr k)])) false],_,_)]) trivial ⟨(wc (I4 ai) [0,1]),trivial⟩) (Ew1 aj) ?_
   refine Bn <|Tn <|F0 [5,28,29,30] ?_
   exact Ln (ws [0,1])
  refine Sx <|Tx <|Ly aa z <|Bx <|?_
  exact Jm ((ws (l':=[(5,.ref 0 0)]) (O':=[.box [.bs false 1 (c.length) 0 (c.length)] false,.buf 1 (L Bc c) false]) [0,1]).trans (ws [0,1]))
 intro b;refine Bd fun au ak =>Lt fun o al =>?_
 refine Tfe (O':=[.box [.bs false 1 (o.length) 0 (o.length)] false,.buf 1 (L Bc o) false]) [5] (Ag (l:=[]) (m:=[(40,25,[.ref 0 0,.sl false (L Bc ([([125]:List UInt8)]:List (List UInt8)))],[.box [.bs false 1 (b.length) 0 (b.length)] false,.buf 1 (L Bc b) false],_,_)]) trivial ⟨(wc (Ap ak) [0,1]),trivial⟩) (Ew1 al) ?_;refine Bd fun av am =>Te [8] (o1 45 (NW am)) Ev ?_
 refine Sq <|T0 [8,48] ?_
 refine Cd ?_ ?_
 ·refine T0 [2,3] ?_;exact Sr <|Tr <|Rr
 refine Sk <|Tn <|T0 [2,3] ?_
 exact Sr <|Rr
theorem Fv{a b r}(h:AR a b=some r):Con (B rs) 92 [.ref 1 0,.ref 3 0] [.box [.bs false 2 (a.code.length) 0 (a.code.length)] false,.box [.ref 0 0] false,.buf 3 (L Ak a.code) false,.box [i64 b] false] (fun r' O'=>r'=.tup []/\O'=[.box [.bs false 2 (r.code.length) 0 (r.code.length)] false,.box [.ref 0 0] false,.buf 3 (L Ak r.code) false,.box [i64 b] false]):=by
 refine Co 4 14 [] Tryz.func92 (fun F hE=>?_) h;unfold AR;refine Ck fun d =>Lt fun c e =>Ge (O':=[.box [.bs false 2 (c.length) 0 (c.length)] false,_,.buf 3 (L Ak c) false,_]) [[],[0],[0,1],[0,1,2],[],[],[5],[5,6],[5,6,7],[5,6,7,8],[0,1,2,3,4,5,6,7,8,9],[0,1,2,3,4,5,6,7,8,9,10],[0,1,2,3,4,5,6,7,8,9,10,11]] [] Ab (Ew2 (qR d) e) ?_
 exact Ro [0,1,2,3]
theorem A6{a c d e r}(h:Ar a c d e=some r):Con (B rs) 55 [.ref 0 0,i64 c,i64 d,i64 e] [.box [.bs false 1 (a.code.length) 0 (a.code.length)] false,.buf 3 (L Ak a.code) false] (fun r' O'=>r'=.fn 92 [.ref 2 0,.ref 3 0]/\O'=[.box [.bs false 1 (r.2.code.length) 0 (r.2.code.length)] false,.buf 3 (L Ak r.2.code) false,.box [.ref 0 0] false,.box [i64 r.1] false]):=by
 refine Co 2 29 [.tmp 8] Tryz.func55 (fun F hE=>?_) h;unfold Ar;refine T0 [1,2,3,4] ?_;refine Lt fun f i =>Te (O':=[_,_,_,.box [i64 f] false]) [1,2,3,4,9] Ab (Ew1 i) ?_
 refine Ck fun g =>Lt fun b j =>?_
 intro h;refine TZ hE mixed [[],[],[1],[1,2],[1,2,3],[],[],[],[5,6,7],[5,6,7,8],[1,2,3,4,5,6,7,8,9],[0,1,2,3,4,5,6,7,8,9,10],[0,1,2,3,4,5,6,7,8,9,10,11],[0,1,2,3,4,5,6,7,8,9,10,11,12]] (by kernel_rfl) [(4,2)] [] [(19,1)] [] [4,9,19] (by kernel_rfl) (fr':=[(4,.ref 2 0),(9,.ref 3 0),(19,.bs false 1 (a.code.length) 0 (a.code.length))]) (O':=[.box [.bs false 1 (b.length) 0 (b.length)] false,.buf 3 (L Ak b) false,.box [.ref 0 0] false,.box [i64 f] false]) ⟨rfl,trivial⟩ ⟨(by exact And.intro rfl (And.intro rfl rfl)),trivial⟩ trivial ⟨_,_,Ab,(by simp only[XOk]),?_⟩ ?_
 ·subst j;first|(simp only[go_sem,g];done)|(simp only[go_sem,g];simp only[AqP 1])
 revert h;refine T0 [8] ?_;exact Sr <|Ro [0,1,2,3]
variable {rs:AoO}
theorem NY{a r}(h:GZ a=some r):Con (B rs) 56 [.sl false (L Ak a)] [] (fun r' O'=>r'=.tup [i64 r.1,i64 r.2]/\O'=[]):=by
 refine Cw 149 [.tmp 2,.tmp 3] Tryz.func56 (fun F hE=>?_) h;unfold GZ;refine T0 [0,2] ?_;refine Sq <|T0 [0,2,16] ?_
 refine Cd ?_ ?_
 ·refine T0 [2,3] ?_;exact Sr <|Tr <|Rr
 refine Sk <|Tn <|Sq <|?_
 refine Tw [0,2,23] (fun ak=>⟨Ai 149 [(0,.sl false (L Ak a)),(2,i64 0),(23,.bool ak)],[]⟩) ?_ ?_
 ·intro _;refine Sp (fun x=>?_) fun x=>?_
  ·exact Lf Ab (Ew1 x) (ws [])
  refine Bd fun aT ax=>?_
  exact Lf (o1 22 (HP (fun h=>LV h) ax)) (Ew1 x) (ws [])
 intro ak;refine Cd ?_ ?_
 ·refine T0 [2,3] ?_;exact Sr <|Tr <|Rr
 refine Sk <|Tn <|Bd fun aU ay =>?_
 refine Tfe [0,2,4] (Ag (l:=[]) (m:=[(27,96,[.sl false (L IA ([(-1)]:List Int)),i64 (a.length:Int)],[],_,_)]) trivial ⟨(wc (KS ay) []),trivial⟩) Ev ?_;refine Ck fun az =>Lt fun y aA =>Te (fr':=[(0,_),(2,_),(4,.bs false 0 (y.length) 0 (y.length))]) (O':=[.buf 1 (L IA y) false]) [0,2,4] Ab (Ew2 (qL az) aA) ?_
 refine Jo (fun al=>⟨Ai 149 [(2,i64 al)],[]⟩) ?_ ?_
 ·intro aV am;refine T0 [0,2,4,30,31,32] ?_;refine Sb ?_;refine Lo (fun⟨o,b,c⟩=>⟨Ai 149 [(0,.sl false (L Ak a)),(2,i64 o),(4,.bs false 0 (c.length) 0 (c.length)),(30,.sl false (L Ak a)),(31,i64 (a.length:Int)),(32,i64 b)],[.buf 1 (L IA c) false]⟩) (ws [0]) ?_;rintro⟨o,b,c⟩ aW aB z aa;show FV a o b c=some aB->_;unfold FV;refine T0 [0,2,4,30,31,32,33] ?_;refine Sq <|Cd ?_ ?_
  ·refine Sk <|Tn <|?_
   refine Jo (fun(v:Int×List Int)=>(⟨Ai 149 [(0,.sl false (L Ak a)),(2,i64 v.1),(4,.bs false 0 (v.2.length) 0 (v.2.length)),(30,.sl false (L Ak a)),(31,i64 (a.length:Int)),(32,i64 b)],[.buf 1 (L IA v.2) false]⟩:St)) ?_ ?_
   ·intro aX an;refine Sb <|Ck fun aC =>Lt fun p aD =>Lt fun q aE =>Lt fun s aF =>Te (O':=[_,.box [i64 p,i64 q,i64 s] false]) [0,2,4,5,6,30,31,32] Ab (Ew4 (qR aC) aD aE aF) ?_
    refine Ck fun aG =>Te [0,2,4,5,6,7,30,31,32] Ab (Ew1 (qR aG)) ?_
    refine Sq <|T0 [0,2,4,5,6,7,30,31,32,42] ?_
    refine Cd ?_ ?_
    ·exact Sx <|Tx <|Bx <|Jn (ws [0])
    refine Sk <|Tn <|Bd fun aY aH =>Te [0,2,4,5,6,7,8,9,30,31,32] (o1 46 (NH aH)) Ev ?_
    refine Lt fun e aI =>Te (fr':=[(0,_),(2,_),(4,_),(5,_),(6,_),(7,_),(8,_),(10,i64 e),(30,_),(31,_),(32,_)]) [0,2,4,5,6,7,8,10,30,31,32] Ab (Ew1 aI) ?_
    refine Lt fun f aJ =>Te (fr':=[(0,_),(2,i64 f),(4,_),(5,_),(6,_),(7,_),(8,_),(10,_),(30,_),(31,_),(32,_)]) [0,2,4,5,6,7,8,10,30,31,32] Ab (Ew1 aJ) ?_
    refine Sq ?_;refine Tw [0,2,4,5,6,10,30,31,32,78] (fun ao=>⟨Ai 149 [(0,.sl false (L Ak a)),(2,i64 f),(4,.bs false 0 (c.length) 0 (c.length)),(5,i64 b),(6,.ref 1 0),(10,i64 e),(30,.sl false (L Ak a)),(31,i64 (a.length:Int)),(32,i64 b),(78,.bool ao)],[.buf 1 (L IA c) false,.box [i64 p,i64 q,i64 s] false]⟩) ?_ ?_
    ·intro _;refine Sp (fun g=>?_) fun g=>?_
     ·exact Lf Ab (Ew1 g) (ws [0,1])
     refine Sp (fun k=>?_) fun k=>?_
     ·refine Sp (fun t=>?_) fun t=>?_
      ·exact Lf Ab (Ew3 g k t) (ws [0,1])
      refine Sp (fun ab=>?_) fun ab=>?_
      ·exact Lf Ab (Ew4 g k t ab) (ws [0,1])
      exact Lf Ab (Ew4 g k t ab) (ws [0,1])
     refine Sp (fun ac=>?_) fun ac=>?_
     ·exact Lf Ab (Ew3 g k ac) (ws [0,1])
     exact Lf Ab (Ew3 g k ac) (ws [0,1])
    intro ao;refine Cd ?_ ?_
    ·refine T0 [2,3] ?_;exact Sr <|Tr <|Br <|Jr an <|Lr aa z <|Br <|Jr am <|Rr
    refine Sk <|Tn <|T0 [0,2,4,5,6,10,11,30,31,32] ?_
    refine Ja (fun i=>⟨Ai 149 [(0,.sl false (L Ak a)),(2,i64 f),(4,.bs false 0 (c.length) 0 (c.length)),(5,i64 b),(6,.ref 1 0),(10,i64 e),(11,.bs false 2 (i.length) 0 (i.length)),(30,.sl false (L Ak a)),(31,i64 (a.length:Int)),(32,i64 b)],[.buf 1 (L IA c) false,.box [i64 p,i64 q,i64 s] false,.buf 1 (L IA i) false]⟩) ?_ ?_
    ·intro aZ;refine Tw [0,2,4,5,6,10,11,30,31,32,86] (fun ap=>⟨Ai 149 [(0,.sl false (L Ak a)),(2,i64 f),(4,.bs false 0 (c.length) 0 (c.length)),(5,i64 b),(6,.ref 1 0),(10,i64 e),(11,.sl true (L IA ([]))),(30,.sl false (L Ak a)),(31,i64 (a.length:Int)),(32,i64 b),(86,.bool ap)],[.buf 1 (L IA c) false,.box [i64 p,i64 q,i64 s] false]⟩) ?_ ?_
     ·intro _;refine Sp (fun ad=>?_) fun ad=>?_
      ·exact Lf Ab (Ew1 ad) (ws [0,1])
      exact Lf Ab (Ew1 ad) (ws [0,1])
     intro ap;refine Cd ?_ ?_
     ·have aK:FT 1 8:=by decide
      refine Lt fun ae aL =>Fe (fr':=[(0,_),(2,_),(4,_),(5,_),(6,_),(10,_),(11,.bs false 3 (ae.length) 0 (ae.length)),(30,_),(31,_),(32,_)]) (O':=[_,_,_,.buf 1 (L IA ae) false]) [0,2,4,5,6,10,11,30,31,32] Ab (Ew2 aK aL) ?_
      exact Jm (ws [0,1,3])
     refine Sk ?_;exact Jm ((Md 11 1 rfl).trans (ws [0,1,2]))
    intro i;refine Ja (fun d=>⟨Ai 149 [(0,.sl false (L Ak a)),(2,i64 f),(4,.bs false 0 (c.length) 0 (c.length)),(5,i64 b),(10,i64 e),(11,.bs false 1 (d.length) 0 (d.length)),(30,.sl false (L Ak a)),(31,i64 (a.length:Int)),(32,i64 b)],[.buf 1 (L IA c) false,.buf 1 (L IA d) false]⟩) ?_ ?_
    ·intro a0;refine Tw [0,2,4,5,10,11,30,31,32,104] (fun aq=>⟨Ai 149 [(0,.sl false (L Ak a)),(2,i64 f),(4,.bs false 0 (c.length) 0 (c.length)),(5,i64 b),(10,i64 e),(11,.bs false 1 (i.length) 0 (i.length)),(30,.sl false (L Ak a)),(31,i64 (a.length:Int)),(32,i64 b),(104,.bool aq)],[.buf 1 (L IA c) false,.buf 1 (L IA i) false]⟩) ?_ ?_
     ·intro _;refine Sp (fun u=>?_) fun u=>?_
      ·refine Sp (fun af=>?_) fun af=>?_
       ·exact Lf Ab (Ew2 u af) (ws [0,2])
       exact Lf Ab (Ew2 u af) (ws [0,2])
      exact Lf Ab (Ew1 u) (ws [0,2])
     intro aq;refine Cd ?_ ?_
     ·refine Ck fun aM =>Lt fun ag aN =>Fe (fr':=[(0,_),(2,_),(4,_),(5,_),(10,_),(11,.bs false 1 (ag.length) 0 (ag.length)),(30,_),(31,_),(32,_)]) (O':=[_,.buf 1 (L IA ag) false,_]) [0,2,4,5,10,11,30,31,32] Ab (Ew2 aM aN) ?_
      exact Jm (ws [0,1])
     exact Sk <|Jm (ws [0,1])
    intro d;refine T0 [0,2,4,5,10,30,31,32,110,111,112] ?_;refine Sb ?_;refine Lo (fun(v:Int×List Int)=>(⟨Ai 149 [(0,.sl false (L Ak a)),(2,i64 f),(4,.bs false 0 (v.2.length) 0 (v.2.length)),(5,i64 b),(10,i64 e),(30,.sl false (L Ak a)),(31,i64 (a.length:Int)),(32,i64 b),(110,.bs false 1 (d.length) 0 (d.length)),(111,i64 (d.length:Int)),(112,i64 v.1)],[.buf 1 (L IA v.2) false,.buf 1 (L IA d) false]⟩:St)) (ws [0,1]) ?_;rintro⟨ah,j⟩ a1 aO ar au;show EN a b e d ah j=some aO->_;unfold EN;refine T0 [0,2,4,5,10,30,31,32,110,111,112,113] ?_;refine Sq <|Cd ?_ ?_
    ·refine Sk <|Tn <|Sq <|Sb <|Ck fun aP =>Te [0,2,4,5,10,13,30,31,32,110,111,112] Ab (Ew1 (qR aP)) ?_
     refine Sq ?_;refine Tw [0,2,4,5,10,13,30,31,32,110,111,112,139] (fun av=>⟨Ai 149 [(0,.sl false (L Ak a)),(2,i64 f),(4,.bs false 0 (j.length) 0 (j.length)),(5,i64 b),(10,i64 e),(13,i64 (nth d ah.toNat)),(30,.sl false (L Ak a)),(31,i64 (a.length:Int)),(32,i64 b),(110,.bs false 1 (d.length) 0 (d.length)),(111,i64 (d.length:Int)),(112,i64 ah),(139,.bool av)],[.buf 1 (L IA j) false,.buf 1 (L IA d) false]⟩) ?_ ?_
     ·intro _;refine Sp (fun n=>?_) fun n=>?_
      ·exact Lf Ab (Ew1 n) (ws [0,1])
      refine Sp (fun w=>?_) fun w=>?_
      ·exact Lf Ab (Ew2 n w) (ws [0,1])
      refine Ck fun aw=>?_
      refine Sp (fun ai=>?_) fun ai=>?_
      ·refine Ck fun aQ=>?_
       exact Lf Ab (Ew5 n w (qR aw) ai (qR aQ)) (ws [0,1])
      exact Lf Ab (Ew4 n w (qR aw) ai) (ws [0,1])
     intro av;refine Cd ?_ ?_
     ·refine T0 [2,3] ?_;exact Sr <|Tr <|Br <|Tr <|Lr au ar <|Br <|Br <|Jr an <|Lr aa z <|Br <|Jr am <|Rr
     refine Sk <|Tn <|Ck fun aR =>Lt fun aj aS =>Fe (fr':=[(0,_),(2,_),(4,.bs false 0 (aj.length) 0 (aj.length)),(5,_),(10,_),(30,_),(31,_),(32,_),(110,_),(111,_),(112,_)]) (O':=[.buf 1 (L IA aj) false,_]) [0,2,4,5,10,30,31,32,110,111,112] Ab (Ew2 (qR aR) aS) ?_
     refine Bn <|Tn <|F0 [0,2,4,5,10,30,31,32,110,111,112] ?_
     exact Ln (ws [0,1])
    refine Sx <|Tx <|Lx au ar <|Bx <|Bn <|?_
    exact Jn ((ws (l':=[(0,.sl false (L Ak a)),(2,i64 f),(4,.bs false 0 (j.length) 0 (j.length)),(30,.sl false (L Ak a)),(31,i64 (a.length:Int)),(32,i64 b)]) (O':=[.buf 1 (L IA j) false]) [0]).trans (ws [0]))
   rintro⟨a2,a3⟩;refine F0 [0,2,4,30,31,32] ?_;exact Ln (ws [0])
  refine Sx <|Tx <|Lx aa z <|Bx <|?_
  exact Jn ((ws (l':=[(2,i64 o)]) (O':=[]) []).trans (ws []))
 intro al;refine Sq <|T0 [2,147] ?_
 refine Cd ?_ ?_
 ·refine T0 [2,3] ?_;exact Sr <|Tr <|Rr
 refine Sk <|Tn <|T0 [2,3] ?_
 exact Sr <|Rr
variable {rs:AoO}
theorem GH{rec_:Ao3->AoT->Option (Ao3)}(hrec:∀{b:Ao3} {a:AoT} {r:Ao3},rec_ b a=some r->Con (B rs) 91 [.ref 0 0,.agg (xE a)] [.box [.bs false 1 (b.code.length) 0 (b.code.length)] false,.buf 3 (L Ak b.code) false] (fun r' O'=>r'=.tup []/\O'=[.box [.bs false 1 (r.code.length) 0 (r.code.length)] false,.buf 3 (L Ak r.code) false])){b:Ao3}{a:AoT}{r:Ao3}(h:B5 rec_ b a=some r):Con (B rs) 91 [.ref 0 0,.agg (xE a)] [.box [.bs false 1 (b.code.length) 0 (b.code.length)] false,.buf 3 (L Ak b.code) false] (fun r' O'=>r'=.tup []/\O'=[.box [.bs false 1 (r.code.length) 0 (r.code.length)] false,.buf 3 (L Ak r.code) false]):=by
 refine HU (N:=74) (rs:=[]) 2 rfl ok Tryz.func91 rfl (by decide +kernel) rfl rfl (Apq rfl) (fun F=>?_);have hE:=(ok (rs:=rs)).env F;unfold B5 at h;show Run ((B rs).env F) 2 _ ⟨Ai 74 [(0,.ref 0 0),(1,.agg (xE a))],[.box [.bs false 1 (b.code.length) 0 (b.code.length)] false,.buf 3 (L Ak b.code) false]⟩ _;refine BM ?_;revert h;refine T0 [0,3] ?_;refine T0 [0,3,7] ?_;refine Sb <|T0 [0,3,7,26] ?_
 refine Cd ?_ ?_
 ·refine Bd fun aH x =>Lt fun s y =>Fe (O':=[.box [.bs false 1 (s.length) 0 (s.length)] false,.buf 3 (L Ak s) false,_,_,_]) [] (Ag (l:=[]) (m:=[(31,55,[.ref 0 0,i64 1,i64 a.N,i64 0],[.box [.bs false 1 (b.code.length) 0 (b.code.length)] false,.buf 3 (L Ak b.code) false,.box (xE a) false],_,_)]) trivial ⟨(wc (A6 x) [0,1]),trivial⟩) (Ew1 y) ?_
  exact Bn <|Ro [0,1]
 refine T0 [0,3,7,32] ?_;refine Cd ?_ ?_
 ·refine Bd fun aI z =>Lt fun t aa =>Fe (O':=[.box [.bs false 1 (t.length) 0 (t.length)] false,.buf 3 (L Ak t) false,_,_,_]) [] (Ag (l:=[]) (m:=[(37,55,[.ref 0 0,i64 2,i64 a.N,i64 0],[.box [.bs false 1 (b.code.length) 0 (b.code.length)] false,.buf 3 (L Ak b.code) false,.box (xE a) false],_,_)]) trivial ⟨(wc (A6 z) [0,1]),trivial⟩) (Ew1 aa) ?_
  exact Bn <|Ro [0,1]
 refine T0 [0,3,38] ?_;refine Cd ?_ ?_
 ·refine Ck fun ab =>Bd fun aJ ac =>Lt fun c ad =>Te (O':=[.box [.bs false 1 (c.length) 0 (c.length)] false,.buf 3 (L Ak c) false,_]) [0,3] (Ag (l:=[]) (m:=[(45,91,[.ref 0 0,.agg (i64 ((nth a.L 0).Op)::i64 ((nth a.L 0).N)::(C1 i64 ((nth a.L 0).Unit).l++[.sl false (L cApi_Expr ((nth a.L 0).L))]))],[.box [.bs false 1 (b.code.length) 0 (b.code.length)] false,.buf 3 (L Ak b.code) false,.box (xE a) false],_,_)]) trivial ⟨(wc (hrec ac) [0,1]),trivial⟩) (Ew2 (qL ab) ad) ?_
  refine Ck fun ae =>Bd fun aK af =>Lt fun d ag =>Te (O':=[.box [.bs false 1 (d.length) 0 (d.length)] false,.buf 3 (L Ak d) false,_]) [0,3] (Ag (l:=[]) (m:=[(51,91,[.ref 0 0,.agg (i64 ((nth a.L 1).Op)::i64 ((nth a.L 1).N)::(C1 i64 ((nth a.L 1).Unit).l++[.sl false (L cApi_Expr ((nth a.L 1).L))]))],[.box [.bs false 1 (c.length) 0 (c.length)] false,.buf 3 (L Ak c) false,.box (xE a) false],_,_)]) trivial ⟨(wc (hrec af) [0,1]),trivial⟩) (Ew2 (qL ae) ag) ?_
  refine Bd fun e ah =>Lt fun f ai =>Te (O':=[.box [.bs false 1 (f.length) 0 (f.length)] false,.buf 3 (L Ak f) false,_,_,_]) [0,3] (Ag (l:=[]) (m:=[(53,55,[.ref 0 0,i64 11,i64 0,i64 0],[.box [.bs false 1 (d.length) 0 (d.length)] false,.buf 3 (L Ak d) false,.box (xE a) false],_,_)]) trivial ⟨(wc (A6 ah) [0,1]),trivial⟩) (Ew1 ai) ?_
  refine Bd fun q aj =>Lt fun g ak =>Te (O':=[.box [.bs false 1 (g.length) 0 (g.length)] false,.buf 3 (L Ak g) false,_,_,_,_,_]) [0,3,4] (Ag (l:=[]) (m:=[(55,55,[.ref 0 0,i64 13,i64 0,i64 0],[.box [.bs false 1 (f.length) 0 (f.length)] false,.buf 3 (L Ak f) false,.box (xE a) false,.box [.ref 0 0] false,.box [i64 e.1] false],_,_)]) trivial ⟨(wc (A6 aj) [0,1]),trivial⟩) (Ew1 ak) ?_
  refine Ck fun al =>Bd fun aL am =>Lt fun i an =>Te (O':=[.box [.bs false 1 (i.length) 0 (i.length)] false,.buf 3 (L Ak i) false,_,_,_,_,_]) [0,3,4] (Ag (l:=[]) (m:=[(61,91,[.ref 0 0,.agg (i64 ((nth a.L 2).Op)::i64 ((nth a.L 2).N)::(C1 i64 ((nth a.L 2).Unit).l++[.sl false (L cApi_Expr ((nth a.L 2).L))]))],[.box [.bs false 1 (g.length) 0 (g.length)] false,.buf 3 (L Ak g) false,.box (xE a) false,.box [.ref 0 0] false,.box [i64 e.1] false,.box [.ref 0 0] false,.box [i64 q.1] false],_,_)]) trivial ⟨(wc (hrec am) [0,1]),trivial⟩) (Ew2 (qL al) an) ?_
  refine Bd fun u ao =>Lt fun j ap =>Te (O':=[.box [.bs false 1 (j.length) 0 (j.length)] false,.buf 3 (L Ak j) false,_,_,_,_,_,_,_]) [0,3,4,5] (Ag (l:=[]) (m:=[(63,55,[.ref 0 0,i64 14,i64 0,i64 0],[.box [.bs false 1 (i.length) 0 (i.length)] false,.buf 3 (L Ak i) false,.box (xE a) false,.box [.ref 0 0] false,.box [i64 e.1] false,.box [.ref 0 0] false,.box [i64 q.1] false],_,_)]) trivial ⟨(wc (A6 ao) [0,1]),trivial⟩) (Ew1 ap) ?_
  refine Bd fun aM aq =>Lt fun k ar =>Te (O':=[.box [.bs false 1 (k.length) 0 (k.length)] false,.buf 3 (L Ak k) false,_,_,_,_,_,_,_]) [0,3,5] (Ag (l:=[]) (m:=[(65,92,[.ref 5 0,.ref 6 0],[.box [.bs false 1 (j.length) 0 (j.length)] false,.buf 3 (L Ak j) false,.box (xE a) false,.box [.ref 0 0] false,.box [i64 e.1] false,.box [.ref 0 0] false,.box [i64 q.1] false,.box [.ref 0 0] false,.box [i64 u.1] false],_,_)]) trivial ⟨(wc (Fv aq) [0,5,1,6]),trivial⟩) (Ew1 ar) ?_
  refine Ck fun au =>Bd fun aN av =>Lt fun n aw =>Te (O':=[.box [.bs false 1 (n.length) 0 (n.length)] false,.buf 3 (L Ak n) false,_,_,_,_,_,_,_]) [5] (Ag (l:=[]) (m:=[(71,91,[.ref 0 0,.agg (i64 ((nth a.L 3).Op)::i64 ((nth a.L 3).N)::(C1 i64 ((nth a.L 3).Unit).l++[.sl false (L cApi_Expr ((nth a.L 3).L))]))],[.box [.bs false 1 (k.length) 0 (k.length)] false,.buf 3 (L Ak k) false,.box (xE a) false,.box [.ref 0 0] false,.box [i64 e.1] false,.box [.ref 0 0] false,.box [i64 q.1] false,.box [.ref 0 0] false,.box [i64 u.1] false],_,_)]) trivial ⟨(wc (hrec av) [0,1]),trivial⟩) (Ew2 (qL au) aw) ?_
  refine Bd fun aO ax =>Lt fun v ay =>Fe (O':=[.box [.bs false 1 (v.length) 0 (v.length)] false,.buf 3 (L Ak v) false,_,_,_,_,_,_,_]) [] (Ag (l:=[]) (m:=[(73,92,[.ref 7 0,.ref 8 0],[.box [.bs false 1 (n.length) 0 (n.length)] false,.buf 3 (L Ak n) false,.box (xE a) false,.box [.ref 0 0] false,.box [i64 e.1] false,.box [.ref 0 0] false,.box [i64 q.1] false,.box [.ref 0 0] false,.box [i64 u.1] false],_,_)]) trivial ⟨(wc (Fv ax) [0,7,1,8]),trivial⟩) (Ew1 ay) ?_
  exact Bn <|Ro [0,1]
 refine Ck fun az =>Bd fun aP aA =>Lt fun o aB =>Te (O':=[.box [.bs false 1 (o.length) 0 (o.length)] false,.buf 3 (L Ak o) false,_]) [0,3] (Ag (l:=[]) (m:=[(13,91,[.ref 0 0,.agg (i64 ((nth a.L 0).Op)::i64 ((nth a.L 0).N)::(C1 i64 ((nth a.L 0).Unit).l++[.sl false (L cApi_Expr ((nth a.L 0).L))]))],[.box [.bs false 1 (b.code.length) 0 (b.code.length)] false,.buf 3 (L Ak b.code) false,.box (xE a) false],_,_)]) trivial ⟨(wc (hrec aA) [0,1]),trivial⟩) (Ew2 (qL az) aB) ?_
 refine Ck fun aC =>Bd fun aQ aD =>Lt fun p aE =>Te (O':=[.box [.bs false 1 (p.length) 0 (p.length)] false,.buf 3 (L Ak p) false,_]) [0,3] (Ag (l:=[]) (m:=[(19,91,[.ref 0 0,.agg (i64 ((nth a.L 1).Op)::i64 ((nth a.L 1).N)::(C1 i64 ((nth a.L 1).Unit).l++[.sl false (L cApi_Expr ((nth a.L 1).L))]))],[.box [.bs false 1 (o.length) 0 (o.length)] false,.buf 3 (L Ak o) false,.box (xE a) false],_,_)]) trivial ⟨(wc (hrec aD) [0,1]),trivial⟩) (Ew2 (qL aC) aE) ?_
 refine Bd fun aR aF =>Lt fun w aG =>Fe (O':=[.box [.bs false 1 (w.length) 0 (w.length)] false,.buf 3 (L Ak w) false,_,_,_]) [] (Ag (l:=[]) (m:=[(25,55,[.ref 0 0,i64 (w64 ((w64 (3+a.Op))-3)),i64 0,i64 0],[.box [.bs false 1 (p.length) 0 (p.length)] false,.buf 3 (L Ak p) false,.box (xE a) false],_,_)]) trivial ⟨(wc (A6 aF) [0,1]),trivial⟩) (Ew1 aG) ?_
 exact Bn <|Ro [0,1]
theorem GC(n:Nat):∀{a:Ao3} {b:AoT} {r:Ao3},BZ n a b=some r->Con (B rs) 91 [.ref 0 0,.agg (xE b)] [.box [.bs false 1 (a.code.length) 0 (a.code.length)] false,.buf 3 (L Ak a.code) false] (fun r' O'=>r'=.tup []/\O'=[.box [.bs false 1 (r.code.length) 0 (r.code.length)] false,.buf 3 (L Ak r.code) false]):=by
 induction n with
 |zero=>intro a b r h;cases h
 |succ n ih=>intro a b r h;exact GH ih h
theorem Hg{a:Ao3}{b:AoT}{r:Ao3}(h:F5 a b=some r):Con (B rs) 91 [.ref 0 0,.agg (xE b)] [.box [.bs false 1 (a.code.length) 0 (a.code.length)] false,.buf 3 (L Ak a.code) false] (fun r' O'=>r'=.tup []/\O'=[.box [.bs false 1 (r.code.length) 0 (r.code.length)] false,.buf 3 (L Ak r.code) false]):=GC _ h
variable {rs:AoO}
theorem AfP{c:Ao3}{p:Int}{r:Ao3}(h:AR c p=some r):Ak9 (B rs) 92 [.ref 1 0,.rp [i64 p]] [.box [.bs false 2 (c.code.length) 0 (c.code.length)] false,.box [.ref 0 0] true,.buf 3 (L Ak c.code) false] (fun r' O'=>r'=.tup []/\O'=[.box [.bs false 2 (r.code.length) 0 (r.code.length)] false,.box [.ref 0 0] true,.buf 3 (L Ak r.code) false]):=by
 refine Cdf 3 14 [] Tryz.func92 (fun F hE=>?_) h;unfold AR;refine Ck fun hc =>Lt fun l hz =>Ge (O':=[.box [.bs false 2 (l.length) 0 (l.length)] false,_,.buf 3 (L Ak l) false]) [[],[0],[0,1],[0,1,2],[],[],[5],[5,6],[5,6,7],[5,6,7,8],[0,1,2,3,4,5,6,7,8,9],[0,1,2,3,4,5,6,7,8,9,10],[0,1,2,3,4,5,6,7,8,9,10,11]] [] Ab (Ew2 (qR hc) hz) ?_
 exact Ro [0,1,2]
def dOf(p:Nat×Nat×Int):Deferred:={ target:=.fn (.func 92) #[.pointer (some ⟨p.1,0,none⟩),.pointer (some ⟨p.2.1,0,none⟩)],args:=#[] }
structure Dk(rs:AoO)(F:Addr->Prop)(w0:World)(g0:Gh)(β0:Nat)(w:World)(g:Gh)(p:Nat×Nat×Int):Prop where
  fresh:∀β,β<w0.heap.size->¬Ft g0 β->β≠p.1
  a:∃t fz,w.heap[p.1]?=some (.cells #[.pointer (some ⟨β0,0,none⟩)] t fz)/\noFreeze fz 0 1
  am:¬Ft g p.1
  b:∃t fz,w.heap[p.2.1]?=some (.cells #[.int .i64 p.2.2] t fz)
  bm:¬Ft g p.2.1
  ne:p.2.1≠p.1
  fa:∀a,F a->a.block≠p.1/\a.block≠p.2.1
  ga:∀i cs,(B rs).G i=some cs->i≠p.1
  wa:∀i vs,(B rs).whole i=some vs->i≠p.1
section
variable {F:Addr->Prop}{w0 w w':World}{g0 g g':Gh}{β0:Nat}{p:Nat×Nat×Int}
theorem Dk.step(h:Dk rs F w0 g0 β0 w g p)(ha:w'.heap[p.1]?=w.heap[p.1]?/\¬Ft g' p.1)(hb:w'.heap[p.2.1]?=w.heap[p.2.1]?/\¬Ft g' p.2.1):Dk rs F w0 g0 β0 w' g' p:=by
 obtain⟨t,fz,h1,h2⟩:=h.a;obtain⟨t2,fz2,h3⟩:=h.b;exact⟨h.fresh,⟨t,fz,ha.1.trans h1,h2⟩,ha.2,⟨t2,fz2,hb.1.trans h3⟩,hb.2,h.ne,h.fa,h.ga,h.wa⟩
theorem Dk.lt(h:Dk rs F w0 g0 β0 w g p):p.1<w.heap.size/\p.2.1<w.heap.size:=by
 obtain⟨t,fz,h1,h2⟩:=h.a;obtain⟨t2,fz2,h3⟩:=h.b;exact⟨(Apl.1 h1).1,(Apl.1 h3).1⟩
theorem Dk.evo{E:Env}{n:Nat}(h:Dk rs F w0 g0 β0 w g p)(he:Evo E n w g w' g'):Dk rs F w0 g0 β0 w' g' p:=h.step (he.blocks _ h.lt.1 h.am) (he.blocks _ h.lt.2 h.bm)
end
abbrev AgH(L:List (Nat×Nat×Int)):Prop:=L.Pairwise fun p q=>q.1≠p.1/\q.2.1≠p.1
def At0(β0:Nat)(g:Gh):Prop:=∃b,g[0]?=some b/\b.blk=some β0/\b.isBox=true
theorem At0.evo{E:Env}{n:Nat}{w w':World}{g g':Gh}{β0:Nat}(h:At0 β0 g)(he:Evo E (n+1) w g w' g'):At0 β0 g':=by
 obtain⟨b,h1,h2,h3⟩:=h;obtain⟨b',k1,k2⟩:=he.ids 0 (Nat.succ_pos n) b h1;rcases k2 with k2|⟨k2,_⟩
 ·exact⟨b',k1,k2.1.trans h2,k2.2.2.2.2.2.trans h3⟩
 rw[h3]at k2;cases k2
abbrev clS(c:Ao3):Ac:=[.box [.bs false 1 (c.code.length) 0 (c.code.length)] false,.buf 3 (L Ak c.code) false]
theorem AbE{sel:List Nat}{g:Gh}(hs:∀i∈sel,i<g.length){id i:Nat}(h:sel[id]?=some i):(CG sel g)[id]?=g[i]?:=by
 have hi:i<g.length:=hs i (Apg h);rw[Ao9 hi];exact(A5 hs).2 ⟨i,h,Ao9 hi⟩
theorem Nz{fn:Func}{tmps:Array Value}{F:Addr->Prop}{w0:World}{g0:Gh}{β0:Nat}(hres:∀w,(results fn tmps).run (B rs).P w=.ok (.tuple #[]) w){c':Ao3}:∀(ls:List (Nat×Nat×Int)) (c:Ao3) (w:World) (g:Gh),Ch (ls.map (·.2.2)) c=some c'->Mem ((B rs).env F) w g (clS c)->At0 β0 g->Evo ((B rs).env F) 2 w0 g0 w g->(∀p∈ls,Dk rs F w0 g0 β0 w g p)->AgH ls ->Leaves (B rs).P fn tmps (fun e w'=>∃v r O' g',e=.returned v/\(r=.tup []/\O'=clS c')/\Mem ((B rs).env F) w' g' O'/\Evo ((B rs).env F) 2 w0 g0 w' g'/\Rep w' (A3 ((B rs).env F) g') g' v r) (ls.map dOf) .returning w
 |[],c,w,g,h,hm,h0,he,_,_=>by
  cases h;exact⟨.tuple #[],hres w,_,_,_,g,rfl,⟨rfl,rfl⟩,hm,he,.tup _ #[] [] rfl (fun i x h=>by simp at h)⟩
 | p :: ls,c,w,g,h,hm,h0,he,hD,hA=>by
  rw[ApL]at h;unfold Ch at h;rw[Apa]at h;obtain⟨c1,e1,e2⟩:=h;obtain⟨hp1,hp2⟩:=AqQ.1 hA;have hd:=hD p Apu;obtain⟨t,fz,ha1,ha2⟩:=hd.a;obtain⟨tb,fzb,hb1⟩:=hd.b;obtain⟨b0,q1,q2,q3⟩:=h0
  obtain⟨hadd,hprA⟩:=AfT hm ha1 rfl hd.am (fun a hF=>(hd.fa a hF).1) hd.ga hd.wa ha2 rfl (x:=.ref 0 0) (fun pr g' hle=>by
   obtain⟨b',k1,k2⟩:=hle 0 b0 q1;rcases k2 with k2|⟨k2,_⟩
   ·exact .ref _ 0 0 β0 b' k1 (k2.2.2.2.2.2.trans q3) (k2.1.trans q2)
   rw[q3]at k2;cases k2)
  have hgl:g.length=2:=hm.len;obtain⟨s1,s2,s3,s4⟩:=Jz (n:=0) (O':=[.box [.bs false 2 (c.code.length) 0 (c.code.length)] false,.box [.ref 0 0] true,.buf 3 (L Ak c.code) false]) hadd [0,2,1] (by decide) rfl gs
  have hminA:∀β,Ft (CG [0,2,1] (g++[⟨some p.1,0,1,1,0,true,true⟩])) β->Ft g β\/β=p.1:=by
   intro β hh;obtain⟨id,b,k1,k2⟩:=DC s1 hh;rcases ApX id g.length with hl|hl
   ·rw[Aph hl]at k1;exact .inl ⟨id,b,k1,k2⟩
   rw[Ape hl]at k1
   have:id-g.length=0:=by
    have:=(Ao6.1 k1).1;simp at this;exact this
   rw[this]at k1;cases k1;exact .inr (Ao8 k2).symm
  refine leaves_cons (f:=92) (args:=#[]++#[.pointer (some ⟨p.1,0,none⟩),.pointer (some ⟨p.2.1,0,none⟩)]) (by simp) ?_ ?_
  ·exact Ji Tryz.func92 rfl (by decide +kernel) _ _
  refine(AfP e1 F w _ _ .returning s2 ?_).mono ?_
  ·refine⟨?_,?_,trivial⟩
   ·refine .ref _ 1 0 p.1 ⟨some p.1,0,1,1,0,true,true⟩ ?_ rfl rfl;rw[AbE s1 (i:=2) rfl,Ape (by omega),hgl];rfl
   have hcell:w.cell? ⟨p.2.1,0,none⟩=some (.int .i64 p.2.2):=by
    unfold World.cell?;simp only[hb1];rfl
   refine .rp _ ⟨p.2.1,0,none⟩ [i64 p.2.2] (fun _=>.int .i64 p.2.2) (fun j x hj=>?_) (fun j x hj=>?_)
   ·match j,hj with
    |0,hj=>
     rw[Go.Rv.add_zero];refine⟨hcell,Bt (fun hF=>(hd.fa _ hF).2 rfl) (fun hh=>?_),rfl⟩;rcases hminA _ hh with k|k
     ·exact hd.bm k
     exact hd.ne k
   match j,hj with
   |0,hj=>cases hj;exact .int _ _ _
  rintro e u' w' ⟨rfl,v,r,O',g',rfl,⟨rfl,rfl⟩,hm',he',hrep⟩;obtain⟨m1,m2,m3,m4⟩:=Jz (n:=0) (O':=clS c1) hm' [0,2] (by decide) rfl gs
  have hblk:∀β,β<w.heap.size->¬Ft g β->β≠p.1->w'.heap[β]?=w.heap[β]?/\¬Ft (CG [0,2] g') β:=by
   intro β hβ hn hne
   obtain⟨r1,r2⟩:=he'.blocks β hβ (fun hh=>by
    rcases hminA _ hh with k|k
    ·exact hn k
    exact hne k)
   exact⟨r1,fun hh=>r2 (DC m1 hh)⟩
  have hids:∀id,id<2->∀b,g[id]?=some b->∃b',(CG [0,2] g')[id]?=some b'/\b.step b':=by
   intro id hid b hb
   match id,hid with
   |0,_=>
    obtain⟨b',k1,k2⟩:=he'.ids 0 (by simp) b (by rw[AbE s1 (i:=0) rfl,Aph (by omega)];exact hb);exact⟨b',by rw[AbE m1 (i:=0) rfl];exact k1,k2⟩
   |1,_=>
    obtain⟨b',k1,k2⟩:=he'.ids 2 (by simp) b (by rw[AbE s1 (i:=1) rfl,Aph (by omega)];exact hb);exact⟨b',by rw[AbE m1 (i:=2) rfl];exact k1,k2⟩
  have hevo:Evo ((B rs).env F) 2 w0 g0 w' (CG [0,2] g'):=by
   refine⟨he'.os.trans he.os,he'.tape.trans he.tape,he'.output.trans he.output,Aqw he.size he'.size,fun a u hc hp=>?_,fun β hβ hn=>?_,fun id hid b hb=>?_⟩
   ·obtain⟨c1',p1⟩:=he.cells a u hc hp;obtain⟨c2,p2⟩:=he'.cells a u c1' (s4 a (hprA a u c1' p1));exact⟨c2,m4 a p2⟩
   ·obtain⟨r1,r2⟩:=he.blocks β hβ hn;obtain⟨r3,r4⟩:=hblk β (AqH hβ he.size) r2 (hd.fresh β hβ hn);exact⟨r3.trans r1,r4⟩
   obtain⟨b1,k1,k2⟩:=he.ids id hid b hb;obtain⟨b2,k3,k4⟩:=hids id hid b1 k1;exact⟨b2,k3,k2.trans k4⟩
  have h0':At0 β0 (CG [0,2] g'):=by
   obtain⟨b',k1,k2⟩:=hids 0 (by omega) b0 q1;rcases k2 with k2|⟨k2,_⟩
   ·exact⟨b',k1,k2.1.trans q2,k2.2.2.2.2.2.trans q3⟩
   rw[q3]at k2;cases k2
  exact Nz hres ls c1 w' _ e2 m2 h0' hevo (fun q hq=>by
   have hq':=hD q (ApP _ hq);obtain⟨n1,n2⟩:=hp1 q hq;exact hq'.step (hblk _ hq'.lt.1 hq'.am n1) (hblk _ hq'.lt.2 hq'.bm n2)) hp2
noncomputable abbrev clX(x:AoU):ABlk:=.box (Aa x) false
noncomputable abbrev clR(x:AoU)(index:Int)(k:Nat)(c:Ao3):Rv.St:=⟨Ai 35 [(0,.ref 0 0),(2,i64 index),(4,.ref 2 0),(9,.sl false (L Af x.Ze)),(10,i64 (x.Ze.length:Int)),(11,i64 (k:Int))],[.box [.bs false 1 (c.code.length) 0 (c.code.length)] false,.buf 3 (L Ak c.code) false,clX x]⟩
section
variable {F:Addr->Prop}{w0:World}{g0:Gh}{β0:Nat}{x:AoU}{index:Int}
theorem LJ{b:Code}{Q:Exit->Act->World->Prop}{s:Ao3×List Int} (hround:∀(k:Nat) (c:Ao3) (ds:List Deferred) (a:Act) (w:World) (g:Gh) (y1 y2 y3:Int×Ao3) (Q':Exit->Act->World->Prop),k<x.Ze.length->Ar c 2 (nth x.Ze k).Attr 0=some y1->Ar y1.2 12 (nth x.Ze k).Low (nth x.Ze k).Zc=some y2->Ar y2.2 13 0 0=some y3 ->Rel ((B rs).env { F:=F,D:=ds }) w g (clR x index k c) a->At0 β0 g->Evo ((B rs).env F) 2 w0 g0 w g ->(∀a' w' g' p,Rel ((B rs).env { F:=F,D:=dOf p::ds }) w' g' (clR x index (k+1) y3.2) a'->Evo ((B rs).env F) 2 w g w' g'->Dk rs F w0 g0 β0 w' g' p->p.2.2=y3.1->(∀β,β<w.heap.size->¬Ft g β->β≠p.1)->Q' .normal a' w')->b.wp (B rs).P Q' a w) (hexit:∀(c:Ao3) (ds:List Deferred) (a:Act) (w:World) (g:Gh) (Q':Exit->Act->World->Prop),Rel ((B rs).env { F:=F,D:=ds }) w g (clR x index x.Ze.length c) a ->(∀a' w' g',Rel ((B rs).env { F:=F,D:=ds }) w' g' (clR x index x.Ze.length c) a'->Evo ((B rs).env F) 2 w g w' g'->Q' (.exit 0) a' w')->b.wp (B rs).P Q' a w) (hQ:∀a' w' g' L',Rel ((B rs).env { F:=F,D:=L'.map dOf }) w' g' (clR x index x.Ze.length s.1) a'->Evo ((B rs).env F) 2 w0 g0 w' g'->At0 β0 g'->(∀p∈L',Dk rs F w0 g0 β0 w' g' p)->AgH L'->L'.map (·.2.2)=s.2->Q (.exit 0) a' w') :∀(l:List AoR) (k:Nat) (c:Ao3) (ls:List (Nat×Nat×Int)) (a:Act) (w:World) (g:Gh),x.Ze.drop k=l->k+l.length=x.Ze.length->BJ l c (ls.map (·.2.2))=some s ->Rel ((B rs).env { F:=F,D:=ls.map dOf }) w g (clR x index k c) a->At0 β0 g->Evo ((B rs).env F) 2 w0 g0 w g->(∀p∈ls,Dk rs F w0 g0 β0 w g p)->AgH ls->Code.rounds (B rs).P b Q (l.length+1) a w
 |[],k,c,ls,a,w,g,_,hk,hc,hr,h0,he,hD,hA=>by
  cases hc;have hk':k=x.Ze.length:=by simpa using hk
  subst hk';rw[rounds_succ];refine hexit c _ a w g _ hr fun a' w' g' hr' he'=>?_
  exact hQ a' w' g' ls hr' (he.trans he') (h0.evo (n:=1) he') (fun p hp=>(hD p hp).evo he') hA rfl
 | t::l,k,c,ls,a,w,g,hd,hk,hc,hr,h0,he,hD,hA=>by
  have hkl:k<x.Ze.length:=by simp only[Api]at hk;omega
  have ht:nth x.Ze k=t:=by
   have e:(x.Ze.drop k)[0]?=some t:=by rw[hd];rfl
   rw[ApJ,AqD]at e;unfold nth;rw[Apt,e];rfl
  unfold BJ at hc;rw[Apa]at hc;obtain⟨y1,e1,hc⟩:=hc;rw[Apa]at hc;obtain⟨y2,e2,hc⟩:=hc;rw[Apa]at hc;obtain⟨y3,e3,hc⟩:=hc;rw[rounds_succ];rw[<-ht]at e1 e2;refine hround k c _ a w g y1 y2 y3 _ hkl e1 e2 e3 hr h0 he fun a' w' g' p hr' he' hp hat hnew=>?_
  have hat':y3.1::ls.map (·.2.2)=(p::ls).map (·.2.2):=by rw[ApL,hat]
  rw[hat']at hc;refine LJ hround hexit hQ l (k+1) y3.2 (p::ls) a' w' g' ?_ (by simp only[Api]at hk;omega) hc hr' (h0.evo (n:=1) he') (he.trans he') ?_ ?_
  ·rw[<-Asi,hd];rfl
  ·intro q hq;rcases Apx.1 hq with rfl|hq
   ·exact hp
   exact(hD q hq).evo he'
  refine AqQ.2 ⟨fun q hq=>?_,hA⟩;have hq':=hD q hq;exact⟨hnew _ hq'.lt.1 hq'.am,hnew _ hq'.lt.2 hq'.bm⟩
end
set_option linter.unusedVariables false in
theorem I8{c x index r}(h:CB c x index=some r):Con (B rs) 54 [.ref 0 0,.agg (Aa x),i64 index] (clS c) (fun r' O'=>r'=.tup []/\O'=clS r):=by
 unfold CB at h;split at h
 case isFalse=>cases h
 rename_i hx;rw[Apa]at h;obtain⟨s,hs,h⟩:=h;rw[Apa]at h;obtain⟨c1,hc1,h⟩:=h;rw[Apa]at h;obtain⟨y,hy,h⟩:=h;refine⟨fun F w g vs hm ha=>.inl ⟨⟨Tryz.f54,_,Tryz.func54,rfl,by decide +kernel⟩,?_⟩⟩;have hE:=(ok (rs:=rs)).env F;refine calls_of_wp_defers Tryz.func54 rfl ?_;have hr0:=Mv (fn:=Tryz.f54) hm ha;rw[GD Tryz.f54.ntmps _ (Apq rfl) (Nx 0 _) (fun t _=>GW _ 0 t (Apz _))]at hr0;have hr0':Rel ((B rs).env F) w g ⟨Ai 35 [(0,.ref 0 0),(1,.agg (Aa x)),(2,i64 index)],clS c⟩ _:=hr0;have hgl:g.length=2:=hm.len;have hg0:g[0]?=some g[0]:=Ao9 (by omega);obtain⟨k1,_,_,_,_,β0,_,_,_,k6,_⟩:=hm.blk 0 _ _ hg0 rfl;have h0:At0 β0 g:=⟨_,hg0,k6,k1⟩;refine U5 (n:=2) (to0 [0,2,4]) rfl hr0' ?_;intro a1 w1 g1 hr1 he1;refine wp_seq ?_;refine U5 (n:=2) (to0 [0,2,4,9,10,11]) rfl hr1 ?_;intro a2 w2 g2 hr2 he2;refine wp_block ?_;refine wp_loop_rounds (x.Ze.length+1) ?_;have h02:At0 β0 g2:=(h0.evo (n:=1) he1).evo (n:=1) he2;refine LJ (F:=F) (w0:=w) (g0:=g) (β0:=β0) (x:=x) (index:=index) (s:=s) ?_ ?_ ?_ x.Ze 0 c [] a2 w2 g2 rfl (by simp) hs hr2 h02 (he1.trans he2) (by simp) .nil
 ·intro k c ds a w3 g3 y1 y2 y3 Q' hk e1 e2 e3 hr3 h03 he3 hn;have hE':=(ok (rs:=rs)).env { F:=F,D:=ds };refine U5 (n:=2) (to0 [0,2,4,9,10,11,12]) rfl hr3 ?_;intro a4 w4 g4 hr4 he4;refine wp_seq (wp_cond_true ?_ (wp_skip ?_))
  ·have h1:=En hr4 (.tmp 12);rw[show ev _ (.tmp 12)=AV.bool (decide ((k:Int)<(x.Ze.length:Int)))from rfl,decide_eq_true (by omega)]at h1;exact EZ h1
  refine wp_seq (wp_block ?_);have hc:InR (k:Int) x.Ze.length:=⟨by omega,by simpa using hk⟩;refine U5 (n:=2) (toe [0,2,4,7,9,10,11] Ab (Ev (by simp only[go_sem,qR hc,Apk];exact C2))) rfl hr4 ?_;intro a5 w5 g5 hr5 he5;refine U5 (n:=2) (toe (O':=[.box [.bs false 1 (y1.2.code.length) 0 (y1.2.code.length)] false,.buf 3 (L Ak y1.2.code) false,_,_,_,_]) [0,2,4,7,9,10,11] (Ag (l:=[]) (m:=[(18,55,[.ref 0 0,i64 2,i64 (nth x.Ze k).Attr,i64 0],[.box [.bs false 1 (c.code.length) 0 (c.code.length)] false,.buf 3 (L Ak c.code) false,clX x,.box [i64 (nth x.Ze k).Attr,i64 (nth x.Ze k).Low,i64 (nth x.Ze k).Zc] false],_,_)]) trivial ⟨(wc (A6 e1) [0,1]),trivial⟩) (Ev (by simp only[go_sem];exact C2))) rfl hr5 ?_;intro a6 w6 g6 hr6 he6;refine U5 (n:=2) (st':=clR x index k y2.2) (tow (O':=[.box [.bs false 1 (y2.2.code.length) 0 (y2.2.code.length)] false,.buf 3 (L Ak y2.2.code) false,_,_,_,_,_,_]) [0,2,4,9,10,11] (Ag (l:=[]) (m:=[(24,55,[.ref 0 0,i64 12,i64 (nth x.Ze k).Low,i64 (nth x.Ze k).Zc],[.box [.bs false 1 (y1.2.code.length) 0 (y1.2.code.length)] false,.buf 3 (L Ak y1.2.code) false,clX x,.box [i64 (nth x.Ze k).Attr,i64 (nth x.Ze k).Low,i64 (nth x.Ze k).Zc] false,.box [.ref 0 0] false,.box [i64 y1.1] false],_,_)]) trivial ⟨(wc (A6 e2) [0,1]),trivial⟩) (Ev (by simp only[go_sem];exact C2)) (ws [0,1,2])) rfl hr6 ?_;intro a7 w7 g7 hr7 he7;refine wp_region_lit ?_;simp only[wpList,Region.wanted,ApT];left;refine Nd hE' (Ab none) (r:=(.ref 0 0,[.box [.bs false 1 (y2.2.code.length) 0 (y2.2.code.length)] false,.buf 3 (L Ak y2.2.code) false,clX x])) rfl hr7 ?_;intro a8 w8 g8 hr8 he8 hle8;left;refine Nd hE' ((Ag (l:=[]) (m:=[(26,55,[.ref 0 0,i64 13,i64 0,i64 0],[.box [.bs false 1 (y2.2.code.length) 0 (y2.2.code.length)] false,.buf 3 (L Ak y2.2.code) false,clX x],_,_)]) trivial ⟨(wc (A6 e3) [0,1]),trivial⟩) (some 26)) (r:=(.fn 92 [.ref 3 0,.ref 4 0],[.box [.bs false 1 (y3.2.code.length) 0 (y3.2.code.length)] false,.buf 3 (L Ak y3.2.code) false,clX x,.box [.ref 0 0] false,.box [i64 y3.1] false])) gs hr8 ?_;intro a9 w9 g9 hr9 he9 hle9;left;have heT:Evo ((B rs).env F) 2 w3 g3 w9 g9:=(Mw he4).trans ((Mw he5).trans ((Mw he6).trans ((Mw he7).trans ((Mw (he8.of_gle hle8)).trans (Mw (he9.of_gle hle9))))));have hdef:a9.defers=ds:=hr9.defers.eq rfl;have hfv:=En hr9 (.tmp 26);rw[show ev _ (.tmp 26)=AV.fn 92 [.ref 3 0,.ref 4 0]from rfl]at hfv;obtain⟨⟨capl⟩,hcv,hcr⟩:=DZ hfv
  match capl,hcr,hcv with
  |[u1,u2],⟨hu1,hu2,_⟩,hcv=>
  obtain⟨α,bα,q1,q2,q3,rfl⟩:=M8 hu1;obtain⟨β,bβ,r1,r2,r3,rfl⟩:=M8 hu2;have h09:At0 β0 g9:=h03.evo (n:=1) heT;obtain⟨b0,z1,z2,z3⟩:=h09;obtain⟨_,_,_,_,_,α',arr,tα,fz,e1',e2',e3',e4',e5'⟩:=hr9.mem.blk 3 bα _ q1 rfl;obtain rfl:α'=α:=Ao8 (e1'.symm.trans q3);obtain⟨_,_,_,_,_,β',arrb,tβ,fzb,f1',f2',f3',f4',f5'⟩:=hr9.mem.blk 4 bβ _ r1 rfl;obtain rfl:β'=β:=Ao8 (f1'.symm.trans r3)
  have harr:arr=#[.pointer (some ⟨β0,0,none⟩)]:=by
   obtain⟨βx,bx,x1,x2,x3,x4⟩:=M8 (e5' 0 (.ref 0 0) rfl).1;rw[z1]at x1;obtain rfl:=Ao8 x1;obtain rfl:β0=βx:=Ao8 (z2.symm.trans x3);obtain⟨al⟩:=arr
   match al,e3',x4 with
   |[v],_,x4=>exact Ap2 (fun v=>#[v]) x4
  have harrb:arrb=#[.int .i64 y3.1]:=by
   have x4:=DI (f5' 0 (i64 y3.1) rfl).1;obtain⟨al⟩:=arrb
   match al,f3',x4 with
   |[v],_,x4=>exact Ap2 (fun v=>#[v]) x4
  subst harr harrb;have hmα:Ft g9 α':=⟨3,bα,q1,q3⟩;have hmβ:Ft g9 β':=⟨4,bβ,r1,r3⟩
  have hdop:∀o3:Oper,o3.op=.defer ⟨.value (.tmp 26),#[],#[]⟩->(execOp a9.eval o3).run ((B rs).env { F:=F,D:=ds }).P w9=.ok (.defer (dOf (α',β',y3.1))) w9:=by
   intro o3 ho3;have hev:a9.eval (.tmp 26)=.func (.func 92) #[] #[.pointer (some ⟨α',0,none⟩),.pointer (some ⟨β',0,none⟩)]:=hcv;simp only[execOp,ho3,resolve,hev,Deferred.ofValue,Sem.run_bind,Sem.run_pure,Result.andThen_ok];simp[dOf]
  unfold Oper.wp;rw[hdop,Oper.upon_defer]
  rotate_left
  ·rfl
  obtain⟨hrs,hes,hsl⟩:=AhY (n:=2) (l':=[(0,.ref 0 0),(2,i64 index),(4,.ref 2 0),(9,.sl false (L Af x.Ze)),(10,i64 (x.Ze.length:Int)),(11,i64 (k:Int))]) (O':=[.box [.bs false 1 (y3.2.code.length) 0 (y3.2.code.length)] false,.buf 3 (L Ak y3.2.code) false,clX x]) [0,1,2] (by decide) rfl gs gs hr9;have hr10:Rel ((B rs).env { F:=F,D:=dOf (α',β',y3.1)::ds }) w9 (CG [0,1,2] g9) (clR x index k y3.2) { a9 with defers:=dOf (α',β',y3.1)::a9.defers }:=⟨hrs.size,hrs.slot,AcU hrs.mem,.plain (by rw[hdef];rfl)⟩;have hE'':=(ok (rs:=rs)).env { F:=F,D:=dOf (α',β',y3.1)::ds };have hw:w64 ((k:Int)+1)=((k+1:Nat):Int):=by rw[Hn (by omega)];rfl
  show Code.wp _ _ _ _ _;refine Afo (E:=(B rs).env { F:=F,D:=dOf (α',β',y3.1)::ds }) (n:=2) (st':=clR x index (k+1) y3.2) (toe [0,2,4,9,10,11] Ab (Ew1 hw)) rfl hr10 ?_;intro a11 w11 g11 hr11 he11
  have hnm:∀δ,Ft (CG [0,1,2] g9) δ->(δ=α'->False)/\(δ=β'->False):=by
   rintro δ ⟨id,b,hb,hδ⟩;obtain⟨i,hi,hgi⟩:=(A5 hsl).1 hb
   have hi3:i<3:=by
    have:=Apg hi;simp at this;omega
   refine⟨fun e=>?_,fun e=>?_⟩
   ·subst e;have:=hr9.mem.inj i 3 b bα δ hgi q1 hδ q3;omega
   subst e;have:=hr9.mem.inj i 4 b bβ δ hgi r1 hδ r3;omega
  have hdk:Dk rs F w g β0 w9 (CG [0,1,2] g9) (α',β',y3.1):=by
   refine⟨fun δ hδ hn' e=>?_,⟨_,fz,e2',e4'⟩,fun hh=>(hnm _ hh).1 rfl,⟨_,fzb,f2'⟩,fun hh=>(hnm _ hh).2 rfl,fun e=>?_,fun a' hF=>⟨fun e=>?_,fun e=>?_⟩,fun i cs hG e=>?_,fun i vs hG e=>?_⟩
   ·have:=((he3.trans heT).blocks δ hδ hn').2;exact this (by rw[e];exact hmα)
   ·have e':β'=α':=e;subst e';have:=hr9.mem.inj 3 4 bα bβ β' q1 r1 q3 r3;omega
   ·exact(hr9.mem.foreign a' hF).2 (by rw[e];exact hmα)
   ·exact(hr9.mem.foreign a' hF).2 (by rw[e];exact hmβ)
   ·exact(hr9.mem.glob i cs hG).2.1 (by rw[e];exact hmα)
   exact(hr9.mem.whole i vs hG).1 (by rw[e];exact hmα)
  refine hn a11 w11 g11 (α',β',y3.1) hr11 (heT.trans ((Mw hes).trans (Mw he11))) (hdk.evo he11) rfl fun δ hδ hn' e=>?_
  have:=(heT.blocks δ hδ hn').2;exact this (by rw[e];exact hmα)
 ·intro c ds a w3 g3 Q' hr3 hn;have hE':=(ok (rs:=rs)).env { F:=F,D:=ds };refine U5 (n:=2) (to0 [0,2,4,9,10,11,12]) rfl hr3 ?_;intro a4 w4 g4 hr4 he4;refine wp_seq (wp_cond_false ?_ (wp_exit ?_))
  ·have h1:=En hr4 (.tmp 12);rw[show ev _ (.tmp 12)=AV.bool (decide ((x.Ze.length:Int)<(x.Ze.length:Int)))from rfl,decide_eq_false (by omega)]at h1;exact EZ h1
  obtain⟨g5,hr5,he5⟩:=(ws [0,1,2]:Weak ((B rs).env { F:=F,D:=ds }) 2 _ (clR x index x.Ze.length c)) a4 w4 g4 hr4;exact hn a4 w4 g5 hr5 ((Mw he4).trans (Mw he5))
 intro a3 w3 g3 ls hr3 he3 h03 hD hA hL;have hE':=(ok (rs:=rs)).env { F:=F,D:=ls.map dOf };simp only[Exit.inBlock,ApT];show Code.wp _ _ _ _ _;refine U5 (E:=(B rs).env { F:=F,D:=ls.map dOf }) (n:=2) (toe (O':=[.box [.bs false 1 (c1.code.length) 0 (c1.code.length)] false,.buf 3 (L Ak c1.code) false,_]) [0,2] (Ag (l:=[]) (m:=[(31,91,[.ref 0 0,.agg (xE x.Pay)],[.box [.bs false 1 (s.1.code.length) 0 (s.1.code.length)] false,.buf 3 (L Ak s.1.code) false,clX x],_,_)]) trivial ⟨(wc (Hg hc1) [0,1]),trivial⟩) (Ev (by simp only[go_sem];exact C2))) rfl hr3 ?_;intro a4 w4 g4 hr4 he4;refine Afo (E:=(B rs).env { F:=F,D:=ls.map dOf }) (n:=2) (st':=⟨Ai 35 [],clS y.2⟩) (tow (O':=[.box [.bs false 1 (y.2.code.length) 0 (y.2.code.length)] false,.buf 3 (L Ak y.2.code) false,_,_,_]) [] (Ag (l:=[]) (m:=[(34,55,[.ref 0 0,i64 15,i64 index,i64 0],[.box [.bs false 1 (c1.code.length) 0 (c1.code.length)] false,.buf 3 (L Ak c1.code) false,clX x],_,_)]) trivial ⟨(wc (A6 hy) [0,1]),trivial⟩) (Ev (by simp only[go_sem];exact C2)) (ws [0,1])) rfl hr4 ?_;intro a5 w5 g5 hr5 he5;have hdef:a5.defers=ls.map dOf:=hr5.defers.eq rfl;show Leaves _ _ _ _ a5.defers .returning w5;rw[hdef];have heT:Evo ((B rs).env F) 2 w3 g3 w5 g5:=(Mw he4).trans (Mw he5)
 have hres:∀w,(results Tryz.f54 a5.tmps).run (B rs).P w=.ok (.tuple #[]) w:=by
  intro w;have e:results Tryz.f54 a5.tmps=(do let vs <-(#[]:Array ResultVar).mapM (JP a5.tmps);pure (if h:vs.size=1 then vs[0]else .tuple vs)):=rfl;rw[e];simp[Sem.run_bind,Sem.run_pure,Result.andThen_ok]
 exact Nz hres ls y.2 w5 g5 (by rw[hL];exact h) (AcU (D':=[]) hr5.mem) (h03.evo (n:=1) heT) (he3.trans heT) (fun p hp=>(hD p hp).evo heT) hA
variable {rs:AoO}
theorem Ni{c r}(h:EW c=some r):Con (B rs) 23 [.agg (Ad c)] [] (fun r' O'=>r'=.tup [.sl false (L Ak r.1),i64 r.2]/\O'=[]):=by
 refine Cw 35 [.tmp 2,.tmp 3] Tryz.func23 (fun F hE=>?_) h;unfold EW;refine T0 [1] ?_;refine Sq <|Bd fun ah p =>Te [1,3] (o1 8 (Hm p)) Ev ?_
 refine T0 [1,3,10] ?_;refine Cd ?_ ?_
 ·refine T0 [2,3] ?_;exact Sr <|Tr <|Rr
 refine Sk <|Tn <|T0 [1,4] ?_
 refine Ja (fun a=>⟨Ai 35 [(4,.ref 0 0)],[.box [.bs false 1 (a.length) 0 (a.length)] false,.buf 3 (L Ak a) false]⟩) ?_ ?_
 ·intro ai;refine T0 [4,13,14,15] ?_;refine Sb ?_;refine Lo (fun(v:Int×List Ao1)=>(⟨Ai 35 [(4,.ref 0 0),(13,.sl false (L Aa c.Zf)),(14,i64 (c.Zf.length:Int)),(15,i64 v.1)],[.box [.bs false 1 (v.2.length) 0 (v.2.length)] false,.buf 3 (L Ak v.2) false]⟩:St)) ((Ir 1 0 3 rfl rfl).trans (ws [1,2])) ?_;rintro⟨o,b⟩ aj q s t;show FH c o b=some q->_;unfold FH;refine T0 [4,13,14,15,16] ?_;refine Sq <|Cd ?_ ?_
  ·refine Sk <|Tn <|Sq <|Sb <|Ck fun u =>Lt fun d w =>Lt fun e x =>Lt fun f y =>Lt fun g z =>Lt fun i aa =>Lt fun j ab =>Te (O':=[_,_,.box (.str d::.sl false (L Af e)::i64 f::i64 g::(C1 i64 i.l++[.sl false (L cApi_Expr j)])) false]) [4,5,6,13,14,15] Ab (Ev (by simp only[go_sem,qR u,w,x,y,z,aa,ab];exact C2)) ?_
   refine Bd fun ak ac =>Lt fun k ad =>Fe (O':=[.box [.bs false 1 (k.length) 0 (k.length)] false,.buf 3 (L Ak k) false,_]) [4,13,14,15] (Ag (l:=[]) (m:=[(22,54,[.ref 0 0,.agg (.str d::.sl false (L Af e)::i64 f::i64 g::(C1 i64 i.l++[.sl false (L cApi_Expr j)])),i64 o],[.box [.bs false 1 (b.length) 0 (b.length)] false,.buf 3 (L Ak b) false,.box (.str d::.sl false (L Af e)::i64 f::i64 g::(C1 i64 i.l++[.sl false (L cApi_Expr j)])) false],_,_)]) trivial ⟨(wc (I8 ac) [0,1]),trivial⟩) (Ew1 ad) ?_
   refine Bn <|Tn <|F0 [4,13,14,15] ?_
   exact Ln (ws [0,1])
  refine Sx <|Tx <|Ly t s <|Bx <|?_
  exact Jm ((ws (l':=[(4,.ref 0 0)]) (O':=[.box [.bs false 1 (b.length) 0 (b.length)] false,.buf 3 (L Ak b) false]) [0,1]).trans (ws [0,1]))
 intro a;refine Bd fun al ae =>Lt fun n af =>Te (O':=[.box [.bs false 1 (n.length) 0 (n.length)] false,.buf 3 (L Ak n) false,_,_]) [4] (Ag (l:=[]) (m:=[(24,55,[.ref 0 0,i64 16,i64 0,i64 0],[.box [.bs false 1 (a.length) 0 (a.length)] false,.buf 3 (L Ak a) false],_,_)]) trivial ⟨(wc (A6 ae) [0,1]),trivial⟩) (Ew1 af) ?_
 refine Sq <|Bd fun am ag =>Te [3,4] (o1 28 (NY ag)) Ev ?_
 refine T0 [4,32] ?_;refine Cd ?_ ?_
 ·refine T0 [2,3] ?_;exact Sr <|Tr <|Rr
 refine Sk <|Tn <|T0 [2,3] ?_
 exact Sr <|Rr
theorem KQ{a r}(h:FD a=some r):Con (B rs) 38 [.rp (Ad a)] [] (fun r' O'=>r'=i64 r/\O'=[]):=by
 refine Co 0 10 [.tmp 1] Tryz.func38 (fun F hE=>?_) h;unfold FD;refine T0 [0] ?_;refine Bd fun c b =>Te [3] (o1 6 (NK b)) Ev ?_
 refine T0 [1] ?_;exact Sr <|Ro []
theorem KL{a r}(h:F8 a=some r):Con (B rs) 39 [.rp (Ad a)] [] (fun r' O'=>r'=i64 r/\O'=[]):=by
 refine Co 0 10 [.tmp 1] Tryz.func39 (fun F hE=>?_) h;unfold F8;refine T0 [0] ?_;refine Bd fun c b =>Te [3] (o1 6 (O8 b)) Ev ?_
 refine T0 [1] ?_;exact Sr <|Ro []
theorem KW{a r}(h:FC a=some r):Con (B rs) 41 [.rp (Ad a)] [] (fun r' O'=>r'=i64 r/\O'=[]):=by
 refine Co 0 4 [.tmp 1] Tryz.func41 (fun F hE=>?_) h;unfold FC;refine T0 [0] ?_;refine Bd fun c b =>Te [1] (o1 3 (Qj b)) Ev ?_
 exact Sr <|Ro []
theorem KV{a r}(h:FB a=some r):Con (B rs) 43 [.rp (Ad a)] [] (fun r' O'=>r'=i64 r/\O'=[]):=by
 refine Co 0 10 [.tmp 1] Tryz.func43 (fun F hE=>?_) h;unfold FB;refine T0 [0] ?_;refine Bd fun c b =>Te [3] (o1 6 (Ni b)) Ev ?_
 refine T0 [1] ?_;exact Sr <|Ro []
theorem Gr{a r}(h:BO a=some r):Con (B rs) 37 [.sl false [[.fn 38 [.rp (Ad a)]],[.fn 39 [.rp (Ad a)]],[.fn 41 [.rp (Ad a)]],[.fn 43 [.rp (Ad a)]]]] [] (fun r' O'=>r'=i64 r/\O'=[]):=by
 refine Cw 18 [.tmp 2] Tryz.func37 (fun F hE=>?_) h;unfold BO;refine T0 [0] ?_;refine Jo (fun _=>⟨Ai 18 [],[]⟩) ?_ ?_
 ·intro s b;refine T0 [6,7,8] ?_;refine Sb ?_;refine Ul 9 ?_;refine Ug (m:=8) ?_;refine T0 [6,7,8,9] ?_;refine Sq <|Ct <|Sk <|Tn <|Sq <|Sb <|?_
  have c:InR 0 4:=by decide
  refine Te [4,6,7,8] Ab (Ev (by simp only[go_sem,c,c.2];exact C2)) ?_;refine Bd fun t g =>Te [5,6,7,8] (Ag (l:=[]) (m:=[(13,38,[.rp (Ad a)],[],_,_)]) trivial ⟨(wc (KQ g) []),trivial⟩) Ev ?_
  refine T0 [5,6,7,8,15] ?_;refine Cd ?_ ?_
  ·refine T0 [2] ?_;exact Sr <|Br <|Tr <|Ur <|Br <|Jr b <|Rr
  refine Sk <|Bn <|Tn <|?_
  have i:w64 1=1:=by decide
  refine Fe [6,7,8] Ab (Ew1 i) ?_;refine Un ?_;refine Ug (m:=7) ?_;refine T0 [6,7,8,9] ?_;refine Sq <|Ct <|Sk <|Tn <|Sq <|Sb <|?_
  have d:InR 1 4:=by decide
  refine Te [4,6,7,8] Ab (Ev (by simp only[go_sem,d,d.2];exact C2)) ?_;refine Bd fun u j =>Te [5,6,7,8] (Ag (l:=[]) (m:=[(13,39,[.rp (Ad a)],[],_,_)]) trivial ⟨(wc (KL j) []),trivial⟩) Ev ?_
  refine T0 [5,6,7,8,15] ?_;refine Cd ?_ ?_
  ·refine T0 [2] ?_;exact Sr <|Br <|Tr <|Ur <|Br <|Jr b <|Rr
  refine Sk <|Bn <|Tn <|?_
  have k:w64 2=2:=by decide
  refine Fe [6,7,8] Ab (Ew1 k) ?_;refine Un ?_;refine Ug (m:=6) ?_;refine T0 [6,7,8,9] ?_;refine Sq <|Ct <|Sk <|Tn <|Sq <|Sb <|?_
  have e:InR 2 4:=by decide
  refine Te [4,6,7,8] Ab (Ev (by simp only[go_sem,e,e.2];exact C2)) ?_;refine Bd fun v n =>Te [5,6,7,8] (Ag (l:=[]) (m:=[(13,41,[.rp (Ad a)],[],_,_)]) trivial ⟨(wc (KW n) []),trivial⟩) Ev ?_
  refine T0 [5,6,7,8,15] ?_;refine Cd ?_ ?_
  ·refine T0 [2] ?_;exact Sr <|Br <|Tr <|Ur <|Br <|Jr b <|Rr
  refine Sk <|Bn <|Tn <|?_
  have o:w64 3=3:=by decide
  refine Fe [6,7,8] Ab (Ew1 o) ?_;refine Un ?_;refine Ug (m:=5) ?_;refine T0 [6,7,8,9] ?_;refine Sq <|Ct <|Sk <|Tn <|Sq <|Sb <|?_
  have f:InR 3 4:=by decide
  refine Te [4,6,7,8] Ab (Ev (by simp only[go_sem,f,f.2];exact C2)) ?_;refine Bd fun w p =>Te [5,6,7,8] (Ag (l:=[]) (m:=[(13,43,[.rp (Ad a)],[],_,_)]) trivial ⟨(wc (KV p) []),trivial⟩) Ev ?_
  refine T0 [5,6,7,8,15] ?_;refine Cd ?_ ?_
  ·refine T0 [2] ?_;exact Sr <|Br <|Tr <|Ur <|Br <|Jr b <|Rr
  refine Sk <|Bn <|Tn <|?_
  have q:w64 4=4:=by decide
  refine Fe [6,7,8] Ab (Ew1 q) ?_;refine Un ?_;refine Ug (m:=4) ?_;refine T0 [6,7,8,9] ?_;exact Sq <|Cf <|Sx <|Tx <|Ux <|Bx <|Jn (ws [])
 intro _;refine T0 [2] ?_;exact Sr <|Rr
theorem HY{a r}(h:B7 a=some r):Con (B rs) 17 [.agg (Ad a)] [] (fun r' O'=>r'=i64 r/\O'=[]):=by
 refine Cw 9 [.tmp 2] Tryz.func17 (fun F hE=>?_) h;unfold B7;refine T0 [1] ?_;refine Rw (AhB 1 0 gs rfl (by simp[closed_i64,closed_u8,closed_u32,closed_u64,closed_bool,closed_str,closed_sl]) (by rfl)) ?_;refine Bd fun c b=>?_
 refine Tfe [2] (o1 8 (Gr b)) Ev ?_;exact Sr <|Rr
variable {rs:AoO}
theorem M2{b a r}(h:DF b a=some r):Con (B rs) 16 [.agg (Ad b),.agg (Ad a)] [] (fun r' O'=>r'=.agg (Ad r)/\O'=[]):=by
 refine Cw 82 [.cell 4 34] Tryz.func16 (fun F hE=>?_) h;unfold DF;refine T0 [2,3,4] ?_;refine T0 [2,3,4,5] ?_;refine Ja (fun k=>⟨Ai 82 [(2,.ref 0 0),(3,.ref 1 0),(4,.ref 2 0),(5,.mref 3)],[.box (Ad b) false,.box (Ad a) false,.box [.str ([]:List UInt8),i64 0,.sl true (L Aa ([]))] false,.mp true (MS SJ k)]⟩) ?_ ?_
 ·intro bq;refine T0 [2,3,4,5,19,20,21] ?_;refine Sb ?_;refine Lo (fun(v:Int×R5)=>(⟨Ai 82 [(2,.ref 0 0),(3,.ref 1 0),(4,.ref 2 0),(5,.mref 3),(19,.sl false (L Aa a.Zf)),(20,i64 (a.Zf.length:Int)),(21,i64 v.1)],[.box (Ad b) false,.box (Ad a) false,.box [.str ([]:List UInt8),i64 0,.sl true (L Aa ([]))] false,.mp true (MS SJ v.2)]⟩:St)) (ws [0,1,2,3]) ?_;rintro⟨t,q⟩ br u w x;show Fh a t q=some u->_;unfold Fh;refine T0 [2,3,4,5,19,20,21,22] ?_;refine Sq <|Cd ?_ ?_
  ·refine Sk <|Tn <|Sq <|Sb <|Ck fun y =>Lt fun z aa =>Lt fun ab ac =>Lt fun ad ae =>Lt fun af ag =>Lt fun ah ai =>Lt fun aj ak =>Te (O':=[_,_,_,_,.box (.str z::.sl false (L Af ab)::i64 ad::i64 af::(C1 i64 ah.l++[.sl false (L cApi_Expr aj)])) false]) [2,3,4,5,7,19,20,21] Ab (Ev (by simp only[go_sem,qR y,aa,ac,ae,ag,ai,ak];exact C2)) ?_
   refine Lt fun al am =>Fe (O':=[_,_,_,.mp true (MS SJ al),_]) [2,3,4,5,19,20,21] Ab (Ew1 am) ?_
   refine Bn <|Tn <|F0 [2,3,4,5,19,20,21] ?_
   exact Ln (ws [0,1,2,3])
  refine Sx <|Tx <|Ly x w <|Bx <|?_
  exact Jm ((ws (l':=[(2,.ref 0 0),(3,.ref 1 0),(4,.ref 2 0),(5,.mref 3)]) (O':=[.box (Ad b) false,.box (Ad a) false,.box [.str ([]:List UInt8),i64 0,.sl true (L Aa ([]))] false,.mp true (MS SJ q)]) [0,1,2,3]).trans (ws [0,1,2,3]))
 intro k;refine Bd fun n an =>Te [2,3,4,5,8] (Ag (l:=[]) (m:=[(32,36,[.sl false (L Aa b.Zf)],[.box (Ad b) false,.box (Ad a) false,.box [.str ([]:List UInt8),i64 0,.sl true (L Aa ([]))] false,.mp true (MS SJ k)],_,_)]) trivial ⟨(wc (L9 an) []),trivial⟩) Ev ?_
 refine Ja (fun(v:R5×List AoU)=>(⟨Ai 82 [(2,.ref 0 0),(3,.ref 1 0),(4,.ref 2 0),(5,.mref 3),(8,.bs false 4 (v.2.length) 0 (v.2.length))],[.box (Ad b) false,.box (Ad a) false,.box [.str ([]:List UInt8),i64 0,.sl true (L Aa ([]))] false,.mp true (MS SJ v.1),.buf 9 (L Aa v.2) false]⟩:St)) ?_ ?_
 ·intro bt;refine T0 [2,3,4,5,8,33,34,35] ?_;refine Sb ?_;refine Lo (fun⟨e,f,c⟩=>⟨Ai 82 [(2,.ref 0 0),(3,.ref 1 0),(4,.ref 2 0),(5,.mref 3),(8,.bs false 4 (c.length) 0 (c.length)),(33,.bs false 4 (c.length) 0 (c.length)),(34,i64 (n.length:Int)),(35,i64 e)],[.box (Ad b) false,.box (Ad a) false,.box [.str ([]:List UInt8),i64 0,.sl true (L Aa ([]))] false,.mp true (MS SJ f),.buf 9 (L Aa c) false]⟩) (ws [0,1,2,3,4]) ?_;rintro⟨e,f,c⟩ bu ao ap aq;show EU n e f c=some ao->_;unfold EU;refine T0 [2,3,4,5,8,33,34,35,36] ?_;refine Sq <|Cd ?_ ?_
  ·refine Sk <|Tn <|?_
   refine Ja (fun(v:R5×List AoU)=>(⟨Ai 82 [(2,.ref 0 0),(3,.ref 1 0),(4,.ref 2 0),(5,.mref 3),(8,.bs false 4 (v.2.length) 0 (v.2.length)),(33,.bs false 4 (v.2.length) 0 (v.2.length)),(34,i64 (n.length:Int)),(35,i64 e)],[.box (Ad b) false,.box (Ad a) false,.box [.str ([]:List UInt8),i64 0,.sl true (L Aa ([]))] false,.mp true (MS SJ v.1),.buf 9 (L Aa v.2) false]⟩:St)) ?_ ?_
   ·intro bv;refine Sb <|Ck fun ar =>Lt fun au av =>Lt fun aw ax =>Lt fun ay az =>Lt fun aA aB =>Lt fun aC aD =>Lt fun aE aF =>Te (O':=[_,_,_,_,_,.box (.str au::.sl false (L Af aw)::i64 ay::i64 aA::(C1 i64 aC.l++[.sl false (L cApi_Expr aE)])) false]) [2,3,4,5,8,9,10,33,34,35] Ab (Ev (by simp only[go_sem,qR ar,av,ax,az,aB,aD,aF];exact C2)) ?_
    refine Lt fun aG aH =>Lt fun aI aJ =>Lt fun aK aL =>Lt fun aM aN =>Lt fun aO aP =>Lt fun aQ aR =>Te (O':=[_,_,_,_,_,_,.box (.str aG::.sl false (L Af aI)::i64 aK::i64 aM::(C1 i64 aO.l++[.sl false (L cApi_Expr aQ)])) false]) [2,3,4,5,8,9,10,11,12,33,34,35] Ab (Ev (by simp only[go_sem,aH,aJ,aL,aN,aP,aR];exact C2)) ?_
    refine T0 [2,3,4,5,8,9,10,11,33,34,35,47] ?_;refine Cd ?_ ?_
    ·refine Ck fun aS =>Lt fun d aT =>Te (fr':=[(2,_),(3,_),(4,_),(5,_),(8,.bs false 4 (d.length) 0 (d.length)),(10,_),(33,.bs false 4 (d.length) 0 (d.length)),(34,_),(35,_)]) (O':=[_,_,_,_,.buf 9 (L Aa d) false,_,_]) [2,3,4,5,8,10,33,34,35] Ab (Ew2 (qR aS) aT) ?_
     refine Lt fun aU aV =>Fe (O':=[_,_,_,.mp true (MS SJ aU),_,_,_]) [2,3,4,5,8,33,34,35] Ab (Ew1 aV) ?_
     exact Bn <|Jm (ws [0,1,2,3,4])
    exact Sk <|Bn <|Jm (ws [0,1,2,3,4])
   rintro⟨bw,bx⟩;refine F0 [2,3,4,5,8,33,34,35] ?_;exact Ln (ws [0,1,2,3,4])
  refine Sx <|Tx <|Ly aq ap <|Bx <|?_
  exact Jm ((ws (l':=[(2,.ref 0 0),(3,.ref 1 0),(4,.ref 2 0),(5,.mref 3),(8,.bs false 4 (c.length) 0 (c.length))]) (O':=[.box (Ad b) false,.box (Ad a) false,.box [.str ([]:List UInt8),i64 0,.sl true (L Aa ([]))] false,.mp true (MS SJ f),.buf 9 (L Aa c) false]) [0,1,2,3,4]).trans (ws [0,1,2,3,4]))
 rintro⟨o,bz⟩;refine Ja (fun g=>⟨Ai 82 [(2,.ref 0 0),(4,.ref 1 0),(8,.bs false 2 (g.length) 0 (g.length))],[.box (Ad b) false,.box [.str ([]:List UInt8),i64 0,.sl true (L Aa ([]))] false,.buf 9 (L Aa g) false]⟩) ?_ ?_
 ·intro bA;refine T0 [2,4,5,8,57,58,59] ?_;refine Sb ?_;refine Lo (fun(v:Int×List AoU)=>(⟨Ai 82 [(2,.ref 0 0),(4,.ref 1 0),(5,.mref 2),(8,.bs false 3 (v.2.length) 0 (v.2.length)),(57,.sl false (L Aa a.Zf)),(58,i64 (a.Zf.length:Int)),(59,i64 v.1)],[.box (Ad b) false,.box [.str ([]:List UInt8),i64 0,.sl true (L Aa ([]))] false,.mp true (MS SJ o),.buf 9 (L Aa v.2) false]⟩:St)) (ws [0,2,3,4]) ?_;rintro⟨s,i⟩ bB aW aX aY;show EY a o s i=some aW->_;unfold EY;refine T0 [2,4,5,8,57,58,59,60] ?_;refine Sq <|Cd ?_ ?_
  ·refine Sk <|Tn <|?_
   refine Ja (fun j=>⟨Ai 82 [(2,.ref 0 0),(4,.ref 1 0),(5,.mref 2),(8,.bs false 3 (j.length) 0 (j.length)),(57,.sl false (L Aa a.Zf)),(58,i64 (a.Zf.length:Int)),(59,i64 s)],[.box (Ad b) false,.box [.str ([]:List UInt8),i64 0,.sl true (L Aa ([]))] false,.mp true (MS SJ o),.buf 9 (L Aa j) false]⟩) ?_ ?_
   ·intro bC;refine Sb <|Ck fun aZ =>Lt fun a0 a1 =>Lt fun a2 a3 =>Lt fun a4 a5 =>Lt fun a6 a7 =>Lt fun a8 a9 =>Lt fun ba bb =>Te (O':=[_,_,_,_,.box (.str a0::.sl false (L Af a2)::i64 a4::i64 a6::(C1 i64 a8.l++[.sl false (L cApi_Expr ba)])) false]) [2,4,5,8,14,57,58,59] Ab (Ev (by simp only[go_sem,qR aZ,a1,a3,a5,a7,a9,bb];exact C2)) ?_
    refine Lt fun bc bd =>Lt fun be bf =>Lt fun bg bh =>Lt fun bi bj =>Lt fun bk bl =>Lt fun bm bn =>Te (O':=[_,_,_,_,_,.box (.str bc::.sl false (L Af be)::i64 bg::i64 bi::(C1 i64 bk.l++[.sl false (L cApi_Expr bm)])) false]) [2,4,5,8,14,16,57,58,59] Ab (Ev (by simp only[go_sem,bd,bf,bh,bj,bl,bn];exact C2)) ?_
    refine T0 [2,4,5,8,14,57,58,59,70] ?_;refine Cd ?_ ?_
    ·refine Ck fun bo =>Lt fun p bp =>Fe (fr':=[(2,_),(4,_),(5,_),(8,.bs false 3 (p.length) 0 (p.length)),(57,_),(58,_),(59,_)]) (O':=[_,_,_,.buf 9 (L Aa p) false,_,_,_]) [2,4,5,8,57,58,59] Ab (Ew2 bo bp) ?_
     exact Bn <|Jm (ws [0,1,2,3])
    exact Sk <|Bn <|Jm (ws [0,1,2,3])
   intro j;refine F0 [2,4,5,8,57,58,59] ?_;exact Ln (ws [0,1,2,3])
  refine Sx <|Tx <|Ly aY aX <|Bx <|?_
  exact Jm ((ws (l':=[(2,.ref 0 0),(4,.ref 1 0),(8,.bs false 2 (i.length) 0 (i.length))]) (O':=[.box (Ad b) false,.box [.str ([]:List UInt8),i64 0,.sl true (L Aa ([]))] false,.buf 9 (L Aa i) false]) [0,1,3]).trans (ws [0,1,2]))
 intro g;refine T0 [4] ?_;exact Sr <|Rr
theorem G3{b c r}(h:D3 b c=some r):Con (B rs) 9 [.str b,i64 c] [] (fun r' O'=>r'=.tup [.agg (Ad r.1),i64 r.2]/\O'=[]):=by
 refine Cw 39 [.cell 4 34,.tmp 5] Tryz.func9 (fun F hE=>?_) h;unfold D3;refine T0 [0,1,4] ?_;refine Sq ?_;refine Tw [0,1,4,14] (fun f=>⟨Ai 39 [(0,.str b),(1,i64 c),(4,.ref 0 0),(14,.bool f)],[.box [.str ([]:List UInt8),i64 0,.sl true (L Aa ([]))] false]⟩) ?_ ?_
 ·intro _;refine Sp (fun d=>?_) fun d=>?_
  ·exact Lf Ab (Ew1 d) (ws [0])
  exact Lf Ab (Ew1 d) (ws [0])
 intro f;refine Cd ?_ ?_
 ·refine T0 [4,5] ?_;exact Sr <|Tr <|Rr
 refine Sk <|Tn <|Bd fun a k =>Te [1,4,6,8] (o1 18 (NE k)) Ev ?_
 refine Ja (fun g=>⟨Ai 39 [(4,.ref 0 0),(6,.ref 1 0),(8,i64 g)],[.box [.str ([]:List UInt8),i64 0,.sl true (L Aa ([]))] false,.box (Ad a.1) false]⟩) ?_ ?_
 ·intro m;refine Tw [4,6,8,29] (fun i=>⟨Ai 39 [(4,.ref 0 0),(6,.ref 1 0),(8,i64 a.2.2),(29,.bool i)],[.box [.str ([]:List UInt8),i64 0,.sl true (L Aa ([]))] false,.box (Ad a.1) false]⟩) ?_ ?_
  ·intro _;refine Sp (fun e=>?_) fun e=>?_
   ·exact Lf Ab (Ew1 e) (ws [0,1])
   exact Lf Ab (Ew1 e) (ws [0,1])
  intro i;refine Cd ?_ ?_
  ·refine F0 [4,6,8] ?_;exact Jm (ws [0,1])
  exact Sk <|Jm (ws [0,1])
 intro g;refine Ja (fun j=>⟨Ai 39 [(4,.ref 0 0),(6,.ref 1 0),(8,i64 j)],[.box [.str ([]:List UInt8),i64 0,.sl true (L Aa ([]))] false,.box (Ad a.1) false]⟩) ?_ ?_
 ·intro n;refine T0 [4,6,8,31] ?_;refine Cd ?_ ?_
  ·refine Bd fun o l =>Fe [4,6,8] (o1 33 (HY l)) Ev ?_
   exact Jm (ws [0,1])
  exact Sk <|Jm (ws [0,1])
 intro j;refine Sq <|T0 [4,6,8,35] ?_
 refine Cd ?_ ?_
 ·refine T0 [4,5] ?_;exact Sr <|Tr <|Rr
 refine Sk <|Tn <|T0 [4,5] ?_
 exact Sr <|Rr
variable {rs:AoO}
theorem DM{k l a b r}(h:BP k l a b=some r):Con (B rs) 7 [.sl false (L Ae k),i64 l,i64 a,i64 b] [] (fun r' O'=>r'=.tup [.agg (Ad r.1),i64 r.2]/\O'=[]):=by
 refine Cw 80 [.cell 8 34,.tmp 9] Tryz.func7 (fun F hE=>?_) h;unfold BP;refine T0 [0,1,2,3,8] ?_;refine Sc <|Sq <|?_
 refine Tw [0,1,2,3,8,28] (fun o=>⟨Ai 80 [(0,.sl false (L Ae k)),(1,i64 l),(2,i64 a),(3,i64 b),(8,.ref 0 0),(28,.bool o)],[.box [.str ([]:List UInt8),i64 0,.sl true (L Aa ([]))] false]⟩) ?_ ?_
 ·intro _;refine Bd fun aZ m=>?_
  refine Sp (fun i=>?_) fun i=>?_
  ·exact Lf (o1 19 (FY m)) (Ew1 i) (ws [0])
  refine Sp (fun n=>?_) fun n=>?_
  ·exact Lf (o1 19 (FY m)) (Ew2 i n) (ws [0])
  exact Lf (o1 19 (FY m)) (Ew2 i n) (ws [0])
 intro o;refine Cd ?_ ?_
 ·refine T0 [8,9] ?_;exact Sr <|Tr <|Cr <|Rr
 refine Sk <|Tn <|T0 [0,1,2,3,8,10] ?_
 refine T0 [0,1,2,3,8,10,11] ?_;refine Sq <|Sl <|Tn <|?_
 refine Ja (fun⟨p,q,s,t⟩=>⟨Ai 80 [(8,.ref 0 0),(10,.ref 1 0),(11,.bool p)],[.box [.str ([]:List UInt8),i64 0,.sl true (L Aa ([]))] false,.box [.str q,i64 s,.sl false (L Aa t)] false]⟩) ?_ ?_
 ·intro a0;refine Bd fun c aa =>Te [2,3,8,10,11,33,34,35] (o1 33 (Kb aa)) Ev ?_
  refine Sb ?_;refine Lo (fun⟨d,j,e,f,g⟩=>⟨Ai 80 [(2,i64 a),(3,i64 b),(8,.ref 0 0),(10,.ref 1 0),(11,.bool d),(33,.sl false (L Ae c)),(34,i64 (c.length:Int)),(35,i64 j)],[.box [.str ([]:List UInt8),i64 0,.sl true (L Aa ([]))] false,.box [.str e,i64 f,.sl false (L Aa g)] false]⟩) (ws [0,1]) ?_;rintro⟨d,j,e,f,g⟩ a1 ab u v;show El a b c d j e f g=some ab->_;unfold El;refine T0 [2,3,8,10,11,33,34,35,36] ?_;refine Sq <|Cd ?_ ?_
  ·refine Sk <|Tn <|?_
   refine Jo (fun⟨w,x,y,z⟩=>⟨Ai 80 [(2,i64 a),(3,i64 b),(8,.ref 0 0),(10,.ref 1 0),(11,.bool w),(33,.sl false (L Ae c)),(34,i64 (c.length:Int)),(35,i64 j)],[.box [.str ([]:List UInt8),i64 0,.sl true (L Aa ([]))] false,.box [.str x,i64 y,.sl false (L Aa z)] false]⟩) ?_ ?_
   ·intro a2 ac;refine Sb <|Ck fun ad =>Lt fun ae af =>Lt fun ag ah =>Lt fun ai aj =>Lt fun ak al =>Lt fun am an =>Lt fun ao ap =>Lt fun aq ar =>Lt fun au av =>Lt fun aw ax =>Lt fun ay az =>Lt fun aA aB =>Lt fun aC aD =>Lt fun aE aF =>Lt fun aG aH =>Lt fun aI aJ =>Lt fun aK aL =>Lt fun aM aN =>Lt fun aO aP =>Lt fun aQ aR =>Lt fun aS aT =>Lt fun aU aV =>Te (O':=[_,_,.box [i64 ae,i64 ag,i64 ai,i64 ak,i64 am,i64 ao,i64 aq,i64 au,i64 aw,i64 ay,i64 aA,i64 aC,i64 aE,i64 aG,i64 aI,i64 aK,i64 aM,i64 aO,i64 aQ,.str aS,.sl false (L Dm aU)] false]) [2,3,8,10,11,13,33,34,35] Ab (Ev (by simp only[go_sem,qR ad,af,ah,aj,al,an,ap,ar,av,ax,az,aB,aD,aF,aH,aJ,aL,aN,aP,aR,aT,aV];exact C2)) ?_
    refine Sq <|T0 [2,3,8,10,11,13,33,34,35,43] ?_
    refine Cd ?_ ?_
    ·refine Sx <|Tx <|Bo <|Jx ac <|Ly v u <|Bx <|?_
     exact Jm ((ws (l':=[(8,.ref 0 0),(10,.ref 1 0),(11,.bool d)]) (O':=[.box [.str ([]:List UInt8),i64 0,.sl true (L Aa ([]))] false,.box [.str e,i64 f,.sl false (L Aa g)] false]) [0,1]).trans (ws [0,1]))
    refine Sk <|Tn <|Sq <|T0 [2,3,8,10,11,13,33,34,35,47] ?_
    refine Cd ?_ ?_
    ·refine T0 [2,3,8,10,11,33,34,35] ?_;exact Sx <|Tx <|Bx <|Jn (ws [0,1])
    refine Sk <|Tn <|Bd fun a3 aW =>Te [2,3,8,10,11,13,14,15,33,34,35] (o1 54 (G3 aW)) Ev ?_
    refine Sb <|T0 [2,3,8,10,11,13,14,33,34,35,57] ?_
    refine Cd ?_ ?_
    ·exact Sx <|Bo <|Bx <|Jn (ws [0,1])
    refine T0 [2,3,8,10,11,14,33,34,35,60] ?_;refine Cd ?_ ?_
    ·refine F0 [2,3,8,10,11,33,34,35] ?_;exact Bn <|Bn <|Jn (ws [0,1])
    refine T0 [2,3,8,10,11,14,33,34,35,66] ?_;refine Cd ?_ ?_
    ·refine Bd fun a4 aX =>Te [2,3,8,10,11,16,33,34,35] (o1 70 (M2 aX)) Ev ?_
     refine Bd fun a5 aY =>Te [2,3,8,10,11,16,33,34,35,73] (o1 72 (HY aY)) Ev ?_
     refine Cd ?_ ?_
     ·refine F0 [2,3,8,10,11,33,34,35] ?_;exact Bn <|Bn <|Jn (ws [0,1])
     exact Sk <|Bn <|Bn <|Jn (ws [0,1])
    exact Sk <|Bn <|Bn <|Jn (ws [0,1])
   rintro⟨w,x,y,z⟩;refine F0 [2,3,8,10,11,33,34,35] ?_;exact Ln (ws [0,1])
  refine Sx <|Tx <|Ly v u <|Bx <|?_
  exact Jm ((ws (l':=[(8,.ref 0 0),(10,.ref 1 0),(11,.bool d)]) (O':=[.box [.str ([]:List UInt8),i64 0,.sl true (L Aa ([]))] false,.box [.str e,i64 f,.sl false (L Aa g)] false]) [0,1]).trans (ws [0,1]))
 rintro⟨p,q,s,t⟩;refine Sq <|T0 [8,10,77] ?_
 refine Cd ?_ ?_
 ·refine T0 [8,9] ?_;exact Sr <|Tr <|Cr <|Rr
 refine Sk <|Tn <|T0 [8,9] ?_
 exact Sr <|Cr <|Rr
theorem KN{r}(h:top_editionsSane  = some r):Con (B rs) 5 [] [] (fun r' O'=>r'=.bool r/\O'=[]):=by
 refine Cw 32 [.tmp 0] Tryz.func5 (fun F hE=>?_) h;unfold top_editionsSane;refine T0 [] ?_;refine Lt fun b e =>Te (fr':=[(1,.bs true 0 (b.length) 0 (b.length))]) (O':=[.buf 21 (L Ae b) false]) [1] Ab (Ew1 e) ?_
 refine Bd fun i f =>Te [1,2,3] (o1 13 (DM f)) Ev ?_
 refine Bd fun j g =>Te [2,3,5] (o1 18 (DM g)) Ev ?_
 refine Tw [0] (fun d=>⟨Ai 32 [(0,.bool d)],[]⟩) ?_ ?_
 ·intro _;refine Sp (fun a=>?_) fun a=>?_
  ·refine Sp (fun c=>?_) fun c=>?_
   ·exact Lf Ab (Ew2 a c) (ws [])
   exact Lf Ab (Ew2 a c) (ws [])
  exact Lf Ab (Ew1 a) (ws [])
 intro d;exact Sr <|Rr
variable {rs:AoO}
theorem JO{d e i f af r}(h:Fg d e i f af=some r):Con (B rs) 3 [.sl false (L Ae d),.agg (Ae e),i64 i,i64 f,i64 af] [] (fun r' O'=>r'=.bool r/\O'=[]):=by
 refine Cw 242 [.tmp 10] Tryz.func3 (fun F hE=>?_) h;unfold Fg;refine T0 [0,2,3,4,6] ?_;refine Sq <|Bd fun ci aQ =>Te [0,2,3,4,6,29] (o1 28 (KN aQ)) Ev ?_
 refine Cd ?_ ?_
 ·refine T0 [10] ?_;exact Sr <|Tr <|Rr
 refine Sk <|Tn <|Ck fun ag =>?_
 have ah:=ag;simp only[Apv,ApR,Apc,Api,Apy,Aqn,Nat.reduceAdd]at ah;refine Ck fun ai=>?_
 have aj:=ai;simp only[Apv,ApR,Apc,Api,Apy,Aqn,Nat.reduceAdd]at aj;refine Lt fun ak aR=>?_
 intro h;refine Abs (n:=242) hE mixed [[],[],[0,1],[],[3],[0,1,2,3,4],[0,1,2,3,4,5]] (by kernel_rfl) [(6,0)] [] [(30,1)] [(30,1)] [0,2,3,4,6,11,30] (by kernel_rfl) (fr':=[(0,.sl false (L Ae d)),(2,i64 i),(3,i64 f),(4,i64 af),(6,.ref 0 0),(11,.bs false 1 (ak.length) 0 (ak.length)),(30,.bs true 1 (([]:List Ao0).length) 0 (([]:List Ao0).length))]) (O':=[.box (Ae e) false,.buf 21 (L Ae ak) false]) ⟨rfl,trivial⟩ trivial ⟨⟨rfl,rfl,rfl⟩,trivial⟩ ⟨rfl,trivial⟩ ⟨_,Ab,?_⟩ ?_
 ·subst aR;first|(simp only[go_sem,ag,ah,ai,aj];done)|(simp only[go_sem,ag,ah,ai,aj];simp only[AqP 1])
 revert h;refine Sq <|Bd fun cj aS =>Te [0,2,3,4,6,11,38] (o1 37 (My aS)) Ev ?_
 refine Cd ?_ ?_
 ·refine T0 [10] ?_;exact Sr <|Tr <|Rr
 refine Sk <|Tn <|Bd fun b aT =>Te [0,2,3,4,6,11,12,13] (o1 44 (DM aT)) Ev ?_
 refine Bd fun a aU =>Te [0,2,3,4,6,12,13,14,15] (o1 52 (DM aU)) Ev ?_
 refine Sq ?_;refine Tw [0,2,3,6,12,13,14,15,91] (fun aw=>⟨Ai 242 [(0,.sl false (L Ae d)),(2,i64 i),(3,i64 f),(6,.ref 0 0),(12,.ref 1 0),(13,i64 b.2),(14,.ref 2 0),(15,i64 a.2),(91,.bool aw)],[.box (Ae e) false,.box (Ad b.1) false,.box (Ad a.1) false]⟩) ?_ ?_
 ·intro _;refine Sp (fun j=>?_) fun j=>?_
  ·exact Lf Ab (Ew1 j) (ws [0,2,3])
  refine Sp (fun k=>?_) fun k=>?_
  ·exact Lf Ab (Ew2 j k) (ws [0,2,3])
  refine Sp (fun o=>?_) fun o=>?_
  ·exact Lf Ab (Ew3 j k o) (ws [0,2,3])
  refine Sp (fun x=>?_) fun x=>?_
  ·refine Sp (fun al=>?_) fun al=>?_
   ·exact Lf Ab (Ew5 j k o x al) (ws [0,2,3])
   exact Lf Ab (Ew5 j k o x al) (ws [0,2,3])
  exact Lf Ab (Ew4 j k o x) (ws [0,2,3])
 intro aw;refine Cd ?_ ?_
 ·refine Tw [10] (fun ax=>⟨Ai 242 [(10,.bool ax)],[]⟩) ?_ ?_
  ·intro _;refine Sp (fun am=>?_) fun am=>?_
   ·refine Bd fun ck aV=>?_
    exact Lf (o1 98 (DW aV)) (Ew1 am) (ws [])
   exact Lf Ab (Ew1 am) (ws [])
  intro ax;exact Sr <|Tr <|Rr
 refine Sk <|Tn <|T0 [0,2,3,6,12,13,14,15,16] ?_
 refine Ja (fun ay=>⟨Ai 242 [(3,i64 f),(6,.ref 0 0),(12,.ref 1 0),(13,i64 b.2),(14,.ref 2 0),(15,i64 a.2),(16,.bool ay)],[.box (Ae e) false,.box (Ad b.1) false,.box (Ad a.1) false]⟩) ?_ ?_
 ·intro cl;refine T0 [2,3,6,12,13,14,15,16,100,101,102] ?_;refine Sb ?_;refine Lo (fun(v:Bool×Int)=>(⟨Ai 242 [(2,i64 i),(3,i64 f),(6,.ref 0 0),(12,.ref 1 0),(13,i64 b.2),(14,.ref 2 0),(15,i64 a.2),(16,.bool v.1),(100,.sl false (L Ae d)),(101,i64 (d.length:Int)),(102,i64 v.2)],[.box (Ae e) false,.box (Ad b.1) false,.box (Ad a.1) false]⟩:St)) (ws [0,1,2]) ?_;rintro⟨az,aA⟩ cm aW aX aY;show CR d e i f az aA=some aW->_;unfold CR;refine T0 [2,3,6,12,13,14,15,16,100,101,102,103] ?_;refine Sq <|Cd ?_ ?_
  ·refine Sk <|Tn <|Sq <|Sb <|Ck fun aZ =>Lt fun a0 a1 =>Lt fun a2 a3 =>Lt fun a4 a5 =>Lt fun a6 a7 =>Lt fun a8 a9 =>Lt fun ba bb =>Lt fun bc bd =>Lt fun be bf =>Lt fun bg bh =>Lt fun bi bj =>Lt fun bk bl =>Lt fun bm bn =>Lt fun bo bp =>Lt fun bq br =>Lt fun bt bu =>Lt fun bv bw =>Lt fun bx bz =>Lt fun bA bB =>Lt fun bC bD =>Lt fun bE bF =>Lt fun bG bH =>Te (O':=[_,_,_,.box [i64 a0,i64 a2,i64 a4,i64 a6,i64 a8,i64 ba,i64 bc,i64 be,i64 bg,i64 bi,i64 bk,i64 bm,i64 bo,i64 bq,i64 bt,i64 bv,i64 bx,i64 bA,i64 bC,.str bE,.sl false (L Dm bG)] false]) [2,3,6,12,13,14,15,16,18,100,101,102] Ab (Ev (by simp only[go_sem,qR aZ,a1,a3,a5,a7,a9,bb,bd,bf,bh,bj,bl,bn,bp,br,bu,bw,bz,bB,bD,bF,bH];exact C2)) ?_
   refine Fw [2,3,6,12,13,14,15,16,100,101,102] (fun aB=>⟨Ai 242 [(2,i64 i),(3,i64 f),(6,.ref 0 0),(12,.ref 1 0),(13,i64 b.2),(14,.ref 2 0),(15,i64 a.2),(16,.bool aB),(100,.sl false (L Ae d)),(101,i64 (d.length:Int)),(102,i64 aA)],[.box (Ae e) false,.box (Ad b.1) false,.box (Ad a.1) false]⟩) ?_ ?_
   ·intro _;refine Sp (fun p=>?_) fun p=>?_
    ·refine Sp (fun y=>?_) fun y=>?_
     ·exact Lf Ab (Ew2 p y) (ws [0,1,2])
     refine Sp (fun an=>?_) fun an=>?_
     ·exact Lf Ab (Ew3 p y an) (ws [0,1,2])
     exact Lf Ab (Ew3 p y an) (ws [0,1,2])
    exact Lf Ab (Ew1 p) (ws [0,1,2])
   intro aB;refine Bn <|Tn <|F0 [2,3,6,12,13,14,15,16,100,101,102] ?_
   exact Ln (ws [0,1,2])
  refine Sx <|Tx <|Ly aY aX <|Bx <|?_
  exact Jm ((ws (l':=[(3,i64 f),(6,.ref 0 0),(12,.ref 1 0),(13,i64 b.2),(14,.ref 2 0),(15,i64 a.2),(16,.bool az)]) (O':=[.box (Ae e) false,.box (Ad b.1) false,.box (Ad a.1) false]) [0,1,2]).trans (ws [0,1,2]))
 intro ay;refine Sq <|T0 [3,6,12,13,14,15,132] ?_
 refine Cd ?_ ?_
 ·refine T0 [10] ?_;exact Sr <|Tr <|Rr
 refine Sk <|Tn <|Sq <|T0 [3,6,12,13,14,15,135] ?_
 refine Sb <|T0 [3,6,12,13,14,15,135,136] ?_
 refine Cd ?_ ?_
 ·refine Tw [10] (fun aC=>⟨Ai 242 [(10,.bool aC)],[]⟩) ?_ ?_
  ·intro _;refine Sp (fun z=>?_) fun z=>?_
   ·exact Lf Ab (Ew1 z) (ws [])
   refine Sp (fun ao=>?_) fun ao=>?_
   ·exact Lf Ab (Ew2 z ao) (ws [])
   exact Lf Ab (Ew2 z ao) (ws [])
  intro aC;exact Sr <|Br <|Tr <|Rr
 refine T0 [3,6,12,13,14,15,148] ?_;refine Cd ?_ ?_
 ·refine Bd fun bI bJ =>Te [12,13,14,15,19,20] (o1 155 (G3 bJ)) Ev ?_
  refine Sq ?_;refine Tw [12,13,14,15,19,163] (fun aD=>⟨Ai 242 [(12,.ref 0 0),(13,i64 b.2),(14,.ref 1 0),(15,i64 a.2),(19,.ref 2 0),(163,.bool aD)],[.box (Ad b.1) false,.box (Ad a.1) false,.box (Ad bI.1) false]⟩) ?_ ?_
  ·intro _;refine Sp (fun ap=>?_) fun ap=>?_
   ·exact Lf Ab (Ew1 ap) (ws [1,2,3])
   exact Lf Ab (Ew1 ap) (ws [1,2,3])
  intro aD;refine Cd ?_ ?_
  ·refine Tw [10] (fun aE=>⟨Ai 242 [(10,.bool aE)],[]⟩) ?_ ?_
   ·intro _;refine Sp (fun aq=>?_) fun aq=>?_
    ·refine Bd fun cn bK=>?_
     exact Lf (o1 169 (DW bK)) (Ew1 aq) (ws [])
    exact Lf Ab (Ew1 aq) (ws [])
   intro aE;exact Sr <|Tr <|Br <|Tr <|Rr
  refine Sk <|Tn <|?_
  refine Tw [10] (fun aF=>⟨Ai 242 [(10,.bool aF)],[]⟩) ?_ ?_
  ·intro _;refine Sp (fun ar=>?_) fun ar=>?_
   ·refine Bd fun co bL=>?_
    exact Lf (o1 177 (DW bL)) (Ew1 ar) (ws [])
   exact Lf Ab (Ew1 ar) (ws [])
  intro aF;exact Sr <|Br <|Tr <|Rr
 refine Sk <|Bn <|Tn <|Bd fun c bM =>Te [12,13,14,15,21,22] (o1 184 (G3 bM)) Ev ?_
 refine Sq ?_;refine Tw [12,13,14,15,21,196] (fun aG=>⟨Ai 242 [(12,.ref 0 0),(13,i64 b.2),(14,.ref 1 0),(15,i64 a.2),(21,.ref 2 0),(196,.bool aG)],[.box (Ad b.1) false,.box (Ad a.1) false,.box (Ad c.1) false]⟩) ?_ ?_
 ·intro _;refine Sp (fun aa=>?_) fun aa=>?_
  ·exact Lf Ab (Ew1 aa) (ws [1,2,3])
  refine Sp (fun au=>?_) fun au=>?_
  ·exact Lf Ab (Ew2 aa au) (ws [1,2,3])
  exact Lf Ab (Ew2 aa au) (ws [1,2,3])
 intro aG;refine Cd ?_ ?_
 ·refine Tw [10] (fun aH=>⟨Ai 242 [(10,.bool aH)],[]⟩) ?_ ?_
  ·intro _;refine Sp (fun av=>?_) fun av=>?_
   ·refine Bd fun cp bN=>?_
    exact Lf (o1 203 (DW bN)) (Ew1 av) (ws [])
   exact Lf Ab (Ew1 av) (ws [])
  intro aH;exact Sr <|Tr <|Rr
 refine Sk <|Tn <|Sq <|Bd fun cq bO =>Te [12,14,21,207] (o1 207 (DW bO)) Ev ?_
 refine Cd ?_ ?_
 ·refine T0 [10] ?_;exact Sr <|Tr <|Rr
 refine Sk <|Tn <|?_
 refine Jo (fun _=>⟨Ai 242 [(12,.ref 0 0),(14,.ref 1 0)],[.box (Ad b.1) false,.box (Ad a.1) false]⟩) ?_ ?_
 ·intro cr bP;refine T0 [12,14,21,209,210,211] ?_;refine Sb ?_;refine Lo (fun g=>⟨Ai 242 [(12,.ref 0 0),(14,.ref 1 0),(21,.ref 2 0),(209,.sl false (L Aa a.1.Zf)),(210,i64 (a.1.Zf.length:Int)),(211,i64 g)],[.box (Ad b.1) false,.box (Ad a.1) false,.box (Ad c.1) false]⟩) (ws [0,1,2]) ?_;rintro g cs bQ aI aJ;show Cm b a c g=some bQ->_;unfold Cm;refine T0 [12,14,21,209,210,211,212] ?_;refine Sq <|Cd ?_ ?_
  ·refine Sk <|Tn <|?_
   refine Jo (fun _=>⟨Ai 242 [(12,.ref 0 0),(14,.ref 1 0),(21,.ref 2 0),(209,.sl false (L Aa a.1.Zf)),(210,i64 (a.1.Zf.length:Int)),(211,i64 g)],[.box (Ad b.1) false,.box (Ad a.1) false,.box (Ad c.1) false]⟩) ?_ ?_
   ·intro ct bR;refine Sb <|Ck fun bS =>Lt fun m bT =>Lt fun q bU =>Lt fun s bV =>Lt fun t bW =>Lt fun u bX =>Lt fun w bY =>Te (O':=[_,_,_,.box (.str m::.sl false (L Af q)::i64 s::i64 t::(C1 i64 u.l++[.sl false (L cApi_Expr w)])) false]) [12,14,21,24,209,210,211] Ab (Ev (by simp only[go_sem,qR bS,bT,bU,bV,bW,bX,bY];exact C2)) ?_
    refine T0 [12,14,21,24,25,209,210,211] ?_;refine Ja (fun⟨aK,aL,aM⟩=>⟨Ai 242 [(12,.ref 0 0),(14,.ref 1 0),(21,.ref 2 0),(24,.ref 3 0),(25,.ref 4 0),(209,.sl false (L Aa a.1.Zf)),(210,i64 (a.1.Zf.length:Int)),(211,i64 g)],[.box (Ad b.1) false,.box (Ad a.1) false,.box (Ad c.1) false,.box (.str m::.sl false (L Af q)::i64 s::i64 t::(C1 i64 u.l++[.sl false (L cApi_Expr w)])) false,.box [.str aK,i64 aL,.sl false (L Aa aM)] false]⟩) ?_ ?_
    ·intro cu;refine T0 [12,14,21,24,25,209,210,211,217,218,219] ?_;refine Sb ?_;refine Lo (fun⟨ab,ac,ad,ae⟩=>⟨Ai 242 [(12,.ref 0 0),(14,.ref 1 0),(21,.ref 2 0),(24,.ref 3 0),(25,.ref 4 0),(209,.sl false (L Aa a.1.Zf)),(210,i64 (a.1.Zf.length:Int)),(211,i64 g),(217,.sl false (L Aa c.1.Zf)),(218,i64 (c.1.Zf.length:Int)),(219,i64 ab)],[.box (Ad b.1) false,.box (Ad a.1) false,.box (Ad c.1) false,.box (.str m::.sl false (L Af q)::i64 s::i64 t::(C1 i64 u.l++[.sl false (L cApi_Expr w)])) false,.box [.str ac,i64 ad,.sl false (L Aa ae)] false]⟩) (ws [0,1,2,3,4]) ?_;rintro⟨ab,ac,ad,ae⟩ cv bZ b0 b1;show CP c m ab ac ad ae=some bZ->_;unfold CP;refine T0 [12,14,21,24,25,209,210,211,217,218,219,220] ?_;refine Sq <|Cd ?_ ?_
     ·refine Sk <|Tn <|?_
      refine Ja (fun⟨aN,aO,aP⟩=>⟨Ai 242 [(12,.ref 0 0),(14,.ref 1 0),(21,.ref 2 0),(24,.ref 3 0),(25,.ref 4 0),(209,.sl false (L Aa a.1.Zf)),(210,i64 (a.1.Zf.length:Int)),(211,i64 g),(217,.sl false (L Aa c.1.Zf)),(218,i64 (c.1.Zf.length:Int)),(219,i64 ab)],[.box (Ad b.1) false,.box (Ad a.1) false,.box (Ad c.1) false,.box (.str m::.sl false (L Af q)::i64 s::i64 t::(C1 i64 u.l++[.sl false (L cApi_Expr w)])) false,.box [.str aN,i64 aO,.sl false (L Aa aP)] false]⟩) ?_ ?_
      ·intro cw;refine Sb <|Ck fun b2 =>Lt fun b3 b4 =>Lt fun b5 b6 =>Lt fun b7 b8 =>Lt fun b9 ca =>Lt fun cb cc =>Lt fun cd ce =>Te (O':=[_,_,_,_,_,.box (.str b3::.sl false (L Af b5)::i64 b7::i64 b9::(C1 i64 cb.l++[.sl false (L cApi_Expr cd)])) false]) [12,14,21,24,25,27,209,210,211,217,218,219] Ab (Ev (by simp only[go_sem,qR b2,b4,b6,b8,ca,cc,ce];exact C2)) ?_
       refine T0 [12,14,21,24,25,209,210,211,217,218,219,227] ?_;refine Cd ?_ ?_
       ·refine F0 [12,14,21,24,25,209,210,211,217,218,219] ?_;exact Bn <|Jm (ws [0,1,2,3,4])
       exact Sk <|Bn <|Jm (ws [0,1,2,3,4])
      rintro⟨aN,aO,aP⟩;refine F0 [12,14,21,24,25,209,210,211,217,218,219] ?_;exact Ln (ws [0,1,2,3,4])
     refine Sx <|Tx <|Ly b1 b0 <|Bx <|?_
     exact Jm ((ws (l':=[(12,.ref 0 0),(14,.ref 1 0),(21,.ref 2 0),(24,.ref 3 0),(25,.ref 4 0),(209,.sl false (L Aa a.1.Zf)),(210,i64 (a.1.Zf.length:Int)),(211,i64 g)]) (O':=[.box (Ad b.1) false,.box (Ad a.1) false,.box (Ad c.1) false,.box (.str m::.sl false (L Af q)::i64 s::i64 t::(C1 i64 u.l++[.sl false (L cApi_Expr w)])) false,.box [.str ac,i64 ad,.sl false (L Aa ae)] false]) [0,1,2,3,4]).trans (ws [0,1,2,3,4]))
    rintro⟨aK,aL,aM⟩;refine Bd fun cx cf =>Te [12,14,21,209,210,211,233] (o1 232 (Na cf)) Ev ?_
    refine Cd ?_ ?_
    ·refine T0 [10] ?_;exact Sr <|Br <|Jr bR <|Lr aJ aI <|Br <|Jr bP <|Rr
    exact Sk <|Bn <|Jn (ws [0,1,2])
   intro _;refine F0 [12,14,21,209,210,211] ?_;exact Ln (ws [0,1,2])
  refine Sx <|Tx <|Lx aJ aI <|Bx <|?_
  exact Jn ((ws (l':=[(12,.ref 0 0),(14,.ref 1 0)]) (O':=[.box (Ad b.1) false,.box (Ad a.1) false]) [0,1]).trans (ws [0,1]))
 intro _;refine Lt fun cg ch =>Te (fr':=[(10,.bool cg)]) [10] Ab (Ew1 ch) ?_
 exact Sr <|Rr
set_option maxRecDepth 8000
theorem Bp{α β:Type}(x:α)(f:α->Option β):lt1 x f=f x:=ArU (eq_self (f x))
theorem Bq{k:Nat}(h:k<9223372036854775807):w64 ((k:Int)+1)=((k+1:Nat):Int):=by rw[Hn (by omega)];rfl
theorem Ah{α β:Type}(x:α)(f:α->Option β):(some x).bind f=f x:=ArU (eq_self (f x))
theorem Mx{V X S:Type}(n:Nat)(f:V->Option (V⊕X))(st:Int->S->V)(F:Nat->S)(out:S->X)(hn:n<1152921504606846976) (hs:∀k:Nat,k<n->f (st (k:Int) (F k))=some (.inl (st ((k+1:Nat):Int) (F (k+1))))) (he:f (st (n:Int) (F n))=some (.inr (out (F n)))) :AY f (st 0 (F 0))=some (out (F n)):=by
 obtain⟨x,hx,hq⟩:∃x,AY f (st 0 (F 0))=some x/\x=out (F n):=by
  refine Abo n (fun k v=>v=st (k:Int) (F k)) _ (by omega) ?_ ?_ rfl
  ·rintro k v hk rfl;exact⟨_,hs k hk,rfl⟩
  rintro v rfl;exact⟨_,he,rfl⟩
 rw[hx,hq]
def TP{α:Type}(o:Option α)(P:α->Prop):Prop:=∃a,o=some a/\P a
abbrev YH{α:Type}(o:Option α):Prop:=TP o fun _=>True
section
variable {α β:Type}{P:α->Prop}{Q:β->Prop}
theorem Aj{a:α}(h:P a):TP (some a) P:=⟨a,rfl,h⟩
theorem AC{o:Option β}{f:β->Option α}(h:TP o Q)(k:∀b,Q b->TP (f b) P):TP (o.bind f) P:=by
 obtain⟨b,rfl,hb⟩:=h;exact k b hb
theorem Aia{o:Option β}{f:β->Option α}(h:YH o)(k:∀b,TP (f b) P):TP (o.bind f) P:=AC h fun b _=>k b
theorem AA{c:Prop}[Decidable c]{x y:Option α}(h:c->TP x P)(k:¬c->TP y P):TP (if c then x else y) P:=by
 by_cases hc:c
 ·rw[Apb hc];exact h hc
 rw[Apd hc];exact k hc
theorem Dx{c:Prop}[Decidable c]{x:Option α}(h:c)(k:TP x P):TP (if c then x else none) P:=by rw[Apb h];exact k
theorem A8{x:β}{f:β->Option α}(h:TP (f x) P):TP (lt1 x f) P:=by rw[Bp];exact h
theorem Amj{P':α->Prop}{o:Option α}(h:TP o P)(k:∀a,P a->P' a):TP o P':=by
 obtain⟨a,e,hp⟩:=h;exact⟨a,e,k a hp⟩
end
theorem AQ{V X:Type}(I:V->Prop)(μ:V->Nat){Q:X->Prop}{f:V->Option (V⊕X)}{v0:V}(h:∀v,I v->TP (f v) fun y=>match y with|.inl v'=>I v'/\μ v'<μ v|.inr x=>Q x)(h0:I v0)(hm:μ v0<18446744073709551616):TP (AY f v0) Q:=by
 refine Kw I μ Q (fun v hv=>?_) h0 hm;obtain⟨y,e,hy⟩:=h v hv;cases y with
 |inl v'=>exact .inl ⟨v',e,hy.1,hy.2⟩
 |inr x=>exact .inr ⟨x,e,hy⟩
theorem Ahn{k:Nat}(h:k<9223372036854775807):w64 (k:Int)=(k:Int):=Hn (by omega)
theorem Au{k n:Nat}(h:k<n):InR (k:Int) n:=by unfold InR;omega
theorem P3{k n:Nat}(h:k<=n):InB (k:Int) n:=by unfold InB;omega
theorem SU{α β:Type}{o:Option α}{a:α}{f:α->Option β}(h:o=some a):o.bind f=f a:=by rw[h];rfl
theorem B6{α:Type}[Inhabited α]{l:List α}{k:Nat}(h:k<l.length):nth l k=l[k]:=by simp[nth,h]
theorem AL{α:Type}[Inhabited α]{l:List α}{k:Nat}(h:k<l.length):nth l k∈l:=by rw[B6 h];exact Aqp h
theorem Hp(x:AoT):AoT.mk x.Op x.N x.Unit x.L=x:=by cases x;rfl
theorem ET(c:AoU):({ Zd:=c.Zd,Ze:=c.Ze,Pay:=AoT.mk c.Pay.Op c.Pay.N c.Pay.Unit c.Pay.L }:AoU)=c:=by rw[Hp]
def w_attributes:List (List UInt8):=[[116,121,112,101],[111,119,110,101,114],[114,97,105,108,119,97,121],[115,104,105,112,112,101,114],[99,108,97,115,115],[119,101,105,103,104,116],[107,109],[109,105,110,117,116,101,115],[119,111,114,107,105,110,103],[99,111,100,101],[119,111,114,116,104],[99,111,115,116],[109,111,110,116,104],[98,101,103,105,110],[112,97,114,116,115],[112,97,114,116]]
theorem Ii:Be ([116,121,112,101,32,111,119,110,101,114,32,114,97,105,108,119,97,121,32,115,104,105,112,112,101,114,32,99,108,97,115,115,32,119,101,105,103,104,116,32,107,109,32,109,105,110,117,116,101,115,32,119,111,114,107,105,110,103,32,99,111,100,101,32,119,111,114,116,104,32,99,111,115,116,32,109,111,110,116,104,32,98,101,103,105,110,32,112,97,114,116,115,32,112,97,114,116]:List UInt8)=some w_attributes:=by decide +kernel
def w_kinds:List (List UInt8):=[[104,105,114,101],[100,101,109,117,114,114,97,103,101],[102,114,101,105,103,104,116],[114,101,112,97,105,114],[108,111,115,115],[99,108,101,97,110,105,110,103]]
theorem ZU:Be ([104,105,114,101,32,100,101,109,117,114,114,97,103,101,32,102,114,101,105,103,104,116,32,114,101,112,97,105,114,32,108,111,115,115,32,99,108,101,97,110,105,110,103]:List UInt8)=some w_kinds:=by decide +kernel
def w_units:List (List UInt8):=[[109,111,110,101,121],[109,105,110,117,116,101],[107,109],[107,103]]
theorem UI:Be ([109,111,110,101,121,32,109,105,110,117,116,101,32,107,109,32,107,103]:List UInt8)=some w_units:=by decide +kernel
def w_calls:List (List UInt8):=[[109,105,110],[109,97,120],[100,111,119,110],[117,112],[104,97,108,102]]
theorem Aa7:Be ([109,105,110,32,109,97,120,32,100,111,119,110,32,117,112,32,104,97,108,102]:List UInt8)=some w_calls:=by decide +kernel
abbrev Ps:=AoW
abbrev AdZ:=Int×Int×Ps
def Alr(p:Ps):Int:=match p.l with
 |[]=>p.end_
 |t::_=>t.At
def OI(p:Ps)(s:List UInt8):Bool×Ps:=match p.l with
 |[]=>(false,p)
 |t::r=>if t.Za≠2/\t.Zb=s then(true,⟨r,p.end_⟩)else(false,p)
def OL(p:Ps):AdZ:=(Alr p,160,p)
def VW(p:Ps)(s:List UInt8):Ps⊕AdZ:=if(OI p s).1=true then .inl (OI p s).2 else .inr (OL p)
def Ae7(p:Ps):(Int×Ps)⊕AdZ:=match p.l with
 |[]=>.inr (OL p)
 |t::r=>if t.Za=2 then .inl (t.N,⟨r,p.end_⟩)else .inr (OL p)
def Agz(s:List UInt8):Bool:=Jb false tab1 s
def YK(p:Ps):(List UInt8×Ps)⊕AdZ:=match p.l with
 |[]=>.inr (OL p)
 |t::r=>if t.Za=1 then(if Agz t.Zb=true then .inr (t.At,161,p)else .inl (t.Zb,⟨r,p.end_⟩))else .inr (OL p)
def chS(p:Ps)(ws:List (List UInt8)):Option (Nat×Ps):=match p.l with
 |[]=>none
 |t::r=>if t.Za=1/\ws.findIdx (t.Zb==·)<ws.length then some (ws.findIdx (t.Zb==·),⟨r,p.end_⟩)else none
def U1(p:Ps)(ws:List (List UInt8)):(Int×Ps)⊕AdZ:=match chS p ws with
 |some (i,q)=>.inl ((i:Int),q)
 |none=>.inr (OL p)
theorem MY(p:Ps):Bf p=some (Alr p,p):=by
 obtain⟨l,e⟩:=p;cases l with
 |nil=>rfl
 |cons t r=>
  unfold Bf;rw[Apb (by simp),Apb (show InR 0 _ from⟨by decide,by simp⟩)];rfl
theorem Mj(p:Ps):Bl p=some (.inr (OL p)):=by
 unfold Bl;rw[MY];rfl
theorem RY{t:AoP}{r:List AoP}:(((t::r).drop 1).take ((t::r).length-1))=r:=by
 simp
def Vj(p:Ps)(k:Int):AoP×Bool×Ps:=match p.l with
 |[]=>({ Za:=0,Zb:=[],N:=0,At:=0 },false,p)
 |t::r=>if t.Za=k then(t,true,p)else({ Za:=0,Zb:=[],N:=0,At:=0 },false,p)
theorem Ahy{p:Ps}{k:Int}:(Vj p k).2.2=p:=by
 unfold Vj;split
 ·rfl
 split<;>rfl
theorem Rj(p:Ps)(k:Int):BB p k=some (Vj p k):=by
 unfold Vj;obtain⟨l,e⟩:=p;cases l with
 |nil=>rfl
 | cons t r=>
  unfold BB;have hi:InR 0 (t::r).length:=⟨by decide,by simp⟩;rw[Apd (by simp;omega)];simp only[Apb hi,Ah];show(if(t.Za != k)then _ else _)=_;by_cases h:t.Za=k
  ·rw[Apd (by simp[h])];simp only[h,ApT];rfl
  rw[Apb (by simp[h])];simp only[h,Ap5]
theorem EI(p:Ps)(s:List UInt8):Aw p s=some (OI p s):=by
 obtain⟨l,e⟩:=p;cases l with
 |nil=>rfl
 | cons t r=>
  unfold Aw OI;have hi:InR 0 (t::r).length:=⟨by decide,by simp⟩;have hb:InB 1 (t::r).length:=⟨by decide,by simp⟩;rw[Apd (by simp;omega)];simp only[Apb hi,Apb hb,RY,Bp];show((if(t.Za==2)then some true else some (!(t.Zb==s))).bind _)=_;by_cases h:t.Za=2
  ·rw[Apb (by simp[h])];simp[h]
  rw[Apd (by simp[h])];simp only[Ah];by_cases h2:t.Zb=s
  ·simp[h,h2]
  simp[h,h2]
theorem EF(p:Ps)(s:List UInt8):Ax p s=some (VW p s):=by
 unfold Ax VW;rw[EI];simp only[Ah];by_cases h:(OI p s).1=true
 ·rw[Apd (by simp[h]),Apb h]
 rw[Apb (by simp[h]),Apd h]
 have:(OI p s).2=p:=by
  unfold OI at h ⊢;split<;>rename_i hl
  ·rfl
  rw[hl]at h;simp only at h;split at h
  ·exact(h rfl).elim
  rename_i hc;rw[Apd hc]
 rw[this,Mj];rfl
theorem Kv(p:Ps):Bh p=some (Ae7 p):=by
 unfold Bh Ae7;rw[Rj];unfold Vj;obtain⟨l,e⟩:=p;cases l with
 |nil=>rfl
 |cons t r=>
  have hb:InB 1 (t::r).length:=⟨by decide,by simp⟩;simp only[Ah];by_cases h:t.Za=2
  ·simp only[h,ApT,Aq2,ApC,Ap5,Ah,Apb hb,RY,Bp]
  simp only[h,Ap5,Ars,ApT,Mj,Ah]
theorem Lp(s:List UInt8):Ek s=some (Agz s):=by
 unfold Ek;rfl
theorem Acb(p:Ps):CI p=some (YK p):=by
 unfold CI YK;rw[Rj];unfold Vj;obtain⟨l,e⟩:=p;cases l with
 |nil=>rfl
 | cons t r=>
  have hb:InB 1 (t::r).length:=⟨by decide,by simp⟩;simp only[Ah];by_cases h:t.Za=1
  ·simp only[h,ApT,Aq2,ApC,Ap5,Ah,Apb hb,RY,Bp,Lp];split<;>rfl
  simp only[h,Ap5,Ars,ApT,Mj,Ah]
theorem SD(s:List (List UInt8))(v:List UInt8)(hl:s.length<1000000):D1 s v=some (if s.findIdx (v==·)<s.length then((s.findIdx (v==·):Nat):Int)else -1):=by
 have key:TP (D1 s v) fun r=>r=if s.findIdx (v==·)<s.length then((s.findIdx (v==·):Nat):Int)else -1:=by
  unfold D1
  refine AC (Q:=fun z=>match z with
   |.inl ()=>s.findIdx (v==·)=s.length
   |.inr r=>s.findIdx (v==·)<s.length/\r=((s.findIdx (v==·):Nat):Int)) ?_ fun z hz=>?_
  ·refine AC (Q:=fun z=>match z with
    |.inl ()=>s.findIdx (v==·)=s.length
    |.inr (.inr r)=>s.findIdx (v==·)<s.length/\r=((s.findIdx (v==·):Nat):Int)
    |_=>False) ?_ fun z hz=>?_
   ·refine AQ (fun i=>∃k:Nat,i=(k:Int)/\k<=s.length/\∀j,j<k->(v==nth s j)=false) (fun i=>((s.length:Int)-i).toNat) ?_ ⟨0,rfl,Apz _,fun j h=>by omega⟩ (by simp;omega);rintro _ ⟨k,rfl,hk,hj⟩;unfold Ee;refine AA (fun h=>?_) fun h=>Aj ?_
    ·have hk':k<s.length:=by simpa using h
     refine Dx (Au hk') ?_;simp only[Apk];refine AA (fun hv=>?_) fun hv=>Aj ⟨⟨k+1,Bq (by omega),hk',fun j h1=>?_⟩,by rw[Bq (by omega)];omega⟩
     ·have he:s.findIdx (v==·)=k:=by
       rw[List.findIdx_eq hk'];refine⟨by rw[<-B6 hk'];exact hv,fun j hjk=>?_⟩;rw[<-B6 (by omega)];exact hj j hjk
      refine Aj ⟨by rw[he];exact hk',by rw[he]⟩
     by_cases e:j<k
     ·exact hj j e
     have:j=k:=by omega
     subst this;exact ApF hv
    have:k=s.length:=by simp at h;omega
    subst this;rw[List.findIdx_eq_length];intro x hx;obtain⟨j,hj',rfl⟩:=Ap3 hx;rw[<-B6 hj'];exact hj j hj'
   match z,hz with
   |.inl (),hz=>exact Aj hz
   |.inr (.inr r),hz=>exact Aj hz
  match z,hz with
  |.inl (),hz=>exact Aj (by rw[Apd (by omega)])
  |.inr r,hz=>exact Aj (by rw[Apb hz.1];exact hz.2)
 obtain⟨r,e,h⟩:=key;rw[e,h]
theorem Pt(p:Ps){words:List UInt8}{ws:List (List UInt8)}(hf:Be words=some ws)(hl:ws.length<1000000):BA p words=some (match chS p ws with
  |some (i,q)=>((i:Int),true,q)
  |none=>(0,false,p)):=by
 unfold BA chS;rw[Rj,hf];unfold Vj;obtain⟨l,e⟩:=p;cases l with
 |nil=>
  simp only[Ah,SD _ _ hl];rfl
 | cons t r=>
  have hb:InB 1 (t::r).length:=⟨by decide,by simp⟩;simp only[Ah];by_cases h:t.Za=1
  ·simp only[h,ApT,SD _ _ hl,Ah,Aq2,ApC,Ap5,true_and];by_cases h2:ws.findIdx (t.Zb==·)<ws.length
   ·rw[Apb h2,Apb h2,Apd (by simp),Apb hb,Bp,RY]
   rw[Apd h2,Apd h2,Apb (by decide)]
  simp only[h,Ap5,false_and,SD _ _ hl,Ah,Ars,ApT]
theorem Rx(p:Ps){words:List UInt8}{ws:List (List UInt8)}(hf:Be words=some ws)(hl:ws.length<1000000):BD p words=some (U1 p ws):=by
 unfold BD U1;rw[Pt p hf hl];simp only[Ah];cases h:chS p ws with
 |none=>simp only[Ars,ApT,Mj,Ah]
 |some q=>simp only[Aq2,ApC,Ap5,Ah]
variable{p q:Ps}{s:List UInt8}{x:AoT}{d:Nat}
theorem Le(h:(OI p s).1=true):(OI p s).2.l.length+1=p.l.length:=by
 unfold OI at h ⊢;split<;>rename_i hl
 ·rw[hl]at h;cases h
 rw[hl]at h ⊢;simp only at h;split at h<;>rename_i hc
 ·rw[Apb hc];simp
 cases h
theorem Nv(h:¬(OI p s).1=true):(OI p s).2=p:=by
 unfold OI at h ⊢;split<;>rename_i hl
 ·rfl
 rw[hl]at h;simp only at h;split at h<;>rename_i hc
 ·exact(h rfl).elim
 rw[Apd hc]
theorem P4:(OI p s).2.l.length<=p.l.length:=by
 by_cases h:(OI p s).1=true
 ·have:=Le h;omega
 rw[Nv h];exact Apm _
theorem GL(h:VW p s=.inl q):q.l.length+1=p.l.length:=by
 unfold VW at h;split at h
 ·rename_i hc;cases h;exact Le hc
 cases h
theorem Oa{n:Int}(h:Ae7 p=.inl (n,q)):q.l.length+1=p.l.length:=by
 unfold Ae7 at h;split at h
 ·cases h
 rename_i hl;split at h
 ·cases h;rw[hl];simp
 cases h
theorem SL{n:List UInt8}(h:YK p=.inl (n,q)):q.l.length+1=p.l.length:=by
 unfold YK at h;split at h
 ·cases h
 rename_i hl;split at h
 ·split at h
  ·cases h
  cases h;rw[hl];simp
 cases h
theorem VI{ws:List (List UInt8)}{i:Nat}(h:chS p ws=some (i,q)):q.l.length+1=p.l.length/\i<ws.length:=by
 unfold chS at h;split at h
 ·cases h
 rename_i hl;split at h
 ·rename_i hc;cases h;exact⟨by rw[hl];simp,hc.2⟩
 cases h
theorem Mg{ws:List (List UInt8)}{i:Int}(h:U1 p ws=.inl (i,q)):q.l.length+1=p.l.length/\0<=i/\i<(ws.length:Int):=by
 unfold U1 at h;split at h
 ·rename_i hc;cases h;have:=VI hc;exact⟨this.1,by omega,by omega⟩
 cases h
abbrev Anu{α:Type}(p:Ps)(r:(α×Ps)⊕AdZ):Prop:=∀x q,r=.inl (x,q)->q.l.length<=p.l.length
theorem Aat(p:Ps):TP (DA p) (Anu p):=by
 unfold DA;refine AC (Q:=fun z=>z.1.length<=p.l.length) ?_ ?_
 ·rw[Pt p UI (by decide)];simp only[Ah];cases h:chS p w_units with
  |none=>
   simp only[ApC,Ap5];exact Aj (Apm _)
  |some q=>
   obtain⟨i,q⟩:=q;obtain⟨h1,h2⟩:=VI h;simp only[ApT];have h4:i<4:=h2;exact Dx (Au h4) (Dx (Au h4) (A8 (Aj (by simp only;omega))))
 rintro⟨l,e,d⟩ hl;simp only at hl ⊢
 refine AC (Q:=fun z=>match z with
  |.inl z=>z.1.length<=p.l.length
  |.inr (.inl _)=>False
  |.inr (.inr _)=>True) ?_ fun z hz=>?_
 ·rw[EI];simp only[Ah];have ha:=P4 (p:=⟨l,e⟩) (s:=[112,101,114]);refine AA (fun h=>?_) fun h=>Aj ?_
  ·rw[Rx _ UI (by decide)];simp only[Ah];cases hm:U1 (OI ⟨l,e⟩ [112,101,114]).2 w_units with
   |inr e=>exact Aj trivial
   |inl q=>
    obtain⟨i,q⟩:=q;obtain⟨h1,h2,h3⟩:=Mg hm;have h4:i<4:=h3;refine Dx ⟨h2,by omega⟩ (Dx ⟨h2,by omega⟩ (A8 (Aj ?_)));have h1':q.l.length+1=_:=h1;show q.l.length<=_;have ha':(OI ⟨l,e⟩ [112,101,114]).2.l.length<=l.length:=ha;omega
  have ha':(OI ⟨l,e⟩ [112,101,114]).2.l.length<=l.length:=ha;show(OI ⟨l,e⟩ [112,101,114]).2.l.length<=_;omega
 match z,hz with
 |.inl (l2,e2,d2),hz=>
  refine Aj fun x q hh=>?_
  cases hh;exact hz
 |.inr (.inr z),hz=>exact Aj fun x q hh=>by cases hh
def Dp:Nat->AoT->Prop
 |0,_=>False
 |d+1,x=>x.L.length<=4/\∀y∈x.L,Dp d y
theorem Dp.mono:∀{d e:Nat} {x:AoT},Dp d x->d<=e->Dp e x
 |0,_,_,h,_=>h.elim
 |d+1,0,_,_,h=>by omega
 |d+1,e+1,x,h,hh=>⟨h.1,fun y hy=>(h.2 y hy).mono (by omega)⟩
theorem Ag4(h:x.L=[])(hd:0<d):Dp d x:=by
 obtain⟨d,rfl⟩:∃e,d=e+1:=⟨d-1,by omega⟩;exact⟨by rw[h];simp,by rw[h];simp⟩
def nod:Nat->AoT->Nat
 |0,_=>0
 |d+1,x=>1+(x.L.map (nod d)).sum
theorem JT{α:Type}{f g:α->Nat}:∀{l:List α},(∀x∈l,f x=g x)->(l.map f).sum=(l.map g).sum
 |[],_=>rfl
 |x::l,h=>by
  rw[ApL,ApL,AqJ,AqJ,h x Apu,JT fun y hy=>h y (ApP _ hy)]
theorem Ku:∀{d e:Nat} {x:AoT},Dp d x->d<=e->nod e x=nod d x
 |0,_,_,h,_=>h.elim
 |d+1,0,_,_,h=>by omega
 |d+1,e+1,x,h,hh=>by
  show 1+_=1+_;rw[JT fun y hy=>Ku (h.2 y hy) (by omega)]
def Ez(m:Nat)(x:AoT):Prop:=Dp m x/\nod m x<=m
def EzL(m:Nat)(l:List AoT):Prop:=(∀x∈l,Dp m x)/\(l.map (nod m)).sum<=m
theorem Ez.mono{m n:Nat}{x:AoT}(h:Ez m x)(k:m<=n):Ez n x:=⟨h.1.mono k,by rw[Ku h.1 k];exact Aqw h.2 k⟩
theorem EzL.mono{m n:Nat}{l:List AoT}(h:EzL m l)(k:m<=n):EzL n l:=⟨fun x hx=>(h.1 x hx).mono k,(JT fun x hx=>Ku (h.1 x hx) k:(l.map (nod n)).sum=(l.map (nod m)).sum) ▸ Aqw h.2 k⟩
theorem EzL.nil{m:Nat}:EzL m []:=⟨fun x hx=>(by cases hx),Apz _⟩
theorem EzL.snoc{m k n:Nat}{l:List AoT}{x:AoT}(h:EzL m l)(hx:Ez k x)(hn:m+k<=n):EzL n (l++[x]):=by
 refine⟨fun y hy=>?_,?_⟩
 ·rcases Aps.1 hy with hy|hy
  ·exact(h.1 y hy).mono (by omega)
  simp only[ApQ]at hy;subst hy;exact hx.1.mono (by omega)
 have h1:=h.2;have h2:=hx.2;have e:(l.map (nod n)).sum=(l.map (nod m)).sum:=JT fun y hy=>Ku (h.1 y hy) (by omega)
 rw[AqU,Ar9,e];simp only[ApL,Aqr,AqJ,List.sum_nil,AqD];rw[Ku hx.1 (show k<=n by omega)];omega
theorem Acy(h:x.L=[])(hd:0<d):Ez d x:=by
 refine⟨Ag4 h hd,?_⟩;obtain⟨d,rfl⟩:∃e,d=e+1:=⟨d-1,by omega⟩;show 1+_<=_;rw[h];simp
theorem ZI{m n:Nat}(h4:x.L.length<=4)(h:EzL m x.L)(hn:m+1<=n):Ez n x:=by
 obtain⟨n,rfl⟩:∃e,n=e+1:=⟨n-1,by omega⟩;have h':=h.mono (show m<=n by omega);refine⟨⟨h4,h'.1⟩,?_⟩;show 1+_<=_;have e:(x.L.map (nod n)).sum=(x.L.map (nod m)).sum:=JT fun y hy=>Ku (h.1 y hy) (by omega)
 rw[e];have:=h.2;omega
theorem JW:∀(d:Nat) (x:AoT) (n:Nat),Dp d x->d<=n->d<1000000->TP (Er n x) fun k=>0<=k/\k<=(d:Int)
 |0,x,n,h,_,_=>h.elim
 |d+1,x,0,_,h,_=>by omega
 | d+1,x,n+1,h,hn,hd=>by
  show TP (Eu (Er n) x) _;unfold Eu;refine AC (Q:=fun k=>0<=k/\k<=(d:Int)) (AC (Q:=fun k=>0<=k/\k<=(d:Int)) ?_ fun k hk=>Aj hk) fun k hk=>Aj ?_
  ·refine AQ (fun v=>(0<=v.1/\v.1<=(d:Int))/\∃k:Nat,v.2=(k:Int)/\k<=x.L.length) (fun v=>((x.L.length:Int)-v.2).toNat) ?_ ⟨⟨by decide,by simp⟩,0,rfl,Apz _⟩ (by have:=h.1;simp;omega);rintro⟨m,_⟩ ⟨hm,k,rfl,hk⟩;simp only at hm ⊢;have h4:=h.1;unfold Fi;refine AA (fun hh=>?_) fun hh=>Aj hm
   have hk':k<x.L.length:=by simpa using hh
   simp only[Apb (Au hk'),Bp,Apk,Hp];refine AC (JW d _ n (h.2 _ (AL hk')) (by omega) (by omega)) fun r hr=>Aj ⟨⟨?_,k+1,Bq (by omega),hk'⟩,by simp only;rw[Bq (by omega)];omega⟩
   simp only;unfold Qk;split<;>omega
  rw[Hn (by omega)];omega
abbrev Yh(p:Ps)(r:(AoT×Ps)⊕AdZ):Prop:=∀x q,r=.inl (x,q)->q.l.length<p.l.length/\Ez (p.l.length-q.l.length) x
def Um(n:Nat)(rec_:Ps->Option ((AoT×Ps)⊕AdZ)):Prop:=∀p:Ps,p.l.length<n->TP (rec_ p) (Yh p)
section
variable {rec_:Ps->Option ((AoT×Ps)⊕AdZ)}{n:Nat}
theorem M4(hr:Um n rec_)(hn:n<1000000)(p:Ps)(hp:p.l.length<=n)(op:Int)(signs:List (List UInt8))(hs:signs.length<=4) :TP (BF rec_ p op signs) fun r=>∀x q ss,r=.inl (x,q,ss)->q.l.length<p.l.length/\Ez (p.l.length-q.l.length) x:=by
 unfold BF;rw[EF];simp only[Ah];cases he:VW p [40]with
 |inr e=>exact Aj fun x q ss h=>by cases h
 | inl q0=>
  have hq0:=GL he
  refine AC (Q:=fun z=>match z with
   |.inl z=>z.1.length<=q0.l.length/\z.2.2.length<=4/\EzL (q0.l.length-z.1.length) z.2.2
   |.inr (.inl _)=>False
   |.inr (.inr _)=>True) ?_ fun z hz=>?_
  ·refine AC (Q:=fun z=>match z with
    |.inl z=>z.1.length<=q0.l.length/\z.2.2.length<=4/\EzL (q0.l.length-z.1.length) z.2.2
    |.inr (.inr (.inr _))=>True
    |_=>False) ?_ fun z hz=>?_
   ·refine AQ (fun v=>∃k:Nat,v.1=(k:Int)/\k<=signs.length/\v.2.1.length<=q0.l.length/\v.2.2.2.length=k/\EzL (q0.l.length-v.2.1.length) v.2.2.2) (fun v=>((signs.length:Int)-v.1).toNat) ?_ ⟨0,rfl,Apz _,Apm _,rfl,EzL.nil⟩ (by simp;omega);rintro⟨_,l,e,xs⟩ ⟨k,rfl,hk,hl,hx,hd⟩;simp only at hl hx hd ⊢;unfold C6;refine AA (fun hh=>?_) fun hh=>Aj ⟨hl,by simp only;omega,hd⟩
    have hk':k<signs.length:=by simpa using hh
    simp only[Apb (Au hk'),Bp,Apk];refine AC (hr ⟨l,e⟩ (by show l.length<n;omega)) fun y hy=>?_
    cases y with
    |inr e=>exact Aj trivial
    | inl y=>
     obtain⟨y,q⟩:=y;obtain⟨y1,y2⟩:=hy y q rfl;have y1':q.l.length<l.length:=y1;have y2':Ez (l.length-q.l.length) y:=y2;refine Dx ⟨by unfold maxLen;omega,by unfold Hv;omega⟩ ?_;rw[EF];simp only[Ah];cases he2:VW q (nth signs k)with
     |inr e=>exact Aj trivial
     |inl q2=>
      have hq2:=GL he2;refine Aj ⟨⟨k+1,Bq (by omega),hk',by simp only;omega,by simp[hx],hd.snoc y2' (by simp only;omega)⟩,by simp only;rw[Bq (by omega)];omega⟩
   match z,hz with
   |.inl z,hz=>exact Aj hz
   |.inr (.inr (.inr z)),hz=>exact Aj hz
  match z,hz with
  |.inl (l,e,xs),hz=>
   refine Aj fun x q ss h=>?_
   cases h;obtain⟨h1,h2,h3⟩:=hz;simp only at h1 h2 h3;exact⟨by simp only;omega,ZI h2 h3 (by simp only;omega)⟩
  |.inr (.inr z),hz=>exact Aj fun x q ss h=>by cases h
theorem Pj(hr:Um n rec_)(hn:n<1000000)(p:Ps)(hp:p.l.length<=n):TP (Cq rec_ p) (Yh p):=by
 unfold Cq;rw[Rj];simp only[Ah];rw[Ahy];refine AA (fun _=>?_) fun _=>?_
 ·rw[Kv];simp only[Ah];cases hi:Ae7 p with
  |inr e=>exact Aj fun x q h=>by cases h
  | inl q=>
   obtain⟨m,q⟩:=q;have hq:=Oa hi;simp only;refine AC (Aat q) fun r hu=>?_
   cases r with
   |inr e=>exact Aj fun x q h=>by cases h
   |inl r=>
    obtain⟨d,q2⟩:=r;refine Aj fun x q' h=>?_
    cases h;have:=hu d q2 rfl;exact⟨by simp only;omega,Acy rfl (by simp only;omega)⟩
 rw [EI];simp only[Ah];refine AA (fun h=>?_) fun h=>?_
 ·have hq:=Le h;refine AC (hr _ (by omega)) fun y hy=>?_
  cases y with
  |inr e=>exact Aj fun x q h=>by cases h
  | inl y=>
   obtain⟨y,q⟩:=y;obtain⟨y1,y2⟩:=hy y q rfl;simp only[EF,Ah];cases he:VW q [41]with
   |inr e=>exact Aj fun x q h=>by cases h
   |inl q2=>
    have h2:=GL he;refine Aj fun x q' h=>?_
    cases h;exact⟨by omega,y2.mono (by omega)⟩
 rw [Nv h,EI];simp only[Ah];refine AA (fun h=>?_) fun h=>?_
 ·have hq:=Le h;refine AC (M4 hr hn _ (by omega) _ _ (by decide)) fun r hh=>?_
  cases r with
  |inr e=>exact Aj fun x q h=>by cases h
  |inl r=>
   obtain⟨x,q,ss⟩:=r;obtain⟨h1,h2⟩:=hh x q ss rfl;refine Aj fun x q' h=>?_
   cases h;exact⟨by simp only;omega,h2.mono (by simp only;omega)⟩
 rw[Nv h,Pt p Aa7 (by decide)];simp only[Ah];cases hc:chS p w_calls with
 | some q=>
  obtain⟨i,q⟩:=q;obtain⟨h1,h2⟩:=VI hc;simp only[ApT];refine AC (M4 hr hn q (by omega) _ _ (by decide)) fun r hh=>?_
  cases r with
  |inr e=>exact Aj fun x q h=>by cases h
  |inl r=>
   obtain⟨x,q2,ss⟩:=r;obtain⟨h3,h4⟩:=hh x q2 ss rfl;refine Aj fun x q' h=>?_
   cases h;exact⟨by simp only;omega,h4.mono (by simp only;omega)⟩
 | none=>
  simp only[ApC,Ap5];rw[Rx p Ii (by decide)];simp only[Ah];cases hm:U1 p w_attributes with
  |inr e=>exact Aj fun x q h=>by cases h
  |inl q=>
   obtain⟨i,q⟩:=q;obtain⟨h1,_⟩:=Mg hm;refine Aj fun x q' h=>?_
   cases h;exact⟨by simp only;omega,Acy rfl (by simp only;omega)⟩
theorem SR(p:Ps):TP (BH p) fun r=>(r.1=0->r.2.l.length=p.l.length)/\(r.1≠0->r.2.l.length+1=p.l.length):=by
 unfold BH;rw[EI];simp only[Ah];refine AA (fun h=>Aj ⟨fun e=>(by cases e),fun _=>Le h⟩) fun h=>Aj ⟨fun _=>by rw[Nv h],fun e=>(e rfl).elim⟩
theorem Ab1(p:Ps):TP (Cp p) fun r=>(r.1=0->r.2.l.length=p.l.length)/\(r.1≠0->r.2.l.length+1=p.l.length):=by
 unfold Cp;rw[EI];simp only[Ah];refine AA (fun h=>Aj ⟨fun e=>(by cases e),fun _=>Le h⟩) fun h=>?_
 rw[Nv h,EI];simp only[Ah];refine AA (fun h=>Aj ⟨fun e=>(by cases e),fun _=>Le h⟩) fun h=>Aj ⟨fun _=>by rw[Nv h],fun e=>(e rfl).elim⟩
theorem Afd{a b:AoT}{op:Int}{u:Arr Int 4}{d1 d2:Nat}(h1:Ez d1 a)(h2:Ez d2 b)(e:d1+d2+1<=d):Ez d (AoT.mk op 0 u [a,b]) :=
 ZI (x:=AoT.mk op 0 u [a,b]) (by show[a,b].length<=4;simp) ((EzL.nil (m:=0)).snoc h1 (Apm _) |>.snoc h2 (Apm _)) (by omega)
theorem Vu(hr:Um n rec_)(hn:n<1000000)(p:Ps)(hp:p.l.length<=n):TP (AW rec_ p) (Yh p):=by
 unfold AW;refine AC (Pj hr hn p hp) fun r h0=>?_
 cases r with
 |inr e=>exact Aj fun x q h=>by cases h
 | inl r=>
  obtain⟨x,q⟩:=r;obtain⟨h1,h2⟩:=h0 x q rfl;simp only
  refine AC (Q:=fun z=>match z with
   |.inl z=>z.1.length<p.l.length/\Ez (p.l.length-z.1.length) (AoT.mk z.2.2.1 z.2.2.2.1 z.2.2.2.2.1 z.2.2.2.2.2)
   |.inr (.inl _)=>False
   |.inr (.inr _)=>True) ?_ fun z hz=>?_
  ·refine AC (SR q) fun y hy=>AC (Q:=fun z=>match z with
    |.inl z=>z.1.length<p.l.length/\Ez (p.l.length-z.1.length) (AoT.mk z.2.2.1 z.2.2.2.1 z.2.2.2.2.1 z.2.2.2.2.2)
    |.inr (.inr (.inr _))=>True
    |_=>False) ?_ fun z hz=>?_
   ·obtain⟨op,q1⟩:=y;simp only at hy ⊢
    refine AQ (fun v=>∃d:Nat,v.2.1.length<p.l.length/\Ez d (AoT.mk v.2.2.2.1 v.2.2.2.2.1 v.2.2.2.2.2.1 v.2.2.2.2.2.2)/\(v.1=0->d+v.2.1.length<=p.l.length)/\(v.1≠0->d+1+v.2.1.length<=p.l.length)) (fun v=>v.2.1.length+(if v.1=0 then 0 else 1)) ?_
     ⟨p.l.length-q.l.length,?_,by simp only[Hp];exact h2,fun e=>?_,fun e=>?_⟩ ?_
    ·rintro⟨op,l,e,a,b,c,xs⟩ ⟨d,hl,hd,g0,g1⟩;simp only at hl hd g0 g1 ⊢;unfold Bj;refine AA (fun hh=>?_) fun hh=>Aj ⟨hl,hd.mono ?_⟩
     ·have hop:op≠0:=by simpa using hh
      refine AC (Pj hr hn ⟨l,e⟩ (by show l.length<=n;omega)) fun r2 hh2=>?_
      cases r2 with
      |inr e=>exact Aj trivial
      | inl r2=>
       obtain⟨x2,q2⟩:=r2;obtain⟨k1,k2⟩:=hh2 x2 q2 rfl;have k1':q2.l.length<l.length:=k1;have k2':Ez (l.length-q2.l.length) x2:=k2;refine A8 (AC (SR q2) fun y hy=>Aj ?_);have g1':=g1 hop;obtain⟨op2,q3⟩:=y;simp only at hy ⊢
       have hle:q3.l.length<=q2.l.length:=by
        by_cases e0:op2=0
        ·have:=hy.1 e0;omega
        have:=hy.2 e0;omega
       refine⟨⟨p.l.length-q2.l.length,by omega,Afd hd k2' (by omega),fun e0=>?_,fun e0=>?_⟩,?_⟩
       ·have:=hy.1 e0;omega
       ·have:=hy.2 e0;omega
       rw[Apd hop];by_cases e0:op2=0
       ·have:=hy.1 e0;rw[Apb e0];omega
       have:=hy.2 e0;rw[Apd e0];omega
     have:op=0:=by simpa using hh
     have:=g0 this;simp only;omega
    ·simp only;by_cases e0:op=0
     ·have:=hy.1 e0;omega
     have:=hy.2 e0;omega
    ·have:=hy.1 e;simp only;omega
    ·have:=hy.2 e;simp only;omega
    simp only
    have:q1.l.length<=n:=by
     by_cases e0:op=0
     ·have:=hy.1 e0;omega
     have:=hy.2 e0;omega
    split<;>omega
   match z,hz with
   |.inl z,hz=>exact Aj hz
   |.inr (.inr (.inr z)),hz=>exact Aj hz
  match z,hz with
  |.inl (l,e,a,b,c,xs),hz=>
   refine Aj fun x q h=>?_
   cases h;exact hz
  |.inr (.inr z),hz=>exact Aj fun x q h=>by cases h
theorem Uo(hr:Um n rec_)(hn:n<1000000)(p:Ps)(hp:p.l.length<=n):TP (Cl rec_ p) (Yh p):=by
 unfold Cl;refine AC (Vu hr hn p hp) fun r h=>?_
 cases r with
 |inr e=>exact Aj fun x q h=>by cases h
 |inl r=>exact Aj h
theorem Wb(hr:Um n rec_)(hn:n<1000000)(p:Ps)(hp:p.l.length<=n):TP (AX rec_ p) (Yh p):=by
 unfold AX;refine AC (Uo hr hn p hp) fun r h0=>?_
 cases r with
 |inr e=>exact Aj fun x q h=>by cases h
 | inl r=>
  obtain⟨x,q⟩:=r;obtain⟨h1,h2⟩:=h0 x q rfl;simp only
  refine AC (Q:=fun z=>match z with
   |.inl z=>z.1.length<p.l.length/\Ez (p.l.length-z.1.length) (AoT.mk z.2.2.1 z.2.2.2.1 z.2.2.2.2.1 z.2.2.2.2.2)
   |.inr (.inl _)=>False
   |.inr (.inr _)=>True) ?_ fun z hz=>?_
  ·refine AC (Ab1 q) fun y hy=>AC (Q:=fun z=>match z with
    |.inl z=>z.1.length<p.l.length/\Ez (p.l.length-z.1.length) (AoT.mk z.2.2.1 z.2.2.2.1 z.2.2.2.2.1 z.2.2.2.2.2)
    |.inr (.inr (.inr _))=>True
    |_=>False) ?_ fun z hz=>?_
   ·obtain⟨op,q1⟩:=y;simp only at hy ⊢
    refine AQ (fun v=>∃d:Nat,v.2.1.length<p.l.length/\Ez d (AoT.mk v.2.2.2.1 v.2.2.2.2.1 v.2.2.2.2.2.1 v.2.2.2.2.2.2)/\(v.1=0->d+v.2.1.length<=p.l.length)/\(v.1≠0->d+1+v.2.1.length<=p.l.length)) (fun v=>v.2.1.length+(if v.1=0 then 0 else 1)) ?_
     ⟨p.l.length-q.l.length,?_,by simp only[Hp];exact h2,fun e=>?_,fun e=>?_⟩ ?_
    ·rintro⟨op,l,e,a,b,c,xs⟩ ⟨d,hl,hd,g0,g1⟩;simp only at hl hd g0 g1 ⊢;unfold Bk;refine AA (fun hh=>?_) fun hh=>Aj ⟨hl,hd.mono ?_⟩
     ·have hop:op≠0:=by simpa using hh
      refine AC (Uo hr hn ⟨l,e⟩ (by show l.length<=n;omega)) fun r2 hh2=>?_
      cases r2 with
      |inr e=>exact Aj trivial
      | inl r2=>
       obtain⟨x2,q2⟩:=r2;obtain⟨k1,k2⟩:=hh2 x2 q2 rfl;have k1':q2.l.length<l.length:=k1;have k2':Ez (l.length-q2.l.length) x2:=k2;refine A8 (AC (Ab1 q2) fun y hy=>Aj ?_);have g1':=g1 hop;obtain⟨op2,q3⟩:=y;simp only at hy ⊢
       have hle:q3.l.length<=q2.l.length:=by
        by_cases e0:op2=0
        ·have:=hy.1 e0;omega
        have:=hy.2 e0;omega
       refine⟨⟨p.l.length-q2.l.length,by omega,Afd hd k2' (by omega),fun e0=>?_,fun e0=>?_⟩,?_⟩
       ·have:=hy.1 e0;omega
       ·have:=hy.2 e0;omega
       rw[Apd hop];by_cases e0:op2=0
       ·have:=hy.1 e0;rw[Apb e0];omega
       have:=hy.2 e0;rw[Apd e0];omega
     have:op=0:=by simpa using hh
     have:=g0 this;simp only;omega
    ·simp only;by_cases e0:op=0
     ·have:=hy.1 e0;omega
     have:=hy.2 e0;omega
    ·have:=hy.1 e;simp only;omega
    ·have:=hy.2 e;simp only;omega
    simp only
    have:q1.l.length<=n:=by
     by_cases e0:op=0
     ·have:=hy.1 e0;omega
     have:=hy.2 e0;omega
    split<;>omega
   match z,hz with
   |.inl z,hz=>exact Aj hz
   |.inr (.inr (.inr z)),hz=>exact Aj hz
  match z,hz with
  |.inl (l,e,a,b,c,xs),hz=>
   refine Aj fun x q h=>?_
   cases h;exact hz
  |.inr (.inr z),hz=>exact Aj fun x q h=>by cases h
theorem Acj(hr:Um n rec_)(hn:n<1000000):Um (n+1) (CQ rec_):=by
 intro p hp;unfold CQ;refine AC (Wb hr hn p (by omega)) fun r h=>?_
 cases r with
 |inr e=>exact Aj fun x q h=>by cases h
 |inl r=>exact Aj h
end
theorem Q4:∀k n,k<1000000->k<=n->Um k (DO n)
 |0,n,_,_=>fun p h=>absurd h (Ap0 _)
 |k+1,0,_,h=>by omega
 |k+1,n+1,h,hn=>Acj (Q4 k n (by omega) (by omega)) (by omega)
theorem Ac1(p:Ps)(hp:p.l.length<900000):TP (Gl p) (Yh p):=Q4 900000 _ (by omega) (by omega) p hp
variable{k:Nat}{s:List UInt8}{t:AoP}{b x:UInt8}
theorem Acd{j:Nat}(h:j+k<9223372036854775807):w64 ((j:Int)+(k:Int))=((j+k:Nat):Int):=by rw[Hn (by omega)];omega
theorem Rz(h:k+1<9223372036854775807):w64 ((k:Int)+1)=((k+1:Nat):Int):=by rw[Hn (by omega)];omega
def isL(c:UInt8):Bool:=decide ((97:UInt8)<=c)&&decide (c<=(122:UInt8))
def isD(c:UInt8):Bool:=decide ((48:UInt8)<=c)&&decide (c<=(57:UInt8))
def Iz(c:UInt8):Bool:=isL c||isD c
def isB(c:UInt8):Bool:=c==32||(c==9||(c==13||c==10))
theorem Uy(c:UInt8):GG c=some (isL c):=by
 unfold GG isL;cases decide ((97:UInt8)<=c)<;>simp
theorem S3(c:UInt8):GE c=some (isD c):=by
 unfold GE isD;cases decide ((48:UInt8)<=c)<;>simp
theorem AaP(c:UInt8):Ha c=some (Iz c):=by
 unfold Ha Iz;rw[Uy,S3];cases isL c<;>simp
theorem AfE(p:UInt8->Bool):∀(l:List UInt8) (k:Nat),(k<(l.takeWhile p).length->p (nth l k)=true)/\(k=(l.takeWhile p).length->k<l.length->p (nth l k)=false)
 |[],k=>by simp
 | a::l,k=>by
  rw[Aqv];cases ha:p a with
  |false=>
   simp only[ApC,Ap5,Apy,Api];refine⟨fun h=>absurd h (by omega),fun h _=>?_⟩;subst h;simpa [nth]using ha
  | true=>
   simp only[ApT,Api];cases k with
   |zero=>exact⟨fun _=>by simpa [nth]using ha,fun h=>absurd h (by omega)⟩
   |succ k=>
    have:=AfE p l k;have e:nth (a::l) (k+1)=nth l k:=by simp[nth]
    rw[e];exact⟨fun h=>this.1 (by omega),fun h1 h2=>this.2 (by omega) (by omega)⟩
theorem Xh(p:UInt8->Bool):∀l:List UInt8,(l.takeWhile p).length<=l.length
 |[]=>by simp
 |a::l=>by
  rw[Aqv];have:=Xh p l;cases p a<;>simp<;>omega
theorem O4(p:UInt8->Bool):∀l:List UInt8,l.take (l.takeWhile p).length=l.takeWhile p
 |[]=>by simp
 |a::l=>by
  rw[Aqv];have:=O4 p l;cases p a<;>simp[this]
theorem Abn(s:List UInt8)(f:UInt8->Option Bool)(p:UInt8->Bool)(hf:∀c,f c=some (p c))(hs:s.length<=1000000):IQ s f=some ((s.takeWhile p).length:Int):=by
 unfold IQ;have hl:=Xh p s
 obtain⟨x,hx,hq⟩:=Kw (f:=fun v:Int=>Dc s f v) (fun v=>∃k:Nat,v=(k:Int)/\k<=(s.takeWhile p).length) (fun v=>s.length-v.toNat)
  (fun x:Unit⊕(Unit⊕Int)=>(match x with|.inl ()=>(s.length:Int)|.inr (.inl ())=>(s.length:Int)|.inr (.inr z)=>z)=((s.takeWhile p).length:Int)) (by
   rintro v ⟨k,rfl,hk⟩;have ht:=AfE p s k;by_cases h1:k<s.length
   ·have e1:decide ((k:Int)<(s.length:Int))=true:=by simp;omega
    by_cases h2:k<(s.takeWhile p).length
    ·left;refine⟨((k+1:Nat):Int),?_,⟨k+1,rfl,by omega⟩,by simp;omega⟩;show Dc s f (k:Int)=_;unfold Dc;rw[Apb e1,Apb (Au h1),Apk,hf,ht.1 h2,Rz (by omega)];rfl
    right;refine⟨.inr (.inr (k:Int)),?_,?_⟩
    ·show Dc s f (k:Int)=_;unfold Dc;rw[Apb e1,Apb (Au h1),Apk,hf,ht.2 (by omega) h1];rfl
    show(k:Int)=_;omega
   right;refine⟨.inl (),?_,?_⟩
   ·show Dc s f (k:Int)=_;unfold Dc;rw[Apd (by simp;omega)]
   show(s.length:Int)=_;omega) (v0:=(0:Int)) ⟨0,rfl,by omega⟩ (by show s.length-0<_;omega)
 rw[hx];rcases x with u|(u|z)
 ·simpa using hq
 ·simpa using hq
 simpa using hq
def dg(n:Nat)(c:UInt8):Nat:=10*n+(c-48).toNat
def dval(d:List UInt8):Nat:=d.foldl dg 0
theorem Ab3(d:List UInt8)(c:UInt8):dval (d++[c])=dg (dval d) c:=by simp[dval]
theorem Agk(l:List UInt8):∀n,n<=l.foldl dg n:=by
 induction l with
 |nil=>intro n;exact Apm _
 |cons c l ih=>intro n;exact Aqw (by unfold dg;omega) (ih (dg n c))
theorem AeX(a b:List UInt8):dval a<=dval (a++b):=by
 unfold dval;rw[List.foldl_append];exact Agk b _
theorem Abd(d:List UInt8)(k:Nat):dval (d.take k)<=dval d:=by
 have:=AeX (d.take k) (d.drop k);rwa[Aqm]at this
theorem Aew{α:Type}[Inhabited α]{l:List α}(h:k<l.length):l.take (k+1)=l.take k++[nth l k]:=by
 rw[ApD h];congr 2;simp[nth,h]
theorem Al4(n:Nat)(c:UInt8):dg n c<=10*n+255:=by
 have:=Art (c-48);unfold dg;omega
def num(d:List UInt8):Int×Int:=if d.length>1/\nth d 0=48 then(0,150)else if 1099511627776<dval d then(0,2)else((dval d:Int),0)
theorem Aau(d:List UInt8)(hd:d.length<=1000000):HH d=some (num d):=by
 unfold HH num
 have h1:(if(decide ((d.length:Int)>1))then if InR 0 d.length then some (((nth d 0)==(48:UInt8)))else none else some false:Option Bool)=some (decide (d.length>1/\nth d 0=48)):=by
  by_cases h:d.length>1
  ·rw[Apb (by simp;omega),Apb (by unfold InR;omega)];by_cases h2:nth d 0=48<;>simp[h,h2]
  rw[Apd (by simp;omega)];simp[h]
 rw[SU h1];by_cases hz:d.length>1/\nth d 0=48
 ·simp[hz]
 rw [Apd (by simpa using hz),Apd hz]
 obtain⟨x,hx,hq⟩:=Kw (f:=fun v:Int×Int=>BX d v.1 v.2) (fun v=>∃k:Nat,v=((dval (d.take k):Int),(k:Int))/\k<=d.length/\dval (d.take k)<=1099511627776) (fun v=>d.length-v.2.toNat)
  (fun x:Int⊕(Int⊕(Int×Int))=>(match x with|.inl n=>(n,(0:Int))|.inr (.inl n)=>(n,(0:Int))|.inr (.inr z)=>z)=if 1099511627776<dval d then(0,2)else((dval d:Int),0)) (by
   rintro v ⟨k,rfl,hk,hv⟩;by_cases h1:k<d.length
   ·have e1:decide ((k:Int)<(d.length:Int))=true:=by simp;omega
    have hb:=Al4 (dval (d.take k)) (nth d k)
    have e2:w64 ((w64 (10*(dval (d.take k):Int)))+((((nth d k)-(48:UInt8))).toNat:Int))=(dval (d.take (k+1)):Int):=by
     rw[Aew h1,Ab3];unfold dg at hb ⊢;have:=Art (nth d k-48);have e0:w64 (10*(dval (d.take k):Int))=10*(dval (d.take k):Int):=Hn (by omega);rw[e0,Hn (by omega)];omega
    have e3:BX d (dval (d.take k):Int) (k:Int)=if(decide ((dval (d.take (k+1)):Int)>1099511627776))then some (.inr (.inr (.inr (0,2))))else some (.inl ((dval (d.take (k+1)):Int),((k+1:Nat):Int))):=by
     unfold BX;rw[Apb e1,Apb (Au h1),Apk];show(if _ then _ else _)=_;rw[e2,Rz (by omega)];rfl
    by_cases h3:dval (d.take (k+1))<=1099511627776
    ·left;refine⟨((dval (d.take (k+1)):Int),((k+1:Nat):Int)),?_,⟨k+1,rfl,by omega,h3⟩,by simp;omega⟩;show BX d _ _=_;rw[e3,Apd (by simp;omega)]
    right;refine⟨.inr (.inr (0,2)),?_,?_⟩
    ·show BX d _ _=_;rw[e3,Apb (by simp;omega)]
    have:=Abd d (k+1);show((0:Int),(2:Int))=_;rw[Apb (by omega)]
   right;have hk':k=d.length:=by omega
   subst hk';rw[Ap7]at hv ⊢;refine⟨.inl (dval d:Int),?_,?_⟩
   ·show BX d _ _=_;unfold BX;rw[Apd (by simp)]
   show((dval d:Int),(0:Int))=_;rw[Apd (by omega)]) (v0:=((0,0):Int×Int)) ⟨0,rfl,by omega,by simp[dval]⟩ (by show d.length-0<_;omega)
 rw[hx];rcases x with n|(n|z)
 ·simpa using hq
 ·simpa using hq
 simpa using hq
def sgn(c:UInt8):List UInt8:=Jb ([]:List UInt8) tab3 c
theorem Uq(s p:List UInt8):Df s p=some (decide (s.take p.length=p)):=by
 unfold Df D7;by_cases h:p.length<=s.length
 ·rw[Apb (by simp;omega),Apb (by unfold InB;omega),Apk];by_cases h2:s.take p.length=p
  ·simp[h2]
  simp[h2]
 rw[Apd (by simp;omega)]
 have:¬s.take p.length=p:=fun e=>by
  have:=Ap2 List.length e;simp at this;omega
 simp[this]
def tok(s:List UInt8):AoP×Int :=
 if isL (nth s 0)=true then
  if 32<(s.takeWhile Iz).length then(⟨0,[],0,0⟩,2)else(⟨1,s.takeWhile Iz,0,0⟩,0)
 else if isD (nth s 0)=true then(⟨2,s.takeWhile isD,(num (s.takeWhile isD)).1,0⟩,(num (s.takeWhile isD)).2)
 else if sgn (nth s 0)≠[]/\s.take (sgn (nth s 0)).length=sgn (nth s 0)then(⟨3,sgn (nth s 0),0,0⟩,0)
 else(⟨0,[],0,0⟩,150)
theorem Xu(s:List UInt8)(h0:0<s.length)(hs:s.length<=1000000):H0 s=some (tok s):=by
 unfold H0 tok;have hR:InR 0 s.length:=by unfold InR;omega
 have hw:=Xh Iz s;have hd:=Xh isD s;rw[Apb hR,Uy];show(if isL (nth s 0)=true then _ else _)=_;by_cases h1:isL (nth s 0)=true
 ·rw[Apb h1,Apb h1,SU (Abn s _ Iz AaP hs),Apb (P3 hw),Apk,O4];by_cases h2:32<(s.takeWhile Iz).length
  ·rw[Apb (by simp;omega),Apb h2]
  rw[Apd (by simp;omega),Apd h2]
 rw[Apd h1,Apd h1,S3];show(if isD (nth s 0)=true then _ else _)=_;by_cases h2:isD (nth s 0)=true
 ·rw[Apb h2,Apb h2,SU (Abn s _ isD S3 hs),Apb (P3 hd),Apk,O4,SU (Aau _ (by omega))]
 rw[Apd h2,Apd h2,Apb hR];show((if(!(sgn (nth s 0)==[]))then(Df s (sgn (nth s 0))).bind fun y=>some y else some false:Option Bool).bind fun t=>if t then some (({ Za:=3,Zb:=sgn (nth s 0),N:=0,At:=0 }:AoP),(0:Int))else some (({ Za:=0,Zb:=([]:List UInt8),N:=0,At:=0 }:AoP),150))=_;rw[Uq];by_cases h3:sgn (nth s 0)=[]
 ·simp[h3]
 by_cases h4:s.take (sgn (nth s 0)).length=sgn (nth s 0)
 ·simp[h3,h4]
 simp[h3,h4]
theorem Ag3:∀n:Fin 256,sgn (UInt8.ofNat n.val)=[]\/(nth (sgn (UInt8.ofNat n.val)) 0=UInt8.ofNat n.val/\isL (UInt8.ofNat n.val)=false/\isD (UInt8.ofNat n.val)=false/\isB (UInt8.ofNat n.val)=false/\UInt8.ofNat n.val≠35/\(sgn (UInt8.ofNat n.val)).length<=2):=by decide +kernel
theorem Afw(c:UInt8)(h:sgn c≠[]):nth (sgn c) 0=c/\isL c=false/\isD c=false/\isB c=false/\c≠35/\(sgn c).length<=2:=by
 have:=Ag3 ⟨c.toNat,Art c⟩;have e:UInt8.ofNat c.toNat=c:=Arp;simp only[e]at this;exact this.resolve_left h
theorem Ads:∀n:Fin 256,(isL (UInt8.ofNat n.val)=true->isB (UInt8.ofNat n.val)=false/\UInt8.ofNat n.val≠35/\isD (UInt8.ofNat n.val)=false)/\(isD (UInt8.ofNat n.val)=true->isB (UInt8.ofNat n.val)=false/\UInt8.ofNat n.val≠35/\isL (UInt8.ofNat n.val)=false)/\(isB (UInt8.ofNat n.val)=true->Iz (UInt8.ofNat n.val)=false):=by decide +kernel
theorem Vc(c:UInt8):(isL c=true->isB c=false/\c≠35/\isD c=false)/\(isD c=true->isB c=false/\c≠35/\isL c=false)/\(isB c=true->Iz c=false):=by
 have:=Ads ⟨c.toNat,Art c⟩;have e:UInt8.ofNat c.toNat=c:=Arp;simpa only[e]using this
def Al2(k:Int)(x:UInt8):Bool:=if k=1 then Iz x else if k=2 then isD x else false
def Tk(t:AoP):Prop:=t.Zb≠[]/\t.At=0/\((t.Za=1/\isL (nth t.Zb 0)=true/\(∀x∈t.Zb,Iz x=true)/\t.Zb.length<=32/\t.N=0)
 \/ (t.Za=2/\isL (nth t.Zb 0)=false/\isD (nth t.Zb 0)=true/\(∀x∈t.Zb,isD x=true)/\num t.Zb=(t.N,0))
 \/ (t.Za=3/\isL (nth t.Zb 0)=false/\isD (nth t.Zb 0)=false/\t.Zb=sgn (nth t.Zb 0)/\t.N=0))
def Amw(k:Int)(r:List UInt8):Prop:=∀x,r.head?=some x->Al2 k x=false
theorem U0(p:UInt8->Bool):∀l:List UInt8,(∀x∈l.takeWhile p,p x=true)/\∀x,(l.drop (l.takeWhile p).length).head?=some x->p x=false
 |[]=>by simp
 |a::l=>by
  rw[Aqv];have:=U0 p l;cases ha:p a with
  |false=>simp[ha]
  |true=>simpa [ha]using this
theorem AbW(p:UInt8->Bool):∀(t r:List UInt8),(∀x∈t,p x=true)->(∀x,r.head?=some x->p x=false)->(t++r).takeWhile p=t
 |[],[],_,_=>rfl
 |[],x::r,_,h=>by
  have:=h x rfl;simp[this]
 |a::t,r,h1,h2=>by
  have h3:=h1 a (by simp);show List.takeWhile p (a::(t++r))=_;rw[Aqv,h3,Apb rfl,AbW p t r (fun x hx=>h1 x (by simp[hx])) h2]
theorem AjT(p:UInt8->Bool)(h0:0<s.length)(h:p (nth s 0)=true):s.takeWhile p≠[]/\nth (s.takeWhile p) 0=nth s 0:=by
 cases s with
 |nil=>simp at h0
 |cons a s=>
  have e:nth (a::s) 0=a:=rfl;rw[e]at h ⊢;rw[Aqv,h,Apb rfl];exact⟨by simp,rfl⟩
theorem AaB{t:List UInt8}(r:List UInt8)(h:t≠[]):nth (t++r) 0=nth t 0:=by
 cases t with
 |nil=>exact absurd rfl h
 |cons a t=>rfl
theorem RE(h0:0<s.length)(h:(tok s).2=0):Tk (tok s).1/\s=(tok s).1.Zb++s.drop (tok s).1.Zb.length/\Amw (tok s).1.Za (s.drop (tok s).1.Zb.length)/\nth (tok s).1.Zb 0=nth s 0:=by
 unfold tok at h ⊢;by_cases h1:isL (nth s 0)=true
 ·have hp:Iz (nth s 0)=true:=by unfold Iz;rw[h1];rfl
  obtain⟨n1,n2⟩:=AjT Iz h0 hp;by_cases h2:32<(s.takeWhile Iz).length
  ·rw[Apb h1,Apb h2]at h;cases h
  rw[Apb h1,Apd h2];refine⟨⟨n1,rfl,.inl ⟨rfl,by simpa [n2]using h1,(U0 Iz s).1,by simp only;omega,rfl⟩⟩,?_,(U0 Iz s).2,n2⟩;show s=s.takeWhile Iz++s.drop (s.takeWhile Iz).length
  conv=>lhs;rw[<-Aqm (s.takeWhile Iz).length s,O4]
 rw[Apd h1]at h ⊢;have h1':isL (nth s 0)=false:=by simpa using h1
 by_cases h2:isD (nth s 0)=true
 ·obtain⟨n1,n2⟩:=AjT isD h0 h2;rw[Apb h2]at h ⊢;refine⟨⟨n1,rfl,.inr (.inl ⟨rfl,by simpa [n2]using h1',by simpa [n2]using h2,(U0 isD s).1,Prod.ext rfl h⟩)⟩,?_,(U0 isD s).2,n2⟩;show s=s.takeWhile isD++s.drop (s.takeWhile isD).length
  conv=>lhs;rw[<-Aqm (s.takeWhile isD).length s,O4]
 rw[Apd h2]at h ⊢;have h2':isD (nth s 0)=false:=by simpa using h2
 by_cases h3:sgn (nth s 0)≠[]/\s.take (sgn (nth s 0)).length=sgn (nth s 0)
 ·rw[Apb h3];have h4:=(Afw _ h3.1).1;refine⟨⟨h3.1,rfl,.inr (.inr ⟨rfl,by simpa [h4]using h1',by simpa [h4]using h2',by simp only[h4],rfl⟩)⟩,?_,fun x _=>rfl,h4⟩;show s=sgn (nth s 0)++s.drop (sgn (nth s 0)).length
  conv=>lhs;rw[<-Aqm (sgn (nth s 0)).length s,h3.2]
 rw[Apd h3]at h;cases h
theorem Alg(r:List UInt8)(h:Tk t)(he:Amw t.Za r):tok (t.Zb++r)=(t,0):=by
 obtain⟨k,x,n,a⟩:=t;obtain⟨h1,h2,h3⟩:=h;simp only at h1 h2 h3 he;subst h2;unfold tok;simp only;rw[AaB r h1];rcases h3 with⟨rfl,a1,a2,a3,rfl⟩|⟨rfl,a0,a1,a2,a3⟩|⟨rfl,a0,a1,a2,rfl⟩
 ·rw[AbW Iz x r a2 he,Apb a1,Apd (by omega)]
 ·rw[AbW isD x r a2 he,a0,Apd (by simp),Apb a1,a3]
 rw[a0,a1,Apd (by simp),Apd (by simp),<-a2,Apb ⟨h1,by simp⟩]
def gb(c:Bool)(b:UInt8):Option Bool:=if(if b=10 then false else if b=35 then true else c)then some true else if isB b=true then some false else none
theorem QR{c:Bool}(h:gb c b=none):c=false/\isB b=false/\b≠35/\b≠10:=by
 unfold gb at h;by_cases h1:(if b=10 then false else if b=35 then true else c)=true
 ·rw[Apb h1]at h;cases h
 rw[Apd h1]at h;by_cases h2:isB b=true
 ·rw[Apb h2]at h;cases h
 have h2':isB b=false:=by simpa using h2
 by_cases h3:b=10
 ·subst h3;exact absurd h2' (by decide)
 rw[Apd h3]at h1;by_cases h4:b=35
 ·rw[Apb h4]at h1;exact absurd rfl h1
 rw[Apd h4]at h1;exact⟨by simpa using h1,h2',h4,h3⟩
theorem UT(h1:isB b=false)(h2:b≠35):gb false b=none:=by
 unfold gb;have h3:b≠10:=fun e=>by subst e;exact absurd h1 (by decide)
 rw[Apd h3,Apd h2,Apd (by simp),Apd (by simp[h1])]
theorem Ak5(c:Bool):gb c 10=some false:=by unfold gb;rw[Apb rfl];rfl
theorem Af6(c:Bool):gb c 35=some true:=rfl
theorem Abu(h:b≠10):gb true b=some true:=by unfold gb;rw[Apd h];by_cases h2:b=35<;>simp[h2]
theorem AeS(h:isB b=true):gb false b=some false:=by
 unfold gb;have h2:b≠35:=fun e=>by subst e;exact absurd h (by decide)
 by_cases h3:b=10
 ·rw[Apb h3,Apd (by simp),Apb h]
 rw[Apd h3,Apd h2,Apd (by simp),Apb h]
inductive Rt:Bool->Nat->List UInt8->List AoP->Option (Nat×Int)->Prop
  |nil (c:Bool) (o:Nat):Rt c o [] [] none
  |skip {c c':Bool} {o:Nat} {b:UInt8} {s:List UInt8} {l:List AoP} {e:Option (Nat×Int)} (h:gb c b=some c') (r:Rt c' (o+1) s l e):Rt c o (b::s) l e
  |tok {c:Bool} {o:Nat} {b:UInt8} {s:List UInt8} {t:AoP} {l:List AoP} {e:Option (Nat×Int)} (h:gb c b=none) (ht:tok (b::s)=(t,0)) (r:Rt false (o+t.Zb.length) ((b::s).drop t.Zb.length) l e):Rt c o (b::s) ({ t with At:=o }::l) e
  |err {c:Bool} {o:Nat} {b:UInt8} {s:List UInt8} {x:Int} (h:gb c b=none) (ht:(tok (b::s)).2=x) (hx:x≠0):Rt c o (b::s) [] (some (o,x))
theorem Adw(h:(tok s).2=0):tok s=((tok s).1,0):=Prod.ext rfl h
theorem Rt.total:∀(n:Nat) (s:List UInt8) (c:Bool) (o:Nat),s.length<=n->∃l e,Rt c o s l e
 |_,[],c,o,_=>⟨_,_,.nil c o⟩
 |0,b::s,c,o,h=>absurd h (by simp)
 | n+1,b::s,c,o,h=>by
  simp only[Api]at h;cases hg:gb c b with
  |some c'=>
   obtain⟨l,e,hr⟩:=Rt.total n s c' (o+1) (by omega);exact⟨l,e,.skip hg hr⟩
  | none=>
   by_cases hx:(Go.Proofs.YtldngkmkhfddpaaGreatDoor.tok (b::s)).2=0
   ·have hi:=(RE (by simp) hx).1.1;have hp:=Aqt.2 hi;obtain⟨l,e,hr⟩:=Rt.total n ((b::s).drop (Go.Proofs.YtldngkmkhfddpaaGreatDoor.tok (b::s)).1.Zb.length) false (o+(Go.Proofs.YtldngkmkhfddpaaGreatDoor.tok (b::s)).1.Zb.length) (by simp only[Aqs,Api];omega);exact⟨_,e,.tok hg (Adw hx) hr⟩
   exact⟨[],_,.err hg rfl hx⟩
theorem R1(h:tok (b::s)=(t,0)):0<t.Zb.length/\t.Zb.length<=s.length+1:=by
 have h2:(tok (b::s)).2=0:=by rw[h]
 obtain⟨hk,hs,_⟩:=RE (by simp) h2;rw[h]at hk hs;have:=Ap2 List.length hs;simp only[Api,Apc]at this;exact⟨Aqt.2 hk.1,by omega⟩
theorem Rt.len{c:Bool}{o:Nat}{s:List UInt8}{l:List AoP}{e:Option (Nat×Int)}(h:Rt c o s l e):l.length<=s.length:=by
 induction h with
 |nil=>simp
 |skip h r ih=>simp only[Api];omega
 |tok h ht r ih=>
  have:=R1 ht;simp only[Aqs,Api]at ih ⊢;omega
 |err=>simp
theorem Rt.comment:∀{s:List UInt8} {o:Nat} {l:List AoP} {e:Option (Nat×Int)},Rt true o s l e->(Lib.indexByte s 10=-1/\l=[]/\e=none)\/∃n:Nat,Lib.indexByte s 10=(n:Int)/\n<s.length/\Rt false (o+(n+1)) (s.drop (n+1)) l e
 |[],o,l,e,h=>by
  cases h;exact .inl ⟨rfl,rfl,rfl⟩
 | b :: s,o,l,e,h=>by
  unfold Lib.indexByte;cases h with
  |tok h ht r=>exact absurd (QR h).1 (by simp)
  |err h ht hx=>exact absurd (QR h).1 (by simp)
  | skip h r=>
   by_cases hb:b=10
   ·subst hb;rw[Ak5]at h;obtain rfl:=Ao8 h;exact .inr ⟨0,by rw[Apb (by simp)];rfl,by simp,by simpa using r⟩
   rw[Abu hb]at h;obtain rfl:=Ao8 h;rw[Apd (by simpa using hb)];rcases Rt.comment r with⟨h1,h2,h3⟩|⟨n,h1,h2,h3⟩
   ·exact .inl ⟨by rw[h1];rfl,h2,h3⟩
   refine .inr ⟨n+1,?_,by simp only[Api];omega,?_⟩
   ·rw[h1,Apd (show ¬(((n:Int)==-1)=true) by rw[Aqg];omega)];omega
   have e:o+1+(n+1)=o+(n+1+1):=by omega
   rw[e]at h3;exact h3
def res(l:List AoP):Option (Nat×Int)->List AoP×Int×Int
 |none=>(l,0,0)
 |some (o,x)=>([],(o:Int),x)
theorem LS(h:k<s.length):s.drop k=nth s k::s.drop (k+1):=by
 rw[Aqc h];congr 1;simp[nth,h]
theorem AbB(s:List UInt8):Dg s 10=some (Lib.indexByte s 10):=by
 unfold Dg DD Ej Vp AbA;rw[Lib.firstIdx_eq];rfl
theorem AcJ(s:List UInt8)(k:Nat):(s.drop k).take (s.length-k)=s.drop k:=ApW (by simp)
theorem Aly(c:UInt8):(if(c==(32:UInt8))then some (c==(32:UInt8))else if(c==(9:UInt8))then some (c==(9:UInt8))else if(c==(13:UInt8))then some (c==(13:UInt8))else some (c==(10:UInt8)):Option Bool)=some (isB c):=by
 unfold isB;cases c==32<;>cases c==9<;>cases c==13<;>simp
theorem Akr{n:Nat}(h:n<=1000000):FT n 40:=by unfold FT maxLen Hv;omega
theorem Acr{src:List UInt8}{l:List AoP}{e:Option (Nat×Int)}(h:Rt false 0 src l e)(hs:src.length<=2000):EJ src=some (res l e):=by
 unfold EJ;rw[Apd (by simp;omega)];have hll:=h.len
 obtain ⟨x,hx,hq⟩:=Kw (f:=fun v:Int×List AoP=>Bg src v.1 v.2) (fun v=>∃(k:Nat) (acc l2:List AoP),v=((k:Int),acc)/\k<=src.length/\acc++l2=l/\Rt false k (src.drop k) l2 e) (fun v=>src.length-v.1.toNat)
  (fun x:List AoP⊕(List AoP⊕(List AoP×Int×Int))=>(match x with|.inl n=>(n,(0:Int),(0:Int))|.inr (.inl n)=>(n,(0:Int),(0:Int))|.inr (.inr z)=>z)=res l e) (by
   rintro v ⟨k,acc,l2,rfl,hk,hacc,hr⟩;have hl:=Ap2 List.length hacc;simp only[Apc]at hl;by_cases h1:k<src.length
   ·have e1:decide ((k:Int)<(src.length:Int))=true:=by simp;omega
    have hB:InB (k:Int) src.length:=P3 hk;rw[LS h1]at hr
    have step:Bg src (k:Int) acc=if isB (nth src k)=true then some (.inl (((k+1:Nat):Int),acc))else if(nth src k==(35:UInt8))then
      (Dg (nth src k::src.drop (k+1)) 10).bind fun y=>if(decide (y<0))then some (.inr (.inl acc))else some (.inl (w64 ((k:Int)+w64 (y+1)),acc))
      else(H0 (nth src k::src.drop (k+1))).bind fun y=>if(y.2 != 0)then some (.inr (.inr (.inr ([],(k:Int),y.2))))else some (.inl (w64 ((k:Int)+(y.1.Zb.length:Int)),acc++[{ y.1 with At:=(k:Int) }])):=by
     unfold Bg;rw[Apb e1,Apb (Au h1),Apk,SU (Aly _),Rz (by omega),Apb hB,AcJ,LS h1,Apb hB];simp only[Apb (show FT (acc.length+1) 40 from Akr (by omega))];rfl
    cases hr with
    | skip hg hr=>
     by_cases hb:isB (nth src k)=true
     ·rw[AeS hb]at hg;obtain rfl:=Ao8 hg;left;refine⟨(((k+1:Nat):Int),acc),?_,⟨k+1,acc,l2,rfl,by omega,hacc,hr⟩,by simp;omega⟩;show Bg src (k:Int) acc=_;rw[step,Apb hb]
     have hc:nth src k=35:=by
      have h0:=hg;unfold gb at h0;by_cases e10:nth src k=10
      ·rw[e10]at hb;exact absurd (by decide) hb
      rw[Apd e10]at h0;by_cases e35:nth src k=35
      ·exact e35
      rw[Apd e35,Apd (by simp),Apd hb]at h0;cases h0
     rw[hc,Af6]at hg;obtain rfl:=Ao8 hg;have hcm:Rt true k (nth src k::src.drop (k+1)) l2 e:=.skip (by rw[hc];exact Abu (by decide)) hr
     have hstep:Bg src (k:Int) acc=if(decide (Lib.indexByte (nth src k::src.drop (k+1)) 10<0))then some (.inr (.inl acc))else some (.inl (w64 ((k:Int)+w64 (Lib.indexByte (nth src k::src.drop (k+1)) 10+1)),acc)):=by
      rw[step,Apd hb,Apb (by simp[hc]),SU (AbB _)]
     rcases hcm.comment with⟨i1,i2,i3⟩|⟨n,i1,i2,i3⟩
     ·right;subst i2 i3;refine⟨.inl acc,?_,by rw[Aqf]at hacc;rw[hacc];rfl⟩;show Bg src (k:Int) acc=_;rw[hstep,i1,Apb (by decide)]
     left;simp only[Api,Aqs]at i2;refine⟨(((k+(n+1):Nat):Int),acc),?_,⟨k+(n+1),acc,l2,rfl,by omega,hacc,?_⟩,by simp;omega⟩
     ·show Bg src (k:Int) acc=_;rw[hstep,i1,Apd (by simp),Rz (by omega),Acd (by omega)]
     rw[<-LS h1,Asj]at i3;exact i3
    | tok hg ht hr=>
     rename_i t l2;have hb:=QR hg;have hp:=R1 ht;simp only[Aqs]at hp;left;refine⟨(((k+t.Zb.length:Nat):Int),acc++[{ t with At:=(k:Int) }]),?_,⟨k+t.Zb.length,_,l2,rfl,by omega,by rw[Ap6];exact hacc,?_⟩,by simp;omega⟩
     ·show Bg src (k:Int) acc=_;rw[step,Apd (by simp[hb.2.1]),Apd (by simp[hb.2.2.1]),SU (Xu _ (by simp) (by simp;omega)),ht];dsimp only;rw[Apd (by simp),Acd (by omega)]
     rw[<-LS h1,Asj]at hr;exact hr
    |err hg ht hx=>
     rename_i x;have hb:=QR hg;right;refine⟨.inr (.inr ([],(k:Int),x)),?_,rfl⟩;show Bg src (k:Int) acc=_;rw[step,Apd (by simp[hb.2.1]),Apd (by simp[hb.2.2.1]),SU (Xu _ (by simp) (by simp;omega)),ht,Apb (by simpa using hx)]
   right;have hk':k=src.length:=by omega
   subst hk';rw[List.drop_length]at hr;cases hr;refine⟨.inl acc,?_,by rw[Aqf]at hacc;rw[hacc];rfl⟩;show Bg src (src.length:Int) acc=_;unfold Bg;rw[Apd (by simp)]) (v0:=((0,[]):Int×List AoP)) ⟨0,[],l,rfl,by omega,rfl,h⟩ (by show src.length-0<_;omega)
 rw[hx];rcases x with n|(n|z)
 ·simpa using hq
 ·simpa using hq
 simpa using hq
theorem V6{src:List UInt8}(hs:2000<src.length):EJ src=some ([],0,2):=by
 unfold EJ;rw[Apb (by simp;omega)]
def chain(c:UInt8):Option Bool :=
 if(c==(123:UInt8))then some ((c==(123:UInt8)))else if(c==(125:UInt8))then some ((c==(125:UInt8)))else if(c==(40:UInt8))then some ((c==(40:UInt8)))else if(c==(41:UInt8))then some ((c==(41:UInt8)))else if(c==(59:UInt8))then some ((c==(59:UInt8)))
 else if(c==(44:UInt8))then some ((c==(44:UInt8)))else if(c==(43:UInt8))then some ((c==(43:UInt8)))else if(c==(45:UInt8))then some ((c==(45:UInt8)))else if(c==(42:UInt8))then some ((c==(42:UInt8)))else some ((c==(60:UInt8)))
theorem XI{c:UInt8}(h:Iz c=false):isL c=false/\isD c=false:=by
 unfold Iz at h;rwa[Bool.or_eq_false_iff]at h
def er(t:AoP):AoP:={ t with At:=0 }
def sh(k:Nat)(t:AoP):AoP:={ t with At:=t.At+(k:Int) }
theorem Al8(k:Nat)(l:List AoP):(l.map (sh k)).map er=l.map er:=by simp[er,sh,ArT]
def Stop(x:UInt8):Prop:=isB x=true\/x=35
theorem Rp(h:Stop x):Iz x=false/\isD x=false:=by
 have h1:Iz x=false:=by
  rcases h with h|rfl
  ·exact(Vc x).2.2 h
  decide
 exact⟨h1,(XI h1).2⟩
theorem Aa9(h:Stop x)(k:Int):Al2 k x=false:=by
 unfold Al2;split
 ·exact(Rp h).1
 split
 ·exact(Rp h).2
 rfl
theorem Ae1:∀n:Fin 256,∀y∈sgn (UInt8.ofNat n.val),isB y=false/\y≠35:=by decide +kernel
theorem AeG{c:UInt8}(h:Stop x):x ∉ sgn c:=fun hx=>by
 have:=Ae1 ⟨c.toNat,Art c⟩;have e:UInt8.ofNat c.toNat=c:=Arp;simp only[e]at this;have h2:=this x hx;rcases h with h|h
 ·rw[h2.1]at h;cases h
 exact h2.2 h
theorem Ab8(p:UInt8->Bool)(x:UInt8)(r:List UInt8)(hx:p x=false):∀s:List UInt8,(s++x::r).takeWhile p=s.takeWhile p
 |[]=>by simp[hx]
 |a::s=>by
  show List.takeWhile p (a::(s++x::r))=_;rw[Aqv,Aqv,Ab8 p x r hx s]
theorem Ac5{w r:List UInt8}(hx:x ∉ w):((s++x::r).take w.length=w)↔(s.take w.length=w):=by
 by_cases h:w.length<=s.length
 ·rw[ArA h]
 constructor
 ·intro h2;refine absurd ?_ hx;rw[<-h2,List.take_append];refine List.mem_append_right _ ?_;obtain⟨j,hj⟩:∃j,w.length-s.length=j+1:=⟨w.length-s.length-1,by omega⟩;rw[hj,ArE];exact Apu
 intro h2;have:=Ap2 List.length h2;simp only[Aqi]at this;omega
theorem AgT{r:List UInt8}(h0:s≠[])(hx:Stop x):tok (s++x::r)=tok s:=by
 unfold tok;rw[AaB _ h0,Ab8 Iz x r (Rp hx).1,Ab8 isD x r (Rp hx).2];have:=Ac5 (s:=s) (r:=r) (AeG (c:=nth s 0) hx);simp only[this]
theorem Rt.shift{c:Bool}{o:Nat}{s:List UInt8}{l:List AoP}{e:Option (Nat×Int)}(k:Nat)(h:Rt c o s l e):Rt c (o+k) s (l.map (sh k)) (e.map fun p=>(p.1+k,p.2)):=by
 induction h with
 |nil c o=>exact .nil c (o+k)
 |skip h r ih=>
  rw[Nat.add_right_comm]at ih;exact .skip h ih
 |tok h ht r ih=>
  rw[Nat.add_right_comm]at ih;have:=Rt.tok h ht ih;rw[ApL];exact this
 |err h ht hx=>exact .err h ht hx
theorem Rt.join{b:List UInt8}{m:List AoP}{e:Option (Nat×Int)}{c:Bool}{o:Nat}{a:List UInt8}{l:List AoP}{e0:Option (Nat×Int)}(h:Rt c o a l e0):e0=none->Rt false (o+a.length+1) b m e->Rt c o (a++10::b) (l++m) e:=by
 induction h with
 |nil c o=>exact fun _ h=>.skip (Ak5 c) h
 |skip h r ih=>
  intro h0 h2;refine .skip h (ih h0 ?_);rw[Api]at h2;rw[show ∀a b:Nat,a+1+b+1=a+(b+1)+1 by omega];exact h2
 | tok h ht r ih=>
  intro h0 h2;have hp:=R1 ht;rename_i c o b1 s t l e;have e1:(b1::s++10::b).drop t.Zb.length=(b1::s).drop t.Zb.length++10::b:=List.drop_append_of_le_length (by simp only[Api];omega);refine Rt.tok (s:=s++10::b) h ?_ ?_
  ·rw[<-ht];exact AgT (s:=b1::s) (by simp) (.inl (by decide))
  show Rt false _ ((b1::s++10::b).drop t.Zb.length) _ _;rw[e1];refine ih h0 ?_;rw[Aqs,Api];rw[Api]at h2;have e2:o+t.Zb.length+(s.length+1-t.Zb.length)+1=o+(s.length+1)+1:=by omega
  rw[e2];exact h2
 |err h ht hx=>exact fun h0=>by cases h0
def Nn:Bool->List UInt8->Option Bool
 |c,[]=>some c
 |c,b::s=>match gb c b with
  |some c'=>Nn c' s
  |none=>none
theorem Rt.gap{s:List UInt8}{l:List AoP}{e:Option (Nat×Int)}{c':Bool}:∀(p:List UInt8) (c:Bool) (o:Nat),Nn c p=some c'->Rt c' (o+p.length) s l e->Rt c o (p++s) l e
 |[],c,o,h,r=>by
  obtain rfl:=Ao8 h;exact r
 | b::p,c,o,h,r=>by
  unfold Nn at h;cases hg:gb c b with
  |none=>rw[hg]at h;cases h
  |some c2=>
   rw[hg]at h;rw[Api,AqP p.length 1,<-AqI]at r;exact .skip hg (Rt.gap p c2 (o+1) h r)
theorem Ahd(h:Tk t):gb false (nth t.Zb 0)=none:=by
 obtain⟨h1,_,h3⟩:=h;rcases h3 with⟨_,a,_⟩|⟨_,_,a,_⟩|⟨_,_,_,a,_⟩
 ·have:=(Vc (nth t.Zb 0)).1 a;exact UT this.1 this.2.1
 ·have:=(Vc (nth t.Zb 0)).2.1 a;exact UT this.1 this.2.1
 have:=Afw (nth t.Zb 0) (by rw[<-a];exact h1);exact UT this.2.2.2.1 this.2.2.2.2.1
theorem Rt.tok'{o:Nat}{r:List UInt8}{t:AoP}{l:List AoP}{e:Option (Nat×Int)}(h:Tk t)(he:Amw t.Za r)(hr:Rt false (o+t.Zb.length) r l e):Rt false o (t.Zb++r) ({ t with At:=(o:Int) }::l) e:=by
 have hh:=Ahd h;have ht:=Alg r h he;have hd:(t.Zb++r).drop t.Zb.length=r:=List.drop_left
 obtain⟨b,x,hx⟩:∃b x,t.Zb=b::x:=by
  cases hx:t.Zb with
  |nil=>exact absurd hx h.1
  |cons b x=>exact⟨b,x,rfl⟩
 have e0:t.Zb++r=b::(x++r):=by rw[hx];rfl
 have e1:nth t.Zb 0=b:=by rw[hx];rfl
 rw[e1]at hh;rw[e0]at ht hd ⊢;refine Rt.tok hh ht ?_;rw[hd];exact hr
theorem Rt.sum{c:Bool}{o:Nat}{s:List UInt8}{l:List AoP}{e:Option (Nat×Int)}(h:Rt c o s l e):(l.map fun t=>t.Zb.length).sum<=s.length:=by
 induction h with
 |nil=>simp
 |skip h r ih=>simp only[Api];omega
 |tok h ht r ih=>
  have:=R1 ht;simp only[Aqs,Api,ApL,AqJ]at ih ⊢;omega
 |err=>simp
theorem Rt.insert{p:List UInt8}(hp:Nn false p=some false)(hs:∃x r,p=x::r/\Stop x){c:Bool}{o:Nat}{s:List UInt8}{l:List AoP}{e:Option (Nat×Int)}(h:Rt c o s l e) :e=none->∀n,n<l.length->∃k m,(nth l n).At=((o+k:Nat):Int)/\k<=s.length/\Rt c o (s.take k++(p++s.drop k)) m none/\m.map er=l.map er:=by
 induction h with
 |nil c o=>intro _ n hn;simp at hn
 |skip h r ih=>
  intro he n hn;obtain⟨k,m,h1,h2,h3,h4⟩:=ih he n hn;refine⟨k+1,m,by rw[h1];omega,by simp only[Api];omega,?_,h4⟩;exact .skip h h3
 | tok h ht r ih=>
  intro he n hn;subst he;rename_i c o b s t l;have hi:=RE (s:=b::s) (by simp) (by rw[ht]);rw[ht]at hi;obtain⟨hk,hsplit,hends,hhead⟩:=hi;obtain rfl:=(QR h).1;cases n with
  |zero=>
   refine⟨0,({ t with At:=(o:Int) }::l).map (sh p.length),rfl,by simp,?_,Al8 _ _⟩;show Rt false o (p++b::s) _ none;exact Rt.gap p false o hp ((Rt.tok h ht r).shift p.length)
  | succ n=>
   obtain⟨k,m,h1,h2,h3,h4⟩:=ih rfl n (by simpa using hn);have hlen:=Ap2 List.length hsplit;simp only[Apc,Api]at hlen;refine⟨t.Zb.length+k,{ t with At:=(o:Int) }::m,?_,by simp only[Api];omega,?_,by rw[ApL,ApL,h4]⟩
   ·show(nth l n).At=_;rw[h1];omega
   have e1:(b::s).take (t.Zb.length+k)++(p++(b::s).drop (t.Zb.length+k))=t.Zb++(((b::s).drop t.Zb.length).take k++(p++((b::s).drop t.Zb.length).drop k)):=by
    rw[Asj,<-Ap6 t.Zb];congr 1;rw[List.take_add];congr 1
    conv=>lhs;rw[hsplit]
    exact List.take_left
   rw[e1];refine Rt.tok' hk ?_ h3;intro x hx;cases k with
   |zero=>
    obtain⟨y,q,rfl,hy⟩:=hs;obtain rfl:=Ao8 hx;exact Aa9 hy _
   | succ k=>
    cases hd:(b::s).drop t.Zb.length with
    |nil=>rw[hd]at h2;simp at h2
    |cons y q=>
     rw[hd]at hx hends;exact hends x hx
 |err h ht hx=>intro he;cases he
theorem Rt.head{c:Bool}{o:Nat}{s:List UInt8}{l:List AoP}{e:Option (Nat×Int)}(h:Rt c o s l e):e=none->match l with
  |[]=>∃c',Nn c s=some c'
  |t::l'=>∃g r,s=g++(t.Zb++r)/\Nn c g=some false/\t.At=((o+g.length:Nat):Int)/\t.Zb≠[]/\Rt false (o+g.length+t.Zb.length) r l' none:=by
 induction h with
 |nil c o=>exact fun _=>⟨c,rfl⟩
 | skip h r ih=>
  intro he;have:=ih he;rename_i c c' o b s l e;cases l with
  |nil=>
   obtain⟨c2,h2⟩:=this;exact⟨c2,by unfold Nn;rw[h];exact h2⟩
  |cons t l=>
   obtain⟨g,q,h1,h2,h3,h4,h5⟩:=this;have e1:∀n,o+1+g.length+n=o+(b::g).length+n:=fun n=>by simp only[Api];omega
   refine⟨b::g,q,by rw[h1];rfl,by unfold Nn;rw[h];exact h2,?_,h4,?_⟩
   ·rw[h3];simp only[Api];omega
   rw[<-e1];exact h5
 |tok h ht r ih=>
  intro he;subst he;rename_i c o b s t l;have hi:=RE (s:=b::s) (by simp) (by rw[ht]);rw[ht]at hi;obtain⟨hk,hsplit,hends,hhead⟩:=hi;exact⟨[],_,hsplit,by rw[(QR h).1];rfl,rfl,hk.1,r⟩
 |err h ht hx=>intro he;cases he
def cutLD:List UInt8:=[97,98,99,100,101,102,103,104,105,106,107,108,109,110,111,112,113,114,115,116,117,118,119,120,121,122,48,49,50,51,52,53,54,55,56,57]
theorem YB:(match Ci cutLD with|some (f,b)=>b&&(List.range 256).all (fun n=>f.get n==Iz (UInt8.ofNat n))|none=>false)=true:=by decide +kernel
theorem Ane:∃f:Arr Bool 256,Ci cutLD=some (f,true)/\∀c:UInt8,f.get c.toNat=Iz c:=by
 have h:=YB;cases e:Ci cutLD with
 |none=>rw[e]at h;cases h
 |some y=>
  obtain⟨f,b⟩:=y;rw[e]at h;simp only[Apj,App,ApS,Aqg]at h;obtain⟨rfl,h⟩:=h;refine⟨f,rfl,fun c=>?_⟩;have:=h c.toNat (by have:=c.toNat_lt;omega);simpa using this
theorem OB(f:Arr Bool 256)(c:UInt8):Bu f c=some (f.get c.toNat,f):=by
 unfold Bu;rw[Apb (Au (by have:=c.toNat_lt;omega))]
theorem QI{s:List UInt8}(h:0<s.length):s=s.take (s.length-1)++[nth s (s.length-1)]:=by
 have h1:s.length-1<s.length:=by omega
 have:=ApD h1;rw[show s.length-1+1=s.length by omega,Ap7]at this;rw[B6 h1];exact this
theorem XL(f:Arr Bool 256)(hf:∀c:UInt8,f.get c.toNat=Iz c)(s:List UInt8)(hs:s.length<1000000):TP (Cy s f) fun z=>z.2=f/\∃t,s=z.1++t/\(∀c∈t,Iz c=true)/\(z.1=[]\/∃u c,z.1=u++[c]/\Iz c=false):=by
 unfold Cy;refine AC (Q:=fun z=>z.2=f/\∃t,s=z.1++t/\(∀c∈t,Iz c=true)/\(z.1=[]\/∃u c,z.1=u++[c]/\Iz c=false)) (AC (Q:=fun z=>z.2=f/\∃t,s=z.1++t/\(∀c∈t,Iz c=true)/\(z.1=[]\/∃u c,z.1=u++[c]/\Iz c=false)) ?_ fun z hz=>Aj hz) fun z hz=>Aj hz
 refine AQ (fun v=>v.2=f/\v.1.length<1000000/\∃t,s=v.1++t/\∀c∈t,Iz c=true) (fun v=>v.1.length) ?_ ⟨rfl,hs,[],by simp,by simp⟩ (by simp only;omega);rintro⟨r,g⟩ ⟨hg,hl,t,ht,hc⟩;simp only at hg hl ht hc ⊢;subst hg;unfold C5;refine AA (fun h=>?_) fun h=>Aj ⟨rfl,t,ht,hc,.inl (ApM.1 (by simpa using h))⟩
 have hr:0<r.length:=by simpa using h
 have hw:w64 ((r.length:Int)-1)=((r.length-1:Nat):Int):=by rw[Hn (by omega)];omega
 rw[hw];refine Dx (Au (by omega)) ?_;rw[OB];simp only[Ah,Apk,hf];refine AA (fun hb=>Aj ⟨rfl,t,ht,hc,.inr ⟨_,_,QI hr,by simpa using hb⟩⟩) fun hb=>Dx (P3 (by omega)) (A8 (Aj ⟨⟨rfl,?_,nth r (r.length-1)::t,?_,?_⟩,?_⟩))
 ·simp only[Aqi];omega
 ·simp only;rw[ht]
  conv=>lhs;rw[QI hr]
  simp
 ·intro c hcm;rcases Apx.1 hcm with rfl|hcm
  ·simpa using hb
  exact hc c hcm
 simp only[Aqi];omega
theorem Ym(f:Arr Bool 256)(hf:∀c:UInt8,f.get c.toNat=Iz c)(s:List UInt8)(hs:s.length<1000000):TP (CC s f) fun z=>z.1=[]->∀c∈s,Iz c=true:=by
 unfold CC;refine AC (Q:=fun z=>z.1=[]->∀c∈s,Iz c=true) (AC (Q:=fun z=>z.1=[]->∀c∈s,Iz c=true) ?_ fun z hz=>Aj hz) fun z hz=>Aj hz
 refine AQ (fun v=>v.2=f/\v.1.length<1000000/\∃t,s=t++v.1/\∀c∈t,Iz c=true) (fun v=>v.1.length) ?_ ⟨rfl,hs,[],by simp,by simp⟩ (by simp only;omega);rintro⟨r,g⟩ ⟨hg,hl,t,ht,hc⟩;simp only at hg hl ht hc ⊢;subst hg;unfold CL
 refine AA (fun h=>?_) fun h=>Aj fun e=>by
  simp only at e;rw[ht,e,Aqf];exact hc
 have hr:0<r.length:=by simpa using h
 refine Dx (Au (k:=0) hr) ?_;rw[OB];simp only[Ah,hf];refine AA (fun hb=>Aj fun e=>by simp only at e;rw[e]at hr;simp at hr) fun hb=>Dx (P3 (k:=1) (by omega)) (A8 (Aj ⟨⟨rfl,?_,t++[nth r 0],?_,?_⟩,?_⟩))
 ·simp only[Aqi,Aqs];omega
 ·match r,hr with
  |c::r,_=>simp[ht,nth]
 ·intro c hcm;rcases Aps.1 hcm with hcm|hcm
  ·exact hc c hcm
  simp only[ApQ]at hcm;subst hcm;simpa using hb
 simp only[Aqi,Aqs];omega
def Afr(s:List UInt8):Prop:=s.length<=32/\s≠[]/\isL (nth s 0)=true/\∀c∈s,Iz c=true
theorem TJ(s:List UInt8):TP (G1 s) fun b=>b=true->Afr s:=by
 unfold G1;refine AC (Q:=fun b=>b=true->Afr s) ?_ fun b hb=>Aj hb
 refine AA (fun h1=>?_) fun _=>Aj fun e=>by cases e
 have hl:s.length<=32:=by simp only[Apw]at h1;omega
 refine AA (fun h2=>?_) fun _=>Aj fun e=>by cases e
 have h2':s≠[]:=by simpa using h2
 have h0:0<s.length:=Aqt.2 h2';refine Dx (Au (k:=0) h0) (AA (fun h3=>?_) fun _=>Aj fun e=>by cases e);refine Dx (Au (k:=0) h0) (AA (fun h4=>?_) fun _=>Aj fun e=>by cases e);obtain⟨f,hf1,hf2⟩:=Ane;have hcut:([97,98,99,100,101,102,103,104,105,106,107,108,109,110,111,112,113,114,115,116,117,118,119,120,121,122,48,49,50,51,52,53,54,55,56,57]:List UInt8)=cutLD:=rfl;rw[hcut];refine AC (Q:=fun y=>y=[]->∀c∈s,Iz c=true) ?_ fun y hy=>Aj fun e=>⟨hl,h2',?_,hy (by simpa using e)⟩
 ·unfold HW;rw[Apd (by simpa using h2')];have e1:(cutLD==([]:List UInt8))=false:=rfl;rw[e1];simp only[Ah,ApC,Ap5];have e2:((cutLD.length:Int)==1)=false:=by decide
  rw[e2];simp only[Ah,ApC,Ap5];rw[hf1];simp only[Ah,ApT];refine AC (XL f hf2 s (by omega)) fun z hz=>?_
  obtain⟨hz1,t,ht,hc,hlast⟩:=hz;rw[hz1]
  have hzl:z.1.length<1000000:=by
   have:=Ap2 List.length ht;simp only[Apc]at this;omega
  refine AC (Ym f hf2 z.1 hzl) fun y hy=>Aj fun e c hcm=>?_
  rw[ht]at hcm;rcases Aps.1 hcm with hcm|hcm
  ·exact hy e c hcm
  exact hc c hcm
 unfold isL;simp only[Apw]at h3 h4;have h3':(97:UInt8)<=nth s 0:=h3;simp[h3',h4]
theorem Rq(d:Arr Int 4):YH (Dl d):=by
 unfold Dl;refine AC (Q:=fun _=>True) (AC (Q:=fun _=>True) ?_ fun z _=>Aj trivial) fun m _=>AC (Q:=fun _=>True) ?_ fun _ _=>Aj trivial
 ·refine AQ (fun v=>∃k:Nat,v.1=(k:Int)/\k<=4) (fun v=>(4-v.1).toNat) ?_ ⟨0,rfl,Apz _⟩ (by simp);rintro⟨_,m⟩ ⟨k,rfl,hk⟩;unfold E3;refine AA (fun h=>?_) fun _=>Aj trivial
  have hk':k<4:=by simp only[Apw]at h;omega
  exact Dx (Au hk') (A8 (Aj ⟨⟨k+1,Bq (by omega),hk'⟩,by simp only;rw[Bq (by omega)];omega⟩))
 refine AA (fun _=>AA (fun _=>Aj trivial) fun _=>Aj trivial) fun _=>Aj trivial
def Mb:Nat->AoT->Prop
 |0,_=>False
 | d+1,x=>1<=x.Op/\x.Op<=11/\0<=x.N/\x.N<=(if x.Op=1 then 1099511627776 else if x.Op=2 then 15 else 0)/\(x.L.length:Int)=(if x.Op=1 then 0 else if x.Op=2 then 0 else if x.Op=11 then 4 else 2) /\
   Dl x.Unit=some true/\(x.Op≠1->x.Unit=⟨[0,0,0,0],rfl⟩)/\∀y∈x.L,Mb d y
theorem Aad{f:AoT->Option Bool}{P:AoT->Prop}(s:List AoT)(hs:s.length<1000000)(hf:∀y∈s,TP (f y) fun b=>b=false->P y):TP (Ce s f) fun b=>b=false->∀y∈s,P y:=by
 unfold Ce;refine AC (Q:=fun i=>decide (i≥0)=false->∀y∈s,P y) ?_ fun i hi=>Aj hi
 unfold DN
 refine AC (Q:=fun z=>match z with
  |.inl ()=>∀y∈s,P y
  |.inr r=>0<=r) ?_ fun z hz=>?_
 ·refine AC (Q:=fun z=>match z with
   |.inl ()=>∀y∈s,P y
   |.inr (.inr r)=>0<=r
   |_=>False) ?_ fun z hz=>?_
  ·refine AQ (fun i=>∃k:Nat,i=(k:Int)/\k<=s.length/\∀y∈s.take k,P y) (fun i=>((s.length:Int)-i).toNat) ?_ ⟨0,rfl,Apz _,by simp⟩ (by simp;omega);rintro _ ⟨k,rfl,hk,hp⟩;unfold CT;refine AA (fun h=>?_) fun h=>Aj ?_
   ·have hk':k<s.length:=by simpa using h
    refine Dx (Au hk') ?_;simp only[Apk];refine AC (hf _ (AL hk')) fun b hb=>AA (fun _=>Aj (Int.natCast_nonneg k)) fun hn=>Aj ⟨⟨k+1,Bq (by omega),hk',fun y hy=>?_⟩,by rw[Bq (by omega)];omega⟩
    rw[ApD hk',<-B6 hk']at hy;rcases Aps.1 hy with hy|hy
    ·exact hp y hy
    simp only[ApQ]at hy;subst hy;exact hb (ApF hn)
   have:k=s.length:=by simp at h;omega
   subst this;rw[Ap7]at hp;exact hp
  match z,hz with
  |.inl (),hz=>exact Aj hz
  |.inr (.inr r),hz=>exact Aj hz
 match z,hz with
 |.inl (),hz=>exact Aj fun _=>hz
 |.inr r,hz=>exact Aj fun e=>by simp at e;omega
theorem ON:∀(d:Nat) (x:AoT) (n:Nat),Dp d x->d<=n->TP (EP n x) fun b=>b=true->Mb d x
 |0,x,n,h,_=>h.elim
 |d+1,x,0,_,h=>by omega
 | d + 1,x,n+1,h,hn=>by
  show TP (E6 (EP n) x) _;unfold E6
  refine AC (Q:=fun z=>match z with
   |.inl (most,k)=>(1<=x.Op/\x.Op<=11)/\most=(if x.Op=1 then 1099511627776 else if x.Op=2 then 15 else 0)/\k=(if x.Op=1 then 0 else if x.Op=2 then 0 else if x.Op=11 then 4 else 2)
   |.inr b=>b=false) ?_ fun z hz=>?_
  ·refine AC (Q:=fun z=>match z with
    |.inl k=>x.Op≠1/\x.Op≠2/\k=(if x.Op=11 then 4 else 2)
    |.inr (.inl (most,k))=>(x.Op=1/\most=1099511627776/\k=0)\/(x.Op=2/\most=15/\k=0)
    |.inr (.inr b)=>False) ?_ fun z hz=>?_
   ·refine AA (fun h1=>?_) fun h1=>AA (fun h2=>?_) fun h2=>?_
    ·exact Aj (.inl ⟨by simpa using h1,rfl,rfl⟩)
    ·exact Aj (.inr ⟨by simpa using h2,rfl,rfl⟩)
    refine AA (fun h3=>Aj ?_) fun h3=>Aj ?_
    ·have:x.Op=11:=by simpa using h3
     exact⟨by simpa using h1,by simpa using h2,by rw[Apb this]⟩
    have:x.Op≠11:=by simpa using h3
    exact⟨by simpa using h1,by simpa using h2,by rw[Apd this]⟩
   match z,hz with
   |.inl k,hz=>
    obtain⟨h1,h2,rfl⟩:=hz;refine AC (Q:=fun b=>b=false->1<=x.Op/\x.Op<=11) (AA (fun _=>Aj fun e=>by cases e) fun ha=>Aj fun e=>?_) fun b hb=>AA (fun _=>Aj rfl) fun hn=>Aj ⟨hb (ApF hn),by rw[Apd h1,Apd h2],by rw[Apd h1,Apd h2]⟩
    simp at ha e;omega
   |.inr (.inl (most,k)),hz=>
    refine Aj ?_;rcases hz with⟨h1,rfl,rfl⟩|⟨h1,rfl,rfl⟩
    ·exact⟨by omega,by rw[Apb h1],by rw[Apb h1]⟩
    exact⟨by omega,by rw[Apd (by omega),Apb h1],by rw[Apd (by omega),Apb h1]⟩
  match z,hz with
  |.inr b,hz=>exact Aj fun e=>by rw[hz]at e;cases e
  | .inl (most,k),hz=>
   obtain⟨ho,rfl,rfl⟩:=hz;refine AC (Q:=fun b=>b=false->0<=x.N/\x.N<=(if x.Op=1 then 1099511627776 else if x.Op=2 then 15 else 0)/\(x.L.length:Int)=(if x.Op=1 then 0 else if x.Op=2 then 0 else if x.Op=11 then 4 else 2)/\Dl x.Unit=some true/\(x.Op≠1->x.Unit=⟨[0,0,0,0],rfl⟩)) ?_ fun b hb=>?_
   ·refine AA (fun _=>Aj fun e=>by cases e) fun h1=>AA (fun _=>Aj fun e=>by cases e) fun h2=>AA (fun _=>Aj fun e=>by cases e) fun h3=>?_
    obtain⟨wb,hw,_⟩:=Rq x.Unit;rw[hw];simp only[Ah];have h1':0<=x.N:=by simpa using h1
    have h2':x.N<=(if x.Op=1 then 1099511627776 else if x.Op=2 then 15 else 0):=by simpa using h2
    have h3':(x.L.length:Int)=(if x.Op=1 then 0 else if x.Op=2 then 0 else if x.Op=11 then 4 else 2):=by simpa using h3
    refine AA (fun _=>Aj fun e=>by cases e) fun h4=>?_
    have h4':wb=true:=by simpa using h4
    subst h4';refine AA (fun h5=>Aj fun e=>⟨h1',h2',h3',rfl,fun _=>by simpa using e⟩) fun h5=>Aj fun _=>⟨h1',h2',h3',rfl,fun h6=>absurd h6 (by simpa using h5)⟩
   refine AA (fun _=>Aj fun e=>by cases e) fun hn'=>?_
   obtain⟨q1,q2,q3,q4,q5⟩:=hb (ApF hn');refine AC (Aad (P:=Mb d) x.L (by have:=h.1;omega) fun y hy=>?_) fun b hb=>Aj fun e=>⟨ho.1,ho.2,q1,q2,q3,q4,q5,hb (by simpa using e)⟩
   unfold FZ;exact AC (ON d y n (h.2 y hy) (by omega)) fun b hb=>Aj fun e=>hb (by simpa using e)
structure OkC(c:AoU):Prop where
  word:Afr c.Zd
  res:Agz c.Zd=false
  pay:Mb 900000 c.Pay
  tests:∀w∈c.Ze,(0<=w.Attr/\w.Attr<16)/\(0<=w.Low/\0<=w.Zc)/\w.Low<=1099511627776/\w.Zc<=1099511627776
  few:c.Ze.length<=8
  flat:∃k,DG c.Pay=some k/\k<=24
structure OkT(t:AoV):Prop where
  word:Afr t.Zd
  res:Agz t.Zd=false
  kind:1<=t.For/\t.For<=6
  few:t.Zf.length<=64
  all:∀c∈t.Zf,OkC c
  apart:(t.Zf.map (·.Zd)).Nodup
def Tz(n:Nat)(t:AoV):Prop:=t.Zf.length<=n/\∀c∈t.Zf,c.Ze.length<=8/\Ez 900000 c.Pay
theorem Y6(l:List AoR)(hl:l.length<1000000):TP (AY (fun(v:Int)=>EB l v) 0) fun z=>match z with
  |.inl ()=>∀w∈l,(0<=w.Attr/\w.Attr<16)/\(0<=w.Low/\0<=w.Zc)/\w.Low<=1099511627776/\w.Zc<=1099511627776
  |.inr (.inr (.inr (.inr (.inr (.inr e)))))=>e=1
  |_=>False:=by
 refine AQ (fun i=>∃k:Nat,i=(k:Int)/\k<=l.length/\∀w∈l.take k,(0<=w.Attr/\w.Attr<16)/\(0<=w.Low/\0<=w.Zc)/\w.Low<=1099511627776/\w.Zc<=1099511627776) (fun i=>((l.length:Int)-i).toNat) ?_ ⟨0,rfl,Apz _,by simp⟩ (by simp;omega);rintro _ ⟨k,rfl,hk,hp⟩;unfold EB;refine AA (fun h=>?_) fun h=>Aj ?_
 ·have hk':k<l.length:=by simpa using h
  refine Dx (Au hk') (A8 (A8 (A8 ?_)));simp only[Apk];refine AC (Q:=fun b=>b=false->(0<=(nth l k).Attr/\(nth l k).Attr<16)/\(0<=(nth l k).Low/\0<=(nth l k).Zc)/\(nth l k).Low<=1099511627776/\(nth l k).Zc<=1099511627776) ?_ fun b hb=>AA (fun _=>Aj rfl) fun hn=>Aj ⟨⟨k+1,Bq (by omega),hk',fun y hy=>?_⟩,by rw[Bq (by omega)];omega⟩
  ·refine AA (fun _=>Aj fun e=>by cases e) fun h1=>AA (fun _=>Aj fun e=>by cases e) fun h2=>AA (fun _=>Aj fun e=>by cases e) fun h3=>Aj fun e=>?_
   simp only[Apw]at h1 h2 h3;have h4:¬(Qk (nth l k).Low (nth l k).Zc>1099511627776):=by simpa using e
   unfold Qc at h3;unfold Qk at h4;refine⟨by omega,?_,?_⟩
   ·split at h3<;>omega
   split at h4<;>omega
  rw[ApD hk',<-B6 hk']at hy;rcases Aps.1 hy with hy|hy
  ·exact hp y hy
  simp only[ApQ]at hy;subst hy;exact hb (ApF hn)
 have:k=l.length:=by simp at h;omega
 subst this;rw[Ap7]at hp;exact hp
structure Seen(t:AoV)(k:Nat)(named limit:Bool)(m:ME):Prop where
  map:∀s,(m s).getD false=true↔s∈(t.Zf.take k).map (·.Zd)
  nm:named=false->Agz t.Zd=false/\(∀c∈t.Zf.take k,Agz c.Zd=false)/\((t.Zf.take k).map (·.Zd)).Nodup
  lim:limit=false->t.Zf.length<=64/\∀c∈t.Zf.take k,c.Ze.length<=8/\∃k,DG c.Pay=some k/\k<=24
  ok:∀c∈t.Zf.take k,Afr c.Zd/\Mb 900000 c.Pay/\∀w∈c.Ze,(0<=w.Attr/\w.Attr<16)/\(0<=w.Low/\0<=w.Zc)/\w.Low<=1099511627776/\w.Zc<=1099511627776
theorem Lq(t:AoV){n:Nat}(ht:Tz n t)(hn:n<1000000):TP (Da t) fun e=>e=0->OkT t:=by
 unfold Da;refine AC (Q:=fun b=>b=false->Afr t.Zd/\1<=t.For/\t.For<=6) ?_ fun b hb=>?_
 ·refine AC (TJ t.Zd) fun b hb=>AA (fun _=>Aj fun e=>by cases e) fun h1=>AA (fun _=>Aj fun e=>by cases e) fun h2=>Aj fun e=>⟨hb (by simpa using h1),?_⟩
  simp at h2 e;omega
 refine AA (fun _=>Aj fun e=>by cases e) fun hnb=>?_
 obtain⟨w1,w2⟩:=hb (ApF hnb);rw[Lp];simp only[Ah];refine A8 ?_
 refine AC (Q:=fun z=>match z with
  |.inl (named,limit)=>named=false->limit=false->OkT t
  |.inr e=>e=1) ?_ fun z hz=>?_
 ·refine AC (Q:=fun z=>match z with
   |.inl (named,limit)=>named=false->limit=false->OkT t
   |.inr (.inr e)=>e=1
   |_=>False) ?_ fun z hz=>?_
  ·refine AQ (fun v=>∃k:Nat,v.2.2.1=(k:Int)/\k<=t.Zf.length/\Seen t k v.1 v.2.1 v.2.2.2) (fun v=>((t.Zf.length:Int)-v.2.2.1).toNat) ?_ ⟨0,rfl,Apz _,⟨fun s=>by simp[no2],fun e=>⟨e,by simp,by simp⟩,fun e=>⟨by have:=of_decide_eq_false e;omega,by simp⟩,by simp⟩⟩ (by have:=ht.1;simp;omega);rintro⟨named,limit,_,m⟩ ⟨k,rfl,hk,hS⟩;simp only at hS ⊢;unfold Gc;refine AA (fun h=>?_) fun h=>Aj fun e1 e2=>?_
   ·have hk':k<t.Zf.length:=by simpa using h
    have hmem:=AL hk';have hcl:=ht.1;obtain⟨hw8,hez⟩:=ht.2 _ hmem
    have htk:∀c,c∈t.Zf.take (k+1)↔c∈t.Zf.take k\/c=nth t.Zf k:=by
     intro c;rw[ApD hk',<-B6 hk',Aps,ApQ]
    refine AC (Q:=fun z=>match z with
     |.inl (named',limit',m')=>Seen t (k+1) named' limit' m'
     |.inr (.inr (.inr (.inr e)))=>e=1
     |_=>False) ?_ fun z hz=>?_
    ·refine Dx (Au hk') ?_;simp only[Bp,Apk,Hp];refine AC (Q:=fun b=>b=false->Afr (nth t.Zf k).Zd/\Mb 900000 (nth t.Zf k).Pay) ?_ fun b hb=>AA (fun _=>Aj rfl) fun hnb=>?_
     ·refine AC (TJ _) fun b hb=>AA (fun _=>Aj fun e=>by cases e) fun h1=>?_
      exact AC (ON 900000 _ _ hez.1 (by omega)) fun b2 hb2=>Aj fun e=>⟨hb (by simpa using h1),hb2 (by simpa using e)⟩
     obtain⟨c1,c2⟩:=hb (ApF hnb)
     refine AC (Q:=fun z=>match z with
      |.inl ()=>∀w∈(nth t.Zf k).Ze,(0<=w.Attr/\w.Attr<16)/\(0<=w.Low/\0<=w.Zc)/\w.Low<=1099511627776/\w.Zc<=1099511627776
      |.inr (.inr (.inr (.inr (.inr e))))=>e=1
      |_=>False) (AC (Y6 _ (by omega)) fun z hz=>?_) fun z hz=>?_
     ·match z,hz with
      |.inl (),hz=>exact Aj hz
      |.inr (.inr (.inr (.inr (.inr (.inr e))))),hz=>exact Aj hz
     match z,hz with
     |.inr (.inr (.inr (.inr (.inr e)))),hz=>exact Aj hz
     | .inl (),hz=>
      simp only;refine AC (Q:=fun b=>b=false->named=false/\Agz (nth t.Zf k).Zd=false/\(m (nth t.Zf k).Zd).getD false=false) ?_ fun named' hn'=>?_
      ·refine AA (fun _=>Aj fun e=>by cases e) fun h1=>?_
       rw[Lp];simp only[Ah];exact AA (fun _=>Aj fun e=>by cases e) fun h2=>Aj fun e=>⟨ApF h1,ApF h2,e⟩
      refine AC (Q:=fun b=>b=false->limit=false/\∃k2,DG (nth t.Zf k).Pay=some k2/\k2<=24) ?_ fun limit' hl'=>?_
      ·refine AA (fun _=>Aj fun e=>by cases e) fun h1=>AA (fun _=>Aj fun e=>by cases e) fun h2=>?_
       obtain⟨k2,e2,_⟩:=JW 900000 (nth t.Zf k).Pay 18446744073709551616 hez.1 (by omega) (by omega);have e3:DG (nth t.Zf k).Pay=some k2:=e2;rw[e3];simp only[Ah];exact Aj fun e=>⟨ApF h1,k2,rfl,by simpa using e⟩
      refine Aj ⟨fun s=>?_,fun e=>?_,fun e=>?_,fun c hc=>?_⟩
      ·rw[ApD hk',<-B6 hk',AqU,Aps];simp only[up2,ApL,Aqr,ApQ];by_cases es:s=(nth t.Zf k).Zd
       ·rw[Apb es];simp[es]
       rw[Apd es,hS.map s];simp[es]
      ·obtain⟨n1,n2,n3⟩:=hn' e;obtain⟨q1,q2,q3⟩:=hS.nm n1;refine⟨q1,fun c hc=>?_,?_⟩
       ·rcases(htk c).1 hc with hc|rfl
        ·exact q2 c hc
        exact n2
       rw[ApD hk',<-B6 hk',AqU];refine List.nodup_append.2 ⟨q3,by simp,fun a ha b hb=>?_⟩;simp only[ApL,Aqr,ApQ]at hb;subst hb;intro e;subst e;rw[(hS.map _).2 ha]at n3;cases n3
      ·obtain⟨n1,n2⟩:=hl' e;obtain⟨q1,q2⟩:=hS.lim n1;refine⟨q1,fun c hc=>?_⟩;rcases(htk c).1 hc with hc|rfl
       ·exact q2 c hc
       exact⟨hw8,n2⟩
      rcases(htk c).1 hc with hc|rfl
      ·exact hS.ok c hc
      exact⟨c1,c2,hz⟩
    match z,hz with
    |.inl (named',limit',m'),hz=>exact Aj ⟨⟨k+1,Bq (by omega),hk',hz⟩,by simp only;rw[Bq (by omega)];omega⟩
    |.inr (.inr (.inr (.inr e))),hz=>exact Aj hz
   have:k=t.Zf.length:=by simp at h;omega
   subst this;obtain⟨q1,q2,q3⟩:=hS.nm e1;obtain⟨p1,p2⟩:=hS.lim e2;have ho:=hS.ok;rw[Ap7]at q2 q3 p2 ho;exact⟨w1,q1,w2,p1,fun c hc=>⟨(ho c hc).1,q2 c hc,(ho c hc).2.1,(ho c hc).2.2,(p2 c hc).1,(p2 c hc).2⟩,q3⟩
  match z,hz with
  |.inl (named,limit),hz=>exact Aj hz
  |.inr (.inr e),hz=>exact Aj hz
 match z,hz with
 |.inr e,hz=>exact Aj fun e0=>by rw[hz]at e0;cases e0
 |.inl (named,limit),hz=>
  refine AA (fun _=>Aj fun e=>by cases e) fun h1=>AA (fun _=>Aj fun e=>by cases e) fun h2=>Aj fun _=>hz (ApF h1) (ApF h2)
theorem UA(s:List Int)(v:Int)(hl:s.length<1000000):Cs s v=some (if s.findIdx (v==·)<s.length then((s.findIdx (v==·):Nat):Int)else -1):=by
 have key:TP (Cs s v) fun r=>r=if s.findIdx (v==·)<s.length then((s.findIdx (v==·):Nat):Int)else -1:=by
  unfold Cs
  refine AC (Q:=fun z=>match z with
   |.inl ()=>s.findIdx (v==·)=s.length
   |.inr r=>s.findIdx (v==·)<s.length/\r=((s.findIdx (v==·):Nat):Int)) ?_ fun z hz=>?_
  ·refine AC (Q:=fun z=>match z with
    |.inl ()=>s.findIdx (v==·)=s.length
    |.inr (.inr r)=>s.findIdx (v==·)<s.length/\r=((s.findIdx (v==·):Nat):Int)
    |_=>False) ?_ fun z hz=>?_
   ·refine AQ (fun i=>∃k:Nat,i=(k:Int)/\k<=s.length/\∀j,j<k->(v==nth s j)=false) (fun i=>((s.length:Int)-i).toNat) ?_ ⟨0,rfl,Apz _,fun j h=>by omega⟩ (by simp;omega);rintro _ ⟨k,rfl,hk,hj⟩;unfold Eb;refine AA (fun h=>?_) fun h=>Aj ?_
    ·have hk':k<s.length:=by simpa using h
     refine Dx (Au hk') ?_;simp only[Apk];refine AA (fun hv=>?_) fun hv=>Aj ⟨⟨k+1,Bq (by omega),hk',fun j h1=>?_⟩,by rw[Bq (by omega)];omega⟩
     ·have he:s.findIdx (v==·)=k:=by
       rw[List.findIdx_eq hk'];refine⟨by rw[<-B6 hk'];exact hv,fun j hjk=>?_⟩;rw[<-B6 (by omega)];exact hj j hjk
      refine Aj ⟨by rw[he];exact hk',by rw[he]⟩
     by_cases e:j<k
     ·exact hj j e
     have:j=k:=by omega
     subst this;exact ApF hv
    have:k=s.length:=by simp at h;omega
    subst this;rw[List.findIdx_eq_length];intro x hx;obtain⟨j,hj',rfl⟩:=Ap3 hx;rw[<-B6 hj'];exact hj j hj'
   match z,hz with
   |.inl (),hz=>exact Aj hz
   |.inr (.inr r),hz=>exact Aj hz
  match z,hz with
  |.inl (),hz=>exact Aj (by rw[Apd (by omega)])
  |.inr r,hz=>exact Aj (by rw[Apb hz.1];exact hz.2)
 obtain⟨r,e,h⟩:=key;rw[e,h]
theorem Pg{n k:Nat}(hn:n<=2000000000)(hk:k<=200):FT n k:=by
 refine⟨by unfold maxLen;omega,?_⟩;have:n*k<=2000000000*200:=Nat.mul_le_mul hn hk;unfold Hv;omega
theorem Gy(p:Ao2)(ws:List (List UInt8))(h:p.l.length+ws.length<=2000000000):Aq p ws=some ⟨p.l++ws⟩:=by
 unfold Aq;rw[Apb (Pg h (by decide)),Bp]
theorem Xs(p:Ao2)(n:Int)(h:p.l.length<2000000000)(h0:0<=n)(h1:n<=1099511627776):Bi p n=some ⟨p.l++[Lib.itoa n]⟩:=by
 unfold Bi strconv_Itoa Adh;rw[Apb (by omega)];simp only[Ah,Bp];rw[Gy _ _ (by simp;omega)];simp only[Ah]
def per:List UInt8:=[112,101,114]
def pu1(d:Arr Int 4):List (List UInt8):=if d.l.findIdx (1==·)<4 then[nth w_units (d.l.findIdx (1==·))]else[]
def pu2(d:Arr Int 4):List (List UInt8):=if d.l.findIdx ((-1)==·)<4 then[per,nth w_units (d.l.findIdx ((-1)==·))]else[]
def pu(d:Arr Int 4):List (List UInt8):=pu1 d++pu2 d
theorem Ajr(d:Arr Int 4):(pu d).length<=3:=by
 unfold pu pu1 pu2;rw[Apc];split<;>split<;>simp
theorem Aec(p:Ao2)(d:Arr Int 4)(h:p.l.length+10<=2000000000):Di p d=some ⟨p.l++pu d⟩:=by
 have hd:d.l.length=4:=d.h;unfold Di;rw[UI];simp only[Ah]
 have e1:(Cs d.l 1).bind (fun y=>
   if(decide (y≥0))then
    if InR y w_units.length then
     (Aq p (([nth w_units y.toNat]:List (List UInt8)))).bind fun y=>
     lt1 y.l fun(l:List (List UInt8))=>
     some l
    else none
   else
    some p.l:Int->Option (List (List UInt8)))=some (p.l++pu1 d):=by
  rw[UA _ _ (by omega),hd];simp only[Ah];unfold pu1;by_cases hi:d.l.findIdx (1==·)<4
  ·rw[Apb hi,Apb hi,Apb (by simp),Apb (Au (by exact hi)),Apk,Gy _ _ (by simp;omega)];simp only[Ah,Bp]
  rw[Apd hi,Apd hi,Apd (by simp)];simp
 rw[e1];simp only[Ah];have hl1:(pu1 d).length<=1:=by unfold pu1;split<;>simp
 rw[UA _ _ (by omega),hd];simp only[Ah];unfold pu pu2;by_cases hi:d.l.findIdx ((-1)==·)<4
 ·rw[Apb hi,Apb hi,Apb (by simp),Apb (Au (by exact hi)),Apk,Gy _ _ (by simp only[Apc,Api,Apy];omega)];simp only[Ah,Bp,Ap6];rfl
 rw[Apd hi,Apd hi,Apd (by simp)];simp
def tg(op:Int):Int:=if op=3 then 1 else if op=4 then 1 else if op=5 then 2 else 3
theorem X5(op:Int):E8 op=some (tg op):=by
 unfold E8 tg;by_cases h3:op=3
 ·subst h3;rfl
 by_cases h4:op=4
 ·subst h4;rfl
 by_cases h5:op=5
 ·subst h5;rfl
 simp[h3,h4,h5]
def X2:List (List UInt8):=[[44],[41]]
def Xw:List (List UInt8):=[[60],[44],[44],[41]]
def Acu:List (List UInt8):=[[43],[45],[42]]
def NJ(f:AoT->List (List UInt8))(l:List AoT)(s:List (List UInt8)):Nat->List (List UInt8)
 |0=>[]
 |k+1=>NJ f l s k++(f (nth l k)++[nth s k])
def Afj(f:AoT->List (List UInt8))(x:AoT)(least:Int):List (List UInt8):=if least<=tg x.Op then f x else[40]::(f x++[[41]])
def pw:Nat->AoT->List (List UInt8)
 |0,_=>[]
 |d+1,x=>
  if x.Op=1 then Lib.itoa x.N::pu x.Unit
  else if x.Op=2 then[nth w_attributes x.N.toNat]
  else if x.Op=11 then[105,102]::[40]::NJ (pw d) x.L Xw 4
  else if x.Op=3\/x.Op=4\/x.Op=5 then Afj (pw d) (nth x.L 0) (tg x.Op)++(nth Acu (x.Op-3).toNat::Afj (pw d) (nth x.L 1) (tg x.Op+1))
  else nth w_calls (x.Op-6).toNat::[40]::NJ (pw d) x.L X2 2
theorem LU{f:AoT->List (List UInt8)}{g:AoT->Nat}{l:List AoT}{s:List (List UInt8)}:∀k,k<=l.length->(∀y∈l,(f y).length<=8*g y)->(NJ f l s k).length<=8*((l.take k).map g).sum+k
 |0,_,_=>by simp[NJ]
 |k+1,hk,h=>by
  have hk':k<l.length:=hk;have ih:=LU (s:=s) k (by omega) h;rw[ApD hk',AqU,Ar9];simp only[NJ,Apc,ApL,Aqr,AqJ,List.sum_nil,Api,Apy];have:=h _ (AL hk');rw[B6 hk']at this ⊢;omega
theorem Sg{f:AoT->List (List UInt8)}{x:AoT}{n:Int}:(Afj f x n).length<=(f x).length+2:=by
 unfold Afj;split<;>simp
theorem AmR{g:AoT->Nat}{l:List AoT}(h:l.length=2):(l.map g).sum=g (nth l 0)+g (nth l 1):=by
 match l,h with
 |[a,b],_=>simp[nth]
theorem P1:∀(d:Nat) (x:AoT),Mb d x->(pw d x).length<=8*nod d x
 |0,_,h=>h.elim
 | d+1,x,h=>by
  obtain⟨h1,h2,h3,h4,h5,h6,h7,h8⟩:=h;have ih:∀y∈x.L,(pw d y).length<=8*nod d y:=fun y hy=>P1 d y (h8 y hy)
  show(pw (d+1) x).length<=8*(1+(x.L.map (nod d)).sum);unfold pw;by_cases c1:x.Op=1
  ·rw[Apb c1];have:=Ajr x.Unit;simp only[Api];omega
  rw[Apd c1];by_cases c2:x.Op=2
  ·rw[Apb c2];simp only[Api,Apy];omega
  rw[Apd c2];by_cases c3:x.Op=11
  ·rw[Apb c3];rw[Apd c1,Apd c2,Apb c3]at h5;have:=LU (s:=Xw) (l:=x.L) 4 (by omega) ih;rw[ApW (by omega)]at this;simp only[Api];omega
  rw[Apd c3];rw[Apd c1,Apd c2,Apd c3]at h5;have hl:x.L.length=2:=by omega
  by_cases c4:x.Op=3\/x.Op=4\/x.Op=5
  ·rw[Apb c4];have e:=AmR (g:=nod d) hl;have a:=ih _ (AL (show 0<x.L.length by omega));have b:=ih _ (AL (show 1<x.L.length by omega));have p1:=Sg (f:=pw d) (x:=nth x.L 0) (n:=tg x.Op);have p2:=Sg (f:=pw d) (x:=nth x.L 1) (n:=tg x.Op+1);simp only[Api,Apc];omega
  rw[Apd c4];have:=LU (s:=X2) (l:=x.L) 2 (by omega) ih;rw[ApW (by omega)]at this;simp only[Api];omega
def SP(d:Nat)(rec_:Ao2->AoT->Option Ao2):Prop:=∀(p:Ao2) (x:AoT),Mb d x->p.l.length+8*nod d x<=1900000000->rec_ p x=some ⟨p.l++pw d x⟩
theorem SX{d:Nat}{rec_:Ao2->AoT->Option Ao2}(hr:SP d rec_)(name:List UInt8)(signs:List (List UInt8))(p:Ao2)(x:AoT)(hl:x.L.length=signs.length)(h4:signs.length<=4)(hf:∀y∈x.L,Mb d y) (hp:p.l.length+8*(1+(x.L.map (nod d)).sum)<=1900000000):BV rec_ name signs p x=some ⟨p.l++(name::[40]::NJ (pw d) x.L signs signs.length)⟩:=by
 unfold BV;rw[Gy _ _ (by simp;omega)];simp only[Ah,Bp];have:=Mx signs.length (fun(v:Int×List (List UInt8))=>Bz rec_ signs x v.1 v.2) (fun i l=>(i,l)) (fun k=>(p.l++[name,[40]])++NJ (pw d) x.L signs k) (fun l=>l) (by omega) (fun k hk=>?_) ?_
 ·have e:(p.l++[name,[40]])++NJ (pw d) x.L signs 0=p.l++[name,[40]]:=by simp[NJ]
  rw[e]at this;rw[this];simp
 ·have hk':k<x.L.length:=by omega
  have hb:=LU (f:=pw d) (g:=nod d) (s:=signs) (l:=x.L) k (by omega) fun y hy=>P1 d y (hf y hy)
  have hs:((x.L.take k).map (nod d)).sum+nod d (nth x.L k)<=(x.L.map (nod d)).sum:=by
   conv=>rhs;rw[<-Aqm k x.L]
   rw[AqU,Ar9,Aqc hk',ApL,AqJ,B6 hk'];omega
  unfold Bz;simp only;rw[Apb (by simpa using hk),Apb (Au hk),Bp,Apb (Au hk')];simp only[Apk];rw[hr _ _ (hf _ (AL hk')) (by simp only[Apc,Api,Apy];omega)];simp only[Ah,Bp];have hw:=P1 d _ (hf _ (AL hk'));rw[Gy _ _ (by simp only[Apc,Api,Apy];omega)];simp only[Ah,Bp];rw[Bq (by omega)];simp[NJ]
 unfold Bz;simp only;rw[Apd (by simp)]
theorem Xj{d:Nat}{rec_:Ao2->AoT->Option Ao2}(hr:SP d rec_)(p:Ao2)(x:AoT)(least:Int)(hf:Mb d x)(hp:p.l.length+8*nod d x+2<=1900000000):BI rec_ p x least=some ⟨p.l++Afj (pw d) x least⟩:=by
 unfold BI Afj;rw[X5];simp only[Ah];by_cases h:least<=tg x.Op
 ·rw[Apb (by simpa using h),Apb h,hr _ _ hf (by omega)];simp only[Ah,Bp]
 have hw:=P1 d x hf;rw[Apd (by simpa using h),Apd h,Gy _ _ (by simp;omega)];simp only[Ah,Bp];rw[hr _ _ hf (by simp only[Apc,Api,Apy];omega)];simp only[Ah,Bp];rw[Gy _ _ (by simp only[Apc,Api,Apy];omega)];simp only[Ah,Bp];simp
theorem AhL{d:Nat}{rec_:Ao2->AoT->Option Ao2}(hr:SP d rec_):SP (d+1) (CF rec_):=by
 intro p x h hp;obtain⟨h1,h2,h3,h4,h5,h6,h7,h8⟩:=h;have hp':p.l.length+8*(1+(x.L.map (nod d)).sum)<=1900000000:=hp;unfold CF pw;by_cases c1:x.Op=1
 ·rw[Apb (by simpa using c1),Apb c1];rw[Apb c1]at h4;rw[Xs _ _ (by omega) h3 h4];simp only[Ah,Bp];rw[Aec _ _ (by simp;omega)];simp only[Ah,Bp];simp
 rw[Apd (by simpa using c1),Apd c1];rw[Apd c1]at h4 h5;by_cases c2:x.Op=2
 ·rw[Apb (by simpa using c2),Apb c2,Ii];rw[Apb c2]at h4;simp only[Ah];rw[Apb ⟨h3,by have:(w_attributes.length:Int)=16:=rfl;omega⟩,Gy _ _ (by simp;omega)];simp only[Ah,Bp]
 rw[Apd (by simpa using c2),Apd c2];rw[Apd c2]at h4 h5;by_cases c3:x.Op=11
 ·rw[Apb (by simpa using c3),Apb c3];rw[Apb c3]at h5;have:=SX hr [105,102] Xw p x (by show _=4;omega) (by decide) h8 hp';rw[show([([60]:List UInt8),([44]:List UInt8),([44]:List UInt8),([41]:List UInt8)]:List (List UInt8))=Xw from rfl,this];simp only[Ah,Bp];rfl
 rw[Apd (by simpa using c3),Apd c3];rw[Apd c3]at h5;have hl:x.L.length=2:=by omega
 have ht:(if(x.Op==3)then some ((x.Op==3))else if(x.Op==4)then some ((x.Op==4))else some ((x.Op==5)):Option Bool)=some (decide (x.Op=3\/x.Op=4\/x.Op=5)):=by
  by_cases a3:x.Op=3
  ·simp[a3]
  by_cases a4:x.Op=4
  ·simp[a4]
  simp[a3,a4];rfl
 rw[ht];simp only[Ah,Apw];by_cases c4:x.Op=3\/x.Op=4\/x.Op=5
 ·rw[Apb c4,Apb c4];have e:=AmR (g:=nod d) hl;have m0:=AL (show 0<x.L.length by omega);have m1:=AL (show 1<x.L.length by omega);have a:=P1 d _ (h8 _ m0);have p1:=Sg (f:=pw d) (x:=nth x.L 0) (n:=tg x.Op);have hw:w64 (x.Op-3)=x.Op-3:=Hn (by omega);have ht1:1<=tg x.Op/\tg x.Op<=3:=by unfold tg;split<;>(try split)<;>(try split)<;>decide
  have hw2:w64 (tg x.Op+1)=tg x.Op+1:=Hn (by omega);rw[Apb (show InR 0 x.L.length from Au (k:=0) (by omega)),X5];simp only[Ah];rw[Xj hr _ _ _ (h8 _ m0) (by omega)];simp only[Ah,Bp];rw[hw,Apb (show InR (x.Op-3) ([[43],[45],[42]]:List (List UInt8)).length from⟨by omega,by show(x.Op-3).toNat<3;omega⟩),Gy _ _ (by simp only[Apc,Api,Apy];omega)];simp only[Ah,Bp];rw[Apb (show InR 1 x.L.length from Au (k:=1) (by omega)),hw2,Xj hr _ _ _ (h8 _ m1) (by simp only[Apc,Api,Apy];omega)];simp only[Ah,Bp];simp[Acu]
 rw[Apd c4,Apd c4,Aa7];simp only[Ah];have hw:w64 (x.Op-6)=x.Op-6:=Hn (by omega);have hwl:w_calls.length=5:=rfl;rw[hw,Apb (show InR (x.Op-6) w_calls.length from⟨by omega,by rw[hwl];omega⟩)];have:=SX hr (nth w_calls (x.Op-6).toNat) X2 p x (by show _=2;omega) (by decide) h8 hp';rw[show([([44]:List UInt8),([41]:List UInt8)]:List (List UInt8))=X2 from rfl,this];simp only[Ah,Bp];rfl
theorem Aan:∀d n,d<=n->SP d (DB n)
 |0,_,_=>fun p x h _=>h.elim
 |d+1,0,h=>by omega
 |d+1,n+1,h=>AhL (Aan d n (by omega))
theorem Aep(p:Ao2)(x:AoT)(h:Mb 900000 x)(hz:nod 900000 x<=900000)(hp:p.l.length<=1800000000):FM p x=some ⟨p.l++pw 900000 x⟩:=Aan 900000 _ (by omega) p x h (by omega)
def heads2:List (List UInt8):=[[119,104,101,110],[97,110,100]]
def Yo(k:Nat)(t:AoR):List (List UInt8):=nth heads2 (min k 1)::nth w_attributes t.Attr.toNat::(if t.Low=t.Zc then[[105,115],Lib.itoa t.Low]else[[105,110],Lib.itoa t.Low,[46,46],Lib.itoa t.Zc])
def Lg(l:List AoR):Nat->List (List UInt8)
 |0=>[]
 |k+1=>Lg l k++Yo k (nth l k)
def cw(c:AoU):List (List UInt8):=[99,108,97,117,115,101]::c.Zd::(Lg c.Ze c.Ze.length++([112,97,121]::(pw 900000 c.Pay++[[59]])))
theorem AaW{k:Nat}{t:AoR}:(Yo k t).length<=6:=by unfold Yo;simp only[Api];split<;>simp
theorem Kx{l:List AoR}:∀k,(Lg l k).length<=6*k
 |0=>Apm _
 |k+1=>by
  have:=Kx (l:=l) k;have:=AaW (k:=k) (t:=nth l k);simp only[Lg,Apc];omega
theorem Ai0{c:AoU}(h:OkC c)(hz:nod 900000 c.Pay<=900000):(cw c).length<=7200060:=by
 have h1:=P1 _ _ h.pay;have h2:=Kx (l:=c.Ze) c.Ze.length;have h3:=h.few;simp only[cw,Api,Apc,Apy];omega
theorem Yd(p:Ao2)(c:AoU)(h:OkC c)(hz:nod 900000 c.Pay<=900000)(hp:p.l.length<=1000000000):CA p c=some ⟨p.l++cw c⟩:=by
 have hfew:=h.few;unfold CA;rw[Gy _ _ (by simp;omega)];simp only[Ah,Bp];have:=Mx c.Ze.length (fun(v:Int×List (List UInt8))=>B0 c v.1 v.2) (fun i l=>(i,l)) (fun k=>(p.l++[[99,108,97,117,115,101],c.Zd])++Lg c.Ze k) (fun l=>l) (by omega) (fun k hk=>?_) ?_
 ·have e:(p.l++[[99,108,97,117,115,101],c.Zd])++Lg c.Ze 0=p.l++[[99,108,97,117,115,101],c.Zd]:=by simp[Lg]
  rw[e]at this;rw[this];simp only[Ah];have hl:=Kx (l:=c.Ze) c.Ze.length;rw[Gy _ _ (by simp only[Apc,Api,Apy];omega)];simp only[Ah,Bp];rw[Aep _ _ h.pay hz (by simp only[Apc,Api,Apy];omega)];simp only[Ah,Bp];have hw:=P1 _ _ h.pay;rw[Gy _ _ (by simp only[Apc,Api,Apy];omega)];simp only[Ah,Bp];simp[cw]
 ·have hb:=Kx (l:=c.Ze) k;obtain⟨⟨a1,a2⟩,⟨b1,b2⟩,b3,b4⟩:=h.tests _ (AL hk);have hm:Qc (k:Int) 1=((min k 1:Nat):Int):=by unfold Qc;split<;>omega
  have hs:([([119,104,101,110]:List UInt8),([97,110,100]:List UInt8)]:List (List UInt8))=heads2:=rfl;have hwl:w_attributes.length=16:=rfl;unfold B0;simp only;rw[Apb (by simpa using hk),Apb (Au hk)];simp only[Apk,Bp];rw[hm,hs,Apb (show InR ((min k 1:Nat):Int) heads2.length from Au (by show _<2;omega)),Ii];simp only[Ah];rw[Apb (show InR (nth c.Ze k).Attr w_attributes.length from⟨a1,by rw[hwl];omega⟩),Gy _ _ (by simp only[Apc,Api,Apy];omega)];simp only[Ah,Apk];by_cases e:(nth c.Ze k).Low=(nth c.Ze k).Zc
  ·rw[Apb (by simpa using e),Gy _ _ (by simp only[Apc,Api,Apy];omega)];simp only[Ah];rw[Xs _ _ (by simp only[Apc,Api,Apy];omega) b1 b3];simp only[Ah];rw[Bq (by omega)];simp only[Lg,Yo,Apb e,Ap6,Apv,ApR]
  rw[Apd (by simpa using e),Gy _ _ (by simp only[Apc,Api,Apy];omega)];simp only[Ah];rw[Xs _ _ (by simp only[Apc,Api,Apy];omega) b1 b3];simp only[Ah];rw[Gy _ _ (by simp only[Apc,Api,Apy];omega)];simp only[Ah];rw[Xs _ _ (by simp only[Apc,Api,Apy];omega) b2 b4];simp only[Ah];rw[Bq (by omega)];simp only[Lg,Yo,Apd e,Ap6,Apv,ApR]
 unfold B0;simp only;rw[Apd (by simp)]
def cws(l:List AoU):Nat->List (List UInt8)
 |0=>[]
 |k+1=>cws l k++cw (nth l k)
def tw(t:AoV):List (List UInt8):=[116,97,114,105,102,102]::t.Zd::[102,111,114]::nth w_kinds (t.For-1).toNat::[123]::(cws t.Zf t.Zf.length++[[125]])
theorem UQ{l:List AoU}(h:∀c∈l,OkC c/\nod 900000 c.Pay<=900000):∀k,k<=l.length->(cws l k).length<=7200060*k
 |0,_=>Apm _
 |k+1,hk=>by
  have:=UQ h k (by omega);obtain⟨h1,h2⟩:=h _ (AL (show k<l.length by omega));have:=Ai0 h1 h2;simp only[cws,Apc];omega
def Sh(w:List UInt8):Prop:=w.length<=40
theorem Acn:∀(k u:Nat),u<10^(k+1)->(Lib.decDigits u).length<=k+1
 |0,u,h=>by rw[Lib.decDigits,dif_pos (by simpa using h)];simp
 | k+1,u,h=>by
  by_cases hu:u<10
  ·rw[Lib.decDigits,dif_pos hu];simp
  rw[Lib.decDigits,dif_neg hu,Apc];have:=Acn k (u/10) (by rw[Nat.pow_succ]at h;omega);simp only[ApO];omega
theorem AjH{n:Int}(h0:0<=n)(h1:n<=1099511627776):Sh (Lib.itoa n):=by
 unfold Sh Lib.itoa;rw[Apd (by omega)];have:=Acn 12 n.toNat (by omega);omega
theorem BR{P:List UInt8->Prop}{x:List UInt8}{l:List (List UInt8)}(h:P x)(k:∀w∈l,P w):∀w∈x::l,P w:=fun w hw=>by
 rcases Apx.1 hw with rfl|hw
 ·exact h
 exact k w hw
theorem La{P:List UInt8->Prop}{a b:List (List UInt8)}(h:∀w∈a,P w)(k:∀w∈b,P w):∀w∈a++b,P w:=fun w hw=>(Aps.1 hw).elim (h w) (k w)
theorem Ih{P:List UInt8->Prop}:∀w∈([]:List (List UInt8)),P w:=fun w hw=>by cases hw
structure WordP(P:List UInt8->Prop):Prop where
  num:∀n:Int,0<=n->n<=1099511627776->P (Lib.itoa n)
  un:∀w∈w_units,P w
  at_:∀w∈w_attributes,P w
  call:∀w∈w_calls,P w
  kind:∀w∈w_kinds,P w
  lit:∀w∈([[112,101,114],[105,102],[40],[41],[44],[60],[43],[45],[42],[119,104,101,110],[97,110,100],[105,115],[105,110],[46,46],[99,108,97,117,115,101],[112,97,121],[59],[116,97,114,105,102,102],[102,111,114],[123],[125]]:List (List UInt8)),P w
  word:∀w,Afr w->P w
variable {P:List UInt8->Prop}
theorem Alt(hP:WordP P)(d:Arr Int 4):∀w∈pu d,P w:=by
 unfold pu pu1 pu2;refine La ?_ ?_
 ·split
  ·exact BR (hP.un _ (AL (by assumption))) Ih
  exact Ih
 split
 ·exact BR (hP.lit _ (by simp[per])) (BR (hP.un _ (AL (by assumption))) Ih)
 exact Ih
theorem Px{f:AoT->List (List UInt8)}{l:List AoT}{s:List (List UInt8)}(hs:∀w∈s,P w)(hf:∀y∈l,∀w∈f y,P w):∀k,k<=l.length->k<=s.length->∀w∈NJ f l s k,P w
 |0,_,_=>Ih
 |k+1,h1,h2=>La (Px hs hf k (by omega) (by omega)) (La (hf _ (AL (by omega))) (BR (hs _ (AL (by omega))) Ih))
theorem XG(hP:WordP P){f:AoT->List (List UInt8)}{x:AoT}{n:Int}(h:∀w∈f x,P w):∀w∈Afj f x n,P w:=by
 unfold Afj;split
 ·exact h
 exact BR (hP.lit _ (by simp)) (La h (BR (hP.lit _ (by simp)) Ih))
theorem Afu(hP:WordP P):∀(d:Nat) (x:AoT),Mb d x->∀w∈pw d x,P w
 |0,_,h=>h.elim
 | d+1,x,h=>by
  obtain⟨h1,h2,h3,h4,h5,h6,h7,h8⟩:=h;have ih:∀y∈x.L,∀w∈pw d y,P w:=fun y hy=>Afu hP d y (h8 y hy)
  unfold pw;by_cases c1:x.Op=1
  ·rw[Apb c1];rw[Apb c1]at h4;exact BR (hP.num _ h3 h4) (Alt hP _)
  rw[Apd c1];rw[Apd c1]at h4 h5;by_cases c2:x.Op=2
  ·rw[Apb c2];rw[Apb c2]at h4;exact BR (hP.at_ _ (AL (by show _<16;omega))) Ih
  rw[Apd c2];rw[Apd c2]at h4 h5;by_cases c3:x.Op=11
  ·rw[Apb c3];rw[Apb c3]at h5;refine BR (hP.lit _ (by simp)) (BR (hP.lit _ (by simp)) (Px (fun w hw=>hP.lit w ?_) ih 4 (by omega) (by decide)));revert w;decide
  rw[Apd c3];rw[Apd c3]at h5;have hl:x.L.length=2:=by omega
  by_cases c4:x.Op=3\/x.Op=4\/x.Op=5
  ·rw[Apb c4];refine La (XG hP (ih _ (AL (by omega)))) (BR (hP.lit _ ?_) (XG hP (ih _ (AL (by omega)))));have:∀w∈Acu,w∈([[112,101,114],[105,102],[40],[41],[44],[60],[43],[45],[42],[119,104,101,110],[97,110,100],[105,115],[105,110],[46,46],[99,108,97,117,115,101],[112,97,121],[59],[116,97,114,105,102,102],[102,111,114],[123],[125]]:List (List UInt8)):=by decide
   exact this _ (AL (by show _<3;omega))
  rw[Apd c4];refine BR (hP.call _ (AL (by show _<5;omega))) (BR (hP.lit _ (by simp)) (Px (fun w hw=>hP.lit w ?_) ih 2 (by omega) (by decide)));revert w;decide
theorem Aih(hP:WordP P){c:AoU}(h:OkC c):∀w∈cw c,P w:=by
 unfold cw;refine BR (hP.lit _ (by simp)) (BR (hP.word _ h.word) (La ?_ (BR (hP.lit _ (by simp)) (La (Afu hP _ _ h.pay) (BR (hP.lit _ (by simp)) Ih)))))
 have key:∀k,k<=c.Ze.length->∀w∈Lg c.Ze k,P w:=by
  intro k
  induction k with
  |zero=>exact fun _=>Ih
  | succ k ih=>
   intro hk;obtain⟨⟨a1,a2⟩,⟨b1,b2⟩,b3,b4⟩:=h.tests _ (AL (show k<c.Ze.length by omega));refine La (ih (by omega)) ?_;unfold Yo
   have hh:∀i:Nat,nth heads2 (min i 1)=[119,104,101,110]\/nth heads2 (min i 1)=[97,110,100]:=by
    intro i;rcases(show min i 1=0\/min i 1=1 by omega)with e|e<;>rw[e]
    ·exact .inl rfl
    exact .inr rfl
   refine BR ?_ (BR (hP.at_ _ (AL (by show _<16;omega))) ?_)
   ·rcases hh k with e|e<;>rw[e]<;>exact hP.lit _ (by simp)
   split
   ·exact BR (hP.lit _ (by simp)) (BR (hP.num _ b1 b3) Ih)
   exact BR (hP.lit _ (by simp)) (BR (hP.num _ b1 b3) (BR (hP.lit _ (by simp)) (BR (hP.num _ b2 b4) Ih)))
 exact key _ (Apm _)
theorem AgC(hP:WordP P){t:AoV}(h:OkT t):∀w∈tw t,P w:=by
 obtain⟨k1,k2⟩:=h.kind;unfold tw;refine BR (hP.lit _ (by simp)) (BR (hP.word _ h.word) (BR (hP.lit _ (by simp)) (BR (hP.kind _ (AL (by show _<6;omega))) (BR (hP.lit _ (by simp)) (La ?_ (BR (hP.lit _ (by simp)) Ih))))))
 have key:∀k,k<=t.Zf.length->∀w∈cws t.Zf k,P w:=by
  intro k
  induction k with
  |zero=>exact fun _=>Ih
  |succ k ih=>exact fun hk=>La (ih (by omega)) (Aih hP (h.all _ (AL (by omega))))
 exact key _ (Apm _)
theorem AdE:WordP Sh where
 num:=fun n h0 h1=>AjH h0 h1
 un:=by unfold Sh;decide
 at_:=by unfold Sh;decide
 call:=by unfold Sh;decide
 kind:=by unfold Sh;decide
 lit:=by unfold Sh;decide
 word:=fun w h=>by have:=h.1;unfold Sh;omega
theorem Ad7{l:List (List UInt8)}(h:∀w∈l,Sh w):(Lib.join l [32]).length<=41*l.length:=by
 have key:∀l:List (List UInt8),(∀w∈l,Sh w)->Lib.lens l<=40*l.length:=by
  intro l
  induction l with
  |nil=>intro _;simp[Lib.lens]
  |cons x l ih=>
   intro h;have h1:=ih fun w hw=>h w (ApP _ hw)
   have h2:x.length<=40:=h x Apu;simp only[Lib.lens,ApL,AqJ,Api]at h1 ⊢;omega
 cases l with
 |nil=>simp[Lib.join_nil]
 |cons x l=>
  rw[Lib.join_cons,Apc,Lib.joinTail_length];have h1:=key l fun w hw=>h w (ApP _ hw)
  have h2:x.length<=40:=h x Apu;simp only[Api,Apy];omega
def pr(t:AoV):List UInt8:=Lib.join (tw t) [32]
theorem Aeb{t:AoV}{n:Nat}(hz:Tz n t)(h:OkT t)(hc:Da t=some 0):DY t=some (if 2000<(pr t).length then([],2)else(pr t,0)):=by
 obtain⟨k1,k2⟩:=h.kind;have hfew:=h.few;have hall:∀c∈t.Zf,OkC c/\nod 900000 c.Pay<=900000:=fun c hc=>⟨h.all c hc,(hz.2 c hc).2.2⟩
 have hkl:w_kinds.length=6:=rfl;unfold DY;rw[hc];simp only[Ah];rw[Apd (by decide),ZU];simp only[Ah];have hw:w64 (t.For-1)=t.For-1:=Hn (by omega);rw[hw,Apb (show InR (t.For-1) w_kinds.length from⟨by omega,by rw[hkl];omega⟩),Gy _ _ (by simp)];simp only[Ah,Bp];have:=Mx t.Zf.length (fun(v:Int×List (List UInt8))=>DS t v.1 v.2) (fun i l=>(i,l)) (fun k=>[[116,97,114,105,102,102],t.Zd,[102,111,114],nth w_kinds (t.For-1).toNat,[123]]++cws t.Zf k) (fun l=>l) (by omega) (fun k hk=>?_) ?_
 ·have e:[[116,97,114,105,102,102],t.Zd,[102,111,114],nth w_kinds (t.For-1).toNat,[123]]++cws t.Zf 0=[]++[[116,97,114,105,102,102],t.Zd,[102,111,114],nth w_kinds (t.For-1).toNat,[123]]:=by simp[cws]
  rw[e]at this;rw[this];simp only[Ah];have hl:=UQ hall t.Zf.length (Apm _);rw[Gy _ _ (by simp only[Apc,Api,Apy];omega)];simp only[Ah,Bp];have et:[[116,97,114,105,102,102],t.Zd,[102,111,114],nth w_kinds (t.For-1).toNat,[123]]++cws t.Zf t.Zf.length++[[125]]=tw t:=by simp[tw]
  rw[et];have hj:=Ad7 (AgC AdE h);have hl2:(tw t).length<=500000000:=by rw[<-et];simp only[Apc,Api,Apy];omega
  unfold JR Ac3;rw[Apb ⟨by omega,by omega⟩];simp only[Ah];show(if decide (((pr t).length:Int)>2000)=true then _ else _)=_;by_cases hb:2000<(pr t).length
  ·rw[Apb (by simp only[Apw];omega),Apb hb]
  rw[Apd (by simp only[Apw];omega),Apd hb];rfl
 ·obtain⟨o1,o2⟩:=hall _ (AL hk);have hb:=UQ hall k (by omega);unfold DS;simp only;rw[Apb (by simpa using hk),Apb (Au hk)];simp only[Apk,Bp,Hp];rw[Yd _ _ o1 o2 (by simp only[Apc,Api,Apy];omega)];simp only[Ah];rw[Bq (by omega)];simp[cws]
 unfold DS;simp only;rw[Apd (by simp)]
theorem Z4{t:AoV}{n:Nat}(hz:Tz n t)(hn:n<1000000):TP (DY t) fun y=>y.2=0->Da t=some 0/\OkT t/\y.1=pr t/\(pr t).length<=2000:=by
 obtain⟨e,he,hk⟩:=Lq t hz hn;by_cases h0:e=0
 ·subst h0;rw[Aeb hz (hk rfl) he];refine Aj ?_;by_cases hb:2000<(pr t).length
  ·rw[Apb hb];intro h;cases h
  rw[Apd hb];exact fun _=>⟨he,hk rfl,rfl,by omega⟩
 unfold DY;rw[he];simp only[Ah];rw[Apb (by simpa using h0)];exact Aj fun h=>absurd h h0
def Qz:Jp:=(ttype_rules).getD no2
theorem AdO:ttype_rules=some Qz:=rfl
theorem Ahm{op:Int}(h1:3<=op)(h2:op<=11):(op=11/\((Qz op).getD ⟨0,0⟩).k=120)\/(op≠11/\(((Qz op).getD ⟨0,0⟩).k=119\/((Qz op).getD ⟨0,0⟩).k=165)):=by
 rcases(show op=3\/op=4\/op=5\/op=6\/op=7\/op=8\/op=9\/op=10\/op=11 by omega)with rfl|rfl|rfl|rfl|rfl|rfl|rfl|rfl|rfl<;>decide +kernel
theorem VG(l:List (Arr Int 4))(p:Int)(hl:2<=l.length):YH (Gk l p):=by
 unfold Gk
 refine AC (Q:=fun _=>True) (AC (Q:=fun z=>match z with
  |.inr (.inl _)=>False
  |_=>True) ?_ fun z hz=>?_) fun z _=>?_
 ·refine AQ (fun v=>∃k:Nat,v.1=(k:Int)/\k<=4) (fun v=>(4-v.1).toNat) ?_ ⟨0,rfl,Apz _⟩ (by simp);rintro⟨_,f⟩ ⟨k,rfl,hk⟩;unfold FF;refine AA (fun h=>?_) fun _=>Aj trivial
  have hk':k<4:=by simp only[Apw]at h;omega
  refine Dx (Au (k:=0) (by omega)) (Dx (Au hk') (Dx (Au (k:=1) (by omega)) (Dx (Au hk') (Dx (Au hk') (A8 ?_)))));refine AC (Q:=fun _=>True) (Dx (Au hk') (AA (fun _=>Aj trivial) fun _=>Dx (Au hk') (Aj trivial))) fun b _=>AA (fun _=>A8 (Aj trivial)) fun _=>Aj ⟨⟨k+1,Bq (by omega),hk'⟩,by simp only;rw[Bq (by omega)];omega⟩
 ·match z,hz with
  |.inl f,_=>exact Aj trivial
  |.inr (.inr z),_=>exact Aj trivial
 match z with
 |.inl f=>exact Aj trivial
 |.inr z=>exact Aj trivial
theorem Lb:∀(d:Nat) (x:AoT) (n:Nat),Mb d x->d<=n->YH (GU n Qz x)
 |0,x,n,h,_=>h.elim
 |d+1,x,0,_,h=>by omega
 | d + 1,x,n+1,h,hn=>by
  obtain⟨h1,h2,h3,h4,h5,h6,h7,h8⟩:=h;show YH (Hc (GU n) Qz x);unfold Hc;refine AA (fun _=>Aj trivial) fun c1=>AA (fun c2=>?_) fun c2=>?_
  ·have c1':x.Op≠1:=by simpa using c1
   have c2':x.Op=2:=by simpa using c2
   rw[Apd c1',Apb c2']at h4;refine AC (Q:=fun _=>True) ?_ fun y _=>Dx ⟨h3,by omega⟩ (A8 (Aj trivial))
   unfold ttype_attributes;exact A8 (A8 (A8 (A8 (Aj trivial))))
  have c1':x.Op≠1:=by simpa using c1
  have c2':x.Op≠2:=by simpa using c2
  rw[Apd c1',Apd c2']at h5;have h4':x.L.length<=4:=by split at h5<;>omega
  refine AC (Q:=fun z=>match z with
   |.inl l=>l.length=x.L.length
   |.inr _=>True) (AC (Q:=fun z=>match z with
   |.inl l=>l.length=x.L.length
   |.inr (.inl _)=>False
   |.inr (.inr _)=>True) ?_ fun z hz=>?_) fun z hz=>?_
  ·refine AQ (fun v=>∃k:Nat,v.1=(k:Int)/\k<=x.L.length/\v.2.length=k) (fun v=>((x.L.length:Int)-v.1).toNat) ?_ ⟨0,rfl,Apz _,rfl⟩ (by simp;omega);rintro⟨_,l⟩ ⟨k,rfl,hk,hl⟩;simp only at hl;unfold Hs;refine AA (fun h=>?_) fun h=>Aj ?_
   ·have hk':k<x.L.length:=by simpa using h
    refine Dx (Au hk') (A8 (A8 (A8 (A8 ?_))));simp only[Apk,Hp];refine Aia (Lb d _ n (h8 _ (AL hk')) (by omega)) fun y=>AA (fun _=>A8 (Aj trivial)) fun _=>Dx (Pg (by omega) (by decide)) (A8 (Aj ⟨⟨k+1,Bq (by omega),hk',by simp only[Apc,ApO];omega⟩,by simp only;rw[Bq (by omega)];omega⟩))
   simp only[Apw]at h;show l.length=_;omega
  ·match z,hz with
   |.inl l,hz=>exact Aj hz
   |.inr (.inr z),_=>exact Aj trivial
  match z,hz with
  |.inr z,_=>exact Aj trivial
  | .inl l,hz=>
   have hz':l.length=x.L.length:=hz;rcases Ahm (op:=x.Op) (by omega) h2 with⟨e,hr⟩|⟨e,hr|hr⟩
   ·rw[Apb e]at h5;simp only[hr];refine AA (fun h=>by cases h) fun _=>AA (fun _=>?_) fun h=>absurd trivial h
    refine AC (Q:=fun _=>True) ?_ fun y _=>AA (fun _=>A8 (Aj trivial)) fun _=>Aj trivial
    unfold Hy;exact AC (Q:=fun _=>True) (Dx (Au (k:=2) (by omega)) (Dx (Au (k:=0) (by omega)) (Dx (Au (k:=1) (by omega)) (AA (fun _=>Dx (Au (k:=2) (by omega)) (Dx (Au (k:=3) (by omega)) (Aj trivial))) fun _=>Aj trivial)))) fun _ _=>Aj trivial
   ·rw[Apd e]at h5;simp only[hr];refine AA (fun _=>?_) fun h=>absurd trivial h
    refine AC (Q:=fun _=>True) ?_ fun y _=>AA (fun _=>A8 (Aj trivial)) fun _=>Aj trivial
    unfold Ht;exact Dx (Au (k:=0) (by omega)) (Dx (Au (k:=0) (by omega)) (Dx (Au (k:=1) (by omega)) (Aj trivial)))
   rw[Apd e]at h5;simp only[hr];refine AA (fun h=>by cases h) fun _=>AA (fun h=>by cases h) fun _=>AA (fun _=>?_) fun h=>absurd trivial h
   exact AC (VG l _ (by omega)) fun y _=>AA (fun _=>A8 (Aj trivial)) fun _=>Aj trivial
theorem Aah{t:AoV}{n:Nat}(hz:Tz n t)(hn:n<1000000):YH (H8 t):=by
 obtain⟨e,he,hk⟩:=Lq t hz hn;unfold H8;rw[he];simp only[Ah];refine AA (fun _=>Aj trivial) fun h0=>?_
 have hok:=hk (by simpa using h0);have hl:=hok.few;rw[AdO];simp only[Ah]
 refine AC (Q:=fun _=>True) (AC (Q:=fun z=>match z with
  |.inr (.inl _)=>False
  |_=>True) ?_ fun z hz=>?_) fun z _=>?_
 ·refine AQ (fun v=>∃k:Nat,v=(k:Int)/\k<=t.Zf.length) (fun v=>((t.Zf.length:Int)-v).toNat) ?_ ⟨0,rfl,Apz _⟩ (by simp;omega);rintro _ ⟨k,rfl,hk⟩;unfold GK;refine AA (fun h=>?_) fun h=>Aj trivial
  have hk':k<t.Zf.length:=by simpa using h
  refine Dx (Au hk') (A8 (A8 (A8 (A8 (A8 (A8 ?_))))));simp only[Apk,Hp];refine Aia (Lb 900000 _ _ (hok.all _ (AL hk')).pay (by omega)) fun y=>AC (Q:=fun _=>True) (AA (fun _=>Aj trivial) fun _=>Aj trivial) fun b _=>AA (fun _=>Aj trivial) fun _=>Aj ⟨⟨k+1,Bq (by omega),hk'⟩,by rw[Bq (by omega)];omega⟩
 ·match z,hz with
  |.inl _,_=>exact Aj trivial
  |.inr (.inr z),_=>exact Aj trivial
 match z with
 |.inl ()=>exact Aj trivial
 |.inr z=>exact Aj trivial
end Go.Proofs.YtldngkmkhfddpaaGreatDoor
