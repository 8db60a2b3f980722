/-
  Part 44.
-/
import Derived.Test.YtnfoiocigicdnaaGreatDoorYH40
import Derived.Test.YtnfoiocigicdnaaGreatDoorYH42
import Derived.Test.YtnfoiocigicdnaaGreatDoorYH43
import Derived.KernelRfl
namespace Go.Proofs.YtnfoiocigicdnaaGreatDoor
open Go.Rv
set_option linter.unusedVariables false
set_option linter.unusedSimpArgs false
set_option maxRecDepth 20000
set_option maxHeartbeats 4000000
theorem O2 {a b r} (h : Kq a b = some r) : Con B 73 [.sl false (L Ad a),.sl false (L Ad b)] [] (fun r' σ' => r' = .bool r∧σ' = []):=by
 refine Cw 26 [.tmp 4] Tryz.func73 (fun F hE => ?_) h
 unfold Kq
 refine T0 [0,1] ?_
 refine Sq <|T0 [0,1,10] ?_
 refine Cd ?_ ?_
 ·refine T0 [4] ?_
  exact Sr <|Tr <|Rr
 ·refine Sk <|Tn <|?_
  refine Jo (fun _ => ⟨Au 26 [],[]⟩) ?_ ?_
  ·intro m f
   refine T0 [0,1,5] ?_
   refine Sb ?_
   refine Lo (fun c => ⟨Au 26 [(0,.sl false (L Ad a)),(1,.sl false (L Ad b)),(5,i64 c)],[]⟩) (ws []) ?_
   rintro c n g d e
   show Hr a b c = some g→_
   unfold Hr
   refine Sq <|T0 [0,1,5,14] ?_
   refine Cd ?_ ?_
   ·refine Sk <|Tn <|Sq <|Sb <|Ck fun i =>Ck fun j =>Lt fun k l =>De (fr':=[(0,_),(1,_),(5,_),(25,.bool k)]) [[],[],[0,1],[0,1,2],[],[],[4,5],[4,5,6],[0,1,2,3,4,5,6,7]] [0,1,5,25] Ac (Ev (by simp only [go_sem,qR i,qR j,l];exact Al)) ?_
    refine Cd ?_ ?_
    ·refine T0 [4] ?_
     exact Sr <|Br <|Tr <|Lr e d <|Br <|Jr f <|Rr
    ·refine Sk <|Bn <|Tn <|F0 [0,1,5] ?_
     exact Ln (ws [])
   ·refine Sx <|Tx <|Lx e d <|Bx <|?_
    exact Jn ((ws (l':=[]) (σ':=[]) []).trans (ws []))
  intro _
  refine T0 [4] ?_
  exact Sr <|Rr
theorem Jb {a b r} (h : N2 a b = some r) : Con B 25 [.agg [i64 a.Zb,i64 a.Ref.Za,i64 a.Ref.No,i64 a.Ze,i64 a.Zf,i64 a.Zg,i64 a.Zh,i64 a.Zi,i64 a.To,i64 a.Code,i64 a.Zj,i64 a.Zk,i64 a.Zl,i64 a.Zm,.str a.Zn,.sl false (L Ad a.Zo)],.agg [i64 b.Zb,i64 b.Ref.Za,i64 b.Ref.No,i64 b.Ze,i64 b.Zf,i64 b.Zg,i64 b.Zh,i64 b.Zi,i64 b.To,i64 b.Code,i64 b.Zj,i64 b.Zk,i64 b.Zl,i64 b.Zm,.str b.Zn,.sl false (L Ad b.Zo)]] [] (fun r' σ' => r' = .bool r∧σ' = []):=by
 refine Cw 45 [.tmp 4] Tryz.func25 (fun F hE => ?_) h
 unfold N2
 refine T0 [2,3] ?_
 refine Jo (fun _ => ⟨Au 45 [(2,.ref 0 0),(3,.ref 1 0)],[.box [i64 a.Zb,i64 a.Ref.Za,i64 a.Ref.No,i64 a.Ze,i64 a.Zf,i64 a.Zg,i64 a.Zh,i64 a.Zi,i64 a.To,i64 a.Code,i64 a.Zj,i64 a.Zk,i64 a.Zl,i64 a.Zm,.str a.Zn,.sl false (L Ad a.Zo)] false,.box [i64 b.Zb,i64 b.Ref.Za,i64 b.Ref.No,i64 b.Ze,i64 b.Zf,i64 b.Zg,i64 b.Zh,i64 b.Zi,i64 b.To,i64 b.Code,i64 b.Zj,i64 b.Zk,i64 b.Zl,i64 b.Zm,.str b.Zn,.sl false (L Ad b.Zo)] false]⟩) ?_ ?_
 ·intro u o
  refine T0 [2,3,5] ?_
  refine Sb ?_
  refine Lo (fun e => ⟨Au 45 [(2,.ref 0 0),(3,.ref 1 0),(5,i64 e)],[.box [i64 a.Zb,i64 a.Ref.Za,i64 a.Ref.No,i64 a.Ze,i64 a.Zf,i64 a.Zg,i64 a.Zh,i64 a.Zi,i64 a.To,i64 a.Code,i64 a.Zj,i64 a.Zk,i64 a.Zl,i64 a.Zm,.str a.Zn,.sl false (L Ad a.Zo)] false,.box [i64 b.Zb,i64 b.Ref.Za,i64 b.Ref.No,i64 b.Ze,i64 b.Zf,i64 b.Zg,i64 b.Zh,i64 b.Zi,i64 b.To,i64 b.Code,i64 b.Zj,i64 b.Zk,i64 b.Zl,i64 b.Zm,.str b.Zn,.sl false (L Ad b.Zo)] false]⟩) (ws [0,1]) ?_
  rintro e v p g i
  show Nm a b e = some p→_
  unfold Nm
  refine Sq <|T0 [2,3,5,7] ?_
  refine Cd ?_ ?_
  ·refine Sk <|Tn <|Sq <|Sb <|Ck fun j =>?_
   have k:=j;simp only [List.cons_append,List.nil_append,List.length_append,List.length_cons,List.length_nil,Nat.zero_add,Nat.reduceAdd] at k
   refine Bd fun w q =>Ck fun l =>?_
   have m:=l;simp only [List.cons_append,List.nil_append,List.length_append,List.length_cons,List.length_nil,Nat.zero_add,Nat.reduceAdd] at m
   refine Bd fun x s =>De [[],[],[1],[0,1,2],[],[],[5],[0,1,2,3,4,5,6],[0,1,2,3,4,5,6,7]] [2,3,5,18] (o2 13 (On q) 17 (On s)) (Ev (by simp only [go_sem,qR j,k,qR l,m];exact Al)) ?_
   refine Cd ?_ ?_
   ·refine T0 [4] ?_
    exact Sr <|Br <|Tr <|Lr i g <|Br <|Jr o <|Rr
   ·refine Sk <|Bn <|Tn <|F0 [2,3,5] ?_
    exact Ln (ws [0,1])
  ·refine Sx <|Tx <|Lx i g <|Bx <|?_
   exact Jn ((ws (l':=[(2,.ref 0 0),(3,.ref 1 0)]) (σ':=[.box [i64 a.Zb,i64 a.Ref.Za,i64 a.Ref.No,i64 a.Ze,i64 a.Zf,i64 a.Zg,i64 a.Zh,i64 a.Zi,i64 a.To,i64 a.Code,i64 a.Zj,i64 a.Zk,i64 a.Zl,i64 a.Zm,.str a.Zn,.sl false (L Ad a.Zo)] false,.box [i64 b.Zb,i64 b.Ref.Za,i64 b.Ref.No,i64 b.Ze,i64 b.Zf,i64 b.Zg,i64 b.Zh,i64 b.Zi,i64 b.To,i64 b.Code,i64 b.Zj,i64 b.Zk,i64 b.Zl,i64 b.Zm,.str b.Zn,.sl false (L Ad b.Zo)] false]) [0,1]).trans (ws [0,1]))
 intro _
 refine Tw [4] (fun n => ⟨Au 45 [(4,.bool n)],[]⟩) ?_ ?_
 ·intro _
  refine Sp (fun c => ?_) fun c => ?_
  ·refine Sp (fun d => ?_) fun d => ?_
   ·refine Sp (fun f => ?_) fun f => ?_
    ·refine Bd fun y t => ?_
     exact Lf (o1 43 (O2 t)) (Ev (by simp only [go_sem,c,d,f];exact Al)) (ws [])
    ·exact Lf Ac (Ev (by simp only [go_sem,c,d,f];exact Al)) (ws [])
   ·exact Lf Ac (Ev (by simp only [go_sem,c,d];exact Al)) (ws [])
  ·exact Lf Ac (Ev (by simp only [go_sem,c];exact Al)) (ws [])
 intro n
 exact Sr <|Rr
theorem Jz {b r} (h : Fz b = some r) : Con B 128 [u64 b] [] (fun r' σ' => r' = i64 r∧σ' = []):=by
 refine Cw 25 [.tmp 2] Tryz.func128 (fun F hE => ?_) h
 unfold Fz
 refine T0 [0,2] ?_
 refine Ja (fun (v : UInt64×Int) => (⟨Au 25 [(0,u64 v.1),(2,i64 v.2)],[]⟩ : St)) ?_ ?_
 ·intro m
  refine T0 [0,2,4] ?_
  refine Cd ?_ ?_
  ·refine Lt fun d e =>Te (fr':=[(0,u64 d)]) [0] Ac (Ev (by simp only [go_sem,e];exact Al)) ?_
   refine F0 [0,2] ?_
   exact Jm (ws [])
  ·exact Sk <|Jm (ws [])
 rintro ⟨n,o⟩
 refine Ja (fun (v : UInt64×Int) => (⟨Au 25 [(0,u64 v.1),(2,i64 v.2)],[]⟩ : St)) ?_ ?_
 ·intro p
  refine T0 [0,2,8] ?_
  refine Cd ?_ ?_
  ·refine Lt fun f g =>Te (fr':=[(0,u64 f),(2,_)]) [0,2] Ac (Ev (by simp only [go_sem,g];exact Al)) ?_
   refine F0 [0,2] ?_
   exact Jm (ws [])
  ·exact Sk <|Jm (ws [])
 rintro ⟨q,s⟩
 refine Ja (fun (v : UInt64×Int) => (⟨Au 25 [(0,u64 v.1),(2,i64 v.2)],[]⟩ : St)) ?_ ?_
 ·intro t
  refine T0 [0,2,14] ?_
  refine Cd ?_ ?_
  ·refine Lt fun i j =>Te (fr':=[(0,u64 i),(2,_)]) [0,2] Ac (Ev (by simp only [go_sem,j];exact Al)) ?_
   refine F0 [0,2] ?_
   exact Jm (ws [])
  ·exact Sk <|Jm (ws [])
 rintro ⟨u,w⟩
 refine Ck fun c => ?_
 have a:=c;simp only [List.cons_append,List.nil_append,List.length_append,List.length_cons,List.length_nil,Nat.zero_add,Nat.reduceAdd] at a
 refine Lt fun k l =>Te (fr':=[(2,i64 k)]) [2] Ac (Ev (by simp only [go_sem,qN c,a,Lv a,AiC (Lv a),l];exact Al)) ?_
 exact Sr <|Rr
theorem Iz {a r} (h : Dy a = some r) : Con B 42 [.agg [i64 a.Zr.1.Zi,i64 a.Zr.1.To,i64 a.Zr.2.1.Zi,i64 a.Zr.2.1.To,i64 a.Zr.2.2.1.Zi,i64 a.Zr.2.2.1.To,i64 a.Zr.2.2.2.1.Zi,i64 a.Zr.2.2.2.1.To,i64 a.Zr.2.2.2.2.1.Zi,i64 a.Zr.2.2.2.2.1.To,i64 a.Zr.2.2.2.2.2.1.Zi,i64 a.Zr.2.2.2.2.2.1.To,i64 a.Zr.2.2.2.2.2.2.Zi,i64 a.Zr.2.2.2.2.2.2.To,.sl false (L Jk a.Zs)]] [] (fun r' σ' => r' = i64 r∧σ' = []):=by
 refine Cw 45 [.tmp 2] Tryz.func42 (fun F hE => ?_) h
 unfold Dy
 refine Lt fun b aq =>Lt fun c ar =>Te (σ':=[.box [i64 a.Zr.1.Zi,i64 a.Zr.1.To,i64 a.Zr.2.1.Zi,i64 a.Zr.2.1.To,i64 a.Zr.2.2.1.Zi,i64 a.Zr.2.2.1.To,i64 a.Zr.2.2.2.1.Zi,i64 a.Zr.2.2.2.1.To,i64 a.Zr.2.2.2.2.1.Zi,i64 a.Zr.2.2.2.2.1.To,i64 b,i64 a.Zr.2.2.2.2.2.1.To,i64 c,i64 a.Zr.2.2.2.2.2.2.To,.sl false (L Jk a.Zs)] false]) [1] Ac (Ev (by simp only [go_sem,aq,ar];exact Al)) ?_
 refine Jo (fun _ => ⟨Au 45 [(1,.ref 0 0)],[.box [i64 a.Zr.1.Zi,i64 a.Zr.1.To,i64 a.Zr.2.1.Zi,i64 a.Zr.2.1.To,i64 a.Zr.2.2.1.Zi,i64 a.Zr.2.2.1.To,i64 a.Zr.2.2.2.1.Zi,i64 a.Zr.2.2.2.1.To,i64 a.Zr.2.2.2.2.1.Zi,i64 a.Zr.2.2.2.2.1.To,i64 b,i64 a.Zr.2.2.2.2.2.1.To,i64 c,i64 a.Zr.2.2.2.2.2.2.To,.sl false (L Jk a.Zs)] false]⟩) ?_ ?_
 ·intro aG d
  refine T0 [1,9,10] ?_
  refine Sb ?_
  refine Ul 17 ?_
  refine Ug (m:=16) ?_
  refine T0 [1,9,10,11] ?_
  refine Sq <|Ct <|Sk <|Tn <|Sq <|Sb <|?_
  have x : InR 0 7:=by decide
  refine Te [1,4,9,10] Ac (Ev (by simp only [go_sem,x,x.2];exact Al)) ?_
  refine Tw [1,9,10,27] (fun y => ⟨Au 45 [(1,.ref 0 0),(9,.agg [i64 a.Zr.1.Zi,i64 a.Zr.1.To,i64 a.Zr.2.1.Zi,i64 a.Zr.2.1.To,i64 a.Zr.2.2.1.Zi,i64 a.Zr.2.2.1.To,i64 a.Zr.2.2.2.1.Zi,i64 a.Zr.2.2.2.1.To,i64 a.Zr.2.2.2.2.1.Zi,i64 a.Zr.2.2.2.2.1.To,i64 b,i64 a.Zr.2.2.2.2.2.1.To,i64 c,i64 a.Zr.2.2.2.2.2.2.To]),(10,i64 0),(27,.bool y)],[.box [i64 a.Zr.1.Zi,i64 a.Zr.1.To,i64 a.Zr.2.1.Zi,i64 a.Zr.2.1.To,i64 a.Zr.2.2.1.Zi,i64 a.Zr.2.2.1.To,i64 a.Zr.2.2.2.1.Zi,i64 a.Zr.2.2.2.1.To,i64 a.Zr.2.2.2.2.1.Zi,i64 a.Zr.2.2.2.2.1.To,i64 b,i64 a.Zr.2.2.2.2.2.1.To,i64 c,i64 a.Zr.2.2.2.2.2.2.To,.sl false (L Jk a.Zs)] false]⟩) ?_ ?_
  ·intro _
   refine Sp (fun e => ?_) fun e => ?_
   ·exact Lf Ac (Ev (by simp only [go_sem,e];exact Al)) (ws [0])
   ·refine Sp (fun n => ?_) fun n => ?_
    ·exact Lf Ac (Ev (by simp only [go_sem,e,n];exact Al)) (ws [0])
    ·exact Lf Ac (Ev (by simp only [go_sem,e,n];exact Al)) (ws [0])
  intro y
  refine Cd ?_ ?_
  ·refine T0 [2] ?_
   exact Sr <|Br <|Tr <|Ur <|Br <|Jr d <|Rr
  ·refine Sk <|Bn <|Tn <|?_
   have au : w64 1 = 1:=by decide
   refine Fe [1,9,10] Ac (Ev (by simp only [go_sem,au];exact Al)) ?_
   refine Un ?_
   refine Ug (m:=15) ?_
   refine T0 [1,9,10,11] ?_
   refine Sq <|Ct <|Sk <|Tn <|Sq <|Sb <|?_
   have z : InR 1 7:=by decide
   refine Te [1,4,9,10] Ac (Ev (by simp only [go_sem,z,z.2];exact Al)) ?_
   refine Tw [1,9,10,27] (fun aa => ⟨Au 45 [(1,.ref 0 0),(9,.agg [i64 a.Zr.1.Zi,i64 a.Zr.1.To,i64 a.Zr.2.1.Zi,i64 a.Zr.2.1.To,i64 a.Zr.2.2.1.Zi,i64 a.Zr.2.2.1.To,i64 a.Zr.2.2.2.1.Zi,i64 a.Zr.2.2.2.1.To,i64 a.Zr.2.2.2.2.1.Zi,i64 a.Zr.2.2.2.2.1.To,i64 b,i64 a.Zr.2.2.2.2.2.1.To,i64 c,i64 a.Zr.2.2.2.2.2.2.To]),(10,i64 1),(27,.bool aa)],[.box [i64 a.Zr.1.Zi,i64 a.Zr.1.To,i64 a.Zr.2.1.Zi,i64 a.Zr.2.1.To,i64 a.Zr.2.2.1.Zi,i64 a.Zr.2.2.1.To,i64 a.Zr.2.2.2.1.Zi,i64 a.Zr.2.2.2.1.To,i64 a.Zr.2.2.2.2.1.Zi,i64 a.Zr.2.2.2.2.1.To,i64 b,i64 a.Zr.2.2.2.2.2.1.To,i64 c,i64 a.Zr.2.2.2.2.2.2.To,.sl false (L Jk a.Zs)] false]⟩) ?_ ?_
   ·intro _
    refine Sp (fun f => ?_) fun f => ?_
    ·exact Lf Ac (Ev (by simp only [go_sem,f];exact Al)) (ws [0])
    ·refine Sp (fun o => ?_) fun o => ?_
     ·exact Lf Ac (Ev (by simp only [go_sem,f,o];exact Al)) (ws [0])
     ·exact Lf Ac (Ev (by simp only [go_sem,f,o];exact Al)) (ws [0])
   intro aa
   refine Cd ?_ ?_
   ·refine T0 [2] ?_
    exact Sr <|Br <|Tr <|Ur <|Br <|Jr d <|Rr
   ·refine Sk <|Bn <|Tn <|?_
    have av : w64 2 = 2:=by decide
    refine Fe [1,9,10] Ac (Ev (by simp only [go_sem,av];exact Al)) ?_
    refine Un ?_
    refine Ug (m:=14) ?_
    refine T0 [1,9,10,11] ?_
    refine Sq <|Ct <|Sk <|Tn <|Sq <|Sb <|?_
    have ab : InR 2 7:=by decide
    refine Te [1,4,9,10] Ac (Ev (by simp only [go_sem,ab,ab.2];exact Al)) ?_
    refine Tw [1,9,10,27] (fun ac => ⟨Au 45 [(1,.ref 0 0),(9,.agg [i64 a.Zr.1.Zi,i64 a.Zr.1.To,i64 a.Zr.2.1.Zi,i64 a.Zr.2.1.To,i64 a.Zr.2.2.1.Zi,i64 a.Zr.2.2.1.To,i64 a.Zr.2.2.2.1.Zi,i64 a.Zr.2.2.2.1.To,i64 a.Zr.2.2.2.2.1.Zi,i64 a.Zr.2.2.2.2.1.To,i64 b,i64 a.Zr.2.2.2.2.2.1.To,i64 c,i64 a.Zr.2.2.2.2.2.2.To]),(10,i64 2),(27,.bool ac)],[.box [i64 a.Zr.1.Zi,i64 a.Zr.1.To,i64 a.Zr.2.1.Zi,i64 a.Zr.2.1.To,i64 a.Zr.2.2.1.Zi,i64 a.Zr.2.2.1.To,i64 a.Zr.2.2.2.1.Zi,i64 a.Zr.2.2.2.1.To,i64 a.Zr.2.2.2.2.1.Zi,i64 a.Zr.2.2.2.2.1.To,i64 b,i64 a.Zr.2.2.2.2.2.1.To,i64 c,i64 a.Zr.2.2.2.2.2.2.To,.sl false (L Jk a.Zs)] false]⟩) ?_ ?_
    ·intro _
     refine Sp (fun g => ?_) fun g => ?_
     ·exact Lf Ac (Ev (by simp only [go_sem,g];exact Al)) (ws [0])
     ·refine Sp (fun p => ?_) fun p => ?_
      ·exact Lf Ac (Ev (by simp only [go_sem,g,p];exact Al)) (ws [0])
      ·exact Lf Ac (Ev (by simp only [go_sem,g,p];exact Al)) (ws [0])
    intro ac
    refine Cd ?_ ?_
    ·refine T0 [2] ?_
     exact Sr <|Br <|Tr <|Ur <|Br <|Jr d <|Rr
    ·refine Sk <|Bn <|Tn <|?_
     have aw : w64 3 = 3:=by decide
     refine Fe [1,9,10] Ac (Ev (by simp only [go_sem,aw];exact Al)) ?_
     refine Un ?_
     refine Ug (m:=13) ?_
     refine T0 [1,9,10,11] ?_
     refine Sq <|Ct <|Sk <|Tn <|Sq <|Sb <|?_
     have ad : InR 3 7:=by decide
     refine Te [1,4,9,10] Ac (Ev (by simp only [go_sem,ad,ad.2];exact Al)) ?_
     refine Tw [1,9,10,27] (fun ae => ⟨Au 45 [(1,.ref 0 0),(9,.agg [i64 a.Zr.1.Zi,i64 a.Zr.1.To,i64 a.Zr.2.1.Zi,i64 a.Zr.2.1.To,i64 a.Zr.2.2.1.Zi,i64 a.Zr.2.2.1.To,i64 a.Zr.2.2.2.1.Zi,i64 a.Zr.2.2.2.1.To,i64 a.Zr.2.2.2.2.1.Zi,i64 a.Zr.2.2.2.2.1.To,i64 b,i64 a.Zr.2.2.2.2.2.1.To,i64 c,i64 a.Zr.2.2.2.2.2.2.To]),(10,i64 3),(27,.bool ae)],[.box [i64 a.Zr.1.Zi,i64 a.Zr.1.To,i64 a.Zr.2.1.Zi,i64 a.Zr.2.1.To,i64 a.Zr.2.2.1.Zi,i64 a.Zr.2.2.1.To,i64 a.Zr.2.2.2.1.Zi,i64 a.Zr.2.2.2.1.To,i64 a.Zr.2.2.2.2.1.Zi,i64 a.Zr.2.2.2.2.1.To,i64 b,i64 a.Zr.2.2.2.2.2.1.To,i64 c,i64 a.Zr.2.2.2.2.2.2.To,.sl false (L Jk a.Zs)] false]⟩) ?_ ?_
     ·intro _
      refine Sp (fun i => ?_) fun i => ?_
      ·exact Lf Ac (Ev (by simp only [go_sem,i];exact Al)) (ws [0])
      ·refine Sp (fun q => ?_) fun q => ?_
       ·exact Lf Ac (Ev (by simp only [go_sem,i,q];exact Al)) (ws [0])
       ·exact Lf Ac (Ev (by simp only [go_sem,i,q];exact Al)) (ws [0])
     intro ae
     refine Cd ?_ ?_
     ·refine T0 [2] ?_
      exact Sr <|Br <|Tr <|Ur <|Br <|Jr d <|Rr
     ·refine Sk <|Bn <|Tn <|?_
      have ax : w64 4 = 4:=by decide
      refine Fe [1,9,10] Ac (Ev (by simp only [go_sem,ax];exact Al)) ?_
      refine Un ?_
      refine Ug (m:=12) ?_
      refine T0 [1,9,10,11] ?_
      refine Sq <|Ct <|Sk <|Tn <|Sq <|Sb <|?_
      have af : InR 4 7:=by decide
      refine Te [1,4,9,10] Ac (Ev (by simp only [go_sem,af,af.2];exact Al)) ?_
      refine Tw [1,9,10,27] (fun ag => ⟨Au 45 [(1,.ref 0 0),(9,.agg [i64 a.Zr.1.Zi,i64 a.Zr.1.To,i64 a.Zr.2.1.Zi,i64 a.Zr.2.1.To,i64 a.Zr.2.2.1.Zi,i64 a.Zr.2.2.1.To,i64 a.Zr.2.2.2.1.Zi,i64 a.Zr.2.2.2.1.To,i64 a.Zr.2.2.2.2.1.Zi,i64 a.Zr.2.2.2.2.1.To,i64 b,i64 a.Zr.2.2.2.2.2.1.To,i64 c,i64 a.Zr.2.2.2.2.2.2.To]),(10,i64 4),(27,.bool ag)],[.box [i64 a.Zr.1.Zi,i64 a.Zr.1.To,i64 a.Zr.2.1.Zi,i64 a.Zr.2.1.To,i64 a.Zr.2.2.1.Zi,i64 a.Zr.2.2.1.To,i64 a.Zr.2.2.2.1.Zi,i64 a.Zr.2.2.2.1.To,i64 a.Zr.2.2.2.2.1.Zi,i64 a.Zr.2.2.2.2.1.To,i64 b,i64 a.Zr.2.2.2.2.2.1.To,i64 c,i64 a.Zr.2.2.2.2.2.2.To,.sl false (L Jk a.Zs)] false]⟩) ?_ ?_
      ·intro _
       refine Sp (fun j => ?_) fun j => ?_
       ·exact Lf Ac (Ev (by simp only [go_sem,j];exact Al)) (ws [0])
       ·refine Sp (fun s => ?_) fun s => ?_
        ·exact Lf Ac (Ev (by simp only [go_sem,j,s];exact Al)) (ws [0])
        ·exact Lf Ac (Ev (by simp only [go_sem,j,s];exact Al)) (ws [0])
      intro ag
      refine Cd ?_ ?_
      ·refine T0 [2] ?_
       exact Sr <|Br <|Tr <|Ur <|Br <|Jr d <|Rr
      ·refine Sk <|Bn <|Tn <|?_
       have ay : w64 5 = 5:=by decide
       refine Fe [1,9,10] Ac (Ev (by simp only [go_sem,ay];exact Al)) ?_
       refine Un ?_
       refine Ug (m:=11) ?_
       refine T0 [1,9,10,11] ?_
       refine Sq <|Ct <|Sk <|Tn <|Sq <|Sb <|?_
       have ah : InR 5 7:=by decide
       refine Te [1,4,9,10] Ac (Ev (by simp only [go_sem,ah,ah.2];exact Al)) ?_
       refine Tw [1,9,10,27] (fun ai => ⟨Au 45 [(1,.ref 0 0),(9,.agg [i64 a.Zr.1.Zi,i64 a.Zr.1.To,i64 a.Zr.2.1.Zi,i64 a.Zr.2.1.To,i64 a.Zr.2.2.1.Zi,i64 a.Zr.2.2.1.To,i64 a.Zr.2.2.2.1.Zi,i64 a.Zr.2.2.2.1.To,i64 a.Zr.2.2.2.2.1.Zi,i64 a.Zr.2.2.2.2.1.To,i64 b,i64 a.Zr.2.2.2.2.2.1.To,i64 c,i64 a.Zr.2.2.2.2.2.2.To]),(10,i64 5),(27,.bool ai)],[.box [i64 a.Zr.1.Zi,i64 a.Zr.1.To,i64 a.Zr.2.1.Zi,i64 a.Zr.2.1.To,i64 a.Zr.2.2.1.Zi,i64 a.Zr.2.2.1.To,i64 a.Zr.2.2.2.1.Zi,i64 a.Zr.2.2.2.1.To,i64 a.Zr.2.2.2.2.1.Zi,i64 a.Zr.2.2.2.2.1.To,i64 b,i64 a.Zr.2.2.2.2.2.1.To,i64 c,i64 a.Zr.2.2.2.2.2.2.To,.sl false (L Jk a.Zs)] false]⟩) ?_ ?_
       ·intro _
        refine Sp (fun k => ?_) fun k => ?_
        ·exact Lf Ac (Ev (by simp only [go_sem,k];exact Al)) (ws [0])
        ·refine Sp (fun t => ?_) fun t => ?_
         ·exact Lf Ac (Ev (by simp only [go_sem,k,t];exact Al)) (ws [0])
         ·exact Lf Ac (Ev (by simp only [go_sem,k,t];exact Al)) (ws [0])
       intro ai
       refine Cd ?_ ?_
       ·refine T0 [2] ?_
        exact Sr <|Br <|Tr <|Ur <|Br <|Jr d <|Rr
       ·refine Sk <|Bn <|Tn <|?_
        have az : w64 6 = 6:=by decide
        refine Fe [1,9,10] Ac (Ev (by simp only [go_sem,az];exact Al)) ?_
        refine Un ?_
        refine Ug (m:=10) ?_
        refine T0 [1,9,10,11] ?_
        refine Sq <|Ct <|Sk <|Tn <|Sq <|Sb <|?_
        have aj : InR 6 7:=by decide
        refine Te [1,4,9,10] Ac (Ev (by simp only [go_sem,aj,aj.2];exact Al)) ?_
        refine Tw [1,9,10,27] (fun ak => ⟨Au 45 [(1,.ref 0 0),(9,.agg [i64 a.Zr.1.Zi,i64 a.Zr.1.To,i64 a.Zr.2.1.Zi,i64 a.Zr.2.1.To,i64 a.Zr.2.2.1.Zi,i64 a.Zr.2.2.1.To,i64 a.Zr.2.2.2.1.Zi,i64 a.Zr.2.2.2.1.To,i64 a.Zr.2.2.2.2.1.Zi,i64 a.Zr.2.2.2.2.1.To,i64 b,i64 a.Zr.2.2.2.2.2.1.To,i64 c,i64 a.Zr.2.2.2.2.2.2.To]),(10,i64 6),(27,.bool ak)],[.box [i64 a.Zr.1.Zi,i64 a.Zr.1.To,i64 a.Zr.2.1.Zi,i64 a.Zr.2.1.To,i64 a.Zr.2.2.1.Zi,i64 a.Zr.2.2.1.To,i64 a.Zr.2.2.2.1.Zi,i64 a.Zr.2.2.2.1.To,i64 a.Zr.2.2.2.2.1.Zi,i64 a.Zr.2.2.2.2.1.To,i64 b,i64 a.Zr.2.2.2.2.2.1.To,i64 c,i64 a.Zr.2.2.2.2.2.2.To,.sl false (L Jk a.Zs)] false]⟩) ?_ ?_
        ·intro _
         refine Sp (fun l => ?_) fun l => ?_
         ·exact Lf Ac (Ev (by simp only [go_sem,l];exact Al)) (ws [0])
         ·refine Sp (fun u => ?_) fun u => ?_
          ·exact Lf Ac (Ev (by simp only [go_sem,l,u];exact Al)) (ws [0])
          ·exact Lf Ac (Ev (by simp only [go_sem,l,u];exact Al)) (ws [0])
        intro ak
        refine Cd ?_ ?_
        ·refine T0 [2] ?_
         exact Sr <|Br <|Tr <|Ur <|Br <|Jr d <|Rr
        ·refine Sk <|Bn <|Tn <|?_
         have aA : w64 7 = 7:=by decide
         refine Fe [1,9,10] Ac (Ev (by simp only [go_sem,aA];exact Al)) ?_
         refine Un ?_
         refine Ug (m:=9) ?_
         refine T0 [1,9,10,11] ?_
         exact Sq <|Cf <|Sx <|Tx <|Ux <|Bx <|Jn (ws [0])
 intro _
 refine T0 [1,5] ?_
 refine Jo (fun _ => ⟨Au 45 [],[]⟩) ?_ ?_
 ·intro aH aB
  refine T0 [5,30,31,32] ?_
  refine Sb ?_
  refine Lo (fun (v : Int×Int) => (⟨Au 45 [(5,i64 v.1),(30,.sl false (L Jk a.Zs)),(31,i64 (a.Zs.length : Int)),(32,i64 v.2)],[]⟩ : St)) (ws []) ?_
  rintro ⟨aC,al⟩ aI aD am an
  show Dc a aC al = some aD→_
  unfold Dc
  refine T0 [5,30,31,32,33] ?_
  refine Sq <|Cd ?_ ?_
  ·refine Sk <|Tn <|Sq <|Sb <|Ck fun aE =>Lt fun ao aF =>Te (fr':=[(5,_),(7,i64 ao),(30,_),(31,_),(32,_)]) [5,7,30,31,32] Ac (Ev (by simp only [go_sem,qR aE,aF];exact Al)) ?_
   refine Sq ?_
   refine Tw [7,30,31,32,42] (fun ap => ⟨Au 45 [(7,i64 ao),(30,.sl false (L Jk a.Zs)),(31,i64 (a.Zs.length : Int)),(32,i64 al),(42,.bool ap)],[]⟩) ?_ ?_
   ·intro _
    refine Sp (fun w => ?_) fun w => ?_
    ·exact Lf Ac (Ev (by simp only [go_sem,w];exact Al)) (ws [])
    ·exact Lf Ac (Ev (by simp only [go_sem,w];exact Al)) (ws [])
   intro ap
   refine Cd ?_ ?_
   ·refine T0 [2] ?_
    exact Sr <|Tr <|Br <|Tr <|Lr an am <|Br <|Jr aB <|Rr
   ·refine Sk <|Tn <|F0 [5,30,31,32] ?_
    refine Bn <|Tn <|F0 [5,30,31,32] ?_
    exact Ln (ws [])
  ·refine Sx <|Tx <|Lx an am <|Bx <|?_
   exact Jn ((ws (l':=[]) (σ':=[]) []).trans (ws []))
 intro _
 refine T0 [2] ?_
 exact Sr <|Rr
end Go.Proofs.YtnfoiocigicdnaaGreatDoor
