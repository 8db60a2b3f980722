/-
  Part 48.
-/
import Derived.Test.YtldngkmkhfddpaaDoorYT47
import Derived.KernelRfl
namespace Go.Proofs.YtldngkmkhfddpaaDoor
open Go.Rv
set_option linter.unusedVariables false
set_option linter.unusedSimpArgs false
set_option maxRecDepth 20000
variable {rs:RS}
set_option maxHeartbeats 4000000
theorem AK{b:Api_Env}{b_ m_:Nat}(hev:rs.ev=some (b_,m_,b.Has,b.V)){e:Api_Env→Api_Expr→Option (Int⊕Int)}(h48:∀{q1_:Api_Expr} {r:Int⊕Int},e b q1_=some r→PCon (B rs) 48 [.glob (b_+3),.agg (i64 q1_.Op::i64 q1_.N::(C1 i64 q1_.Unit.l++[.sl false (L cApi_Expr q1_.L)]))] [] (Ap r)){a:List Api_Expr}{c:Int}{r:Int⊕Int}(h:AP e b a c=some r):PCon (B rs) 70 [.glob (b_+3),.sl false (L cApi_Expr a),i64 c] [] (F8 r):=by
 refine Au (N:=22) (rs:=[.tmp 6]) 0 rfl ok Tryd.func70 rfl (by decide +kernel) rfl rfl (Nat.le_of_ble_eq_true rfl) (fun F=>?_)
 have hE:=(ok (rs:=rs)).env F
 unfold AP at h
 show Run ((B rs).env F) 0 _ ⟨Am 22 [(0,.glob (b_+3)),(1,.sl false (L cApi_Expr a)),(2,i64 c)],[]⟩ _
 refine AX ?_
 revert h
 refine Te [0,1,2] Ab (Ev (by simp only[go_sem,BX hev];exact Ak)) ?_
 intro h
 replace h:=Ae h;obtain⟨o,f,h⟩:=h
 rcases o with g|i
 rotate_left
 ·dsimp only at h
  refine Az hE [] 2 _ (v:=.iface 98 (.agg #[.int .i64 i])) (σ2:=[]) (vals:=[]) rfl rfl ⟨_,[(12,67,[.glob (b_+3),.sl false (L cApi_Expr a)],[],.val (.iface 98 (.agg #[.int .i64 i])),[])],Ab,⟨fun v hv=>by cases hv;exact Ai (PCon.pan (Al hev (fun h=>h48 h) f) rfl) [] (by decide) gs gs gs gs,trivial⟩,?_⟩ (fun fr_ hlen_ hfr_=>?_)
  ·simp only[go_sem,BX hev]
  obtain rfl:=Option.some.inj h
  refine Aj (Weak.refl _ _) ?_
  refine An rfl [] (by decide) rfl ?_
  simp only[go_sem]
 dsimp only at h
 refine Ao hE [2,7,8] (fr':=[(2,i64 c),(7,i64 g.1),(8,i64 g.2)]) (σ':=[]) ⟨_,(Ag (l:=[]) (m:=[(12,67,[.glob (b_+3),.sl false (L cApi_Expr a)],[],_,_)]) trivial ⟨(wc (PCon.to (Al hev (fun h=>h48 h) f) rfl) []),trivial⟩),?_⟩ ?_
 ·simp only[go_sem,BX hev]
 revert h
 intro h
 replace h:=Ae h;obtain⟨d,j,h⟩:=h
 replace h:=Ae h;obtain⟨p,k,h⟩:=h
 rcases p with q|n
 rotate_left
 ·dsimp only at h
  refine Az hE [] 6 _ (v:=.iface 98 (.agg #[.int .i64 n])) (σ2:=[]) (vals:=[]) rfl rfl ⟨_,[(21,65,[i64 d.1,i64 d.2],[],.val (.iface 98 (.agg #[.int .i64 n])),[])],(o1 18 (I0 j)),⟨fun v hv=>by cases hv;exact Ai (PCon.pan (BT k) rfl) [] (by decide) gs gs gs gs,trivial⟩,?_⟩ (fun fr_ hlen_ hfr_=>?_)
  ·simp only[go_sem,BX hev]
  obtain rfl:=Option.some.inj h
  refine Aj (Weak.refl _ _) ?_
  refine An rfl [] (by decide) rfl ?_
  simp only[go_sem]
 dsimp only at h
 refine Ao hE [6] (fr':=[(6,i64 q)]) (σ':=[]) ⟨_,(Ag (l:=[(18,_,_,_)]) (m:=[(21,65,[i64 d.1,i64 d.2],[],_,_)]) ⟨I0  j,trivial⟩ ⟨(wc (PCon.to (BT k) rfl) []),trivial⟩),?_⟩ ?_
 ·simp only[go_sem,BX hev]
 revert h
 refine Sr ?_
 intro h
 obtain rfl:=Option.some.inj h
 refine Aj (Weak.refl _ _) ?_
 refine AB rfl (Bm (.inr rfl) ?_ rfl ?_)
 ·simp only[go_sem]
 ·show D3 [] _ [] _;simp only[go_sem]
theorem Ec{b:Api_Env}{b_ m_:Nat}(hev:rs.ev=some (b_,m_,b.Has,b.V)){e:Api_Env→Api_Expr→Option (Int⊕Int)}(h48:∀{q1_:Api_Expr} {r:Int⊕Int},e b q1_=some r→PCon (B rs) 48 [.glob (b_+3),.agg (i64 q1_.Op::i64 q1_.N::(C1 i64 q1_.Unit.l++[.sl false (L cApi_Expr q1_.L)]))] [] (Ap r)){a:List Api_Expr}{r:Int⊕Int}(h:Cc e b a=some r):PCon (B rs) 38 [.glob (b_+3),.sl false (L cApi_Expr a)] [] (G1 r):=by
 refine Au (N:=14) (rs:=[.tmp 4]) 0 rfl ok Tryd.func38 rfl (by decide +kernel) rfl rfl (Nat.le_of_ble_eq_true rfl) (fun F=>?_)
 have hE:=(ok (rs:=rs)).env F
 unfold Cc at h
 show Run ((B rs).env F) 0 _ ⟨Am 14 [(0,.glob (b_+3)),(1,.sl false (L cApi_Expr a))],[]⟩ _
 refine AX ?_
 revert h
 refine Te [0,1] Ab (Ev (by simp only[go_sem,BX hev];exact Ak)) ?_
 intro h
 replace h:=Ae h;obtain⟨k,d,h⟩:=h
 rcases k with p|f
 rotate_left
 ·dsimp only at h
  refine Az hE [] 2 _ (v:=.iface 98 (.agg #[.int .i64 f])) (σ2:=[]) (vals:=[]) rfl rfl ⟨_,[(7,67,[.glob (b_+3),.sl false (L cApi_Expr a)],[],.val (.iface 98 (.agg #[.int .i64 f])),[])],Ab,⟨fun v hv=>by cases hv;exact Ai (PCon.pan (Al hev (fun h=>h48 h) d) rfl) [] (by decide) gs gs gs gs,trivial⟩,?_⟩ (fun fr_ hlen_ hfr_=>?_)
  ·simp only[go_sem,BX hev]
  obtain rfl:=Option.some.inj h
  refine Aj (Weak.refl _ _) ?_
  refine An rfl [] (by decide) rfl ?_
  simp only[go_sem]
 dsimp only at h
 replace h:=Ae h;obtain⟨c,g,h⟩:=h
 replace h:=Ae h;obtain⟨n,i,h⟩:=h
 rcases n with o|j
 rotate_left
 ·dsimp only at h
  refine Az hE [] 8 _ (v:=.iface 98 (.agg #[.int .i64 j])) (σ2:=[]) (vals:=[]) rfl rfl ⟨_,[(13,65,[i64 c.1,i64 c.2],[],.val (.iface 98 (.agg #[.int .i64 j])),[])],(Ag (l:=[(10,_,_,_)]) (m:=[(7,67,[.glob (b_+3),.sl false (L cApi_Expr a)],[],_,_)]) ⟨IL  g,trivial⟩ ⟨(wc (PCon.to (Al hev (fun h=>h48 h) d) rfl) []),trivial⟩),⟨fun v hv=>by cases hv;exact Ai (PCon.pan (BT i) rfl) [] (by decide) gs gs gs gs,trivial⟩,?_⟩ (fun fr_ hlen_ hfr_=>?_)
  ·simp only[go_sem,BX hev]
  obtain rfl:=Option.some.inj h
  refine Aj (Weak.refl _ _) ?_
  refine An rfl [] (by decide) rfl ?_
  simp only[go_sem]
 dsimp only at h
 refine Ao hE [4] (fr':=[(4,i64 o)]) (σ':=[]) ⟨_,(Ag (l:=[(10,_,_,_)]) (m:=[(7,67,[.glob (b_+3),.sl false (L cApi_Expr a)],[],_,_),(13,65,[i64 c.1,i64 c.2],[],_,_)]) ⟨IL  g,trivial⟩ ⟨(wc (PCon.to (Al hev (fun h=>h48 h) d) rfl) []),(wc (PCon.to (BT i) rfl) []),trivial⟩),?_⟩ ?_
 ·simp only[go_sem,BX hev]
 revert h
 refine Sr ?_
 intro h
 obtain rfl:=Option.some.inj h
 refine Aj (Weak.refl _ _) ?_
 refine AB rfl (Bm (.inr rfl) ?_ rfl ?_)
 ·simp only[go_sem]
 ·show D3 [] _ [] _;simp only[go_sem]
theorem Ef{b:Api_Env}{b_ m_:Nat}(hev:rs.ev=some (b_,m_,b.Has,b.V)){e:Api_Env→Api_Expr→Option (Int⊕Int)}(h48:∀{q1_:Api_Expr} {r:Int⊕Int},e b q1_=some r→PCon (B rs) 48 [.glob (b_+3),.agg (i64 q1_.Op::i64 q1_.N::(C1 i64 q1_.Unit.l++[.sl false (L cApi_Expr q1_.L)]))] [] (Ap r)){a:List Api_Expr}{r:Int⊕Int}(h:Cb e b a=some r):PCon (B rs) 39 [.glob (b_+3),.sl false (L cApi_Expr a)] [] (GG r):=by
 refine Au (N:=14) (rs:=[.tmp 4]) 0 rfl ok Tryd.func39 rfl (by decide +kernel) rfl rfl (Nat.le_of_ble_eq_true rfl) (fun F=>?_)
 have hE:=(ok (rs:=rs)).env F
 unfold Cb at h
 show Run ((B rs).env F) 0 _ ⟨Am 14 [(0,.glob (b_+3)),(1,.sl false (L cApi_Expr a))],[]⟩ _
 refine AX ?_
 revert h
 refine Te [0,1] Ab (Ev (by simp only[go_sem,BX hev];exact Ak)) ?_
 intro h
 replace h:=Ae h;obtain⟨k,d,h⟩:=h
 rcases k with p|f
 rotate_left
 ·dsimp only at h
  refine Az hE [] 2 _ (v:=.iface 98 (.agg #[.int .i64 f])) (σ2:=[]) (vals:=[]) rfl rfl ⟨_,[(7,67,[.glob (b_+3),.sl false (L cApi_Expr a)],[],.val (.iface 98 (.agg #[.int .i64 f])),[])],Ab,⟨fun v hv=>by cases hv;exact Ai (PCon.pan (Al hev (fun h=>h48 h) d) rfl) [] (by decide) gs gs gs gs,trivial⟩,?_⟩ (fun fr_ hlen_ hfr_=>?_)
  ·simp only[go_sem,BX hev]
  obtain rfl:=Option.some.inj h
  refine Aj (Weak.refl _ _) ?_
  refine An rfl [] (by decide) rfl ?_
  simp only[go_sem]
 dsimp only at h
 replace h:=Ae h;obtain⟨c,g,h⟩:=h
 replace h:=Ae h;obtain⟨n,i,h⟩:=h
 rcases n with o|j
 rotate_left
 ·dsimp only at h
  refine Az hE [] 8 _ (v:=.iface 98 (.agg #[.int .i64 j])) (σ2:=[]) (vals:=[]) rfl rfl ⟨_,[(13,65,[i64 c.1,i64 c.2],[],.val (.iface 98 (.agg #[.int .i64 j])),[])],(Ag (l:=[(10,_,_,_)]) (m:=[(7,67,[.glob (b_+3),.sl false (L cApi_Expr a)],[],_,_)]) ⟨I1  g,trivial⟩ ⟨(wc (PCon.to (Al hev (fun h=>h48 h) d) rfl) []),trivial⟩),⟨fun v hv=>by cases hv;exact Ai (PCon.pan (BT i) rfl) [] (by decide) gs gs gs gs,trivial⟩,?_⟩ (fun fr_ hlen_ hfr_=>?_)
  ·simp only[go_sem,BX hev]
  obtain rfl:=Option.some.inj h
  refine Aj (Weak.refl _ _) ?_
  refine An rfl [] (by decide) rfl ?_
  simp only[go_sem]
 dsimp only at h
 refine Ao hE [4] (fr':=[(4,i64 o)]) (σ':=[]) ⟨_,(Ag (l:=[(10,_,_,_)]) (m:=[(7,67,[.glob (b_+3),.sl false (L cApi_Expr a)],[],_,_),(13,65,[i64 c.1,i64 c.2],[],_,_)]) ⟨I1  g,trivial⟩ ⟨(wc (PCon.to (Al hev (fun h=>h48 h) d) rfl) []),(wc (PCon.to (BT i) rfl) []),trivial⟩),?_⟩ ?_
 ·simp only[go_sem,BX hev]
 revert h
 refine Sr ?_
 intro h
 obtain rfl:=Option.some.inj h
 refine Aj (Weak.refl _ _) ?_
 refine AB rfl (Bm (.inr rfl) ?_ rfl ?_)
 ·simp only[go_sem]
 ·show D3 [] _ [] _;simp only[go_sem]
theorem DX{b:Api_Env}{b_ m_:Nat}(hev:rs.ev=some (b_,m_,b.Has,b.V)){e:Api_Env→Api_Expr→Option (Int⊕Int)}(h48:∀{q1_:Api_Expr} {r:Int⊕Int},e b q1_=some r→PCon (B rs) 48 [.glob (b_+3),.agg (i64 q1_.Op::i64 q1_.N::(C1 i64 q1_.Unit.l++[.sl false (L cApi_Expr q1_.L)]))] [] (Ap r)){a:List Api_Expr}{r:Int⊕Int}(h:BZ e b a=some r):PCon (B rs) 40 [.glob (b_+3),.sl false (L cApi_Expr a)] [] (G7 r):=by
 refine Au (N:=14) (rs:=[.tmp 4]) 0 rfl ok Tryd.func40 rfl (by decide +kernel) rfl rfl (Nat.le_of_ble_eq_true rfl) (fun F=>?_)
 have hE:=(ok (rs:=rs)).env F
 unfold BZ at h
 show Run ((B rs).env F) 0 _ ⟨Am 14 [(0,.glob (b_+3)),(1,.sl false (L cApi_Expr a))],[]⟩ _
 refine AX ?_
 revert h
 refine Te [0,1] Ab (Ev (by simp only[go_sem,BX hev];exact Ak)) ?_
 intro h
 replace h:=Ae h;obtain⟨k,d,h⟩:=h
 rcases k with p|f
 rotate_left
 ·dsimp only at h
  refine Az hE [] 2 _ (v:=.iface 98 (.agg #[.int .i64 f])) (σ2:=[]) (vals:=[]) rfl rfl ⟨_,[(7,67,[.glob (b_+3),.sl false (L cApi_Expr a)],[],.val (.iface 98 (.agg #[.int .i64 f])),[])],Ab,⟨fun v hv=>by cases hv;exact Ai (PCon.pan (Al hev (fun h=>h48 h) d) rfl) [] (by decide) gs gs gs gs,trivial⟩,?_⟩ (fun fr_ hlen_ hfr_=>?_)
  ·simp only[go_sem,BX hev]
  obtain rfl:=Option.some.inj h
  refine Aj (Weak.refl _ _) ?_
  refine An rfl [] (by decide) rfl ?_
  simp only[go_sem]
 dsimp only at h
 replace h:=Ae h;obtain⟨c,g,h⟩:=h
 replace h:=Ae h;obtain⟨n,i,h⟩:=h
 rcases n with o|j
 rotate_left
 ·dsimp only at h
  refine Az hE [] 8 _ (v:=.iface 98 (.agg #[.int .i64 j])) (σ2:=[]) (vals:=[]) rfl rfl ⟨_,[(13,65,[i64 c.1,i64 c.2],[],.val (.iface 98 (.agg #[.int .i64 j])),[])],(Ag (l:=[(10,_,_,_)]) (m:=[(7,67,[.glob (b_+3),.sl false (L cApi_Expr a)],[],_,_)]) ⟨IP  g,trivial⟩ ⟨(wc (PCon.to (Al hev (fun h=>h48 h) d) rfl) []),trivial⟩),⟨fun v hv=>by cases hv;exact Ai (PCon.pan (BT i) rfl) [] (by decide) gs gs gs gs,trivial⟩,?_⟩ (fun fr_ hlen_ hfr_=>?_)
  ·simp only[go_sem,BX hev]
  obtain rfl:=Option.some.inj h
  refine Aj (Weak.refl _ _) ?_
  refine An rfl [] (by decide) rfl ?_
  simp only[go_sem]
 dsimp only at h
 refine Ao hE [4] (fr':=[(4,i64 o)]) (σ':=[]) ⟨_,(Ag (l:=[(10,_,_,_)]) (m:=[(7,67,[.glob (b_+3),.sl false (L cApi_Expr a)],[],_,_),(13,65,[i64 c.1,i64 c.2],[],_,_)]) ⟨IP  g,trivial⟩ ⟨(wc (PCon.to (Al hev (fun h=>h48 h) d) rfl) []),(wc (PCon.to (BT i) rfl) []),trivial⟩),?_⟩ ?_
 ·simp only[go_sem,BX hev]
 revert h
 refine Sr ?_
 intro h
 obtain rfl:=Option.some.inj h
 refine Aj (Weak.refl _ _) ?_
 refine AB rfl (Bm (.inr rfl) ?_ rfl ?_)
 ·simp only[go_sem]
 ·show D3 [] _ [] _;simp only[go_sem]
theorem D6{b:Api_Env}{b_ m_:Nat}(hev:rs.ev=some (b_,m_,b.Has,b.V)){c:Api_Env→Api_Expr→Option (Int⊕Int)}(h48:∀{q1_:Api_Expr} {r:Int⊕Int},c b q1_=some r→PCon (B rs) 48 [.glob (b_+3),.agg (i64 q1_.Op::i64 q1_.N::(C1 i64 q1_.Unit.l++[.sl false (L cApi_Expr q1_.L)]))] [] (Ap r)){a:List Api_Expr}{r:Int⊕Int}(h:BE c b a=some r):PCon (B rs) 41 [.glob (b_+3),.sl false (L cApi_Expr a)] [] (FM r):=by
 refine Au (N:=16) (rs:=[.tmp 4]) 0 rfl ok Tryd.func41 rfl (by decide +kernel) rfl rfl (Nat.le_of_ble_eq_true rfl) (fun F=>?_)
 have hE:=(ok (rs:=rs)).env F
 unfold BE at h
 show Run ((B rs).env F) 0 _ ⟨Am 16 [(0,.glob (b_+3)),(1,.sl false (L cApi_Expr a))],[]⟩ _
 refine AX ?_
 revert h
 refine Te [0,1] Ab (Ev (by simp only[go_sem,BX hev];exact Ak)) ?_
 intro h
 replace h:=Ae h;obtain⟨g,d,h⟩:=h
 rcases g with e|f
 rotate_left
 ·dsimp only at h
  refine Az hE [] 2 _ (v:=.iface 98 (.agg #[.int .i64 f])) (σ2:=[]) (vals:=[]) rfl rfl ⟨_,[(10,67,[.glob (b_+3),.sl false (L cApi_Expr a)],[],.val (.iface 98 (.agg #[.int .i64 f])),[])],Ab,⟨fun v hv=>by cases hv;exact Ai (PCon.pan (Al hev (fun h=>h48 h) d) rfl) [] (by decide) gs gs gs gs,trivial⟩,?_⟩ (fun fr_ hlen_ hfr_=>?_)
  ·simp only[go_sem,BX hev]
  obtain rfl:=Option.some.inj h
  refine Aj (Weak.refl _ _) ?_
  refine An rfl [] (by decide) rfl ?_
  simp only[go_sem]
 dsimp only at h
 refine Ao hE [5,6] (fr':=[(5,i64 e.1),(6,i64 e.2)]) (σ':=[]) ⟨_,(Ag (l:=[]) (m:=[(10,67,[.glob (b_+3),.sl false (L cApi_Expr a)],[],_,_)]) trivial ⟨(wc (PCon.to (Al hev (fun h=>h48 h) d) rfl) []),trivial⟩),?_⟩ ?_
 ·simp only[go_sem,BX hev]
 revert h
 refine Te [4] Ab (Ev (by simp only[go_sem,BX hev];exact Ak)) ?_
 refine Sr ?_
 intro h
 obtain rfl:=Option.some.inj h
 refine Aj (Weak.refl _ _) ?_
 refine AB rfl (Bm (.inr rfl) ?_ rfl ?_)
 ·simp only[go_sem]
 ·show D3 [] _ [] _;simp only[go_sem]
variable {rs:RS}
theorem Df{b:Api_Env}{b_ m_:Nat}(hev:rs.ev=some (b_,m_,b.Has,b.V)){c:Api_Env→Api_Expr→Option (Int⊕Int)}(h48:∀{q1_:Api_Expr} {r:Int⊕Int},c b q1_=some r→PCon (B rs) 48 [.glob (b_+3),.agg (i64 q1_.Op::i64 q1_.N::(C1 i64 q1_.Unit.l++[.sl false (L cApi_Expr q1_.L)]))] [] (Ap r)){a:List Api_Expr}{r:Int⊕Int}(h:Bq c b a=some r):PCon (B rs) 42 [.glob (b_+3),.sl false (L cApi_Expr a)] [] (Ff r):=by
 refine Au (N:=16) (rs:=[.tmp 4]) 0 rfl ok Tryd.func42 rfl (by decide +kernel) rfl rfl (Nat.le_of_ble_eq_true rfl) (fun F=>?_)
 have hE:=(ok (rs:=rs)).env F
 unfold Bq at h
 show Run ((B rs).env F) 0 _ ⟨Am 16 [(0,.glob (b_+3)),(1,.sl false (L cApi_Expr a))],[]⟩ _
 refine AX ?_
 revert h
 refine Te [0,1] Ab (Ev (by simp only[go_sem,BX hev];exact Ak)) ?_
 intro h
 replace h:=Ae h;obtain⟨g,d,h⟩:=h
 rcases g with e|f
 rotate_left
 ·dsimp only at h
  refine Az hE [] 2 _ (v:=.iface 98 (.agg #[.int .i64 f])) (σ2:=[]) (vals:=[]) rfl rfl ⟨_,[(10,67,[.glob (b_+3),.sl false (L cApi_Expr a)],[],.val (.iface 98 (.agg #[.int .i64 f])),[])],Ab,⟨fun v hv=>by cases hv;exact Ai (PCon.pan (Al hev (fun h=>h48 h) d) rfl) [] (by decide) gs gs gs gs,trivial⟩,?_⟩ (fun fr_ hlen_ hfr_=>?_)
  ·simp only[go_sem,BX hev]
  obtain rfl:=Option.some.inj h
  refine Aj (Weak.refl _ _) ?_
  refine An rfl [] (by decide) rfl ?_
  simp only[go_sem]
 dsimp only at h
 refine Ao hE [5,6] (fr':=[(5,i64 e.1),(6,i64 e.2)]) (σ':=[]) ⟨_,(Ag (l:=[]) (m:=[(10,67,[.glob (b_+3),.sl false (L cApi_Expr a)],[],_,_)]) trivial ⟨(wc (PCon.to (Al hev (fun h=>h48 h) d) rfl) []),trivial⟩),?_⟩ ?_
 ·simp only[go_sem,BX hev]
 revert h
 refine Te [4] Ab (Ev (by simp only[go_sem,BX hev];exact Ak)) ?_
 refine Sr ?_
 intro h
 obtain rfl:=Option.some.inj h
 refine Aj (Weak.refl _ _) ?_
 refine AB rfl (Bm (.inr rfl) ?_ rfl ?_)
 ·simp only[go_sem]
 ·show D3 [] _ [] _;simp only[go_sem]
theorem DQ{b:Api_Env}{b_ m_:Nat}(hev:rs.ev=some (b_,m_,b.Has,b.V)){c:Api_Env→Api_Expr→Option (Int⊕Int)}(h48:∀{q1_:Api_Expr} {r:Int⊕Int},c b q1_=some r→PCon (B rs) 48 [.glob (b_+3),.agg (i64 q1_.Op::i64 q1_.N::(C1 i64 q1_.Unit.l++[.sl false (L cApi_Expr q1_.L)]))] [] (Ap r)){a:List Api_Expr}{r:Int⊕Int}(h:C8 c b a=some r):PCon (B rs) 43 [.glob (b_+3),.sl false (L cApi_Expr a)] [] (FX r):=by
 refine Au (N:=8) (rs:=[.tmp 4]) 0 rfl ok Tryd.func43 rfl (by decide +kernel) rfl rfl (Nat.le_of_ble_eq_true rfl) (fun F=>?_)
 have hE:=(ok (rs:=rs)).env F
 unfold C8 at h
 show Run ((B rs).env F) 0 _ ⟨Am 8 [(0,.glob (b_+3)),(1,.sl false (L cApi_Expr a))],[]⟩ _
 refine AX ?_
 revert h
 refine Te [0,1] Ab (Ev (by simp only[go_sem,BX hev];exact Ak)) ?_
 intro h
 replace h:=Ae h;obtain⟨f,d,h⟩:=h
 rcases f with g|e
 rotate_left
 ·dsimp only at h
  refine Az hE [] 2 _ (v:=.iface 98 (.agg #[.int .i64 e])) (σ2:=[]) (vals:=[]) rfl rfl ⟨_,[(7,70,[.glob (b_+3),.sl false (L cApi_Expr a),i64 8],[],.val (.iface 98 (.agg #[.int .i64 e])),[])],Ab,⟨fun v hv=>by cases hv;exact Ai (PCon.pan (AK hev (fun h=>h48 h) d) rfl) [] (by decide) gs gs gs gs,trivial⟩,?_⟩ (fun fr_ hlen_ hfr_=>?_)
  ·simp only[go_sem,BX hev]
  obtain rfl:=Option.some.inj h
  refine Aj (Weak.refl _ _) ?_
  refine An rfl [] (by decide) rfl ?_
  simp only[go_sem]
 dsimp only at h
 refine Ao hE [4] (fr':=[(4,i64 g)]) (σ':=[]) ⟨_,(Ag (l:=[]) (m:=[(7,70,[.glob (b_+3),.sl false (L cApi_Expr a),i64 8],[],_,_)]) trivial ⟨(wc (PCon.to (AK hev (fun h=>h48 h) d) rfl) []),trivial⟩),?_⟩ ?_
 ·simp only[go_sem,BX hev]
 revert h
 refine Sr ?_
 intro h
 obtain rfl:=Option.some.inj h
 refine Aj (Weak.refl _ _) ?_
 refine AB rfl (Bm (.inr rfl) ?_ rfl ?_)
 ·simp only[go_sem]
 ·show D3 [] _ [] _;simp only[go_sem]
theorem Es{b:Api_Env}{b_ m_:Nat}(hev:rs.ev=some (b_,m_,b.Has,b.V)){c:Api_Env→Api_Expr→Option (Int⊕Int)}(h48:∀{q1_:Api_Expr} {r:Int⊕Int},c b q1_=some r→PCon (B rs) 48 [.glob (b_+3),.agg (i64 q1_.Op::i64 q1_.N::(C1 i64 q1_.Unit.l++[.sl false (L cApi_Expr q1_.L)]))] [] (Ap r)){a:List Api_Expr}{r:Int⊕Int}(h:Dg c b a=some r):PCon (B rs) 44 [.glob (b_+3),.sl false (L cApi_Expr a)] [] (GU r):=by
 refine Au (N:=8) (rs:=[.tmp 4]) 0 rfl ok Tryd.func44 rfl (by decide +kernel) rfl rfl (Nat.le_of_ble_eq_true rfl) (fun F=>?_)
 have hE:=(ok (rs:=rs)).env F
 unfold Dg at h
 show Run ((B rs).env F) 0 _ ⟨Am 8 [(0,.glob (b_+3)),(1,.sl false (L cApi_Expr a))],[]⟩ _
 refine AX ?_
 revert h
 refine Te [0,1] Ab (Ev (by simp only[go_sem,BX hev];exact Ak)) ?_
 intro h
 replace h:=Ae h;obtain⟨f,d,h⟩:=h
 rcases f with g|e
 rotate_left
 ·dsimp only at h
  refine Az hE [] 2 _ (v:=.iface 98 (.agg #[.int .i64 e])) (σ2:=[]) (vals:=[]) rfl rfl ⟨_,[(7,70,[.glob (b_+3),.sl false (L cApi_Expr a),i64 9],[],.val (.iface 98 (.agg #[.int .i64 e])),[])],Ab,⟨fun v hv=>by cases hv;exact Ai (PCon.pan (AK hev (fun h=>h48 h) d) rfl) [] (by decide) gs gs gs gs,trivial⟩,?_⟩ (fun fr_ hlen_ hfr_=>?_)
  ·simp only[go_sem,BX hev]
  obtain rfl:=Option.some.inj h
  refine Aj (Weak.refl _ _) ?_
  refine An rfl [] (by decide) rfl ?_
  simp only[go_sem]
 dsimp only at h
 refine Ao hE [4] (fr':=[(4,i64 g)]) (σ':=[]) ⟨_,(Ag (l:=[]) (m:=[(7,70,[.glob (b_+3),.sl false (L cApi_Expr a),i64 9],[],_,_)]) trivial ⟨(wc (PCon.to (AK hev (fun h=>h48 h) d) rfl) []),trivial⟩),?_⟩ ?_
 ·simp only[go_sem,BX hev]
 revert h
 refine Sr ?_
 intro h
 obtain rfl:=Option.some.inj h
 refine Aj (Weak.refl _ _) ?_
 refine AB rfl (Bm (.inr rfl) ?_ rfl ?_)
 ·simp only[go_sem]
 ·show D3 [] _ [] _;simp only[go_sem]
theorem DR{b:Api_Env}{b_ m_:Nat}(hev:rs.ev=some (b_,m_,b.Has,b.V)){c:Api_Env→Api_Expr→Option (Int⊕Int)}(h48:∀{q1_:Api_Expr} {r:Int⊕Int},c b q1_=some r→PCon (B rs) 48 [.glob (b_+3),.agg (i64 q1_.Op::i64 q1_.N::(C1 i64 q1_.Unit.l++[.sl false (L cApi_Expr q1_.L)]))] [] (Ap r)){a:List Api_Expr}{r:Int⊕Int}(h:C7 c b a=some r):PCon (B rs) 45 [.glob (b_+3),.sl false (L cApi_Expr a)] [] (Gb r):=by
 refine Au (N:=8) (rs:=[.tmp 4]) 0 rfl ok Tryd.func45 rfl (by decide +kernel) rfl rfl (Nat.le_of_ble_eq_true rfl) (fun F=>?_)
 have hE:=(ok (rs:=rs)).env F
 unfold C7 at h
 show Run ((B rs).env F) 0 _ ⟨Am 8 [(0,.glob (b_+3)),(1,.sl false (L cApi_Expr a))],[]⟩ _
 refine AX ?_
 revert h
 refine Te [0,1] Ab (Ev (by simp only[go_sem,BX hev];exact Ak)) ?_
 intro h
 replace h:=Ae h;obtain⟨f,d,h⟩:=h
 rcases f with g|e
 rotate_left
 ·dsimp only at h
  refine Az hE [] 2 _ (v:=.iface 98 (.agg #[.int .i64 e])) (σ2:=[]) (vals:=[]) rfl rfl ⟨_,[(7,70,[.glob (b_+3),.sl false (L cApi_Expr a),i64 10],[],.val (.iface 98 (.agg #[.int .i64 e])),[])],Ab,⟨fun v hv=>by cases hv;exact Ai (PCon.pan (AK hev (fun h=>h48 h) d) rfl) [] (by decide) gs gs gs gs,trivial⟩,?_⟩ (fun fr_ hlen_ hfr_=>?_)
  ·simp only[go_sem,BX hev]
  obtain rfl:=Option.some.inj h
  refine Aj (Weak.refl _ _) ?_
  refine An rfl [] (by decide) rfl ?_
  simp only[go_sem]
 dsimp only at h
 refine Ao hE [4] (fr':=[(4,i64 g)]) (σ':=[]) ⟨_,(Ag (l:=[]) (m:=[(7,70,[.glob (b_+3),.sl false (L cApi_Expr a),i64 10],[],_,_)]) trivial ⟨(wc (PCon.to (AK hev (fun h=>h48 h) d) rfl) []),trivial⟩),?_⟩ ?_
 ·simp only[go_sem,BX hev]
 revert h
 refine Sr ?_
 intro h
 obtain rfl:=Option.some.inj h
 refine Aj (Weak.refl _ _) ?_
 refine AB rfl (Bm (.inr rfl) ?_ rfl ?_)
 ·simp only[go_sem]
 ·show D3 [] _ [] _;simp only[go_sem]
theorem D0{b:Api_Env}{b_ m_:Nat}(hev:rs.ev=some (b_,m_,b.Has,b.V)){e:Api_Env→Api_Expr→Option (Int⊕Int)}(h48:∀{q1_:Api_Expr} {r:Int⊕Int},e b q1_=some r→PCon (B rs) 48 [.glob (b_+3),.agg (i64 q1_.Op::i64 q1_.N::(C1 i64 q1_.Unit.l++[.sl false (L cApi_Expr q1_.L)]))] [] (Ap r)){a:List Api_Expr}{r:Int⊕Int}(h:B6 e b a=some r):PCon (B rs) 46 [.glob (b_+3),.sl false (L cApi_Expr a)] [] (F6 r):=by
 refine Au (N:=26) (rs:=[.tmp 4]) 0 rfl ok Tryd.func46 rfl (by decide +kernel) rfl rfl (Nat.le_of_ble_eq_true rfl) (fun F=>?_)
 have hE:=(ok (rs:=rs)).env F
 unfold B6 at h
 show Run ((B rs).env F) 0 _ ⟨Am 26 [(0,.glob (b_+3)),(1,.sl false (L cApi_Expr a))],[]⟩ _
 refine AX ?_
 revert h
 refine Te [0,1] Ab (Ev (by simp only[go_sem,BX hev];exact Ak)) ?_
 refine Sq ?_
 intro h
 replace h:=Ae h;obtain⟨p,f,h⟩:=h
 rcases p with g|i
 rotate_left
 ·dsimp only at h
  refine Az hE [] 2 _ (v:=.iface 98 (.agg #[.int .i64 i])) (σ2:=[]) (vals:=[]) rfl rfl ⟨_,[(10,67,[.glob (b_+3),.sl false (L cApi_Expr a)],[],.val (.iface 98 (.agg #[.int .i64 i])),[])],Ab,⟨fun v hv=>by cases hv;exact Ai (PCon.pan (Al hev (fun h=>h48 h) f) rfl) [] (by decide) gs gs gs gs,trivial⟩,?_⟩ (fun fr_ hlen_ hfr_=>?_)
  ·simp only[go_sem,BX hev]
  refine B9 ?_
  obtain rfl:=Option.some.inj h
  refine Aj (Weak.refl _ _) ?_
  refine An rfl [] (by decide) rfl ?_
  simp only[go_sem]
 dsimp only at h
 refine Ao hE [0,1,5,6] (fr':=[(0,.glob (b_+3)),(1,.sl false (L cApi_Expr a)),(5,i64 g.1),(6,i64 g.2)]) (σ':=[]) ⟨_,(Ag (l:=[]) (m:=[(10,67,[.glob (b_+3),.sl false (L cApi_Expr a)],[],_,_)]) trivial ⟨(wc (PCon.to (Al hev (fun h=>h48 h) f) rfl) []),trivial⟩),?_⟩ ?_
 ·simp only[go_sem,BX hev]
 revert h
 refine Te [0,1,15] Ab (Ev (by simp only[go_sem,BX hev];exact Ak)) ?_
 refine Cd ?_ ?_
 ·intro h
  replace h:=Ep h;obtain⟨c,h⟩:=h
  replace h:=Ae h;obtain⟨q,j,h⟩:=h
  rcases q with s|k
  rotate_left
  ·dsimp only at h
   refine Az hE [] 4 _ (v:=.iface 98 (.agg #[.int .i64 k])) (σ2:=[]) (vals:=[]) rfl rfl ⟨_,[(20,48,[.glob (b_+3),.agg (i64 ((nth a 2).Op)::i64 ((nth a 2).N)::(C1 i64 ((nth a 2).Unit).l++[.sl false (L cApi_Expr ((nth a 2).L))]))],[],.val (.iface 98 (.agg #[.int .i64 k])),[])],Ab,⟨fun v hv=>by cases hv;exact Ai (PCon.pan (h48 j) rfl) [] (by decide) gs gs gs gs,trivial⟩,?_⟩ (fun fr_ hlen_ hfr_=>?_)
   ·simp only[go_sem,BX hev,c,(show 2<a.length from c.2)]
   refine B9 ?_
   obtain rfl:=Option.some.inj h
   refine Aj (Weak.refl _ _) ?_
   refine An rfl [] (by decide) rfl ?_
   simp only[go_sem]
  dsimp only at h
  refine Ao hE [4] (fr':=[(4,i64 s)]) (σ':=[]) ⟨_,(Ag (l:=[]) (m:=[(20,48,[.glob (b_+3),.agg (i64 ((nth a 2).Op)::i64 ((nth a 2).N)::(C1 i64 ((nth a 2).Unit).l++[.sl false (L cApi_Expr ((nth a 2).L))]))],[],_,_)]) trivial ⟨(wc (PCon.to (h48 j) rfl) []),trivial⟩),?_⟩ ?_
  ·simp only[go_sem,BX hev,c,(show 2<a.length from c.2)]
  revert h
  refine Sr <|Tr <|?_
  intro h
  obtain rfl:=Option.some.inj h
  refine Aj (Weak.refl _ _) ?_
  refine AB rfl (Bm (.inr rfl) ?_ rfl ?_)
  ·simp only[go_sem]
  ·show D3 [] _ [] _;simp only[go_sem]
 ·refine Sk <|Tn <|?_
  intro h
  replace h:=Ep h;obtain⟨d,h⟩:=h
  replace h:=Ae h;obtain⟨t,n,h⟩:=h
  rcases t with u|o
  rotate_left
  ·dsimp only at h
   refine Az hE [] 4 _ (v:=.iface 98 (.agg #[.int .i64 o])) (σ2:=[]) (vals:=[]) rfl rfl ⟨_,[(25,48,[.glob (b_+3),.agg (i64 ((nth a 3).Op)::i64 ((nth a 3).N)::(C1 i64 ((nth a 3).Unit).l++[.sl false (L cApi_Expr ((nth a 3).L))]))],[],.val (.iface 98 (.agg #[.int .i64 o])),[])],Ab,⟨fun v hv=>by cases hv;exact Ai (PCon.pan (h48 n) rfl) [] (by decide) gs gs gs gs,trivial⟩,?_⟩ (fun fr_ hlen_ hfr_=>?_)
   ·simp only[go_sem,BX hev,d,(show 3<a.length from d.2)]
   obtain rfl:=Option.some.inj h
   refine Aj (Weak.refl _ _) ?_
   refine An rfl [] (by decide) rfl ?_
   simp only[go_sem]
  dsimp only at h
  refine Ao hE [4] (fr':=[(4,i64 u)]) (σ':=[]) ⟨_,(Ag (l:=[]) (m:=[(25,48,[.glob (b_+3),.agg (i64 ((nth a 3).Op)::i64 ((nth a 3).N)::(C1 i64 ((nth a 3).Unit).l++[.sl false (L cApi_Expr ((nth a 3).L))]))],[],_,_)]) trivial ⟨(wc (PCon.to (h48 n) rfl) []),trivial⟩),?_⟩ ?_
  ·simp only[go_sem,BX hev,d,(show 3<a.length from d.2)]
  revert h
  refine Sr ?_
  intro h
  obtain rfl:=Option.some.inj h
  refine Aj (Weak.refl _ _) ?_
  refine AB rfl (Bm (.inr rfl) ?_ rfl ?_)
  ·simp only[go_sem]
  ·show D3 [] _ [] _;simp only[go_sem]
variable {rs:RS}
theorem F3{b:Api_Env}{b_ m_:Nat}(hev:rs.ev=some (b_,m_,b.Has,b.V)){rec_:Api_Env→Api_Expr→Option (Int⊕Int)}(hrec:∀{a:Api_Expr} {r:Int⊕Int},rec_ b a=some r→PCon (B rs) 48 [.glob (b_+3),.agg (i64 a.Op::i64 a.N::(C1 i64 a.Unit.l++[.sl false (L cApi_Expr a.L)]))] [] (Ap r)){a:Api_Expr}{r:Int⊕Int}(h:B7 rec_ b a=some r):PCon (B rs) 48 [.glob (b_+3),.agg (i64 a.Op::i64 a.N::(C1 i64 a.Unit.l++[.sl false (L cApi_Expr a.L)]))] [] (Ap r):=by
 refine Au (N:=27) (rs:=[.tmp 4]) 0 rfl ok Tryd.func48 rfl (by decide +kernel) rfl rfl (Nat.le_of_ble_eq_true rfl) (fun F=>?_)
 have hE:=(ok (rs:=rs)).env F
 unfold B7 at h
 show Run ((B rs).env F) 0 _ ⟨Am 27 [(0,.glob (b_+3)),(1,.agg (i64 a.Op::i64 a.N::(C1 i64 a.Unit.l++[.sl false (L cApi_Expr a.L)])))],[]⟩ _
 refine AX ?_
 revert h
 refine Te [0,3] Ab (Ev (by simp only[go_sem,BX hev];exact Ak)) ?_
 refine Sq <|Te [0,3,6] Ab (Ev (by simp only[go_sem,BX hev];exact Ak)) ?_
 refine Sb <|Te [0,3,6,7] Ab (Ev (by simp only[go_sem,BX hev];exact Ak)) ?_
 refine Cd ?_ ?_
 ·refine Te [4] Ab (Ev (by simp only[go_sem,BX hev];exact Ak)) ?_
  refine Sr <|Br <|Tr <|?_
  intro h
  obtain rfl:=Option.some.inj h
  refine Aj (Weak.refl _ _) ?_
  refine AB rfl (Bm (.inr rfl) ?_ rfl ?_)
  ·simp only[go_sem]
  ·show D3 [] _ [] _;simp only[go_sem]
 ·refine Te [0,3,11] Ab (Ev (by simp only[go_sem,BX hev];exact Ak)) ?_
  refine Cd ?_ ?_
  ·intro h
   replace h:=Ae h;obtain⟨ab,c,h⟩:=h
   rcases ab with ac|d
   rotate_left
   ·dsimp only at h
    refine Az hE [] 3 _ (v:=.iface 98 (.agg #[.int .i64 d])) (σ2:=[.box (i64 a.Op::i64 a.N::(C1 i64 a.Unit.l++[.sl false (L cApi_Expr a.L)])) false]) (vals:=[]) rfl rfl ⟨_,[(16,22,[.glob (b_+3),i64 a.N],[.box (i64 a.Op::i64 a.N::(C1 i64 a.Unit.l++[.sl false (L cApi_Expr a.L)])) false],.val (.iface 98 (.agg #[.int .i64 d])),[.box (i64 a.Op::i64 a.N::(C1 i64 a.Unit.l++[.sl false (L cApi_Expr a.L)])) false])],Ab,⟨fun v hv=>by cases hv;exact Ai (PCon.pan (BF hev c) rfl) [] (by decide) gs gs gs gs,trivial⟩,?_⟩ (fun fr_ hlen_ hfr_=>?_)
    ·simp only[go_sem,BX hev]
    refine Cx ?_
    refine B9 ?_
    obtain rfl:=Option.some.inj h
    refine Aj (Weak.refl _ _) ?_
    refine An rfl [] (by decide) rfl ?_
    simp only[go_sem]
   dsimp only at h
   refine Ao hE [4] (fr':=[(4,i64 ac)]) (σ':=[.box (i64 a.Op::i64 a.N::(C1 i64 a.Unit.l++[.sl false (L cApi_Expr a.L)])) false]) ⟨_,(Ag (l:=[]) (m:=[(16,22,[.glob (b_+3),i64 a.N],[.box (i64 a.Op::i64 a.N::(C1 i64 a.Unit.l++[.sl false (L cApi_Expr a.L)])) false],_,_)]) trivial ⟨(wc (PCon.to (BF hev c) rfl) []),trivial⟩),?_⟩ ?_
   ·simp only[go_sem,BX hev]
   revert h
   refine Sr <|Br <|Tr <|?_
   intro h
   obtain rfl:=Option.some.inj h
   refine Aj (Weak.refl _ _) ?_
   refine AB rfl (Bm (.inr rfl) ?_ rfl ?_)
   ·simp only[go_sem]
   ·show D3 [] _ [] _;simp only[go_sem]
  ·refine Sk <|Bn <|Tn <|?_
   by_cases hv3:a.Op=3
   ·rw[if_pos hv3]
    intro h
    replace h:=Ae h;obtain⟨ad,e,h⟩:=h
    rcases ad with ae|f
    rotate_left
    ·dsimp only at h
     refine EI hE Dl [] rfl [[],[0],[0,1],[0,1,2],[],[4],[0,1,2,3,4,5],[],[7],[0,1,2,3,4,5,6,7,8],[0,1,2,3,4,5,6,7,8,9]] (by kernel_rfl) 9 (by kernel_rfl) (by kernel_rfl) _ (v:=.iface 98 (.agg #[.int .i64 f])) (σ2:=[.box (i64 a.Op::i64 a.N::(C1 i64 a.Unit.l++[.sl false (L cApi_Expr a.L)])) false]) (vals:=[]) rfl rfl ⟨_,[(26,38,[.glob (b_+3),.sl false (L cApi_Expr a.L)],[.box (i64 a.Op::i64 a.N::(C1 i64 a.Unit.l++[.sl false (L cApi_Expr a.L)])) false],.val (.iface 98 (.agg #[.int .i64 f])),[.box (i64 a.Op::i64 a.N::(C1 i64 a.Unit.l++[.sl false (L cApi_Expr a.L)])) false])],Ab,⟨fun v hv=>by cases hv;exact Ai (PCon.pan (Ec hev (fun h=>hrec h) e) rfl) [] (by decide) gs gs gs gs,trivial⟩,?_⟩ (fun fr_ hlen_ hfr_=>?_)
     ·simp only[go_sem,BX hev,hv3,Ya hev]
     obtain rfl:=Option.some.inj h
     refine Aj (Weak.refl _ _) ?_
     refine An rfl [] (by decide) rfl ?_
     simp only[go_sem]
    dsimp only at h
    refine Eb hE Dl [[],[0],[0,1],[0,1,2],[],[4],[0,1,2,3,4,5],[],[7],[0,1,2,3,4,5,6,7,8],[0,1,2,3,4,5,6,7,8,9]] (by kernel_rfl) [(),(),(),(),(),(),(),(),()] [(),()] (by kernel_rfl) [] [] [] [4] (by kernel_rfl) (fr':=[(4,i64 ae)]) (σ':=[.box (i64 a.Op::i64 a.N::(C1 i64 a.Unit.l++[.sl false (L cApi_Expr a.L)])) false]) ⟨_,_,(Ag (l:=[]) (m:=[(26,38,[.glob (b_+3),.sl false (L cApi_Expr a.L)],[.box (i64 a.Op::i64 a.N::(C1 i64 a.Unit.l++[.sl false (L cApi_Expr a.L)])) false],_,_)]) trivial ⟨(wc (PCon.to (Ec hev (fun h=>hrec h) e) rfl) []),trivial⟩),(by repeat' (first|exact trivial|(refine And.intro ?_ ?_)|exact fun _=>rfl|exact fun h=>absurd h (by decide))),_,_,(by simp only[go_sem,BX hev,hv3,Ya hev];exact Ak),(by exact trivial),(by simp only[go_sem,BX hev,hv3,Ya hev];exact Ak)⟩ ?_
    revert h
    refine Sr ?_
    intro h
    obtain rfl:=Option.some.inj h
    refine Aj (Weak.refl _ _) ?_
    refine AB rfl (Bm (.inr rfl) ?_ rfl ?_)
    ·simp only[go_sem]
    ·show D3 [] _ [] _;simp only[go_sem]
   ·rw [if_neg hv3]
    by_cases hv4:a.Op=4
    ·rw[if_pos hv4]
     intro h
     replace h:=Ae h;obtain⟨af,g,h⟩:=h
     rcases af with ag|i
     rotate_left
     ·dsimp only at h
      refine EI hE Dl [] rfl [[],[0],[0,1],[0,1,2],[],[4],[0,1,2,3,4,5],[],[7],[0,1,2,3,4,5,6,7,8],[0,1,2,3,4,5,6,7,8,9]] (by kernel_rfl) 9 (by kernel_rfl) (by kernel_rfl) _ (v:=.iface 98 (.agg #[.int .i64 i])) (σ2:=[.box (i64 a.Op::i64 a.N::(C1 i64 a.Unit.l++[.sl false (L cApi_Expr a.L)])) false]) (vals:=[]) rfl rfl ⟨_,[(26,39,[.glob (b_+3),.sl false (L cApi_Expr a.L)],[.box (i64 a.Op::i64 a.N::(C1 i64 a.Unit.l++[.sl false (L cApi_Expr a.L)])) false],.val (.iface 98 (.agg #[.int .i64 i])),[.box (i64 a.Op::i64 a.N::(C1 i64 a.Unit.l++[.sl false (L cApi_Expr a.L)])) false])],Ab,⟨fun v hv=>by cases hv;exact Ai (PCon.pan (Ef hev (fun h=>hrec h) g) rfl) [] (by decide) gs gs gs gs,trivial⟩,?_⟩ (fun fr_ hlen_ hfr_=>?_)
      ·simp only[go_sem,BX hev,hv4,Y1 hev]
      obtain rfl:=Option.some.inj h
      refine Aj (Weak.refl _ _) ?_
      refine An rfl [] (by decide) rfl ?_
      simp only[go_sem]
     dsimp only at h
     refine Eb hE Dl [[],[0],[0,1],[0,1,2],[],[4],[0,1,2,3,4,5],[],[7],[0,1,2,3,4,5,6,7,8],[0,1,2,3,4,5,6,7,8,9]] (by kernel_rfl) [(),(),(),(),(),(),(),(),()] [(),()] (by kernel_rfl) [] [] [] [4] (by kernel_rfl) (fr':=[(4,i64 ag)]) (σ':=[.box (i64 a.Op::i64 a.N::(C1 i64 a.Unit.l++[.sl false (L cApi_Expr a.L)])) false]) ⟨_,_,(Ag (l:=[]) (m:=[(26,39,[.glob (b_+3),.sl false (L cApi_Expr a.L)],[.box (i64 a.Op::i64 a.N::(C1 i64 a.Unit.l++[.sl false (L cApi_Expr a.L)])) false],_,_)]) trivial ⟨(wc (PCon.to (Ef hev (fun h=>hrec h) g) rfl) []),trivial⟩),(by repeat' (first|exact trivial|(refine And.intro ?_ ?_)|exact fun _=>rfl|exact fun h=>absurd h (by decide))),_,_,(by simp only[go_sem,BX hev,hv4,Y1 hev];exact Ak),(by exact trivial),(by simp only[go_sem,BX hev,hv4,Y1 hev];exact Ak)⟩ ?_
     revert h
     refine Sr ?_
     intro h
     obtain rfl:=Option.some.inj h
     refine Aj (Weak.refl _ _) ?_
     refine AB rfl (Bm (.inr rfl) ?_ rfl ?_)
     ·simp only[go_sem]
     ·show D3 [] _ [] _;simp only[go_sem]
    ·rw [if_neg hv4]
     by_cases hv5:a.Op=5
     ·rw[if_pos hv5]
      intro h
      replace h:=Ae h;obtain⟨ah,j,h⟩:=h
      rcases ah with ai|k
      rotate_left
      ·dsimp only at h
       refine EI hE Dl [] rfl [[],[0],[0,1],[0,1,2],[],[4],[0,1,2,3,4,5],[],[7],[0,1,2,3,4,5,6,7,8],[0,1,2,3,4,5,6,7,8,9]] (by kernel_rfl) 9 (by kernel_rfl) (by kernel_rfl) _ (v:=.iface 98 (.agg #[.int .i64 k])) (σ2:=[.box (i64 a.Op::i64 a.N::(C1 i64 a.Unit.l++[.sl false (L cApi_Expr a.L)])) false]) (vals:=[]) rfl rfl ⟨_,[(26,40,[.glob (b_+3),.sl false (L cApi_Expr a.L)],[.box (i64 a.Op::i64 a.N::(C1 i64 a.Unit.l++[.sl false (L cApi_Expr a.L)])) false],.val (.iface 98 (.agg #[.int .i64 k])),[.box (i64 a.Op::i64 a.N::(C1 i64 a.Unit.l++[.sl false (L cApi_Expr a.L)])) false])],Ab,⟨fun v hv=>by cases hv;exact Ai (PCon.pan (DX hev (fun h=>hrec h) j) rfl) [] (by decide) gs gs gs gs,trivial⟩,?_⟩ (fun fr_ hlen_ hfr_=>?_)
       ·simp only[go_sem,BX hev,hv5,ZL hev]
       obtain rfl:=Option.some.inj h
       refine Aj (Weak.refl _ _) ?_
       refine An rfl [] (by decide) rfl ?_
       simp only[go_sem]
      dsimp only at h
      refine Eb hE Dl [[],[0],[0,1],[0,1,2],[],[4],[0,1,2,3,4,5],[],[7],[0,1,2,3,4,5,6,7,8],[0,1,2,3,4,5,6,7,8,9]] (by kernel_rfl) [(),(),(),(),(),(),(),(),()] [(),()] (by kernel_rfl) [] [] [] [4] (by kernel_rfl) (fr':=[(4,i64 ai)]) (σ':=[.box (i64 a.Op::i64 a.N::(C1 i64 a.Unit.l++[.sl false (L cApi_Expr a.L)])) false]) ⟨_,_,(Ag (l:=[]) (m:=[(26,40,[.glob (b_+3),.sl false (L cApi_Expr a.L)],[.box (i64 a.Op::i64 a.N::(C1 i64 a.Unit.l++[.sl false (L cApi_Expr a.L)])) false],_,_)]) trivial ⟨(wc (PCon.to (DX hev (fun h=>hrec h) j) rfl) []),trivial⟩),(by repeat' (first|exact trivial|(refine And.intro ?_ ?_)|exact fun _=>rfl|exact fun h=>absurd h (by decide))),_,_,(by simp only[go_sem,BX hev,hv5,ZL hev];exact Ak),(by exact trivial),(by simp only[go_sem,BX hev,hv5,ZL hev];exact Ak)⟩ ?_
      revert h
      refine Sr ?_
      intro h
      obtain rfl:=Option.some.inj h
      refine Aj (Weak.refl _ _) ?_
      refine AB rfl (Bm (.inr rfl) ?_ rfl ?_)
      ·simp only[go_sem]
      ·show D3 [] _ [] _;simp only[go_sem]
     ·rw [if_neg hv5]
      by_cases hv6:a.Op=6
      ·rw[if_pos hv6]
       intro h
       replace h:=Ae h;obtain⟨aj,n,h⟩:=h
       rcases aj with ak|o
       rotate_left
       ·dsimp only at h
        refine EI hE Dl [] rfl [[],[0],[0,1],[0,1,2],[],[4],[0,1,2,3,4,5],[],[7],[0,1,2,3,4,5,6,7,8],[0,1,2,3,4,5,6,7,8,9]] (by kernel_rfl) 9 (by kernel_rfl) (by kernel_rfl) _ (v:=.iface 98 (.agg #[.int .i64 o])) (σ2:=[.box (i64 a.Op::i64 a.N::(C1 i64 a.Unit.l++[.sl false (L cApi_Expr a.L)])) false]) (vals:=[]) rfl rfl ⟨_,[(26,41,[.glob (b_+3),.sl false (L cApi_Expr a.L)],[.box (i64 a.Op::i64 a.N::(C1 i64 a.Unit.l++[.sl false (L cApi_Expr a.L)])) false],.val (.iface 98 (.agg #[.int .i64 o])),[.box (i64 a.Op::i64 a.N::(C1 i64 a.Unit.l++[.sl false (L cApi_Expr a.L)])) false])],Ab,⟨fun v hv=>by cases hv;exact Ai (PCon.pan (D6 hev (fun h=>hrec h) n) rfl) [] (by decide) gs gs gs gs,trivial⟩,?_⟩ (fun fr_ hlen_ hfr_=>?_)
        ·simp only[go_sem,BX hev,hv6,Zq hev]
        obtain rfl:=Option.some.inj h
        refine Aj (Weak.refl _ _) ?_
        refine An rfl [] (by decide) rfl ?_
        simp only[go_sem]
       dsimp only at h
       refine Eb hE Dl [[],[0],[0,1],[0,1,2],[],[4],[0,1,2,3,4,5],[],[7],[0,1,2,3,4,5,6,7,8],[0,1,2,3,4,5,6,7,8,9]] (by kernel_rfl) [(),(),(),(),(),(),(),(),()] [(),()] (by kernel_rfl) [] [] [] [4] (by kernel_rfl) (fr':=[(4,i64 ak)]) (σ':=[.box (i64 a.Op::i64 a.N::(C1 i64 a.Unit.l++[.sl false (L cApi_Expr a.L)])) false]) ⟨_,_,(Ag (l:=[]) (m:=[(26,41,[.glob (b_+3),.sl false (L cApi_Expr a.L)],[.box (i64 a.Op::i64 a.N::(C1 i64 a.Unit.l++[.sl false (L cApi_Expr a.L)])) false],_,_)]) trivial ⟨(wc (PCon.to (D6 hev (fun h=>hrec h) n) rfl) []),trivial⟩),(by repeat' (first|exact trivial|(refine And.intro ?_ ?_)|exact fun _=>rfl|exact fun h=>absurd h (by decide))),_,_,(by simp only[go_sem,BX hev,hv6,Zq hev];exact Ak),(by exact trivial),(by simp only[go_sem,BX hev,hv6,Zq hev];exact Ak)⟩ ?_
       revert h
       refine Sr ?_
       intro h
       obtain rfl:=Option.some.inj h
       refine Aj (Weak.refl _ _) ?_
       refine AB rfl (Bm (.inr rfl) ?_ rfl ?_)
       ·simp only[go_sem]
       ·show D3 [] _ [] _;simp only[go_sem]
      ·rw [if_neg hv6]
       by_cases hv7:a.Op=7
       ·rw[if_pos hv7]
        intro h
        replace h:=Ae h;obtain⟨al,p,h⟩:=h
        rcases al with am|q
        rotate_left
        ·dsimp only at h
         refine EI hE Dl [] rfl [[],[0],[0,1],[0,1,2],[],[4],[0,1,2,3,4,5],[],[7],[0,1,2,3,4,5,6,7,8],[0,1,2,3,4,5,6,7,8,9]] (by kernel_rfl) 9 (by kernel_rfl) (by kernel_rfl) _ (v:=.iface 98 (.agg #[.int .i64 q])) (σ2:=[.box (i64 a.Op::i64 a.N::(C1 i64 a.Unit.l++[.sl false (L cApi_Expr a.L)])) false]) (vals:=[]) rfl rfl ⟨_,[(26,42,[.glob (b_+3),.sl false (L cApi_Expr a.L)],[.box (i64 a.Op::i64 a.N::(C1 i64 a.Unit.l++[.sl false (L cApi_Expr a.L)])) false],.val (.iface 98 (.agg #[.int .i64 q])),[.box (i64 a.Op::i64 a.N::(C1 i64 a.Unit.l++[.sl false (L cApi_Expr a.L)])) false])],Ab,⟨fun v hv=>by cases hv;exact Ai (PCon.pan (Df hev (fun h=>hrec h) p) rfl) [] (by decide) gs gs gs gs,trivial⟩,?_⟩ (fun fr_ hlen_ hfr_=>?_)
         ·simp only[go_sem,BX hev,hv7,Yz hev]
         obtain rfl:=Option.some.inj h
         refine Aj (Weak.refl _ _) ?_
         refine An rfl [] (by decide) rfl ?_
         simp only[go_sem]
        dsimp only at h
        refine Eb hE Dl [[],[0],[0,1],[0,1,2],[],[4],[0,1,2,3,4,5],[],[7],[0,1,2,3,4,5,6,7,8],[0,1,2,3,4,5,6,7,8,9]] (by kernel_rfl) [(),(),(),(),(),(),(),(),()] [(),()] (by kernel_rfl) [] [] [] [4] (by kernel_rfl) (fr':=[(4,i64 am)]) (σ':=[.box (i64 a.Op::i64 a.N::(C1 i64 a.Unit.l++[.sl false (L cApi_Expr a.L)])) false]) ⟨_,_,(Ag (l:=[]) (m:=[(26,42,[.glob (b_+3),.sl false (L cApi_Expr a.L)],[.box (i64 a.Op::i64 a.N::(C1 i64 a.Unit.l++[.sl false (L cApi_Expr a.L)])) false],_,_)]) trivial ⟨(wc (PCon.to (Df hev (fun h=>hrec h) p) rfl) []),trivial⟩),(by repeat' (first|exact trivial|(refine And.intro ?_ ?_)|exact fun _=>rfl|exact fun h=>absurd h (by decide))),_,_,(by simp only[go_sem,BX hev,hv7,Yz hev];exact Ak),(by exact trivial),(by simp only[go_sem,BX hev,hv7,Yz hev];exact Ak)⟩ ?_
        revert h
        refine Sr ?_
        intro h
        obtain rfl:=Option.some.inj h
        refine Aj (Weak.refl _ _) ?_
        refine AB rfl (Bm (.inr rfl) ?_ rfl ?_)
        ·simp only[go_sem]
        ·show D3 [] _ [] _;simp only[go_sem]
       ·rw [if_neg hv7]
        by_cases hv8:a.Op=8
        ·rw[if_pos hv8]
         intro h
         replace h:=Ae h;obtain⟨an,s,h⟩:=h
         rcases an with ao|t
         rotate_left
         ·dsimp only at h
          refine EI hE Dl [] rfl [[],[0],[0,1],[0,1,2],[],[4],[0,1,2,3,4,5],[],[7],[0,1,2,3,4,5,6,7,8],[0,1,2,3,4,5,6,7,8,9]] (by kernel_rfl) 9 (by kernel_rfl) (by kernel_rfl) _ (v:=.iface 98 (.agg #[.int .i64 t])) (σ2:=[.box (i64 a.Op::i64 a.N::(C1 i64 a.Unit.l++[.sl false (L cApi_Expr a.L)])) false]) (vals:=[]) rfl rfl ⟨_,[(26,43,[.glob (b_+3),.sl false (L cApi_Expr a.L)],[.box (i64 a.Op::i64 a.N::(C1 i64 a.Unit.l++[.sl false (L cApi_Expr a.L)])) false],.val (.iface 98 (.agg #[.int .i64 t])),[.box (i64 a.Op::i64 a.N::(C1 i64 a.Unit.l++[.sl false (L cApi_Expr a.L)])) false])],Ab,⟨fun v hv=>by cases hv;exact Ai (PCon.pan (DQ hev (fun h=>hrec h) s) rfl) [] (by decide) gs gs gs gs,trivial⟩,?_⟩ (fun fr_ hlen_ hfr_=>?_)
          ·simp only[go_sem,BX hev,hv8,ZM hev]
          obtain rfl:=Option.some.inj h
          refine Aj (Weak.refl _ _) ?_
          refine An rfl [] (by decide) rfl ?_
          simp only[go_sem]
         dsimp only at h
         refine Eb hE Dl [[],[0],[0,1],[0,1,2],[],[4],[0,1,2,3,4,5],[],[7],[0,1,2,3,4,5,6,7,8],[0,1,2,3,4,5,6,7,8,9]] (by kernel_rfl) [(),(),(),(),(),(),(),(),()] [(),()] (by kernel_rfl) [] [] [] [4] (by kernel_rfl) (fr':=[(4,i64 ao)]) (σ':=[.box (i64 a.Op::i64 a.N::(C1 i64 a.Unit.l++[.sl false (L cApi_Expr a.L)])) false]) ⟨_,_,(Ag (l:=[]) (m:=[(26,43,[.glob (b_+3),.sl false (L cApi_Expr a.L)],[.box (i64 a.Op::i64 a.N::(C1 i64 a.Unit.l++[.sl false (L cApi_Expr a.L)])) false],_,_)]) trivial ⟨(wc (PCon.to (DQ hev (fun h=>hrec h) s) rfl) []),trivial⟩),(by repeat' (first|exact trivial|(refine And.intro ?_ ?_)|exact fun _=>rfl|exact fun h=>absurd h (by decide))),_,_,(by simp only[go_sem,BX hev,hv8,ZM hev];exact Ak),(by exact trivial),(by simp only[go_sem,BX hev,hv8,ZM hev];exact Ak)⟩ ?_
         revert h
         refine Sr ?_
         intro h
         obtain rfl:=Option.some.inj h
         refine Aj (Weak.refl _ _) ?_
         refine AB rfl (Bm (.inr rfl) ?_ rfl ?_)
         ·simp only[go_sem]
         ·show D3 [] _ [] _;simp only[go_sem]
        ·rw [if_neg hv8]
         by_cases hv9:a.Op=9
         ·rw[if_pos hv9]
          intro h
          replace h:=Ae h;obtain⟨ap,u,h⟩:=h
          rcases ap with aq|w
          rotate_left
          ·dsimp only at h
           refine EI hE Dl [] rfl [[],[0],[0,1],[0,1,2],[],[4],[0,1,2,3,4,5],[],[7],[0,1,2,3,4,5,6,7,8],[0,1,2,3,4,5,6,7,8,9]] (by kernel_rfl) 9 (by kernel_rfl) (by kernel_rfl) _ (v:=.iface 98 (.agg #[.int .i64 w])) (σ2:=[.box (i64 a.Op::i64 a.N::(C1 i64 a.Unit.l++[.sl false (L cApi_Expr a.L)])) false]) (vals:=[]) rfl rfl ⟨_,[(26,44,[.glob (b_+3),.sl false (L cApi_Expr a.L)],[.box (i64 a.Op::i64 a.N::(C1 i64 a.Unit.l++[.sl false (L cApi_Expr a.L)])) false],.val (.iface 98 (.agg #[.int .i64 w])),[.box (i64 a.Op::i64 a.N::(C1 i64 a.Unit.l++[.sl false (L cApi_Expr a.L)])) false])],Ab,⟨fun v hv=>by cases hv;exact Ai (PCon.pan (Es hev (fun h=>hrec h) u) rfl) [] (by decide) gs gs gs gs,trivial⟩,?_⟩ (fun fr_ hlen_ hfr_=>?_)
           ·simp only[go_sem,BX hev,hv9,Zv hev]
           obtain rfl:=Option.some.inj h
           refine Aj (Weak.refl _ _) ?_
           refine An rfl [] (by decide) rfl ?_
           simp only[go_sem]
          dsimp only at h
          refine Eb hE Dl [[],[0],[0,1],[0,1,2],[],[4],[0,1,2,3,4,5],[],[7],[0,1,2,3,4,5,6,7,8],[0,1,2,3,4,5,6,7,8,9]] (by kernel_rfl) [(),(),(),(),(),(),(),(),()] [(),()] (by kernel_rfl) [] [] [] [4] (by kernel_rfl) (fr':=[(4,i64 aq)]) (σ':=[.box (i64 a.Op::i64 a.N::(C1 i64 a.Unit.l++[.sl false (L cApi_Expr a.L)])) false]) ⟨_,_,(Ag (l:=[]) (m:=[(26,44,[.glob (b_+3),.sl false (L cApi_Expr a.L)],[.box (i64 a.Op::i64 a.N::(C1 i64 a.Unit.l++[.sl false (L cApi_Expr a.L)])) false],_,_)]) trivial ⟨(wc (PCon.to (Es hev (fun h=>hrec h) u) rfl) []),trivial⟩),(by repeat' (first|exact trivial|(refine And.intro ?_ ?_)|exact fun _=>rfl|exact fun h=>absurd h (by decide))),_,_,(by simp only[go_sem,BX hev,hv9,Zv hev];exact Ak),(by exact trivial),(by simp only[go_sem,BX hev,hv9,Zv hev];exact Ak)⟩ ?_
          revert h
          refine Sr ?_
          intro h
          obtain rfl:=Option.some.inj h
          refine Aj (Weak.refl _ _) ?_
          refine AB rfl (Bm (.inr rfl) ?_ rfl ?_)
          ·simp only[go_sem]
          ·show D3 [] _ [] _;simp only[go_sem]
         ·rw [if_neg hv9]
          by_cases hv10:a.Op=10
          ·rw[if_pos hv10]
           intro h
           replace h:=Ae h;obtain⟨ar,x,h⟩:=h
           rcases ar with au|y
           rotate_left
           ·dsimp only at h
            refine EI hE Dl [] rfl [[],[0],[0,1],[0,1,2],[],[4],[0,1,2,3,4,5],[],[7],[0,1,2,3,4,5,6,7,8],[0,1,2,3,4,5,6,7,8,9]] (by kernel_rfl) 9 (by kernel_rfl) (by kernel_rfl) _ (v:=.iface 98 (.agg #[.int .i64 y])) (σ2:=[.box (i64 a.Op::i64 a.N::(C1 i64 a.Unit.l++[.sl false (L cApi_Expr a.L)])) false]) (vals:=[]) rfl rfl ⟨_,[(26,45,[.glob (b_+3),.sl false (L cApi_Expr a.L)],[.box (i64 a.Op::i64 a.N::(C1 i64 a.Unit.l++[.sl false (L cApi_Expr a.L)])) false],.val (.iface 98 (.agg #[.int .i64 y])),[.box (i64 a.Op::i64 a.N::(C1 i64 a.Unit.l++[.sl false (L cApi_Expr a.L)])) false])],Ab,⟨fun v hv=>by cases hv;exact Ai (PCon.pan (DR hev (fun h=>hrec h) x) rfl) [] (by decide) gs gs gs gs,trivial⟩,?_⟩ (fun fr_ hlen_ hfr_=>?_)
            ·simp only[go_sem,BX hev,hv10,Uk hev]
            obtain rfl:=Option.some.inj h
            refine Aj (Weak.refl _ _) ?_
            refine An rfl [] (by decide) rfl ?_
            simp only[go_sem]
           dsimp only at h
           refine Eb hE Dl [[],[0],[0,1],[0,1,2],[],[4],[0,1,2,3,4,5],[],[7],[0,1,2,3,4,5,6,7,8],[0,1,2,3,4,5,6,7,8,9]] (by kernel_rfl) [(),(),(),(),(),(),(),(),()] [(),()] (by kernel_rfl) [] [] [] [4] (by kernel_rfl) (fr':=[(4,i64 au)]) (σ':=[.box (i64 a.Op::i64 a.N::(C1 i64 a.Unit.l++[.sl false (L cApi_Expr a.L)])) false]) ⟨_,_,(Ag (l:=[]) (m:=[(26,45,[.glob (b_+3),.sl false (L cApi_Expr a.L)],[.box (i64 a.Op::i64 a.N::(C1 i64 a.Unit.l++[.sl false (L cApi_Expr a.L)])) false],_,_)]) trivial ⟨(wc (PCon.to (DR hev (fun h=>hrec h) x) rfl) []),trivial⟩),(by repeat' (first|exact trivial|(refine And.intro ?_ ?_)|exact fun _=>rfl|exact fun h=>absurd h (by decide))),_,_,(by simp only[go_sem,BX hev,hv10,Uk hev];exact Ak),(by exact trivial),(by simp only[go_sem,BX hev,hv10,Uk hev];exact Ak)⟩ ?_
           revert h
           refine Sr ?_
           intro h
           obtain rfl:=Option.some.inj h
           refine Aj (Weak.refl _ _) ?_
           refine AB rfl (Bm (.inr rfl) ?_ rfl ?_)
           ·simp only[go_sem]
           ·show D3 [] _ [] _;simp only[go_sem]
          ·rw[if_neg hv10]
           by_cases hv11:a.Op=11
           ·rw[if_pos hv11]
            intro h
            replace h:=Ae h;obtain⟨av,z,h⟩:=h
            rcases av with aw|aa
            rotate_left
            ·dsimp only at h
             refine EI hE Dl [] rfl [[],[0],[0,1],[0,1,2],[],[4],[0,1,2,3,4,5],[],[7],[0,1,2,3,4,5,6,7,8],[0,1,2,3,4,5,6,7,8,9]] (by kernel_rfl) 9 (by kernel_rfl) (by kernel_rfl) _ (v:=.iface 98 (.agg #[.int .i64 aa])) (σ2:=[.box (i64 a.Op::i64 a.N::(C1 i64 a.Unit.l++[.sl false (L cApi_Expr a.L)])) false]) (vals:=[]) rfl rfl ⟨_,[(26,46,[.glob (b_+3),.sl false (L cApi_Expr a.L)],[.box (i64 a.Op::i64 a.N::(C1 i64 a.Unit.l++[.sl false (L cApi_Expr a.L)])) false],.val (.iface 98 (.agg #[.int .i64 aa])),[.box (i64 a.Op::i64 a.N::(C1 i64 a.Unit.l++[.sl false (L cApi_Expr a.L)])) false])],Ab,⟨fun v hv=>by cases hv;exact Ai (PCon.pan (D0 hev (fun h=>hrec h) z) rfl) [] (by decide) gs gs gs gs,trivial⟩,?_⟩ (fun fr_ hlen_ hfr_=>?_)
             ·simp only[go_sem,BX hev,hv11,Uo hev]
             obtain rfl:=Option.some.inj h
             refine Aj (Weak.refl _ _) ?_
             refine An rfl [] (by decide) rfl ?_
             simp only[go_sem]
            dsimp only at h
            refine Eb hE Dl [[],[0],[0,1],[0,1,2],[],[4],[0,1,2,3,4,5],[],[7],[0,1,2,3,4,5,6,7,8],[0,1,2,3,4,5,6,7,8,9]] (by kernel_rfl) [(),(),(),(),(),(),(),(),()] [(),()] (by kernel_rfl) [] [] [] [4] (by kernel_rfl) (fr':=[(4,i64 aw)]) (σ':=[.box (i64 a.Op::i64 a.N::(C1 i64 a.Unit.l++[.sl false (L cApi_Expr a.L)])) false]) ⟨_,_,(Ag (l:=[]) (m:=[(26,46,[.glob (b_+3),.sl false (L cApi_Expr a.L)],[.box (i64 a.Op::i64 a.N::(C1 i64 a.Unit.l++[.sl false (L cApi_Expr a.L)])) false],_,_)]) trivial ⟨(wc (PCon.to (D0 hev (fun h=>hrec h) z) rfl) []),trivial⟩),(by repeat' (first|exact trivial|(refine And.intro ?_ ?_)|exact fun _=>rfl|exact fun h=>absurd h (by decide))),_,_,(by simp only[go_sem,BX hev,hv11,Uo hev];exact Ak),(by exact trivial),(by simp only[go_sem,BX hev,hv11,Uo hev];exact Ak)⟩ ?_
            revert h
            refine Sr ?_
            intro h
            obtain rfl:=Option.some.inj h
            refine Aj (Weak.refl _ _) ?_
            refine AB rfl (Bm (.inr rfl) ?_ rfl ?_)
            ·simp only[go_sem]
            ·show D3 [] _ [] _;simp only[go_sem]
           ·rw[if_neg hv11]
            intro h;cases h
theorem F5{b:Api_Env}{b_ m_:Nat}(hev:rs.ev=some (b_,m_,b.Has,b.V))(n:Nat):∀{a:Api_Expr} {r:Int⊕Int},Bh n b a=some r→PCon (B rs) 48 [.glob (b_+3),.agg (i64 a.Op::i64 a.N::(C1 i64 a.Unit.l++[.sl false (L cApi_Expr a.L)]))] [] (Ap r):=by
 induction n with
 |zero=>intro a r h;cases h
 |succ n ih=>intro a r h;exact F3 hev ih h
theorem Gc{b:Api_Env}{b_ m_:Nat}(hev:rs.ev=some (b_,m_,b.Has,b.V)){a:Api_Expr}{r:Int⊕Int}(h:Fb b a=some r):PCon (B rs) 48 [.glob (b_+3),.agg (i64 a.Op::i64 a.N::(C1 i64 a.Unit.l++[.sl false (L cApi_Expr a.L)]))] [] (Ap r):=F5 hev _ h
variable {rs:RS}
theorem Dz{a r}(h:Bi a=some r):Con (B rs) 63 [.ref 1 0] [.box [.sl false (L Aa a.l),i64 a.end_] false,.box [.ref 0 0] false] (fun r' σ'=>r'=i64 r.1∧σ'=[.box [.sl false (L Aa r.2.l),i64 r.2.end_] false,.box [.ref 0 0] false]):=by
 refine Co 2 4 [.tmp 1] Tryd.func63 (fun F hE=>?_) h
 unfold Bi
 refine T0 [0] ?_
 refine Sq <|Bd fun c b =>Te [3] (Ag (l:=[]) (m:=[(3,15,[.ref 0 0,.str ([42]:List UInt8)],[.box [.sl false (L Aa a.l),i64 a.end_] false,.box [.ref 0 0] false],_,_)]) trivial ⟨(wc (Ay b) [0]),trivial⟩) Ev ?_
 refine Cd ?_ ?_
 ·refine T0 [1] ?_
  exact Sr <|Tr <|Ro [0,1]
 ·refine Sk <|Tn <|T0 [1] ?_
  exact Sr <|Ro [0,1]
theorem DI{a r}(h:Bz a=some r):Con (B rs) 64 [.ref 1 0] [.box [.sl false (L Aa a.l),i64 a.end_] false,.box [.ref 0 0] false] (fun r' σ'=>r'=i64 r.1∧σ'=[.box [.sl false (L Aa r.2.l),i64 r.2.end_] false,.box [.ref 0 0] false]):=by
 refine Co 2 8 [.tmp 1] Tryd.func64 (fun F hE=>?_) h
 unfold Bz
 refine T0 [0] ?_
 refine Sq <|Sb <|Bd fun b c =>Te [0,2] (Ag (l:=[]) (m:=[(4,15,[.ref 0 0,.str ([43]:List UInt8)],[.box [.sl false (L Aa a.l),i64 a.end_] false,.box [.ref 0 0] false],_,_)]) trivial ⟨(wc (Ay c) [0]),trivial⟩) Ev ?_
 refine Cd ?_ ?_
 ·refine T0 [1] ?_
  exact Sr <|Br <|Tr <|Ro [0,1]
 ·refine Bd fun e d =>Te [5] (Ag (l:=[]) (m:=[(7,15,[.ref 0 0,.str ([45]:List UInt8)],[.box [.sl false (L Aa b.2.l),i64 b.2.end_] false,.box [.ref 0 0] false],_,_)]) trivial ⟨(wc (Ay d) [0]),trivial⟩) Ev ?_
  refine Cd ?_ ?_
  ·refine T0 [1] ?_
   exact Sr <|Br <|Tr <|Ro [0,1]
  ·refine Sk <|Bn <|Tn <|T0 [1] ?_
   exact Sr <|Ro [0,1]
theorem B4{t:Tparse_parser→Option ((Api_Expr×Tparse_parser)⊕(Int×Int×Tparse_parser))}(h32:∀{q0_:Tparse_parser} {r:(Api_Expr×Tparse_parser)⊕(Int×Int×Tparse_parser)},t q0_=some r→PCon (B rs) 32 [.ref 0 0] [.box [.sl false (L Aa q0_.l),i64 q0_.end_] false] (A9 r)){f:Tparse_parser}{b:Int}{a:List (List UInt8)}{r:(Api_Expr×Tparse_parser×List (List UInt8))⊕(Int×Int×Tparse_parser×List (List UInt8))}(h:Bk t f b a=some r):PCon (B rs) 77 [.ref 0 0,i64 b,.bs false 1 (a.length) 0 (a.length)] [.box [.sl false (L Aa f.l),i64 f.end_] false,.buf 1 (L Eg a) false] (F7 r):=by
 refine Au (N:=32) (rs:=[.cell 6 38]) 2 rfl ok Tryd.func77 rfl (by decide +kernel) rfl rfl (Nat.le_of_ble_eq_true rfl) (fun F=>?_)
 have hE:=(ok (rs:=rs)).env F
 unfold Bk at h
 show Run ((B rs).env F) 2 _ ⟨Am 32 [(0,.ref 0 0),(1,i64 b),(2,.bs false 1 (a.length) 0 (a.length))],[.box [.sl false (L Aa f.l),i64 f.end_] false,.buf 1 (L Eg a) false]⟩ _
 refine AX ?_
 revert h
 refine T0 [0,1,2,6] ?_
 intro h
 replace h:=Ae h;obtain⟨ag,aa,h⟩:=h
 rcases ag with q|g
 rotate_left
 ·dsimp only at h
  refine Az hE [] 1 _ (v:=.iface 50 (.agg #[.int .i64 g.1,.int .i64 g.2.1])) (σ2:=[.box [.sl false (L Aa g.2.2.l),i64 g.2.2.end_] false,.buf 1 (L Eg a) false,.box (i64 0::i64 0::(C1 i64 (Arr.rep 4 0).l++[.sl true (L cApi_Expr ([]))])) false]) (vals:=[]) rfl rfl ⟨_,[(11,11,[.ref 0 0,.str ([40]:List UInt8)],[.box [.sl false (L Aa f.l),i64 f.end_] false,.buf 1 (L Eg a) false,.box (i64 0::i64 0::(C1 i64 (Arr.rep 4 0).l++[.sl true (L cApi_Expr ([]))])) false],.val (.iface 50 (.agg #[.int .i64 g.1,.int .i64 g.2.1])),[.box [.sl false (L Aa g.2.2.l),i64 g.2.2.end_] false,.buf 1 (L Eg a) false,.box (i64 0::i64 0::(C1 i64 (Arr.rep 4 0).l++[.sl true (L cApi_Expr ([]))])) false])],Ab,⟨fun v hv=>by cases hv;exact Ai (PCon.pan (Ah aa) rfl) [0] (by decide) gs gs gs gs,trivial⟩,?_⟩ (fun fr_ hlen_ hfr_=>?_)
  ·simp only[go_sem]
  obtain rfl:=Option.some.inj h
  refine Aj (Weak.refl _ _) ?_
  refine An rfl [0,1] (by decide) rfl ?_
  simp only[go_sem]
 dsimp only at h
 refine Ao hE [0,1,2,6] (fr':=[(0,.ref 0 0),(1,i64 b),(2,.bs false 1 (a.length) 0 (a.length)),(6,.ref 2 0)]) (σ':=[.box [.sl false (L Aa q.l),i64 q.end_] false,.buf 1 (L Eg a) false,.box (i64 0::i64 0::(C1 i64 (Arr.rep 4 0).l++[.sl true (L cApi_Expr ([]))])) false]) ⟨_,(Ag (l:=[]) (m:=[(11,11,[.ref 0 0,.str ([40]:List UInt8)],[.box [.sl false (L Aa f.l),i64 f.end_] false,.buf 1 (L Eg a) false,.box (i64 0::i64 0::(C1 i64 (Arr.rep 4 0).l++[.sl true (L cApi_Expr ([]))])) false],_,_)]) trivial ⟨(wc (PCon.to (Ah aa) rfl) [0]),trivial⟩),?_⟩ ?_
 ·simp only[go_sem]
 revert h
 refine T0 [0,2,6,7] ?_
 refine Jo (fun⟨u,w,e⟩=>⟨Am 32 [(6,.ref 2 0),(7,.ref 3 0)],[.box [.sl false (L Aa u),i64 w] false,.buf 1 (L Eg a) false,.box (i64 0::i64 0::(C1 i64 (Arr.rep 4 0).l++[.sl true (L cApi_Expr ([]))])) false,.box (i64 b::i64 0::(C1 i64 (Arr.rep 4 0).l++[.bs false 4 (e.length) 0 (e.length)])) false,.buf 7 (L cApi_Expr e) false]⟩) ?_ ?_
 ·intro am ab
  refine T0 [0,6,7,14,15,16] ?_
  refine Sb ?_
  refine Lo (fun⟨p,k,n,c⟩=>⟨Am 32 [(0,.ref 0 0),(6,.ref 2 0),(7,.ref 3 0),(14,.bs false 1 (a.length) 0 (a.length)),(15,i64 (a.length:Int)),(16,i64 p)],[.box [.sl false (L Aa k),i64 n] false,.buf 1 (L Eg a) false,.box (i64 0::i64 0::(C1 i64 (Arr.rep 4 0).l++[.sl true (L cApi_Expr ([]))])) false,.box (i64 b::i64 0::(C1 i64 (Arr.rep 4 0).l++[.bs false 4 (c.length) 0 (c.length)])) false,.buf 7 (L cApi_Expr c) false]⟩) ((I3 3 6 7 (σ':=[.box [.sl false (L Aa q.l),i64 q.end_] false,.buf 1 (L Eg a) false,.box (i64 0::i64 0::(C1 i64 (Arr.rep 4 0).l++[.sl true (L cApi_Expr ([]))])) false,.box (i64 b::i64 0::(C1 i64 (Arr.rep 4 0).l++[.bs true 4 0 0 0])) false,.buf 7 (L cApi_Expr ([])) false]) rfl gs gs).trans (ws [0,1,2,3,4])) ?_
  rintro⟨p,k,n,c⟩ an ah x y
  show BB t a p k n c=some ah→_
  unfold BB
  refine T0 [0,6,7,14,15,16,17] ?_
  refine Sq <|Cd ?_ ?_
  ·refine Sk <|Tn <|Sq <|Sb <|Ck fun ai =>Lt fun s aj =>Te (fr':=[(0,_),(6,_),(7,_),(9,.str s),(14,_),(15,_),(16,_)]) [0,6,7,9,14,15,16] Ab (Ev (by simp only[go_sem,qR ai,aj];exact Ak)) ?_
   intro h
   replace h:=Ae h;obtain⟨ak,ac,h⟩:=h
   rcases ak with o|i
   rotate_left
   ·dsimp only at h
    refine EI hE Dl [] rfl [[],[0],[],[2],[2,3],[0,1,2,3,4],[0,1,2,3,4,5],[0,1,2,3,4,5,6]] (by kernel_rfl) 3 (by kernel_rfl) (by kernel_rfl) _ (v:=.iface 50 (.agg #[.int .i64 i.1,.int .i64 i.2.1])) (σ2:=[.box [.sl false (L Aa i.2.2.l),i64 i.2.2.end_] false,.buf 1 (L Eg a) false,.box (i64 0::i64 0::(C1 i64 (Arr.rep 4 0).l++[.sl true (L cApi_Expr ([]))])) false,.box (i64 b::i64 0::(C1 i64 (Arr.rep 4 0).l++[.bs false 4 (c.length) 0 (c.length)])) false,.buf 7 (L cApi_Expr c) false]) (vals:=[]) rfl rfl ⟨_,[(23,32,[.ref 0 0],[.box [.sl false (L Aa k),i64 n] false,.buf 1 (L Eg a) false,.box (i64 0::i64 0::(C1 i64 (Arr.rep 4 0).l++[.sl true (L cApi_Expr ([]))])) false,.box (i64 b::i64 0::(C1 i64 (Arr.rep 4 0).l++[.bs false 4 (c.length) 0 (c.length)])) false,.buf 7 (L cApi_Expr c) false],.val (.iface 50 (.agg #[.int .i64 i.1,.int .i64 i.2.1])),[.box [.sl false (L Aa i.2.2.l),i64 i.2.2.end_] false,.buf 1 (L Eg a) false,.box (i64 0::i64 0::(C1 i64 (Arr.rep 4 0).l++[.sl true (L cApi_Expr ([]))])) false,.box (i64 b::i64 0::(C1 i64 (Arr.rep 4 0).l++[.bs false 4 (c.length) 0 (c.length)])) false,.buf 7 (L cApi_Expr c) false])],Ab,⟨fun v hv=>by cases hv;exact Ai (PCon.pan (h32 ac) rfl) [0] (by decide) gs gs gs gs,trivial⟩,?_⟩ (fun fr_ hlen_ hfr_=>?_)
    ·simp only[go_sem]
    refine Cx ?_
    refine B9 ?_
    refine On ?_
    replace h:=Ae h;obtain⟨ao,h,e_z_3170⟩:=h
    obtain rfl:=Option.some.inj e_z_3170
    have ex_z_3170:=y _ rfl
    subst ex_z_3170
    obtain rfl:=Option.some.inj x
    refine Cx ?_
    refine E6 ?_
    replace h:=Ae h;obtain⟨ap,h,e_z_3169⟩:=h
    obtain rfl:=Option.some.inj e_z_3169
    obtain rfl:=Option.some.inj ab
    obtain rfl:=Option.some.inj h
    refine Aj (Weak.refl _ _) ?_
    refine An rfl [0,1] (by decide) rfl ?_
    simp only[go_sem]
   dsimp only at h
   replace h:=Ep h;obtain⟨z,h⟩:=h
   replace h:=HJ h;obtain⟨d,ad,h⟩:=h
   refine UA hE Dl [[],[0],[],[2],[2,3],[0,1,2,3,4],[0,1,2,3,4,5],[0,1,2,3,4,5,6]] (by kernel_rfl) 3 [0,1] [0,6,7,9,14,15,16,20] (by kernel_rfl) (fr':=[(0,.ref 0 0),(6,.ref 2 0),(7,.ref 3 0),(9,.str s),(14,.bs false 1 (a.length) 0 (a.length)),(15,i64 (a.length:Int)),(16,i64 p),(20,.ref 3 6)]) (σ':=[.box [.sl false (L Aa o.2.l),i64 o.2.end_] false,.buf 1 (L Eg a) false,.box (i64 0::i64 0::(C1 i64 (Arr.rep 4 0).l++[.sl true (L cApi_Expr ([]))])) false,.box (i64 b::i64 0::(C1 i64 (Arr.rep 4 0).l++[.bs false 4 (d.length) 0 (d.length)])) false,.buf 7 (L cApi_Expr d) false]) ⟨_,_,_,_,_,_,_,rfl,?_,(Ag (l:=[]) (m:=[(23,32,[.ref 0 0],[.box [.sl false (L Aa k),i64 n] false,.buf 1 (L Eg a) false,.box (i64 0::i64 0::(C1 i64 (Arr.rep 4 0).l++[.sl true (L cApi_Expr ([]))])) false,.box (i64 b::i64 0::(C1 i64 (Arr.rep 4 0).l++[.bs false 4 (c.length) 0 (c.length)])) false,.buf 7 (L cApi_Expr c) false],_,_)]) trivial ⟨(wc (PCon.to (h32 ac) rfl) [0]),trivial⟩),?_⟩ ?_
   ·subst ad;simp only[go_sem,z]
   ·subst ad;first|(simp only[go_sem,z];done)|(simp only[go_sem,z];simp only[Nat.add_comm 1])
   revert h
   intro h
   replace h:=Ae h;obtain⟨al,ae,h⟩:=h
   rcases al with af|j
   rotate_left
   ·dsimp only at h
    refine B5 hE [] 2 _ (v:=.iface 50 (.agg #[.int .i64 j.1,.int .i64 j.2.1])) (σ2:=[.box [.sl false (L Aa j.2.2.l),i64 j.2.2.end_] false,.buf 1 (L Eg a) false,.box (i64 0::i64 0::(C1 i64 (Arr.rep 4 0).l++[.sl true (L cApi_Expr ([]))])) false,.box (i64 b::i64 0::(C1 i64 (Arr.rep 4 0).l++[.bs false 4 (d.length) 0 (d.length)])) false,.buf 7 (L cApi_Expr d) false]) (vals:=[]) rfl rfl ⟨_,[(29,11,[.ref 0 0,.str s],[.box [.sl false (L Aa o.2.l),i64 o.2.end_] false,.buf 1 (L Eg a) false,.box (i64 0::i64 0::(C1 i64 (Arr.rep 4 0).l++[.sl true (L cApi_Expr ([]))])) false,.box (i64 b::i64 0::(C1 i64 (Arr.rep 4 0).l++[.bs false 4 (d.length) 0 (d.length)])) false,.buf 7 (L cApi_Expr d) false],.val (.iface 50 (.agg #[.int .i64 j.1,.int .i64 j.2.1])),[.box [.sl false (L Aa j.2.2.l),i64 j.2.2.end_] false,.buf 1 (L Eg a) false,.box (i64 0::i64 0::(C1 i64 (Arr.rep 4 0).l++[.sl true (L cApi_Expr ([]))])) false,.box (i64 b::i64 0::(C1 i64 (Arr.rep 4 0).l++[.bs false 4 (d.length) 0 (d.length)])) false,.buf 7 (L cApi_Expr d) false])],Ab,⟨fun v hv=>by cases hv;exact Ai (PCon.pan (Ah ae) rfl) [0] (by decide) gs gs gs gs,trivial⟩,?_⟩ (fun fr_ hlen_ hfr_=>?_)
    ·simp only[go_sem]
    refine Cx ?_
    refine B9 ?_
    refine On ?_
    replace h:=Ae h;obtain⟨aq,h,e_z_3179⟩:=h
    obtain rfl:=Option.some.inj e_z_3179
    have ex_z_3179:=y _ rfl
    subst ex_z_3179
    obtain rfl:=Option.some.inj x
    refine Cx ?_
    refine E6 ?_
    replace h:=Ae h;obtain⟨ar,h,e_z_3178⟩:=h
    obtain rfl:=Option.some.inj e_z_3178
    obtain rfl:=Option.some.inj ab
    obtain rfl:=Option.some.inj h
    refine Aj (Weak.refl _ _) ?_
    refine An rfl [0,1] (by decide) rfl ?_
    simp only[go_sem]
   dsimp only at h
   refine Bp hE (EJ EZ) [0,6,7,14,15,16] (fr':=[(0,.ref 0 0),(6,.ref 2 0),(7,.ref 3 0),(14,.bs false 1 (a.length) 0 (a.length)),(15,i64 (a.length:Int)),(16,i64 p)]) (σ':=[.box [.sl false (L Aa af.l),i64 af.end_] false,.buf 1 (L Eg a) false,.box (i64 0::i64 0::(C1 i64 (Arr.rep 4 0).l++[.sl true (L cApi_Expr ([]))])) false,.box (i64 b::i64 0::(C1 i64 (Arr.rep 4 0).l++[.bs false 4 (d.length) 0 (d.length)])) false,.buf 7 (L cApi_Expr d) false]) ⟨_,(Ag (l:=[]) (m:=[(29,11,[.ref 0 0,.str s],[.box [.sl false (L Aa o.2.l),i64 o.2.end_] false,.buf 1 (L Eg a) false,.box (i64 0::i64 0::(C1 i64 (Arr.rep 4 0).l++[.sl true (L cApi_Expr ([]))])) false,.box (i64 b::i64 0::(C1 i64 (Arr.rep 4 0).l++[.bs false 4 (d.length) 0 (d.length)])) false,.buf 7 (L cApi_Expr d) false],_,_)]) trivial ⟨(wc (PCon.to (Ah ae) rfl) [0]),trivial⟩),?_⟩ ?_
   ·simp only[go_sem]
   revert h
   refine Bn <|Tn <|F0 [0,6,7,14,15,16] ?_
   exact Ln (ws [0,1,2,3,4])
  ·refine Sx <|Tx <|Lx y x <|Bx <|?_
   exact Jn ((ws (l':=[(6,.ref 2 0),(7,.ref 3 0)]) (σ':=[.box [.sl false (L Aa k),i64 n] false,.buf 1 (L Eg a) false,.box (i64 0::i64 0::(C1 i64 (Arr.rep 4 0).l++[.sl true (L cApi_Expr ([]))])) false,.box (i64 b::i64 0::(C1 i64 (Arr.rep 4 0).l++[.bs false 4 (c.length) 0 (c.length)])) false,.buf 7 (L cApi_Expr c) false]) [0,1,2,3,4]).trans (ws [0,1,2,3,4]))
 rintro⟨u,w,e⟩
 refine T0 [6] ?_
 refine Sr ?_
 intro h
 obtain rfl:=Option.some.inj h
 refine Aj ((DC 2 6 (.bs false 4 (e.length) 0 (e.length)) (σ':=[.box [.sl false (L Aa u),i64 w] false,.buf 1 (L Eg a) false,.box (i64 b::i64 0::(C1 i64 (Arr.rep 4 0).l++[.sl false (L cApi_Expr e)])) false,.box (i64 b::i64 0::(C1 i64 (Arr.rep 4 0).l++[.bs false 4 (e.length) 0 (e.length)])) false,.buf 7 (L cApi_Expr e) true]) rfl rfl gs rfl gs gs gs).trans (Weak.refl _ _)) ?_
 refine R6 rfl (Qi (.inr rfl) [0,1] (by decide) rfl ?_ ?_)
 ·simp only[go_sem]
 ·simp only[go_sem]
variable {rs:RS}
theorem BH{x:Tparse_parser→Option ((Api_Expr×Tparse_parser)⊕(Int×Int×Tparse_parser))}(h32:∀{q0_:Tparse_parser} {r:(Api_Expr×Tparse_parser)⊕(Int×Int×Tparse_parser)},x q0_=some r→PCon (B rs) 32 [.ref 0 0] [.box [.sl false (L Aa q0_.l),i64 q0_.end_] false] (A9 r)){o:Tparse_parser}{r:(Api_Expr×Tparse_parser)⊕(Int×Int×Tparse_parser)}(h:Bw x o=some r):PCon (B rs) 62 [.ref 0 0] [.box [.sl false (L Aa o.l),i64 o.end_] false] (Gs r):=by
 refine Au (N:=47) (rs:=[.cell 2 38]) 1 rfl ok Tryd.func62 rfl (by decide +kernel) rfl rfl (Nat.le_of_ble_eq_true rfl) (fun F=>?_)
 have hE:=(ok (rs:=rs)).env F
 unfold Bw at h
 show Run ((B rs).env F) 1 _ ⟨Am 47 [(0,.ref 0 0)],[.box [.sl false (L Aa o.l),i64 o.end_] false]⟩ _
 refine AX ?_
 revert h
 refine T0 [0,2] ?_
 refine Sq <|Bd fun a ag =>Te [0,2,4] (Ag (l:=[]) (m:=[(11,26,[.ref 0 0,i64 2],[.box [.sl false (L Aa o.l),i64 o.end_] false,.box (i64 0::i64 0::(C1 i64 (Arr.rep 4 0).l++[.sl true (L cApi_Expr ([]))])) false],_,_)]) trivial ⟨(wc (Cg ag) [0]),trivial⟩) Ev ?_
 refine T0 [0,2,14] ?_
 refine Cd ?_ ?_
 ·intro h
  replace h:=Ae h;obtain⟨ah,y,h⟩:=h
  rcases ah with f|g
  rotate_left
  ·dsimp only at h
   refine Az hE [] 1 _ (v:=.iface 50 (.agg #[.int .i64 g.1,.int .i64 g.2.1])) (σ2:=[.box [.sl false (L Aa g.2.2.l),i64 g.2.2.end_] false,.box (i64 0::i64 0::(C1 i64 (Arr.rep 4 0).l++[.sl true (L cApi_Expr ([]))])) false,.box [i64 a.1.Za,.str a.1.Zb,i64 a.1.N,i64 a.1.At] false]) (vals:=[]) rfl rfl ⟨_,[(16,59,[.ref 0 0],[.box [.sl false (L Aa a.2.2.l),i64 a.2.2.end_] false,.box (i64 0::i64 0::(C1 i64 (Arr.rep 4 0).l++[.sl true (L cApi_Expr ([]))])) false,.box [i64 a.1.Za,.str a.1.Zb,i64 a.1.N,i64 a.1.At] false],.val (.iface 50 (.agg #[.int .i64 g.1,.int .i64 g.2.1])),[.box [.sl false (L Aa g.2.2.l),i64 g.2.2.end_] false,.box (i64 0::i64 0::(C1 i64 (Arr.rep 4 0).l++[.sl true (L cApi_Expr ([]))])) false,.box [i64 a.1.Za,.str a.1.Zb,i64 a.1.N,i64 a.1.At] false])],Ab,⟨fun v hv=>by cases hv;exact Ai (PCon.pan (A8 y) rfl) [0] (by decide) gs gs gs gs,trivial⟩,?_⟩ (fun fr_ hlen_ hfr_=>?_)
   ·simp only[go_sem]
   refine B9 ?_
   obtain rfl:=Option.some.inj h
   refine Aj (Weak.refl _ _) ?_
   refine An rfl [0] (by decide) rfl ?_
   simp only[go_sem]
  dsimp only at h
  refine Ao hE [0,2,5] (fr':=[(0,.ref 0 0),(2,.ref 1 0),(5,i64 f.1)]) (σ':=[.box [.sl false (L Aa f.2.l),i64 f.2.end_] false,.box (i64 0::i64 0::(C1 i64 (Arr.rep 4 0).l++[.sl true (L cApi_Expr ([]))])) false,.box [i64 a.1.Za,.str a.1.Zb,i64 a.1.N,i64 a.1.At] false]) ⟨_,(Ag (l:=[]) (m:=[(16,59,[.ref 0 0],[.box [.sl false (L Aa a.2.2.l),i64 a.2.2.end_] false,.box (i64 0::i64 0::(C1 i64 (Arr.rep 4 0).l++[.sl true (L cApi_Expr ([]))])) false,.box [i64 a.1.Za,.str a.1.Zb,i64 a.1.N,i64 a.1.At] false],_,_)]) trivial ⟨(wc (PCon.to (A8 y) rfl) [0]),trivial⟩),?_⟩ ?_
  ·simp only[go_sem]
  revert h
  intro h
  replace h:=Ae h;obtain⟨ai,z,h⟩:=h
  rcases ai with u|i
  rotate_left
  ·dsimp only at h
   refine Az hE [] 2 _ (v:=.iface 50 (.agg #[.int .i64 i.1,.int .i64 i.2.1])) (σ2:=[.box [.sl false (L Aa i.2.2.l),i64 i.2.2.end_] false,.box (i64 0::i64 0::(C1 i64 (Arr.rep 4 0).l++[.sl true (L cApi_Expr ([]))])) false,.box [i64 a.1.Za,.str a.1.Zb,i64 a.1.N,i64 a.1.At] false]) (vals:=[]) rfl rfl ⟨_,[(19,76,[.ref 0 0],[.box [.sl false (L Aa f.2.l),i64 f.2.end_] false,.box (i64 0::i64 0::(C1 i64 (Arr.rep 4 0).l++[.sl true (L cApi_Expr ([]))])) false,.box [i64 a.1.Za,.str a.1.Zb,i64 a.1.N,i64 a.1.At] false],.val (.iface 50 (.agg #[.int .i64 i.1,.int .i64 i.2.1])),[.box [.sl false (L Aa i.2.2.l),i64 i.2.2.end_] false,.box (i64 0::i64 0::(C1 i64 (Arr.rep 4 0).l++[.sl true (L cApi_Expr ([]))])) false,.box [i64 a.1.Za,.str a.1.Zb,i64 a.1.N,i64 a.1.At] false])],Ab,⟨fun v hv=>by cases hv;exact Ai (PCon.pan (Ew z) rfl) [0] (by decide) gs gs gs gs,trivial⟩,?_⟩ (fun fr_ hlen_ hfr_=>?_)
   ·simp only[go_sem]
   refine B9 ?_
   obtain rfl:=Option.some.inj h
   refine Aj (Weak.refl _ _) ?_
   refine An rfl [0] (by decide) rfl ?_
   simp only[go_sem]
  dsimp only at h
  refine Ao hE [2] (fr':=[(2,.ref 1 0)]) (σ':=[.box [.sl false (L Aa u.2.l),i64 u.2.end_] false,.box (i64 1::i64 f.1::(C1 i64 u.1.l++[.sl true (L cApi_Expr ([]))])) false,.box [i64 a.1.Za,.str a.1.Zb,i64 a.1.N,i64 a.1.At] false]) ⟨_,(Ag (l:=[]) (m:=[(19,76,[.ref 0 0],[.box [.sl false (L Aa f.2.l),i64 f.2.end_] false,.box (i64 0::i64 0::(C1 i64 (Arr.rep 4 0).l++[.sl true (L cApi_Expr ([]))])) false,.box [i64 a.1.Za,.str a.1.Zb,i64 a.1.N,i64 a.1.At] false],_,_)]) trivial ⟨(wc (PCon.to (Ew z) rfl) [0]),trivial⟩),?_⟩ ?_
  ·simp only[go_sem]
  revert h
  refine Sr <|Tr <|?_
  intro h
  obtain rfl:=Option.some.inj h
  refine Aj (Weak.refl _ _) ?_
  refine AB rfl (Bm (.inr rfl) ?_ rfl ?_)
  ·simp only[go_sem]
  ·show D3 [0] _ [0] _;simp only[go_sem]
 ·refine Sk <|Tn <|Sq <|Bd fun s aj =>Te [0,2,22] (Ag (l:=[]) (m:=[(22,15,[.ref 0 0,.str ([40]:List UInt8)],[.box [.sl false (L Aa a.2.2.l),i64 a.2.2.end_] false,.box (i64 0::i64 0::(C1 i64 (Arr.rep 4 0).l++[.sl true (L cApi_Expr ([]))])) false,.box [i64 a.1.Za,.str a.1.Zb,i64 a.1.N,i64 a.1.At] false],_,_)]) trivial ⟨(wc (Ay aj) [0]),trivial⟩) Ev ?_
  refine Cd ?_ ?_
  ·intro h
   replace h:=Ae h;obtain⟨ak,aa,h⟩:=h
   rcases ak with b|j
   rotate_left
   ·dsimp only at h
    refine Az hE [] 1 _ (v:=.iface 50 (.agg #[.int .i64 j.1,.int .i64 j.2.1])) (σ2:=[.box [.sl false (L Aa j.2.2.l),i64 j.2.2.end_] false,.box (i64 0::i64 0::(C1 i64 (Arr.rep 4 0).l++[.sl true (L cApi_Expr ([]))])) false,.box [i64 a.1.Za,.str a.1.Zb,i64 a.1.N,i64 a.1.At] false]) (vals:=[]) rfl rfl ⟨_,[(24,32,[.ref 0 0],[.box [.sl false (L Aa s.2.l),i64 s.2.end_] false,.box (i64 0::i64 0::(C1 i64 (Arr.rep 4 0).l++[.sl true (L cApi_Expr ([]))])) false,.box [i64 a.1.Za,.str a.1.Zb,i64 a.1.N,i64 a.1.At] false],.val (.iface 50 (.agg #[.int .i64 j.1,.int .i64 j.2.1])),[.box [.sl false (L Aa j.2.2.l),i64 j.2.2.end_] false,.box (i64 0::i64 0::(C1 i64 (Arr.rep 4 0).l++[.sl true (L cApi_Expr ([]))])) false,.box [i64 a.1.Za,.str a.1.Zb,i64 a.1.N,i64 a.1.At] false])],Ab,⟨fun v hv=>by cases hv;exact Ai (PCon.pan (h32 aa) rfl) [0] (by decide) gs gs gs gs,trivial⟩,?_⟩ (fun fr_ hlen_ hfr_=>?_)
    ·simp only[go_sem]
    refine B9 ?_
    obtain rfl:=Option.some.inj h
    refine Aj (Weak.refl _ _) ?_
    refine An rfl [0] (by decide) rfl ?_
    simp only[go_sem]
   dsimp only at h
   refine Ao hE [0,2,6] (fr':=[(0,.ref 0 0),(2,.ref 1 0),(6,.ref 3 0)]) (σ':=[.box [.sl false (L Aa b.2.l),i64 b.2.end_] false,.box (i64 0::i64 0::(C1 i64 (Arr.rep 4 0).l++[.sl true (L cApi_Expr ([]))])) false,.box [i64 a.1.Za,.str a.1.Zb,i64 a.1.N,i64 a.1.At] false,.box (i64 b.1.Op::i64 b.1.N::(C1 i64 b.1.Unit.l++[.sl false (L cApi_Expr b.1.L)])) false]) ⟨_,(Ag (l:=[]) (m:=[(24,32,[.ref 0 0],[.box [.sl false (L Aa s.2.l),i64 s.2.end_] false,.box (i64 0::i64 0::(C1 i64 (Arr.rep 4 0).l++[.sl true (L cApi_Expr ([]))])) false,.box [i64 a.1.Za,.str a.1.Zb,i64 a.1.N,i64 a.1.At] false],_,_)]) trivial ⟨(wc (PCon.to (h32 aa) rfl) [0]),trivial⟩),?_⟩ ?_
   ·simp only[go_sem]
   revert h
   intro h
   replace h:=Ae h;obtain⟨al,ab,h⟩:=h
   rcases al with ac|k
   rotate_left
   ·dsimp only at h
    refine Az hE [] 1 _ (v:=.iface 50 (.agg #[.int .i64 k.1,.int .i64 k.2.1])) (σ2:=[.box [.sl false (L Aa k.2.2.l),i64 k.2.2.end_] false,.box (i64 0::i64 0::(C1 i64 (Arr.rep 4 0).l++[.sl true (L cApi_Expr ([]))])) false,.box [i64 a.1.Za,.str a.1.Zb,i64 a.1.N,i64 a.1.At] false,.box (i64 b.1.Op::i64 b.1.N::(C1 i64 b.1.Unit.l++[.sl false (L cApi_Expr b.1.L)])) false]) (vals:=[]) rfl rfl ⟨_,[(26,11,[.ref 0 0,.str ([41]:List UInt8)],[.box [.sl false (L Aa b.2.l),i64 b.2.end_] false,.box (i64 0::i64 0::(C1 i64 (Arr.rep 4 0).l++[.sl true (L cApi_Expr ([]))])) false,.box [i64 a.1.Za,.str a.1.Zb,i64 a.1.N,i64 a.1.At] false,.box (i64 b.1.Op::i64 b.1.N::(C1 i64 b.1.Unit.l++[.sl false (L cApi_Expr b.1.L)])) false],.val (.iface 50 (.agg #[.int .i64 k.1,.int .i64 k.2.1])),[.box [.sl false (L Aa k.2.2.l),i64 k.2.2.end_] false,.box (i64 0::i64 0::(C1 i64 (Arr.rep 4 0).l++[.sl true (L cApi_Expr ([]))])) false,.box [i64 a.1.Za,.str a.1.Zb,i64 a.1.N,i64 a.1.At] false,.box (i64 b.1.Op::i64 b.1.N::(C1 i64 b.1.Unit.l++[.sl false (L cApi_Expr b.1.L)])) false])],Ab,⟨fun v hv=>by cases hv;exact Ai (PCon.pan (Ah ab) rfl) [0] (by decide) gs gs gs gs,trivial⟩,?_⟩ (fun fr_ hlen_ hfr_=>?_)
    ·simp only[go_sem]
    refine B9 ?_
    obtain rfl:=Option.some.inj h
    refine Aj (Weak.refl _ _) ?_
    refine An rfl [0] (by decide) rfl ?_
    simp only[go_sem]
   dsimp only at h
   refine Ao hE [2,6] (fr':=[(2,.ref 1 0),(6,.ref 3 0)]) (σ':=[.box [.sl false (L Aa ac.l),i64 ac.end_] false,.box (i64 0::i64 0::(C1 i64 (Arr.rep 4 0).l++[.sl true (L cApi_Expr ([]))])) false,.box [i64 a.1.Za,.str a.1.Zb,i64 a.1.N,i64 a.1.At] false,.box (i64 b.1.Op::i64 b.1.N::(C1 i64 b.1.Unit.l++[.sl false (L cApi_Expr b.1.L)])) false]) ⟨_,(Ag (l:=[]) (m:=[(26,11,[.ref 0 0,.str ([41]:List UInt8)],[.box [.sl false (L Aa b.2.l),i64 b.2.end_] false,.box (i64 0::i64 0::(C1 i64 (Arr.rep 4 0).l++[.sl true (L cApi_Expr ([]))])) false,.box [i64 a.1.Za,.str a.1.Zb,i64 a.1.N,i64 a.1.At] false,.box (i64 b.1.Op::i64 b.1.N::(C1 i64 b.1.Unit.l++[.sl false (L cApi_Expr b.1.L)])) false],_,_)]) trivial ⟨(wc (PCon.to (Ah ab) rfl) [0]),trivial⟩),?_⟩ ?_
   ·simp only[go_sem]
   revert h
   refine T0 [2] ?_
   refine Sr <|Tr <|?_
   intro h
   obtain rfl:=Option.some.inj h
   refine Aj (Weak.refl _ _) ?_
   refine AB rfl (Bm (.inr rfl) ?_ rfl ?_)
   ·simp only[go_sem]
   ·show D3 [0] _ [0] _;simp only[go_sem]
  ·refine Sk <|Tn <|Sq <|Bd fun t am =>Te [0,2,29] (Ag (l:=[]) (m:=[(29,15,[.ref 0 0,.str ([105,102]:List UInt8)],[.box [.sl false (L Aa s.2.l),i64 s.2.end_] false,.box (i64 0::i64 0::(C1 i64 (Arr.rep 4 0).l++[.sl true (L cApi_Expr ([]))])) false,.box [i64 a.1.Za,.str a.1.Zb,i64 a.1.N,i64 a.1.At] false],_,_)]) trivial ⟨(wc (Ay am) [0]),trivial⟩) Ev ?_
   refine Cd ?_ ?_
   ·intro h
    replace h:=Ae h;obtain⟨an,ad,h⟩:=h
    rcases an with p|c
    rotate_left
    ·dsimp only at h
     refine Az hE [] 2 _ (v:=.iface 50 (.agg #[.int .i64 c.1,.int .i64 c.2.1])) (σ2:=[.box [.sl false (L Aa c.2.2.1.l),i64 c.2.2.1.end_] false,.box (i64 0::i64 0::(C1 i64 (Arr.rep 4 0).l++[.sl true (L cApi_Expr ([]))])) false,.box [i64 a.1.Za,.str a.1.Zb,i64 a.1.N,i64 a.1.At] false,.buf 1 (L Eg c.2.2.2) false]) (vals:=[]) rfl rfl ⟨_,[(32,77,[.ref 0 0,i64 11,.bs true 3 (([([60]:List UInt8),([44]:List UInt8),([44]:List UInt8),([41]:List UInt8)]:List (List UInt8)).length) 0 (([([60]:List UInt8),([44]:List UInt8),([44]:List UInt8),([41]:List UInt8)]:List (List UInt8)).length)],[.box [.sl false (L Aa t.2.l),i64 t.2.end_] false,.box (i64 0::i64 0::(C1 i64 (Arr.rep 4 0).l++[.sl true (L cApi_Expr ([]))])) false,.box [i64 a.1.Za,.str a.1.Zb,i64 a.1.N,i64 a.1.At] false,.buf 1 (L Eg ([([60]:List UInt8),([44]:List UInt8),([44]:List UInt8),([41]:List UInt8)]:List (List UInt8))) false],.val (.iface 50 (.agg #[.int .i64 c.1,.int .i64 c.2.1])),[.box [.sl false (L Aa c.2.2.1.l),i64 c.2.2.1.end_] false,.box (i64 0::i64 0::(C1 i64 (Arr.rep 4 0).l++[.sl true (L cApi_Expr ([]))])) false,.box [i64 a.1.Za,.str a.1.Zb,i64 a.1.N,i64 a.1.At] false,.buf 1 (L Eg c.2.2.2) false])],Ab,⟨fun v hv=>by cases hv;exact Ai (PCon.pan (B4 (fun h=>h32 h) ad) rfl) [0,3] (by decide) gs gs gs gs,trivial⟩,?_⟩ (fun fr_ hlen_ hfr_=>?_)
     ·simp only[go_sem]
     refine B9 ?_
     obtain rfl:=Option.some.inj h
     refine Aj (Weak.refl _ _) ?_
     refine An rfl [0] (by decide) rfl ?_
     simp only[go_sem]
    dsimp only at h
    refine Ao hE [2] (fr':=[(2,.ref 1 0)]) (σ':=[.box [.sl false (L Aa p.2.1.l),i64 p.2.1.end_] false,.box (i64 p.1.Op::i64 p.1.N::(C1 i64 p.1.Unit.l++[.sl false (L cApi_Expr p.1.L)])) false,.box [i64 a.1.Za,.str a.1.Zb,i64 a.1.N,i64 a.1.At] false,.buf 1 (L Eg p.2.2) false]) ⟨_,(Ag (l:=[]) (m:=[(32,77,[.ref 0 0,i64 11,.bs true 3 (([([60]:List UInt8),([44]:List UInt8),([44]:List UInt8),([41]:List UInt8)]:List (List UInt8)).length) 0 (([([60]:List UInt8),([44]:List UInt8),([44]:List UInt8),([41]:List UInt8)]:List (List UInt8)).length)],[.box [.sl false (L Aa t.2.l),i64 t.2.end_] false,.box (i64 0::i64 0::(C1 i64 (Arr.rep 4 0).l++[.sl true (L cApi_Expr ([]))])) false,.box [i64 a.1.Za,.str a.1.Zb,i64 a.1.N,i64 a.1.At] false,.buf 1 (L Eg ([([60]:List UInt8),([44]:List UInt8),([44]:List UInt8),([41]:List UInt8)]:List (List UInt8))) false],_,_)]) trivial ⟨(wc (PCon.to (B4 (fun h=>h32 h) ad) rfl) [0,3]),trivial⟩),?_⟩ ?_
    ·simp only[go_sem]
    revert h
    refine Sr <|Tr <|?_
    intro h
    obtain rfl:=Option.some.inj h
    refine Aj (Weak.refl _ _) ?_
    refine AB rfl (Bm (.inr rfl) ?_ rfl ?_)
    ·simp only[go_sem]
    ·show D3 [0] _ [0] _;simp only[go_sem]
   ·refine Sk <|Tn <|Sq <|Bd fun d ao =>Te [0,2,7,8] (Ag (l:=[]) (m:=[(35,28,[.ref 0 0,.str ([109,105,110,32,109,97,120,32,100,111,119,110,32,117,112,32,104,97,108,102]:List UInt8)],[.box [.sl false (L Aa t.2.l),i64 t.2.end_] false,.box (i64 0::i64 0::(C1 i64 (Arr.rep 4 0).l++[.sl true (L cApi_Expr ([]))])) false,.box [i64 a.1.Za,.str a.1.Zb,i64 a.1.N,i64 a.1.At] false],_,_)]) trivial ⟨(wc (CG ao) [0]),trivial⟩) Ev ?_
    refine T0 [0,2,7,38] ?_
    refine Cd ?_ ?_
    ·intro h
     replace h:=Ae h;obtain⟨ap,ae,h⟩:=h
     rcases ap with q|e
     rotate_left
     ·dsimp only at h
      refine Az hE [] 4 _ (v:=.iface 50 (.agg #[.int .i64 e.1,.int .i64 e.2.1])) (σ2:=[.box [.sl false (L Aa e.2.2.1.l),i64 e.2.2.1.end_] false,.box (i64 0::i64 0::(C1 i64 (Arr.rep 4 0).l++[.sl true (L cApi_Expr ([]))])) false,.box [i64 a.1.Za,.str a.1.Zb,i64 a.1.N,i64 a.1.At] false,.buf 1 (L Eg e.2.2.2) false]) (vals:=[]) rfl rfl ⟨_,[(43,77,[.ref 0 0,i64 (w64 (6+d.1)),.bs true 3 (([([44]:List UInt8),([41]:List UInt8)]:List (List UInt8)).length) 0 (([([44]:List UInt8),([41]:List UInt8)]:List (List UInt8)).length)],[.box [.sl false (L Aa d.2.2.l),i64 d.2.2.end_] false,.box (i64 0::i64 0::(C1 i64 (Arr.rep 4 0).l++[.sl true (L cApi_Expr ([]))])) false,.box [i64 a.1.Za,.str a.1.Zb,i64 a.1.N,i64 a.1.At] false,.buf 1 (L Eg ([([44]:List UInt8),([41]:List UInt8)]:List (List UInt8))) false],.val (.iface 50 (.agg #[.int .i64 e.1,.int .i64 e.2.1])),[.box [.sl false (L Aa e.2.2.1.l),i64 e.2.2.1.end_] false,.box (i64 0::i64 0::(C1 i64 (Arr.rep 4 0).l++[.sl true (L cApi_Expr ([]))])) false,.box [i64 a.1.Za,.str a.1.Zb,i64 a.1.N,i64 a.1.At] false,.buf 1 (L Eg e.2.2.2) false])],Ab,⟨fun v hv=>by cases hv;exact Ai (PCon.pan (B4 (fun h=>h32 h) ae) rfl) [0,3] (by decide) gs gs gs gs,trivial⟩,?_⟩ (fun fr_ hlen_ hfr_=>?_)
      ·simp only[go_sem]
      refine B9 ?_
      obtain rfl:=Option.some.inj h
      refine Aj (Weak.refl _ _) ?_
      refine An rfl [0] (by decide) rfl ?_
      simp only[go_sem]
     dsimp only at h
     refine Ao hE [2] (fr':=[(2,.ref 1 0)]) (σ':=[.box [.sl false (L Aa q.2.1.l),i64 q.2.1.end_] false,.box (i64 q.1.Op::i64 q.1.N::(C1 i64 q.1.Unit.l++[.sl false (L cApi_Expr q.1.L)])) false,.box [i64 a.1.Za,.str a.1.Zb,i64 a.1.N,i64 a.1.At] false,.buf 1 (L Eg q.2.2) false]) ⟨_,(Ag (l:=[]) (m:=[(43,77,[.ref 0 0,i64 (w64 (6+d.1)),.bs true 3 (([([44]:List UInt8),([41]:List UInt8)]:List (List UInt8)).length) 0 (([([44]:List UInt8),([41]:List UInt8)]:List (List UInt8)).length)],[.box [.sl false (L Aa d.2.2.l),i64 d.2.2.end_] false,.box (i64 0::i64 0::(C1 i64 (Arr.rep 4 0).l++[.sl true (L cApi_Expr ([]))])) false,.box [i64 a.1.Za,.str a.1.Zb,i64 a.1.N,i64 a.1.At] false,.buf 1 (L Eg ([([44]:List UInt8),([41]:List UInt8)]:List (List UInt8))) false],_,_)]) trivial ⟨(wc (PCon.to (B4 (fun h=>h32 h) ae) rfl) [0,3]),trivial⟩),?_⟩ ?_
     ·simp only[go_sem]
     revert h
     refine Sr <|Tr <|?_
     intro h
     obtain rfl:=Option.some.inj h
     refine Aj (Weak.refl _ _) ?_
     refine AB rfl (Bm (.inr rfl) ?_ rfl ?_)
     ·simp only[go_sem]
     ·show D3 [0] _ [0] _;simp only[go_sem]
    ·refine Sk <|Tn <|?_
     intro h
     replace h:=Ae h;obtain⟨aq,af,h⟩:=h
     rcases aq with w|n
     rotate_left
     ·dsimp only at h
      refine Az hE [] 1 _ (v:=.iface 50 (.agg #[.int .i64 n.1,.int .i64 n.2.1])) (σ2:=[.box [.sl false (L Aa n.2.2.l),i64 n.2.2.end_] false,.box (i64 0::i64 0::(C1 i64 (Arr.rep 4 0).l++[.sl true (L cApi_Expr ([]))])) false,.box [i64 a.1.Za,.str a.1.Zb,i64 a.1.N,i64 a.1.At] false]) (vals:=[]) rfl rfl ⟨_,[(45,13,[.ref 0 0,.str ([116,121,112,101,32,111,119,110,101,114,32,114,97,105,108,119,97,121,32,115,104,105,112,112,101,114,32,99,108,97,115,115,32,119,101,105,103,104,116,32,107,109,32,109,105,110,117,116,101,115,32,119,111,114,107,105,110,103,32,99,111,100,101,32,119,111,114,116,104,32,99,111,115,116,32,109,111,110,116,104,32,98,101,103,105,110,32,112,97,114,116,115,32,112,97,114,116]:List UInt8)],[.box [.sl false (L Aa d.2.2.l),i64 d.2.2.end_] false,.box (i64 0::i64 0::(C1 i64 (Arr.rep 4 0).l++[.sl true (L cApi_Expr ([]))])) false,.box [i64 a.1.Za,.str a.1.Zb,i64 a.1.N,i64 a.1.At] false],.val (.iface 50 (.agg #[.int .i64 n.1,.int .i64 n.2.1])),[.box [.sl false (L Aa n.2.2.l),i64 n.2.2.end_] false,.box (i64 0::i64 0::(C1 i64 (Arr.rep 4 0).l++[.sl true (L cApi_Expr ([]))])) false,.box [i64 a.1.Za,.str a.1.Zb,i64 a.1.N,i64 a.1.At] false])],Ab,⟨fun v hv=>by cases hv;exact Ai (PCon.pan (AC af) rfl) [0] (by decide) gs gs gs gs,trivial⟩,?_⟩ (fun fr_ hlen_ hfr_=>?_)
      ·simp only[go_sem]
      obtain rfl:=Option.some.inj h
      refine Aj (Weak.refl _ _) ?_
      refine An rfl [0] (by decide) rfl ?_
      simp only[go_sem]
     dsimp only at h
     refine Ao hE [2] (fr':=[(2,.ref 1 0)]) (σ':=[.box [.sl false (L Aa w.2.l),i64 w.2.end_] false,.box (i64 2::i64 w.1::(C1 i64 (Arr.rep 4 0).l++[.sl true (L cApi_Expr ([]))])) false,.box [i64 a.1.Za,.str a.1.Zb,i64 a.1.N,i64 a.1.At] false]) ⟨_,(Ag (l:=[]) (m:=[(45,13,[.ref 0 0,.str ([116,121,112,101,32,111,119,110,101,114,32,114,97,105,108,119,97,121,32,115,104,105,112,112,101,114,32,99,108,97,115,115,32,119,101,105,103,104,116,32,107,109,32,109,105,110,117,116,101,115,32,119,111,114,107,105,110,103,32,99,111,100,101,32,119,111,114,116,104,32,99,111,115,116,32,109,111,110,116,104,32,98,101,103,105,110,32,112,97,114,116,115,32,112,97,114,116]:List UInt8)],[.box [.sl false (L Aa d.2.2.l),i64 d.2.2.end_] false,.box (i64 0::i64 0::(C1 i64 (Arr.rep 4 0).l++[.sl true (L cApi_Expr ([]))])) false,.box [i64 a.1.Za,.str a.1.Zb,i64 a.1.N,i64 a.1.At] false],_,_)]) trivial ⟨(wc (PCon.to (AC af) rfl) [0]),trivial⟩),?_⟩ ?_
     ·simp only[go_sem]
     revert h
     refine Sr ?_
     intro h
     obtain rfl:=Option.some.inj h
     refine Aj (Weak.refl _ _) ?_
     refine AB rfl (Bm (.inr rfl) ?_ rfl ?_)
     ·simp only[go_sem]
     ·show D3 [0] _ [0] _;simp only[go_sem]
variable {rs:RS}
theorem Cl{q:Tparse_parser→Option ((Api_Expr×Tparse_parser)⊕(Int×Int×Tparse_parser))}(h32:∀{q0_:Tparse_parser} {r:(Api_Expr×Tparse_parser)⊕(Int×Int×Tparse_parser)},q q0_=some r→PCon (B rs) 32 [.ref 0 0] [.box [.sl false (L Aa q0_.l),i64 q0_.end_] false] (A9 r)){c:Tparse_parser}{r:(Api_Expr×Tparse_parser)⊕(Int×Int×Tparse_parser)}(h:AG q c=some r):PCon (B rs) 61 [.ref 0 0,.fn 62 [.tup [.ref 0 0]],.fn 63 [.ref 1 0]] [.box [.sl false (L Aa c.l),i64 c.end_] false,.box [.ref 0 0] false] (DS r):=by
 refine Au (N:=24) (rs:=[.cell 6 38]) 2 rfl ok Tryd.func61 rfl (by decide +kernel) rfl rfl (Nat.le_of_ble_eq_true rfl) (fun F=>?_)
 have hE:=(ok (rs:=rs)).env F
 unfold AG at h
 show Run ((B rs).env F) 2 _ ⟨Am 24 [(0,.ref 0 0),(1,.fn 62 [.tup [.ref 0 0]]),(2,.fn 63 [.ref 1 0])],[.box [.sl false (L Aa c.l),i64 c.end_] false,.box [.ref 0 0] false]⟩ _
 refine AX ?_
 revert h
 refine T0 [1,2,6] ?_
 intro h
 replace h:=Ae h;obtain⟨ae,s,h⟩:=h
 rcases ae with a|d
 rotate_left
 ·dsimp only at h
  refine Az hE [] 1 _ (v:=.iface 50 (.agg #[.int .i64 d.1,.int .i64 d.2.1])) (σ2:=[.box [.sl false (L Aa d.2.2.l),i64 d.2.2.end_] false,.box [.ref 0 0] false,.box (i64 0::i64 0::(C1 i64 (Arr.rep 4 0).l++[.sl true (L cApi_Expr ([]))])) false]) (vals:=[]) rfl rfl ⟨_,[(10,62,[.ref 0 0],[.box [.sl false (L Aa c.l),i64 c.end_] false,.box [.ref 0 0] false,.box (i64 0::i64 0::(C1 i64 (Arr.rep 4 0).l++[.sl true (L cApi_Expr ([]))])) false],.val (.iface 50 (.agg #[.int .i64 d.1,.int .i64 d.2.1])),[.box [.sl false (L Aa d.2.2.l),i64 d.2.2.end_] false,.box [.ref 0 0] false,.box (i64 0::i64 0::(C1 i64 (Arr.rep 4 0).l++[.sl true (L cApi_Expr ([]))])) false])],Ab,⟨fun v hv=>by cases hv;exact Ai (PCon.pan (BH (fun h=>h32 h) s) rfl) [0] (by decide) gs gs gs gs,trivial⟩,?_⟩ (fun fr_ hlen_ hfr_=>?_)
  ·simp only[go_sem]
  obtain rfl:=Option.some.inj h
  refine Aj (Weak.refl _ _) ?_
  refine An rfl [0,1] (by decide) rfl ?_
  simp only[go_sem]
 dsimp only at h
 refine Ao hE [1,2,6,7] (fr':=[(1,.fn 62 [.tup [.ref 0 0]]),(2,.fn 63 [.ref 1 0]),(6,.ref 2 0),(7,.ref 3 0)]) (σ':=[.box [.sl false (L Aa a.2.l),i64 a.2.end_] false,.box [.ref 0 0] false,.box (i64 0::i64 0::(C1 i64 (Arr.rep 4 0).l++[.sl true (L cApi_Expr ([]))])) false,.box (i64 a.1.Op::i64 a.1.N::(C1 i64 a.1.Unit.l++[.sl false (L cApi_Expr a.1.L)])) false]) ⟨_,(Ag (l:=[]) (m:=[(10,62,[.ref 0 0],[.box [.sl false (L Aa c.l),i64 c.end_] false,.box [.ref 0 0] false,.box (i64 0::i64 0::(C1 i64 (Arr.rep 4 0).l++[.sl true (L cApi_Expr ([]))])) false],_,_)]) trivial ⟨(wc (PCon.to (BH (fun h=>h32 h) s) rfl) [0]),trivial⟩),?_⟩ ?_
 ·simp only[go_sem]
 revert h
 refine Jo (fun⟨t,u,w,x,y,z⟩=>⟨Am 24 [(6,.ref 2 0),(7,.ref 3 0)],[.box [.sl false (L Aa t),i64 u] false,.box [.ref 0 0] false,.box (i64 0::i64 0::(C1 i64 (Arr.rep 4 0).l++[.sl true (L cApi_Expr ([]))])) false,.box (i64 w::i64 x::(C1 i64 y.l++[.sl false (L cApi_Expr z)])) false]⟩) ?_ ?_
 ·intro al af
  refine Bd fun am ag =>Te [1,2,6,7,8] (Ag (l:=[]) (m:=[(12,63,[.ref 1 0],[.box [.sl false (L Aa a.2.l),i64 a.2.end_] false,.box [.ref 0 0] false,.box (i64 0::i64 0::(C1 i64 (Arr.rep 4 0).l++[.sl true (L cApi_Expr ([]))])) false,.box (i64 a.1.Op::i64 a.1.N::(C1 i64 a.1.Unit.l++[.sl false (L cApi_Expr a.1.L)])) false],_,_)]) trivial ⟨(wc (Dz ag) [0,1]),trivial⟩) Ev ?_
  refine Sb ?_
  refine Lo (fun⟨k,n,o,e,f,g,i⟩=>⟨Am 24 [(1,.fn 62 [.tup [.ref 0 0]]),(2,.fn 63 [.ref 1 0]),(6,.ref 2 0),(7,.ref 3 0),(8,i64 k)],[.box [.sl false (L Aa n),i64 o] false,.box [.ref 0 0] false,.box (i64 0::i64 0::(C1 i64 (Arr.rep 4 0).l++[.sl true (L cApi_Expr ([]))])) false,.box (i64 e::i64 f::(C1 i64 g.l++[.sl false (L cApi_Expr i)])) false]⟩) (ws [0,1,2,3]) ?_
  rintro⟨k,n,o,e,f,g,i⟩ an ah aa ab
  show AU q k n o e f g i=some ah→_
  unfold AU
  refine Sq <|T0 [1,2,6,7,8,14] ?_
  refine Cd ?_ ?_
  ·refine Sk <|Tn <|Sq <|Sb <|?_
   intro h
   replace h:=Ae h;obtain⟨ai,ac,h⟩:=h
   rcases ai with p|j
   rotate_left
   ·dsimp only at h
    refine Hr hE Dl [] rfl [[],[],[],[2],[1,2,3],[0,1,2,3,4],[0,1,2,3,4,5]] (by kernel_rfl) 3 (by kernel_rfl) (by kernel_rfl) _ (v:=.iface 50 (.agg #[.int .i64 j.1,.int .i64 j.2.1])) (σ2:=[.box [.sl false (L Aa j.2.2.l),i64 j.2.2.end_] false,.box [.ref 0 0] false,.box (i64 0::i64 0::(C1 i64 (Arr.rep 4 0).l++[.sl true (L cApi_Expr ([]))])) false,.box (i64 e::i64 f::(C1 i64 g.l++[.sl false (L cApi_Expr i)])) false]) (vals:=[]) rfl rfl ⟨_,[(20,62,[.ref 0 0],[.box [.sl false (L Aa n),i64 o] false,.box [.ref 0 0] false,.box (i64 0::i64 0::(C1 i64 (Arr.rep 4 0).l++[.sl true (L cApi_Expr ([]))])) false,.box (i64 e::i64 f::(C1 i64 g.l++[.sl false (L cApi_Expr i)])) false],.val (.iface 50 (.agg #[.int .i64 j.1,.int .i64 j.2.1])),[.box [.sl false (L Aa j.2.2.l),i64 j.2.2.end_] false,.box [.ref 0 0] false,.box (i64 0::i64 0::(C1 i64 (Arr.rep 4 0).l++[.sl true (L cApi_Expr ([]))])) false,.box (i64 e::i64 f::(C1 i64 g.l++[.sl false (L cApi_Expr i)])) false])],Ab,⟨fun v hv=>by cases hv;exact Ai (PCon.pan (BH (fun h=>h32 h) ac) rfl) [0] (by decide) gs gs gs gs,trivial⟩,?_⟩ (fun fr_ hlen_ hfr_=>?_)
    ·simp only[go_sem]
    refine Cx ?_
    refine B9 ?_
    refine On ?_
    replace h:=Ae h;obtain⟨ao,h,e_z_3328⟩:=h
    obtain rfl:=Option.some.inj e_z_3328
    have ex_z_3328:=ab _ rfl
    subst ex_z_3328
    obtain rfl:=Option.some.inj aa
    refine Cx ?_
    refine E6 ?_
    replace h:=Ae h;obtain⟨ap,h,e_z_3327⟩:=h
    obtain rfl:=Option.some.inj e_z_3327
    obtain rfl:=Option.some.inj af
    obtain rfl:=Option.some.inj h
    refine Aj (Weak.refl _ _) ?_
    refine An rfl [0,1] (by decide) rfl ?_
    simp only[go_sem]
   dsimp only at h
   replace h:=HJ h;obtain⟨b,aj,h⟩:=h
   refine HM hE Dl [[],[],[],[2],[1,2,3],[0,1,2,3,4],[0,1,2,3,4,5]] (by kernel_rfl) [(7,3)] [(20,3)] [1,2,6,7] (by kernel_rfl) (EJ EZ) (fr':=[(1,.fn 62 [.tup [.ref 0 0]]),(2,.fn 63 [.ref 1 0]),(6,.ref 2 0),(7,.ref 3 0)]) (σ':=[.box [.sl false (L Aa p.2.l),i64 p.2.end_] false,.box [.ref 0 0] false,.box (i64 0::i64 0::(C1 i64 (Arr.rep 4 0).l++[.sl true (L cApi_Expr ([]))])) false,.box (i64 k::i64 0::(C1 i64 (Arr.rep 4 0).l++[.bs true 4 (b.length) 0 (b.length)])) false,.buf 7 (L cApi_Expr b) false]) ⟨rfl,trivial⟩ ⟨_,_,(Ag (l:=[]) (m:=[(20,62,[.ref 0 0],[.box [.sl false (L Aa n),i64 o] false,.box [.ref 0 0] false,.box (i64 0::i64 0::(C1 i64 (Arr.rep 4 0).l++[.sl true (L cApi_Expr ([]))])) false,.box (i64 e::i64 f::(C1 i64 g.l++[.sl false (L cApi_Expr i)])) false],_,_)]) trivial ⟨(wc (PCon.to (BH (fun h=>h32 h) ac) rfl) [0]),trivial⟩),(by repeat' (first|exact trivial|(refine And.intro ?_ ?_)|exact fun _=>rfl|exact fun h=>absurd h (by decide))),?_⟩ ?_
   ·subst aj;first|(simp only[go_sem];done)|(simp only[go_sem];simp only[Nat.add_comm 1])
   revert h
   refine Bn <|Tn <|Bd fun ad ak =>Fe [1,2,6,7,8] (Ag (l:=[]) (m:=[(16,63,[.ref 1 0],[.box [.sl false (L Aa p.2.l),i64 p.2.end_] false,.box [.ref 0 0] false,.box (i64 0::i64 0::(C1 i64 (Arr.rep 4 0).l++[.sl true (L cApi_Expr ([]))])) false,.box (i64 k::i64 0::(C1 i64 (Arr.rep 4 0).l++[.bs true 4 (b.length) 0 (b.length)])) false,.buf 7 (L cApi_Expr b) false],_,_)]) trivial ⟨(wc (Dz ak) [0,1]),trivial⟩) Ev ?_
   exact Ln ((DC 3 6 (.bs true 4 (b.length) 0 (b.length)) (σ':=[.box [.sl false (L Aa ad.2.l),i64 ad.2.end_] false,.box [.ref 0 0] false,.box (i64 0::i64 0::(C1 i64 (Arr.rep 4 0).l++[.sl true (L cApi_Expr ([]))])) false,.box (i64 k::i64 0::(C1 i64 (Arr.rep 4 0).l++[.sl false (L cApi_Expr b)])) false,.buf 7 (L cApi_Expr b) true]) rfl rfl gs rfl gs gs gs).trans (ws [0,1,2,3]))
  ·refine Sx <|Tx <|Lx ab aa <|Bx <|?_
   exact Jn ((ws (l':=[(6,.ref 2 0),(7,.ref 3 0)]) (σ':=[.box [.sl false (L Aa n),i64 o] false,.box [.ref 0 0] false,.box (i64 0::i64 0::(C1 i64 (Arr.rep 4 0).l++[.sl true (L cApi_Expr ([]))])) false,.box (i64 e::i64 f::(C1 i64 g.l++[.sl false (L cApi_Expr i)])) false]) [0,1,2,3]).trans (ws [0,1,2,3]))
 rintro⟨t,u,w,x,y,z⟩
 refine T0 [6] ?_
 refine Sr ?_
 intro h
 obtain rfl:=Option.some.inj h
 refine Aj (Weak.refl _ _) ?_
 refine AB rfl (Bm (.inr rfl) ?_ rfl ?_)
 ·simp only[go_sem]
 ·show D3 [0,1] _ [0,1] _;simp only[go_sem]
theorem BG{d:Tparse_parser→Option ((Api_Expr×Tparse_parser)⊕(Int×Int×Tparse_parser))}(h32:∀{q0_:Tparse_parser} {r:(Api_Expr×Tparse_parser)⊕(Int×Int×Tparse_parser)},d q0_=some r→PCon (B rs) 32 [.ref 0 0] [.box [.sl false (L Aa q0_.l),i64 q0_.end_] false] (A9 r)){a:Tparse_parser}{r:(Api_Expr×Tparse_parser)⊕(Int×Int×Tparse_parser)}(h:B1 d a=some r):PCon (B rs) 60 [.ref 1 0] [.box [.sl false (L Aa a.l),i64 a.end_] false,.box [.ref 0 0] false] (FY r):=by
 refine Au (N:=7) (rs:=[.cell 1 38]) 2 rfl ok Tryd.func60 rfl (by decide +kernel) rfl rfl (Nat.le_of_ble_eq_true rfl) (fun F=>?_)
 have hE:=(ok (rs:=rs)).env F
 unfold B1 at h
 show Run ((B rs).env F) 2 _ ⟨Am 7 [(0,.ref 1 0)],[.box [.sl false (L Aa a.l),i64 a.end_] false,.box [.ref 0 0] false]⟩ _
 refine AX ?_
 revert h
 refine T0 [0,1] ?_
 intro h
 replace h:=Ae h;obtain⟨f,e,h⟩:=h
 rcases f with c|b
 rotate_left
 ·dsimp only at h
  refine Az hE [] 4 _ (v:=.iface 50 (.agg #[.int .i64 b.1,.int .i64 b.2.1])) (σ2:=[.box [.sl false (L Aa b.2.2.l),i64 b.2.2.end_] false,.box [.ref 0 0] false,.box (i64 0::i64 0::(C1 i64 (Arr.rep 4 0).l++[.sl true (L cApi_Expr ([]))])) false]) (vals:=[]) rfl rfl ⟨_,[(6,61,[.ref 0 0,.fn 62 [.tup [.ref 0 0]],.fn 63 [.ref 1 0]],[.box [.sl false (L Aa a.l),i64 a.end_] false,.box [.ref 0 0] false,.box (i64 0::i64 0::(C1 i64 (Arr.rep 4 0).l++[.sl true (L cApi_Expr ([]))])) false],.val (.iface 50 (.agg #[.int .i64 b.1,.int .i64 b.2.1])),[.box [.sl false (L Aa b.2.2.l),i64 b.2.2.end_] false,.box [.ref 0 0] false,.box (i64 0::i64 0::(C1 i64 (Arr.rep 4 0).l++[.sl true (L cApi_Expr ([]))])) false])],Ab,⟨fun v hv=>by cases hv;exact Ai (PCon.pan (Cl (fun h=>h32 h) e) rfl) [0,1] (by decide) gs gs gs gs,trivial⟩,?_⟩ (fun fr_ hlen_ hfr_=>?_)
  ·simp only[go_sem]
  obtain rfl:=Option.some.inj h
  refine Aj (Weak.refl _ _) ?_
  refine An rfl [0,1] (by decide) rfl ?_
  simp only[go_sem]
 dsimp only at h
 refine Ao hE [1] (fr':=[(1,.ref 2 0)]) (σ':=[.box [.sl false (L Aa c.2.l),i64 c.2.end_] false,.box [.ref 0 0] false,.box (i64 c.1.Op::i64 c.1.N::(C1 i64 c.1.Unit.l++[.sl false (L cApi_Expr c.1.L)])) false]) ⟨_,(Ag (l:=[]) (m:=[(6,61,[.ref 0 0,.fn 62 [.tup [.ref 0 0]],.fn 63 [.ref 1 0]],[.box [.sl false (L Aa a.l),i64 a.end_] false,.box [.ref 0 0] false,.box (i64 0::i64 0::(C1 i64 (Arr.rep 4 0).l++[.sl true (L cApi_Expr ([]))])) false],_,_)]) trivial ⟨(wc (PCon.to (Cl (fun h=>h32 h) e) rfl) [0,1]),trivial⟩),?_⟩ ?_
 ·simp only[go_sem]
 revert h
 refine Sr ?_
 intro h
 obtain rfl:=Option.some.inj h
 refine Aj (Weak.refl _ _) ?_
 refine AB rfl (Bm (.inr rfl) ?_ rfl ?_)
 ·simp only[go_sem]
 ·show D3 [0,1] _ [0,1] _;simp only[go_sem]
variable {rs:RS}
theorem Cj{q:Tparse_parser→Option ((Api_Expr×Tparse_parser)⊕(Int×Int×Tparse_parser))}(h32:∀{q0_:Tparse_parser} {r:(Api_Expr×Tparse_parser)⊕(Int×Int×Tparse_parser)},q q0_=some r→PCon (B rs) 32 [.ref 0 0] [.box [.sl false (L Aa q0_.l),i64 q0_.end_] false] (A9 r)){c:Tparse_parser}{r:(Api_Expr×Tparse_parser)⊕(Int×Int×Tparse_parser)}(h:AJ q c=some r):PCon (B rs) 61 [.ref 0 0,.fn 60 [.ref 1 0],.fn 64 [.ref 1 0]] [.box [.sl false (L Aa c.l),i64 c.end_] false,.box [.ref 0 0] false] (DT r):=by
 refine Au (N:=24) (rs:=[.cell 6 38]) 2 rfl ok Tryd.func61 rfl (by decide +kernel) rfl rfl (Nat.le_of_ble_eq_true rfl) (fun F=>?_)
 have hE:=(ok (rs:=rs)).env F
 unfold AJ at h
 show Run ((B rs).env F) 2 _ ⟨Am 24 [(0,.ref 0 0),(1,.fn 60 [.ref 1 0]),(2,.fn 64 [.ref 1 0])],[.box [.sl false (L Aa c.l),i64 c.end_] false,.box [.ref 0 0] false]⟩ _
 refine AX ?_
 revert h
 refine T0 [1,2,6] ?_
 intro h
 replace h:=Ae h;obtain⟨ae,s,h⟩:=h
 rcases ae with a|d
 rotate_left
 ·dsimp only at h
  refine Az hE [] 1 _ (v:=.iface 50 (.agg #[.int .i64 d.1,.int .i64 d.2.1])) (σ2:=[.box [.sl false (L Aa d.2.2.l),i64 d.2.2.end_] false,.box [.ref 0 0] false,.box (i64 0::i64 0::(C1 i64 (Arr.rep 4 0).l++[.sl true (L cApi_Expr ([]))])) false]) (vals:=[]) rfl rfl ⟨_,[(10,60,[.ref 1 0],[.box [.sl false (L Aa c.l),i64 c.end_] false,.box [.ref 0 0] false,.box (i64 0::i64 0::(C1 i64 (Arr.rep 4 0).l++[.sl true (L cApi_Expr ([]))])) false],.val (.iface 50 (.agg #[.int .i64 d.1,.int .i64 d.2.1])),[.box [.sl false (L Aa d.2.2.l),i64 d.2.2.end_] false,.box [.ref 0 0] false,.box (i64 0::i64 0::(C1 i64 (Arr.rep 4 0).l++[.sl true (L cApi_Expr ([]))])) false])],Ab,⟨fun v hv=>by cases hv;exact Ai (PCon.pan (BG (fun h=>h32 h) s) rfl) [0,1] (by decide) gs gs gs gs,trivial⟩,?_⟩ (fun fr_ hlen_ hfr_=>?_)
  ·simp only[go_sem]
  obtain rfl:=Option.some.inj h
  refine Aj (Weak.refl _ _) ?_
  refine An rfl [0,1] (by decide) rfl ?_
  simp only[go_sem]
 dsimp only at h
 refine Ao hE [1,2,6,7] (fr':=[(1,.fn 60 [.ref 1 0]),(2,.fn 64 [.ref 1 0]),(6,.ref 2 0),(7,.ref 3 0)]) (σ':=[.box [.sl false (L Aa a.2.l),i64 a.2.end_] false,.box [.ref 0 0] false,.box (i64 0::i64 0::(C1 i64 (Arr.rep 4 0).l++[.sl true (L cApi_Expr ([]))])) false,.box (i64 a.1.Op::i64 a.1.N::(C1 i64 a.1.Unit.l++[.sl false (L cApi_Expr a.1.L)])) false]) ⟨_,(Ag (l:=[]) (m:=[(10,60,[.ref 1 0],[.box [.sl false (L Aa c.l),i64 c.end_] false,.box [.ref 0 0] false,.box (i64 0::i64 0::(C1 i64 (Arr.rep 4 0).l++[.sl true (L cApi_Expr ([]))])) false],_,_)]) trivial ⟨(wc (PCon.to (BG (fun h=>h32 h) s) rfl) [0,1]),trivial⟩),?_⟩ ?_
 ·simp only[go_sem]
 revert h
 refine Jo (fun⟨t,u,w,x,y,z⟩=>⟨Am 24 [(6,.ref 2 0),(7,.ref 3 0)],[.box [.sl false (L Aa t),i64 u] false,.box [.ref 0 0] false,.box (i64 0::i64 0::(C1 i64 (Arr.rep 4 0).l++[.sl true (L cApi_Expr ([]))])) false,.box (i64 w::i64 x::(C1 i64 y.l++[.sl false (L cApi_Expr z)])) false]⟩) ?_ ?_
 ·intro al af
  refine Bd fun am ag =>Te [1,2,6,7,8] (Ag (l:=[]) (m:=[(12,64,[.ref 1 0],[.box [.sl false (L Aa a.2.l),i64 a.2.end_] false,.box [.ref 0 0] false,.box (i64 0::i64 0::(C1 i64 (Arr.rep 4 0).l++[.sl true (L cApi_Expr ([]))])) false,.box (i64 a.1.Op::i64 a.1.N::(C1 i64 a.1.Unit.l++[.sl false (L cApi_Expr a.1.L)])) false],_,_)]) trivial ⟨(wc (DI ag) [0,1]),trivial⟩) Ev ?_
  refine Sb ?_
  refine Lo (fun⟨k,n,o,e,f,g,i⟩=>⟨Am 24 [(1,.fn 60 [.ref 1 0]),(2,.fn 64 [.ref 1 0]),(6,.ref 2 0),(7,.ref 3 0),(8,i64 k)],[.box [.sl false (L Aa n),i64 o] false,.box [.ref 0 0] false,.box (i64 0::i64 0::(C1 i64 (Arr.rep 4 0).l++[.sl true (L cApi_Expr ([]))])) false,.box (i64 e::i64 f::(C1 i64 g.l++[.sl false (L cApi_Expr i)])) false]⟩) (ws [0,1,2,3]) ?_
  rintro⟨k,n,o,e,f,g,i⟩ an ah aa ab
  show AQ q k n o e f g i=some ah→_
  unfold AQ
  refine Sq <|T0 [1,2,6,7,8,14] ?_
  refine Cd ?_ ?_
  ·refine Sk <|Tn <|Sq <|Sb <|?_
   intro h
   replace h:=Ae h;obtain⟨ai,ac,h⟩:=h
   rcases ai with p|j
   rotate_left
   ·dsimp only at h
    refine Hr hE Dl [] rfl [[],[],[],[2],[1,2,3],[0,1,2,3,4],[0,1,2,3,4,5]] (by kernel_rfl) 3 (by kernel_rfl) (by kernel_rfl) _ (v:=.iface 50 (.agg #[.int .i64 j.1,.int .i64 j.2.1])) (σ2:=[.box [.sl false (L Aa j.2.2.l),i64 j.2.2.end_] false,.box [.ref 0 0] false,.box (i64 0::i64 0::(C1 i64 (Arr.rep 4 0).l++[.sl true (L cApi_Expr ([]))])) false,.box (i64 e::i64 f::(C1 i64 g.l++[.sl false (L cApi_Expr i)])) false]) (vals:=[]) rfl rfl ⟨_,[(20,60,[.ref 1 0],[.box [.sl false (L Aa n),i64 o] false,.box [.ref 0 0] false,.box (i64 0::i64 0::(C1 i64 (Arr.rep 4 0).l++[.sl true (L cApi_Expr ([]))])) false,.box (i64 e::i64 f::(C1 i64 g.l++[.sl false (L cApi_Expr i)])) false],.val (.iface 50 (.agg #[.int .i64 j.1,.int .i64 j.2.1])),[.box [.sl false (L Aa j.2.2.l),i64 j.2.2.end_] false,.box [.ref 0 0] false,.box (i64 0::i64 0::(C1 i64 (Arr.rep 4 0).l++[.sl true (L cApi_Expr ([]))])) false,.box (i64 e::i64 f::(C1 i64 g.l++[.sl false (L cApi_Expr i)])) false])],Ab,⟨fun v hv=>by cases hv;exact Ai (PCon.pan (BG (fun h=>h32 h) ac) rfl) [0,1] (by decide) gs gs gs gs,trivial⟩,?_⟩ (fun fr_ hlen_ hfr_=>?_)
    ·simp only[go_sem]
    refine Cx ?_
    refine B9 ?_
    refine On ?_
    replace h:=Ae h;obtain⟨ao,h,e_z_3449⟩:=h
    obtain rfl:=Option.some.inj e_z_3449
    have ex_z_3449:=ab _ rfl
    subst ex_z_3449
    obtain rfl:=Option.some.inj aa
    refine Cx ?_
    refine E6 ?_
    replace h:=Ae h;obtain⟨ap,h,e_z_3448⟩:=h
    obtain rfl:=Option.some.inj e_z_3448
    obtain rfl:=Option.some.inj af
    obtain rfl:=Option.some.inj h
    refine Aj (Weak.refl _ _) ?_
    refine An rfl [0,1] (by decide) rfl ?_
    simp only[go_sem]
   dsimp only at h
   replace h:=HJ h;obtain⟨b,aj,h⟩:=h
   refine HM hE Dl [[],[],[],[2],[1,2,3],[0,1,2,3,4],[0,1,2,3,4,5]] (by kernel_rfl) [(7,3)] [(20,3)] [1,2,6,7] (by kernel_rfl) (EJ EZ) (fr':=[(1,.fn 60 [.ref 1 0]),(2,.fn 64 [.ref 1 0]),(6,.ref 2 0),(7,.ref 3 0)]) (σ':=[.box [.sl false (L Aa p.2.l),i64 p.2.end_] false,.box [.ref 0 0] false,.box (i64 0::i64 0::(C1 i64 (Arr.rep 4 0).l++[.sl true (L cApi_Expr ([]))])) false,.box (i64 k::i64 0::(C1 i64 (Arr.rep 4 0).l++[.bs true 4 (b.length) 0 (b.length)])) false,.buf 7 (L cApi_Expr b) false]) ⟨rfl,trivial⟩ ⟨_,_,(Ag (l:=[]) (m:=[(20,60,[.ref 1 0],[.box [.sl false (L Aa n),i64 o] false,.box [.ref 0 0] false,.box (i64 0::i64 0::(C1 i64 (Arr.rep 4 0).l++[.sl true (L cApi_Expr ([]))])) false,.box (i64 e::i64 f::(C1 i64 g.l++[.sl false (L cApi_Expr i)])) false],_,_)]) trivial ⟨(wc (PCon.to (BG (fun h=>h32 h) ac) rfl) [0,1]),trivial⟩),(by repeat' (first|exact trivial|(refine And.intro ?_ ?_)|exact fun _=>rfl|exact fun h=>absurd h (by decide))),?_⟩ ?_
   ·subst aj;first|(simp only[go_sem];done)|(simp only[go_sem];simp only[Nat.add_comm 1])
   revert h
   refine Bn <|Tn <|Bd fun ad ak =>Fe [1,2,6,7,8] (Ag (l:=[]) (m:=[(16,64,[.ref 1 0],[.box [.sl false (L Aa p.2.l),i64 p.2.end_] false,.box [.ref 0 0] false,.box (i64 0::i64 0::(C1 i64 (Arr.rep 4 0).l++[.sl true (L cApi_Expr ([]))])) false,.box (i64 k::i64 0::(C1 i64 (Arr.rep 4 0).l++[.bs true 4 (b.length) 0 (b.length)])) false,.buf 7 (L cApi_Expr b) false],_,_)]) trivial ⟨(wc (DI ak) [0,1]),trivial⟩) Ev ?_
   exact Ln ((DC 3 6 (.bs true 4 (b.length) 0 (b.length)) (σ':=[.box [.sl false (L Aa ad.2.l),i64 ad.2.end_] false,.box [.ref 0 0] false,.box (i64 0::i64 0::(C1 i64 (Arr.rep 4 0).l++[.sl true (L cApi_Expr ([]))])) false,.box (i64 k::i64 0::(C1 i64 (Arr.rep 4 0).l++[.sl false (L cApi_Expr b)])) false,.buf 7 (L cApi_Expr b) true]) rfl rfl gs rfl gs gs gs).trans (ws [0,1,2,3]))
  ·refine Sx <|Tx <|Lx ab aa <|Bx <|?_
   exact Jn ((ws (l':=[(6,.ref 2 0),(7,.ref 3 0)]) (σ':=[.box [.sl false (L Aa n),i64 o] false,.box [.ref 0 0] false,.box (i64 0::i64 0::(C1 i64 (Arr.rep 4 0).l++[.sl true (L cApi_Expr ([]))])) false,.box (i64 e::i64 f::(C1 i64 g.l++[.sl false (L cApi_Expr i)])) false]) [0,1,2,3]).trans (ws [0,1,2,3]))
 rintro⟨t,u,w,x,y,z⟩
 refine T0 [6] ?_
 refine Sr ?_
 intro h
 obtain rfl:=Option.some.inj h
 refine Aj (Weak.refl _ _) ?_
 refine AB rfl (Bm (.inr rfl) ?_ rfl ?_)
 ·simp only[go_sem]
 ·show D3 [0,1] _ [0,1] _;simp only[go_sem]
theorem Gn{rec_:Tparse_parser→Option ((Api_Expr×Tparse_parser)⊕(Int×Int×Tparse_parser))}(hrec:∀{a:Tparse_parser} {r:(Api_Expr×Tparse_parser)⊕(Int×Int×Tparse_parser)},rec_ a=some r→PCon (B rs) 32 [.ref 0 0] [.box [.sl false (L Aa a.l),i64 a.end_] false] (A9 r)){a:Tparse_parser}{r:(Api_Expr×Tparse_parser)⊕(Int×Int×Tparse_parser)}(h:BL rec_ a=some r):PCon (B rs) 32 [.ref 0 0] [.box [.sl false (L Aa a.l),i64 a.end_] false] (A9 r):=by
 refine Au (N:=9) (rs:=[.cell 2 38]) 1 rfl ok Tryd.func32 rfl (by decide +kernel) rfl rfl (Nat.le_of_ble_eq_true rfl) (fun F=>?_)
 have hE:=(ok (rs:=rs)).env F
 unfold BL at h
 show Run ((B rs).env F) 1 _ ⟨Am 9 [(0,.ref 0 0)],[.box [.sl false (L Aa a.l),i64 a.end_] false]⟩ _
 refine AX ?_
 revert h
 refine T0 [1,2] ?_
 refine T0 [1,2,3] ?_
 intro h
 replace h:=Ae h;obtain⟨e,d,h⟩:=h
 rcases e with c|b
 rotate_left
 ·dsimp only at h
  refine Az hE [] 3 _ (v:=.iface 50 (.agg #[.int .i64 b.1,.int .i64 b.2.1])) (σ2:=[.box [.sl false (L Aa b.2.2.l),i64 b.2.2.end_] false,.box [.ref 0 0] false,.box (i64 0::i64 0::(C1 i64 (Arr.rep 4 0).l++[.sl true (L cApi_Expr ([]))])) false]) (vals:=[]) rfl rfl ⟨_,[(8,61,[.ref 0 0,.fn 60 [.ref 1 0],.fn 64 [.ref 1 0]],[.box [.sl false (L Aa a.l),i64 a.end_] false,.box [.ref 0 0] false,.box (i64 0::i64 0::(C1 i64 (Arr.rep 4 0).l++[.sl true (L cApi_Expr ([]))])) false],.val (.iface 50 (.agg #[.int .i64 b.1,.int .i64 b.2.1])),[.box [.sl false (L Aa b.2.2.l),i64 b.2.2.end_] false,.box [.ref 0 0] false,.box (i64 0::i64 0::(C1 i64 (Arr.rep 4 0).l++[.sl true (L cApi_Expr ([]))])) false])],Ab,⟨fun v hv=>by cases hv;exact Ai (PCon.pan (Cj (fun h=>hrec h) d) rfl) [0,1] (by decide) gs gs gs gs,trivial⟩,?_⟩ (fun fr_ hlen_ hfr_=>?_)
  ·simp only[go_sem]
  obtain rfl:=Option.some.inj h
  refine Aj (Weak.refl _ _) ?_
  refine An rfl [0] (by decide) rfl ?_
  simp only[go_sem]
 dsimp only at h
 refine Ao hE [2] (fr':=[(2,.ref 2 0)]) (σ':=[.box [.sl false (L Aa c.2.l),i64 c.2.end_] false,.box [.ref 0 0] false,.box (i64 c.1.Op::i64 c.1.N::(C1 i64 c.1.Unit.l++[.sl false (L cApi_Expr c.1.L)])) false]) ⟨_,(Ag (l:=[]) (m:=[(8,61,[.ref 0 0,.fn 60 [.ref 1 0],.fn 64 [.ref 1 0]],[.box [.sl false (L Aa a.l),i64 a.end_] false,.box [.ref 0 0] false,.box (i64 0::i64 0::(C1 i64 (Arr.rep 4 0).l++[.sl true (L cApi_Expr ([]))])) false],_,_)]) trivial ⟨(wc (PCon.to (Cj (fun h=>hrec h) d) rfl) [0,1]),trivial⟩),?_⟩ ?_
 ·simp only[go_sem]
 revert h
 refine Sr ?_
 intro h
 obtain rfl:=Option.some.inj h
 refine Aj (Weak.refl _ _) ?_
 refine AB rfl (Bm (.inr rfl) ?_ rfl ?_)
 ·simp only[go_sem]
 ·show D3 [0] _ [0] _;simp only[go_sem]
theorem Gv(n:Nat):∀{a:Tparse_parser} {r:(Api_Expr×Tparse_parser)⊕(Int×Int×Tparse_parser)},C9 n a=some r→PCon (B rs) 32 [.ref 0 0] [.box [.sl false (L Aa a.l),i64 a.end_] false] (A9 r):=by
 induction n with
 |zero=>intro a r h;cases h
 |succ n ih=>intro a r h;exact Gn ih h
theorem Ex{a:Tparse_parser}{r:(Api_Expr×Tparse_parser)⊕(Int×Int×Tparse_parser)}(h:Eo a=some r):PCon (B rs) 32 [.ref 0 0] [.box [.sl false (L Aa a.l),i64 a.end_] false] (A9 r):=Gv _ h
variable {rs:RS}
theorem DJ{o:Tparse_parser}{c:List Api_Clause}{r:(Api_Clause×Tparse_parser)⊕(Int×Int×Tparse_parser)}(h:BM o c=some r):PCon (B rs) 16 [.ref 0 0,.bs false 1 (c.length) 0 (c.length)] [.box [.sl false (L Aa o.l),i64 o.end_] false,.buf 9 (L Ac c) false] (Gd c r):=by
 refine Au (N:=51) (rs:=[.cell 4 40]) 2 rfl ok Tryd.func16 rfl (by decide +kernel) rfl rfl (Nat.le_of_ble_eq_true rfl) (fun F=>?_)
 have hE:=(ok (rs:=rs)).env F
 unfold BM at h
 show Run ((B rs).env F) 2 _ ⟨Am 51 [(0,.ref 0 0),(1,.bs false 1 (c.length) 0 (c.length))],[.box [.sl false (L Aa o.l),i64 o.end_] false,.buf 9 (L Ac c) false]⟩ _
 refine AX ?_
 revert h
 refine T0 [0,1,4] ?_
 refine Bd fun p am =>Te [0,1,4,5] (Ag (l:=[]) (m:=[(9,14,[.ref 0 0],[.box [.sl false (L Aa o.l),i64 o.end_] false,.buf 9 (L Ac c) false,.box (.str ([]:List UInt8)::.sl true (L Af ([]))::i64 0::i64 0::(C1 i64 (Arr.rep 4 0).l++[.sl true (L cApi_Expr ([]))])) false],_,_)]) trivial ⟨(wc (Bg am) [0]),trivial⟩) Ev ?_
 intro h
 replace h:=Ae h;obtain⟨an,ad,h⟩:=h
 rcases an with f|g
 rotate_left
 ·dsimp only at h
  refine Az hE [] 1 _ (v:=.iface 50 (.agg #[.int .i64 g.1,.int .i64 g.2.1])) (σ2:=[.box [.sl false (L Aa g.2.2.l),i64 g.2.2.end_] false,.buf 9 (L Ac c) false,.box (.str ([]:List UInt8)::.sl true (L Af ([]))::i64 0::i64 0::(C1 i64 (Arr.rep 4 0).l++[.sl true (L cApi_Expr ([]))])) false]) (vals:=[]) rfl rfl ⟨_,[(11,12,[.ref 0 0],[.box [.sl false (L Aa p.2.l),i64 p.2.end_] false,.buf 9 (L Ac c) false,.box (.str ([]:List UInt8)::.sl true (L Af ([]))::i64 0::i64 0::(C1 i64 (Arr.rep 4 0).l++[.sl true (L cApi_Expr ([]))])) false],.val (.iface 50 (.agg #[.int .i64 g.1,.int .i64 g.2.1])),[.box [.sl false (L Aa g.2.2.l),i64 g.2.2.end_] false,.buf 9 (L Ac c) false,.box (.str ([]:List UInt8)::.sl true (L Af ([]))::i64 0::i64 0::(C1 i64 (Arr.rep 4 0).l++[.sl true (L cApi_Expr ([]))])) false])],Ab,⟨fun v hv=>by cases hv;exact Ai (PCon.pan (Ci ad) rfl) [0] (by decide) gs gs gs gs,trivial⟩,?_⟩ (fun fr_ hlen_ hfr_=>?_)
  ·simp only[go_sem]
  obtain rfl:=Option.some.inj h
  refine Aj (Weak.refl _ _) ?_
  refine An rfl [0,1] (by decide) rfl ?_
  simp only[go_sem]
 dsimp only at h
 refine Ao hE [0,1,4,5,6] (fr':=[(0,.ref 0 0),(1,.bs false 1 (c.length) 0 (c.length)),(4,.ref 2 0),(5,i64 p.1),(6,.ref 3 0)]) (σ':=[.box [.sl false (L Aa f.2.l),i64 f.2.end_] false,.buf 9 (L Ac c) false,.box (.str ([]:List UInt8)::.sl true (L Af ([]))::i64 0::i64 0::(C1 i64 (Arr.rep 4 0).l++[.sl true (L cApi_Expr ([]))])) false,.box (.str f.1::.sl true (L Af ([]))::i64 0::i64 0::(C1 i64 (Arr.rep 4 0).l++[.sl true (L cApi_Expr ([]))])) false]) ⟨_,(Ag (l:=[]) (m:=[(11,12,[.ref 0 0],[.box [.sl false (L Aa p.2.l),i64 p.2.end_] false,.buf 9 (L Ac c) false,.box (.str ([]:List UInt8)::.sl true (L Af ([]))::i64 0::i64 0::(C1 i64 (Arr.rep 4 0).l++[.sl true (L cApi_Expr ([]))])) false],_,_)]) trivial ⟨(wc (PCon.to (Ci ad) rfl) [0]),trivial⟩),?_⟩ ?_
 ·simp only[go_sem]
 revert h
 refine Sq <|Bd fun a ao =>Te [0,4,5,6,15] (Ag (l:=[]) (m:=[(15,29,[.bs false 1 (c.length) 0 (c.length),.fn 30 [.ref 3 0]],[.box [.sl false (L Aa f.2.l),i64 f.2.end_] false,.buf 9 (L Ac c) false,.box (.str ([]:List UInt8)::.sl true (L Af ([]))::i64 0::i64 0::(C1 i64 (Arr.rep 4 0).l++[.sl true (L cApi_Expr ([]))])) false,.box (.str f.1::.sl true (L Af ([]))::i64 0::i64 0::(C1 i64 (Arr.rep 4 0).l++[.sl true (L cApi_Expr ([]))])) false],_,_)]) trivial ⟨(wc (El ao) [1,3]),trivial⟩) Ev ?_
 refine Cd ?_ ?_
 ·intro h
  refine B5 hE [] 3 _ (v:=.iface 50 (.agg #[.int .i64 p.1,.int .i64 161])) (σ2:=[.box [.sl false (L Aa f.2.l),i64 f.2.end_] false,.buf 9 (L Ac c) false,.box (.str ([]:List UInt8)::.sl true (L Af ([]))::i64 0::i64 0::(C1 i64 (Arr.rep 4 0).l++[.sl true (L cApi_Expr ([]))])) false,.box (.str a.2.Zd::.sl true (L Af ([]))::i64 a.2.Pay.Op::i64 a.2.Pay.N::(C1 i64 a.2.Pay.Unit.l++[.sl true (L cApi_Expr ([]))])) false]) (vals:=[]) rfl rfl ⟨_,[],Ab,trivial,?_⟩ (fun fr_ hlen_ hfr_=>?_)
  ·simp only[go_sem]
  refine B9 ?_
  obtain rfl:=Option.some.inj h
  refine Aj (Weak.refl _ _) ?_
  refine An rfl [0,1] (by decide) rfl ?_
  simp only[go_sem]
 ·refine Sk <|Tn <|?_
  refine Jo (fun⟨w,x,b⟩=>⟨Am 51 [(0,.ref 0 0),(4,.ref 2 0),(6,.ref 3 0)],[.box [.sl false (L Aa w),i64 x] false,.buf 9 (L Ac c) false,.box (.str ([]:List UInt8)::.sl true (L Af ([]))::i64 0::i64 0::(C1 i64 (Arr.rep 4 0).l++[.sl true (L cApi_Expr ([]))])) false,.box (.str a.2.Zd::.bs false 4 (b.length) 0 (b.length)::i64 a.2.Pay.Op::i64 a.2.Pay.N::(C1 i64 a.2.Pay.Unit.l++[.sl true (L cApi_Expr ([]))])) false,.buf 3 (L Af b) false]⟩) ?_ ?_
  ·intro aB ap
   refine Bd fun ae aq =>Te [0,4,6,7] (Ag (l:=[]) (m:=[(20,15,[.ref 0 0,.str ([119,104,101,110]:List UInt8)],[.box [.sl false (L Aa f.2.l),i64 f.2.end_] false,.buf 9 (L Ac c) false,.box (.str ([]:List UInt8)::.sl true (L Af ([]))::i64 0::i64 0::(C1 i64 (Arr.rep 4 0).l++[.sl true (L cApi_Expr ([]))])) false,.box (.str a.2.Zd::.sl true (L Af ([]))::i64 a.2.Pay.Op::i64 a.2.Pay.N::(C1 i64 a.2.Pay.Unit.l++[.sl true (L cApi_Expr ([]))])) false],_,_)]) trivial ⟨(wc (Ay aq) [0]),trivial⟩) Ev ?_
   refine Sb ?_
   refine Lo (fun⟨ab,q,s,e⟩=>⟨Am 51 [(0,.ref 0 0),(4,.ref 2 0),(6,.ref 3 0),(7,.bool ab)],[.box [.sl false (L Aa q),i64 s] false,.buf 9 (L Ac c) false,.box (.str ([]:List UInt8)::.sl true (L Af ([]))::i64 0::i64 0::(C1 i64 (Arr.rep 4 0).l++[.sl true (L cApi_Expr ([]))])) false,.box (.str a.2.Zd::.bs false 4 (e.length) 0 (e.length)::i64 a.2.Pay.Op::i64 a.2.Pay.N::(C1 i64 a.2.Pay.Unit.l++[.sl true (L cApi_Expr ([]))])) false,.buf 3 (L Af e) false]⟩) ((I3 3 1 3 (σ':=[.box [.sl false (L Aa ae.2.l),i64 ae.2.end_] false,.buf 9 (L Ac c) false,.box (.str ([]:List UInt8)::.sl true (L Af ([]))::i64 0::i64 0::(C1 i64 (Arr.rep 4 0).l++[.sl true (L cApi_Expr ([]))])) false,.box (.str a.2.Zd::.bs true 4 0 0 0::i64 a.2.Pay.Op::i64 a.2.Pay.N::(C1 i64 a.2.Pay.Unit.l++[.sl true (L cApi_Expr ([]))])) false,.buf 3 (L Af ([])) false]) rfl gs gs).trans (ws [0,1,2,3,4])) ?_
   rintro⟨ab,q,s,e⟩ aC ar af ag
   show BP ab q s e=some ar→_
   unfold BP
   refine Sq <|T0 [0,4,6,21] ?_
   refine Cd ?_ ?_
   ·refine Sk <|Tn <|Sq <|Sb <|?_
    intro h
    replace h:=Ae h;obtain⟨au,ah,h⟩:=h
    rcases au with y|i
    rotate_left
    ·dsimp only at h
     refine Hr hE Dl [] rfl [[],[0],[],[],[3],[3,4],[2,3,4,5],[2,3,4,5,6],[0,1,2,3,4,5,6,7],[0,1,2,3,4,5,6,7,8],[0,1,2,3,4,5,6,7,8,9]] (by kernel_rfl) 6 (by kernel_rfl) (by kernel_rfl) _ (v:=.iface 50 (.agg #[.int .i64 i.1,.int .i64 i.2.1])) (σ2:=[.box [.sl false (L Aa i.2.2.l),i64 i.2.2.end_] false,.buf 9 (L Ac c) false,.box (.str ([]:List UInt8)::.sl true (L Af ([]))::i64 0::i64 0::(C1 i64 (Arr.rep 4 0).l++[.sl true (L cApi_Expr ([]))])) false,.box (.str a.2.Zd::.bs false 4 (e.length) 0 (e.length)::i64 a.2.Pay.Op::i64 a.2.Pay.N::(C1 i64 a.2.Pay.Unit.l++[.sl true (L cApi_Expr ([]))])) false,.buf 3 (L Af e) false]) (vals:=[]) rfl rfl ⟨_,[(30,31,[.ref 0 0,i64 (e.length:Int)],[.box [.sl false (L Aa q),i64 s] false,.buf 9 (L Ac c) false,.box (.str ([]:List UInt8)::.sl true (L Af ([]))::i64 0::i64 0::(C1 i64 (Arr.rep 4 0).l++[.sl true (L cApi_Expr ([]))])) false,.box (.str a.2.Zd::.bs false 4 (e.length) 0 (e.length)::i64 a.2.Pay.Op::i64 a.2.Pay.N::(C1 i64 a.2.Pay.Unit.l++[.sl true (L cApi_Expr ([]))])) false,.buf 3 (L Af e) false],.val (.iface 50 (.agg #[.int .i64 i.1,.int .i64 i.2.1])),[.box [.sl false (L Aa i.2.2.l),i64 i.2.2.end_] false,.buf 9 (L Ac c) false,.box (.str ([]:List UInt8)::.sl true (L Af ([]))::i64 0::i64 0::(C1 i64 (Arr.rep 4 0).l++[.sl true (L cApi_Expr ([]))])) false,.box (.str a.2.Zd::.bs false 4 (e.length) 0 (e.length)::i64 a.2.Pay.Op::i64 a.2.Pay.N::(C1 i64 a.2.Pay.Unit.l++[.sl true (L cApi_Expr ([]))])) false,.buf 3 (L Af e) false])],Ab,⟨fun v hv=>by cases hv;exact Ai (PCon.pan (Eu ah) rfl) [0] (by decide) gs gs gs gs,trivial⟩,?_⟩ (fun fr_ hlen_ hfr_=>?_)
     ·simp only[go_sem]
     refine Cx ?_
     refine B9 ?_
     refine On ?_
     replace h:=Ae h;obtain⟨aD,h,e_z_3563⟩:=h
     obtain rfl:=Option.some.inj e_z_3563
     have ex_z_3563:=ag _ rfl
     subst ex_z_3563
     obtain rfl:=Option.some.inj af
     refine Cx ?_
     refine E6 ?_
     replace h:=Ae h;obtain⟨aE,h,e_z_3562⟩:=h
     obtain rfl:=Option.some.inj e_z_3562
     obtain rfl:=Option.some.inj ap
     obtain rfl:=Option.some.inj h
     refine Aj (Weak.refl _ _) ?_
     refine An rfl [0,1] (by decide) rfl ?_
     simp only[go_sem]
    dsimp only at h
    replace h:=Ep h;obtain⟨ac,h⟩:=h
    replace h:=HJ h;obtain⟨t,ai,h⟩:=h
    refine Jl hE Dl [[],[0],[],[],[3],[3,4],[2,3,4,5],[2,3,4,5,6],[0,1,2,3,4,5,6,7],[0,1,2,3,4,5,6,7,8],[0,1,2,3,4,5,6,7,8,9]] (by kernel_rfl) 6 [0,1] [0,4,6,24] (by kernel_rfl) (EJ EZ) (fr':=[(0,.ref 0 0),(4,.ref 2 0),(6,.ref 3 0),(24,.ref 3 1)]) (σ':=[.box [.sl false (L Aa y.2.l),i64 y.2.end_] false,.buf 9 (L Ac c) false,.box (.str ([]:List UInt8)::.sl true (L Af ([]))::i64 0::i64 0::(C1 i64 (Arr.rep 4 0).l++[.sl true (L cApi_Expr ([]))])) false,.box (.str a.2.Zd::.bs false 4 (t.length) 0 (t.length)::i64 a.2.Pay.Op::i64 a.2.Pay.N::(C1 i64 a.2.Pay.Unit.l++[.sl true (L cApi_Expr ([]))])) false,.buf 3 (L Af t) false]) ⟨_,_,_,_,_,_,_,rfl,?_,(Ag (l:=[]) (m:=[(30,31,[.ref 0 0,i64 (e.length:Int)],[.box [.sl false (L Aa q),i64 s] false,.buf 9 (L Ac c) false,.box (.str ([]:List UInt8)::.sl true (L Af ([]))::i64 0::i64 0::(C1 i64 (Arr.rep 4 0).l++[.sl true (L cApi_Expr ([]))])) false,.box (.str a.2.Zd::.bs false 4 (e.length) 0 (e.length)::i64 a.2.Pay.Op::i64 a.2.Pay.N::(C1 i64 a.2.Pay.Unit.l++[.sl true (L cApi_Expr ([]))])) false,.buf 3 (L Af e) false],_,_)]) trivial ⟨(wc (PCon.to (Eu ah) rfl) [0]),trivial⟩),?_⟩ ?_
    ·subst ai;simp only[go_sem,ac]
    ·subst ai;first|(simp only[go_sem,ac];done)|(simp only[go_sem,ac];simp only[Nat.add_comm 1])
    revert h
    refine Bn <|Tn <|Bd fun aF av =>Fe [0,4,6,7] (Ag (l:=[]) (m:=[(23,15,[.ref 0 0,.str ([97,110,100]:List UInt8)],[.box [.sl false (L Aa y.2.l),i64 y.2.end_] false,.buf 9 (L Ac c) false,.box (.str ([]:List UInt8)::.sl true (L Af ([]))::i64 0::i64 0::(C1 i64 (Arr.rep 4 0).l++[.sl true (L cApi_Expr ([]))])) false,.box (.str a.2.Zd::.bs false 4 (t.length) 0 (t.length)::i64 a.2.Pay.Op::i64 a.2.Pay.N::(C1 i64 a.2.Pay.Unit.l++[.sl true (L cApi_Expr ([]))])) false,.buf 3 (L Af t) false],_,_)]) trivial ⟨(wc (Ay av) [0]),trivial⟩) Ev ?_
    exact Ln (ws [0,1,2,3,4])
   ·refine Sx <|Tx <|Lx ag af <|Bx <|?_
    exact Jn ((ws (l':=[(0,.ref 0 0),(4,.ref 2 0),(6,.ref 3 0)]) (σ':=[.box [.sl false (L Aa q),i64 s] false,.buf 9 (L Ac c) false,.box (.str ([]:List UInt8)::.sl true (L Af ([]))::i64 0::i64 0::(C1 i64 (Arr.rep 4 0).l++[.sl true (L cApi_Expr ([]))])) false,.box (.str a.2.Zd::.bs false 4 (e.length) 0 (e.length)::i64 a.2.Pay.Op::i64 a.2.Pay.N::(C1 i64 a.2.Pay.Unit.l++[.sl true (L cApi_Expr ([]))])) false,.buf 3 (L Af e) false]) [0,1,2,3,4]).trans (ws [0,1,2,3,4]))
  rintro⟨w,x,b⟩
  intro h
  replace h:=Ae h;obtain⟨aw,aj,h⟩:=h
  rcases aw with z|j
  rotate_left
  ·dsimp only at h
   refine Az hE [] 1 _ (v:=.iface 50 (.agg #[.int .i64 j.1,.int .i64 j.2.1])) (σ2:=[.box [.sl false (L Aa j.2.2.l),i64 j.2.2.end_] false,.buf 9 (L Ac c) false,.box (.str ([]:List UInt8)::.sl true (L Af ([]))::i64 0::i64 0::(C1 i64 (Arr.rep 4 0).l++[.sl true (L cApi_Expr ([]))])) false,.box (.str a.2.Zd::.bs false 4 (b.length) 0 (b.length)::i64 a.2.Pay.Op::i64 a.2.Pay.N::(C1 i64 a.2.Pay.Unit.l++[.sl true (L cApi_Expr ([]))])) false,.buf 3 (L Af b) false]) (vals:=[]) rfl rfl ⟨_,[(35,11,[.ref 0 0,.str ([112,97,121]:List UInt8)],[.box [.sl false (L Aa w),i64 x] false,.buf 9 (L Ac c) false,.box (.str ([]:List UInt8)::.sl true (L Af ([]))::i64 0::i64 0::(C1 i64 (Arr.rep 4 0).l++[.sl true (L cApi_Expr ([]))])) false,.box (.str a.2.Zd::.bs false 4 (b.length) 0 (b.length)::i64 a.2.Pay.Op::i64 a.2.Pay.N::(C1 i64 a.2.Pay.Unit.l++[.sl true (L cApi_Expr ([]))])) false,.buf 3 (L Af b) false],.val (.iface 50 (.agg #[.int .i64 j.1,.int .i64 j.2.1])),[.box [.sl false (L Aa j.2.2.l),i64 j.2.2.end_] false,.buf 9 (L Ac c) false,.box (.str ([]:List UInt8)::.sl true (L Af ([]))::i64 0::i64 0::(C1 i64 (Arr.rep 4 0).l++[.sl true (L cApi_Expr ([]))])) false,.box (.str a.2.Zd::.bs false 4 (b.length) 0 (b.length)::i64 a.2.Pay.Op::i64 a.2.Pay.N::(C1 i64 a.2.Pay.Unit.l++[.sl true (L cApi_Expr ([]))])) false,.buf 3 (L Af b) false])],Ab,⟨fun v hv=>by cases hv;exact Ai (PCon.pan (Ah aj) rfl) [0] (by decide) gs gs gs gs,trivial⟩,?_⟩ (fun fr_ hlen_ hfr_=>?_)
   ·simp only[go_sem]
   obtain rfl:=Option.some.inj h
   refine Aj (Weak.refl _ _) ?_
   refine An rfl [0,1] (by decide) rfl ?_
   simp only[go_sem]
  dsimp only at h
  refine Ao hE [0,4,6] (fr':=[(0,.ref 0 0),(4,.ref 2 0),(6,.ref 3 0)]) (σ':=[.box [.sl false (L Aa z.l),i64 z.end_] false,.buf 9 (L Ac c) false,.box (.str ([]:List UInt8)::.sl true (L Af ([]))::i64 0::i64 0::(C1 i64 (Arr.rep 4 0).l++[.sl true (L cApi_Expr ([]))])) false,.box (.str a.2.Zd::.bs false 4 (b.length) 0 (b.length)::i64 a.2.Pay.Op::i64 a.2.Pay.N::(C1 i64 a.2.Pay.Unit.l++[.sl true (L cApi_Expr ([]))])) false,.buf 3 (L Af b) false]) ⟨_,(Ag (l:=[]) (m:=[(35,11,[.ref 0 0,.str ([112,97,121]:List UInt8)],[.box [.sl false (L Aa w),i64 x] false,.buf 9 (L Ac c) false,.box (.str ([]:List UInt8)::.sl true (L Af ([]))::i64 0::i64 0::(C1 i64 (Arr.rep 4 0).l++[.sl true (L cApi_Expr ([]))])) false,.box (.str a.2.Zd::.bs false 4 (b.length) 0 (b.length)::i64 a.2.Pay.Op::i64 a.2.Pay.N::(C1 i64 a.2.Pay.Unit.l++[.sl true (L cApi_Expr ([]))])) false,.buf 3 (L Af b) false],_,_)]) trivial ⟨(wc (PCon.to (Ah aj) rfl) [0]),trivial⟩),?_⟩ ?_
  ·simp only[go_sem]
  revert h
  refine Bd fun u ax =>Te [0,4,5,6] (Ag (l:=[]) (m:=[(37,14,[.ref 0 0],[.box [.sl false (L Aa z.l),i64 z.end_] false,.buf 9 (L Ac c) false,.box (.str ([]:List UInt8)::.sl true (L Af ([]))::i64 0::i64 0::(C1 i64 (Arr.rep 4 0).l++[.sl true (L cApi_Expr ([]))])) false,.box (.str a.2.Zd::.bs false 4 (b.length) 0 (b.length)::i64 a.2.Pay.Op::i64 a.2.Pay.N::(C1 i64 a.2.Pay.Unit.l++[.sl true (L cApi_Expr ([]))])) false,.buf 3 (L Af b) false],_,_)]) trivial ⟨(wc (Bg ax) [0]),trivial⟩) Ev ?_
  intro h
  replace h:=Ae h;obtain⟨ay,ak,h⟩:=h
  rcases ay with d|k
  rotate_left
  ·dsimp only at h
   refine Az hE [] 1 _ (v:=.iface 50 (.agg #[.int .i64 k.1,.int .i64 k.2.1])) (σ2:=[.box [.sl false (L Aa k.2.2.l),i64 k.2.2.end_] false,.buf 9 (L Ac c) false,.box (.str ([]:List UInt8)::.sl true (L Af ([]))::i64 0::i64 0::(C1 i64 (Arr.rep 4 0).l++[.sl true (L cApi_Expr ([]))])) false,.box (.str a.2.Zd::.bs false 4 (b.length) 0 (b.length)::i64 a.2.Pay.Op::i64 a.2.Pay.N::(C1 i64 a.2.Pay.Unit.l++[.sl true (L cApi_Expr ([]))])) false,.buf 3 (L Af b) false]) (vals:=[]) rfl rfl ⟨_,[(39,32,[.ref 0 0],[.box [.sl false (L Aa u.2.l),i64 u.2.end_] false,.buf 9 (L Ac c) false,.box (.str ([]:List UInt8)::.sl true (L Af ([]))::i64 0::i64 0::(C1 i64 (Arr.rep 4 0).l++[.sl true (L cApi_Expr ([]))])) false,.box (.str a.2.Zd::.bs false 4 (b.length) 0 (b.length)::i64 a.2.Pay.Op::i64 a.2.Pay.N::(C1 i64 a.2.Pay.Unit.l++[.sl true (L cApi_Expr ([]))])) false,.buf 3 (L Af b) false],.val (.iface 50 (.agg #[.int .i64 k.1,.int .i64 k.2.1])),[.box [.sl false (L Aa k.2.2.l),i64 k.2.2.end_] false,.buf 9 (L Ac c) false,.box (.str ([]:List UInt8)::.sl true (L Af ([]))::i64 0::i64 0::(C1 i64 (Arr.rep 4 0).l++[.sl true (L cApi_Expr ([]))])) false,.box (.str a.2.Zd::.bs false 4 (b.length) 0 (b.length)::i64 a.2.Pay.Op::i64 a.2.Pay.N::(C1 i64 a.2.Pay.Unit.l++[.sl true (L cApi_Expr ([]))])) false,.buf 3 (L Af b) false])],Ab,⟨fun v hv=>by cases hv;exact Ai (PCon.pan (Ex ak) rfl) [0] (by decide) gs gs gs gs,trivial⟩,?_⟩ (fun fr_ hlen_ hfr_=>?_)
   ·simp only[go_sem]
   obtain rfl:=Option.some.inj h
   refine Aj (Weak.refl _ _) ?_
   refine An rfl [0,1] (by decide) rfl ?_
   simp only[go_sem]
  dsimp only at h
  refine Ao hE [0,4,5,6] (fr':=[(0,.ref 0 0),(4,.ref 2 0),(5,i64 u.1),(6,.ref 3 0)]) (σ':=[.box [.sl false (L Aa d.2.l),i64 d.2.end_] false,.buf 9 (L Ac c) false,.box (.str ([]:List UInt8)::.sl true (L Af ([]))::i64 0::i64 0::(C1 i64 (Arr.rep 4 0).l++[.sl true (L cApi_Expr ([]))])) false,.box (.str a.2.Zd::.bs false 4 (b.length) 0 (b.length)::i64 d.1.Op::i64 d.1.N::(C1 i64 d.1.Unit.l++[.sl false (L cApi_Expr d.1.L)])) false,.buf 3 (L Af b) false]) ⟨_,(Ag (l:=[]) (m:=[(39,32,[.ref 0 0],[.box [.sl false (L Aa u.2.l),i64 u.2.end_] false,.buf 9 (L Ac c) false,.box (.str ([]:List UInt8)::.sl true (L Af ([]))::i64 0::i64 0::(C1 i64 (Arr.rep 4 0).l++[.sl true (L cApi_Expr ([]))])) false,.box (.str a.2.Zd::.bs false 4 (b.length) 0 (b.length)::i64 a.2.Pay.Op::i64 a.2.Pay.N::(C1 i64 a.2.Pay.Unit.l++[.sl true (L cApi_Expr ([]))])) false,.buf 3 (L Af b) false],_,_)]) trivial ⟨(wc (PCon.to (Ex ak) rfl) [0]),trivial⟩),?_⟩ ?_
  ·simp only[go_sem]
  revert h
  refine Sq <|Bd fun aG az =>Te [0,4,5,6,44] (o1 43 (I7 az)) Ev ?_
  refine Cd ?_ ?_
  ·intro h
   refine B5 hE [] 3 _ (v:=.iface 50 (.agg #[.int .i64 u.1,.int .i64 2])) (σ2:=[.box [.sl false (L Aa d.2.l),i64 d.2.end_] false,.buf 9 (L Ac c) false,.box (.str ([]:List UInt8)::.sl true (L Af ([]))::i64 0::i64 0::(C1 i64 (Arr.rep 4 0).l++[.sl true (L cApi_Expr ([]))])) false,.box (.str a.2.Zd::.bs false 4 (b.length) 0 (b.length)::i64 d.1.Op::i64 d.1.N::(C1 i64 d.1.Unit.l++[.sl false (L cApi_Expr d.1.L)])) false,.buf 3 (L Af b) false]) (vals:=[]) rfl rfl ⟨_,[],Ab,trivial,?_⟩ (fun fr_ hlen_ hfr_=>?_)
   ·simp only[go_sem]
   refine B9 ?_
   obtain rfl:=Option.some.inj h
   refine Aj (Weak.refl _ _) ?_
   refine An rfl [0,1] (by decide) rfl ?_
   simp only[go_sem]
  ·refine Sk <|Tn <|?_
   intro h
   replace h:=Ae h;obtain⟨aA,al,h⟩:=h
   rcases aA with aa|n
   rotate_left
   ·dsimp only at h
    refine Az hE [] 1 _ (v:=.iface 50 (.agg #[.int .i64 n.1,.int .i64 n.2.1])) (σ2:=[.box [.sl false (L Aa n.2.2.l),i64 n.2.2.end_] false,.buf 9 (L Ac c) false,.box (.str ([]:List UInt8)::.sl true (L Af ([]))::i64 0::i64 0::(C1 i64 (Arr.rep 4 0).l++[.sl true (L cApi_Expr ([]))])) false,.box (.str a.2.Zd::.bs false 4 (b.length) 0 (b.length)::i64 d.1.Op::i64 d.1.N::(C1 i64 d.1.Unit.l++[.sl false (L cApi_Expr d.1.L)])) false,.buf 3 (L Af b) false]) (vals:=[]) rfl rfl ⟨_,[(49,11,[.ref 0 0,.str ([59]:List UInt8)],[.box [.sl false (L Aa d.2.l),i64 d.2.end_] false,.buf 9 (L Ac c) false,.box (.str ([]:List UInt8)::.sl true (L Af ([]))::i64 0::i64 0::(C1 i64 (Arr.rep 4 0).l++[.sl true (L cApi_Expr ([]))])) false,.box (.str a.2.Zd::.bs false 4 (b.length) 0 (b.length)::i64 d.1.Op::i64 d.1.N::(C1 i64 d.1.Unit.l++[.sl false (L cApi_Expr d.1.L)])) false,.buf 3 (L Af b) false],.val (.iface 50 (.agg #[.int .i64 n.1,.int .i64 n.2.1])),[.box [.sl false (L Aa n.2.2.l),i64 n.2.2.end_] false,.buf 9 (L Ac c) false,.box (.str ([]:List UInt8)::.sl true (L Af ([]))::i64 0::i64 0::(C1 i64 (Arr.rep 4 0).l++[.sl true (L cApi_Expr ([]))])) false,.box (.str a.2.Zd::.bs false 4 (b.length) 0 (b.length)::i64 d.1.Op::i64 d.1.N::(C1 i64 d.1.Unit.l++[.sl false (L cApi_Expr d.1.L)])) false,.buf 3 (L Af b) false])],Ab,⟨fun v hv=>by cases hv;exact Ai (PCon.pan (Ah al) rfl) [0] (by decide) gs gs gs gs,trivial⟩,?_⟩ (fun fr_ hlen_ hfr_=>?_)
    ·simp only[go_sem]
    obtain rfl:=Option.some.inj h
    refine Aj (Weak.refl _ _) ?_
    refine An rfl [0,1] (by decide) rfl ?_
    simp only[go_sem]
   dsimp only at h
   refine Ao hE [4,6] (fr':=[(4,.ref 2 0),(6,.ref 3 0)]) (σ':=[.box [.sl false (L Aa aa.l),i64 aa.end_] false,.buf 9 (L Ac c) false,.box (.str ([]:List UInt8)::.sl true (L Af ([]))::i64 0::i64 0::(C1 i64 (Arr.rep 4 0).l++[.sl true (L cApi_Expr ([]))])) false,.box (.str a.2.Zd::.bs false 4 (b.length) 0 (b.length)::i64 d.1.Op::i64 d.1.N::(C1 i64 d.1.Unit.l++[.sl false (L cApi_Expr d.1.L)])) false,.buf 3 (L Af b) false]) ⟨_,(Ag (l:=[]) (m:=[(49,11,[.ref 0 0,.str ([59]:List UInt8)],[.box [.sl false (L Aa d.2.l),i64 d.2.end_] false,.buf 9 (L Ac c) false,.box (.str ([]:List UInt8)::.sl true (L Af ([]))::i64 0::i64 0::(C1 i64 (Arr.rep 4 0).l++[.sl true (L cApi_Expr ([]))])) false,.box (.str a.2.Zd::.bs false 4 (b.length) 0 (b.length)::i64 d.1.Op::i64 d.1.N::(C1 i64 d.1.Unit.l++[.sl false (L cApi_Expr d.1.L)])) false,.buf 3 (L Af b) false],_,_)]) trivial ⟨(wc (PCon.to (Ah al) rfl) [0]),trivial⟩),?_⟩ ?_
   ·simp only[go_sem]
   revert h
   refine T0 [4] ?_
   refine Sr ?_
   intro h
   obtain rfl:=Option.some.inj h
   refine Aj ((DC 2 1 (.bs false 4 (b.length) 0 (b.length)) (σ':=[.box [.sl false (L Aa aa.l),i64 aa.end_] false,.buf 9 (L Ac c) false,.box (.str a.2.Zd::.sl false (L Af b)::i64 d.1.Op::i64 d.1.N::(C1 i64 d.1.Unit.l++[.sl false (L cApi_Expr d.1.L)])) false,.box (.str a.2.Zd::.bs false 4 (b.length) 0 (b.length)::i64 d.1.Op::i64 d.1.N::(C1 i64 d.1.Unit.l++[.sl false (L cApi_Expr d.1.L)])) false,.buf 3 (L Af b) true]) rfl rfl gs rfl gs gs gs).trans (Weak.refl _ _)) ?_
   refine R6 rfl (Qi (.inr rfl) [0,1] (by decide) rfl ?_ ?_)
   ·simp only[go_sem]
   ·simp only[go_sem]
theorem R2(B:Base)(o:Out):(B.env o).P=B.P:=rfl
theorem AaZ{w:World}{pr:Addr→Prop}{g:Gh}(t:TypeId)(x y:Int):Rep w pr g (.iface t (.agg #[.int .i64 x,.int .i64 y])) (.iface t (.agg [i64 x,i64 y])):=by
 refine .iface _ _ _ _ (.agg _ _ _ rfl (fun i z h=>?_) (fun i z h=>?_))
 ·match i,h with
  |0,h=>cases h;rfl
  |1,h=>cases h;rfl
 ·match i,h with
  |0,h=>cases h;exact .int _ _ _
  |1,h=>cases h;exact .int _ _ _
theorem WF{rs:RS}{a0 a1 a2 a3 a4:AV}:ZW (B rs) 10 (GJ 3) [.box [a0,a1,a2] false,.box [a3] false,.box [a4] false] .returning .returning [.box [a0,a1,a2] false,.box [a3] false,.box [a4] false,.box [i64 0,i64 0] false]:=by
  intro F w g vs hm ha
  have hE:=(ok (rs:=rs)).env F
  have hbty:((B rs).env F).bty=none:=rfl
  obtain⟨vs⟩:=vs
  match vs,ha with
  | [p_,q_,s_],⟨hp,hq,hs,_⟩=>
    refine callsD_of_wpS Tryd.func10 rfl fun c₀ cs hu=>?_
    refine wpS_seq (wpS_region ?_)
    show wpOpsS (B rs).P _ _ [0,1,2,3,4,5,6,7] _ _ _
    refine Oo _ ⟨#[p_,q_,s_,undef,undef,undef,.nilIface,undef,undef,undef,undef,undef,undef,undef,undef,undef],[]⟩ rfl rfl rfl hu rfl ?_
    have hr:Rel ((B rs).env F) w g ⟨Am 16 [(6,.val .nilIface),(0,.ref 0 0),(1,.ref 1 0),(2,.ref 2 0)],[.box [a0,a1,a2] false,.box [a3] false,.box [a4] false]⟩ ⟨#[p_,q_,s_,undef,undef,undef,.nilIface,undef,undef,undef,undef,undef,undef,undef,undef,undef],[]⟩:=by
      refine⟨rfl,EG ?_,hm,.plain rfl⟩
      intro p h
      simp only[List.mem_cons,List.not_mem_nil,or_false]at h
      rcases h with rfl|rfl|rfl|rfl
      · exact .val _ _ rfl
      · exact hp
      · exact hq
      · exact hs
    refine Cu (P:=(B rs).P) hE (R2 _ _) _ (by rfl) (by rfl) hr (x:=.tup [.agg [i64 0,i64 0],.bool false]) (σ':=[.box [a0,a1,a2] false,.box [a3] false,.box [a4] false]) (by simp only[go_sem,Ig,AeW,Q1]) fun a1_ w1 g1 r1 e1 l1=>?_
    refine Cu (P:=(B rs).P) hE (R2 _ _) _ (by rfl) (by rfl) r1 (x:=.tup [.agg [i64 0,i64 0],.bool false]) (σ':=[.box [a0,a1,a2] false,.box [a3] false,.box [a4] false]) (by simp only[go_sem]) fun a2_ w2 g2 r2 e2 l2=>?_
    refine Cu (P:=(B rs).P) hE (R2 _ _) _ (by rfl) (by rfl) r2 (x:=.agg [i64 0,i64 0]) (σ':=[.box [a0,a1,a2] false,.box [a3] false,.box [a4] false]) (by simp only[go_sem]) fun a3_ w3 g3 r3 e3 l3=>?_
    refine Cu (P:=(B rs).P) hE (R2 _ _) _ (by rfl) (by rfl) r3 (x:=.bool false) (σ':=[.box [a0,a1,a2] false,.box [a3] false,.box [a4] false]) (by simp only[go_sem]) fun a4_ w4 g4 r4 e4 l4=>?_
    refine Cu (P:=(B rs).P) hE (R2 _ _) _ (by rfl) (by rfl) r4 (x:=.ref 3 0) (σ':=[.box [a0,a1,a2] false,.box [a3] false,.box [a4] false,.box [i64 0,i64 0] false]) (by simp only[go_sem,hbty,reduceCtorEq,if_false]) fun a5_ w5 g5 r5 e5 l5=>?_
    refine Cu (P:=(B rs).P) hE (R2 _ _) _ (by rfl) (by rfl) r5 (x:=.junk) (σ':=[.box [a0,a1,a2] false,.box [a3] false,.box [a4] false,.box [i64 0,i64 0] false]) (by simp only[go_sem]) fun a6_ w6 g6 r6 e6 l6=>?_
    refine Cu (P:=(B rs).P) hE (R2 _ _) _ (by rfl) (by rfl) r6 (x:=.bool false) (σ':=[.box [a0,a1,a2] false,.box [a3] false,.box [a4] false,.box [i64 0,i64 0] false]) (by simp only[go_sem]) fun a7_ w7 g7 r7 e7 l7=>?_
    refine Kj ?_
    refine H8 (n:=3) (fr':=Am 16 []) rfl (((((((e1.of_gle l1).trans (e2.of_gle l2)).trans (e3.of_gle l3)).trans (e4.of_gle l4)).trans (e5.of_gle l5)).trans (e6.of_gle l6)).trans (e7.of_gle l7)) r7 ?_
    refine Ao hE [10] (fr':=[(10,.bool false)]) (σ':=[.box [a0,a1,a2] false,.box [a3] false,.box [a4] false,.box [i64 0,i64 0] false]) ⟨_,Ab,by simp only[go_sem]⟩ ?_
    exact ES (b:=false) rfl (by decide) (fun hb=>by cases hb) (fun _=>Kx Nk)
theorem G6{rs:RS}{a0 a1 a2 a3 a4:AV}{x_ y_:Int}:ZW (B rs) 10 (GJ 3) [.box [a0,a1,a2] false,.box [a3] false,.box [a4] false] (.panicking (NH (.iface 50 (.agg #[.int .i64 x_,.int .i64 y_])))) (.panicking [{ v:=(.iface 50 (.agg #[.int .i64 x_,.int .i64 y_])),recovered:=true }]) [.box [.str [],i64 0,.sl true []] false,.box [i64 x_] false,.box [i64 y_] false,.box [i64 x_,i64 y_] false]:=by
  intro F w g vs hm ha
  have hE:=(ok (rs:=rs)).env F
  have hbty:((B rs).env F).bty=none:=rfl
  obtain⟨vs⟩:=vs
  match vs,ha with
  | [p_,q_,s_],⟨hp,hq,hs,_⟩=>
    refine callsD_of_wpS Tryd.func10 rfl fun c₀ cs hu=>?_
    refine wpS_seq (wpS_region ?_)
    show wpOpsS (B rs).P _ _ [0,1,2,3,4,5,6,7] _ _ _
    refine Lw _ (.iface 50 (.agg #[.int .i64 x_,.int .i64 y_])) [] ⟨#[p_,q_,s_,undef,undef,undef,(.iface 50 (.agg #[.int .i64 x_,.int .i64 y_])),undef,undef,undef,undef,undef,undef,undef,undef,undef],[]⟩ rfl rfl rfl hu rfl ?_
    have hr:Rel ((B rs).env F) w g ⟨Am 16 [(6,.iface 50 (.agg [i64 x_,i64 y_])),(0,.ref 0 0),(1,.ref 1 0),(2,.ref 2 0)],[.box [a0,a1,a2] false,.box [a3] false,.box [a4] false]⟩ ⟨#[p_,q_,s_,undef,undef,undef,(.iface 50 (.agg #[.int .i64 x_,.int .i64 y_])),undef,undef,undef,undef,undef,undef,undef,undef,undef],[]⟩:=by
      refine⟨rfl,EG ?_,hm,.plain rfl⟩
      intro p h
      simp only[List.mem_cons,List.not_mem_nil,or_false]at h
      rcases h with rfl|rfl|rfl|rfl
      · exact AaZ _ _ _
      · exact hp
      · exact hq
      · exact hs
    refine Cu (P:=(B rs).P) hE (R2 _ _) _ (by rfl) (by rfl) hr (x:=.tup [.agg [i64 x_,i64 y_],.bool true]) (σ':=[.box [a0,a1,a2] false,.box [a3] false,.box [a4] false]) (by simp only[go_sem,Ig,AeW,Q1]) fun a1_ w1 g1 r1 e1 l1=>?_
    refine Cu (P:=(B rs).P) hE (R2 _ _) _ (by rfl) (by rfl) r1 (x:=.tup [.agg [i64 x_,i64 y_],.bool true]) (σ':=[.box [a0,a1,a2] false,.box [a3] false,.box [a4] false]) (by simp only[go_sem]) fun a2_ w2 g2 r2 e2 l2=>?_
    refine Cu (P:=(B rs).P) hE (R2 _ _) _ (by rfl) (by rfl) r2 (x:=.agg [i64 x_,i64 y_]) (σ':=[.box [a0,a1,a2] false,.box [a3] false,.box [a4] false]) (by simp only[go_sem]) fun a3_ w3 g3 r3 e3 l3=>?_
    refine Cu (P:=(B rs).P) hE (R2 _ _) _ (by rfl) (by rfl) r3 (x:=.bool true) (σ':=[.box [a0,a1,a2] false,.box [a3] false,.box [a4] false]) (by simp only[go_sem]) fun a4_ w4 g4 r4 e4 l4=>?_
    refine Cu (P:=(B rs).P) hE (R2 _ _) _ (by rfl) (by rfl) r4 (x:=.ref 3 0) (σ':=[.box [a0,a1,a2] false,.box [a3] false,.box [a4] false,.box [i64 0,i64 0] false]) (by simp only[go_sem,hbty,reduceCtorEq,if_false]) fun a5_ w5 g5 r5 e5 l5=>?_
    refine Cu (P:=(B rs).P) hE (R2 _ _) _ (by rfl) (by rfl) r5 (x:=.junk) (σ':=[.box [a0,a1,a2] false,.box [a3] false,.box [a4] false,.box [i64 x_,i64 y_] false]) (by simp only[go_sem]) fun a6_ w6 g6 r6 e6 l6=>?_
    refine Cu (P:=(B rs).P) hE (R2 _ _) _ (by rfl) (by rfl) r6 (x:=.bool true) (σ':=[.box [a0,a1,a2] false,.box [a3] false,.box [a4] false,.box [i64 x_,i64 y_] false]) (by simp only[go_sem]) fun a7_ w7 g7 r7 e7 l7=>?_
    refine Kj ?_
    refine H8 (n:=3) (fr':=Am 16 []) rfl (((((((e1.of_gle l1).trans (e2.of_gle l2)).trans (e3.of_gle l3)).trans (e4.of_gle l4)).trans (e5.of_gle l5)).trans (e6.of_gle l6)).trans (e7.of_gle l7)) r7 ?_
    refine Ao hE [0,1,2,3,10] (fr':=[(0,.ref 0 0),(1,.ref 1 0),(2,.ref 2 0),(3,.ref 3 0),(10,.bool true)]) (σ':=[.box [a0,a1,a2] false,.box [a3] false,.box [a4] false,.box [i64 x_,i64 y_] false]) ⟨_,Ab,by simp only[go_sem]⟩ ?_
    refine ES (b:=true) rfl (by decide) (fun _=>?_) (fun hb=>by cases hb)
    refine HM hE Dl [[],[],[1],[],[3],[0],[0,1,2,5],[0,1,2,3,4,5,6]] (by kernel_rfl) [(0,0),(1,1),(2,2),(3,3),(12,3),(14,3)] [] [0,1,2,3,12,14] (by kernel_rfl) PD (fr':=[(0,.ref 0 0),(1,.ref 1 0),(2,.ref 2 0),(3,.ref 3 0),(12,.ref 3 0),(14,.ref 3 1)]) (σ':=[.box [.str [],i64 0,.sl true []] false,.box [i64 x_] false,.box [i64 y_] false,.box [i64 x_,i64 y_] false]) ⟨rfl,rfl,rfl,rfl,rfl,rfl,trivial⟩ ⟨_,_,Ab,(by simp only[XOk]),by simp only[go_sem]⟩ Nk
variable {rs:RS}
theorem IR{a r}(h:C2 a=some r):Con (B rs) 5 [.str a] [] (fun r' σ'=>r'=.tup [.agg [.str r.1.Zd,i64 r.1.For,.sl false (L Ac r.1.Zf)],i64 r.2.1,i64 r.2.2]∧σ'=[]):=by
 refine Cw 71 [.cell 2 28,.cell 3 3,.cell 4 29] Tryd.func5 (fun F hE=>?_) h
 unfold C2
 refine T0 [0,2,3,4] ?_
 refine Bd fun b c =>Te [0,2,3,4,5] (o1 10 (Hd c)) Ev ?_
 refine Sq <|T0 [0,2,3,4,5,15] ?_
 refine Cd ?_ ?_
 ·intro h
  refine Vu hE Dl [[],[],[],[0],[0,1,3],[0,1,2,3,4]] (by kernel_rfl) [(2,0),(3,1),(4,2)] [] [2,3,4] (by kernel_rfl) (fr':=[(2,.ref 0 0),(3,.ref 1 0),(4,.ref 2 0)]) (σ':=[.box [.str ([]:List UInt8),i64 0,.sl true (L Ac ([]))] false,.box [i64 b.2.1] false,.box [i64 b.2.2] false]) ⟨rfl,rfl,rfl,trivial⟩ ⟨_,_,Ab,(by simp only[XOk]),?_⟩ ?_
  ·simp only[go_sem]
  revert h
  exact Sr <|Tr <|Rr
 ·exact Sk <|Tn <|Rn
theorem Iw{s:List UInt8}{r:Api_Tariff×Int×Int}(h:DA s=some r):Con (B rs) 5 [.str s] [] (fun r' σ'=>r'=.tup [.agg [.str r.1.Zd,i64 r.1.For,.sl false (L Ac r.1.Zf)],i64 r.2.1,i64 r.2.2]∧σ'=[]):=by
 unfold DA at h
 replace h:=Ae h;obtain⟨a,ax,h⟩:=h
 by_cases ag:(a.2.2 != 0)=true
 ·rw[if_pos ag]at h;cases h
 rw[if_neg ag]at h
 refine SF (cf:=10) (rs:=[.cell 2 28,.cell 3 3,.cell 4 29]) (N:=71) (t7:=19) (m:=3) (sel:=[0,1,2]) (rfr:=[(2,.ref 0 0),(3,.ref 1 0),(4,.ref 2 0)]) (rfr':=[(2,.ref 0 0),(3,.ref 1 0),(4,.ref 2 0)]) (pre:=[_,_,_]) (fr1:=[(0,.str s),(2,.ref 0 0),(3,.ref 1 0),(4,.ref 2 0),(5,.sl false (L Aa a.1)),(15,.bool (a.2.2 != 0))]) (σ1:=[.box [.str ([]:List UInt8),i64 0,.sl true (L Ac ([]))] false,.box [i64 a.2.1] false,.box [i64 a.2.2] false]) ok Tryd.func5 rfl (by decide +kernel) rfl rfl (Nat.le_of_ble_eq_true rfl) (fun F=>?_) rfl rfl rfl rfl rfl rfl (by decide) rfl (by decide) (by decide) rfl Tryd.func10 rfl (by decide +kernel) (fun F D=>?_)
 ·have hE:=(ok (rs:=rs)).env F
  refine Pre.step (Bp hE LY [0,2,3,4] (fr':=[(0,.str s),(2,.ref 0 0),(3,.ref 1 0),(4,.ref 2 0)]) (σ':=[.box [.str ([]:List UInt8),i64 0,.sl true (L Ac ([]))] false,.box [i64 0] false,.box [i64 0] false]) ⟨_,Ab,by simp only[go_sem,Jv]⟩ JK) ?_
  refine Pre.step (Bp hE LY [0,2,3,4,5] (fr':=[(0,.str s),(2,.ref 0 0),(3,.ref 1 0),(4,.ref 2 0),(5,.sl false (L Aa a.1))]) (σ':=[.box [.str ([]:List UInt8),i64 0,.sl true (L Ac ([]))] false,.box [i64 a.2.1] false,.box [i64 a.2.2] false]) ⟨_,(o1 10 (Hd ax)),by simp only[go_sem]⟩ JK) ?_
  refine Pre.step (Ao hE [0,2,3,4,5,15] (fr':=[(0,.str s),(2,.ref 0 0),(3,.ref 1 0),(4,.ref 2 0),(5,.sl false (L Aa a.1)),(15,.bool (a.2.2 != 0))]) (σ':=[.box [.str ([]:List UInt8),i64 0,.sl true (L Ac ([]))] false,.box [i64 a.2.1] false,.box [i64 a.2.2] false]) ⟨_,Ab,by simp only[go_sem]⟩ (ES (b:=(a.2.2 != 0)) rfl (by decide) (fun hb=>absurd hb ag) (fun _=>Kx JK))) ?_
  exact Pre.nil _
 have hE:((B rs).env { F:=F,D:=D }).Ok:=⟨((ok (rs:=rs)).env F).desc,((ok (rs:=rs)).env F).info⟩
 refine DD (CV _ _ [0,2,3,4,5] _ _) ?_
 show Run ((B rs).env { F:=F,D:=D }) 3 _ ⟨Am 71 [(0,.str s),(2,.ref 0 0),(3,.ref 1 0),(4,.ref 2 0),(5,.sl false (L Aa a.1))],[.box [.str ([]:List UInt8),i64 0,.sl true (L Ac ([]))] false,.box [i64 a.2.1] false,.box [i64 a.2.2] false]⟩ _
 refine AX ?_
 revert h
 refine T0 [2,3,4,6] ?_
 intro h
 replace h:=Ae h;obtain⟨ay,ak,h⟩:=h
 rcases ay with w|g
 rotate_left
 ·dsimp only at h
  refine Az hE [2,3,4] 1 _ (v:=.iface 50 (.agg #[.int .i64 g.1,.int .i64 g.2.1])) (σ2:=[.box [.str ([]:List UInt8),i64 0,.sl true (L Ac ([]))] false,.box [i64 a.2.1] false,.box [i64 a.2.2] false,.box [.sl false (L Aa g.2.2.l),i64 g.2.2.end_] false]) (vals:=[.ref 0 0,.ref 1 0,.ref 2 0]) rfl rfl ⟨_,[(26,11,[.ref 3 0,.str ([116,97,114,105,102,102]:List UInt8)],[.box [.str ([]:List UInt8),i64 0,.sl true (L Ac ([]))] false,.box [i64 a.2.1] false,.box [i64 a.2.2] false,.box [.sl false (L Aa a.1),i64 (s.length:Int)] false],.val (.iface 50 (.agg #[.int .i64 g.1,.int .i64 g.2.1])),[.box [.str ([]:List UInt8),i64 0,.sl true (L Ac ([]))] false,.box [i64 a.2.1] false,.box [i64 a.2.2] false,.box [.sl false (L Aa g.2.2.l),i64 g.2.2.end_] false])],Ab,⟨fun v hv=>by cases hv;exact Ai (PCon.pan (Ah ak) rfl) [3] (by decide) gs gs gs gs,trivial⟩,?_⟩ (fun fr_ hlen_ hfr_=>?_)
  ·simp only[go_sem]
  obtain rfl:=Option.some.inj h
  refine Aj (Weak.refl _ _) ?_
  refine⟨_,[.box [.junk,.junk,.junk] false,.box [.junk] false,.box [.junk] false],_,[.box [.str ([]:List UInt8),i64 0,.sl true (L Ac ([]))] false,.box [i64 g.1] false,.box [i64 g.2.1] false,.box [i64 g.1,i64 g.2.1] false],[.agg [.str ([]:List UInt8),i64 0,.sl true (L Ac ([]))],i64 g.1,i64 g.2.1],hlen_,.inr ⟨_,rfl,rfl⟩,?_,G6,rfl,?_,⟨⟨rfl,.inl ⟨0,0,rfl,rfl,rfl⟩⟩,⟨rfl,.inl ⟨1,1,rfl,rfl,rfl⟩⟩,⟨rfl,.inl ⟨2,2,rfl,rfl,rfl⟩⟩,trivial⟩,Qh ?_,?_⟩
  ·simp only[go_sem]
  ·simp only[List.map_cons,List.map_nil,List.cons.injEq]at hfr_;exact⟨hfr_.1,hfr_.2.1,hfr_.2.2.1,trivial⟩
  ·simp only[go_sem]
  ·simp only[go_sem]
 dsimp only at h
 refine Ao hE [2,3,4,6] (fr':=[(2,.ref 0 0),(3,.ref 1 0),(4,.ref 2 0),(6,.ref 3 0)]) (σ':=[.box [.str ([]:List UInt8),i64 0,.sl true (L Ac ([]))] false,.box [i64 a.2.1] false,.box [i64 a.2.2] false,.box [.sl false (L Aa w.l),i64 w.end_] false]) ⟨_,(Ag (l:=[]) (m:=[(26,11,[.ref 3 0,.str ([116,97,114,105,102,102]:List UInt8)],[.box [.str ([]:List UInt8),i64 0,.sl true (L Ac ([]))] false,.box [i64 a.2.1] false,.box [i64 a.2.2] false,.box [.sl false (L Aa a.1),i64 (s.length:Int)] false],_,_)]) trivial ⟨(wc (PCon.to (Ah ak) rfl) [3]),trivial⟩),?_⟩ ?_
 ·simp only[go_sem]
 revert h
 intro h
 replace h:=Ae h;obtain⟨az,al,h⟩:=h
 rcases az with c|i
 rotate_left
 ·dsimp only at h
  refine Az hE [2,3,4] 1 _ (v:=.iface 50 (.agg #[.int .i64 i.1,.int .i64 i.2.1])) (σ2:=[.box [.str ([]:List UInt8),i64 0,.sl true (L Ac ([]))] false,.box [i64 a.2.1] false,.box [i64 a.2.2] false,.box [.sl false (L Aa i.2.2.l),i64 i.2.2.end_] false]) (vals:=[.ref 0 0,.ref 1 0,.ref 2 0]) rfl rfl ⟨_,[(28,12,[.ref 3 0],[.box [.str ([]:List UInt8),i64 0,.sl true (L Ac ([]))] false,.box [i64 a.2.1] false,.box [i64 a.2.2] false,.box [.sl false (L Aa w.l),i64 w.end_] false],.val (.iface 50 (.agg #[.int .i64 i.1,.int .i64 i.2.1])),[.box [.str ([]:List UInt8),i64 0,.sl true (L Ac ([]))] false,.box [i64 a.2.1] false,.box [i64 a.2.2] false,.box [.sl false (L Aa i.2.2.l),i64 i.2.2.end_] false])],Ab,⟨fun v hv=>by cases hv;exact Ai (PCon.pan (Ci al) rfl) [3] (by decide) gs gs gs gs,trivial⟩,?_⟩ (fun fr_ hlen_ hfr_=>?_)
  ·simp only[go_sem]
  obtain rfl:=Option.some.inj h
  refine Aj (Weak.refl _ _) ?_
  refine⟨_,[.box [.junk,.junk,.junk] false,.box [.junk] false,.box [.junk] false],_,[.box [.str ([]:List UInt8),i64 0,.sl true (L Ac ([]))] false,.box [i64 i.1] false,.box [i64 i.2.1] false,.box [i64 i.1,i64 i.2.1] false],[.agg [.str ([]:List UInt8),i64 0,.sl true (L Ac ([]))],i64 i.1,i64 i.2.1],hlen_,.inr ⟨_,rfl,rfl⟩,?_,G6,rfl,?_,⟨⟨rfl,.inl ⟨0,0,rfl,rfl,rfl⟩⟩,⟨rfl,.inl ⟨1,1,rfl,rfl,rfl⟩⟩,⟨rfl,.inl ⟨2,2,rfl,rfl,rfl⟩⟩,trivial⟩,Qh ?_,?_⟩
  ·simp only[go_sem]
  ·simp only[List.map_cons,List.map_nil,List.cons.injEq]at hfr_;exact⟨hfr_.1,hfr_.2.1,hfr_.2.2.1,trivial⟩
  ·simp only[go_sem]
  ·simp only[go_sem]
 dsimp only at h
 refine Ao hE [2,3,4,6] (fr':=[(2,.ref 0 0),(3,.ref 1 0),(4,.ref 2 0),(6,.ref 3 0)]) (σ':=[.box [.str c.1,i64 0,.sl true (L Ac ([]))] false,.box [i64 a.2.1] false,.box [i64 a.2.2] false,.box [.sl false (L Aa c.2.l),i64 c.2.end_] false]) ⟨_,(Ag (l:=[]) (m:=[(28,12,[.ref 3 0],[.box [.str ([]:List UInt8),i64 0,.sl true (L Ac ([]))] false,.box [i64 a.2.1] false,.box [i64 a.2.2] false,.box [.sl false (L Aa w.l),i64 w.end_] false],_,_)]) trivial ⟨(wc (PCon.to (Ci al) rfl) [3]),trivial⟩),?_⟩ ?_
 ·simp only[go_sem]
 revert h
 intro h
 replace h:=Ae h;obtain⟨aA,am,h⟩:=h
 rcases aA with x|j
 rotate_left
 ·dsimp only at h
  refine Az hE [2,3,4] 1 _ (v:=.iface 50 (.agg #[.int .i64 j.1,.int .i64 j.2.1])) (σ2:=[.box [.str c.1,i64 0,.sl true (L Ac ([]))] false,.box [i64 a.2.1] false,.box [i64 a.2.2] false,.box [.sl false (L Aa j.2.2.l),i64 j.2.2.end_] false]) (vals:=[.ref 0 0,.ref 1 0,.ref 2 0]) rfl rfl ⟨_,[(31,11,[.ref 3 0,.str ([102,111,114]:List UInt8)],[.box [.str c.1,i64 0,.sl true (L Ac ([]))] false,.box [i64 a.2.1] false,.box [i64 a.2.2] false,.box [.sl false (L Aa c.2.l),i64 c.2.end_] false],.val (.iface 50 (.agg #[.int .i64 j.1,.int .i64 j.2.1])),[.box [.str c.1,i64 0,.sl true (L Ac ([]))] false,.box [i64 a.2.1] false,.box [i64 a.2.2] false,.box [.sl false (L Aa j.2.2.l),i64 j.2.2.end_] false])],Ab,⟨fun v hv=>by cases hv;exact Ai (PCon.pan (Ah am) rfl) [3] (by decide) gs gs gs gs,trivial⟩,?_⟩ (fun fr_ hlen_ hfr_=>?_)
  ·simp only[go_sem]
  obtain rfl:=Option.some.inj h
  refine Aj (Weak.refl _ _) ?_
  refine⟨_,[.box [.junk,.junk,.junk] false,.box [.junk] false,.box [.junk] false],_,[.box [.str ([]:List UInt8),i64 0,.sl true (L Ac ([]))] false,.box [i64 j.1] false,.box [i64 j.2.1] false,.box [i64 j.1,i64 j.2.1] false],[.agg [.str ([]:List UInt8),i64 0,.sl true (L Ac ([]))],i64 j.1,i64 j.2.1],hlen_,.inr ⟨_,rfl,rfl⟩,?_,G6,rfl,?_,⟨⟨rfl,.inl ⟨0,0,rfl,rfl,rfl⟩⟩,⟨rfl,.inl ⟨1,1,rfl,rfl,rfl⟩⟩,⟨rfl,.inl ⟨2,2,rfl,rfl,rfl⟩⟩,trivial⟩,Qh ?_,?_⟩
  ·simp only[go_sem]
  ·simp only[List.map_cons,List.map_nil,List.cons.injEq]at hfr_;exact⟨hfr_.1,hfr_.2.1,hfr_.2.2.1,trivial⟩
  ·simp only[go_sem]
  ·simp only[go_sem]
 dsimp only at h
 refine Ao hE [2,3,4,6] (fr':=[(2,.ref 0 0),(3,.ref 1 0),(4,.ref 2 0),(6,.ref 3 0)]) (σ':=[.box [.str c.1,i64 0,.sl true (L Ac ([]))] false,.box [i64 a.2.1] false,.box [i64 a.2.2] false,.box [.sl false (L Aa x.l),i64 x.end_] false]) ⟨_,(Ag (l:=[]) (m:=[(31,11,[.ref 3 0,.str ([102,111,114]:List UInt8)],[.box [.str c.1,i64 0,.sl true (L Ac ([]))] false,.box [i64 a.2.1] false,.box [i64 a.2.2] false,.box [.sl false (L Aa c.2.l),i64 c.2.end_] false],_,_)]) trivial ⟨(wc (PCon.to (Ah am) rfl) [3]),trivial⟩),?_⟩ ?_
 ·simp only[go_sem]
 revert h
 intro h
 replace h:=Ae h;obtain⟨aB,an,h⟩:=h
 rcases aB with e|k
 rotate_left
 ·dsimp only at h
  refine Az hE [2,3,4] 1 _ (v:=.iface 50 (.agg #[.int .i64 k.1,.int .i64 k.2.1])) (σ2:=[.box [.str c.1,i64 0,.sl true (L Ac ([]))] false,.box [i64 a.2.1] false,.box [i64 a.2.2] false,.box [.sl false (L Aa k.2.2.l),i64 k.2.2.end_] false]) (vals:=[.ref 0 0,.ref 1 0,.ref 2 0]) rfl rfl ⟨_,[(33,13,[.ref 3 0,.str ([104,105,114,101,32,100,101,109,117,114,114,97,103,101,32,102,114,101,105,103,104,116,32,114,101,112,97,105,114,32,108,111,115,115,32,99,108,101,97,110,105,110,103]:List UInt8)],[.box [.str c.1,i64 0,.sl true (L Ac ([]))] false,.box [i64 a.2.1] false,.box [i64 a.2.2] false,.box [.sl false (L Aa x.l),i64 x.end_] false],.val (.iface 50 (.agg #[.int .i64 k.1,.int .i64 k.2.1])),[.box [.str c.1,i64 0,.sl true (L Ac ([]))] false,.box [i64 a.2.1] false,.box [i64 a.2.2] false,.box [.sl false (L Aa k.2.2.l),i64 k.2.2.end_] false])],Ab,⟨fun v hv=>by cases hv;exact Ai (PCon.pan (AC an) rfl) [3] (by decide) gs gs gs gs,trivial⟩,?_⟩ (fun fr_ hlen_ hfr_=>?_)
  ·simp only[go_sem]
  obtain rfl:=Option.some.inj h
  refine Aj (Weak.refl _ _) ?_
  refine⟨_,[.box [.junk,.junk,.junk] false,.box [.junk] false,.box [.junk] false],_,[.box [.str ([]:List UInt8),i64 0,.sl true (L Ac ([]))] false,.box [i64 k.1] false,.box [i64 k.2.1] false,.box [i64 k.1,i64 k.2.1] false],[.agg [.str ([]:List UInt8),i64 0,.sl true (L Ac ([]))],i64 k.1,i64 k.2.1],hlen_,.inr ⟨_,rfl,rfl⟩,?_,G6,rfl,?_,⟨⟨rfl,.inl ⟨0,0,rfl,rfl,rfl⟩⟩,⟨rfl,.inl ⟨1,1,rfl,rfl,rfl⟩⟩,⟨rfl,.inl ⟨2,2,rfl,rfl,rfl⟩⟩,trivial⟩,Qh ?_,?_⟩
  ·simp only[go_sem]
  ·simp only[List.map_cons,List.map_nil,List.cons.injEq]at hfr_;exact⟨hfr_.1,hfr_.2.1,hfr_.2.2.1,trivial⟩
  ·simp only[go_sem]
  ·simp only[go_sem]
 dsimp only at h
 refine Ao hE [2,3,4,6] (fr':=[(2,.ref 0 0),(3,.ref 1 0),(4,.ref 2 0),(6,.ref 3 0)]) (σ':=[.box [.str c.1,i64 (w64 (1+e.1)),.sl true (L Ac ([]))] false,.box [i64 a.2.1] false,.box [i64 a.2.2] false,.box [.sl false (L Aa e.2.l),i64 e.2.end_] false]) ⟨_,(Ag (l:=[]) (m:=[(33,13,[.ref 3 0,.str ([104,105,114,101,32,100,101,109,117,114,114,97,103,101,32,102,114,101,105,103,104,116,32,114,101,112,97,105,114,32,108,111,115,115,32,99,108,101,97,110,105,110,103]:List UInt8)],[.box [.str c.1,i64 0,.sl true (L Ac ([]))] false,.box [i64 a.2.1] false,.box [i64 a.2.2] false,.box [.sl false (L Aa x.l),i64 x.end_] false],_,_)]) trivial ⟨(wc (PCon.to (AC an) rfl) [3]),trivial⟩),?_⟩ ?_
 ·simp only[go_sem]
 revert h
 intro h
 replace h:=Ae h;obtain⟨aC,ao,h⟩:=h
 rcases aC with aa|n
 rotate_left
 ·dsimp only at h
  refine Az hE [2,3,4] 1 _ (v:=.iface 50 (.agg #[.int .i64 n.1,.int .i64 n.2.1])) (σ2:=[.box [.str c.1,i64 (w64 (1+e.1)),.sl true (L Ac ([]))] false,.box [i64 a.2.1] false,.box [i64 a.2.2] false,.box [.sl false (L Aa n.2.2.l),i64 n.2.2.end_] false]) (vals:=[.ref 0 0,.ref 1 0,.ref 2 0]) rfl rfl ⟨_,[(37,11,[.ref 3 0,.str ([123]:List UInt8)],[.box [.str c.1,i64 (w64 (1+e.1)),.sl true (L Ac ([]))] false,.box [i64 a.2.1] false,.box [i64 a.2.2] false,.box [.sl false (L Aa e.2.l),i64 e.2.end_] false],.val (.iface 50 (.agg #[.int .i64 n.1,.int .i64 n.2.1])),[.box [.str c.1,i64 (w64 (1+e.1)),.sl true (L Ac ([]))] false,.box [i64 a.2.1] false,.box [i64 a.2.2] false,.box [.sl false (L Aa n.2.2.l),i64 n.2.2.end_] false])],Ab,⟨fun v hv=>by cases hv;exact Ai (PCon.pan (Ah ao) rfl) [3] (by decide) gs gs gs gs,trivial⟩,?_⟩ (fun fr_ hlen_ hfr_=>?_)
  ·simp only[go_sem]
  obtain rfl:=Option.some.inj h
  refine Aj (Weak.refl _ _) ?_
  refine⟨_,[.box [.junk,.junk,.junk] false,.box [.junk] false,.box [.junk] false],_,[.box [.str ([]:List UInt8),i64 0,.sl true (L Ac ([]))] false,.box [i64 n.1] false,.box [i64 n.2.1] false,.box [i64 n.1,i64 n.2.1] false],[.agg [.str ([]:List UInt8),i64 0,.sl true (L Ac ([]))],i64 n.1,i64 n.2.1],hlen_,.inr ⟨_,rfl,rfl⟩,?_,G6,rfl,?_,⟨⟨rfl,.inl ⟨0,0,rfl,rfl,rfl⟩⟩,⟨rfl,.inl ⟨1,1,rfl,rfl,rfl⟩⟩,⟨rfl,.inl ⟨2,2,rfl,rfl,rfl⟩⟩,trivial⟩,Qh ?_,?_⟩
  ·simp only[go_sem]
  ·simp only[List.map_cons,List.map_nil,List.cons.injEq]at hfr_;exact⟨hfr_.1,hfr_.2.1,hfr_.2.2.1,trivial⟩
  ·simp only[go_sem]
  ·simp only[go_sem]
 dsimp only at h
 refine Ao hE [2,3,4,6] (fr':=[(2,.ref 0 0),(3,.ref 1 0),(4,.ref 2 0),(6,.ref 3 0)]) (σ':=[.box [.str c.1,i64 (w64 (1+e.1)),.sl true (L Ac ([]))] false,.box [i64 a.2.1] false,.box [i64 a.2.2] false,.box [.sl false (L Aa aa.l),i64 aa.end_] false]) ⟨_,(Ag (l:=[]) (m:=[(37,11,[.ref 3 0,.str ([123]:List UInt8)],[.box [.str c.1,i64 (w64 (1+e.1)),.sl true (L Ac ([]))] false,.box [i64 a.2.1] false,.box [i64 a.2.2] false,.box [.sl false (L Aa e.2.l),i64 e.2.end_] false],_,_)]) trivial ⟨(wc (PCon.to (Ah ao) rfl) [3]),trivial⟩),?_⟩ ?_
 ·simp only[go_sem]
 revert h
 refine Jo (fun⟨ab,ac,d⟩=>⟨Am 71 [(2,.ref 0 0),(3,.ref 1 0),(4,.ref 2 0),(6,.ref 3 0)],[.box [.str c.1,i64 (w64 (1+e.1)),.bs false 4 (d.length) 0 (d.length)] false,.box [i64 a.2.1] false,.box [i64 a.2.2] false,.box [.sl false (L Aa ab),i64 ac] false,.buf 9 (L Ac d) false]⟩) ?_ ?_
 ·intro aL ap
  refine Bd fun aM aD =>Te [2,3,4,6,7] (Ag (l:=[]) (m:=[(39,14,[.ref 3 0],[.box [.str c.1,i64 (w64 (1+e.1)),.sl true (L Ac ([]))] false,.box [i64 a.2.1] false,.box [i64 a.2.2] false,.box [.sl false (L Aa aa.l),i64 aa.end_] false],_,_)]) trivial ⟨(wc (Bg aD) [3]),trivial⟩) Ev ?_
  refine Sb ?_
  refine Lo (fun⟨u,ad,ae,f⟩=>⟨Am 71 [(2,.ref 0 0),(3,.ref 1 0),(4,.ref 2 0),(6,.ref 3 0),(7,i64 u)],[.box [.str c.1,i64 (w64 (1+e.1)),.bs false 4 (f.length) 0 (f.length)] false,.box [i64 a.2.1] false,.box [i64 a.2.2] false,.box [.sl false (L Aa ad),i64 ae] false,.buf 9 (L Ac f) false]⟩) ((JP 0 2 9 rfl rfl).trans (ws [0,1,2,3,4])) ?_
  rintro⟨u,ad,ae,f⟩ aN aE ah ai
  show Di u ad ae f=some aE→_
  unfold Di
  refine Sq <|Bd fun t aF =>Te [2,3,4,6,7,41] (Ag (l:=[]) (m:=[(41,15,[.ref 3 0,.str ([99,108,97,117,115,101]:List UInt8)],[.box [.str c.1,i64 (w64 (1+e.1)),.bs false 4 (f.length) 0 (f.length)] false,.box [i64 a.2.1] false,.box [i64 a.2.2] false,.box [.sl false (L Aa ad),i64 ae] false,.buf 9 (L Ac f) false],_,_)]) trivial ⟨(wc (Ay aF) [3]),trivial⟩) Ev ?_
  refine Cd ?_ ?_
  ·refine Sk <|Tn <|Sq <|Sb <|Sq <|T0 [2,3,4,6,7,47] ?_
   refine Cd ?_ ?_
   ·intro h
    refine B5 hE [2,3,4] 3 _ (v:=.iface 50 (.agg #[.int .i64 u,.int .i64 2])) (σ2:=[.box [.str c.1,i64 (w64 (1+e.1)),.bs false 4 (f.length) 0 (f.length)] false,.box [i64 a.2.1] false,.box [i64 a.2.2] false,.box [.sl false (L Aa t.2.l),i64 t.2.end_] false,.buf 9 (L Ac f) false]) (vals:=[.ref 0 0,.ref 1 0,.ref 2 0]) rfl rfl ⟨_,[],Ab,trivial,?_⟩ (fun fr_ hlen_ hfr_=>?_)
    ·simp only[go_sem]
    refine B9 ?_
    refine Cx ?_
    refine B9 ?_
    refine On ?_
    replace h:=Ae h;obtain⟨aO,h,e_z_3724⟩:=h
    obtain rfl:=Option.some.inj e_z_3724
    have ex_z_3724:=ai _ rfl
    subst ex_z_3724
    obtain rfl:=Option.some.inj ah
    refine Cx ?_
    refine E6 ?_
    replace h:=Ae h;obtain⟨aP,h,e_z_3723⟩:=h
    obtain rfl:=Option.some.inj e_z_3723
    obtain rfl:=Option.some.inj ap
    obtain rfl:=Option.some.inj h
    refine Aj (Weak.refl _ _) ?_
    refine⟨_,[.box [.junk,.junk,.junk] false,.box [.junk] false,.box [.junk] false],_,[.box [.str ([]:List UInt8),i64 0,.sl true (L Ac ([]))] false,.box [i64 u] false,.box [i64 2] false,.box [i64 u,i64 2] false],[.agg [.str ([]:List UInt8),i64 0,.sl true (L Ac ([]))],i64 u,i64 2],hlen_,.inr ⟨_,rfl,rfl⟩,?_,G6,rfl,?_,⟨⟨rfl,.inl ⟨0,0,rfl,rfl,rfl⟩⟩,⟨rfl,.inl ⟨1,1,rfl,rfl,rfl⟩⟩,⟨rfl,.inl ⟨2,2,rfl,rfl,rfl⟩⟩,trivial⟩,Qh ?_,?_⟩
    ·simp only[go_sem]
    ·simp only[List.map_cons,List.map_nil,List.cons.injEq]at hfr_;exact⟨hfr_.1,hfr_.2.1,hfr_.2.2.1,trivial⟩
    ·simp only[go_sem]
    ·simp only[go_sem]
   ·refine Sk <|Tn <|?_
    intro h
    replace h:=Ae h;obtain⟨aG,aq,h⟩:=h
    rcases aG with af|o
    rotate_left
    ·dsimp only at h
     refine Hr hE Dl [2,3,4] rfl [[],[0],[],[],[3],[2,3,4],[2,3,4,5],[0,1,2,3,4,5,6],[0,1,2,3,4,5,6,7],[0,1,2,3,4,5,6,7,8]] (by kernel_rfl) 5 (by kernel_rfl) (by kernel_rfl) _ (v:=.iface 50 (.agg #[.int .i64 o.1,.int .i64 o.2.1])) (σ2:=[.box [.str c.1,i64 (w64 (1+e.1)),.bs false 4 (f.length) 0 (f.length)] false,.box [i64 a.2.1] false,.box [i64 a.2.2] false,.box [.sl false (L Aa o.2.2.l),i64 o.2.2.end_] false,.buf 9 (L Ac f) false]) (vals:=[.ref 0 0,.ref 1 0,.ref 2 0]) rfl rfl ⟨_,[(56,16,[.ref 3 0,.bs false 4 (f.length) 0 (f.length)],[.box [.str c.1,i64 (w64 (1+e.1)),.bs false 4 (f.length) 0 (f.length)] false,.box [i64 a.2.1] false,.box [i64 a.2.2] false,.box [.sl false (L Aa t.2.l),i64 t.2.end_] false,.buf 9 (L Ac f) false],.val (.iface 50 (.agg #[.int .i64 o.1,.int .i64 o.2.1])),[.box [.str c.1,i64 (w64 (1+e.1)),.bs false 4 (f.length) 0 (f.length)] false,.box [i64 a.2.1] false,.box [i64 a.2.2] false,.box [.sl false (L Aa o.2.2.l),i64 o.2.2.end_] false,.buf 9 (L Ac f) false])],Ab,⟨fun v hv=>by cases hv;exact Ai (PCon.pan (DJ aq) rfl) [3,4] (by decide) gs gs gs gs,trivial⟩,?_⟩ (fun fr_ hlen_ hfr_=>?_)
     ·simp only[go_sem]
     refine Cx ?_
     refine B9 ?_
     refine On ?_
     replace h:=Ae h;obtain⟨aQ,h,e_z_3730⟩:=h
     obtain rfl:=Option.some.inj e_z_3730
     have ex_z_3730:=ai _ rfl
     subst ex_z_3730
     obtain rfl:=Option.some.inj ah
     refine Cx ?_
     refine E6 ?_
     replace h:=Ae h;obtain⟨aR,h,e_z_3729⟩:=h
     obtain rfl:=Option.some.inj e_z_3729
     obtain rfl:=Option.some.inj ap
     obtain rfl:=Option.some.inj h
     refine Aj (Weak.refl _ _) ?_
     refine⟨_,[.box [.junk,.junk,.junk] false,.box [.junk] false,.box [.junk] false],_,[.box [.str ([]:List UInt8),i64 0,.sl true (L Ac ([]))] false,.box [i64 o.1] false,.box [i64 o.2.1] false,.box [i64 o.1,i64 o.2.1] false],[.agg [.str ([]:List UInt8),i64 0,.sl true (L Ac ([]))],i64 o.1,i64 o.2.1],hlen_,.inr ⟨_,rfl,rfl⟩,?_,G6,rfl,?_,⟨⟨rfl,.inl ⟨0,0,rfl,rfl,rfl⟩⟩,⟨rfl,.inl ⟨1,1,rfl,rfl,rfl⟩⟩,⟨rfl,.inl ⟨2,2,rfl,rfl,rfl⟩⟩,trivial⟩,Qh ?_,?_⟩
     ·simp only[go_sem]
     ·simp only[List.map_cons,List.map_nil,List.cons.injEq]at hfr_;exact⟨hfr_.1,hfr_.2.1,hfr_.2.2.1,trivial⟩
     ·simp only[go_sem]
     ·simp only[go_sem]
    dsimp only at h
    replace h:=Ep h;obtain⟨aj,h⟩:=h
    replace h:=HJ h;obtain⟨y,ar,h⟩:=h
    refine Jl hE Dl [[],[0],[],[],[3],[2,3,4],[2,3,4,5],[0,1,2,3,4,5,6],[0,1,2,3,4,5,6,7],[0,1,2,3,4,5,6,7,8]] (by kernel_rfl) 5 [0,1] [2,3,4,6,51] (by kernel_rfl) (EJ EZ) (fr':=[(2,.ref 0 0),(3,.ref 1 0),(4,.ref 2 0),(6,.ref 3 0),(51,.ref 0 2)]) (σ':=[.box [.str c.1,i64 (w64 (1+e.1)),.bs false 4 (y.length) 0 (y.length)] false,.box [i64 a.2.1] false,.box [i64 a.2.2] false,.box [.sl false (L Aa af.2.l),i64 af.2.end_] false,.buf 9 (L Ac y) false]) ⟨_,_,_,_,_,_,_,rfl,?_,(Ag (l:=[]) (m:=[(56,16,[.ref 3 0,.bs false 4 (f.length) 0 (f.length)],[.box [.str c.1,i64 (w64 (1+e.1)),.bs false 4 (f.length) 0 (f.length)] false,.box [i64 a.2.1] false,.box [i64 a.2.2] false,.box [.sl false (L Aa t.2.l),i64 t.2.end_] false,.buf 9 (L Ac f) false],_,_)]) trivial ⟨(wc (PCon.to (DJ aq) rfl) [3,4]),trivial⟩),?_⟩ ?_
    ·subst ar;simp only[go_sem,aj]
    ·subst ar;first|(simp only[go_sem,aj];done)|(simp only[go_sem,aj];simp only[Nat.add_comm 1])
    revert h
    refine Bn <|Tn <|Bd fun aS aH =>Fe [2,3,4,6,7] (Ag (l:=[]) (m:=[(43,14,[.ref 3 0],[.box [.str c.1,i64 (w64 (1+e.1)),.bs false 4 (y.length) 0 (y.length)] false,.box [i64 a.2.1] false,.box [i64 a.2.2] false,.box [.sl false (L Aa af.2.l),i64 af.2.end_] false,.buf 9 (L Ac y) false],_,_)]) trivial ⟨(wc (Bg aH) [3]),trivial⟩) Ev ?_
    exact Ln (ws [0,1,2,3,4])
  ·refine Sx <|Tx <|Lx ai ah <|Bx <|?_
   exact Jn ((ws (l':=[(2,.ref 0 0),(3,.ref 1 0),(4,.ref 2 0),(6,.ref 3 0)]) (σ':=[.box [.str c.1,i64 (w64 (1+e.1)),.bs false 4 (f.length) 0 (f.length)] false,.box [i64 a.2.1] false,.box [i64 a.2.2] false,.box [.sl false (L Aa t.2.l),i64 t.2.end_] false,.buf 9 (L Ac f) false]) [0,1,2,3,4]).trans (ws [0,1,2,3,4]))
 rintro⟨ab,ac,d⟩
 intro h
 replace h:=Ae h;obtain⟨aI,au,h⟩:=h
 rcases aI with z|p
 rotate_left
 ·dsimp only at h
  refine Az hE [2,3,4] 1 _ (v:=.iface 50 (.agg #[.int .i64 p.1,.int .i64 p.2.1])) (σ2:=[.box [.str c.1,i64 (w64 (1+e.1)),.bs false 4 (d.length) 0 (d.length)] false,.box [i64 a.2.1] false,.box [i64 a.2.2] false,.box [.sl false (L Aa p.2.2.l),i64 p.2.2.end_] false,.buf 9 (L Ac d) false]) (vals:=[.ref 0 0,.ref 1 0,.ref 2 0]) rfl rfl ⟨_,[(61,11,[.ref 3 0,.str ([125]:List UInt8)],[.box [.str c.1,i64 (w64 (1+e.1)),.bs false 4 (d.length) 0 (d.length)] false,.box [i64 a.2.1] false,.box [i64 a.2.2] false,.box [.sl false (L Aa ab),i64 ac] false,.buf 9 (L Ac d) false],.val (.iface 50 (.agg #[.int .i64 p.1,.int .i64 p.2.1])),[.box [.str c.1,i64 (w64 (1+e.1)),.bs false 4 (d.length) 0 (d.length)] false,.box [i64 a.2.1] false,.box [i64 a.2.2] false,.box [.sl false (L Aa p.2.2.l),i64 p.2.2.end_] false,.buf 9 (L Ac d) false])],Ab,⟨fun v hv=>by cases hv;exact Ai (PCon.pan (Ah au) rfl) [3] (by decide) gs gs gs gs,trivial⟩,?_⟩ (fun fr_ hlen_ hfr_=>?_)
  ·simp only[go_sem]
  obtain rfl:=Option.some.inj h
  refine Aj (Weak.refl _ _) ?_
  refine⟨_,[.box [.junk,.junk,.junk] false,.box [.junk] false,.box [.junk] false],_,[.box [.str ([]:List UInt8),i64 0,.sl true (L Ac ([]))] false,.box [i64 p.1] false,.box [i64 p.2.1] false,.box [i64 p.1,i64 p.2.1] false],[.agg [.str ([]:List UInt8),i64 0,.sl true (L Ac ([]))],i64 p.1,i64 p.2.1],hlen_,.inr ⟨_,rfl,rfl⟩,?_,G6,rfl,?_,⟨⟨rfl,.inl ⟨0,0,rfl,rfl,rfl⟩⟩,⟨rfl,.inl ⟨1,1,rfl,rfl,rfl⟩⟩,⟨rfl,.inl ⟨2,2,rfl,rfl,rfl⟩⟩,trivial⟩,Qh ?_,?_⟩
  ·simp only[go_sem]
  ·simp only[List.map_cons,List.map_nil,List.cons.injEq]at hfr_;exact⟨hfr_.1,hfr_.2.1,hfr_.2.2.1,trivial⟩
  ·simp only[go_sem]
  ·simp only[go_sem]
 dsimp only at h
 refine Ao hE [2,3,4,6] (fr':=[(2,.ref 0 0),(3,.ref 1 0),(4,.ref 2 0),(6,.ref 3 0)]) (σ':=[.box [.str c.1,i64 (w64 (1+e.1)),.bs false 4 (d.length) 0 (d.length)] false,.box [i64 a.2.1] false,.box [i64 a.2.2] false,.box [.sl false (L Aa z.l),i64 z.end_] false,.buf 9 (L Ac d) false]) ⟨_,(Ag (l:=[]) (m:=[(61,11,[.ref 3 0,.str ([125]:List UInt8)],[.box [.str c.1,i64 (w64 (1+e.1)),.bs false 4 (d.length) 0 (d.length)] false,.box [i64 a.2.1] false,.box [i64 a.2.2] false,.box [.sl false (L Aa ab),i64 ac] false,.buf 9 (L Ac d) false],_,_)]) trivial ⟨(wc (PCon.to (Ah au) rfl) [3]),trivial⟩),?_⟩ ?_
 ·simp only[go_sem]
 revert h
 refine Jo (fun _=>⟨Am 71 [(2,.ref 0 0),(3,.ref 1 0),(4,.ref 2 0)],[.box [.str c.1,i64 (w64 (1+e.1)),.bs false 3 (d.length) 0 (d.length)] false,.box [i64 a.2.1] false,.box [i64 a.2.2] false,.buf 9 (L Ac d) false]⟩) ?_ ?_
 ·intro aT aJ
  refine T0 [2,3,4,6,67] ?_
  refine Cd ?_ ?_
  ·intro h
   replace h:=Ae h;obtain⟨aK,av,h⟩:=h
   rcases aK with aw|q
   rotate_left
   ·dsimp only at h
    refine B5 hE [2,3,4] 1 _ (v:=.iface 50 (.agg #[.int .i64 q.1,.int .i64 q.2.1])) (σ2:=[.box [.str c.1,i64 (w64 (1+e.1)),.bs false 4 (d.length) 0 (d.length)] false,.box [i64 a.2.1] false,.box [i64 a.2.2] false,.box [.sl false (L Aa q.2.2.l),i64 q.2.2.end_] false,.buf 9 (L Ac d) false]) (vals:=[.ref 0 0,.ref 1 0,.ref 2 0]) rfl rfl ⟨_,[(69,17,[.ref 3 0],[.box [.str c.1,i64 (w64 (1+e.1)),.bs false 4 (d.length) 0 (d.length)] false,.box [i64 a.2.1] false,.box [i64 a.2.2] false,.box [.sl false (L Aa z.l),i64 z.end_] false,.buf 9 (L Ac d) false],.val (.iface 50 (.agg #[.int .i64 q.1,.int .i64 q.2.1])),[.box [.str c.1,i64 (w64 (1+e.1)),.bs false 4 (d.length) 0 (d.length)] false,.box [i64 a.2.1] false,.box [i64 a.2.2] false,.box [.sl false (L Aa q.2.2.l),i64 q.2.2.end_] false,.buf 9 (L Ac d) false])],Ab,⟨fun v hv=>by cases hv;exact Ai (PCon.pan (A4 av) rfl) [3] (by decide) gs gs gs gs,trivial⟩,?_⟩ (fun fr_ hlen_ hfr_=>?_)
    ·simp only[go_sem]
    refine E6 ?_
    replace h:=Ae h;obtain⟨aU,h,e_z_3752⟩:=h
    obtain rfl:=Option.some.inj e_z_3752
    obtain rfl:=Option.some.inj aJ
    obtain rfl:=Option.some.inj h
    refine Aj (Weak.refl _ _) ?_
    refine⟨_,[.box [.junk,.junk,.junk] false,.box [.junk] false,.box [.junk] false],_,[.box [.str ([]:List UInt8),i64 0,.sl true (L Ac ([]))] false,.box [i64 q.1] false,.box [i64 q.2.1] false,.box [i64 q.1,i64 q.2.1] false],[.agg [.str ([]:List UInt8),i64 0,.sl true (L Ac ([]))],i64 q.1,i64 q.2.1],hlen_,.inr ⟨_,rfl,rfl⟩,?_,G6,rfl,?_,⟨⟨rfl,.inl ⟨0,0,rfl,rfl,rfl⟩⟩,⟨rfl,.inl ⟨1,1,rfl,rfl,rfl⟩⟩,⟨rfl,.inl ⟨2,2,rfl,rfl,rfl⟩⟩,trivial⟩,Qh ?_,?_⟩
    ·simp only[go_sem]
    ·simp only[List.map_cons,List.map_nil,List.cons.injEq]at hfr_;exact⟨hfr_.1,hfr_.2.1,hfr_.2.2.1,trivial⟩
    ·simp only[go_sem]
    ·simp only[go_sem]
   dsimp only at h
   refine Bp hE Hi [2,3,4] (fr':=[(2,.ref 0 0),(3,.ref 1 0),(4,.ref 2 0)]) (σ':=[.box [.str c.1,i64 (w64 (1+e.1)),.bs false 4 (d.length) 0 (d.length)] false,.box [i64 a.2.1] false,.box [i64 a.2.2] false,.box [.sl false (L Aa aw.l),i64 aw.end_] false,.buf 9 (L Ac d) false]) ⟨_,(Ag (l:=[]) (m:=[(69,17,[.ref 3 0],[.box [.str c.1,i64 (w64 (1+e.1)),.bs false 4 (d.length) 0 (d.length)] false,.box [i64 a.2.1] false,.box [i64 a.2.2] false,.box [.sl false (L Aa z.l),i64 z.end_] false,.buf 9 (L Ac d) false],_,_)]) trivial ⟨(wc (PCon.to (A4 av) rfl) [3]),trivial⟩),?_⟩ ?_
   ·simp only[go_sem]
   revert h
   exact Jn (ws [0,1,2,4])
  ·exact Sk <|Jn (ws [0,1,2,4])
 intro _
 refine T0 [2,3,4] ?_
 refine Sr ?_
 intro h
 obtain rfl:=Option.some.inj h
 refine Aj ((Hs 0 2 rfl rfl rfl gs gs).trans (Weak.refl _ _)) ?_
 refine⟨_,[.box [.str c.1,i64 (w64 (1+e.1)),.sl false (L Ac d)] false,.box [i64 0] false,.box [i64 0] false],_,[.box [.str c.1,i64 (w64 (1+e.1)),.sl false (L Ac d)] false,.box [i64 0] false,.box [i64 0] false,.box [i64 0,i64 0] false],[.agg [.str c.1,i64 (w64 (1+e.1)),.sl false (L Ac d)],i64 0,i64 0],FI _ _,.inl ⟨.inr rfl,rfl⟩,?_,WF,rfl,?_,⟨⟨rfl,.inl ⟨0,0,rfl,rfl,rfl⟩⟩,⟨rfl,.inl ⟨1,1,rfl,rfl,rfl⟩⟩,⟨rfl,.inl ⟨2,2,rfl,rfl,rfl⟩⟩,trivial⟩,Qh ?_,?_⟩
 ·simp only[go_sem]
 ·simp only[go_sem]
 ·simp only[go_sem]
 ·simp only[go_sem]
theorem GK{a:List UInt8}{r:Api_Tariff×Int×Int}(h:Dk a=some r):Con (B rs) 5 [.str a] [] (fun r' σ'=>r'=.tup [.agg [.str r.1.Zd,i64 r.1.For,.sl false (L Ac r.1.Zf)],i64 r.2.1,i64 r.2.2]∧σ'=[]):=by
 unfold Dk at h
 split at h
 ·rename_i r' e
  obtain rfl:=Option.some.inj h
  exact IR e
 ·exact Iw h
theorem tt20:JY Tryd.prog 20=some ⟨.interface #[],1,16,[.val .nilIface]⟩:=by kernel_rfl
theorem if20{rs:RS}(F:Out):Kg ((B rs).env F) 20=true:=VS ((EY Tryd.prog 20).trans tt20)
theorem Abu{w:World}{pr:Addr→Prop}{g:Gh}(t:TypeId)(x:Int):Rep w pr g (.iface t (.agg #[.int .i64 x])) (.iface t (.agg [i64 x])):=by
 refine .iface _ _ _ _ (.agg _ _ _ rfl (fun i z h=>?_) (fun i z h=>?_))
 ·match i,h with
  |0,h=>cases h;rfl
 ·match i,h with
  |0,h=>cases h;exact .int _ _ _
theorem Ie{rs:RS}{a0:AV}:ZW (B rs) 20 (GJ 1) [.box [a0] false] .returning .returning [.box [a0] false]:=by
  intro F w g vs hm ha
  have hE:=(ok (rs:=rs)).env F
  obtain⟨vs⟩:=vs
  match vs,ha with
  | [p_],⟨hp,_⟩=>
    refine callsD_of_wpS Tryd.func20 rfl fun c₀ cs hu=>?_
    refine wpS_seq (wpS_region ?_)
    show wpOpsS (B rs).P _ _ [0] _ _ _
    refine Oo _ ⟨#[p_,undef,undef,undef,undef,.nilIface,undef,undef,undef,undef,undef,undef,undef,undef,undef],[]⟩ rfl rfl rfl hu rfl ?_
    have hr:Rel ((B rs).env F) w g ⟨Am 15 [(5,.val .nilIface),(0,.ref 0 0)],[.box [a0] false]⟩ ⟨#[p_,undef,undef,undef,undef,.nilIface,undef,undef,undef,undef,undef,undef,undef,undef,undef],[]⟩:=by
      refine⟨rfl,EG ?_,hm,.plain rfl⟩
      intro p h
      simp only[List.mem_cons,List.not_mem_nil,or_false]at h
      rcases h with rfl|rfl
      · exact .val _ _ rfl
      · exact hp
    refine Kj ?_
    refine H8 (n:=1) (fr':=Am 15 []) rfl (Evo.refl _ _ _ _) hr ?_
    refine LF ?_
    refine Ao hE [7] (fr':=[(7,.bool true)]) (σ':=[.box [a0] false]) ⟨_,Ab,by simp only[go_sem,if20,goB]⟩ ?_
    refine ES (b:=true) rfl (by decide) (fun _=>?_) (fun hb=>by cases hb)
    exact Bp hE (EJ PD) [] (fr':=[]) (σ':=[.box [a0] false]) ⟨_,Ab,by simp only[go_sem]⟩ Nk
theorem Mw{rs:RS}{a0:AV}{x_:Int}:ZW (B rs) 20 (GJ 1) [.box [a0] false] (.panicking (NH (.iface 98 (.agg #[.int .i64 x_])))) (.panicking [{ v:=(.iface 98 (.agg #[.int .i64 x_])),recovered:=true }]) [.box [i64 x_] false,.box [i64 x_] false]:=by
  intro F w g vs hm ha
  have hE:=(ok (rs:=rs)).env F
  have hbty:((B rs).env F).bty=none:=rfl
  obtain⟨vs⟩:=vs
  match vs,ha with
  | [p_],⟨hp,_⟩=>
    refine callsD_of_wpS Tryd.func20 rfl fun c₀ cs hu=>?_
    refine wpS_seq (wpS_region ?_)
    show wpOpsS (B rs).P _ _ [0] _ _ _
    refine Lw _ (.iface 98 (.agg #[.int .i64 x_])) [] ⟨#[p_,undef,undef,undef,undef,(.iface 98 (.agg #[.int .i64 x_])),undef,undef,undef,undef,undef,undef,undef,undef,undef],[]⟩ rfl rfl rfl hu rfl ?_
    have hr:Rel ((B rs).env F) w g ⟨Am 15 [(5,.iface 98 (.agg [i64 x_])),(0,.ref 0 0)],[.box [a0] false]⟩ ⟨#[p_,undef,undef,undef,undef,(.iface 98 (.agg #[.int .i64 x_])),undef,undef,undef,undef,undef,undef,undef,undef,undef],[]⟩:=by
      refine⟨rfl,EG ?_,hm,.plain rfl⟩
      intro p h
      simp only[List.mem_cons,List.not_mem_nil,or_false]at h
      rcases h with rfl|rfl
      · exact Abu _ _
      · exact hp
    refine Kj ?_
    refine H8 (n:=1) (fr':=Am 15 []) rfl (Evo.refl _ _ _ _) hr ?_
    refine LF ?_
    refine Ao hE [0,5,7] (fr':=[(0,.ref 0 0),(5,.iface 98 (.agg [i64 x_])),(7,.bool false)]) (σ':=[.box [a0] false]) ⟨_,Ab,by simp only[go_sem,if20,goB]⟩ ?_
    refine ES (b:=false) rfl (by decide) (fun hb=>by cases hb) (fun _=>?_)
    refine Ao hE [0,9,10] (fr':=[(0,.ref 0 0),(9,.bool true),(10,.agg [i64 x_])]) (σ':=[.box [a0] false]) ⟨_,Ab,by simp only[go_sem,Ig,tb98,Q1]⟩ ?_
    refine ES (b:=true) rfl (by decide) (fun _=>?_) (fun hb=>by cases hb)
    refine Ao hE [0,3] (fr':=[(0,.ref 0 0),(3,.ref 1 0)]) (σ':=[.box [a0] false,.box [i64 x_] false]) ⟨_,Ab,by simp only[go_sem,hbty,reduceCtorEq,if_false]⟩ ?_
    exact Bp hE (EJ PD) [] (fr':=[]) (σ':=[.box [i64 x_] false,.box [i64 x_] false]) ⟨_,Ab,by simp only[go_sem]⟩ Nk
end Go.Proofs.YtldngkmkhfddpaaDoor
