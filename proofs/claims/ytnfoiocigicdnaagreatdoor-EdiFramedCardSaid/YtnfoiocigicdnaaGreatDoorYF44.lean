/-
  Part 44.
-/
import Derived.Test.YtnfoiocigicdnaaGreatDoorYF40
import Derived.Test.YtnfoiocigicdnaaGreatDoorYF41
import Derived.Test.YtnfoiocigicdnaaGreatDoorYF42
import Derived.Test.YtnfoiocigicdnaaGreatDoorYF43
import Derived.KernelRfl
import Derived.Lib.Bytealg
import Derived.Lib.AtoiAllCases
namespace Go.Proofs.YtnfoiocigicdnaaGreatDoor
open Go.Rv
set_option linter.unusedVariables false
set_option linter.unusedSimpArgs false
set_option maxRecDepth 20000
set_option maxHeartbeats 4000000
theorem N9 {a b r} (h : K6 a b = some r) : Con B 115 [.sl false (L cU8 a), .sl false (L cU8 b)] [] (fun r' σ' => r' = .bool r ∧ σ' = []) := by
 refine Cw 10 [.tmp 4] Tryz.func115 (fun F hE => ?_) h
 unfold K6
 refine T0 [0, 1] ?_
 refine T0 [4] ?_
 exact Sr <|Rr
theorem Ti {a r} (h : Ji a = some r) : Con B 114 [.sl false (L cU8 a)] [] (fun r' σ' => r' = u32 r ∧ σ' = []) := by
 refine Cw 55 [.tmp 2] Tryz.func114 (fun F hE => ?_) h
 unfold Ji
 refine T0 [0] ?_
 refine T0 [0, 3] ?_
 refine Ja (fun d => ⟨Ap 55 [(0, .sl false (L cU8 a)), (3, .ref 0 0)], [.box (C1 u32 d.l) false]⟩) ?_ ?_
 ·intro am
  refine T0 [0, 3, 9] ?_
  refine Sb ?_
  refine Lo (fun (v : Int × Arr UInt32 16) => (⟨Ap 55 [(0, .sl false (L cU8 a)), (3, .ref 0 0), (9, i64 v.1)], [.box (C1 u32 v.2.l) false]⟩ : St)) (ws [0]) ?_
  rintro ⟨b, c⟩ an k m n
  show Dc b c = some k → _
  unfold Dc
  refine T0 [0, 3, 9, 10] ?_
  refine Sq <|Cd ?_ ?_
  ·refine Sk <|Tn <|?_
   refine Ja (fun e => ⟨Ap 55 [(0, .sl false (L cU8 a)), (3, .ref 0 0), (9, i64 b)], [.box (C1 u32 e.l) false]⟩) ?_ ?_
   ·intro ao
    refine Sb <|T0 [0, 3, 4, 9] ?_
    refine T0 [0, 3, 4, 5, 9] ?_
    refine Ja (fun f => ⟨Ap 55 [(0, .sl false (L cU8 a)), (3, .ref 0 0), (4, i64 b), (5, u32 f), (9, i64 b)], [.box (C1 u32 c.l) false]⟩) ?_ ?_
    ·intro ap
     refine T0 [0, 3, 4, 5, 9, 14] ?_
     refine Sb ?_
     refine Lo (fun (v : UInt32 × Int) => (⟨Ap 55 [(0, .sl false (L cU8 a)), (3, .ref 0 0), (4, i64 b), (5, u32 v.1), (9, i64 b), (14, i64 v.2)], [.box (C1 u32 c.l) false]⟩ : St)) (ws [0]) ?_
     rintro ⟨g, o⟩ aq p q s
     show Cg g o = some p → _
     unfold Cg
     refine T0 [0, 3, 4, 5, 9, 14, 15] ?_
     refine Sq <|Cd ?_ ?_
     ·refine Sk <|Tn <|Sq <|Sb <|Lt fun t u =>Fe (fr' := [(0, _), (3, _), (4, _), (5, u32 t), (9, _), (14, _)]) [0, 3, 4, 5, 9, 14] Aa (Ev (by simp only [go_sem, u]; exact Ab)) ?_
      refine Bn <|Tn <|F0 [0, 3, 4, 5, 9, 14] ?_
      exact Ln (ws [0])
     ·refine Sx <|Tx <|Ly s q <|Bx <|?_
      exact Jm ((ws (l' := [(0, .sl false (L cU8 a)), (3, .ref 0 0), (4, i64 b), (5, u32 g), (9, i64 b)]) (σ' := [.box (C1 u32 c.l) false]) [0]).trans (ws [0]))
    intro f
    refine Ck fun w =>Lt fun x y =>Fe (σ' := [.box (C1 u32 x.l) false]) [0, 3, 9] Aa (Ev (by simp only [go_sem, qR w, y]; exact Ab)) ?_
    exact Bn <|Jm (ws [0])
   intro e
   refine F0 [0, 3, 9] ?_
   exact Ln (ws [0])
  ·refine Sx <|Tx <|Ly n m <|Bx <|?_
   exact Jm ((ws (l' := [(0, .sl false (L cU8 a)), (3, .ref 0 0)]) (σ' := [.box (C1 u32 c.l) false]) [0]).trans (ws [0]))
 intro d
 refine T0 [0, 3, 6] ?_
 refine Ja (fun i => ⟨Ap 55 [(6, u32 i)], []⟩) ?_ ?_
 ·intro ar
  refine T0 [3, 6, 28, 29, 30] ?_
  refine Sb ?_
  refine Lo (fun (v : UInt32 × Int) => (⟨Ap 55 [(3, .ref 0 0), (6, u32 v.1), (28, .sl false (L cU8 a)), (29, i64 (a.length : Int)), (30, i64 v.2)], [.box (C1 u32 d.l) false]⟩ : St)) (ws [0]) ?_
  rintro ⟨j, z⟩ au aa ab ac
  show Ds a d j z = some aa → _
  unfold Ds
  refine T0 [3, 6, 28, 29, 30, 31] ?_
  refine Sq <|Cd ?_ ?_
  ·refine Sk <|Tn <|Sq <|Sb <|Ck fun ad =>Te [3, 6, 8, 28, 29, 30] Aa (Ev (by simp only [go_sem, qR ad]; exact Ab)) ?_
   refine Lt fun ae af =>Te (fr' := [(3, _), (6, u32 ae), (28, _), (29, _), (30, _)]) [3, 6, 28, 29, 30] Aa (Ev (by simp only [go_sem, af]; exact Ab)) ?_
   refine Ck fun ag =>Lt fun ah ai =>Te (fr' := [(3, _), (6, u32 ah), (28, _), (29, _), (30, _)]) [3, 6, 28, 29, 30] Aa (Ev (by simp only [go_sem, qN ag, ai]; exact Ab)) ?_
   refine Ck fun aj =>Lt fun ak al =>Fe (fr' := [(3, _), (6, u32 ak), (28, _), (29, _), (30, _)]) [3, 6, 28, 29, 30] Aa (Ev (by simp only [go_sem, qN aj, al]; exact Ab)) ?_
   refine Bn <|Tn <|F0 [3, 6, 28, 29, 30] ?_
   exact Ln (ws [0])
  ·refine Sx <|Tx <|Ly ac ab <|Bx <|?_
   exact Jm ((ws (l' := [(6, u32 j)]) (σ' := []) []).trans (ws []))
 intro i
 refine T0 [2] ?_
 exact Sr <|Rr
theorem Kl {b r} (h : Gm b = some r) : Con B 77 [.sl false (L cU8 b)] [] (fun r' σ' => r' = .sl false (L cU8 r) ∧ σ' = []) := by
 refine Cw 18 [.tmp 2] Tryz.func77 (fun F hE => ?_) h
 unfold Gm
 refine T0 [0] ?_
 refine Bd fun e c =>Te [3] (o1 5 (Ti c)) Ev ?_
 refine Lt fun a d =>Te (fr' := [(2, .bs true 0 (a.length) 0 (a.length))]) (σ' := [.buf 1 (L cU8 a) false]) [2] Aa (Ev (by simp only [go_sem, d]; exact Ab)) ?_
 exact Sr <|Rr
theorem H6 {c r} (h : D2 c = some r) : Con B 78 [.agg [.sl false (L cU8 c.Rest), .bool c.In, .bool c.Escape, .bool c.Bad]] [] (fun r' σ' => r' = .tup [.sl false (L cU8 r.1), .bool r.2] ∧ σ' = []) := by
 refine Cw 38 [.tmp 2, .tmp 3] Tryz.func78 (fun F hE => ?_) h
 unfold D2
 refine T0 [1] ?_
 refine Lt fun e g =>Te (fr' := [(1, _), (4, i64 e)]) [1, 4] Aa (Ev (by simp only [go_sem, g]; exact Ab)) ?_
 refine Sq ?_
 refine Tw [1, 4, 22] (fun f => ⟨Ap 38 [(1, .ref 0 0), (4, i64 e), (22, .bool f)], [.box [.sl false (L cU8 c.Rest), .bool c.In, .bool c.Escape, .bool c.Bad] false]⟩) ?_ ?_
 ·intro _
  refine Sp (fun a => ?_) fun a => ?_
  ·exact Lf Aa (Ev (by simp only [go_sem, a]; exact Ab)) (ws [0] (by simp only [go_sem, a]) (by simp only [go_sem, a]))
  ·refine Sp (fun b => ?_) fun b => ?_
   ·exact Lf Aa (Ev (by simp only [go_sem, a, b]; exact Ab)) (ws [0] (by simp only [go_sem, a, b]) (by simp only [go_sem, a, b]))
   ·refine Sp (fun d => ?_) fun d => ?_
    ·exact Lf Aa (Ev (by simp only [go_sem, a, b, d]; exact Ab)) (ws [0] (by simp only [go_sem, a, b, d]) (by simp only [go_sem, a, b, d]))
    ·exact Lf Aa (Ev (by simp only [go_sem, a, b, d]; exact Ab)) (ws [0] (by simp only [go_sem, a, b, d]) (by simp only [go_sem, a, b, d]))
 intro f
 refine Cd ?_ ?_
 ·refine T0 [2, 3] ?_
  exact Sr <|Tr <|Rr
 ·refine Sk <|Tn <|Ck fun i =>Ck fun j =>Ck fun k =>Bd fun o l =>Ck fun m =>Bd fun p n =>De [[], [0], [], [], [0, 1, 2, 3], [], [5], [], [5, 6, 7], [5, 6, 7, 8], [], [10], [], [10, 11, 12], [5, 6, 7, 8, 9, 10, 11, 12, 13], [0, 1, 2, 3, 4, 5, 6, 7, 8, 9, 10, 11, 12, 13, 14], [0, 1, 2, 3, 4, 5, 6, 7, 8, 9, 10, 11, 12, 13, 14, 15]] [2, 3] (o2 32 (Kl l) 37 (N9 n)) (Ev (by simp only [go_sem, i, j, k, m]; exact Ab)) ?_
  exact Sr <|Rr
theorem P3 {c r} (h : Hz c = some r) : Con B 30 [.sl false (L cU8 c)] [] (fun r' σ' => r' = .tup [.sl false (L cU8 r.1), i64 r.2] ∧ σ' = []) := by
 refine Cw 53 [.tmp 2, .tmp 3] Tryz.func30 (fun F hE => ?_) h
 unfold Hz
 refine T0 [0] ?_
 refine Sq <|T0 [0, 11] ?_
 refine Cd ?_ ?_
 ·refine T0 [2, 3] ?_
  exact Sr <|Tr <|Rr
 ·refine Sk <|Tn <|Ck fun t =>Lt fun j u =>Te (fr' := [(0, _), (4, .bs (1 == (w64 ((c.length : Int) + 6))) 0 (j.length) 0 (j.length))]) (σ' := [.buf 1 (L cU8 j) false]) [0, 4] Aa (Ev (by simp only [go_sem, t, u]; exact Ab)) ?_
  refine Ck fun w =>Lt fun k x =>Te (fr' := [(0, _), (4, .bs (1 == (w64 ((c.length : Int) + 6))) 0 (k.length) 0 (k.length))]) (σ' := [.buf 1 (L cU8 k) false]) [0, 4] Aa (Ev (by simp only [go_sem, qL w, x]; exact Ab)) ?_
  refine Ja (fun f => ⟨Ap 53 [(4, .bs false 0 (f.length) 0 (f.length))], [.buf 1 (L cU8 f) false]⟩) ?_ ?_
  ·intro ar
   refine Bd fun d y =>Lt fun a z =>Te (fr' := [(4, _), (21, .bs true 1 (a.length) 0 (a.length)), (22, _), (23, _)]) (σ' := [_, .buf 1 (L (cSl cU8) a) false]) [4, 21, 22, 23] (o1 20 (Kl y)) (Ev (by simp only [go_sem, z]; exact Ab)) ?_
   refine Sb ?_
   refine Lo (fun (v : Int × List UInt8) => (⟨Ap 53 [(4, .bs false 0 (v.2.length) 0 (v.2.length)), (21, .bs true 1 (a.length) 0 (a.length)), (22, i64 (([c, d] : List (List UInt8)).length : Int)), (23, i64 v.1)], [.buf 1 (L cU8 v.2) false, .buf 1 (L (cSl cU8) a) false]⟩ : St)) (ws [0, 1]) ?_
   rintro ⟨b, g⟩ au aa ab ac
   show D1 c d a b g = some aa → _
   unfold D1
   refine Lt fun ad ae =>Te (fr' := [(4, _), (21, _), (22, _), (23, _), (24, .bool ad)]) [4, 21, 22, 23, 24] Aa (Ev (by simp only [go_sem, ae]; exact Ab)) ?_
   refine Sq <|Cd ?_ ?_
   ·refine Sk <|Tn <|?_
    refine Ja (fun i => ⟨Ap 53 [(4, .bs false 0 (i.length) 0 (i.length)), (21, .bs true 1 (a.length) 0 (a.length)), (22, i64 (([c, d] : List (List UInt8)).length : Int)), (23, i64 b)], [.buf 1 (L cU8 i) false, .buf 1 (L (cSl cU8) a) false]⟩) ?_ ?_
    ·intro av
     refine Sb <|Ck fun af =>Te [4, 6, 21, 22, 23] Aa (Ev (by simp only [go_sem, qR af]; exact Ab)) ?_
     refine T0 [4, 21, 22, 23, 27, 28, 29] ?_
     refine Sb ?_
     refine Lo (fun (v : Int × List UInt8) => (⟨Ap 53 [(4, .bs false 0 (v.2.length) 0 (v.2.length)), (21, .bs true 1 (a.length) 0 (a.length)), (22, i64 (([c, d] : List (List UInt8)).length : Int)), (23, i64 b), (27, .sl false (L cU8 (nth a b.toNat))), (28, i64 ((nth a b.toNat).length : Int)), (29, i64 v.1)], [.buf 1 (L cU8 v.2) false, .buf 1 (L (cSl cU8) a) false]⟩ : St)) (ws [0, 1]) ?_
     rintro ⟨l, e⟩ aw ag ah ai
     show Df a b l e = some ag → _
     unfold Df
     refine T0 [4, 21, 22, 23, 27, 28, 29, 30] ?_
     refine Sq <|Cd ?_ ?_
     ·refine Sk <|Tn <|Sq <|Sb <|Ck fun aj =>Lt fun q ak =>Te (fr' := [(4, _), (8, u8 q), (21, _), (22, _), (23, _), (27, _), (28, _), (29, _)]) [4, 8, 21, 22, 23, 27, 28, 29] Aa (Ev (by simp only [go_sem, qR aj, ak]; exact Ab)) ?_
      refine Ja (fun (v : UInt8 × List UInt8) => (⟨Ap 53 [(4, .bs false 0 (v.2.length) 0 (v.2.length)), (8, u8 v.1), (21, .bs true 1 (a.length) 0 (a.length)), (22, i64 (([c, d] : List (List UInt8)).length : Int)), (23, i64 b), (27, .sl false (L cU8 (nth a b.toNat))), (28, i64 ((nth a b.toNat).length : Int)), (29, i64 l)], [.buf 1 (L cU8 v.2) false, .buf 1 (L (cSl cU8) a) false]⟩ : St)) ?_ ?_
      ·intro ax
       refine Tw [4, 8, 21, 22, 23, 27, 28, 29, 38] (fun s => ⟨Ap 53 [(4, .bs false 0 (e.length) 0 (e.length)), (8, u8 q), (21, .bs true 1 (a.length) 0 (a.length)), (22, i64 (([c, d] : List (List UInt8)).length : Int)), (23, i64 b), (27, .sl false (L cU8 (nth a b.toNat))), (28, i64 ((nth a b.toNat).length : Int)), (29, i64 l), (38, .bool s)], [.buf 1 (L cU8 e) false, .buf 1 (L (cSl cU8) a) false]⟩) ?_ ?_
       ·intro _
        refine Sp (fun m => ?_) fun m => ?_
        ·exact Lf Aa (Ev (by simp only [go_sem, m]; exact Ab)) (ws [0, 1])
        ·exact Lf Aa (Ev (by simp only [go_sem, m]; exact Ab)) (ws [0, 1])
       intro s
       refine Cd ?_ ?_
       ·refine Ck fun al =>Lt fun n am =>Te (fr' := [(4, .bs false 0 (n.length) 0 (n.length)), (8, _), (21, _), (22, _), (23, _), (27, _), (28, _), (29, _)]) (σ' := [.buf 1 (L cU8 n) false, _, _]) [4, 8, 21, 22, 23, 27, 28, 29] Aa (Ev (by simp only [go_sem, al, am]; exact Ab)) ?_
        refine F0 [4, 8, 21, 22, 23, 27, 28, 29] ?_
        exact Jm (ws [0, 1])
       ·exact Sk <|Jm (ws [0, 1])
      rintro ⟨ay, az⟩
      refine Ck fun an =>Lt fun o ao =>Fe (fr' := [(4, .bs false 0 (o.length) 0 (o.length)), (21, _), (22, _), (23, _), (27, _), (28, _), (29, _)]) (σ' := [.buf 1 (L cU8 o) false, _, _]) [4, 21, 22, 23, 27, 28, 29] Aa (Ev (by simp only [go_sem, an, ao]; exact Ab)) ?_
      refine Bn <|Tn <|F0 [4, 21, 22, 23, 27, 28, 29] ?_
      exact Ln (ws [0, 1])
     ·refine Sx <|Tx <|Ly ai ah <|Bx <|Bn <|?_
      exact Jm ((ws (l' := [(4, .bs false 0 (e.length) 0 (e.length)), (21, .bs true 1 (a.length) 0 (a.length)), (22, i64 (([c, d] : List (List UInt8)).length : Int)), (23, i64 b)]) (σ' := [.buf 1 (L cU8 e) false, .buf 1 (L (cSl cU8) a) false]) [0, 1]).trans (ws [0, 1]))
    intro i
    refine F0 [4, 21, 22, 23] ?_
    exact Ln (ws [0, 1])
   ·refine Sx <|Tx <|Ly ac ab <|Bx <|?_
    exact Jm ((ws (l' := [(4, .bs false 0 (g.length) 0 (g.length))]) (σ' := [.buf 1 (L cU8 g) false]) [0]).trans (ws [0]))
  intro f
  refine Ck fun ap =>Lt fun p aq =>Te (fr' := [(2, .bs false 0 (p.length) 0 (p.length)), (3, _)]) (σ' := [.buf 1 (L cU8 p) false, _]) [2, 3] Aa (Ev (by simp only [go_sem, ap, aq]; exact Ab)) ?_
  exact Sr <|Rr
theorem Kc {m c r} (h : Cv m c = some r) : Con B 31 [.agg [.sl false (L cU8 m.Rest), .bool m.In, .bool m.Escape, .bool m.Bad], .sl false (L cU8 c)] [] (fun r' σ' => r' = .tup [.agg [.bs false 0 (r.1.Rest.length) 0 (r.1.Rest.length), .bool r.1.In, .bool r.1.Escape, .bool r.1.Bad], .bs false 1 (r.2.1.length) 0 (r.2.1.length), i64 r.2.2] ∧ σ' = [.buf 1 (L cU8 r.1.Rest) false, .buf 1 (L (cSl cU8) r.2.1) false]) := by
 refine Co 0 99 [.cell 4 71, .tmp 5, .tmp 6] Tryz.func31 (fun F hE => ?_) h
 unfold Cv
 refine Te [1, 2, 4, 5, 6] Aa (Ev (by simp only [go_sem, Ae, Int.reduceLT, Int.reduceAdd, Int.reduceSub, Nat.reduceMul, Nat.reduceGT, Nat.reduceLeDiff, decide_true, decide_false, Bool.false_eq_true, Int.reduceBEq, Int.reduceGT, Int.reduceLE, Int.reduceGE, beq_self_eq_true]; exact Ab)) ?_
 refine Sc <|Ck fun am =>Lt fun s an =>Te (fr' := [(1, _), (2, _), (4, _), (5, _), (6, _), (7, .bs true 2 (s.length) 0 (s.length))]) (σ' := [_, _, .buf 1 (L cU8 s) false]) [1, 2, 4, 5, 6, 7] Aa (Ev (by simp only [go_sem, Ae, Int.reduceLT, Int.reduceAdd, Int.reduceSub, Nat.reduceMul, Nat.reduceGT, Nat.reduceLeDiff, decide_true, decide_false, Bool.false_eq_true, Int.reduceBEq, Int.reduceGT, Int.reduceLE, Int.reduceGE, beq_self_eq_true, am, an]; exact Ab)) ?_
 refine Lt fun t ao =>Te (fr' := [(1, _), (2, _), (4, _), (5, _), (6, _), (7, .bs true 2 (t.length) 0 (t.length))]) (σ' := [_, _, .buf 1 (L cU8 t) false]) [1, 2, 4, 5, 6, 7] Aa (Ev (by simp only [go_sem, Ae, Int.reduceLT, Int.reduceAdd, Int.reduceSub, Nat.reduceMul, Nat.reduceGT, Nat.reduceLeDiff, decide_true, decide_false, Bool.false_eq_true, Int.reduceBEq, Int.reduceGT, Int.reduceLE, Int.reduceGE, beq_self_eq_true, ao]; exact Ab)) ?_
 refine Te [1, 2, 4, 5, 6] Aa (Ev (by simp only [go_sem, Ae, Int.reduceLT, Int.reduceAdd, Int.reduceSub, Nat.reduceMul, Nat.reduceGT, Nat.reduceLeDiff, decide_true, decide_false, Bool.false_eq_true, Int.reduceBEq, Int.reduceGT, Int.reduceLE, Int.reduceGE, beq_self_eq_true]; exact Ab)) ?_
 refine Sq <|Sl <|Tn <|?_
 refine Ja (fun ⟨aa, ab, ac, ad, n, o⟩ => ⟨Ap 99 [(2, .ref 0 0), (4, .ref 1 0), (5, .bs false 2 (n.length) 0 (n.length)), (6, i64 aa)], [.box [.bs false 3 (o.length) 0 (o.length), .bool ab, .bool ac, .bool ad] false, .box [.sl true (L cU8 ([])), .bool false, .bool false, .bool false] false, .buf 1 (L (cSl cU8) n) false, .buf 1 (L cU8 o) false]⟩) ?_ ?_
 ·intro aC
  refine Te [2, 4, 5, 6, 22, 23, 24] Aa (Ev (by simp only [go_sem, Ae, Int.reduceLT, Int.reduceAdd, Int.reduceSub, Nat.reduceMul, Nat.reduceGT, Nat.reduceLeDiff, decide_true, decide_false, Bool.false_eq_true, Int.reduceBEq, Int.reduceGT, Int.reduceLE, Int.reduceGE, beq_self_eq_true]; exact Ab)) ?_
  refine Sb ?_
  refine Lo (fun ⟨k, e, f, j, g, b, a⟩ => ⟨Ap 99 [(2, .ref 0 0), (4, .ref 1 0), (5, .bs false 2 (b.length) 0 (b.length)), (6, i64 k), (22, .sl false (L cU8 c)), (23, i64 (c.length : Int)), (24, i64 e)], [.box [.bs false 3 (a.length) 0 (a.length), .bool f, .bool j, .bool g] false, .box [.sl true (L cU8 ([])), .bool false, .bool false, .bool false] false, .buf 1 (L (cSl cU8) b) false, .buf 1 (L cU8 a) false]⟩) ((Z4 5 1 rfl).trans (ws [0, 1, 3, 2])) ?_
  rintro ⟨k, e, f, j, g, b, a⟩ aD ap aq ar
  show Eh c k e f j g b a = some ap → _
  unfold Eh
  refine Te [2, 4, 5, 6, 22, 23, 24, 25] Aa (Ev (by simp only [go_sem, Ae, Int.reduceLT, Int.reduceAdd, Int.reduceSub, Nat.reduceMul, Nat.reduceGT, Nat.reduceLeDiff, decide_true, decide_false, Bool.false_eq_true, Int.reduceBEq, Int.reduceGT, Int.reduceLE, Int.reduceGE, beq_self_eq_true]; exact Ab)) ?_
  refine Sq <|Cd ?_ ?_
  ·refine Sk <|Tn <|?_
   refine Ja (fun ⟨ae, af, ag, ah, p, q⟩ => ⟨Ap 99 [(2, .ref 0 0), (4, .ref 1 0), (5, .bs false 2 (p.length) 0 (p.length)), (6, i64 ae), (22, .sl false (L cU8 c)), (23, i64 (c.length : Int)), (24, i64 e)], [.box [.bs false 3 (q.length) 0 (q.length), .bool af, .bool ag, .bool ah] false, .box [.sl true (L cU8 ([])), .bool false, .bool false, .bool false] false, .buf 1 (L (cSl cU8) p) false, .buf 1 (L cU8 q) false]⟩) ?_ ?_
   ·intro aE
    refine Sb <|Ck fun au =>Te [2, 4, 5, 6, 9, 22, 23, 24] Aa (Ev (by simp only [go_sem, Ae, Int.reduceLT, Int.reduceAdd, Int.reduceSub, Nat.reduceMul, Nat.reduceGT, Nat.reduceLeDiff, decide_true, decide_false, Bool.false_eq_true, Int.reduceBEq, Int.reduceGT, Int.reduceLE, Int.reduceGE, beq_self_eq_true, qR au]; exact Ab)) ?_
    refine Jo (fun ai => ⟨Ap 99 [(2, .ref 0 0), (4, .ref 1 0), (5, .bs false 2 (b.length) 0 (b.length)), (6, i64 k), (9, u8 ai), (22, .sl false (L cU8 c)), (23, i64 (c.length : Int)), (24, i64 e)], [.box [.bs false 3 (a.length) 0 (a.length), .bool f, .bool j, .bool g] false, .box [.sl true (L cU8 ([])), .bool false, .bool false, .bool false] false, .buf 1 (L (cSl cU8) b) false, .buf 1 (L cU8 a) false]⟩) ?_ ?_
    ·intro aF u
     refine Sb <|Te [2, 4, 5, 6, 9, 22, 23, 24, 28] Aa (Ev (by simp only [go_sem, Ae, Int.reduceLT, Int.reduceAdd, Int.reduceSub, Nat.reduceMul, Nat.reduceGT, Nat.reduceLeDiff, decide_true, decide_false, Bool.false_eq_true, Int.reduceBEq, Int.reduceGT, Int.reduceLE, Int.reduceGE, beq_self_eq_true]; exact Ab)) ?_
     refine Cd ?_ ?_
     ·refine Ja (fun (v : Int × List (List UInt8)) => (⟨Ap 99 [(2, .ref 0 0), (4, .ref 1 0), (5, .bs false 2 (v.2.length) 0 (v.2.length)), (6, i64 v.1), (22, .sl false (L cU8 c)), (23, i64 (c.length : Int)), (24, i64 e)], [.box [.bs false 3 (a.length) 0 (a.length), .bool f, .bool j, .bool g] false, .box [.sl true (L cU8 ([])), .bool false, .bool false, .bool false] false, .buf 1 (L (cSl cU8) v.2) false, .buf 1 (L cU8 a) true]⟩ : St)) ?_ ?_
      ·intro aG
       refine Tw [2, 4, 5, 6, 22, 23, 24, 46] (fun aj => ⟨Ap 99 [(2, .ref 0 0), (4, .ref 1 0), (5, .bs false 2 (b.length) 0 (b.length)), (6, i64 k), (22, .sl false (L cU8 c)), (23, i64 (c.length : Int)), (24, i64 e), (46, .bool aj)], [.box [.bs false 3 (a.length) 0 (a.length), .bool f, .bool j, .bool g] false, .box [.sl true (L cU8 ([])), .bool false, .bool false, .bool false] false, .buf 1 (L (cSl cU8) b) false, .buf 1 (L cU8 a) false]⟩) ?_ ?_
       ·intro _
        refine Sp (fun d => ?_) fun d => ?_
        ·refine Sp (fun i => ?_) fun i => ?_
         ·exact Lf Aa (Ev (by simp only [go_sem, Ae, Int.reduceLT, Int.reduceAdd, Int.reduceSub, Nat.reduceMul, Nat.reduceGT, Nat.reduceLeDiff, decide_true, decide_false, Bool.false_eq_true, Int.reduceBEq, Int.reduceGT, Int.reduceLE, Int.reduceGE, beq_self_eq_true, d, i]; exact Ab)) (ws [0, 1, 2, 3] (by simp only [go_sem, d, i]) (by simp only [go_sem, d, i]))
         ·refine Sp (fun l => ?_) fun l => ?_
          ·exact Lf Aa (Ev (by simp only [go_sem, Ae, Int.reduceLT, Int.reduceAdd, Int.reduceSub, Nat.reduceMul, Nat.reduceGT, Nat.reduceLeDiff, decide_true, decide_false, Bool.false_eq_true, Int.reduceBEq, Int.reduceGT, Int.reduceLE, Int.reduceGE, beq_self_eq_true, d, i, l]; exact Ab)) (ws [0, 1, 2, 3] (by simp only [go_sem, d, i, l]) (by simp only [go_sem, d, i, l]))
          ·exact Lf Aa (Ev (by simp only [go_sem, Ae, Int.reduceLT, Int.reduceAdd, Int.reduceSub, Nat.reduceMul, Nat.reduceGT, Nat.reduceLeDiff, decide_true, decide_false, Bool.false_eq_true, Int.reduceBEq, Int.reduceGT, Int.reduceLE, Int.reduceGE, beq_self_eq_true, d, i, l]; exact Ab)) (ws [0, 1, 2, 3] (by simp only [go_sem, d, i, l]) (by simp only [go_sem, d, i, l]))
        ·exact Lf Aa (Ev (by simp only [go_sem, Ae, Int.reduceLT, Int.reduceAdd, Int.reduceSub, Nat.reduceMul, Nat.reduceGT, Nat.reduceLeDiff, decide_true, decide_false, Bool.false_eq_true, Int.reduceBEq, Int.reduceGT, Int.reduceLE, Int.reduceGE, beq_self_eq_true, d]; exact Ab)) (ws [0, 1, 2, 3] (by simp only [go_sem, d]) (by simp only [go_sem, d]))
       intro aj
       refine Cd ?_ ?_
       ·refine Bd fun aH av =>Te [2, 4, 5, 6, 10, 11, 22, 23, 24] (o1 49 (H6 av)) (Ev (by simp only [go_sem, Ae, Int.reduceLT, Int.reduceAdd, Int.reduceSub, Nat.reduceMul, Nat.reduceGT, Nat.reduceLeDiff, decide_true, decide_false, Bool.false_eq_true, Int.reduceBEq, Int.reduceGT, Int.reduceLE, Int.reduceGE, beq_self_eq_true]; exact Ab)) ?_
        refine Te [2, 4, 5, 6, 10, 22, 23, 24, 52] Aa (Ev (by simp only [go_sem, Ae, Int.reduceLT, Int.reduceAdd, Int.reduceSub, Nat.reduceMul, Nat.reduceGT, Nat.reduceLeDiff, decide_true, decide_false, Bool.false_eq_true, Int.reduceBEq, Int.reduceGT, Int.reduceLE, Int.reduceGE, beq_self_eq_true]; exact Ab)) ?_
        refine Cd ?_ ?_
        ·refine Ck fun aw =>Lt fun w ax =>Fe (fr' := [(2, _), (4, _), (5, .bs false 2 (w.length) 0 (w.length)), (6, _), (22, _), (23, _), (24, _)]) (σ' := [_, _, .buf 1 (L (cSl cU8) w) false, _, _]) [2, 4, 5, 6, 22, 23, 24] Aa (Ev (by simp only [go_sem, Ae, Int.reduceLT, Int.reduceAdd, Int.reduceSub, Nat.reduceMul, Nat.reduceGT, Nat.reduceLeDiff, decide_true, decide_false, Bool.false_eq_true, Int.reduceBEq, Int.reduceGT, Int.reduceLE, Int.reduceGE, beq_self_eq_true, aw, ax]; exact Ab)) ?_
         exact Jm (ws [0, 1, 2, 3])
        ·refine Fe [2, 4, 5, 6, 22, 23, 24] Aa (Ev (by simp only [go_sem, Ae, Int.reduceLT, Int.reduceAdd, Int.reduceSub, Nat.reduceMul, Nat.reduceGT, Nat.reduceLeDiff, decide_true, decide_false, Bool.false_eq_true, Int.reduceBEq, Int.reduceGT, Int.reduceLE, Int.reduceGE, beq_self_eq_true]; exact Ab)) ?_
         exact Jm (ws [0, 1, 2, 3])
       ·refine Sk ?_
        exact Jm ((Aci 3).trans (ws [0, 1, 2, 3]))
      rintro ⟨aI, aJ⟩
      refine Te [2, 4, 5, 6, 22, 23, 24] Aa (Ev (by simp only [go_sem, Ae, Int.reduceLT, Int.reduceAdd, Int.reduceSub, Nat.reduceMul, Nat.reduceGT, Nat.reduceLeDiff, decide_true, decide_false, Bool.false_eq_true, Int.reduceBEq, Int.reduceGT, Int.reduceLE, Int.reduceGE, beq_self_eq_true]; exact Ab)) ?_
      refine Sx <|Bo <|Jx u <|Bx <|?_
      exact Jm ((Dn 0 0 1 rfl rfl).trans (ws [0, 1, 2, 4]))
     ·refine Tw [2, 4, 5, 6, 9, 22, 23, 24, 60] (fun ak => ⟨Ap 99 [(2, .ref 0 0), (4, .ref 1 0), (5, .bs false 2 (b.length) 0 (b.length)), (6, i64 k), (9, u8 (nth c e.toNat)), (22, .sl false (L cU8 c)), (23, i64 (c.length : Int)), (24, i64 e), (60, .bool ak)], [.box [.bs false 3 (a.length) 0 (a.length), .bool f, .bool j, .bool g] false, .box [.sl true (L cU8 ([])), .bool false, .bool false, .bool false] false, .buf 1 (L (cSl cU8) b) false, .buf 1 (L cU8 a) false]⟩) ?_ ?_
      ·intro _
       refine Sp (fun x => ?_) fun x => ?_
       ·exact Lf Aa (Ev (by simp only [go_sem, Ae, Int.reduceLT, Int.reduceAdd, Int.reduceSub, Nat.reduceMul, Nat.reduceGT, Nat.reduceLeDiff, decide_true, decide_false, Bool.false_eq_true, Int.reduceBEq, Int.reduceGT, Int.reduceLE, Int.reduceGE, beq_self_eq_true, x]; exact Ab)) (ws [0, 1, 2, 3])
       ·exact Lf Aa (Ev (by simp only [go_sem, Ae, Int.reduceLT, Int.reduceAdd, Int.reduceSub, Nat.reduceMul, Nat.reduceGT, Nat.reduceLeDiff, decide_true, decide_false, Bool.false_eq_true, Int.reduceBEq, Int.reduceGT, Int.reduceLE, Int.reduceGE, beq_self_eq_true, x]; exact Ab)) (ws [0, 1, 2, 3])
      intro ak
      refine Cd ?_ ?_
      ·exact Sx <|Bo <|Jx u <|Bx <|Jm (ws [0, 1, 2, 3])
      ·refine Tw [2, 4, 5, 6, 9, 22, 23, 24, 68] (fun al => ⟨Ap 99 [(2, .ref 0 0), (4, .ref 1 0), (5, .bs false 2 (b.length) 0 (b.length)), (6, i64 k), (9, u8 (nth c e.toNat)), (22, .sl false (L cU8 c)), (23, i64 (c.length : Int)), (24, i64 e), (68, .bool al)], [.box [.bs false 3 (a.length) 0 (a.length), .bool f, .bool j, .bool g] false, .box [.sl true (L cU8 ([])), .bool false, .bool false, .bool false] false, .buf 1 (L (cSl cU8) b) false, .buf 1 (L cU8 a) false]⟩) ?_ ?_
       ·intro _
        refine Sp (fun y => ?_) fun y => ?_
        ·exact Lf Aa (Ev (by simp only [go_sem, Ae, Int.reduceLT, Int.reduceAdd, Int.reduceSub, Nat.reduceMul, Nat.reduceGT, Nat.reduceLeDiff, decide_true, decide_false, Bool.false_eq_true, Int.reduceBEq, Int.reduceGT, Int.reduceLE, Int.reduceGE, beq_self_eq_true, y]; exact Ab)) (ws [0, 1, 2, 3])
        ·exact Lf Aa (Ev (by simp only [go_sem, Ae, Int.reduceLT, Int.reduceAdd, Int.reduceSub, Nat.reduceMul, Nat.reduceGT, Nat.reduceLeDiff, decide_true, decide_false, Bool.false_eq_true, Int.reduceBEq, Int.reduceGT, Int.reduceLE, Int.reduceGE, beq_self_eq_true, y]; exact Ab)) (ws [0, 1, 2, 3])
       intro al
       refine Cd ?_ ?_
       ·refine Te [2, 4, 5, 6, 22, 23, 24] Aa (Ev (by simp only [go_sem, Ae, Int.reduceLT, Int.reduceAdd, Int.reduceSub, Nat.reduceMul, Nat.reduceGT, Nat.reduceLeDiff, decide_true, decide_false, Bool.false_eq_true, Int.reduceBEq, Int.reduceGT, Int.reduceLE, Int.reduceGE, beq_self_eq_true]; exact Ab)) ?_
        exact Sx <|Bo <|Jx u <|Bx <|Jm (ws [0, 1, 2, 3])
       ·refine Te [2, 4, 5, 6, 9, 22, 23, 24, 77] Aa (Ev (by simp only [go_sem, Ae, Int.reduceLT, Int.reduceAdd, Int.reduceSub, Nat.reduceMul, Nat.reduceGT, Nat.reduceLeDiff, decide_true, decide_false, Bool.false_eq_true, Int.reduceBEq, Int.reduceGT, Int.reduceLE, Int.reduceGE, beq_self_eq_true]; exact Ab)) ?_
        refine Cd ?_ ?_
        ·refine Lt fun ay az =>Fe (fr' := [(2, _), (4, _), (5, _), (6, _), (9, u8 ay), (22, _), (23, _), (24, _)]) [2, 4, 5, 6, 9, 22, 23, 24] Aa (Ev (by simp only [go_sem, Ae, Int.reduceLT, Int.reduceAdd, Int.reduceSub, Nat.reduceMul, Nat.reduceGT, Nat.reduceLeDiff, decide_true, decide_false, Bool.false_eq_true, Int.reduceBEq, Int.reduceGT, Int.reduceLE, Int.reduceGE, beq_self_eq_true, az]; exact Ab)) ?_
         exact Bn <|Jn (ws [0, 1, 2, 3])
        ·exact Sk <|Bn <|Jn (ws [0, 1, 2, 3])
    intro ai
    refine Te [2, 4, 5, 6, 9, 22, 23, 24] Aa (Ev (by simp only [go_sem, Ae, Int.reduceLT, Int.reduceAdd, Int.reduceSub, Nat.reduceMul, Nat.reduceGT, Nat.reduceLeDiff, decide_true, decide_false, Bool.false_eq_true, Int.reduceBEq, Int.reduceGT, Int.reduceLE, Int.reduceGE, beq_self_eq_true]; exact Ab)) ?_
    refine Sq <|Te [2, 4, 5, 6, 9, 22, 23, 24, 86] Aa (Ev (by simp only [go_sem, Ae, Int.reduceLT, Int.reduceAdd, Int.reduceSub, Nat.reduceMul, Nat.reduceGT, Nat.reduceLeDiff, decide_true, decide_false, Bool.false_eq_true, Int.reduceBEq, Int.reduceGT, Int.reduceLE, Int.reduceGE, beq_self_eq_true]; exact Ab)) ?_
    refine Cd ?_ ?_
    ·refine Te [2, 4, 5, 6, 22, 23, 24] Aa (Ev (by simp only [go_sem, Ae, Int.reduceLT, Int.reduceAdd, Int.reduceSub, Nat.reduceMul, Nat.reduceGT, Nat.reduceLeDiff, decide_true, decide_false, Bool.false_eq_true, Int.reduceBEq, Int.reduceGT, Int.reduceLE, Int.reduceGE, beq_self_eq_true]; exact Ab)) ?_
     refine Sx <|Tx <|Bx <|?_
     exact Jm ((Dn 0 0 1 rfl rfl).trans (ws [0, 1, 2, 4]))
    ·refine Sk <|Tn <|Ck fun aA =>Lt fun z aB =>Fe (σ' := [.box [.bs false 3 (z.length) 0 (z.length), .bool f, .bool false, .bool g] false, _, _, .buf 1 (L cU8 z) false, _]) [2, 4, 5, 6, 22, 23, 24] Aa (Ev (by simp only [go_sem, Ae, Int.reduceLT, Int.reduceAdd, Int.reduceSub, Nat.reduceMul, Nat.reduceGT, Nat.reduceLeDiff, decide_true, decide_false, Bool.false_eq_true, Int.reduceBEq, Int.reduceGT, Int.reduceLE, Int.reduceGE, beq_self_eq_true, aA, aB]; exact Ab)) ?_
     exact Bn <|Jm (ws [0, 1, 2, 3])
   rintro ⟨ae, af, ag, ah, p, q⟩
   refine Fe [2, 4, 5, 6, 22, 23, 24] Aa (Ev (by simp only [go_sem, Ae, Int.reduceLT, Int.reduceAdd, Int.reduceSub, Nat.reduceMul, Nat.reduceGT, Nat.reduceLeDiff, decide_true, decide_false, Bool.false_eq_true, Int.reduceBEq, Int.reduceGT, Int.reduceLE, Int.reduceGE, beq_self_eq_true]; exact Ab)) ?_
   exact Ln (ws [0, 1, 2, 3])
  ·refine Sx <|Tx <|Ly ar aq <|Bx <|?_
   exact Jm ((ws (l' := [(2, .ref 0 0), (4, .ref 1 0), (5, .bs false 2 (b.length) 0 (b.length)), (6, i64 k)]) (σ' := [.box [.bs false 3 (a.length) 0 (a.length), .bool f, .bool j, .bool g] false, .box [.sl true (L cU8 ([])), .bool false, .bool false, .bool false] false, .buf 1 (L (cSl cU8) b) false, .buf 1 (L cU8 a) false]) [0, 1, 2, 3]).trans (ws [0, 1, 2, 3]))
 rintro ⟨aa, ab, ac, ad, n, o⟩
 refine Te [4, 5, 6] Aa (Ev (by simp only [go_sem, Ae, Int.reduceLT, Int.reduceAdd, Int.reduceSub, Nat.reduceMul, Nat.reduceGT, Nat.reduceLeDiff, decide_true, decide_false, Bool.false_eq_true, Int.reduceBEq, Int.reduceGT, Int.reduceLE, Int.reduceGE, beq_self_eq_true]; exact Ab)) ?_
 exact Sr <|Cr <|Ro [3, 2]
theorem K7 {m c r} (h : B7 m c = some r) : Con B 31 [.agg [.sl false (L cU8 m.Rest), .bool m.In, .bool m.Escape, .bool m.Bad], .sl false (L cU8 c)] [] (fun r' σ' => r' = .tup [.agg [.sl false (L cU8 r.1.Rest), .bool r.1.In, .bool r.1.Escape, .bool r.1.Bad], .sl false (L (cSl cU8) r.2.1), i64 r.2.2] ∧ σ' = []) := by
 refine Cw 99 [.cell 4 71, .tmp 5, .tmp 6] Tryz.func31 (fun F hE => ?_) h
 unfold B7
 refine Te [1, 2, 4, 5, 6] Aa (Ev (by simp only [go_sem, Ae, Int.reduceLT, Int.reduceAdd, Int.reduceSub, Nat.reduceMul, Nat.reduceGT, Nat.reduceLeDiff, decide_true, decide_false, Bool.false_eq_true, Int.reduceBEq, Int.reduceGT, Int.reduceLE, Int.reduceGE, beq_self_eq_true]; exact Ab)) ?_
 refine Sc <|Ck fun am =>Lt fun s an =>Te (fr' := [(1, _), (2, _), (4, _), (5, _), (6, _), (7, .bs true 2 (s.length) 0 (s.length))]) (σ' := [_, _, .buf 1 (L cU8 s) false]) [1, 2, 4, 5, 6, 7] Aa (Ev (by simp only [go_sem, Ae, Int.reduceLT, Int.reduceAdd, Int.reduceSub, Nat.reduceMul, Nat.reduceGT, Nat.reduceLeDiff, decide_true, decide_false, Bool.false_eq_true, Int.reduceBEq, Int.reduceGT, Int.reduceLE, Int.reduceGE, beq_self_eq_true, am, an]; exact Ab)) ?_
 refine Lt fun t ao =>Te (fr' := [(1, _), (2, _), (4, _), (5, _), (6, _), (7, .bs true 2 (t.length) 0 (t.length))]) (σ' := [_, _, .buf 1 (L cU8 t) false]) [1, 2, 4, 5, 6, 7] Aa (Ev (by simp only [go_sem, Ae, Int.reduceLT, Int.reduceAdd, Int.reduceSub, Nat.reduceMul, Nat.reduceGT, Nat.reduceLeDiff, decide_true, decide_false, Bool.false_eq_true, Int.reduceBEq, Int.reduceGT, Int.reduceLE, Int.reduceGE, beq_self_eq_true, ao]; exact Ab)) ?_
 refine Te [1, 2, 4, 5, 6] Aa (Ev (by simp only [go_sem, Ae, Int.reduceLT, Int.reduceAdd, Int.reduceSub, Nat.reduceMul, Nat.reduceGT, Nat.reduceLeDiff, decide_true, decide_false, Bool.false_eq_true, Int.reduceBEq, Int.reduceGT, Int.reduceLE, Int.reduceGE, beq_self_eq_true]; exact Ab)) ?_
 refine Sq <|Sl <|Tn <|?_
 refine Ja (fun ⟨aa, ab, ac, ad, n, o⟩ => ⟨Ap 99 [(2, .ref 0 0), (4, .ref 1 0), (5, .bs false 2 (n.length) 0 (n.length)), (6, i64 aa)], [.box [.bs false 3 (o.length) 0 (o.length), .bool ab, .bool ac, .bool ad] false, .box [.sl true (L cU8 ([])), .bool false, .bool false, .bool false] false, .buf 1 (L (cSl cU8) n) false, .buf 1 (L cU8 o) false]⟩) ?_ ?_
 ·intro aC
  refine Te [2, 4, 5, 6, 22, 23, 24] Aa (Ev (by simp only [go_sem, Ae, Int.reduceLT, Int.reduceAdd, Int.reduceSub, Nat.reduceMul, Nat.reduceGT, Nat.reduceLeDiff, decide_true, decide_false, Bool.false_eq_true, Int.reduceBEq, Int.reduceGT, Int.reduceLE, Int.reduceGE, beq_self_eq_true]; exact Ab)) ?_
  refine Sb ?_
  refine Lo (fun ⟨k, e, f, j, g, b, a⟩ => ⟨Ap 99 [(2, .ref 0 0), (4, .ref 1 0), (5, .bs false 2 (b.length) 0 (b.length)), (6, i64 k), (22, .sl false (L cU8 c)), (23, i64 (c.length : Int)), (24, i64 e)], [.box [.bs false 3 (a.length) 0 (a.length), .bool f, .bool j, .bool g] false, .box [.sl true (L cU8 ([])), .bool false, .bool false, .bool false] false, .buf 1 (L (cSl cU8) b) false, .buf 1 (L cU8 a) false]⟩) ((Z4 5 1 rfl).trans (ws [0, 1, 3, 2])) ?_
  rintro ⟨k, e, f, j, g, b, a⟩ aD ap aq ar
  show Bu c k e f j g b a = some ap → _
  unfold Bu
  refine Te [2, 4, 5, 6, 22, 23, 24, 25] Aa (Ev (by simp only [go_sem, Ae, Int.reduceLT, Int.reduceAdd, Int.reduceSub, Nat.reduceMul, Nat.reduceGT, Nat.reduceLeDiff, decide_true, decide_false, Bool.false_eq_true, Int.reduceBEq, Int.reduceGT, Int.reduceLE, Int.reduceGE, beq_self_eq_true]; exact Ab)) ?_
  refine Sq <|Cd ?_ ?_
  ·refine Sk <|Tn <|?_
   refine Ja (fun ⟨ae, af, ag, ah, p, q⟩ => ⟨Ap 99 [(2, .ref 0 0), (4, .ref 1 0), (5, .bs false 2 (p.length) 0 (p.length)), (6, i64 ae), (22, .sl false (L cU8 c)), (23, i64 (c.length : Int)), (24, i64 e)], [.box [.bs false 3 (q.length) 0 (q.length), .bool af, .bool ag, .bool ah] false, .box [.sl true (L cU8 ([])), .bool false, .bool false, .bool false] false, .buf 1 (L (cSl cU8) p) false, .buf 1 (L cU8 q) false]⟩) ?_ ?_
   ·intro aE
    refine Sb <|Ck fun au =>Te [2, 4, 5, 6, 9, 22, 23, 24] Aa (Ev (by simp only [go_sem, Ae, Int.reduceLT, Int.reduceAdd, Int.reduceSub, Nat.reduceMul, Nat.reduceGT, Nat.reduceLeDiff, decide_true, decide_false, Bool.false_eq_true, Int.reduceBEq, Int.reduceGT, Int.reduceLE, Int.reduceGE, beq_self_eq_true, qR au]; exact Ab)) ?_
    refine Jo (fun ai => ⟨Ap 99 [(2, .ref 0 0), (4, .ref 1 0), (5, .bs false 2 (b.length) 0 (b.length)), (6, i64 k), (9, u8 ai), (22, .sl false (L cU8 c)), (23, i64 (c.length : Int)), (24, i64 e)], [.box [.bs false 3 (a.length) 0 (a.length), .bool f, .bool j, .bool g] false, .box [.sl true (L cU8 ([])), .bool false, .bool false, .bool false] false, .buf 1 (L (cSl cU8) b) false, .buf 1 (L cU8 a) false]⟩) ?_ ?_
    ·intro aF u
     refine Sb <|Te [2, 4, 5, 6, 9, 22, 23, 24, 28] Aa (Ev (by simp only [go_sem, Ae, Int.reduceLT, Int.reduceAdd, Int.reduceSub, Nat.reduceMul, Nat.reduceGT, Nat.reduceLeDiff, decide_true, decide_false, Bool.false_eq_true, Int.reduceBEq, Int.reduceGT, Int.reduceLE, Int.reduceGE, beq_self_eq_true]; exact Ab)) ?_
     refine Cd ?_ ?_
     ·refine Ja (fun (v : Int × List (List UInt8)) => (⟨Ap 99 [(2, .ref 0 0), (4, .ref 1 0), (5, .bs false 2 (v.2.length) 0 (v.2.length)), (6, i64 v.1), (22, .sl false (L cU8 c)), (23, i64 (c.length : Int)), (24, i64 e)], [.box [.bs false 3 (a.length) 0 (a.length), .bool f, .bool j, .bool g] false, .box [.sl true (L cU8 ([])), .bool false, .bool false, .bool false] false, .buf 1 (L (cSl cU8) v.2) false, .buf 1 (L cU8 a) true]⟩ : St)) ?_ ?_
      ·intro aG
       refine Tw [2, 4, 5, 6, 22, 23, 24, 46] (fun aj => ⟨Ap 99 [(2, .ref 0 0), (4, .ref 1 0), (5, .bs false 2 (b.length) 0 (b.length)), (6, i64 k), (22, .sl false (L cU8 c)), (23, i64 (c.length : Int)), (24, i64 e), (46, .bool aj)], [.box [.bs false 3 (a.length) 0 (a.length), .bool f, .bool j, .bool g] false, .box [.sl true (L cU8 ([])), .bool false, .bool false, .bool false] false, .buf 1 (L (cSl cU8) b) false, .buf 1 (L cU8 a) false]⟩) ?_ ?_
       ·intro _
        refine Sp (fun d => ?_) fun d => ?_
        ·refine Sp (fun i => ?_) fun i => ?_
         ·exact Lf Aa (Ev (by simp only [go_sem, Ae, Int.reduceLT, Int.reduceAdd, Int.reduceSub, Nat.reduceMul, Nat.reduceGT, Nat.reduceLeDiff, decide_true, decide_false, Bool.false_eq_true, Int.reduceBEq, Int.reduceGT, Int.reduceLE, Int.reduceGE, beq_self_eq_true, d, i]; exact Ab)) (ws [0, 1, 2, 3] (by simp only [go_sem, d, i]) (by simp only [go_sem, d, i]))
         ·refine Sp (fun l => ?_) fun l => ?_
          ·exact Lf Aa (Ev (by simp only [go_sem, Ae, Int.reduceLT, Int.reduceAdd, Int.reduceSub, Nat.reduceMul, Nat.reduceGT, Nat.reduceLeDiff, decide_true, decide_false, Bool.false_eq_true, Int.reduceBEq, Int.reduceGT, Int.reduceLE, Int.reduceGE, beq_self_eq_true, d, i, l]; exact Ab)) (ws [0, 1, 2, 3] (by simp only [go_sem, d, i, l]) (by simp only [go_sem, d, i, l]))
          ·exact Lf Aa (Ev (by simp only [go_sem, Ae, Int.reduceLT, Int.reduceAdd, Int.reduceSub, Nat.reduceMul, Nat.reduceGT, Nat.reduceLeDiff, decide_true, decide_false, Bool.false_eq_true, Int.reduceBEq, Int.reduceGT, Int.reduceLE, Int.reduceGE, beq_self_eq_true, d, i, l]; exact Ab)) (ws [0, 1, 2, 3] (by simp only [go_sem, d, i, l]) (by simp only [go_sem, d, i, l]))
        ·exact Lf Aa (Ev (by simp only [go_sem, Ae, Int.reduceLT, Int.reduceAdd, Int.reduceSub, Nat.reduceMul, Nat.reduceGT, Nat.reduceLeDiff, decide_true, decide_false, Bool.false_eq_true, Int.reduceBEq, Int.reduceGT, Int.reduceLE, Int.reduceGE, beq_self_eq_true, d]; exact Ab)) (ws [0, 1, 2, 3] (by simp only [go_sem, d]) (by simp only [go_sem, d]))
       intro aj
       refine Cd ?_ ?_
       ·refine Bd fun aH av =>Te [2, 4, 5, 6, 10, 11, 22, 23, 24] (o1 49 (H6 av)) (Ev (by simp only [go_sem, Ae, Int.reduceLT, Int.reduceAdd, Int.reduceSub, Nat.reduceMul, Nat.reduceGT, Nat.reduceLeDiff, decide_true, decide_false, Bool.false_eq_true, Int.reduceBEq, Int.reduceGT, Int.reduceLE, Int.reduceGE, beq_self_eq_true]; exact Ab)) ?_
        refine Te [2, 4, 5, 6, 10, 22, 23, 24, 52] Aa (Ev (by simp only [go_sem, Ae, Int.reduceLT, Int.reduceAdd, Int.reduceSub, Nat.reduceMul, Nat.reduceGT, Nat.reduceLeDiff, decide_true, decide_false, Bool.false_eq_true, Int.reduceBEq, Int.reduceGT, Int.reduceLE, Int.reduceGE, beq_self_eq_true]; exact Ab)) ?_
        refine Cd ?_ ?_
        ·refine Ck fun aw =>Lt fun w ax =>Fe (fr' := [(2, _), (4, _), (5, .bs false 2 (w.length) 0 (w.length)), (6, _), (22, _), (23, _), (24, _)]) (σ' := [_, _, .buf 1 (L (cSl cU8) w) false, _, _]) [2, 4, 5, 6, 22, 23, 24] Aa (Ev (by simp only [go_sem, Ae, Int.reduceLT, Int.reduceAdd, Int.reduceSub, Nat.reduceMul, Nat.reduceGT, Nat.reduceLeDiff, decide_true, decide_false, Bool.false_eq_true, Int.reduceBEq, Int.reduceGT, Int.reduceLE, Int.reduceGE, beq_self_eq_true, aw, ax]; exact Ab)) ?_
         exact Jm (ws [0, 1, 2, 3])
        ·refine Fe [2, 4, 5, 6, 22, 23, 24] Aa (Ev (by simp only [go_sem, Ae, Int.reduceLT, Int.reduceAdd, Int.reduceSub, Nat.reduceMul, Nat.reduceGT, Nat.reduceLeDiff, decide_true, decide_false, Bool.false_eq_true, Int.reduceBEq, Int.reduceGT, Int.reduceLE, Int.reduceGE, beq_self_eq_true]; exact Ab)) ?_
         exact Jm (ws [0, 1, 2, 3])
       ·refine Sk ?_
        exact Jm ((Aci 3).trans (ws [0, 1, 2, 3]))
      rintro ⟨aI, aJ⟩
      refine Te [2, 4, 5, 6, 22, 23, 24] Aa (Ev (by simp only [go_sem, Ae, Int.reduceLT, Int.reduceAdd, Int.reduceSub, Nat.reduceMul, Nat.reduceGT, Nat.reduceLeDiff, decide_true, decide_false, Bool.false_eq_true, Int.reduceBEq, Int.reduceGT, Int.reduceLE, Int.reduceGE, beq_self_eq_true]; exact Ab)) ?_
      refine Sx <|Bo <|Jx u <|Bx <|?_
      exact Jm ((Dn 0 0 1 rfl rfl).trans (ws [0, 1, 2, 4]))
     ·refine Tw [2, 4, 5, 6, 9, 22, 23, 24, 60] (fun ak => ⟨Ap 99 [(2, .ref 0 0), (4, .ref 1 0), (5, .bs false 2 (b.length) 0 (b.length)), (6, i64 k), (9, u8 (nth c e.toNat)), (22, .sl false (L cU8 c)), (23, i64 (c.length : Int)), (24, i64 e), (60, .bool ak)], [.box [.bs false 3 (a.length) 0 (a.length), .bool f, .bool j, .bool g] false, .box [.sl true (L cU8 ([])), .bool false, .bool false, .bool false] false, .buf 1 (L (cSl cU8) b) false, .buf 1 (L cU8 a) false]⟩) ?_ ?_
      ·intro _
       refine Sp (fun x => ?_) fun x => ?_
       ·exact Lf Aa (Ev (by simp only [go_sem, Ae, Int.reduceLT, Int.reduceAdd, Int.reduceSub, Nat.reduceMul, Nat.reduceGT, Nat.reduceLeDiff, decide_true, decide_false, Bool.false_eq_true, Int.reduceBEq, Int.reduceGT, Int.reduceLE, Int.reduceGE, beq_self_eq_true, x]; exact Ab)) (ws [0, 1, 2, 3])
       ·exact Lf Aa (Ev (by simp only [go_sem, Ae, Int.reduceLT, Int.reduceAdd, Int.reduceSub, Nat.reduceMul, Nat.reduceGT, Nat.reduceLeDiff, decide_true, decide_false, Bool.false_eq_true, Int.reduceBEq, Int.reduceGT, Int.reduceLE, Int.reduceGE, beq_self_eq_true, x]; exact Ab)) (ws [0, 1, 2, 3])
      intro ak
      refine Cd ?_ ?_
      ·exact Sx <|Bo <|Jx u <|Bx <|Jm (ws [0, 1, 2, 3])
      ·refine Tw [2, 4, 5, 6, 9, 22, 23, 24, 68] (fun al => ⟨Ap 99 [(2, .ref 0 0), (4, .ref 1 0), (5, .bs false 2 (b.length) 0 (b.length)), (6, i64 k), (9, u8 (nth c e.toNat)), (22, .sl false (L cU8 c)), (23, i64 (c.length : Int)), (24, i64 e), (68, .bool al)], [.box [.bs false 3 (a.length) 0 (a.length), .bool f, .bool j, .bool g] false, .box [.sl true (L cU8 ([])), .bool false, .bool false, .bool false] false, .buf 1 (L (cSl cU8) b) false, .buf 1 (L cU8 a) false]⟩) ?_ ?_
       ·intro _
        refine Sp (fun y => ?_) fun y => ?_
        ·exact Lf Aa (Ev (by simp only [go_sem, Ae, Int.reduceLT, Int.reduceAdd, Int.reduceSub, Nat.reduceMul, Nat.reduceGT, Nat.reduceLeDiff, decide_true, decide_false, Bool.false_eq_true, Int.reduceBEq, Int.reduceGT, Int.reduceLE, Int.reduceGE, beq_self_eq_true, y]; exact Ab)) (ws [0, 1, 2, 3])
        ·exact Lf Aa (Ev (by simp only [go_sem, Ae, Int.reduceLT, Int.reduceAdd, Int.reduceSub, Nat.reduceMul, Nat.reduceGT, Nat.reduceLeDiff, decide_true, decide_false, Bool.false_eq_true, Int.reduceBEq, Int.reduceGT, Int.reduceLE, Int.reduceGE, beq_self_eq_true, y]; exact Ab)) (ws [0, 1, 2, 3])
       intro al
       refine Cd ?_ ?_
       ·refine Te [2, 4, 5, 6, 22, 23, 24] Aa (Ev (by simp only [go_sem, Ae, Int.reduceLT, Int.reduceAdd, Int.reduceSub, Nat.reduceMul, Nat.reduceGT, Nat.reduceLeDiff, decide_true, decide_false, Bool.false_eq_true, Int.reduceBEq, Int.reduceGT, Int.reduceLE, Int.reduceGE, beq_self_eq_true]; exact Ab)) ?_
        exact Sx <|Bo <|Jx u <|Bx <|Jm (ws [0, 1, 2, 3])
       ·refine Te [2, 4, 5, 6, 9, 22, 23, 24, 77] Aa (Ev (by simp only [go_sem, Ae, Int.reduceLT, Int.reduceAdd, Int.reduceSub, Nat.reduceMul, Nat.reduceGT, Nat.reduceLeDiff, decide_true, decide_false, Bool.false_eq_true, Int.reduceBEq, Int.reduceGT, Int.reduceLE, Int.reduceGE, beq_self_eq_true]; exact Ab)) ?_
        refine Cd ?_ ?_
        ·refine Lt fun ay az =>Fe (fr' := [(2, _), (4, _), (5, _), (6, _), (9, u8 ay), (22, _), (23, _), (24, _)]) [2, 4, 5, 6, 9, 22, 23, 24] Aa (Ev (by simp only [go_sem, Ae, Int.reduceLT, Int.reduceAdd, Int.reduceSub, Nat.reduceMul, Nat.reduceGT, Nat.reduceLeDiff, decide_true, decide_false, Bool.false_eq_true, Int.reduceBEq, Int.reduceGT, Int.reduceLE, Int.reduceGE, beq_self_eq_true, az]; exact Ab)) ?_
         exact Bn <|Jn (ws [0, 1, 2, 3])
        ·exact Sk <|Bn <|Jn (ws [0, 1, 2, 3])
    intro ai
    refine Te [2, 4, 5, 6, 9, 22, 23, 24] Aa (Ev (by simp only [go_sem, Ae, Int.reduceLT, Int.reduceAdd, Int.reduceSub, Nat.reduceMul, Nat.reduceGT, Nat.reduceLeDiff, decide_true, decide_false, Bool.false_eq_true, Int.reduceBEq, Int.reduceGT, Int.reduceLE, Int.reduceGE, beq_self_eq_true]; exact Ab)) ?_
    refine Sq <|Te [2, 4, 5, 6, 9, 22, 23, 24, 86] Aa (Ev (by simp only [go_sem, Ae, Int.reduceLT, Int.reduceAdd, Int.reduceSub, Nat.reduceMul, Nat.reduceGT, Nat.reduceLeDiff, decide_true, decide_false, Bool.false_eq_true, Int.reduceBEq, Int.reduceGT, Int.reduceLE, Int.reduceGE, beq_self_eq_true]; exact Ab)) ?_
    refine Cd ?_ ?_
    ·refine Te [2, 4, 5, 6, 22, 23, 24] Aa (Ev (by simp only [go_sem, Ae, Int.reduceLT, Int.reduceAdd, Int.reduceSub, Nat.reduceMul, Nat.reduceGT, Nat.reduceLeDiff, decide_true, decide_false, Bool.false_eq_true, Int.reduceBEq, Int.reduceGT, Int.reduceLE, Int.reduceGE, beq_self_eq_true]; exact Ab)) ?_
     refine Sx <|Tx <|Bx <|?_
     exact Jm ((Dn 0 0 1 rfl rfl).trans (ws [0, 1, 2, 4]))
    ·refine Sk <|Tn <|Ck fun aA =>Lt fun z aB =>Fe (σ' := [.box [.bs false 3 (z.length) 0 (z.length), .bool f, .bool false, .bool g] false, _, _, .buf 1 (L cU8 z) false, _]) [2, 4, 5, 6, 22, 23, 24] Aa (Ev (by simp only [go_sem, Ae, Int.reduceLT, Int.reduceAdd, Int.reduceSub, Nat.reduceMul, Nat.reduceGT, Nat.reduceLeDiff, decide_true, decide_false, Bool.false_eq_true, Int.reduceBEq, Int.reduceGT, Int.reduceLE, Int.reduceGE, beq_self_eq_true, aA, aB]; exact Ab)) ?_
     exact Bn <|Jm (ws [0, 1, 2, 3])
   rintro ⟨ae, af, ag, ah, p, q⟩
   refine Fe [2, 4, 5, 6, 22, 23, 24] Aa (Ev (by simp only [go_sem, Ae, Int.reduceLT, Int.reduceAdd, Int.reduceSub, Nat.reduceMul, Nat.reduceGT, Nat.reduceLeDiff, decide_true, decide_false, Bool.false_eq_true, Int.reduceBEq, Int.reduceGT, Int.reduceLE, Int.reduceGE, beq_self_eq_true]; exact Ab)) ?_
   exact Ln (ws [0, 1, 2, 3])
  ·refine Sx <|Tx <|Ly ar aq <|Bx <|?_
   exact Jm ((ws (l' := [(2, .ref 0 0), (4, .ref 1 0), (5, .bs false 2 (b.length) 0 (b.length)), (6, i64 k)]) (σ' := [.box [.bs false 3 (a.length) 0 (a.length), .bool f, .bool j, .bool g] false, .box [.sl true (L cU8 ([])), .bool false, .bool false, .bool false] false, .buf 1 (L (cSl cU8) b) false, .buf 1 (L cU8 a) false]) [0, 1, 2, 3]).trans (ws [0, 1, 2, 3]))
 rintro ⟨aa, ab, ac, ad, n, o⟩
 refine Te [4, 5, 6] Aa (Ev (by simp only [go_sem, Ae, Int.reduceLT, Int.reduceAdd, Int.reduceSub, Nat.reduceMul, Nat.reduceGT, Nat.reduceLeDiff, decide_true, decide_false, Bool.false_eq_true, Int.reduceBEq, Int.reduceGT, Int.reduceLE, Int.reduceGE, beq_self_eq_true]; exact Ab)) ?_
 exact Sr <|Cr <|Rr
theorem Ml {a r} (h : Il a = some r) : Con B 87 [.agg [i64 a.Kind, i64 a.Railway, i64 a.Other]] [] (fun r' σ' => r' = .bool r ∧ σ' = []) := by
 refine Cw 42 [.tmp 2] Tryz.func87 (fun F hE => ?_) h
 unfold Il
 refine T0 [1] ?_
 refine Sq ?_
 refine Tw [1, 20] (fun g => ⟨Ap 42 [(1, .ref 0 0), (20, .bool g)], [.box [i64 a.Kind, i64 a.Railway, i64 a.Other] false]⟩) ?_ ?_
 ·intro _
  refine Sp (fun b => ?_) fun b => ?_
  ·exact Lf Aa (Ev (by simp only [go_sem, b]; exact Ab)) (ws [0])
  ·refine Sp (fun c => ?_) fun c => ?_
   ·exact Lf Aa (Ev (by simp only [go_sem, b, c]; exact Ab)) (ws [0])
   ·refine Sp (fun e => ?_) fun e => ?_
    ·exact Lf Aa (Ev (by simp only [go_sem, b, c, e]; exact Ab)) (ws [0])
    ·exact Lf Aa (Ev (by simp only [go_sem, b, c, e]; exact Ab)) (ws [0])
 intro g
 refine Cd ?_ ?_
 ·refine T0 [2] ?_
  exact Sr <|Tr <|Rr
 ·refine Sk <|Tn <|Sq <|T0 [1, 23] ?_
  refine Cd ?_ ?_
  ·refine T0 [2] ?_
   exact Sr <|Tr <|Rr
  ·refine Sk <|Tn <|?_
   refine Tw [2] (fun i => ⟨Ap 42 [(2, .bool i)], []⟩) ?_ ?_
   ·intro _
    refine Sp (fun d => ?_) fun d => ?_
    ·refine Sp (fun f => ?_) fun f => ?_
     ·exact Lf Aa (Ev (by simp only [go_sem, d, f]; exact Ab)) (ws [])
     ·exact Lf Aa (Ev (by simp only [go_sem, d, f]; exact Ab)) (ws [])
    ·exact Lf Aa (Ev (by simp only [go_sem, d]; exact Ab)) (ws [])
   intro i
   exact Sr <|Rr
theorem Mu {a r} (h : Ic a = some r) : Con B 39 [.agg [.sl false (L Ah a.Places), .sl false (L Aq a.Edges)]] [] (fun r' σ' => r' = i64 r ∧ σ' = []) := by
 refine Cw 84 [.tmp 2] Tryz.func39 (fun F hE => ?_) h
 unfold Ic
 refine T0 [1] ?_
 refine Lt fun b t =>Te (fr' := [(1, _), (3, i64 b)]) [1, 3] Aa (Ev (by simp only [go_sem, t]; exact Ab)) ?_
 refine Sq ?_
 refine Tw [1, 3, 18] (fun m => ⟨Ap 84 [(1, .ref 0 0), (3, i64 b), (18, .bool m)], [.box [.sl false (L Ah a.Places), .sl false (L Aq a.Edges)] false]⟩) ?_ ?_
 ·intro _
  refine Sp (fun j => ?_) fun j => ?_
  ·exact Lf Aa (Ev (by simp only [go_sem, j]; exact Ab)) (ws [0])
  ·exact Lf Aa (Ev (by simp only [go_sem, j]; exact Ab)) (ws [0])
 intro m
 refine Cd ?_ ?_
 ·refine T0 [2] ?_
  exact Sr <|Tr <|Rr
 ·refine Sk <|Tn <|?_
  refine Jo (fun _ => ⟨Ap 84 [(1, .ref 0 0), (3, i64 b)], [.box [.sl false (L Ah a.Places), .sl false (L Aq a.Edges)] false]⟩) ?_ ?_
  ·intro ar u
   refine T0 [1, 3, 20, 21, 22] ?_
   refine Sb ?_
   refine Lo (fun k => ⟨Ap 84 [(1, .ref 0 0), (3, i64 b), (20, .sl false (L Ah a.Places)), (21, i64 (a.Places.length : Int)), (22, i64 k)], [.box [.sl false (L Ah a.Places), .sl false (L Aq a.Edges)] false]⟩) (ws [0]) ?_
   rintro k au v n o
   show F3 a k = some v → _
   unfold F3
   refine T0 [1, 3, 20, 21, 22, 23] ?_
   refine Sq <|Cd ?_ ?_
   ·refine Sk <|Tn <|Sq <|Sb <|Ck fun w =>Lt fun x y =>Lt fun z aa =>Lt fun ab ac =>Te (σ' := [_, .box [i64 x, i64 z, i64 ab] false]) [1, 3, 5, 20, 21, 22] Aa (Ev (by simp only [go_sem, qR w, y, aa, ac]; exact Ab)) ?_
    refine Bd fun av ad =>Te [1, 3, 20, 21, 22, 28] (o1 27 (Ml ad)) Ev ?_
    refine Cd ?_ ?_
    ·refine T0 [2] ?_
     exact Sr <|Br <|Tr <|Lr o n <|Br <|Jr u <|Rr
    ·refine Sk <|Bn <|Tn <|F0 [1, 3, 20, 21, 22] ?_
     exact Ln (ws [0])
   ·refine Sx <|Tx <|Lx o n <|Bx <|?_
    exact Jn ((ws (l' := [(1, .ref 0 0), (3, i64 b)]) (σ' := [.box [.sl false (L Ah a.Places), .sl false (L Aq a.Edges)] false]) [0]).trans (ws [0]))
  intro _
  refine Jo (fun _ => ⟨Ap 84 [], []⟩) ?_ ?_
  ·intro aw ae
   refine T0 [3, 31, 32, 33] ?_
   refine Sb ?_
   refine Lo (fun g => ⟨Ap 84 [(3, i64 b), (31, .sl false (L Aq a.Edges)), (32, i64 (a.Edges.length : Int)), (33, i64 g)], []⟩) (ws []) ?_
   rintro g ax af p q
   show F6 a b g = some af → _
   unfold F6
   refine T0 [3, 31, 32, 33, 34] ?_
   refine Sq <|Cd ?_ ?_
   ·refine Sk <|Tn <|Sq <|Sb <|Ck fun ag =>Lt fun ah ai =>Lt fun aj ak =>Lt fun al am =>Lt fun an ao =>Lt fun ap aq =>Te (σ' := [.box [i64 ah, i64 aj, i64 al, i64 an, i64 ap] false]) [3, 7, 31, 32, 33] Aa (Ev (by simp only [go_sem, qR ag, ai, ak, am, ao, aq]; exact Ab)) ?_
    refine Tw [3, 31, 32, 33, 82] (fun s => ⟨Ap 84 [(3, i64 b), (31, .sl false (L Aq a.Edges)), (32, i64 (a.Edges.length : Int)), (33, i64 g), (82, .bool s)], []⟩) ?_ ?_
    ·intro _
     refine Sp (fun c => ?_) fun c => ?_
     ·exact Lf Aa (Ev (by simp only [go_sem, c]; exact Ab)) (ws [])
     ·refine Sp (fun d => ?_) fun d => ?_
      ·exact Lf Aa (Ev (by simp only [go_sem, c, d]; exact Ab)) (ws [])
      ·refine Sp (fun e => ?_) fun e => ?_
       ·exact Lf Aa (Ev (by simp only [go_sem, c, d, e]; exact Ab)) (ws [])
       ·refine Sp (fun f => ?_) fun f => ?_
        ·exact Lf Aa (Ev (by simp only [go_sem, c, d, e, f]; exact Ab)) (ws [])
        ·refine Sp (fun i => ?_) fun i => ?_
         ·exact Lf Aa (Ev (by simp only [go_sem, c, d, e, f, i]; exact Ab)) (ws [])
         ·refine Sp (fun l => ?_) fun l => ?_
          ·exact Lf Aa (Ev (by simp only [go_sem, c, d, e, f, i, l]; exact Ab)) (ws [])
          ·exact Lf Aa (Ev (by simp only [go_sem, c, d, e, f, i, l]; exact Ab)) (ws [])
    intro s
    refine Cd ?_ ?_
    ·refine T0 [2] ?_
     exact Sr <|Br <|Tr <|Lr q p <|Br <|Jr ae <|Rr
    ·refine Sk <|Bn <|Tn <|F0 [3, 31, 32, 33] ?_
     exact Ln (ws [])
   ·refine Sx <|Tx <|Lx q p <|Bx <|?_
    exact Jn ((ws (l' := []) (σ' := []) []).trans (ws []))
  intro _
  refine T0 [2] ?_
  exact Sr <|Rr
theorem Ch {b c d r} (h : Gb b c d = some r) : Con B 41 [i64 b, i64 c, i64 d] [] (fun r' σ' => r' = .bool r ∧ σ' = []) := by
 refine Cw 15 [.tmp 6] Tryz.func41 (fun F hE => ?_) h
 unfold Gb
 refine T0 [0, 1, 2] ?_
 refine Tw [6] (fun e => ⟨Ap 15 [(6, .bool e)], []⟩) ?_ ?_
 ·intro _
  refine Sp (fun a => ?_) fun a => ?_
  ·exact Lf Aa (Ev (by simp only [go_sem, a]; exact Ab)) (ws [])
  ·exact Lf Aa (Ev (by simp only [go_sem, a]; exact Ab)) (ws [])
 intro e
 exact Sr <|Rr
open Go.RowKit in
theorem S8 {w : World} {pr : Addr → Prop} {g : Gh} {v : Value} {f : Bool} {els : List (List AV)} (h : Rep w pr g v (.sl f els)) (h0 : els.length = 0) : ∃ a c, v = .slice a 0 c := by
  cases h with
  | sl _ a len cap _ _ k c hlen hcap hfull hnone hk hc hr =>
    have : len = 0 := by omega
    subst this
    exact ⟨a, cap, rfl⟩
open Go.RowKit in
theorem Py {f : Api_Fleet} {r : Int} (h : K1 f = some r) : Con B 40 [.agg [.sl false (L Ak f.Types), .sl false (L Ar f.Wagons), .sl false (L A9 f.Swaps), .sl false (L Ba f.Washes)]] [] (fun r' σ' => r' = i64 r ∧ σ' = []) := by
  unfold K1 at h
  split at h
  case isFalse => cases h
  rename_i hl
  obtain ⟨hl1, hl2, hl3, hl4⟩ := hl
  simp only [Option.some.injEq] at h
  subst h
  refine ⟨fun F w g vs hm ha => .inl ⟨⟨Tryz.f40, _, Tryz.func40, rfl, by decide +kernel⟩, ?_⟩⟩
  have hg : g = [] := List.length_eq_zero_iff.1 hm.len
  subst hg
  obtain ⟨vs⟩ := vs
  match vs, ha with
  | [u], ⟨h1, _⟩ =>
    cases h1 with
    | agg _ us _ hs ho hr =>
      obtain ⟨us⟩ := us
      match us, hs with
      | [v1, v2, v3, v4], _ =>
        obtain ⟨a1, c1, e1⟩ := S8 (hr 0 _ rfl) (by simpa [L] using hl1)
        obtain ⟨a2, c2, e2⟩ := S8 (hr 1 _ rfl) (by simpa [L] using hl2)
        obtain ⟨a3, c3, e3⟩ := S8 (hr 2 _ rfl) (by simpa [L] using hl3)
        obtain ⟨a4, c4, e4⟩ := S8 (hr 3 _ rfl) (by simpa [L] using hl4)
        have e1' : v1 = .slice a1 0 c1 := e1
        have e2' : v2 = .slice a2 0 c2 := e2
        have e3' : v3 = .slice a3 0 c3 := e3
        have e4' : v4 = .slice a4 0 c4 := e4
        subst e1' e2' e3' e4'
        refine (Nv a1 a2 a3 a4 c1 c2 c3 c4 w).mono ?_
        rintro e w' ⟨rfl, hb2⟩
        exact ⟨_, _, [], [], rfl, ⟨rfl, rfl⟩, H0 hm hb2, Gp hb2, .int _ _ _⟩
theorem Ky {a r} (h : G5 a = some r) : Con B 16 [.agg [.sl false (L Ah a.Network.Places), .sl false (L Aq a.Network.Edges), .sl false (L Ak a.Fleet.Types), .sl false (L Ar a.Fleet.Wagons), .sl false (L A9 a.Fleet.Swaps), .sl false (L Ba a.Fleet.Washes), .sl false (L An a.Readers), .sl false (L Al a.Shippers), .sl false (L Af a.Railways)]] [] (fun r' σ' => r' = i64 r ∧ σ' = []) := by
 refine Cw 193 [.tmp 2] Tryz.func16 (fun F hE => ?_) h
 unfold G5
 refine T0 [1] ?_
 refine Sq <|Bd fun bX ao =>Te [1, 3] (o1 22 (Mu ao)) Ev ?_
 refine T0 [1, 3, 24] ?_
 refine Cd ?_ ?_
 ·refine T0 [2] ?_
  exact Sr <|Tr <|Rr
 ·refine Sk <|Tn <|Sq <|Bd fun bY ap =>Te [1, 4] (o1 28 (Py ap)) Ev ?_
  refine T0 [1, 4, 30] ?_
  refine Cd ?_ ?_
  ·refine T0 [2] ?_
   exact Sr <|Tr <|Rr
  ·refine Sk <|Tn <|Sq <|?_
   refine Tw [1, 47] (fun s => ⟨Ap 193 [(1, .ref 0 0), (47, .bool s)], [.box [.sl false (L Ah a.Network.Places), .sl false (L Aq a.Network.Edges), .sl false (L Ak a.Fleet.Types), .sl false (L Ar a.Fleet.Wagons), .sl false (L A9 a.Fleet.Swaps), .sl false (L Ba a.Fleet.Washes), .sl false (L An a.Readers), .sl false (L Al a.Shippers), .sl false (L Af a.Railways)] false]⟩) ?_ ?_
   ·intro _
    refine Sp (fun f => ?_) fun f => ?_
    ·exact Lf Aa (Ev (by simp only [go_sem, f]; exact Ab)) (ws [0])
    ·refine Sp (fun l => ?_) fun l => ?_
     ·exact Lf Aa (Ev (by simp only [go_sem, f, l]; exact Ab)) (ws [0])
     ·exact Lf Aa (Ev (by simp only [go_sem, f, l]; exact Ab)) (ws [0])
   intro s
   refine Cd ?_ ?_
   ·refine T0 [2] ?_
    exact Sr <|Tr <|Rr
   ·refine Sk <|Tn <|Lt fun b aq =>De (fr' := [(1, _), (5, _), (6, i64 b)]) [[], [0], [0, 1], [], [3], [3, 4], [0, 1, 2], [0, 1, 2, 3, 4, 5, 6]] [1, 5, 6] Aa (Ev (by simp only [go_sem, aq]; exact Ab)) ?_
    refine T0 [1, 5, 6, 7] ?_
    refine Ja (fun t => ⟨Ap 193 [(1, .ref 0 0), (5, .sl false (L Ah a.Network.Places)), (6, i64 b), (7, .bool t)], [.box [.sl false (L Ah a.Network.Places), .sl false (L Aq a.Network.Edges), .sl false (L Ak a.Fleet.Types), .sl false (L Ar a.Fleet.Wagons), .sl false (L A9 a.Fleet.Swaps), .sl false (L Ba a.Fleet.Washes), .sl false (L An a.Readers), .sl false (L Al a.Shippers), .sl false (L Af a.Railways)] false]⟩) ?_ ?_
    ·intro bZ
     refine T0 [1, 5, 6, 7, 57, 58, 59] ?_
     refine Sb ?_
     refine Lo (fun (v : Bool × Int) => (⟨Ap 193 [(1, .ref 0 0), (5, .sl false (L Ah a.Network.Places)), (6, i64 b), (7, .bool v.1), (57, .sl false (L An a.Readers)), (58, i64 (a.Readers.length : Int)), (59, i64 v.2)], [.box [.sl false (L Ah a.Network.Places), .sl false (L Aq a.Network.Edges), .sl false (L Ak a.Fleet.Types), .sl false (L Ar a.Fleet.Wagons), .sl false (L A9 a.Fleet.Swaps), .sl false (L Ba a.Fleet.Washes), .sl false (L An a.Readers), .sl false (L Al a.Shippers), .sl false (L Af a.Railways)] false]⟩ : St)) (ws [0]) ?_
     rintro ⟨u, w⟩ b0 ar au av
     show E3 a u w = some ar → _
     unfold E3
     refine T0 [1, 5, 6, 7, 57, 58, 59, 60] ?_
     refine Sq <|Cd ?_ ?_
     ·refine Sk <|Tn <|Sq <|Sb <|Ck fun aw =>Lt fun ax ay =>Lt fun az aA =>Lt fun aB aC =>Te (σ' := [_, .box [i64 ax, i64 az, i64 aB] false]) [1, 5, 6, 7, 9, 57, 58, 59] Aa (Ev (by simp only [go_sem, qR aw, ay, aA, aC]; exact Ab)) ?_
      refine Fw [1, 5, 6, 7, 57, 58, 59] (fun x => ⟨Ap 193 [(1, .ref 0 0), (5, .sl false (L Ah a.Network.Places)), (6, i64 b), (7, .bool x), (57, .sl false (L An a.Readers)), (58, i64 (a.Readers.length : Int)), (59, i64 w)], [.box [.sl false (L Ah a.Network.Places), .sl false (L Aq a.Network.Edges), .sl false (L Ak a.Fleet.Types), .sl false (L Ar a.Fleet.Wagons), .sl false (L A9 a.Fleet.Swaps), .sl false (L Ba a.Fleet.Washes), .sl false (L An a.Readers), .sl false (L Al a.Shippers), .sl false (L Af a.Railways)] false]⟩) ?_ ?_
      ·intro _
       refine Sp (fun c => ?_) fun c => ?_
       ·exact Lf Aa (Ev (by simp only [go_sem, c]; exact Ab)) (ws [0])
       ·refine Bd fun b1 g => ?_
        refine Sp (fun d => ?_) fun d => ?_
        ·exact Lf (o1 70 (Ch g)) (Ev (by simp only [go_sem, c, d]; exact Ab)) (ws [0])
        ·refine Sp (fun i => ?_) fun i => ?_
         ·exact Lf (o1 70 (Ch g)) (Ev (by simp only [go_sem, c, d, i]; exact Ab)) (ws [0])
         ·refine Sp (fun m => ?_) fun m => ?_
          ·exact Lf (o1 70 (Ch g)) (Ev (by simp only [go_sem, c, d, i, m]; exact Ab)) (ws [0])
          ·exact Lf (o1 70 (Ch g)) (Ev (by simp only [go_sem, c, d, i, m]; exact Ab)) (ws [0])
      intro x
      refine Bn <|Tn <|F0 [1, 5, 6, 7, 57, 58, 59] ?_
      exact Ln (ws [0])
     ·refine Sx <|Tx <|Ly av au <|Bx <|?_
      exact Jm ((ws (l' := [(1, .ref 0 0), (5, .sl false (L Ah a.Network.Places)), (6, i64 b), (7, .bool u)]) (σ' := [.box [.sl false (L Ah a.Network.Places), .sl false (L Aq a.Network.Edges), .sl false (L Ak a.Fleet.Types), .sl false (L Ar a.Fleet.Wagons), .sl false (L A9 a.Fleet.Swaps), .sl false (L Ba a.Fleet.Washes), .sl false (L An a.Readers), .sl false (L Al a.Shippers), .sl false (L Af a.Railways)] false]) [0]).trans (ws [0]))
    intro t
    refine Ja (fun y => ⟨Ap 193 [(1, .ref 0 0), (5, .sl false (L Ah a.Network.Places)), (6, i64 b), (7, .bool y)], [.box [.sl false (L Ah a.Network.Places), .sl false (L Aq a.Network.Edges), .sl false (L Ak a.Fleet.Types), .sl false (L Ar a.Fleet.Wagons), .sl false (L A9 a.Fleet.Swaps), .sl false (L Ba a.Fleet.Washes), .sl false (L An a.Readers), .sl false (L Al a.Shippers), .sl false (L Af a.Railways)] false]⟩) ?_ ?_
    ·intro b2
     refine T0 [1, 5, 6, 7, 92, 93, 94] ?_
     refine Sb ?_
     refine Lo (fun (v : Bool × Int) => (⟨Ap 193 [(1, .ref 0 0), (5, .sl false (L Ah a.Network.Places)), (6, i64 b), (7, .bool v.1), (92, .sl false (L Al a.Shippers)), (93, i64 (a.Shippers.length : Int)), (94, i64 v.2)], [.box [.sl false (L Ah a.Network.Places), .sl false (L Aq a.Network.Edges), .sl false (L Ak a.Fleet.Types), .sl false (L Ar a.Fleet.Wagons), .sl false (L A9 a.Fleet.Swaps), .sl false (L Ba a.Fleet.Washes), .sl false (L An a.Readers), .sl false (L Al a.Shippers), .sl false (L Af a.Railways)] false]⟩ : St)) (ws [0]) ?_
     rintro ⟨z, aa⟩ b3 aD aE aF
     show E6 a z aa = some aD → _
     unfold E6
     refine T0 [1, 5, 6, 7, 92, 93, 94, 95] ?_
     refine Sq <|Cd ?_ ?_
     ·refine Sk <|Tn <|Sq <|Sb <|Ck fun aG =>Lt fun aH aI =>Te (σ' := [_, .box [i64 aH] false]) [1, 5, 6, 7, 11, 92, 93, 94] Aa (Ev (by simp only [go_sem, qR aG, aI]; exact Ab)) ?_
      refine Fw [1, 5, 6, 7, 92, 93, 94] (fun ab => ⟨Ap 193 [(1, .ref 0 0), (5, .sl false (L Ah a.Network.Places)), (6, i64 b), (7, .bool ab), (92, .sl false (L Al a.Shippers)), (93, i64 (a.Shippers.length : Int)), (94, i64 aa)], [.box [.sl false (L Ah a.Network.Places), .sl false (L Aq a.Network.Edges), .sl false (L Ak a.Fleet.Types), .sl false (L Ar a.Fleet.Wagons), .sl false (L A9 a.Fleet.Swaps), .sl false (L Ba a.Fleet.Washes), .sl false (L An a.Readers), .sl false (L Al a.Shippers), .sl false (L Af a.Railways)] false]⟩) ?_ ?_
      ·intro _
       refine Sp (fun j => ?_) fun j => ?_
       ·exact Lf Aa (Ev (by simp only [go_sem, j]; exact Ab)) (ws [0])
       ·refine Bd fun b4 ac => ?_
        refine Sp (fun n => ?_) fun n => ?_
        ·exact Lf (o1 105 (Ch ac)) (Ev (by simp only [go_sem, j, n]; exact Ab)) (ws [0])
        ·refine Ck fun aJ => ?_
         exact Lf (o1 105 (Ch ac)) (Ev (by simp only [go_sem, j, n, qR aJ]; exact Ab)) (ws [0])
      intro ab
      refine Bn <|Tn <|F0 [1, 5, 6, 7, 92, 93, 94] ?_
      exact Ln (ws [0])
     ·refine Sx <|Tx <|Ly aF aE <|Bx <|?_
      exact Jm ((ws (l' := [(1, .ref 0 0), (5, .sl false (L Ah a.Network.Places)), (6, i64 b), (7, .bool z)]) (σ' := [.box [.sl false (L Ah a.Network.Places), .sl false (L Aq a.Network.Edges), .sl false (L Ak a.Fleet.Types), .sl false (L Ar a.Fleet.Wagons), .sl false (L A9 a.Fleet.Swaps), .sl false (L Ba a.Fleet.Washes), .sl false (L An a.Readers), .sl false (L Al a.Shippers), .sl false (L Af a.Railways)] false]) [0]).trans (ws [0]))
    intro y
    refine Ja (fun ad => ⟨Ap 193 [(1, .ref 0 0), (5, .sl false (L Ah a.Network.Places)), (6, i64 b), (7, .bool ad)], [.box [.sl false (L Ah a.Network.Places), .sl false (L Aq a.Network.Edges), .sl false (L Ak a.Fleet.Types), .sl false (L Ar a.Fleet.Wagons), .sl false (L A9 a.Fleet.Swaps), .sl false (L Ba a.Fleet.Washes), .sl false (L An a.Readers), .sl false (L Al a.Shippers), .sl false (L Af a.Railways)] false]⟩) ?_ ?_
    ·intro b5
     refine T0 [1, 5, 6, 7, 120, 121, 122] ?_
     refine Sb ?_
     refine Lo (fun (v : Bool × Int) => (⟨Ap 193 [(1, .ref 0 0), (5, .sl false (L Ah a.Network.Places)), (6, i64 b), (7, .bool v.1), (120, .sl false (L Ar a.Fleet.Wagons)), (121, i64 (a.Fleet.Wagons.length : Int)), (122, i64 v.2)], [.box [.sl false (L Ah a.Network.Places), .sl false (L Aq a.Network.Edges), .sl false (L Ak a.Fleet.Types), .sl false (L Ar a.Fleet.Wagons), .sl false (L A9 a.Fleet.Swaps), .sl false (L Ba a.Fleet.Washes), .sl false (L An a.Readers), .sl false (L Al a.Shippers), .sl false (L Af a.Railways)] false]⟩ : St)) (ws [0]) ?_
     rintro ⟨ae, af⟩ b6 aK aL aM
     show E0 a ae af = some aK → _
     unfold E0
     refine T0 [1, 5, 6, 7, 120, 121, 122, 123] ?_
     refine Sq <|Cd ?_ ?_
     ·refine Sk <|Tn <|Sq <|Sb <|Ck fun aN =>Lt fun aO aP =>Lt fun aQ aR =>Lt fun aS aT =>Lt fun aU aV =>Lt fun aW aX =>Te (σ' := [_, .box [i64 aO, i64 aQ, i64 aS, i64 aU, i64 aW] false]) [1, 5, 6, 7, 13, 120, 121, 122] Aa (Ev (by simp only [go_sem, qR aN, aP, aR, aT, aV, aX]; exact Ab)) ?_
      refine Fw [1, 5, 6, 7, 120, 121, 122] (fun ag => ⟨Ap 193 [(1, .ref 0 0), (5, .sl false (L Ah a.Network.Places)), (6, i64 b), (7, .bool ag), (120, .sl false (L Ar a.Fleet.Wagons)), (121, i64 (a.Fleet.Wagons.length : Int)), (122, i64 af)], [.box [.sl false (L Ah a.Network.Places), .sl false (L Aq a.Network.Edges), .sl false (L Ak a.Fleet.Types), .sl false (L Ar a.Fleet.Wagons), .sl false (L A9 a.Fleet.Swaps), .sl false (L Ba a.Fleet.Washes), .sl false (L An a.Readers), .sl false (L Al a.Shippers), .sl false (L Af a.Railways)] false]⟩) ?_ ?_
      ·intro _
       refine Sp (fun o => ?_) fun o => ?_
       ·exact Lf Aa (Ev (by simp only [go_sem, o]; exact Ab)) (ws [0])
       ·exact Lf Aa (Ev (by simp only [go_sem, o]; exact Ab)) (ws [0])
      intro ag
      refine Bn <|Tn <|F0 [1, 5, 6, 7, 120, 121, 122] ?_
      exact Ln (ws [0])
     ·refine Sx <|Tx <|Ly aM aL <|Bx <|?_
      exact Jm ((ws (l' := [(1, .ref 0 0), (5, .sl false (L Ah a.Network.Places)), (6, i64 b), (7, .bool ae)]) (σ' := [.box [.sl false (L Ah a.Network.Places), .sl false (L Aq a.Network.Edges), .sl false (L Ak a.Fleet.Types), .sl false (L Ar a.Fleet.Wagons), .sl false (L A9 a.Fleet.Swaps), .sl false (L Ba a.Fleet.Washes), .sl false (L An a.Readers), .sl false (L Al a.Shippers), .sl false (L Af a.Railways)] false]) [0]).trans (ws [0]))
    intro ad
    refine Ja (fun ah => ⟨Ap 193 [(1, .ref 0 0), (6, i64 b), (7, .bool ah)], [.box [.sl false (L Ah a.Network.Places), .sl false (L Aq a.Network.Edges), .sl false (L Ak a.Fleet.Types), .sl false (L Ar a.Fleet.Wagons), .sl false (L A9 a.Fleet.Swaps), .sl false (L Ba a.Fleet.Washes), .sl false (L An a.Readers), .sl false (L Al a.Shippers), .sl false (L Af a.Railways)] false]⟩) ?_ ?_
    ·intro b7
     refine T0 [1, 6, 7, 135, 136, 137] ?_
     refine Sb ?_
     refine Lo (fun (v : Bool × Int) => (⟨Ap 193 [(1, .ref 0 0), (6, i64 b), (7, .bool v.1), (135, .sl false (L Ah a.Network.Places)), (136, i64 (a.Network.Places.length : Int)), (137, i64 v.2)], [.box [.sl false (L Ah a.Network.Places), .sl false (L Aq a.Network.Edges), .sl false (L Ak a.Fleet.Types), .sl false (L Ar a.Fleet.Wagons), .sl false (L A9 a.Fleet.Swaps), .sl false (L Ba a.Fleet.Washes), .sl false (L An a.Readers), .sl false (L Al a.Shippers), .sl false (L Af a.Railways)] false]⟩ : St)) (ws [0]) ?_
     rintro ⟨ai, aj⟩ b8 aY aZ a0
     show E1 a b ai aj = some aY → _
     unfold E1
     refine T0 [1, 6, 7, 135, 136, 137, 138] ?_
     refine Sq <|Cd ?_ ?_
     ·refine Sk <|Tn <|Sq <|Sb <|Ck fun a1 =>Lt fun a2 a3 =>Lt fun a4 a5 =>Lt fun a6 a7 =>Te (σ' := [_, .box [i64 a2, i64 a4, i64 a6] false]) [1, 6, 7, 15, 135, 136, 137] Aa (Ev (by simp only [go_sem, qR a1, a3, a5, a7]; exact Ab)) ?_
      refine Fw [1, 6, 7, 135, 136, 137] (fun ak => ⟨Ap 193 [(1, .ref 0 0), (6, i64 b), (7, .bool ak), (135, .sl false (L Ah a.Network.Places)), (136, i64 (a.Network.Places.length : Int)), (137, i64 aj)], [.box [.sl false (L Ah a.Network.Places), .sl false (L Aq a.Network.Edges), .sl false (L Ak a.Fleet.Types), .sl false (L Ar a.Fleet.Wagons), .sl false (L A9 a.Fleet.Swaps), .sl false (L Ba a.Fleet.Washes), .sl false (L An a.Readers), .sl false (L Al a.Shippers), .sl false (L Af a.Railways)] false]⟩) ?_ ?_
      ·intro _
       refine Sp (fun k => ?_) fun k => ?_
       ·exact Lf Aa (Ev (by simp only [go_sem, k]; exact Ab)) (ws [0])
       ·refine Sp (fun p => ?_) fun p => ?_
        ·exact Lf Aa (Ev (by simp only [go_sem, k, p]; exact Ab)) (ws [0])
        ·exact Lf Aa (Ev (by simp only [go_sem, k, p]; exact Ab)) (ws [0])
      intro ak
      refine Bn <|Tn <|F0 [1, 6, 7, 135, 136, 137] ?_
      exact Ln (ws [0])
     ·refine Sx <|Tx <|Ly a0 aZ <|Bx <|?_
      exact Jm ((ws (l' := [(1, .ref 0 0), (6, i64 b), (7, .bool ai)]) (σ' := [.box [.sl false (L Ah a.Network.Places), .sl false (L Aq a.Network.Edges), .sl false (L Ak a.Fleet.Types), .sl false (L Ar a.Fleet.Wagons), .sl false (L A9 a.Fleet.Swaps), .sl false (L Ba a.Fleet.Washes), .sl false (L An a.Readers), .sl false (L Al a.Shippers), .sl false (L Af a.Railways)] false]) [0]).trans (ws [0]))
    intro ah
    refine Ja (fun e => ⟨Ap 193 [(1, .ref 0 0), (7, .bool e)], [.box [.sl false (L Ah a.Network.Places), .sl false (L Aq a.Network.Edges), .sl false (L Ak a.Fleet.Types), .sl false (L Ar a.Fleet.Wagons), .sl false (L A9 a.Fleet.Swaps), .sl false (L Ba a.Fleet.Washes), .sl false (L An a.Readers), .sl false (L Al a.Shippers), .sl false (L Af a.Railways)] false]⟩) ?_ ?_
    ·intro b9
     refine T0 [1, 6, 7, 157, 158, 159] ?_
     refine Sb ?_
     refine Lo (fun (v : Bool × Int) => (⟨Ap 193 [(1, .ref 0 0), (6, i64 b), (7, .bool v.1), (157, .sl false (L Aq a.Network.Edges)), (158, i64 (a.Network.Edges.length : Int)), (159, i64 v.2)], [.box [.sl false (L Ah a.Network.Places), .sl false (L Aq a.Network.Edges), .sl false (L Ak a.Fleet.Types), .sl false (L Ar a.Fleet.Wagons), .sl false (L A9 a.Fleet.Swaps), .sl false (L Ba a.Fleet.Washes), .sl false (L An a.Readers), .sl false (L Al a.Shippers), .sl false (L Af a.Railways)] false]⟩ : St)) (ws [0]) ?_
     rintro ⟨al, am⟩ ca a8 a9 ba
     show Ew a b al am = some a8 → _
     unfold Ew
     refine T0 [1, 6, 7, 157, 158, 159, 160] ?_
     refine Sq <|Cd ?_ ?_
     ·refine Sk <|Tn <|Sq <|Sb <|Ck fun bb =>Lt fun bc bd =>Lt fun be bf =>Lt fun bg bh =>Lt fun bi bj =>Lt fun bk bl =>Te (σ' := [_, .box [i64 bc, i64 be, i64 bg, i64 bi, i64 bk] false]) [1, 6, 7, 17, 157, 158, 159] Aa (Ev (by simp only [go_sem, qR bb, bd, bf, bh, bj, bl]; exact Ab)) ?_
      refine Fw [1, 6, 7, 157, 158, 159] (fun an => ⟨Ap 193 [(1, .ref 0 0), (6, i64 b), (7, .bool an), (157, .sl false (L Aq a.Network.Edges)), (158, i64 (a.Network.Edges.length : Int)), (159, i64 am)], [.box [.sl false (L Ah a.Network.Places), .sl false (L Aq a.Network.Edges), .sl false (L Ak a.Fleet.Types), .sl false (L Ar a.Fleet.Wagons), .sl false (L A9 a.Fleet.Swaps), .sl false (L Ba a.Fleet.Washes), .sl false (L An a.Readers), .sl false (L Al a.Shippers), .sl false (L Af a.Railways)] false]⟩) ?_ ?_
      ·intro _
       refine Sp (fun q => ?_) fun q => ?_
       ·exact Lf Aa (Ev (by simp only [go_sem, q]; exact Ab)) (ws [0])
       ·exact Lf Aa (Ev (by simp only [go_sem, q]; exact Ab)) (ws [0])
      intro an
      refine Bn <|Tn <|F0 [1, 6, 7, 157, 158, 159] ?_
      exact Ln (ws [0])
     ·refine Sx <|Tx <|Ly ba a9 <|Bx <|?_
      exact Jm ((ws (l' := [(1, .ref 0 0), (7, .bool al)]) (σ' := [.box [.sl false (L Ah a.Network.Places), .sl false (L Aq a.Network.Edges), .sl false (L Ak a.Fleet.Types), .sl false (L Ar a.Fleet.Wagons), .sl false (L A9 a.Fleet.Swaps), .sl false (L Ba a.Fleet.Washes), .sl false (L An a.Readers), .sl false (L Al a.Shippers), .sl false (L Af a.Railways)] false]) [0]).trans (ws [0]))
    intro e
    refine Ja (fun _ => ⟨Ap 193 [(7, .bool e)], []⟩) ?_ ?_
    ·intro cb
     refine T0 [7, 172, 173, 174] ?_
     refine Sb ?_
     refine Lo (fun _ => ⟨Ap 193 [(7, .bool e), (172, .sl false (L Af a.Railways)), (173, i64 (a.Railways.length : Int)), (174, i64 0)], []⟩) (ws []) ?_
     rintro ⟨⟩ cc bm bn bo
     show E5 a  = some bm → _
     unfold E5
     refine T0 [7, 172, 173, 174, 175] ?_
     refine Sq <|Cd ?_ ?_
     ·refine Sk <|Tn <|Sq <|Sb <|Ck fun bp =>Lt fun bq br =>Lt fun bs bt =>Lt fun bu bv =>Lt fun bw bx =>Lt fun bz bA =>Lt fun bB bC =>Lt fun bD bE =>Lt fun bF bG =>Lt fun bH bI =>Lt fun bJ bK =>Lt fun bL bM =>Lt fun bN bO =>Lt fun bP bQ =>Lt fun bR bS =>Lt fun bT bU =>Lt fun bV bW =>Te (σ' := [.box [u64 bq, i64 bs, i64 bu, i64 bw, i64 bz, i64 bB, i64 bD, i64 bF, i64 bH, i64 bJ, i64 bL, i64 bN, i64 bP, i64 bR, i64 bT, .sl false (L Na bV)] false]) [7, 19, 172, 173, 174] Aa (Ev (by simp only [go_sem, qL bp, br, bt, bv, bx, bA, bC, bE, bG, bI, bK, bM, bO, bQ, bS, bU, bW]; exact Ab)) ?_
      exact Rn
     ·refine Sx <|Tx <|Ly bo bn <|Bx <|?_
      exact Jm ((ws (l' := [(7, .bool e)]) (σ' := []) []).trans (ws []))
    intro _
    refine Sq <|T0 [192] ?_
    refine Cd ?_ ?_
    ·refine T0 [2] ?_
     exact Sr <|Tr <|Rr
    ·refine Sk <|Tn <|T0 [2] ?_
     exact Sr <|Rr
theorem Rs {b a r} (h : Pp b a = some r) : Con B 15 [.agg [.sl false (L Ah b.Network.Places), .sl false (L Aq b.Network.Edges), .sl false (L Ak b.Fleet.Types), .sl false (L Ar b.Fleet.Wagons), .sl false (L A9 b.Fleet.Swaps), .sl false (L Ba b.Fleet.Washes), .sl false (L An b.Readers), .sl false (L Al b.Shippers), .sl false (L Af b.Railways)], .agg [i64 a.Kind, i64 a.Ref.Railway, i64 a.Ref.No, i64 a.Wagon, i64 a.Place, i64 a.Other, i64 a.Number, i64 a.From, i64 a.To, i64 a.Code, i64 a.Dest, i64 a.Class, i64 a.Weight, i64 a.Amount, .str a.Text, .sl false (L Ac a.Parts)]] [] (fun r' σ' => r' = i64 r ∧ σ' = []) := by
 refine Cw 19 [.tmp 4] Tryz.func15 (fun F hE => ?_) h
 unfold Pp
 refine T0 [2, 3] ?_
 refine Sq <|Bd fun d c =>Te [2, 3, 4] (o1 6 (Ky c)) Ev ?_
 refine T0 [2, 3, 4, 8] ?_
 refine Cd ?_ ?_
 ·refine T0 [4] ?_
  exact Sr <|Tr <|Rr
 ·exact Sk <|Tn <|Sq <|Rn
theorem Bi {a e r} (h : D3 a e = some r) : Con B 35 [.agg [i64 a.Kind, i64 a.Ref.Railway, i64 a.Ref.No, i64 a.Wagon, i64 a.Place, i64 a.Other, i64 a.Number, i64 a.From, i64 a.To, i64 a.Code, i64 a.Dest, i64 a.Class, i64 a.Weight, i64 a.Amount, .str a.Text, .sl false (L Ac a.Parts)], .str e] [] (fun r' σ' => r' = .bool r ∧ σ' = []) := by
 refine Cw 35 [.tmp 4] Tryz.func35 (fun F hE => ?_) h
 unfold D3
 refine T0 [1, 2] ?_
 refine Bd fun k g =>Te [1, 2, 5, 6] (o1 11 (Fl g)) Ev ?_
 refine Bd fun l i =>Te [1, 2, 5, 6, 7, 8] (o1 16 (Ij i)) Ev ?_
 refine Tw [4] (fun f => ⟨Ap 35 [(4, .bool f)], []⟩) ?_ ?_
 ·intro _
  refine Sp (fun b => ?_) fun b => ?_
  ·refine Sp (fun c => ?_) fun c => ?_
   ·refine Sp (fun d => ?_) fun d => ?_
    ·refine Bd fun m j => ?_
     exact Lf (o1 33 (Fq j)) (Ev (by simp only [go_sem, b, c, d]; exact Ab)) (ws [])
    ·exact Lf Aa (Ev (by simp only [go_sem, b, c, d]; exact Ab)) (ws [])
   ·exact Lf Aa (Ev (by simp only [go_sem, b, c]; exact Ab)) (ws [])
  ·exact Lf Aa (Ev (by simp only [go_sem, b]; exact Ab)) (ws [])
 intro f
 exact Sr <|Rr
theorem Ag {b r} (h : Ca b = some r) : Con B 36 [.str b] [] (fun r' σ' => r' = .bool r ∧ σ' = []) := by
 refine Cw 17 [.tmp 2] Tryz.func36 (fun F hE => ?_) h
 unfold Ca
 refine T0 [0] ?_
 refine Bd fun f d =>Te [3, 4] (o1 7 (Ij d)) Ev ?_
 refine Tw [2] (fun c => ⟨Ap 17 [(2, .bool c)], []⟩) ?_ ?_
 ·intro _
  refine Sp (fun a => ?_) fun a => ?_
  ·refine Bd fun g e => ?_
   exact Lf (o1 15 (Fq e)) (Ev (by simp only [go_sem, a]; exact Ab)) (ws [])
  ·exact Lf Aa (Ev (by simp only [go_sem, a]; exact Ab)) (ws [])
 intro c
 exact Sr <|Rr
theorem Qa {r} (h : law11_sane  = some r) : Con B 12 [] [] (fun r' σ' => r' = .bool r ∧ σ' = []) := by
 refine Cw 91 [.tmp 0] Tryz.func12 (fun F hE => ?_) h
 unfold law11_sane
 refine T0 [] ?_
 refine Lt fun a ag =>Te (σ' := [.buf 3 (L Ac a) false, .box [i64 10, i64 0, i64 0, i64 0, i64 0, i64 0, i64 0, i64 0, i64 0, i64 0, i64 0, i64 0, i64 0, i64 0, .str ([] : List UInt8), .bs true 0 (a.length) 0 (a.length)] false]) [1] Aa (Ev (by simp only [go_sem, ag]; exact Ab)) ?_
 refine Tw [1, 2] (fun v => ⟨Ap 91 [(1, .ref 0 0), (2, .bool v)], [.box [i64 10, i64 0, i64 0, i64 0, i64 0, i64 0, i64 0, i64 0, i64 0, i64 0, i64 0, i64 0, i64 0, i64 0, .str ([] : List UInt8), .bs true 1 (a.length) 0 (a.length)] false, .buf 3 (L Ac a) false]⟩) ?_ ?_
 ·intro _
  refine Bd fun aq p => ?_
  refine Sp (fun k => ?_) fun k => ?_
  ·refine Bd fun ar w => ?_
   refine Sp (fun q => ?_) fun q => ?_
   ·refine Bd fun au ab => ?_
    refine Sp (fun x => ?_) fun x => ?_
    ·refine Bd fun av ah => ?_
     exact Lf (F2 (l := [(15, _, _, _), (19, _, _, _), (23, _, _, _), (27, _, _, _)]) ⟨Bi  p, Bi  w, Bi  ab, Bi  ah, trivial⟩) (Ev (by simp only [go_sem, k, q, x]; exact Ab)) (ws [1, 0])
    ·exact Lf (F2 (l := [(15, _, _, _), (19, _, _, _), (23, _, _, _)]) ⟨Bi  p, Bi  w, Bi  ab, trivial⟩) (Ev (by simp only [go_sem, k, q, x]; exact Ab)) (ws [1, 0])
   ·exact Lf (o2 15 (Bi p) 19 (Bi w)) (Ev (by simp only [go_sem, k, q]; exact Ab)) (ws [1, 0])
  ·exact Lf (o1 15 (Bi p)) (Ev (by simp only [go_sem, k]; exact Ab)) (ws [1, 0])
 intro v
 refine Bd fun ai aj =>Te [1, 2, 4] (o1 31 (Fl aj)) Ev ?_
 refine Bd fun ak al =>Te [1, 2, 4, 6] (o1 36 (H5 al)) Ev ?_
 refine Tw [1, 2, 4, 6, 7] (fun ac => ⟨Ap 91 [(1, .ref 0 0), (2, .bool v), (4, i64 ai.2), (6, i64 ak.2), (7, .bool ac)], [.box [i64 10, i64 0, i64 0, i64 0, i64 0, i64 0, i64 0, i64 0, i64 0, i64 0, i64 0, i64 0, i64 0, i64 0, .str ([] : List UInt8), .bs true 1 (a.length) 0 (a.length)] false, .buf 3 (L Ac a) false]⟩) ?_ ?_
 ·intro _
  refine Bd fun aw d => ?_
  refine Sp (fun b => ?_) fun b => ?_
  ·refine Bd fun ax g => ?_
   refine Sp (fun e => ?_) fun e => ?_
   ·refine Bd fun ay m => ?_
    refine Sp (fun i => ?_) fun i => ?_
    ·refine Bd fun az s => ?_
     refine Sp (fun n => ?_) fun n => ?_
     ·refine Bd fun aA y => ?_
      refine Sp (fun t => ?_) fun t => ?_
      ·refine Bd fun aB ad => ?_
       refine Sp (fun z => ?_) fun z => ?_
       ·refine Bd fun aC am => ?_
        exact Lf (F2 (l := [(39, _, _, _), (41, _, _, _), (44, _, _, _), (47, _, _, _), (50, _, _, _), (53, _, _, _), (56, _, _, _)]) ⟨Ag  d, Ag  g, Ag  m, Ag  s, Ag  y, Ag  ad, Ag  am, trivial⟩) (Ev (by simp only [go_sem, b, e, i, n, t, z]; exact Ab)) (ws [0, 1])
       ·exact Lf (F2 (l := [(39, _, _, _), (41, _, _, _), (44, _, _, _), (47, _, _, _), (50, _, _, _), (53, _, _, _)]) ⟨Ag  d, Ag  g, Ag  m, Ag  s, Ag  y, Ag  ad, trivial⟩) (Ev (by simp only [go_sem, b, e, i, n, t, z]; exact Ab)) (ws [0, 1])
      ·exact Lf (F2 (l := [(39, _, _, _), (41, _, _, _), (44, _, _, _), (47, _, _, _), (50, _, _, _)]) ⟨Ag  d, Ag  g, Ag  m, Ag  s, Ag  y, trivial⟩) (Ev (by simp only [go_sem, b, e, i, n, t]; exact Ab)) (ws [0, 1])
     ·exact Lf (F2 (l := [(39, _, _, _), (41, _, _, _), (44, _, _, _), (47, _, _, _)]) ⟨Ag  d, Ag  g, Ag  m, Ag  s, trivial⟩) (Ev (by simp only [go_sem, b, e, i, n]; exact Ab)) (ws [0, 1])
    ·exact Lf (F2 (l := [(39, _, _, _), (41, _, _, _), (44, _, _, _)]) ⟨Ag  d, Ag  g, Ag  m, trivial⟩) (Ev (by simp only [go_sem, b, e, i]; exact Ab)) (ws [0, 1])
   ·exact Lf (o2 39 (Ag d) 41 (Ag g)) (Ev (by simp only [go_sem, b, e]; exact Ab)) (ws [0, 1])
  ·exact Lf (o1 39 (Ag d)) (Ev (by simp only [go_sem, b]; exact Ab)) (ws [0, 1])
 intro ac
 refine Bd fun aD an =>Bd fun aE ao =>Te [1, 2, 4, 6, 7, 8, 9] (o2 60 (Lu an) 61 (H5 ao)) Ev ?_
 refine Tw [0] (fun ae => ⟨Ap 91 [(0, .bool ae)], []⟩) ?_ ?_
 ·intro _
  refine Sp (fun c => ?_) fun c => ?_
  ·refine Sp (fun f => ?_) fun f => ?_
   ·refine Sp (fun j => ?_) fun j => ?_
    ·refine Sp (fun o => ?_) fun o => ?_
     ·refine Sp (fun u => ?_) fun u => ?_
      ·refine Bd fun aF af => ?_
       refine Sp (fun aa => ?_) fun aa => ?_
       ·refine Bd fun aG ap => ?_
        exact Lf (o2 83 (Fq af) 88 (Rs ap)) (Ev (by simp only [go_sem, c, f, j, o, u, aa]; exact Ab)) (ws [])
       ·exact Lf (o1 83 (Fq af)) (Ev (by simp only [go_sem, c, f, j, o, u, aa]; exact Ab)) (ws [])
      ·exact Lf Aa (Ev (by simp only [go_sem, c, f, j, o, u]; exact Ab)) (ws [])
     ·exact Lf Aa (Ev (by simp only [go_sem, c, f, j, o]; exact Ab)) (ws [])
    ·exact Lf Aa (Ev (by simp only [go_sem, c, f, j]; exact Ab)) (ws [])
   ·exact Lf Aa (Ev (by simp only [go_sem, c, f]; exact Ab)) (ws [])
  ·exact Lf Aa (Ev (by simp only [go_sem, c]; exact Ab)) (ws [])
 intro ae
 exact Sr <|Rr
theorem Kr {a c r} (h : Dq a c = some r) : Con B 10 [.agg [i64 a.Kind, i64 a.Ref.Railway, i64 a.Ref.No, i64 a.Wagon, i64 a.Place, i64 a.Other, i64 a.Number, i64 a.From, i64 a.To, i64 a.Code, i64 a.Dest, i64 a.Class, i64 a.Weight, i64 a.Amount, .str a.Text, .sl false (L Ac a.Parts)], i64 c] [] (fun r' σ' => r' = .bool r ∧ σ' = []) := by
 refine Cw 105 [.tmp 4] Tryz.func10 (fun F hE => ?_) h
 unfold Dq
 refine T0 [1, 2] ?_
 refine Sq <|Bd fun ao y =>Te [1, 2, 19] (o1 18 (Qa y)) Ev ?_
 refine Cd ?_ ?_
 ·refine T0 [4] ?_
  exact Sr <|Tr <|Rr
 ·refine Sk <|Tn <|Sq <|?_
  refine Tw [1, 2, 32] (fun p => ⟨Ap 105 [(1, i64 c), (2, .ref 0 0), (32, .bool p)], [.box [i64 a.Kind, i64 a.Ref.Railway, i64 a.Ref.No, i64 a.Wagon, i64 a.Place, i64 a.Other, i64 a.Number, i64 a.From, i64 a.To, i64 a.Code, i64 a.Dest, i64 a.Class, i64 a.Weight, i64 a.Amount, .str a.Text, .sl false (L Ac a.Parts)] false]⟩) ?_ ?_
  ·intro _
   refine Bd fun ap f => ?_
   refine Sp (fun d => ?_) fun d => ?_
   ·exact Lf (o1 21 (G8 f)) (Ev (by simp only [go_sem, d]; exact Ab)) (ws [0])
   ·refine Sp (fun g => ?_) fun g => ?_
    ·exact Lf (o1 21 (G8 f)) (Ev (by simp only [go_sem, d, g]; exact Ab)) (ws [0])
    ·exact Lf (o1 21 (G8 f)) (Ev (by simp only [go_sem, d, g]; exact Ab)) (ws [0])
  intro p
  refine Cd ?_ ?_
  ·refine T0 [4] ?_
   exact Sr <|Tr <|Rr
  ·refine Sk <|Tn <|Bd fun aq z =>Te [1, 2, 5, 6] (o1 35 (Fl z)) Ev ?_
   refine Bd fun q aa =>Te [1, 2, 6, 7, 8] (o1 41 (P3 aa)) Ev ?_
   refine Sq ?_
   refine Tw [1, 2, 7, 49] (fun s => ⟨Ap 105 [(1, i64 c), (2, .ref 0 0), (7, .sl false (L cU8 q.1)), (49, .bool s)], [.box [i64 a.Kind, i64 a.Ref.Railway, i64 a.Ref.No, i64 a.Wagon, i64 a.Place, i64 a.Other, i64 a.Number, i64 a.From, i64 a.To, i64 a.Code, i64 a.Dest, i64 a.Class, i64 a.Weight, i64 a.Amount, .str a.Text, .sl false (L Ac a.Parts)] false]⟩) ?_ ?_
   ·intro _
    refine Sp (fun i => ?_) fun i => ?_
    ·exact Lf Aa (Ev (by simp only [go_sem, i]; exact Ab)) (ws [0])
    ·exact Lf Aa (Ev (by simp only [go_sem, i]; exact Ab)) (ws [0])
   intro s
   refine Cd ?_ ?_
   ·refine T0 [4] ?_
    exact Sr <|Tr <|Rr
   ·refine Sk <|Tn <|Lt fun t ab =>Te (fr' := [(1, i64 t), (2, _), (7, _)]) [1, 2, 7] Aa (Ev (by simp only [go_sem, ab]; exact Ab)) ?_
    refine Ck fun ac =>Bd fun j ad =>Lt fun k ae =>Lt fun b af =>Te (fr' := [(1, _), (2, _), (7, _), (9, _), (10, .bs false 2 (b.length) 0 (b.length)), (11, _)]) (σ' := [_, .buf 1 (L cU8 k) false, .buf 1 (L (cSl cU8) b) false, .box [.bs false 1 (k.length) 0 (k.length), .bool j.1.In, .bool j.1.Escape, .bool j.1.Bad] false]) [1, 2, 7, 9, 10, 11] (Ai (l := []) (m := [(60, 31, [.agg [.sl true (L cU8 ([])), .bool false, .bool false, .bool false], .sl false (L cU8 (q.1.take t.toNat))], [.box [i64 a.Kind, i64 a.Ref.Railway, i64 a.Ref.No, i64 a.Wagon, i64 a.Place, i64 a.Other, i64 a.Number, i64 a.From, i64 a.To, i64 a.Code, i64 a.Dest, i64 a.Class, i64 a.Weight, i64 a.Amount, .str a.Text, .sl false (L Ac a.Parts)] false], _, _)]) trivial ⟨(wc (Kc ad) []), trivial⟩) (Ev (by simp only [go_sem, ac, ae, af]; exact Ab)) ?_
    refine Rw (G3 3 0 rfl rfl rfl gs gs) ?_
    refine Ck fun ag =>Bd fun ah ai =>De [[], [], [], [1, 2], [0, 1, 2, 3], [0, 1, 2, 3, 4], [0, 1, 2, 3, 4, 5], [0, 1, 2, 3, 4, 5], [0, 1, 2, 3, 4, 5], [], [0, 1, 2, 3, 4, 5, 6, 9], [0, 1, 2, 3, 4, 5, 6, 7, 9, 10], [0, 1, 2, 3, 4, 5, 6, 7, 8, 9, 10, 11]] [2, 10, 11, 13, 14] (o1 69 (K7 ai)) (Ev (by simp only [go_sem, ag]; exact Ab)) ?_
    refine Sq ?_
    refine Tw [2, 10, 13, 86] (fun u => ⟨Ap 105 [(2, .ref 0 0), (10, .bs false 1 (b.length) 0 (b.length)), (13, .sl false (L (cSl cU8) ah.2.1)), (86, .bool u)], [.box [i64 a.Kind, i64 a.Ref.Railway, i64 a.Ref.No, i64 a.Wagon, i64 a.Place, i64 a.Other, i64 a.Number, i64 a.From, i64 a.To, i64 a.Code, i64 a.Dest, i64 a.Class, i64 a.Weight, i64 a.Amount, .str a.Text, .sl false (L Ac a.Parts)] false, .buf 1 (L (cSl cU8) b) false]⟩) ?_ ?_
    ·intro _
     refine Sp (fun e => ?_) fun e => ?_
     ·exact Lf Aa (Ev (by simp only [go_sem, e]; exact Ab)) (ws [0, 2])
     ·refine Sp (fun n => ?_) fun n => ?_
      ·exact Lf Aa (Ev (by simp only [go_sem, e, n]; exact Ab)) (ws [0, 2])
      ·exact Lf Aa (Ev (by simp only [go_sem, e, n]; exact Ab)) (ws [0, 2])
    intro u
    refine Cd ?_ ?_
    ·refine T0 [4] ?_
     exact Sr <|Tr <|Rr
    ·refine Sk <|Tn <|Ck fun aj =>Ck fun v =>?_
     have w := v; simp only [List.cons_append, List.nil_append, List.length_append, List.length_cons, List.length_nil, Nat.zero_add, Nat.reduceAdd] at w
     refine Lt fun ak al =>Te (fr' := [(2, _), (15, .sl false (L cU8 ak))]) [2, 15] Aa (Ev (by simp only [go_sem, aj, qL v, qL w, al]; exact Ab)) ?_
     refine Bd fun ar am =>Te [2, 16, 17] (o1 95 (Ij am)) Ev ?_
     refine Tw [4] (fun x => ⟨Ap 105 [(4, .bool x)], []⟩) ?_ ?_
     ·intro _
      refine Sp (fun o => ?_) fun o => ?_
      ·refine Bd fun au an => ?_
       exact Lf (o1 103 (Fq an)) (Ev (by simp only [go_sem, o]; exact Ab)) (ws [])
      ·exact Lf Aa (Ev (by simp only [go_sem, o]; exact Ab)) (ws [])
     intro x
     exact Sr <|Rr
set_option maxRecDepth 100000
theorem E9 {b : UInt8} : ∀ {p : List UInt8}, b ∉ p → splitAtL b p = [p]
  | [], _ => rfl
  | c :: p, h => by
    have h1 : c ≠ b := fun e => h (by simp [e])
    have h2 : b ∉ p := fun e => h (by simp [e])
    rw [splitAtL, if_neg h1, E9 h2]
theorem Fu {b : UInt8} {r : List UInt8} : ∀ {p : List UInt8}, b ∉ p → splitAtL b (p ++ b :: r) = p :: splitAtL b r
  | [], _ => by rw [List.nil_append, splitAtL, if_pos rfl]
  | c :: p, h => by
    have h1 : c ≠ b := fun e => h (by simp [e])
    have h2 : b ∉ p := fun e => h (by simp [e])
    rw [List.cons_append, splitAtL, if_neg h1, Fu h2]
theorem Ld {b : UInt8} : ∀ (els : List (List UInt8)), (∀ e ∈ els, b ∉ e) → ∀ (p : List UInt8), b ∉ p → splitAtL b (p ++ els.flatMap (b :: ·)) = p :: els
  | [], _, p, hp => by rw [List.flatMap_nil, List.append_nil, E9 hp]
  | e :: els, h, p, hp => by
    rw [List.flatMap_cons, List.cons_append, Fu hp, Ld els (fun x hx => h x (by simp [hx])) e (h e (by simp))]
def Vz (c : UInt8) (n : Int) : List (List UInt8) := if n = 0 then [] else [c :: Lib.itoa n]
def Aiq (r : Api_Ref) : List (List UInt8) := if r.Railway = 0 ∧ r.No = 0 then [] else [114 :: (Lib.itoa r.Railway ++ 46 :: Lib.itoa r.No)]
def Abk (t : List UInt8) : List (List UInt8) := if t = [] then [] else [120 :: esc t]
def Ais (b : Bool) : List UInt8 := if b then [49] else [48]
def Uf (x : Api_Part) : List UInt8 := 113 :: (Lib.itoa x.Kind ++ 46 :: (Lib.itoa x.Serial ++ 46 :: Ais x.Fitted))
def Aej (it : Api_Item) : List (List UInt8) := Vz 119 it.Wagon ++ Vz 112 it.Place ++ Vz 111 it.Other ++ Vz 110 it.Number ++ Vz 102 it.From ++ Vz 116 it.To ++ Vz 99 it.Code ++ Vz 100 it.Dest ++ Vz 107 it.Class ++ Vz 103 it.Weight ++ Vz 97 it.Amount
def els (it : Api_Item) : List (List UInt8) := Aiq it.Ref ++ Aej it ++ Abk it.Text ++ it.Parts.map Uf
theorem Afz (c : UInt8) (n : Int) : num c n = (Vz c n).flatMap ((43 : UInt8) :: ·) := by
  unfold num Vz
  split <;> simp
theorem Afd (r : Api_Ref) : AdV r = (Aiq r).flatMap ((43 : UInt8) :: ·) := by
  unfold AdV Aiq
  split <;> simp
theorem AcC (t : List UInt8) : V4 t = (Abk t).flatMap ((43 : UInt8) :: ·) := by
  unfold V4 Abk
  split <;> simp
theorem AbO (x : Api_Part) : Jb x = (43 : UInt8) :: Uf x := by
  unfold Jb Uf Ais
  cases x.Fitted <;> simp
theorem Aey (it : Api_Item) : Wy it = glob0.get it.Kind.toNat ++ (els it).flatMap ((43 : UInt8) :: ·) := by
  unfold Wy els Aej W1
  rw [Afd, AcC]
  have hp : it.Parts.flatMap Jb = (it.Parts.map Uf).flatMap ((43 : UInt8) :: ·) := by
    rw [List.flatMap_map]
    congr 1
    funext x
    exact AbO x
  rw [hp]
  simp only [Afz, List.flatMap_append, List.append_assoc]
theorem Qm {n : Int} {c : UInt8} (h : c ∈ Lib.itoa n) : c.toNat = 45 ∨ 48 ≤ c.toNat ∧ c.toNat ≤ 57 := by
  unfold Lib.itoa at h
  split at h
  · rcases List.mem_cons.1 h with rfl | h
    · exact .inl rfl
    · exact .inr (AdI _ _ h)
  · exact .inr (AdI _ _ h)
theorem Aad (c : UInt8) : ∀ d ∈ Yt c, 32 ≤ d.toNat ∧ d.toNat ≤ 126 ∧ d.toNat ≠ 43 ∧ d.toNat ≠ 39 :=
  Qs (p := fun c => ∀ d ∈ Yt c, 32 ≤ d.toNat ∧ d.toNat ≤ 126 ∧ d.toNat ≠ 43 ∧ d.toNat ≠ 39) (by decide +kernel) c
theorem Ac8 {t : List UInt8} {d : UInt8} (h : d ∈ esc t) : 32 ≤ d.toNat ∧ d.toNat ≤ 126 ∧ d.toNat ≠ 43 ∧ d.toNat ≠ 39 := by
  obtain ⟨c, _, hc⟩ := List.mem_flatMap.1 h
  exact Aad c d hc
theorem AcY {it : Api_Item} {e : List UInt8} (h : e ∈ els it) : ∀ d ∈ e, 32 ≤ d.toNat ∧ d.toNat ≤ 126 ∧ d.toNat ≠ 43 ∧ d.toNat ≠ 39 := by
  have hi : ∀ (n : Int) (d : UInt8), d ∈ Lib.itoa n → 32 ≤ d.toNat ∧ d.toNat ≤ 126 ∧ d.toNat ≠ 43 ∧ d.toNat ≠ 39 := by
    intro n d hd
    have := Qm hd
    omega
  have hn : ∀ (c : UInt8) (n : Int), (32 ≤ c.toNat ∧ c.toNat ≤ 126 ∧ c.toNat ≠ 43 ∧ c.toNat ≠ 39) → e ∈ Vz c n → ∀ d ∈ e, 32 ≤ d.toNat ∧ d.toNat ≤ 126 ∧ d.toNat ≠ 43 ∧ d.toNat ≠ 39 := by
    intro c n hc he d hd
    unfold Vz at he
    split at he
    · simp at he
    · simp only [List.mem_singleton] at he
      subst he
      rcases List.mem_cons.1 hd with rfl | hd
      · exact hc
      · exact hi _ _ hd
  unfold els Aej at h
  simp only [List.mem_append] at h
  rcases h with ((h | h) | h) | h
  · unfold Aiq at h
    split at h
    · simp at h
    · simp only [List.mem_singleton] at h
      subst h
      intro d hd
      simp only [List.mem_cons, List.mem_append] at hd
      rcases hd with rfl | hd | rfl | hd
      · decide
      · exact hi _ _ hd
      · decide
      · exact hi _ _ hd
  · rcases h with (((((((((h | h) | h) | h) | h) | h) | h) | h) | h) | h) | h <;> exact hn _ _ (by decide) h
  · unfold Abk at h
    split at h
    · simp at h
    · simp only [List.mem_singleton] at h
      subst h
      intro d hd
      simp only [List.mem_cons] at hd
      rcases hd with rfl | hd
      · decide
      · exact Ac8 hd
  · obtain ⟨x, _, rfl⟩ := List.mem_map.1 h
    intro d hd
    simp only [Uf, Ais, List.mem_cons, List.mem_append] at hd
    rcases hd with rfl | hd | rfl | hd | rfl | hd
    · decide
    · exact hi _ _ hd
    · decide
    · exact hi _ _ hd
    · decide
    · split at hd <;> · simp only [List.mem_singleton] at hd; subst hd; decide
theorem Adn (k : Nat) : ∀ d ∈ glob0.get k, 65 ≤ d.toNat ∧ d.toNat ≤ 90 := by
  by_cases hk : k < 16
  · have h : ∀ k : Fin 16, ∀ d ∈ glob0.get k.val, 65 ≤ d.toNat ∧ d.toNat ≤ 90 := by decide +kernel
    exact h ⟨k, hk⟩
  · intro d hd
    exfalso
    have hn : glob0.get k = [] := by
      unfold Arr.get nth
      rw [List.getD_eq_getElem?_getD, List.getElem?_eq_none (by rw [glob0.h]; omega)]
      rfl
    rw [hn] at hd
    cases hd
theorem Qp (it : Api_Item) : splitAtL 43 (Wy it) = glob0.get it.Kind.toNat :: els it := by
  rw [Aey]
  refine Ld _ (fun e he hm => (AcY he _ hm).2.2.1 rfl) _ (fun hm => ?_)
  have := Adn _ _ hm
  simp at this
theorem I3 (n : Int) : (46 : UInt8) ∉ Lib.itoa n := fun h => by
  have := Qm h
  simp at this
theorem Amp {n : Int} (h : I64 n) : atois (splitAtL 46 (Lib.itoa n)) = some [n] := by
  rw [E9 (I3 n)]
  simp [atois, Jt h.1 h.2]
theorem Anl {m n : Int} (h : I64 m) (h' : I64 n) : atois (splitAtL 46 (Lib.itoa m ++ 46 :: Lib.itoa n)) = some [m, n] := by
  rw [Fu (I3 m), E9 (I3 n)]
  simp [atois, Jt h.1 h.2, Jt h'.1 h'.2]
theorem Aen (b : Bool) : Lib.atoiAll (Ais b) = .ok (if b then 1 else 0) := by
  cases b <;> decide +kernel
theorem Ani {m n : Int} {b : Bool} (h : I64 m) (h' : I64 n) : atois (splitAtL 46 (Lib.itoa m ++ 46 :: (Lib.itoa n ++ 46 :: Ais b))) = some [m, n, if b then 1 else 0] := by
  rw [Fu (I3 m), Fu (I3 n), E9 (by cases b <;> decide)]
  simp [atois, Jt h.1 h.2, Jt h'.1 h'.2, Aen]
theorem J1 (b : UInt8) : ∀ l : List UInt8, (splitAtL b l).length = l.count b + 1
  | [] => by simp [splitAtL]
  | c :: l => by
    have ih := J1 b l
    rw [splitAtL]
    by_cases h : c = b
    · rw [if_pos h, List.length_cons, ih, h, List.count_cons_self]
    · rw [if_neg h, List.count_cons_of_ne h]
      split
      · rename_i e; rw [e] at ih; simp at ih
      · rename_i p ps e; rw [e] at ih; simpa using ih
theorem Ib (b : UInt8) : ∀ l : List UInt8, (b ∉ l ∧ splitAtL b l = [l]) ∨ ∃ p r, l = p ++ b :: r ∧ b ∉ p ∧ splitAtL b l = p :: splitAtL b r
  | [] => .inl ⟨by simp, rfl⟩
  | c :: l => by
    by_cases h : c = b
    · subst h
      exact .inr ⟨[], l, rfl, by simp, by rw [splitAtL, if_pos rfl]⟩
    · rcases Ib b l with ⟨h1, h2⟩ | ⟨p, r, h1, h2, h3⟩
      · exact .inl ⟨by simp [h1, Ne.symm h], by rw [splitAtL, if_neg h, h2]⟩
      · exact .inr ⟨c :: p, r, by rw [h1]; rfl, by simp [h2, Ne.symm h], by rw [splitAtL, if_neg h, h3]⟩
theorem AdJ {b : UInt8} {l : List UInt8} (h : (splitAtL b l).length = 1) : b ∉ l ∧ splitAtL b l = [l] := by
  rcases Ib b l with h1 | ⟨p, r, h1, h2, h3⟩
  · exact h1
  · rw [h3, List.length_cons, J1] at h
    omega
theorem Aa3 {b : UInt8} {l : List UInt8} (h : (splitAtL b l).length ≠ 1) : ∃ p r, l = p ++ b :: r ∧ b ∉ p ∧ splitAtL b l = p :: splitAtL b r := by
  rcases Ib b l with ⟨h1, h2⟩ | h1
  · rw [h2] at h; simp at h
  · exact h1
theorem Q5 {b : UInt8} : ∀ (n : Nat) (l : List UInt8), l.length ≤ n → ∀ p ∈ splitAtL b l, p.length ≤ l.length
  | n, l, hn, p, hp => by
    rcases Ib b l with ⟨h1, h2⟩ | ⟨q, r, h1, h2, h3⟩
    · rw [h2] at hp; simp only [List.mem_singleton] at hp; subst hp; exact Nat.le_refl _
    · rw [h3] at hp
      have hl : l.length = q.length + (r.length + 1) := by rw [h1]; simp
      rcases List.mem_cons.1 hp with rfl | hp
      · omega
      · match n with
        | 0 => omega
        | n + 1 =>
          have := Q5 n r (by omega) p hp
          omega
theorem V1 (l : List UInt8) (c : UInt8) : Zi l c = Lib.indexByte l c := by
  unfold Zi
  rw [Lib.firstIdx_eq]
theorem Up {c : UInt8} {r : List UInt8} : ∀ {p : List UInt8}, c ∉ p → Lib.indexByte (p ++ c :: r) c = p.length
  | [], _ => by simp [Lib.indexByte]
  | d :: p, h => by
    have h1 : d ≠ c := fun e => h (by simp [e])
    have h2 : c ∉ p := fun e => h (by simp [e])
    rw [List.cons_append, Lib.indexByte, if_neg (by simpa using h1), Up h2, if_neg (by simp)]
    simp
theorem U7 {α : Type} {l : List α} {k : Nat} {p : α} {q : List α} (h : l.drop k = p :: q) : k < l.length ∧ l[k]? = some p ∧ l.drop (k + 1) = q := by
  have hl : k < l.length := by
    rcases Nat.lt_or_ge k l.length with h1 | h1
    · exact h1
    · rw [List.drop_eq_nil_of_le h1] at h; cases h
  refine ⟨hl, ?_, ?_⟩
  · rw [List.drop_eq_getElem_cons hl] at h
    rw [List.getElem?_eq_getElem hl, (List.cons.inj h).1]
  · rw [List.drop_eq_getElem_cons hl] at h
    exact (List.cons.inj h).2
theorem Za {α : Type} {l : List α} {k : Nat} {p : α} (h : l[k]? = some p) : l.take (k + 1) = l.take k ++ [p] := by
  rw [List.take_add_one, h]; rfl
theorem Akq (l : List UInt8) (c : UInt8) : Dy l [c] = if [c] = l then some 0 else some (Lib.indexByte l c) := by
  unfold Dy D5 Bp Cb Rz
  by_cases h : [c] = l
  · rw [if_pos h, if_neg (by simp), Option.bind_some, if_pos (by simpa using h)]; rfl
  · rw [if_neg h, if_neg (by simp), Option.bind_some, if_neg (by simpa using h), if_pos (by simp), if_pos (by simp [InR]), Option.bind_some, Option.bind_some, Option.bind_some, V1]
    rfl
theorem Afk {p r : List UInt8} {c : UInt8} (h : c ∉ p) : Dy (p ++ c :: r) [c] = some (p.length : Int) := by
  rw [Akq]
  by_cases e : [c] = p ++ c :: r
  · rw [if_pos e]
    have : p.length = 0 := by have := congrArg List.length e; simp only [List.length_append, List.length_cons, List.length_nil] at this; omega
    rw [this]; rfl
  · rw [if_neg e, Up h]
theorem mk16 {n : Int} (h0 : 0 ≤ n) (h : n ≤ 1000000) : Mk n n 16 := by
  refine ⟨h0, Int.le_refl _, ?_, ?_⟩
  · have : ((1000000 : Int)) ≤ (maxLen : Int) := by decide
    omega
  · have : n.toNat * 16 ≤ 1000000 * 16 := Nat.mul_le_mul_right 16 (by omega)
    exact Nat.le_trans this (by decide)
theorem Aeq {s : List UInt8} {b : UInt8} (hs : s.length ≤ 500000) : E2 s [b] = some (splitAtL b s) := by
  have hc : s.count b ≤ s.length := List.count_le_length
  have hL := J1 b s
  generalize hcd : s.count b = cnt at hc hL
  unfold E2 Ef
  rw [if_neg (by simp), if_neg (by simp), if_pos (by simp)]
  simp only [Gg, Ab7]
  rw [if_pos (by omega), Option.bind_some, Option.bind_some, hcd]
  simp only [lt1]
  have hmn : V5 (w64 ((cnt : Int) + 1)) (w64 ((s.length : Int) + 1)) = ((cnt + 1 : Nat) : Int) := by
    rw [Gt (by omega), Gt (by omega)]
    unfold V5
    rw [if_neg (by omega)]
  rw [hmn, if_pos (mk16 (by omega) (by omega)), Int.toNat_natCast]
  generalize hLL : splitAtL b s = L at hL
  obtain ⟨x, hx, hq⟩ := Gu (f := fun (v : List UInt8 × Int × List (List UInt8)) => B0 [b] 0 ((cnt + 1 : Nat) : Int) v.1 v.2.1 v.2.2) cnt
    (fun k v => ∃ rest, v = (rest, (k : Int), L.take k ++ List.replicate (cnt + 1 - k) []) ∧ splitAtL b rest = L.drop k ∧ rest.length ≤ s.length)
    (fun x => ∃ rest, x = (rest, (cnt : Int), L.take cnt ++ [[]]) ∧ splitAtL b rest = L.drop cnt) (by omega) (by
      rintro k v hk ⟨rest, rfl, h1, h2⟩
      have hlen : (L.drop k).length ≠ 1 := by rw [List.length_drop]; omega
      obtain ⟨p, r, e1, e2, e3⟩ := Aa3 (b := b) (l := rest) (by rw [h1]; exact hlen)
      rw [h1] at e3
      obtain ⟨hkl, hkp, hkd⟩ := U7 e3
      have hpl : p.length < rest.length := by rw [e1]; simp
      refine ⟨_, ?_, r, rfl, hkd.symm, by have := congrArg List.length e1; simp at this; omega⟩
      unfold B0
      have hn : w64 (((cnt + 1 : Nat) : Int) - 1) = (cnt : Int) := by rw [Fc (by omega)]; omega
      have hm : w64 ((p.length : Int) + 0) = (p.length : Int) := by rw [Fc (by omega)]; omega
      have hm1 : w64 ((p.length : Int) + (([b] : List UInt8).length : Int)) = ((p.length + 1 : Nat) : Int) := by
        simp only [List.length_cons, List.length_nil]; rw [Fc (by omega)]; omega
      simp only [hn]
      rw [if_pos (decide_eq_true (by omega)), e1, Afk e2, Option.bind_some, if_neg (by simp), hm, if_pos ⟨by omega, by simp⟩, if_pos ⟨by omega, by simp; omega⟩]
      simp only [lt1]
      rw [hm1, if_pos ⟨by omega, by simp⟩, Gt (by omega)]
      simp only [Int.toNat_natCast]
      have ea : (p ++ b :: r).take p.length = p := by simp
      have eb : ((p ++ b :: r).drop (p.length + 1)).take ((p ++ b :: r).length - (p.length + 1)) = r := by
        rw [← List.drop_drop, List.drop_left]
        exact List.take_of_length_le (by simp only [List.drop_succ_cons, List.drop_zero, List.length_append, List.length_cons]; omega)
      rw [ea, eb]
      have ec : (L.take k ++ List.replicate (cnt + 1 - k) []).set k p = L.take (k + 1) ++ List.replicate (cnt + 1 - (k + 1)) [] := by
        rw [Za hkp, List.append_assoc, List.set_append_right _ _ (by simp; omega)]
        congr 1
        rw [List.length_take, Nat.min_eq_left (by omega), Nat.sub_self]
        rw [show cnt + 1 - k = (cnt + 1 - (k + 1)) + 1 by omega, List.replicate_succ]
        rfl
      rw [ec]) (by
      rintro v ⟨rest, rfl, h1, h2⟩
      refine ⟨_, ?_, rest, rfl, h1⟩
      unfold B0
      have hn : w64 (((cnt + 1 : Nat) : Int) - 1) = (cnt : Int) := by rw [Fc (by omega)]; omega
      simp only [hn]
      rw [if_neg (by simp), show cnt + 1 - cnt = 1 by omega]
      rfl) (v0 := (s, 0, List.replicate (cnt + 1) [])) ⟨s, by simp, by rw [hLL]; rfl, Nat.le_refl _⟩
  obtain ⟨rest, rfl, h1⟩ := hq
  rw [hx]
  simp only [Option.bind_some]
  have hone : (splitAtL b rest).length = 1 := by rw [h1, List.length_drop]; omega
  obtain ⟨_, h3⟩ := AdJ hone
  rw [h3] at h1
  obtain ⟨hkl, hkp, hkd⟩ := U7 h1.symm
  rw [if_pos ⟨by omega, by simp; omega⟩, Gt (by omega)]
  have ec : (L.take cnt ++ [[]]).set (cnt : Int).toNat rest = L := by
    rw [Int.toNat_natCast, List.set_append_right _ _ (by simp; omega), List.length_take, Nat.min_eq_left (by omega), Nat.sub_self]
    show L.take cnt ++ [rest] = L
    rw [← Za hkp, List.take_of_length_le (by omega)]
  rw [ec, if_pos ⟨by omega, by simp; omega⟩, Int.toNat_natCast, List.take_of_length_le (by omega)]
  rfl
theorem AeD {l : List UInt8} {k : Nat} (h : k < l.length) : l.drop k = nth l k :: l.drop (k + 1) := by
  rw [List.drop_eq_getElem_cons h]
  simp [nth, List.getElem?_eq_getElem h]
theorem Adj (t : List UInt8) (k : Nat) (hk : k < t.length) : esc t = esc (t.take k) ++ (Yt (nth t k) ++ esc (t.drop (k + 1))) := by
  have h : t = t.take k ++ (nth t k :: t.drop (k + 1)) := by
    rw [← AeD hk, List.take_append_drop]
  have h2 : ∀ a b : List UInt8, esc (a ++ b) = esc a ++ esc b := fun a b => by simp [esc]
  have h3 : ∀ (c : UInt8) (b : List UInt8), esc (c :: b) = Yt c ++ esc b := fun c b => by simp [esc]
  calc esc t = esc (t.take k ++ (nth t k :: t.drop (k + 1))) := by rw [← h]
    _ = _ := by rw [h2, h3]
theorem AcM {a r : List UInt8} {c : UInt8} : nth (a ++ c :: r) a.length = c := by simp [nth]
theorem Qq (c : UInt8) : (Af6 c = false ∧ Yt c = [c] ∧ c ≠ 63) ∨ (Af6 c = true ∧ ∃ h l, Yt c = [63, h, l] ∧ B1 [h, l] 16 8 = some (c.toUInt64, false) ∧ (∃ a b, L5 h = some a ∧ L5 l = some b ∧ (16 : UInt8) * a + b = c)) := by
  by_cases hb : Af6 c = true
  · refine .inr ⟨hb, nth Adm (c.toNat / 16), nth Adm (c.toNat % 16), by simp [Yt, hb], ?_, ?_⟩
    · exact Qs (p := fun c => B1 [nth Adm (c.toNat / 16), nth Adm (c.toNat % 16)] 16 8 = some (c.toUInt64, false)) (by decide +kernel) c
    · have h : ((L5 (nth Adm (c.toNat / 16))).bind fun a => (L5 (nth Adm (c.toNat % 16))).bind fun b => some ((16 : UInt8) * a + b)) = some c :=
        Qs (p := fun c => ((L5 (nth Adm (c.toNat / 16))).bind fun a => (L5 (nth Adm (c.toNat % 16))).bind fun b => some ((16 : UInt8) * a + b)) = some c) (by decide +kernel) c
      obtain ⟨a, h1, h2⟩ := Option.bind_eq_some_iff.1 h
      obtain ⟨b, h3, h4⟩ := Option.bind_eq_some_iff.1 h2
      exact ⟨a, b, h1, h3, Option.some.inj h4⟩
  · have hb' : Af6 c = false := by simpa using hb
    refine .inl ⟨hb', by simp [Yt, hb'], ?_⟩
    intro e
    subst e
    revert hb'
    decide
theorem Ag3 {k j : Nat} (h : k + j < 9223372036854775807) : w64 ((k : Int) + (j : Int)) = ((k + j : Nat) : Int) := by rw [Fc (by omega)]; omega
theorem AfI {t : List UInt8} (ht : t.length ≤ 100000) : Cx (esc t) = some (t, true) := by
  unfold Cx
  by_cases he : t = []
  · subst he; rfl
  have hne : esc t ≠ [] := by
    match t, he with
    | c :: r, _ =>
      intro e
      have := congrArg List.length e
      simp only [esc, List.flatMap_cons, List.length_append, List.length_nil] at this
      rcases Qq c with ⟨_, h, _⟩ | ⟨_, h, l, h2, _⟩
      · rw [h] at this; simp at this
      · rw [h2] at this; simp at this
  rw [if_neg hne]
  unfold Eb
  have hel := Ow t
  obtain ⟨x, hx, rfl⟩ := Gu (f := fun (v : Int × List UInt8) => Bw (esc t) v.1 v.2) t.length (fun k v => v = (((esc (t.take k)).length : Int), t.take k)) (fun x => x = .inl t) (by omega) (by
      rintro k v hk rfl
      refine ⟨_, ?_, rfl⟩
      have e := Adj t k hk
      have ek := Zb t k hk
      have etk : t.take (k + 1) = t.take k ++ [nth t k] := by
        rw [List.take_add_one, List.getElem?_eq_getElem hk]
        simp [nth, List.getElem?_eq_getElem hk]
      rw [ek, etk]
      generalize hA : esc (t.take k) = A at e
      have hlt : (t.take k).length ≤ 100000 := by rw [List.length_take]; omega
      generalize t.take k = T at hlt
      generalize esc (t.drop (k + 1)) = Z at e
      rw [e] at hel
      unfold Bw
      rw [e]
      rcases Qq (nth t k) with ⟨_, h1, h2⟩ | ⟨_, h, l, h1, h2, _⟩
      · rw [h1] at hel ⊢
        simp only [List.singleton_append, List.length_append, List.length_cons] at hel ⊢
        rw [if_pos (decide_eq_true (by omega)), if_pos ⟨by omega, by simp⟩]
        simp only [Int.toNat_natCast]
        rw [AcM, if_neg (by simpa using h2), Option.bind_some]
        simp only
        rw [Bq (by omega), Option.bind_some]
        simp only [List.length_nil]
        rw [Gt (by omega)]
      · rw [h1] at hel ⊢
        simp only [List.cons_append, List.nil_append, List.length_append, List.length_cons] at hel ⊢
        have w1 := Ag3 (k := A.length) (j := 1) (by omega)
        have w2 := Ag3 (k := A.length) (j := 2) (by omega)
        have w3 := Ag3 (k := A.length) (j := 3) (by omega)
        rw [if_pos (decide_eq_true (by omega)), if_pos ⟨by omega, by simp⟩]
        simp only [Int.toNat_natCast]
        rw [AcM, if_pos (by simp), show w64 ((A.length : Int) + 2) = ((A.length + 2 : Nat) : Int) from w2, show w64 ((A.length : Int) + 3) = ((A.length + 3 : Nat) : Int) from w3, show w64 ((A.length : Int) + 1) = ((A.length + 1 : Nat) : Int) from w1]
        rw [if_neg (by simp; omega), if_pos ⟨by omega, by simp; omega⟩, if_pos ⟨by omega, by simp; omega⟩]
        simp only [Int.toNat_natCast]
        have ed : ((A ++ 63 :: h :: l :: Z).drop (A.length + 1)).take (A.length + 3 - (A.length + 1)) = [h, l] := by
          rw [← List.drop_drop]; simp [show A.length + 3 - (A.length + 1) = 2 by omega]
        rw [ed, h2, Option.bind_some, if_neg (by simp), Option.bind_some]
        simp only
        rw [Bq (by omega), Option.bind_some]
        simp only [List.length_nil]
        rw [Gt (by omega)]
        simp [Nat.add_assoc]) (by
      rintro v rfl
      refine ⟨_, ?_, rfl⟩
      unfold Bw
      rw [List.take_length, if_neg (by simp)]) (v0 := (0, [])) (by simp [esc])
  rw [hx]
  simp only [Option.bind_some]
  rw [if_pos (by simpa using he), if_pos (AbI (by omega))]
def AcL (it : Api_Item) (k : Int) (n : Int) : Api_Item :=
  if k = 0 then { it with Wagon := n } else if k = 1 then { it with Place := n } else if k = 2 then { it with Other := n } else if k = 3 then { it with Number := n }
  else if k = 4 then { it with From := n } else if k = 5 then { it with To := n } else if k = 6 then { it with Code := n } else if k = 7 then { it with Dest := n }
  else if k = 8 then { it with Class := n } else if k = 9 then { it with Weight := n } else { it with Amount := n }
def G2 (c : UInt8) : Int := Lib.indexByte [119, 112, 111, 110, 102, 116, 99, 100, 107, 103, 97] c
theorem Abh (c : UInt8) : G2 c = -1 ∨ G2 c = 0 ∨ G2 c = 1 ∨ G2 c = 2 ∨ G2 c = 3 ∨ G2 c = 4 ∨ G2 c = 5 ∨ G2 c = 6 ∨ G2 c = 7 ∨ G2 c = 8 ∨ G2 c = 9 ∨ G2 c = 10 :=
  Qs (p := fun c => G2 c = -1 ∨ G2 c = 0 ∨ G2 c = 1 ∨ G2 c = 2 ∨ G2 c = 3 ∨ G2 c = 4 ∨ G2 c = 5 ∨ G2 c = 6 ∨ G2 c = 7 ∨ G2 c = 8 ∨ G2 c = 9 ∨ G2 c = 10) (by decide +kernel) c
theorem G0 (c : UInt8) : C8 [119, 112, 111, 110, 102, 116, 99, 100, 107, 103, 97] c = some (G2 c) := by
  unfold C8 Bp Cb Rz
  rw [V1]; rfl
theorem K3 {s : List UInt8} {n : Int} (h : s.length ≤ 1048576) : Bc s n = some (match atois (splitAtL 46 s) with | some l => (l, (l.length : Int) == n) | none => ([], false)) := by
  unfold Bc Pr
  rw [if_pos h]
  rfl
theorem AbG (c : UInt8) (r : List UInt8) : ((c :: r).drop 1).take ((c :: r).length - 1) = r := by simp
theorem Zg {it : Api_Item} {c : UInt8} {r : List UInt8} (hr : r.length ≤ 1000000) (hk : G2 c ≠ -1) :
    Cc it (c :: r) = some (match atois (splitAtL 46 r) with | some [n] => (true, AcL it (G2 c) n) | _ => (false, it)) := by
  have hA : ∀ l : List Int, (((l.length : Int) == 1) = true → ∃ n, l = [n]) := by
    intro l h
    match l with
    | [] => simp at h
    | [n] => exact ⟨n, rfl⟩
    | _ :: _ :: _ => simp at h; omega
  unfold Cc
  rw [if_neg (by simp), if_pos ⟨by omega, by simp⟩, G0, Option.bind_some]
  have e0 : nth (c :: r) 0 = c := rfl
  simp only [lt1, e0, AbG]
  have hb : InB 1 (c :: r).length := ⟨by omega, by simp⟩
  rcases Abh c with h | h | h | h | h | h | h | h | h | h | h | h
  · exact absurd h hk
  all_goals
    rw [h]
    simp only [beq_self_eq_true, if_true, if_pos hb, Int.reduceBEq, Bool.false_eq_true, if_false]
    rw [K3 (by omega), Option.bind_some]
    cases hat : atois (splitAtL 46 r) with
    | none => simp only [Bool.false_eq_true, if_false, Option.bind_some]
    | some l =>
      simp only
      by_cases hl : ((l.length : Int) == 1) = true
      · obtain ⟨n, rfl⟩ := hA l hl
        rw [if_pos hl, if_pos ⟨by omega, by simp⟩]
        rfl
      · rw [if_neg hl, Option.bind_some]
        match l, hl with
        | [], _ => rfl
        | [n], hl => exact absurd rfl hl
        | a :: b :: m, hl => rw [show (((a :: b :: m).length : Int) == 1) = false by simpa using hl]
theorem Yw {it : Api_Item} {r : List UInt8} (hr : r.length ≤ 1000000) :
    Cc it (114 :: r) = some (match atois (splitAtL 46 r) with | some [m, n] => (true, { it with Ref := ⟨m, n⟩ }) | _ => (false, it)) := by
  have hA : ∀ l : List Int, (((l.length : Int) == 2) = true → ∃ m n, l = [m, n]) := by
    intro l h
    match l with
    | [] => simp at h
    | [n] => simp at h
    | [m, n] => exact ⟨m, n, rfl⟩
    | _ :: _ :: _ :: _ => simp at h; omega
  unfold Cc
  rw [if_neg (by simp), if_pos ⟨by omega, by simp⟩, G0, Option.bind_some]
  have e0 : nth ((114 : UInt8) :: r) 0 = 114 := rfl
  have hb : InB 1 ((114 : UInt8) :: r).length := ⟨by omega, by simp⟩
  have hb0 : InR 0 ((114 : UInt8) :: r).length := ⟨by omega, by simp⟩
  simp only [lt1, e0, AbG]
  rw [show G2 114 = -1 by decide +kernel]
  simp only [Int.reduceBEq, Bool.false_eq_true, if_false, if_pos hb, if_pos hb0, beq_self_eq_true, if_true]
  rw [if_neg (by decide)]
  rw [K3 (by omega), Option.bind_some]
  cases hat : atois (splitAtL 46 r) with
  | none => simp only [Bool.false_eq_true, if_false, Option.bind_some]
  | some l =>
    simp only
    by_cases hl : ((l.length : Int) == 2) = true
    · obtain ⟨m, n, rfl⟩ := hA l hl
      rw [if_pos hl, if_pos ⟨by omega, by simp⟩, if_pos ⟨by omega, by simp⟩]
      rfl
    · rw [if_neg hl, Option.bind_some]
      match l, hl with
      | [], _ => rfl
      | [n], hl => rfl
      | [m, n], hl => exact absurd rfl hl
      | a :: b :: c :: m, hl => rw [show (((a :: b :: c :: m).length : Int) == 2) = false by simpa using hl]
theorem Ack {n : Nat} (h : n ≤ 1000000) : Eg n 24 := ⟨Nat.le_trans h (by decide), Nat.le_trans (Nat.mul_le_mul_right 24 h) (by decide)⟩
theorem U2 {it : Api_Item} {r : List UInt8} (hr : r.length ≤ 1000000) (hp : it.Parts.length ≤ 500000) :
    Cc it (113 :: r) = some (match atois (splitAtL 46 r) with | some [a, b, f] => (true, { it with Parts := it.Parts ++ [⟨a, b, f == 1⟩] }) | _ => (false, it)) := by
  have hA : ∀ l : List Int, (((l.length : Int) == 3) = true → ∃ m n o, l = [m, n, o]) := by
    intro l h
    match l with
    | [] => simp at h
    | [n] => simp at h
    | [m, n] => simp at h
    | [m, n, o] => exact ⟨m, n, o, rfl⟩
    | _ :: _ :: _ :: _ :: _ => simp at h; omega
  unfold Cc
  rw [if_neg (by simp), if_pos ⟨by omega, by simp⟩, G0, Option.bind_some]
  have e0 : nth ((113 : UInt8) :: r) 0 = 113 := rfl
  have hb : InB 1 ((113 : UInt8) :: r).length := ⟨by omega, by simp⟩
  have hb0 : InR 0 ((113 : UInt8) :: r).length := ⟨by omega, by simp⟩
  simp only [lt1, e0, AbG]
  rw [show G2 113 = -1 by decide +kernel]
  simp only [Int.reduceBEq, Bool.false_eq_true, if_false, if_pos hb, if_pos hb0, beq_self_eq_true, if_true]
  rw [if_neg (by decide), if_neg (by decide), if_neg (by decide)]
  rw [K3 (by omega), Option.bind_some]
  cases hat : atois (splitAtL 46 r) with
  | none => simp only [Bool.false_eq_true, if_false, Option.bind_some]
  | some l =>
    simp only
    by_cases hl : ((l.length : Int) == 3) = true
    · obtain ⟨m, n, o, rfl⟩ := hA l hl
      rw [if_pos hl, if_pos ⟨by omega, by simp⟩, if_pos ⟨by omega, by simp⟩, if_pos ⟨by omega, by simp⟩, if_pos (Ack (by omega))]
      rfl
    · rw [if_neg hl, Option.bind_some]
      match l, hl with
      | [], _ => rfl
      | [n], hl => rfl
      | [m, n], hl => rfl
      | [m, n, o], hl => exact absurd rfl hl
      | a :: b :: c :: d :: m, hl => rw [show (((a :: b :: c :: d :: m).length : Int) == 3) = false by simpa using hl]
theorem Vh {it : Api_Item} {r : List UInt8} : Cc it (120 :: r) = (Cx r).bind fun y => some (y.2, { it with Text := y.1 }) := by
  unfold Cc
  rw [if_neg (by simp), if_pos ⟨by omega, by simp⟩, G0, Option.bind_some]
  have e0 : nth ((120 : UInt8) :: r) 0 = 120 := rfl
  have hb : InB 1 ((120 : UInt8) :: r).length := ⟨by omega, by simp⟩
  have hb0 : InR 0 ((120 : UInt8) :: r).length := ⟨by omega, by simp⟩
  simp only [lt1, e0, AbG]
  rw [show G2 120 = -1 by decide +kernel]
  simp only [Int.reduceBEq, Bool.false_eq_true, if_false, if_pos hb, if_pos hb0, beq_self_eq_true, if_true]
  rw [if_neg (by decide), if_neg (by decide)]
  cases Cx r <;> rfl
theorem Abv {it : Api_Item} {c : UInt8} {r : List UInt8} (hk : G2 c = -1) (h1 : c ≠ 114) (h2 : c ≠ 120) (h3 : c ≠ 113) : Cc it (c :: r) = some (false, it) := by
  unfold Cc
  rw [if_neg (by simp), if_pos ⟨by omega, by simp⟩, G0, Option.bind_some]
  have e0 : nth (c :: r) 0 = c := rfl
  have hb : InB 1 (c :: r).length := ⟨by omega, by simp⟩
  have hb0 : InR 0 (c :: r).length := ⟨by omega, by simp⟩
  simp only [lt1, e0, AbG]
  rw [hk]
  simp only [Int.reduceBEq, Bool.false_eq_true, if_false, if_pos hb, if_pos hb0]
  rw [if_neg (by decide), if_neg (by simpa using h1), if_neg (by simpa using h2), if_neg (by simpa using h3)]
  rfl
theorem Ae4 {it : Api_Item} : Cc it [] = some (false, it) := by
  unfold Cc
  rw [if_pos (by simp)]
def puOk (t : Int) (z : (UInt64 × Int) ⊕ (UInt64 ⊕ (UInt64 ⊕ (UInt64 × Int)))) : Prop := match z with | .inl v => v.2 = w64 (t + 1) | .inr (.inr (.inr y)) => y.2 = 1 ∨ y.2 = 2 | _ => True
theorem AgL (s : List UInt8) (c m n : UInt64) (t : Int) (ht : t < (s.length : Int)) (h0 : 0 ≤ t) :
    ∃ r, A8 s c m n t = some r ∧ puOk t r := by
  unfold A8
  rw [if_pos (decide_eq_true ht), if_pos ⟨h0, by omega⟩]
  generalize nth s t.toNat = b
  have e1 : (if (b == (95 : UInt8)) = true then some () else some () : Option Unit) = some () := by split <;> rfl
  rw [e1, Option.bind_some]
  simp only [lt1, Dx, Option.bind_some]
  have hfin : ∀ d : UInt8, ∃ r, (Option.bind (if (decide (d ≥ (UInt8.ofInt 16))) = true then
          (((some (((0 : UInt64), (2 : Int)))).bind fun z_1878 => some (.inr z_1878)).bind fun z_1879 => some (.inr (.inr z_1879))).bind fun z_1880 => some (.inr z_1880)
        else
          if (decide (n ≥ c)) = true then
            (((some ((m, 1))).bind fun z_1881 => some (.inr z_1881)).bind fun z_1882 => some (.inr (.inr z_1882))).bind fun z_1883 => some (.inr z_1883)
          else
            (if (decide ((n * (UInt64.ofInt 16) + d.toUInt64) < n * (UInt64.ofInt 16))) = true then
              some true
            else
              some ((decide ((n * (UInt64.ofInt 16) + d.toUInt64) > m))) : Option (Bool)).bind fun t_1886 =>
            if t_1886 = true then
              (((some ((m, 1))).bind fun z_1889 => some (.inr z_1889)).bind fun z_1890 => some (.inr (.inr z_1890))).bind fun z_1891 => some (.inr z_1891)
            else
              some (.inl ((n * (UInt64.ofInt 16) + d.toUInt64))) : Option ((UInt64) ⊕ ((UInt64 × Int) ⊕ ((UInt64) ⊕ ((UInt64) ⊕ (UInt64 × Int)))))) fun x => match x with
    | .inl n_1825 =>
      some (.inl ((n_1825, (w64 (t + 1)))))
    | .inr z => some z) = some r ∧ puOk t r := by
    intro d
    by_cases h1 : (decide (d ≥ (UInt8.ofInt 16))) = true
    · rw [if_pos h1]; exact ⟨_, rfl, .inr rfl⟩
    · rw [if_neg h1]
      by_cases h2 : (decide (n ≥ c)) = true
      · rw [if_pos h2]; exact ⟨_, rfl, .inl rfl⟩
      · rw [if_neg h2]
        by_cases h3 : (decide ((n * (UInt64.ofInt 16) + d.toUInt64) < n * (UInt64.ofInt 16))) = true
        · rw [if_pos h3, Option.bind_some, if_pos rfl]; exact ⟨_, rfl, .inl rfl⟩
        · rw [if_neg h3, Option.bind_some]
          by_cases h4 : (decide ((n * (UInt64.ofInt 16) + d.toUInt64) > m)) = true
          · rw [if_pos h4]; exact ⟨_, rfl, .inl rfl⟩
          · rw [if_neg h4]; exact ⟨_, rfl, rfl⟩
  by_cases h1 : (if decide ((48 : UInt8) ≤ b) = true then some (decide (b ≤ (57 : UInt8))) else some false : Option Bool) = some true
  · rw [h1, Option.bind_some, if_pos rfl]
    exact hfin _
  · have h1' : (if decide ((48 : UInt8) ≤ b) = true then some (decide (b ≤ (57 : UInt8))) else some false : Option Bool) = some false := by
      revert h1
      cases decide ((48 : UInt8) ≤ b) <;> cases decide (b ≤ (57 : UInt8)) <;> simp
    rw [h1', Option.bind_some, if_neg (by simp)]
    by_cases h2 : (if decide ((97 : UInt8) ≤ b ||| 32) = true then some (decide (b ||| 32 ≤ (122 : UInt8))) else some false : Option Bool) = some true
    · rw [h2, Option.bind_some, if_pos rfl]
      exact hfin _
    · have h2' : (if decide ((97 : UInt8) ≤ b ||| 32) = true then some (decide (b ||| 32 ≤ (122 : UInt8))) else some false : Option Bool) = some false := by
        revert h2
        cases decide ((97 : UInt8) ≤ b ||| 32) <;> cases decide (b ||| 32 ≤ (122 : UInt8)) <;> simp
      rw [h2', Option.bind_some, if_neg (by simp)]
      exact ⟨_, rfl, .inr rfl⟩
theorem AhU {s : List UInt8} (hs : s.length ≤ 1000000) : ∃ r, B1 s 16 8 = some r := by
  unfold B1
  rw [if_pos ⟨rfl, rfl, by omega⟩]
  have h : ∃ r, Bv s = some r ∧ (r.2 = 0 ∨ r.2 = 1 ∨ r.2 = 2) := by
    unfold Bv
    by_cases he : (s == ([] : List UInt8)) = true
    · rw [if_pos he]; exact ⟨_, rfl, .inr (.inr rfl)⟩
    · rw [if_neg he]
      simp only [lt1, Option.bind_some]
      obtain ⟨x, hx, hq⟩ := D6 (f := fun (v : UInt64 × Int) => A8 s (1152921504606846976 : UInt64) (Acr 1 (UInt64.ofInt 8).toNat - 1) v.1 v.2) (fun v => 0 ≤ v.2 ∧ v.2 ≤ (s.length : Int)) (fun v => s.length - v.2.toNat)
        (fun x => match x with | .inr (.inr y) => y.2 = 1 ∨ y.2 = 2 | _ => True) (by
        rintro ⟨n, t⟩ hv
        simp only at hv
        by_cases ht : t < (s.length : Int)
        · obtain ⟨r, hr, hk⟩ := AgL s (1152921504606846976 : UInt64) (Acr 1 (UInt64.ofInt 8).toNat - 1) n t ht hv.1
          rcases r with ⟨n', t'⟩ | z
          · refine .inl ⟨_, hr, ?_⟩
            have hk' : t' = w64 (t + 1) := hk
            simp only
            rw [hk', Fc (by omega)]
            omega
          · refine .inr ⟨_, hr, ?_⟩
            rcases z with z | z | z
            · trivial
            · trivial
            · exact hk
        · refine .inr ⟨.inl n, ?_, trivial⟩
          unfold A8
          rw [if_neg (by simpa using ht)]) (v0 := ((0 : UInt64), 0)) ⟨by simp, by simp⟩ (by simp; omega)
      rw [hx]
      rcases x with x | x | x
      · exact ⟨_, rfl, .inl rfl⟩
      · exact ⟨_, rfl, .inl rfl⟩
      · exact ⟨_, rfl, .inr hq⟩
  obtain ⟨r, h1, h2⟩ := h
  rw [h1, Option.bind_some, if_pos h2]
  exact ⟨_, rfl⟩
theorem Aag {s : List UInt8} (hs : s.length ≤ 100000) : ∃ y, Cx s = some y ∧ y.1.length ≤ s.length := by
  unfold Cx
  by_cases he : s = []
  · rw [if_pos he]; exact ⟨_, rfl, by simp⟩
  rw [if_neg he]
  have hpos : 0 < s.length := List.length_pos_iff.2 he
  unfold Eb
  obtain ⟨x, hx, hq⟩ := D6 (f := fun (v : Int × List UInt8) => Bw s v.1 v.2) (fun v => 0 ≤ v.1 ∧ v.1 ≤ (s.length : Int) ∧ (v.2.length : Int) ≤ v.1 ∧ (0 < v.1 → v.2 ≠ [])) (fun v => s.length - v.1.toNat)
    (fun x => match x with | .inl l => l ≠ [] ∧ l.length ≤ s.length | .inr (.inr y) => y = ([], false) | _ => False) (by
      rintro ⟨i, l⟩ ⟨h1, h2, h3, h4⟩
      simp only at h1 h2 h3 h4
      have hll : l.length ≤ 100000 := by omega
      by_cases hi : i < (s.length : Int)
      · unfold Bw
        rw [if_pos (decide_eq_true hi), if_pos ⟨h1, by omega⟩]
        by_cases hc : (nth s i.toNat == (63 : UInt8)) = true
        · rw [if_pos hc]
          have w2 : w64 (i + 2) = i + 2 := Fc (by omega)
          have w3 : w64 (i + 3) = i + 3 := Fc (by omega)
          have w1 : w64 (i + 1) = i + 1 := Fc (by omega)
          rw [w2, w3, w1]
          by_cases h5 : i + 2 ≥ (s.length : Int)
          · rw [if_pos (decide_eq_true h5)]
            exact .inr ⟨_, rfl, rfl⟩
          · rw [if_neg (by simpa using h5), if_pos ⟨by omega, by omega⟩, if_pos ⟨by omega, by omega⟩]
            obtain ⟨r, hr⟩ := AhU (s := (s.drop (i + 1).toNat).take ((i + 3).toNat - (i + 1).toNat)) (by rw [List.length_take]; omega)
            rw [hr, Option.bind_some]
            by_cases h6 : (!!r.2) = true
            · rw [if_pos h6]; exact .inr ⟨_, rfl, rfl⟩
            · rw [if_neg h6, Option.bind_some]
              simp only
              rw [Bq (by omega), Option.bind_some, Fc (by omega)]
              exact .inl ⟨_, rfl, ⟨by omega, by omega, by simp; omega, by simp⟩, by simp only; omega⟩
        · rw [if_neg hc, Option.bind_some]
          simp only
          rw [Bq (by omega), Option.bind_some, Fc (by omega)]
          exact .inl ⟨_, rfl, ⟨by omega, by omega, by simp; omega, by simp⟩, by simp only; omega⟩
      · refine .inr ⟨.inl l, ?_, h4 (by omega), by omega⟩
        unfold Bw
        rw [if_neg (by simpa using hi)]) (v0 := (0, [])) ⟨by simp, by simp, by simp, by simp⟩ (by simp; omega)
  rw [hx]
  rcases x with l | l | y
  · simp only [Option.bind_some]
    have hq' : l ≠ [] ∧ l.length ≤ s.length := hq
    rw [if_pos hq'.1, if_pos (AbI (by omega))]
    exact ⟨_, rfl, hq'.2⟩
  · exact hq.elim
  · have hq' : y = ([], false) := hq
    subst hq'
    exact ⟨_, rfl, by simp⟩
theorem Aea {s : List UInt8} {n : Int} (h : Lib.atoiAll s = .ok n) : I64 n := Lib.atoiAll_bounds h
theorem Hy : ∀ {ps : List (List UInt8)} {l : List Int}, atois ps = some l → ∀ n ∈ l, I64 n
  | [], l, h, n, hn => by cases h; cases hn
  | p :: ps, l, h, n, hn => by
    rw [atois] at h
    split at h
    · rename_i v hv
      obtain ⟨l', h1, rfl⟩ := Option.map_eq_some_iff.1 h
      rcases List.mem_cons.1 hn with rfl | hn
      · exact Aea hv
      · exact Hy h1 n hn
    · cases h
theorem AbN (it : Api_Item) (k n : Int) : (AcL it k n).Text = it.Text ∧ (AcL it k n).Parts = it.Parts ∧ (AcL it k n).Kind = it.Kind := by
  unfold AcL
  repeat' split
  all_goals exact ⟨rfl, rfl, rfl⟩
theorem Ab8 {it : Api_Item} (h : Ints it) (k : Int) {n : Int} (hn : I64 n) : Ints (AcL it k n) := by
  obtain ⟨h1, h2, h3, h4, h5, h6, h7, h8, h9, h10, h11⟩ := h.nums
  unfold AcL
  repeat' split
  all_goals exact ⟨h.kind, h.ref, by first | exact ⟨hn, h2, h3, h4, h5, h6, h7, h8, h9, h10, h11⟩ | exact ⟨h1, hn, h3, h4, h5, h6, h7, h8, h9, h10, h11⟩ | exact ⟨h1, h2, hn, h4, h5, h6, h7, h8, h9, h10, h11⟩ | exact ⟨h1, h2, h3, hn, h5, h6, h7, h8, h9, h10, h11⟩ | exact ⟨h1, h2, h3, h4, hn, h6, h7, h8, h9, h10, h11⟩ | exact ⟨h1, h2, h3, h4, h5, hn, h7, h8, h9, h10, h11⟩ | exact ⟨h1, h2, h3, h4, h5, h6, hn, h8, h9, h10, h11⟩ | exact ⟨h1, h2, h3, h4, h5, h6, h7, hn, h9, h10, h11⟩ | exact ⟨h1, h2, h3, h4, h5, h6, h7, h8, hn, h10, h11⟩ | exact ⟨h1, h2, h3, h4, h5, h6, h7, h8, h9, hn, h11⟩ | exact ⟨h1, h2, h3, h4, h5, h6, h7, h8, h9, h10, hn⟩, h.part⟩
structure Rg (it : Api_Item) (n : Nat) : Prop where
  ints : Ints it
  text : it.Text.length ≤ 70000
  parts : it.Parts.length ≤ n
theorem Adf {it : Api_Item} {s : List UInt8} {n : Nat} (hs : s.length ≤ 70000) (hr : Rg it n) (hn : n ≤ 70000) : ∃ y, Cc it s = some y ∧ Rg y.2 (n + 1) ∧ y.2.Kind = it.Kind := by
  have keep : Rg it (n + 1) := ⟨hr.ints, hr.text, by have := hr.parts; omega⟩
  match s with
  | [] => exact ⟨_, Ae4, keep, rfl⟩
  | c :: r =>
    simp only [List.length_cons] at hs
    by_cases hk : G2 c = -1
    · by_cases h1 : c = 114
      · subst h1
        rw [Yw (by omega)]
        refine ⟨_, rfl, ?_⟩
        split
        · rename_i m k he
          exact ⟨⟨⟨hr.ints.kind, ⟨Hy he m (by simp), Hy he k (by simp)⟩, hr.ints.nums, hr.ints.part⟩, hr.text, keep.parts⟩, rfl⟩
        · exact ⟨keep, rfl⟩
      · by_cases h2 : c = 120
        · subst h2
          obtain ⟨y, hy, hl⟩ := Aag (s := r) (by omega)
          rw [Vh, hy]
          exact ⟨_, rfl, ⟨⟨hr.ints.kind, hr.ints.ref, hr.ints.nums, hr.ints.part⟩, by show y.1.length ≤ 70000; omega, keep.parts⟩, rfl⟩
        · by_cases h3 : c = 113
          · subst h3
            rw [U2 (by omega) (by have := hr.parts; omega)]
            refine ⟨_, rfl, ?_⟩
            split
            · rename_i a b f he
              refine ⟨⟨⟨hr.ints.kind, hr.ints.ref, hr.ints.nums, ?_⟩, hr.text, by simp; have := hr.parts; omega⟩, rfl⟩
              intro x hx
              rcases List.mem_append.1 hx with hx | hx
              · exact hr.ints.part x hx
              · simp only [List.mem_singleton] at hx
                subst hx
                exact ⟨Hy he a (by simp), Hy he b (by simp)⟩
            · exact ⟨keep, rfl⟩
          · exact ⟨_, Abv hk h1 h2 h3, keep, rfl⟩
    · rw [Zg (by omega) hk]
      refine ⟨_, rfl, ?_⟩
      split
      · rename_i m he
        obtain ⟨q1, q2, q3⟩ := AbN it (G2 c) m
        exact ⟨⟨Ab8 hr.ints _ (Hy he m (by simp)), by show (AcL it (G2 c) m).Text.length ≤ _; rw [q1]; exact hr.text, by show (AcL it (G2 c) m).Parts.length ≤ _; rw [q2]; exact keep.parts⟩, q3⟩
      · exact ⟨keep, rfl⟩
def Cj : Api_Item → List (List UInt8) → Option (Option Api_Item)
  | it, [] => some (some it)
  | it, e :: es => (Cc it e).bind fun y => if y.1 = true then Cj y.2 es else some none
theorem B3 {it it' : Api_Item} {a b : List (List UInt8)} (h : Cj it a = some (some it')) : Cj it (a ++ b) = Cj it' b := by
  induction a generalizing it with
  | nil => cases h; rfl
  | cons e es ih =>
    rw [Cj] at h
    obtain ⟨y, h1, h2⟩ := Option.bind_eq_some_iff.1 h
    rw [List.cons_append, Cj, h1, Option.bind_some]
    split at h2
    · rename_i hy
      rw [if_pos hy, ih h2]
    · cases h2
abbrev Un := Int × Int × Int × Int × Int × Int × Int × Int × Int × Int × Int × Int × Int × Int × List UInt8 × List Api_Part
def un (it : Api_Item) : Un := (it.Kind, it.Ref.Railway, it.Ref.No, it.Wagon, it.Place, it.Other, it.Number, it.From, it.To, it.Code, it.Dest, it.Class, it.Weight, it.Amount, it.Text, it.Parts)
def ent : Api_Item := { Kind := 0, Ref := { Railway := 0, No := 0 }, Wagon := 0, Place := 0, Other := 0, Number := 0, From := 0, To := 0, Code := 0, Dest := 0, Class := 0, Weight := 0, Amount := 0, Text := [], Parts := [] }
theorem AaK {L : List (List UInt8)} {e0 : List UInt8} {it0 : Api_Item} (hl : L.length ≤ 70000) (hL : ∀ e ∈ L, e.length ≤ 70000) (h0 : Rg it0 0) (hk : I64 it0.Kind) :
    ∃ R, Cj it0 L = some R ∧ C4 (fun (v : Int × Un) => En (e0 :: L) v.1 v.2.1 v.2.2.1 v.2.2.2.1 v.2.2.2.2.1 v.2.2.2.2.2.1 v.2.2.2.2.2.2.1 v.2.2.2.2.2.2.2.1 v.2.2.2.2.2.2.2.2.1 v.2.2.2.2.2.2.2.2.2.1 v.2.2.2.2.2.2.2.2.2.2.1 v.2.2.2.2.2.2.2.2.2.2.2.1 v.2.2.2.2.2.2.2.2.2.2.2.2.1 v.2.2.2.2.2.2.2.2.2.2.2.2.2.1 v.2.2.2.2.2.2.2.2.2.2.2.2.2.2.1 v.2.2.2.2.2.2.2.2.2.2.2.2.2.2.2.1 v.2.2.2.2.2.2.2.2.2.2.2.2.2.2.2.2) (0, un it0)
      = some (match R with | some it => .inl (un it) | none => .inr (.inr (ent, 4))) ∧ (∀ it, R = some it → Rg it L.length ∧ it.Kind = it0.Kind) := by
  have hd : ((e0 :: L).drop 1).take ((e0 :: L).length - 1) = L := by simp
  obtain ⟨x, hx, hq⟩ := D6 (f := fun (v : Int × Un) => En (e0 :: L) v.1 v.2.1 v.2.2.1 v.2.2.2.1 v.2.2.2.2.1 v.2.2.2.2.2.1 v.2.2.2.2.2.2.1 v.2.2.2.2.2.2.2.1 v.2.2.2.2.2.2.2.2.1 v.2.2.2.2.2.2.2.2.2.1 v.2.2.2.2.2.2.2.2.2.2.1 v.2.2.2.2.2.2.2.2.2.2.2.1 v.2.2.2.2.2.2.2.2.2.2.2.2.1 v.2.2.2.2.2.2.2.2.2.2.2.2.2.1 v.2.2.2.2.2.2.2.2.2.2.2.2.2.2.1 v.2.2.2.2.2.2.2.2.2.2.2.2.2.2.2.1 v.2.2.2.2.2.2.2.2.2.2.2.2.2.2.2.2)
    (fun v => ∃ (k : Nat) (it : Api_Item), v = ((k : Int), un it) ∧ k ≤ L.length ∧ Rg it k ∧ it.Kind = it0.Kind ∧ Cj it0 L = Cj it (L.drop k)) (fun v => L.length - v.1.toNat)
    (fun x => ∃ R, Cj it0 L = some R ∧ x = (match R with | some it => .inl (un it) | none => .inr (.inr (ent, 4))) ∧ (∀ it, R = some it → Rg it L.length ∧ it.Kind = it0.Kind)) (by
      rintro v ⟨k, it, rfl, hkl, hr, hki, hra⟩
      unfold En
      simp only [hd, un]
      by_cases hlt : k < L.length
      · have hin : InR (k : Int) L.length := ⟨by omega, by simpa using hlt⟩
        have hdk : L.drop k = nth L k :: L.drop (k + 1) := by rw [List.drop_eq_getElem_cons hlt]; simp [nth, List.getElem?_eq_getElem hlt]
        obtain ⟨y, hy, hyr, hyk⟩ := Adf (it := it) (s := nth L k) (hL _ (AdS hlt)) hr (by omega)
        have hy' : Cc { Kind := it.Kind, Ref := { Railway := it.Ref.Railway, No := it.Ref.No }, Wagon := it.Wagon, Place := it.Place, Other := it.Other, Number := it.Number, From := it.From, To := it.To, Code := it.Code, Dest := it.Dest, Class := it.Class, Weight := it.Weight, Amount := it.Amount, Text := it.Text, Parts := it.Parts } (nth L k) = some y := hy
        simp only [lt1, Int.toNat_natCast]
        rw [if_pos (decide_eq_true (by omega)), if_pos hin, hy', Option.bind_some]
        rw [hdk, Cj, hy, Option.bind_some] at hra
        by_cases hb : y.1 = true
        · rw [hb, if_neg (by simp), Gt (by omega)]
          rw [if_pos hb] at hra
          refine .inl ⟨_, rfl, ⟨k + 1, y.2, rfl, by omega, hyr, hyk.trans hki, hra⟩, ?_⟩
          simp only [Int.toNat_natCast]; omega
        · rw [if_pos (by simpa using hb)]
          rw [if_neg hb] at hra
          exact .inr ⟨_, rfl, none, hra, rfl, by intro it h; cases h⟩
      · rw [lt1, if_neg (by simpa using hlt)]
        rw [List.drop_eq_nil_of_le (by omega), Cj] at hra
        refine .inr ⟨_, rfl, some it, hra, rfl, ?_⟩
        intro it' h
        cases h
        exact ⟨⟨hr.ints, hr.text, by have := hr.parts; omega⟩, hki⟩) (v0 := (0, un it0)) ⟨0, it0, rfl, Nat.zero_le _, h0, rfl, rfl⟩ (by simp; omega)
  obtain ⟨R, h1, h2, h3⟩ := hq
  exact ⟨R, h1, by rw [hx, h2], h3⟩
end Go.Proofs.YtnfoiocigicdnaaGreatDoor
