/-
  Part 45.
-/
import Derived.Test.YtnfoiocigicdnaaGreatDoorYV43
import Derived.Test.YtnfoiocigicdnaaGreatDoorYV44
import Derived.KernelRfl
namespace Go.Proofs.YtnfoiocigicdnaaGreatDoor
open Go.Rv
set_option linter.unusedVariables false
set_option linter.unusedSimpArgs false
set_option maxRecDepth 20000
set_option maxHeartbeats 4000000
theorem Hk {a r} (h : Dn a = some r) : Con B 170 [.str a, i64 16, i64 8] [] (fun r' σ' => r' = .tup [u64 r.1, erA 230 r.2] ∧ σ' = []) := by
 refine Cw 172 [.tmp 6, .tmp 7] Tryz.func170 (fun F hE => ?_) h
 unfold Dn
 refine Te [0, 1, 2] Aa (Ev (by simp only [go_sem, Ae, Int.reduceLT, Int.reduceAdd, Int.reduceSub, Nat.reduceMul, Nat.reduceGT, Nat.reduceLeDiff, decide_true, decide_false, Bool.false_eq_true, Int.reduceBEq, Int.reduceGT, Int.reduceLE, Int.reduceGE, beq_self_eq_true]; exact Ad)) ?_
 refine Sq <|Te [0, 1, 2, 19] Aa (Ev (by simp only [go_sem, Ae, Int.reduceLT, Int.reduceAdd, Int.reduceSub, Nat.reduceMul, Nat.reduceGT, Nat.reduceLeDiff, decide_true, decide_false, Bool.false_eq_true, Int.reduceBEq, Int.reduceGT, Int.reduceLE, Int.reduceGE, beq_self_eq_true]; exact Ad)) ?_
 refine Cd ?_ ?_
 ·refine Te [6, 7] Aa (Ev (by simp only [go_sem, Ae, Int.reduceLT, Int.reduceAdd, Int.reduceSub, Nat.reduceMul, Nat.reduceGT, Nat.reduceLeDiff, decide_true, decide_false, Bool.false_eq_true, Int.reduceBEq, Int.reduceGT, Int.reduceLE, Int.reduceGE, beq_self_eq_true]; exact Ad)) ?_
  exact Sr <|Tr <|Rr
 ·refine Sk <|Tn <|Te [0, 1, 2, 8] Aa (Ev (by simp only [go_sem, Ae, Int.reduceLT, Int.reduceAdd, Int.reduceSub, Nat.reduceMul, Nat.reduceGT, Nat.reduceLeDiff, decide_true, decide_false, Bool.false_eq_true, Int.reduceBEq, Int.reduceGT, Int.reduceLE, Int.reduceGE, beq_self_eq_true]; exact Ad)) ?_
  refine Te [0, 1, 2, 8, 9] Aa (Ev (by simp only [go_sem, Ae, Int.reduceLT, Int.reduceAdd, Int.reduceSub, Nat.reduceMul, Nat.reduceGT, Nat.reduceLeDiff, decide_true, decide_false, Bool.false_eq_true, Int.reduceBEq, Int.reduceGT, Int.reduceLE, Int.reduceGE, beq_self_eq_true]; exact Ad)) ?_
  refine Ja (fun _ => ⟨Am 172 [(0, .str a), (1, i64 16), (2, i64 8), (8, .bool false), (9, .str a)], []⟩) ?_ ?_
  ·intro al
   refine Sb <|Te [0, 1, 2, 8, 9, 25] Aa (Ev (by simp only [go_sem, Ae, Int.reduceLT, Int.reduceAdd, Int.reduceSub, Nat.reduceMul, Nat.reduceGT, Nat.reduceLeDiff, decide_true, decide_false, Bool.false_eq_true, Int.reduceBEq, Int.reduceGT, Int.reduceLE, Int.reduceGE, beq_self_eq_true]; exact Ad)) ?_
   exact Ct <|Sk <|Bn <|Jm (ws [])
  intro _
  refine Ja (fun _ => ⟨Am 172 [(0, .str a), (1, i64 16), (2, i64 8), (8, .bool false), (9, .str a)], []⟩) ?_ ?_
  ·intro am
   refine Te [0, 1, 2, 8, 9, 77] Aa (Ev (by simp only [go_sem, Ae, Int.reduceLT, Int.reduceAdd, Int.reduceSub, Nat.reduceMul, Nat.reduceGT, Nat.reduceLeDiff, decide_true, decide_false, Bool.false_eq_true, Int.reduceBEq, Int.reduceGT, Int.reduceLE, Int.reduceGE, beq_self_eq_true]; exact Ad)) ?_
   refine Cf <|Te [0, 1, 2, 8, 9, 83] Aa (Ev (by simp only [go_sem, Ae, Int.reduceLT, Int.reduceAdd, Int.reduceSub, Nat.reduceMul, Nat.reduceGT, Nat.reduceLeDiff, decide_true, decide_false, Bool.false_eq_true, Int.reduceBEq, Int.reduceGT, Int.reduceLE, Int.reduceGE, beq_self_eq_true]; exact Ad)) ?_
   exact Cf <|Sk <|Jm (ws [])
  intro _
  refine Te [0, 1, 2, 8, 9] Aa (Ev (by simp only [go_sem, Ae, Int.reduceLT, Int.reduceAdd, Int.reduceSub, Nat.reduceMul, Nat.reduceGT, Nat.reduceLeDiff, decide_true, decide_false, Bool.false_eq_true, Int.reduceBEq, Int.reduceGT, Int.reduceLE, Int.reduceGE, beq_self_eq_true]; exact Ad)) ?_
  refine Ja (fun b => ⟨Am 172 [(0, .str a), (1, i64 16), (2, i64 8), (8, .bool false), (9, .str a), (10, u64 b)], []⟩) ?_ ?_
  ·intro an
   refine Te [0, 1, 2, 8, 9, 85] Aa (Ev (by simp only [go_sem, Ae, Int.reduceLT, Int.reduceAdd, Int.reduceSub, Nat.reduceMul, Nat.reduceGT, Nat.reduceLeDiff, decide_true, decide_false, Bool.false_eq_true, Int.reduceBEq, Int.reduceGT, Int.reduceLE, Int.reduceGE, beq_self_eq_true]; exact Ad)) ?_
   refine Sb <|Te [0, 1, 2, 8, 9, 85, 90] Aa (Ev (by simp only [go_sem, Ae, Int.reduceLT, Int.reduceAdd, Int.reduceSub, Nat.reduceMul, Nat.reduceGT, Nat.reduceLeDiff, decide_true, decide_false, Bool.false_eq_true, Int.reduceBEq, Int.reduceGT, Int.reduceLE, Int.reduceGE, beq_self_eq_true]; exact Ad)) ?_
   refine Cf <|Te [0, 1, 2, 8, 9, 92] Aa (Ev (by simp only [go_sem, Ae, Int.reduceLT, Int.reduceAdd, Int.reduceSub, Nat.reduceMul, Nat.reduceGT, Nat.reduceLeDiff, decide_true, decide_false, Bool.false_eq_true, Int.reduceBEq, Int.reduceGT, Int.reduceLE, Int.reduceGE, beq_self_eq_true]; exact Ad)) ?_
   refine Ct <|Lt fun y z =>Fe (fr' := [(0, _), (1, _), (2, _), (8, _), (9, _), (10, u64 y)]) [0, 1, 2, 8, 9, 10] Aa (Ev (by simp only [go_sem, Ae, Int.reduceLT, Int.reduceAdd, Int.reduceSub, Nat.reduceMul, Nat.reduceGT, Nat.reduceLeDiff, decide_true, decide_false, Bool.false_eq_true, Int.reduceBEq, Int.reduceGT, Int.reduceLE, Int.reduceGE, beq_self_eq_true, z]; exact Ad)) ?_
   exact Bn <|Jm (ws [])
  intro b
  refine Lt fun d aa =>Te (fr' := [(0, _), (1, _), (8, _), (9, _), (10, _), (11, u64 d)]) [0, 1, 8, 9, 10, 11] Aa (Ev (by simp only [go_sem, Ae, Int.reduceLT, Int.reduceAdd, Int.reduceSub, Nat.reduceMul, Nat.reduceGT, Nat.reduceLeDiff, decide_true, decide_false, Bool.false_eq_true, Int.reduceBEq, Int.reduceGT, Int.reduceLE, Int.reduceGE, beq_self_eq_true, aa]; exact Ad)) ?_
  refine Te [0, 1, 8, 9, 10, 11, 12] Aa (Ev (by simp only [go_sem, Ae, Int.reduceLT, Int.reduceAdd, Int.reduceSub, Nat.reduceMul, Nat.reduceGT, Nat.reduceLeDiff, decide_true, decide_false, Bool.false_eq_true, Int.reduceBEq, Int.reduceGT, Int.reduceLE, Int.reduceGE, beq_self_eq_true]; exact Ad)) ?_
  refine Te [0, 1, 8, 9, 10, 11, 12, 13] Aa (Ev (by simp only [go_sem, Ae, Int.reduceLT, Int.reduceAdd, Int.reduceSub, Nat.reduceMul, Nat.reduceGT, Nat.reduceLeDiff, decide_true, decide_false, Bool.false_eq_true, Int.reduceBEq, Int.reduceGT, Int.reduceLE, Int.reduceGE, beq_self_eq_true]; exact Ad)) ?_
  refine Jo (fun p => ⟨Am 172 [(9, .str a), (12, .bool false), (13, u64 p)], []⟩) ?_ ?_
  ·intro ao i
   refine Te [1, 8, 9, 10, 11, 12, 13, 99, 100, 101] Aa (Ev (by simp only [go_sem, Ae, Int.reduceLT, Int.reduceAdd, Int.reduceSub, Nat.reduceMul, Nat.reduceGT, Nat.reduceLeDiff, decide_true, decide_false, Bool.false_eq_true, Int.reduceBEq, Int.reduceGT, Int.reduceLE, Int.reduceGE, beq_self_eq_true]; exact Ad)) ?_
   refine Sb ?_
   refine Lo (fun (v : UInt64 × Int) => (⟨Am 172 [(1, i64 16), (8, .bool false), (9, .str a), (10, u64 b), (11, u64 d), (12, .bool false), (13, u64 v.1), (99, .bs false 0 (a.length) 0 (a.length)), (100, i64 (a.length : Int)), (101, i64 v.2)], [.buf 1 (L cU8 a) false]⟩ : St)) (ws [0]) ?_
   rintro ⟨e, c⟩ ap ab f g
   show C5 a b d e c = some ab → _
   unfold C5
   refine Te [1, 8, 9, 10, 11, 12, 13, 99, 100, 101, 102] Aa (Ev (by simp only [go_sem, Ae, Int.reduceLT, Int.reduceAdd, Int.reduceSub, Nat.reduceMul, Nat.reduceGT, Nat.reduceLeDiff, decide_true, decide_false, Bool.false_eq_true, Int.reduceBEq, Int.reduceGT, Int.reduceLE, Int.reduceGE, beq_self_eq_true]; exact Ad)) ?_
   refine Sq <|Cd ?_ ?_
   ·refine Sk <|Tn <|?_
    refine Jo (fun q => ⟨Am 172 [(1, i64 16), (8, .bool false), (9, .str a), (10, u64 b), (11, u64 d), (12, .bool false), (13, u64 q), (99, .bs false 0 (a.length) 0 (a.length)), (100, i64 (a.length : Int)), (101, i64 c)], [.buf 1 (L cU8 a) false]⟩) ?_ ?_
    ·intro aq j
     refine Sb <|Ck fun ac =>Te [1, 8, 9, 10, 11, 12, 13, 15, 99, 100, 101] Aa (Ev (by simp only [go_sem, Ae, Int.reduceLT, Int.reduceAdd, Int.reduceSub, Nat.reduceMul, Nat.reduceGT, Nat.reduceLeDiff, decide_true, decide_false, Bool.false_eq_true, Int.reduceBEq, Int.reduceGT, Int.reduceLE, Int.reduceGE, beq_self_eq_true, qR ac]; exact Ad)) ?_
     refine Te [1, 8, 9, 10, 11, 12, 13, 15, 99, 100, 101] Aa (Ev (by simp only [go_sem, Ae, Int.reduceLT, Int.reduceAdd, Int.reduceSub, Nat.reduceMul, Nat.reduceGT, Nat.reduceLeDiff, decide_true, decide_false, Bool.false_eq_true, Int.reduceBEq, Int.reduceGT, Int.reduceLE, Int.reduceGE, beq_self_eq_true]; exact Ad)) ?_
     refine Jo (fun k => ⟨Am 172 [(1, i64 16), (8, .bool false), (9, .str a), (10, u64 b), (11, u64 d), (12, .bool false), (13, u64 e), (16, u8 k), (99, .bs false 0 (a.length) 0 (a.length)), (100, i64 (a.length : Int)), (101, i64 c)], [.buf 1 (L cU8 a) false]⟩) ?_ ?_
     ·intro ar ad
      refine Sb ?_
      refine Tw [1, 8, 9, 10, 11, 12, 13, 15, 99, 100, 101, 106] (fun _ => ⟨Am 172 [(1, i64 16), (8, .bool false), (9, .str a), (10, u64 b), (11, u64 d), (12, .bool false), (13, u64 e), (15, u8 (nth a c.toNat)), (99, .bs false 0 (a.length) 0 (a.length)), (100, i64 (a.length : Int)), (101, i64 c), (106, .bool false)], [.buf 1 (L cU8 a) false]⟩) ?_ ?_
      ·intro _
       refine Sp (fun l => ?_) fun l => ?_
       ·exact Lf Aa (Ev (by simp only [go_sem, Ae, Int.reduceLT, Int.reduceAdd, Int.reduceSub, Nat.reduceMul, Nat.reduceGT, Nat.reduceLeDiff, decide_true, decide_false, Bool.false_eq_true, Int.reduceBEq, Int.reduceGT, Int.reduceLE, Int.reduceGE, beq_self_eq_true, l]; exact Ad)) (ws [0])
       ·exact Lf Aa (Ev (by simp only [go_sem, Ae, Int.reduceLT, Int.reduceAdd, Int.reduceSub, Nat.reduceMul, Nat.reduceGT, Nat.reduceLeDiff, decide_true, decide_false, Bool.false_eq_true, Int.reduceBEq, Int.reduceGT, Int.reduceLE, Int.reduceGE, beq_self_eq_true, l]; exact Ad)) (ws [0])
      intro _
      refine Cf ?_
      refine Tw [1, 8, 9, 10, 11, 12, 13, 15, 99, 100, 101, 112] (fun s => ⟨Am 172 [(1, i64 16), (8, .bool false), (9, .str a), (10, u64 b), (11, u64 d), (12, .bool false), (13, u64 e), (15, u8 (nth a c.toNat)), (99, .bs false 0 (a.length) 0 (a.length)), (100, i64 (a.length : Int)), (101, i64 c), (112, .bool s)], [.buf 1 (L cU8 a) false]⟩) ?_ ?_
      ·intro _
       refine Sp (fun m => ?_) fun m => ?_
       ·exact Lf Aa (Ev (by simp only [go_sem, Ae, Int.reduceLT, Int.reduceAdd, Int.reduceSub, Nat.reduceMul, Nat.reduceGT, Nat.reduceLeDiff, decide_true, decide_false, Bool.false_eq_true, Int.reduceBEq, Int.reduceGT, Int.reduceLE, Int.reduceGE, beq_self_eq_true, m]; exact Ad)) (ws [0])
       ·exact Lf Aa (Ev (by simp only [go_sem, Ae, Int.reduceLT, Int.reduceAdd, Int.reduceSub, Nat.reduceMul, Nat.reduceGT, Nat.reduceLeDiff, decide_true, decide_false, Bool.false_eq_true, Int.reduceBEq, Int.reduceGT, Int.reduceLE, Int.reduceGE, beq_self_eq_true, m]; exact Ad)) (ws [0])
      intro s
      refine Cd ?_ ?_
      ·refine Lt fun ae af =>Fe (fr' := [(1, _), (8, _), (9, _), (10, _), (11, _), (12, _), (13, _), (16, u8 ae), (99, _), (100, _), (101, _)]) [1, 8, 9, 10, 11, 12, 13, 16, 99, 100, 101] Aa (Ev (by simp only [go_sem, Ae, Int.reduceLT, Int.reduceAdd, Int.reduceSub, Nat.reduceMul, Nat.reduceGT, Nat.reduceLeDiff, decide_true, decide_false, Bool.false_eq_true, Int.reduceBEq, Int.reduceGT, Int.reduceLE, Int.reduceGE, beq_self_eq_true, af]; exact Ad)) ?_
       exact Bn <|Jn (ws [0])
      ·refine Tw [1, 8, 9, 10, 11, 12, 13, 15, 99, 100, 101, 121] (fun t => ⟨Am 172 [(1, i64 16), (8, .bool false), (9, .str a), (10, u64 b), (11, u64 d), (12, .bool false), (13, u64 e), (15, u8 (nth a c.toNat)), (99, .bs false 0 (a.length) 0 (a.length)), (100, i64 (a.length : Int)), (101, i64 c), (121, .bool t)], [.buf 1 (L cU8 a) false]⟩) ?_ ?_
       ·intro _
        refine Bd fun au u => ?_
        refine Sp (fun n => ?_) fun n => ?_
        ·refine Bd fun av ag => ?_
         exact Lf (o2 123 (Eg u) 127 (Eg ag)) (Ev (by simp only [go_sem, Ae, Int.reduceLT, Int.reduceAdd, Int.reduceSub, Nat.reduceMul, Nat.reduceGT, Nat.reduceLeDiff, decide_true, decide_false, Bool.false_eq_true, Int.reduceBEq, Int.reduceGT, Int.reduceLE, Int.reduceGE, beq_self_eq_true, n]; exact Ad)) (ws [0])
        ·exact Lf (o1 123 (Eg u)) (Ev (by simp only [go_sem, Ae, Int.reduceLT, Int.reduceAdd, Int.reduceSub, Nat.reduceMul, Nat.reduceGT, Nat.reduceLeDiff, decide_true, decide_false, Bool.false_eq_true, Int.reduceBEq, Int.reduceGT, Int.reduceLE, Int.reduceGE, beq_self_eq_true, n]; exact Ad)) (ws [0])
       intro t
       refine Cd ?_ ?_
       ·refine Bd fun aw ah =>Lt fun ai aj =>Fe (fr' := [(1, _), (8, _), (9, _), (10, _), (11, _), (12, _), (13, _), (16, u8 ai), (99, _), (100, _), (101, _)]) [1, 8, 9, 10, 11, 12, 13, 16, 99, 100, 101] (o1 131 (Eg ah)) (Ev (by simp only [go_sem, Ae, Int.reduceLT, Int.reduceAdd, Int.reduceSub, Nat.reduceMul, Nat.reduceGT, Nat.reduceLeDiff, decide_true, decide_false, Bool.false_eq_true, Int.reduceBEq, Int.reduceGT, Int.reduceLE, Int.reduceGE, beq_self_eq_true, aj]; exact Ad)) ?_
        exact Bn <|Jn (ws [0])
       ·refine Te [6, 7] Aa (Ev (by simp only [go_sem, Ae, Int.reduceLT, Int.reduceAdd, Int.reduceSub, Nat.reduceMul, Nat.reduceGT, Nat.reduceLeDiff, decide_true, decide_false, Bool.false_eq_true, Int.reduceBEq, Int.reduceGT, Int.reduceLE, Int.reduceGE, beq_self_eq_true]; exact Ad)) ?_
        exact Sr <|Br <|Jr ad <|Br <|Jr j <|Lr g f <|Br <|Jr i <|Rr
     intro k
     refine Sq <|Te [1, 8, 9, 10, 11, 12, 13, 16, 99, 100, 101, 137] Aa (Ev (by simp only [go_sem, Ae, Int.reduceLT, Int.reduceAdd, Int.reduceSub, Nat.reduceMul, Nat.reduceGT, Nat.reduceLeDiff, decide_true, decide_false, Bool.false_eq_true, Int.reduceBEq, Int.reduceGT, Int.reduceLE, Int.reduceGE, beq_self_eq_true]; exact Ad)) ?_
     refine Cd ?_ ?_
     ·refine Te [6, 7] Aa (Ev (by simp only [go_sem, Ae, Int.reduceLT, Int.reduceAdd, Int.reduceSub, Nat.reduceMul, Nat.reduceGT, Nat.reduceLeDiff, decide_true, decide_false, Bool.false_eq_true, Int.reduceBEq, Int.reduceGT, Int.reduceLE, Int.reduceGE, beq_self_eq_true]; exact Ad)) ?_
      exact Sr <|Tr <|Br <|Jr j <|Lr g f <|Br <|Jr i <|Rr
     ·refine Sk <|Tn <|Sq <|Te [1, 8, 9, 10, 11, 12, 13, 16, 99, 100, 101, 141] Aa (Ev (by simp only [go_sem, Ae, Int.reduceLT, Int.reduceAdd, Int.reduceSub, Nat.reduceMul, Nat.reduceGT, Nat.reduceLeDiff, decide_true, decide_false, Bool.false_eq_true, Int.reduceBEq, Int.reduceGT, Int.reduceLE, Int.reduceGE, beq_self_eq_true]; exact Ad)) ?_
      refine Cd ?_ ?_
      ·refine Te [6, 7] Aa (Ev (by simp only [go_sem, Ae, Int.reduceLT, Int.reduceAdd, Int.reduceSub, Nat.reduceMul, Nat.reduceGT, Nat.reduceLeDiff, decide_true, decide_false, Bool.false_eq_true, Int.reduceBEq, Int.reduceGT, Int.reduceLE, Int.reduceGE, beq_self_eq_true]; exact Ad)) ?_
       exact Sr <|Tr <|Br <|Jr j <|Lr g f <|Br <|Jr i <|Rr
      ·refine Sk <|Tn <|Lt fun w ak =>Te (fr' := [(1, _), (8, _), (9, _), (10, _), (11, _), (12, _), (13, u64 w), (16, _), (99, _), (100, _), (101, _)]) [1, 8, 9, 10, 11, 12, 13, 16, 99, 100, 101] Aa (Ev (by simp only [go_sem, Ae, Int.reduceLT, Int.reduceAdd, Int.reduceSub, Nat.reduceMul, Nat.reduceGT, Nat.reduceLeDiff, decide_true, decide_false, Bool.false_eq_true, Int.reduceBEq, Int.reduceGT, Int.reduceLE, Int.reduceGE, beq_self_eq_true, ak]; exact Ad)) ?_
       refine Te [1, 8, 9, 10, 11, 12, 13, 17, 99, 100, 101] Aa (Ev (by simp only [go_sem, Ae, Int.reduceLT, Int.reduceAdd, Int.reduceSub, Nat.reduceMul, Nat.reduceGT, Nat.reduceLeDiff, decide_true, decide_false, Bool.false_eq_true, Int.reduceBEq, Int.reduceGT, Int.reduceLE, Int.reduceGE, beq_self_eq_true]; exact Ad)) ?_
       refine Sq ?_
       refine Tw [1, 8, 9, 10, 11, 12, 17, 99, 100, 101, 159] (fun x => ⟨Am 172 [(1, i64 16), (8, .bool false), (9, .str a), (10, u64 b), (11, u64 d), (12, .bool false), (17, u64 (w + k.toUInt64)), (99, .bs false 0 (a.length) 0 (a.length)), (100, i64 (a.length : Int)), (101, i64 c), (159, .bool x)], [.buf 1 (L cU8 a) false]⟩) ?_ ?_
       ·intro _
        refine Sp (fun o => ?_) fun o => ?_
        ·exact Lf Aa (Ev (by simp only [go_sem, Ae, Int.reduceLT, Int.reduceAdd, Int.reduceSub, Nat.reduceMul, Nat.reduceGT, Nat.reduceLeDiff, decide_true, decide_false, Bool.false_eq_true, Int.reduceBEq, Int.reduceGT, Int.reduceLE, Int.reduceGE, beq_self_eq_true, o]; exact Ad)) (ws [0])
        ·exact Lf Aa (Ev (by simp only [go_sem, Ae, Int.reduceLT, Int.reduceAdd, Int.reduceSub, Nat.reduceMul, Nat.reduceGT, Nat.reduceLeDiff, decide_true, decide_false, Bool.false_eq_true, Int.reduceBEq, Int.reduceGT, Int.reduceLE, Int.reduceGE, beq_self_eq_true, o]; exact Ad)) (ws [0])
       intro x
       refine Cd ?_ ?_
       ·refine Te [6, 7] Aa (Ev (by simp only [go_sem, Ae, Int.reduceLT, Int.reduceAdd, Int.reduceSub, Nat.reduceMul, Nat.reduceGT, Nat.reduceLeDiff, decide_true, decide_false, Bool.false_eq_true, Int.reduceBEq, Int.reduceGT, Int.reduceLE, Int.reduceGE, beq_self_eq_true]; exact Ad)) ?_
        exact Sr <|Tr <|Br <|Jr j <|Lr g f <|Br <|Jr i <|Rr
       ·refine Sk <|Tn <|Fe [1, 8, 9, 10, 11, 12, 13, 99, 100, 101] Aa (Ev (by simp only [go_sem, Ae, Int.reduceLT, Int.reduceAdd, Int.reduceSub, Nat.reduceMul, Nat.reduceGT, Nat.reduceLeDiff, decide_true, decide_false, Bool.false_eq_true, Int.reduceBEq, Int.reduceGT, Int.reduceLE, Int.reduceGE, beq_self_eq_true]; exact Ad)) ?_
        exact Bn <|Jn (ws [0])
    intro q
    refine Fe [1, 8, 9, 10, 11, 12, 13, 99, 100, 101] Aa (Ev (by simp only [go_sem, Ae, Int.reduceLT, Int.reduceAdd, Int.reduceSub, Nat.reduceMul, Nat.reduceGT, Nat.reduceLeDiff, decide_true, decide_false, Bool.false_eq_true, Int.reduceBEq, Int.reduceGT, Int.reduceLE, Int.reduceGE, beq_self_eq_true]; exact Ad)) ?_
    exact Ln (ws [0])
   ·refine Sx <|Tx <|Lx g f <|Bx <|?_
    exact Jn ((ws (l' := [(9, .str a), (12, .bool false), (13, u64 e)]) (σ' := []) []).trans (ws []))
  intro p
  refine Sq <|Te [13, 169] Aa (Ev (by simp only [go_sem, Ae, Int.reduceLT, Int.reduceAdd, Int.reduceSub, Nat.reduceMul, Nat.reduceGT, Nat.reduceLeDiff, decide_true, decide_false, Bool.false_eq_true, Int.reduceBEq, Int.reduceGT, Int.reduceLE, Int.reduceGE, beq_self_eq_true]; exact Ad)) ?_
  refine Cf <|Sk <|Tn <|Te [6, 7] Aa (Ev (by simp only [go_sem, Ae, Int.reduceLT, Int.reduceAdd, Int.reduceSub, Nat.reduceMul, Nat.reduceGT, Nat.reduceLeDiff, decide_true, decide_false, Bool.false_eq_true, Int.reduceBEq, Int.reduceGT, Int.reduceLE, Int.reduceGE, beq_self_eq_true]; exact Ad)) ?_
  exact Sr <|Rr
open Go.RowKit in
theorem Ma {fn s : List UInt8} {b c e : Int} (he : e = 1 ∨ e = 2) (hl : s.length ≤ 281474976710656) : Con B 169 [.str fn, .str s, i64 b, i64 c, erA 230 e] [] (fun r' σ' => r' = Adv 233 true ∧ σ' = []) := by
  refine ⟨fun F w g vs hm ha => .inl ⟨⟨Tryz.f169, _, Tryz.func169, rfl, by decide +kernel⟩, ?_⟩⟩
  have hg : g = [] := List.length_eq_zero_iff.1 hm.len
  subst hg
  obtain ⟨vs⟩ := vs
  match vs, ha with
  | [u1, u2, u3, u4, u5], ⟨h1, h2, h3, h4, h5, _⟩ =>
    have e3 := Cl h3
    have e4 := Cl h4
    subst e3 e4
    cases h1 with
    | str _ b1 _ hb1 =>
      cases h2 with
      | str _ b2 _ hb2 =>
        have hsz : b2.size = s.length := by rw [← hb2]; rfl
        have fin : ∀ (ev : Value) (w' : World), Below w.heap.size w w' → Rep w' (A2 (B.env F) []) [] ev (Adv 233 true) →
            ∃ v' r' σ' g', Ending.returned ev = Ending.returned v' ∧ (r' = Adv 233 true ∧ σ' = []) ∧ Mem (B.env F) w' g' σ' ∧ Evo (B.env F) 0 w [] w' g' ∧ Rep w' (A2 (B.env F) g') g' v' r' :=
          fun ev w' hb2 hr => ⟨_, _, [], [], rfl, ⟨rfl, rfl⟩, I4 hm hb2, Hx hb2, hr⟩
        rcases he with rfl | rfl
        · rw [Ame] at h5
          cases h5 with
          | iface _ _ v _ hv =>
            have ev := Cl hv
            subst ev
            obtain ⟨ev, q2, te, pe, q3⟩ := Ll hm (i := 8) rfl
            refine (Any.strconv_toError_range { Tryz.laysC172 with } b1 b2 b c ev w (by omega) q2 (.inr ⟨te, pe, q3⟩)).mono ?_
            rintro e w' ⟨N, rfl, _, _, hw⟩
            exact fin _ w' hw (.iface _ _ _ _ (.junk _ _))
        · rw [Ald] at h5
          cases h5 with
          | iface _ _ v _ hv =>
            have ev := Cl hv
            subst ev
            obtain ⟨ev, q2, te, pe, q3⟩ := Ll hm (i := 7) rfl
            refine (Any.strconv_toError_syntax { Tryz.laysC172 with } b1 b2 b c ev w (by omega) q2 (.inr ⟨te, pe, q3⟩)).mono ?_
            rintro e w' ⟨N, rfl, _, _, hw⟩
            exact fin _ w' hw (.iface _ _ _ _ (.junk _ _))
theorem Ld {s : List UInt8} {b c : Int} {r : UInt64 × Bool} (h : F5 s b c = some r) : Con B 150 [.str s, i64 b, i64 c] [] (fun r' σ' => r' = .tup [u64 r.1, Adv 233 r.2] ∧ σ' = []) := by
 unfold F5 at h
 split at h
 case isFalse => cases h
 rename_i hbc
 obtain ⟨rfl, rfl, hl⟩ := hbc
 replace h := Az h
 obtain ⟨⟨n, e⟩, hy, h⟩ := h
 dsimp only at h
 split at h
 case isFalse => cases h
 rename_i hee
 obtain rfl := Option.some.inj h
 refine Ji (N := 26) (rs := [.tmp 6, .tmp 7]) ok Tryz.func150 rfl (by decide +kernel) rfl rfl (Nat.le_of_ble_eq_true rfl) (fun F => ?_)
 have hE := ok.env F
 show Run (B.env F) 0 _ ⟨Am 26 [(0, .str s), (1, i64 16), (2, i64 8)], []⟩ _
 refine Js ?_
 refine Ca hE [0, 1, 2] (fr' := [(0, .str s), (1, i64 16), (2, i64 8)]) (σ' := []) ⟨_, Aa, ?_⟩ ?_
 ·simp only [go_sem]
 refine Ca hE [0, 1, 2, 8, 9] (fr' := [(0, .str s), (1, i64 16), (2, i64 8), (8, u64 n), (9, erA 230 e)]) (σ' := []) ⟨_, Gz (l := [(14, 170, [.str s, i64 16, i64 8], .tup [u64 n, erA 230 e])]) ⟨Hk hy, trivial⟩, ?_⟩ ?_
 ·simp only [go_sem]
 by_cases h0 : e = 0
 ·subst h0
  refine L9 ?_
  refine Ca hE [8, 18] (fr' := [(8, u64 n), (18, .bool false)]) (σ' := []) ⟨_, Aa, ?_⟩ ?_
  ·simp only [go_sem]
  refine Hl (b := false) rfl (by decide) (fun hb => by cases hb) (fun hb => ?_)
  refine Wg ?_
  refine Ajc ?_
  refine Ca hE [6, 7] (fr' := [(6, u64 n), (7, .val .nilIface)]) (σ' := []) ⟨_, Aa, ?_⟩ ?_
  ·simp only [go_sem]
  refine Vo ?_
  refine Abx (Weak.refl _ _) ?_
  refine Aer (.inr rfl) ?_
  simp only [go_sem]
  rfl
 ·have he : e = 1 ∨ e = 2 := by omega
  have hc : erA 230 e = .iface 230 (i64 e) := by rw [erA, if_neg h0]
  refine L9 ?_
  refine Ca hE [0, 1, 2, 8, 9, 18] (fr' := [(0, .str s), (1, i64 16), (2, i64 8), (8, u64 n), (9, erA 230 e), (18, .bool true)]) (σ' := []) ⟨_, Aa, ?_⟩ ?_
  ·rw [hc]; simp only [go_sem]
  refine Hl (b := true) rfl (by decide) (fun hb => ?_) (fun hb => by cases hb)
  have ho : (B.env F).own 169 = false := rfl
  refine Ca hE [6, 7] (fr' := [(6, u64 n), (7, Adv 233 true)]) (σ' := []) ⟨_, Gz (l := [(24, 169, [.str [80, 97, 114, 115, 101, 85, 105, 110, 116], .str s, i64 16, i64 8, erA 230 e], Adv 233 true)]) ⟨Ma he hl, trivial⟩, ?_⟩ ?_
  ·simp only [go_sem, ho]
  refine Vo ?_
  refine Ai7 ?_
  refine Abx (Weak.refl _ _) ?_
  refine Aer (.inr rfl) ?_
  have hn : (e != 0) = true := by simpa using h0
  simp only [go_sem, hn]
theorem M7 {c r} (h : Io c = some r) : Con B 109 [.str c] [] (fun r' σ' => r' = .tup [.str r.1, .bool r.2] ∧ σ' = []) := by
 refine Cw 44 [.tmp 2, .tmp 3] Tryz.func109 (fun F hE => ?_) h
 unfold Io
 refine T0 [0] ?_
 refine T0 [0, 4] ?_
 refine Jo (fun b => ⟨Am 44 [(4, .tref 0 108)], [.box [.nref 0, .bs false 1 (b.length) 0 (b.length)] false, .tb 5 b]⟩) ?_ ?_
 ·intro w f
  refine T0 [0, 4, 5] ?_
  refine Sb ?_
  refine Lo (fun (v : Int × List UInt8) => (⟨Am 44 [(0, .str c), (4, .tref 0 108), (5, i64 v.1)], [.box [.nref 0, .bs false 1 (v.2.length) 0 (v.2.length)] false, .tb 5 v.2]⟩ : St)) ((R4 0 1 5 rfl rfl).trans (ws [0, 1])) ?_
  rintro ⟨k, a⟩ x n d e
  show Ht c k a = some n → _
  unfold Ht
  refine Sq <|T0 [0, 4, 5, 12] ?_
  refine Cd ?_ ?_
  ·refine Sk <|Tn <|Sq <|Sb <|Ck fun o =>Te [0, 4, 5, 6] Aa (Ev (by simp only [go_sem, qR o]; exact Ad)) ?_
   refine Jo (fun (v : Int × UInt8) => (⟨Am 44 [(0, .str c), (4, .tref 0 108), (5, i64 v.1), (6, u8 v.2)], [.box [.nref 0, .bs false 1 (a.length) 0 (a.length)] false, .tb 5 a]⟩ : St)) ?_ ?_
   ·intro y g
    refine T0 [0, 4, 5, 6, 19] ?_
    refine Cd ?_ ?_
    ·refine Sq <|T0 [0, 4, 5, 24] ?_
     refine Cd ?_ ?_
     ·refine T0 [2, 3] ?_
      exact Sr <|Tr <|Jr g <|Br <|Tr <|Lr e d <|Br <|Jr f <|Rr
     ·refine Sk <|Tn <|Ck fun p =>Ck fun q =>Bd fun z s =>Te [0, 4, 5, 7, 8] (o1 32 (Ld s)) (Ev (by simp only [go_sem, p, q]; exact Ad)) ?_
      refine Sq <|T0 [0, 4, 5, 7, 36] ?_
      refine Cd ?_ ?_
      ·refine T0 [2, 3] ?_
       exact Sr <|Tr <|Jr g <|Br <|Tr <|Lr e d <|Br <|Jr f <|Rr
      ·refine Sk <|Tn <|T0 [0, 4, 5, 6] ?_
       refine F0 [0, 4, 5, 6] ?_
       exact Jn (ws [0, 1])
    ·exact Sk <|Jn (ws [0, 1])
   rintro ⟨aa, t⟩
   refine Bd fun ab u =>Fe [0, 4, 5] (Ag (l := []) (m := [(42, 50, [.tref 0 108, u8 t], [.box [.nref 0, .bs false 1 (a.length) 0 (a.length)] false, .tb 5 a], _, _)]) trivial ⟨(wc (Ar u) [0, 1]), trivial⟩) Ev ?_
   refine Bn <|Tn <|F0 [0, 4, 5] ?_
   exact Ln (ws [0, 1])
  ·refine Sx <|Tx <|Lx e d <|Bx <|?_
   exact Jn ((ws (l' := [(4, .tref 0 108)]) (σ' := [.box [.nref 0, .bs false 1 (a.length) 0 (a.length)] false, .tb 5 a]) [0, 1]).trans (ws [0, 1]))
 intro b
 refine Ck fun i =>Ck fun j =>Te [2, 3] (Ag (l := []) (m := [(43, 54, [.tref 0 108], [.box [.nref 0, .bs false 1 (b.length) 0 (b.length)] false, .tb 5 b], .str b, [.box [.nref 0, .junk] false, Acq b.length])]) trivial ⟨(R3 rfl rfl i j rfl), trivial⟩) (Ev (by simp only [go_sem, i, j]; exact Ad)) ?_
 exact Sr <|Rr
open Go.RowKit in
theorem Pj : Con B 109 [.str []] [] (fun r' σ' => r' = .tup [.str [], .bool true] ∧ σ' = []) := by
  refine ⟨fun F w g vs hm ha => .inl ⟨⟨Tryz.f109, _, Tryz.func109, rfl, by decide +kernel⟩, ?_⟩⟩
  have hg : g = [] := List.length_eq_zero_iff.1 hm.len
  subst hg
  obtain ⟨vs⟩ := vs
  match vs, ha with
  | [u], ⟨h1, _⟩ =>
    cases h1 with
    | str _ b _ hb =>
      have eb : b = ⟨#[]⟩ := by
        obtain ⟨⟨l⟩⟩ := b
        simp only at hb
        subst hb; rfl
      subst eb
      refine (Sy w).mono ?_
      rintro e w' ⟨rfl, rfl⟩
      have hb2 : Below w.heap.size w (w.alloc (.cells #[.pointer none, .slice none 0 0] 108)).drew := ((Below.refl _ w).alloc (Nat.le_refl _) _).drew
      exact ⟨_, _, [], [], rfl, ⟨rfl, rfl⟩, I4 hm hb2, Hx hb2, Vq (.str _ _ _ rfl) (.bool _ _)⟩
theorem Pr {s : List UInt8} {r : List UInt8 × Bool} (h : Kn s = some r) : Con B 109 [.str s] [] (fun r' σ' => r' = .tup [.str r.1, .bool r.2] ∧ σ' = []) := by
 unfold Kn at h
 split at h
 ·rename_i e
  subst e
  cases h
  exact Pj
 ·exact M7 h
theorem Ww {a t r} (h : Wd a t = some r) : Con B 68 [.ref 0 0, .str t] [.box [i64 a.Kind, i64 a.Ref.Railway, i64 a.Ref.No, i64 a.Wagon, i64 a.Place, i64 a.Other, i64 a.Number, i64 a.From, i64 a.To, i64 a.Code, i64 a.Dest, i64 a.Class, i64 a.Weight, i64 a.Amount, .str a.Text, .bs false 1 (a.Parts.length) 0 (a.Parts.length)] false, .buf 3 (L Ac a.Parts) false] (fun r' σ' => r' = .bool r.1 ∧ σ' = [.box [i64 r.2.Kind, i64 r.2.Ref.Railway, i64 r.2.Ref.No, i64 r.2.Wagon, i64 r.2.Place, i64 r.2.Other, i64 r.2.Number, i64 r.2.From, i64 r.2.To, i64 r.2.Code, i64 r.2.Dest, i64 r.2.Class, i64 r.2.Weight, i64 r.2.Amount, .str r.2.Text, .bs false 1 (r.2.Parts.length) 0 (r.2.Parts.length)] false, .buf 3 (L Ac r.2.Parts) false]) := by
 refine Co 2 96 [.tmp 4] Tryz.func68 (fun F hE => ?_) h
 unfold Wd
 refine Te [0, 1, 4] Aa (Ev (by simp only [go_sem, Ae, Int.reduceLT, Int.reduceAdd, Int.reduceSub, Nat.reduceMul, Nat.reduceGT, Nat.reduceLeDiff, decide_true, decide_false, Bool.false_eq_true, Int.reduceBEq, Int.reduceGT, Int.reduceLE, Int.reduceGE, beq_self_eq_true]; exact Ad)) ?_
 refine Sq <|Te [0, 1, 4, 8] Aa (Ev (by simp only [go_sem, Ae, Int.reduceLT, Int.reduceAdd, Int.reduceSub, Nat.reduceMul, Nat.reduceGT, Nat.reduceLeDiff, decide_true, decide_false, Bool.false_eq_true, Int.reduceBEq, Int.reduceGT, Int.reduceLE, Int.reduceGE, beq_self_eq_true]; exact Ad)) ?_
 refine Cd ?_ ?_
 ·refine Te [4] Aa (Ev (by simp only [go_sem, Ae, Int.reduceLT, Int.reduceAdd, Int.reduceSub, Nat.reduceMul, Nat.reduceGT, Nat.reduceLeDiff, decide_true, decide_false, Bool.false_eq_true, Int.reduceBEq, Int.reduceGT, Int.reduceLE, Int.reduceGE, beq_self_eq_true]; exact Ad)) ?_
  exact Sr <|Tr <|Ro [0, 1]
 ·refine Sk <|Tn <|Te [0, 1, 4] Aa (Ev (by simp only [go_sem, Ae, Int.reduceLT, Int.reduceAdd, Int.reduceSub, Nat.reduceMul, Nat.reduceGT, Nat.reduceLeDiff, decide_true, decide_false, Bool.false_eq_true, Int.reduceBEq, Int.reduceGT, Int.reduceLE, Int.reduceGE, beq_self_eq_true]; exact Ad)) ?_
  refine Ja (fun ⟨u, v, w, x, y, z, aa, ab, ac, ad, ae, af, ag, ah, ai, c⟩ => ⟨Am 96 [(4, .bool u)], [.box [i64 a.Kind, i64 v, i64 w, i64 x, i64 y, i64 z, i64 aa, i64 ab, i64 ac, i64 ad, i64 ae, i64 af, i64 ag, i64 ah, .str ai, .bs false 1 (c.length) 0 (c.length)] false, .buf 3 (L Ac c) false]⟩) ?_ ?_
  ·intro bB
   refine Ck fun aH =>Bd fun bC aI =>Lt fun b aJ =>Te (fr' := [(0, _), (1, _), (4, _), (6, i64 b)]) [0, 1, 4, 6] (o1 11 (Ks aI)) (Ev (by simp only [go_sem, Ae, Int.reduceLT, Int.reduceAdd, Int.reduceSub, Nat.reduceMul, Nat.reduceGT, Nat.reduceLeDiff, decide_true, decide_false, Bool.false_eq_true, Int.reduceBEq, Int.reduceGT, Int.reduceLE, Int.reduceGE, beq_self_eq_true, qL aH, aJ]; exact Ad)) ?_
   refine Sp (fun aj => ?_) fun aj => ?_
   ·obtain rfl : b = 0 := eq_of_beq aj
    refine Sb <|Te [0, 1, 4, 6, 12] Aa (Ev (by simp only [go_sem, Ae, Int.reduceLT, Int.reduceAdd, Int.reduceSub, Nat.reduceMul, Nat.reduceGT, Nat.reduceLeDiff, decide_true, decide_false, Bool.false_eq_true, Int.reduceBEq, Int.reduceGT, Int.reduceLE, Int.reduceGE, beq_self_eq_true]; exact Ad)) ?_
    refine Ct <|Ck fun aK =>Bd fun d aL =>Te [0, 4, 5, 6] (o1 18 (A9 aL)) (Ev (by simp only [go_sem, Ae, Int.reduceLT, Int.reduceAdd, Int.reduceSub, Nat.reduceMul, Nat.reduceGT, Nat.reduceLeDiff, decide_true, decide_false, Bool.false_eq_true, Int.reduceBEq, Int.reduceGT, Int.reduceLE, Int.reduceGE, beq_self_eq_true, aK]; exact Ad)) ?_
    refine Te [0, 4, 5, 6, 21] Aa (Ev (by simp only [go_sem, Ae, Int.reduceLT, Int.reduceAdd, Int.reduceSub, Nat.reduceMul, Nat.reduceGT, Nat.reduceLeDiff, decide_true, decide_false, Bool.false_eq_true, Int.reduceBEq, Int.reduceGT, Int.reduceLE, Int.reduceGE, beq_self_eq_true]; exact Ad)) ?_
    refine Cd ?_ ?_
    ·have ak : InR 0 11 := by decide
     refine Ck fun aM => ?_
     intro h
     refine Dj hE mixed [[], [0], [], [0, 1, 2], [], [4], [4, 5], [0, 1, 2, 3, 4, 5, 6], [0, 1, 2, 3, 4, 5, 6, 7]] (by kernel_rfl) [26, 27] [4, 26, 27] (by kernel_rfl) (Da Ew) (fr' := [(4, .bool d.2), (26, .sl false (L Nc d.1)), (27, .rp [i64 (nth d.1 0)])]) (σ' := [.box [i64 a.Kind, i64 a.Ref.Railway, i64 a.Ref.No, i64 (nth d.1 0), i64 a.Place, i64 a.Other, i64 a.Number, i64 a.From, i64 a.To, i64 a.Code, i64 a.Dest, i64 a.Class, i64 a.Weight, i64 a.Amount, .str a.Text, .bs false 1 (a.Parts.length) 0 (a.Parts.length)] false, .buf 3 (L Ac a.Parts) false]) ⟨rfl, rfl, trivial⟩ ⟨_, (Ag (l := []) (m := [(23, 51, [.ref 0 0], [.box [i64 a.Kind, i64 a.Ref.Railway, i64 a.Ref.No, i64 a.Wagon, i64 a.Place, i64 a.Other, i64 a.Number, i64 a.From, i64 a.To, i64 a.Code, i64 a.Dest, i64 a.Class, i64 a.Weight, i64 a.Amount, .str a.Text, .bs false 1 (a.Parts.length) 0 (a.Parts.length)] false, .buf 3 (L Ac a.Parts) false], .agg [.ref 0 3, .ref 0 4, .ref 0 5, .ref 0 6, .ref 0 7, .ref 0 8, .ref 0 9, .ref 0 10, .ref 0 11, .ref 0 12, .ref 0 13], [.box [i64 a.Kind, i64 a.Ref.Railway, i64 a.Ref.No, i64 a.Wagon, i64 a.Place, i64 a.Other, i64 a.Number, i64 a.From, i64 a.To, i64 a.Code, i64 a.Dest, i64 a.Class, i64 a.Weight, i64 a.Amount, .str a.Text, .bs false 1 (a.Parts.length) 0 (a.Parts.length)] false, .buf 3 (L Ac a.Parts) false])]) trivial ⟨A8, trivial⟩), ?_⟩ ?_
     ·simp only [go_sem, Ae, Int.reduceLT, Int.reduceAdd, Int.reduceSub, Nat.reduceMul, Nat.reduceGT, Nat.reduceLeDiff, decide_true, decide_false, Bool.false_eq_true, Int.reduceBEq, Int.reduceGT, Int.reduceLE, Int.reduceGE, beq_self_eq_true, ak, ak.2, qL aM]
     revert h
     exact Bn <|Jm (ws [0, 1])
    ·exact Sk <|Bn <|Jm (ws [0, 1])
   ·skip
    refine Sp (fun al => ?_) fun al => ?_
    ·obtain rfl : b = 1 := eq_of_beq al
     refine Sb <|Te [0, 1, 4, 6, 12] Aa (Ev (by simp only [go_sem, Ae, Int.reduceLT, Int.reduceAdd, Int.reduceSub, Nat.reduceMul, Nat.reduceGT, Nat.reduceLeDiff, decide_true, decide_false, Bool.false_eq_true, Int.reduceBEq, Int.reduceGT, Int.reduceLE, Int.reduceGE, beq_self_eq_true]; exact Ad)) ?_
     refine Ct <|Ck fun aN =>Bd fun e aO =>Te [0, 4, 5, 6] (o1 18 (A9 aO)) (Ev (by simp only [go_sem, Ae, Int.reduceLT, Int.reduceAdd, Int.reduceSub, Nat.reduceMul, Nat.reduceGT, Nat.reduceLeDiff, decide_true, decide_false, Bool.false_eq_true, Int.reduceBEq, Int.reduceGT, Int.reduceLE, Int.reduceGE, beq_self_eq_true, aN]; exact Ad)) ?_
     refine Te [0, 4, 5, 6, 21] Aa (Ev (by simp only [go_sem, Ae, Int.reduceLT, Int.reduceAdd, Int.reduceSub, Nat.reduceMul, Nat.reduceGT, Nat.reduceLeDiff, decide_true, decide_false, Bool.false_eq_true, Int.reduceBEq, Int.reduceGT, Int.reduceLE, Int.reduceGE, beq_self_eq_true]; exact Ad)) ?_
     refine Cd ?_ ?_
     ·have am : InR 1 11 := by decide
      refine Ck fun aP => ?_
      intro h
      refine Dj hE mixed [[], [0], [], [0, 1, 2], [], [4], [4, 5], [0, 1, 2, 3, 4, 5, 6], [0, 1, 2, 3, 4, 5, 6, 7]] (by kernel_rfl) [26, 27] [4, 26, 27] (by kernel_rfl) (Da Ew) (fr' := [(4, .bool e.2), (26, .sl false (L Nc e.1)), (27, .rp [i64 (nth e.1 0)])]) (σ' := [.box [i64 a.Kind, i64 a.Ref.Railway, i64 a.Ref.No, i64 a.Wagon, i64 (nth e.1 0), i64 a.Other, i64 a.Number, i64 a.From, i64 a.To, i64 a.Code, i64 a.Dest, i64 a.Class, i64 a.Weight, i64 a.Amount, .str a.Text, .bs false 1 (a.Parts.length) 0 (a.Parts.length)] false, .buf 3 (L Ac a.Parts) false]) ⟨rfl, rfl, trivial⟩ ⟨_, (Ag (l := []) (m := [(23, 51, [.ref 0 0], [.box [i64 a.Kind, i64 a.Ref.Railway, i64 a.Ref.No, i64 a.Wagon, i64 a.Place, i64 a.Other, i64 a.Number, i64 a.From, i64 a.To, i64 a.Code, i64 a.Dest, i64 a.Class, i64 a.Weight, i64 a.Amount, .str a.Text, .bs false 1 (a.Parts.length) 0 (a.Parts.length)] false, .buf 3 (L Ac a.Parts) false], .agg [.ref 0 3, .ref 0 4, .ref 0 5, .ref 0 6, .ref 0 7, .ref 0 8, .ref 0 9, .ref 0 10, .ref 0 11, .ref 0 12, .ref 0 13], [.box [i64 a.Kind, i64 a.Ref.Railway, i64 a.Ref.No, i64 a.Wagon, i64 a.Place, i64 a.Other, i64 a.Number, i64 a.From, i64 a.To, i64 a.Code, i64 a.Dest, i64 a.Class, i64 a.Weight, i64 a.Amount, .str a.Text, .bs false 1 (a.Parts.length) 0 (a.Parts.length)] false, .buf 3 (L Ac a.Parts) false])]) trivial ⟨A8, trivial⟩), ?_⟩ ?_
      ·simp only [go_sem, Ae, Int.reduceLT, Int.reduceAdd, Int.reduceSub, Nat.reduceMul, Nat.reduceGT, Nat.reduceLeDiff, decide_true, decide_false, Bool.false_eq_true, Int.reduceBEq, Int.reduceGT, Int.reduceLE, Int.reduceGE, beq_self_eq_true, am, am.2, qL aP]
      revert h
      exact Bn <|Jm (ws [0, 1])
     ·exact Sk <|Bn <|Jm (ws [0, 1])
    ·skip
     refine Sp (fun an => ?_) fun an => ?_
     ·obtain rfl : b = 2 := eq_of_beq an
      refine Sb <|Te [0, 1, 4, 6, 12] Aa (Ev (by simp only [go_sem, Ae, Int.reduceLT, Int.reduceAdd, Int.reduceSub, Nat.reduceMul, Nat.reduceGT, Nat.reduceLeDiff, decide_true, decide_false, Bool.false_eq_true, Int.reduceBEq, Int.reduceGT, Int.reduceLE, Int.reduceGE, beq_self_eq_true]; exact Ad)) ?_
      refine Ct <|Ck fun aQ =>Bd fun f aR =>Te [0, 4, 5, 6] (o1 18 (A9 aR)) (Ev (by simp only [go_sem, Ae, Int.reduceLT, Int.reduceAdd, Int.reduceSub, Nat.reduceMul, Nat.reduceGT, Nat.reduceLeDiff, decide_true, decide_false, Bool.false_eq_true, Int.reduceBEq, Int.reduceGT, Int.reduceLE, Int.reduceGE, beq_self_eq_true, aQ]; exact Ad)) ?_
      refine Te [0, 4, 5, 6, 21] Aa (Ev (by simp only [go_sem, Ae, Int.reduceLT, Int.reduceAdd, Int.reduceSub, Nat.reduceMul, Nat.reduceGT, Nat.reduceLeDiff, decide_true, decide_false, Bool.false_eq_true, Int.reduceBEq, Int.reduceGT, Int.reduceLE, Int.reduceGE, beq_self_eq_true]; exact Ad)) ?_
      refine Cd ?_ ?_
      ·have ao : InR 2 11 := by decide
       refine Ck fun aS => ?_
       intro h
       refine Dj hE mixed [[], [0], [], [0, 1, 2], [], [4], [4, 5], [0, 1, 2, 3, 4, 5, 6], [0, 1, 2, 3, 4, 5, 6, 7]] (by kernel_rfl) [26, 27] [4, 26, 27] (by kernel_rfl) (Da Ew) (fr' := [(4, .bool f.2), (26, .sl false (L Nc f.1)), (27, .rp [i64 (nth f.1 0)])]) (σ' := [.box [i64 a.Kind, i64 a.Ref.Railway, i64 a.Ref.No, i64 a.Wagon, i64 a.Place, i64 (nth f.1 0), i64 a.Number, i64 a.From, i64 a.To, i64 a.Code, i64 a.Dest, i64 a.Class, i64 a.Weight, i64 a.Amount, .str a.Text, .bs false 1 (a.Parts.length) 0 (a.Parts.length)] false, .buf 3 (L Ac a.Parts) false]) ⟨rfl, rfl, trivial⟩ ⟨_, (Ag (l := []) (m := [(23, 51, [.ref 0 0], [.box [i64 a.Kind, i64 a.Ref.Railway, i64 a.Ref.No, i64 a.Wagon, i64 a.Place, i64 a.Other, i64 a.Number, i64 a.From, i64 a.To, i64 a.Code, i64 a.Dest, i64 a.Class, i64 a.Weight, i64 a.Amount, .str a.Text, .bs false 1 (a.Parts.length) 0 (a.Parts.length)] false, .buf 3 (L Ac a.Parts) false], .agg [.ref 0 3, .ref 0 4, .ref 0 5, .ref 0 6, .ref 0 7, .ref 0 8, .ref 0 9, .ref 0 10, .ref 0 11, .ref 0 12, .ref 0 13], [.box [i64 a.Kind, i64 a.Ref.Railway, i64 a.Ref.No, i64 a.Wagon, i64 a.Place, i64 a.Other, i64 a.Number, i64 a.From, i64 a.To, i64 a.Code, i64 a.Dest, i64 a.Class, i64 a.Weight, i64 a.Amount, .str a.Text, .bs false 1 (a.Parts.length) 0 (a.Parts.length)] false, .buf 3 (L Ac a.Parts) false])]) trivial ⟨A8, trivial⟩), ?_⟩ ?_
       ·simp only [go_sem, Ae, Int.reduceLT, Int.reduceAdd, Int.reduceSub, Nat.reduceMul, Nat.reduceGT, Nat.reduceLeDiff, decide_true, decide_false, Bool.false_eq_true, Int.reduceBEq, Int.reduceGT, Int.reduceLE, Int.reduceGE, beq_self_eq_true, ao, ao.2, qL aS]
       revert h
       exact Bn <|Jm (ws [0, 1])
      ·exact Sk <|Bn <|Jm (ws [0, 1])
     ·skip
      refine Sp (fun ap => ?_) fun ap => ?_
      ·obtain rfl : b = 3 := eq_of_beq ap
       refine Sb <|Te [0, 1, 4, 6, 12] Aa (Ev (by simp only [go_sem, Ae, Int.reduceLT, Int.reduceAdd, Int.reduceSub, Nat.reduceMul, Nat.reduceGT, Nat.reduceLeDiff, decide_true, decide_false, Bool.false_eq_true, Int.reduceBEq, Int.reduceGT, Int.reduceLE, Int.reduceGE, beq_self_eq_true]; exact Ad)) ?_
       refine Ct <|Ck fun aT =>Bd fun g aU =>Te [0, 4, 5, 6] (o1 18 (A9 aU)) (Ev (by simp only [go_sem, Ae, Int.reduceLT, Int.reduceAdd, Int.reduceSub, Nat.reduceMul, Nat.reduceGT, Nat.reduceLeDiff, decide_true, decide_false, Bool.false_eq_true, Int.reduceBEq, Int.reduceGT, Int.reduceLE, Int.reduceGE, beq_self_eq_true, aT]; exact Ad)) ?_
       refine Te [0, 4, 5, 6, 21] Aa (Ev (by simp only [go_sem, Ae, Int.reduceLT, Int.reduceAdd, Int.reduceSub, Nat.reduceMul, Nat.reduceGT, Nat.reduceLeDiff, decide_true, decide_false, Bool.false_eq_true, Int.reduceBEq, Int.reduceGT, Int.reduceLE, Int.reduceGE, beq_self_eq_true]; exact Ad)) ?_
       refine Cd ?_ ?_
       ·have aq : InR 3 11 := by decide
        refine Ck fun aV => ?_
        intro h
        refine Dj hE mixed [[], [0], [], [0, 1, 2], [], [4], [4, 5], [0, 1, 2, 3, 4, 5, 6], [0, 1, 2, 3, 4, 5, 6, 7]] (by kernel_rfl) [26, 27] [4, 26, 27] (by kernel_rfl) (Da Ew) (fr' := [(4, .bool g.2), (26, .sl false (L Nc g.1)), (27, .rp [i64 (nth g.1 0)])]) (σ' := [.box [i64 a.Kind, i64 a.Ref.Railway, i64 a.Ref.No, i64 a.Wagon, i64 a.Place, i64 a.Other, i64 (nth g.1 0), i64 a.From, i64 a.To, i64 a.Code, i64 a.Dest, i64 a.Class, i64 a.Weight, i64 a.Amount, .str a.Text, .bs false 1 (a.Parts.length) 0 (a.Parts.length)] false, .buf 3 (L Ac a.Parts) false]) ⟨rfl, rfl, trivial⟩ ⟨_, (Ag (l := []) (m := [(23, 51, [.ref 0 0], [.box [i64 a.Kind, i64 a.Ref.Railway, i64 a.Ref.No, i64 a.Wagon, i64 a.Place, i64 a.Other, i64 a.Number, i64 a.From, i64 a.To, i64 a.Code, i64 a.Dest, i64 a.Class, i64 a.Weight, i64 a.Amount, .str a.Text, .bs false 1 (a.Parts.length) 0 (a.Parts.length)] false, .buf 3 (L Ac a.Parts) false], .agg [.ref 0 3, .ref 0 4, .ref 0 5, .ref 0 6, .ref 0 7, .ref 0 8, .ref 0 9, .ref 0 10, .ref 0 11, .ref 0 12, .ref 0 13], [.box [i64 a.Kind, i64 a.Ref.Railway, i64 a.Ref.No, i64 a.Wagon, i64 a.Place, i64 a.Other, i64 a.Number, i64 a.From, i64 a.To, i64 a.Code, i64 a.Dest, i64 a.Class, i64 a.Weight, i64 a.Amount, .str a.Text, .bs false 1 (a.Parts.length) 0 (a.Parts.length)] false, .buf 3 (L Ac a.Parts) false])]) trivial ⟨A8, trivial⟩), ?_⟩ ?_
        ·simp only [go_sem, Ae, Int.reduceLT, Int.reduceAdd, Int.reduceSub, Nat.reduceMul, Nat.reduceGT, Nat.reduceLeDiff, decide_true, decide_false, Bool.false_eq_true, Int.reduceBEq, Int.reduceGT, Int.reduceLE, Int.reduceGE, beq_self_eq_true, aq, aq.2, qL aV]
        revert h
        exact Bn <|Jm (ws [0, 1])
       ·exact Sk <|Bn <|Jm (ws [0, 1])
      ·skip
       refine Sp (fun ar => ?_) fun ar => ?_
       ·obtain rfl : b = 4 := eq_of_beq ar
        refine Sb <|Te [0, 1, 4, 6, 12] Aa (Ev (by simp only [go_sem, Ae, Int.reduceLT, Int.reduceAdd, Int.reduceSub, Nat.reduceMul, Nat.reduceGT, Nat.reduceLeDiff, decide_true, decide_false, Bool.false_eq_true, Int.reduceBEq, Int.reduceGT, Int.reduceLE, Int.reduceGE, beq_self_eq_true]; exact Ad)) ?_
        refine Ct <|Ck fun aW =>Bd fun i aX =>Te [0, 4, 5, 6] (o1 18 (A9 aX)) (Ev (by simp only [go_sem, Ae, Int.reduceLT, Int.reduceAdd, Int.reduceSub, Nat.reduceMul, Nat.reduceGT, Nat.reduceLeDiff, decide_true, decide_false, Bool.false_eq_true, Int.reduceBEq, Int.reduceGT, Int.reduceLE, Int.reduceGE, beq_self_eq_true, aW]; exact Ad)) ?_
        refine Te [0, 4, 5, 6, 21] Aa (Ev (by simp only [go_sem, Ae, Int.reduceLT, Int.reduceAdd, Int.reduceSub, Nat.reduceMul, Nat.reduceGT, Nat.reduceLeDiff, decide_true, decide_false, Bool.false_eq_true, Int.reduceBEq, Int.reduceGT, Int.reduceLE, Int.reduceGE, beq_self_eq_true]; exact Ad)) ?_
        refine Cd ?_ ?_
        ·have au : InR 4 11 := by decide
         refine Ck fun aY => ?_
         intro h
         refine Dj hE mixed [[], [0], [], [0, 1, 2], [], [4], [4, 5], [0, 1, 2, 3, 4, 5, 6], [0, 1, 2, 3, 4, 5, 6, 7]] (by kernel_rfl) [26, 27] [4, 26, 27] (by kernel_rfl) (Da Ew) (fr' := [(4, .bool i.2), (26, .sl false (L Nc i.1)), (27, .rp [i64 (nth i.1 0)])]) (σ' := [.box [i64 a.Kind, i64 a.Ref.Railway, i64 a.Ref.No, i64 a.Wagon, i64 a.Place, i64 a.Other, i64 a.Number, i64 (nth i.1 0), i64 a.To, i64 a.Code, i64 a.Dest, i64 a.Class, i64 a.Weight, i64 a.Amount, .str a.Text, .bs false 1 (a.Parts.length) 0 (a.Parts.length)] false, .buf 3 (L Ac a.Parts) false]) ⟨rfl, rfl, trivial⟩ ⟨_, (Ag (l := []) (m := [(23, 51, [.ref 0 0], [.box [i64 a.Kind, i64 a.Ref.Railway, i64 a.Ref.No, i64 a.Wagon, i64 a.Place, i64 a.Other, i64 a.Number, i64 a.From, i64 a.To, i64 a.Code, i64 a.Dest, i64 a.Class, i64 a.Weight, i64 a.Amount, .str a.Text, .bs false 1 (a.Parts.length) 0 (a.Parts.length)] false, .buf 3 (L Ac a.Parts) false], .agg [.ref 0 3, .ref 0 4, .ref 0 5, .ref 0 6, .ref 0 7, .ref 0 8, .ref 0 9, .ref 0 10, .ref 0 11, .ref 0 12, .ref 0 13], [.box [i64 a.Kind, i64 a.Ref.Railway, i64 a.Ref.No, i64 a.Wagon, i64 a.Place, i64 a.Other, i64 a.Number, i64 a.From, i64 a.To, i64 a.Code, i64 a.Dest, i64 a.Class, i64 a.Weight, i64 a.Amount, .str a.Text, .bs false 1 (a.Parts.length) 0 (a.Parts.length)] false, .buf 3 (L Ac a.Parts) false])]) trivial ⟨A8, trivial⟩), ?_⟩ ?_
         ·simp only [go_sem, Ae, Int.reduceLT, Int.reduceAdd, Int.reduceSub, Nat.reduceMul, Nat.reduceGT, Nat.reduceLeDiff, decide_true, decide_false, Bool.false_eq_true, Int.reduceBEq, Int.reduceGT, Int.reduceLE, Int.reduceGE, beq_self_eq_true, au, au.2, qL aY]
         revert h
         exact Bn <|Jm (ws [0, 1])
        ·exact Sk <|Bn <|Jm (ws [0, 1])
       ·skip
        refine Sp (fun av => ?_) fun av => ?_
        ·obtain rfl : b = 5 := eq_of_beq av
         refine Sb <|Te [0, 1, 4, 6, 12] Aa (Ev (by simp only [go_sem, Ae, Int.reduceLT, Int.reduceAdd, Int.reduceSub, Nat.reduceMul, Nat.reduceGT, Nat.reduceLeDiff, decide_true, decide_false, Bool.false_eq_true, Int.reduceBEq, Int.reduceGT, Int.reduceLE, Int.reduceGE, beq_self_eq_true]; exact Ad)) ?_
         refine Ct <|Ck fun aZ =>Bd fun j a0 =>Te [0, 4, 5, 6] (o1 18 (A9 a0)) (Ev (by simp only [go_sem, Ae, Int.reduceLT, Int.reduceAdd, Int.reduceSub, Nat.reduceMul, Nat.reduceGT, Nat.reduceLeDiff, decide_true, decide_false, Bool.false_eq_true, Int.reduceBEq, Int.reduceGT, Int.reduceLE, Int.reduceGE, beq_self_eq_true, aZ]; exact Ad)) ?_
         refine Te [0, 4, 5, 6, 21] Aa (Ev (by simp only [go_sem, Ae, Int.reduceLT, Int.reduceAdd, Int.reduceSub, Nat.reduceMul, Nat.reduceGT, Nat.reduceLeDiff, decide_true, decide_false, Bool.false_eq_true, Int.reduceBEq, Int.reduceGT, Int.reduceLE, Int.reduceGE, beq_self_eq_true]; exact Ad)) ?_
         refine Cd ?_ ?_
         ·have aw : InR 5 11 := by decide
          refine Ck fun a1 => ?_
          intro h
          refine Dj hE mixed [[], [0], [], [0, 1, 2], [], [4], [4, 5], [0, 1, 2, 3, 4, 5, 6], [0, 1, 2, 3, 4, 5, 6, 7]] (by kernel_rfl) [26, 27] [4, 26, 27] (by kernel_rfl) (Da Ew) (fr' := [(4, .bool j.2), (26, .sl false (L Nc j.1)), (27, .rp [i64 (nth j.1 0)])]) (σ' := [.box [i64 a.Kind, i64 a.Ref.Railway, i64 a.Ref.No, i64 a.Wagon, i64 a.Place, i64 a.Other, i64 a.Number, i64 a.From, i64 (nth j.1 0), i64 a.Code, i64 a.Dest, i64 a.Class, i64 a.Weight, i64 a.Amount, .str a.Text, .bs false 1 (a.Parts.length) 0 (a.Parts.length)] false, .buf 3 (L Ac a.Parts) false]) ⟨rfl, rfl, trivial⟩ ⟨_, (Ag (l := []) (m := [(23, 51, [.ref 0 0], [.box [i64 a.Kind, i64 a.Ref.Railway, i64 a.Ref.No, i64 a.Wagon, i64 a.Place, i64 a.Other, i64 a.Number, i64 a.From, i64 a.To, i64 a.Code, i64 a.Dest, i64 a.Class, i64 a.Weight, i64 a.Amount, .str a.Text, .bs false 1 (a.Parts.length) 0 (a.Parts.length)] false, .buf 3 (L Ac a.Parts) false], .agg [.ref 0 3, .ref 0 4, .ref 0 5, .ref 0 6, .ref 0 7, .ref 0 8, .ref 0 9, .ref 0 10, .ref 0 11, .ref 0 12, .ref 0 13], [.box [i64 a.Kind, i64 a.Ref.Railway, i64 a.Ref.No, i64 a.Wagon, i64 a.Place, i64 a.Other, i64 a.Number, i64 a.From, i64 a.To, i64 a.Code, i64 a.Dest, i64 a.Class, i64 a.Weight, i64 a.Amount, .str a.Text, .bs false 1 (a.Parts.length) 0 (a.Parts.length)] false, .buf 3 (L Ac a.Parts) false])]) trivial ⟨A8, trivial⟩), ?_⟩ ?_
          ·simp only [go_sem, Ae, Int.reduceLT, Int.reduceAdd, Int.reduceSub, Nat.reduceMul, Nat.reduceGT, Nat.reduceLeDiff, decide_true, decide_false, Bool.false_eq_true, Int.reduceBEq, Int.reduceGT, Int.reduceLE, Int.reduceGE, beq_self_eq_true, aw, aw.2, qL a1]
          revert h
          exact Bn <|Jm (ws [0, 1])
         ·exact Sk <|Bn <|Jm (ws [0, 1])
        ·skip
         refine Sp (fun ax => ?_) fun ax => ?_
         ·obtain rfl : b = 6 := eq_of_beq ax
          refine Sb <|Te [0, 1, 4, 6, 12] Aa (Ev (by simp only [go_sem, Ae, Int.reduceLT, Int.reduceAdd, Int.reduceSub, Nat.reduceMul, Nat.reduceGT, Nat.reduceLeDiff, decide_true, decide_false, Bool.false_eq_true, Int.reduceBEq, Int.reduceGT, Int.reduceLE, Int.reduceGE, beq_self_eq_true]; exact Ad)) ?_
          refine Ct <|Ck fun a2 =>Bd fun k a3 =>Te [0, 4, 5, 6] (o1 18 (A9 a3)) (Ev (by simp only [go_sem, Ae, Int.reduceLT, Int.reduceAdd, Int.reduceSub, Nat.reduceMul, Nat.reduceGT, Nat.reduceLeDiff, decide_true, decide_false, Bool.false_eq_true, Int.reduceBEq, Int.reduceGT, Int.reduceLE, Int.reduceGE, beq_self_eq_true, a2]; exact Ad)) ?_
          refine Te [0, 4, 5, 6, 21] Aa (Ev (by simp only [go_sem, Ae, Int.reduceLT, Int.reduceAdd, Int.reduceSub, Nat.reduceMul, Nat.reduceGT, Nat.reduceLeDiff, decide_true, decide_false, Bool.false_eq_true, Int.reduceBEq, Int.reduceGT, Int.reduceLE, Int.reduceGE, beq_self_eq_true]; exact Ad)) ?_
          refine Cd ?_ ?_
          ·have ay : InR 6 11 := by decide
           refine Ck fun a4 => ?_
           intro h
           refine Dj hE mixed [[], [0], [], [0, 1, 2], [], [4], [4, 5], [0, 1, 2, 3, 4, 5, 6], [0, 1, 2, 3, 4, 5, 6, 7]] (by kernel_rfl) [26, 27] [4, 26, 27] (by kernel_rfl) (Da Ew) (fr' := [(4, .bool k.2), (26, .sl false (L Nc k.1)), (27, .rp [i64 (nth k.1 0)])]) (σ' := [.box [i64 a.Kind, i64 a.Ref.Railway, i64 a.Ref.No, i64 a.Wagon, i64 a.Place, i64 a.Other, i64 a.Number, i64 a.From, i64 a.To, i64 (nth k.1 0), i64 a.Dest, i64 a.Class, i64 a.Weight, i64 a.Amount, .str a.Text, .bs false 1 (a.Parts.length) 0 (a.Parts.length)] false, .buf 3 (L Ac a.Parts) false]) ⟨rfl, rfl, trivial⟩ ⟨_, (Ag (l := []) (m := [(23, 51, [.ref 0 0], [.box [i64 a.Kind, i64 a.Ref.Railway, i64 a.Ref.No, i64 a.Wagon, i64 a.Place, i64 a.Other, i64 a.Number, i64 a.From, i64 a.To, i64 a.Code, i64 a.Dest, i64 a.Class, i64 a.Weight, i64 a.Amount, .str a.Text, .bs false 1 (a.Parts.length) 0 (a.Parts.length)] false, .buf 3 (L Ac a.Parts) false], .agg [.ref 0 3, .ref 0 4, .ref 0 5, .ref 0 6, .ref 0 7, .ref 0 8, .ref 0 9, .ref 0 10, .ref 0 11, .ref 0 12, .ref 0 13], [.box [i64 a.Kind, i64 a.Ref.Railway, i64 a.Ref.No, i64 a.Wagon, i64 a.Place, i64 a.Other, i64 a.Number, i64 a.From, i64 a.To, i64 a.Code, i64 a.Dest, i64 a.Class, i64 a.Weight, i64 a.Amount, .str a.Text, .bs false 1 (a.Parts.length) 0 (a.Parts.length)] false, .buf 3 (L Ac a.Parts) false])]) trivial ⟨A8, trivial⟩), ?_⟩ ?_
           ·simp only [go_sem, Ae, Int.reduceLT, Int.reduceAdd, Int.reduceSub, Nat.reduceMul, Nat.reduceGT, Nat.reduceLeDiff, decide_true, decide_false, Bool.false_eq_true, Int.reduceBEq, Int.reduceGT, Int.reduceLE, Int.reduceGE, beq_self_eq_true, ay, ay.2, qL a4]
           revert h
           exact Bn <|Jm (ws [0, 1])
          ·exact Sk <|Bn <|Jm (ws [0, 1])
         ·skip
          refine Sp (fun az => ?_) fun az => ?_
          ·obtain rfl : b = 7 := eq_of_beq az
           refine Sb <|Te [0, 1, 4, 6, 12] Aa (Ev (by simp only [go_sem, Ae, Int.reduceLT, Int.reduceAdd, Int.reduceSub, Nat.reduceMul, Nat.reduceGT, Nat.reduceLeDiff, decide_true, decide_false, Bool.false_eq_true, Int.reduceBEq, Int.reduceGT, Int.reduceLE, Int.reduceGE, beq_self_eq_true]; exact Ad)) ?_
           refine Ct <|Ck fun a5 =>Bd fun n a6 =>Te [0, 4, 5, 6] (o1 18 (A9 a6)) (Ev (by simp only [go_sem, Ae, Int.reduceLT, Int.reduceAdd, Int.reduceSub, Nat.reduceMul, Nat.reduceGT, Nat.reduceLeDiff, decide_true, decide_false, Bool.false_eq_true, Int.reduceBEq, Int.reduceGT, Int.reduceLE, Int.reduceGE, beq_self_eq_true, a5]; exact Ad)) ?_
           refine Te [0, 4, 5, 6, 21] Aa (Ev (by simp only [go_sem, Ae, Int.reduceLT, Int.reduceAdd, Int.reduceSub, Nat.reduceMul, Nat.reduceGT, Nat.reduceLeDiff, decide_true, decide_false, Bool.false_eq_true, Int.reduceBEq, Int.reduceGT, Int.reduceLE, Int.reduceGE, beq_self_eq_true]; exact Ad)) ?_
           refine Cd ?_ ?_
           ·have aA : InR 7 11 := by decide
            refine Ck fun a7 => ?_
            intro h
            refine Dj hE mixed [[], [0], [], [0, 1, 2], [], [4], [4, 5], [0, 1, 2, 3, 4, 5, 6], [0, 1, 2, 3, 4, 5, 6, 7]] (by kernel_rfl) [26, 27] [4, 26, 27] (by kernel_rfl) (Da Ew) (fr' := [(4, .bool n.2), (26, .sl false (L Nc n.1)), (27, .rp [i64 (nth n.1 0)])]) (σ' := [.box [i64 a.Kind, i64 a.Ref.Railway, i64 a.Ref.No, i64 a.Wagon, i64 a.Place, i64 a.Other, i64 a.Number, i64 a.From, i64 a.To, i64 a.Code, i64 (nth n.1 0), i64 a.Class, i64 a.Weight, i64 a.Amount, .str a.Text, .bs false 1 (a.Parts.length) 0 (a.Parts.length)] false, .buf 3 (L Ac a.Parts) false]) ⟨rfl, rfl, trivial⟩ ⟨_, (Ag (l := []) (m := [(23, 51, [.ref 0 0], [.box [i64 a.Kind, i64 a.Ref.Railway, i64 a.Ref.No, i64 a.Wagon, i64 a.Place, i64 a.Other, i64 a.Number, i64 a.From, i64 a.To, i64 a.Code, i64 a.Dest, i64 a.Class, i64 a.Weight, i64 a.Amount, .str a.Text, .bs false 1 (a.Parts.length) 0 (a.Parts.length)] false, .buf 3 (L Ac a.Parts) false], .agg [.ref 0 3, .ref 0 4, .ref 0 5, .ref 0 6, .ref 0 7, .ref 0 8, .ref 0 9, .ref 0 10, .ref 0 11, .ref 0 12, .ref 0 13], [.box [i64 a.Kind, i64 a.Ref.Railway, i64 a.Ref.No, i64 a.Wagon, i64 a.Place, i64 a.Other, i64 a.Number, i64 a.From, i64 a.To, i64 a.Code, i64 a.Dest, i64 a.Class, i64 a.Weight, i64 a.Amount, .str a.Text, .bs false 1 (a.Parts.length) 0 (a.Parts.length)] false, .buf 3 (L Ac a.Parts) false])]) trivial ⟨A8, trivial⟩), ?_⟩ ?_
            ·simp only [go_sem, Ae, Int.reduceLT, Int.reduceAdd, Int.reduceSub, Nat.reduceMul, Nat.reduceGT, Nat.reduceLeDiff, decide_true, decide_false, Bool.false_eq_true, Int.reduceBEq, Int.reduceGT, Int.reduceLE, Int.reduceGE, beq_self_eq_true, aA, aA.2, qL a7]
            revert h
            exact Bn <|Jm (ws [0, 1])
           ·exact Sk <|Bn <|Jm (ws [0, 1])
          ·skip
           refine Sp (fun aB => ?_) fun aB => ?_
           ·obtain rfl : b = 8 := eq_of_beq aB
            refine Sb <|Te [0, 1, 4, 6, 12] Aa (Ev (by simp only [go_sem, Ae, Int.reduceLT, Int.reduceAdd, Int.reduceSub, Nat.reduceMul, Nat.reduceGT, Nat.reduceLeDiff, decide_true, decide_false, Bool.false_eq_true, Int.reduceBEq, Int.reduceGT, Int.reduceLE, Int.reduceGE, beq_self_eq_true]; exact Ad)) ?_
            refine Ct <|Ck fun a8 =>Bd fun o a9 =>Te [0, 4, 5, 6] (o1 18 (A9 a9)) (Ev (by simp only [go_sem, Ae, Int.reduceLT, Int.reduceAdd, Int.reduceSub, Nat.reduceMul, Nat.reduceGT, Nat.reduceLeDiff, decide_true, decide_false, Bool.false_eq_true, Int.reduceBEq, Int.reduceGT, Int.reduceLE, Int.reduceGE, beq_self_eq_true, a8]; exact Ad)) ?_
            refine Te [0, 4, 5, 6, 21] Aa (Ev (by simp only [go_sem, Ae, Int.reduceLT, Int.reduceAdd, Int.reduceSub, Nat.reduceMul, Nat.reduceGT, Nat.reduceLeDiff, decide_true, decide_false, Bool.false_eq_true, Int.reduceBEq, Int.reduceGT, Int.reduceLE, Int.reduceGE, beq_self_eq_true]; exact Ad)) ?_
            refine Cd ?_ ?_
            ·have aC : InR 8 11 := by decide
             refine Ck fun ba => ?_
             intro h
             refine Dj hE mixed [[], [0], [], [0, 1, 2], [], [4], [4, 5], [0, 1, 2, 3, 4, 5, 6], [0, 1, 2, 3, 4, 5, 6, 7]] (by kernel_rfl) [26, 27] [4, 26, 27] (by kernel_rfl) (Da Ew) (fr' := [(4, .bool o.2), (26, .sl false (L Nc o.1)), (27, .rp [i64 (nth o.1 0)])]) (σ' := [.box [i64 a.Kind, i64 a.Ref.Railway, i64 a.Ref.No, i64 a.Wagon, i64 a.Place, i64 a.Other, i64 a.Number, i64 a.From, i64 a.To, i64 a.Code, i64 a.Dest, i64 (nth o.1 0), i64 a.Weight, i64 a.Amount, .str a.Text, .bs false 1 (a.Parts.length) 0 (a.Parts.length)] false, .buf 3 (L Ac a.Parts) false]) ⟨rfl, rfl, trivial⟩ ⟨_, (Ag (l := []) (m := [(23, 51, [.ref 0 0], [.box [i64 a.Kind, i64 a.Ref.Railway, i64 a.Ref.No, i64 a.Wagon, i64 a.Place, i64 a.Other, i64 a.Number, i64 a.From, i64 a.To, i64 a.Code, i64 a.Dest, i64 a.Class, i64 a.Weight, i64 a.Amount, .str a.Text, .bs false 1 (a.Parts.length) 0 (a.Parts.length)] false, .buf 3 (L Ac a.Parts) false], .agg [.ref 0 3, .ref 0 4, .ref 0 5, .ref 0 6, .ref 0 7, .ref 0 8, .ref 0 9, .ref 0 10, .ref 0 11, .ref 0 12, .ref 0 13], [.box [i64 a.Kind, i64 a.Ref.Railway, i64 a.Ref.No, i64 a.Wagon, i64 a.Place, i64 a.Other, i64 a.Number, i64 a.From, i64 a.To, i64 a.Code, i64 a.Dest, i64 a.Class, i64 a.Weight, i64 a.Amount, .str a.Text, .bs false 1 (a.Parts.length) 0 (a.Parts.length)] false, .buf 3 (L Ac a.Parts) false])]) trivial ⟨A8, trivial⟩), ?_⟩ ?_
             ·simp only [go_sem, Ae, Int.reduceLT, Int.reduceAdd, Int.reduceSub, Nat.reduceMul, Nat.reduceGT, Nat.reduceLeDiff, decide_true, decide_false, Bool.false_eq_true, Int.reduceBEq, Int.reduceGT, Int.reduceLE, Int.reduceGE, beq_self_eq_true, aC, aC.2, qL ba]
             revert h
             exact Bn <|Jm (ws [0, 1])
            ·exact Sk <|Bn <|Jm (ws [0, 1])
           ·skip
            refine Sp (fun aD => ?_) fun aD => ?_
            ·obtain rfl : b = 9 := eq_of_beq aD
             refine Sb <|Te [0, 1, 4, 6, 12] Aa (Ev (by simp only [go_sem, Ae, Int.reduceLT, Int.reduceAdd, Int.reduceSub, Nat.reduceMul, Nat.reduceGT, Nat.reduceLeDiff, decide_true, decide_false, Bool.false_eq_true, Int.reduceBEq, Int.reduceGT, Int.reduceLE, Int.reduceGE, beq_self_eq_true]; exact Ad)) ?_
             refine Ct <|Ck fun bb =>Bd fun p bc =>Te [0, 4, 5, 6] (o1 18 (A9 bc)) (Ev (by simp only [go_sem, Ae, Int.reduceLT, Int.reduceAdd, Int.reduceSub, Nat.reduceMul, Nat.reduceGT, Nat.reduceLeDiff, decide_true, decide_false, Bool.false_eq_true, Int.reduceBEq, Int.reduceGT, Int.reduceLE, Int.reduceGE, beq_self_eq_true, bb]; exact Ad)) ?_
             refine Te [0, 4, 5, 6, 21] Aa (Ev (by simp only [go_sem, Ae, Int.reduceLT, Int.reduceAdd, Int.reduceSub, Nat.reduceMul, Nat.reduceGT, Nat.reduceLeDiff, decide_true, decide_false, Bool.false_eq_true, Int.reduceBEq, Int.reduceGT, Int.reduceLE, Int.reduceGE, beq_self_eq_true]; exact Ad)) ?_
             refine Cd ?_ ?_
             ·have aE : InR 9 11 := by decide
              refine Ck fun bd => ?_
              intro h
              refine Dj hE mixed [[], [0], [], [0, 1, 2], [], [4], [4, 5], [0, 1, 2, 3, 4, 5, 6], [0, 1, 2, 3, 4, 5, 6, 7]] (by kernel_rfl) [26, 27] [4, 26, 27] (by kernel_rfl) (Da Ew) (fr' := [(4, .bool p.2), (26, .sl false (L Nc p.1)), (27, .rp [i64 (nth p.1 0)])]) (σ' := [.box [i64 a.Kind, i64 a.Ref.Railway, i64 a.Ref.No, i64 a.Wagon, i64 a.Place, i64 a.Other, i64 a.Number, i64 a.From, i64 a.To, i64 a.Code, i64 a.Dest, i64 a.Class, i64 (nth p.1 0), i64 a.Amount, .str a.Text, .bs false 1 (a.Parts.length) 0 (a.Parts.length)] false, .buf 3 (L Ac a.Parts) false]) ⟨rfl, rfl, trivial⟩ ⟨_, (Ag (l := []) (m := [(23, 51, [.ref 0 0], [.box [i64 a.Kind, i64 a.Ref.Railway, i64 a.Ref.No, i64 a.Wagon, i64 a.Place, i64 a.Other, i64 a.Number, i64 a.From, i64 a.To, i64 a.Code, i64 a.Dest, i64 a.Class, i64 a.Weight, i64 a.Amount, .str a.Text, .bs false 1 (a.Parts.length) 0 (a.Parts.length)] false, .buf 3 (L Ac a.Parts) false], .agg [.ref 0 3, .ref 0 4, .ref 0 5, .ref 0 6, .ref 0 7, .ref 0 8, .ref 0 9, .ref 0 10, .ref 0 11, .ref 0 12, .ref 0 13], [.box [i64 a.Kind, i64 a.Ref.Railway, i64 a.Ref.No, i64 a.Wagon, i64 a.Place, i64 a.Other, i64 a.Number, i64 a.From, i64 a.To, i64 a.Code, i64 a.Dest, i64 a.Class, i64 a.Weight, i64 a.Amount, .str a.Text, .bs false 1 (a.Parts.length) 0 (a.Parts.length)] false, .buf 3 (L Ac a.Parts) false])]) trivial ⟨A8, trivial⟩), ?_⟩ ?_
              ·simp only [go_sem, Ae, Int.reduceLT, Int.reduceAdd, Int.reduceSub, Nat.reduceMul, Nat.reduceGT, Nat.reduceLeDiff, decide_true, decide_false, Bool.false_eq_true, Int.reduceBEq, Int.reduceGT, Int.reduceLE, Int.reduceGE, beq_self_eq_true, aE, aE.2, qL bd]
              revert h
              exact Bn <|Jm (ws [0, 1])
             ·exact Sk <|Bn <|Jm (ws [0, 1])
            ·skip
             refine Sp (fun aF => ?_) fun aF => ?_
             ·obtain rfl : b = 10 := eq_of_beq aF
              refine Sb <|Te [0, 1, 4, 6, 12] Aa (Ev (by simp only [go_sem, Ae, Int.reduceLT, Int.reduceAdd, Int.reduceSub, Nat.reduceMul, Nat.reduceGT, Nat.reduceLeDiff, decide_true, decide_false, Bool.false_eq_true, Int.reduceBEq, Int.reduceGT, Int.reduceLE, Int.reduceGE, beq_self_eq_true]; exact Ad)) ?_
              refine Ct <|Ck fun be =>Bd fun q bf =>Te [0, 4, 5, 6] (o1 18 (A9 bf)) (Ev (by simp only [go_sem, Ae, Int.reduceLT, Int.reduceAdd, Int.reduceSub, Nat.reduceMul, Nat.reduceGT, Nat.reduceLeDiff, decide_true, decide_false, Bool.false_eq_true, Int.reduceBEq, Int.reduceGT, Int.reduceLE, Int.reduceGE, beq_self_eq_true, be]; exact Ad)) ?_
              refine Te [0, 4, 5, 6, 21] Aa (Ev (by simp only [go_sem, Ae, Int.reduceLT, Int.reduceAdd, Int.reduceSub, Nat.reduceMul, Nat.reduceGT, Nat.reduceLeDiff, decide_true, decide_false, Bool.false_eq_true, Int.reduceBEq, Int.reduceGT, Int.reduceLE, Int.reduceGE, beq_self_eq_true]; exact Ad)) ?_
              refine Cd ?_ ?_
              ·have aG : InR 10 11 := by decide
               refine Ck fun bg => ?_
               intro h
               refine Dj hE mixed [[], [0], [], [0, 1, 2], [], [4], [4, 5], [0, 1, 2, 3, 4, 5, 6], [0, 1, 2, 3, 4, 5, 6, 7]] (by kernel_rfl) [26, 27] [4, 26, 27] (by kernel_rfl) (Da Ew) (fr' := [(4, .bool q.2), (26, .sl false (L Nc q.1)), (27, .rp [i64 (nth q.1 0)])]) (σ' := [.box [i64 a.Kind, i64 a.Ref.Railway, i64 a.Ref.No, i64 a.Wagon, i64 a.Place, i64 a.Other, i64 a.Number, i64 a.From, i64 a.To, i64 a.Code, i64 a.Dest, i64 a.Class, i64 a.Weight, i64 (nth q.1 0), .str a.Text, .bs false 1 (a.Parts.length) 0 (a.Parts.length)] false, .buf 3 (L Ac a.Parts) false]) ⟨rfl, rfl, trivial⟩ ⟨_, (Ag (l := []) (m := [(23, 51, [.ref 0 0], [.box [i64 a.Kind, i64 a.Ref.Railway, i64 a.Ref.No, i64 a.Wagon, i64 a.Place, i64 a.Other, i64 a.Number, i64 a.From, i64 a.To, i64 a.Code, i64 a.Dest, i64 a.Class, i64 a.Weight, i64 a.Amount, .str a.Text, .bs false 1 (a.Parts.length) 0 (a.Parts.length)] false, .buf 3 (L Ac a.Parts) false], .agg [.ref 0 3, .ref 0 4, .ref 0 5, .ref 0 6, .ref 0 7, .ref 0 8, .ref 0 9, .ref 0 10, .ref 0 11, .ref 0 12, .ref 0 13], [.box [i64 a.Kind, i64 a.Ref.Railway, i64 a.Ref.No, i64 a.Wagon, i64 a.Place, i64 a.Other, i64 a.Number, i64 a.From, i64 a.To, i64 a.Code, i64 a.Dest, i64 a.Class, i64 a.Weight, i64 a.Amount, .str a.Text, .bs false 1 (a.Parts.length) 0 (a.Parts.length)] false, .buf 3 (L Ac a.Parts) false])]) trivial ⟨A8, trivial⟩), ?_⟩ ?_
               ·simp only [go_sem, Ae, Int.reduceLT, Int.reduceAdd, Int.reduceSub, Nat.reduceMul, Nat.reduceGT, Nat.reduceLeDiff, decide_true, decide_false, Bool.false_eq_true, Int.reduceBEq, Int.reduceGT, Int.reduceLE, Int.reduceGE, beq_self_eq_true, aG, aG.2, qL bg]
               revert h
               exact Bn <|Jm (ws [0, 1])
              ·exact Sk <|Bn <|Jm (ws [0, 1])
             ·refine Sb <|Te [0, 1, 4, 6, 12] Aa (Ev (by simp only [go_sem, Ae, Int.reduceLT, Int.reduceAdd, Int.reduceSub, Nat.reduceMul, Nat.reduceGT, Nat.reduceLeDiff, decide_true, decide_false, Bool.false_eq_true, Int.reduceBEq, Int.reduceGT, Int.reduceLE, Int.reduceGE, beq_self_eq_true]; exact Ad)) ?_
              refine Cd ?_ ?_
              ·refine Ck fun bh =>Bd fun bD bi =>Te [0, 4, 5, 6] (o1 18 (A9 bi)) (Ev (by simp only [go_sem, Ae, Int.reduceLT, Int.reduceAdd, Int.reduceSub, Nat.reduceMul, Nat.reduceGT, Nat.reduceLeDiff, decide_true, decide_false, Bool.false_eq_true, Int.reduceBEq, Int.reduceGT, Int.reduceLE, Int.reduceGE, beq_self_eq_true, bh]; exact Ad)) ?_
               refine Te [0, 4, 5, 6, 21] Aa (Ev (by simp only [go_sem, Ae, Int.reduceLT, Int.reduceAdd, Int.reduceSub, Nat.reduceMul, Nat.reduceGT, Nat.reduceLeDiff, decide_true, decide_false, Bool.false_eq_true, Int.reduceBEq, Int.reduceGT, Int.reduceLE, Int.reduceGE, beq_self_eq_true]; exact Ad)) ?_
               refine Cd ?_ ?_
               ·exact Rn
               ·exact Sk <|Bn <|Jm (ws [0, 1])
              ·refine Ck fun bj =>Te [0, 1, 4, 30] Aa (Ev (by simp only [go_sem, Ae, Int.reduceLT, Int.reduceAdd, Int.reduceSub, Nat.reduceMul, Nat.reduceGT, Nat.reduceLeDiff, decide_true, decide_false, Bool.false_eq_true, Int.reduceBEq, Int.reduceGT, Int.reduceLE, Int.reduceGE, beq_self_eq_true, qL bj]; exact Ad)) ?_
               refine Cd ?_ ?_
               ·refine Ck fun bk =>Bd fun bE bl =>Te [0, 4, 5] (o1 37 (A9 bl)) (Ev (by simp only [go_sem, Ae, Int.reduceLT, Int.reduceAdd, Int.reduceSub, Nat.reduceMul, Nat.reduceGT, Nat.reduceLeDiff, decide_true, decide_false, Bool.false_eq_true, Int.reduceBEq, Int.reduceGT, Int.reduceLE, Int.reduceGE, beq_self_eq_true, bk]; exact Ad)) ?_
                refine Te [0, 4, 5, 40] Aa (Ev (by simp only [go_sem, Ae, Int.reduceLT, Int.reduceAdd, Int.reduceSub, Nat.reduceMul, Nat.reduceGT, Nat.reduceLeDiff, decide_true, decide_false, Bool.false_eq_true, Int.reduceBEq, Int.reduceGT, Int.reduceLE, Int.reduceGE, beq_self_eq_true]; exact Ad)) ?_
                refine Cd ?_ ?_
                ·refine Ck fun bm =>Ck fun bn =>Ge [[], [], [1], [1, 2], [], [4], [4, 5], [1, 2, 3, 4, 5, 6], [0, 1, 2, 3, 4, 5, 6, 7], [0, 1, 2, 3, 4, 5, 6, 7, 8], [0, 1, 2, 3, 4, 5, 6, 7, 8, 9]] [4] Aa (Ev (by simp only [go_sem, Ae, Int.reduceLT, Int.reduceAdd, Int.reduceSub, Nat.reduceMul, Nat.reduceGT, Nat.reduceLeDiff, decide_true, decide_false, Bool.false_eq_true, Int.reduceBEq, Int.reduceGT, Int.reduceLE, Int.reduceGE, beq_self_eq_true, qL bm, qL bn]; exact Ad)) ?_
                 exact Bn <|Jm (ws [0, 1])
                ·exact Sk <|Bn <|Jm (ws [0, 1])
               ·refine Ck fun bo =>Te [0, 1, 4, 51] Aa (Ev (by simp only [go_sem, Ae, Int.reduceLT, Int.reduceAdd, Int.reduceSub, Nat.reduceMul, Nat.reduceGT, Nat.reduceLeDiff, decide_true, decide_false, Bool.false_eq_true, Int.reduceBEq, Int.reduceGT, Int.reduceLE, Int.reduceGE, beq_self_eq_true, qL bo]; exact Ad)) ?_
                refine Cd ?_ ?_
                ·refine Ck fun bp =>Bd fun bF bq =>Fe [4] (o1 59 (Pr bq)) (Ev (by simp only [go_sem, Ae, Int.reduceLT, Int.reduceAdd, Int.reduceSub, Nat.reduceMul, Nat.reduceGT, Nat.reduceLeDiff, decide_true, decide_false, Bool.false_eq_true, Int.reduceBEq, Int.reduceGT, Int.reduceLE, Int.reduceGE, beq_self_eq_true, bp]; exact Ad)) ?_
                 exact Bn <|Jm (ws [0, 1])
                ·refine Ck fun br =>Te [0, 1, 4, 64] Aa (Ev (by simp only [go_sem, Ae, Int.reduceLT, Int.reduceAdd, Int.reduceSub, Nat.reduceMul, Nat.reduceGT, Nat.reduceLeDiff, decide_true, decide_false, Bool.false_eq_true, Int.reduceBEq, Int.reduceGT, Int.reduceLE, Int.reduceGE, beq_self_eq_true, qL br]; exact Ad)) ?_
                 refine Cd ?_ ?_
                 ·refine Ck fun bt =>Bd fun bG bu =>Te [0, 4, 5] (o1 71 (A9 bu)) (Ev (by simp only [go_sem, Ae, Int.reduceLT, Int.reduceAdd, Int.reduceSub, Nat.reduceMul, Nat.reduceGT, Nat.reduceLeDiff, decide_true, decide_false, Bool.false_eq_true, Int.reduceBEq, Int.reduceGT, Int.reduceLE, Int.reduceGE, beq_self_eq_true, bt]; exact Ad)) ?_
                  refine Te [0, 4, 5, 74] Aa (Ev (by simp only [go_sem, Ae, Int.reduceLT, Int.reduceAdd, Int.reduceSub, Nat.reduceMul, Nat.reduceGT, Nat.reduceLeDiff, decide_true, decide_false, Bool.false_eq_true, Int.reduceBEq, Int.reduceGT, Int.reduceLE, Int.reduceGE, beq_self_eq_true]; exact Ad)) ?_
                  refine Cd ?_ ?_
                  ·refine Ck fun bv =>Ck fun bw =>Ck fun bx =>Ck fun bz =>Lt fun s bA =>Ge (σ' := [.box [i64 a.Kind, i64 a.Ref.Railway, i64 a.Ref.No, i64 a.Wagon, i64 a.Place, i64 a.Other, i64 a.Number, i64 a.From, i64 a.To, i64 a.Code, i64 a.Dest, i64 a.Class, i64 a.Weight, i64 a.Amount, .str a.Text, .bs false 1 (s.length) 0 (s.length)] false, .buf 3 (L Ac s) false, _]) [[], [], [1], [1, 2], [1, 2, 3], [], [5], [5, 6], [], [8], [8, 9], [], [11], [11, 12], [11, 12, 13], [5, 6, 7, 8, 9, 10, 11, 12, 13, 14], [5, 6, 7, 8, 9, 10, 11, 12, 13, 14, 15], [1, 2, 3, 4, 5, 6, 7, 8, 9, 10, 11, 12, 13, 14, 15, 16], [0, 1, 2, 3, 4, 5, 6, 7, 8, 9, 10, 11, 12, 13, 14, 15, 16, 17], [0, 1, 2, 3, 4, 5, 6, 7, 8, 9, 10, 11, 12, 13, 14, 15, 16, 17, 18], [0, 1, 2, 3, 4, 5, 6, 7, 8, 9, 10, 11, 12, 13, 14, 15, 16, 17, 18, 19]] [4] Aa (Ev (by simp only [go_sem, Ae, Int.reduceLT, Int.reduceAdd, Int.reduceSub, Nat.reduceMul, Nat.reduceGT, Nat.reduceLeDiff, decide_true, decide_false, Bool.false_eq_true, Int.reduceBEq, Int.reduceGT, Int.reduceLE, Int.reduceGE, beq_self_eq_true, qL bv, qL bw, qL bx, bz, bA]; exact Ad)) ?_
                   exact Bn <|Jm (ws [0, 1])
                  ·exact Sk <|Bn <|Jm (ws [0, 1])
                 ·exact Sk <|Bn <|Jm (ws [0, 1])
  rintro ⟨u, v, w, x, y, z, aa, ab, ac, ad, ae, af, ag, ah, ai, c⟩
  refine Te [4] Aa (Ev (by simp only [go_sem, Ae, Int.reduceLT, Int.reduceAdd, Int.reduceSub, Nat.reduceMul, Nat.reduceGT, Nat.reduceLeDiff, decide_true, decide_false, Bool.false_eq_true, Int.reduceBEq, Int.reduceGT, Int.reduceLE, Int.reduceGE, beq_self_eq_true]; exact Ad)) ?_
  exact Sr <|Ro [0, 1]
theorem Mx {d r} (h : My d = some r) : Con B 23 [.str d] [] (fun r' σ' => r' = .tup [.agg [i64 r.1.Kind, i64 r.1.Ref.Railway, i64 r.1.Ref.No, i64 r.1.Wagon, i64 r.1.Place, i64 r.1.Other, i64 r.1.Number, i64 r.1.From, i64 r.1.To, i64 r.1.Code, i64 r.1.Dest, i64 r.1.Class, i64 r.1.Weight, i64 r.1.Amount, .str r.1.Text, .sl false (L Ac r.1.Parts)], i64 r.2] ∧ σ' = []) := by
 refine Cw 54 [.cell 2 41, .tmp 3] Tryz.func23 (fun F hE => ?_) h
 unfold My
 refine T0 [0, 2] ?_
 refine Sq <|T0 [0, 2, 13] ?_
 refine Cd ?_ ?_
 ·refine T0 [2, 3] ?_
  exact Sr <|Tr <|Rr
 ·refine Sk <|Tn <|Bd fun aK aw =>Te [0, 2, 4] (o1 17 (Kt aw)) Ev ?_
  refine Bd fun e ax =>Te [0, 2, 6] (o1 21 (Ov ax)) Ev ?_
  refine Ck fun ay =>Bd fun aL az =>De [[], [], [1], [1, 2], [0, 1, 2, 3], [0, 1, 2, 3, 4], [0, 1, 2, 3, 4, 5]] [0, 2, 6] (o1 26 (L8 az)) (Ev (by simp only [go_sem, qL ay]; exact Ad)) ?_
  refine Jo (fun ⟨y, z, aa, ab, ac, ad, ae, af, ag, ah, ai, aj, ak, al, am, c⟩ => ⟨Am 54 [(0, .str d), (2, .ref 0 0)], [.box [i64 y, i64 z, i64 aa, i64 ab, i64 ac, i64 ad, i64 ae, i64 af, i64 ag, i64 ah, i64 ai, i64 aj, i64 ak, i64 al, .str am, .bs false 1 (c.length) 0 (c.length)] false, .buf 3 (L Ac c) false]⟩) ?_ ?_
  ·intro aM aA
   refine Ck fun aB =>Te [0, 2, 29, 30, 31] Aa (Ev (by simp only [go_sem, aB]; exact Ad)) ?_
   refine Sb ?_
   refine Lo (fun ⟨an, f, g, i, j, k, n, o, p, q, s, t, u, v, w, x, b⟩ => ⟨Am 54 [(0, .str d), (2, .ref 0 0), (29, .sl false (L Tj ((e.drop 1).take (e.length - 1)))), (30, i64 (((e.drop 1).take (e.length - 1)).length : Int)), (31, i64 an)], [.box [i64 f, i64 g, i64 i, i64 j, i64 k, i64 n, i64 o, i64 p, i64 q, i64 s, i64 t, i64 u, i64 v, i64 w, .str x, .bs false 1 (b.length) 0 (b.length)] false, .buf 3 (L Ac b) false]⟩) ((Gp 0 15 3 rfl rfl).trans (ws [0, 1])) ?_
   rintro ⟨an, f, g, i, j, k, n, o, p, q, s, t, u, v, w, x, b⟩ aN aC aq ar
   show Kq e an f g i j k n o p q s t u v w x b = some aC → _
   unfold Kq
   refine Lt fun aD aE =>Te (fr' := [(0, _), (2, _), (29, _), (30, _), (31, _), (32, .bool aD)]) [0, 2, 29, 30, 31, 32] Aa (Ev (by simp only [go_sem, aE]; exact Ad)) ?_
   refine Sq <|Cd ?_ ?_
   ·refine Sk <|Tn <|Sq <|Sb <|Ck fun aF =>Lt fun au aG =>Te (fr' := [(0, _), (2, _), (8, .str au), (29, _), (30, _), (31, _)]) [0, 2, 8, 29, 30, 31] Aa (Ev (by simp only [go_sem, qR aF, aG]; exact Ad)) ?_
    refine Bd fun a aH =>Lt fun ao aI =>Te (σ' := [.box [i64 a.2.Kind, i64 a.2.Ref.Railway, i64 a.2.Ref.No, i64 a.2.Wagon, i64 a.2.Place, i64 a.2.Other, i64 a.2.Number, i64 a.2.From, i64 a.2.To, i64 a.2.Code, i64 a.2.Dest, i64 a.2.Class, i64 a.2.Weight, i64 a.2.Amount, .str a.2.Text, .bs false 1 (ao.length) 0 (ao.length)] false, .buf 3 (L Ac ao) false]) [0, 2, 29, 30, 31, 37] (Ag (l := []) (m := [(36, 68, [.ref 0 0, .str au], [.box [i64 f, i64 g, i64 i, i64 j, i64 k, i64 n, i64 o, i64 p, i64 q, i64 s, i64 t, i64 u, i64 v, i64 w, .str x, .bs false 1 (b.length) 0 (b.length)] false, .buf 3 (L Ac b) false], _, _)]) trivial ⟨(wc (Ww aH) [0, 1]), trivial⟩) (Ev (by simp only [go_sem, aI]; exact Ad)) ?_
    refine Cd ?_ ?_
    ·refine T0 [2, 3] ?_
     exact Sr <|Br <|Tr <|Lr ar aq <|Br <|Jr aA <|Rr
    ·refine Sk <|Bn <|Tn <|F0 [0, 2, 29, 30, 31] ?_
     exact Ln (ws [0, 1])
   ·refine Sx <|Tx <|Lx ar aq <|Bx <|?_
    exact Jn ((ws (l' := [(0, .str d), (2, .ref 0 0)]) (σ' := [.box [i64 f, i64 g, i64 i, i64 j, i64 k, i64 n, i64 o, i64 p, i64 q, i64 s, i64 t, i64 u, i64 v, i64 w, .str x, .bs false 1 (b.length) 0 (b.length)] false, .buf 3 (L Ac b) false]) [0, 1]).trans (ws [0, 1]))
  rintro ⟨y, z, aa, ab, ac, ad, ae, af, ag, ah, ai, aj, ak, al, am, c⟩
  refine Sq <|Bd fun aO aJ =>Te [0, 2, 9, 10] (o1 42 (Iy aJ)) Ev ?_
  refine Tw [2, 51] (fun av => ⟨Am 54 [(2, .ref 0 0), (51, .bool av)], [.box [i64 y, i64 z, i64 aa, i64 ab, i64 ac, i64 ad, i64 ae, i64 af, i64 ag, i64 ah, i64 ai, i64 aj, i64 ak, i64 al, .str am, .bs false 1 (c.length) 0 (c.length)] false, .buf 3 (L Ac c) false]⟩) ?_ ?_
  ·intro _
   refine Sp (fun ap => ?_) fun ap => ?_
   ·exact Lf Aa (Ev (by simp only [go_sem, ap]; exact Ad)) (ws [0, 1])
   ·exact Lf Aa (Ev (by simp only [go_sem, ap]; exact Ad)) (ws [0, 1])
  intro av
  refine Cd ?_ ?_
  ·refine T0 [2, 3] ?_
   exact Sr <|Tr <|Rr
  ·refine Sk <|Tn <|T0 [2, 3] ?_
   exact Sr <|Rr
theorem Ru {a r} (h : Hu a = some r) : Con B 14 [.agg [i64 a.Kind, i64 a.Ref.Railway, i64 a.Ref.No, i64 a.Wagon, i64 a.Place, i64 a.Other, i64 a.Number, i64 a.From, i64 a.To, i64 a.Code, i64 a.Dest, i64 a.Class, i64 a.Weight, i64 a.Amount, .str a.Text, .sl false (L Ac a.Parts)]] [] (fun r' σ' => r' = .bool r ∧ σ' = []) := by
 refine Cw 13 [.tmp 2] Tryz.func14 (fun F hE => ?_) h
 unfold Hu
 refine T0 [1] ?_
 refine Tw [2] (fun c => ⟨Am 13 [(2, .bool c)], []⟩) ?_ ?_
 ·intro _
  refine Sp (fun b => ?_) fun b => ?_
  ·exact Lf Aa (Ev (by simp only [go_sem, b]; exact Ad)) (ws [])
  ·exact Lf Aa (Ev (by simp only [go_sem, b]; exact Ad)) (ws [])
 intro c
 exact Sr <|Rr
theorem A4 {a r} (h : Bh a = some r) : Con B 58 [i64 a] [] (fun r' σ' => r' = .agg [i64 r.Kind, i64 r.N, .sl false (L cU8 r.B), .sl false (L cApi_Value r.L)] ∧ σ' = []) := by
 refine Cw 5 [.cell 2 55] Tryz.func58 (fun F hE => ?_) h
 unfold Bh
 refine T0 [0, 2] ?_
 refine T0 [2] ?_
 exact Sr <|Rr
theorem Yh {a r} (h : P6 a = some r) : Con B 60 [.str a] [] (fun r' σ' => r' = .agg [i64 r.Kind, i64 r.N, .sl false (L cU8 r.B), .sl false (L cApi_Value r.L)] ∧ σ' = []) := by
 refine Cw 6 [.cell 2 55] Tryz.func60 (fun F hE => ?_) h
 unfold P6
 refine T0 [0, 2] ?_
 refine T0 [2] ?_
 exact Sr <|Rr
theorem Og {r} (h : edi_list_cnil  = some r) : Con B 59 [.sl true (L cApi_Value ([]))] [] (fun r' σ' => r' = .agg [i64 r.Kind, i64 r.N, .sl true (L cU8 ([])), .sl true (L cApi_Value ([]))] ∧ σ' = []) := by
 refine Co 0 5 [.cell 2 55] Tryz.func59 (fun F hE => ?_) h
 unfold edi_list_cnil
 refine Te [0, 2] Aa (Ev (by simp only [go_sem, Ae, Int.reduceLT, Int.reduceAdd, Int.reduceSub, Nat.reduceMul, Nat.reduceGT, Nat.reduceLeDiff, decide_true, decide_false, Bool.false_eq_true, Int.reduceBEq, Int.reduceGT, Int.reduceLE, Int.reduceGE, beq_self_eq_true]; exact Ad)) ?_
 refine Te [2] Aa (Ev (by simp only [go_sem, Ae, Int.reduceLT, Int.reduceAdd, Int.reduceSub, Nat.reduceMul, Nat.reduceGT, Nat.reduceLeDiff, decide_true, decide_false, Bool.false_eq_true, Int.reduceBEq, Int.reduceGT, Int.reduceLE, Int.reduceGE, beq_self_eq_true]; exact Ad)) ?_
 exact Sr <|Ro []
theorem Pc {a r} (h : Ig a = some r) : Con B 59 [.bs false 0 (a.length) 0 (a.length)] [.buf 4 (L cApi_Value a) false] (fun r' σ' => r' = .agg [i64 r.Kind, i64 r.N, .sl true (L cU8 ([])), .bs false 0 (r.L.length) 0 (r.L.length)] ∧ σ' = [.buf 4 (L cApi_Value r.L) false]) := by
 refine Co 1 5 [.cell 2 55] Tryz.func59 (fun F hE => ?_) h
 unfold Ig
 refine Te [0, 2] Aa (Ev (by simp only [go_sem, Ae, Int.reduceLT, Int.reduceAdd, Int.reduceSub, Nat.reduceMul, Nat.reduceGT, Nat.reduceLeDiff, decide_true, decide_false, Bool.false_eq_true, Int.reduceBEq, Int.reduceGT, Int.reduceLE, Int.reduceGE, beq_self_eq_true]; exact Ad)) ?_
 refine Te [2] Aa (Ev (by simp only [go_sem, Ae, Int.reduceLT, Int.reduceAdd, Int.reduceSub, Nat.reduceMul, Nat.reduceGT, Nat.reduceLeDiff, decide_true, decide_false, Bool.false_eq_true, Int.reduceBEq, Int.reduceGT, Int.reduceLE, Int.reduceGE, beq_self_eq_true]; exact Ad)) ?_
 exact Sr <|Ro [0]
theorem Je {a r} (h : Ed a = some r) : Con B 59 [.sl false (L cApi_Value a)] [] (fun r' σ' => r' = .agg [i64 r.Kind, i64 r.N, .sl true (L cU8 ([])), .sl false (L cApi_Value r.L)] ∧ σ' = []) := by
 refine Co 0 5 [.cell 2 55] Tryz.func59 (fun F hE => ?_) h
 unfold Ed
 refine Te [0, 2] Aa (Ev (by simp only [go_sem, Ae, Int.reduceLT, Int.reduceAdd, Int.reduceSub, Nat.reduceMul, Nat.reduceGT, Nat.reduceLeDiff, decide_true, decide_false, Bool.false_eq_true, Int.reduceBEq, Int.reduceGT, Int.reduceLE, Int.reduceGE, beq_self_eq_true]; exact Ad)) ?_
 refine Te [2] Aa (Ev (by simp only [go_sem, Ae, Int.reduceLT, Int.reduceAdd, Int.reduceSub, Nat.reduceMul, Nat.reduceGT, Nat.reduceLeDiff, decide_true, decide_false, Bool.false_eq_true, Int.reduceBEq, Int.reduceGT, Int.reduceLE, Int.reduceGE, beq_self_eq_true]; exact Ad)) ?_
 exact Sr <|Ro []
theorem Fi {a r} (h : En a = some r) : Con B 21 [.agg [i64 a.Kind, i64 a.Ref.Railway, i64 a.Ref.No, i64 a.Wagon, i64 a.Place, i64 a.Other, i64 a.Number, i64 a.From, i64 a.To, i64 a.Code, i64 a.Dest, i64 a.Class, i64 a.Weight, i64 a.Amount, .str a.Text, .sl false (L Ac a.Parts)]] [] (fun r' σ' => r' = .agg [i64 r.Kind, i64 r.N, .sl false (L cU8 r.B), .sl false (L cApi_Value r.L)] ∧ σ' = []) := by
 refine Cw 70 [.cell 2 55] Tryz.func21 (fun F hE => ?_) h
 unfold En
 refine T0 [1, 2] ?_
 refine Bd fun bF av =>Bd fun aw ax =>Bd fun ay az =>Bd fun bG aA =>Lt fun f aB =>De (fr' := [(1, _), (2, _), (3, .bs true 2 (f.length) 0 (f.length))]) (σ' := [_, _, .buf 4 (L cApi_Value f) false]) [[], [0], [0, 1], [], [3], [3, 4], [0, 1, 2, 3, 4, 5], [], [7], [7, 8], [0, 1, 2, 3, 4, 5, 6, 7, 8, 9], [0, 1, 2, 3, 4, 5, 6, 7, 8, 9, 10], [0, 1, 2, 3, 4, 5, 6, 7, 8, 9, 10, 11], [0, 1, 2, 3, 4, 5, 6, 7, 8, 9, 10, 11, 12], [0, 1, 2, 3, 4, 5, 6, 7, 8, 9, 10, 11, 12, 13]] [1, 2, 3] (Ag (l := [(12, _, _, _), (16, _, _, _), (20, _, _, _)]) (m := [(22, 59, [.sl false (L cApi_Value ([aw, ay] : List Api_Value))], [.box [i64 a.Kind, i64 a.Ref.Railway, i64 a.Ref.No, i64 a.Wagon, i64 a.Place, i64 a.Other, i64 a.Number, i64 a.From, i64 a.To, i64 a.Code, i64 a.Dest, i64 a.Class, i64 a.Weight, i64 a.Amount, .str a.Text, .sl false (L Ac a.Parts)] false, .box [i64 0, i64 0, .sl true (L cU8 ([])), .sl true (L cApi_Value ([]))] false], _, _)]) ⟨A4  av, A4  ax, A4  az, trivial⟩ ⟨(wc (Je aA) []), trivial⟩) (Ev (by simp only [go_sem, aB]; exact Ad)) ?_
 refine Ja (fun b => ⟨Am 70 [(1, .ref 0 0), (2, .ref 1 0), (3, .bs false 2 (b.length) 0 (b.length))], [.box [i64 a.Kind, i64 a.Ref.Railway, i64 a.Ref.No, i64 a.Wagon, i64 a.Place, i64 a.Other, i64 a.Number, i64 a.From, i64 a.To, i64 a.Code, i64 a.Dest, i64 a.Class, i64 a.Weight, i64 a.Amount, .str a.Text, .sl false (L Ac a.Parts)] false, .box [i64 0, i64 0, .sl true (L cU8 ([])), .sl true (L cApi_Value ([]))] false, .buf 4 (L cApi_Value b) false]⟩) ?_ ?_
 ·intro bH
  refine Te [1, 2, 3, 24, 25] (Ag (l := []) (m := [(24, 51, [.ref 0 0], [.box [i64 a.Kind, i64 a.Ref.Railway, i64 a.Ref.No, i64 a.Wagon, i64 a.Place, i64 a.Other, i64 a.Number, i64 a.From, i64 a.To, i64 a.Code, i64 a.Dest, i64 a.Class, i64 a.Weight, i64 a.Amount, .str a.Text, .sl false (L Ac a.Parts)] false, .box [i64 0, i64 0, .sl true (L cU8 ([])), .sl true (L cApi_Value ([]))] false, .buf 4 (L cApi_Value f) false], .agg [.ref 0 3, .ref 0 4, .ref 0 5, .ref 0 6, .ref 0 7, .ref 0 8, .ref 0 9, .ref 0 10, .ref 0 11, .ref 0 12, .ref 0 13], [.box [i64 a.Kind, i64 a.Ref.Railway, i64 a.Ref.No, i64 a.Wagon, i64 a.Place, i64 a.Other, i64 a.Number, i64 a.From, i64 a.To, i64 a.Code, i64 a.Dest, i64 a.Class, i64 a.Weight, i64 a.Amount, .str a.Text, .sl false (L Ac a.Parts)] false, .box [i64 0, i64 0, .sl true (L cU8 ([])), .sl true (L cApi_Value ([]))] false, .buf 4 (L cApi_Value f) false])]) trivial ⟨A8, trivial⟩) Ev ?_
  refine Sb ?_
  refine Ul 17 ?_
  refine Ug (m := 16) ?_
  refine Te [1, 2, 3, 24, 25, 26] Aa (Ev (by simp only [go_sem, Ae, Int.reduceLT, Int.reduceAdd, Int.reduceSub, Nat.reduceMul, Nat.reduceGT, Nat.reduceLeDiff, decide_true, decide_false, Bool.false_eq_true, Int.reduceBEq, Int.reduceGT, Int.reduceLE, Int.reduceGE, beq_self_eq_true]; exact Ad)) ?_
  refine Sq <|Ct <|Sk <|Tn <|Sq <|Sb <|?_
  have ae : InR 0 11 := by decide
  refine Te [1, 2, 3, 5, 24, 25] Aa (Ev (by simp only [go_sem, Ae, Int.reduceLT, Int.reduceAdd, Int.reduceSub, Nat.reduceMul, Nat.reduceGT, Nat.reduceLeDiff, decide_true, decide_false, Bool.false_eq_true, Int.reduceBEq, Int.reduceGT, Int.reduceLE, Int.reduceGE, beq_self_eq_true, ae, ae.2]; exact Ad)) ?_
  refine Bd fun bI aC =>Ck fun aD =>Lt fun n aE =>Fe (fr' := [(1, _), (2, _), (3, .bs false 2 (n.length) 0 (n.length)), (24, _), (25, _)]) (σ' := [_, _, .buf 4 (L cApi_Value n) false, _]) [1, 2, 3, 24, 25] (o1 32 (A4 aC)) (Ev (by simp only [go_sem, Ae, Int.reduceLT, Int.reduceAdd, Int.reduceSub, Nat.reduceMul, Nat.reduceGT, Nat.reduceLeDiff, decide_true, decide_false, Bool.false_eq_true, Int.reduceBEq, Int.reduceGT, Int.reduceLE, Int.reduceGE, beq_self_eq_true, aD, aE]; exact Ad)) ?_
  refine Bn <|Tn <|?_
  have aF : w64 1 = 1 := by decide
  refine Fe [1, 2, 3, 24, 25] Aa (Ev (by simp only [go_sem, Ae, Int.reduceLT, Int.reduceAdd, Int.reduceSub, Nat.reduceMul, Nat.reduceGT, Nat.reduceLeDiff, decide_true, decide_false, Bool.false_eq_true, Int.reduceBEq, Int.reduceGT, Int.reduceLE, Int.reduceGE, beq_self_eq_true, aF]; exact Ad)) ?_
  refine Un ?_
  refine Ug (m := 15) ?_
  refine Te [1, 2, 3, 24, 25, 26] Aa (Ev (by simp only [go_sem, Ae, Int.reduceLT, Int.reduceAdd, Int.reduceSub, Nat.reduceMul, Nat.reduceGT, Nat.reduceLeDiff, decide_true, decide_false, Bool.false_eq_true, Int.reduceBEq, Int.reduceGT, Int.reduceLE, Int.reduceGE, beq_self_eq_true]; exact Ad)) ?_
  refine Sq <|Ct <|Sk <|Tn <|Sq <|Sb <|?_
  have af : InR 1 11 := by decide
  refine Te [1, 2, 3, 5, 24, 25] Aa (Ev (by simp only [go_sem, Ae, Int.reduceLT, Int.reduceAdd, Int.reduceSub, Nat.reduceMul, Nat.reduceGT, Nat.reduceLeDiff, decide_true, decide_false, Bool.false_eq_true, Int.reduceBEq, Int.reduceGT, Int.reduceLE, Int.reduceGE, beq_self_eq_true, af, af.2]; exact Ad)) ?_
  refine Bd fun bJ aG =>Ck fun aH =>Lt fun o aI =>Fe (fr' := [(1, _), (2, _), (3, .bs false 2 (o.length) 0 (o.length)), (24, _), (25, _)]) (σ' := [_, _, .buf 4 (L cApi_Value o) false, _, _]) [1, 2, 3, 24, 25] (o1 32 (A4 aG)) (Ev (by simp only [go_sem, Ae, Int.reduceLT, Int.reduceAdd, Int.reduceSub, Nat.reduceMul, Nat.reduceGT, Nat.reduceLeDiff, decide_true, decide_false, Bool.false_eq_true, Int.reduceBEq, Int.reduceGT, Int.reduceLE, Int.reduceGE, beq_self_eq_true, aH, aI]; exact Ad)) ?_
  refine Bn <|Tn <|?_
  have aJ : w64 2 = 2 := by decide
  refine Fe [1, 2, 3, 24, 25] Aa (Ev (by simp only [go_sem, Ae, Int.reduceLT, Int.reduceAdd, Int.reduceSub, Nat.reduceMul, Nat.reduceGT, Nat.reduceLeDiff, decide_true, decide_false, Bool.false_eq_true, Int.reduceBEq, Int.reduceGT, Int.reduceLE, Int.reduceGE, beq_self_eq_true, aJ]; exact Ad)) ?_
  refine Un ?_
  refine Ug (m := 14) ?_
  refine Te [1, 2, 3, 24, 25, 26] Aa (Ev (by simp only [go_sem, Ae, Int.reduceLT, Int.reduceAdd, Int.reduceSub, Nat.reduceMul, Nat.reduceGT, Nat.reduceLeDiff, decide_true, decide_false, Bool.false_eq_true, Int.reduceBEq, Int.reduceGT, Int.reduceLE, Int.reduceGE, beq_self_eq_true]; exact Ad)) ?_
  refine Sq <|Ct <|Sk <|Tn <|Sq <|Sb <|?_
  have ag : InR 2 11 := by decide
  refine Te [1, 2, 3, 5, 24, 25] Aa (Ev (by simp only [go_sem, Ae, Int.reduceLT, Int.reduceAdd, Int.reduceSub, Nat.reduceMul, Nat.reduceGT, Nat.reduceLeDiff, decide_true, decide_false, Bool.false_eq_true, Int.reduceBEq, Int.reduceGT, Int.reduceLE, Int.reduceGE, beq_self_eq_true, ag, ag.2]; exact Ad)) ?_
  refine Bd fun bK aK =>Ck fun aL =>Lt fun p aM =>Fe (fr' := [(1, _), (2, _), (3, .bs false 2 (p.length) 0 (p.length)), (24, _), (25, _)]) (σ' := [_, _, .buf 4 (L cApi_Value p) false, _, _, _]) [1, 2, 3, 24, 25] (o1 32 (A4 aK)) (Ev (by simp only [go_sem, Ae, Int.reduceLT, Int.reduceAdd, Int.reduceSub, Nat.reduceMul, Nat.reduceGT, Nat.reduceLeDiff, decide_true, decide_false, Bool.false_eq_true, Int.reduceBEq, Int.reduceGT, Int.reduceLE, Int.reduceGE, beq_self_eq_true, aL, aM]; exact Ad)) ?_
  refine Bn <|Tn <|?_
  have aN : w64 3 = 3 := by decide
  refine Fe [1, 2, 3, 24, 25] Aa (Ev (by simp only [go_sem, Ae, Int.reduceLT, Int.reduceAdd, Int.reduceSub, Nat.reduceMul, Nat.reduceGT, Nat.reduceLeDiff, decide_true, decide_false, Bool.false_eq_true, Int.reduceBEq, Int.reduceGT, Int.reduceLE, Int.reduceGE, beq_self_eq_true, aN]; exact Ad)) ?_
  refine Un ?_
  refine Ug (m := 13) ?_
  refine Te [1, 2, 3, 24, 25, 26] Aa (Ev (by simp only [go_sem, Ae, Int.reduceLT, Int.reduceAdd, Int.reduceSub, Nat.reduceMul, Nat.reduceGT, Nat.reduceLeDiff, decide_true, decide_false, Bool.false_eq_true, Int.reduceBEq, Int.reduceGT, Int.reduceLE, Int.reduceGE, beq_self_eq_true]; exact Ad)) ?_
  refine Sq <|Ct <|Sk <|Tn <|Sq <|Sb <|?_
  have ah : InR 3 11 := by decide
  refine Te [1, 2, 3, 5, 24, 25] Aa (Ev (by simp only [go_sem, Ae, Int.reduceLT, Int.reduceAdd, Int.reduceSub, Nat.reduceMul, Nat.reduceGT, Nat.reduceLeDiff, decide_true, decide_false, Bool.false_eq_true, Int.reduceBEq, Int.reduceGT, Int.reduceLE, Int.reduceGE, beq_self_eq_true, ah, ah.2]; exact Ad)) ?_
  refine Bd fun bL aO =>Ck fun aP =>Lt fun q aQ =>Fe (fr' := [(1, _), (2, _), (3, .bs false 2 (q.length) 0 (q.length)), (24, _), (25, _)]) (σ' := [_, _, .buf 4 (L cApi_Value q) false, _, _, _, _]) [1, 2, 3, 24, 25] (o1 32 (A4 aO)) (Ev (by simp only [go_sem, Ae, Int.reduceLT, Int.reduceAdd, Int.reduceSub, Nat.reduceMul, Nat.reduceGT, Nat.reduceLeDiff, decide_true, decide_false, Bool.false_eq_true, Int.reduceBEq, Int.reduceGT, Int.reduceLE, Int.reduceGE, beq_self_eq_true, aP, aQ]; exact Ad)) ?_
  refine Bn <|Tn <|?_
  have aR : w64 4 = 4 := by decide
  refine Fe [1, 2, 3, 24, 25] Aa (Ev (by simp only [go_sem, Ae, Int.reduceLT, Int.reduceAdd, Int.reduceSub, Nat.reduceMul, Nat.reduceGT, Nat.reduceLeDiff, decide_true, decide_false, Bool.false_eq_true, Int.reduceBEq, Int.reduceGT, Int.reduceLE, Int.reduceGE, beq_self_eq_true, aR]; exact Ad)) ?_
  refine Un ?_
  refine Ug (m := 12) ?_
  refine Te [1, 2, 3, 24, 25, 26] Aa (Ev (by simp only [go_sem, Ae, Int.reduceLT, Int.reduceAdd, Int.reduceSub, Nat.reduceMul, Nat.reduceGT, Nat.reduceLeDiff, decide_true, decide_false, Bool.false_eq_true, Int.reduceBEq, Int.reduceGT, Int.reduceLE, Int.reduceGE, beq_self_eq_true]; exact Ad)) ?_
  refine Sq <|Ct <|Sk <|Tn <|Sq <|Sb <|?_
  have ai : InR 4 11 := by decide
  refine Te [1, 2, 3, 5, 24, 25] Aa (Ev (by simp only [go_sem, Ae, Int.reduceLT, Int.reduceAdd, Int.reduceSub, Nat.reduceMul, Nat.reduceGT, Nat.reduceLeDiff, decide_true, decide_false, Bool.false_eq_true, Int.reduceBEq, Int.reduceGT, Int.reduceLE, Int.reduceGE, beq_self_eq_true, ai, ai.2]; exact Ad)) ?_
  refine Bd fun bM aS =>Ck fun aT =>Lt fun s aU =>Fe (fr' := [(1, _), (2, _), (3, .bs false 2 (s.length) 0 (s.length)), (24, _), (25, _)]) (σ' := [_, _, .buf 4 (L cApi_Value s) false, _, _, _, _, _]) [1, 2, 3, 24, 25] (o1 32 (A4 aS)) (Ev (by simp only [go_sem, Ae, Int.reduceLT, Int.reduceAdd, Int.reduceSub, Nat.reduceMul, Nat.reduceGT, Nat.reduceLeDiff, decide_true, decide_false, Bool.false_eq_true, Int.reduceBEq, Int.reduceGT, Int.reduceLE, Int.reduceGE, beq_self_eq_true, aT, aU]; exact Ad)) ?_
  refine Bn <|Tn <|?_
  have aV : w64 5 = 5 := by decide
  refine Fe [1, 2, 3, 24, 25] Aa (Ev (by simp only [go_sem, Ae, Int.reduceLT, Int.reduceAdd, Int.reduceSub, Nat.reduceMul, Nat.reduceGT, Nat.reduceLeDiff, decide_true, decide_false, Bool.false_eq_true, Int.reduceBEq, Int.reduceGT, Int.reduceLE, Int.reduceGE, beq_self_eq_true, aV]; exact Ad)) ?_
  refine Un ?_
  refine Ug (m := 11) ?_
  refine Te [1, 2, 3, 24, 25, 26] Aa (Ev (by simp only [go_sem, Ae, Int.reduceLT, Int.reduceAdd, Int.reduceSub, Nat.reduceMul, Nat.reduceGT, Nat.reduceLeDiff, decide_true, decide_false, Bool.false_eq_true, Int.reduceBEq, Int.reduceGT, Int.reduceLE, Int.reduceGE, beq_self_eq_true]; exact Ad)) ?_
  refine Sq <|Ct <|Sk <|Tn <|Sq <|Sb <|?_
  have aj : InR 5 11 := by decide
  refine Te [1, 2, 3, 5, 24, 25] Aa (Ev (by simp only [go_sem, Ae, Int.reduceLT, Int.reduceAdd, Int.reduceSub, Nat.reduceMul, Nat.reduceGT, Nat.reduceLeDiff, decide_true, decide_false, Bool.false_eq_true, Int.reduceBEq, Int.reduceGT, Int.reduceLE, Int.reduceGE, beq_self_eq_true, aj, aj.2]; exact Ad)) ?_
  refine Bd fun bN aW =>Ck fun aX =>Lt fun t aY =>Fe (fr' := [(1, _), (2, _), (3, .bs false 2 (t.length) 0 (t.length)), (24, _), (25, _)]) (σ' := [_, _, .buf 4 (L cApi_Value t) false, _, _, _, _, _, _]) [1, 2, 3, 24, 25] (o1 32 (A4 aW)) (Ev (by simp only [go_sem, Ae, Int.reduceLT, Int.reduceAdd, Int.reduceSub, Nat.reduceMul, Nat.reduceGT, Nat.reduceLeDiff, decide_true, decide_false, Bool.false_eq_true, Int.reduceBEq, Int.reduceGT, Int.reduceLE, Int.reduceGE, beq_self_eq_true, aX, aY]; exact Ad)) ?_
  refine Bn <|Tn <|?_
  have aZ : w64 6 = 6 := by decide
  refine Fe [1, 2, 3, 24, 25] Aa (Ev (by simp only [go_sem, Ae, Int.reduceLT, Int.reduceAdd, Int.reduceSub, Nat.reduceMul, Nat.reduceGT, Nat.reduceLeDiff, decide_true, decide_false, Bool.false_eq_true, Int.reduceBEq, Int.reduceGT, Int.reduceLE, Int.reduceGE, beq_self_eq_true, aZ]; exact Ad)) ?_
  refine Un ?_
  refine Ug (m := 10) ?_
  refine Te [1, 2, 3, 24, 25, 26] Aa (Ev (by simp only [go_sem, Ae, Int.reduceLT, Int.reduceAdd, Int.reduceSub, Nat.reduceMul, Nat.reduceGT, Nat.reduceLeDiff, decide_true, decide_false, Bool.false_eq_true, Int.reduceBEq, Int.reduceGT, Int.reduceLE, Int.reduceGE, beq_self_eq_true]; exact Ad)) ?_
  refine Sq <|Ct <|Sk <|Tn <|Sq <|Sb <|?_
  have ak : InR 6 11 := by decide
  refine Te [1, 2, 3, 5, 24, 25] Aa (Ev (by simp only [go_sem, Ae, Int.reduceLT, Int.reduceAdd, Int.reduceSub, Nat.reduceMul, Nat.reduceGT, Nat.reduceLeDiff, decide_true, decide_false, Bool.false_eq_true, Int.reduceBEq, Int.reduceGT, Int.reduceLE, Int.reduceGE, beq_self_eq_true, ak, ak.2]; exact Ad)) ?_
  refine Bd fun bO a0 =>Ck fun a1 =>Lt fun u a2 =>Fe (fr' := [(1, _), (2, _), (3, .bs false 2 (u.length) 0 (u.length)), (24, _), (25, _)]) (σ' := [_, _, .buf 4 (L cApi_Value u) false, _, _, _, _, _, _, _]) [1, 2, 3, 24, 25] (o1 32 (A4 a0)) (Ev (by simp only [go_sem, Ae, Int.reduceLT, Int.reduceAdd, Int.reduceSub, Nat.reduceMul, Nat.reduceGT, Nat.reduceLeDiff, decide_true, decide_false, Bool.false_eq_true, Int.reduceBEq, Int.reduceGT, Int.reduceLE, Int.reduceGE, beq_self_eq_true, a1, a2]; exact Ad)) ?_
  refine Bn <|Tn <|?_
  have a3 : w64 7 = 7 := by decide
  refine Fe [1, 2, 3, 24, 25] Aa (Ev (by simp only [go_sem, Ae, Int.reduceLT, Int.reduceAdd, Int.reduceSub, Nat.reduceMul, Nat.reduceGT, Nat.reduceLeDiff, decide_true, decide_false, Bool.false_eq_true, Int.reduceBEq, Int.reduceGT, Int.reduceLE, Int.reduceGE, beq_self_eq_true, a3]; exact Ad)) ?_
  refine Un ?_
  refine Ug (m := 9) ?_
  refine Te [1, 2, 3, 24, 25, 26] Aa (Ev (by simp only [go_sem, Ae, Int.reduceLT, Int.reduceAdd, Int.reduceSub, Nat.reduceMul, Nat.reduceGT, Nat.reduceLeDiff, decide_true, decide_false, Bool.false_eq_true, Int.reduceBEq, Int.reduceGT, Int.reduceLE, Int.reduceGE, beq_self_eq_true]; exact Ad)) ?_
  refine Sq <|Ct <|Sk <|Tn <|Sq <|Sb <|?_
  have al : InR 7 11 := by decide
  refine Te [1, 2, 3, 5, 24, 25] Aa (Ev (by simp only [go_sem, Ae, Int.reduceLT, Int.reduceAdd, Int.reduceSub, Nat.reduceMul, Nat.reduceGT, Nat.reduceLeDiff, decide_true, decide_false, Bool.false_eq_true, Int.reduceBEq, Int.reduceGT, Int.reduceLE, Int.reduceGE, beq_self_eq_true, al, al.2]; exact Ad)) ?_
  refine Bd fun bP a4 =>Ck fun a5 =>Lt fun w a6 =>Fe (fr' := [(1, _), (2, _), (3, .bs false 2 (w.length) 0 (w.length)), (24, _), (25, _)]) (σ' := [_, _, .buf 4 (L cApi_Value w) false, _, _, _, _, _, _, _, _]) [1, 2, 3, 24, 25] (o1 32 (A4 a4)) (Ev (by simp only [go_sem, Ae, Int.reduceLT, Int.reduceAdd, Int.reduceSub, Nat.reduceMul, Nat.reduceGT, Nat.reduceLeDiff, decide_true, decide_false, Bool.false_eq_true, Int.reduceBEq, Int.reduceGT, Int.reduceLE, Int.reduceGE, beq_self_eq_true, a5, a6]; exact Ad)) ?_
  refine Bn <|Tn <|?_
  have a7 : w64 8 = 8 := by decide
  refine Fe [1, 2, 3, 24, 25] Aa (Ev (by simp only [go_sem, Ae, Int.reduceLT, Int.reduceAdd, Int.reduceSub, Nat.reduceMul, Nat.reduceGT, Nat.reduceLeDiff, decide_true, decide_false, Bool.false_eq_true, Int.reduceBEq, Int.reduceGT, Int.reduceLE, Int.reduceGE, beq_self_eq_true, a7]; exact Ad)) ?_
  refine Un ?_
  refine Ug (m := 8) ?_
  refine Te [1, 2, 3, 24, 25, 26] Aa (Ev (by simp only [go_sem, Ae, Int.reduceLT, Int.reduceAdd, Int.reduceSub, Nat.reduceMul, Nat.reduceGT, Nat.reduceLeDiff, decide_true, decide_false, Bool.false_eq_true, Int.reduceBEq, Int.reduceGT, Int.reduceLE, Int.reduceGE, beq_self_eq_true]; exact Ad)) ?_
  refine Sq <|Ct <|Sk <|Tn <|Sq <|Sb <|?_
  have am : InR 8 11 := by decide
  refine Te [1, 2, 3, 5, 24, 25] Aa (Ev (by simp only [go_sem, Ae, Int.reduceLT, Int.reduceAdd, Int.reduceSub, Nat.reduceMul, Nat.reduceGT, Nat.reduceLeDiff, decide_true, decide_false, Bool.false_eq_true, Int.reduceBEq, Int.reduceGT, Int.reduceLE, Int.reduceGE, beq_self_eq_true, am, am.2]; exact Ad)) ?_
  refine Bd fun bQ a8 =>Ck fun a9 =>Lt fun x ba =>Fe (fr' := [(1, _), (2, _), (3, .bs false 2 (x.length) 0 (x.length)), (24, _), (25, _)]) (σ' := [_, _, .buf 4 (L cApi_Value x) false, _, _, _, _, _, _, _, _, _]) [1, 2, 3, 24, 25] (o1 32 (A4 a8)) (Ev (by simp only [go_sem, Ae, Int.reduceLT, Int.reduceAdd, Int.reduceSub, Nat.reduceMul, Nat.reduceGT, Nat.reduceLeDiff, decide_true, decide_false, Bool.false_eq_true, Int.reduceBEq, Int.reduceGT, Int.reduceLE, Int.reduceGE, beq_self_eq_true, a9, ba]; exact Ad)) ?_
  refine Bn <|Tn <|?_
  have bb : w64 9 = 9 := by decide
  refine Fe [1, 2, 3, 24, 25] Aa (Ev (by simp only [go_sem, Ae, Int.reduceLT, Int.reduceAdd, Int.reduceSub, Nat.reduceMul, Nat.reduceGT, Nat.reduceLeDiff, decide_true, decide_false, Bool.false_eq_true, Int.reduceBEq, Int.reduceGT, Int.reduceLE, Int.reduceGE, beq_self_eq_true, bb]; exact Ad)) ?_
  refine Un ?_
  refine Ug (m := 7) ?_
  refine Te [1, 2, 3, 24, 25, 26] Aa (Ev (by simp only [go_sem, Ae, Int.reduceLT, Int.reduceAdd, Int.reduceSub, Nat.reduceMul, Nat.reduceGT, Nat.reduceLeDiff, decide_true, decide_false, Bool.false_eq_true, Int.reduceBEq, Int.reduceGT, Int.reduceLE, Int.reduceGE, beq_self_eq_true]; exact Ad)) ?_
  refine Sq <|Ct <|Sk <|Tn <|Sq <|Sb <|?_
  have an : InR 9 11 := by decide
  refine Te [1, 2, 3, 5, 24, 25] Aa (Ev (by simp only [go_sem, Ae, Int.reduceLT, Int.reduceAdd, Int.reduceSub, Nat.reduceMul, Nat.reduceGT, Nat.reduceLeDiff, decide_true, decide_false, Bool.false_eq_true, Int.reduceBEq, Int.reduceGT, Int.reduceLE, Int.reduceGE, beq_self_eq_true, an, an.2]; exact Ad)) ?_
  refine Bd fun bR bc =>Ck fun bd =>Lt fun y be =>Fe (fr' := [(1, _), (2, _), (3, .bs false 2 (y.length) 0 (y.length)), (24, _), (25, _)]) (σ' := [_, _, .buf 4 (L cApi_Value y) false, _, _, _, _, _, _, _, _, _, _]) [1, 2, 3, 24, 25] (o1 32 (A4 bc)) (Ev (by simp only [go_sem, Ae, Int.reduceLT, Int.reduceAdd, Int.reduceSub, Nat.reduceMul, Nat.reduceGT, Nat.reduceLeDiff, decide_true, decide_false, Bool.false_eq_true, Int.reduceBEq, Int.reduceGT, Int.reduceLE, Int.reduceGE, beq_self_eq_true, bd, be]; exact Ad)) ?_
  refine Bn <|Tn <|?_
  have bf : w64 10 = 10 := by decide
  refine Fe [1, 2, 3, 24, 25] Aa (Ev (by simp only [go_sem, Ae, Int.reduceLT, Int.reduceAdd, Int.reduceSub, Nat.reduceMul, Nat.reduceGT, Nat.reduceLeDiff, decide_true, decide_false, Bool.false_eq_true, Int.reduceBEq, Int.reduceGT, Int.reduceLE, Int.reduceGE, beq_self_eq_true, bf]; exact Ad)) ?_
  refine Un ?_
  refine Ug (m := 6) ?_
  refine Te [1, 2, 3, 24, 25, 26] Aa (Ev (by simp only [go_sem, Ae, Int.reduceLT, Int.reduceAdd, Int.reduceSub, Nat.reduceMul, Nat.reduceGT, Nat.reduceLeDiff, decide_true, decide_false, Bool.false_eq_true, Int.reduceBEq, Int.reduceGT, Int.reduceLE, Int.reduceGE, beq_self_eq_true]; exact Ad)) ?_
  refine Sq <|Ct <|Sk <|Tn <|Sq <|Sb <|?_
  have ao : InR 10 11 := by decide
  refine Te [1, 2, 3, 5, 24, 25] Aa (Ev (by simp only [go_sem, Ae, Int.reduceLT, Int.reduceAdd, Int.reduceSub, Nat.reduceMul, Nat.reduceGT, Nat.reduceLeDiff, decide_true, decide_false, Bool.false_eq_true, Int.reduceBEq, Int.reduceGT, Int.reduceLE, Int.reduceGE, beq_self_eq_true, ao, ao.2]; exact Ad)) ?_
  refine Bd fun bS bg =>Ck fun bh =>Lt fun z bi =>Fe (fr' := [(1, _), (2, _), (3, .bs false 2 (z.length) 0 (z.length)), (24, _), (25, _)]) (σ' := [_, _, .buf 4 (L cApi_Value z) false, _, _, _, _, _, _, _, _, _, _, _]) [1, 2, 3, 24, 25] (o1 32 (A4 bg)) (Ev (by simp only [go_sem, Ae, Int.reduceLT, Int.reduceAdd, Int.reduceSub, Nat.reduceMul, Nat.reduceGT, Nat.reduceLeDiff, decide_true, decide_false, Bool.false_eq_true, Int.reduceBEq, Int.reduceGT, Int.reduceLE, Int.reduceGE, beq_self_eq_true, bh, bi]; exact Ad)) ?_
  refine Bn <|Tn <|?_
  have bj : w64 11 = 11 := by decide
  refine Fe [1, 2, 3, 24, 25] Aa (Ev (by simp only [go_sem, Ae, Int.reduceLT, Int.reduceAdd, Int.reduceSub, Nat.reduceMul, Nat.reduceGT, Nat.reduceLeDiff, decide_true, decide_false, Bool.false_eq_true, Int.reduceBEq, Int.reduceGT, Int.reduceLE, Int.reduceGE, beq_self_eq_true, bj]; exact Ad)) ?_
  refine Un ?_
  refine Ug (m := 5) ?_
  refine Te [1, 2, 3, 24, 25, 26] Aa (Ev (by simp only [go_sem, Ae, Int.reduceLT, Int.reduceAdd, Int.reduceSub, Nat.reduceMul, Nat.reduceGT, Nat.reduceLeDiff, decide_true, decide_false, Bool.false_eq_true, Int.reduceBEq, Int.reduceGT, Int.reduceLE, Int.reduceGE, beq_self_eq_true]; exact Ad)) ?_
  exact Sq <|Cf <|Sx <|Tx <|Ux <|Bx <|Jm (ws [0, 1, 2])
 intro b
 refine Bd fun c bk =>Te [1, 2, 3, 6] (Ag (l := []) (m := [(36, 59, [.sl true (L cApi_Value ([]))], [.box [i64 a.Kind, i64 a.Ref.Railway, i64 a.Ref.No, i64 a.Wagon, i64 a.Place, i64 a.Other, i64 a.Number, i64 a.From, i64 a.To, i64 a.Code, i64 a.Dest, i64 a.Class, i64 a.Weight, i64 a.Amount, .str a.Text, .sl false (L Ac a.Parts)] false, .box [i64 0, i64 0, .sl true (L cU8 ([])), .sl true (L cApi_Value ([]))] false, .buf 4 (L cApi_Value b) false], _, _)]) trivial ⟨(wc (Og bk) []), trivial⟩) Ev ?_
 refine Ja (fun d => ⟨Am 70 [(1, .ref 0 0), (2, .ref 1 0), (3, .bs false 2 (b.length) 0 (b.length)), (6, .ref 3 0)], [.box [i64 a.Kind, i64 a.Ref.Railway, i64 a.Ref.No, i64 a.Wagon, i64 a.Place, i64 a.Other, i64 a.Number, i64 a.From, i64 a.To, i64 a.Code, i64 a.Dest, i64 a.Class, i64 a.Weight, i64 a.Amount, .str a.Text, .sl false (L Ac a.Parts)] false, .box [i64 0, i64 0, .sl true (L cU8 ([])), .sl true (L cApi_Value ([]))] false, .buf 4 (L cApi_Value b) false, .box [i64 c.Kind, i64 c.N, .sl true (L cU8 ([])), .bs false 4 (d.length) 0 (d.length)] false, .buf 4 (L cApi_Value d) false]⟩) ?_ ?_
 ·intro bT
  refine T0 [1, 2, 3, 6, 38, 39, 40] ?_
  refine Sb ?_
  refine Lo (fun (v : Int × List Api_Value) => (⟨Am 70 [(1, .ref 0 0), (2, .ref 1 0), (3, .bs false 2 (b.length) 0 (b.length)), (6, .ref 3 0), (38, .sl false (L Ac a.Parts)), (39, i64 (a.Parts.length : Int)), (40, i64 v.1)], [.box [i64 a.Kind, i64 a.Ref.Railway, i64 a.Ref.No, i64 a.Wagon, i64 a.Place, i64 a.Other, i64 a.Number, i64 a.From, i64 a.To, i64 a.Code, i64 a.Dest, i64 a.Class, i64 a.Weight, i64 a.Amount, .str a.Text, .sl false (L Ac a.Parts)] false, .box [i64 0, i64 0, .sl true (L cU8 ([])), .sl true (L cApi_Value ([]))] false, .buf 4 (L cApi_Value b) false, .box [i64 c.Kind, i64 c.N, .sl true (L cU8 ([])), .bs false 4 (v.2.length) 0 (v.2.length)] false, .buf 4 (L cApi_Value v.2) false]⟩ : St)) ((Gp 3 3 4 rfl rfl).trans (ws [0, 1, 2, 3, 4])) ?_
  rintro ⟨aa, e⟩ bU bl bm bn
  show D1 a aa e = some bl → _
  unfold D1
  refine T0 [1, 2, 3, 6, 38, 39, 40, 41] ?_
  refine Sq <|Cd ?_ ?_
  ·refine Sk <|Tn <|Sq <|Sb <|Ck fun bo =>Lt fun g bp =>Lt fun i bq =>Lt fun j br =>Te (σ' := [_, _, _, _, _, .box [i64 g, i64 i, .bool j] false]) [1, 2, 3, 6, 8, 38, 39, 40] Aa (Ev (by simp only [go_sem, qR bo, bp, bq, br]; exact Ad)) ?_
   refine T0 [1, 2, 3, 6, 8, 9, 38, 39, 40] ?_
   refine Ja (fun ap => ⟨Am 70 [(1, .ref 0 0), (2, .ref 1 0), (3, .bs false 2 (b.length) 0 (b.length)), (6, .ref 3 0), (8, .ref 4 0), (9, i64 ap), (38, .sl false (L Ac a.Parts)), (39, i64 (a.Parts.length : Int)), (40, i64 aa)], [.box [i64 a.Kind, i64 a.Ref.Railway, i64 a.Ref.No, i64 a.Wagon, i64 a.Place, i64 a.Other, i64 a.Number, i64 a.From, i64 a.To, i64 a.Code, i64 a.Dest, i64 a.Class, i64 a.Weight, i64 a.Amount, .str a.Text, .sl false (L Ac a.Parts)] false, .box [i64 0, i64 0, .sl true (L cU8 ([])), .sl true (L cApi_Value ([]))] false, .buf 4 (L cApi_Value b) false, .box [i64 c.Kind, i64 c.N, .sl true (L cU8 ([])), .bs false 5 (e.length) 0 (e.length)] false, .box [i64 g, i64 i, .bool j] false, .buf 4 (L cApi_Value e) false]⟩) ?_ ?_
   ·intro bV
    refine T0 [1, 2, 3, 6, 8, 9, 38, 39, 40, 45] ?_
    refine Cd ?_ ?_
    ·refine F0 [1, 2, 3, 6, 8, 9, 38, 39, 40] ?_
     exact Jm (ws [0, 1, 2, 3, 5, 4])
    ·exact Sk <|Jm (ws [0, 1, 2, 3, 5, 4])
   intro ap
   refine Bd fun bt bu =>Bd fun bv bw =>Bd fun bx bz =>Bd fun ab bA =>Ck fun aq =>Lt fun ac ar =>?_
   intro h
   refine Ue hE mixed [[], [0], [], [2], [2, 3], [], [5], [2, 3, 4, 5, 6], [], [2, 3, 4, 5, 6, 7, 8], [2, 3, 4, 5, 6, 7, 8, 9], [2, 3, 4, 5, 6, 7, 8, 9, 10], [2, 3, 4, 5, 6, 7, 8, 9, 10, 11], [0, 1, 2, 3, 4, 5, 6, 7, 8, 9, 10, 11, 12], [0, 1, 2, 3, 4, 5, 6, 7, 8, 9, 10, 11, 12, 13], [0, 1, 2, 3, 4, 5, 6, 7, 8, 9, 10, 11, 12, 13, 14]] (by kernel_rfl) 11 [0, 1] [1, 2, 3, 6, 38, 39, 40, 46] (by kernel_rfl) (Da N6) (fr' := [(1, .ref 0 0), (2, .ref 1 0), (3, .bs false 2 (b.length) 0 (b.length)), (6, .ref 3 0), (38, .sl false (L Ac a.Parts)), (39, i64 (a.Parts.length : Int)), (40, i64 aa), (46, .ref 3 3)]) (σ' := [.box [i64 a.Kind, i64 a.Ref.Railway, i64 a.Ref.No, i64 a.Wagon, i64 a.Place, i64 a.Other, i64 a.Number, i64 a.From, i64 a.To, i64 a.Code, i64 a.Dest, i64 a.Class, i64 a.Weight, i64 a.Amount, .str a.Text, .sl false (L Ac a.Parts)] false, .box [i64 0, i64 0, .sl true (L cU8 ([])), .sl true (L cApi_Value ([]))] false, .buf 4 (L cApi_Value b) false, .box [i64 c.Kind, i64 c.N, .sl true (L cU8 ([])), .bs false 5 (ac.length) 0 (ac.length)] false, .box [i64 g, i64 i, .bool j] false, .buf 4 (L cApi_Value ac) false, .buf 4 (L cApi_Value ([(Api_Value.mk ab.Kind ab.N ([]) ab.L)] : List Api_Value)) false]) ⟨_, _, _, _, _, _, _, rfl, ?_, (Ag (l := [(50, _, _, _), (53, _, _, _), (55, _, _, _)]) (m := [(57, 59, [.sl false (L cApi_Value ([bt, bv, bx] : List Api_Value))], [.box [i64 a.Kind, i64 a.Ref.Railway, i64 a.Ref.No, i64 a.Wagon, i64 a.Place, i64 a.Other, i64 a.Number, i64 a.From, i64 a.To, i64 a.Code, i64 a.Dest, i64 a.Class, i64 a.Weight, i64 a.Amount, .str a.Text, .sl false (L Ac a.Parts)] false, .box [i64 0, i64 0, .sl true (L cU8 ([])), .sl true (L cApi_Value ([]))] false, .buf 4 (L cApi_Value b) false, .box [i64 c.Kind, i64 c.N, .sl true (L cU8 ([])), .bs false 5 (e.length) 0 (e.length)] false, .box [i64 g, i64 i, .bool j] false, .buf 4 (L cApi_Value e) false], _, _)]) ⟨A4  bu, A4  bw, A4  bz, trivial⟩ ⟨(wc (Je bA) []), trivial⟩), ?_⟩ ?_
   ·subst ar; simp only [go_sem, aq]
   ·subst ar; simp only [go_sem, aq]
   revert h
   refine Bn <|Tn <|F0 [1, 2, 3, 6, 38, 39, 40] ?_
   exact Ln (ws [0, 1, 2, 3, 5])
  ·refine Sx <|Tx <|Ly bn bm <|Bx <|?_
   exact Jm ((ws (l' := [(1, .ref 0 0), (2, .ref 1 0), (3, .bs false 2 (b.length) 0 (b.length)), (6, .ref 3 0)]) (σ' := [.box [i64 a.Kind, i64 a.Ref.Railway, i64 a.Ref.No, i64 a.Wagon, i64 a.Place, i64 a.Other, i64 a.Number, i64 a.From, i64 a.To, i64 a.Code, i64 a.Dest, i64 a.Class, i64 a.Weight, i64 a.Amount, .str a.Text, .sl false (L Ac a.Parts)] false, .box [i64 0, i64 0, .sl true (L cU8 ([])), .sl true (L cApi_Value ([]))] false, .buf 4 (L cApi_Value b) false, .box [i64 c.Kind, i64 c.N, .sl true (L cU8 ([])), .bs false 4 (e.length) 0 (e.length)] false, .buf 4 (L cApi_Value e) false]) [0, 1, 2, 3, 4]).trans (ws [0, 1, 2, 3, 4]))
 intro d
 refine Rw (K4 3 3 rfl rfl rfl gs gs) ?_
 refine Bd fun k bB =>Ck fun bC =>Bd fun au bD =>Lt fun ad bE =>De (σ' := [_, .box [i64 au.Kind, i64 au.N, .sl true (L cU8 ([])), .bs false 2 (ad.length) 0 (ad.length)] false, .buf 4 (L cApi_Value ad) false, _, _, _]) [[], [], [1], [1, 2], [], [1, 2, 3, 4], [0, 1, 2, 3, 4, 5], [0, 1, 2, 3, 4, 5, 6], [0, 1, 2, 3, 4, 5, 6, 7]] [2] (Ag (l := [(65, _, _, _)]) (m := [(69, 59, [.bs false 2 ((b ++ ([k, (Api_Value.mk c.Kind c.N ([]) d)] : List Api_Value)).length) 0 ((b ++ ([k, (Api_Value.mk c.Kind c.N ([]) d)] : List Api_Value)).length)], [.box [i64 a.Kind, i64 a.Ref.Railway, i64 a.Ref.No, i64 a.Wagon, i64 a.Place, i64 a.Other, i64 a.Number, i64 a.From, i64 a.To, i64 a.Code, i64 a.Dest, i64 a.Class, i64 a.Weight, i64 a.Amount, .str a.Text, .sl false (L Ac a.Parts)] false, .box [i64 0, i64 0, .sl true (L cU8 ([])), .sl true (L cApi_Value ([]))] false, .buf 4 (L cApi_Value (b ++ ([k, (Api_Value.mk c.Kind c.N ([]) d)] : List Api_Value))) false, .box [i64 c.Kind, i64 c.N, .sl true (L cU8 ([])), .sl false (L cApi_Value d)] false, .buf 4 (L cApi_Value d) true, .buf 4 (L cApi_Value ([k, (Api_Value.mk c.Kind c.N ([]) d)] : List Api_Value)) false], _, _)]) ⟨Yh  bB, trivial⟩ ⟨(wc (Pc bD) [2]), trivial⟩) (Ev (by simp only [go_sem, bC, bE]; exact Ad)) ?_
 exact Sr <|Rr
theorem Mq {a : List UInt8} {b : List UInt8} {r : Int} (h : Hp a b = some r) : Con B 113 [.sl false (L cU8 a), .sl false (L cU8 b)] [] (fun r' σ' => r' = i64 r ∧ σ' = []) :=
 AaD Tryz.func113 (by decide +kernel) rfl (by kernel_rfl) (by kernel_rfl) h
theorem Jc {a r} (h : Ff a = some r) : Con B 112 [i64 a] [] (fun r' σ' => r' = .bool r ∧ σ' = []) := by
 refine Cw 6 [.tmp 2] Tryz.func112 (fun F hE => ?_) h
 unfold Ff
 refine T0 [0] ?_
 refine T0 [2] ?_
 exact Sr <|Rr
theorem H3 {a b r} (h : Dv a b = some r) : Con B 74 [i64 a, i64 b] [] (fun r' σ' => r' = i64 r ∧ σ' = []) := by
 refine Cw 20 [.tmp 4] Tryz.func74 (fun F hE => ?_) h
 unfold Dv
 refine T0 [0, 1] ?_
 refine Bd fun e c =>Te [0, 1, 5] (o1 8 (Jc c)) Ev ?_
 refine Bd fun f d =>Te [0, 1, 5, 6] (o1 10 (Jc d)) Ev ?_
 refine Sq <|T0 [0, 1, 6, 11] ?_
 refine Cd ?_ ?_
 ·refine Sq <|T0 [12] ?_
  refine Cd ?_ ?_
  ·refine T0 [4] ?_
   exact Sr <|Tr <|Tr <|Rr
  ·refine Sk <|Tn <|T0 [4] ?_
   exact Sr <|Tr <|Rr
 ·refine Sk <|Tn <|Sq <|T0 [0, 1, 13] ?_
  refine Cd ?_ ?_
  ·refine T0 [4] ?_
   exact Sr <|Tr <|Rr
  ·refine Sk <|Tn <|Sq <|T0 [0, 1, 16] ?_
   refine Cd ?_ ?_
   ·refine T0 [4] ?_
    exact Sr <|Tr <|Rr
   ·refine Sk <|Tn <|Sq <|T0 [19] ?_
    refine Cd ?_ ?_
    ·refine T0 [4] ?_
     exact Sr <|Tr <|Rr
    ·refine Sk <|Tn <|T0 [4] ?_
     exact Sr <|Rr
theorem N8 {a b r} (h : Fl a b = some r) : Con B 75 [.sl false (L cU8 a), .sl false (L cU8 b)] [] (fun r' σ' => r' = i64 r ∧ σ' = []) := by
 refine Cw 8 [.tmp 4] Tryz.func75 (fun F hE => ?_) h
 unfold Fl
 refine T0 [0, 1] ?_
 refine Bd fun d c =>Te [4] (o1 7 (Mq c)) Ev ?_
 exact Sr <|Rr
theorem Ik {f : Api_Value → Api_Value → Option (Int)} {s1_3072 : List Api_Value} {s2_3073 : List Api_Value} {b : Api_Value → Api_Value → Option (Int)} (h26 : ∀ {a0 : Api_Value} {a1 : Api_Value} {r : Int}, f a0 a1 = some r → Con B 26 [.agg [i64 a0.Kind, i64 a0.N, .sl false (L cU8 a0.B), .sl false (L cApi_Value a0.L)], .agg [i64 a1.Kind, i64 a1.N, .sl false (L cU8 a1.B), .sl false (L cApi_Value a1.L)]] [] (fun r' σ' => r' = i64 r ∧ σ' = [])) {a : Nat} (i : ∀ {a0 : Api_Value} {a1 : Api_Value} {r : Int}, b a0 a1 = some r → Con B a [.agg [i64 a0.Kind, i64 a0.N, .sl false (L cU8 a0.B), .sl false (L cApi_Value a0.L)], .agg [i64 a1.Kind, i64 a1.N, .sl false (L cU8 a1.B), .sl false (L cApi_Value a1.L)]] [] (fun r' σ' => r' = i64 r ∧ σ' = [])) {r : Int} (h : Cn f s1_3072 s2_3073 b = some r) : Con B 76 [.sl false (L cApi_Value s1_3072), .sl false (L cApi_Value s2_3073), .fn a []] [] (fun r' σ' => r' = i64 r ∧ σ' = []) := by
 refine Ji (N := 39) (rs := [.tmp 6]) ok Tryz.func76 rfl (by decide +kernel) rfl rfl (Nat.le_of_ble_eq_true rfl) (fun F => ?_)
 have hE := ok.env F
 unfold Cn at h
 show Run (B.env F) 0 _ ⟨Am 39 [(0, .sl false (L cApi_Value s1_3072)), (1, .sl false (L cApi_Value s2_3073)), (2, .fn a [])], []⟩ _
 refine Js ?_
 revert h
 refine T0 [0, 1, 2] ?_
 refine Jo (fun _ => ⟨Am 39 [(0, .sl false (L cApi_Value s1_3072)), (1, .sl false (L cApi_Value s2_3073))], []⟩) ?_ ?_
 ·intro ae g
  refine T0 [0, 1, 2, 11, 12, 13] ?_
  refine Sb ?_
  refine Lo (fun c => ⟨Am 39 [(0, .sl false (L cApi_Value s1_3072)), (1, .sl false (L cApi_Value s2_3073)), (2, .fn a []), (11, .sl false (L cApi_Value s1_3072)), (12, i64 (s1_3072.length : Int)), (13, i64 c)], []⟩) (ws []) ?_
  rintro c af j d e
  show B1 s1_3072 s2_3073 b c = some j → _
  unfold B1
  refine T0 [0, 1, 2, 11, 12, 13, 14] ?_
  refine Sq <|Cd ?_ ?_
  ·refine Sk <|Tn <|Sq <|Sb <|Ck fun k =>Lt fun l m =>Lt fun n o =>Lt fun p q =>Lt fun s t =>Te (σ' := [.box [i64 l, i64 n, .sl false (L cU8 p), .sl false (L cApi_Value s)] false]) [0, 1, 2, 7, 8, 11, 12, 13] Aa (Ev (by simp only [go_sem, qR k, m, o, q, t]; exact Ad)) ?_
   refine Sq <|T0 [0, 1, 2, 7, 8, 11, 12, 13, 21] ?_
   refine Cd ?_ ?_
   ·refine T0 [6] ?_
    exact Sr <|Tr <|Br <|Tr <|Lr e d <|Br <|Jr g <|Rr
   ·refine Sk <|Tn <|Ck fun u =>Lt fun v w =>Lt fun x y =>Lt fun z aa =>Lt fun ab ac =>Te (σ' := [_, .box [i64 v, i64 x, .sl false (L cU8 z), .sl false (L cApi_Value ab)] false]) [0, 1, 2, 8, 9, 11, 12, 13] Aa (Ev (by simp only [go_sem, qR u, w, y, aa, ac]; exact Ad)) ?_
    refine Bd fun ag ad =>Te [0, 1, 2, 10, 11, 12, 13] (o1 29 (i ad)) Ev ?_
    refine T0 [0, 1, 2, 10, 11, 12, 13, 31] ?_
    refine Cd ?_ ?_
    ·refine T0 [6] ?_
     exact Sr <|Br <|Tr <|Lr e d <|Br <|Jr g <|Rr
    ·refine Sk <|Bn <|Tn <|F0 [0, 1, 2, 11, 12, 13] ?_
     exact Ln (ws [])
  ·refine Sx <|Tx <|Lx e d <|Bx <|?_
   exact Jn ((ws (l' := [(0, .sl false (L cApi_Value s1_3072)), (1, .sl false (L cApi_Value s2_3073))]) (σ' := []) []).trans (ws []))
 intro _
 refine Sq <|T0 [38] ?_
 refine Cd ?_ ?_
 ·refine T0 [6] ?_
  exact Sr <|Tr <|Rr
 ·refine Sk <|Tn <|T0 [6] ?_
  exact Sr <|Rr
theorem Mu {rec_ : Api_Value → Api_Value → Option (Int)} (hrec : ∀ {a : Api_Value} {b : Api_Value} {r : Int}, rec_ a b = some r → Con B 26 [.agg [i64 a.Kind, i64 a.N, .sl false (L cU8 a.B), .sl false (L cApi_Value a.L)], .agg [i64 b.Kind, i64 b.N, .sl false (L cU8 b.B), .sl false (L cApi_Value b.L)]] [] (fun r' σ' => r' = i64 r ∧ σ' = [])) {a : Api_Value} {b : Api_Value} {r : Int} (h : D2 rec_ a b = some r) : Con B 26 [.agg [i64 a.Kind, i64 a.N, .sl false (L cU8 a.B), .sl false (L cApi_Value a.L)], .agg [i64 b.Kind, i64 b.N, .sl false (L cU8 b.B), .sl false (L cApi_Value b.L)]] [] (fun r' σ' => r' = i64 r ∧ σ' = []) := by
 refine Ji (N := 37) (rs := [.tmp 4]) ok Tryz.func26 rfl (by decide +kernel) rfl rfl (Nat.le_of_ble_eq_true rfl) (fun F => ?_)
 have hE := ok.env F
 unfold D2 at h
 show Run (B.env F) 0 _ ⟨Am 37 [(0, .agg [i64 a.Kind, i64 a.N, .sl false (L cU8 a.B), .sl false (L cApi_Value a.L)]), (1, .agg [i64 b.Kind, i64 b.N, .sl false (L cU8 b.B), .sl false (L cApi_Value b.L)])], []⟩ _
 refine Js ?_
 revert h
 refine T0 [2, 3] ?_
 refine Sq <|Bd fun g c =>Te [2, 3, 5] (o1 10 (H3 c)) Ev ?_
 refine T0 [2, 3, 5, 12] ?_
 refine Cd ?_ ?_
 ·refine T0 [4] ?_
  exact Sr <|Tr <|Rr
 ·refine Sk <|Tn <|Sq <|T0 [2, 3, 15] ?_
  refine Sb <|T0 [2, 3, 15, 16] ?_
  refine Cd ?_ ?_
  ·refine Bd fun i d =>Te [4] (o1 22 (H3 d)) Ev ?_
   exact Sr <|Br <|Tr <|Rr
  ·refine T0 [2, 3, 15, 23] ?_
   refine Cd ?_ ?_
   ·refine Bd fun j e =>Te [4] (o1 29 (N8 e)) Ev ?_
    exact Sr <|Br <|Tr <|Rr
   ·refine T0 [2, 3, 30] ?_
    refine Cd ?_ ?_
    ·refine Bd fun k f =>Te [4] (o1 36 (Ik (fun h => hrec h) (fun h => hrec h) f)) Ev ?_
     exact Sr <|Br <|Tr <|Rr
    ·refine Sk <|Bn <|Tn <|T0 [4] ?_
     exact Sr <|Rr
theorem Md (n : Nat) : ∀ {a : Api_Value} {b : Api_Value} {r : Int}, D6 n a b = some r → Con B 26 [.agg [i64 a.Kind, i64 a.N, .sl false (L cU8 a.B), .sl false (L cApi_Value a.L)], .agg [i64 b.Kind, i64 b.N, .sl false (L cU8 b.B), .sl false (L cApi_Value b.L)]] [] (fun r' σ' => r' = i64 r ∧ σ' = []) := by
  induction n with
  | zero => intro a b r h; cases h
  | succ n ih => intro a b r h; exact Mu ih h
theorem Ec {a : Api_Value} {b : Api_Value} {r : Int} (h : Jy a b = some r) : Con B 26 [.agg [i64 a.Kind, i64 a.N, .sl false (L cU8 a.B), .sl false (L cApi_Value a.L)], .agg [i64 b.Kind, i64 b.N, .sl false (L cU8 b.B), .sl false (L cApi_Value b.L)]] [] (fun r' σ' => r' = i64 r ∧ σ' = []) := Md _ h
theorem Sf {rec_ : Api_Value → Api_Value → Option (Bool)} (hrec : ∀ {a : Api_Value} {b : Api_Value} {r : Bool}, rec_ a b = some r → Con B 79 [.agg [i64 a.Kind, i64 a.N, .sl false (L cU8 a.B), .sl false (L cApi_Value a.L)], .agg [i64 b.Kind, i64 b.N, .sl false (L cU8 b.B), .sl false (L cApi_Value b.L)]] [] (fun r' σ' => r' = .bool r ∧ σ' = [])) {a : Api_Value} {b : Api_Value} {r : Bool} (h : I8 rec_ a b = some r) : Con B 79 [.agg [i64 a.Kind, i64 a.N, .sl false (L cU8 a.B), .sl false (L cApi_Value a.L)], .agg [i64 b.Kind, i64 b.N, .sl false (L cU8 b.B), .sl false (L cApi_Value b.L)]] [] (fun r' σ' => r' = .bool r ∧ σ' = []) := by
 refine Ji (N := 61) (rs := [.tmp 4]) ok Tryz.func79 rfl (by decide +kernel) rfl rfl (Nat.le_of_ble_eq_true rfl) (fun F => ?_)
 have hE := ok.env F
 unfold I8 at h
 show Run (B.env F) 0 _ ⟨Am 61 [(0, .agg [i64 a.Kind, i64 a.N, .sl false (L cU8 a.B), .sl false (L cApi_Value a.L)]), (1, .agg [i64 b.Kind, i64 b.N, .sl false (L cU8 b.B), .sl false (L cApi_Value b.L)])], []⟩ _
 refine Js ?_
 revert h
 refine T0 [2, 3] ?_
 refine Sq ?_
 refine Tw [2, 3, 41] (fun j => ⟨Am 61 [(2, .ref 0 0), (3, .ref 1 0), (41, .bool j)], [.box [i64 a.Kind, i64 a.N, .sl false (L cU8 a.B), .sl false (L cApi_Value a.L)] false, .box [i64 b.Kind, i64 b.N, .sl false (L cU8 b.B), .sl false (L cApi_Value b.L)] false]⟩) ?_ ?_
 ·intro _
  refine Sp (fun c => ?_) fun c => ?_
  ·exact Lf Aa (Ev (by simp only [go_sem, c]; exact Ad)) (ws [0, 1])
  ·refine Bd fun s e => ?_
   refine Sp (fun d => ?_) fun d => ?_
   ·exact Lf (o1 14 (Ec e)) (Ev (by simp only [go_sem, c, d]; exact Ad)) (ws [0, 1])
   ·refine Sp (fun f => ?_) fun f => ?_
    ·exact Lf (o1 14 (Ec e)) (Ev (by simp only [go_sem, c, d, f]; exact Ad)) (ws [0, 1])
    ·refine Sp (fun g => ?_) fun g => ?_
     ·exact Lf (o1 14 (Ec e)) (Ev (by simp only [go_sem, c, d, f, g]; exact Ad)) (ws [0, 1])
     ·exact Lf (o1 14 (Ec e)) (Ev (by simp only [go_sem, c, d, f, g]; exact Ad)) (ws [0, 1])
 intro j
 refine Cd ?_ ?_
 ·refine T0 [4] ?_
  exact Sr <|Tr <|Rr
 ·refine Sk <|Tn <|?_
  refine Jo (fun _ => ⟨Am 61 [], []⟩) ?_ ?_
  ·intro t m
   refine T0 [2, 3, 44, 45] ?_
   refine Sb ?_
   refine Lo (fun i => ⟨Am 61 [(2, .ref 0 0), (3, .ref 1 0), (44, i64 (a.L.length : Int)), (45, i64 i)], [.box [i64 a.Kind, i64 a.N, .sl false (L cU8 a.B), .sl false (L cApi_Value a.L)] false, .box [i64 b.Kind, i64 b.N, .sl false (L cU8 b.B), .sl false (L cApi_Value b.L)] false]⟩) (ws [0, 1]) ?_
   rintro i u n k l
   show Hw a b rec_ i = some n → _
   unfold Hw
   refine T0 [2, 3, 44, 45, 46] ?_
   refine Sq <|Cd ?_ ?_
   ·refine Sk <|Tn <|Sq <|Sb <|T0 [2, 3, 5, 44, 45] ?_
    refine Ck fun o =>Ck fun p =>Bd fun v q =>De [[], [0], [], [0, 1, 2], [0, 1, 2, 3], [], [5], [], [5, 6, 7], [5, 6, 7, 8], [0, 1, 2, 3, 4, 5, 6, 7, 8, 9], [0, 1, 2, 3, 4, 5, 6, 7, 8, 9, 10]] [2, 3, 44, 45, 59] (o1 58 (hrec q)) (Ev (by simp only [go_sem, qR o, qR p]; exact Ad)) ?_
    refine Cd ?_ ?_
    ·refine T0 [4] ?_
     exact Sr <|Br <|Tr <|Lr l k <|Br <|Jr m <|Rr
    ·refine Sk <|Bn <|Tn <|F0 [2, 3, 44, 45] ?_
     exact Ln (ws [0, 1])
   ·refine Sx <|Tx <|Lx l k <|Bx <|?_
    exact Jn ((ws (l' := []) (σ' := []) []).trans (ws []))
  intro _
  refine T0 [4] ?_
  exact Sr <|Rr
theorem S4 (n : Nat) : ∀ {a : Api_Value} {b : Api_Value} {r : Bool}, Hb n a b = some r → Con B 79 [.agg [i64 a.Kind, i64 a.N, .sl false (L cU8 a.B), .sl false (L cApi_Value a.L)], .agg [i64 b.Kind, i64 b.N, .sl false (L cU8 b.B), .sl false (L cApi_Value b.L)]] [] (fun r' σ' => r' = .bool r ∧ σ' = []) := by
  induction n with
  | zero => intro a b r h; cases h
  | succ n ih => intro a b r h; exact Sf ih h
theorem Yx {a : Api_Value} {b : Api_Value} {r : Bool} (h : P4 a b = some r) : Con B 79 [.agg [i64 a.Kind, i64 a.N, .sl false (L cU8 a.B), .sl false (L cApi_Value a.L)], .agg [i64 b.Kind, i64 b.N, .sl false (L cU8 b.B), .sl false (L cApi_Value b.L)]] [] (fun r' σ' => r' = .bool r ∧ σ' = []) := S4 _ h
theorem Dk {a r} (h : B6 a = some r) : Con B 32 [.agg [i64 a.Kind, i64 a.N, .sl false (L cU8 a.B), .sl false (L cApi_Value a.L)]] [] (fun r' σ' => r' = .tup [.agg [i64 r.1.Kind, i64 r.1.Ref.Railway, i64 r.1.Ref.No, i64 r.1.Wagon, i64 r.1.Place, i64 r.1.Other, i64 r.1.Number, i64 r.1.From, i64 r.1.To, i64 r.1.Code, i64 r.1.Dest, i64 r.1.Class, i64 r.1.Weight, i64 r.1.Amount, .str r.1.Text, .sl false (L Ac r.1.Parts)], i64 r.2] ∧ σ' = []) := by
 refine Cw 114 [.cell 2 41, .tmp 3] Tryz.func32 (fun F hE => ?_) h
 unfold B6
 refine T0 [1, 2] ?_
 refine Te [1, 2, 4] (Ag (l := []) (m := [(8, 51, [.ref 1 0], [.box [i64 a.Kind, i64 a.N, .sl false (L cU8 a.B), .sl false (L cApi_Value a.L)] false, .box [i64 0, i64 0, i64 0, i64 0, i64 0, i64 0, i64 0, i64 0, i64 0, i64 0, i64 0, i64 0, i64 0, i64 0, .str ([] : List UInt8), .sl true (L Ac ([]))] false], .agg [.ref 1 3, .ref 1 4, .ref 1 5, .ref 1 6, .ref 1 7, .ref 1 8, .ref 1 9, .ref 1 10, .ref 1 11, .ref 1 12, .ref 1 13], [.box [i64 a.Kind, i64 a.N, .sl false (L cU8 a.B), .sl false (L cApi_Value a.L)] false, .box [i64 0, i64 0, i64 0, i64 0, i64 0, i64 0, i64 0, i64 0, i64 0, i64 0, i64 0, i64 0, i64 0, i64 0, .str ([] : List UInt8), .sl true (L Ac ([]))] false])]) trivial ⟨A8, trivial⟩) Ev ?_
 refine Sq ?_
 refine Tw [1, 2, 4, 21] (fun i => ⟨Am 114 [(1, .ref 0 0), (2, .ref 1 0), (4, .ref 2 0), (21, .bool i)], [.box [i64 a.Kind, i64 a.N, .sl false (L cU8 a.B), .sl false (L cApi_Value a.L)] false, .box [i64 0, i64 0, i64 0, i64 0, i64 0, i64 0, i64 0, i64 0, i64 0, i64 0, i64 0, i64 0, i64 0, i64 0, .str ([] : List UInt8), .sl true (L Ac ([]))] false, .box [.ref 1 3, .ref 1 4, .ref 1 5, .ref 1 6, .ref 1 7, .ref 1 8, .ref 1 9, .ref 1 10, .ref 1 11, .ref 1 12, .ref 1 13] false]⟩) ?_ ?_
 ·intro _
  refine Sp (fun f => ?_) fun f => ?_
  ·exact Lf Aa (Ev (by simp only [go_sem, f]; exact Ad)) (ws [0, 1, 2])
  ·refine Ck fun aa => ?_
   exact Lf Aa (Ev (by simp only [go_sem, f, qL aa]; exact Ad)) (ws [0, 1, 2])
 intro i
 refine Cd ?_ ?_
 ·refine T0 [2, 3] ?_
  exact Sr <|Tr <|Rr
 ·refine Sk <|Tn <|Ck fun ab =>Te [1, 2, 4] Aa (Ev (by simp only [go_sem, qL ab]; exact Ad)) ?_
  refine Ck fun ac =>Ck fun ad =>Ck fun ae =>Ck fun af =>Lt fun b ag =>Lt fun c ah =>De (σ' := [_, .box [i64 ((nth a.L 0).N), i64 b, i64 c, i64 0, i64 0, i64 0, i64 0, i64 0, i64 0, i64 0, i64 0, i64 0, i64 0, i64 0, .str ([] : List UInt8), .sl true (L Ac ([]))] false, _]) [[], [0], [0, 1], [0, 1, 2], [0, 1, 2, 3], [0, 1, 2, 3, 4], [0, 1, 2, 3, 4, 5], [0, 1, 2, 3, 4, 5, 6], [], [8], [8, 9], [8, 9, 10], [8, 9, 10, 11], [8, 9, 10, 11, 12], [8, 9, 10, 11, 12, 13], [8, 9, 10, 11, 12, 13, 14], [0, 1, 2, 3, 4, 5, 6, 7, 8, 9, 10, 11, 12, 13, 14, 15], [0, 1, 2, 3, 4, 5, 6, 7, 8, 9, 10, 11, 12, 13, 14, 15, 16], [0, 1, 2, 3, 4, 5, 6, 7, 8, 9, 10, 11, 12, 13, 14, 15, 16, 17]] [1, 2, 4] Aa (Ev (by simp only [go_sem, qL ac, qL ad, qL ae, qL af, ag, ah]; exact Ad)) ?_
  refine Ja (fun _ => ⟨Am 114 [(1, .ref 0 0), (2, .ref 1 0)], [.box [i64 a.Kind, i64 a.N, .sl false (L cU8 a.B), .sl false (L cApi_Value a.L)] false, .box [i64 ((nth a.L 0).N), i64 b, i64 c, i64 ((nth a.L 2).N), i64 ((nth a.L 3).N), i64 ((nth a.L 4).N), i64 ((nth a.L 5).N), i64 ((nth a.L 6).N), i64 ((nth a.L 7).N), i64 ((nth a.L 8).N), i64 ((nth a.L 9).N), i64 ((nth a.L 10).N), i64 ((nth a.L 11).N), i64 ((nth a.L 12).N), .str ([] : List UInt8), .sl true (L Ac ([]))] false]⟩) ?_ ?_
  ·intro bc
   refine T0 [1, 2, 4, 47] ?_
   refine Sb ?_
   refine Ul 17 ?_
   refine Ug (m := 16) ?_
   refine Te [1, 2, 4, 47, 48] Aa (Ev (by simp only [go_sem, Ae, Int.reduceLT, Int.reduceAdd, Int.reduceSub, Nat.reduceMul, Nat.reduceGT, Nat.reduceLeDiff, decide_true, decide_false, Bool.false_eq_true, Int.reduceBEq, Int.reduceGT, Int.reduceLE, Int.reduceGE, beq_self_eq_true]; exact Ad)) ?_
   refine Sq <|Ct <|Sk <|Tn <|Sq <|Sb <|Te [1, 2, 4, 5, 47] Aa (Ev (by simp only [go_sem, Ae, Int.reduceLT, Int.reduceAdd, Int.reduceSub, Nat.reduceMul, Nat.reduceGT, Nat.reduceLeDiff, decide_true, decide_false, Bool.false_eq_true, Int.reduceBEq, Int.reduceGT, Int.reduceLE, Int.reduceGE, beq_self_eq_true]; exact Ad)) ?_
   have j : InR 0 11 := by decide
   have ai : w64 2 = 2 := by decide
   refine Ck fun aj =>Ge [[], [0], [0, 1], [], [3], [], [5], [3, 4, 5, 6], [3, 4, 5, 6, 7], [3, 4, 5, 6, 7, 8], [0, 1, 2, 3, 4, 5, 6, 7, 8, 9], [0, 1, 2, 3, 4, 5, 6, 7, 8, 9, 10]] [1, 2, 4, 47] Aa (Ev (by simp only [go_sem, Ae, Int.reduceLT, Int.reduceAdd, Int.reduceSub, Nat.reduceMul, Nat.reduceGT, Nat.reduceLeDiff, decide_true, decide_false, Bool.false_eq_true, Int.reduceBEq, Int.reduceGT, Int.reduceLE, Int.reduceGE, beq_self_eq_true, j, j.2, ai, qL aj]; exact Ad)) ?_
   refine Bn <|Tn <|?_
   have ak : w64 1 = 1 := by decide
   refine Fe [1, 2, 4, 47] Aa (Ev (by simp only [go_sem, Ae, Int.reduceLT, Int.reduceAdd, Int.reduceSub, Nat.reduceMul, Nat.reduceGT, Nat.reduceLeDiff, decide_true, decide_false, Bool.false_eq_true, Int.reduceBEq, Int.reduceGT, Int.reduceLE, Int.reduceGE, beq_self_eq_true, ak]; exact Ad)) ?_
   refine Un ?_
   refine Ug (m := 15) ?_
   refine Te [1, 2, 4, 47, 48] Aa (Ev (by simp only [go_sem, Ae, Int.reduceLT, Int.reduceAdd, Int.reduceSub, Nat.reduceMul, Nat.reduceGT, Nat.reduceLeDiff, decide_true, decide_false, Bool.false_eq_true, Int.reduceBEq, Int.reduceGT, Int.reduceLE, Int.reduceGE, beq_self_eq_true]; exact Ad)) ?_
   refine Sq <|Ct <|Sk <|Tn <|Sq <|Sb <|Te [1, 2, 4, 5, 47] Aa (Ev (by simp only [go_sem, Ae, Int.reduceLT, Int.reduceAdd, Int.reduceSub, Nat.reduceMul, Nat.reduceGT, Nat.reduceLeDiff, decide_true, decide_false, Bool.false_eq_true, Int.reduceBEq, Int.reduceGT, Int.reduceLE, Int.reduceGE, beq_self_eq_true]; exact Ad)) ?_
   have k : InR 1 11 := by decide
   have al : w64 3 = 3 := by decide
   refine Ck fun am =>Ge [[], [0], [0, 1], [], [3], [], [5], [3, 4, 5, 6], [3, 4, 5, 6, 7], [3, 4, 5, 6, 7, 8], [0, 1, 2, 3, 4, 5, 6, 7, 8, 9], [0, 1, 2, 3, 4, 5, 6, 7, 8, 9, 10]] [1, 2, 4, 47] Aa (Ev (by simp only [go_sem, Ae, Int.reduceLT, Int.reduceAdd, Int.reduceSub, Nat.reduceMul, Nat.reduceGT, Nat.reduceLeDiff, decide_true, decide_false, Bool.false_eq_true, Int.reduceBEq, Int.reduceGT, Int.reduceLE, Int.reduceGE, beq_self_eq_true, k, k.2, al, qL am]; exact Ad)) ?_
   refine Bn <|Tn <|?_
   have an : w64 2 = 2 := by decide
   refine Fe [1, 2, 4, 47] Aa (Ev (by simp only [go_sem, Ae, Int.reduceLT, Int.reduceAdd, Int.reduceSub, Nat.reduceMul, Nat.reduceGT, Nat.reduceLeDiff, decide_true, decide_false, Bool.false_eq_true, Int.reduceBEq, Int.reduceGT, Int.reduceLE, Int.reduceGE, beq_self_eq_true, an]; exact Ad)) ?_
   refine Un ?_
   refine Ug (m := 14) ?_
   refine Te [1, 2, 4, 47, 48] Aa (Ev (by simp only [go_sem, Ae, Int.reduceLT, Int.reduceAdd, Int.reduceSub, Nat.reduceMul, Nat.reduceGT, Nat.reduceLeDiff, decide_true, decide_false, Bool.false_eq_true, Int.reduceBEq, Int.reduceGT, Int.reduceLE, Int.reduceGE, beq_self_eq_true]; exact Ad)) ?_
   refine Sq <|Ct <|Sk <|Tn <|Sq <|Sb <|Te [1, 2, 4, 5, 47] Aa (Ev (by simp only [go_sem, Ae, Int.reduceLT, Int.reduceAdd, Int.reduceSub, Nat.reduceMul, Nat.reduceGT, Nat.reduceLeDiff, decide_true, decide_false, Bool.false_eq_true, Int.reduceBEq, Int.reduceGT, Int.reduceLE, Int.reduceGE, beq_self_eq_true]; exact Ad)) ?_
   have n : InR 2 11 := by decide
   have ao : w64 4 = 4 := by decide
   refine Ck fun ap =>Ge [[], [0], [0, 1], [], [3], [], [5], [3, 4, 5, 6], [3, 4, 5, 6, 7], [3, 4, 5, 6, 7, 8], [0, 1, 2, 3, 4, 5, 6, 7, 8, 9], [0, 1, 2, 3, 4, 5, 6, 7, 8, 9, 10]] [1, 2, 4, 47] Aa (Ev (by simp only [go_sem, Ae, Int.reduceLT, Int.reduceAdd, Int.reduceSub, Nat.reduceMul, Nat.reduceGT, Nat.reduceLeDiff, decide_true, decide_false, Bool.false_eq_true, Int.reduceBEq, Int.reduceGT, Int.reduceLE, Int.reduceGE, beq_self_eq_true, n, n.2, ao, qL ap]; exact Ad)) ?_
   refine Bn <|Tn <|?_
   have aq : w64 3 = 3 := by decide
   refine Fe [1, 2, 4, 47] Aa (Ev (by simp only [go_sem, Ae, Int.reduceLT, Int.reduceAdd, Int.reduceSub, Nat.reduceMul, Nat.reduceGT, Nat.reduceLeDiff, decide_true, decide_false, Bool.false_eq_true, Int.reduceBEq, Int.reduceGT, Int.reduceLE, Int.reduceGE, beq_self_eq_true, aq]; exact Ad)) ?_
   refine Un ?_
   refine Ug (m := 13) ?_
   refine Te [1, 2, 4, 47, 48] Aa (Ev (by simp only [go_sem, Ae, Int.reduceLT, Int.reduceAdd, Int.reduceSub, Nat.reduceMul, Nat.reduceGT, Nat.reduceLeDiff, decide_true, decide_false, Bool.false_eq_true, Int.reduceBEq, Int.reduceGT, Int.reduceLE, Int.reduceGE, beq_self_eq_true]; exact Ad)) ?_
   refine Sq <|Ct <|Sk <|Tn <|Sq <|Sb <|Te [1, 2, 4, 5, 47] Aa (Ev (by simp only [go_sem, Ae, Int.reduceLT, Int.reduceAdd, Int.reduceSub, Nat.reduceMul, Nat.reduceGT, Nat.reduceLeDiff, decide_true, decide_false, Bool.false_eq_true, Int.reduceBEq, Int.reduceGT, Int.reduceLE, Int.reduceGE, beq_self_eq_true]; exact Ad)) ?_
   have o : InR 3 11 := by decide
   have ar : w64 5 = 5 := by decide
   refine Ck fun au =>Ge [[], [0], [0, 1], [], [3], [], [5], [3, 4, 5, 6], [3, 4, 5, 6, 7], [3, 4, 5, 6, 7, 8], [0, 1, 2, 3, 4, 5, 6, 7, 8, 9], [0, 1, 2, 3, 4, 5, 6, 7, 8, 9, 10]] [1, 2, 4, 47] Aa (Ev (by simp only [go_sem, Ae, Int.reduceLT, Int.reduceAdd, Int.reduceSub, Nat.reduceMul, Nat.reduceGT, Nat.reduceLeDiff, decide_true, decide_false, Bool.false_eq_true, Int.reduceBEq, Int.reduceGT, Int.reduceLE, Int.reduceGE, beq_self_eq_true, o, o.2, ar, qL au]; exact Ad)) ?_
   refine Bn <|Tn <|?_
   have av : w64 4 = 4 := by decide
   refine Fe [1, 2, 4, 47] Aa (Ev (by simp only [go_sem, Ae, Int.reduceLT, Int.reduceAdd, Int.reduceSub, Nat.reduceMul, Nat.reduceGT, Nat.reduceLeDiff, decide_true, decide_false, Bool.false_eq_true, Int.reduceBEq, Int.reduceGT, Int.reduceLE, Int.reduceGE, beq_self_eq_true, av]; exact Ad)) ?_
   refine Un ?_
   refine Ug (m := 12) ?_
   refine Te [1, 2, 4, 47, 48] Aa (Ev (by simp only [go_sem, Ae, Int.reduceLT, Int.reduceAdd, Int.reduceSub, Nat.reduceMul, Nat.reduceGT, Nat.reduceLeDiff, decide_true, decide_false, Bool.false_eq_true, Int.reduceBEq, Int.reduceGT, Int.reduceLE, Int.reduceGE, beq_self_eq_true]; exact Ad)) ?_
   refine Sq <|Ct <|Sk <|Tn <|Sq <|Sb <|Te [1, 2, 4, 5, 47] Aa (Ev (by simp only [go_sem, Ae, Int.reduceLT, Int.reduceAdd, Int.reduceSub, Nat.reduceMul, Nat.reduceGT, Nat.reduceLeDiff, decide_true, decide_false, Bool.false_eq_true, Int.reduceBEq, Int.reduceGT, Int.reduceLE, Int.reduceGE, beq_self_eq_true]; exact Ad)) ?_
   have p : InR 4 11 := by decide
   have aw : w64 6 = 6 := by decide
   refine Ck fun ax =>Ge [[], [0], [0, 1], [], [3], [], [5], [3, 4, 5, 6], [3, 4, 5, 6, 7], [3, 4, 5, 6, 7, 8], [0, 1, 2, 3, 4, 5, 6, 7, 8, 9], [0, 1, 2, 3, 4, 5, 6, 7, 8, 9, 10]] [1, 2, 4, 47] Aa (Ev (by simp only [go_sem, Ae, Int.reduceLT, Int.reduceAdd, Int.reduceSub, Nat.reduceMul, Nat.reduceGT, Nat.reduceLeDiff, decide_true, decide_false, Bool.false_eq_true, Int.reduceBEq, Int.reduceGT, Int.reduceLE, Int.reduceGE, beq_self_eq_true, p, p.2, aw, qL ax]; exact Ad)) ?_
   refine Bn <|Tn <|?_
   have ay : w64 5 = 5 := by decide
   refine Fe [1, 2, 4, 47] Aa (Ev (by simp only [go_sem, Ae, Int.reduceLT, Int.reduceAdd, Int.reduceSub, Nat.reduceMul, Nat.reduceGT, Nat.reduceLeDiff, decide_true, decide_false, Bool.false_eq_true, Int.reduceBEq, Int.reduceGT, Int.reduceLE, Int.reduceGE, beq_self_eq_true, ay]; exact Ad)) ?_
   refine Un ?_
   refine Ug (m := 11) ?_
   refine Te [1, 2, 4, 47, 48] Aa (Ev (by simp only [go_sem, Ae, Int.reduceLT, Int.reduceAdd, Int.reduceSub, Nat.reduceMul, Nat.reduceGT, Nat.reduceLeDiff, decide_true, decide_false, Bool.false_eq_true, Int.reduceBEq, Int.reduceGT, Int.reduceLE, Int.reduceGE, beq_self_eq_true]; exact Ad)) ?_
   refine Sq <|Ct <|Sk <|Tn <|Sq <|Sb <|Te [1, 2, 4, 5, 47] Aa (Ev (by simp only [go_sem, Ae, Int.reduceLT, Int.reduceAdd, Int.reduceSub, Nat.reduceMul, Nat.reduceGT, Nat.reduceLeDiff, decide_true, decide_false, Bool.false_eq_true, Int.reduceBEq, Int.reduceGT, Int.reduceLE, Int.reduceGE, beq_self_eq_true]; exact Ad)) ?_
   have q : InR 5 11 := by decide
   have az : w64 7 = 7 := by decide
   refine Ck fun aA =>Ge [[], [0], [0, 1], [], [3], [], [5], [3, 4, 5, 6], [3, 4, 5, 6, 7], [3, 4, 5, 6, 7, 8], [0, 1, 2, 3, 4, 5, 6, 7, 8, 9], [0, 1, 2, 3, 4, 5, 6, 7, 8, 9, 10]] [1, 2, 4, 47] Aa (Ev (by simp only [go_sem, Ae, Int.reduceLT, Int.reduceAdd, Int.reduceSub, Nat.reduceMul, Nat.reduceGT, Nat.reduceLeDiff, decide_true, decide_false, Bool.false_eq_true, Int.reduceBEq, Int.reduceGT, Int.reduceLE, Int.reduceGE, beq_self_eq_true, q, q.2, az, qL aA]; exact Ad)) ?_
   refine Bn <|Tn <|?_
   have aB : w64 6 = 6 := by decide
   refine Fe [1, 2, 4, 47] Aa (Ev (by simp only [go_sem, Ae, Int.reduceLT, Int.reduceAdd, Int.reduceSub, Nat.reduceMul, Nat.reduceGT, Nat.reduceLeDiff, decide_true, decide_false, Bool.false_eq_true, Int.reduceBEq, Int.reduceGT, Int.reduceLE, Int.reduceGE, beq_self_eq_true, aB]; exact Ad)) ?_
   refine Un ?_
   refine Ug (m := 10) ?_
   refine Te [1, 2, 4, 47, 48] Aa (Ev (by simp only [go_sem, Ae, Int.reduceLT, Int.reduceAdd, Int.reduceSub, Nat.reduceMul, Nat.reduceGT, Nat.reduceLeDiff, decide_true, decide_false, Bool.false_eq_true, Int.reduceBEq, Int.reduceGT, Int.reduceLE, Int.reduceGE, beq_self_eq_true]; exact Ad)) ?_
   refine Sq <|Ct <|Sk <|Tn <|Sq <|Sb <|Te [1, 2, 4, 5, 47] Aa (Ev (by simp only [go_sem, Ae, Int.reduceLT, Int.reduceAdd, Int.reduceSub, Nat.reduceMul, Nat.reduceGT, Nat.reduceLeDiff, decide_true, decide_false, Bool.false_eq_true, Int.reduceBEq, Int.reduceGT, Int.reduceLE, Int.reduceGE, beq_self_eq_true]; exact Ad)) ?_
   have s : InR 6 11 := by decide
   have aC : w64 8 = 8 := by decide
   refine Ck fun aD =>Ge [[], [0], [0, 1], [], [3], [], [5], [3, 4, 5, 6], [3, 4, 5, 6, 7], [3, 4, 5, 6, 7, 8], [0, 1, 2, 3, 4, 5, 6, 7, 8, 9], [0, 1, 2, 3, 4, 5, 6, 7, 8, 9, 10]] [1, 2, 4, 47] Aa (Ev (by simp only [go_sem, Ae, Int.reduceLT, Int.reduceAdd, Int.reduceSub, Nat.reduceMul, Nat.reduceGT, Nat.reduceLeDiff, decide_true, decide_false, Bool.false_eq_true, Int.reduceBEq, Int.reduceGT, Int.reduceLE, Int.reduceGE, beq_self_eq_true, s, s.2, aC, qL aD]; exact Ad)) ?_
   refine Bn <|Tn <|?_
   have aE : w64 7 = 7 := by decide
   refine Fe [1, 2, 4, 47] Aa (Ev (by simp only [go_sem, Ae, Int.reduceLT, Int.reduceAdd, Int.reduceSub, Nat.reduceMul, Nat.reduceGT, Nat.reduceLeDiff, decide_true, decide_false, Bool.false_eq_true, Int.reduceBEq, Int.reduceGT, Int.reduceLE, Int.reduceGE, beq_self_eq_true, aE]; exact Ad)) ?_
   refine Un ?_
   refine Ug (m := 9) ?_
   refine Te [1, 2, 4, 47, 48] Aa (Ev (by simp only [go_sem, Ae, Int.reduceLT, Int.reduceAdd, Int.reduceSub, Nat.reduceMul, Nat.reduceGT, Nat.reduceLeDiff, decide_true, decide_false, Bool.false_eq_true, Int.reduceBEq, Int.reduceGT, Int.reduceLE, Int.reduceGE, beq_self_eq_true]; exact Ad)) ?_
   refine Sq <|Ct <|Sk <|Tn <|Sq <|Sb <|Te [1, 2, 4, 5, 47] Aa (Ev (by simp only [go_sem, Ae, Int.reduceLT, Int.reduceAdd, Int.reduceSub, Nat.reduceMul, Nat.reduceGT, Nat.reduceLeDiff, decide_true, decide_false, Bool.false_eq_true, Int.reduceBEq, Int.reduceGT, Int.reduceLE, Int.reduceGE, beq_self_eq_true]; exact Ad)) ?_
   have t : InR 7 11 := by decide
   have aF : w64 9 = 9 := by decide
   refine Ck fun aG =>Ge [[], [0], [0, 1], [], [3], [], [5], [3, 4, 5, 6], [3, 4, 5, 6, 7], [3, 4, 5, 6, 7, 8], [0, 1, 2, 3, 4, 5, 6, 7, 8, 9], [0, 1, 2, 3, 4, 5, 6, 7, 8, 9, 10]] [1, 2, 4, 47] Aa (Ev (by simp only [go_sem, Ae, Int.reduceLT, Int.reduceAdd, Int.reduceSub, Nat.reduceMul, Nat.reduceGT, Nat.reduceLeDiff, decide_true, decide_false, Bool.false_eq_true, Int.reduceBEq, Int.reduceGT, Int.reduceLE, Int.reduceGE, beq_self_eq_true, t, t.2, aF, qL aG]; exact Ad)) ?_
   refine Bn <|Tn <|?_
   have aH : w64 8 = 8 := by decide
   refine Fe [1, 2, 4, 47] Aa (Ev (by simp only [go_sem, Ae, Int.reduceLT, Int.reduceAdd, Int.reduceSub, Nat.reduceMul, Nat.reduceGT, Nat.reduceLeDiff, decide_true, decide_false, Bool.false_eq_true, Int.reduceBEq, Int.reduceGT, Int.reduceLE, Int.reduceGE, beq_self_eq_true, aH]; exact Ad)) ?_
   refine Un ?_
   refine Ug (m := 8) ?_
   refine Te [1, 2, 4, 47, 48] Aa (Ev (by simp only [go_sem, Ae, Int.reduceLT, Int.reduceAdd, Int.reduceSub, Nat.reduceMul, Nat.reduceGT, Nat.reduceLeDiff, decide_true, decide_false, Bool.false_eq_true, Int.reduceBEq, Int.reduceGT, Int.reduceLE, Int.reduceGE, beq_self_eq_true]; exact Ad)) ?_
   refine Sq <|Ct <|Sk <|Tn <|Sq <|Sb <|Te [1, 2, 4, 5, 47] Aa (Ev (by simp only [go_sem, Ae, Int.reduceLT, Int.reduceAdd, Int.reduceSub, Nat.reduceMul, Nat.reduceGT, Nat.reduceLeDiff, decide_true, decide_false, Bool.false_eq_true, Int.reduceBEq, Int.reduceGT, Int.reduceLE, Int.reduceGE, beq_self_eq_true]; exact Ad)) ?_
   have u : InR 8 11 := by decide
   have aI : w64 10 = 10 := by decide
   refine Ck fun aJ =>Ge [[], [0], [0, 1], [], [3], [], [5], [3, 4, 5, 6], [3, 4, 5, 6, 7], [3, 4, 5, 6, 7, 8], [0, 1, 2, 3, 4, 5, 6, 7, 8, 9], [0, 1, 2, 3, 4, 5, 6, 7, 8, 9, 10]] [1, 2, 4, 47] Aa (Ev (by simp only [go_sem, Ae, Int.reduceLT, Int.reduceAdd, Int.reduceSub, Nat.reduceMul, Nat.reduceGT, Nat.reduceLeDiff, decide_true, decide_false, Bool.false_eq_true, Int.reduceBEq, Int.reduceGT, Int.reduceLE, Int.reduceGE, beq_self_eq_true, u, u.2, aI, qL aJ]; exact Ad)) ?_
   refine Bn <|Tn <|?_
   have aK : w64 9 = 9 := by decide
   refine Fe [1, 2, 4, 47] Aa (Ev (by simp only [go_sem, Ae, Int.reduceLT, Int.reduceAdd, Int.reduceSub, Nat.reduceMul, Nat.reduceGT, Nat.reduceLeDiff, decide_true, decide_false, Bool.false_eq_true, Int.reduceBEq, Int.reduceGT, Int.reduceLE, Int.reduceGE, beq_self_eq_true, aK]; exact Ad)) ?_
   refine Un ?_
   refine Ug (m := 7) ?_
   refine Te [1, 2, 4, 47, 48] Aa (Ev (by simp only [go_sem, Ae, Int.reduceLT, Int.reduceAdd, Int.reduceSub, Nat.reduceMul, Nat.reduceGT, Nat.reduceLeDiff, decide_true, decide_false, Bool.false_eq_true, Int.reduceBEq, Int.reduceGT, Int.reduceLE, Int.reduceGE, beq_self_eq_true]; exact Ad)) ?_
   refine Sq <|Ct <|Sk <|Tn <|Sq <|Sb <|Te [1, 2, 4, 5, 47] Aa (Ev (by simp only [go_sem, Ae, Int.reduceLT, Int.reduceAdd, Int.reduceSub, Nat.reduceMul, Nat.reduceGT, Nat.reduceLeDiff, decide_true, decide_false, Bool.false_eq_true, Int.reduceBEq, Int.reduceGT, Int.reduceLE, Int.reduceGE, beq_self_eq_true]; exact Ad)) ?_
   have w : InR 9 11 := by decide
   have aL : w64 11 = 11 := by decide
   refine Ck fun aM =>Ge [[], [0], [0, 1], [], [3], [], [5], [3, 4, 5, 6], [3, 4, 5, 6, 7], [3, 4, 5, 6, 7, 8], [0, 1, 2, 3, 4, 5, 6, 7, 8, 9], [0, 1, 2, 3, 4, 5, 6, 7, 8, 9, 10]] [1, 2, 4, 47] Aa (Ev (by simp only [go_sem, Ae, Int.reduceLT, Int.reduceAdd, Int.reduceSub, Nat.reduceMul, Nat.reduceGT, Nat.reduceLeDiff, decide_true, decide_false, Bool.false_eq_true, Int.reduceBEq, Int.reduceGT, Int.reduceLE, Int.reduceGE, beq_self_eq_true, w, w.2, aL, qL aM]; exact Ad)) ?_
   refine Bn <|Tn <|?_
   have aN : w64 10 = 10 := by decide
   refine Fe [1, 2, 4, 47] Aa (Ev (by simp only [go_sem, Ae, Int.reduceLT, Int.reduceAdd, Int.reduceSub, Nat.reduceMul, Nat.reduceGT, Nat.reduceLeDiff, decide_true, decide_false, Bool.false_eq_true, Int.reduceBEq, Int.reduceGT, Int.reduceLE, Int.reduceGE, beq_self_eq_true, aN]; exact Ad)) ?_
   refine Un ?_
   refine Ug (m := 6) ?_
   refine Te [1, 2, 4, 47, 48] Aa (Ev (by simp only [go_sem, Ae, Int.reduceLT, Int.reduceAdd, Int.reduceSub, Nat.reduceMul, Nat.reduceGT, Nat.reduceLeDiff, decide_true, decide_false, Bool.false_eq_true, Int.reduceBEq, Int.reduceGT, Int.reduceLE, Int.reduceGE, beq_self_eq_true]; exact Ad)) ?_
   refine Sq <|Ct <|Sk <|Tn <|Sq <|Sb <|Te [1, 2, 4, 5, 47] Aa (Ev (by simp only [go_sem, Ae, Int.reduceLT, Int.reduceAdd, Int.reduceSub, Nat.reduceMul, Nat.reduceGT, Nat.reduceLeDiff, decide_true, decide_false, Bool.false_eq_true, Int.reduceBEq, Int.reduceGT, Int.reduceLE, Int.reduceGE, beq_self_eq_true]; exact Ad)) ?_
   have x : InR 10 11 := by decide
   have aO : w64 12 = 12 := by decide
   refine Ck fun aP =>Ge [[], [0], [0, 1], [], [3], [], [5], [3, 4, 5, 6], [3, 4, 5, 6, 7], [3, 4, 5, 6, 7, 8], [0, 1, 2, 3, 4, 5, 6, 7, 8, 9], [0, 1, 2, 3, 4, 5, 6, 7, 8, 9, 10]] [1, 2, 4, 47] Aa (Ev (by simp only [go_sem, Ae, Int.reduceLT, Int.reduceAdd, Int.reduceSub, Nat.reduceMul, Nat.reduceGT, Nat.reduceLeDiff, decide_true, decide_false, Bool.false_eq_true, Int.reduceBEq, Int.reduceGT, Int.reduceLE, Int.reduceGE, beq_self_eq_true, x, x.2, aO, qL aP]; exact Ad)) ?_
   refine Bn <|Tn <|?_
   have aQ : w64 11 = 11 := by decide
   refine Fe [1, 2, 4, 47] Aa (Ev (by simp only [go_sem, Ae, Int.reduceLT, Int.reduceAdd, Int.reduceSub, Nat.reduceMul, Nat.reduceGT, Nat.reduceLeDiff, decide_true, decide_false, Bool.false_eq_true, Int.reduceBEq, Int.reduceGT, Int.reduceLE, Int.reduceGE, beq_self_eq_true, aQ]; exact Ad)) ?_
   refine Un ?_
   refine Ug (m := 5) ?_
   refine Te [1, 2, 4, 47, 48] Aa (Ev (by simp only [go_sem, Ae, Int.reduceLT, Int.reduceAdd, Int.reduceSub, Nat.reduceMul, Nat.reduceGT, Nat.reduceLeDiff, decide_true, decide_false, Bool.false_eq_true, Int.reduceBEq, Int.reduceGT, Int.reduceLE, Int.reduceGE, beq_self_eq_true]; exact Ad)) ?_
   exact Sq <|Cf <|Sx <|Tx <|Ux <|Bx <|Jm (ws [0, 1])
  intro _
  refine Ck fun aR =>Te [1, 2] Aa (Ev (by simp only [go_sem, qL aR]; exact Ad)) ?_
  refine Jo (fun d => ⟨Am 114 [(1, .ref 0 0), (2, .ref 1 0)], [.box [i64 a.Kind, i64 a.N, .sl false (L cU8 a.B), .sl false (L cApi_Value a.L)] false, .box [i64 ((nth a.L 0).N), i64 b, i64 c, i64 ((nth a.L 2).N), i64 ((nth a.L 3).N), i64 ((nth a.L 4).N), i64 ((nth a.L 5).N), i64 ((nth a.L 6).N), i64 ((nth a.L 7).N), i64 ((nth a.L 8).N), i64 ((nth a.L 9).N), i64 ((nth a.L 10).N), i64 ((nth a.L 11).N), i64 ((nth a.L 12).N), .str ((nth a.L 13).B), .bs false 2 (d.length) 0 (d.length)] false, .buf 3 (L Ac d) false]⟩) ?_ ?_
  ·intro bd aS
   refine Ck fun aT =>Te [1, 2, 73, 74, 75] Aa (Ev (by simp only [go_sem, qL aT]; exact Ad)) ?_
   refine Sb ?_
   refine Lo (fun (v : Int × List Api_Part) => (⟨Am 114 [(1, .ref 0 0), (2, .ref 1 0), (73, .sl false (L cApi_Value ((nth a.L 14).L))), (74, i64 (((nth a.L 14).L).length : Int)), (75, i64 v.1)], [.box [i64 a.Kind, i64 a.N, .sl false (L cU8 a.B), .sl false (L cApi_Value a.L)] false, .box [i64 ((nth a.L 0).N), i64 b, i64 c, i64 ((nth a.L 2).N), i64 ((nth a.L 3).N), i64 ((nth a.L 4).N), i64 ((nth a.L 5).N), i64 ((nth a.L 6).N), i64 ((nth a.L 7).N), i64 ((nth a.L 8).N), i64 ((nth a.L 9).N), i64 ((nth a.L 10).N), i64 ((nth a.L 11).N), i64 ((nth a.L 12).N), .str ((nth a.L 13).B), .bs false 2 (v.2.length) 0 (v.2.length)] false, .buf 3 (L Ac v.2) false]⟩ : St)) ((Gp 1 15 3 rfl rfl).trans (ws [0, 1, 2])) ?_
   rintro ⟨aU, e⟩ be aV y z
   show C9 a aU e = some aV → _
   unfold C9
   refine T0 [1, 2, 73, 74, 75, 76] ?_
   refine Sq <|Cd ?_ ?_
   ·refine Sk <|Tn <|Sq <|Sb <|Ck fun aW =>Lt fun aX aY =>Lt fun aZ a0 =>Lt fun a1 a2 =>Lt fun a3 a4 =>Te (σ' := [_, _, _, .box [i64 aX, i64 aZ, .sl false (L cU8 a1), .sl false (L cApi_Value a3)] false]) [1, 2, 7, 73, 74, 75] Aa (Ev (by simp only [go_sem, qR aW, aY, a0, a2, a4]; exact Ad)) ?_
    refine Sq <|T0 [1, 2, 7, 73, 74, 75, 82] ?_
    refine Cd ?_ ?_
    ·refine T0 [2, 3] ?_
     exact Sr <|Tr <|Br <|Tr <|Lr z y <|Br <|Jr aS <|Rr
    ·refine Sk <|Tn <|Ck fun a5 =>Ck fun a6 =>Ck fun a7 =>Ck fun a8 =>Lt fun g a9 =>Ge (σ' := [_, .box [i64 ((nth a.L 0).N), i64 b, i64 c, i64 ((nth a.L 2).N), i64 ((nth a.L 3).N), i64 ((nth a.L 4).N), i64 ((nth a.L 5).N), i64 ((nth a.L 6).N), i64 ((nth a.L 7).N), i64 ((nth a.L 8).N), i64 ((nth a.L 9).N), i64 ((nth a.L 10).N), i64 ((nth a.L 11).N), i64 ((nth a.L 12).N), .str ((nth a.L 13).B), .bs false 2 (g.length) 0 (g.length)] false, .buf 3 (L Ac g) false, _, _]) [[], [0], [], [2], [2, 3], [2, 3, 4], [2, 3, 4, 5], [], [7], [7, 8], [7, 8, 9], [7, 8, 9, 10], [], [12], [12, 13], [12, 13, 14], [12, 13, 14, 15], [12, 13, 14, 15, 16], [2, 3, 4, 5, 6, 7, 8, 9, 10, 11, 12, 13, 14, 15, 16, 17], [2, 3, 4, 5, 6, 7, 8, 9, 10, 11, 12, 13, 14, 15, 16, 17, 18], [0, 1, 2, 3, 4, 5, 6, 7, 8, 9, 10, 11, 12, 13, 14, 15, 16, 17, 18, 19], [0, 1, 2, 3, 4, 5, 6, 7, 8, 9, 10, 11, 12, 13, 14, 15, 16, 17, 18, 19, 20], [0, 1, 2, 3, 4, 5, 6, 7, 8, 9, 10, 11, 12, 13, 14, 15, 16, 17, 18, 19, 20, 21]] [1, 2, 73, 74, 75] Aa (Ev (by simp only [go_sem, qL a5, qL a6, qL a7, a8, a9]; exact Ad)) ?_
     refine Bn <|Tn <|F0 [1, 2, 73, 74, 75] ?_
     exact Ln (ws [0, 1, 2])
   ·refine Sx <|Tx <|Lx z y <|Bx <|?_
    exact Jn ((ws (l' := [(1, .ref 0 0), (2, .ref 1 0)]) (σ' := [.box [i64 a.Kind, i64 a.N, .sl false (L cU8 a.B), .sl false (L cApi_Value a.L)] false, .box [i64 ((nth a.L 0).N), i64 b, i64 c, i64 ((nth a.L 2).N), i64 ((nth a.L 3).N), i64 ((nth a.L 4).N), i64 ((nth a.L 5).N), i64 ((nth a.L 6).N), i64 ((nth a.L 7).N), i64 ((nth a.L 8).N), i64 ((nth a.L 9).N), i64 ((nth a.L 10).N), i64 ((nth a.L 11).N), i64 ((nth a.L 12).N), .str ((nth a.L 13).B), .bs false 2 (e.length) 0 (e.length)] false, .buf 3 (L Ac e) false]) [0, 1, 2]).trans (ws [0, 1, 2]))
  intro d
  refine Sq ?_
  refine Rw (K4 1 15 rfl rfl rfl gs gs) ?_
  refine Bd fun bf ba =>Bd fun bg bb =>De [[], [0], [], [0, 1, 2], [0, 1, 2, 3]] [2, 111] (o2 108 (Fi ba) 110 (Yx bb)) Ev ?_
  refine Cd ?_ ?_
  ·refine T0 [2, 3] ?_
   exact Sr <|Tr <|Rr
  ·refine Sk <|Tn <|T0 [2, 3] ?_
   exact Sr <|Rr
theorem Nf {a b r} (h : I6 a b = some r) : Con B 104 [i64 a, i64 b] [] (fun r' σ' => r' = i64 r ∧ σ' = []) := by
 refine Cw 11 [.tmp 4] Tryz.func104 (fun F hE => ?_) h
 unfold I6
 refine T0 [0, 1] ?_
 refine Sq <|T0 [0, 1, 7] ?_
 refine Cd ?_ ?_
 ·refine T0 [4] ?_
  exact Sr <|Tr <|Rr
 ·refine Sk <|Tn <|Sq <|T0 [10] ?_
  refine Cd ?_ ?_
  ·refine T0 [4] ?_
   exact Sr <|Tr <|Rr
  ·refine Sk <|Tn <|T0 [4] ?_
   exact Sr <|Rr
theorem Ia {a b r} (h : Ek a b = some r) : Con B 57 [.sl false (L cU8 a), .sl false (L cU8 b)] [] (fun r' σ' => r' = i64 r ∧ σ' = []) := by
 refine Cw 43 [.tmp 4] Tryz.func57 (fun F hE => ?_) h
 unfold Ek
 refine T0 [0, 1] ?_
 refine Jo (fun _ => ⟨Am 43 [(0, .sl false (L cU8 a)), (1, .sl false (L cU8 b))], []⟩) ?_ ?_
 ·intro q i
  refine T0 [0, 1, 5] ?_
  refine Sb ?_
  refine Lo (fun c => ⟨Am 43 [(0, .sl false (L cU8 a)), (1, .sl false (L cU8 b)), (5, i64 c)], []⟩) (ws []) ?_
  rintro c s j e f
  show C0 a b c = some j → _
  unfold C0
  refine Sq ?_
  refine Tw [0, 1, 5, 15] (fun g => ⟨Am 43 [(0, .sl false (L cU8 a)), (1, .sl false (L cU8 b)), (5, i64 c), (15, .bool g)], []⟩) ?_ ?_
  ·intro _
   refine Sp (fun d => ?_) fun d => ?_
   ·exact Lf Aa (Ev (by simp only [go_sem, d]; exact Ad)) (ws [])
   ·exact Lf Aa (Ev (by simp only [go_sem, d]; exact Ad)) (ws [])
  intro g
  refine Cd ?_ ?_
  ·refine Sk <|Tn <|Sq <|Sb <|Ck fun k =>Ck fun l =>De [[], [], [0, 1], [0, 1, 2], [], [], [4, 5], [4, 5, 6], [0, 1, 2, 3, 4, 5, 6, 7]] [0, 1, 5, 26] Aa (Ev (by simp only [go_sem, qR k, qR l]; exact Ad)) ?_
   refine Cd ?_ ?_
   ·refine Ck fun m =>Ck fun n =>Bd fun t o =>De [[], [], [0, 1], [0, 1, 2], [0, 1, 2, 3], [], [], [5, 6], [5, 6, 7], [5, 6, 7, 8], [0, 1, 2, 3, 4, 5, 6, 7, 8, 9], [0, 1, 2, 3, 4, 5, 6, 7, 8, 9, 10]] [4] (o1 37 (Nf o)) (Ev (by simp only [go_sem, qR m, qR n]; exact Ad)) ?_
    exact Sr <|Br <|Tr <|Lr f e <|Br <|Jr i <|Rr
   ·refine Sk <|Bn <|Tn <|F0 [0, 1, 5] ?_
    exact Ln (ws [])
  ·refine Sx <|Tx <|Lx f e <|Bx <|?_
   exact Jn ((ws (l' := [(0, .sl false (L cU8 a)), (1, .sl false (L cU8 b))]) (σ' := []) []).trans (ws []))
 intro _
 refine Bd fun u p =>Te [4] (o1 42 (Nf p)) Ev ?_
 exact Sr <|Rr
theorem S0 {rec_ : Api_Value → Api_Value → Option (Bool)} (hrec : ∀ {a : Api_Value} {b : Api_Value} {r : Bool}, rec_ a b = some r → Con B 20 [.agg [i64 a.Kind, i64 a.N, .sl false (L cU8 a.B), .sl false (L cApi_Value a.L)], .agg [i64 b.Kind, i64 b.N, .sl false (L cU8 b.B), .sl false (L cApi_Value b.L)]] [] (fun r' σ' => r' = .bool r ∧ σ' = [])) {a : Api_Value} {b : Api_Value} {r : Bool} (h : I0 rec_ a b = some r) : Con B 20 [.agg [i64 a.Kind, i64 a.N, .sl false (L cU8 a.B), .sl false (L cApi_Value a.L)], .agg [i64 b.Kind, i64 b.N, .sl false (L cU8 b.B), .sl false (L cApi_Value b.L)]] [] (fun r' σ' => r' = .bool r ∧ σ' = []) := by
 refine Ji (N := 54) (rs := [.tmp 4]) ok Tryz.func20 rfl (by decide +kernel) rfl rfl (Nat.le_of_ble_eq_true rfl) (fun F => ?_)
 have hE := ok.env F
 unfold I0 at h
 show Run (B.env F) 0 _ ⟨Am 54 [(0, .agg [i64 a.Kind, i64 a.N, .sl false (L cU8 a.B), .sl false (L cApi_Value a.L)]), (1, .agg [i64 b.Kind, i64 b.N, .sl false (L cU8 b.B), .sl false (L cApi_Value b.L)])], []⟩ _
 refine Js ?_
 revert h
 refine T0 [2, 3] ?_
 refine Sq ?_
 refine Tw [2, 3, 34] (fun g => ⟨Am 54 [(2, .ref 0 0), (3, .ref 1 0), (34, .bool g)], [.box [i64 a.Kind, i64 a.N, .sl false (L cU8 a.B), .sl false (L cApi_Value a.L)] false, .box [i64 b.Kind, i64 b.N, .sl false (L cU8 b.B), .sl false (L cApi_Value b.L)] false]⟩) ?_ ?_
 ·intro _
  refine Sp (fun c => ?_) fun c => ?_
  ·exact Lf Aa (Ev (by simp only [go_sem, c]; exact Ad)) (ws [0, 1])
  ·refine Sp (fun d => ?_) fun d => ?_
   ·exact Lf Aa (Ev (by simp only [go_sem, c, d]; exact Ad)) (ws [0, 1])
   ·refine Bd fun q i => ?_
    refine Sp (fun e => ?_) fun e => ?_
    ·exact Lf (o1 23 (Ia i)) (Ev (by simp only [go_sem, c, d, e]; exact Ad)) (ws [0, 1])
    ·exact Lf (o1 23 (Ia i)) (Ev (by simp only [go_sem, c, d, e]; exact Ad)) (ws [0, 1])
 intro g
 refine Cd ?_ ?_
 ·refine T0 [4] ?_
  exact Sr <|Tr <|Rr
 ·refine Sk <|Tn <|?_
  refine Jo (fun _ => ⟨Am 54 [], []⟩) ?_ ?_
  ·intro s l
   refine T0 [2, 3, 5] ?_
   refine Sb ?_
   refine Lo (fun f => ⟨Am 54 [(2, .ref 0 0), (3, .ref 1 0), (5, i64 f)], [.box [i64 a.Kind, i64 a.N, .sl false (L cU8 a.B), .sl false (L cApi_Value a.L)] false, .box [i64 b.Kind, i64 b.N, .sl false (L cU8 b.B), .sl false (L cApi_Value b.L)] false]⟩) (ws [0, 1]) ?_
   rintro f t m j k
   show F4 a b rec_ f = some m → _
   unfold F4
   refine Sq <|T0 [2, 3, 5, 39] ?_
   refine Cd ?_ ?_
   ·refine Sk <|Tn <|Sq <|Sb <|Ck fun n =>Ck fun o =>Bd fun u p =>De [[], [0], [], [0, 1, 2], [0, 1, 2, 3], [], [5], [], [5, 6, 7], [5, 6, 7, 8], [0, 1, 2, 3, 4, 5, 6, 7, 8, 9], [0, 1, 2, 3, 4, 5, 6, 7, 8, 9, 10]] [2, 3, 5, 53] (o1 52 (hrec p)) (Ev (by simp only [go_sem, qR n, qR o]; exact Ad)) ?_
    refine Cd ?_ ?_
    ·refine T0 [4] ?_
     exact Sr <|Br <|Tr <|Lr k j <|Br <|Jr l <|Rr
    ·refine Sk <|Bn <|Tn <|F0 [2, 3, 5] ?_
     exact Ln (ws [0, 1])
   ·refine Sx <|Tx <|Lx k j <|Bx <|?_
    exact Jn ((ws (l' := []) (σ' := []) []).trans (ws []))
  intro _
  refine T0 [4] ?_
  exact Sr <|Rr
theorem S8 (n : Nat) : ∀ {a : Api_Value} {b : Api_Value} {r : Bool}, Di n a b = some r → Con B 20 [.agg [i64 a.Kind, i64 a.N, .sl false (L cU8 a.B), .sl false (L cApi_Value a.L)], .agg [i64 b.Kind, i64 b.N, .sl false (L cU8 b.B), .sl false (L cApi_Value b.L)]] [] (fun r' σ' => r' = .bool r ∧ σ' = []) := by
  induction n with
  | zero => intro a b r h; cases h
  | succ n ih => intro a b r h; exact S0 ih h
theorem Ye {a : Api_Value} {b : Api_Value} {r : Bool} (h : Wi a b = some r) : Con B 20 [.agg [i64 a.Kind, i64 a.N, .sl false (L cU8 a.B), .sl false (L cApi_Value a.L)], .agg [i64 b.Kind, i64 b.N, .sl false (L cU8 b.B), .sl false (L cApi_Value b.L)]] [] (fun r' σ' => r' = .bool r ∧ σ' = []) := S8 _ h
theorem Nk {a b r} (h : Hv a b = some r) : Con B 72 [.agg [i64 a.Kind, i64 a.Ref.Railway, i64 a.Ref.No, i64 a.Wagon, i64 a.Place, i64 a.Other, i64 a.Number, i64 a.From, i64 a.To, i64 a.Code, i64 a.Dest, i64 a.Class, i64 a.Weight, i64 a.Amount, .str a.Text, .sl false (L Ac a.Parts)], u8 b] [] (fun r' σ' => r' = i64 r ∧ σ' = []) := by
 refine Cw 48 [.tmp 4] Tryz.func72 (fun F hE => ?_) h
 unfold Hv
 refine T0 [1, 2] ?_
 refine Sq <|T0 [2, 5] ?_
 refine Sb <|T0 [2, 5, 6] ?_
 refine Cd ?_ ?_
 ·refine T0 [4] ?_
  exact Sr <|Br <|Tr <|Rr
 ·refine T0 [2, 5, 10] ?_
  refine Cd ?_ ?_
  ·refine T0 [4] ?_
   exact Sr <|Br <|Tr <|Rr
  ·refine T0 [2, 5, 14] ?_
   refine Cd ?_ ?_
   ·refine T0 [4] ?_
    exact Sr <|Br <|Tr <|Rr
   ·refine T0 [2, 5, 18] ?_
    refine Cd ?_ ?_
    ·refine T0 [4] ?_
     exact Sr <|Br <|Tr <|Rr
    ·refine T0 [2, 5, 22] ?_
     refine Cd ?_ ?_
     ·refine T0 [4] ?_
      exact Sr <|Br <|Tr <|Rr
     ·refine T0 [2, 5, 26] ?_
      refine Cd ?_ ?_
      ·refine T0 [4] ?_
       exact Sr <|Br <|Tr <|Rr
      ·refine T0 [2, 5, 30] ?_
       refine Cd ?_ ?_
       ·refine T0 [4] ?_
        exact Sr <|Br <|Tr <|Rr
       ·refine T0 [2, 5, 34] ?_
        refine Cd ?_ ?_
        ·refine T0 [4] ?_
         exact Sr <|Br <|Tr <|Rr
        ·refine T0 [2, 5, 38] ?_
         refine Cd ?_ ?_
         ·refine T0 [4] ?_
          exact Sr <|Br <|Tr <|Rr
         ·refine T0 [2, 42] ?_
          refine Cd ?_ ?_
          ·refine T0 [4] ?_
           exact Sr <|Br <|Tr <|Rr
          ·refine Sk <|Bn <|Tn <|T0 [4] ?_
           exact Sr <|Rr
end Go.Proofs.YtnfoiocigicdnaaGreatDoor
