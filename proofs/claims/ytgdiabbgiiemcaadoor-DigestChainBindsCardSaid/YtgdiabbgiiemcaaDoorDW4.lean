/-
  The functions compute just that.
-/
import Derived.Test.YtgdiabbgiiemcaaDoorDW3
import Derived.KernelRfl
namespace Go.Proofs.YtgdiabbgiiemcaaDoor
open Go.Rv
set_option linter.unusedVariables false
set_option linter.unusedSimpArgs false
set_option maxRecDepth 20000

theorem digest_block_con {h_1436 : Arr UInt32 8} {b_1437 : List UInt8} {r : Arr UInt32 8} (h : digest_block h_1436 b_1437 = some r) : Con B 36 [.agg (C1 u32 h_1436.l), .sl false (L cU8 b_1437)] [] (fun r' σ' => r' = .agg (C1 u32 r.l) ∧ σ' = []) := by
  refine con_walk (N := 195) (rs := [.cell 4 56]) ok Tryd.func36 rfl (by decide +kernel) rfl rfl (Nat.le_of_ble_eq_true rfl) (fun F => ?_)
  have hE := ok.env F
  unfold digest_block at h
  show Run (B.env F) 0 _ ⟨asFr 195 [(0, .agg (C1 u32 h_1436.l)), (1, .sl false (L cU8 b_1437))], []⟩ _
  refine run_textE hE [1, 2, 4] (fr' := [(1, .sl false (L cU8 b_1437)), (2, .ref 0 0), (4, .ref 1 0)]) (σ' := [.box (C1 u32 h_1436.l) false, .box (C1 u32 ((Arr.rep 8 (0 : UInt32))).l) false]) ⟨_, orcs_nil, ?_⟩ ?_
  · simp only [go_sem, reduceIte, Nat.reduceLT, Nat.reduceEqDiff, Nat.reduceAdd, Nat.reduceBEq, Nat.reduceMul, Nat.reduceSub, Nat.reduceGT, Nat.reducePow, Nat.reduceLeDiff, Int.reduceToNat]
  refine run_textE hE [1, 2, 4, 5] (fr' := [(1, .sl false (L cU8 b_1437)), (2, .ref 0 0), (4, .ref 1 0), (5, .ref 2 0)]) (σ' := [.box (C1 u32 h_1436.l) false, .box (C1 u32 ((Arr.rep 8 (0 : UInt32))).l) false, .box (C1 u32 ((Arr.rep 64 (0 : UInt32))).l) false]) ⟨_, orcs_nil, ?_⟩ ?_
  · simp only [go_sem, reduceIte, Nat.reduceLT, Nat.reduceEqDiff, Nat.reduceAdd, Nat.reduceBEq, Nat.reduceMul, Nat.reduceSub, Nat.reduceGT, Nat.reducePow, Nat.reduceLeDiff, Int.reduceToNat]
  replace h := bind_some1 h; obtain ⟨j_1468, hA_1469, hj_1470⟩ := h
  refine run_join (fun (v : Arr UInt32 64) => (⟨asFr 195 [(2, .ref 0 0), (4, .ref 1 0), (5, .ref 2 0)], [.box (C1 u32 h_1436.l) false, .box (C1 u32 ((Arr.rep 8 (0 : UInt32))).l) false, .box (C1 u32 v.l) false]⟩ : St)) (fun v => v = j_1468) ?_ ?_
  · have h := hA_1469; clear hA_1469
    refine run_textE hE [1, 2, 4, 5, 19] (fr' := [(1, .sl false (L cU8 b_1437)), (2, .ref 0 0), (4, .ref 1 0), (5, .ref 2 0), (19, i64 0)]) (σ' := [.box (C1 u32 h_1436.l) false, .box (C1 u32 ((Arr.rep 8 (0 : UInt32))).l) false, .box (C1 u32 ((Arr.rep 64 (0 : UInt32))).l) false]) ⟨_, orcs_nil, ?_⟩ ?_
    · simp only [go_sem, reduceIte, Nat.reduceLT, Nat.reduceEqDiff, Nat.reduceAdd, Nat.reduceBEq, Nat.reduceMul, Nat.reduceSub, Nat.reduceGT, Nat.reducePow, Nat.reduceLeDiff, Int.reduceToNat]
    refine run_block ?_
    replace h := bind_some1 h; obtain ⟨x_1488, hx_1489, hj_1490⟩ := h
    refine run_loopO hx_1489 (fun (v : Int × Arr UInt32 64) => (⟨asFr 195 [(1, .sl false (L cU8 b_1437)), (2, .ref 0 0), (4, .ref 1 0), (5, .ref 2 0), (19, i64 v.1)], [.box (C1 u32 h_1436.l) false, .box (C1 u32 ((Arr.rep 8 (0 : UInt32))).l) false, .box (C1 u32 v.2.l) false]⟩ : St)) (weak_sel [0, 1, 2] (by decide) rfl (by simp only [go_sem, reduceIte, Nat.reduceLT, Nat.reduceEqDiff, Nat.reduceAdd, Nat.reduceBEq, Nat.reduceMul, Nat.reduceSub, Nat.reduceGT, Nat.reducePow, Nat.reduceLeDiff, Int.reduceToNat]) (by simp only [go_sem, reduceIte, Nat.reduceLT, Nat.reduceEqDiff, Nat.reduceAdd, Nat.reduceBEq, Nat.reduceMul, Nat.reduceSub, Nat.reduceGT, Nat.reducePow, Nat.reduceLeDiff, Int.reduceToNat])) ?_
    rintro ⟨t_1478, f_1479⟩ o_1491 h hxx_1492
    replace h : digest_block_b1 b_1437 t_1478 f_1479 = some o_1491 := h
    unfold digest_block_b1 at h
    refine run_textE hE [1, 2, 4, 5, 19, 20] (fr' := [(1, .sl false (L cU8 b_1437)), (2, .ref 0 0), (4, .ref 1 0), (5, .ref 2 0), (19, i64 t_1478), (20, .bool ((decide (t_1478 < 16))))]) (σ' := [.box (C1 u32 h_1436.l) false, .box (C1 u32 ((Arr.rep 8 (0 : UInt32))).l) false, .box (C1 u32 f_1479.l) false]) ⟨_, orcs_nil, ?_⟩ ?_
    · simp only [go_sem, reduceIte, Nat.reduceLT, Nat.reduceEqDiff, Nat.reduceAdd, Nat.reduceBEq, Nat.reduceMul, Nat.reduceSub, Nat.reduceGT, Nat.reducePow, Nat.reduceLeDiff, Int.reduceToNat]
    refine run_seq ?_
    refine run_condL (b := (decide (t_1478 < 16))) rfl (by decide) (fun hb => ?_) (fun hb => ?_)
    · replace h := ite_t h hb
      refine run_skip ?_
      refine thenK_n ?_
      refine run_seq ?_
      refine run_block ?_
      refine run_textE hE [1, 2, 4, 5, 6, 19] (fr' := [(1, .sl false (L cU8 b_1437)), (2, .ref 0 0), (4, .ref 1 0), (5, .ref 2 0), (6, i64 t_1478), (19, i64 t_1478)]) (σ' := [.box (C1 u32 h_1436.l) false, .box (C1 u32 ((Arr.rep 8 (0 : UInt32))).l) false, .box (C1 u32 f_1479.l) false]) ⟨_, orcs_nil, ?_⟩ ?_
      · simp only [go_sem, reduceIte, Nat.reduceLT, Nat.reduceEqDiff, Nat.reduceAdd, Nat.reduceBEq, Nat.reduceMul, Nat.reduceSub, Nat.reduceGT, Nat.reducePow, Nat.reduceLeDiff, Int.reduceToNat]
      replace h := chk_some h; obtain ⟨hc_1493, h⟩ := h
      replace h := chk_some h; obtain ⟨hc_1494, h⟩ := h
      replace h := chk_some h; obtain ⟨hc_1495, h⟩ := h
      replace h := chk_some h; obtain ⟨hc_1496, h⟩ := h
      replace h := chk_some h; obtain ⟨hc_1497, h⟩ := h
      replace h := lt1_some h; obtain ⟨f_1498, hz_1499, h⟩ := h
      refine run_drawE0 hE mixed [[], [], [], [2], [1, 2, 3], [1, 2, 3, 4], [1, 2, 3, 4, 5], [1, 2, 3, 4, 5, 6], [], [], [9], [9, 10], [8, 9, 10, 11], [8, 9, 10, 11, 12], [8, 9, 10, 11, 12, 13], [8, 9, 10, 11, 12, 13, 14], [1, 2, 3, 4, 5, 6, 7, 8, 9, 10, 11, 12, 13, 14, 15], [], [], [18], [18, 19], [17, 18, 19, 20], [17, 18, 19, 20, 21], [17, 18, 19, 20, 21, 22], [17, 18, 19, 20, 21, 22, 23], [1, 2, 3, 4, 5, 6, 7, 8, 9, 10, 11, 12, 13, 14, 15, 16, 17, 18, 19, 20, 21, 22, 23, 24], [], [], [27], [27, 28], [26, 27, 28, 29], [26, 27, 28, 29, 30], [26, 27, 28, 29, 30, 31], [1, 2, 3, 4, 5, 6, 7, 8, 9, 10, 11, 12, 13, 14, 15, 16, 17, 18, 19, 20, 21, 22, 23, 24, 25, 26, 27, 28, 29, 30, 31, 32], [0, 1, 2, 3, 4, 5, 6, 7, 8, 9, 10, 11, 12, 13, 14, 15, 16, 17, 18, 19, 20, 21, 22, 23, 24, 25, 26, 27, 28, 29, 30, 31, 32, 33], [0, 1, 2, 3, 4, 5, 6, 7, 8, 9, 10, 11, 12, 13, 14, 15, 16, 17, 18, 19, 20, 21, 22, 23, 24, 25, 26, 27, 28, 29, 30, 31, 32, 33, 34]] (by kernel_rfl) (by kernel_rfl) (wk_block wk_then) [1, 2, 4, 5, 19] (fr' := [(1, .sl false (L cU8 b_1437)), (2, .ref 0 0), (4, .ref 1 0), (5, .ref 2 0), (19, i64 t_1478)]) (σ' := [.box (C1 u32 h_1436.l) false, .box (C1 u32 ((Arr.rep 8 (0 : UInt32))).l) false, .box (C1 u32 f_1498.l) false]) ⟨_, orcs_nil, ?_⟩ ?_
      · subst hz_1499; simp only [go_sem, reduceIte, Nat.reduceLT, Nat.reduceEqDiff, Nat.reduceAdd, Nat.reduceBEq, Nat.reduceMul, Nat.reduceSub, Nat.reduceGT, Nat.reducePow, Nat.reduceLeDiff, Int.reduceToNat, hc_1493, hc_1493.2, lt_le hc_1493.2, hc_1494, hc_1494.2, lt_le hc_1494.2, hc_1495, hc_1495.2, lt_le hc_1495.2, hc_1496, hc_1496.2, lt_le hc_1496.2, hc_1497, hc_1497.2, lt_le hc_1497.2]
      refine blockK_n ?_
      refine thenK_n ?_
      refine run_textE0 hE wk_lp [1, 2, 4, 5, 19] (fr' := [(1, .sl false (L cU8 b_1437)), (2, .ref 0 0), (4, .ref 1 0), (5, .ref 2 0), (19, i64 ((w64 (t_1478 + 1))))]) (σ' := [.box (C1 u32 h_1436.l) false, .box (C1 u32 ((Arr.rep 8 (0 : UInt32))).l) false, .box (C1 u32 f_1498.l) false]) ⟨_, orcs_nil, ?_⟩ ?_
      · simp only [go_sem, reduceIte, Nat.reduceLT, Nat.reduceEqDiff, Nat.reduceAdd, Nat.reduceBEq, Nat.reduceMul, Nat.reduceSub, Nat.reduceGT, Nat.reducePow, Nat.reduceLeDiff, Int.reduceToNat]
      obtain rfl := Option.some.inj h
      exact lpK_n (((w64 (t_1478 + 1)), f_1498)) rfl (weak_sel [0, 1, 2] (by decide) rfl (by simp only [go_sem, reduceIte, Nat.reduceLT, Nat.reduceEqDiff, Nat.reduceAdd, Nat.reduceBEq, Nat.reduceMul, Nat.reduceSub, Nat.reduceGT, Nat.reducePow, Nat.reduceLeDiff, Int.reduceToNat]) (by simp only [go_sem, reduceIte, Nat.reduceLT, Nat.reduceEqDiff, Nat.reduceAdd, Nat.reduceBEq, Nat.reduceMul, Nat.reduceSub, Nat.reduceGT, Nat.reducePow, Nat.reduceLeDiff, Int.reduceToNat]))
    · replace h := ite_f h hb
      refine run_exit ?_
      refine thenK_x ?_
      obtain rfl := Option.some.inj h
      have ex_x_1488 := hxx_1492 _ rfl
      subst ex_x_1488
      have h := hj_1490; clear hj_1490
      refine lpK_x ?_
      refine blockK_x ?_
      obtain rfl := Option.some.inj h
      exact joinK_n f_1479 rfl ((weak_sel (l' := [(2, .ref 0 0), (4, .ref 1 0), (5, .ref 2 0)]) (σ' := [.box (C1 u32 h_1436.l) false, .box (C1 u32 ((Arr.rep 8 (0 : UInt32))).l) false, .box (C1 u32 f_1479.l) false]) [0, 1, 2] (by decide) rfl (by simp only [go_sem, reduceIte, Nat.reduceLT, Nat.reduceEqDiff, Nat.reduceAdd, Nat.reduceBEq, Nat.reduceMul, Nat.reduceSub, Nat.reduceGT, Nat.reducePow, Nat.reduceLeDiff, Int.reduceToNat]) (by simp only [go_sem, reduceIte, Nat.reduceLT, Nat.reduceEqDiff, Nat.reduceAdd, Nat.reduceBEq, Nat.reduceMul, Nat.reduceSub, Nat.reduceGT, Nat.reducePow, Nat.reduceLeDiff, Int.reduceToNat])).trans (weak_sel [0, 1, 2] (by decide) rfl (by simp only [go_sem, reduceIte, Nat.reduceLT, Nat.reduceEqDiff, Nat.reduceAdd, Nat.reduceBEq, Nat.reduceMul, Nat.reduceSub, Nat.reduceGT, Nat.reducePow, Nat.reduceLeDiff, Int.reduceToNat]) (by simp only [go_sem, reduceIte, Nat.reduceLT, Nat.reduceEqDiff, Nat.reduceAdd, Nat.reduceBEq, Nat.reduceMul, Nat.reduceSub, Nat.reduceGT, Nat.reducePow, Nat.reduceLeDiff, Int.reduceToNat])))
  rintro f_1467 rfl
  have h := hj_1470; clear hj_1470
  replace h := bind_some1 h; obtain ⟨j_1578, hA_1579, hj_1580⟩ := h
  refine run_join (fun (v : Arr UInt32 64) => (⟨asFr 195 [(2, .ref 0 0), (4, .ref 1 0), (5, .ref 2 0)], [.box (C1 u32 h_1436.l) false, .box (C1 u32 ((Arr.rep 8 (0 : UInt32))).l) false, .box (C1 u32 v.l) false]⟩ : St)) (fun v => v = j_1578) ?_ ?_
  · have h := hA_1579; clear hA_1579
    refine run_textE hE [2, 4, 5, 7] (fr' := [(2, .ref 0 0), (4, .ref 1 0), (5, .ref 2 0), (7, i64 16)]) (σ' := [.box (C1 u32 h_1436.l) false, .box (C1 u32 ((Arr.rep 8 (0 : UInt32))).l) false, .box (C1 u32 f_1467.l) false]) ⟨_, orcs_nil, ?_⟩ ?_
    · simp only [go_sem, reduceIte, Nat.reduceLT, Nat.reduceEqDiff, Nat.reduceAdd, Nat.reduceBEq, Nat.reduceMul, Nat.reduceSub, Nat.reduceGT, Nat.reducePow, Nat.reduceLeDiff, Int.reduceToNat]
    refine run_block ?_
    replace h := bind_some1 h; obtain ⟨x_1630, hx_1631, hj_1632⟩ := h
    refine run_loopO hx_1631 (fun (v : Int × Arr UInt32 64) => (⟨asFr 195 [(2, .ref 0 0), (4, .ref 1 0), (5, .ref 2 0), (7, i64 v.1)], [.box (C1 u32 h_1436.l) false, .box (C1 u32 ((Arr.rep 8 (0 : UInt32))).l) false, .box (C1 u32 v.2.l) false]⟩ : St)) (weak_sel [0, 1, 2] (by decide) rfl (by simp only [go_sem, reduceIte, Nat.reduceLT, Nat.reduceEqDiff, Nat.reduceAdd, Nat.reduceBEq, Nat.reduceMul, Nat.reduceSub, Nat.reduceGT, Nat.reducePow, Nat.reduceLeDiff, Int.reduceToNat]) (by simp only [go_sem, reduceIte, Nat.reduceLT, Nat.reduceEqDiff, Nat.reduceAdd, Nat.reduceBEq, Nat.reduceMul, Nat.reduceSub, Nat.reduceGT, Nat.reducePow, Nat.reduceLeDiff, Int.reduceToNat])) ?_
    rintro ⟨i_1604, f_1605⟩ o_1633 h hxx_1634
    replace h : digest_block_b2 i_1604 f_1605 = some o_1633 := h
    unfold digest_block_b2 at h
    refine run_seq ?_
    refine run_textE hE [2, 4, 5, 7, 59] (fr' := [(2, .ref 0 0), (4, .ref 1 0), (5, .ref 2 0), (7, i64 i_1604), (59, .bool ((decide (i_1604 < 64))))]) (σ' := [.box (C1 u32 h_1436.l) false, .box (C1 u32 ((Arr.rep 8 (0 : UInt32))).l) false, .box (C1 u32 f_1605.l) false]) ⟨_, orcs_nil, ?_⟩ ?_
    · simp only [go_sem, reduceIte, Nat.reduceLT, Nat.reduceEqDiff, Nat.reduceAdd, Nat.reduceBEq, Nat.reduceMul, Nat.reduceSub, Nat.reduceGT, Nat.reducePow, Nat.reduceLeDiff, Int.reduceToNat]
    refine run_condL (b := (decide (i_1604 < 64))) rfl (by decide) (fun hb => ?_) (fun hb => ?_)
    · replace h := ite_t h hb
      refine run_skip ?_
      refine thenK_n ?_
      refine run_seq ?_
      refine run_block ?_
      replace h := chk_some h; obtain ⟨hc_1635, h⟩ := h
      replace h := chk_some h; obtain ⟨hc_1636, h⟩ := h
      replace h := lt1_some h; obtain ⟨x_1637, hz_1639, h⟩ := h
      replace h := lt1_some h; obtain ⟨y_1638, hz_1640, h⟩ := h
      refine run_drawE hE mixed [[], [0], [0, 1], [0, 1, 2], [], [4], [4, 5], [4, 5, 6], [0, 1, 2, 3], [0, 1, 2, 3, 4, 5, 6, 7, 8]] (by kernel_rfl) (by kernel_rfl) [2, 4, 5, 7, 8, 9] (fr' := [(2, .ref 0 0), (4, .ref 1 0), (5, .ref 2 0), (7, i64 i_1604), (8, u32 x_1637), (9, u32 y_1638)]) (σ' := [.box (C1 u32 h_1436.l) false, .box (C1 u32 ((Arr.rep 8 (0 : UInt32))).l) false, .box (C1 u32 f_1605.l) false]) ⟨_, orcs_nil, ?_⟩ ?_
      · subst hz_1640; subst hz_1639; simp only [go_sem, reduceIte, Nat.reduceLT, Nat.reduceEqDiff, Nat.reduceAdd, Nat.reduceBEq, Nat.reduceMul, Nat.reduceSub, Nat.reduceGT, Nat.reducePow, Nat.reduceLeDiff, Int.reduceToNat, hc_1635, hc_1635.2, lt_le hc_1635.2, hc_1636, hc_1636.2, lt_le hc_1636.2]
      replace h := bind_some1 h; obtain ⟨y_1641, hy_1643, h⟩ := h
      replace h := bind_some1 h; obtain ⟨y_1642, hy_1644, h⟩ := h
      replace h := lt1_some h; obtain ⟨s0_1645, hz_1646, h⟩ := h
      refine run_textE hE [2, 4, 5, 7, 9, 10] (fr' := [(2, .ref 0 0), (4, .ref 1 0), (5, .ref 2 0), (7, i64 i_1604), (9, u32 y_1638), (10, u32 s0_1645)]) (σ' := [.box (C1 u32 h_1436.l) false, .box (C1 u32 ((Arr.rep 8 (0 : UInt32))).l) false, .box (C1 u32 f_1605.l) false]) ⟨_, orcs_ok (l := [(71, 43, [u32 x_1637, i64 ((-7))], u32 y_1641), (73, 43, [u32 x_1637, i64 ((-18))], u32 y_1642)]) ⟨bits_RotateLeft32_con hy_1643, bits_RotateLeft32_con hy_1644, trivial⟩, ?_⟩ ?_
      · subst hz_1646; simp only [go_sem, reduceIte, Nat.reduceLT, Nat.reduceEqDiff, Nat.reduceAdd, Nat.reduceBEq, Nat.reduceMul, Nat.reduceSub, Nat.reduceGT, Nat.reducePow, Nat.reduceLeDiff, Int.reduceToNat]
      replace h := bind_some1 h; obtain ⟨y_1647, hy_1649, h⟩ := h
      replace h := bind_some1 h; obtain ⟨y_1648, hy_1650, h⟩ := h
      replace h := lt1_some h; obtain ⟨s1_1651, hz_1652, h⟩ := h
      refine run_textE hE [2, 4, 5, 7, 10, 11] (fr' := [(2, .ref 0 0), (4, .ref 1 0), (5, .ref 2 0), (7, i64 i_1604), (10, u32 s0_1645), (11, u32 s1_1651)]) (σ' := [.box (C1 u32 h_1436.l) false, .box (C1 u32 ((Arr.rep 8 (0 : UInt32))).l) false, .box (C1 u32 f_1605.l) false]) ⟨_, orcs_ok (l := [(79, 43, [u32 y_1638, i64 ((-17))], u32 y_1647), (81, 43, [u32 y_1638, i64 ((-19))], u32 y_1648)]) ⟨bits_RotateLeft32_con hy_1649, bits_RotateLeft32_con hy_1650, trivial⟩, ?_⟩ ?_
      · subst hz_1652; simp only [go_sem, reduceIte, Nat.reduceLT, Nat.reduceEqDiff, Nat.reduceAdd, Nat.reduceBEq, Nat.reduceMul, Nat.reduceSub, Nat.reduceGT, Nat.reducePow, Nat.reduceLeDiff, Int.reduceToNat]
      replace h := chk_some h; obtain ⟨hc_1653, h⟩ := h
      replace h := chk_some h; obtain ⟨hc_1654, h⟩ := h
      replace h := chk_some h; obtain ⟨hc_1655, h⟩ := h
      replace h := lt1_some h; obtain ⟨f_1656, hz_1657, h⟩ := h
      refine run_drawE0 hE mixed [[], [], [1], [1, 2], [1, 2, 3], [], [1, 2, 3, 4, 5], [], [7], [7, 8], [7, 8, 9], [1, 2, 3, 4, 5, 6, 7, 8, 9, 10], [], [1, 2, 3, 4, 5, 6, 7, 8, 9, 10, 11, 12], [0, 1, 2, 3, 4, 5, 6, 7, 8, 9, 10, 11, 12, 13], [0, 1, 2, 3, 4, 5, 6, 7, 8, 9, 10, 11, 12, 13, 14]] (by kernel_rfl) (by kernel_rfl) (wk_block wk_then) [2, 4, 5, 7] (fr' := [(2, .ref 0 0), (4, .ref 1 0), (5, .ref 2 0), (7, i64 i_1604)]) (σ' := [.box (C1 u32 h_1436.l) false, .box (C1 u32 ((Arr.rep 8 (0 : UInt32))).l) false, .box (C1 u32 f_1656.l) false]) ⟨_, orcs_nil, ?_⟩ ?_
      · subst hz_1657; simp only [go_sem, reduceIte, Nat.reduceLT, Nat.reduceEqDiff, Nat.reduceAdd, Nat.reduceBEq, Nat.reduceMul, Nat.reduceSub, Nat.reduceGT, Nat.reducePow, Nat.reduceLeDiff, Int.reduceToNat, hc_1653, hc_1653.2, lt_le hc_1653.2, hc_1654, hc_1654.2, lt_le hc_1654.2, hc_1655, hc_1655.2, lt_le hc_1655.2]
      refine blockK_n ?_
      refine thenK_n ?_
      refine run_textE0 hE wk_lp [2, 4, 5, 7] (fr' := [(2, .ref 0 0), (4, .ref 1 0), (5, .ref 2 0), (7, i64 ((w64 (i_1604 + 1))))]) (σ' := [.box (C1 u32 h_1436.l) false, .box (C1 u32 ((Arr.rep 8 (0 : UInt32))).l) false, .box (C1 u32 f_1656.l) false]) ⟨_, orcs_nil, ?_⟩ ?_
      · simp only [go_sem, reduceIte, Nat.reduceLT, Nat.reduceEqDiff, Nat.reduceAdd, Nat.reduceBEq, Nat.reduceMul, Nat.reduceSub, Nat.reduceGT, Nat.reducePow, Nat.reduceLeDiff, Int.reduceToNat]
      obtain rfl := Option.some.inj h
      exact lpK_n (((w64 (i_1604 + 1)), f_1656)) rfl (weak_sel [0, 1, 2] (by decide) rfl (by simp only [go_sem, reduceIte, Nat.reduceLT, Nat.reduceEqDiff, Nat.reduceAdd, Nat.reduceBEq, Nat.reduceMul, Nat.reduceSub, Nat.reduceGT, Nat.reducePow, Nat.reduceLeDiff, Int.reduceToNat]) (by simp only [go_sem, reduceIte, Nat.reduceLT, Nat.reduceEqDiff, Nat.reduceAdd, Nat.reduceBEq, Nat.reduceMul, Nat.reduceSub, Nat.reduceGT, Nat.reducePow, Nat.reduceLeDiff, Int.reduceToNat]))
    · replace h := ite_f h hb
      refine run_exit ?_
      refine thenK_x ?_
      obtain rfl := Option.some.inj h
      have ex_x_1630 := hxx_1634 _ rfl
      subst ex_x_1630
      have h := hj_1632; clear hj_1632
      refine lpK_x ?_
      refine blockK_x ?_
      obtain rfl := Option.some.inj h
      exact joinK_n f_1605 rfl ((weak_sel (l' := [(2, .ref 0 0), (4, .ref 1 0), (5, .ref 2 0)]) (σ' := [.box (C1 u32 h_1436.l) false, .box (C1 u32 ((Arr.rep 8 (0 : UInt32))).l) false, .box (C1 u32 f_1605.l) false]) [0, 1, 2] (by decide) rfl (by simp only [go_sem, reduceIte, Nat.reduceLT, Nat.reduceEqDiff, Nat.reduceAdd, Nat.reduceBEq, Nat.reduceMul, Nat.reduceSub, Nat.reduceGT, Nat.reducePow, Nat.reduceLeDiff, Int.reduceToNat]) (by simp only [go_sem, reduceIte, Nat.reduceLT, Nat.reduceEqDiff, Nat.reduceAdd, Nat.reduceBEq, Nat.reduceMul, Nat.reduceSub, Nat.reduceGT, Nat.reducePow, Nat.reduceLeDiff, Int.reduceToNat])).trans (weak_sel [0, 1, 2] (by decide) rfl (by simp only [go_sem, reduceIte, Nat.reduceLT, Nat.reduceEqDiff, Nat.reduceAdd, Nat.reduceBEq, Nat.reduceMul, Nat.reduceSub, Nat.reduceGT, Nat.reducePow, Nat.reduceLeDiff, Int.reduceToNat]) (by simp only [go_sem, reduceIte, Nat.reduceLT, Nat.reduceEqDiff, Nat.reduceAdd, Nat.reduceBEq, Nat.reduceMul, Nat.reduceSub, Nat.reduceGT, Nat.reducePow, Nat.reduceLeDiff, Int.reduceToNat])))
  rintro f_1577 rfl
  have h := hj_1580; clear hj_1580
  refine run_textE hE [2, 4, 5, 12] (fr' := [(2, .ref 0 0), (4, .ref 1 0), (5, .ref 2 0), (12, .ref 3 0)]) (σ' := [.box (C1 u32 h_1436.l) false, .box (C1 u32 ((Arr.rep 8 (0 : UInt32))).l) false, .box (C1 u32 f_1577.l) false, .box (C1 u32 h_1436.l) false]) ⟨_, orcs_nil, ?_⟩ ?_
  · simp only [go_sem, reduceIte, Nat.reduceLT, Nat.reduceEqDiff, Nat.reduceAdd, Nat.reduceBEq, Nat.reduceMul, Nat.reduceSub, Nat.reduceGT, Nat.reducePow, Nat.reduceLeDiff, Int.reduceToNat]
  replace h := bind_some1 h; obtain ⟨j_1769, hA_1770, hj_1771⟩ := h
  refine run_join (fun (v : Arr UInt32 8) => (⟨asFr 195 [(2, .ref 0 0), (4, .ref 1 0), (12, .ref 2 0)], [.box (C1 u32 h_1436.l) false, .box (C1 u32 ((Arr.rep 8 (0 : UInt32))).l) false, .box (C1 u32 v.l) false]⟩ : St)) (fun v => v = j_1769) ?_ ?_
  · have h := hA_1770; clear hA_1770
    refine run_textE hE [2, 4, 5, 12, 102] (fr' := [(2, .ref 0 0), (4, .ref 1 0), (5, .ref 2 0), (12, .ref 3 0), (102, i64 0)]) (σ' := [.box (C1 u32 h_1436.l) false, .box (C1 u32 ((Arr.rep 8 (0 : UInt32))).l) false, .box (C1 u32 f_1577.l) false, .box (C1 u32 h_1436.l) false]) ⟨_, orcs_nil, ?_⟩ ?_
    · simp only [go_sem, reduceIte, Nat.reduceLT, Nat.reduceEqDiff, Nat.reduceAdd, Nat.reduceBEq, Nat.reduceMul, Nat.reduceSub, Nat.reduceGT, Nat.reducePow, Nat.reduceLeDiff, Int.reduceToNat]
    refine run_block ?_
    replace h := bind_some1 h; obtain ⟨x_1843, hx_1844, hj_1845⟩ := h
    refine run_loopO hx_1844 (fun (v : Int × Arr UInt32 8) => (⟨asFr 195 [(2, .ref 0 0), (4, .ref 1 0), (5, .ref 2 0), (12, .ref 3 0), (102, i64 v.1)], [.box (C1 u32 h_1436.l) false, .box (C1 u32 ((Arr.rep 8 (0 : UInt32))).l) false, .box (C1 u32 f_1577.l) false, .box (C1 u32 v.2.l) false]⟩ : St)) (weak_sel [0, 1, 2, 3] (by decide) rfl (by simp only [go_sem, reduceIte, Nat.reduceLT, Nat.reduceEqDiff, Nat.reduceAdd, Nat.reduceBEq, Nat.reduceMul, Nat.reduceSub, Nat.reduceGT, Nat.reducePow, Nat.reduceLeDiff, Int.reduceToNat]) (by simp only [go_sem, reduceIte, Nat.reduceLT, Nat.reduceEqDiff, Nat.reduceAdd, Nat.reduceBEq, Nat.reduceMul, Nat.reduceSub, Nat.reduceGT, Nat.reducePow, Nat.reduceLeDiff, Int.reduceToNat])) ?_
    rintro ⟨t_1806, f_1807⟩ o_1846 h hxx_1847
    replace h : digest_block_b3 f_1577 t_1806 f_1807 = some o_1846 := h
    unfold digest_block_b3 at h
    refine run_textE hE [2, 4, 5, 12, 102, 103] (fr' := [(2, .ref 0 0), (4, .ref 1 0), (5, .ref 2 0), (12, .ref 3 0), (102, i64 t_1806), (103, .bool ((decide (t_1806 < 64))))]) (σ' := [.box (C1 u32 h_1436.l) false, .box (C1 u32 ((Arr.rep 8 (0 : UInt32))).l) false, .box (C1 u32 f_1577.l) false, .box (C1 u32 f_1807.l) false]) ⟨_, orcs_nil, ?_⟩ ?_
    · simp only [go_sem, reduceIte, Nat.reduceLT, Nat.reduceEqDiff, Nat.reduceAdd, Nat.reduceBEq, Nat.reduceMul, Nat.reduceSub, Nat.reduceGT, Nat.reducePow, Nat.reduceLeDiff, Int.reduceToNat]
    refine run_seq ?_
    refine run_condL (b := (decide (t_1806 < 64))) rfl (by decide) (fun hb => ?_) (fun hb => ?_)
    · replace h := ite_t h hb
      refine run_skip ?_
      refine thenK_n ?_
      refine run_seq ?_
      refine run_block ?_
      refine run_textE hE [2, 4, 5, 12, 13, 102] (fr' := [(2, .ref 0 0), (4, .ref 1 0), (5, .ref 2 0), (12, .ref 3 0), (13, i64 t_1806), (102, i64 t_1806)]) (σ' := [.box (C1 u32 h_1436.l) false, .box (C1 u32 ((Arr.rep 8 (0 : UInt32))).l) false, .box (C1 u32 f_1577.l) false, .box (C1 u32 f_1807.l) false]) ⟨_, orcs_nil, ?_⟩ ?_
      · simp only [go_sem, reduceIte, Nat.reduceLT, Nat.reduceEqDiff, Nat.reduceAdd, Nat.reduceBEq, Nat.reduceMul, Nat.reduceSub, Nat.reduceGT, Nat.reducePow, Nat.reduceLeDiff, Int.reduceToNat]
      have hk_1848 : InR 0 8 := by decide
      have hk_1849 : InR 4 8 := by decide
      refine run_drawE hE mixed [[], [0], [], [2], [0, 1], [0, 1, 2, 3, 4]] (by kernel_rfl) (by kernel_rfl) [2, 4, 5, 12, 13, 14, 15, 102] (fr' := [(2, .ref 0 0), (4, .ref 1 0), (5, .ref 2 0), (12, .ref 3 0), (13, i64 t_1806), (14, u32 ((f_1807.get 0))), (15, u32 ((f_1807.get 4))), (102, i64 t_1806)]) (σ' := [.box (C1 u32 h_1436.l) false, .box (C1 u32 ((Arr.rep 8 (0 : UInt32))).l) false, .box (C1 u32 f_1577.l) false, .box (C1 u32 f_1807.l) false]) ⟨_, orcs_nil, ?_⟩ ?_
      · simp only [go_sem, reduceIte, Nat.reduceLT, Nat.reduceEqDiff, Nat.reduceAdd, Nat.reduceBEq, Nat.reduceMul, Nat.reduceSub, Nat.reduceGT, Nat.reducePow, Nat.reduceLeDiff, Int.reduceToNat, hk_1848, hk_1848.2, hk_1849, hk_1849.2]
      have hk_1853 : InR 7 8 := by decide
      replace h := bind_some1 h; obtain ⟨y_1850, hy_1854, h⟩ := h
      replace h := bind_some1 h; obtain ⟨y_1851, hy_1855, h⟩ := h
      replace h := bind_some1 h; obtain ⟨y_1852, hy_1856, h⟩ := h
      have hk_1857 : InR 5 8 := by decide
      have hk_1858 : InR 6 8 := by decide
      replace h := chk_some h; obtain ⟨hc_1859, h⟩ := h
      replace h := chk_some h; obtain ⟨hc_1860, h⟩ := h
      replace h := lt1_some h; obtain ⟨t_1861, hz_1862, h⟩ := h
      refine run_drawE hE mixed [[], [0], [], [2], [], [2, 3, 4], [2, 3, 4, 5], [], [2, 3, 4, 5, 7], [2, 3, 4, 5, 6, 7, 8], [0, 1, 2, 3, 4, 5, 6, 7, 8, 9], [], [], [12], [11, 12, 13], [], [15], [], [17], [15, 16, 17, 18], [11, 12, 13, 14, 15, 16, 17, 18, 19], [0, 1, 2, 3, 4, 5, 6, 7, 8, 9, 10, 11, 12, 13, 14, 15, 16, 17, 18, 19, 20], [], [22], [22, 23], [0, 1, 2, 3, 4, 5, 6, 7, 8, 9, 10, 11, 12, 13, 14, 15, 16, 17, 18, 19, 20, 21, 22, 23, 24], [], [26], [26, 27], [0, 1, 2, 3, 4, 5, 6, 7, 8, 9, 10, 11, 12, 13, 14, 15, 16, 17, 18, 19, 20, 21, 22, 23, 24, 25, 26, 27, 28], [0, 1, 2, 3, 4, 5, 6, 7, 8, 9, 10, 11, 12, 13, 14, 15, 16, 17, 18, 19, 20, 21, 22, 23, 24, 25, 26, 27, 28, 29]] (by kernel_rfl) (by kernel_rfl) [2, 4, 5, 12, 14, 15, 16, 102] (fr' := [(2, .ref 0 0), (4, .ref 1 0), (5, .ref 2 0), (12, .ref 3 0), (14, u32 ((f_1807.get 0))), (15, u32 ((f_1807.get 4))), (16, u32 t_1861), (102, i64 t_1806)]) (σ' := [.box (C1 u32 h_1436.l) false, .box (C1 u32 ((Arr.rep 8 (0 : UInt32))).l) false, .box (C1 u32 f_1577.l) false, .box (C1 u32 f_1807.l) false]) ⟨_, orcs_ok (l := [(112, 43, [u32 ((f_1807.get 4)), i64 ((-6))], u32 y_1850), (114, 43, [u32 ((f_1807.get 4)), i64 ((-11))], u32 y_1851), (117, 43, [u32 ((f_1807.get 4)), i64 ((-25))], u32 y_1852)]) ⟨bits_RotateLeft32_con hy_1854, bits_RotateLeft32_con hy_1855, bits_RotateLeft32_con hy_1856, trivial⟩, ?_⟩ ?_
      · subst hz_1862; simp only [go_sem, reduceIte, Nat.reduceLT, Nat.reduceEqDiff, Nat.reduceAdd, Nat.reduceBEq, Nat.reduceMul, Nat.reduceSub, Nat.reduceGT, Nat.reducePow, Nat.reduceLeDiff, Int.reduceToNat, hk_1853, hk_1853.2, hk_1857, hk_1857.2, hk_1858, hk_1858.2, hc_1859, hc_1859.2, lt_le hc_1859.2, hc_1860, hc_1860.2, lt_le hc_1860.2]
      replace h := bind_some1 h; obtain ⟨y_1863, hy_1866, h⟩ := h
      replace h := bind_some1 h; obtain ⟨y_1864, hy_1867, h⟩ := h
      replace h := bind_some1 h; obtain ⟨y_1865, hy_1868, h⟩ := h
      have hk_1869 : InR 1 8 := by decide
      have hk_1870 : InR 2 8 := by decide
      have hk_1871 : InR 1 8 := by decide
      have hk_1872 : InR 2 8 := by decide
      replace h := lt1_some h; obtain ⟨u_1873, hz_1874, h⟩ := h
      refine run_drawE hE mixed [[], [0], [], [0, 1, 2], [0, 1, 2, 3], [], [0, 1, 2, 3, 5], [0, 1, 2, 3, 4, 5, 6], [], [], [9], [8, 9, 10], [], [], [13], [12, 13, 14], [8, 9, 10, 11, 12, 13, 14, 15], [], [17], [], [19], [17, 18, 19, 20], [8, 9, 10, 11, 12, 13, 14, 15, 16, 17, 18, 19, 20, 21], [0, 1, 2, 3, 4, 5, 6, 7, 8, 9, 10, 11, 12, 13, 14, 15, 16, 17, 18, 19, 20, 21, 22], [0, 1, 2, 3, 4, 5, 6, 7, 8, 9, 10, 11, 12, 13, 14, 15, 16, 17, 18, 19, 20, 21, 22, 23]] (by kernel_rfl) (by kernel_rfl) [2, 4, 5, 12, 14, 15, 16, 17, 102] (fr' := [(2, .ref 0 0), (4, .ref 1 0), (5, .ref 2 0), (12, .ref 3 0), (14, u32 ((f_1807.get 0))), (15, u32 ((f_1807.get 4))), (16, u32 t_1861), (17, u32 u_1873), (102, i64 t_1806)]) (σ' := [.box (C1 u32 h_1436.l) false, .box (C1 u32 ((Arr.rep 8 (0 : UInt32))).l) false, .box (C1 u32 f_1577.l) false, .box (C1 u32 f_1807.l) false]) ⟨_, orcs_ok (l := [(140, 43, [u32 ((f_1807.get 0)), i64 ((-2))], u32 y_1863), (142, 43, [u32 ((f_1807.get 0)), i64 ((-13))], u32 y_1864), (145, 43, [u32 ((f_1807.get 0)), i64 ((-22))], u32 y_1865)]) ⟨bits_RotateLeft32_con hy_1866, bits_RotateLeft32_con hy_1867, bits_RotateLeft32_con hy_1868, trivial⟩, ?_⟩ ?_
      · subst hz_1874; simp only [go_sem, reduceIte, Nat.reduceLT, Nat.reduceEqDiff, Nat.reduceAdd, Nat.reduceBEq, Nat.reduceMul, Nat.reduceSub, Nat.reduceGT, Nat.reducePow, Nat.reduceLeDiff, Int.reduceToNat, hk_1869, hk_1869.2, hk_1870, hk_1870.2, hk_1871, hk_1871.2, hk_1872, hk_1872.2]
      have hk_1875 : InR 1 8 := by decide
      have hk_1876 : InR 2 8 := by decide
      have hk_1877 : InR 3 8 := by decide
      have hk_1878 : InR 5 8 := by decide
      have hk_1879 : InR 6 8 := by decide
      replace h := lt1_some h; obtain ⟨f_1880, hz_1881, h⟩ := h
      refine run_textE0 hE (wk_block wk_then) [2, 4, 5, 12, 102] (fr' := [(2, .ref 0 0), (4, .ref 1 0), (5, .ref 2 0), (12, .ref 3 0), (102, i64 t_1806)]) (σ' := [.box (C1 u32 h_1436.l) false, .box (C1 u32 ((Arr.rep 8 (0 : UInt32))).l) false, .box (C1 u32 f_1577.l) false, .box (C1 u32 f_1880.l) false]) ⟨_, orcs_nil, ?_⟩ ?_
      · subst hz_1881; simp only [go_sem, reduceIte, Nat.reduceLT, Nat.reduceEqDiff, Nat.reduceAdd, Nat.reduceBEq, Nat.reduceMul, Nat.reduceSub, Nat.reduceGT, Nat.reducePow, Nat.reduceLeDiff, Int.reduceToNat, hk_1875, hk_1875.2, hk_1876, hk_1876.2, hk_1877, hk_1877.2, hk_1878, hk_1878.2, hk_1879, hk_1879.2, C1_rep, C1_nil, C1_cons]
      refine blockK_n ?_
      refine thenK_n ?_
      refine run_textE0 hE wk_lp [2, 4, 5, 12, 102] (fr' := [(2, .ref 0 0), (4, .ref 1 0), (5, .ref 2 0), (12, .ref 3 0), (102, i64 ((w64 (t_1806 + 1))))]) (σ' := [.box (C1 u32 h_1436.l) false, .box (C1 u32 ((Arr.rep 8 (0 : UInt32))).l) false, .box (C1 u32 f_1577.l) false, .box (C1 u32 f_1880.l) false]) ⟨_, orcs_nil, ?_⟩ ?_
      · simp only [go_sem, reduceIte, Nat.reduceLT, Nat.reduceEqDiff, Nat.reduceAdd, Nat.reduceBEq, Nat.reduceMul, Nat.reduceSub, Nat.reduceGT, Nat.reducePow, Nat.reduceLeDiff, Int.reduceToNat]
      obtain rfl := Option.some.inj h
      exact lpK_n (((w64 (t_1806 + 1)), f_1880)) rfl (weak_sel [0, 1, 2, 3] (by decide) rfl (by simp only [go_sem, reduceIte, Nat.reduceLT, Nat.reduceEqDiff, Nat.reduceAdd, Nat.reduceBEq, Nat.reduceMul, Nat.reduceSub, Nat.reduceGT, Nat.reducePow, Nat.reduceLeDiff, Int.reduceToNat]) (by simp only [go_sem, reduceIte, Nat.reduceLT, Nat.reduceEqDiff, Nat.reduceAdd, Nat.reduceBEq, Nat.reduceMul, Nat.reduceSub, Nat.reduceGT, Nat.reducePow, Nat.reduceLeDiff, Int.reduceToNat]))
    · replace h := ite_f h hb
      refine run_exit ?_
      refine thenK_x ?_
      obtain rfl := Option.some.inj h
      have ex_x_1843 := hxx_1847 _ rfl
      subst ex_x_1843
      have h := hj_1845; clear hj_1845
      refine lpK_x ?_
      refine blockK_x ?_
      obtain rfl := Option.some.inj h
      exact joinK_n f_1807 rfl ((weak_sel (l' := [(2, .ref 0 0), (4, .ref 1 0), (12, .ref 2 0)]) (σ' := [.box (C1 u32 h_1436.l) false, .box (C1 u32 ((Arr.rep 8 (0 : UInt32))).l) false, .box (C1 u32 f_1807.l) false]) [0, 1, 3] (by decide) rfl (by simp only [go_sem, reduceIte, Nat.reduceLT, Nat.reduceEqDiff, Nat.reduceAdd, Nat.reduceBEq, Nat.reduceMul, Nat.reduceSub, Nat.reduceGT, Nat.reducePow, Nat.reduceLeDiff, Int.reduceToNat]) (by simp only [go_sem, reduceIte, Nat.reduceLT, Nat.reduceEqDiff, Nat.reduceAdd, Nat.reduceBEq, Nat.reduceMul, Nat.reduceSub, Nat.reduceGT, Nat.reducePow, Nat.reduceLeDiff, Int.reduceToNat])).trans (weak_sel [0, 1, 2] (by decide) rfl (by simp only [go_sem, reduceIte, Nat.reduceLT, Nat.reduceEqDiff, Nat.reduceAdd, Nat.reduceBEq, Nat.reduceMul, Nat.reduceSub, Nat.reduceGT, Nat.reducePow, Nat.reduceLeDiff, Int.reduceToNat]) (by simp only [go_sem, reduceIte, Nat.reduceLT, Nat.reduceEqDiff, Nat.reduceAdd, Nat.reduceBEq, Nat.reduceMul, Nat.reduceSub, Nat.reduceGT, Nat.reducePow, Nat.reduceLeDiff, Int.reduceToNat])))
  rintro f_1768 rfl
  have h := hj_1771; clear hj_1771
  replace h := bind_some1 h; obtain ⟨j_1906, hA_1907, hj_1908⟩ := h
  refine run_join (fun (v : Arr UInt32 8) => (⟨asFr 195 [(2, .ref 0 0), (4, .ref 1 0)], [.box (C1 u32 v.l) false, .box (C1 u32 ((Arr.rep 8 (0 : UInt32))).l) false]⟩ : St)) (fun v => v = j_1906) ?_ ?_
  · have h := hA_1907; clear hA_1907
    refine run_textE hE [2, 4, 12, 182] (fr' := [(2, .ref 0 0), (4, .ref 1 0), (12, .ref 2 0), (182, i64 0)]) (σ' := [.box (C1 u32 h_1436.l) false, .box (C1 u32 ((Arr.rep 8 (0 : UInt32))).l) false, .box (C1 u32 f_1768.l) false]) ⟨_, orcs_nil, ?_⟩ ?_
    · simp only [go_sem, reduceIte, Nat.reduceLT, Nat.reduceEqDiff, Nat.reduceAdd, Nat.reduceBEq, Nat.reduceMul, Nat.reduceSub, Nat.reduceGT, Nat.reducePow, Nat.reduceLeDiff, Int.reduceToNat]
    refine run_block ?_
    replace h := bind_some1 h; obtain ⟨x_1922, hx_1923, hj_1924⟩ := h
    refine run_loopO hx_1923 (fun (v : Int × Arr UInt32 8) => (⟨asFr 195 [(2, .ref 0 0), (4, .ref 1 0), (12, .ref 2 0), (182, i64 v.1)], [.box (C1 u32 v.2.l) false, .box (C1 u32 ((Arr.rep 8 (0 : UInt32))).l) false, .box (C1 u32 f_1768.l) false]⟩ : St)) (weak_sel [0, 1, 2] (by decide) rfl (by simp only [go_sem, reduceIte, Nat.reduceLT, Nat.reduceEqDiff, Nat.reduceAdd, Nat.reduceBEq, Nat.reduceMul, Nat.reduceSub, Nat.reduceGT, Nat.reducePow, Nat.reduceLeDiff, Int.reduceToNat]) (by simp only [go_sem, reduceIte, Nat.reduceLT, Nat.reduceEqDiff, Nat.reduceAdd, Nat.reduceBEq, Nat.reduceMul, Nat.reduceSub, Nat.reduceGT, Nat.reducePow, Nat.reduceLeDiff, Int.reduceToNat])) ?_
    rintro ⟨t_1914, f_1915⟩ o_1925 h hxx_1926
    replace h : digest_block_b4 f_1768 t_1914 f_1915 = some o_1925 := h
    unfold digest_block_b4 at h
    refine run_textE hE [2, 4, 12, 182, 183] (fr' := [(2, .ref 0 0), (4, .ref 1 0), (12, .ref 2 0), (182, i64 t_1914), (183, .bool ((decide (t_1914 < 8))))]) (σ' := [.box (C1 u32 f_1915.l) false, .box (C1 u32 ((Arr.rep 8 (0 : UInt32))).l) false, .box (C1 u32 f_1768.l) false]) ⟨_, orcs_nil, ?_⟩ ?_
    · simp only [go_sem, reduceIte, Nat.reduceLT, Nat.reduceEqDiff, Nat.reduceAdd, Nat.reduceBEq, Nat.reduceMul, Nat.reduceSub, Nat.reduceGT, Nat.reducePow, Nat.reduceLeDiff, Int.reduceToNat]
    refine run_seq ?_
    refine run_condL (b := (decide (t_1914 < 8))) rfl (by decide) (fun hb => ?_) (fun hb => ?_)
    · replace h := ite_t h hb
      refine run_skip ?_
      refine thenK_n ?_
      refine run_seq ?_
      refine run_block ?_
      refine run_textE hE [2, 4, 12, 18, 182] (fr' := [(2, .ref 0 0), (4, .ref 1 0), (12, .ref 2 0), (18, i64 t_1914), (182, i64 t_1914)]) (σ' := [.box (C1 u32 f_1915.l) false, .box (C1 u32 ((Arr.rep 8 (0 : UInt32))).l) false, .box (C1 u32 f_1768.l) false]) ⟨_, orcs_nil, ?_⟩ ?_
      · simp only [go_sem, reduceIte, Nat.reduceLT, Nat.reduceEqDiff, Nat.reduceAdd, Nat.reduceBEq, Nat.reduceMul, Nat.reduceSub, Nat.reduceGT, Nat.reducePow, Nat.reduceLeDiff, Int.reduceToNat]
      replace h := chk_some h; obtain ⟨hc_1927, h⟩ := h
      replace h := chk_some h; obtain ⟨hc_1928, h⟩ := h
      replace h := chk_some h; obtain ⟨hc_1929, h⟩ := h
      replace h := lt1_some h; obtain ⟨f_1930, hz_1931, h⟩ := h
      refine run_drawE0 hE mixed [[], [0], [0, 1], [], [3], [3, 4], [0, 1, 2, 3, 4, 5], [0, 1, 2, 3, 4, 5, 6], [0, 1, 2, 3, 4, 5, 6, 7]] (by kernel_rfl) (by kernel_rfl) (wk_block wk_then) [2, 4, 12, 182] (fr' := [(2, .ref 0 0), (4, .ref 1 0), (12, .ref 2 0), (182, i64 t_1914)]) (σ' := [.box (C1 u32 f_1930.l) false, .box (C1 u32 ((Arr.rep 8 (0 : UInt32))).l) false, .box (C1 u32 f_1768.l) false]) ⟨_, orcs_nil, ?_⟩ ?_
      · subst hz_1931; simp only [go_sem, reduceIte, Nat.reduceLT, Nat.reduceEqDiff, Nat.reduceAdd, Nat.reduceBEq, Nat.reduceMul, Nat.reduceSub, Nat.reduceGT, Nat.reducePow, Nat.reduceLeDiff, Int.reduceToNat, hc_1927, hc_1927.2, lt_le hc_1927.2, hc_1928, hc_1928.2, lt_le hc_1928.2, hc_1929, hc_1929.2, lt_le hc_1929.2]
      refine blockK_n ?_
      refine thenK_n ?_
      refine run_textE0 hE wk_lp [2, 4, 12, 182] (fr' := [(2, .ref 0 0), (4, .ref 1 0), (12, .ref 2 0), (182, i64 ((w64 (t_1914 + 1))))]) (σ' := [.box (C1 u32 f_1930.l) false, .box (C1 u32 ((Arr.rep 8 (0 : UInt32))).l) false, .box (C1 u32 f_1768.l) false]) ⟨_, orcs_nil, ?_⟩ ?_
      · simp only [go_sem, reduceIte, Nat.reduceLT, Nat.reduceEqDiff, Nat.reduceAdd, Nat.reduceBEq, Nat.reduceMul, Nat.reduceSub, Nat.reduceGT, Nat.reducePow, Nat.reduceLeDiff, Int.reduceToNat]
      obtain rfl := Option.some.inj h
      exact lpK_n (((w64 (t_1914 + 1)), f_1930)) rfl (weak_sel [0, 1, 2] (by decide) rfl (by simp only [go_sem, reduceIte, Nat.reduceLT, Nat.reduceEqDiff, Nat.reduceAdd, Nat.reduceBEq, Nat.reduceMul, Nat.reduceSub, Nat.reduceGT, Nat.reducePow, Nat.reduceLeDiff, Int.reduceToNat]) (by simp only [go_sem, reduceIte, Nat.reduceLT, Nat.reduceEqDiff, Nat.reduceAdd, Nat.reduceBEq, Nat.reduceMul, Nat.reduceSub, Nat.reduceGT, Nat.reducePow, Nat.reduceLeDiff, Int.reduceToNat]))
    · replace h := ite_f h hb
      refine run_exit ?_
      refine thenK_x ?_
      obtain rfl := Option.some.inj h
      have ex_x_1922 := hxx_1926 _ rfl
      subst ex_x_1922
      have h := hj_1924; clear hj_1924
      refine lpK_x ?_
      refine blockK_x ?_
      obtain rfl := Option.some.inj h
      exact joinK_n f_1915 rfl ((weak_sel (l' := [(2, .ref 0 0), (4, .ref 1 0)]) (σ' := [.box (C1 u32 f_1915.l) false, .box (C1 u32 ((Arr.rep 8 (0 : UInt32))).l) false]) [0, 1] (by decide) rfl (by simp only [go_sem, reduceIte, Nat.reduceLT, Nat.reduceEqDiff, Nat.reduceAdd, Nat.reduceBEq, Nat.reduceMul, Nat.reduceSub, Nat.reduceGT, Nat.reducePow, Nat.reduceLeDiff, Int.reduceToNat]) (by simp only [go_sem, reduceIte, Nat.reduceLT, Nat.reduceEqDiff, Nat.reduceAdd, Nat.reduceBEq, Nat.reduceMul, Nat.reduceSub, Nat.reduceGT, Nat.reducePow, Nat.reduceLeDiff, Int.reduceToNat])).trans (weak_sel [0, 1] (by decide) rfl (by simp only [go_sem, reduceIte, Nat.reduceLT, Nat.reduceEqDiff, Nat.reduceAdd, Nat.reduceBEq, Nat.reduceMul, Nat.reduceSub, Nat.reduceGT, Nat.reducePow, Nat.reduceLeDiff, Int.reduceToNat]) (by simp only [go_sem, reduceIte, Nat.reduceLT, Nat.reduceEqDiff, Nat.reduceAdd, Nat.reduceBEq, Nat.reduceMul, Nat.reduceSub, Nat.reduceGT, Nat.reducePow, Nat.reduceLeDiff, Int.reduceToNat])))
  rintro f_1905 rfl
  have h := hj_1908; clear hj_1908
  refine run_textE hE [4] (fr' := [(4, .ref 1 0)]) (σ' := [.box (C1 u32 f_1905.l) false, .box (C1 u32 f_1905.l) false]) ⟨_, orcs_nil, ?_⟩ ?_
  · simp only [go_sem, reduceIte, Nat.reduceLT, Nat.reduceEqDiff, Nat.reduceAdd, Nat.reduceBEq, Nat.reduceMul, Nat.reduceSub, Nat.reduceGT, Nat.reducePow, Nat.reduceLeDiff, Int.reduceToNat]
  refine run_ret ?_
  obtain rfl := Option.some.inj h
  refine ret_ok (.inr rfl) ?_
  simp only [go_sem, reduceIte, Nat.reduceLT, Nat.reduceEqDiff, Nat.reduceAdd, Nat.reduceBEq, Nat.reduceMul, Nat.reduceSub, Nat.reduceGT, Nat.reducePow, Nat.reduceLeDiff, Int.reduceToNat]

end Go.Proofs.YtgdiabbgiiemcaaDoor
