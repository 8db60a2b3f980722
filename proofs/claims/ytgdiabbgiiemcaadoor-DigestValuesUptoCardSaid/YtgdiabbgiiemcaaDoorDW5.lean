/-
  The functions compute just that.
-/
import Derived.Test.YtgdiabbgiiemcaaDoorDW4
import Derived.KernelRfl
namespace Go.Proofs.YtgdiabbgiiemcaaDoor
open Go.Rv
set_option linter.unusedVariables false
set_option linter.unusedSimpArgs false
set_option maxRecDepth 20000

theorem digest_block_con {h_1647 : Arr UInt32 8} {b_1648 : List UInt8} {r : Arr UInt32 8} (h : digest_block h_1647 b_1648 = some r) : Con B 36 [.agg (C1 u32 h_1647.l), .sl false (L cU8 b_1648)] [] (fun r' σ' => r' = .agg (C1 u32 r.l) ∧ σ' = []) := by
  refine con_walk (N := 195) (rs := [.cell 4 56]) ok Tryd.func36 rfl (by decide +kernel) rfl rfl (Nat.le_of_ble_eq_true rfl) (fun F => ?_)
  have hE := ok.env F
  unfold digest_block at h
  show Run (B.env F) 0 _ ⟨asFr 195 [(0, .agg (C1 u32 h_1647.l)), (1, .sl false (L cU8 b_1648))], []⟩ _
  refine run_textE hE [1, 2, 4] (fr' := [(1, .sl false (L cU8 b_1648)), (2, .ref 0 0), (4, .ref 1 0)]) (σ' := [.box (C1 u32 h_1647.l) false, .box (C1 u32 ((Arr.rep 8 (0 : UInt32))).l) false]) ⟨_, orcs_nil, ?_⟩ ?_
  · simp only [go_sem, reduceIte, Nat.reduceLT, Nat.reduceEqDiff, Nat.reduceAdd, Nat.reduceBEq, Nat.reduceMul, Nat.reduceSub, Nat.reduceGT, Nat.reducePow, Nat.reduceLeDiff, Int.reduceToNat]
  refine run_textE hE [1, 2, 4, 5] (fr' := [(1, .sl false (L cU8 b_1648)), (2, .ref 0 0), (4, .ref 1 0), (5, .ref 2 0)]) (σ' := [.box (C1 u32 h_1647.l) false, .box (C1 u32 ((Arr.rep 8 (0 : UInt32))).l) false, .box (C1 u32 ((Arr.rep 64 (0 : UInt32))).l) false]) ⟨_, orcs_nil, ?_⟩ ?_
  · simp only [go_sem, reduceIte, Nat.reduceLT, Nat.reduceEqDiff, Nat.reduceAdd, Nat.reduceBEq, Nat.reduceMul, Nat.reduceSub, Nat.reduceGT, Nat.reducePow, Nat.reduceLeDiff, Int.reduceToNat]
  replace h := bind_some1 h; obtain ⟨j_1679, hA_1680, hj_1681⟩ := h
  refine run_join (fun (v : Arr UInt32 64) => (⟨asFr 195 [(2, .ref 0 0), (4, .ref 1 0), (5, .ref 2 0)], [.box (C1 u32 h_1647.l) false, .box (C1 u32 ((Arr.rep 8 (0 : UInt32))).l) false, .box (C1 u32 v.l) false]⟩ : St)) (fun v => v = j_1679) ?_ ?_
  · have h := hA_1680; clear hA_1680
    refine run_textE hE [1, 2, 4, 5, 19] (fr' := [(1, .sl false (L cU8 b_1648)), (2, .ref 0 0), (4, .ref 1 0), (5, .ref 2 0), (19, i64 0)]) (σ' := [.box (C1 u32 h_1647.l) false, .box (C1 u32 ((Arr.rep 8 (0 : UInt32))).l) false, .box (C1 u32 ((Arr.rep 64 (0 : UInt32))).l) false]) ⟨_, orcs_nil, ?_⟩ ?_
    · simp only [go_sem, reduceIte, Nat.reduceLT, Nat.reduceEqDiff, Nat.reduceAdd, Nat.reduceBEq, Nat.reduceMul, Nat.reduceSub, Nat.reduceGT, Nat.reducePow, Nat.reduceLeDiff, Int.reduceToNat]
    refine run_block ?_
    replace h := bind_some1 h; obtain ⟨x_1699, hx_1700, hj_1701⟩ := h
    refine run_loopO hx_1700 (fun (v : Int × Arr UInt32 64) => (⟨asFr 195 [(1, .sl false (L cU8 b_1648)), (2, .ref 0 0), (4, .ref 1 0), (5, .ref 2 0), (19, i64 v.1)], [.box (C1 u32 h_1647.l) false, .box (C1 u32 ((Arr.rep 8 (0 : UInt32))).l) false, .box (C1 u32 v.2.l) false]⟩ : St)) (weak_sel [0, 1, 2] (by decide) rfl (by simp only [go_sem, reduceIte, Nat.reduceLT, Nat.reduceEqDiff, Nat.reduceAdd, Nat.reduceBEq, Nat.reduceMul, Nat.reduceSub, Nat.reduceGT, Nat.reducePow, Nat.reduceLeDiff, Int.reduceToNat]) (by simp only [go_sem, reduceIte, Nat.reduceLT, Nat.reduceEqDiff, Nat.reduceAdd, Nat.reduceBEq, Nat.reduceMul, Nat.reduceSub, Nat.reduceGT, Nat.reducePow, Nat.reduceLeDiff, Int.reduceToNat])) ?_
    rintro ⟨t_1689, f_1690⟩ o_1702 h hxx_1703
    replace h : digest_block_b1 b_1648 t_1689 f_1690 = some o_1702 := h
    unfold digest_block_b1 at h
    refine run_textE hE [1, 2, 4, 5, 19, 20] (fr' := [(1, .sl false (L cU8 b_1648)), (2, .ref 0 0), (4, .ref 1 0), (5, .ref 2 0), (19, i64 t_1689), (20, .bool ((decide (t_1689 < 16))))]) (σ' := [.box (C1 u32 h_1647.l) false, .box (C1 u32 ((Arr.rep 8 (0 : UInt32))).l) false, .box (C1 u32 f_1690.l) false]) ⟨_, orcs_nil, ?_⟩ ?_
    · simp only [go_sem, reduceIte, Nat.reduceLT, Nat.reduceEqDiff, Nat.reduceAdd, Nat.reduceBEq, Nat.reduceMul, Nat.reduceSub, Nat.reduceGT, Nat.reducePow, Nat.reduceLeDiff, Int.reduceToNat]
    refine run_seq ?_
    refine run_condL (b := (decide (t_1689 < 16))) rfl (by decide) (fun hb => ?_) (fun hb => ?_)
    · replace h := ite_t h hb
      refine run_skip ?_
      refine thenK_n ?_
      refine run_seq ?_
      refine run_block ?_
      refine run_textE hE [1, 2, 4, 5, 6, 19] (fr' := [(1, .sl false (L cU8 b_1648)), (2, .ref 0 0), (4, .ref 1 0), (5, .ref 2 0), (6, i64 t_1689), (19, i64 t_1689)]) (σ' := [.box (C1 u32 h_1647.l) false, .box (C1 u32 ((Arr.rep 8 (0 : UInt32))).l) false, .box (C1 u32 f_1690.l) false]) ⟨_, orcs_nil, ?_⟩ ?_
      · simp only [go_sem, reduceIte, Nat.reduceLT, Nat.reduceEqDiff, Nat.reduceAdd, Nat.reduceBEq, Nat.reduceMul, Nat.reduceSub, Nat.reduceGT, Nat.reducePow, Nat.reduceLeDiff, Int.reduceToNat]
      replace h := chk_some h; obtain ⟨hc_1704, h⟩ := h
      replace h := chk_some h; obtain ⟨hc_1705, h⟩ := h
      replace h := chk_some h; obtain ⟨hc_1706, h⟩ := h
      replace h := chk_some h; obtain ⟨hc_1707, h⟩ := h
      replace h := chk_some h; obtain ⟨hc_1708, h⟩ := h
      replace h := lt1_some h; obtain ⟨f_1709, hz_1710, h⟩ := h
      refine run_drawE0 hE mixed [[], [], [], [2], [1, 2, 3], [1, 2, 3, 4], [1, 2, 3, 4, 5], [1, 2, 3, 4, 5, 6], [], [], [9], [9, 10], [8, 9, 10, 11], [8, 9, 10, 11, 12], [8, 9, 10, 11, 12, 13], [8, 9, 10, 11, 12, 13, 14], [1, 2, 3, 4, 5, 6, 7, 8, 9, 10, 11, 12, 13, 14, 15], [], [], [18], [18, 19], [17, 18, 19, 20], [17, 18, 19, 20, 21], [17, 18, 19, 20, 21, 22], [17, 18, 19, 20, 21, 22, 23], [1, 2, 3, 4, 5, 6, 7, 8, 9, 10, 11, 12, 13, 14, 15, 16, 17, 18, 19, 20, 21, 22, 23, 24], [], [], [27], [27, 28], [26, 27, 28, 29], [26, 27, 28, 29, 30], [26, 27, 28, 29, 30, 31], [1, 2, 3, 4, 5, 6, 7, 8, 9, 10, 11, 12, 13, 14, 15, 16, 17, 18, 19, 20, 21, 22, 23, 24, 25, 26, 27, 28, 29, 30, 31, 32], [0, 1, 2, 3, 4, 5, 6, 7, 8, 9, 10, 11, 12, 13, 14, 15, 16, 17, 18, 19, 20, 21, 22, 23, 24, 25, 26, 27, 28, 29, 30, 31, 32, 33], [0, 1, 2, 3, 4, 5, 6, 7, 8, 9, 10, 11, 12, 13, 14, 15, 16, 17, 18, 19, 20, 21, 22, 23, 24, 25, 26, 27, 28, 29, 30, 31, 32, 33, 34]] (by kernel_rfl) (by kernel_rfl) (wk_block wk_then) [1, 2, 4, 5, 19] (fr' := [(1, .sl false (L cU8 b_1648)), (2, .ref 0 0), (4, .ref 1 0), (5, .ref 2 0), (19, i64 t_1689)]) (σ' := [.box (C1 u32 h_1647.l) false, .box (C1 u32 ((Arr.rep 8 (0 : UInt32))).l) false, .box (C1 u32 f_1709.l) false]) ⟨_, orcs_nil, ?_⟩ ?_
      · subst hz_1710; simp only [go_sem, reduceIte, Nat.reduceLT, Nat.reduceEqDiff, Nat.reduceAdd, Nat.reduceBEq, Nat.reduceMul, Nat.reduceSub, Nat.reduceGT, Nat.reducePow, Nat.reduceLeDiff, Int.reduceToNat, hc_1704, hc_1704.2, lt_le hc_1704.2, hc_1705, hc_1705.2, lt_le hc_1705.2, hc_1706, hc_1706.2, lt_le hc_1706.2, hc_1707, hc_1707.2, lt_le hc_1707.2, hc_1708, hc_1708.2, lt_le hc_1708.2]
      refine blockK_n ?_
      refine thenK_n ?_
      refine run_textE0 hE wk_lp [1, 2, 4, 5, 19] (fr' := [(1, .sl false (L cU8 b_1648)), (2, .ref 0 0), (4, .ref 1 0), (5, .ref 2 0), (19, i64 ((w64 (t_1689 + 1))))]) (σ' := [.box (C1 u32 h_1647.l) false, .box (C1 u32 ((Arr.rep 8 (0 : UInt32))).l) false, .box (C1 u32 f_1709.l) false]) ⟨_, orcs_nil, ?_⟩ ?_
      · simp only [go_sem, reduceIte, Nat.reduceLT, Nat.reduceEqDiff, Nat.reduceAdd, Nat.reduceBEq, Nat.reduceMul, Nat.reduceSub, Nat.reduceGT, Nat.reducePow, Nat.reduceLeDiff, Int.reduceToNat]
      obtain rfl := Option.some.inj h
      exact lpK_n (((w64 (t_1689 + 1)), f_1709)) rfl (weak_sel [0, 1, 2] (by decide) rfl (by simp only [go_sem, reduceIte, Nat.reduceLT, Nat.reduceEqDiff, Nat.reduceAdd, Nat.reduceBEq, Nat.reduceMul, Nat.reduceSub, Nat.reduceGT, Nat.reducePow, Nat.reduceLeDiff, Int.reduceToNat]) (by simp only [go_sem, reduceIte, Nat.reduceLT, Nat.reduceEqDiff, Nat.reduceAdd, Nat.reduceBEq, Nat.reduceMul, Nat.reduceSub, Nat.reduceGT, Nat.reducePow, Nat.reduceLeDiff, Int.reduceToNat]))
    · replace h := ite_f h hb
      refine run_exit ?_
      refine thenK_x ?_
      obtain rfl := Option.some.inj h
      have ex_x_1699 := hxx_1703 _ rfl
      subst ex_x_1699
      have h := hj_1701; clear hj_1701
      refine lpK_x ?_
      refine blockK_x ?_
      obtain rfl := Option.some.inj h
      exact joinK_n f_1690 rfl ((weak_sel (l' := [(2, .ref 0 0), (4, .ref 1 0), (5, .ref 2 0)]) (σ' := [.box (C1 u32 h_1647.l) false, .box (C1 u32 ((Arr.rep 8 (0 : UInt32))).l) false, .box (C1 u32 f_1690.l) false]) [0, 1, 2] (by decide) rfl (by simp only [go_sem, reduceIte, Nat.reduceLT, Nat.reduceEqDiff, Nat.reduceAdd, Nat.reduceBEq, Nat.reduceMul, Nat.reduceSub, Nat.reduceGT, Nat.reducePow, Nat.reduceLeDiff, Int.reduceToNat]) (by simp only [go_sem, reduceIte, Nat.reduceLT, Nat.reduceEqDiff, Nat.reduceAdd, Nat.reduceBEq, Nat.reduceMul, Nat.reduceSub, Nat.reduceGT, Nat.reducePow, Nat.reduceLeDiff, Int.reduceToNat])).trans (weak_sel [0, 1, 2] (by decide) rfl (by simp only [go_sem, reduceIte, Nat.reduceLT, Nat.reduceEqDiff, Nat.reduceAdd, Nat.reduceBEq, Nat.reduceMul, Nat.reduceSub, Nat.reduceGT, Nat.reducePow, Nat.reduceLeDiff, Int.reduceToNat]) (by simp only [go_sem, reduceIte, Nat.reduceLT, Nat.reduceEqDiff, Nat.reduceAdd, Nat.reduceBEq, Nat.reduceMul, Nat.reduceSub, Nat.reduceGT, Nat.reducePow, Nat.reduceLeDiff, Int.reduceToNat])))
  rintro f_1678 rfl
  have h := hj_1681; clear hj_1681
  replace h := bind_some1 h; obtain ⟨j_1789, hA_1790, hj_1791⟩ := h
  refine run_join (fun (v : Arr UInt32 64) => (⟨asFr 195 [(2, .ref 0 0), (4, .ref 1 0), (5, .ref 2 0)], [.box (C1 u32 h_1647.l) false, .box (C1 u32 ((Arr.rep 8 (0 : UInt32))).l) false, .box (C1 u32 v.l) false]⟩ : St)) (fun v => v = j_1789) ?_ ?_
  · have h := hA_1790; clear hA_1790
    refine run_textE hE [2, 4, 5, 7] (fr' := [(2, .ref 0 0), (4, .ref 1 0), (5, .ref 2 0), (7, i64 16)]) (σ' := [.box (C1 u32 h_1647.l) false, .box (C1 u32 ((Arr.rep 8 (0 : UInt32))).l) false, .box (C1 u32 f_1678.l) false]) ⟨_, orcs_nil, ?_⟩ ?_
    · simp only [go_sem, reduceIte, Nat.reduceLT, Nat.reduceEqDiff, Nat.reduceAdd, Nat.reduceBEq, Nat.reduceMul, Nat.reduceSub, Nat.reduceGT, Nat.reducePow, Nat.reduceLeDiff, Int.reduceToNat]
    refine run_block ?_
    replace h := bind_some1 h; obtain ⟨x_1841, hx_1842, hj_1843⟩ := h
    refine run_loopO hx_1842 (fun (v : Int × Arr UInt32 64) => (⟨asFr 195 [(2, .ref 0 0), (4, .ref 1 0), (5, .ref 2 0), (7, i64 v.1)], [.box (C1 u32 h_1647.l) false, .box (C1 u32 ((Arr.rep 8 (0 : UInt32))).l) false, .box (C1 u32 v.2.l) false]⟩ : St)) (weak_sel [0, 1, 2] (by decide) rfl (by simp only [go_sem, reduceIte, Nat.reduceLT, Nat.reduceEqDiff, Nat.reduceAdd, Nat.reduceBEq, Nat.reduceMul, Nat.reduceSub, Nat.reduceGT, Nat.reducePow, Nat.reduceLeDiff, Int.reduceToNat]) (by simp only [go_sem, reduceIte, Nat.reduceLT, Nat.reduceEqDiff, Nat.reduceAdd, Nat.reduceBEq, Nat.reduceMul, Nat.reduceSub, Nat.reduceGT, Nat.reducePow, Nat.reduceLeDiff, Int.reduceToNat])) ?_
    rintro ⟨i_1815, f_1816⟩ o_1844 h hxx_1845
    replace h : digest_block_b2 i_1815 f_1816 = some o_1844 := h
    unfold digest_block_b2 at h
    refine run_seq ?_
    refine run_textE hE [2, 4, 5, 7, 59] (fr' := [(2, .ref 0 0), (4, .ref 1 0), (5, .ref 2 0), (7, i64 i_1815), (59, .bool ((decide (i_1815 < 64))))]) (σ' := [.box (C1 u32 h_1647.l) false, .box (C1 u32 ((Arr.rep 8 (0 : UInt32))).l) false, .box (C1 u32 f_1816.l) false]) ⟨_, orcs_nil, ?_⟩ ?_
    · simp only [go_sem, reduceIte, Nat.reduceLT, Nat.reduceEqDiff, Nat.reduceAdd, Nat.reduceBEq, Nat.reduceMul, Nat.reduceSub, Nat.reduceGT, Nat.reducePow, Nat.reduceLeDiff, Int.reduceToNat]
    refine run_condL (b := (decide (i_1815 < 64))) rfl (by decide) (fun hb => ?_) (fun hb => ?_)
    · replace h := ite_t h hb
      refine run_skip ?_
      refine thenK_n ?_
      refine run_seq ?_
      refine run_block ?_
      replace h := chk_some h; obtain ⟨hc_1846, h⟩ := h
      replace h := chk_some h; obtain ⟨hc_1847, h⟩ := h
      replace h := lt1_some h; obtain ⟨x_1848, hz_1850, h⟩ := h
      replace h := lt1_some h; obtain ⟨y_1849, hz_1851, h⟩ := h
      refine run_drawE hE mixed [[], [0], [0, 1], [0, 1, 2], [], [4], [4, 5], [4, 5, 6], [0, 1, 2, 3], [0, 1, 2, 3, 4, 5, 6, 7, 8]] (by kernel_rfl) (by kernel_rfl) [2, 4, 5, 7, 8, 9] (fr' := [(2, .ref 0 0), (4, .ref 1 0), (5, .ref 2 0), (7, i64 i_1815), (8, u32 x_1848), (9, u32 y_1849)]) (σ' := [.box (C1 u32 h_1647.l) false, .box (C1 u32 ((Arr.rep 8 (0 : UInt32))).l) false, .box (C1 u32 f_1816.l) false]) ⟨_, orcs_nil, ?_⟩ ?_
      · subst hz_1851; subst hz_1850; simp only [go_sem, reduceIte, Nat.reduceLT, Nat.reduceEqDiff, Nat.reduceAdd, Nat.reduceBEq, Nat.reduceMul, Nat.reduceSub, Nat.reduceGT, Nat.reducePow, Nat.reduceLeDiff, Int.reduceToNat, hc_1846, hc_1846.2, lt_le hc_1846.2, hc_1847, hc_1847.2, lt_le hc_1847.2]
      replace h := bind_some1 h; obtain ⟨y_1852, hy_1854, h⟩ := h
      replace h := bind_some1 h; obtain ⟨y_1853, hy_1855, h⟩ := h
      replace h := lt1_some h; obtain ⟨s0_1856, hz_1857, h⟩ := h
      refine run_textE hE [2, 4, 5, 7, 9, 10] (fr' := [(2, .ref 0 0), (4, .ref 1 0), (5, .ref 2 0), (7, i64 i_1815), (9, u32 y_1849), (10, u32 s0_1856)]) (σ' := [.box (C1 u32 h_1647.l) false, .box (C1 u32 ((Arr.rep 8 (0 : UInt32))).l) false, .box (C1 u32 f_1816.l) false]) ⟨_, orcs_ok (l := [(71, 43, [u32 x_1848, i64 ((-7))], u32 y_1852), (73, 43, [u32 x_1848, i64 ((-18))], u32 y_1853)]) ⟨bits_RotateLeft32_con hy_1854, bits_RotateLeft32_con hy_1855, trivial⟩, ?_⟩ ?_
      · subst hz_1857; simp only [go_sem, reduceIte, Nat.reduceLT, Nat.reduceEqDiff, Nat.reduceAdd, Nat.reduceBEq, Nat.reduceMul, Nat.reduceSub, Nat.reduceGT, Nat.reducePow, Nat.reduceLeDiff, Int.reduceToNat]
      replace h := bind_some1 h; obtain ⟨y_1858, hy_1860, h⟩ := h
      replace h := bind_some1 h; obtain ⟨y_1859, hy_1861, h⟩ := h
      replace h := lt1_some h; obtain ⟨s1_1862, hz_1863, h⟩ := h
      refine run_textE hE [2, 4, 5, 7, 10, 11] (fr' := [(2, .ref 0 0), (4, .ref 1 0), (5, .ref 2 0), (7, i64 i_1815), (10, u32 s0_1856), (11, u32 s1_1862)]) (σ' := [.box (C1 u32 h_1647.l) false, .box (C1 u32 ((Arr.rep 8 (0 : UInt32))).l) false, .box (C1 u32 f_1816.l) false]) ⟨_, orcs_ok (l := [(79, 43, [u32 y_1849, i64 ((-17))], u32 y_1858), (81, 43, [u32 y_1849, i64 ((-19))], u32 y_1859)]) ⟨bits_RotateLeft32_con hy_1860, bits_RotateLeft32_con hy_1861, trivial⟩, ?_⟩ ?_
      · subst hz_1863; simp only [go_sem, reduceIte, Nat.reduceLT, Nat.reduceEqDiff, Nat.reduceAdd, Nat.reduceBEq, Nat.reduceMul, Nat.reduceSub, Nat.reduceGT, Nat.reducePow, Nat.reduceLeDiff, Int.reduceToNat]
      replace h := chk_some h; obtain ⟨hc_1864, h⟩ := h
      replace h := chk_some h; obtain ⟨hc_1865, h⟩ := h
      replace h := chk_some h; obtain ⟨hc_1866, h⟩ := h
      replace h := lt1_some h; obtain ⟨f_1867, hz_1868, h⟩ := h
      refine run_drawE0 hE mixed [[], [], [1], [1, 2], [1, 2, 3], [], [1, 2, 3, 4, 5], [], [7], [7, 8], [7, 8, 9], [1, 2, 3, 4, 5, 6, 7, 8, 9, 10], [], [1, 2, 3, 4, 5, 6, 7, 8, 9, 10, 11, 12], [0, 1, 2, 3, 4, 5, 6, 7, 8, 9, 10, 11, 12, 13], [0, 1, 2, 3, 4, 5, 6, 7, 8, 9, 10, 11, 12, 13, 14]] (by kernel_rfl) (by kernel_rfl) (wk_block wk_then) [2, 4, 5, 7] (fr' := [(2, .ref 0 0), (4, .ref 1 0), (5, .ref 2 0), (7, i64 i_1815)]) (σ' := [.box (C1 u32 h_1647.l) false, .box (C1 u32 ((Arr.rep 8 (0 : UInt32))).l) false, .box (C1 u32 f_1867.l) false]) ⟨_, orcs_nil, ?_⟩ ?_
      · subst hz_1868; simp only [go_sem, reduceIte, Nat.reduceLT, Nat.reduceEqDiff, Nat.reduceAdd, Nat.reduceBEq, Nat.reduceMul, Nat.reduceSub, Nat.reduceGT, Nat.reducePow, Nat.reduceLeDiff, Int.reduceToNat, hc_1864, hc_1864.2, lt_le hc_1864.2, hc_1865, hc_1865.2, lt_le hc_1865.2, hc_1866, hc_1866.2, lt_le hc_1866.2]
      refine blockK_n ?_
      refine thenK_n ?_
      refine run_textE0 hE wk_lp [2, 4, 5, 7] (fr' := [(2, .ref 0 0), (4, .ref 1 0), (5, .ref 2 0), (7, i64 ((w64 (i_1815 + 1))))]) (σ' := [.box (C1 u32 h_1647.l) false, .box (C1 u32 ((Arr.rep 8 (0 : UInt32))).l) false, .box (C1 u32 f_1867.l) false]) ⟨_, orcs_nil, ?_⟩ ?_
      · simp only [go_sem, reduceIte, Nat.reduceLT, Nat.reduceEqDiff, Nat.reduceAdd, Nat.reduceBEq, Nat.reduceMul, Nat.reduceSub, Nat.reduceGT, Nat.reducePow, Nat.reduceLeDiff, Int.reduceToNat]
      obtain rfl := Option.some.inj h
      exact lpK_n (((w64 (i_1815 + 1)), f_1867)) rfl (weak_sel [0, 1, 2] (by decide) rfl (by simp only [go_sem, reduceIte, Nat.reduceLT, Nat.reduceEqDiff, Nat.reduceAdd, Nat.reduceBEq, Nat.reduceMul, Nat.reduceSub, Nat.reduceGT, Nat.reducePow, Nat.reduceLeDiff, Int.reduceToNat]) (by simp only [go_sem, reduceIte, Nat.reduceLT, Nat.reduceEqDiff, Nat.reduceAdd, Nat.reduceBEq, Nat.reduceMul, Nat.reduceSub, Nat.reduceGT, Nat.reducePow, Nat.reduceLeDiff, Int.reduceToNat]))
    · replace h := ite_f h hb
      refine run_exit ?_
      refine thenK_x ?_
      obtain rfl := Option.some.inj h
      have ex_x_1841 := hxx_1845 _ rfl
      subst ex_x_1841
      have h := hj_1843; clear hj_1843
      refine lpK_x ?_
      refine blockK_x ?_
      obtain rfl := Option.some.inj h
      exact joinK_n f_1816 rfl ((weak_sel (l' := [(2, .ref 0 0), (4, .ref 1 0), (5, .ref 2 0)]) (σ' := [.box (C1 u32 h_1647.l) false, .box (C1 u32 ((Arr.rep 8 (0 : UInt32))).l) false, .box (C1 u32 f_1816.l) false]) [0, 1, 2] (by decide) rfl (by simp only [go_sem, reduceIte, Nat.reduceLT, Nat.reduceEqDiff, Nat.reduceAdd, Nat.reduceBEq, Nat.reduceMul, Nat.reduceSub, Nat.reduceGT, Nat.reducePow, Nat.reduceLeDiff, Int.reduceToNat]) (by simp only [go_sem, reduceIte, Nat.reduceLT, Nat.reduceEqDiff, Nat.reduceAdd, Nat.reduceBEq, Nat.reduceMul, Nat.reduceSub, Nat.reduceGT, Nat.reducePow, Nat.reduceLeDiff, Int.reduceToNat])).trans (weak_sel [0, 1, 2] (by decide) rfl (by simp only [go_sem, reduceIte, Nat.reduceLT, Nat.reduceEqDiff, Nat.reduceAdd, Nat.reduceBEq, Nat.reduceMul, Nat.reduceSub, Nat.reduceGT, Nat.reducePow, Nat.reduceLeDiff, Int.reduceToNat]) (by simp only [go_sem, reduceIte, Nat.reduceLT, Nat.reduceEqDiff, Nat.reduceAdd, Nat.reduceBEq, Nat.reduceMul, Nat.reduceSub, Nat.reduceGT, Nat.reducePow, Nat.reduceLeDiff, Int.reduceToNat])))
  rintro f_1788 rfl
  have h := hj_1791; clear hj_1791
  refine run_textE hE [2, 4, 5, 12] (fr' := [(2, .ref 0 0), (4, .ref 1 0), (5, .ref 2 0), (12, .ref 3 0)]) (σ' := [.box (C1 u32 h_1647.l) false, .box (C1 u32 ((Arr.rep 8 (0 : UInt32))).l) false, .box (C1 u32 f_1788.l) false, .box (C1 u32 h_1647.l) false]) ⟨_, orcs_nil, ?_⟩ ?_
  · simp only [go_sem, reduceIte, Nat.reduceLT, Nat.reduceEqDiff, Nat.reduceAdd, Nat.reduceBEq, Nat.reduceMul, Nat.reduceSub, Nat.reduceGT, Nat.reducePow, Nat.reduceLeDiff, Int.reduceToNat]
  replace h := bind_some1 h; obtain ⟨j_1980, hA_1981, hj_1982⟩ := h
  refine run_join (fun (v : Arr UInt32 8) => (⟨asFr 195 [(2, .ref 0 0), (4, .ref 1 0), (12, .ref 2 0)], [.box (C1 u32 h_1647.l) false, .box (C1 u32 ((Arr.rep 8 (0 : UInt32))).l) false, .box (C1 u32 v.l) false]⟩ : St)) (fun v => v = j_1980) ?_ ?_
  · have h := hA_1981; clear hA_1981
    refine run_textE hE [2, 4, 5, 12, 102] (fr' := [(2, .ref 0 0), (4, .ref 1 0), (5, .ref 2 0), (12, .ref 3 0), (102, i64 0)]) (σ' := [.box (C1 u32 h_1647.l) false, .box (C1 u32 ((Arr.rep 8 (0 : UInt32))).l) false, .box (C1 u32 f_1788.l) false, .box (C1 u32 h_1647.l) false]) ⟨_, orcs_nil, ?_⟩ ?_
    · simp only [go_sem, reduceIte, Nat.reduceLT, Nat.reduceEqDiff, Nat.reduceAdd, Nat.reduceBEq, Nat.reduceMul, Nat.reduceSub, Nat.reduceGT, Nat.reducePow, Nat.reduceLeDiff, Int.reduceToNat]
    refine run_block ?_
    replace h := bind_some1 h; obtain ⟨x_2054, hx_2055, hj_2056⟩ := h
    refine run_loopO hx_2055 (fun (v : Int × Arr UInt32 8) => (⟨asFr 195 [(2, .ref 0 0), (4, .ref 1 0), (5, .ref 2 0), (12, .ref 3 0), (102, i64 v.1)], [.box (C1 u32 h_1647.l) false, .box (C1 u32 ((Arr.rep 8 (0 : UInt32))).l) false, .box (C1 u32 f_1788.l) false, .box (C1 u32 v.2.l) false]⟩ : St)) (weak_sel [0, 1, 2, 3] (by decide) rfl (by simp only [go_sem, reduceIte, Nat.reduceLT, Nat.reduceEqDiff, Nat.reduceAdd, Nat.reduceBEq, Nat.reduceMul, Nat.reduceSub, Nat.reduceGT, Nat.reducePow, Nat.reduceLeDiff, Int.reduceToNat]) (by simp only [go_sem, reduceIte, Nat.reduceLT, Nat.reduceEqDiff, Nat.reduceAdd, Nat.reduceBEq, Nat.reduceMul, Nat.reduceSub, Nat.reduceGT, Nat.reducePow, Nat.reduceLeDiff, Int.reduceToNat])) ?_
    rintro ⟨t_2017, f_2018⟩ o_2057 h hxx_2058
    replace h : digest_block_b3 f_1788 t_2017 f_2018 = some o_2057 := h
    unfold digest_block_b3 at h
    refine run_textE hE [2, 4, 5, 12, 102, 103] (fr' := [(2, .ref 0 0), (4, .ref 1 0), (5, .ref 2 0), (12, .ref 3 0), (102, i64 t_2017), (103, .bool ((decide (t_2017 < 64))))]) (σ' := [.box (C1 u32 h_1647.l) false, .box (C1 u32 ((Arr.rep 8 (0 : UInt32))).l) false, .box (C1 u32 f_1788.l) false, .box (C1 u32 f_2018.l) false]) ⟨_, orcs_nil, ?_⟩ ?_
    · simp only [go_sem, reduceIte, Nat.reduceLT, Nat.reduceEqDiff, Nat.reduceAdd, Nat.reduceBEq, Nat.reduceMul, Nat.reduceSub, Nat.reduceGT, Nat.reducePow, Nat.reduceLeDiff, Int.reduceToNat]
    refine run_seq ?_
    refine run_condL (b := (decide (t_2017 < 64))) rfl (by decide) (fun hb => ?_) (fun hb => ?_)
    · replace h := ite_t h hb
      refine run_skip ?_
      refine thenK_n ?_
      refine run_seq ?_
      refine run_block ?_
      refine run_textE hE [2, 4, 5, 12, 13, 102] (fr' := [(2, .ref 0 0), (4, .ref 1 0), (5, .ref 2 0), (12, .ref 3 0), (13, i64 t_2017), (102, i64 t_2017)]) (σ' := [.box (C1 u32 h_1647.l) false, .box (C1 u32 ((Arr.rep 8 (0 : UInt32))).l) false, .box (C1 u32 f_1788.l) false, .box (C1 u32 f_2018.l) false]) ⟨_, orcs_nil, ?_⟩ ?_
      · simp only [go_sem, reduceIte, Nat.reduceLT, Nat.reduceEqDiff, Nat.reduceAdd, Nat.reduceBEq, Nat.reduceMul, Nat.reduceSub, Nat.reduceGT, Nat.reducePow, Nat.reduceLeDiff, Int.reduceToNat]
      have hk_2059 : InR 0 8 := by decide
      have hk_2060 : InR 4 8 := by decide
      refine run_drawE hE mixed [[], [0], [], [2], [0, 1], [0, 1, 2, 3, 4]] (by kernel_rfl) (by kernel_rfl) [2, 4, 5, 12, 13, 14, 15, 102] (fr' := [(2, .ref 0 0), (4, .ref 1 0), (5, .ref 2 0), (12, .ref 3 0), (13, i64 t_2017), (14, u32 ((f_2018.get 0))), (15, u32 ((f_2018.get 4))), (102, i64 t_2017)]) (σ' := [.box (C1 u32 h_1647.l) false, .box (C1 u32 ((Arr.rep 8 (0 : UInt32))).l) false, .box (C1 u32 f_1788.l) false, .box (C1 u32 f_2018.l) false]) ⟨_, orcs_nil, ?_⟩ ?_
      · simp only [go_sem, reduceIte, Nat.reduceLT, Nat.reduceEqDiff, Nat.reduceAdd, Nat.reduceBEq, Nat.reduceMul, Nat.reduceSub, Nat.reduceGT, Nat.reducePow, Nat.reduceLeDiff, Int.reduceToNat, hk_2059, hk_2059.2, hk_2060, hk_2060.2]
      have hk_2064 : InR 7 8 := by decide
      replace h := bind_some1 h; obtain ⟨y_2061, hy_2065, h⟩ := h
      replace h := bind_some1 h; obtain ⟨y_2062, hy_2066, h⟩ := h
      replace h := bind_some1 h; obtain ⟨y_2063, hy_2067, h⟩ := h
      have hk_2068 : InR 5 8 := by decide
      have hk_2069 : InR 6 8 := by decide
      replace h := chk_some h; obtain ⟨hc_2070, h⟩ := h
      replace h := chk_some h; obtain ⟨hc_2071, h⟩ := h
      replace h := lt1_some h; obtain ⟨t_2072, hz_2073, h⟩ := h
      refine run_drawE hE mixed [[], [0], [], [2], [], [2, 3, 4], [2, 3, 4, 5], [], [2, 3, 4, 5, 7], [2, 3, 4, 5, 6, 7, 8], [0, 1, 2, 3, 4, 5, 6, 7, 8, 9], [], [], [12], [11, 12, 13], [], [15], [], [17], [15, 16, 17, 18], [11, 12, 13, 14, 15, 16, 17, 18, 19], [0, 1, 2, 3, 4, 5, 6, 7, 8, 9, 10, 11, 12, 13, 14, 15, 16, 17, 18, 19, 20], [], [22], [22, 23], [0, 1, 2, 3, 4, 5, 6, 7, 8, 9, 10, 11, 12, 13, 14, 15, 16, 17, 18, 19, 20, 21, 22, 23, 24], [], [26], [26, 27], [0, 1, 2, 3, 4, 5, 6, 7, 8, 9, 10, 11, 12, 13, 14, 15, 16, 17, 18, 19, 20, 21, 22, 23, 24, 25, 26, 27, 28], [0, 1, 2, 3, 4, 5, 6, 7, 8, 9, 10, 11, 12, 13, 14, 15, 16, 17, 18, 19, 20, 21, 22, 23, 24, 25, 26, 27, 28, 29]] (by kernel_rfl) (by kernel_rfl) [2, 4, 5, 12, 14, 15, 16, 102] (fr' := [(2, .ref 0 0), (4, .ref 1 0), (5, .ref 2 0), (12, .ref 3 0), (14, u32 ((f_2018.get 0))), (15, u32 ((f_2018.get 4))), (16, u32 t_2072), (102, i64 t_2017)]) (σ' := [.box (C1 u32 h_1647.l) false, .box (C1 u32 ((Arr.rep 8 (0 : UInt32))).l) false, .box (C1 u32 f_1788.l) false, .box (C1 u32 f_2018.l) false]) ⟨_, orcs_ok (l := [(112, 43, [u32 ((f_2018.get 4)), i64 ((-6))], u32 y_2061), (114, 43, [u32 ((f_2018.get 4)), i64 ((-11))], u32 y_2062), (117, 43, [u32 ((f_2018.get 4)), i64 ((-25))], u32 y_2063)]) ⟨bits_RotateLeft32_con hy_2065, bits_RotateLeft32_con hy_2066, bits_RotateLeft32_con hy_2067, trivial⟩, ?_⟩ ?_
      · subst hz_2073; simp only [go_sem, reduceIte, Nat.reduceLT, Nat.reduceEqDiff, Nat.reduceAdd, Nat.reduceBEq, Nat.reduceMul, Nat.reduceSub, Nat.reduceGT, Nat.reducePow, Nat.reduceLeDiff, Int.reduceToNat, hk_2064, hk_2064.2, hk_2068, hk_2068.2, hk_2069, hk_2069.2, hc_2070, hc_2070.2, lt_le hc_2070.2, hc_2071, hc_2071.2, lt_le hc_2071.2]
      replace h := bind_some1 h; obtain ⟨y_2074, hy_2077, h⟩ := h
      replace h := bind_some1 h; obtain ⟨y_2075, hy_2078, h⟩ := h
      replace h := bind_some1 h; obtain ⟨y_2076, hy_2079, h⟩ := h
      have hk_2080 : InR 1 8 := by decide
      have hk_2081 : InR 2 8 := by decide
      have hk_2082 : InR 1 8 := by decide
      have hk_2083 : InR 2 8 := by decide
      replace h := lt1_some h; obtain ⟨u_2084, hz_2085, h⟩ := h
      refine run_drawE hE mixed [[], [0], [], [0, 1, 2], [0, 1, 2, 3], [], [0, 1, 2, 3, 5], [0, 1, 2, 3, 4, 5, 6], [], [], [9], [8, 9, 10], [], [], [13], [12, 13, 14], [8, 9, 10, 11, 12, 13, 14, 15], [], [17], [], [19], [17, 18, 19, 20], [8, 9, 10, 11, 12, 13, 14, 15, 16, 17, 18, 19, 20, 21], [0, 1, 2, 3, 4, 5, 6, 7, 8, 9, 10, 11, 12, 13, 14, 15, 16, 17, 18, 19, 20, 21, 22], [0, 1, 2, 3, 4, 5, 6, 7, 8, 9, 10, 11, 12, 13, 14, 15, 16, 17, 18, 19, 20, 21, 22, 23]] (by kernel_rfl) (by kernel_rfl) [2, 4, 5, 12, 14, 15, 16, 17, 102] (fr' := [(2, .ref 0 0), (4, .ref 1 0), (5, .ref 2 0), (12, .ref 3 0), (14, u32 ((f_2018.get 0))), (15, u32 ((f_2018.get 4))), (16, u32 t_2072), (17, u32 u_2084), (102, i64 t_2017)]) (σ' := [.box (C1 u32 h_1647.l) false, .box (C1 u32 ((Arr.rep 8 (0 : UInt32))).l) false, .box (C1 u32 f_1788.l) false, .box (C1 u32 f_2018.l) false]) ⟨_, orcs_ok (l := [(140, 43, [u32 ((f_2018.get 0)), i64 ((-2))], u32 y_2074), (142, 43, [u32 ((f_2018.get 0)), i64 ((-13))], u32 y_2075), (145, 43, [u32 ((f_2018.get 0)), i64 ((-22))], u32 y_2076)]) ⟨bits_RotateLeft32_con hy_2077, bits_RotateLeft32_con hy_2078, bits_RotateLeft32_con hy_2079, trivial⟩, ?_⟩ ?_
      · subst hz_2085; simp only [go_sem, reduceIte, Nat.reduceLT, Nat.reduceEqDiff, Nat.reduceAdd, Nat.reduceBEq, Nat.reduceMul, Nat.reduceSub, Nat.reduceGT, Nat.reducePow, Nat.reduceLeDiff, Int.reduceToNat, hk_2080, hk_2080.2, hk_2081, hk_2081.2, hk_2082, hk_2082.2, hk_2083, hk_2083.2]
      have hk_2086 : InR 1 8 := by decide
      have hk_2087 : InR 2 8 := by decide
      have hk_2088 : InR 3 8 := by decide
      have hk_2089 : InR 5 8 := by decide
      have hk_2090 : InR 6 8 := by decide
      replace h := lt1_some h; obtain ⟨f_2091, hz_2092, h⟩ := h
      refine run_textE0 hE (wk_block wk_then) [2, 4, 5, 12, 102] (fr' := [(2, .ref 0 0), (4, .ref 1 0), (5, .ref 2 0), (12, .ref 3 0), (102, i64 t_2017)]) (σ' := [.box (C1 u32 h_1647.l) false, .box (C1 u32 ((Arr.rep 8 (0 : UInt32))).l) false, .box (C1 u32 f_1788.l) false, .box (C1 u32 f_2091.l) false]) ⟨_, orcs_nil, ?_⟩ ?_
      · subst hz_2092; simp only [go_sem, reduceIte, Nat.reduceLT, Nat.reduceEqDiff, Nat.reduceAdd, Nat.reduceBEq, Nat.reduceMul, Nat.reduceSub, Nat.reduceGT, Nat.reducePow, Nat.reduceLeDiff, Int.reduceToNat, hk_2086, hk_2086.2, hk_2087, hk_2087.2, hk_2088, hk_2088.2, hk_2089, hk_2089.2, hk_2090, hk_2090.2, C1_rep, C1_nil, C1_cons]
      refine blockK_n ?_
      refine thenK_n ?_
      refine run_textE0 hE wk_lp [2, 4, 5, 12, 102] (fr' := [(2, .ref 0 0), (4, .ref 1 0), (5, .ref 2 0), (12, .ref 3 0), (102, i64 ((w64 (t_2017 + 1))))]) (σ' := [.box (C1 u32 h_1647.l) false, .box (C1 u32 ((Arr.rep 8 (0 : UInt32))).l) false, .box (C1 u32 f_1788.l) false, .box (C1 u32 f_2091.l) false]) ⟨_, orcs_nil, ?_⟩ ?_
      · simp only [go_sem, reduceIte, Nat.reduceLT, Nat.reduceEqDiff, Nat.reduceAdd, Nat.reduceBEq, Nat.reduceMul, Nat.reduceSub, Nat.reduceGT, Nat.reducePow, Nat.reduceLeDiff, Int.reduceToNat]
      obtain rfl := Option.some.inj h
      exact lpK_n (((w64 (t_2017 + 1)), f_2091)) rfl (weak_sel [0, 1, 2, 3] (by decide) rfl (by simp only [go_sem, reduceIte, Nat.reduceLT, Nat.reduceEqDiff, Nat.reduceAdd, Nat.reduceBEq, Nat.reduceMul, Nat.reduceSub, Nat.reduceGT, Nat.reducePow, Nat.reduceLeDiff, Int.reduceToNat]) (by simp only [go_sem, reduceIte, Nat.reduceLT, Nat.reduceEqDiff, Nat.reduceAdd, Nat.reduceBEq, Nat.reduceMul, Nat.reduceSub, Nat.reduceGT, Nat.reducePow, Nat.reduceLeDiff, Int.reduceToNat]))
    · replace h := ite_f h hb
      refine run_exit ?_
      refine thenK_x ?_
      obtain rfl := Option.some.inj h
      have ex_x_2054 := hxx_2058 _ rfl
      subst ex_x_2054
      have h := hj_2056; clear hj_2056
      refine lpK_x ?_
      refine blockK_x ?_
      obtain rfl := Option.some.inj h
      exact joinK_n f_2018 rfl ((weak_sel (l' := [(2, .ref 0 0), (4, .ref 1 0), (12, .ref 2 0)]) (σ' := [.box (C1 u32 h_1647.l) false, .box (C1 u32 ((Arr.rep 8 (0 : UInt32))).l) false, .box (C1 u32 f_2018.l) false]) [0, 1, 3] (by decide) rfl (by simp only [go_sem, reduceIte, Nat.reduceLT, Nat.reduceEqDiff, Nat.reduceAdd, Nat.reduceBEq, Nat.reduceMul, Nat.reduceSub, Nat.reduceGT, Nat.reducePow, Nat.reduceLeDiff, Int.reduceToNat]) (by simp only [go_sem, reduceIte, Nat.reduceLT, Nat.reduceEqDiff, Nat.reduceAdd, Nat.reduceBEq, Nat.reduceMul, Nat.reduceSub, Nat.reduceGT, Nat.reducePow, Nat.reduceLeDiff, Int.reduceToNat])).trans (weak_sel [0, 1, 2] (by decide) rfl (by simp only [go_sem, reduceIte, Nat.reduceLT, Nat.reduceEqDiff, Nat.reduceAdd, Nat.reduceBEq, Nat.reduceMul, Nat.reduceSub, Nat.reduceGT, Nat.reducePow, Nat.reduceLeDiff, Int.reduceToNat]) (by simp only [go_sem, reduceIte, Nat.reduceLT, Nat.reduceEqDiff, Nat.reduceAdd, Nat.reduceBEq, Nat.reduceMul, Nat.reduceSub, Nat.reduceGT, Nat.reducePow, Nat.reduceLeDiff, Int.reduceToNat])))
  rintro f_1979 rfl
  have h := hj_1982; clear hj_1982
  replace h := bind_some1 h; obtain ⟨j_2117, hA_2118, hj_2119⟩ := h
  refine run_join (fun (v : Arr UInt32 8) => (⟨asFr 195 [(2, .ref 0 0), (4, .ref 1 0)], [.box (C1 u32 v.l) false, .box (C1 u32 ((Arr.rep 8 (0 : UInt32))).l) false]⟩ : St)) (fun v => v = j_2117) ?_ ?_
  · have h := hA_2118; clear hA_2118
    refine run_textE hE [2, 4, 12, 182] (fr' := [(2, .ref 0 0), (4, .ref 1 0), (12, .ref 2 0), (182, i64 0)]) (σ' := [.box (C1 u32 h_1647.l) false, .box (C1 u32 ((Arr.rep 8 (0 : UInt32))).l) false, .box (C1 u32 f_1979.l) false]) ⟨_, orcs_nil, ?_⟩ ?_
    · simp only [go_sem, reduceIte, Nat.reduceLT, Nat.reduceEqDiff, Nat.reduceAdd, Nat.reduceBEq, Nat.reduceMul, Nat.reduceSub, Nat.reduceGT, Nat.reducePow, Nat.reduceLeDiff, Int.reduceToNat]
    refine run_block ?_
    replace h := bind_some1 h; obtain ⟨x_2133, hx_2134, hj_2135⟩ := h
    refine run_loopO hx_2134 (fun (v : Int × Arr UInt32 8) => (⟨asFr 195 [(2, .ref 0 0), (4, .ref 1 0), (12, .ref 2 0), (182, i64 v.1)], [.box (C1 u32 v.2.l) false, .box (C1 u32 ((Arr.rep 8 (0 : UInt32))).l) false, .box (C1 u32 f_1979.l) false]⟩ : St)) (weak_sel [0, 1, 2] (by decide) rfl (by simp only [go_sem, reduceIte, Nat.reduceLT, Nat.reduceEqDiff, Nat.reduceAdd, Nat.reduceBEq, Nat.reduceMul, Nat.reduceSub, Nat.reduceGT, Nat.reducePow, Nat.reduceLeDiff, Int.reduceToNat]) (by simp only [go_sem, reduceIte, Nat.reduceLT, Nat.reduceEqDiff, Nat.reduceAdd, Nat.reduceBEq, Nat.reduceMul, Nat.reduceSub, Nat.reduceGT, Nat.reducePow, Nat.reduceLeDiff, Int.reduceToNat])) ?_
    rintro ⟨t_2125, f_2126⟩ o_2136 h hxx_2137
    replace h : digest_block_b4 f_1979 t_2125 f_2126 = some o_2136 := h
    unfold digest_block_b4 at h
    refine run_textE hE [2, 4, 12, 182, 183] (fr' := [(2, .ref 0 0), (4, .ref 1 0), (12, .ref 2 0), (182, i64 t_2125), (183, .bool ((decide (t_2125 < 8))))]) (σ' := [.box (C1 u32 f_2126.l) false, .box (C1 u32 ((Arr.rep 8 (0 : UInt32))).l) false, .box (C1 u32 f_1979.l) false]) ⟨_, orcs_nil, ?_⟩ ?_
    · simp only [go_sem, reduceIte, Nat.reduceLT, Nat.reduceEqDiff, Nat.reduceAdd, Nat.reduceBEq, Nat.reduceMul, Nat.reduceSub, Nat.reduceGT, Nat.reducePow, Nat.reduceLeDiff, Int.reduceToNat]
    refine run_seq ?_
    refine run_condL (b := (decide (t_2125 < 8))) rfl (by decide) (fun hb => ?_) (fun hb => ?_)
    · replace h := ite_t h hb
      refine run_skip ?_
      refine thenK_n ?_
      refine run_seq ?_
      refine run_block ?_
      refine run_textE hE [2, 4, 12, 18, 182] (fr' := [(2, .ref 0 0), (4, .ref 1 0), (12, .ref 2 0), (18, i64 t_2125), (182, i64 t_2125)]) (σ' := [.box (C1 u32 f_2126.l) false, .box (C1 u32 ((Arr.rep 8 (0 : UInt32))).l) false, .box (C1 u32 f_1979.l) false]) ⟨_, orcs_nil, ?_⟩ ?_
      · simp only [go_sem, reduceIte, Nat.reduceLT, Nat.reduceEqDiff, Nat.reduceAdd, Nat.reduceBEq, Nat.reduceMul, Nat.reduceSub, Nat.reduceGT, Nat.reducePow, Nat.reduceLeDiff, Int.reduceToNat]
      replace h := chk_some h; obtain ⟨hc_2138, h⟩ := h
      replace h := chk_some h; obtain ⟨hc_2139, h⟩ := h
      replace h := chk_some h; obtain ⟨hc_2140, h⟩ := h
      replace h := lt1_some h; obtain ⟨f_2141, hz_2142, h⟩ := h
      refine run_drawE0 hE mixed [[], [0], [0, 1], [], [3], [3, 4], [0, 1, 2, 3, 4, 5], [0, 1, 2, 3, 4, 5, 6], [0, 1, 2, 3, 4, 5, 6, 7]] (by kernel_rfl) (by kernel_rfl) (wk_block wk_then) [2, 4, 12, 182] (fr' := [(2, .ref 0 0), (4, .ref 1 0), (12, .ref 2 0), (182, i64 t_2125)]) (σ' := [.box (C1 u32 f_2141.l) false, .box (C1 u32 ((Arr.rep 8 (0 : UInt32))).l) false, .box (C1 u32 f_1979.l) false]) ⟨_, orcs_nil, ?_⟩ ?_
      · subst hz_2142; simp only [go_sem, reduceIte, Nat.reduceLT, Nat.reduceEqDiff, Nat.reduceAdd, Nat.reduceBEq, Nat.reduceMul, Nat.reduceSub, Nat.reduceGT, Nat.reducePow, Nat.reduceLeDiff, Int.reduceToNat, hc_2138, hc_2138.2, lt_le hc_2138.2, hc_2139, hc_2139.2, lt_le hc_2139.2, hc_2140, hc_2140.2, lt_le hc_2140.2]
      refine blockK_n ?_
      refine thenK_n ?_
      refine run_textE0 hE wk_lp [2, 4, 12, 182] (fr' := [(2, .ref 0 0), (4, .ref 1 0), (12, .ref 2 0), (182, i64 ((w64 (t_2125 + 1))))]) (σ' := [.box (C1 u32 f_2141.l) false, .box (C1 u32 ((Arr.rep 8 (0 : UInt32))).l) false, .box (C1 u32 f_1979.l) false]) ⟨_, orcs_nil, ?_⟩ ?_
      · simp only [go_sem, reduceIte, Nat.reduceLT, Nat.reduceEqDiff, Nat.reduceAdd, Nat.reduceBEq, Nat.reduceMul, Nat.reduceSub, Nat.reduceGT, Nat.reducePow, Nat.reduceLeDiff, Int.reduceToNat]
      obtain rfl := Option.some.inj h
      exact lpK_n (((w64 (t_2125 + 1)), f_2141)) rfl (weak_sel [0, 1, 2] (by decide) rfl (by simp only [go_sem, reduceIte, Nat.reduceLT, Nat.reduceEqDiff, Nat.reduceAdd, Nat.reduceBEq, Nat.reduceMul, Nat.reduceSub, Nat.reduceGT, Nat.reducePow, Nat.reduceLeDiff, Int.reduceToNat]) (by simp only [go_sem, reduceIte, Nat.reduceLT, Nat.reduceEqDiff, Nat.reduceAdd, Nat.reduceBEq, Nat.reduceMul, Nat.reduceSub, Nat.reduceGT, Nat.reducePow, Nat.reduceLeDiff, Int.reduceToNat]))
    · replace h := ite_f h hb
      refine run_exit ?_
      refine thenK_x ?_
      obtain rfl := Option.some.inj h
      have ex_x_2133 := hxx_2137 _ rfl
      subst ex_x_2133
      have h := hj_2135; clear hj_2135
      refine lpK_x ?_
      refine blockK_x ?_
      obtain rfl := Option.some.inj h
      exact joinK_n f_2126 rfl ((weak_sel (l' := [(2, .ref 0 0), (4, .ref 1 0)]) (σ' := [.box (C1 u32 f_2126.l) false, .box (C1 u32 ((Arr.rep 8 (0 : UInt32))).l) false]) [0, 1] (by decide) rfl (by simp only [go_sem, reduceIte, Nat.reduceLT, Nat.reduceEqDiff, Nat.reduceAdd, Nat.reduceBEq, Nat.reduceMul, Nat.reduceSub, Nat.reduceGT, Nat.reducePow, Nat.reduceLeDiff, Int.reduceToNat]) (by simp only [go_sem, reduceIte, Nat.reduceLT, Nat.reduceEqDiff, Nat.reduceAdd, Nat.reduceBEq, Nat.reduceMul, Nat.reduceSub, Nat.reduceGT, Nat.reducePow, Nat.reduceLeDiff, Int.reduceToNat])).trans (weak_sel [0, 1] (by decide) rfl (by simp only [go_sem, reduceIte, Nat.reduceLT, Nat.reduceEqDiff, Nat.reduceAdd, Nat.reduceBEq, Nat.reduceMul, Nat.reduceSub, Nat.reduceGT, Nat.reducePow, Nat.reduceLeDiff, Int.reduceToNat]) (by simp only [go_sem, reduceIte, Nat.reduceLT, Nat.reduceEqDiff, Nat.reduceAdd, Nat.reduceBEq, Nat.reduceMul, Nat.reduceSub, Nat.reduceGT, Nat.reducePow, Nat.reduceLeDiff, Int.reduceToNat])))
  rintro f_2116 rfl
  have h := hj_2119; clear hj_2119
  refine run_textE hE [4] (fr' := [(4, .ref 1 0)]) (σ' := [.box (C1 u32 f_2116.l) false, .box (C1 u32 f_2116.l) false]) ⟨_, orcs_nil, ?_⟩ ?_
  · simp only [go_sem, reduceIte, Nat.reduceLT, Nat.reduceEqDiff, Nat.reduceAdd, Nat.reduceBEq, Nat.reduceMul, Nat.reduceSub, Nat.reduceGT, Nat.reducePow, Nat.reduceLeDiff, Int.reduceToNat]
  refine run_ret ?_
  obtain rfl := Option.some.inj h
  refine ret_ok (.inr rfl) ?_
  simp only [go_sem, reduceIte, Nat.reduceLT, Nat.reduceEqDiff, Nat.reduceAdd, Nat.reduceBEq, Nat.reduceMul, Nat.reduceSub, Nat.reduceGT, Nat.reducePow, Nat.reduceLeDiff, Int.reduceToNat]

end Go.Proofs.YtgdiabbgiiemcaaDoor
