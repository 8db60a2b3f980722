/-
  The functions compute just that.
-/
import Derived.Test.YtgdiabbgiiemcaaDoorDW2
import Derived.KernelRfl
namespace Go.Proofs.YtgdiabbgiiemcaaDoor
open Go.Rv
set_option linter.unusedVariables false
set_option linter.unusedSimpArgs false
set_option maxRecDepth 20000

theorem r02_schedule_con {b_837 : List UInt8} {r : Arr UInt32 64} (h : r02_schedule b_837 = some r) : Con B 37 [.sl false (L cU8 b_837)] [] (fun r' σ' => r' = .agg (C1 u32 r.l) ∧ σ' = []) := by
  refine con_walk (N := 102) (rs := [.cell 2 66]) ok Tryd.func37 rfl (by decide +kernel) rfl rfl (Nat.le_of_ble_eq_true rfl) (fun F => ?_)
  have hE := ok.env F
  unfold r02_schedule at h
  show Run (B.env F) 0 _ ⟨asFr 102 [(0, .sl false (L cU8 b_837))], []⟩ _
  refine run_textE hE [0, 2] (fr' := [(0, .sl false (L cU8 b_837)), (2, .ref 0 0)]) (σ' := [.box (C1 u32 ((Arr.rep 64 (0 : UInt32))).l) false]) ⟨_, orcs_nil, ?_⟩ ?_
  · simp only [go_sem, reduceIte, Nat.reduceLT, Nat.reduceEqDiff, Nat.reduceAdd, Nat.reduceBEq, Nat.reduceMul, Nat.reduceSub, Nat.reduceGT, Nat.reducePow, Nat.reduceLeDiff, Int.reduceToNat]
  replace h := lt1_some h; obtain ⟨f_838, hz_839, h⟩ := h
  refine run_textE hE [0, 2, 3] (fr' := [(0, .sl false (L cU8 b_837)), (2, .ref 0 0), (3, .ref 1 0)]) (σ' := [.box (C1 u32 ((Arr.rep 64 (0 : UInt32))).l) false, .box (C1 u32 f_838.l) false]) ⟨_, orcs_nil, ?_⟩ ?_
  · subst hz_839; simp only [go_sem, reduceIte, Nat.reduceLT, Nat.reduceEqDiff, Nat.reduceAdd, Nat.reduceBEq, Nat.reduceMul, Nat.reduceSub, Nat.reduceGT, Nat.reducePow, Nat.reduceLeDiff, Int.reduceToNat, C1_rep, C1_nil, C1_cons]
  replace h := bind_some1 h; obtain ⟨j_870, hA_871, hj_872⟩ := h
  refine run_join (fun (v : Arr UInt32 64) => (⟨asFr 102 [(2, .ref 0 0), (3, .ref 1 0)], [.box (C1 u32 ((Arr.rep 64 (0 : UInt32))).l) false, .box (C1 u32 v.l) false]⟩ : St)) (fun v => v = j_870) ?_ ?_
  · have h := hA_871; clear hA_871
    refine run_textE hE [0, 2, 3, 4] (fr' := [(0, .sl false (L cU8 b_837)), (2, .ref 0 0), (3, .ref 1 0), (4, i64 0)]) (σ' := [.box (C1 u32 ((Arr.rep 64 (0 : UInt32))).l) false, .box (C1 u32 f_838.l) false]) ⟨_, orcs_nil, ?_⟩ ?_
    · simp only [go_sem, reduceIte, Nat.reduceLT, Nat.reduceEqDiff, Nat.reduceAdd, Nat.reduceBEq, Nat.reduceMul, Nat.reduceSub, Nat.reduceGT, Nat.reducePow, Nat.reduceLeDiff, Int.reduceToNat]
    refine run_block ?_
    replace h := bind_some1 h; obtain ⟨x_890, hx_891, hj_892⟩ := h
    refine run_loopO hx_891 (fun (v : Int × Arr UInt32 64) => (⟨asFr 102 [(0, .sl false (L cU8 b_837)), (2, .ref 0 0), (3, .ref 1 0), (4, i64 v.1)], [.box (C1 u32 ((Arr.rep 64 (0 : UInt32))).l) false, .box (C1 u32 v.2.l) false]⟩ : St)) (weak_sel [0, 1] (by decide) rfl (by simp only [go_sem, reduceIte, Nat.reduceLT, Nat.reduceEqDiff, Nat.reduceAdd, Nat.reduceBEq, Nat.reduceMul, Nat.reduceSub, Nat.reduceGT, Nat.reducePow, Nat.reduceLeDiff, Int.reduceToNat]) (by simp only [go_sem, reduceIte, Nat.reduceLT, Nat.reduceEqDiff, Nat.reduceAdd, Nat.reduceBEq, Nat.reduceMul, Nat.reduceSub, Nat.reduceGT, Nat.reducePow, Nat.reduceLeDiff, Int.reduceToNat])) ?_
    rintro ⟨i_880, f_881⟩ o_893 h hxx_894
    replace h : r02_schedule_b1 b_837 i_880 f_881 = some o_893 := h
    unfold r02_schedule_b1 at h
    refine run_seq ?_
    refine run_textE hE [0, 2, 3, 4, 10] (fr' := [(0, .sl false (L cU8 b_837)), (2, .ref 0 0), (3, .ref 1 0), (4, i64 i_880), (10, .bool ((decide (i_880 < 16))))]) (σ' := [.box (C1 u32 ((Arr.rep 64 (0 : UInt32))).l) false, .box (C1 u32 f_881.l) false]) ⟨_, orcs_nil, ?_⟩ ?_
    · simp only [go_sem, reduceIte, Nat.reduceLT, Nat.reduceEqDiff, Nat.reduceAdd, Nat.reduceBEq, Nat.reduceMul, Nat.reduceSub, Nat.reduceGT, Nat.reducePow, Nat.reduceLeDiff, Int.reduceToNat]
    refine run_condL (b := (decide (i_880 < 16))) rfl (by decide) (fun hb => ?_) (fun hb => ?_)
    · replace h := ite_t h hb
      refine run_skip ?_
      refine thenK_n ?_
      refine run_seq ?_
      refine run_block ?_
      replace h := chk_some h; obtain ⟨hc_895, h⟩ := h
      replace h := chk_some h; obtain ⟨hc_896, h⟩ := h
      replace h := chk_some h; obtain ⟨hc_897, h⟩ := h
      replace h := chk_some h; obtain ⟨hc_898, h⟩ := h
      replace h := chk_some h; obtain ⟨hc_899, h⟩ := h
      replace h := lt1_some h; obtain ⟨f_900, hz_901, h⟩ := h
      refine run_drawE0 hE mixed [[], [], [], [2], [1, 2, 3], [1, 2, 3, 4], [1, 2, 3, 4, 5], [1, 2, 3, 4, 5, 6], [], [], [9], [9, 10], [8, 9, 10, 11], [8, 9, 10, 11, 12], [8, 9, 10, 11, 12, 13], [8, 9, 10, 11, 12, 13, 14], [1, 2, 3, 4, 5, 6, 7, 8, 9, 10, 11, 12, 13, 14, 15], [], [], [18], [18, 19], [17, 18, 19, 20], [17, 18, 19, 20, 21], [17, 18, 19, 20, 21, 22], [17, 18, 19, 20, 21, 22, 23], [1, 2, 3, 4, 5, 6, 7, 8, 9, 10, 11, 12, 13, 14, 15, 16, 17, 18, 19, 20, 21, 22, 23, 24], [], [], [27], [27, 28], [26, 27, 28, 29], [26, 27, 28, 29, 30], [26, 27, 28, 29, 30, 31], [1, 2, 3, 4, 5, 6, 7, 8, 9, 10, 11, 12, 13, 14, 15, 16, 17, 18, 19, 20, 21, 22, 23, 24, 25, 26, 27, 28, 29, 30, 31, 32], [0, 1, 2, 3, 4, 5, 6, 7, 8, 9, 10, 11, 12, 13, 14, 15, 16, 17, 18, 19, 20, 21, 22, 23, 24, 25, 26, 27, 28, 29, 30, 31, 32, 33], [0, 1, 2, 3, 4, 5, 6, 7, 8, 9, 10, 11, 12, 13, 14, 15, 16, 17, 18, 19, 20, 21, 22, 23, 24, 25, 26, 27, 28, 29, 30, 31, 32, 33, 34]] (by kernel_rfl) (by kernel_rfl) (wk_block wk_then) [0, 2, 3, 4] (fr' := [(0, .sl false (L cU8 b_837)), (2, .ref 0 0), (3, .ref 1 0), (4, i64 i_880)]) (σ' := [.box (C1 u32 ((Arr.rep 64 (0 : UInt32))).l) false, .box (C1 u32 f_900.l) false]) ⟨_, orcs_nil, ?_⟩ ?_
      · subst hz_901; simp only [go_sem, reduceIte, Nat.reduceLT, Nat.reduceEqDiff, Nat.reduceAdd, Nat.reduceBEq, Nat.reduceMul, Nat.reduceSub, Nat.reduceGT, Nat.reducePow, Nat.reduceLeDiff, Int.reduceToNat, hc_895, hc_895.2, lt_le hc_895.2, hc_896, hc_896.2, lt_le hc_896.2, hc_897, hc_897.2, lt_le hc_897.2, hc_898, hc_898.2, lt_le hc_898.2, hc_899, hc_899.2, lt_le hc_899.2]
      refine blockK_n ?_
      refine thenK_n ?_
      refine run_textE0 hE wk_lp [0, 2, 3, 4] (fr' := [(0, .sl false (L cU8 b_837)), (2, .ref 0 0), (3, .ref 1 0), (4, i64 ((w64 (i_880 + 1))))]) (σ' := [.box (C1 u32 ((Arr.rep 64 (0 : UInt32))).l) false, .box (C1 u32 f_900.l) false]) ⟨_, orcs_nil, ?_⟩ ?_
      · simp only [go_sem, reduceIte, Nat.reduceLT, Nat.reduceEqDiff, Nat.reduceAdd, Nat.reduceBEq, Nat.reduceMul, Nat.reduceSub, Nat.reduceGT, Nat.reducePow, Nat.reduceLeDiff, Int.reduceToNat]
      obtain rfl := Option.some.inj h
      exact lpK_n (((w64 (i_880 + 1)), f_900)) rfl (weak_sel [0, 1] (by decide) rfl (by simp only [go_sem, reduceIte, Nat.reduceLT, Nat.reduceEqDiff, Nat.reduceAdd, Nat.reduceBEq, Nat.reduceMul, Nat.reduceSub, Nat.reduceGT, Nat.reducePow, Nat.reduceLeDiff, Int.reduceToNat]) (by simp only [go_sem, reduceIte, Nat.reduceLT, Nat.reduceEqDiff, Nat.reduceAdd, Nat.reduceBEq, Nat.reduceMul, Nat.reduceSub, Nat.reduceGT, Nat.reducePow, Nat.reduceLeDiff, Int.reduceToNat]))
    · replace h := ite_f h hb
      refine run_exit ?_
      refine thenK_x ?_
      obtain rfl := Option.some.inj h
      have ex_x_890 := hxx_894 _ rfl
      subst ex_x_890
      have h := hj_892; clear hj_892
      refine lpK_x ?_
      refine blockK_x ?_
      obtain rfl := Option.some.inj h
      exact joinK_n f_881 rfl ((weak_sel (l' := [(2, .ref 0 0), (3, .ref 1 0)]) (σ' := [.box (C1 u32 ((Arr.rep 64 (0 : UInt32))).l) false, .box (C1 u32 f_881.l) false]) [0, 1] (by decide) rfl (by simp only [go_sem, reduceIte, Nat.reduceLT, Nat.reduceEqDiff, Nat.reduceAdd, Nat.reduceBEq, Nat.reduceMul, Nat.reduceSub, Nat.reduceGT, Nat.reducePow, Nat.reduceLeDiff, Int.reduceToNat]) (by simp only [go_sem, reduceIte, Nat.reduceLT, Nat.reduceEqDiff, Nat.reduceAdd, Nat.reduceBEq, Nat.reduceMul, Nat.reduceSub, Nat.reduceGT, Nat.reducePow, Nat.reduceLeDiff, Int.reduceToNat])).trans (weak_sel [0, 1] (by decide) rfl (by simp only [go_sem, reduceIte, Nat.reduceLT, Nat.reduceEqDiff, Nat.reduceAdd, Nat.reduceBEq, Nat.reduceMul, Nat.reduceSub, Nat.reduceGT, Nat.reducePow, Nat.reduceLeDiff, Int.reduceToNat]) (by simp only [go_sem, reduceIte, Nat.reduceLT, Nat.reduceEqDiff, Nat.reduceAdd, Nat.reduceBEq, Nat.reduceMul, Nat.reduceSub, Nat.reduceGT, Nat.reducePow, Nat.reduceLeDiff, Int.reduceToNat])))
  rintro f_869 rfl
  have h := hj_872; clear hj_872
  replace h := bind_some1 h; obtain ⟨j_980, hA_981, hj_982⟩ := h
  refine run_join (fun (v : Arr UInt32 64) => (⟨asFr 102 [(2, .ref 0 0), (3, .ref 1 0)], [.box (C1 u32 ((Arr.rep 64 (0 : UInt32))).l) false, .box (C1 u32 v.l) false]⟩ : St)) (fun v => v = j_980) ?_ ?_
  · have h := hA_981; clear hA_981
    refine run_textE hE [2, 3, 5] (fr' := [(2, .ref 0 0), (3, .ref 1 0), (5, i64 16)]) (σ' := [.box (C1 u32 ((Arr.rep 64 (0 : UInt32))).l) false, .box (C1 u32 f_869.l) false]) ⟨_, orcs_nil, ?_⟩ ?_
    · simp only [go_sem, reduceIte, Nat.reduceLT, Nat.reduceEqDiff, Nat.reduceAdd, Nat.reduceBEq, Nat.reduceMul, Nat.reduceSub, Nat.reduceGT, Nat.reducePow, Nat.reduceLeDiff, Int.reduceToNat]
    refine run_block ?_
    replace h := bind_some1 h; obtain ⟨x_1032, hx_1033, hj_1034⟩ := h
    refine run_loopO hx_1033 (fun (v : Int × Arr UInt32 64) => (⟨asFr 102 [(2, .ref 0 0), (3, .ref 1 0), (5, i64 v.1)], [.box (C1 u32 ((Arr.rep 64 (0 : UInt32))).l) false, .box (C1 u32 v.2.l) false]⟩ : St)) (weak_sel [0, 1] (by decide) rfl (by simp only [go_sem, reduceIte, Nat.reduceLT, Nat.reduceEqDiff, Nat.reduceAdd, Nat.reduceBEq, Nat.reduceMul, Nat.reduceSub, Nat.reduceGT, Nat.reducePow, Nat.reduceLeDiff, Int.reduceToNat]) (by simp only [go_sem, reduceIte, Nat.reduceLT, Nat.reduceEqDiff, Nat.reduceAdd, Nat.reduceBEq, Nat.reduceMul, Nat.reduceSub, Nat.reduceGT, Nat.reducePow, Nat.reduceLeDiff, Int.reduceToNat])) ?_
    rintro ⟨i_1006, f_1007⟩ o_1035 h hxx_1036
    replace h : r02_schedule_b2 i_1006 f_1007 = some o_1035 := h
    unfold r02_schedule_b2 at h
    refine run_seq ?_
    refine run_textE hE [2, 3, 5, 49] (fr' := [(2, .ref 0 0), (3, .ref 1 0), (5, i64 i_1006), (49, .bool ((decide (i_1006 < 64))))]) (σ' := [.box (C1 u32 ((Arr.rep 64 (0 : UInt32))).l) false, .box (C1 u32 f_1007.l) false]) ⟨_, orcs_nil, ?_⟩ ?_
    · simp only [go_sem, reduceIte, Nat.reduceLT, Nat.reduceEqDiff, Nat.reduceAdd, Nat.reduceBEq, Nat.reduceMul, Nat.reduceSub, Nat.reduceGT, Nat.reducePow, Nat.reduceLeDiff, Int.reduceToNat]
    refine run_condL (b := (decide (i_1006 < 64))) rfl (by decide) (fun hb => ?_) (fun hb => ?_)
    · replace h := ite_t h hb
      refine run_skip ?_
      refine thenK_n ?_
      refine run_seq ?_
      refine run_block ?_
      replace h := chk_some h; obtain ⟨hc_1039, h⟩ := h
      replace h := bind_some1 h; obtain ⟨y_1037, hy_1040, h⟩ := h
      replace h := chk_some h; obtain ⟨hc_1041, h⟩ := h
      replace h := bind_some1 h; obtain ⟨y_1038, hy_1042, h⟩ := h
      replace h := chk_some h; obtain ⟨hc_1043, h⟩ := h
      replace h := lt1_some h; obtain ⟨s0_1044, hz_1045, h⟩ := h
      refine run_drawE hE mixed [[], [0], [0, 1], [0, 1, 2], [0, 1, 2, 3], [], [5], [5, 6], [5, 6, 7], [0, 1, 2, 3, 4, 5, 6, 7, 8], [0, 1, 2, 3, 4, 5, 6, 7, 8, 9], [], [11], [11, 12], [11, 12, 13], [11, 12, 13, 14], [0, 1, 2, 3, 4, 5, 6, 7, 8, 9, 10, 11, 12, 13, 14, 15], [0, 1, 2, 3, 4, 5, 6, 7, 8, 9, 10, 11, 12, 13, 14, 15, 16]] (by kernel_rfl) (by kernel_rfl) [2, 3, 5, 6] (fr' := [(2, .ref 0 0), (3, .ref 1 0), (5, i64 i_1006), (6, u32 s0_1044)]) (σ' := [.box (C1 u32 ((Arr.rep 64 (0 : UInt32))).l) false, .box (C1 u32 f_1007.l) false]) ⟨_, orcs_ok (l := [(56, 39, [u32 ((f_1007.get (((w64 (i_1006 - 15))).toNat))), i64 7], u32 y_1037), (61, 39, [u32 ((f_1007.get (((w64 (i_1006 - 15))).toNat))), i64 18], u32 y_1038)]) ⟨r02_rotr_con hy_1040, r02_rotr_con hy_1042, trivial⟩, ?_⟩ ?_
      · subst hz_1045; simp only [go_sem, reduceIte, Nat.reduceLT, Nat.reduceEqDiff, Nat.reduceAdd, Nat.reduceBEq, Nat.reduceMul, Nat.reduceSub, Nat.reduceGT, Nat.reducePow, Nat.reduceLeDiff, Int.reduceToNat, hc_1039, hc_1039.2, lt_le hc_1039.2, hc_1041, hc_1041.2, lt_le hc_1041.2, hc_1043, hc_1043.2, lt_le hc_1043.2]
      replace h := chk_some h; obtain ⟨hc_1048, h⟩ := h
      replace h := bind_some1 h; obtain ⟨y_1046, hy_1049, h⟩ := h
      replace h := chk_some h; obtain ⟨hc_1050, h⟩ := h
      replace h := bind_some1 h; obtain ⟨y_1047, hy_1051, h⟩ := h
      replace h := chk_some h; obtain ⟨hc_1052, h⟩ := h
      replace h := lt1_some h; obtain ⟨s1_1053, hz_1054, h⟩ := h
      refine run_drawE hE mixed [[], [0], [0, 1], [0, 1, 2], [0, 1, 2, 3], [], [5], [5, 6], [5, 6, 7], [0, 1, 2, 3, 4, 5, 6, 7, 8], [0, 1, 2, 3, 4, 5, 6, 7, 8, 9], [], [11], [11, 12], [11, 12, 13], [11, 12, 13, 14], [0, 1, 2, 3, 4, 5, 6, 7, 8, 9, 10, 11, 12, 13, 14, 15], [0, 1, 2, 3, 4, 5, 6, 7, 8, 9, 10, 11, 12, 13, 14, 15, 16]] (by kernel_rfl) (by kernel_rfl) [2, 3, 5, 6, 7] (fr' := [(2, .ref 0 0), (3, .ref 1 0), (5, i64 i_1006), (6, u32 s0_1044), (7, u32 s1_1053)]) (σ' := [.box (C1 u32 ((Arr.rep 64 (0 : UInt32))).l) false, .box (C1 u32 f_1007.l) false]) ⟨_, orcs_ok (l := [(73, 39, [u32 ((f_1007.get (((w64 (i_1006 - 2))).toNat))), i64 17], u32 y_1046), (78, 39, [u32 ((f_1007.get (((w64 (i_1006 - 2))).toNat))), i64 19], u32 y_1047)]) ⟨r02_rotr_con hy_1049, r02_rotr_con hy_1051, trivial⟩, ?_⟩ ?_
      · subst hz_1054; simp only [go_sem, reduceIte, Nat.reduceLT, Nat.reduceEqDiff, Nat.reduceAdd, Nat.reduceBEq, Nat.reduceMul, Nat.reduceSub, Nat.reduceGT, Nat.reducePow, Nat.reduceLeDiff, Int.reduceToNat, hc_1048, hc_1048.2, lt_le hc_1048.2, hc_1050, hc_1050.2, lt_le hc_1050.2, hc_1052, hc_1052.2, lt_le hc_1052.2]
      replace h := chk_some h; obtain ⟨hc_1055, h⟩ := h
      replace h := chk_some h; obtain ⟨hc_1056, h⟩ := h
      replace h := chk_some h; obtain ⟨hc_1057, h⟩ := h
      replace h := lt1_some h; obtain ⟨f_1058, hz_1059, h⟩ := h
      refine run_drawE0 hE mixed [[], [], [1], [1, 2], [1, 2, 3], [], [1, 2, 3, 4, 5], [], [7], [7, 8], [7, 8, 9], [1, 2, 3, 4, 5, 6, 7, 8, 9, 10], [], [1, 2, 3, 4, 5, 6, 7, 8, 9, 10, 11, 12], [0, 1, 2, 3, 4, 5, 6, 7, 8, 9, 10, 11, 12, 13], [0, 1, 2, 3, 4, 5, 6, 7, 8, 9, 10, 11, 12, 13, 14]] (by kernel_rfl) (by kernel_rfl) (wk_block wk_then) [2, 3, 5] (fr' := [(2, .ref 0 0), (3, .ref 1 0), (5, i64 i_1006)]) (σ' := [.box (C1 u32 ((Arr.rep 64 (0 : UInt32))).l) false, .box (C1 u32 f_1058.l) false]) ⟨_, orcs_nil, ?_⟩ ?_
      · subst hz_1059; simp only [go_sem, reduceIte, Nat.reduceLT, Nat.reduceEqDiff, Nat.reduceAdd, Nat.reduceBEq, Nat.reduceMul, Nat.reduceSub, Nat.reduceGT, Nat.reducePow, Nat.reduceLeDiff, Int.reduceToNat, hc_1055, hc_1055.2, lt_le hc_1055.2, hc_1056, hc_1056.2, lt_le hc_1056.2, hc_1057, hc_1057.2, lt_le hc_1057.2]
      refine blockK_n ?_
      refine thenK_n ?_
      refine run_textE0 hE wk_lp [2, 3, 5] (fr' := [(2, .ref 0 0), (3, .ref 1 0), (5, i64 ((w64 (i_1006 + 1))))]) (σ' := [.box (C1 u32 ((Arr.rep 64 (0 : UInt32))).l) false, .box (C1 u32 f_1058.l) false]) ⟨_, orcs_nil, ?_⟩ ?_
      · simp only [go_sem, reduceIte, Nat.reduceLT, Nat.reduceEqDiff, Nat.reduceAdd, Nat.reduceBEq, Nat.reduceMul, Nat.reduceSub, Nat.reduceGT, Nat.reducePow, Nat.reduceLeDiff, Int.reduceToNat]
      obtain rfl := Option.some.inj h
      exact lpK_n (((w64 (i_1006 + 1)), f_1058)) rfl (weak_sel [0, 1] (by decide) rfl (by simp only [go_sem, reduceIte, Nat.reduceLT, Nat.reduceEqDiff, Nat.reduceAdd, Nat.reduceBEq, Nat.reduceMul, Nat.reduceSub, Nat.reduceGT, Nat.reducePow, Nat.reduceLeDiff, Int.reduceToNat]) (by simp only [go_sem, reduceIte, Nat.reduceLT, Nat.reduceEqDiff, Nat.reduceAdd, Nat.reduceBEq, Nat.reduceMul, Nat.reduceSub, Nat.reduceGT, Nat.reducePow, Nat.reduceLeDiff, Int.reduceToNat]))
    · replace h := ite_f h hb
      refine run_exit ?_
      refine thenK_x ?_
      obtain rfl := Option.some.inj h
      have ex_x_1032 := hxx_1036 _ rfl
      subst ex_x_1032
      have h := hj_1034; clear hj_1034
      refine lpK_x ?_
      refine blockK_x ?_
      obtain rfl := Option.some.inj h
      exact joinK_n f_1007 rfl ((weak_sel (l' := [(2, .ref 0 0), (3, .ref 1 0)]) (σ' := [.box (C1 u32 ((Arr.rep 64 (0 : UInt32))).l) false, .box (C1 u32 f_1007.l) false]) [0, 1] (by decide) rfl (by simp only [go_sem, reduceIte, Nat.reduceLT, Nat.reduceEqDiff, Nat.reduceAdd, Nat.reduceBEq, Nat.reduceMul, Nat.reduceSub, Nat.reduceGT, Nat.reducePow, Nat.reduceLeDiff, Int.reduceToNat]) (by simp only [go_sem, reduceIte, Nat.reduceLT, Nat.reduceEqDiff, Nat.reduceAdd, Nat.reduceBEq, Nat.reduceMul, Nat.reduceSub, Nat.reduceGT, Nat.reducePow, Nat.reduceLeDiff, Int.reduceToNat])).trans (weak_sel [0, 1] (by decide) rfl (by simp only [go_sem, reduceIte, Nat.reduceLT, Nat.reduceEqDiff, Nat.reduceAdd, Nat.reduceBEq, Nat.reduceMul, Nat.reduceSub, Nat.reduceGT, Nat.reducePow, Nat.reduceLeDiff, Int.reduceToNat]) (by simp only [go_sem, reduceIte, Nat.reduceLT, Nat.reduceEqDiff, Nat.reduceAdd, Nat.reduceBEq, Nat.reduceMul, Nat.reduceSub, Nat.reduceGT, Nat.reducePow, Nat.reduceLeDiff, Int.reduceToNat])))
  rintro f_979 rfl
  have h := hj_982; clear hj_982
  refine run_textE hE [2] (fr' := [(2, .ref 0 0)]) (σ' := [.box (C1 u32 f_979.l) false, .box (C1 u32 f_979.l) false]) ⟨_, orcs_nil, ?_⟩ ?_
  · simp only [go_sem, reduceIte, Nat.reduceLT, Nat.reduceEqDiff, Nat.reduceAdd, Nat.reduceBEq, Nat.reduceMul, Nat.reduceSub, Nat.reduceGT, Nat.reducePow, Nat.reduceLeDiff, Int.reduceToNat]
  refine run_ret ?_
  obtain rfl := Option.some.inj h
  refine ret_ok (.inr rfl) ?_
  simp only [go_sem, reduceIte, Nat.reduceLT, Nat.reduceEqDiff, Nat.reduceAdd, Nat.reduceBEq, Nat.reduceMul, Nat.reduceSub, Nat.reduceGT, Nat.reducePow, Nat.reduceLeDiff, Int.reduceToNat]

theorem r02_block_con {h_1060 : Arr UInt32 8} {b_1061 : List UInt8} {r : Arr UInt32 8} (h : r02_block h_1060 b_1061 = some r) : Con B 30 [.agg (C1 u32 h_1060.l), .sl false (L cU8 b_1061)] [] (fun r' σ' => r' = .agg (C1 u32 r.l) ∧ σ' = []) := by
  refine con_walk (N := 126) (rs := [.cell 4 56]) ok Tryd.func30 rfl (by decide +kernel) rfl rfl (Nat.le_of_ble_eq_true rfl) (fun F => ?_)
  have hE := ok.env F
  unfold r02_block at h
  show Run (B.env F) 0 _ ⟨asFr 126 [(0, .agg (C1 u32 h_1060.l)), (1, .sl false (L cU8 b_1061))], []⟩ _
  refine run_textE hE [1, 2, 4] (fr' := [(1, .sl false (L cU8 b_1061)), (2, .ref 0 0), (4, .ref 1 0)]) (σ' := [.box (C1 u32 h_1060.l) false, .box (C1 u32 ((Arr.rep 8 (0 : UInt32))).l) false]) ⟨_, orcs_nil, ?_⟩ ?_
  · simp only [go_sem, reduceIte, Nat.reduceLT, Nat.reduceEqDiff, Nat.reduceAdd, Nat.reduceBEq, Nat.reduceMul, Nat.reduceSub, Nat.reduceGT, Nat.reducePow, Nat.reduceLeDiff, Int.reduceToNat]
  replace h := bind_some1 h; obtain ⟨y_1062, hy_1063, h⟩ := h
  refine run_textE hE [2, 4, 5] (fr' := [(2, .ref 0 0), (4, .ref 1 0), (5, .ref 2 0)]) (σ' := [.box (C1 u32 h_1060.l) false, .box (C1 u32 ((Arr.rep 8 (0 : UInt32))).l) false, .box (C1 u32 y_1062.l) false]) ⟨_, orcs_ok (l := [(17, 37, [.sl false (L cU8 b_1061)], .agg (C1 u32 y_1062.l))]) ⟨r02_schedule_con hy_1063, trivial⟩, ?_⟩ ?_
  · simp only [go_sem, reduceIte, Nat.reduceLT, Nat.reduceEqDiff, Nat.reduceAdd, Nat.reduceBEq, Nat.reduceMul, Nat.reduceSub, Nat.reduceGT, Nat.reducePow, Nat.reduceLeDiff, Int.reduceToNat]
  replace h := bind_some1 h; obtain ⟨y_1064, hy_1065, h⟩ := h
  refine run_textE hE [2, 4, 5, 6] (fr' := [(2, .ref 0 0), (4, .ref 1 0), (5, .ref 2 0), (6, .ref 3 0)]) (σ' := [.box (C1 u32 h_1060.l) false, .box (C1 u32 ((Arr.rep 8 (0 : UInt32))).l) false, .box (C1 u32 y_1062.l) false, .box (C1 u32 y_1064.l) false]) ⟨_, orcs_ok (l := [(18, 38, [], .agg (C1 u32 y_1064.l))]) ⟨r02_constants_con hy_1065, trivial⟩, ?_⟩ ?_
  · simp only [go_sem, reduceIte, Nat.reduceLT, Nat.reduceEqDiff, Nat.reduceAdd, Nat.reduceBEq, Nat.reduceMul, Nat.reduceSub, Nat.reduceGT, Nat.reducePow, Nat.reduceLeDiff, Int.reduceToNat]
  refine run_textE hE [2, 4, 5, 6, 7] (fr' := [(2, .ref 0 0), (4, .ref 1 0), (5, .ref 2 0), (6, .ref 3 0), (7, .ref 4 0)]) (σ' := [.box (C1 u32 h_1060.l) false, .box (C1 u32 ((Arr.rep 8 (0 : UInt32))).l) false, .box (C1 u32 y_1062.l) false, .box (C1 u32 y_1064.l) false, .box (C1 u32 h_1060.l) false]) ⟨_, orcs_nil, ?_⟩ ?_
  · simp only [go_sem, reduceIte, Nat.reduceLT, Nat.reduceEqDiff, Nat.reduceAdd, Nat.reduceBEq, Nat.reduceMul, Nat.reduceSub, Nat.reduceGT, Nat.reducePow, Nat.reduceLeDiff, Int.reduceToNat]
  replace h := bind_some1 h; obtain ⟨j_1225, hA_1226, hj_1227⟩ := h
  refine run_join (fun (v : Arr UInt32 8) => (⟨asFr 126 [(2, .ref 0 0), (4, .ref 1 0), (7, .ref 2 0)], [.box (C1 u32 h_1060.l) false, .box (C1 u32 ((Arr.rep 8 (0 : UInt32))).l) false, .box (C1 u32 v.l) false]⟩ : St)) (fun v => v = j_1225) ?_ ?_
  · have h := hA_1226; clear hA_1226
    refine run_textE hE [2, 4, 5, 6, 7, 8] (fr' := [(2, .ref 0 0), (4, .ref 1 0), (5, .ref 2 0), (6, .ref 3 0), (7, .ref 4 0), (8, i64 0)]) (σ' := [.box (C1 u32 h_1060.l) false, .box (C1 u32 ((Arr.rep 8 (0 : UInt32))).l) false, .box (C1 u32 y_1062.l) false, .box (C1 u32 y_1064.l) false, .box (C1 u32 h_1060.l) false]) ⟨_, orcs_nil, ?_⟩ ?_
    · simp only [go_sem, reduceIte, Nat.reduceLT, Nat.reduceEqDiff, Nat.reduceAdd, Nat.reduceBEq, Nat.reduceMul, Nat.reduceSub, Nat.reduceGT, Nat.reducePow, Nat.reduceLeDiff, Int.reduceToNat]
    refine run_block ?_
    replace h := bind_some1 h; obtain ⟨x_1331, hx_1332, hj_1333⟩ := h
    refine run_loopO hx_1332 (fun (v : Int × Arr UInt32 8) => (⟨asFr 126 [(2, .ref 0 0), (4, .ref 1 0), (5, .ref 2 0), (6, .ref 3 0), (7, .ref 4 0), (8, i64 v.1)], [.box (C1 u32 h_1060.l) false, .box (C1 u32 ((Arr.rep 8 (0 : UInt32))).l) false, .box (C1 u32 y_1062.l) false, .box (C1 u32 y_1064.l) false, .box (C1 u32 v.2.l) false]⟩ : St)) (weak_sel [0, 1, 2, 3, 4] (by decide) rfl (by simp only [go_sem, reduceIte, Nat.reduceLT, Nat.reduceEqDiff, Nat.reduceAdd, Nat.reduceBEq, Nat.reduceMul, Nat.reduceSub, Nat.reduceGT, Nat.reducePow, Nat.reduceLeDiff, Int.reduceToNat]) (by simp only [go_sem, reduceIte, Nat.reduceLT, Nat.reduceEqDiff, Nat.reduceAdd, Nat.reduceBEq, Nat.reduceMul, Nat.reduceSub, Nat.reduceGT, Nat.reducePow, Nat.reduceLeDiff, Int.reduceToNat])) ?_
    rintro ⟨i_1278, f_1279⟩ o_1334 h hxx_1335
    replace h : r02_block_b1 y_1062 y_1064 i_1278 f_1279 = some o_1334 := h
    unfold r02_block_b1 at h
    refine run_seq ?_
    refine run_textE hE [2, 4, 5, 6, 7, 8, 21] (fr' := [(2, .ref 0 0), (4, .ref 1 0), (5, .ref 2 0), (6, .ref 3 0), (7, .ref 4 0), (8, i64 i_1278), (21, .bool ((decide (i_1278 < 64))))]) (σ' := [.box (C1 u32 h_1060.l) false, .box (C1 u32 ((Arr.rep 8 (0 : UInt32))).l) false, .box (C1 u32 y_1062.l) false, .box (C1 u32 y_1064.l) false, .box (C1 u32 f_1279.l) false]) ⟨_, orcs_nil, ?_⟩ ?_
    · simp only [go_sem, reduceIte, Nat.reduceLT, Nat.reduceEqDiff, Nat.reduceAdd, Nat.reduceBEq, Nat.reduceMul, Nat.reduceSub, Nat.reduceGT, Nat.reducePow, Nat.reduceLeDiff, Int.reduceToNat]
    refine run_condL (b := (decide (i_1278 < 64))) rfl (by decide) (fun hb => ?_) (fun hb => ?_)
    · replace h := ite_t h hb
      refine run_skip ?_
      refine thenK_n ?_
      refine run_seq ?_
      refine run_block ?_
      have hk_1339 : InR 4 8 := by decide
      replace h := bind_some1 h; obtain ⟨y_1336, hy_1340, h⟩ := h
      have hk_1341 : InR 4 8 := by decide
      replace h := bind_some1 h; obtain ⟨y_1337, hy_1342, h⟩ := h
      have hk_1343 : InR 4 8 := by decide
      replace h := bind_some1 h; obtain ⟨y_1338, hy_1344, h⟩ := h
      replace h := lt1_some h; obtain ⟨s1_1345, hz_1346, h⟩ := h
      refine run_drawE hE mixed [[], [0], [0, 1], [], [3], [0, 1, 2, 3, 4], [0, 1, 2, 3, 4, 5], [], [7], [0, 1, 2, 3, 4, 5, 7, 8], [0, 1, 2, 3, 4, 5, 6, 7, 8, 9], [0, 1, 2, 3, 4, 5, 6, 7, 8, 9, 10]] (by kernel_rfl) (by kernel_rfl) [2, 4, 5, 6, 7, 8, 9] (fr' := [(2, .ref 0 0), (4, .ref 1 0), (5, .ref 2 0), (6, .ref 3 0), (7, .ref 4 0), (8, i64 i_1278), (9, u32 s1_1345)]) (σ' := [.box (C1 u32 h_1060.l) false, .box (C1 u32 ((Arr.rep 8 (0 : UInt32))).l) false, .box (C1 u32 y_1062.l) false, .box (C1 u32 y_1064.l) false, .box (C1 u32 f_1279.l) false]) ⟨_, orcs_ok (l := [(26, 39, [u32 ((f_1279.get 4)), i64 6], u32 y_1336), (29, 39, [u32 ((f_1279.get 4)), i64 11], u32 y_1337), (33, 39, [u32 ((f_1279.get 4)), i64 25], u32 y_1338)]) ⟨r02_rotr_con hy_1340, r02_rotr_con hy_1342, r02_rotr_con hy_1344, trivial⟩, ?_⟩ ?_
      · subst hz_1346; simp only [go_sem, reduceIte, Nat.reduceLT, Nat.reduceEqDiff, Nat.reduceAdd, Nat.reduceBEq, Nat.reduceMul, Nat.reduceSub, Nat.reduceGT, Nat.reducePow, Nat.reduceLeDiff, Int.reduceToNat, hk_1339, hk_1339.2, hk_1341, hk_1341.2, hk_1343, hk_1343.2]
      have hk_1347 : InR 4 8 := by decide
      have hk_1348 : InR 5 8 := by decide
      have hk_1349 : InR 4 8 := by decide
      have hk_1350 : InR 6 8 := by decide
      replace h := lt1_some h; obtain ⟨choice_1351, hz_1352, h⟩ := h
      refine run_textE hE [2, 4, 5, 6, 7, 8, 9, 10] (fr' := [(2, .ref 0 0), (4, .ref 1 0), (5, .ref 2 0), (6, .ref 3 0), (7, .ref 4 0), (8, i64 i_1278), (9, u32 s1_1345), (10, u32 choice_1351)]) (σ' := [.box (C1 u32 h_1060.l) false, .box (C1 u32 ((Arr.rep 8 (0 : UInt32))).l) false, .box (C1 u32 y_1062.l) false, .box (C1 u32 y_1064.l) false, .box (C1 u32 f_1279.l) false]) ⟨_, orcs_nil, ?_⟩ ?_
      · subst hz_1352; simp only [go_sem, reduceIte, Nat.reduceLT, Nat.reduceEqDiff, Nat.reduceAdd, Nat.reduceBEq, Nat.reduceMul, Nat.reduceSub, Nat.reduceGT, Nat.reducePow, Nat.reduceLeDiff, Int.reduceToNat, hk_1347, hk_1347.2, hk_1348, hk_1348.2, hk_1349, hk_1349.2, hk_1350, hk_1350.2]
      have hk_1353 : InR 7 8 := by decide
      replace h := chk_some h; obtain ⟨hc_1354, h⟩ := h
      replace h := chk_some h; obtain ⟨hc_1355, h⟩ := h
      replace h := lt1_some h; obtain ⟨t1_1356, hz_1357, h⟩ := h
      refine run_drawE hE mixed [[], [0], [], [0, 1, 2], [], [0, 1, 2, 3, 4], [], [6], [6, 7], [0, 1, 2, 3, 4, 5, 6, 7, 8], [], [10], [10, 11], [0, 1, 2, 3, 4, 5, 6, 7, 8, 9, 10, 11, 12], [0, 1, 2, 3, 4, 5, 6, 7, 8, 9, 10, 11, 12, 13]] (by kernel_rfl) (by kernel_rfl) [2, 4, 5, 6, 7, 8, 11] (fr' := [(2, .ref 0 0), (4, .ref 1 0), (5, .ref 2 0), (6, .ref 3 0), (7, .ref 4 0), (8, i64 i_1278), (11, u32 t1_1356)]) (σ' := [.box (C1 u32 h_1060.l) false, .box (C1 u32 ((Arr.rep 8 (0 : UInt32))).l) false, .box (C1 u32 y_1062.l) false, .box (C1 u32 y_1064.l) false, .box (C1 u32 f_1279.l) false]) ⟨_, orcs_nil, ?_⟩ ?_
      · subst hz_1357; simp only [go_sem, reduceIte, Nat.reduceLT, Nat.reduceEqDiff, Nat.reduceAdd, Nat.reduceBEq, Nat.reduceMul, Nat.reduceSub, Nat.reduceGT, Nat.reducePow, Nat.reduceLeDiff, Int.reduceToNat, hk_1353, hk_1353.2, hc_1354, hc_1354.2, lt_le hc_1354.2, hc_1355, hc_1355.2, lt_le hc_1355.2]
      have hk_1361 : InR 0 8 := by decide
      replace h := bind_some1 h; obtain ⟨y_1358, hy_1362, h⟩ := h
      have hk_1363 : InR 0 8 := by decide
      replace h := bind_some1 h; obtain ⟨y_1359, hy_1364, h⟩ := h
      have hk_1365 : InR 0 8 := by decide
      replace h := bind_some1 h; obtain ⟨y_1360, hy_1366, h⟩ := h
      replace h := lt1_some h; obtain ⟨s0_1367, hz_1368, h⟩ := h
      refine run_drawE hE mixed [[], [0], [0, 1], [], [3], [0, 1, 2, 3, 4], [0, 1, 2, 3, 4, 5], [], [7], [0, 1, 2, 3, 4, 5, 7, 8], [0, 1, 2, 3, 4, 5, 6, 7, 8, 9], [0, 1, 2, 3, 4, 5, 6, 7, 8, 9, 10]] (by kernel_rfl) (by kernel_rfl) [2, 4, 5, 6, 7, 8, 11, 12] (fr' := [(2, .ref 0 0), (4, .ref 1 0), (5, .ref 2 0), (6, .ref 3 0), (7, .ref 4 0), (8, i64 i_1278), (11, u32 t1_1356), (12, u32 s0_1367)]) (σ' := [.box (C1 u32 h_1060.l) false, .box (C1 u32 ((Arr.rep 8 (0 : UInt32))).l) false, .box (C1 u32 y_1062.l) false, .box (C1 u32 y_1064.l) false, .box (C1 u32 f_1279.l) false]) ⟨_, orcs_ok (l := [(63, 39, [u32 ((f_1279.get 0)), i64 2], u32 y_1358), (66, 39, [u32 ((f_1279.get 0)), i64 13], u32 y_1359), (70, 39, [u32 ((f_1279.get 0)), i64 22], u32 y_1360)]) ⟨r02_rotr_con hy_1362, r02_rotr_con hy_1364, r02_rotr_con hy_1366, trivial⟩, ?_⟩ ?_
      · subst hz_1368; simp only [go_sem, reduceIte, Nat.reduceLT, Nat.reduceEqDiff, Nat.reduceAdd, Nat.reduceBEq, Nat.reduceMul, Nat.reduceSub, Nat.reduceGT, Nat.reducePow, Nat.reduceLeDiff, Int.reduceToNat, hk_1361, hk_1361.2, hk_1363, hk_1363.2, hk_1365, hk_1365.2]
      have hk_1369 : InR 0 8 := by decide
      have hk_1370 : InR 1 8 := by decide
      have hk_1371 : InR 0 8 := by decide
      have hk_1372 : InR 2 8 := by decide
      have hk_1373 : InR 1 8 := by decide
      have hk_1374 : InR 2 8 := by decide
      replace h := lt1_some h; obtain ⟨majority_1375, hz_1376, h⟩ := h
      refine run_textE hE [2, 4, 5, 6, 7, 8, 11, 12, 13] (fr' := [(2, .ref 0 0), (4, .ref 1 0), (5, .ref 2 0), (6, .ref 3 0), (7, .ref 4 0), (8, i64 i_1278), (11, u32 t1_1356), (12, u32 s0_1367), (13, u32 majority_1375)]) (σ' := [.box (C1 u32 h_1060.l) false, .box (C1 u32 ((Arr.rep 8 (0 : UInt32))).l) false, .box (C1 u32 y_1062.l) false, .box (C1 u32 y_1064.l) false, .box (C1 u32 f_1279.l) false]) ⟨_, orcs_nil, ?_⟩ ?_
      · subst hz_1376; simp only [go_sem, reduceIte, Nat.reduceLT, Nat.reduceEqDiff, Nat.reduceAdd, Nat.reduceBEq, Nat.reduceMul, Nat.reduceSub, Nat.reduceGT, Nat.reducePow, Nat.reduceLeDiff, Int.reduceToNat, hk_1369, hk_1369.2, hk_1370, hk_1370.2, hk_1371, hk_1371.2, hk_1372, hk_1372.2, hk_1373, hk_1373.2, hk_1374, hk_1374.2]
      refine run_textE hE [2, 4, 5, 6, 7, 8, 11, 14] (fr' := [(2, .ref 0 0), (4, .ref 1 0), (5, .ref 2 0), (6, .ref 3 0), (7, .ref 4 0), (8, i64 i_1278), (11, u32 t1_1356), (14, u32 ((s0_1367 + majority_1375)))]) (σ' := [.box (C1 u32 h_1060.l) false, .box (C1 u32 ((Arr.rep 8 (0 : UInt32))).l) false, .box (C1 u32 y_1062.l) false, .box (C1 u32 y_1064.l) false, .box (C1 u32 f_1279.l) false]) ⟨_, orcs_nil, ?_⟩ ?_
      · simp only [go_sem, reduceIte, Nat.reduceLT, Nat.reduceEqDiff, Nat.reduceAdd, Nat.reduceBEq, Nat.reduceMul, Nat.reduceSub, Nat.reduceGT, Nat.reducePow, Nat.reduceLeDiff, Int.reduceToNat]
      have hk_1377 : InR 0 8 := by decide
      have hk_1378 : InR 1 8 := by decide
      have hk_1379 : InR 2 8 := by decide
      have hk_1380 : InR 3 8 := by decide
      have hk_1381 : InR 4 8 := by decide
      have hk_1382 : InR 5 8 := by decide
      have hk_1383 : InR 6 8 := by decide
      replace h := lt1_some h; obtain ⟨f_1384, hz_1385, h⟩ := h
      refine run_textE0 hE (wk_block wk_then) [2, 4, 5, 6, 7, 8] (fr' := [(2, .ref 0 0), (4, .ref 1 0), (5, .ref 2 0), (6, .ref 3 0), (7, .ref 4 0), (8, i64 i_1278)]) (σ' := [.box (C1 u32 h_1060.l) false, .box (C1 u32 ((Arr.rep 8 (0 : UInt32))).l) false, .box (C1 u32 y_1062.l) false, .box (C1 u32 y_1064.l) false, .box (C1 u32 f_1384.l) false]) ⟨_, orcs_nil, ?_⟩ ?_
      · subst hz_1385; simp only [go_sem, reduceIte, Nat.reduceLT, Nat.reduceEqDiff, Nat.reduceAdd, Nat.reduceBEq, Nat.reduceMul, Nat.reduceSub, Nat.reduceGT, Nat.reducePow, Nat.reduceLeDiff, Int.reduceToNat, hk_1377, hk_1377.2, hk_1378, hk_1378.2, hk_1379, hk_1379.2, hk_1380, hk_1380.2, hk_1381, hk_1381.2, hk_1382, hk_1382.2, hk_1383, hk_1383.2, C1_rep, C1_nil, C1_cons]
      refine blockK_n ?_
      refine thenK_n ?_
      refine run_textE0 hE wk_lp [2, 4, 5, 6, 7, 8] (fr' := [(2, .ref 0 0), (4, .ref 1 0), (5, .ref 2 0), (6, .ref 3 0), (7, .ref 4 0), (8, i64 ((w64 (i_1278 + 1))))]) (σ' := [.box (C1 u32 h_1060.l) false, .box (C1 u32 ((Arr.rep 8 (0 : UInt32))).l) false, .box (C1 u32 y_1062.l) false, .box (C1 u32 y_1064.l) false, .box (C1 u32 f_1384.l) false]) ⟨_, orcs_nil, ?_⟩ ?_
      · simp only [go_sem, reduceIte, Nat.reduceLT, Nat.reduceEqDiff, Nat.reduceAdd, Nat.reduceBEq, Nat.reduceMul, Nat.reduceSub, Nat.reduceGT, Nat.reducePow, Nat.reduceLeDiff, Int.reduceToNat]
      obtain rfl := Option.some.inj h
      exact lpK_n (((w64 (i_1278 + 1)), f_1384)) rfl (weak_sel [0, 1, 2, 3, 4] (by decide) rfl (by simp only [go_sem, reduceIte, Nat.reduceLT, Nat.reduceEqDiff, Nat.reduceAdd, Nat.reduceBEq, Nat.reduceMul, Nat.reduceSub, Nat.reduceGT, Nat.reducePow, Nat.reduceLeDiff, Int.reduceToNat]) (by simp only [go_sem, reduceIte, Nat.reduceLT, Nat.reduceEqDiff, Nat.reduceAdd, Nat.reduceBEq, Nat.reduceMul, Nat.reduceSub, Nat.reduceGT, Nat.reducePow, Nat.reduceLeDiff, Int.reduceToNat]))
    · replace h := ite_f h hb
      refine run_exit ?_
      refine thenK_x ?_
      obtain rfl := Option.some.inj h
      have ex_x_1331 := hxx_1335 _ rfl
      subst ex_x_1331
      have h := hj_1333; clear hj_1333
      refine lpK_x ?_
      refine blockK_x ?_
      obtain rfl := Option.some.inj h
      exact joinK_n f_1279 rfl ((weak_sel (l' := [(2, .ref 0 0), (4, .ref 1 0), (7, .ref 2 0)]) (σ' := [.box (C1 u32 h_1060.l) false, .box (C1 u32 ((Arr.rep 8 (0 : UInt32))).l) false, .box (C1 u32 f_1279.l) false]) [0, 1, 4] (by decide) rfl (by simp only [go_sem, reduceIte, Nat.reduceLT, Nat.reduceEqDiff, Nat.reduceAdd, Nat.reduceBEq, Nat.reduceMul, Nat.reduceSub, Nat.reduceGT, Nat.reducePow, Nat.reduceLeDiff, Int.reduceToNat]) (by simp only [go_sem, reduceIte, Nat.reduceLT, Nat.reduceEqDiff, Nat.reduceAdd, Nat.reduceBEq, Nat.reduceMul, Nat.reduceSub, Nat.reduceGT, Nat.reducePow, Nat.reduceLeDiff, Int.reduceToNat])).trans (weak_sel [0, 1, 2] (by decide) rfl (by simp only [go_sem, reduceIte, Nat.reduceLT, Nat.reduceEqDiff, Nat.reduceAdd, Nat.reduceBEq, Nat.reduceMul, Nat.reduceSub, Nat.reduceGT, Nat.reducePow, Nat.reduceLeDiff, Int.reduceToNat]) (by simp only [go_sem, reduceIte, Nat.reduceLT, Nat.reduceEqDiff, Nat.reduceAdd, Nat.reduceBEq, Nat.reduceMul, Nat.reduceSub, Nat.reduceGT, Nat.reducePow, Nat.reduceLeDiff, Int.reduceToNat])))
  rintro f_1224 rfl
  have h := hj_1227; clear hj_1227
  replace h := bind_some1 h; obtain ⟨j_1410, hA_1411, hj_1412⟩ := h
  refine run_join (fun (v : Arr UInt32 8) => (⟨asFr 126 [(2, .ref 0 0), (4, .ref 1 0)], [.box (C1 u32 v.l) false, .box (C1 u32 ((Arr.rep 8 (0 : UInt32))).l) false]⟩ : St)) (fun v => v = j_1410) ?_ ?_
  · have h := hA_1411; clear hA_1411
    refine run_textE hE [2, 4, 7, 15] (fr' := [(2, .ref 0 0), (4, .ref 1 0), (7, .ref 2 0), (15, i64 0)]) (σ' := [.box (C1 u32 h_1060.l) false, .box (C1 u32 ((Arr.rep 8 (0 : UInt32))).l) false, .box (C1 u32 f_1224.l) false]) ⟨_, orcs_nil, ?_⟩ ?_
    · simp only [go_sem, reduceIte, Nat.reduceLT, Nat.reduceEqDiff, Nat.reduceAdd, Nat.reduceBEq, Nat.reduceMul, Nat.reduceSub, Nat.reduceGT, Nat.reducePow, Nat.reduceLeDiff, Int.reduceToNat]
    refine run_block ?_
    replace h := bind_some1 h; obtain ⟨x_1426, hx_1427, hj_1428⟩ := h
    refine run_loopO hx_1427 (fun (v : Int × Arr UInt32 8) => (⟨asFr 126 [(2, .ref 0 0), (4, .ref 1 0), (7, .ref 2 0), (15, i64 v.1)], [.box (C1 u32 v.2.l) false, .box (C1 u32 ((Arr.rep 8 (0 : UInt32))).l) false, .box (C1 u32 f_1224.l) false]⟩ : St)) (weak_sel [0, 1, 2] (by decide) rfl (by simp only [go_sem, reduceIte, Nat.reduceLT, Nat.reduceEqDiff, Nat.reduceAdd, Nat.reduceBEq, Nat.reduceMul, Nat.reduceSub, Nat.reduceGT, Nat.reducePow, Nat.reduceLeDiff, Int.reduceToNat]) (by simp only [go_sem, reduceIte, Nat.reduceLT, Nat.reduceEqDiff, Nat.reduceAdd, Nat.reduceBEq, Nat.reduceMul, Nat.reduceSub, Nat.reduceGT, Nat.reducePow, Nat.reduceLeDiff, Int.reduceToNat])) ?_
    rintro ⟨i_1418, f_1419⟩ o_1429 h hxx_1430
    replace h : r02_block_b2 f_1224 i_1418 f_1419 = some o_1429 := h
    unfold r02_block_b2 at h
    refine run_seq ?_
    refine run_textE hE [2, 4, 7, 15, 113] (fr' := [(2, .ref 0 0), (4, .ref 1 0), (7, .ref 2 0), (15, i64 i_1418), (113, .bool ((decide (i_1418 < 8))))]) (σ' := [.box (C1 u32 f_1419.l) false, .box (C1 u32 ((Arr.rep 8 (0 : UInt32))).l) false, .box (C1 u32 f_1224.l) false]) ⟨_, orcs_nil, ?_⟩ ?_
    · simp only [go_sem, reduceIte, Nat.reduceLT, Nat.reduceEqDiff, Nat.reduceAdd, Nat.reduceBEq, Nat.reduceMul, Nat.reduceSub, Nat.reduceGT, Nat.reducePow, Nat.reduceLeDiff, Int.reduceToNat]
    refine run_condL (b := (decide (i_1418 < 8))) rfl (by decide) (fun hb => ?_) (fun hb => ?_)
    · replace h := ite_t h hb
      refine run_skip ?_
      refine thenK_n ?_
      refine run_seq ?_
      refine run_block ?_
      replace h := chk_some h; obtain ⟨hc_1431, h⟩ := h
      replace h := chk_some h; obtain ⟨hc_1432, h⟩ := h
      replace h := chk_some h; obtain ⟨hc_1433, h⟩ := h
      replace h := lt1_some h; obtain ⟨f_1434, hz_1435, h⟩ := h
      refine run_drawE0 hE mixed [[], [], [1], [1, 2], [], [4], [4, 5], [1, 2, 3, 4, 5, 6], [0, 1, 2, 3, 4, 5, 6, 7], [0, 1, 2, 3, 4, 5, 6, 7, 8]] (by kernel_rfl) (by kernel_rfl) (wk_block wk_then) [2, 4, 7, 15] (fr' := [(2, .ref 0 0), (4, .ref 1 0), (7, .ref 2 0), (15, i64 i_1418)]) (σ' := [.box (C1 u32 f_1434.l) false, .box (C1 u32 ((Arr.rep 8 (0 : UInt32))).l) false, .box (C1 u32 f_1224.l) false]) ⟨_, orcs_nil, ?_⟩ ?_
      · subst hz_1435; simp only [go_sem, reduceIte, Nat.reduceLT, Nat.reduceEqDiff, Nat.reduceAdd, Nat.reduceBEq, Nat.reduceMul, Nat.reduceSub, Nat.reduceGT, Nat.reducePow, Nat.reduceLeDiff, Int.reduceToNat, hc_1431, hc_1431.2, lt_le hc_1431.2, hc_1432, hc_1432.2, lt_le hc_1432.2, hc_1433, hc_1433.2, lt_le hc_1433.2]
      refine blockK_n ?_
      refine thenK_n ?_
      refine run_textE0 hE wk_lp [2, 4, 7, 15] (fr' := [(2, .ref 0 0), (4, .ref 1 0), (7, .ref 2 0), (15, i64 ((w64 (i_1418 + 1))))]) (σ' := [.box (C1 u32 f_1434.l) false, .box (C1 u32 ((Arr.rep 8 (0 : UInt32))).l) false, .box (C1 u32 f_1224.l) false]) ⟨_, orcs_nil, ?_⟩ ?_
      · simp only [go_sem, reduceIte, Nat.reduceLT, Nat.reduceEqDiff, Nat.reduceAdd, Nat.reduceBEq, Nat.reduceMul, Nat.reduceSub, Nat.reduceGT, Nat.reducePow, Nat.reduceLeDiff, Int.reduceToNat]
      obtain rfl := Option.some.inj h
      exact lpK_n (((w64 (i_1418 + 1)), f_1434)) rfl (weak_sel [0, 1, 2] (by decide) rfl (by simp only [go_sem, reduceIte, Nat.reduceLT, Nat.reduceEqDiff, Nat.reduceAdd, Nat.reduceBEq, Nat.reduceMul, Nat.reduceSub, Nat.reduceGT, Nat.reducePow, Nat.reduceLeDiff, Int.reduceToNat]) (by simp only [go_sem, reduceIte, Nat.reduceLT, Nat.reduceEqDiff, Nat.reduceAdd, Nat.reduceBEq, Nat.reduceMul, Nat.reduceSub, Nat.reduceGT, Nat.reducePow, Nat.reduceLeDiff, Int.reduceToNat]))
    · replace h := ite_f h hb
      refine run_exit ?_
      refine thenK_x ?_
      obtain rfl := Option.some.inj h
      have ex_x_1426 := hxx_1430 _ rfl
      subst ex_x_1426
      have h := hj_1428; clear hj_1428
      refine lpK_x ?_
      refine blockK_x ?_
      obtain rfl := Option.some.inj h
      exact joinK_n f_1419 rfl ((weak_sel (l' := [(2, .ref 0 0), (4, .ref 1 0)]) (σ' := [.box (C1 u32 f_1419.l) false, .box (C1 u32 ((Arr.rep 8 (0 : UInt32))).l) false]) [0, 1] (by decide) rfl (by simp only [go_sem, reduceIte, Nat.reduceLT, Nat.reduceEqDiff, Nat.reduceAdd, Nat.reduceBEq, Nat.reduceMul, Nat.reduceSub, Nat.reduceGT, Nat.reducePow, Nat.reduceLeDiff, Int.reduceToNat]) (by simp only [go_sem, reduceIte, Nat.reduceLT, Nat.reduceEqDiff, Nat.reduceAdd, Nat.reduceBEq, Nat.reduceMul, Nat.reduceSub, Nat.reduceGT, Nat.reducePow, Nat.reduceLeDiff, Int.reduceToNat])).trans (weak_sel [0, 1] (by decide) rfl (by simp only [go_sem, reduceIte, Nat.reduceLT, Nat.reduceEqDiff, Nat.reduceAdd, Nat.reduceBEq, Nat.reduceMul, Nat.reduceSub, Nat.reduceGT, Nat.reducePow, Nat.reduceLeDiff, Int.reduceToNat]) (by simp only [go_sem, reduceIte, Nat.reduceLT, Nat.reduceEqDiff, Nat.reduceAdd, Nat.reduceBEq, Nat.reduceMul, Nat.reduceSub, Nat.reduceGT, Nat.reducePow, Nat.reduceLeDiff, Int.reduceToNat])))
  rintro f_1409 rfl
  have h := hj_1412; clear hj_1412
  refine run_textE hE [4] (fr' := [(4, .ref 1 0)]) (σ' := [.box (C1 u32 f_1409.l) false, .box (C1 u32 f_1409.l) false]) ⟨_, orcs_nil, ?_⟩ ?_
  · simp only [go_sem, reduceIte, Nat.reduceLT, Nat.reduceEqDiff, Nat.reduceAdd, Nat.reduceBEq, Nat.reduceMul, Nat.reduceSub, Nat.reduceGT, Nat.reducePow, Nat.reduceLeDiff, Int.reduceToNat]
  refine run_ret ?_
  obtain rfl := Option.some.inj h
  refine ret_ok (.inr rfl) ?_
  simp only [go_sem, reduceIte, Nat.reduceLT, Nat.reduceEqDiff, Nat.reduceAdd, Nat.reduceBEq, Nat.reduceMul, Nat.reduceSub, Nat.reduceGT, Nat.reducePow, Nat.reduceLeDiff, Int.reduceToNat]

end Go.Proofs.YtgdiabbgiiemcaaDoor
