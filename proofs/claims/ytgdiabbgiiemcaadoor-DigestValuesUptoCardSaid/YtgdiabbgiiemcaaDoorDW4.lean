/-
  The functions compute just that.
-/
import Derived.Test.YtgdiabbgiiemcaaDoorDW3
import Derived.KernelRfl
namespace Go.Proofs.YtgdiabbgiiemcaaDoor
open Go.Rv
set_option linter.unusedVariables false
set_option linter.unusedSimpArgs false
set_option maxRecDepth 20000

theorem r02_schedule_con {b_1048 : List UInt8} {r : Arr UInt32 64} (h : r02_schedule b_1048 = some r) : Con B 37 [.sl false (L cU8 b_1048)] [] (fun r' σ' => r' = .agg (C1 u32 r.l) ∧ σ' = []) := by
  refine con_walk (N := 102) (rs := [.cell 2 66]) ok Tryd.func37 rfl (by decide +kernel) rfl rfl (Nat.le_of_ble_eq_true rfl) (fun F => ?_)
  have hE := ok.env F
  unfold r02_schedule at h
  show Run (B.env F) 0 _ ⟨asFr 102 [(0, .sl false (L cU8 b_1048))], []⟩ _
  refine run_textE hE [0, 2] (fr' := [(0, .sl false (L cU8 b_1048)), (2, .ref 0 0)]) (σ' := [.box (C1 u32 ((Arr.rep 64 (0 : UInt32))).l) false]) ⟨_, orcs_nil, ?_⟩ ?_
  · simp only [go_sem, reduceIte, Nat.reduceLT, Nat.reduceEqDiff, Nat.reduceAdd, Nat.reduceBEq, Nat.reduceMul, Nat.reduceSub, Nat.reduceGT, Nat.reducePow, Nat.reduceLeDiff, Int.reduceToNat]
  replace h := lt1_some h; obtain ⟨f_1049, hz_1050, h⟩ := h
  refine run_textE hE [0, 2, 3] (fr' := [(0, .sl false (L cU8 b_1048)), (2, .ref 0 0), (3, .ref 1 0)]) (σ' := [.box (C1 u32 ((Arr.rep 64 (0 : UInt32))).l) false, .box (C1 u32 f_1049.l) false]) ⟨_, orcs_nil, ?_⟩ ?_
  · subst hz_1050; simp only [go_sem, reduceIte, Nat.reduceLT, Nat.reduceEqDiff, Nat.reduceAdd, Nat.reduceBEq, Nat.reduceMul, Nat.reduceSub, Nat.reduceGT, Nat.reducePow, Nat.reduceLeDiff, Int.reduceToNat, C1_rep, C1_nil, C1_cons]
  replace h := bind_some1 h; obtain ⟨j_1081, hA_1082, hj_1083⟩ := h
  refine run_join (fun (v : Arr UInt32 64) => (⟨asFr 102 [(2, .ref 0 0), (3, .ref 1 0)], [.box (C1 u32 ((Arr.rep 64 (0 : UInt32))).l) false, .box (C1 u32 v.l) false]⟩ : St)) (fun v => v = j_1081) ?_ ?_
  · have h := hA_1082; clear hA_1082
    refine run_textE hE [0, 2, 3, 4] (fr' := [(0, .sl false (L cU8 b_1048)), (2, .ref 0 0), (3, .ref 1 0), (4, i64 0)]) (σ' := [.box (C1 u32 ((Arr.rep 64 (0 : UInt32))).l) false, .box (C1 u32 f_1049.l) false]) ⟨_, orcs_nil, ?_⟩ ?_
    · simp only [go_sem, reduceIte, Nat.reduceLT, Nat.reduceEqDiff, Nat.reduceAdd, Nat.reduceBEq, Nat.reduceMul, Nat.reduceSub, Nat.reduceGT, Nat.reducePow, Nat.reduceLeDiff, Int.reduceToNat]
    refine run_block ?_
    replace h := bind_some1 h; obtain ⟨x_1101, hx_1102, hj_1103⟩ := h
    refine run_loopO hx_1102 (fun (v : Int × Arr UInt32 64) => (⟨asFr 102 [(0, .sl false (L cU8 b_1048)), (2, .ref 0 0), (3, .ref 1 0), (4, i64 v.1)], [.box (C1 u32 ((Arr.rep 64 (0 : UInt32))).l) false, .box (C1 u32 v.2.l) false]⟩ : St)) (weak_sel [0, 1] (by decide) rfl (by simp only [go_sem, reduceIte, Nat.reduceLT, Nat.reduceEqDiff, Nat.reduceAdd, Nat.reduceBEq, Nat.reduceMul, Nat.reduceSub, Nat.reduceGT, Nat.reducePow, Nat.reduceLeDiff, Int.reduceToNat]) (by simp only [go_sem, reduceIte, Nat.reduceLT, Nat.reduceEqDiff, Nat.reduceAdd, Nat.reduceBEq, Nat.reduceMul, Nat.reduceSub, Nat.reduceGT, Nat.reducePow, Nat.reduceLeDiff, Int.reduceToNat])) ?_
    rintro ⟨i_1091, f_1092⟩ o_1104 h hxx_1105
    replace h : r02_schedule_b1 b_1048 i_1091 f_1092 = some o_1104 := h
    unfold r02_schedule_b1 at h
    refine run_seq ?_
    refine run_textE hE [0, 2, 3, 4, 10] (fr' := [(0, .sl false (L cU8 b_1048)), (2, .ref 0 0), (3, .ref 1 0), (4, i64 i_1091), (10, .bool ((decide (i_1091 < 16))))]) (σ' := [.box (C1 u32 ((Arr.rep 64 (0 : UInt32))).l) false, .box (C1 u32 f_1092.l) false]) ⟨_, orcs_nil, ?_⟩ ?_
    · simp only [go_sem, reduceIte, Nat.reduceLT, Nat.reduceEqDiff, Nat.reduceAdd, Nat.reduceBEq, Nat.reduceMul, Nat.reduceSub, Nat.reduceGT, Nat.reducePow, Nat.reduceLeDiff, Int.reduceToNat]
    refine run_condL (b := (decide (i_1091 < 16))) rfl (by decide) (fun hb => ?_) (fun hb => ?_)
    · replace h := ite_t h hb
      refine run_skip ?_
      refine thenK_n ?_
      refine run_seq ?_
      refine run_block ?_
      replace h := chk_some h; obtain ⟨hc_1106, h⟩ := h
      replace h := chk_some h; obtain ⟨hc_1107, h⟩ := h
      replace h := chk_some h; obtain ⟨hc_1108, h⟩ := h
      replace h := chk_some h; obtain ⟨hc_1109, h⟩ := h
      replace h := chk_some h; obtain ⟨hc_1110, h⟩ := h
      replace h := lt1_some h; obtain ⟨f_1111, hz_1112, h⟩ := h
      refine run_drawE0 hE mixed [[], [], [], [2], [1, 2, 3], [1, 2, 3, 4], [1, 2, 3, 4, 5], [1, 2, 3, 4, 5, 6], [], [], [9], [9, 10], [8, 9, 10, 11], [8, 9, 10, 11, 12], [8, 9, 10, 11, 12, 13], [8, 9, 10, 11, 12, 13, 14], [1, 2, 3, 4, 5, 6, 7, 8, 9, 10, 11, 12, 13, 14, 15], [], [], [18], [18, 19], [17, 18, 19, 20], [17, 18, 19, 20, 21], [17, 18, 19, 20, 21, 22], [17, 18, 19, 20, 21, 22, 23], [1, 2, 3, 4, 5, 6, 7, 8, 9, 10, 11, 12, 13, 14, 15, 16, 17, 18, 19, 20, 21, 22, 23, 24], [], [], [27], [27, 28], [26, 27, 28, 29], [26, 27, 28, 29, 30], [26, 27, 28, 29, 30, 31], [1, 2, 3, 4, 5, 6, 7, 8, 9, 10, 11, 12, 13, 14, 15, 16, 17, 18, 19, 20, 21, 22, 23, 24, 25, 26, 27, 28, 29, 30, 31, 32], [0, 1, 2, 3, 4, 5, 6, 7, 8, 9, 10, 11, 12, 13, 14, 15, 16, 17, 18, 19, 20, 21, 22, 23, 24, 25, 26, 27, 28, 29, 30, 31, 32, 33], [0, 1, 2, 3, 4, 5, 6, 7, 8, 9, 10, 11, 12, 13, 14, 15, 16, 17, 18, 19, 20, 21, 22, 23, 24, 25, 26, 27, 28, 29, 30, 31, 32, 33, 34]] (by kernel_rfl) (by kernel_rfl) (wk_block wk_then) [0, 2, 3, 4] (fr' := [(0, .sl false (L cU8 b_1048)), (2, .ref 0 0), (3, .ref 1 0), (4, i64 i_1091)]) (σ' := [.box (C1 u32 ((Arr.rep 64 (0 : UInt32))).l) false, .box (C1 u32 f_1111.l) false]) ⟨_, orcs_nil, ?_⟩ ?_
      · subst hz_1112; simp only [go_sem, reduceIte, Nat.reduceLT, Nat.reduceEqDiff, Nat.reduceAdd, Nat.reduceBEq, Nat.reduceMul, Nat.reduceSub, Nat.reduceGT, Nat.reducePow, Nat.reduceLeDiff, Int.reduceToNat, hc_1106, hc_1106.2, lt_le hc_1106.2, hc_1107, hc_1107.2, lt_le hc_1107.2, hc_1108, hc_1108.2, lt_le hc_1108.2, hc_1109, hc_1109.2, lt_le hc_1109.2, hc_1110, hc_1110.2, lt_le hc_1110.2]
      refine blockK_n ?_
      refine thenK_n ?_
      refine run_textE0 hE wk_lp [0, 2, 3, 4] (fr' := [(0, .sl false (L cU8 b_1048)), (2, .ref 0 0), (3, .ref 1 0), (4, i64 ((w64 (i_1091 + 1))))]) (σ' := [.box (C1 u32 ((Arr.rep 64 (0 : UInt32))).l) false, .box (C1 u32 f_1111.l) false]) ⟨_, orcs_nil, ?_⟩ ?_
      · simp only [go_sem, reduceIte, Nat.reduceLT, Nat.reduceEqDiff, Nat.reduceAdd, Nat.reduceBEq, Nat.reduceMul, Nat.reduceSub, Nat.reduceGT, Nat.reducePow, Nat.reduceLeDiff, Int.reduceToNat]
      obtain rfl := Option.some.inj h
      exact lpK_n (((w64 (i_1091 + 1)), f_1111)) rfl (weak_sel [0, 1] (by decide) rfl (by simp only [go_sem, reduceIte, Nat.reduceLT, Nat.reduceEqDiff, Nat.reduceAdd, Nat.reduceBEq, Nat.reduceMul, Nat.reduceSub, Nat.reduceGT, Nat.reducePow, Nat.reduceLeDiff, Int.reduceToNat]) (by simp only [go_sem, reduceIte, Nat.reduceLT, Nat.reduceEqDiff, Nat.reduceAdd, Nat.reduceBEq, Nat.reduceMul, Nat.reduceSub, Nat.reduceGT, Nat.reducePow, Nat.reduceLeDiff, Int.reduceToNat]))
    · replace h := ite_f h hb
      refine run_exit ?_
      refine thenK_x ?_
      obtain rfl := Option.some.inj h
      have ex_x_1101 := hxx_1105 _ rfl
      subst ex_x_1101
      have h := hj_1103; clear hj_1103
      refine lpK_x ?_
      refine blockK_x ?_
      obtain rfl := Option.some.inj h
      exact joinK_n f_1092 rfl ((weak_sel (l' := [(2, .ref 0 0), (3, .ref 1 0)]) (σ' := [.box (C1 u32 ((Arr.rep 64 (0 : UInt32))).l) false, .box (C1 u32 f_1092.l) false]) [0, 1] (by decide) rfl (by simp only [go_sem, reduceIte, Nat.reduceLT, Nat.reduceEqDiff, Nat.reduceAdd, Nat.reduceBEq, Nat.reduceMul, Nat.reduceSub, Nat.reduceGT, Nat.reducePow, Nat.reduceLeDiff, Int.reduceToNat]) (by simp only [go_sem, reduceIte, Nat.reduceLT, Nat.reduceEqDiff, Nat.reduceAdd, Nat.reduceBEq, Nat.reduceMul, Nat.reduceSub, Nat.reduceGT, Nat.reducePow, Nat.reduceLeDiff, Int.reduceToNat])).trans (weak_sel [0, 1] (by decide) rfl (by simp only [go_sem, reduceIte, Nat.reduceLT, Nat.reduceEqDiff, Nat.reduceAdd, Nat.reduceBEq, Nat.reduceMul, Nat.reduceSub, Nat.reduceGT, Nat.reducePow, Nat.reduceLeDiff, Int.reduceToNat]) (by simp only [go_sem, reduceIte, Nat.reduceLT, Nat.reduceEqDiff, Nat.reduceAdd, Nat.reduceBEq, Nat.reduceMul, Nat.reduceSub, Nat.reduceGT, Nat.reducePow, Nat.reduceLeDiff, Int.reduceToNat])))
  rintro f_1080 rfl
  have h := hj_1083; clear hj_1083
  replace h := bind_some1 h; obtain ⟨j_1191, hA_1192, hj_1193⟩ := h
  refine run_join (fun (v : Arr UInt32 64) => (⟨asFr 102 [(2, .ref 0 0), (3, .ref 1 0)], [.box (C1 u32 ((Arr.rep 64 (0 : UInt32))).l) false, .box (C1 u32 v.l) false]⟩ : St)) (fun v => v = j_1191) ?_ ?_
  · have h := hA_1192; clear hA_1192
    refine run_textE hE [2, 3, 5] (fr' := [(2, .ref 0 0), (3, .ref 1 0), (5, i64 16)]) (σ' := [.box (C1 u32 ((Arr.rep 64 (0 : UInt32))).l) false, .box (C1 u32 f_1080.l) false]) ⟨_, orcs_nil, ?_⟩ ?_
    · simp only [go_sem, reduceIte, Nat.reduceLT, Nat.reduceEqDiff, Nat.reduceAdd, Nat.reduceBEq, Nat.reduceMul, Nat.reduceSub, Nat.reduceGT, Nat.reducePow, Nat.reduceLeDiff, Int.reduceToNat]
    refine run_block ?_
    replace h := bind_some1 h; obtain ⟨x_1243, hx_1244, hj_1245⟩ := h
    refine run_loopO hx_1244 (fun (v : Int × Arr UInt32 64) => (⟨asFr 102 [(2, .ref 0 0), (3, .ref 1 0), (5, i64 v.1)], [.box (C1 u32 ((Arr.rep 64 (0 : UInt32))).l) false, .box (C1 u32 v.2.l) false]⟩ : St)) (weak_sel [0, 1] (by decide) rfl (by simp only [go_sem, reduceIte, Nat.reduceLT, Nat.reduceEqDiff, Nat.reduceAdd, Nat.reduceBEq, Nat.reduceMul, Nat.reduceSub, Nat.reduceGT, Nat.reducePow, Nat.reduceLeDiff, Int.reduceToNat]) (by simp only [go_sem, reduceIte, Nat.reduceLT, Nat.reduceEqDiff, Nat.reduceAdd, Nat.reduceBEq, Nat.reduceMul, Nat.reduceSub, Nat.reduceGT, Nat.reducePow, Nat.reduceLeDiff, Int.reduceToNat])) ?_
    rintro ⟨i_1217, f_1218⟩ o_1246 h hxx_1247
    replace h : r02_schedule_b2 i_1217 f_1218 = some o_1246 := h
    unfold r02_schedule_b2 at h
    refine run_seq ?_
    refine run_textE hE [2, 3, 5, 49] (fr' := [(2, .ref 0 0), (3, .ref 1 0), (5, i64 i_1217), (49, .bool ((decide (i_1217 < 64))))]) (σ' := [.box (C1 u32 ((Arr.rep 64 (0 : UInt32))).l) false, .box (C1 u32 f_1218.l) false]) ⟨_, orcs_nil, ?_⟩ ?_
    · simp only [go_sem, reduceIte, Nat.reduceLT, Nat.reduceEqDiff, Nat.reduceAdd, Nat.reduceBEq, Nat.reduceMul, Nat.reduceSub, Nat.reduceGT, Nat.reducePow, Nat.reduceLeDiff, Int.reduceToNat]
    refine run_condL (b := (decide (i_1217 < 64))) rfl (by decide) (fun hb => ?_) (fun hb => ?_)
    · replace h := ite_t h hb
      refine run_skip ?_
      refine thenK_n ?_
      refine run_seq ?_
      refine run_block ?_
      replace h := chk_some h; obtain ⟨hc_1250, h⟩ := h
      replace h := bind_some1 h; obtain ⟨y_1248, hy_1251, h⟩ := h
      replace h := chk_some h; obtain ⟨hc_1252, h⟩ := h
      replace h := bind_some1 h; obtain ⟨y_1249, hy_1253, h⟩ := h
      replace h := chk_some h; obtain ⟨hc_1254, h⟩ := h
      replace h := lt1_some h; obtain ⟨s0_1255, hz_1256, h⟩ := h
      refine run_drawE hE mixed [[], [0], [0, 1], [0, 1, 2], [0, 1, 2, 3], [], [5], [5, 6], [5, 6, 7], [0, 1, 2, 3, 4, 5, 6, 7, 8], [0, 1, 2, 3, 4, 5, 6, 7, 8, 9], [], [11], [11, 12], [11, 12, 13], [11, 12, 13, 14], [0, 1, 2, 3, 4, 5, 6, 7, 8, 9, 10, 11, 12, 13, 14, 15], [0, 1, 2, 3, 4, 5, 6, 7, 8, 9, 10, 11, 12, 13, 14, 15, 16]] (by kernel_rfl) (by kernel_rfl) [2, 3, 5, 6] (fr' := [(2, .ref 0 0), (3, .ref 1 0), (5, i64 i_1217), (6, u32 s0_1255)]) (σ' := [.box (C1 u32 ((Arr.rep 64 (0 : UInt32))).l) false, .box (C1 u32 f_1218.l) false]) ⟨_, orcs_ok (l := [(56, 39, [u32 ((f_1218.get (((w64 (i_1217 - 15))).toNat))), i64 7], u32 y_1248), (61, 39, [u32 ((f_1218.get (((w64 (i_1217 - 15))).toNat))), i64 18], u32 y_1249)]) ⟨r02_rotr_con hy_1251, r02_rotr_con hy_1253, trivial⟩, ?_⟩ ?_
      · subst hz_1256; simp only [go_sem, reduceIte, Nat.reduceLT, Nat.reduceEqDiff, Nat.reduceAdd, Nat.reduceBEq, Nat.reduceMul, Nat.reduceSub, Nat.reduceGT, Nat.reducePow, Nat.reduceLeDiff, Int.reduceToNat, hc_1250, hc_1250.2, lt_le hc_1250.2, hc_1252, hc_1252.2, lt_le hc_1252.2, hc_1254, hc_1254.2, lt_le hc_1254.2]
      replace h := chk_some h; obtain ⟨hc_1259, h⟩ := h
      replace h := bind_some1 h; obtain ⟨y_1257, hy_1260, h⟩ := h
      replace h := chk_some h; obtain ⟨hc_1261, h⟩ := h
      replace h := bind_some1 h; obtain ⟨y_1258, hy_1262, h⟩ := h
      replace h := chk_some h; obtain ⟨hc_1263, h⟩ := h
      replace h := lt1_some h; obtain ⟨s1_1264, hz_1265, h⟩ := h
      refine run_drawE hE mixed [[], [0], [0, 1], [0, 1, 2], [0, 1, 2, 3], [], [5], [5, 6], [5, 6, 7], [0, 1, 2, 3, 4, 5, 6, 7, 8], [0, 1, 2, 3, 4, 5, 6, 7, 8, 9], [], [11], [11, 12], [11, 12, 13], [11, 12, 13, 14], [0, 1, 2, 3, 4, 5, 6, 7, 8, 9, 10, 11, 12, 13, 14, 15], [0, 1, 2, 3, 4, 5, 6, 7, 8, 9, 10, 11, 12, 13, 14, 15, 16]] (by kernel_rfl) (by kernel_rfl) [2, 3, 5, 6, 7] (fr' := [(2, .ref 0 0), (3, .ref 1 0), (5, i64 i_1217), (6, u32 s0_1255), (7, u32 s1_1264)]) (σ' := [.box (C1 u32 ((Arr.rep 64 (0 : UInt32))).l) false, .box (C1 u32 f_1218.l) false]) ⟨_, orcs_ok (l := [(73, 39, [u32 ((f_1218.get (((w64 (i_1217 - 2))).toNat))), i64 17], u32 y_1257), (78, 39, [u32 ((f_1218.get (((w64 (i_1217 - 2))).toNat))), i64 19], u32 y_1258)]) ⟨r02_rotr_con hy_1260, r02_rotr_con hy_1262, trivial⟩, ?_⟩ ?_
      · subst hz_1265; simp only [go_sem, reduceIte, Nat.reduceLT, Nat.reduceEqDiff, Nat.reduceAdd, Nat.reduceBEq, Nat.reduceMul, Nat.reduceSub, Nat.reduceGT, Nat.reducePow, Nat.reduceLeDiff, Int.reduceToNat, hc_1259, hc_1259.2, lt_le hc_1259.2, hc_1261, hc_1261.2, lt_le hc_1261.2, hc_1263, hc_1263.2, lt_le hc_1263.2]
      replace h := chk_some h; obtain ⟨hc_1266, h⟩ := h
      replace h := chk_some h; obtain ⟨hc_1267, h⟩ := h
      replace h := chk_some h; obtain ⟨hc_1268, h⟩ := h
      replace h := lt1_some h; obtain ⟨f_1269, hz_1270, h⟩ := h
      refine run_drawE0 hE mixed [[], [], [1], [1, 2], [1, 2, 3], [], [1, 2, 3, 4, 5], [], [7], [7, 8], [7, 8, 9], [1, 2, 3, 4, 5, 6, 7, 8, 9, 10], [], [1, 2, 3, 4, 5, 6, 7, 8, 9, 10, 11, 12], [0, 1, 2, 3, 4, 5, 6, 7, 8, 9, 10, 11, 12, 13], [0, 1, 2, 3, 4, 5, 6, 7, 8, 9, 10, 11, 12, 13, 14]] (by kernel_rfl) (by kernel_rfl) (wk_block wk_then) [2, 3, 5] (fr' := [(2, .ref 0 0), (3, .ref 1 0), (5, i64 i_1217)]) (σ' := [.box (C1 u32 ((Arr.rep 64 (0 : UInt32))).l) false, .box (C1 u32 f_1269.l) false]) ⟨_, orcs_nil, ?_⟩ ?_
      · subst hz_1270; simp only [go_sem, reduceIte, Nat.reduceLT, Nat.reduceEqDiff, Nat.reduceAdd, Nat.reduceBEq, Nat.reduceMul, Nat.reduceSub, Nat.reduceGT, Nat.reducePow, Nat.reduceLeDiff, Int.reduceToNat, hc_1266, hc_1266.2, lt_le hc_1266.2, hc_1267, hc_1267.2, lt_le hc_1267.2, hc_1268, hc_1268.2, lt_le hc_1268.2]
      refine blockK_n ?_
      refine thenK_n ?_
      refine run_textE0 hE wk_lp [2, 3, 5] (fr' := [(2, .ref 0 0), (3, .ref 1 0), (5, i64 ((w64 (i_1217 + 1))))]) (σ' := [.box (C1 u32 ((Arr.rep 64 (0 : UInt32))).l) false, .box (C1 u32 f_1269.l) false]) ⟨_, orcs_nil, ?_⟩ ?_
      · simp only [go_sem, reduceIte, Nat.reduceLT, Nat.reduceEqDiff, Nat.reduceAdd, Nat.reduceBEq, Nat.reduceMul, Nat.reduceSub, Nat.reduceGT, Nat.reducePow, Nat.reduceLeDiff, Int.reduceToNat]
      obtain rfl := Option.some.inj h
      exact lpK_n (((w64 (i_1217 + 1)), f_1269)) rfl (weak_sel [0, 1] (by decide) rfl (by simp only [go_sem, reduceIte, Nat.reduceLT, Nat.reduceEqDiff, Nat.reduceAdd, Nat.reduceBEq, Nat.reduceMul, Nat.reduceSub, Nat.reduceGT, Nat.reducePow, Nat.reduceLeDiff, Int.reduceToNat]) (by simp only [go_sem, reduceIte, Nat.reduceLT, Nat.reduceEqDiff, Nat.reduceAdd, Nat.reduceBEq, Nat.reduceMul, Nat.reduceSub, Nat.reduceGT, Nat.reducePow, Nat.reduceLeDiff, Int.reduceToNat]))
    · replace h := ite_f h hb
      refine run_exit ?_
      refine thenK_x ?_
      obtain rfl := Option.some.inj h
      have ex_x_1243 := hxx_1247 _ rfl
      subst ex_x_1243
      have h := hj_1245; clear hj_1245
      refine lpK_x ?_
      refine blockK_x ?_
      obtain rfl := Option.some.inj h
      exact joinK_n f_1218 rfl ((weak_sel (l' := [(2, .ref 0 0), (3, .ref 1 0)]) (σ' := [.box (C1 u32 ((Arr.rep 64 (0 : UInt32))).l) false, .box (C1 u32 f_1218.l) false]) [0, 1] (by decide) rfl (by simp only [go_sem, reduceIte, Nat.reduceLT, Nat.reduceEqDiff, Nat.reduceAdd, Nat.reduceBEq, Nat.reduceMul, Nat.reduceSub, Nat.reduceGT, Nat.reducePow, Nat.reduceLeDiff, Int.reduceToNat]) (by simp only [go_sem, reduceIte, Nat.reduceLT, Nat.reduceEqDiff, Nat.reduceAdd, Nat.reduceBEq, Nat.reduceMul, Nat.reduceSub, Nat.reduceGT, Nat.reducePow, Nat.reduceLeDiff, Int.reduceToNat])).trans (weak_sel [0, 1] (by decide) rfl (by simp only [go_sem, reduceIte, Nat.reduceLT, Nat.reduceEqDiff, Nat.reduceAdd, Nat.reduceBEq, Nat.reduceMul, Nat.reduceSub, Nat.reduceGT, Nat.reducePow, Nat.reduceLeDiff, Int.reduceToNat]) (by simp only [go_sem, reduceIte, Nat.reduceLT, Nat.reduceEqDiff, Nat.reduceAdd, Nat.reduceBEq, Nat.reduceMul, Nat.reduceSub, Nat.reduceGT, Nat.reducePow, Nat.reduceLeDiff, Int.reduceToNat])))
  rintro f_1190 rfl
  have h := hj_1193; clear hj_1193
  refine run_textE hE [2] (fr' := [(2, .ref 0 0)]) (σ' := [.box (C1 u32 f_1190.l) false, .box (C1 u32 f_1190.l) false]) ⟨_, orcs_nil, ?_⟩ ?_
  · simp only [go_sem, reduceIte, Nat.reduceLT, Nat.reduceEqDiff, Nat.reduceAdd, Nat.reduceBEq, Nat.reduceMul, Nat.reduceSub, Nat.reduceGT, Nat.reducePow, Nat.reduceLeDiff, Int.reduceToNat]
  refine run_ret ?_
  obtain rfl := Option.some.inj h
  refine ret_ok (.inr rfl) ?_
  simp only [go_sem, reduceIte, Nat.reduceLT, Nat.reduceEqDiff, Nat.reduceAdd, Nat.reduceBEq, Nat.reduceMul, Nat.reduceSub, Nat.reduceGT, Nat.reducePow, Nat.reduceLeDiff, Int.reduceToNat]

theorem r02_block_con {h_1271 : Arr UInt32 8} {b_1272 : List UInt8} {r : Arr UInt32 8} (h : r02_block h_1271 b_1272 = some r) : Con B 30 [.agg (C1 u32 h_1271.l), .sl false (L cU8 b_1272)] [] (fun r' σ' => r' = .agg (C1 u32 r.l) ∧ σ' = []) := by
  refine con_walk (N := 126) (rs := [.cell 4 56]) ok Tryd.func30 rfl (by decide +kernel) rfl rfl (Nat.le_of_ble_eq_true rfl) (fun F => ?_)
  have hE := ok.env F
  unfold r02_block at h
  show Run (B.env F) 0 _ ⟨asFr 126 [(0, .agg (C1 u32 h_1271.l)), (1, .sl false (L cU8 b_1272))], []⟩ _
  refine run_textE hE [1, 2, 4] (fr' := [(1, .sl false (L cU8 b_1272)), (2, .ref 0 0), (4, .ref 1 0)]) (σ' := [.box (C1 u32 h_1271.l) false, .box (C1 u32 ((Arr.rep 8 (0 : UInt32))).l) false]) ⟨_, orcs_nil, ?_⟩ ?_
  · simp only [go_sem, reduceIte, Nat.reduceLT, Nat.reduceEqDiff, Nat.reduceAdd, Nat.reduceBEq, Nat.reduceMul, Nat.reduceSub, Nat.reduceGT, Nat.reducePow, Nat.reduceLeDiff, Int.reduceToNat]
  replace h := bind_some1 h; obtain ⟨y_1273, hy_1274, h⟩ := h
  refine run_textE hE [2, 4, 5] (fr' := [(2, .ref 0 0), (4, .ref 1 0), (5, .ref 2 0)]) (σ' := [.box (C1 u32 h_1271.l) false, .box (C1 u32 ((Arr.rep 8 (0 : UInt32))).l) false, .box (C1 u32 y_1273.l) false]) ⟨_, orcs_ok (l := [(17, 37, [.sl false (L cU8 b_1272)], .agg (C1 u32 y_1273.l))]) ⟨r02_schedule_con hy_1274, trivial⟩, ?_⟩ ?_
  · simp only [go_sem, reduceIte, Nat.reduceLT, Nat.reduceEqDiff, Nat.reduceAdd, Nat.reduceBEq, Nat.reduceMul, Nat.reduceSub, Nat.reduceGT, Nat.reducePow, Nat.reduceLeDiff, Int.reduceToNat]
  replace h := bind_some1 h; obtain ⟨y_1275, hy_1276, h⟩ := h
  refine run_textE hE [2, 4, 5, 6] (fr' := [(2, .ref 0 0), (4, .ref 1 0), (5, .ref 2 0), (6, .ref 3 0)]) (σ' := [.box (C1 u32 h_1271.l) false, .box (C1 u32 ((Arr.rep 8 (0 : UInt32))).l) false, .box (C1 u32 y_1273.l) false, .box (C1 u32 y_1275.l) false]) ⟨_, orcs_ok (l := [(18, 38, [], .agg (C1 u32 y_1275.l))]) ⟨r02_constants_con hy_1276, trivial⟩, ?_⟩ ?_
  · simp only [go_sem, reduceIte, Nat.reduceLT, Nat.reduceEqDiff, Nat.reduceAdd, Nat.reduceBEq, Nat.reduceMul, Nat.reduceSub, Nat.reduceGT, Nat.reducePow, Nat.reduceLeDiff, Int.reduceToNat]
  refine run_textE hE [2, 4, 5, 6, 7] (fr' := [(2, .ref 0 0), (4, .ref 1 0), (5, .ref 2 0), (6, .ref 3 0), (7, .ref 4 0)]) (σ' := [.box (C1 u32 h_1271.l) false, .box (C1 u32 ((Arr.rep 8 (0 : UInt32))).l) false, .box (C1 u32 y_1273.l) false, .box (C1 u32 y_1275.l) false, .box (C1 u32 h_1271.l) false]) ⟨_, orcs_nil, ?_⟩ ?_
  · simp only [go_sem, reduceIte, Nat.reduceLT, Nat.reduceEqDiff, Nat.reduceAdd, Nat.reduceBEq, Nat.reduceMul, Nat.reduceSub, Nat.reduceGT, Nat.reducePow, Nat.reduceLeDiff, Int.reduceToNat]
  replace h := bind_some1 h; obtain ⟨j_1436, hA_1437, hj_1438⟩ := h
  refine run_join (fun (v : Arr UInt32 8) => (⟨asFr 126 [(2, .ref 0 0), (4, .ref 1 0), (7, .ref 2 0)], [.box (C1 u32 h_1271.l) false, .box (C1 u32 ((Arr.rep 8 (0 : UInt32))).l) false, .box (C1 u32 v.l) false]⟩ : St)) (fun v => v = j_1436) ?_ ?_
  · have h := hA_1437; clear hA_1437
    refine run_textE hE [2, 4, 5, 6, 7, 8] (fr' := [(2, .ref 0 0), (4, .ref 1 0), (5, .ref 2 0), (6, .ref 3 0), (7, .ref 4 0), (8, i64 0)]) (σ' := [.box (C1 u32 h_1271.l) false, .box (C1 u32 ((Arr.rep 8 (0 : UInt32))).l) false, .box (C1 u32 y_1273.l) false, .box (C1 u32 y_1275.l) false, .box (C1 u32 h_1271.l) false]) ⟨_, orcs_nil, ?_⟩ ?_
    · simp only [go_sem, reduceIte, Nat.reduceLT, Nat.reduceEqDiff, Nat.reduceAdd, Nat.reduceBEq, Nat.reduceMul, Nat.reduceSub, Nat.reduceGT, Nat.reducePow, Nat.reduceLeDiff, Int.reduceToNat]
    refine run_block ?_
    replace h := bind_some1 h; obtain ⟨x_1542, hx_1543, hj_1544⟩ := h
    refine run_loopO hx_1543 (fun (v : Int × Arr UInt32 8) => (⟨asFr 126 [(2, .ref 0 0), (4, .ref 1 0), (5, .ref 2 0), (6, .ref 3 0), (7, .ref 4 0), (8, i64 v.1)], [.box (C1 u32 h_1271.l) false, .box (C1 u32 ((Arr.rep 8 (0 : UInt32))).l) false, .box (C1 u32 y_1273.l) false, .box (C1 u32 y_1275.l) false, .box (C1 u32 v.2.l) false]⟩ : St)) (weak_sel [0, 1, 2, 3, 4] (by decide) rfl (by simp only [go_sem, reduceIte, Nat.reduceLT, Nat.reduceEqDiff, Nat.reduceAdd, Nat.reduceBEq, Nat.reduceMul, Nat.reduceSub, Nat.reduceGT, Nat.reducePow, Nat.reduceLeDiff, Int.reduceToNat]) (by simp only [go_sem, reduceIte, Nat.reduceLT, Nat.reduceEqDiff, Nat.reduceAdd, Nat.reduceBEq, Nat.reduceMul, Nat.reduceSub, Nat.reduceGT, Nat.reducePow, Nat.reduceLeDiff, Int.reduceToNat])) ?_
    rintro ⟨i_1489, f_1490⟩ o_1545 h hxx_1546
    replace h : r02_block_b1 y_1273 y_1275 i_1489 f_1490 = some o_1545 := h
    unfold r02_block_b1 at h
    refine run_seq ?_
    refine run_textE hE [2, 4, 5, 6, 7, 8, 21] (fr' := [(2, .ref 0 0), (4, .ref 1 0), (5, .ref 2 0), (6, .ref 3 0), (7, .ref 4 0), (8, i64 i_1489), (21, .bool ((decide (i_1489 < 64))))]) (σ' := [.box (C1 u32 h_1271.l) false, .box (C1 u32 ((Arr.rep 8 (0 : UInt32))).l) false, .box (C1 u32 y_1273.l) false, .box (C1 u32 y_1275.l) false, .box (C1 u32 f_1490.l) false]) ⟨_, orcs_nil, ?_⟩ ?_
    · simp only [go_sem, reduceIte, Nat.reduceLT, Nat.reduceEqDiff, Nat.reduceAdd, Nat.reduceBEq, Nat.reduceMul, Nat.reduceSub, Nat.reduceGT, Nat.reducePow, Nat.reduceLeDiff, Int.reduceToNat]
    refine run_condL (b := (decide (i_1489 < 64))) rfl (by decide) (fun hb => ?_) (fun hb => ?_)
    · replace h := ite_t h hb
      refine run_skip ?_
      refine thenK_n ?_
      refine run_seq ?_
      refine run_block ?_
      have hk_1550 : InR 4 8 := by decide
      replace h := bind_some1 h; obtain ⟨y_1547, hy_1551, h⟩ := h
      have hk_1552 : InR 4 8 := by decide
      replace h := bind_some1 h; obtain ⟨y_1548, hy_1553, h⟩ := h
      have hk_1554 : InR 4 8 := by decide
      replace h := bind_some1 h; obtain ⟨y_1549, hy_1555, h⟩ := h
      replace h := lt1_some h; obtain ⟨s1_1556, hz_1557, h⟩ := h
      refine run_drawE hE mixed [[], [0], [0, 1], [], [3], [0, 1, 2, 3, 4], [0, 1, 2, 3, 4, 5], [], [7], [0, 1, 2, 3, 4, 5, 7, 8], [0, 1, 2, 3, 4, 5, 6, 7, 8, 9], [0, 1, 2, 3, 4, 5, 6, 7, 8, 9, 10]] (by kernel_rfl) (by kernel_rfl) [2, 4, 5, 6, 7, 8, 9] (fr' := [(2, .ref 0 0), (4, .ref 1 0), (5, .ref 2 0), (6, .ref 3 0), (7, .ref 4 0), (8, i64 i_1489), (9, u32 s1_1556)]) (σ' := [.box (C1 u32 h_1271.l) false, .box (C1 u32 ((Arr.rep 8 (0 : UInt32))).l) false, .box (C1 u32 y_1273.l) false, .box (C1 u32 y_1275.l) false, .box (C1 u32 f_1490.l) false]) ⟨_, orcs_ok (l := [(26, 39, [u32 ((f_1490.get 4)), i64 6], u32 y_1547), (29, 39, [u32 ((f_1490.get 4)), i64 11], u32 y_1548), (33, 39, [u32 ((f_1490.get 4)), i64 25], u32 y_1549)]) ⟨r02_rotr_con hy_1551, r02_rotr_con hy_1553, r02_rotr_con hy_1555, trivial⟩, ?_⟩ ?_
      · subst hz_1557; simp only [go_sem, reduceIte, Nat.reduceLT, Nat.reduceEqDiff, Nat.reduceAdd, Nat.reduceBEq, Nat.reduceMul, Nat.reduceSub, Nat.reduceGT, Nat.reducePow, Nat.reduceLeDiff, Int.reduceToNat, hk_1550, hk_1550.2, hk_1552, hk_1552.2, hk_1554, hk_1554.2]
      have hk_1558 : InR 4 8 := by decide
      have hk_1559 : InR 5 8 := by decide
      have hk_1560 : InR 4 8 := by decide
      have hk_1561 : InR 6 8 := by decide
      replace h := lt1_some h; obtain ⟨choice_1562, hz_1563, h⟩ := h
      refine run_textE hE [2, 4, 5, 6, 7, 8, 9, 10] (fr' := [(2, .ref 0 0), (4, .ref 1 0), (5, .ref 2 0), (6, .ref 3 0), (7, .ref 4 0), (8, i64 i_1489), (9, u32 s1_1556), (10, u32 choice_1562)]) (σ' := [.box (C1 u32 h_1271.l) false, .box (C1 u32 ((Arr.rep 8 (0 : UInt32))).l) false, .box (C1 u32 y_1273.l) false, .box (C1 u32 y_1275.l) false, .box (C1 u32 f_1490.l) false]) ⟨_, orcs_nil, ?_⟩ ?_
      · subst hz_1563; simp only [go_sem, reduceIte, Nat.reduceLT, Nat.reduceEqDiff, Nat.reduceAdd, Nat.reduceBEq, Nat.reduceMul, Nat.reduceSub, Nat.reduceGT, Nat.reducePow, Nat.reduceLeDiff, Int.reduceToNat, hk_1558, hk_1558.2, hk_1559, hk_1559.2, hk_1560, hk_1560.2, hk_1561, hk_1561.2]
      have hk_1564 : InR 7 8 := by decide
      replace h := chk_some h; obtain ⟨hc_1565, h⟩ := h
      replace h := chk_some h; obtain ⟨hc_1566, h⟩ := h
      replace h := lt1_some h; obtain ⟨t1_1567, hz_1568, h⟩ := h
      refine run_drawE hE mixed [[], [0], [], [0, 1, 2], [], [0, 1, 2, 3, 4], [], [6], [6, 7], [0, 1, 2, 3, 4, 5, 6, 7, 8], [], [10], [10, 11], [0, 1, 2, 3, 4, 5, 6, 7, 8, 9, 10, 11, 12], [0, 1, 2, 3, 4, 5, 6, 7, 8, 9, 10, 11, 12, 13]] (by kernel_rfl) (by kernel_rfl) [2, 4, 5, 6, 7, 8, 11] (fr' := [(2, .ref 0 0), (4, .ref 1 0), (5, .ref 2 0), (6, .ref 3 0), (7, .ref 4 0), (8, i64 i_1489), (11, u32 t1_1567)]) (σ' := [.box (C1 u32 h_1271.l) false, .box (C1 u32 ((Arr.rep 8 (0 : UInt32))).l) false, .box (C1 u32 y_1273.l) false, .box (C1 u32 y_1275.l) false, .box (C1 u32 f_1490.l) false]) ⟨_, orcs_nil, ?_⟩ ?_
      · subst hz_1568; simp only [go_sem, reduceIte, Nat.reduceLT, Nat.reduceEqDiff, Nat.reduceAdd, Nat.reduceBEq, Nat.reduceMul, Nat.reduceSub, Nat.reduceGT, Nat.reducePow, Nat.reduceLeDiff, Int.reduceToNat, hk_1564, hk_1564.2, hc_1565, hc_1565.2, lt_le hc_1565.2, hc_1566, hc_1566.2, lt_le hc_1566.2]
      have hk_1572 : InR 0 8 := by decide
      replace h := bind_some1 h; obtain ⟨y_1569, hy_1573, h⟩ := h
      have hk_1574 : InR 0 8 := by decide
      replace h := bind_some1 h; obtain ⟨y_1570, hy_1575, h⟩ := h
      have hk_1576 : InR 0 8 := by decide
      replace h := bind_some1 h; obtain ⟨y_1571, hy_1577, h⟩ := h
      replace h := lt1_some h; obtain ⟨s0_1578, hz_1579, h⟩ := h
      refine run_drawE hE mixed [[], [0], [0, 1], [], [3], [0, 1, 2, 3, 4], [0, 1, 2, 3, 4, 5], [], [7], [0, 1, 2, 3, 4, 5, 7, 8], [0, 1, 2, 3, 4, 5, 6, 7, 8, 9], [0, 1, 2, 3, 4, 5, 6, 7, 8, 9, 10]] (by kernel_rfl) (by kernel_rfl) [2, 4, 5, 6, 7, 8, 11, 12] (fr' := [(2, .ref 0 0), (4, .ref 1 0), (5, .ref 2 0), (6, .ref 3 0), (7, .ref 4 0), (8, i64 i_1489), (11, u32 t1_1567), (12, u32 s0_1578)]) (σ' := [.box (C1 u32 h_1271.l) false, .box (C1 u32 ((Arr.rep 8 (0 : UInt32))).l) false, .box (C1 u32 y_1273.l) false, .box (C1 u32 y_1275.l) false, .box (C1 u32 f_1490.l) false]) ⟨_, orcs_ok (l := [(63, 39, [u32 ((f_1490.get 0)), i64 2], u32 y_1569), (66, 39, [u32 ((f_1490.get 0)), i64 13], u32 y_1570), (70, 39, [u32 ((f_1490.get 0)), i64 22], u32 y_1571)]) ⟨r02_rotr_con hy_1573, r02_rotr_con hy_1575, r02_rotr_con hy_1577, trivial⟩, ?_⟩ ?_
      · subst hz_1579; simp only [go_sem, reduceIte, Nat.reduceLT, Nat.reduceEqDiff, Nat.reduceAdd, Nat.reduceBEq, Nat.reduceMul, Nat.reduceSub, Nat.reduceGT, Nat.reducePow, Nat.reduceLeDiff, Int.reduceToNat, hk_1572, hk_1572.2, hk_1574, hk_1574.2, hk_1576, hk_1576.2]
      have hk_1580 : InR 0 8 := by decide
      have hk_1581 : InR 1 8 := by decide
      have hk_1582 : InR 0 8 := by decide
      have hk_1583 : InR 2 8 := by decide
      have hk_1584 : InR 1 8 := by decide
      have hk_1585 : InR 2 8 := by decide
      replace h := lt1_some h; obtain ⟨majority_1586, hz_1587, h⟩ := h
      refine run_textE hE [2, 4, 5, 6, 7, 8, 11, 12, 13] (fr' := [(2, .ref 0 0), (4, .ref 1 0), (5, .ref 2 0), (6, .ref 3 0), (7, .ref 4 0), (8, i64 i_1489), (11, u32 t1_1567), (12, u32 s0_1578), (13, u32 majority_1586)]) (σ' := [.box (C1 u32 h_1271.l) false, .box (C1 u32 ((Arr.rep 8 (0 : UInt32))).l) false, .box (C1 u32 y_1273.l) false, .box (C1 u32 y_1275.l) false, .box (C1 u32 f_1490.l) false]) ⟨_, orcs_nil, ?_⟩ ?_
      · subst hz_1587; simp only [go_sem, reduceIte, Nat.reduceLT, Nat.reduceEqDiff, Nat.reduceAdd, Nat.reduceBEq, Nat.reduceMul, Nat.reduceSub, Nat.reduceGT, Nat.reducePow, Nat.reduceLeDiff, Int.reduceToNat, hk_1580, hk_1580.2, hk_1581, hk_1581.2, hk_1582, hk_1582.2, hk_1583, hk_1583.2, hk_1584, hk_1584.2, hk_1585, hk_1585.2]
      refine run_textE hE [2, 4, 5, 6, 7, 8, 11, 14] (fr' := [(2, .ref 0 0), (4, .ref 1 0), (5, .ref 2 0), (6, .ref 3 0), (7, .ref 4 0), (8, i64 i_1489), (11, u32 t1_1567), (14, u32 ((s0_1578 + majority_1586)))]) (σ' := [.box (C1 u32 h_1271.l) false, .box (C1 u32 ((Arr.rep 8 (0 : UInt32))).l) false, .box (C1 u32 y_1273.l) false, .box (C1 u32 y_1275.l) false, .box (C1 u32 f_1490.l) false]) ⟨_, orcs_nil, ?_⟩ ?_
      · simp only [go_sem, reduceIte, Nat.reduceLT, Nat.reduceEqDiff, Nat.reduceAdd, Nat.reduceBEq, Nat.reduceMul, Nat.reduceSub, Nat.reduceGT, Nat.reducePow, Nat.reduceLeDiff, Int.reduceToNat]
      have hk_1588 : InR 0 8 := by decide
      have hk_1589 : InR 1 8 := by decide
      have hk_1590 : InR 2 8 := by decide
      have hk_1591 : InR 3 8 := by decide
      have hk_1592 : InR 4 8 := by decide
      have hk_1593 : InR 5 8 := by decide
      have hk_1594 : InR 6 8 := by decide
      replace h := lt1_some h; obtain ⟨f_1595, hz_1596, h⟩ := h
      refine run_textE0 hE (wk_block wk_then) [2, 4, 5, 6, 7, 8] (fr' := [(2, .ref 0 0), (4, .ref 1 0), (5, .ref 2 0), (6, .ref 3 0), (7, .ref 4 0), (8, i64 i_1489)]) (σ' := [.box (C1 u32 h_1271.l) false, .box (C1 u32 ((Arr.rep 8 (0 : UInt32))).l) false, .box (C1 u32 y_1273.l) false, .box (C1 u32 y_1275.l) false, .box (C1 u32 f_1595.l) false]) ⟨_, orcs_nil, ?_⟩ ?_
      · subst hz_1596; simp only [go_sem, reduceIte, Nat.reduceLT, Nat.reduceEqDiff, Nat.reduceAdd, Nat.reduceBEq, Nat.reduceMul, Nat.reduceSub, Nat.reduceGT, Nat.reducePow, Nat.reduceLeDiff, Int.reduceToNat, hk_1588, hk_1588.2, hk_1589, hk_1589.2, hk_1590, hk_1590.2, hk_1591, hk_1591.2, hk_1592, hk_1592.2, hk_1593, hk_1593.2, hk_1594, hk_1594.2, C1_rep, C1_nil, C1_cons]
      refine blockK_n ?_
      refine thenK_n ?_
      refine run_textE0 hE wk_lp [2, 4, 5, 6, 7, 8] (fr' := [(2, .ref 0 0), (4, .ref 1 0), (5, .ref 2 0), (6, .ref 3 0), (7, .ref 4 0), (8, i64 ((w64 (i_1489 + 1))))]) (σ' := [.box (C1 u32 h_1271.l) false, .box (C1 u32 ((Arr.rep 8 (0 : UInt32))).l) false, .box (C1 u32 y_1273.l) false, .box (C1 u32 y_1275.l) false, .box (C1 u32 f_1595.l) false]) ⟨_, orcs_nil, ?_⟩ ?_
      · simp only [go_sem, reduceIte, Nat.reduceLT, Nat.reduceEqDiff, Nat.reduceAdd, Nat.reduceBEq, Nat.reduceMul, Nat.reduceSub, Nat.reduceGT, Nat.reducePow, Nat.reduceLeDiff, Int.reduceToNat]
      obtain rfl := Option.some.inj h
      exact lpK_n (((w64 (i_1489 + 1)), f_1595)) rfl (weak_sel [0, 1, 2, 3, 4] (by decide) rfl (by simp only [go_sem, reduceIte, Nat.reduceLT, Nat.reduceEqDiff, Nat.reduceAdd, Nat.reduceBEq, Nat.reduceMul, Nat.reduceSub, Nat.reduceGT, Nat.reducePow, Nat.reduceLeDiff, Int.reduceToNat]) (by simp only [go_sem, reduceIte, Nat.reduceLT, Nat.reduceEqDiff, Nat.reduceAdd, Nat.reduceBEq, Nat.reduceMul, Nat.reduceSub, Nat.reduceGT, Nat.reducePow, Nat.reduceLeDiff, Int.reduceToNat]))
    · replace h := ite_f h hb
      refine run_exit ?_
      refine thenK_x ?_
      obtain rfl := Option.some.inj h
      have ex_x_1542 := hxx_1546 _ rfl
      subst ex_x_1542
      have h := hj_1544; clear hj_1544
      refine lpK_x ?_
      refine blockK_x ?_
      obtain rfl := Option.some.inj h
      exact joinK_n f_1490 rfl ((weak_sel (l' := [(2, .ref 0 0), (4, .ref 1 0), (7, .ref 2 0)]) (σ' := [.box (C1 u32 h_1271.l) false, .box (C1 u32 ((Arr.rep 8 (0 : UInt32))).l) false, .box (C1 u32 f_1490.l) false]) [0, 1, 4] (by decide) rfl (by simp only [go_sem, reduceIte, Nat.reduceLT, Nat.reduceEqDiff, Nat.reduceAdd, Nat.reduceBEq, Nat.reduceMul, Nat.reduceSub, Nat.reduceGT, Nat.reducePow, Nat.reduceLeDiff, Int.reduceToNat]) (by simp only [go_sem, reduceIte, Nat.reduceLT, Nat.reduceEqDiff, Nat.reduceAdd, Nat.reduceBEq, Nat.reduceMul, Nat.reduceSub, Nat.reduceGT, Nat.reducePow, Nat.reduceLeDiff, Int.reduceToNat])).trans (weak_sel [0, 1, 2] (by decide) rfl (by simp only [go_sem, reduceIte, Nat.reduceLT, Nat.reduceEqDiff, Nat.reduceAdd, Nat.reduceBEq, Nat.reduceMul, Nat.reduceSub, Nat.reduceGT, Nat.reducePow, Nat.reduceLeDiff, Int.reduceToNat]) (by simp only [go_sem, reduceIte, Nat.reduceLT, Nat.reduceEqDiff, Nat.reduceAdd, Nat.reduceBEq, Nat.reduceMul, Nat.reduceSub, Nat.reduceGT, Nat.reducePow, Nat.reduceLeDiff, Int.reduceToNat])))
  rintro f_1435 rfl
  have h := hj_1438; clear hj_1438
  replace h := bind_some1 h; obtain ⟨j_1621, hA_1622, hj_1623⟩ := h
  refine run_join (fun (v : Arr UInt32 8) => (⟨asFr 126 [(2, .ref 0 0), (4, .ref 1 0)], [.box (C1 u32 v.l) false, .box (C1 u32 ((Arr.rep 8 (0 : UInt32))).l) false]⟩ : St)) (fun v => v = j_1621) ?_ ?_
  · have h := hA_1622; clear hA_1622
    refine run_textE hE [2, 4, 7, 15] (fr' := [(2, .ref 0 0), (4, .ref 1 0), (7, .ref 2 0), (15, i64 0)]) (σ' := [.box (C1 u32 h_1271.l) false, .box (C1 u32 ((Arr.rep 8 (0 : UInt32))).l) false, .box (C1 u32 f_1435.l) false]) ⟨_, orcs_nil, ?_⟩ ?_
    · simp only [go_sem, reduceIte, Nat.reduceLT, Nat.reduceEqDiff, Nat.reduceAdd, Nat.reduceBEq, Nat.reduceMul, Nat.reduceSub, Nat.reduceGT, Nat.reducePow, Nat.reduceLeDiff, Int.reduceToNat]
    refine run_block ?_
    replace h := bind_some1 h; obtain ⟨x_1637, hx_1638, hj_1639⟩ := h
    refine run_loopO hx_1638 (fun (v : Int × Arr UInt32 8) => (⟨asFr 126 [(2, .ref 0 0), (4, .ref 1 0), (7, .ref 2 0), (15, i64 v.1)], [.box (C1 u32 v.2.l) false, .box (C1 u32 ((Arr.rep 8 (0 : UInt32))).l) false, .box (C1 u32 f_1435.l) false]⟩ : St)) (weak_sel [0, 1, 2] (by decide) rfl (by simp only [go_sem, reduceIte, Nat.reduceLT, Nat.reduceEqDiff, Nat.reduceAdd, Nat.reduceBEq, Nat.reduceMul, Nat.reduceSub, Nat.reduceGT, Nat.reducePow, Nat.reduceLeDiff, Int.reduceToNat]) (by simp only [go_sem, reduceIte, Nat.reduceLT, Nat.reduceEqDiff, Nat.reduceAdd, Nat.reduceBEq, Nat.reduceMul, Nat.reduceSub, Nat.reduceGT, Nat.reducePow, Nat.reduceLeDiff, Int.reduceToNat])) ?_
    rintro ⟨i_1629, f_1630⟩ o_1640 h hxx_1641
    replace h : r02_block_b2 f_1435 i_1629 f_1630 = some o_1640 := h
    unfold r02_block_b2 at h
    refine run_seq ?_
    refine run_textE hE [2, 4, 7, 15, 113] (fr' := [(2, .ref 0 0), (4, .ref 1 0), (7, .ref 2 0), (15, i64 i_1629), (113, .bool ((decide (i_1629 < 8))))]) (σ' := [.box (C1 u32 f_1630.l) false, .box (C1 u32 ((Arr.rep 8 (0 : UInt32))).l) false, .box (C1 u32 f_1435.l) false]) ⟨_, orcs_nil, ?_⟩ ?_
    · simp only [go_sem, reduceIte, Nat.reduceLT, Nat.reduceEqDiff, Nat.reduceAdd, Nat.reduceBEq, Nat.reduceMul, Nat.reduceSub, Nat.reduceGT, Nat.reducePow, Nat.reduceLeDiff, Int.reduceToNat]
    refine run_condL (b := (decide (i_1629 < 8))) rfl (by decide) (fun hb => ?_) (fun hb => ?_)
    · replace h := ite_t h hb
      refine run_skip ?_
      refine thenK_n ?_
      refine run_seq ?_
      refine run_block ?_
      replace h := chk_some h; obtain ⟨hc_1642, h⟩ := h
      replace h := chk_some h; obtain ⟨hc_1643, h⟩ := h
      replace h := chk_some h; obtain ⟨hc_1644, h⟩ := h
      replace h := lt1_some h; obtain ⟨f_1645, hz_1646, h⟩ := h
      refine run_drawE0 hE mixed [[], [], [1], [1, 2], [], [4], [4, 5], [1, 2, 3, 4, 5, 6], [0, 1, 2, 3, 4, 5, 6, 7], [0, 1, 2, 3, 4, 5, 6, 7, 8]] (by kernel_rfl) (by kernel_rfl) (wk_block wk_then) [2, 4, 7, 15] (fr' := [(2, .ref 0 0), (4, .ref 1 0), (7, .ref 2 0), (15, i64 i_1629)]) (σ' := [.box (C1 u32 f_1645.l) false, .box (C1 u32 ((Arr.rep 8 (0 : UInt32))).l) false, .box (C1 u32 f_1435.l) false]) ⟨_, orcs_nil, ?_⟩ ?_
      · subst hz_1646; simp only [go_sem, reduceIte, Nat.reduceLT, Nat.reduceEqDiff, Nat.reduceAdd, Nat.reduceBEq, Nat.reduceMul, Nat.reduceSub, Nat.reduceGT, Nat.reducePow, Nat.reduceLeDiff, Int.reduceToNat, hc_1642, hc_1642.2, lt_le hc_1642.2, hc_1643, hc_1643.2, lt_le hc_1643.2, hc_1644, hc_1644.2, lt_le hc_1644.2]
      refine blockK_n ?_
      refine thenK_n ?_
      refine run_textE0 hE wk_lp [2, 4, 7, 15] (fr' := [(2, .ref 0 0), (4, .ref 1 0), (7, .ref 2 0), (15, i64 ((w64 (i_1629 + 1))))]) (σ' := [.box (C1 u32 f_1645.l) false, .box (C1 u32 ((Arr.rep 8 (0 : UInt32))).l) false, .box (C1 u32 f_1435.l) false]) ⟨_, orcs_nil, ?_⟩ ?_
      · simp only [go_sem, reduceIte, Nat.reduceLT, Nat.reduceEqDiff, Nat.reduceAdd, Nat.reduceBEq, Nat.reduceMul, Nat.reduceSub, Nat.reduceGT, Nat.reducePow, Nat.reduceLeDiff, Int.reduceToNat]
      obtain rfl := Option.some.inj h
      exact lpK_n (((w64 (i_1629 + 1)), f_1645)) rfl (weak_sel [0, 1, 2] (by decide) rfl (by simp only [go_sem, reduceIte, Nat.reduceLT, Nat.reduceEqDiff, Nat.reduceAdd, Nat.reduceBEq, Nat.reduceMul, Nat.reduceSub, Nat.reduceGT, Nat.reducePow, Nat.reduceLeDiff, Int.reduceToNat]) (by simp only [go_sem, reduceIte, Nat.reduceLT, Nat.reduceEqDiff, Nat.reduceAdd, Nat.reduceBEq, Nat.reduceMul, Nat.reduceSub, Nat.reduceGT, Nat.reducePow, Nat.reduceLeDiff, Int.reduceToNat]))
    · replace h := ite_f h hb
      refine run_exit ?_
      refine thenK_x ?_
      obtain rfl := Option.some.inj h
      have ex_x_1637 := hxx_1641 _ rfl
      subst ex_x_1637
      have h := hj_1639; clear hj_1639
      refine lpK_x ?_
      refine blockK_x ?_
      obtain rfl := Option.some.inj h
      exact joinK_n f_1630 rfl ((weak_sel (l' := [(2, .ref 0 0), (4, .ref 1 0)]) (σ' := [.box (C1 u32 f_1630.l) false, .box (C1 u32 ((Arr.rep 8 (0 : UInt32))).l) false]) [0, 1] (by decide) rfl (by simp only [go_sem, reduceIte, Nat.reduceLT, Nat.reduceEqDiff, Nat.reduceAdd, Nat.reduceBEq, Nat.reduceMul, Nat.reduceSub, Nat.reduceGT, Nat.reducePow, Nat.reduceLeDiff, Int.reduceToNat]) (by simp only [go_sem, reduceIte, Nat.reduceLT, Nat.reduceEqDiff, Nat.reduceAdd, Nat.reduceBEq, Nat.reduceMul, Nat.reduceSub, Nat.reduceGT, Nat.reducePow, Nat.reduceLeDiff, Int.reduceToNat])).trans (weak_sel [0, 1] (by decide) rfl (by simp only [go_sem, reduceIte, Nat.reduceLT, Nat.reduceEqDiff, Nat.reduceAdd, Nat.reduceBEq, Nat.reduceMul, Nat.reduceSub, Nat.reduceGT, Nat.reducePow, Nat.reduceLeDiff, Int.reduceToNat]) (by simp only [go_sem, reduceIte, Nat.reduceLT, Nat.reduceEqDiff, Nat.reduceAdd, Nat.reduceBEq, Nat.reduceMul, Nat.reduceSub, Nat.reduceGT, Nat.reducePow, Nat.reduceLeDiff, Int.reduceToNat])))
  rintro f_1620 rfl
  have h := hj_1623; clear hj_1623
  refine run_textE hE [4] (fr' := [(4, .ref 1 0)]) (σ' := [.box (C1 u32 f_1620.l) false, .box (C1 u32 f_1620.l) false]) ⟨_, orcs_nil, ?_⟩ ?_
  · simp only [go_sem, reduceIte, Nat.reduceLT, Nat.reduceEqDiff, Nat.reduceAdd, Nat.reduceBEq, Nat.reduceMul, Nat.reduceSub, Nat.reduceGT, Nat.reducePow, Nat.reduceLeDiff, Int.reduceToNat]
  refine run_ret ?_
  obtain rfl := Option.some.inj h
  refine ret_ok (.inr rfl) ?_
  simp only [go_sem, reduceIte, Nat.reduceLT, Nat.reduceEqDiff, Nat.reduceAdd, Nat.reduceBEq, Nat.reduceMul, Nat.reduceSub, Nat.reduceGT, Nat.reducePow, Nat.reduceLeDiff, Int.reduceToNat]

end Go.Proofs.YtgdiabbgiiemcaaDoor
