/-
  The functions compute just that.
-/
import Derived.Test.YtgdiabbgiiemcaaDoorDW7
import Derived.KernelRfl
namespace Go.Proofs.YtgdiabbgiiemcaaDoor
open Go.Rv
set_option linter.unusedVariables false
set_option linter.unusedSimpArgs false
set_option maxRecDepth 20000

theorem r02_Sum_con {b_2497 : List UInt8} {r : Arr UInt8 32} (h : r02_Sum b_2497 = some r) : Con B 13 [.sl false (L cU8 b_2497)] [] (fun r' σ' => r' = .agg (C1 u8 r.l) ∧ σ' = []) := by
  refine con_walk (N := 42) (rs := [.cell 2 25]) ok Tryd.func13 rfl (by decide +kernel) rfl rfl (Nat.le_of_ble_eq_true rfl) (fun F => ?_)
  have hE := ok.env F
  unfold r02_Sum at h
  show Run (B.env F) 0 _ ⟨asFr 42 [(0, .sl false (L cU8 b_2497))], []⟩ _
  refine run_textE hE [0, 2] (fr' := [(0, .sl false (L cU8 b_2497)), (2, .ref 0 0)]) (σ' := [.box (C1 u8 ((Arr.rep 32 (0 : UInt8))).l) false]) ⟨_, orcs_nil, ?_⟩ ?_
  · simp only [go_sem, reduceIte, Nat.reduceLT, Nat.reduceEqDiff, Nat.reduceAdd, Nat.reduceBEq, Nat.reduceMul, Nat.reduceSub, Nat.reduceGT, Nat.reducePow, Nat.reduceLeDiff, Int.reduceToNat]
  replace h := lt1_some h; obtain ⟨f_2498, hz_2499, h⟩ := h
  refine run_textE hE [0, 2, 3] (fr' := [(0, .sl false (L cU8 b_2497)), (2, .ref 0 0), (3, .ref 1 0)]) (σ' := [.box (C1 u8 ((Arr.rep 32 (0 : UInt8))).l) false, .box (C1 u32 f_2498.l) false]) ⟨_, orcs_nil, ?_⟩ ?_
  · subst hz_2499; simp only [go_sem, reduceIte, Nat.reduceLT, Nat.reduceEqDiff, Nat.reduceAdd, Nat.reduceBEq, Nat.reduceMul, Nat.reduceSub, Nat.reduceGT, Nat.reducePow, Nat.reduceLeDiff, Int.reduceToNat, C1_rep, C1_nil, C1_cons]
  replace h := bind_some1 h; obtain ⟨y_2500, hy_2501, h⟩ := h
  refine run_textE hE [2, 3, 4] (fr' := [(2, .ref 0 0), (3, .ref 1 0), (4, .sl false (L cU8 y_2500))]) (σ' := [.box (C1 u8 ((Arr.rep 32 (0 : UInt8))).l) false, .box (C1 u32 f_2498.l) false]) ⟨_, orcs_ok (l := [(10, 29, [.sl false (L cU8 b_2497)], .sl false (L cU8 y_2500))]) ⟨r02_padded_con hy_2501, trivial⟩, ?_⟩ ?_
  · simp only [go_sem, reduceIte, Nat.reduceLT, Nat.reduceEqDiff, Nat.reduceAdd, Nat.reduceBEq, Nat.reduceMul, Nat.reduceSub, Nat.reduceGT, Nat.reducePow, Nat.reduceLeDiff, Int.reduceToNat]
  replace h := bind_some1 h; obtain ⟨j_2523, hA_2524, hj_2525⟩ := h
  refine run_join (fun (v : Arr UInt32 8) => (⟨asFr 42 [(2, .ref 0 0), (3, .ref 1 0)], [.box (C1 u8 ((Arr.rep 32 (0 : UInt8))).l) false, .box (C1 u32 v.l) false]⟩ : St)) (fun v => v = j_2523) ?_ ?_
  · have h := hA_2524; clear hA_2524
    refine run_textE hE [2, 3, 4, 5] (fr' := [(2, .ref 0 0), (3, .ref 1 0), (4, .sl false (L cU8 y_2500)), (5, i64 0)]) (σ' := [.box (C1 u8 ((Arr.rep 32 (0 : UInt8))).l) false, .box (C1 u32 f_2498.l) false]) ⟨_, orcs_nil, ?_⟩ ?_
    · simp only [go_sem, reduceIte, Nat.reduceLT, Nat.reduceEqDiff, Nat.reduceAdd, Nat.reduceBEq, Nat.reduceMul, Nat.reduceSub, Nat.reduceGT, Nat.reducePow, Nat.reduceLeDiff, Int.reduceToNat]
    refine run_block ?_
    replace h := bind_some1 h; obtain ⟨x_2537, hx_2538, hj_2539⟩ := h
    refine run_loopO hx_2538 (fun (v : Int × Arr UInt32 8) => (⟨asFr 42 [(2, .ref 0 0), (3, .ref 1 0), (4, .sl false (L cU8 y_2500)), (5, i64 v.1)], [.box (C1 u8 ((Arr.rep 32 (0 : UInt8))).l) false, .box (C1 u32 v.2.l) false]⟩ : St)) (weak_sel [0, 1] (by decide) rfl (by simp only [go_sem, reduceIte, Nat.reduceLT, Nat.reduceEqDiff, Nat.reduceAdd, Nat.reduceBEq, Nat.reduceMul, Nat.reduceSub, Nat.reduceGT, Nat.reducePow, Nat.reduceLeDiff, Int.reduceToNat]) (by simp only [go_sem, reduceIte, Nat.reduceLT, Nat.reduceEqDiff, Nat.reduceAdd, Nat.reduceBEq, Nat.reduceMul, Nat.reduceSub, Nat.reduceGT, Nat.reducePow, Nat.reduceLeDiff, Int.reduceToNat])) ?_
    rintro ⟨at_2530, f_2531⟩ o_2540 h hxx_2541
    replace h : r02_Sum_b1 y_2500 at_2530 f_2531 = some o_2540 := h
    unfold r02_Sum_b1 at h
    refine run_seq ?_
    refine run_textE hE [2, 3, 4, 5, 14] (fr' := [(2, .ref 0 0), (3, .ref 1 0), (4, .sl false (L cU8 y_2500)), (5, i64 at_2530), (14, .bool ((decide (at_2530 < (y_2500.length : Int)))))]) (σ' := [.box (C1 u8 ((Arr.rep 32 (0 : UInt8))).l) false, .box (C1 u32 f_2531.l) false]) ⟨_, orcs_nil, ?_⟩ ?_
    · simp only [go_sem, reduceIte, Nat.reduceLT, Nat.reduceEqDiff, Nat.reduceAdd, Nat.reduceBEq, Nat.reduceMul, Nat.reduceSub, Nat.reduceGT, Nat.reducePow, Nat.reduceLeDiff, Int.reduceToNat]
    refine run_condL (b := (decide (at_2530 < (y_2500.length : Int)))) rfl (by decide) (fun hb => ?_) (fun hb => ?_)
    · replace h := ite_t h hb
      refine run_skip ?_
      refine thenK_n ?_
      refine run_seq ?_
      refine run_block ?_
      replace h := chk_some h; obtain ⟨hc_2543, h⟩ := h
      replace h := chk_some h; obtain ⟨hc_2544, h⟩ := h
      replace h := bind_some1 h; obtain ⟨y_2542, hy_2545, h⟩ := h
      refine run_drawE0 hE mixed [[], [], [], [], [3], [1, 2, 3, 4], [0, 1, 2, 3, 4, 5], [0, 1, 2, 3, 4, 5, 6]] (by kernel_rfl) (by kernel_rfl) (wk_block wk_then) [2, 3, 4, 5] (fr' := [(2, .ref 0 0), (3, .ref 1 0), (4, .sl false (L cU8 y_2500)), (5, i64 at_2530)]) (σ' := [.box (C1 u8 ((Arr.rep 32 (0 : UInt8))).l) false, .box (C1 u32 y_2542.l) false]) ⟨_, orcs_ok (l := [(23, 30, [.agg (C1 u32 f_2531.l), .sl false (L cU8 (((y_2500.drop at_2530.toNat).take (((w64 (at_2530 + 64))).toNat - at_2530.toNat))))], .agg (C1 u32 y_2542.l))]) ⟨r02_block_con hy_2545, trivial⟩, ?_⟩ ?_
      · simp only [go_sem, reduceIte, Nat.reduceLT, Nat.reduceEqDiff, Nat.reduceAdd, Nat.reduceBEq, Nat.reduceMul, Nat.reduceSub, Nat.reduceGT, Nat.reducePow, Nat.reduceLeDiff, Int.reduceToNat, hc_2543, hc_2544]
      refine blockK_n ?_
      refine thenK_n ?_
      refine run_textE0 hE wk_lp [2, 3, 4, 5] (fr' := [(2, .ref 0 0), (3, .ref 1 0), (4, .sl false (L cU8 y_2500)), (5, i64 ((w64 (at_2530 + 64))))]) (σ' := [.box (C1 u8 ((Arr.rep 32 (0 : UInt8))).l) false, .box (C1 u32 y_2542.l) false]) ⟨_, orcs_nil, ?_⟩ ?_
      · simp only [go_sem, reduceIte, Nat.reduceLT, Nat.reduceEqDiff, Nat.reduceAdd, Nat.reduceBEq, Nat.reduceMul, Nat.reduceSub, Nat.reduceGT, Nat.reducePow, Nat.reduceLeDiff, Int.reduceToNat]
      obtain rfl := Option.some.inj h
      exact lpK_n (((w64 (at_2530 + 64)), y_2542)) rfl (weak_sel [0, 1] (by decide) rfl (by simp only [go_sem, reduceIte, Nat.reduceLT, Nat.reduceEqDiff, Nat.reduceAdd, Nat.reduceBEq, Nat.reduceMul, Nat.reduceSub, Nat.reduceGT, Nat.reducePow, Nat.reduceLeDiff, Int.reduceToNat]) (by simp only [go_sem, reduceIte, Nat.reduceLT, Nat.reduceEqDiff, Nat.reduceAdd, Nat.reduceBEq, Nat.reduceMul, Nat.reduceSub, Nat.reduceGT, Nat.reducePow, Nat.reduceLeDiff, Int.reduceToNat]))
    · replace h := ite_f h hb
      refine run_exit ?_
      refine thenK_x ?_
      obtain rfl := Option.some.inj h
      have ex_x_2537 := hxx_2541 _ rfl
      subst ex_x_2537
      have h := hj_2539; clear hj_2539
      refine lpK_x ?_
      refine blockK_x ?_
      obtain rfl := Option.some.inj h
      exact joinK_n f_2531 rfl ((weak_sel (l' := [(2, .ref 0 0), (3, .ref 1 0)]) (σ' := [.box (C1 u8 ((Arr.rep 32 (0 : UInt8))).l) false, .box (C1 u32 f_2531.l) false]) [0, 1] (by decide) rfl (by simp only [go_sem, reduceIte, Nat.reduceLT, Nat.reduceEqDiff, Nat.reduceAdd, Nat.reduceBEq, Nat.reduceMul, Nat.reduceSub, Nat.reduceGT, Nat.reducePow, Nat.reduceLeDiff, Int.reduceToNat]) (by simp only [go_sem, reduceIte, Nat.reduceLT, Nat.reduceEqDiff, Nat.reduceAdd, Nat.reduceBEq, Nat.reduceMul, Nat.reduceSub, Nat.reduceGT, Nat.reducePow, Nat.reduceLeDiff, Int.reduceToNat])).trans (weak_sel [0, 1] (by decide) rfl (by simp only [go_sem, reduceIte, Nat.reduceLT, Nat.reduceEqDiff, Nat.reduceAdd, Nat.reduceBEq, Nat.reduceMul, Nat.reduceSub, Nat.reduceGT, Nat.reducePow, Nat.reduceLeDiff, Int.reduceToNat]) (by simp only [go_sem, reduceIte, Nat.reduceLT, Nat.reduceEqDiff, Nat.reduceAdd, Nat.reduceBEq, Nat.reduceMul, Nat.reduceSub, Nat.reduceGT, Nat.reducePow, Nat.reduceLeDiff, Int.reduceToNat])))
  rintro f_2522 rfl
  have h := hj_2525; clear hj_2525
  replace h := lt1_some h; obtain ⟨f_2546, hz_2547, h⟩ := h
  refine run_textE hE [2, 3, 6] (fr' := [(2, .ref 0 0), (3, .ref 1 0), (6, .ref 2 0)]) (σ' := [.box (C1 u8 ((Arr.rep 32 (0 : UInt8))).l) false, .box (C1 u32 f_2522.l) false, .box (C1 u8 f_2546.l) false]) ⟨_, orcs_nil, ?_⟩ ?_
  · subst hz_2547; simp only [go_sem, reduceIte, Nat.reduceLT, Nat.reduceEqDiff, Nat.reduceAdd, Nat.reduceBEq, Nat.reduceMul, Nat.reduceSub, Nat.reduceGT, Nat.reducePow, Nat.reduceLeDiff, Int.reduceToNat, C1_rep, C1_nil, C1_cons]
  replace h := bind_some1 h; obtain ⟨j_2578, hA_2579, hj_2580⟩ := h
  refine run_join (fun (v : Arr UInt8 32) => (⟨asFr 42 [(2, .ref 0 0), (6, .ref 1 0)], [.box (C1 u8 ((Arr.rep 32 (0 : UInt8))).l) false, .box (C1 u8 v.l) false]⟩ : St)) (fun v => v = j_2578) ?_ ?_
  · have h := hA_2579; clear hA_2579
    refine run_textE hE [2, 3, 6, 7] (fr' := [(2, .ref 0 0), (3, .ref 1 0), (6, .ref 2 0), (7, i64 0)]) (σ' := [.box (C1 u8 ((Arr.rep 32 (0 : UInt8))).l) false, .box (C1 u32 f_2522.l) false, .box (C1 u8 f_2546.l) false]) ⟨_, orcs_nil, ?_⟩ ?_
    · simp only [go_sem, reduceIte, Nat.reduceLT, Nat.reduceEqDiff, Nat.reduceAdd, Nat.reduceBEq, Nat.reduceMul, Nat.reduceSub, Nat.reduceGT, Nat.reducePow, Nat.reduceLeDiff, Int.reduceToNat]
    refine run_block ?_
    replace h := bind_some1 h; obtain ⟨x_2598, hx_2599, hj_2600⟩ := h
    refine run_loopO hx_2599 (fun (v : Int × Arr UInt8 32) => (⟨asFr 42 [(2, .ref 0 0), (3, .ref 1 0), (6, .ref 2 0), (7, i64 v.1)], [.box (C1 u8 ((Arr.rep 32 (0 : UInt8))).l) false, .box (C1 u32 f_2522.l) false, .box (C1 u8 v.2.l) false]⟩ : St)) (weak_sel [0, 1, 2] (by decide) rfl (by simp only [go_sem, reduceIte, Nat.reduceLT, Nat.reduceEqDiff, Nat.reduceAdd, Nat.reduceBEq, Nat.reduceMul, Nat.reduceSub, Nat.reduceGT, Nat.reducePow, Nat.reduceLeDiff, Int.reduceToNat]) (by simp only [go_sem, reduceIte, Nat.reduceLT, Nat.reduceEqDiff, Nat.reduceAdd, Nat.reduceBEq, Nat.reduceMul, Nat.reduceSub, Nat.reduceGT, Nat.reducePow, Nat.reduceLeDiff, Int.reduceToNat])) ?_
    rintro ⟨i_2588, f_2589⟩ o_2601 h hxx_2602
    replace h : r02_Sum_b2 f_2522 i_2588 f_2589 = some o_2601 := h
    unfold r02_Sum_b2 at h
    refine run_seq ?_
    refine run_textE hE [2, 3, 6, 7, 26] (fr' := [(2, .ref 0 0), (3, .ref 1 0), (6, .ref 2 0), (7, i64 i_2588), (26, .bool ((decide (i_2588 < 32))))]) (σ' := [.box (C1 u8 ((Arr.rep 32 (0 : UInt8))).l) false, .box (C1 u32 f_2522.l) false, .box (C1 u8 f_2589.l) false]) ⟨_, orcs_nil, ?_⟩ ?_
    · simp only [go_sem, reduceIte, Nat.reduceLT, Nat.reduceEqDiff, Nat.reduceAdd, Nat.reduceBEq, Nat.reduceMul, Nat.reduceSub, Nat.reduceGT, Nat.reducePow, Nat.reduceLeDiff, Int.reduceToNat]
    refine run_condL (b := (decide (i_2588 < 32))) rfl (by decide) (fun hb => ?_) (fun hb => ?_)
    · replace h := ite_t h hb
      refine run_skip ?_
      refine thenK_n ?_
      refine run_seq ?_
      refine run_block ?_
      have hk_2603 : ¬(4 : Int) = 0 := by decide
      replace h := chk_some h; obtain ⟨hc_2604, h⟩ := h
      have hk_2605 : ¬(4 : Int) = 0 := by decide
      replace h := chk_some h; obtain ⟨hc_2606, h⟩ := h
      replace h := chk_some h; obtain ⟨hc_2607, h⟩ := h
      replace h := lt1_some h; obtain ⟨f_2608, hz_2609, h⟩ := h
      refine run_textE0 hE (wk_block wk_then) [2, 3, 6, 7] (fr' := [(2, .ref 0 0), (3, .ref 1 0), (6, .ref 2 0), (7, i64 i_2588)]) (σ' := [.box (C1 u8 ((Arr.rep 32 (0 : UInt8))).l) false, .box (C1 u32 f_2522.l) false, .box (C1 u8 f_2608.l) false]) ⟨_, orcs_nil, ?_⟩ ?_
      · subst hz_2609; simp only [go_sem, reduceIte, Nat.reduceLT, Nat.reduceEqDiff, Nat.reduceAdd, Nat.reduceBEq, Nat.reduceMul, Nat.reduceSub, Nat.reduceGT, Nat.reducePow, Nat.reduceLeDiff, Int.reduceToNat, hk_2603, hc_2604, hc_2604.2, lt_le hc_2604.2, hk_2605, hc_2606, hc_2607, hc_2607.2, lt_le hc_2607.2]
      refine blockK_n ?_
      refine thenK_n ?_
      refine run_textE0 hE wk_lp [2, 3, 6, 7] (fr' := [(2, .ref 0 0), (3, .ref 1 0), (6, .ref 2 0), (7, i64 ((w64 (i_2588 + 1))))]) (σ' := [.box (C1 u8 ((Arr.rep 32 (0 : UInt8))).l) false, .box (C1 u32 f_2522.l) false, .box (C1 u8 f_2608.l) false]) ⟨_, orcs_nil, ?_⟩ ?_
      · simp only [go_sem, reduceIte, Nat.reduceLT, Nat.reduceEqDiff, Nat.reduceAdd, Nat.reduceBEq, Nat.reduceMul, Nat.reduceSub, Nat.reduceGT, Nat.reducePow, Nat.reduceLeDiff, Int.reduceToNat]
      obtain rfl := Option.some.inj h
      exact lpK_n (((w64 (i_2588 + 1)), f_2608)) rfl (weak_sel [0, 1, 2] (by decide) rfl (by simp only [go_sem, reduceIte, Nat.reduceLT, Nat.reduceEqDiff, Nat.reduceAdd, Nat.reduceBEq, Nat.reduceMul, Nat.reduceSub, Nat.reduceGT, Nat.reducePow, Nat.reduceLeDiff, Int.reduceToNat]) (by simp only [go_sem, reduceIte, Nat.reduceLT, Nat.reduceEqDiff, Nat.reduceAdd, Nat.reduceBEq, Nat.reduceMul, Nat.reduceSub, Nat.reduceGT, Nat.reducePow, Nat.reduceLeDiff, Int.reduceToNat]))
    · replace h := ite_f h hb
      refine run_exit ?_
      refine thenK_x ?_
      obtain rfl := Option.some.inj h
      have ex_x_2598 := hxx_2602 _ rfl
      subst ex_x_2598
      have h := hj_2600; clear hj_2600
      refine lpK_x ?_
      refine blockK_x ?_
      obtain rfl := Option.some.inj h
      exact joinK_n f_2589 rfl ((weak_sel (l' := [(2, .ref 0 0), (6, .ref 1 0)]) (σ' := [.box (C1 u8 ((Arr.rep 32 (0 : UInt8))).l) false, .box (C1 u8 f_2589.l) false]) [0, 2] (by decide) rfl (by simp only [go_sem, reduceIte, Nat.reduceLT, Nat.reduceEqDiff, Nat.reduceAdd, Nat.reduceBEq, Nat.reduceMul, Nat.reduceSub, Nat.reduceGT, Nat.reducePow, Nat.reduceLeDiff, Int.reduceToNat]) (by simp only [go_sem, reduceIte, Nat.reduceLT, Nat.reduceEqDiff, Nat.reduceAdd, Nat.reduceBEq, Nat.reduceMul, Nat.reduceSub, Nat.reduceGT, Nat.reducePow, Nat.reduceLeDiff, Int.reduceToNat])).trans (weak_sel [0, 1] (by decide) rfl (by simp only [go_sem, reduceIte, Nat.reduceLT, Nat.reduceEqDiff, Nat.reduceAdd, Nat.reduceBEq, Nat.reduceMul, Nat.reduceSub, Nat.reduceGT, Nat.reducePow, Nat.reduceLeDiff, Int.reduceToNat]) (by simp only [go_sem, reduceIte, Nat.reduceLT, Nat.reduceEqDiff, Nat.reduceAdd, Nat.reduceBEq, Nat.reduceMul, Nat.reduceSub, Nat.reduceGT, Nat.reducePow, Nat.reduceLeDiff, Int.reduceToNat])))
  rintro f_2577 rfl
  have h := hj_2580; clear hj_2580
  refine run_textE hE [2] (fr' := [(2, .ref 0 0)]) (σ' := [.box (C1 u8 f_2577.l) false, .box (C1 u8 f_2577.l) false]) ⟨_, orcs_nil, ?_⟩ ?_
  · simp only [go_sem, reduceIte, Nat.reduceLT, Nat.reduceEqDiff, Nat.reduceAdd, Nat.reduceBEq, Nat.reduceMul, Nat.reduceSub, Nat.reduceGT, Nat.reducePow, Nat.reduceLeDiff, Int.reduceToNat]
  refine run_ret ?_
  obtain rfl := Option.some.inj h
  refine ret_ok (.inr rfl) ?_
  simp only [go_sem, reduceIte, Nat.reduceLT, Nat.reduceEqDiff, Nat.reduceAdd, Nat.reduceBEq, Nat.reduceMul, Nat.reduceSub, Nat.reduceGT, Nat.reducePow, Nat.reduceLeDiff, Int.reduceToNat]

theorem digest_Tagged_con {tag_2610 : List UInt8} {b_2611 : List UInt8} {r : Arr UInt8 32} (h : digest_Tagged tag_2610 b_2611 = some r) : Con B 14 [.str tag_2610, .sl false (L cU8 b_2611)] [] (fun r' σ' => r' = .agg (C1 u8 r.l) ∧ σ' = []) := by
  refine con_walk (N := 19) (rs := [.cell 4 25]) ok Tryd.func14 rfl (by decide +kernel) rfl rfl (Nat.le_of_ble_eq_true rfl) (fun F => ?_)
  have hE := ok.env F
  unfold digest_Tagged at h
  show Run (B.env F) 0 _ ⟨asFr 19 [(0, .str tag_2610), (1, .sl false (L cU8 b_2611))], []⟩ _
  refine run_textE hE [0, 1, 4] (fr' := [(0, .str tag_2610), (1, .sl false (L cU8 b_2611)), (4, .ref 0 0)]) (σ' := [.box (C1 u8 ((Arr.rep 32 (0 : UInt8))).l) false]) ⟨_, orcs_nil, ?_⟩ ?_
  · simp only [go_sem, reduceIte, Nat.reduceLT, Nat.reduceEqDiff, Nat.reduceAdd, Nat.reduceBEq, Nat.reduceMul, Nat.reduceSub, Nat.reduceGT, Nat.reducePow, Nat.reduceLeDiff, Int.reduceToNat]
  replace h := chk_some h; obtain ⟨hc_2612, h⟩ := h
  replace h := lt1_some h; obtain ⟨tag_2613, hz_2614, h⟩ := h
  refine run_textE hE [0, 1, 4] (fr' := [(0, .str tag_2613), (1, .sl false (L cU8 b_2611)), (4, .ref 0 0)]) (σ' := [.box (C1 u8 ((Arr.rep 32 (0 : UInt8))).l) false]) ⟨_, orcs_nil, ?_⟩ ?_
  · subst hz_2614; simp only [go_sem, reduceIte, Nat.reduceLT, Nat.reduceEqDiff, Nat.reduceAdd, Nat.reduceBEq, Nat.reduceMul, Nat.reduceSub, Nat.reduceGT, Nat.reducePow, Nat.reduceLeDiff, Int.reduceToNat, hc_2612]
  replace h := bind_some1 h; obtain ⟨y_2615, hy_2616, h⟩ := h
  refine run_textE hE [4] (fr' := [(4, .ref 0 0)]) (σ' := [.box (C1 u8 y_2615.l) false, .buf 1 (L cU8 (([(UInt8.ofInt ((tag_2613.length : Int)))] : List UInt8))) true, .buf 1 (L cU8 tag_2613) true, .buf 1 (L (cSl cU8) (([([(UInt8.ofInt ((tag_2613.length : Int)))] : List UInt8), tag_2613, b_2611] : List (List UInt8)))) false]) ⟨_, orcs_ok (l := [(18, 28, [.sl false (L (cSl cU8) (([([(UInt8.ofInt ((tag_2613.length : Int)))] : List UInt8), tag_2613, b_2611] : List (List UInt8))))], .agg (C1 u8 y_2615.l))]) ⟨digest_sum_con hy_2616, trivial⟩, ?_⟩ ?_
  · simp only [go_sem, reduceIte, Nat.reduceLT, Nat.reduceEqDiff, Nat.reduceAdd, Nat.reduceBEq, Nat.reduceMul, Nat.reduceSub, Nat.reduceGT, Nat.reducePow, Nat.reduceLeDiff, Int.reduceToNat]
  refine run_ret ?_
  obtain rfl := Option.some.inj h
  refine ret_ok (.inr rfl) ?_
  simp only [go_sem, reduceIte, Nat.reduceLT, Nat.reduceEqDiff, Nat.reduceAdd, Nat.reduceBEq, Nat.reduceMul, Nat.reduceSub, Nat.reduceGT, Nat.reducePow, Nat.reduceLeDiff, Int.reduceToNat]

theorem r02_Hashed_con {tag_2617 : List UInt8} {b_2618 : List UInt8} {r : List UInt8} (h : r02_Hashed tag_2617 b_2618 = some r) : Con B 20 [.str tag_2617, .sl false (L cU8 b_2618)] [] (fun r' σ' => r' = .sl false (L cU8 r) ∧ σ' = []) := by
  refine con_walk (N := 23) (rs := [.tmp 4]) ok Tryd.func20 rfl (by decide +kernel) rfl rfl (Nat.le_of_ble_eq_true rfl) (fun F => ?_)
  have hE := ok.env F
  unfold r02_Hashed at h
  show Run (B.env F) 0 _ ⟨asFr 23 [(0, .str tag_2617), (1, .sl false (L cU8 b_2618))], []⟩ _
  refine run_textE hE [0, 1] (fr' := [(0, .str tag_2617), (1, .sl false (L cU8 b_2618))]) (σ' := []) ⟨_, orcs_nil, ?_⟩ ?_
  · simp only [go_sem, reduceIte, Nat.reduceLT, Nat.reduceEqDiff, Nat.reduceAdd, Nat.reduceBEq, Nat.reduceMul, Nat.reduceSub, Nat.reduceGT, Nat.reducePow, Nat.reduceLeDiff, Int.reduceToNat]
  replace h := chk_some h; obtain ⟨hc_2619, h⟩ := h
  replace h := lt1_some h; obtain ⟨t_2620, hz_2621, h⟩ := h
  refine run_textE hE [1, 5] (fr' := [(1, .sl false (L cU8 b_2618)), (5, .str t_2620)]) (σ' := []) ⟨_, orcs_nil, ?_⟩ ?_
  · subst hz_2621; simp only [go_sem, reduceIte, Nat.reduceLT, Nat.reduceEqDiff, Nat.reduceAdd, Nat.reduceBEq, Nat.reduceMul, Nat.reduceSub, Nat.reduceGT, Nat.reducePow, Nat.reduceLeDiff, Int.reduceToNat, hc_2619]
  replace h := lt1_some h; obtain ⟨l_2622, hz_2623, h⟩ := h
  refine run_textE hE [1, 5, 6] (fr' := [(1, .sl false (L cU8 b_2618)), (5, .str t_2620), (6, .bs true 0 (l_2622.length) 0 (l_2622.length))]) (σ' := [.buf 1 (L cU8 l_2622) false]) ⟨_, orcs_nil, ?_⟩ ?_
  · subst hz_2623; simp only [go_sem, reduceIte, Nat.reduceLT, Nat.reduceEqDiff, Nat.reduceAdd, Nat.reduceBEq, Nat.reduceMul, Nat.reduceSub, Nat.reduceGT, Nat.reducePow, Nat.reduceLeDiff, Int.reduceToNat]
  replace h := chk_some h; obtain ⟨hc_2624, h⟩ := h
  replace h := lt1_some h; obtain ⟨l_2625, hz_2626, h⟩ := h
  refine run_textE hE [1, 6] (fr' := [(1, .sl false (L cU8 b_2618)), (6, .bs false 0 (l_2625.length) 0 (l_2625.length))]) (σ' := [.buf 1 (L cU8 l_2625) false, .buf 1 (L cU8 t_2620) false]) ⟨_, orcs_nil, ?_⟩ ?_
  · subst hz_2626; simp only [go_sem, reduceIte, Nat.reduceLT, Nat.reduceEqDiff, Nat.reduceAdd, Nat.reduceBEq, Nat.reduceMul, Nat.reduceSub, Nat.reduceGT, Nat.reducePow, Nat.reduceLeDiff, Int.reduceToNat, hc_2624]
  replace h := chk_some h; obtain ⟨hc_2627, h⟩ := h
  replace h := lt1_some h; obtain ⟨l_2628, hz_2629, h⟩ := h
  refine run_textE hE [4] (fr' := [(4, .bs false 0 (l_2628.length) 0 (l_2628.length))]) (σ' := [.buf 1 (L cU8 l_2628) false, .buf 1 (L cU8 t_2620) false]) ⟨_, orcs_nil, ?_⟩ ?_
  · subst hz_2629; simp only [go_sem, reduceIte, Nat.reduceLT, Nat.reduceEqDiff, Nat.reduceAdd, Nat.reduceBEq, Nat.reduceMul, Nat.reduceSub, Nat.reduceGT, Nat.reducePow, Nat.reduceLeDiff, Int.reduceToNat, hc_2627]
  refine run_ret ?_
  obtain rfl := Option.some.inj h
  refine ret_ok (.inr rfl) ?_
  simp only [go_sem, reduceIte, Nat.reduceLT, Nat.reduceEqDiff, Nat.reduceAdd, Nat.reduceBEq, Nat.reduceMul, Nat.reduceSub, Nat.reduceGT, Nat.reducePow, Nat.reduceLeDiff, Int.reduceToNat]

theorem r02_Tagged_con {tag_2630 : List UInt8} {b_2631 : List UInt8} {r : Arr UInt8 32} (h : r02_Tagged tag_2630 b_2631 = some r) : Con B 15 [.str tag_2630, .sl false (L cU8 b_2631)] [] (fun r' σ' => r' = .agg (C1 u8 r.l) ∧ σ' = []) := by
  refine con_walk (N := 9) (rs := [.cell 4 25]) ok Tryd.func15 rfl (by decide +kernel) rfl rfl (Nat.le_of_ble_eq_true rfl) (fun F => ?_)
  have hE := ok.env F
  unfold r02_Tagged at h
  show Run (B.env F) 0 _ ⟨asFr 9 [(0, .str tag_2630), (1, .sl false (L cU8 b_2631))], []⟩ _
  refine run_textE hE [0, 1, 4] (fr' := [(0, .str tag_2630), (1, .sl false (L cU8 b_2631)), (4, .ref 0 0)]) (σ' := [.box (C1 u8 ((Arr.rep 32 (0 : UInt8))).l) false]) ⟨_, orcs_nil, ?_⟩ ?_
  · simp only [go_sem, reduceIte, Nat.reduceLT, Nat.reduceEqDiff, Nat.reduceAdd, Nat.reduceBEq, Nat.reduceMul, Nat.reduceSub, Nat.reduceGT, Nat.reducePow, Nat.reduceLeDiff, Int.reduceToNat]
  replace h := bind_some1 h; obtain ⟨y_2632, hy_2634, h⟩ := h
  replace h := bind_some1 h; obtain ⟨y_2633, hy_2635, h⟩ := h
  refine run_textE hE [4] (fr' := [(4, .ref 0 0)]) (σ' := [.box (C1 u8 y_2633.l) false]) ⟨_, orcs_ok (l := [(7, 20, [.str tag_2630, .sl false (L cU8 b_2631)], .sl false (L cU8 y_2632)), (8, 13, [.sl false (L cU8 y_2632)], .agg (C1 u8 y_2633.l))]) ⟨r02_Hashed_con hy_2634, r02_Sum_con hy_2635, trivial⟩, ?_⟩ ?_
  · simp only [go_sem, reduceIte, Nat.reduceLT, Nat.reduceEqDiff, Nat.reduceAdd, Nat.reduceBEq, Nat.reduceMul, Nat.reduceSub, Nat.reduceGT, Nat.reducePow, Nat.reduceLeDiff, Int.reduceToNat]
  refine run_ret ?_
  obtain rfl := Option.some.inj h
  refine ret_ok (.inr rfl) ?_
  simp only [go_sem, reduceIte, Nat.reduceLT, Nat.reduceEqDiff, Nat.reduceAdd, Nat.reduceBEq, Nat.reduceMul, Nat.reduceSub, Nat.reduceGT, Nat.reducePow, Nat.reduceLeDiff, Int.reduceToNat]

theorem digest_Next_con {d_2636 : Arr UInt8 32} {b_2637 : List UInt8} {r : Arr UInt8 32} (h : digest_Next d_2636 b_2637 = some r) : Con B 16 [.agg (C1 u8 d_2636.l), .sl false (L cU8 b_2637)] [] (fun r' σ' => r' = .agg (C1 u8 r.l) ∧ σ' = []) := by
  refine con_walk (N := 12) (rs := [.cell 4 25]) ok Tryd.func16 rfl (by decide +kernel) rfl rfl (Nat.le_of_ble_eq_true rfl) (fun F => ?_)
  have hE := ok.env F
  unfold digest_Next at h
  show Run (B.env F) 0 _ ⟨asFr 12 [(0, .agg (C1 u8 d_2636.l)), (1, .sl false (L cU8 b_2637))], []⟩ _
  refine run_textE hE [1, 2, 4] (fr' := [(1, .sl false (L cU8 b_2637)), (2, .ref 0 0), (4, .ref 1 0)]) (σ' := [.box (C1 u8 d_2636.l) false, .box (C1 u8 ((Arr.rep 32 (0 : UInt8))).l) false]) ⟨_, orcs_nil, ?_⟩ ?_
  · simp only [go_sem, reduceIte, Nat.reduceLT, Nat.reduceEqDiff, Nat.reduceAdd, Nat.reduceBEq, Nat.reduceMul, Nat.reduceSub, Nat.reduceGT, Nat.reducePow, Nat.reduceLeDiff, Int.reduceToNat]
  replace h := bind_some1 h; obtain ⟨y_2638, hy_2639, h⟩ := h
  refine run_textE hE [4] (fr' := [(4, .ref 1 0)]) (σ' := [.box (C1 u8 d_2636.l) true, .box (C1 u8 y_2638.l) false, .buf 1 (L cU8 (([(4 : UInt8)] : List UInt8))) true, .buf 1 (L cU8 (([(110 : UInt8), (101 : UInt8), (120 : UInt8), (116 : UInt8)] : List UInt8))) true, .buf 1 (L (cSl cU8) (([([(4 : UInt8)] : List UInt8), ([(110 : UInt8), (101 : UInt8), (120 : UInt8), (116 : UInt8)] : List UInt8), d_2636.l, b_2637] : List (List UInt8)))) false]) ⟨_, orcs_ok (l := [(11, 28, [.sl false (L (cSl cU8) (([([(4 : UInt8)] : List UInt8), ([(110 : UInt8), (101 : UInt8), (120 : UInt8), (116 : UInt8)] : List UInt8), d_2636.l, b_2637] : List (List UInt8))))], .agg (C1 u8 y_2638.l))]) ⟨digest_sum_con hy_2639, trivial⟩, ?_⟩ ?_
  · simp only [go_sem, reduceIte, Nat.reduceLT, Nat.reduceEqDiff, Nat.reduceAdd, Nat.reduceBEq, Nat.reduceMul, Nat.reduceSub, Nat.reduceGT, Nat.reducePow, Nat.reduceLeDiff, Int.reduceToNat]
  refine run_ret ?_
  obtain rfl := Option.some.inj h
  refine ret_ok (.inr rfl) ?_
  simp only [go_sem, reduceIte, Nat.reduceLT, Nat.reduceEqDiff, Nat.reduceAdd, Nat.reduceBEq, Nat.reduceMul, Nat.reduceSub, Nat.reduceGT, Nat.reducePow, Nat.reduceLeDiff, Int.reduceToNat]

theorem r02_Next_con {d_2640 : Arr UInt8 32} {b_2641 : List UInt8} {r : Arr UInt8 32} (h : r02_Next d_2640 b_2641 = some r) : Con B 17 [.agg (C1 u8 d_2640.l), .sl false (L cU8 b_2641)] [] (fun r' σ' => r' = .agg (C1 u8 r.l) ∧ σ' = []) := by
  refine con_walk (N := 15) (rs := [.cell 4 25]) ok Tryd.func17 rfl (by decide +kernel) rfl rfl (Nat.le_of_ble_eq_true rfl) (fun F => ?_)
  have hE := ok.env F
  unfold r02_Next at h
  show Run (B.env F) 0 _ ⟨asFr 15 [(0, .agg (C1 u8 d_2640.l)), (1, .sl false (L cU8 b_2641))], []⟩ _
  refine run_textE hE [1, 2, 4] (fr' := [(1, .sl false (L cU8 b_2641)), (2, .ref 0 0), (4, .ref 1 0)]) (σ' := [.box (C1 u8 d_2640.l) false, .box (C1 u8 ((Arr.rep 32 (0 : UInt8))).l) false]) ⟨_, orcs_nil, ?_⟩ ?_
  · simp only [go_sem, reduceIte, Nat.reduceLT, Nat.reduceEqDiff, Nat.reduceAdd, Nat.reduceBEq, Nat.reduceMul, Nat.reduceSub, Nat.reduceGT, Nat.reducePow, Nat.reduceLeDiff, Int.reduceToNat]
  replace h := lt1_some h; obtain ⟨l_2642, hz_2643, h⟩ := h
  refine run_textE hE [1, 2, 4, 5] (fr' := [(1, .sl false (L cU8 b_2641)), (2, .ref 0 0), (4, .ref 1 0), (5, .bs true 2 (l_2642.length) 0 (l_2642.length))]) (σ' := [.box (C1 u8 d_2640.l) false, .box (C1 u8 ((Arr.rep 32 (0 : UInt8))).l) false, .buf 1 (L cU8 l_2642) false]) ⟨_, orcs_nil, ?_⟩ ?_
  · subst hz_2643; simp only [go_sem, reduceIte, Nat.reduceLT, Nat.reduceEqDiff, Nat.reduceAdd, Nat.reduceBEq, Nat.reduceMul, Nat.reduceSub, Nat.reduceGT, Nat.reducePow, Nat.reduceLeDiff, Int.reduceToNat]
  replace h := chk_some h; obtain ⟨hc_2644, h⟩ := h
  replace h := lt1_some h; obtain ⟨l_2645, hz_2646, h⟩ := h
  refine run_textE hE [1, 4, 5] (fr' := [(1, .sl false (L cU8 b_2641)), (4, .ref 1 0), (5, .bs false 2 (l_2645.length) 0 (l_2645.length))]) (σ' := [.box (C1 u8 d_2640.l) true, .box (C1 u8 ((Arr.rep 32 (0 : UInt8))).l) false, .buf 1 (L cU8 l_2645) false]) ⟨_, orcs_nil, ?_⟩ ?_
  · subst hz_2646; simp only [go_sem, reduceIte, Nat.reduceLT, Nat.reduceEqDiff, Nat.reduceAdd, Nat.reduceBEq, Nat.reduceMul, Nat.reduceSub, Nat.reduceGT, Nat.reducePow, Nat.reduceLeDiff, Int.reduceToNat, hc_2644]
  replace h := chk_some h; obtain ⟨hc_2647, h⟩ := h
  replace h := lt1_some h; obtain ⟨l_2648, hz_2649, h⟩ := h
  refine run_textE hE [4, 5] (fr' := [(4, .ref 1 0), (5, .bs false 2 (l_2648.length) 0 (l_2648.length))]) (σ' := [.box (C1 u8 d_2640.l) true, .box (C1 u8 ((Arr.rep 32 (0 : UInt8))).l) false, .buf 1 (L cU8 l_2648) false]) ⟨_, orcs_nil, ?_⟩ ?_
  · subst hz_2649; simp only [go_sem, reduceIte, Nat.reduceLT, Nat.reduceEqDiff, Nat.reduceAdd, Nat.reduceBEq, Nat.reduceMul, Nat.reduceSub, Nat.reduceGT, Nat.reducePow, Nat.reduceLeDiff, Int.reduceToNat, hc_2647]
  replace h := bind_some1 h; obtain ⟨y_2650, hy_2651, h⟩ := h
  refine run_textE hE [4] (fr' := [(4, .ref 1 0)]) (σ' := [.box (C1 u8 d_2640.l) true, .box (C1 u8 y_2650.l) false, .buf 1 (L cU8 l_2648) false]) ⟨_, orcs_ok (l := [(14, 15, [.str (([110, 101, 120, 116] : List UInt8)), .sl false (L cU8 l_2648)], .agg (C1 u8 y_2650.l))]) ⟨r02_Tagged_con hy_2651, trivial⟩, ?_⟩ ?_
  · simp only [go_sem, reduceIte, Nat.reduceLT, Nat.reduceEqDiff, Nat.reduceAdd, Nat.reduceBEq, Nat.reduceMul, Nat.reduceSub, Nat.reduceGT, Nat.reducePow, Nat.reduceLeDiff, Int.reduceToNat]
  refine run_ret ?_
  obtain rfl := Option.some.inj h
  refine ret_ok (.inr rfl) ?_
  simp only [go_sem, reduceIte, Nat.reduceLT, Nat.reduceEqDiff, Nat.reduceAdd, Nat.reduceBEq, Nat.reduceMul, Nat.reduceSub, Nat.reduceGT, Nat.reducePow, Nat.reduceLeDiff, Int.reduceToNat]

theorem digest_Number_con {d_2652 : Arr UInt8 32} {r : UInt64} (h : digest_Number d_2652 = some r) : Con B 18 [.agg (C1 u8 d_2652.l)] [] (fun r' σ' => r' = u64 r ∧ σ' = []) := by
  refine con_walk (N := 18) (rs := [.tmp 2]) ok Tryd.func18 rfl (by decide +kernel) rfl rfl (Nat.le_of_ble_eq_true rfl) (fun F => ?_)
  have hE := ok.env F
  unfold digest_Number at h
  show Run (B.env F) 0 _ ⟨asFr 18 [(0, .agg (C1 u8 d_2652.l))], []⟩ _
  refine run_textE hE [1, 2] (fr' := [(1, .ref 0 0), (2, u64 ((0 : UInt64)))]) (σ' := [.box (C1 u8 d_2652.l) false]) ⟨_, orcs_nil, ?_⟩ ?_
  · simp only [go_sem, reduceIte, Nat.reduceLT, Nat.reduceEqDiff, Nat.reduceAdd, Nat.reduceBEq, Nat.reduceMul, Nat.reduceSub, Nat.reduceGT, Nat.reducePow, Nat.reduceLeDiff, Int.reduceToNat]
  replace h := bind_some1 h; obtain ⟨j_2676, hA_2677, hj_2678⟩ := h
  refine run_join (fun (v : UInt64) => (⟨asFr 18 [(2, u64 v)], []⟩ : St)) (fun v => v = j_2676) ?_ ?_
  · have h := hA_2677; clear hA_2677
    have hk_2679 : InB 8 32 := by decide
    refine run_textE hE [2, 5, 6, 7] (fr' := [(2, u64 ((0 : UInt64))), (5, .sl false (L cU8 ((d_2652.l.take 8)))), (6, i64 ((((d_2652.l.take 8)).length : Int))), (7, i64 0)]) (σ' := [.box (C1 u8 d_2652.l) true]) ⟨_, orcs_nil, ?_⟩ ?_
    · simp only [go_sem, reduceIte, Nat.reduceLT, Nat.reduceEqDiff, Nat.reduceAdd, Nat.reduceBEq, Nat.reduceMul, Nat.reduceSub, Nat.reduceGT, Nat.reducePow, Nat.reduceLeDiff, Int.reduceToNat, hk_2679]
    refine run_block ?_
    replace h := bind_some1 h; obtain ⟨x_2691, hx_2692, hj_2693⟩ := h
    refine run_loopO hx_2692 (fun (v : UInt64 × Int) => (⟨asFr 18 [(2, u64 v.1), (5, .sl false (L cU8 ((d_2652.l.take 8)))), (6, i64 ((((d_2652.l.take 8)).length : Int))), (7, i64 v.2)], []⟩ : St)) (weak_sel [] (by decide) rfl (by simp only [go_sem, reduceIte, Nat.reduceLT, Nat.reduceEqDiff, Nat.reduceAdd, Nat.reduceBEq, Nat.reduceMul, Nat.reduceSub, Nat.reduceGT, Nat.reducePow, Nat.reduceLeDiff, Int.reduceToNat]) (by simp only [go_sem, reduceIte, Nat.reduceLT, Nat.reduceEqDiff, Nat.reduceAdd, Nat.reduceBEq, Nat.reduceMul, Nat.reduceSub, Nat.reduceGT, Nat.reducePow, Nat.reduceLeDiff, Int.reduceToNat])) ?_
    rintro ⟨n_2683, t_2684⟩ o_2694 h hxx_2695
    replace h : digest_Number_b1 d_2652 n_2683 t_2684 = some o_2694 := h
    unfold digest_Number_b1 at h
    refine run_textE hE [2, 5, 6, 7, 8] (fr' := [(2, u64 n_2683), (5, .sl false (L cU8 ((d_2652.l.take 8)))), (6, i64 ((((d_2652.l.take 8)).length : Int))), (7, i64 t_2684), (8, .bool ((decide (t_2684 < (((d_2652.l.take 8)).length : Int)))))]) (σ' := []) ⟨_, orcs_nil, ?_⟩ ?_
    · simp only [go_sem, reduceIte, Nat.reduceLT, Nat.reduceEqDiff, Nat.reduceAdd, Nat.reduceBEq, Nat.reduceMul, Nat.reduceSub, Nat.reduceGT, Nat.reducePow, Nat.reduceLeDiff, Int.reduceToNat]
    refine run_seq ?_
    refine run_condL (b := (decide (t_2684 < (((d_2652.l.take 8)).length : Int)))) rfl (by decide) (fun hb => ?_) (fun hb => ?_)
    · replace h := ite_t h hb
      refine run_skip ?_
      refine thenK_n ?_
      refine run_seq ?_
      refine run_block ?_
      replace h := chk_some h; obtain ⟨hc_2696, h⟩ := h
      replace h := lt1_some h; obtain ⟨b_2697, hz_2698, h⟩ := h
      refine run_textE hE [2, 4, 5, 6, 7] (fr' := [(2, u64 n_2683), (4, u8 b_2697), (5, .sl false (L cU8 ((d_2652.l.take 8)))), (6, i64 ((((d_2652.l.take 8)).length : Int))), (7, i64 t_2684)]) (σ' := []) ⟨_, orcs_nil, ?_⟩ ?_
      · subst hz_2698; simp only [go_sem, reduceIte, Nat.reduceLT, Nat.reduceEqDiff, Nat.reduceAdd, Nat.reduceBEq, Nat.reduceMul, Nat.reduceSub, Nat.reduceGT, Nat.reducePow, Nat.reduceLeDiff, Int.reduceToNat, hc_2696, hc_2696.2, lt_le hc_2696.2]
      replace h := lt1_some h; obtain ⟨n_2699, hz_2700, h⟩ := h
      refine run_textE0 hE (wk_block wk_then) [2, 5, 6, 7] (fr' := [(2, u64 n_2699), (5, .sl false (L cU8 ((d_2652.l.take 8)))), (6, i64 ((((d_2652.l.take 8)).length : Int))), (7, i64 t_2684)]) (σ' := []) ⟨_, orcs_nil, ?_⟩ ?_
      · subst hz_2700; simp only [go_sem, reduceIte, Nat.reduceLT, Nat.reduceEqDiff, Nat.reduceAdd, Nat.reduceBEq, Nat.reduceMul, Nat.reduceSub, Nat.reduceGT, Nat.reducePow, Nat.reduceLeDiff, Int.reduceToNat]
      refine blockK_n ?_
      refine thenK_n ?_
      refine run_textE0 hE wk_lp [2, 5, 6, 7] (fr' := [(2, u64 n_2699), (5, .sl false (L cU8 ((d_2652.l.take 8)))), (6, i64 ((((d_2652.l.take 8)).length : Int))), (7, i64 ((w64 (t_2684 + 1))))]) (σ' := []) ⟨_, orcs_nil, ?_⟩ ?_
      · simp only [go_sem, reduceIte, Nat.reduceLT, Nat.reduceEqDiff, Nat.reduceAdd, Nat.reduceBEq, Nat.reduceMul, Nat.reduceSub, Nat.reduceGT, Nat.reducePow, Nat.reduceLeDiff, Int.reduceToNat]
      obtain rfl := Option.some.inj h
      exact lpK_n ((n_2699, (w64 (t_2684 + 1)))) rfl (weak_sel [] (by decide) rfl (by simp only [go_sem, reduceIte, Nat.reduceLT, Nat.reduceEqDiff, Nat.reduceAdd, Nat.reduceBEq, Nat.reduceMul, Nat.reduceSub, Nat.reduceGT, Nat.reducePow, Nat.reduceLeDiff, Int.reduceToNat]) (by simp only [go_sem, reduceIte, Nat.reduceLT, Nat.reduceEqDiff, Nat.reduceAdd, Nat.reduceBEq, Nat.reduceMul, Nat.reduceSub, Nat.reduceGT, Nat.reducePow, Nat.reduceLeDiff, Int.reduceToNat]))
    · replace h := ite_f h hb
      refine run_exit ?_
      refine thenK_x ?_
      obtain rfl := Option.some.inj h
      have ex_x_2691 := hxx_2695 _ rfl
      subst ex_x_2691
      have h := hj_2693; clear hj_2693
      refine lpK_x ?_
      refine blockK_x ?_
      obtain rfl := Option.some.inj h
      exact joinK_n n_2683 rfl ((weak_sel (l' := [(2, u64 n_2683)]) (σ' := []) [] (by decide) rfl (by simp only [go_sem, reduceIte, Nat.reduceLT, Nat.reduceEqDiff, Nat.reduceAdd, Nat.reduceBEq, Nat.reduceMul, Nat.reduceSub, Nat.reduceGT, Nat.reducePow, Nat.reduceLeDiff, Int.reduceToNat]) (by simp only [go_sem, reduceIte, Nat.reduceLT, Nat.reduceEqDiff, Nat.reduceAdd, Nat.reduceBEq, Nat.reduceMul, Nat.reduceSub, Nat.reduceGT, Nat.reducePow, Nat.reduceLeDiff, Int.reduceToNat])).trans (weak_sel [] (by decide) rfl (by simp only [go_sem, reduceIte, Nat.reduceLT, Nat.reduceEqDiff, Nat.reduceAdd, Nat.reduceBEq, Nat.reduceMul, Nat.reduceSub, Nat.reduceGT, Nat.reducePow, Nat.reduceLeDiff, Int.reduceToNat]) (by simp only [go_sem, reduceIte, Nat.reduceLT, Nat.reduceEqDiff, Nat.reduceAdd, Nat.reduceBEq, Nat.reduceMul, Nat.reduceSub, Nat.reduceGT, Nat.reducePow, Nat.reduceLeDiff, Int.reduceToNat])))
  rintro n_2675 rfl
  have h := hj_2678; clear hj_2678
  refine run_textE hE [2] (fr' := [(2, u64 n_2675)]) (σ' := []) ⟨_, orcs_nil, ?_⟩ ?_
  · simp only [go_sem, reduceIte, Nat.reduceLT, Nat.reduceEqDiff, Nat.reduceAdd, Nat.reduceBEq, Nat.reduceMul, Nat.reduceSub, Nat.reduceGT, Nat.reducePow, Nat.reduceLeDiff, Int.reduceToNat]
  refine run_ret ?_
  obtain rfl := Option.some.inj h
  refine ret_ok (.inr rfl) ?_
  simp only [go_sem, reduceIte, Nat.reduceLT, Nat.reduceEqDiff, Nat.reduceAdd, Nat.reduceBEq, Nat.reduceMul, Nat.reduceSub, Nat.reduceGT, Nat.reducePow, Nat.reduceLeDiff, Int.reduceToNat]

end Go.Proofs.YtgdiabbgiiemcaaDoor
