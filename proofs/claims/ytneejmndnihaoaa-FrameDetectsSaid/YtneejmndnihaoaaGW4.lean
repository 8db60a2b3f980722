/-
  The functions compute just that.
-/
import Derived.Test.YtneejmndnihaoaaGW3
import Derived.KernelRfl
namespace Go.Proofs.Ytneejmndnihaoaa
open Go.Rv
set_option linter.unusedVariables false
set_option linter.unusedSimpArgs false

theorem r10_content_con {d_2573 : Api_Deframer} {r : List UInt8 × Bool} (h : r10_content d_2573 = some r) : Con B 26 [.agg [.sl false (L cU8 d_2573.Rest), .bool d_2573.In, .bool d_2573.Escape, .bool d_2573.Bad]] [] (fun r' σ' => r' = .tup [.sl false (L cU8 r.1), .bool r.2] ∧ σ' = []) := by
  refine con_walk (N := 42) (rs := [.tmp 2, .tmp 3]) ok Try.func26 rfl (by decide +kernel) rfl rfl (Nat.le_of_ble_eq_true rfl) (fun F => ?_)
  have hE := ok.env F
  unfold r10_content at h
  show Run (B.env F) 0 _ ⟨asFr 42 [(0, .agg [.sl false (L cU8 d_2573.Rest), .bool d_2573.In, .bool d_2573.Escape, .bool d_2573.Bad])], []⟩ _
  refine run_textE hE [1] (fr' := [(1, .ref 0 0)]) (σ' := [.box [.sl false (L cU8 d_2573.Rest), .bool d_2573.In, .bool d_2573.Escape, .bool d_2573.Bad] false]) ⟨_, orcs_nil, ?_⟩ ?_
  · simp only [go_sem, reduceIte, Nat.reduceLT, Nat.reduceEqDiff, Nat.reduceAdd, Nat.reduceBEq, Nat.reduceMul, Nat.reduceSub, Nat.reduceGT, Nat.reducePow, Nat.reduceLeDiff, Int.reduceToNat]
  replace h := lt1_some h; obtain ⟨n_2574, hz_2575, h⟩ := h
  refine run_textE hE [1, 4] (fr' := [(1, .ref 0 0), (4, i64 n_2574)]) (σ' := [.box [.sl false (L cU8 d_2573.Rest), .bool d_2573.In, .bool d_2573.Escape, .bool d_2573.Bad] false]) ⟨_, orcs_nil, ?_⟩ ?_
  · subst hz_2575; simp only [go_sem, reduceIte, Nat.reduceLT, Nat.reduceEqDiff, Nat.reduceAdd, Nat.reduceBEq, Nat.reduceMul, Nat.reduceSub, Nat.reduceGT, Nat.reducePow, Nat.reduceLeDiff, Int.reduceToNat]
  refine run_seq ?_
  replace h := bind_some1 h; obtain ⟨t_2576, hv_2577, h⟩ := h
  refine run_textW hE [1, 4, 22] (fr' := [(1, .ref 0 0), (4, i64 n_2574), (22, .bool t_2576)]) (σ' := [.box [.sl false (L cU8 d_2573.Rest), .bool d_2573.In, .bool d_2573.Escape, .bool d_2573.Bad] false]) ?_ ?_
  · rcases Bool.eq_false_or_eq_true d_2573.Escape with hb_2578 | hb_2578
    · replace hv_2577 := ite_t hv_2577 hb_2578
      have e_hv_2577 := Option.some.inj hv_2577; subst e_hv_2577
      exact ⟨_, [(1, .ref 0 0), (4, i64 n_2574), (22, .bool true)], [.box [.sl false (L cU8 d_2573.Rest), .bool d_2573.In, .bool d_2573.Escape, .bool d_2573.Bad] false], orcs_nil, by simp only [go_sem, reduceIte, Nat.reduceLT, Nat.reduceEqDiff, Nat.reduceAdd, Nat.reduceBEq, Nat.reduceMul, Nat.reduceSub, Nat.reduceGT, Nat.reducePow, Nat.reduceLeDiff, Int.reduceToNat, hb_2578], (weak_sel [0] (by decide) rfl (by simp only [go_sem, reduceIte, Nat.reduceLT, Nat.reduceEqDiff, Nat.reduceAdd, Nat.reduceBEq, Nat.reduceMul, Nat.reduceSub, Nat.reduceGT, Nat.reducePow, Nat.reduceLeDiff, Int.reduceToNat]) (by simp only [go_sem, reduceIte, Nat.reduceLT, Nat.reduceEqDiff, Nat.reduceAdd, Nat.reduceBEq, Nat.reduceMul, Nat.reduceSub, Nat.reduceGT, Nat.reducePow, Nat.reduceLeDiff, Int.reduceToNat]))⟩
    · replace hv_2577 := ite_f hv_2577 hb_2578
      rcases Bool.eq_false_or_eq_true d_2573.Bad with hb_2579 | hb_2579
      · replace hv_2577 := ite_t hv_2577 hb_2579
        have e_hv_2577 := Option.some.inj hv_2577; subst e_hv_2577
        exact ⟨_, [(1, .ref 0 0), (4, i64 n_2574), (22, .bool true)], [.box [.sl false (L cU8 d_2573.Rest), .bool d_2573.In, .bool d_2573.Escape, .bool d_2573.Bad] false], orcs_nil, by simp only [go_sem, reduceIte, Nat.reduceLT, Nat.reduceEqDiff, Nat.reduceAdd, Nat.reduceBEq, Nat.reduceMul, Nat.reduceSub, Nat.reduceGT, Nat.reducePow, Nat.reduceLeDiff, Int.reduceToNat, hb_2578, hb_2579], (weak_sel [0] (by decide) rfl (by simp only [go_sem, reduceIte, Nat.reduceLT, Nat.reduceEqDiff, Nat.reduceAdd, Nat.reduceBEq, Nat.reduceMul, Nat.reduceSub, Nat.reduceGT, Nat.reducePow, Nat.reduceLeDiff, Int.reduceToNat]) (by simp only [go_sem, reduceIte, Nat.reduceLT, Nat.reduceEqDiff, Nat.reduceAdd, Nat.reduceBEq, Nat.reduceMul, Nat.reduceSub, Nat.reduceGT, Nat.reducePow, Nat.reduceLeDiff, Int.reduceToNat]))⟩
      · replace hv_2577 := ite_f hv_2577 hb_2579
        rcases Bool.eq_false_or_eq_true ((decide (n_2574 < 0))) with hb_2580 | hb_2580
        · replace hv_2577 := ite_t hv_2577 hb_2580
          have e_hv_2577 := Option.some.inj hv_2577; subst e_hv_2577
          exact ⟨_, [(1, .ref 0 0), (4, i64 n_2574), (22, .bool true)], [.box [.sl false (L cU8 d_2573.Rest), .bool d_2573.In, .bool d_2573.Escape, .bool d_2573.Bad] false], orcs_nil, by simp only [go_sem, reduceIte, Nat.reduceLT, Nat.reduceEqDiff, Nat.reduceAdd, Nat.reduceBEq, Nat.reduceMul, Nat.reduceSub, Nat.reduceGT, Nat.reducePow, Nat.reduceLeDiff, Int.reduceToNat, hb_2578, hb_2579, hb_2580], (weak_sel [0] (by decide) rfl (by simp only [go_sem, reduceIte, Nat.reduceLT, Nat.reduceEqDiff, Nat.reduceAdd, Nat.reduceBEq, Nat.reduceMul, Nat.reduceSub, Nat.reduceGT, Nat.reducePow, Nat.reduceLeDiff, Int.reduceToNat]) (by simp only [go_sem, reduceIte, Nat.reduceLT, Nat.reduceEqDiff, Nat.reduceAdd, Nat.reduceBEq, Nat.reduceMul, Nat.reduceSub, Nat.reduceGT, Nat.reducePow, Nat.reduceLeDiff, Int.reduceToNat]))⟩
        · replace hv_2577 := ite_f hv_2577 hb_2580
          have e_hv_2577 := Option.some.inj hv_2577; subst e_hv_2577
          exact ⟨_, [(1, .ref 0 0), (4, i64 n_2574), (22, .bool ((decide (n_2574 > 8192))))], [.box [.sl false (L cU8 d_2573.Rest), .bool d_2573.In, .bool d_2573.Escape, .bool d_2573.Bad] false], orcs_nil, by simp only [go_sem, reduceIte, Nat.reduceLT, Nat.reduceEqDiff, Nat.reduceAdd, Nat.reduceBEq, Nat.reduceMul, Nat.reduceSub, Nat.reduceGT, Nat.reducePow, Nat.reduceLeDiff, Int.reduceToNat, hb_2578, hb_2579, hb_2580], (weak_sel [0] (by decide) rfl (by simp only [go_sem, reduceIte, Nat.reduceLT, Nat.reduceEqDiff, Nat.reduceAdd, Nat.reduceBEq, Nat.reduceMul, Nat.reduceSub, Nat.reduceGT, Nat.reducePow, Nat.reduceLeDiff, Int.reduceToNat]) (by simp only [go_sem, reduceIte, Nat.reduceLT, Nat.reduceEqDiff, Nat.reduceAdd, Nat.reduceBEq, Nat.reduceMul, Nat.reduceSub, Nat.reduceGT, Nat.reducePow, Nat.reduceLeDiff, Int.reduceToNat]))⟩
  refine run_condL (b := t_2576) rfl (by decide) (fun hb => ?_) (fun hb => ?_)
  · replace h := ite_t h hb
    refine run_textE hE [2, 3] (fr' := [(2, .sl true (L cU8 ([]))), (3, .bool false)]) (σ' := [.box [.sl false (L cU8 d_2573.Rest), .bool d_2573.In, .bool d_2573.Escape, .bool d_2573.Bad] false]) ⟨_, orcs_nil, ?_⟩ ?_
    · simp only [go_sem, reduceIte, Nat.reduceLT, Nat.reduceEqDiff, Nat.reduceAdd, Nat.reduceBEq, Nat.reduceMul, Nat.reduceSub, Nat.reduceGT, Nat.reducePow, Nat.reduceLeDiff, Int.reduceToNat]
    refine run_ret ?_
    refine thenK_r ?_
    obtain rfl := Option.some.inj h
    refine ret_ok (.inr rfl) ?_
    simp only [go_sem, reduceIte, Nat.reduceLT, Nat.reduceEqDiff, Nat.reduceAdd, Nat.reduceBEq, Nat.reduceMul, Nat.reduceSub, Nat.reduceGT, Nat.reducePow, Nat.reduceLeDiff, Int.reduceToNat]
  · replace h := ite_f h hb
    refine run_skip ?_
    refine thenK_n ?_
    refine run_seq ?_
    replace h := chk_some h; obtain ⟨hc_2583, h⟩ := h
    replace h := chk_some h; obtain ⟨hc_2584, h⟩ := h
    replace h := bind_some1 h; obtain ⟨y_2581, hy_2585, h⟩ := h
    replace h := bind_some1 h; obtain ⟨y_2582, hy_2586, h⟩ := h
    refine run_drawE hE mixed [[], [0], [], [0, 1, 2], [], [4], [], [4, 5, 6], [4, 5, 6, 7], [0, 1, 2, 3, 4, 5, 6, 7, 8], [0, 1, 2, 3, 4, 5, 6, 7, 8, 9], [], [11], [11, 12], [0, 1, 2, 3, 4, 5, 6, 7, 8, 9, 10, 11, 12, 13]] (by kernel_rfl) (by kernel_rfl) [1, 4, 37] (fr' := [(1, .ref 0 0), (4, i64 n_2574), (37, .bool ((!(y_2582 == d_2573.Rest))))]) (σ' := [.box [.sl false (L cU8 d_2573.Rest), .bool d_2573.In, .bool d_2573.Escape, .bool d_2573.Bad] false]) ⟨_, orcs_ok (l := [(31, 14, [.sl false (L cU8 ((d_2573.Rest.take n_2574.toNat)))], u32 y_2581), (32, 22, [.sl false (L cU8 ((d_2573.Rest.take n_2574.toNat))), u32 y_2581], .sl false (L cU8 y_2582))]) ⟨r10_Crc_con hy_2585, r10_Sealed_con hy_2586, trivial⟩, ?_⟩ ?_
    · simp only [go_sem, reduceIte, Nat.reduceLT, Nat.reduceEqDiff, Nat.reduceAdd, Nat.reduceBEq, Nat.reduceMul, Nat.reduceSub, Nat.reduceGT, Nat.reducePow, Nat.reduceLeDiff, Int.reduceToNat, hc_2583, hc_2584]
    refine run_condL (b := (!(y_2582 == d_2573.Rest))) rfl (by decide) (fun hb => ?_) (fun hb => ?_)
    · replace h := ite_t h hb
      refine run_textE hE [2, 3] (fr' := [(2, .sl true (L cU8 ([]))), (3, .bool false)]) (σ' := [.box [.sl false (L cU8 d_2573.Rest), .bool d_2573.In, .bool d_2573.Escape, .bool d_2573.Bad] false]) ⟨_, orcs_nil, ?_⟩ ?_
      · simp only [go_sem, reduceIte, Nat.reduceLT, Nat.reduceEqDiff, Nat.reduceAdd, Nat.reduceBEq, Nat.reduceMul, Nat.reduceSub, Nat.reduceGT, Nat.reducePow, Nat.reduceLeDiff, Int.reduceToNat]
      refine run_ret ?_
      refine thenK_r ?_
      obtain rfl := Option.some.inj h
      refine ret_ok (.inr rfl) ?_
      simp only [go_sem, reduceIte, Nat.reduceLT, Nat.reduceEqDiff, Nat.reduceAdd, Nat.reduceBEq, Nat.reduceMul, Nat.reduceSub, Nat.reduceGT, Nat.reducePow, Nat.reduceLeDiff, Int.reduceToNat]
    · replace h := ite_f h hb
      refine run_skip ?_
      refine thenK_n ?_
      replace h := chk_some h; obtain ⟨hc_2587, h⟩ := h
      refine run_textE hE [2, 3] (fr' := [(2, .sl false (L cU8 ((d_2573.Rest.take n_2574.toNat)))), (3, .bool true)]) (σ' := [.box [.sl false (L cU8 d_2573.Rest), .bool d_2573.In, .bool d_2573.Escape, .bool d_2573.Bad] false]) ⟨_, orcs_nil, ?_⟩ ?_
      · simp only [go_sem, reduceIte, Nat.reduceLT, Nat.reduceEqDiff, Nat.reduceAdd, Nat.reduceBEq, Nat.reduceMul, Nat.reduceSub, Nat.reduceGT, Nat.reducePow, Nat.reduceLeDiff, Int.reduceToNat, hc_2587]
      refine run_ret ?_
      obtain rfl := Option.some.inj h
      refine ret_ok (.inr rfl) ?_
      simp only [go_sem, reduceIte, Nat.reduceLT, Nat.reduceEqDiff, Nat.reduceAdd, Nat.reduceBEq, Nat.reduceMul, Nat.reduceSub, Nat.reduceGT, Nat.reducePow, Nat.reduceLeDiff, Int.reduceToNat]

theorem r10_SameState_con {a_2588 : Api_Deframer} {b_2589 : Api_Deframer} {r : Bool} (h : r10_SameState a_2588 b_2589 = some r) : Con B 17 [.agg [.sl false (L cU8 a_2588.Rest), .bool a_2588.In, .bool a_2588.Escape, .bool a_2588.Bad], .agg [.sl false (L cU8 b_2589.Rest), .bool b_2589.In, .bool b_2589.Escape, .bool b_2589.Bad]] [] (fun r' σ' => r' = .bool r ∧ σ' = []) := by
  refine con_walk (N := 33) (rs := [.tmp 4]) ok Try.func17 rfl (by decide +kernel) rfl rfl (Nat.le_of_ble_eq_true rfl) (fun F => ?_)
  have hE := ok.env F
  unfold r10_SameState at h
  show Run (B.env F) 0 _ ⟨asFr 33 [(0, .agg [.sl false (L cU8 a_2588.Rest), .bool a_2588.In, .bool a_2588.Escape, .bool a_2588.Bad]), (1, .agg [.sl false (L cU8 b_2589.Rest), .bool b_2589.In, .bool b_2589.Escape, .bool b_2589.Bad])], []⟩ _
  refine run_textE hE [2, 3] (fr' := [(2, .ref 0 0), (3, .ref 1 0)]) (σ' := [.box [.sl false (L cU8 a_2588.Rest), .bool a_2588.In, .bool a_2588.Escape, .bool a_2588.Bad] false, .box [.sl false (L cU8 b_2589.Rest), .bool b_2589.In, .bool b_2589.Escape, .bool b_2589.Bad] false]) ⟨_, orcs_nil, ?_⟩ ?_
  · simp only [go_sem, reduceIte, Nat.reduceLT, Nat.reduceEqDiff, Nat.reduceAdd, Nat.reduceBEq, Nat.reduceMul, Nat.reduceSub, Nat.reduceGT, Nat.reducePow, Nat.reduceLeDiff, Int.reduceToNat]
  replace h := bind_some1 h; obtain ⟨t_2590, hv_2591, h⟩ := h
  refine run_textW hE [4] (fr' := [(4, .bool t_2590)]) (σ' := []) ?_ ?_
  · rcases Bool.eq_false_or_eq_true ((a_2588.In == b_2589.In)) with hb_2592 | hb_2592
    · replace hv_2591 := ite_t hv_2591 hb_2592
      rcases Bool.eq_false_or_eq_true ((a_2588.Escape == b_2589.Escape)) with hb_2593 | hb_2593
      · replace hv_2591 := ite_t hv_2591 hb_2593
        rcases Bool.eq_false_or_eq_true ((a_2588.Bad == b_2589.Bad)) with hb_2594 | hb_2594
        · replace hv_2591 := ite_t hv_2591 hb_2594
          have e_hv_2591 := Option.some.inj hv_2591; subst e_hv_2591
          exact ⟨_, [(4, .bool ((a_2588.Rest == b_2589.Rest)))], [.box [.sl false (L cU8 a_2588.Rest), .bool a_2588.In, .bool a_2588.Escape, .bool a_2588.Bad] false, .box [.sl false (L cU8 b_2589.Rest), .bool b_2589.In, .bool b_2589.Escape, .bool b_2589.Bad] false], orcs_nil, by simp only [go_sem, reduceIte, Nat.reduceLT, Nat.reduceEqDiff, Nat.reduceAdd, Nat.reduceBEq, Nat.reduceMul, Nat.reduceSub, Nat.reduceGT, Nat.reducePow, Nat.reduceLeDiff, Int.reduceToNat, hb_2592, hb_2593, hb_2594], (weak_sel [] (by decide) rfl (by simp only [go_sem, reduceIte, Nat.reduceLT, Nat.reduceEqDiff, Nat.reduceAdd, Nat.reduceBEq, Nat.reduceMul, Nat.reduceSub, Nat.reduceGT, Nat.reducePow, Nat.reduceLeDiff, Int.reduceToNat]) (by simp only [go_sem, reduceIte, Nat.reduceLT, Nat.reduceEqDiff, Nat.reduceAdd, Nat.reduceBEq, Nat.reduceMul, Nat.reduceSub, Nat.reduceGT, Nat.reducePow, Nat.reduceLeDiff, Int.reduceToNat]))⟩
        · replace hv_2591 := ite_f hv_2591 hb_2594
          have e_hv_2591 := Option.some.inj hv_2591; subst e_hv_2591
          exact ⟨_, [(4, .bool false)], [.box [.sl false (L cU8 a_2588.Rest), .bool a_2588.In, .bool a_2588.Escape, .bool a_2588.Bad] false, .box [.sl false (L cU8 b_2589.Rest), .bool b_2589.In, .bool b_2589.Escape, .bool b_2589.Bad] false], orcs_nil, by simp only [go_sem, reduceIte, Nat.reduceLT, Nat.reduceEqDiff, Nat.reduceAdd, Nat.reduceBEq, Nat.reduceMul, Nat.reduceSub, Nat.reduceGT, Nat.reducePow, Nat.reduceLeDiff, Int.reduceToNat, hb_2592, hb_2593, hb_2594], (weak_sel [] (by decide) rfl (by simp only [go_sem, reduceIte, Nat.reduceLT, Nat.reduceEqDiff, Nat.reduceAdd, Nat.reduceBEq, Nat.reduceMul, Nat.reduceSub, Nat.reduceGT, Nat.reducePow, Nat.reduceLeDiff, Int.reduceToNat]) (by simp only [go_sem, reduceIte, Nat.reduceLT, Nat.reduceEqDiff, Nat.reduceAdd, Nat.reduceBEq, Nat.reduceMul, Nat.reduceSub, Nat.reduceGT, Nat.reducePow, Nat.reduceLeDiff, Int.reduceToNat]))⟩
      · replace hv_2591 := ite_f hv_2591 hb_2593
        have e_hv_2591 := Option.some.inj hv_2591; subst e_hv_2591
        exact ⟨_, [(4, .bool false)], [.box [.sl false (L cU8 a_2588.Rest), .bool a_2588.In, .bool a_2588.Escape, .bool a_2588.Bad] false, .box [.sl false (L cU8 b_2589.Rest), .bool b_2589.In, .bool b_2589.Escape, .bool b_2589.Bad] false], orcs_nil, by simp only [go_sem, reduceIte, Nat.reduceLT, Nat.reduceEqDiff, Nat.reduceAdd, Nat.reduceBEq, Nat.reduceMul, Nat.reduceSub, Nat.reduceGT, Nat.reducePow, Nat.reduceLeDiff, Int.reduceToNat, hb_2592, hb_2593], (weak_sel [] (by decide) rfl (by simp only [go_sem, reduceIte, Nat.reduceLT, Nat.reduceEqDiff, Nat.reduceAdd, Nat.reduceBEq, Nat.reduceMul, Nat.reduceSub, Nat.reduceGT, Nat.reducePow, Nat.reduceLeDiff, Int.reduceToNat]) (by simp only [go_sem, reduceIte, Nat.reduceLT, Nat.reduceEqDiff, Nat.reduceAdd, Nat.reduceBEq, Nat.reduceMul, Nat.reduceSub, Nat.reduceGT, Nat.reducePow, Nat.reduceLeDiff, Int.reduceToNat]))⟩
    · replace hv_2591 := ite_f hv_2591 hb_2592
      have e_hv_2591 := Option.some.inj hv_2591; subst e_hv_2591
      exact ⟨_, [(4, .bool false)], [.box [.sl false (L cU8 a_2588.Rest), .bool a_2588.In, .bool a_2588.Escape, .bool a_2588.Bad] false, .box [.sl false (L cU8 b_2589.Rest), .bool b_2589.In, .bool b_2589.Escape, .bool b_2589.Bad] false], orcs_nil, by simp only [go_sem, reduceIte, Nat.reduceLT, Nat.reduceEqDiff, Nat.reduceAdd, Nat.reduceBEq, Nat.reduceMul, Nat.reduceSub, Nat.reduceGT, Nat.reducePow, Nat.reduceLeDiff, Int.reduceToNat, hb_2592], (weak_sel [] (by decide) rfl (by simp only [go_sem, reduceIte, Nat.reduceLT, Nat.reduceEqDiff, Nat.reduceAdd, Nat.reduceBEq, Nat.reduceMul, Nat.reduceSub, Nat.reduceGT, Nat.reducePow, Nat.reduceLeDiff, Int.reduceToNat]) (by simp only [go_sem, reduceIte, Nat.reduceLT, Nat.reduceEqDiff, Nat.reduceAdd, Nat.reduceBEq, Nat.reduceMul, Nat.reduceSub, Nat.reduceGT, Nat.reducePow, Nat.reduceLeDiff, Int.reduceToNat]))⟩
  refine run_ret ?_
  obtain rfl := Option.some.inj h
  refine ret_ok (.inr rfl) ?_
  simp only [go_sem, reduceIte, Nat.reduceLT, Nat.reduceEqDiff, Nat.reduceAdd, Nat.reduceBEq, Nat.reduceMul, Nat.reduceSub, Nat.reduceGT, Nat.reducePow, Nat.reduceLeDiff, Int.reduceToNat]

theorem r10_Same_con {a_2595 : List (List UInt8)} {b_2596 : List (List UInt8)} {r : Bool} (h : r10_Same a_2595 b_2596 = some r) : Con B 18 [.sl false (L (cSl cU8) a_2595), .sl false (L (cSl cU8) b_2596)] [] (fun r' σ' => r' = .bool r ∧ σ' = []) := by
  refine con_walk (N := 28) (rs := [.tmp 4]) ok Try.func18 rfl (by decide +kernel) rfl rfl (Nat.le_of_ble_eq_true rfl) (fun F => ?_)
  have hE := ok.env F
  unfold r10_Same at h
  show Run (B.env F) 0 _ ⟨asFr 28 [(0, .sl false (L (cSl cU8) a_2595)), (1, .sl false (L (cSl cU8) b_2596))], []⟩ _
  refine run_textE hE [0, 1] (fr' := [(0, .sl false (L (cSl cU8) a_2595)), (1, .sl false (L (cSl cU8) b_2596))]) (σ' := []) ⟨_, orcs_nil, ?_⟩ ?_
  · simp only [go_sem, reduceIte, Nat.reduceLT, Nat.reduceEqDiff, Nat.reduceAdd, Nat.reduceBEq, Nat.reduceMul, Nat.reduceSub, Nat.reduceGT, Nat.reducePow, Nat.reduceLeDiff, Int.reduceToNat]
  refine run_seq ?_
  refine run_textE hE [0, 1, 10] (fr' := [(0, .sl false (L (cSl cU8) a_2595)), (1, .sl false (L (cSl cU8) b_2596)), (10, .bool (((a_2595.length : Int) != (b_2596.length : Int))))]) (σ' := []) ⟨_, orcs_nil, ?_⟩ ?_
  · simp only [go_sem, reduceIte, Nat.reduceLT, Nat.reduceEqDiff, Nat.reduceAdd, Nat.reduceBEq, Nat.reduceMul, Nat.reduceSub, Nat.reduceGT, Nat.reducePow, Nat.reduceLeDiff, Int.reduceToNat]
  refine run_condL (b := ((a_2595.length : Int) != (b_2596.length : Int))) rfl (by decide) (fun hb => ?_) (fun hb => ?_)
  · replace h := ite_t h hb
    refine run_textE hE [4] (fr' := [(4, .bool false)]) (σ' := []) ⟨_, orcs_nil, ?_⟩ ?_
    · simp only [go_sem, reduceIte, Nat.reduceLT, Nat.reduceEqDiff, Nat.reduceAdd, Nat.reduceBEq, Nat.reduceMul, Nat.reduceSub, Nat.reduceGT, Nat.reducePow, Nat.reduceLeDiff, Int.reduceToNat]
    refine run_ret ?_
    refine thenK_r ?_
    obtain rfl := Option.some.inj h
    refine ret_ok (.inr rfl) ?_
    simp only [go_sem, reduceIte, Nat.reduceLT, Nat.reduceEqDiff, Nat.reduceAdd, Nat.reduceBEq, Nat.reduceMul, Nat.reduceSub, Nat.reduceGT, Nat.reducePow, Nat.reduceLeDiff, Int.reduceToNat]
  · replace h := ite_f h hb
    refine run_skip ?_
    refine thenK_n ?_
    replace h := bind_some1 h; obtain ⟨j_2615, hA_2616, hj_2617⟩ := h
    refine run_join (fun (v : Unit) => (⟨asFr 28 [], []⟩ : St)) (fun v => .inl v = j_2615) ?_ ?_
    · have h := hA_2616; clear hA_2616
      refine run_textE hE [0, 1, 5] (fr' := [(0, .sl false (L (cSl cU8) a_2595)), (1, .sl false (L (cSl cU8) b_2596)), (5, i64 0)]) (σ' := []) ⟨_, orcs_nil, ?_⟩ ?_
      · simp only [go_sem, reduceIte, Nat.reduceLT, Nat.reduceEqDiff, Nat.reduceAdd, Nat.reduceBEq, Nat.reduceMul, Nat.reduceSub, Nat.reduceGT, Nat.reducePow, Nat.reduceLeDiff, Int.reduceToNat]
      refine run_block ?_
      replace h := bind_some1 h; obtain ⟨x_2627, hx_2628, hj_2629⟩ := h
      refine run_loopO hx_2628 (fun (v : Int) => (⟨asFr 28 [(0, .sl false (L (cSl cU8) a_2595)), (1, .sl false (L (cSl cU8) b_2596)), (5, i64 v)], []⟩ : St)) (weak_sel [] (by decide) rfl (by simp only [go_sem, reduceIte, Nat.reduceLT, Nat.reduceEqDiff, Nat.reduceAdd, Nat.reduceBEq, Nat.reduceMul, Nat.reduceSub, Nat.reduceGT, Nat.reducePow, Nat.reduceLeDiff, Int.reduceToNat]) (by simp only [go_sem, reduceIte, Nat.reduceLT, Nat.reduceEqDiff, Nat.reduceAdd, Nat.reduceBEq, Nat.reduceMul, Nat.reduceSub, Nat.reduceGT, Nat.reducePow, Nat.reduceLeDiff, Int.reduceToNat])) ?_
      rintro i_2622 o_2630 h hxx_2631
      replace h : r10_Same_b1 a_2595 b_2596 i_2622 = some o_2630 := h
      unfold r10_Same_b1 at h
      refine run_seq ?_
      refine run_textE hE [0, 1, 5, 14] (fr' := [(0, .sl false (L (cSl cU8) a_2595)), (1, .sl false (L (cSl cU8) b_2596)), (5, i64 i_2622), (14, .bool ((decide (i_2622 < (a_2595.length : Int)))))]) (σ' := []) ⟨_, orcs_nil, ?_⟩ ?_
      · simp only [go_sem, reduceIte, Nat.reduceLT, Nat.reduceEqDiff, Nat.reduceAdd, Nat.reduceBEq, Nat.reduceMul, Nat.reduceSub, Nat.reduceGT, Nat.reducePow, Nat.reduceLeDiff, Int.reduceToNat]
      refine run_condL (b := (decide (i_2622 < (a_2595.length : Int)))) rfl (by decide) (fun hb => ?_) (fun hb => ?_)
      · replace h := ite_t h hb
        refine run_skip ?_
        refine thenK_n ?_
        refine run_seq ?_
        refine run_block ?_
        replace h := chk_some h; obtain ⟨hc_2632, h⟩ := h
        replace h := chk_some h; obtain ⟨hc_2633, h⟩ := h
        refine run_drawE hE mixed [[], [], [0, 1], [0, 1, 2], [0, 1, 2, 3], [], [], [5, 6], [5, 6, 7], [5, 6, 7, 8], [0, 1, 2, 3, 4, 5, 6, 7, 8, 9]] (by kernel_rfl) (by kernel_rfl) [0, 1, 5, 27] (fr' := [(0, .sl false (L (cSl cU8) a_2595)), (1, .sl false (L (cSl cU8) b_2596)), (5, i64 i_2622), (27, .bool ((!((nth a_2595 i_2622.toNat) == (nth b_2596 i_2622.toNat)))))]) (σ' := []) ⟨_, orcs_nil, ?_⟩ ?_
        · simp only [go_sem, reduceIte, Nat.reduceLT, Nat.reduceEqDiff, Nat.reduceAdd, Nat.reduceBEq, Nat.reduceMul, Nat.reduceSub, Nat.reduceGT, Nat.reducePow, Nat.reduceLeDiff, Int.reduceToNat, hc_2632, hc_2632.2, lt_le hc_2632.2, hc_2633, hc_2633.2, lt_le hc_2633.2]
        refine run_condL (b := (!((nth a_2595 i_2622.toNat) == (nth b_2596 i_2622.toNat)))) rfl (by decide) (fun hb => ?_) (fun hb => ?_)
        · replace h := ite_t h hb
          refine run_textE hE [4] (fr' := [(4, .bool false)]) (σ' := []) ⟨_, orcs_nil, ?_⟩ ?_
          · simp only [go_sem, reduceIte, Nat.reduceLT, Nat.reduceEqDiff, Nat.reduceAdd, Nat.reduceBEq, Nat.reduceMul, Nat.reduceSub, Nat.reduceGT, Nat.reducePow, Nat.reduceLeDiff, Int.reduceToNat]
          refine run_ret ?_
          refine blockK_r ?_
          refine thenK_r ?_
          refine lpK_r ?_
          replace h := bind_some1 h; obtain ⟨z_2635, h, e_z_2635⟩ := h
          obtain rfl := Option.some.inj e_z_2635
          have ex_z_2635 := hxx_2631 _ rfl
          subst ex_z_2635
          obtain rfl := Option.some.inj hj_2629
          refine blockK_r ?_
          refine joinK_r ?_
          replace h := bind_some1 h; obtain ⟨z_2634, h, e_z_2634⟩ := h
          obtain rfl := Option.some.inj e_z_2634
          obtain rfl := Option.some.inj hj_2617
          obtain rfl := Option.some.inj h
          refine ret_ok (.inr rfl) ?_
          simp only [go_sem, reduceIte, Nat.reduceLT, Nat.reduceEqDiff, Nat.reduceAdd, Nat.reduceBEq, Nat.reduceMul, Nat.reduceSub, Nat.reduceGT, Nat.reducePow, Nat.reduceLeDiff, Int.reduceToNat]
        · replace h := ite_f h hb
          refine run_skip ?_
          refine blockK_n ?_
          refine thenK_n ?_
          refine run_textE0 hE wk_lp [0, 1, 5] (fr' := [(0, .sl false (L (cSl cU8) a_2595)), (1, .sl false (L (cSl cU8) b_2596)), (5, i64 ((w64 (i_2622 + 1))))]) (σ' := []) ⟨_, orcs_nil, ?_⟩ ?_
          · simp only [go_sem, reduceIte, Nat.reduceLT, Nat.reduceEqDiff, Nat.reduceAdd, Nat.reduceBEq, Nat.reduceMul, Nat.reduceSub, Nat.reduceGT, Nat.reducePow, Nat.reduceLeDiff, Int.reduceToNat]
          obtain rfl := Option.some.inj h
          exact lpK_n ((w64 (i_2622 + 1))) rfl (weak_sel [] (by decide) rfl (by simp only [go_sem, reduceIte, Nat.reduceLT, Nat.reduceEqDiff, Nat.reduceAdd, Nat.reduceBEq, Nat.reduceMul, Nat.reduceSub, Nat.reduceGT, Nat.reducePow, Nat.reduceLeDiff, Int.reduceToNat]) (by simp only [go_sem, reduceIte, Nat.reduceLT, Nat.reduceEqDiff, Nat.reduceAdd, Nat.reduceBEq, Nat.reduceMul, Nat.reduceSub, Nat.reduceGT, Nat.reducePow, Nat.reduceLeDiff, Int.reduceToNat]))
      · replace h := ite_f h hb
        refine run_exit ?_
        refine thenK_x ?_
        obtain rfl := Option.some.inj h
        have ex_x_2627 := hxx_2631 _ rfl
        subst ex_x_2627
        have h := hj_2629; clear hj_2629
        refine lpK_x ?_
        refine blockK_x ?_
        obtain rfl := Option.some.inj h
        exact joinK_n (()) rfl ((weak_sel (l' := []) (σ' := []) [] (by decide) rfl (by simp only [go_sem, reduceIte, Nat.reduceLT, Nat.reduceEqDiff, Nat.reduceAdd, Nat.reduceBEq, Nat.reduceMul, Nat.reduceSub, Nat.reduceGT, Nat.reducePow, Nat.reduceLeDiff, Int.reduceToNat]) (by simp only [go_sem, reduceIte, Nat.reduceLT, Nat.reduceEqDiff, Nat.reduceAdd, Nat.reduceBEq, Nat.reduceMul, Nat.reduceSub, Nat.reduceGT, Nat.reducePow, Nat.reduceLeDiff, Int.reduceToNat])).trans (weak_sel [] (by decide) rfl (by simp only [go_sem, reduceIte, Nat.reduceLT, Nat.reduceEqDiff, Nat.reduceAdd, Nat.reduceBEq, Nat.reduceMul, Nat.reduceSub, Nat.reduceGT, Nat.reducePow, Nat.reduceLeDiff, Int.reduceToNat]) (by simp only [go_sem, reduceIte, Nat.reduceLT, Nat.reduceEqDiff, Nat.reduceAdd, Nat.reduceBEq, Nat.reduceMul, Nat.reduceSub, Nat.reduceGT, Nat.reducePow, Nat.reduceLeDiff, Int.reduceToNat])))
    rintro ⟨⟩ rfl
    have h := hj_2617; clear hj_2617
    refine run_textE hE [4] (fr' := [(4, .bool true)]) (σ' := []) ⟨_, orcs_nil, ?_⟩ ?_
    · simp only [go_sem, reduceIte, Nat.reduceLT, Nat.reduceEqDiff, Nat.reduceAdd, Nat.reduceBEq, Nat.reduceMul, Nat.reduceSub, Nat.reduceGT, Nat.reducePow, Nat.reduceLeDiff, Int.reduceToNat]
    refine run_ret ?_
    obtain rfl := Option.some.inj h
    refine ret_ok (.inr rfl) ?_
    simp only [go_sem, reduceIte, Nat.reduceLT, Nat.reduceEqDiff, Nat.reduceAdd, Nat.reduceBEq, Nat.reduceMul, Nat.reduceSub, Nat.reduceGT, Nat.reducePow, Nat.reduceLeDiff, Int.reduceToNat]

end Go.Proofs.Ytneejmndnihaoaa
