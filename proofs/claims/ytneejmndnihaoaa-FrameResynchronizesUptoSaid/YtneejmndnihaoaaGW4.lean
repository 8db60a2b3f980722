/-
  The functions compute just that.
-/
import Derived.Test.YtneejmndnihaoaaGW3
import Derived.KernelRfl
namespace Go.Proofs.Ytneejmndnihaoaa
open Go.Rv
set_option linter.unusedVariables false
set_option linter.unusedSimpArgs false

theorem r10_content_con {d_2565 : Api_Deframer} {r : List UInt8 × Bool} (h : r10_content d_2565 = some r) : Con B 26 [.agg [.sl false (L cU8 d_2565.Rest), .bool d_2565.In, .bool d_2565.Escape, .bool d_2565.Bad]] [] (fun r' σ' => r' = .tup [.sl false (L cU8 r.1), .bool r.2] ∧ σ' = []) := by
  refine con_walk (N := 42) (rs := [.tmp 2, .tmp 3]) ok Try.func26 rfl (by decide +kernel) rfl rfl (Nat.le_of_ble_eq_true rfl) (fun F => ?_)
  have hE := ok.env F
  unfold r10_content at h
  show Run (B.env F) 0 _ ⟨asFr 42 [(0, .agg [.sl false (L cU8 d_2565.Rest), .bool d_2565.In, .bool d_2565.Escape, .bool d_2565.Bad])], []⟩ _
  refine run_textE hE [1] (fr' := [(1, .ref 0 0)]) (σ' := [.box [.sl false (L cU8 d_2565.Rest), .bool d_2565.In, .bool d_2565.Escape, .bool d_2565.Bad] false]) ⟨_, orcs_nil, ?_⟩ ?_
  · simp only [go_sem, reduceIte, Nat.reduceLT, Nat.reduceEqDiff, Nat.reduceAdd, Nat.reduceBEq, Nat.reduceMul, Nat.reduceSub, Nat.reduceGT, Nat.reducePow, Nat.reduceLeDiff, Int.reduceToNat]
  replace h := lt1_some h; obtain ⟨n_2566, hz_2567, h⟩ := h
  refine run_textE hE [1, 4] (fr' := [(1, .ref 0 0), (4, i64 n_2566)]) (σ' := [.box [.sl false (L cU8 d_2565.Rest), .bool d_2565.In, .bool d_2565.Escape, .bool d_2565.Bad] false]) ⟨_, orcs_nil, ?_⟩ ?_
  · subst hz_2567; simp only [go_sem, reduceIte, Nat.reduceLT, Nat.reduceEqDiff, Nat.reduceAdd, Nat.reduceBEq, Nat.reduceMul, Nat.reduceSub, Nat.reduceGT, Nat.reducePow, Nat.reduceLeDiff, Int.reduceToNat]
  refine run_seq ?_
  replace h := bind_some1 h; obtain ⟨t_2568, hv_2569, h⟩ := h
  refine run_textW hE [1, 4, 22] (fr' := [(1, .ref 0 0), (4, i64 n_2566), (22, .bool t_2568)]) (σ' := [.box [.sl false (L cU8 d_2565.Rest), .bool d_2565.In, .bool d_2565.Escape, .bool d_2565.Bad] false]) ?_ ?_
  · rcases Bool.eq_false_or_eq_true d_2565.Escape with hb_2570 | hb_2570
    · replace hv_2569 := ite_t hv_2569 hb_2570
      have e_hv_2569 := Option.some.inj hv_2569; subst e_hv_2569
      exact ⟨_, [(1, .ref 0 0), (4, i64 n_2566), (22, .bool true)], [.box [.sl false (L cU8 d_2565.Rest), .bool d_2565.In, .bool d_2565.Escape, .bool d_2565.Bad] false], orcs_nil, by simp only [go_sem, reduceIte, Nat.reduceLT, Nat.reduceEqDiff, Nat.reduceAdd, Nat.reduceBEq, Nat.reduceMul, Nat.reduceSub, Nat.reduceGT, Nat.reducePow, Nat.reduceLeDiff, Int.reduceToNat, hb_2570], (weak_sel [0] (by decide) rfl (by simp only [go_sem, reduceIte, Nat.reduceLT, Nat.reduceEqDiff, Nat.reduceAdd, Nat.reduceBEq, Nat.reduceMul, Nat.reduceSub, Nat.reduceGT, Nat.reducePow, Nat.reduceLeDiff, Int.reduceToNat]) (by simp only [go_sem, reduceIte, Nat.reduceLT, Nat.reduceEqDiff, Nat.reduceAdd, Nat.reduceBEq, Nat.reduceMul, Nat.reduceSub, Nat.reduceGT, Nat.reducePow, Nat.reduceLeDiff, Int.reduceToNat]))⟩
    · replace hv_2569 := ite_f hv_2569 hb_2570
      rcases Bool.eq_false_or_eq_true d_2565.Bad with hb_2571 | hb_2571
      · replace hv_2569 := ite_t hv_2569 hb_2571
        have e_hv_2569 := Option.some.inj hv_2569; subst e_hv_2569
        exact ⟨_, [(1, .ref 0 0), (4, i64 n_2566), (22, .bool true)], [.box [.sl false (L cU8 d_2565.Rest), .bool d_2565.In, .bool d_2565.Escape, .bool d_2565.Bad] false], orcs_nil, by simp only [go_sem, reduceIte, Nat.reduceLT, Nat.reduceEqDiff, Nat.reduceAdd, Nat.reduceBEq, Nat.reduceMul, Nat.reduceSub, Nat.reduceGT, Nat.reducePow, Nat.reduceLeDiff, Int.reduceToNat, hb_2570, hb_2571], (weak_sel [0] (by decide) rfl (by simp only [go_sem, reduceIte, Nat.reduceLT, Nat.reduceEqDiff, Nat.reduceAdd, Nat.reduceBEq, Nat.reduceMul, Nat.reduceSub, Nat.reduceGT, Nat.reducePow, Nat.reduceLeDiff, Int.reduceToNat]) (by simp only [go_sem, reduceIte, Nat.reduceLT, Nat.reduceEqDiff, Nat.reduceAdd, Nat.reduceBEq, Nat.reduceMul, Nat.reduceSub, Nat.reduceGT, Nat.reducePow, Nat.reduceLeDiff, Int.reduceToNat]))⟩
      · replace hv_2569 := ite_f hv_2569 hb_2571
        rcases Bool.eq_false_or_eq_true ((decide (n_2566 < 0))) with hb_2572 | hb_2572
        · replace hv_2569 := ite_t hv_2569 hb_2572
          have e_hv_2569 := Option.some.inj hv_2569; subst e_hv_2569
          exact ⟨_, [(1, .ref 0 0), (4, i64 n_2566), (22, .bool true)], [.box [.sl false (L cU8 d_2565.Rest), .bool d_2565.In, .bool d_2565.Escape, .bool d_2565.Bad] false], orcs_nil, by simp only [go_sem, reduceIte, Nat.reduceLT, Nat.reduceEqDiff, Nat.reduceAdd, Nat.reduceBEq, Nat.reduceMul, Nat.reduceSub, Nat.reduceGT, Nat.reducePow, Nat.reduceLeDiff, Int.reduceToNat, hb_2570, hb_2571, hb_2572], (weak_sel [0] (by decide) rfl (by simp only [go_sem, reduceIte, Nat.reduceLT, Nat.reduceEqDiff, Nat.reduceAdd, Nat.reduceBEq, Nat.reduceMul, Nat.reduceSub, Nat.reduceGT, Nat.reducePow, Nat.reduceLeDiff, Int.reduceToNat]) (by simp only [go_sem, reduceIte, Nat.reduceLT, Nat.reduceEqDiff, Nat.reduceAdd, Nat.reduceBEq, Nat.reduceMul, Nat.reduceSub, Nat.reduceGT, Nat.reducePow, Nat.reduceLeDiff, Int.reduceToNat]))⟩
        · replace hv_2569 := ite_f hv_2569 hb_2572
          have e_hv_2569 := Option.some.inj hv_2569; subst e_hv_2569
          exact ⟨_, [(1, .ref 0 0), (4, i64 n_2566), (22, .bool ((decide (n_2566 > 8192))))], [.box [.sl false (L cU8 d_2565.Rest), .bool d_2565.In, .bool d_2565.Escape, .bool d_2565.Bad] false], orcs_nil, by simp only [go_sem, reduceIte, Nat.reduceLT, Nat.reduceEqDiff, Nat.reduceAdd, Nat.reduceBEq, Nat.reduceMul, Nat.reduceSub, Nat.reduceGT, Nat.reducePow, Nat.reduceLeDiff, Int.reduceToNat, hb_2570, hb_2571, hb_2572], (weak_sel [0] (by decide) rfl (by simp only [go_sem, reduceIte, Nat.reduceLT, Nat.reduceEqDiff, Nat.reduceAdd, Nat.reduceBEq, Nat.reduceMul, Nat.reduceSub, Nat.reduceGT, Nat.reducePow, Nat.reduceLeDiff, Int.reduceToNat]) (by simp only [go_sem, reduceIte, Nat.reduceLT, Nat.reduceEqDiff, Nat.reduceAdd, Nat.reduceBEq, Nat.reduceMul, Nat.reduceSub, Nat.reduceGT, Nat.reducePow, Nat.reduceLeDiff, Int.reduceToNat]))⟩
  refine run_condL (b := t_2568) rfl (by decide) (fun hb => ?_) (fun hb => ?_)
  · replace h := ite_t h hb
    refine run_textE hE [2, 3] (fr' := [(2, .sl true (L cU8 ([]))), (3, .bool false)]) (σ' := [.box [.sl false (L cU8 d_2565.Rest), .bool d_2565.In, .bool d_2565.Escape, .bool d_2565.Bad] false]) ⟨_, orcs_nil, ?_⟩ ?_
    · simp only [go_sem, reduceIte, Nat.reduceLT, Nat.reduceEqDiff, Nat.reduceAdd, Nat.reduceBEq, Nat.reduceMul, Nat.reduceSub, Nat.reduceGT, Nat.reducePow, Nat.reduceLeDiff, Int.reduceToNat]
    refine run_ret ?_
    refine thenK_r ?_
    obtain rfl := Option.some.inj h
    refine ret_ok (.inr rfl) ?_
    simp only [go_sem, reduceIte, Nat.reduceLT, Nat.reduceEqDiff, Nat.reduceAdd, Nat.reduceBEq, Nat.reduceMul, Nat.reduceSub, Nat.reduceGT, Nat.reducePow, Nat.reduceLeDiff, Int.reduceToNat]
  · replace h := ite_f h hb
    refine run_skip ?_
    refine thenK_n ?_
    refine run_seq ?_
    replace h := chk_some h; obtain ⟨hc_2575, h⟩ := h
    replace h := chk_some h; obtain ⟨hc_2576, h⟩ := h
    replace h := bind_some1 h; obtain ⟨y_2573, hy_2577, h⟩ := h
    replace h := bind_some1 h; obtain ⟨y_2574, hy_2578, h⟩ := h
    refine run_drawE hE mixed [[], [0], [], [0, 1, 2], [], [4], [], [4, 5, 6], [4, 5, 6, 7], [0, 1, 2, 3, 4, 5, 6, 7, 8], [0, 1, 2, 3, 4, 5, 6, 7, 8, 9], [], [11], [11, 12], [0, 1, 2, 3, 4, 5, 6, 7, 8, 9, 10, 11, 12, 13]] (by kernel_rfl) (by kernel_rfl) [1, 4, 37] (fr' := [(1, .ref 0 0), (4, i64 n_2566), (37, .bool ((!(y_2574 == d_2565.Rest))))]) (σ' := [.box [.sl false (L cU8 d_2565.Rest), .bool d_2565.In, .bool d_2565.Escape, .bool d_2565.Bad] false]) ⟨_, orcs_ok (l := [(31, 14, [.sl false (L cU8 ((d_2565.Rest.take n_2566.toNat)))], u32 y_2573), (32, 22, [.sl false (L cU8 ((d_2565.Rest.take n_2566.toNat))), u32 y_2573], .sl false (L cU8 y_2574))]) ⟨r10_Crc_con hy_2577, r10_Sealed_con hy_2578, trivial⟩, ?_⟩ ?_
    · simp only [go_sem, reduceIte, Nat.reduceLT, Nat.reduceEqDiff, Nat.reduceAdd, Nat.reduceBEq, Nat.reduceMul, Nat.reduceSub, Nat.reduceGT, Nat.reducePow, Nat.reduceLeDiff, Int.reduceToNat, hc_2575, hc_2576]
    refine run_condL (b := (!(y_2574 == d_2565.Rest))) rfl (by decide) (fun hb => ?_) (fun hb => ?_)
    · replace h := ite_t h hb
      refine run_textE hE [2, 3] (fr' := [(2, .sl true (L cU8 ([]))), (3, .bool false)]) (σ' := [.box [.sl false (L cU8 d_2565.Rest), .bool d_2565.In, .bool d_2565.Escape, .bool d_2565.Bad] false]) ⟨_, orcs_nil, ?_⟩ ?_
      · simp only [go_sem, reduceIte, Nat.reduceLT, Nat.reduceEqDiff, Nat.reduceAdd, Nat.reduceBEq, Nat.reduceMul, Nat.reduceSub, Nat.reduceGT, Nat.reducePow, Nat.reduceLeDiff, Int.reduceToNat]
      refine run_ret ?_
      refine thenK_r ?_
      obtain rfl := Option.some.inj h
      refine ret_ok (.inr rfl) ?_
      simp only [go_sem, reduceIte, Nat.reduceLT, Nat.reduceEqDiff, Nat.reduceAdd, Nat.reduceBEq, Nat.reduceMul, Nat.reduceSub, Nat.reduceGT, Nat.reducePow, Nat.reduceLeDiff, Int.reduceToNat]
    · replace h := ite_f h hb
      refine run_skip ?_
      refine thenK_n ?_
      replace h := chk_some h; obtain ⟨hc_2579, h⟩ := h
      refine run_textE hE [2, 3] (fr' := [(2, .sl false (L cU8 ((d_2565.Rest.take n_2566.toNat)))), (3, .bool true)]) (σ' := [.box [.sl false (L cU8 d_2565.Rest), .bool d_2565.In, .bool d_2565.Escape, .bool d_2565.Bad] false]) ⟨_, orcs_nil, ?_⟩ ?_
      · simp only [go_sem, reduceIte, Nat.reduceLT, Nat.reduceEqDiff, Nat.reduceAdd, Nat.reduceBEq, Nat.reduceMul, Nat.reduceSub, Nat.reduceGT, Nat.reducePow, Nat.reduceLeDiff, Int.reduceToNat, hc_2579]
      refine run_ret ?_
      obtain rfl := Option.some.inj h
      refine ret_ok (.inr rfl) ?_
      simp only [go_sem, reduceIte, Nat.reduceLT, Nat.reduceEqDiff, Nat.reduceAdd, Nat.reduceBEq, Nat.reduceMul, Nat.reduceSub, Nat.reduceGT, Nat.reducePow, Nat.reduceLeDiff, Int.reduceToNat]

theorem r10_SameState_con {a_2580 : Api_Deframer} {b_2581 : Api_Deframer} {r : Bool} (h : r10_SameState a_2580 b_2581 = some r) : Con B 17 [.agg [.sl false (L cU8 a_2580.Rest), .bool a_2580.In, .bool a_2580.Escape, .bool a_2580.Bad], .agg [.sl false (L cU8 b_2581.Rest), .bool b_2581.In, .bool b_2581.Escape, .bool b_2581.Bad]] [] (fun r' σ' => r' = .bool r ∧ σ' = []) := by
  refine con_walk (N := 33) (rs := [.tmp 4]) ok Try.func17 rfl (by decide +kernel) rfl rfl (Nat.le_of_ble_eq_true rfl) (fun F => ?_)
  have hE := ok.env F
  unfold r10_SameState at h
  show Run (B.env F) 0 _ ⟨asFr 33 [(0, .agg [.sl false (L cU8 a_2580.Rest), .bool a_2580.In, .bool a_2580.Escape, .bool a_2580.Bad]), (1, .agg [.sl false (L cU8 b_2581.Rest), .bool b_2581.In, .bool b_2581.Escape, .bool b_2581.Bad])], []⟩ _
  refine run_textE hE [2, 3] (fr' := [(2, .ref 0 0), (3, .ref 1 0)]) (σ' := [.box [.sl false (L cU8 a_2580.Rest), .bool a_2580.In, .bool a_2580.Escape, .bool a_2580.Bad] false, .box [.sl false (L cU8 b_2581.Rest), .bool b_2581.In, .bool b_2581.Escape, .bool b_2581.Bad] false]) ⟨_, orcs_nil, ?_⟩ ?_
  · simp only [go_sem, reduceIte, Nat.reduceLT, Nat.reduceEqDiff, Nat.reduceAdd, Nat.reduceBEq, Nat.reduceMul, Nat.reduceSub, Nat.reduceGT, Nat.reducePow, Nat.reduceLeDiff, Int.reduceToNat]
  replace h := bind_some1 h; obtain ⟨t_2582, hv_2583, h⟩ := h
  refine run_textW hE [4] (fr' := [(4, .bool t_2582)]) (σ' := []) ?_ ?_
  · rcases Bool.eq_false_or_eq_true ((a_2580.In == b_2581.In)) with hb_2584 | hb_2584
    · replace hv_2583 := ite_t hv_2583 hb_2584
      rcases Bool.eq_false_or_eq_true ((a_2580.Escape == b_2581.Escape)) with hb_2585 | hb_2585
      · replace hv_2583 := ite_t hv_2583 hb_2585
        rcases Bool.eq_false_or_eq_true ((a_2580.Bad == b_2581.Bad)) with hb_2586 | hb_2586
        · replace hv_2583 := ite_t hv_2583 hb_2586
          have e_hv_2583 := Option.some.inj hv_2583; subst e_hv_2583
          exact ⟨_, [(4, .bool ((a_2580.Rest == b_2581.Rest)))], [.box [.sl false (L cU8 a_2580.Rest), .bool a_2580.In, .bool a_2580.Escape, .bool a_2580.Bad] false, .box [.sl false (L cU8 b_2581.Rest), .bool b_2581.In, .bool b_2581.Escape, .bool b_2581.Bad] false], orcs_nil, by simp only [go_sem, reduceIte, Nat.reduceLT, Nat.reduceEqDiff, Nat.reduceAdd, Nat.reduceBEq, Nat.reduceMul, Nat.reduceSub, Nat.reduceGT, Nat.reducePow, Nat.reduceLeDiff, Int.reduceToNat, hb_2584, hb_2585, hb_2586], (weak_sel [] (by decide) rfl (by simp only [go_sem, reduceIte, Nat.reduceLT, Nat.reduceEqDiff, Nat.reduceAdd, Nat.reduceBEq, Nat.reduceMul, Nat.reduceSub, Nat.reduceGT, Nat.reducePow, Nat.reduceLeDiff, Int.reduceToNat]) (by simp only [go_sem, reduceIte, Nat.reduceLT, Nat.reduceEqDiff, Nat.reduceAdd, Nat.reduceBEq, Nat.reduceMul, Nat.reduceSub, Nat.reduceGT, Nat.reducePow, Nat.reduceLeDiff, Int.reduceToNat]))⟩
        · replace hv_2583 := ite_f hv_2583 hb_2586
          have e_hv_2583 := Option.some.inj hv_2583; subst e_hv_2583
          exact ⟨_, [(4, .bool false)], [.box [.sl false (L cU8 a_2580.Rest), .bool a_2580.In, .bool a_2580.Escape, .bool a_2580.Bad] false, .box [.sl false (L cU8 b_2581.Rest), .bool b_2581.In, .bool b_2581.Escape, .bool b_2581.Bad] false], orcs_nil, by simp only [go_sem, reduceIte, Nat.reduceLT, Nat.reduceEqDiff, Nat.reduceAdd, Nat.reduceBEq, Nat.reduceMul, Nat.reduceSub, Nat.reduceGT, Nat.reducePow, Nat.reduceLeDiff, Int.reduceToNat, hb_2584, hb_2585, hb_2586], (weak_sel [] (by decide) rfl (by simp only [go_sem, reduceIte, Nat.reduceLT, Nat.reduceEqDiff, Nat.reduceAdd, Nat.reduceBEq, Nat.reduceMul, Nat.reduceSub, Nat.reduceGT, Nat.reducePow, Nat.reduceLeDiff, Int.reduceToNat]) (by simp only [go_sem, reduceIte, Nat.reduceLT, Nat.reduceEqDiff, Nat.reduceAdd, Nat.reduceBEq, Nat.reduceMul, Nat.reduceSub, Nat.reduceGT, Nat.reducePow, Nat.reduceLeDiff, Int.reduceToNat]))⟩
      · replace hv_2583 := ite_f hv_2583 hb_2585
        have e_hv_2583 := Option.some.inj hv_2583; subst e_hv_2583
        exact ⟨_, [(4, .bool false)], [.box [.sl false (L cU8 a_2580.Rest), .bool a_2580.In, .bool a_2580.Escape, .bool a_2580.Bad] false, .box [.sl false (L cU8 b_2581.Rest), .bool b_2581.In, .bool b_2581.Escape, .bool b_2581.Bad] false], orcs_nil, by simp only [go_sem, reduceIte, Nat.reduceLT, Nat.reduceEqDiff, Nat.reduceAdd, Nat.reduceBEq, Nat.reduceMul, Nat.reduceSub, Nat.reduceGT, Nat.reducePow, Nat.reduceLeDiff, Int.reduceToNat, hb_2584, hb_2585], (weak_sel [] (by decide) rfl (by simp only [go_sem, reduceIte, Nat.reduceLT, Nat.reduceEqDiff, Nat.reduceAdd, Nat.reduceBEq, Nat.reduceMul, Nat.reduceSub, Nat.reduceGT, Nat.reducePow, Nat.reduceLeDiff, Int.reduceToNat]) (by simp only [go_sem, reduceIte, Nat.reduceLT, Nat.reduceEqDiff, Nat.reduceAdd, Nat.reduceBEq, Nat.reduceMul, Nat.reduceSub, Nat.reduceGT, Nat.reducePow, Nat.reduceLeDiff, Int.reduceToNat]))⟩
    · replace hv_2583 := ite_f hv_2583 hb_2584
      have e_hv_2583 := Option.some.inj hv_2583; subst e_hv_2583
      exact ⟨_, [(4, .bool false)], [.box [.sl false (L cU8 a_2580.Rest), .bool a_2580.In, .bool a_2580.Escape, .bool a_2580.Bad] false, .box [.sl false (L cU8 b_2581.Rest), .bool b_2581.In, .bool b_2581.Escape, .bool b_2581.Bad] false], orcs_nil, by simp only [go_sem, reduceIte, Nat.reduceLT, Nat.reduceEqDiff, Nat.reduceAdd, Nat.reduceBEq, Nat.reduceMul, Nat.reduceSub, Nat.reduceGT, Nat.reducePow, Nat.reduceLeDiff, Int.reduceToNat, hb_2584], (weak_sel [] (by decide) rfl (by simp only [go_sem, reduceIte, Nat.reduceLT, Nat.reduceEqDiff, Nat.reduceAdd, Nat.reduceBEq, Nat.reduceMul, Nat.reduceSub, Nat.reduceGT, Nat.reducePow, Nat.reduceLeDiff, Int.reduceToNat]) (by simp only [go_sem, reduceIte, Nat.reduceLT, Nat.reduceEqDiff, Nat.reduceAdd, Nat.reduceBEq, Nat.reduceMul, Nat.reduceSub, Nat.reduceGT, Nat.reducePow, Nat.reduceLeDiff, Int.reduceToNat]))⟩
  refine run_ret ?_
  obtain rfl := Option.some.inj h
  refine ret_ok (.inr rfl) ?_
  simp only [go_sem, reduceIte, Nat.reduceLT, Nat.reduceEqDiff, Nat.reduceAdd, Nat.reduceBEq, Nat.reduceMul, Nat.reduceSub, Nat.reduceGT, Nat.reducePow, Nat.reduceLeDiff, Int.reduceToNat]

theorem r10_Same_con {a_2587 : List (List UInt8)} {b_2588 : List (List UInt8)} {r : Bool} (h : r10_Same a_2587 b_2588 = some r) : Con B 18 [.sl false (L (cSl cU8) a_2587), .sl false (L (cSl cU8) b_2588)] [] (fun r' σ' => r' = .bool r ∧ σ' = []) := by
  refine con_walk (N := 28) (rs := [.tmp 4]) ok Try.func18 rfl (by decide +kernel) rfl rfl (Nat.le_of_ble_eq_true rfl) (fun F => ?_)
  have hE := ok.env F
  unfold r10_Same at h
  show Run (B.env F) 0 _ ⟨asFr 28 [(0, .sl false (L (cSl cU8) a_2587)), (1, .sl false (L (cSl cU8) b_2588))], []⟩ _
  refine run_textE hE [0, 1] (fr' := [(0, .sl false (L (cSl cU8) a_2587)), (1, .sl false (L (cSl cU8) b_2588))]) (σ' := []) ⟨_, orcs_nil, ?_⟩ ?_
  · simp only [go_sem, reduceIte, Nat.reduceLT, Nat.reduceEqDiff, Nat.reduceAdd, Nat.reduceBEq, Nat.reduceMul, Nat.reduceSub, Nat.reduceGT, Nat.reducePow, Nat.reduceLeDiff, Int.reduceToNat]
  refine run_seq ?_
  refine run_textE hE [0, 1, 10] (fr' := [(0, .sl false (L (cSl cU8) a_2587)), (1, .sl false (L (cSl cU8) b_2588)), (10, .bool (((a_2587.length : Int) != (b_2588.length : Int))))]) (σ' := []) ⟨_, orcs_nil, ?_⟩ ?_
  · simp only [go_sem, reduceIte, Nat.reduceLT, Nat.reduceEqDiff, Nat.reduceAdd, Nat.reduceBEq, Nat.reduceMul, Nat.reduceSub, Nat.reduceGT, Nat.reducePow, Nat.reduceLeDiff, Int.reduceToNat]
  refine run_condL (b := ((a_2587.length : Int) != (b_2588.length : Int))) rfl (by decide) (fun hb => ?_) (fun hb => ?_)
  · replace h := ite_t h hb
    refine run_textE hE [4] (fr' := [(4, .bool false)]) (σ' := []) ⟨_, orcs_nil, ?_⟩ ?_
    · simp only [go_sem, reduceIte, Nat.reduceLT, Nat.reduceEqDiff, Nat.reduceAdd, Nat.reduceBEq, Nat.reduceMul, Nat.reduceSub, Nat.reduceGT, Nat.reducePow, Nat.reduceLeDiff, Int.reduceToNat]
    refine run_ret ?_
    refine thenK_r ?_
    obtain rfl := Option.some.inj h
    refine ret_ok (.inr rfl) ?_
    simp only [go_sem, reduceIte, Nat.reduceLT, Nat.reduceEqDiff, Nat.reduceAdd, Nat.reduceBEq, Nat.reduceMul, Nat.reduceSub, Nat.reduceGT, Nat.reducePow, Nat.reduceLeDiff, Int.reduceToNat]
  · replace h := ite_f h hb
    refine run_skip ?_
    refine thenK_n ?_
    replace h := bind_some1 h; obtain ⟨j_2607, hA_2608, hj_2609⟩ := h
    refine run_join (fun (v : Unit) => (⟨asFr 28 [], []⟩ : St)) (fun v => .inl v = j_2607) ?_ ?_
    · have h := hA_2608; clear hA_2608
      refine run_textE hE [0, 1, 5] (fr' := [(0, .sl false (L (cSl cU8) a_2587)), (1, .sl false (L (cSl cU8) b_2588)), (5, i64 0)]) (σ' := []) ⟨_, orcs_nil, ?_⟩ ?_
      · simp only [go_sem, reduceIte, Nat.reduceLT, Nat.reduceEqDiff, Nat.reduceAdd, Nat.reduceBEq, Nat.reduceMul, Nat.reduceSub, Nat.reduceGT, Nat.reducePow, Nat.reduceLeDiff, Int.reduceToNat]
      refine run_block ?_
      replace h := bind_some1 h; obtain ⟨x_2619, hx_2620, hj_2621⟩ := h
      refine run_loopO hx_2620 (fun (v : Int) => (⟨asFr 28 [(0, .sl false (L (cSl cU8) a_2587)), (1, .sl false (L (cSl cU8) b_2588)), (5, i64 v)], []⟩ : St)) (weak_sel [] (by decide) rfl (by simp only [go_sem, reduceIte, Nat.reduceLT, Nat.reduceEqDiff, Nat.reduceAdd, Nat.reduceBEq, Nat.reduceMul, Nat.reduceSub, Nat.reduceGT, Nat.reducePow, Nat.reduceLeDiff, Int.reduceToNat]) (by simp only [go_sem, reduceIte, Nat.reduceLT, Nat.reduceEqDiff, Nat.reduceAdd, Nat.reduceBEq, Nat.reduceMul, Nat.reduceSub, Nat.reduceGT, Nat.reducePow, Nat.reduceLeDiff, Int.reduceToNat])) ?_
      rintro i_2614 o_2622 h hxx_2623
      replace h : r10_Same_b1 a_2587 b_2588 i_2614 = some o_2622 := h
      unfold r10_Same_b1 at h
      refine run_seq ?_
      refine run_textE hE [0, 1, 5, 14] (fr' := [(0, .sl false (L (cSl cU8) a_2587)), (1, .sl false (L (cSl cU8) b_2588)), (5, i64 i_2614), (14, .bool ((decide (i_2614 < (a_2587.length : Int)))))]) (σ' := []) ⟨_, orcs_nil, ?_⟩ ?_
      · simp only [go_sem, reduceIte, Nat.reduceLT, Nat.reduceEqDiff, Nat.reduceAdd, Nat.reduceBEq, Nat.reduceMul, Nat.reduceSub, Nat.reduceGT, Nat.reducePow, Nat.reduceLeDiff, Int.reduceToNat]
      refine run_condL (b := (decide (i_2614 < (a_2587.length : Int)))) rfl (by decide) (fun hb => ?_) (fun hb => ?_)
      · replace h := ite_t h hb
        refine run_skip ?_
        refine thenK_n ?_
        refine run_seq ?_
        refine run_block ?_
        replace h := chk_some h; obtain ⟨hc_2624, h⟩ := h
        replace h := chk_some h; obtain ⟨hc_2625, h⟩ := h
        refine run_drawE hE mixed [[], [], [0, 1], [0, 1, 2], [0, 1, 2, 3], [], [], [5, 6], [5, 6, 7], [5, 6, 7, 8], [0, 1, 2, 3, 4, 5, 6, 7, 8, 9]] (by kernel_rfl) (by kernel_rfl) [0, 1, 5, 27] (fr' := [(0, .sl false (L (cSl cU8) a_2587)), (1, .sl false (L (cSl cU8) b_2588)), (5, i64 i_2614), (27, .bool ((!((nth a_2587 i_2614.toNat) == (nth b_2588 i_2614.toNat)))))]) (σ' := []) ⟨_, orcs_nil, ?_⟩ ?_
        · simp only [go_sem, reduceIte, Nat.reduceLT, Nat.reduceEqDiff, Nat.reduceAdd, Nat.reduceBEq, Nat.reduceMul, Nat.reduceSub, Nat.reduceGT, Nat.reducePow, Nat.reduceLeDiff, Int.reduceToNat, hc_2624, hc_2624.2, lt_le hc_2624.2, hc_2625, hc_2625.2, lt_le hc_2625.2]
        refine run_condL (b := (!((nth a_2587 i_2614.toNat) == (nth b_2588 i_2614.toNat)))) rfl (by decide) (fun hb => ?_) (fun hb => ?_)
        · replace h := ite_t h hb
          refine run_textE hE [4] (fr' := [(4, .bool false)]) (σ' := []) ⟨_, orcs_nil, ?_⟩ ?_
          · simp only [go_sem, reduceIte, Nat.reduceLT, Nat.reduceEqDiff, Nat.reduceAdd, Nat.reduceBEq, Nat.reduceMul, Nat.reduceSub, Nat.reduceGT, Nat.reducePow, Nat.reduceLeDiff, Int.reduceToNat]
          refine run_ret ?_
          refine blockK_r ?_
          refine thenK_r ?_
          refine lpK_r ?_
          replace h := bind_some1 h; obtain ⟨z_2627, h, e_z_2627⟩ := h
          obtain rfl := Option.some.inj e_z_2627
          have ex_z_2627 := hxx_2623 _ rfl
          subst ex_z_2627
          obtain rfl := Option.some.inj hj_2621
          refine blockK_r ?_
          refine joinK_r ?_
          replace h := bind_some1 h; obtain ⟨z_2626, h, e_z_2626⟩ := h
          obtain rfl := Option.some.inj e_z_2626
          obtain rfl := Option.some.inj hj_2609
          obtain rfl := Option.some.inj h
          refine ret_ok (.inr rfl) ?_
          simp only [go_sem, reduceIte, Nat.reduceLT, Nat.reduceEqDiff, Nat.reduceAdd, Nat.reduceBEq, Nat.reduceMul, Nat.reduceSub, Nat.reduceGT, Nat.reducePow, Nat.reduceLeDiff, Int.reduceToNat]
        · replace h := ite_f h hb
          refine run_skip ?_
          refine blockK_n ?_
          refine thenK_n ?_
          refine run_textE0 hE wk_lp [0, 1, 5] (fr' := [(0, .sl false (L (cSl cU8) a_2587)), (1, .sl false (L (cSl cU8) b_2588)), (5, i64 ((w64 (i_2614 + 1))))]) (σ' := []) ⟨_, orcs_nil, ?_⟩ ?_
          · simp only [go_sem, reduceIte, Nat.reduceLT, Nat.reduceEqDiff, Nat.reduceAdd, Nat.reduceBEq, Nat.reduceMul, Nat.reduceSub, Nat.reduceGT, Nat.reducePow, Nat.reduceLeDiff, Int.reduceToNat]
          obtain rfl := Option.some.inj h
          exact lpK_n ((w64 (i_2614 + 1))) rfl (weak_sel [] (by decide) rfl (by simp only [go_sem, reduceIte, Nat.reduceLT, Nat.reduceEqDiff, Nat.reduceAdd, Nat.reduceBEq, Nat.reduceMul, Nat.reduceSub, Nat.reduceGT, Nat.reducePow, Nat.reduceLeDiff, Int.reduceToNat]) (by simp only [go_sem, reduceIte, Nat.reduceLT, Nat.reduceEqDiff, Nat.reduceAdd, Nat.reduceBEq, Nat.reduceMul, Nat.reduceSub, Nat.reduceGT, Nat.reducePow, Nat.reduceLeDiff, Int.reduceToNat]))
      · replace h := ite_f h hb
        refine run_exit ?_
        refine thenK_x ?_
        obtain rfl := Option.some.inj h
        have ex_x_2619 := hxx_2623 _ rfl
        subst ex_x_2619
        have h := hj_2621; clear hj_2621
        refine lpK_x ?_
        refine blockK_x ?_
        obtain rfl := Option.some.inj h
        exact joinK_n (()) rfl ((weak_sel (l' := []) (σ' := []) [] (by decide) rfl (by simp only [go_sem, reduceIte, Nat.reduceLT, Nat.reduceEqDiff, Nat.reduceAdd, Nat.reduceBEq, Nat.reduceMul, Nat.reduceSub, Nat.reduceGT, Nat.reducePow, Nat.reduceLeDiff, Int.reduceToNat]) (by simp only [go_sem, reduceIte, Nat.reduceLT, Nat.reduceEqDiff, Nat.reduceAdd, Nat.reduceBEq, Nat.reduceMul, Nat.reduceSub, Nat.reduceGT, Nat.reducePow, Nat.reduceLeDiff, Int.reduceToNat])).trans (weak_sel [] (by decide) rfl (by simp only [go_sem, reduceIte, Nat.reduceLT, Nat.reduceEqDiff, Nat.reduceAdd, Nat.reduceBEq, Nat.reduceMul, Nat.reduceSub, Nat.reduceGT, Nat.reducePow, Nat.reduceLeDiff, Int.reduceToNat]) (by simp only [go_sem, reduceIte, Nat.reduceLT, Nat.reduceEqDiff, Nat.reduceAdd, Nat.reduceBEq, Nat.reduceMul, Nat.reduceSub, Nat.reduceGT, Nat.reducePow, Nat.reduceLeDiff, Int.reduceToNat])))
    rintro ⟨⟩ rfl
    have h := hj_2609; clear hj_2609
    refine run_textE hE [4] (fr' := [(4, .bool true)]) (σ' := []) ⟨_, orcs_nil, ?_⟩ ?_
    · simp only [go_sem, reduceIte, Nat.reduceLT, Nat.reduceEqDiff, Nat.reduceAdd, Nat.reduceBEq, Nat.reduceMul, Nat.reduceSub, Nat.reduceGT, Nat.reducePow, Nat.reduceLeDiff, Int.reduceToNat]
    refine run_ret ?_
    obtain rfl := Option.some.inj h
    refine ret_ok (.inr rfl) ?_
    simp only [go_sem, reduceIte, Nat.reduceLT, Nat.reduceEqDiff, Nat.reduceAdd, Nat.reduceBEq, Nat.reduceMul, Nat.reduceSub, Nat.reduceGT, Nat.reducePow, Nat.reduceLeDiff, Int.reduceToNat]

end Go.Proofs.Ytneejmndnihaoaa
