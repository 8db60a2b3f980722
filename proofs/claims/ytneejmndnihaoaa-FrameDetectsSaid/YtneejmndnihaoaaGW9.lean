/-
  The functions compute just that.
-/
import Derived.Test.YtneejmndnihaoaaGW8
import Derived.KernelRfl
namespace Go.Proofs.Ytneejmndnihaoaa
open Go.Rv
set_option linter.unusedVariables false
set_option linter.unusedSimpArgs false

theorem law10_FrameFeedMatchesReference_con {d_4340 : Api_Deframer} {b_4341 : List UInt8} {r : Bool} (h : law10_FrameFeedMatchesReference d_4340 b_4341 = some r) : Con B 4 [.agg [.sl false (L cU8 d_4340.Rest), .bool d_4340.In, .bool d_4340.Escape, .bool d_4340.Bad], .sl false (L cU8 b_4341)] [] (fun r' σ' => r' = .bool r ∧ σ' = []) := by
  refine con_walk (N := 40) (rs := [.tmp 4]) ok Try.func4 rfl (by decide +kernel) rfl rfl (Nat.le_of_ble_eq_true rfl) (fun F => ?_)
  have hE := ok.env F
  unfold law10_FrameFeedMatchesReference at h
  show Run (B.env F) 0 _ ⟨asFr 40 [(0, .agg [.sl false (L cU8 d_4340.Rest), .bool d_4340.In, .bool d_4340.Escape, .bool d_4340.Bad]), (1, .sl false (L cU8 b_4341))], []⟩ _
  refine run_textE hE [1, 2] (fr' := [(1, .sl false (L cU8 b_4341)), (2, .ref 0 0)]) (σ' := [.box [.sl false (L cU8 d_4340.Rest), .bool d_4340.In, .bool d_4340.Escape, .bool d_4340.Bad] false]) ⟨_, orcs_nil, ?_⟩ ?_
  · simp only [go_sem, reduceIte, Nat.reduceLT, Nat.reduceEqDiff, Nat.reduceAdd, Nat.reduceBEq, Nat.reduceMul, Nat.reduceSub, Nat.reduceGT, Nat.reducePow, Nat.reduceLeDiff, Int.reduceToNat]
  refine run_seq ?_
  replace h := bind_some1 h; obtain ⟨y_4342, hy_4343, h⟩ := h
  refine run_textE hE [1, 2, 12] (fr' := [(1, .sl false (L cU8 b_4341)), (2, .ref 0 0), (12, .bool ((!y_4342)))]) (σ' := [.box [.sl false (L cU8 d_4340.Rest), .bool d_4340.In, .bool d_4340.Escape, .bool d_4340.Bad] false]) ⟨_, orcs_ok (l := [(11, 10, [], .bool y_4342)]) ⟨law10_sane_con hy_4343, trivial⟩, ?_⟩ ?_
  · simp only [go_sem, reduceIte, Nat.reduceLT, Nat.reduceEqDiff, Nat.reduceAdd, Nat.reduceBEq, Nat.reduceMul, Nat.reduceSub, Nat.reduceGT, Nat.reducePow, Nat.reduceLeDiff, Int.reduceToNat]
  refine run_condL (b := (!y_4342)) rfl (by decide) (fun hb => ?_) (fun hb => ?_)
  · replace h := ite_t h hb
    refine run_textE hE [4] (fr' := [(4, .bool false)]) (σ' := [.box [.sl false (L cU8 d_4340.Rest), .bool d_4340.In, .bool d_4340.Escape, .bool d_4340.Bad] false]) ⟨_, orcs_nil, ?_⟩ ?_
    · simp only [go_sem, reduceIte, Nat.reduceLT, Nat.reduceEqDiff, Nat.reduceAdd, Nat.reduceBEq, Nat.reduceMul, Nat.reduceSub, Nat.reduceGT, Nat.reducePow, Nat.reduceLeDiff, Int.reduceToNat]
    refine run_ret ?_
    refine thenK_r ?_
    obtain rfl := Option.some.inj h
    refine ret_ok (.inr rfl) ?_
    simp only [go_sem, reduceIte, Nat.reduceLT, Nat.reduceEqDiff, Nat.reduceAdd, Nat.reduceBEq, Nat.reduceMul, Nat.reduceSub, Nat.reduceGT, Nat.reducePow, Nat.reduceLeDiff, Int.reduceToNat]
  · replace h := ite_f h hb
    refine run_skip ?_
    refine thenK_n ?_
    replace h := bind_some1 h; obtain ⟨y_4344, hy_4345, h⟩ := h
    refine run_textE hE [1, 2, 5, 6, 7] (fr' := [(1, .sl false (L cU8 b_4341)), (2, .ref 0 0), (5, .ref 1 0), (6, .sl false (L (cSl cU8) y_4344.2.1)), (7, i64 y_4344.2.2)]) (σ' := [.box [.sl false (L cU8 d_4340.Rest), .bool d_4340.In, .bool d_4340.Escape, .bool d_4340.Bad] false, .box [.sl false (L cU8 y_4344.1.Rest), .bool y_4344.1.In, .bool y_4344.1.Escape, .bool y_4344.1.Bad] false]) ⟨_, orcs_ok (l := [(16, 15, [.agg [.sl false (L cU8 d_4340.Rest), .bool d_4340.In, .bool d_4340.Escape, .bool d_4340.Bad], .sl false (L cU8 b_4341)], .tup [.agg [.sl false (L cU8 y_4344.1.Rest), .bool y_4344.1.In, .bool y_4344.1.Escape, .bool y_4344.1.Bad], .sl false (L (cSl cU8) y_4344.2.1), i64 y_4344.2.2])]) ⟨frame_Feed_con hy_4345, trivial⟩, ?_⟩ ?_
    · simp only [go_sem, reduceIte, Nat.reduceLT, Nat.reduceEqDiff, Nat.reduceAdd, Nat.reduceBEq, Nat.reduceMul, Nat.reduceSub, Nat.reduceGT, Nat.reducePow, Nat.reduceLeDiff, Int.reduceToNat]
    replace h := bind_some1 h; obtain ⟨y_4346, hy_4347, h⟩ := h
    refine run_textE hE [5, 6, 7, 8, 9, 10] (fr' := [(5, .ref 1 0), (6, .sl false (L (cSl cU8) y_4344.2.1)), (7, i64 y_4344.2.2), (8, .ref 2 0), (9, .sl false (L (cSl cU8) y_4346.2.1)), (10, i64 y_4346.2.2)]) (σ' := [.box [.sl false (L cU8 d_4340.Rest), .bool d_4340.In, .bool d_4340.Escape, .bool d_4340.Bad] false, .box [.sl false (L cU8 y_4344.1.Rest), .bool y_4344.1.In, .bool y_4344.1.Escape, .bool y_4344.1.Bad] false, .box [.sl false (L cU8 y_4346.1.Rest), .bool y_4346.1.In, .bool y_4346.1.Escape, .bool y_4346.1.Bad] false]) ⟨_, orcs_ok (l := [(23, 16, [.agg [.sl false (L cU8 d_4340.Rest), .bool d_4340.In, .bool d_4340.Escape, .bool d_4340.Bad], .sl false (L cU8 b_4341)], .tup [.agg [.sl false (L cU8 y_4346.1.Rest), .bool y_4346.1.In, .bool y_4346.1.Escape, .bool y_4346.1.Bad], .sl false (L (cSl cU8) y_4346.2.1), i64 y_4346.2.2])]) ⟨r10_Feed_con hy_4347, trivial⟩, ?_⟩ ?_
    · simp only [go_sem, reduceIte, Nat.reduceLT, Nat.reduceEqDiff, Nat.reduceAdd, Nat.reduceBEq, Nat.reduceMul, Nat.reduceSub, Nat.reduceGT, Nat.reducePow, Nat.reduceLeDiff, Int.reduceToNat]
    replace h := bind_some1 h; obtain ⟨t_4350, hv_4351, h⟩ := h
    refine run_textW hE [4] (fr' := [(4, .bool t_4350)]) (σ' := []) ?_ ?_
    · replace hv_4351 := bind_some1 hv_4351; obtain ⟨y_4348, hy_4352, hv_4351⟩ := hv_4351
      rcases Bool.eq_false_or_eq_true y_4348 with hb_4353 | hb_4353
      · replace hv_4351 := ite_t hv_4351 hb_4353
        replace hv_4351 := bind_some1 hv_4351; obtain ⟨y_4349, hy_4354, hv_4351⟩ := hv_4351
        rcases Bool.eq_false_or_eq_true y_4349 with hb_4355 | hb_4355
        · replace hv_4351 := ite_t hv_4351 hb_4355
          have e_hv_4351 := Option.some.inj hv_4351; subst e_hv_4351
          exact ⟨_, [(4, .bool ((y_4344.2.2 == y_4346.2.2)))], [.box [.sl false (L cU8 d_4340.Rest), .bool d_4340.In, .bool d_4340.Escape, .bool d_4340.Bad] false, .box [.sl false (L cU8 y_4344.1.Rest), .bool y_4344.1.In, .bool y_4344.1.Escape, .bool y_4344.1.Bad] false, .box [.sl false (L cU8 y_4346.1.Rest), .bool y_4346.1.In, .bool y_4346.1.Escape, .bool y_4346.1.Bad] false], orcs_ok (l := [(29, 17, [.agg [.sl false (L cU8 y_4344.1.Rest), .bool y_4344.1.In, .bool y_4344.1.Escape, .bool y_4344.1.Bad], .agg [.sl false (L cU8 y_4346.1.Rest), .bool y_4346.1.In, .bool y_4346.1.Escape, .bool y_4346.1.Bad]], .bool y_4348), (33, 18, [.sl false (L (cSl cU8) y_4344.2.1), .sl false (L (cSl cU8) y_4346.2.1)], .bool y_4349)]) ⟨r10_SameState_con hy_4352, r10_Same_con hy_4354, trivial⟩, by simp only [go_sem, reduceIte, Nat.reduceLT, Nat.reduceEqDiff, Nat.reduceAdd, Nat.reduceBEq, Nat.reduceMul, Nat.reduceSub, Nat.reduceGT, Nat.reducePow, Nat.reduceLeDiff, Int.reduceToNat, hb_4353, hb_4355], (weak_sel [] (by decide) rfl (by simp only [go_sem, reduceIte, Nat.reduceLT, Nat.reduceEqDiff, Nat.reduceAdd, Nat.reduceBEq, Nat.reduceMul, Nat.reduceSub, Nat.reduceGT, Nat.reducePow, Nat.reduceLeDiff, Int.reduceToNat]) (by simp only [go_sem, reduceIte, Nat.reduceLT, Nat.reduceEqDiff, Nat.reduceAdd, Nat.reduceBEq, Nat.reduceMul, Nat.reduceSub, Nat.reduceGT, Nat.reducePow, Nat.reduceLeDiff, Int.reduceToNat]))⟩
        · replace hv_4351 := ite_f hv_4351 hb_4355
          have e_hv_4351 := Option.some.inj hv_4351; subst e_hv_4351
          exact ⟨_, [(4, .bool false)], [.box [.sl false (L cU8 d_4340.Rest), .bool d_4340.In, .bool d_4340.Escape, .bool d_4340.Bad] false, .box [.sl false (L cU8 y_4344.1.Rest), .bool y_4344.1.In, .bool y_4344.1.Escape, .bool y_4344.1.Bad] false, .box [.sl false (L cU8 y_4346.1.Rest), .bool y_4346.1.In, .bool y_4346.1.Escape, .bool y_4346.1.Bad] false], orcs_ok (l := [(29, 17, [.agg [.sl false (L cU8 y_4344.1.Rest), .bool y_4344.1.In, .bool y_4344.1.Escape, .bool y_4344.1.Bad], .agg [.sl false (L cU8 y_4346.1.Rest), .bool y_4346.1.In, .bool y_4346.1.Escape, .bool y_4346.1.Bad]], .bool y_4348), (33, 18, [.sl false (L (cSl cU8) y_4344.2.1), .sl false (L (cSl cU8) y_4346.2.1)], .bool y_4349)]) ⟨r10_SameState_con hy_4352, r10_Same_con hy_4354, trivial⟩, by simp only [go_sem, reduceIte, Nat.reduceLT, Nat.reduceEqDiff, Nat.reduceAdd, Nat.reduceBEq, Nat.reduceMul, Nat.reduceSub, Nat.reduceGT, Nat.reducePow, Nat.reduceLeDiff, Int.reduceToNat, hb_4353, hb_4355], (weak_sel [] (by decide) rfl (by simp only [go_sem, reduceIte, Nat.reduceLT, Nat.reduceEqDiff, Nat.reduceAdd, Nat.reduceBEq, Nat.reduceMul, Nat.reduceSub, Nat.reduceGT, Nat.reducePow, Nat.reduceLeDiff, Int.reduceToNat]) (by simp only [go_sem, reduceIte, Nat.reduceLT, Nat.reduceEqDiff, Nat.reduceAdd, Nat.reduceBEq, Nat.reduceMul, Nat.reduceSub, Nat.reduceGT, Nat.reducePow, Nat.reduceLeDiff, Int.reduceToNat]))⟩
      · replace hv_4351 := ite_f hv_4351 hb_4353
        have e_hv_4351 := Option.some.inj hv_4351; subst e_hv_4351
        exact ⟨_, [(4, .bool false)], [.box [.sl false (L cU8 d_4340.Rest), .bool d_4340.In, .bool d_4340.Escape, .bool d_4340.Bad] false, .box [.sl false (L cU8 y_4344.1.Rest), .bool y_4344.1.In, .bool y_4344.1.Escape, .bool y_4344.1.Bad] false, .box [.sl false (L cU8 y_4346.1.Rest), .bool y_4346.1.In, .bool y_4346.1.Escape, .bool y_4346.1.Bad] false], orcs_ok (l := [(29, 17, [.agg [.sl false (L cU8 y_4344.1.Rest), .bool y_4344.1.In, .bool y_4344.1.Escape, .bool y_4344.1.Bad], .agg [.sl false (L cU8 y_4346.1.Rest), .bool y_4346.1.In, .bool y_4346.1.Escape, .bool y_4346.1.Bad]], .bool y_4348)]) ⟨r10_SameState_con hy_4352, trivial⟩, by simp only [go_sem, reduceIte, Nat.reduceLT, Nat.reduceEqDiff, Nat.reduceAdd, Nat.reduceBEq, Nat.reduceMul, Nat.reduceSub, Nat.reduceGT, Nat.reducePow, Nat.reduceLeDiff, Int.reduceToNat, hb_4353], (weak_sel [] (by decide) rfl (by simp only [go_sem, reduceIte, Nat.reduceLT, Nat.reduceEqDiff, Nat.reduceAdd, Nat.reduceBEq, Nat.reduceMul, Nat.reduceSub, Nat.reduceGT, Nat.reducePow, Nat.reduceLeDiff, Int.reduceToNat]) (by simp only [go_sem, reduceIte, Nat.reduceLT, Nat.reduceEqDiff, Nat.reduceAdd, Nat.reduceBEq, Nat.reduceMul, Nat.reduceSub, Nat.reduceGT, Nat.reducePow, Nat.reduceLeDiff, Int.reduceToNat]))⟩
    refine run_ret ?_
    obtain rfl := Option.some.inj h
    refine ret_ok (.inr rfl) ?_
    simp only [go_sem, reduceIte, Nat.reduceLT, Nat.reduceEqDiff, Nat.reduceAdd, Nat.reduceBEq, Nat.reduceMul, Nat.reduceSub, Nat.reduceGT, Nat.reducePow, Nat.reduceLeDiff, Int.reduceToNat]

theorem law10_FrameDetects_con {b_4356 : List UInt8} {at_4357 : Int} {by_4358 : Arr UInt8 4} {r : Bool} (h : law10_FrameDetects b_4356 at_4357 by_4358 = some r) : Con B 9 [.sl false (L cU8 b_4356), i64 at_4357, .agg (C1 u8 by_4358.l)] [] (fun r' σ' => r' = .bool r ∧ σ' = []) := by
  refine con_walk (N := 70) (rs := [.tmp 6]) ok Try.func9 rfl (by decide +kernel) rfl rfl (Nat.le_of_ble_eq_true rfl) (fun F => ?_)
  have hE := ok.env F
  unfold law10_FrameDetects at h
  show Run (B.env F) 0 _ ⟨asFr 70 [(0, .sl false (L cU8 b_4356)), (1, i64 at_4357), (2, .agg (C1 u8 by_4358.l))], []⟩ _
  refine run_textE hE [0, 1, 5] (fr' := [(0, .sl false (L cU8 b_4356)), (1, i64 at_4357), (5, .ref 0 0)]) (σ' := [.box (C1 u8 by_4358.l) false]) ⟨_, orcs_nil, ?_⟩ ?_
  · simp only [go_sem, reduceIte, Nat.reduceLT, Nat.reduceEqDiff, Nat.reduceAdd, Nat.reduceBEq, Nat.reduceMul, Nat.reduceSub, Nat.reduceGT, Nat.reducePow, Nat.reduceLeDiff, Int.reduceToNat]
  refine run_seq ?_
  replace h := bind_some1 h; obtain ⟨y_4359, hy_4360, h⟩ := h
  refine run_textE hE [0, 1, 5, 10] (fr' := [(0, .sl false (L cU8 b_4356)), (1, i64 at_4357), (5, .ref 0 0), (10, .bool ((!y_4359)))]) (σ' := [.box (C1 u8 by_4358.l) false]) ⟨_, orcs_ok (l := [(9, 10, [], .bool y_4359)]) ⟨law10_sane_con hy_4360, trivial⟩, ?_⟩ ?_
  · simp only [go_sem, reduceIte, Nat.reduceLT, Nat.reduceEqDiff, Nat.reduceAdd, Nat.reduceBEq, Nat.reduceMul, Nat.reduceSub, Nat.reduceGT, Nat.reducePow, Nat.reduceLeDiff, Int.reduceToNat]
  refine run_condL (b := (!y_4359)) rfl (by decide) (fun hb => ?_) (fun hb => ?_)
  · replace h := ite_t h hb
    refine run_textE hE [6] (fr' := [(6, .bool false)]) (σ' := [.box (C1 u8 by_4358.l) false]) ⟨_, orcs_nil, ?_⟩ ?_
    · simp only [go_sem, reduceIte, Nat.reduceLT, Nat.reduceEqDiff, Nat.reduceAdd, Nat.reduceBEq, Nat.reduceMul, Nat.reduceSub, Nat.reduceGT, Nat.reducePow, Nat.reduceLeDiff, Int.reduceToNat]
    refine run_ret ?_
    refine thenK_r ?_
    obtain rfl := Option.some.inj h
    refine ret_ok (.inr rfl) ?_
    simp only [go_sem, reduceIte, Nat.reduceLT, Nat.reduceEqDiff, Nat.reduceAdd, Nat.reduceBEq, Nat.reduceMul, Nat.reduceSub, Nat.reduceGT, Nat.reducePow, Nat.reduceLeDiff, Int.reduceToNat]
  · replace h := ite_f h hb
    refine run_skip ?_
    refine thenK_n ?_
    refine run_seq ?_
    replace h := bind_some1 h; obtain ⟨t_4361, hv_4362, h⟩ := h
    refine run_textW hE [0, 1, 5, 23] (fr' := [(0, .sl false (L cU8 b_4356)), (1, i64 at_4357), (5, .ref 0 0), (23, .bool t_4361)]) (σ' := [.box (C1 u8 by_4358.l) false]) ?_ ?_
    · rcases Bool.eq_false_or_eq_true ((decide ((b_4356.length : Int) > 8192))) with hb_4363 | hb_4363
      · replace hv_4362 := ite_t hv_4362 hb_4363
        have e_hv_4362 := Option.some.inj hv_4362; subst e_hv_4362
        exact ⟨_, [(0, .sl false (L cU8 b_4356)), (1, i64 at_4357), (5, .ref 0 0), (23, .bool true)], [.box (C1 u8 by_4358.l) false], orcs_nil, by simp only [go_sem, reduceIte, Nat.reduceLT, Nat.reduceEqDiff, Nat.reduceAdd, Nat.reduceBEq, Nat.reduceMul, Nat.reduceSub, Nat.reduceGT, Nat.reducePow, Nat.reduceLeDiff, Int.reduceToNat, hb_4363], (weak_sel [0] (by decide) rfl (by simp only [go_sem, reduceIte, Nat.reduceLT, Nat.reduceEqDiff, Nat.reduceAdd, Nat.reduceBEq, Nat.reduceMul, Nat.reduceSub, Nat.reduceGT, Nat.reducePow, Nat.reduceLeDiff, Int.reduceToNat]) (by simp only [go_sem, reduceIte, Nat.reduceLT, Nat.reduceEqDiff, Nat.reduceAdd, Nat.reduceBEq, Nat.reduceMul, Nat.reduceSub, Nat.reduceGT, Nat.reducePow, Nat.reduceLeDiff, Int.reduceToNat]))⟩
      · replace hv_4362 := ite_f hv_4362 hb_4363
        rcases Bool.eq_false_or_eq_true ((decide (at_4357 < 0))) with hb_4364 | hb_4364
        · replace hv_4362 := ite_t hv_4362 hb_4364
          have e_hv_4362 := Option.some.inj hv_4362; subst e_hv_4362
          exact ⟨_, [(0, .sl false (L cU8 b_4356)), (1, i64 at_4357), (5, .ref 0 0), (23, .bool true)], [.box (C1 u8 by_4358.l) false], orcs_nil, by simp only [go_sem, reduceIte, Nat.reduceLT, Nat.reduceEqDiff, Nat.reduceAdd, Nat.reduceBEq, Nat.reduceMul, Nat.reduceSub, Nat.reduceGT, Nat.reducePow, Nat.reduceLeDiff, Int.reduceToNat, hb_4363, hb_4364], (weak_sel [0] (by decide) rfl (by simp only [go_sem, reduceIte, Nat.reduceLT, Nat.reduceEqDiff, Nat.reduceAdd, Nat.reduceBEq, Nat.reduceMul, Nat.reduceSub, Nat.reduceGT, Nat.reducePow, Nat.reduceLeDiff, Int.reduceToNat]) (by simp only [go_sem, reduceIte, Nat.reduceLT, Nat.reduceEqDiff, Nat.reduceAdd, Nat.reduceBEq, Nat.reduceMul, Nat.reduceSub, Nat.reduceGT, Nat.reducePow, Nat.reduceLeDiff, Int.reduceToNat]))⟩
        · replace hv_4362 := ite_f hv_4362 hb_4364
          have e_hv_4362 := Option.some.inj hv_4362; subst e_hv_4362
          exact ⟨_, [(0, .sl false (L cU8 b_4356)), (1, i64 at_4357), (5, .ref 0 0), (23, .bool ((decide (at_4357 ≥ (b_4356.length : Int)))))], [.box (C1 u8 by_4358.l) false], orcs_nil, by simp only [go_sem, reduceIte, Nat.reduceLT, Nat.reduceEqDiff, Nat.reduceAdd, Nat.reduceBEq, Nat.reduceMul, Nat.reduceSub, Nat.reduceGT, Nat.reducePow, Nat.reduceLeDiff, Int.reduceToNat, hb_4363, hb_4364], (weak_sel [0] (by decide) rfl (by simp only [go_sem, reduceIte, Nat.reduceLT, Nat.reduceEqDiff, Nat.reduceAdd, Nat.reduceBEq, Nat.reduceMul, Nat.reduceSub, Nat.reduceGT, Nat.reducePow, Nat.reduceLeDiff, Int.reduceToNat]) (by simp only [go_sem, reduceIte, Nat.reduceLT, Nat.reduceEqDiff, Nat.reduceAdd, Nat.reduceBEq, Nat.reduceMul, Nat.reduceSub, Nat.reduceGT, Nat.reducePow, Nat.reduceLeDiff, Int.reduceToNat]))⟩
    refine run_condL (b := t_4361) rfl (by decide) (fun hb => ?_) (fun hb => ?_)
    · replace h := ite_t h hb
      refine run_textE hE [6] (fr' := [(6, .bool true)]) (σ' := [.box (C1 u8 by_4358.l) false]) ⟨_, orcs_nil, ?_⟩ ?_
      · simp only [go_sem, reduceIte, Nat.reduceLT, Nat.reduceEqDiff, Nat.reduceAdd, Nat.reduceBEq, Nat.reduceMul, Nat.reduceSub, Nat.reduceGT, Nat.reducePow, Nat.reduceLeDiff, Int.reduceToNat]
      refine run_ret ?_
      refine thenK_r ?_
      obtain rfl := Option.some.inj h
      refine ret_ok (.inr rfl) ?_
      simp only [go_sem, reduceIte, Nat.reduceLT, Nat.reduceEqDiff, Nat.reduceAdd, Nat.reduceBEq, Nat.reduceMul, Nat.reduceSub, Nat.reduceGT, Nat.reducePow, Nat.reduceLeDiff, Int.reduceToNat]
    · replace h := ite_f h hb
      refine run_skip ?_
      refine thenK_n ?_
      replace h := bind_some1 h; obtain ⟨y_4365, hy_4366, h⟩ := h
      refine run_textE hE [0, 1, 5, 7] (fr' := [(0, .sl false (L cU8 b_4356)), (1, i64 at_4357), (5, .ref 0 0), (7, .bs false 1 (y_4365.length) 0 (y_4365.length))]) (σ' := [.box (C1 u8 by_4358.l) false, .buf 1 (L cU8 y_4365) false]) ⟨_, orcs_ok2 (l := []) (m := [(25, 20, [.sl false (L cU8 b_4356), .sl true (L cU8 ([]))], [.box (C1 u8 by_4358.l) false], .bs false 1 (y_4365.length) 0 (y_4365.length), [.box (C1 u8 by_4358.l) false, .buf 1 (L cU8 y_4365) false])]) trivial ⟨(wcon_call (r10_Joined_con hy_4366) [] (by decide) (by simp only [go_sem, reduceIte, Nat.reduceLT, Nat.reduceEqDiff, Nat.reduceAdd, Nat.reduceBEq, Nat.reduceMul, Nat.reduceSub, Nat.reduceGT, Nat.reducePow, Nat.reduceLeDiff, Int.reduceToNat]) (by simp only [go_sem, reduceIte, Nat.reduceLT, Nat.reduceEqDiff, Nat.reduceAdd, Nat.reduceBEq, Nat.reduceMul, Nat.reduceSub, Nat.reduceGT, Nat.reducePow, Nat.reduceLeDiff, Int.reduceToNat]) (by simp only [go_sem, reduceIte, Nat.reduceLT, Nat.reduceEqDiff, Nat.reduceAdd, Nat.reduceBEq, Nat.reduceMul, Nat.reduceSub, Nat.reduceGT, Nat.reducePow, Nat.reduceLeDiff, Int.reduceToNat]) (by simp only [go_sem, reduceIte, Nat.reduceLT, Nat.reduceEqDiff, Nat.reduceAdd, Nat.reduceBEq, Nat.reduceMul, Nat.reduceSub, Nat.reduceGT, Nat.reducePow, Nat.reduceLeDiff, Int.reduceToNat]) (by simp only [go_sem, reduceIte, Nat.reduceLT, Nat.reduceEqDiff, Nat.reduceAdd, Nat.reduceBEq, Nat.reduceMul, Nat.reduceSub, Nat.reduceGT, Nat.reducePow, Nat.reduceLeDiff, Int.reduceToNat])), trivial⟩, ?_⟩ ?_
      · simp only [go_sem, reduceIte, Nat.reduceLT, Nat.reduceEqDiff, Nat.reduceAdd, Nat.reduceBEq, Nat.reduceMul, Nat.reduceSub, Nat.reduceGT, Nat.reducePow, Nat.reduceLeDiff, Int.reduceToNat]
      replace h := bind_some1 h; obtain ⟨j_4397, hA_4398, hj_4399⟩ := h
      refine run_join (fun (v : List UInt8) => (⟨asFr 70 [(0, .sl false (L cU8 b_4356)), (7, .bs false 0 (v.length) 0 (v.length))], [.buf 1 (L cU8 v) false]⟩ : St)) (fun v => v = j_4397) ?_ ?_
      · have h := hA_4398; clear hA_4398
        refine run_textE hE [0, 1, 5, 7, 8] (fr' := [(0, .sl false (L cU8 b_4356)), (1, i64 at_4357), (5, .ref 0 0), (7, .bs false 1 (y_4365.length) 0 (y_4365.length)), (8, i64 0)]) (σ' := [.box (C1 u8 by_4358.l) false, .buf 1 (L cU8 y_4365) false]) ⟨_, orcs_nil, ?_⟩ ?_
        · simp only [go_sem, reduceIte, Nat.reduceLT, Nat.reduceEqDiff, Nat.reduceAdd, Nat.reduceBEq, Nat.reduceMul, Nat.reduceSub, Nat.reduceGT, Nat.reducePow, Nat.reduceLeDiff, Int.reduceToNat]
        refine run_block ?_
        replace h := bind_some1 h; obtain ⟨x_4417, hx_4418, hj_4419⟩ := h
        refine run_loopO hx_4418 (fun (v : Int × List UInt8) => (⟨asFr 70 [(0, .sl false (L cU8 b_4356)), (1, i64 at_4357), (5, .ref 0 0), (7, .bs false 1 (v.2.length) 0 (v.2.length)), (8, i64 v.1)], [.box (C1 u8 by_4358.l) false, .buf 1 (L cU8 v.2) false]⟩ : St)) (weak_sel [0, 1] (by decide) rfl (by simp only [go_sem, reduceIte, Nat.reduceLT, Nat.reduceEqDiff, Nat.reduceAdd, Nat.reduceBEq, Nat.reduceMul, Nat.reduceSub, Nat.reduceGT, Nat.reducePow, Nat.reduceLeDiff, Int.reduceToNat]) (by simp only [go_sem, reduceIte, Nat.reduceLT, Nat.reduceEqDiff, Nat.reduceAdd, Nat.reduceBEq, Nat.reduceMul, Nat.reduceSub, Nat.reduceGT, Nat.reducePow, Nat.reduceLeDiff, Int.reduceToNat])) ?_
        rintro ⟨i_4407, l_4408⟩ o_4420 h hxx_4421
        replace h : law10_FrameDetects_b1 b_4356 at_4357 by_4358 i_4407 l_4408 = some o_4420 := h
        unfold law10_FrameDetects_b1 at h
        refine run_seq ?_
        replace h := bind_some1 h; obtain ⟨t_4422, hv_4423, h⟩ := h
        refine run_textW hE [0, 1, 5, 7, 8, 35] (fr' := [(0, .sl false (L cU8 b_4356)), (1, i64 at_4357), (5, .ref 0 0), (7, .bs false 1 (l_4408.length) 0 (l_4408.length)), (8, i64 i_4407), (35, .bool t_4422)]) (σ' := [.box (C1 u8 by_4358.l) false, .buf 1 (L cU8 l_4408) false]) ?_ ?_
        · rcases Bool.eq_false_or_eq_true ((decide (i_4407 < 4))) with hb_4424 | hb_4424
          · replace hv_4423 := ite_t hv_4423 hb_4424
            have e_hv_4423 := Option.some.inj hv_4423; subst e_hv_4423
            exact ⟨_, [(0, .sl false (L cU8 b_4356)), (1, i64 at_4357), (5, .ref 0 0), (7, .bs false 1 (l_4408.length) 0 (l_4408.length)), (8, i64 i_4407), (35, .bool ((decide ((w64 (at_4357 + i_4407)) < (b_4356.length : Int)))))], [.box (C1 u8 by_4358.l) false, .buf 1 (L cU8 l_4408) false], orcs_nil, by simp only [go_sem, reduceIte, Nat.reduceLT, Nat.reduceEqDiff, Nat.reduceAdd, Nat.reduceBEq, Nat.reduceMul, Nat.reduceSub, Nat.reduceGT, Nat.reducePow, Nat.reduceLeDiff, Int.reduceToNat, hb_4424], (weak_sel [0, 1] (by decide) rfl (by simp only [go_sem, reduceIte, Nat.reduceLT, Nat.reduceEqDiff, Nat.reduceAdd, Nat.reduceBEq, Nat.reduceMul, Nat.reduceSub, Nat.reduceGT, Nat.reducePow, Nat.reduceLeDiff, Int.reduceToNat]) (by simp only [go_sem, reduceIte, Nat.reduceLT, Nat.reduceEqDiff, Nat.reduceAdd, Nat.reduceBEq, Nat.reduceMul, Nat.reduceSub, Nat.reduceGT, Nat.reducePow, Nat.reduceLeDiff, Int.reduceToNat]))⟩
          · replace hv_4423 := ite_f hv_4423 hb_4424
            have e_hv_4423 := Option.some.inj hv_4423; subst e_hv_4423
            exact ⟨_, [(0, .sl false (L cU8 b_4356)), (1, i64 at_4357), (5, .ref 0 0), (7, .bs false 1 (l_4408.length) 0 (l_4408.length)), (8, i64 i_4407), (35, .bool false)], [.box (C1 u8 by_4358.l) false, .buf 1 (L cU8 l_4408) false], orcs_nil, by simp only [go_sem, reduceIte, Nat.reduceLT, Nat.reduceEqDiff, Nat.reduceAdd, Nat.reduceBEq, Nat.reduceMul, Nat.reduceSub, Nat.reduceGT, Nat.reducePow, Nat.reduceLeDiff, Int.reduceToNat, hb_4424], (weak_sel [0, 1] (by decide) rfl (by simp only [go_sem, reduceIte, Nat.reduceLT, Nat.reduceEqDiff, Nat.reduceAdd, Nat.reduceBEq, Nat.reduceMul, Nat.reduceSub, Nat.reduceGT, Nat.reducePow, Nat.reduceLeDiff, Int.reduceToNat]) (by simp only [go_sem, reduceIte, Nat.reduceLT, Nat.reduceEqDiff, Nat.reduceAdd, Nat.reduceBEq, Nat.reduceMul, Nat.reduceSub, Nat.reduceGT, Nat.reducePow, Nat.reduceLeDiff, Int.reduceToNat]))⟩
        refine run_condL (b := t_4422) rfl (by decide) (fun hb => ?_) (fun hb => ?_)
        · replace h := ite_t h hb
          refine run_skip ?_
          refine thenK_n ?_
          refine run_seq ?_
          refine run_block ?_
          replace h := chk_some h; obtain ⟨hc_4425, h⟩ := h
          replace h := chk_some h; obtain ⟨hc_4426, h⟩ := h
          replace h := lt1_some h; obtain ⟨l_4427, hz_4428, h⟩ := h
          refine run_textE0 hE (wk_block wk_then) [0, 1, 5, 7, 8] (fr' := [(0, .sl false (L cU8 b_4356)), (1, i64 at_4357), (5, .ref 0 0), (7, .bs false 1 (l_4427.length) 0 (l_4427.length)), (8, i64 i_4407)]) (σ' := [.box (C1 u8 by_4358.l) false, .buf 1 (L cU8 l_4427) false]) ⟨_, orcs_nil, ?_⟩ ?_
          · subst hz_4428; simp only [go_sem, reduceIte, Nat.reduceLT, Nat.reduceEqDiff, Nat.reduceAdd, Nat.reduceBEq, Nat.reduceMul, Nat.reduceSub, Nat.reduceGT, Nat.reducePow, Nat.reduceLeDiff, Int.reduceToNat, hc_4425, hc_4425.2, lt_le hc_4425.2, hc_4426, hc_4426.2, lt_le hc_4426.2]
          refine blockK_n ?_
          refine thenK_n ?_
          refine run_textE0 hE wk_lp [0, 1, 5, 7, 8] (fr' := [(0, .sl false (L cU8 b_4356)), (1, i64 at_4357), (5, .ref 0 0), (7, .bs false 1 (l_4427.length) 0 (l_4427.length)), (8, i64 ((w64 (i_4407 + 1))))]) (σ' := [.box (C1 u8 by_4358.l) false, .buf 1 (L cU8 l_4427) false]) ⟨_, orcs_nil, ?_⟩ ?_
          · simp only [go_sem, reduceIte, Nat.reduceLT, Nat.reduceEqDiff, Nat.reduceAdd, Nat.reduceBEq, Nat.reduceMul, Nat.reduceSub, Nat.reduceGT, Nat.reducePow, Nat.reduceLeDiff, Int.reduceToNat]
          obtain rfl := Option.some.inj h
          exact lpK_n (((w64 (i_4407 + 1)), l_4427)) rfl (weak_sel [0, 1] (by decide) rfl (by simp only [go_sem, reduceIte, Nat.reduceLT, Nat.reduceEqDiff, Nat.reduceAdd, Nat.reduceBEq, Nat.reduceMul, Nat.reduceSub, Nat.reduceGT, Nat.reducePow, Nat.reduceLeDiff, Int.reduceToNat]) (by simp only [go_sem, reduceIte, Nat.reduceLT, Nat.reduceEqDiff, Nat.reduceAdd, Nat.reduceBEq, Nat.reduceMul, Nat.reduceSub, Nat.reduceGT, Nat.reducePow, Nat.reduceLeDiff, Int.reduceToNat]))
        · replace h := ite_f h hb
          refine run_exit ?_
          refine thenK_x ?_
          obtain rfl := Option.some.inj h
          have ex_x_4417 := hxx_4421 _ rfl
          subst ex_x_4417
          have h := hj_4419; clear hj_4419
          refine lpK_x ?_
          refine blockK_x ?_
          obtain rfl := Option.some.inj h
          exact joinK_n l_4408 rfl ((weak_sel (l' := [(0, .sl false (L cU8 b_4356)), (7, .bs false 0 (l_4408.length) 0 (l_4408.length))]) (σ' := [.buf 1 (L cU8 l_4408) false]) [1] (by decide) rfl (by simp only [go_sem, reduceIte, Nat.reduceLT, Nat.reduceEqDiff, Nat.reduceAdd, Nat.reduceBEq, Nat.reduceMul, Nat.reduceSub, Nat.reduceGT, Nat.reducePow, Nat.reduceLeDiff, Int.reduceToNat]) (by simp only [go_sem, reduceIte, Nat.reduceLT, Nat.reduceEqDiff, Nat.reduceAdd, Nat.reduceBEq, Nat.reduceMul, Nat.reduceSub, Nat.reduceGT, Nat.reducePow, Nat.reduceLeDiff, Int.reduceToNat])).trans (weak_sel [0] (by decide) rfl (by simp only [go_sem, reduceIte, Nat.reduceLT, Nat.reduceEqDiff, Nat.reduceAdd, Nat.reduceBEq, Nat.reduceMul, Nat.reduceSub, Nat.reduceGT, Nat.reducePow, Nat.reduceLeDiff, Int.reduceToNat]) (by simp only [go_sem, reduceIte, Nat.reduceLT, Nat.reduceEqDiff, Nat.reduceAdd, Nat.reduceBEq, Nat.reduceMul, Nat.reduceSub, Nat.reduceGT, Nat.reducePow, Nat.reduceLeDiff, Int.reduceToNat])))
      rintro l_4396 rfl
      have h := hj_4399; clear hj_4399
      refine run_seq ?_
      refine run_textE hE [0, 7, 50] (fr' := [(0, .sl false (L cU8 b_4356)), (7, .bs false 0 (l_4396.length) 0 (l_4396.length)), (50, .bool ((l_4396 == b_4356)))]) (σ' := [.buf 1 (L cU8 l_4396) false]) ⟨_, orcs_nil, ?_⟩ ?_
      · simp only [go_sem, reduceIte, Nat.reduceLT, Nat.reduceEqDiff, Nat.reduceAdd, Nat.reduceBEq, Nat.reduceMul, Nat.reduceSub, Nat.reduceGT, Nat.reducePow, Nat.reduceLeDiff, Int.reduceToNat]
      refine run_condL (b := (l_4396 == b_4356)) rfl (by decide) (fun hb => ?_) (fun hb => ?_)
      · replace h := ite_t h hb
        replace h := bind_some1 h; obtain ⟨y_4429, hy_4431, h⟩ := h
        replace h := bind_some1 h; obtain ⟨y_4430, hy_4432, h⟩ := h
        refine run_textE hE [6] (fr' := [(6, .bool ((y_4429 == y_4430)))]) (σ' := [.buf 1 (L cU8 l_4396) false]) ⟨_, orcs_ok (l := [(52, 13, [.sl false (L cU8 l_4396)], u32 y_4429), (54, 13, [.sl false (L cU8 b_4356)], u32 y_4430)]) ⟨frame_Crc_con hy_4431, frame_Crc_con hy_4432, trivial⟩, ?_⟩ ?_
        · simp only [go_sem, reduceIte, Nat.reduceLT, Nat.reduceEqDiff, Nat.reduceAdd, Nat.reduceBEq, Nat.reduceMul, Nat.reduceSub, Nat.reduceGT, Nat.reducePow, Nat.reduceLeDiff, Int.reduceToNat]
        refine run_ret ?_
        refine thenK_r ?_
        obtain rfl := Option.some.inj h
        refine ret_ok (.inr rfl) ?_
        simp only [go_sem, reduceIte, Nat.reduceLT, Nat.reduceEqDiff, Nat.reduceAdd, Nat.reduceBEq, Nat.reduceMul, Nat.reduceSub, Nat.reduceGT, Nat.reducePow, Nat.reduceLeDiff, Int.reduceToNat]
      · replace h := ite_f h hb
        refine run_skip ?_
        refine thenK_n ?_
        replace h := bind_some1 h; obtain ⟨t_4439, hv_4440, h⟩ := h
        refine run_textW hE [6] (fr' := [(6, .bool t_4439)]) (σ' := []) ?_ ?_
        · replace hv_4440 := bind_some1 hv_4440; obtain ⟨y_4433, hy_4441, hv_4440⟩ := hv_4440
          replace hv_4440 := bind_some1 hv_4440; obtain ⟨y_4434, hy_4442, hv_4440⟩ := hv_4440
          rcases Bool.eq_false_or_eq_true ((y_4433 != y_4434)) with hb_4443 | hb_4443
          · replace hv_4440 := ite_t hv_4440 hb_4443
            replace hv_4440 := bind_some1 hv_4440; obtain ⟨y_4435, hy_4444, hv_4440⟩ := hv_4440
            replace hv_4440 := bind_some1 hv_4440; obtain ⟨y_4436, hy_4445, hv_4440⟩ := hv_4440
            replace hv_4440 := bind_some1 hv_4440; obtain ⟨y_4437, hy_4446, hv_4440⟩ := hv_4440
            replace hv_4440 := bind_some1 hv_4440; obtain ⟨y_4438, hy_4447, hv_4440⟩ := hv_4440
            have e_hv_4440 := Option.some.inj hv_4440; subst e_hv_4440
            exact ⟨_, [(6, .bool y_4438)], [.buf 1 (L cU8 l_4396) true, .buf 1 (L (cSl cU8) (([] : List (List UInt8)))) false], orcs_ok (l := [(57, 13, [.sl false (L cU8 l_4396)], u32 y_4433), (59, 13, [.sl false (L cU8 b_4356)], u32 y_4434), (64, 13, [.sl false (L cU8 b_4356)], u32 y_4435), (65, 22, [.sl false (L cU8 l_4396), u32 y_4435], .sl false (L cU8 y_4436)), (66, 21, [.sl false (L cU8 y_4436)], .sl false (L cU8 y_4437)), (68, 19, [.sl false (L cU8 y_4437), .sl false (L (cSl cU8) (([] : List (List UInt8)))), i64 1], .bool y_4438)]) ⟨frame_Crc_con hy_4441, frame_Crc_con hy_4442, frame_Crc_con hy_4444, r10_Sealed_con hy_4445, r10_Wrapped_con hy_4446, law10_receives_con hy_4447, trivial⟩, by simp only [go_sem, reduceIte, Nat.reduceLT, Nat.reduceEqDiff, Nat.reduceAdd, Nat.reduceBEq, Nat.reduceMul, Nat.reduceSub, Nat.reduceGT, Nat.reducePow, Nat.reduceLeDiff, Int.reduceToNat, hb_4443], (weak_sel [] (by decide) rfl (by simp only [go_sem, reduceIte, Nat.reduceLT, Nat.reduceEqDiff, Nat.reduceAdd, Nat.reduceBEq, Nat.reduceMul, Nat.reduceSub, Nat.reduceGT, Nat.reducePow, Nat.reduceLeDiff, Int.reduceToNat]) (by simp only [go_sem, reduceIte, Nat.reduceLT, Nat.reduceEqDiff, Nat.reduceAdd, Nat.reduceBEq, Nat.reduceMul, Nat.reduceSub, Nat.reduceGT, Nat.reducePow, Nat.reduceLeDiff, Int.reduceToNat]))⟩
          · replace hv_4440 := ite_f hv_4440 hb_4443
            have e_hv_4440 := Option.some.inj hv_4440; subst e_hv_4440
            exact ⟨_, [(6, .bool false)], [.buf 1 (L cU8 l_4396) false], orcs_ok (l := [(57, 13, [.sl false (L cU8 l_4396)], u32 y_4433), (59, 13, [.sl false (L cU8 b_4356)], u32 y_4434)]) ⟨frame_Crc_con hy_4441, frame_Crc_con hy_4442, trivial⟩, by simp only [go_sem, reduceIte, Nat.reduceLT, Nat.reduceEqDiff, Nat.reduceAdd, Nat.reduceBEq, Nat.reduceMul, Nat.reduceSub, Nat.reduceGT, Nat.reducePow, Nat.reduceLeDiff, Int.reduceToNat, hb_4443], (weak_sel [] (by decide) rfl (by simp only [go_sem, reduceIte, Nat.reduceLT, Nat.reduceEqDiff, Nat.reduceAdd, Nat.reduceBEq, Nat.reduceMul, Nat.reduceSub, Nat.reduceGT, Nat.reducePow, Nat.reduceLeDiff, Int.reduceToNat]) (by simp only [go_sem, reduceIte, Nat.reduceLT, Nat.reduceEqDiff, Nat.reduceAdd, Nat.reduceBEq, Nat.reduceMul, Nat.reduceSub, Nat.reduceGT, Nat.reducePow, Nat.reduceLeDiff, Int.reduceToNat]))⟩
        refine run_ret ?_
        obtain rfl := Option.some.inj h
        refine ret_ok (.inr rfl) ?_
        simp only [go_sem, reduceIte, Nat.reduceLT, Nat.reduceEqDiff, Nat.reduceAdd, Nat.reduceBEq, Nat.reduceMul, Nat.reduceSub, Nat.reduceGT, Nat.reducePow, Nat.reduceLeDiff, Int.reduceToNat]

end Go.Proofs.Ytneejmndnihaoaa
