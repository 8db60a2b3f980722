/-
  The functions compute just that.
-/
import Derived.Test.YtneejmndnihaoaaGW8
import Derived.KernelRfl
namespace Go.Proofs.Ytneejmndnihaoaa
open Go.Rv
set_option linter.unusedVariables false
set_option linter.unusedSimpArgs false

theorem law10_FrameDivision_con {d_4242 : Api_Deframer} {a_4243 : List UInt8} {b_4244 : List UInt8} {r : Bool} (h : law10_FrameDivision d_4242 a_4243 b_4244 = some r) : Con B 6 [.agg [.sl false (L cU8 d_4242.Rest), .bool d_4242.In, .bool d_4242.Escape, .bool d_4242.Bad], .sl false (L cU8 a_4243), .sl false (L cU8 b_4244)] [] (fun r' σ' => r' = .bool r ∧ σ' = []) := by
  refine con_walk (N := 64) (rs := [.tmp 6]) ok Try.func6 rfl (by decide +kernel) rfl rfl (Nat.le_of_ble_eq_true rfl) (fun F => ?_)
  have hE := ok.env F
  unfold law10_FrameDivision at h
  show Run (B.env F) 0 _ ⟨asFr 64 [(0, .agg [.sl false (L cU8 d_4242.Rest), .bool d_4242.In, .bool d_4242.Escape, .bool d_4242.Bad]), (1, .sl false (L cU8 a_4243)), (2, .sl false (L cU8 b_4244))], []⟩ _
  refine run_textE hE [1, 2, 3] (fr' := [(1, .sl false (L cU8 a_4243)), (2, .sl false (L cU8 b_4244)), (3, .ref 0 0)]) (σ' := [.box [.sl false (L cU8 d_4242.Rest), .bool d_4242.In, .bool d_4242.Escape, .bool d_4242.Bad] false]) ⟨_, orcs_nil, ?_⟩ ?_
  · simp only [go_sem, reduceIte, Nat.reduceLT, Nat.reduceEqDiff, Nat.reduceAdd, Nat.reduceBEq, Nat.reduceMul, Nat.reduceSub, Nat.reduceGT, Nat.reducePow, Nat.reduceLeDiff, Int.reduceToNat]
  refine run_seq ?_
  replace h := bind_some1 h; obtain ⟨y_4245, hy_4246, h⟩ := h
  refine run_textE hE [1, 2, 3, 18] (fr' := [(1, .sl false (L cU8 a_4243)), (2, .sl false (L cU8 b_4244)), (3, .ref 0 0), (18, .bool ((!y_4245)))]) (σ' := [.box [.sl false (L cU8 d_4242.Rest), .bool d_4242.In, .bool d_4242.Escape, .bool d_4242.Bad] false]) ⟨_, orcs_ok (l := [(17, 10, [], .bool y_4245)]) ⟨law10_sane_con hy_4246, trivial⟩, ?_⟩ ?_
  · simp only [go_sem, reduceIte, Nat.reduceLT, Nat.reduceEqDiff, Nat.reduceAdd, Nat.reduceBEq, Nat.reduceMul, Nat.reduceSub, Nat.reduceGT, Nat.reducePow, Nat.reduceLeDiff, Int.reduceToNat]
  refine run_condL (b := (!y_4245)) rfl (by decide) (fun hb => ?_) (fun hb => ?_)
  · replace h := ite_t h hb
    refine run_textE hE [6] (fr' := [(6, .bool false)]) (σ' := [.box [.sl false (L cU8 d_4242.Rest), .bool d_4242.In, .bool d_4242.Escape, .bool d_4242.Bad] false]) ⟨_, orcs_nil, ?_⟩ ?_
    · simp only [go_sem, reduceIte, Nat.reduceLT, Nat.reduceEqDiff, Nat.reduceAdd, Nat.reduceBEq, Nat.reduceMul, Nat.reduceSub, Nat.reduceGT, Nat.reducePow, Nat.reduceLeDiff, Int.reduceToNat]
    refine run_ret ?_
    refine thenK_r ?_
    obtain rfl := Option.some.inj h
    refine ret_ok (.inr rfl) ?_
    simp only [go_sem, reduceIte, Nat.reduceLT, Nat.reduceEqDiff, Nat.reduceAdd, Nat.reduceBEq, Nat.reduceMul, Nat.reduceSub, Nat.reduceGT, Nat.reducePow, Nat.reduceLeDiff, Int.reduceToNat]
  · replace h := ite_f h hb
    refine run_skip ?_
    refine thenK_n ?_
    replace h := bind_some1 h; obtain ⟨y_4247, hy_4249, h⟩ := h
    replace h := bind_some1 h; obtain ⟨y_4248, hy_4250, h⟩ := h
    refine run_drawE hE mixed [[], [], [], [1, 2], [0, 1, 2, 3], [0, 1, 2, 3, 4], [0, 1, 2, 3, 4, 5], [0, 1, 2, 3, 4, 5], [0, 1, 2, 3, 4, 5], [], [0, 1, 2, 3, 4, 5, 6, 9], [0, 1, 2, 3, 4, 5, 6, 7, 9, 10], [0, 1, 2, 3, 4, 5, 6, 7, 8, 9, 10, 11]] (by kernel_rfl) (by kernel_rfl) [1, 2, 3, 7, 8, 9] (fr' := [(1, .sl false (L cU8 a_4243)), (2, .sl false (L cU8 b_4244)), (3, .ref 0 0), (7, .ref 1 0), (8, .sl false (L (cSl cU8) y_4248.2.1)), (9, i64 y_4248.2.2)]) (σ' := [.box [.sl false (L cU8 d_4242.Rest), .bool d_4242.In, .bool d_4242.Escape, .bool d_4242.Bad] false, .box [.sl false (L cU8 y_4248.1.Rest), .bool y_4248.1.In, .bool y_4248.1.Escape, .bool y_4248.1.Bad] false]) ⟨_, orcs_ok (l := [(23, 20, [.sl false (L cU8 a_4243), .sl false (L cU8 b_4244)], .sl false (L cU8 y_4247)), (24, 15, [.agg [.sl false (L cU8 d_4242.Rest), .bool d_4242.In, .bool d_4242.Escape, .bool d_4242.Bad], .sl false (L cU8 y_4247)], .tup [.agg [.sl false (L cU8 y_4248.1.Rest), .bool y_4248.1.In, .bool y_4248.1.Escape, .bool y_4248.1.Bad], .sl false (L (cSl cU8) y_4248.2.1), i64 y_4248.2.2])]) ⟨r10_Joined_con hy_4249, frame_Feed_con hy_4250, trivial⟩, ?_⟩ ?_
    · simp only [go_sem, reduceIte, Nat.reduceLT, Nat.reduceEqDiff, Nat.reduceAdd, Nat.reduceBEq, Nat.reduceMul, Nat.reduceSub, Nat.reduceGT, Nat.reducePow, Nat.reduceLeDiff, Int.reduceToNat]
    replace h := bind_some1 h; obtain ⟨y_4251, hy_4252, h⟩ := h
    refine run_textE hE [2, 7, 8, 9, 10, 11, 12] (fr' := [(2, .sl false (L cU8 b_4244)), (7, .ref 1 0), (8, .sl false (L (cSl cU8) y_4248.2.1)), (9, i64 y_4248.2.2), (10, .ref 2 0), (11, .sl false (L (cSl cU8) y_4251.2.1)), (12, i64 y_4251.2.2)]) (σ' := [.box [.sl false (L cU8 d_4242.Rest), .bool d_4242.In, .bool d_4242.Escape, .bool d_4242.Bad] false, .box [.sl false (L cU8 y_4248.1.Rest), .bool y_4248.1.In, .bool y_4248.1.Escape, .bool y_4248.1.Bad] false, .box [.sl false (L cU8 y_4251.1.Rest), .bool y_4251.1.In, .bool y_4251.1.Escape, .bool y_4251.1.Bad] false]) ⟨_, orcs_ok (l := [(31, 15, [.agg [.sl false (L cU8 d_4242.Rest), .bool d_4242.In, .bool d_4242.Escape, .bool d_4242.Bad], .sl false (L cU8 a_4243)], .tup [.agg [.sl false (L cU8 y_4251.1.Rest), .bool y_4251.1.In, .bool y_4251.1.Escape, .bool y_4251.1.Bad], .sl false (L (cSl cU8) y_4251.2.1), i64 y_4251.2.2])]) ⟨frame_Feed_con hy_4252, trivial⟩, ?_⟩ ?_
    · simp only [go_sem, reduceIte, Nat.reduceLT, Nat.reduceEqDiff, Nat.reduceAdd, Nat.reduceBEq, Nat.reduceMul, Nat.reduceSub, Nat.reduceGT, Nat.reducePow, Nat.reduceLeDiff, Int.reduceToNat]
    replace h := bind_some1 h; obtain ⟨y_4253, hy_4254, h⟩ := h
    refine run_textE hE [7, 8, 9, 11, 12, 13, 14, 15] (fr' := [(7, .ref 1 0), (8, .sl false (L (cSl cU8) y_4248.2.1)), (9, i64 y_4248.2.2), (11, .sl false (L (cSl cU8) y_4251.2.1)), (12, i64 y_4251.2.2), (13, .ref 3 0), (14, .sl false (L (cSl cU8) y_4253.2.1)), (15, i64 y_4253.2.2)]) (σ' := [.box [.sl false (L cU8 d_4242.Rest), .bool d_4242.In, .bool d_4242.Escape, .bool d_4242.Bad] false, .box [.sl false (L cU8 y_4248.1.Rest), .bool y_4248.1.In, .bool y_4248.1.Escape, .bool y_4248.1.Bad] false, .box [.sl false (L cU8 y_4251.1.Rest), .bool y_4251.1.In, .bool y_4251.1.Escape, .bool y_4251.1.Bad] false, .box [.sl false (L cU8 y_4253.1.Rest), .bool y_4253.1.In, .bool y_4253.1.Escape, .bool y_4253.1.Bad] false]) ⟨_, orcs_ok (l := [(38, 15, [.agg [.sl false (L cU8 y_4251.1.Rest), .bool y_4251.1.In, .bool y_4251.1.Escape, .bool y_4251.1.Bad], .sl false (L cU8 b_4244)], .tup [.agg [.sl false (L cU8 y_4253.1.Rest), .bool y_4253.1.In, .bool y_4253.1.Escape, .bool y_4253.1.Bad], .sl false (L (cSl cU8) y_4253.2.1), i64 y_4253.2.2])]) ⟨frame_Feed_con hy_4254, trivial⟩, ?_⟩ ?_
    · simp only [go_sem, reduceIte, Nat.reduceLT, Nat.reduceEqDiff, Nat.reduceAdd, Nat.reduceBEq, Nat.reduceMul, Nat.reduceSub, Nat.reduceGT, Nat.reducePow, Nat.reduceLeDiff, Int.reduceToNat]
    replace h := lt1_some h; obtain ⟨l_4255, hz_4256, h⟩ := h
    refine run_textE hE [7, 8, 9, 11, 12, 13, 14, 15, 16] (fr' := [(7, .ref 1 0), (8, .sl false (L (cSl cU8) y_4248.2.1)), (9, i64 y_4248.2.2), (11, .sl false (L (cSl cU8) y_4251.2.1)), (12, i64 y_4251.2.2), (13, .ref 3 0), (14, .sl false (L (cSl cU8) y_4253.2.1)), (15, i64 y_4253.2.2), (16, .bs true 4 (l_4255.length) 0 (l_4255.length))]) (σ' := [.box [.sl false (L cU8 d_4242.Rest), .bool d_4242.In, .bool d_4242.Escape, .bool d_4242.Bad] false, .box [.sl false (L cU8 y_4248.1.Rest), .bool y_4248.1.In, .bool y_4248.1.Escape, .bool y_4248.1.Bad] false, .box [.sl false (L cU8 y_4251.1.Rest), .bool y_4251.1.In, .bool y_4251.1.Escape, .bool y_4251.1.Bad] false, .box [.sl false (L cU8 y_4253.1.Rest), .bool y_4253.1.In, .bool y_4253.1.Escape, .bool y_4253.1.Bad] false, .buf 1 (L (cSl cU8) l_4255) false]) ⟨_, orcs_nil, ?_⟩ ?_
    · subst hz_4256; simp only [go_sem, reduceIte, Nat.reduceLT, Nat.reduceEqDiff, Nat.reduceAdd, Nat.reduceBEq, Nat.reduceMul, Nat.reduceSub, Nat.reduceGT, Nat.reducePow, Nat.reduceLeDiff, Int.reduceToNat]
    replace h := chk_some h; obtain ⟨hc_4257, h⟩ := h
    replace h := lt1_some h; obtain ⟨l_4258, hz_4259, h⟩ := h
    refine run_textE hE [7, 8, 9, 12, 13, 14, 15, 16] (fr' := [(7, .ref 1 0), (8, .sl false (L (cSl cU8) y_4248.2.1)), (9, i64 y_4248.2.2), (12, i64 y_4251.2.2), (13, .ref 3 0), (14, .sl false (L (cSl cU8) y_4253.2.1)), (15, i64 y_4253.2.2), (16, .bs false 4 (l_4258.length) 0 (l_4258.length))]) (σ' := [.box [.sl false (L cU8 d_4242.Rest), .bool d_4242.In, .bool d_4242.Escape, .bool d_4242.Bad] false, .box [.sl false (L cU8 y_4248.1.Rest), .bool y_4248.1.In, .bool y_4248.1.Escape, .bool y_4248.1.Bad] false, .box [.sl false (L cU8 y_4251.1.Rest), .bool y_4251.1.In, .bool y_4251.1.Escape, .bool y_4251.1.Bad] false, .box [.sl false (L cU8 y_4253.1.Rest), .bool y_4253.1.In, .bool y_4253.1.Escape, .bool y_4253.1.Bad] false, .buf 1 (L (cSl cU8) l_4258) false]) ⟨_, orcs_nil, ?_⟩ ?_
    · subst hz_4259; simp only [go_sem, reduceIte, Nat.reduceLT, Nat.reduceEqDiff, Nat.reduceAdd, Nat.reduceBEq, Nat.reduceMul, Nat.reduceSub, Nat.reduceGT, Nat.reducePow, Nat.reduceLeDiff, Int.reduceToNat, hc_4257]
    replace h := chk_some h; obtain ⟨hc_4260, h⟩ := h
    replace h := lt1_some h; obtain ⟨l_4261, hz_4262, h⟩ := h
    refine run_textE hE [7, 8, 9, 12, 13, 15, 16] (fr' := [(7, .ref 1 0), (8, .sl false (L (cSl cU8) y_4248.2.1)), (9, i64 y_4248.2.2), (12, i64 y_4251.2.2), (13, .ref 3 0), (15, i64 y_4253.2.2), (16, .bs false 4 (l_4261.length) 0 (l_4261.length))]) (σ' := [.box [.sl false (L cU8 d_4242.Rest), .bool d_4242.In, .bool d_4242.Escape, .bool d_4242.Bad] false, .box [.sl false (L cU8 y_4248.1.Rest), .bool y_4248.1.In, .bool y_4248.1.Escape, .bool y_4248.1.Bad] false, .box [.sl false (L cU8 y_4251.1.Rest), .bool y_4251.1.In, .bool y_4251.1.Escape, .bool y_4251.1.Bad] false, .box [.sl false (L cU8 y_4253.1.Rest), .bool y_4253.1.In, .bool y_4253.1.Escape, .bool y_4253.1.Bad] false, .buf 1 (L (cSl cU8) l_4261) false]) ⟨_, orcs_nil, ?_⟩ ?_
    · subst hz_4262; simp only [go_sem, reduceIte, Nat.reduceLT, Nat.reduceEqDiff, Nat.reduceAdd, Nat.reduceBEq, Nat.reduceMul, Nat.reduceSub, Nat.reduceGT, Nat.reducePow, Nat.reduceLeDiff, Int.reduceToNat, hc_4260]
    replace h := bind_some1 h; obtain ⟨t_4265, hv_4266, h⟩ := h
    refine run_textW hE [6] (fr' := [(6, .bool t_4265)]) (σ' := []) ?_ ?_
    · replace hv_4266 := bind_some1 hv_4266; obtain ⟨y_4263, hy_4267, hv_4266⟩ := hv_4266
      rcases Bool.eq_false_or_eq_true y_4263 with hb_4268 | hb_4268
      · replace hv_4266 := ite_t hv_4266 hb_4268
        replace hv_4266 := bind_some1 hv_4266; obtain ⟨y_4264, hy_4269, hv_4266⟩ := hv_4266
        rcases Bool.eq_false_or_eq_true y_4264 with hb_4270 | hb_4270
        · replace hv_4266 := ite_t hv_4266 hb_4270
          have e_hv_4266 := Option.some.inj hv_4266; subst e_hv_4266
          exact ⟨_, [(6, .bool ((y_4248.2.2 == (w64 (y_4251.2.2 + y_4253.2.2)))))], [.box [.sl false (L cU8 d_4242.Rest), .bool d_4242.In, .bool d_4242.Escape, .bool d_4242.Bad] false, .box [.sl false (L cU8 y_4248.1.Rest), .bool y_4248.1.In, .bool y_4248.1.Escape, .bool y_4248.1.Bad] false, .box [.sl false (L cU8 y_4251.1.Rest), .bool y_4251.1.In, .bool y_4251.1.Escape, .bool y_4251.1.Bad] false, .box [.sl false (L cU8 y_4253.1.Rest), .bool y_4253.1.In, .bool y_4253.1.Escape, .bool y_4253.1.Bad] false, .buf 1 (L (cSl cU8) l_4261) false], orcs_ok (l := [(51, 17, [.agg [.sl false (L cU8 y_4248.1.Rest), .bool y_4248.1.In, .bool y_4248.1.Escape, .bool y_4248.1.Bad], .agg [.sl false (L cU8 y_4253.1.Rest), .bool y_4253.1.In, .bool y_4253.1.Escape, .bool y_4253.1.Bad]], .bool y_4263), (55, 18, [.sl false (L (cSl cU8) y_4248.2.1), .sl false (L (cSl cU8) l_4261)], .bool y_4264)]) ⟨r10_SameState_con hy_4267, r10_Same_con hy_4269, trivial⟩, by simp only [go_sem, reduceIte, Nat.reduceLT, Nat.reduceEqDiff, Nat.reduceAdd, Nat.reduceBEq, Nat.reduceMul, Nat.reduceSub, Nat.reduceGT, Nat.reducePow, Nat.reduceLeDiff, Int.reduceToNat, hb_4268, hb_4270], (weak_sel [] (by decide) rfl (by simp only [go_sem, reduceIte, Nat.reduceLT, Nat.reduceEqDiff, Nat.reduceAdd, Nat.reduceBEq, Nat.reduceMul, Nat.reduceSub, Nat.reduceGT, Nat.reducePow, Nat.reduceLeDiff, Int.reduceToNat]) (by simp only [go_sem, reduceIte, Nat.reduceLT, Nat.reduceEqDiff, Nat.reduceAdd, Nat.reduceBEq, Nat.reduceMul, Nat.reduceSub, Nat.reduceGT, Nat.reducePow, Nat.reduceLeDiff, Int.reduceToNat]))⟩
        · replace hv_4266 := ite_f hv_4266 hb_4270
          have e_hv_4266 := Option.some.inj hv_4266; subst e_hv_4266
          exact ⟨_, [(6, .bool false)], [.box [.sl false (L cU8 d_4242.Rest), .bool d_4242.In, .bool d_4242.Escape, .bool d_4242.Bad] false, .box [.sl false (L cU8 y_4248.1.Rest), .bool y_4248.1.In, .bool y_4248.1.Escape, .bool y_4248.1.Bad] false, .box [.sl false (L cU8 y_4251.1.Rest), .bool y_4251.1.In, .bool y_4251.1.Escape, .bool y_4251.1.Bad] false, .box [.sl false (L cU8 y_4253.1.Rest), .bool y_4253.1.In, .bool y_4253.1.Escape, .bool y_4253.1.Bad] false, .buf 1 (L (cSl cU8) l_4261) false], orcs_ok (l := [(51, 17, [.agg [.sl false (L cU8 y_4248.1.Rest), .bool y_4248.1.In, .bool y_4248.1.Escape, .bool y_4248.1.Bad], .agg [.sl false (L cU8 y_4253.1.Rest), .bool y_4253.1.In, .bool y_4253.1.Escape, .bool y_4253.1.Bad]], .bool y_4263), (55, 18, [.sl false (L (cSl cU8) y_4248.2.1), .sl false (L (cSl cU8) l_4261)], .bool y_4264)]) ⟨r10_SameState_con hy_4267, r10_Same_con hy_4269, trivial⟩, by simp only [go_sem, reduceIte, Nat.reduceLT, Nat.reduceEqDiff, Nat.reduceAdd, Nat.reduceBEq, Nat.reduceMul, Nat.reduceSub, Nat.reduceGT, Nat.reducePow, Nat.reduceLeDiff, Int.reduceToNat, hb_4268, hb_4270], (weak_sel [] (by decide) rfl (by simp only [go_sem, reduceIte, Nat.reduceLT, Nat.reduceEqDiff, Nat.reduceAdd, Nat.reduceBEq, Nat.reduceMul, Nat.reduceSub, Nat.reduceGT, Nat.reducePow, Nat.reduceLeDiff, Int.reduceToNat]) (by simp only [go_sem, reduceIte, Nat.reduceLT, Nat.reduceEqDiff, Nat.reduceAdd, Nat.reduceBEq, Nat.reduceMul, Nat.reduceSub, Nat.reduceGT, Nat.reducePow, Nat.reduceLeDiff, Int.reduceToNat]))⟩
      · replace hv_4266 := ite_f hv_4266 hb_4268
        have e_hv_4266 := Option.some.inj hv_4266; subst e_hv_4266
        exact ⟨_, [(6, .bool false)], [.box [.sl false (L cU8 d_4242.Rest), .bool d_4242.In, .bool d_4242.Escape, .bool d_4242.Bad] false, .box [.sl false (L cU8 y_4248.1.Rest), .bool y_4248.1.In, .bool y_4248.1.Escape, .bool y_4248.1.Bad] false, .box [.sl false (L cU8 y_4251.1.Rest), .bool y_4251.1.In, .bool y_4251.1.Escape, .bool y_4251.1.Bad] false, .box [.sl false (L cU8 y_4253.1.Rest), .bool y_4253.1.In, .bool y_4253.1.Escape, .bool y_4253.1.Bad] false, .buf 1 (L (cSl cU8) l_4261) false], orcs_ok (l := [(51, 17, [.agg [.sl false (L cU8 y_4248.1.Rest), .bool y_4248.1.In, .bool y_4248.1.Escape, .bool y_4248.1.Bad], .agg [.sl false (L cU8 y_4253.1.Rest), .bool y_4253.1.In, .bool y_4253.1.Escape, .bool y_4253.1.Bad]], .bool y_4263)]) ⟨r10_SameState_con hy_4267, trivial⟩, by simp only [go_sem, reduceIte, Nat.reduceLT, Nat.reduceEqDiff, Nat.reduceAdd, Nat.reduceBEq, Nat.reduceMul, Nat.reduceSub, Nat.reduceGT, Nat.reducePow, Nat.reduceLeDiff, Int.reduceToNat, hb_4268], (weak_sel [] (by decide) rfl (by simp only [go_sem, reduceIte, Nat.reduceLT, Nat.reduceEqDiff, Nat.reduceAdd, Nat.reduceBEq, Nat.reduceMul, Nat.reduceSub, Nat.reduceGT, Nat.reducePow, Nat.reduceLeDiff, Int.reduceToNat]) (by simp only [go_sem, reduceIte, Nat.reduceLT, Nat.reduceEqDiff, Nat.reduceAdd, Nat.reduceBEq, Nat.reduceMul, Nat.reduceSub, Nat.reduceGT, Nat.reducePow, Nat.reduceLeDiff, Int.reduceToNat]))⟩
    refine run_ret ?_
    obtain rfl := Option.some.inj h
    refine ret_ok (.inr rfl) ?_
    simp only [go_sem, reduceIte, Nat.reduceLT, Nat.reduceEqDiff, Nat.reduceAdd, Nat.reduceBEq, Nat.reduceMul, Nat.reduceSub, Nat.reduceGT, Nat.reducePow, Nat.reduceLeDiff, Int.reduceToNat]

theorem law10_FrameResynchronizes_con {d_4271 : Api_Deframer} {before_4272 : List UInt8} {b_4273 : List UInt8} {r : Bool} (h : law10_FrameResynchronizes d_4271 before_4272 b_4273 = some r) : Con B 7 [.agg [.sl false (L cU8 d_4271.Rest), .bool d_4271.In, .bool d_4271.Escape, .bool d_4271.Bad], .sl false (L cU8 before_4272), .sl false (L cU8 b_4273)] [] (fun r' σ' => r' = .bool r ∧ σ' = []) := by
  refine con_walk (N := 83) (rs := [.tmp 6]) ok Try.func7 rfl (by decide +kernel) rfl rfl (Nat.le_of_ble_eq_true rfl) (fun F => ?_)
  have hE := ok.env F
  unfold law10_FrameResynchronizes at h
  show Run (B.env F) 0 _ ⟨asFr 83 [(0, .agg [.sl false (L cU8 d_4271.Rest), .bool d_4271.In, .bool d_4271.Escape, .bool d_4271.Bad]), (1, .sl false (L cU8 before_4272)), (2, .sl false (L cU8 b_4273))], []⟩ _
  refine run_textE hE [1, 2, 3] (fr' := [(1, .sl false (L cU8 before_4272)), (2, .sl false (L cU8 b_4273)), (3, .ref 0 0)]) (σ' := [.box [.sl false (L cU8 d_4271.Rest), .bool d_4271.In, .bool d_4271.Escape, .bool d_4271.Bad] false]) ⟨_, orcs_nil, ?_⟩ ?_
  · simp only [go_sem, reduceIte, Nat.reduceLT, Nat.reduceEqDiff, Nat.reduceAdd, Nat.reduceBEq, Nat.reduceMul, Nat.reduceSub, Nat.reduceGT, Nat.reducePow, Nat.reduceLeDiff, Int.reduceToNat]
  refine run_seq ?_
  replace h := bind_some1 h; obtain ⟨y_4274, hy_4275, h⟩ := h
  refine run_textE hE [1, 2, 3, 16] (fr' := [(1, .sl false (L cU8 before_4272)), (2, .sl false (L cU8 b_4273)), (3, .ref 0 0), (16, .bool ((!y_4274)))]) (σ' := [.box [.sl false (L cU8 d_4271.Rest), .bool d_4271.In, .bool d_4271.Escape, .bool d_4271.Bad] false]) ⟨_, orcs_ok (l := [(15, 10, [], .bool y_4274)]) ⟨law10_sane_con hy_4275, trivial⟩, ?_⟩ ?_
  · simp only [go_sem, reduceIte, Nat.reduceLT, Nat.reduceEqDiff, Nat.reduceAdd, Nat.reduceBEq, Nat.reduceMul, Nat.reduceSub, Nat.reduceGT, Nat.reducePow, Nat.reduceLeDiff, Int.reduceToNat]
  refine run_condL (b := (!y_4274)) rfl (by decide) (fun hb => ?_) (fun hb => ?_)
  · replace h := ite_t h hb
    refine run_textE hE [6] (fr' := [(6, .bool false)]) (σ' := [.box [.sl false (L cU8 d_4271.Rest), .bool d_4271.In, .bool d_4271.Escape, .bool d_4271.Bad] false]) ⟨_, orcs_nil, ?_⟩ ?_
    · simp only [go_sem, reduceIte, Nat.reduceLT, Nat.reduceEqDiff, Nat.reduceAdd, Nat.reduceBEq, Nat.reduceMul, Nat.reduceSub, Nat.reduceGT, Nat.reducePow, Nat.reduceLeDiff, Int.reduceToNat]
    refine run_ret ?_
    refine thenK_r ?_
    obtain rfl := Option.some.inj h
    refine ret_ok (.inr rfl) ?_
    simp only [go_sem, reduceIte, Nat.reduceLT, Nat.reduceEqDiff, Nat.reduceAdd, Nat.reduceBEq, Nat.reduceMul, Nat.reduceSub, Nat.reduceGT, Nat.reducePow, Nat.reduceLeDiff, Int.reduceToNat]
  · replace h := ite_f h hb
    refine run_skip ?_
    refine thenK_n ?_
    replace h := bind_some1 h; obtain ⟨y_4276, hy_4277, h⟩ := h
    refine run_textE hE [1, 2, 3, 7, 8] (fr' := [(1, .sl false (L cU8 before_4272)), (2, .sl false (L cU8 b_4273)), (3, .ref 0 0), (7, .sl false (L cU8 y_4276.1)), (8, i64 y_4276.2)]) (σ' := [.box [.sl false (L cU8 d_4271.Rest), .bool d_4271.In, .bool d_4271.Escape, .bool d_4271.Bad] false]) ⟨_, orcs_ok (l := [(19, 11, [.sl false (L cU8 b_4273)], .tup [.sl false (L cU8 y_4276.1), i64 y_4276.2])]) ⟨frame_Make_con hy_4277, trivial⟩, ?_⟩ ?_
    · simp only [go_sem, reduceIte, Nat.reduceLT, Nat.reduceEqDiff, Nat.reduceAdd, Nat.reduceBEq, Nat.reduceMul, Nat.reduceSub, Nat.reduceGT, Nat.reducePow, Nat.reduceLeDiff, Int.reduceToNat]
    refine run_seq ?_
    refine run_textE hE [1, 2, 3, 7, 8, 23] (fr' := [(1, .sl false (L cU8 before_4272)), (2, .sl false (L cU8 b_4273)), (3, .ref 0 0), (7, .sl false (L cU8 y_4276.1)), (8, i64 y_4276.2), (23, .bool ((y_4276.2 != 0)))]) (σ' := [.box [.sl false (L cU8 d_4271.Rest), .bool d_4271.In, .bool d_4271.Escape, .bool d_4271.Bad] false]) ⟨_, orcs_nil, ?_⟩ ?_
    · simp only [go_sem, reduceIte, Nat.reduceLT, Nat.reduceEqDiff, Nat.reduceAdd, Nat.reduceBEq, Nat.reduceMul, Nat.reduceSub, Nat.reduceGT, Nat.reducePow, Nat.reduceLeDiff, Int.reduceToNat]
    refine run_condL (b := (y_4276.2 != 0)) rfl (by decide) (fun hb => ?_) (fun hb => ?_)
    · replace h := ite_t h hb
      replace h := bind_some1 h; obtain ⟨t_4278, hv_4279, h⟩ := h
      refine run_textW hE [6] (fr' := [(6, .bool t_4278)]) (σ' := []) ?_ ?_
      · rcases Bool.eq_false_or_eq_true ((y_4276.2 == 2)) with hb_4280 | hb_4280
        · replace hv_4279 := ite_t hv_4279 hb_4280
          have e_hv_4279 := Option.some.inj hv_4279; subst e_hv_4279
          exact ⟨_, [(6, .bool ((decide ((b_4273.length : Int) > 8192))))], [.box [.sl false (L cU8 d_4271.Rest), .bool d_4271.In, .bool d_4271.Escape, .bool d_4271.Bad] false], orcs_nil, by simp only [go_sem, reduceIte, Nat.reduceLT, Nat.reduceEqDiff, Nat.reduceAdd, Nat.reduceBEq, Nat.reduceMul, Nat.reduceSub, Nat.reduceGT, Nat.reducePow, Nat.reduceLeDiff, Int.reduceToNat, hb_4280], (weak_sel [] (by decide) rfl (by simp only [go_sem, reduceIte, Nat.reduceLT, Nat.reduceEqDiff, Nat.reduceAdd, Nat.reduceBEq, Nat.reduceMul, Nat.reduceSub, Nat.reduceGT, Nat.reducePow, Nat.reduceLeDiff, Int.reduceToNat]) (by simp only [go_sem, reduceIte, Nat.reduceLT, Nat.reduceEqDiff, Nat.reduceAdd, Nat.reduceBEq, Nat.reduceMul, Nat.reduceSub, Nat.reduceGT, Nat.reducePow, Nat.reduceLeDiff, Int.reduceToNat]))⟩
        · replace hv_4279 := ite_f hv_4279 hb_4280
          have e_hv_4279 := Option.some.inj hv_4279; subst e_hv_4279
          exact ⟨_, [(6, .bool false)], [.box [.sl false (L cU8 d_4271.Rest), .bool d_4271.In, .bool d_4271.Escape, .bool d_4271.Bad] false], orcs_nil, by simp only [go_sem, reduceIte, Nat.reduceLT, Nat.reduceEqDiff, Nat.reduceAdd, Nat.reduceBEq, Nat.reduceMul, Nat.reduceSub, Nat.reduceGT, Nat.reducePow, Nat.reduceLeDiff, Int.reduceToNat, hb_4280], (weak_sel [] (by decide) rfl (by simp only [go_sem, reduceIte, Nat.reduceLT, Nat.reduceEqDiff, Nat.reduceAdd, Nat.reduceBEq, Nat.reduceMul, Nat.reduceSub, Nat.reduceGT, Nat.reducePow, Nat.reduceLeDiff, Int.reduceToNat]) (by simp only [go_sem, reduceIte, Nat.reduceLT, Nat.reduceEqDiff, Nat.reduceAdd, Nat.reduceBEq, Nat.reduceMul, Nat.reduceSub, Nat.reduceGT, Nat.reducePow, Nat.reduceLeDiff, Int.reduceToNat]))⟩
      refine run_ret ?_
      refine thenK_r ?_
      obtain rfl := Option.some.inj h
      refine ret_ok (.inr rfl) ?_
      simp only [go_sem, reduceIte, Nat.reduceLT, Nat.reduceEqDiff, Nat.reduceAdd, Nat.reduceBEq, Nat.reduceMul, Nat.reduceSub, Nat.reduceGT, Nat.reducePow, Nat.reduceLeDiff, Int.reduceToNat]
    · replace h := ite_f h hb
      refine run_skip ?_
      refine thenK_n ?_
      replace h := bind_some1 h; obtain ⟨y_4281, hy_4283, h⟩ := h
      replace h := bind_some1 h; obtain ⟨y_4282, hy_4284, h⟩ := h
      refine run_drawE hE mixed [[], [], [], [1, 2], [0, 1, 2, 3], [0, 1, 2, 3, 4], [0, 1, 2, 3, 4, 5], [0, 1, 2, 3, 4, 5], [0, 1, 2, 3, 4, 5], [], [0, 1, 2, 3, 4, 5, 6, 9], [0, 1, 2, 3, 4, 5, 6, 7, 9, 10], [0, 1, 2, 3, 4, 5, 6, 7, 8, 9, 10, 11]] (by kernel_rfl) (by kernel_rfl) [1, 2, 3, 9, 10, 11] (fr' := [(1, .sl false (L cU8 before_4272)), (2, .sl false (L cU8 b_4273)), (3, .ref 0 0), (9, .ref 1 0), (10, .sl false (L (cSl cU8) y_4282.2.1)), (11, i64 y_4282.2.2)]) (σ' := [.box [.sl false (L cU8 d_4271.Rest), .bool d_4271.In, .bool d_4271.Escape, .bool d_4271.Bad] false, .box [.sl false (L cU8 y_4282.1.Rest), .bool y_4282.1.In, .bool y_4282.1.Escape, .bool y_4282.1.Bad] false]) ⟨_, orcs_ok (l := [(35, 20, [.sl false (L cU8 before_4272), .sl false (L cU8 y_4276.1)], .sl false (L cU8 y_4281)), (36, 15, [.agg [.sl false (L cU8 d_4271.Rest), .bool d_4271.In, .bool d_4271.Escape, .bool d_4271.Bad], .sl false (L cU8 y_4281)], .tup [.agg [.sl false (L cU8 y_4282.1.Rest), .bool y_4282.1.In, .bool y_4282.1.Escape, .bool y_4282.1.Bad], .sl false (L (cSl cU8) y_4282.2.1), i64 y_4282.2.2])]) ⟨r10_Joined_con hy_4283, frame_Feed_con hy_4284, trivial⟩, ?_⟩ ?_
      · simp only [go_sem, reduceIte, Nat.reduceLT, Nat.reduceEqDiff, Nat.reduceAdd, Nat.reduceBEq, Nat.reduceMul, Nat.reduceSub, Nat.reduceGT, Nat.reducePow, Nat.reduceLeDiff, Int.reduceToNat]
      replace h := bind_some1 h; obtain ⟨y_4285, hy_4287, h⟩ := h
      replace h := bind_some1 h; obtain ⟨y_4286, hy_4288, h⟩ := h
      refine run_drawE hE mixed [[], [], [], [1, 2], [0, 1, 2, 3], [0, 1, 2, 3, 4], [0, 1, 2, 3, 4, 5], [0, 1, 2, 3, 4, 5], [0, 1, 2, 3, 4, 5], [], [0, 1, 2, 3, 4, 5, 6, 9], [0, 1, 2, 3, 4, 5, 6, 7, 9, 10], [0, 1, 2, 3, 4, 5, 6, 7, 8, 9, 10, 11]] (by kernel_rfl) (by kernel_rfl) [2, 9, 10, 11, 13, 14] (fr' := [(2, .sl false (L cU8 b_4273)), (9, .ref 1 0), (10, .sl false (L (cSl cU8) y_4282.2.1)), (11, i64 y_4282.2.2), (13, .sl false (L (cSl cU8) y_4286.2.1)), (14, i64 y_4286.2.2)]) (σ' := [.box [.sl false (L cU8 d_4271.Rest), .bool d_4271.In, .bool d_4271.Escape, .bool d_4271.Bad] false, .box [.sl false (L cU8 y_4282.1.Rest), .bool y_4282.1.In, .bool y_4282.1.Escape, .bool y_4282.1.Bad] false, .box [.sl false (L cU8 y_4286.1.Rest), .bool y_4286.1.In, .bool y_4286.1.Escape, .bool y_4286.1.Bad] false]) ⟨_, orcs_ok (l := [(44, 20, [.sl false (L cU8 before_4272), .sl false (L cU8 (([(126 : UInt8)] : List UInt8)))], .sl false (L cU8 y_4285)), (45, 15, [.agg [.sl false (L cU8 d_4271.Rest), .bool d_4271.In, .bool d_4271.Escape, .bool d_4271.Bad], .sl false (L cU8 y_4285)], .tup [.agg [.sl false (L cU8 y_4286.1.Rest), .bool y_4286.1.In, .bool y_4286.1.Escape, .bool y_4286.1.Bad], .sl false (L (cSl cU8) y_4286.2.1), i64 y_4286.2.2])]) ⟨r10_Joined_con hy_4287, frame_Feed_con hy_4288, trivial⟩, ?_⟩ ?_
      · simp only [go_sem, reduceIte, Nat.reduceLT, Nat.reduceEqDiff, Nat.reduceAdd, Nat.reduceBEq, Nat.reduceMul, Nat.reduceSub, Nat.reduceGT, Nat.reducePow, Nat.reduceLeDiff, Int.reduceToNat]
      refine run_seq ?_
      replace h := bind_some1 h; obtain ⟨t_4290, hv_4291, h⟩ := h
      refine run_textW hE [2, 9, 10, 13, 68] (fr' := [(2, .sl false (L cU8 b_4273)), (9, .ref 0 0), (10, .sl false (L (cSl cU8) y_4282.2.1)), (13, .sl false (L (cSl cU8) y_4286.2.1)), (68, .bool t_4290)]) (σ' := [.box [.sl false (L cU8 y_4282.1.Rest), .bool y_4282.1.In, .bool y_4282.1.Escape, .bool y_4282.1.Bad] false]) ?_ ?_
      · rcases Bool.eq_false_or_eq_true (((y_4282.2.1.length : Int) != (w64 ((y_4286.2.1.length : Int) + 1)))) with hb_4292 | hb_4292
        · replace hv_4291 := ite_t hv_4291 hb_4292
          have e_hv_4291 := Option.some.inj hv_4291; subst e_hv_4291
          exact ⟨_, [(2, .sl false (L cU8 b_4273)), (9, .ref 1 0), (10, .sl false (L (cSl cU8) y_4282.2.1)), (13, .sl false (L (cSl cU8) y_4286.2.1)), (68, .bool true)], [.box [.sl false (L cU8 d_4271.Rest), .bool d_4271.In, .bool d_4271.Escape, .bool d_4271.Bad] false, .box [.sl false (L cU8 y_4282.1.Rest), .bool y_4282.1.In, .bool y_4282.1.Escape, .bool y_4282.1.Bad] false, .box [.sl false (L cU8 y_4286.1.Rest), .bool y_4286.1.In, .bool y_4286.1.Escape, .bool y_4286.1.Bad] false], orcs_nil, by simp only [go_sem, reduceIte, Nat.reduceLT, Nat.reduceEqDiff, Nat.reduceAdd, Nat.reduceBEq, Nat.reduceMul, Nat.reduceSub, Nat.reduceGT, Nat.reducePow, Nat.reduceLeDiff, Int.reduceToNat, hb_4292], (weak_sel [1] (by decide) rfl (by simp only [go_sem, reduceIte, Nat.reduceLT, Nat.reduceEqDiff, Nat.reduceAdd, Nat.reduceBEq, Nat.reduceMul, Nat.reduceSub, Nat.reduceGT, Nat.reducePow, Nat.reduceLeDiff, Int.reduceToNat]) (by simp only [go_sem, reduceIte, Nat.reduceLT, Nat.reduceEqDiff, Nat.reduceAdd, Nat.reduceBEq, Nat.reduceMul, Nat.reduceSub, Nat.reduceGT, Nat.reducePow, Nat.reduceLeDiff, Int.reduceToNat]))⟩
        · replace hv_4291 := ite_f hv_4291 hb_4292
          rcases Bool.eq_false_or_eq_true ((y_4282.2.2 != y_4286.2.2)) with hb_4293 | hb_4293
          · replace hv_4291 := ite_t hv_4291 hb_4293
            have e_hv_4291 := Option.some.inj hv_4291; subst e_hv_4291
            exact ⟨_, [(2, .sl false (L cU8 b_4273)), (9, .ref 1 0), (10, .sl false (L (cSl cU8) y_4282.2.1)), (13, .sl false (L (cSl cU8) y_4286.2.1)), (68, .bool true)], [.box [.sl false (L cU8 d_4271.Rest), .bool d_4271.In, .bool d_4271.Escape, .bool d_4271.Bad] false, .box [.sl false (L cU8 y_4282.1.Rest), .bool y_4282.1.In, .bool y_4282.1.Escape, .bool y_4282.1.Bad] false, .box [.sl false (L cU8 y_4286.1.Rest), .bool y_4286.1.In, .bool y_4286.1.Escape, .bool y_4286.1.Bad] false], orcs_nil, by simp only [go_sem, reduceIte, Nat.reduceLT, Nat.reduceEqDiff, Nat.reduceAdd, Nat.reduceBEq, Nat.reduceMul, Nat.reduceSub, Nat.reduceGT, Nat.reducePow, Nat.reduceLeDiff, Int.reduceToNat, hb_4292, hb_4293], (weak_sel [1] (by decide) rfl (by simp only [go_sem, reduceIte, Nat.reduceLT, Nat.reduceEqDiff, Nat.reduceAdd, Nat.reduceBEq, Nat.reduceMul, Nat.reduceSub, Nat.reduceGT, Nat.reducePow, Nat.reduceLeDiff, Int.reduceToNat]) (by simp only [go_sem, reduceIte, Nat.reduceLT, Nat.reduceEqDiff, Nat.reduceAdd, Nat.reduceBEq, Nat.reduceMul, Nat.reduceSub, Nat.reduceGT, Nat.reducePow, Nat.reduceLeDiff, Int.reduceToNat]))⟩
          · replace hv_4291 := ite_f hv_4291 hb_4293
            replace hv_4291 := chk_some hv_4291; obtain ⟨hc_4294, hv_4291⟩ := hv_4291
            replace hv_4291 := bind_some1 hv_4291; obtain ⟨y_4289, hy_4295, hv_4291⟩ := hv_4291
            have e_hv_4291 := Option.some.inj hv_4291; subst e_hv_4291
            exact ⟨_, [(2, .sl false (L cU8 b_4273)), (9, .ref 1 0), (10, .sl false (L (cSl cU8) y_4282.2.1)), (13, .sl false (L (cSl cU8) y_4286.2.1)), (68, .bool ((!y_4289)))], [.box [.sl false (L cU8 d_4271.Rest), .bool d_4271.In, .bool d_4271.Escape, .bool d_4271.Bad] false, .box [.sl false (L cU8 y_4282.1.Rest), .bool y_4282.1.In, .bool y_4282.1.Escape, .bool y_4282.1.Bad] false, .box [.sl false (L cU8 y_4286.1.Rest), .bool y_4286.1.In, .bool y_4286.1.Escape, .bool y_4286.1.Bad] false], orcs_ok (l := [(66, 18, [.sl false (L (cSl cU8) ((y_4282.2.1.take (((y_4286.2.1.length : Int)).toNat)))), .sl false (L (cSl cU8) y_4286.2.1)], .bool y_4289)]) ⟨r10_Same_con hy_4295, trivial⟩, by simp only [go_sem, reduceIte, Nat.reduceLT, Nat.reduceEqDiff, Nat.reduceAdd, Nat.reduceBEq, Nat.reduceMul, Nat.reduceSub, Nat.reduceGT, Nat.reducePow, Nat.reduceLeDiff, Int.reduceToNat, hb_4292, hb_4293, hc_4294], (weak_sel [1] (by decide) rfl (by simp only [go_sem, reduceIte, Nat.reduceLT, Nat.reduceEqDiff, Nat.reduceAdd, Nat.reduceBEq, Nat.reduceMul, Nat.reduceSub, Nat.reduceGT, Nat.reducePow, Nat.reduceLeDiff, Int.reduceToNat]) (by simp only [go_sem, reduceIte, Nat.reduceLT, Nat.reduceEqDiff, Nat.reduceAdd, Nat.reduceBEq, Nat.reduceMul, Nat.reduceSub, Nat.reduceGT, Nat.reducePow, Nat.reduceLeDiff, Int.reduceToNat]))⟩
      refine run_condL (b := t_4290) rfl (by decide) (fun hb => ?_) (fun hb => ?_)
      · replace h := ite_t h hb
        refine run_textE hE [6] (fr' := [(6, .bool false)]) (σ' := [.box [.sl false (L cU8 y_4282.1.Rest), .bool y_4282.1.In, .bool y_4282.1.Escape, .bool y_4282.1.Bad] false]) ⟨_, orcs_nil, ?_⟩ ?_
        · simp only [go_sem, reduceIte, Nat.reduceLT, Nat.reduceEqDiff, Nat.reduceAdd, Nat.reduceBEq, Nat.reduceMul, Nat.reduceSub, Nat.reduceGT, Nat.reducePow, Nat.reduceLeDiff, Int.reduceToNat]
        refine run_ret ?_
        refine thenK_r ?_
        obtain rfl := Option.some.inj h
        refine ret_ok (.inr rfl) ?_
        simp only [go_sem, reduceIte, Nat.reduceLT, Nat.reduceEqDiff, Nat.reduceAdd, Nat.reduceBEq, Nat.reduceMul, Nat.reduceSub, Nat.reduceGT, Nat.reducePow, Nat.reduceLeDiff, Int.reduceToNat]
      · replace h := ite_f h hb
        refine run_skip ?_
        refine thenK_n ?_
        replace h := bind_some1 h; obtain ⟨t_4297, hv_4298, h⟩ := h
        refine run_drawW hE mixed [[], [], [0, 1], [0, 1, 2], [0, 1, 2, 3], [0, 1, 2, 3], [0, 1, 2, 3, 5], [0, 1, 2, 3, 4, 5, 6], [0, 1, 2, 3, 4, 5, 6, 7], [0, 1, 2, 3, 4, 5, 6, 7, 8], [0, 1, 2, 3], [0, 1, 2, 3, 10], [0, 1, 2, 3, 4, 5, 6, 7, 8, 9, 10, 11], [0, 1, 2, 3, 4, 5, 6, 7, 8, 9, 10, 11, 12], [0, 1, 2, 3, 4, 5, 6, 7, 8, 9, 10, 11, 12, 13]] (by kernel_rfl) (by kernel_rfl) [6] (fr' := [(6, .bool t_4297)]) (σ' := []) ?_ ?_
        · replace hv_4298 := bind_some1 hv_4298; obtain ⟨y_4296, hy_4299, hv_4298⟩ := hv_4298
          rcases Bool.eq_false_or_eq_true y_4296 with hb_4300 | hb_4300
          · replace hv_4298 := ite_t hv_4298 hb_4300
            replace hv_4298 := chk_some hv_4298; obtain ⟨hc_4301, hv_4298⟩ := hv_4298
            have e_hv_4298 := Option.some.inj hv_4298; subst e_hv_4298
            exact ⟨_, [(6, .bool (((nth y_4282.2.1 (((y_4286.2.1.length : Int)).toNat)) == b_4273)))], [.box [.sl false (L cU8 y_4282.1.Rest), .bool y_4282.1.In, .bool y_4282.1.Escape, .bool y_4282.1.Bad] false], orcs_ok (l := [(71, 17, [.agg [.sl false (L cU8 y_4282.1.Rest), .bool y_4282.1.In, .bool y_4282.1.Escape, .bool y_4282.1.Bad], .agg [.sl false (L cU8 ([])), .bool true, .bool false, .bool false]], .bool y_4296)]) ⟨r10_SameState_con hy_4299, trivial⟩, by simp only [go_sem, reduceIte, Nat.reduceLT, Nat.reduceEqDiff, Nat.reduceAdd, Nat.reduceBEq, Nat.reduceMul, Nat.reduceSub, Nat.reduceGT, Nat.reducePow, Nat.reduceLeDiff, Int.reduceToNat, hb_4300, hc_4301, hc_4301.2, lt_le hc_4301.2], (weak_sel [] (by decide) rfl (by simp only [go_sem, reduceIte, Nat.reduceLT, Nat.reduceEqDiff, Nat.reduceAdd, Nat.reduceBEq, Nat.reduceMul, Nat.reduceSub, Nat.reduceGT, Nat.reducePow, Nat.reduceLeDiff, Int.reduceToNat]) (by simp only [go_sem, reduceIte, Nat.reduceLT, Nat.reduceEqDiff, Nat.reduceAdd, Nat.reduceBEq, Nat.reduceMul, Nat.reduceSub, Nat.reduceGT, Nat.reducePow, Nat.reduceLeDiff, Int.reduceToNat]))⟩
          · replace hv_4298 := ite_f hv_4298 hb_4300
            have e_hv_4298 := Option.some.inj hv_4298; subst e_hv_4298
            exact ⟨_, [(6, .bool false)], [.box [.sl false (L cU8 y_4282.1.Rest), .bool y_4282.1.In, .bool y_4282.1.Escape, .bool y_4282.1.Bad] false], orcs_ok (l := [(71, 17, [.agg [.sl false (L cU8 y_4282.1.Rest), .bool y_4282.1.In, .bool y_4282.1.Escape, .bool y_4282.1.Bad], .agg [.sl false (L cU8 ([])), .bool true, .bool false, .bool false]], .bool y_4296)]) ⟨r10_SameState_con hy_4299, trivial⟩, by simp only [go_sem, reduceIte, Nat.reduceLT, Nat.reduceEqDiff, Nat.reduceAdd, Nat.reduceBEq, Nat.reduceMul, Nat.reduceSub, Nat.reduceGT, Nat.reducePow, Nat.reduceLeDiff, Int.reduceToNat, hb_4300], (weak_sel [] (by decide) rfl (by simp only [go_sem, reduceIte, Nat.reduceLT, Nat.reduceEqDiff, Nat.reduceAdd, Nat.reduceBEq, Nat.reduceMul, Nat.reduceSub, Nat.reduceGT, Nat.reducePow, Nat.reduceLeDiff, Int.reduceToNat]) (by simp only [go_sem, reduceIte, Nat.reduceLT, Nat.reduceEqDiff, Nat.reduceAdd, Nat.reduceBEq, Nat.reduceMul, Nat.reduceSub, Nat.reduceGT, Nat.reducePow, Nat.reduceLeDiff, Int.reduceToNat]))⟩
        refine run_ret ?_
        obtain rfl := Option.some.inj h
        refine ret_ok (.inr rfl) ?_
        simp only [go_sem, reduceIte, Nat.reduceLT, Nat.reduceEqDiff, Nat.reduceAdd, Nat.reduceBEq, Nat.reduceMul, Nat.reduceSub, Nat.reduceGT, Nat.reducePow, Nat.reduceLeDiff, Int.reduceToNat]

end Go.Proofs.Ytneejmndnihaoaa
