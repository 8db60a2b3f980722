/-
  The functions compute just that.
-/
import Derived.Test.YtgdiabbgiiemcaaDoorDW9
import Derived.KernelRfl
namespace Go.Proofs.YtgdiabbgiiemcaaDoor
open Go.Rv
set_option linter.unusedVariables false
set_option linter.unusedSimpArgs false
set_option maxRecDepth 20000

theorem law02_chain_con {d_2665 : Arr UInt8 32} {l_2666 : List (List UInt8)} {r : List (Arr UInt8 32)} (h : law02_chain d_2665 l_2666 = some r) : Con B 25 [.agg (C1 u8 d_2665.l), .sl false (L (cSl cU8) l_2666)] [] (fun r' σ' => r' = .sl false (L (cArr u8 32) r) ∧ σ' = []) := by
  refine con_walk (N := 30) (rs := [.tmp 4]) ok Tryd.func25 rfl (by decide +kernel) rfl rfl (Nat.le_of_ble_eq_true rfl) (fun F => ?_)
  have hE := ok.env F
  unfold law02_chain at h
  show Run (B.env F) 0 _ ⟨asFr 30 [(0, .agg (C1 u8 d_2665.l)), (1, .sl false (L (cSl cU8) l_2666))], []⟩ _
  refine run_textE hE [1, 2] (fr' := [(1, .sl false (L (cSl cU8) l_2666)), (2, .ref 0 0)]) (σ' := [.box (C1 u8 d_2665.l) false]) ⟨_, orcs_nil, ?_⟩ ?_
  · simp only [go_sem, reduceIte, Nat.reduceLT, Nat.reduceEqDiff, Nat.reduceAdd, Nat.reduceBEq, Nat.reduceMul, Nat.reduceSub, Nat.reduceGT, Nat.reducePow, Nat.reduceLeDiff, Int.reduceToNat]
  replace h := lt1_some h; obtain ⟨l_2667, hz_2668, h⟩ := h
  refine run_textE hE [1, 2, 5] (fr' := [(1, .sl false (L (cSl cU8) l_2666)), (2, .ref 0 0), (5, .bs true 1 (l_2667.length) 0 (l_2667.length))]) (σ' := [.box (C1 u8 d_2665.l) false, .buf 32 (L (cArr u8 32) l_2667) false]) ⟨_, orcs_nil, ?_⟩ ?_
  · subst hz_2668; simp only [go_sem, reduceIte, Nat.reduceLT, Nat.reduceEqDiff, Nat.reduceAdd, Nat.reduceBEq, Nat.reduceMul, Nat.reduceSub, Nat.reduceGT, Nat.reducePow, Nat.reduceLeDiff, Int.reduceToNat]
  replace h := bind_some1 h; obtain ⟨j_2706, hA_2707, hj_2708⟩ := h
  refine run_join (fun (v : List (Arr UInt8 32)) => (⟨asFr 30 [(5, .bs false 0 (v.length) 0 (v.length))], [.buf 32 (L (cArr u8 32) v) false]⟩ : St)) (fun v => v = j_2706) ?_ ?_
  · have h := hA_2707; clear hA_2707
    refine run_textE hE [1, 2, 5, 6] (fr' := [(1, .sl false (L (cSl cU8) l_2666)), (2, .ref 0 0), (5, .bs true 1 (l_2667.length) 0 (l_2667.length)), (6, i64 0)]) (σ' := [.box (C1 u8 d_2665.l) false, .buf 32 (L (cArr u8 32) l_2667) false]) ⟨_, orcs_nil, ?_⟩ ?_
    · simp only [go_sem, reduceIte, Nat.reduceLT, Nat.reduceEqDiff, Nat.reduceAdd, Nat.reduceBEq, Nat.reduceMul, Nat.reduceSub, Nat.reduceGT, Nat.reducePow, Nat.reduceLeDiff, Int.reduceToNat]
    refine run_block ?_
    replace h := bind_some1 h; obtain ⟨x_2731, hx_2732, hj_2733⟩ := h
    refine run_loopO hx_2732 (fun (v : Int × Arr UInt8 32 × List (Arr UInt8 32)) => (⟨asFr 30 [(1, .sl false (L (cSl cU8) l_2666)), (2, .ref 0 0), (5, .bs false 1 (v.2.2.length) 0 (v.2.2.length)), (6, i64 v.1)], [.box (C1 u8 v.2.1.l) false, .buf 32 (L (cArr u8 32) v.2.2) false]⟩ : St)) (weak_sel [0, 1] (by decide) rfl (by simp only [go_sem, reduceIte, Nat.reduceLT, Nat.reduceEqDiff, Nat.reduceAdd, Nat.reduceBEq, Nat.reduceMul, Nat.reduceSub, Nat.reduceGT, Nat.reducePow, Nat.reduceLeDiff, Int.reduceToNat]) (by simp only [go_sem, reduceIte, Nat.reduceLT, Nat.reduceEqDiff, Nat.reduceAdd, Nat.reduceBEq, Nat.reduceMul, Nat.reduceSub, Nat.reduceGT, Nat.reducePow, Nat.reduceLeDiff, Int.reduceToNat])) ?_
    rintro ⟨i_2718, f_2719, l_2720⟩ o_2734 h hxx_2735
    replace h : law02_chain_b1 l_2666 i_2718 f_2719 l_2720 = some o_2734 := h
    unfold law02_chain_b1 at h
    refine run_seq ?_
    replace h := bind_some1 h; obtain ⟨t_2736, hv_2737, h⟩ := h
    refine run_textW hE [1, 2, 5, 6, 16] (fr' := [(1, .sl false (L (cSl cU8) l_2666)), (2, .ref 0 0), (5, .bs false 1 (l_2720.length) 0 (l_2720.length)), (6, i64 i_2718), (16, .bool t_2736)]) (σ' := [.box (C1 u8 f_2719.l) false, .buf 32 (L (cArr u8 32) l_2720) false]) ?_ ?_
    · rcases Bool.eq_false_or_eq_true ((decide (i_2718 < (l_2666.length : Int)))) with hb_2738 | hb_2738
      · replace hv_2737 := ite_t hv_2737 hb_2738
        have e_hv_2737 := Option.some.inj hv_2737; subst e_hv_2737
        exact ⟨_, [(1, .sl false (L (cSl cU8) l_2666)), (2, .ref 0 0), (5, .bs false 1 (l_2720.length) 0 (l_2720.length)), (6, i64 i_2718), (16, .bool ((decide (i_2718 < 8))))], [.box (C1 u8 f_2719.l) false, .buf 32 (L (cArr u8 32) l_2720) false], orcs_nil, by simp only [go_sem, reduceIte, Nat.reduceLT, Nat.reduceEqDiff, Nat.reduceAdd, Nat.reduceBEq, Nat.reduceMul, Nat.reduceSub, Nat.reduceGT, Nat.reducePow, Nat.reduceLeDiff, Int.reduceToNat, hb_2738], (weak_sel [0, 1] (by decide) rfl (by simp only [go_sem, reduceIte, Nat.reduceLT, Nat.reduceEqDiff, Nat.reduceAdd, Nat.reduceBEq, Nat.reduceMul, Nat.reduceSub, Nat.reduceGT, Nat.reducePow, Nat.reduceLeDiff, Int.reduceToNat]) (by simp only [go_sem, reduceIte, Nat.reduceLT, Nat.reduceEqDiff, Nat.reduceAdd, Nat.reduceBEq, Nat.reduceMul, Nat.reduceSub, Nat.reduceGT, Nat.reducePow, Nat.reduceLeDiff, Int.reduceToNat]))⟩
      · replace hv_2737 := ite_f hv_2737 hb_2738
        have e_hv_2737 := Option.some.inj hv_2737; subst e_hv_2737
        exact ⟨_, [(1, .sl false (L (cSl cU8) l_2666)), (2, .ref 0 0), (5, .bs false 1 (l_2720.length) 0 (l_2720.length)), (6, i64 i_2718), (16, .bool false)], [.box (C1 u8 f_2719.l) false, .buf 32 (L (cArr u8 32) l_2720) false], orcs_nil, by simp only [go_sem, reduceIte, Nat.reduceLT, Nat.reduceEqDiff, Nat.reduceAdd, Nat.reduceBEq, Nat.reduceMul, Nat.reduceSub, Nat.reduceGT, Nat.reducePow, Nat.reduceLeDiff, Int.reduceToNat, hb_2738], (weak_sel [0, 1] (by decide) rfl (by simp only [go_sem, reduceIte, Nat.reduceLT, Nat.reduceEqDiff, Nat.reduceAdd, Nat.reduceBEq, Nat.reduceMul, Nat.reduceSub, Nat.reduceGT, Nat.reducePow, Nat.reduceLeDiff, Int.reduceToNat]) (by simp only [go_sem, reduceIte, Nat.reduceLT, Nat.reduceEqDiff, Nat.reduceAdd, Nat.reduceBEq, Nat.reduceMul, Nat.reduceSub, Nat.reduceGT, Nat.reducePow, Nat.reduceLeDiff, Int.reduceToNat]))⟩
    refine run_condL (b := t_2736) rfl (by decide) (fun hb => ?_) (fun hb => ?_)
    · replace h := ite_t h hb
      refine run_skip ?_
      refine thenK_n ?_
      refine run_seq ?_
      refine run_block ?_
      replace h := chk_some h; obtain ⟨hc_2740, h⟩ := h
      replace h := bind_some1 h; obtain ⟨y_2739, hy_2741, h⟩ := h
      refine run_drawE hE mixed [[], [], [], [1, 2], [1, 2, 3], [0, 1, 2, 3, 4], [0, 1, 2, 3, 4, 5]] (by kernel_rfl) (by kernel_rfl) [1, 2, 5, 6] (fr' := [(1, .sl false (L (cSl cU8) l_2666)), (2, .ref 0 0), (5, .bs false 1 (l_2720.length) 0 (l_2720.length)), (6, i64 i_2718)]) (σ' := [.box (C1 u8 y_2739.l) false, .buf 32 (L (cArr u8 32) l_2720) false]) ⟨_, orcs_ok (l := [(24, 16, [.agg (C1 u8 f_2719.l), .sl false (L cU8 (nth l_2666 i_2718.toNat))], .agg (C1 u8 y_2739.l))]) ⟨digest_Next_con hy_2741, trivial⟩, ?_⟩ ?_
      · simp only [go_sem, reduceIte, Nat.reduceLT, Nat.reduceEqDiff, Nat.reduceAdd, Nat.reduceBEq, Nat.reduceMul, Nat.reduceSub, Nat.reduceGT, Nat.reducePow, Nat.reduceLeDiff, Int.reduceToNat, hc_2740, hc_2740.2, lt_le hc_2740.2]
      replace h := chk_some h; obtain ⟨hc_2742, h⟩ := h
      replace h := lt1_some h; obtain ⟨l_2743, hz_2744, h⟩ := h
      refine run_textE0 hE (wk_block wk_then) [1, 2, 5, 6] (fr' := [(1, .sl false (L (cSl cU8) l_2666)), (2, .ref 0 0), (5, .bs false 1 (l_2743.length) 0 (l_2743.length)), (6, i64 i_2718)]) (σ' := [.box (C1 u8 y_2739.l) false, .buf 32 (L (cArr u8 32) l_2743) false, .buf 32 (L (cArr u8 32) (([y_2739] : List (Arr UInt8 32)))) false]) ⟨_, orcs_nil, ?_⟩ ?_
      · subst hz_2744; simp only [go_sem, reduceIte, Nat.reduceLT, Nat.reduceEqDiff, Nat.reduceAdd, Nat.reduceBEq, Nat.reduceMul, Nat.reduceSub, Nat.reduceGT, Nat.reducePow, Nat.reduceLeDiff, Int.reduceToNat, hc_2742]
      refine blockK_n ?_
      refine thenK_n ?_
      refine run_textE0 hE wk_lp [1, 2, 5, 6] (fr' := [(1, .sl false (L (cSl cU8) l_2666)), (2, .ref 0 0), (5, .bs false 1 (l_2743.length) 0 (l_2743.length)), (6, i64 ((w64 (i_2718 + 1))))]) (σ' := [.box (C1 u8 y_2739.l) false, .buf 32 (L (cArr u8 32) l_2743) false, .buf 32 (L (cArr u8 32) (([y_2739] : List (Arr UInt8 32)))) false]) ⟨_, orcs_nil, ?_⟩ ?_
      · simp only [go_sem, reduceIte, Nat.reduceLT, Nat.reduceEqDiff, Nat.reduceAdd, Nat.reduceBEq, Nat.reduceMul, Nat.reduceSub, Nat.reduceGT, Nat.reducePow, Nat.reduceLeDiff, Int.reduceToNat]
      obtain rfl := Option.some.inj h
      exact lpK_n (((w64 (i_2718 + 1)), y_2739, l_2743)) rfl (weak_sel [0, 1] (by decide) rfl (by simp only [go_sem, reduceIte, Nat.reduceLT, Nat.reduceEqDiff, Nat.reduceAdd, Nat.reduceBEq, Nat.reduceMul, Nat.reduceSub, Nat.reduceGT, Nat.reducePow, Nat.reduceLeDiff, Int.reduceToNat]) (by simp only [go_sem, reduceIte, Nat.reduceLT, Nat.reduceEqDiff, Nat.reduceAdd, Nat.reduceBEq, Nat.reduceMul, Nat.reduceSub, Nat.reduceGT, Nat.reducePow, Nat.reduceLeDiff, Int.reduceToNat]))
    · replace h := ite_f h hb
      refine run_exit ?_
      refine thenK_x ?_
      obtain rfl := Option.some.inj h
      have ex_x_2731 := hxx_2735 _ rfl
      subst ex_x_2731
      have h := hj_2733; clear hj_2733
      refine lpK_x ?_
      refine blockK_x ?_
      obtain rfl := Option.some.inj h
      exact joinK_n l_2720 rfl ((weak_sel (l' := [(5, .bs false 0 (l_2720.length) 0 (l_2720.length))]) (σ' := [.buf 32 (L (cArr u8 32) l_2720) false]) [1] (by decide) rfl (by simp only [go_sem, reduceIte, Nat.reduceLT, Nat.reduceEqDiff, Nat.reduceAdd, Nat.reduceBEq, Nat.reduceMul, Nat.reduceSub, Nat.reduceGT, Nat.reducePow, Nat.reduceLeDiff, Int.reduceToNat]) (by simp only [go_sem, reduceIte, Nat.reduceLT, Nat.reduceEqDiff, Nat.reduceAdd, Nat.reduceBEq, Nat.reduceMul, Nat.reduceSub, Nat.reduceGT, Nat.reducePow, Nat.reduceLeDiff, Int.reduceToNat])).trans (weak_sel [0] (by decide) rfl (by simp only [go_sem, reduceIte, Nat.reduceLT, Nat.reduceEqDiff, Nat.reduceAdd, Nat.reduceBEq, Nat.reduceMul, Nat.reduceSub, Nat.reduceGT, Nat.reducePow, Nat.reduceLeDiff, Int.reduceToNat]) (by simp only [go_sem, reduceIte, Nat.reduceLT, Nat.reduceEqDiff, Nat.reduceAdd, Nat.reduceBEq, Nat.reduceMul, Nat.reduceSub, Nat.reduceGT, Nat.reducePow, Nat.reduceLeDiff, Int.reduceToNat])))
  rintro l_2705 rfl
  have h := hj_2708; clear hj_2708
  refine run_textE hE [4] (fr' := [(4, .bs false 0 (l_2705.length) 0 (l_2705.length))]) (σ' := [.buf 32 (L (cArr u8 32) l_2705) false]) ⟨_, orcs_nil, ?_⟩ ?_
  · simp only [go_sem, reduceIte, Nat.reduceLT, Nat.reduceEqDiff, Nat.reduceAdd, Nat.reduceBEq, Nat.reduceMul, Nat.reduceSub, Nat.reduceGT, Nat.reducePow, Nat.reduceLeDiff, Int.reduceToNat]
  refine run_ret ?_
  obtain rfl := Option.some.inj h
  refine ret_ok (.inr rfl) ?_
  simp only [go_sem, reduceIte, Nat.reduceLT, Nat.reduceEqDiff, Nat.reduceAdd, Nat.reduceBEq, Nat.reduceMul, Nat.reduceSub, Nat.reduceGT, Nat.reducePow, Nat.reduceLeDiff, Int.reduceToNat]

theorem law02_DigestSumMatchesReference_con {b_2745 : List UInt8} {r : Bool} (h : law02_DigestSumMatchesReference b_2745 = some r) : Con B 3 [.sl false (L cU8 b_2745)] [] (fun r' σ' => r' = .bool r ∧ σ' = []) := by
  refine con_walk (N := 13) (rs := [.tmp 2]) ok Tryd.func3 rfl (by decide +kernel) rfl rfl (Nat.le_of_ble_eq_true rfl) (fun F => ?_)
  have hE := ok.env F
  unfold law02_DigestSumMatchesReference at h
  show Run (B.env F) 0 _ ⟨asFr 13 [(0, .sl false (L cU8 b_2745))], []⟩ _
  refine run_textE hE [0] (fr' := [(0, .sl false (L cU8 b_2745))]) (σ' := []) ⟨_, orcs_nil, ?_⟩ ?_
  · simp only [go_sem, reduceIte, Nat.reduceLT, Nat.reduceEqDiff, Nat.reduceAdd, Nat.reduceBEq, Nat.reduceMul, Nat.reduceSub, Nat.reduceGT, Nat.reducePow, Nat.reduceLeDiff, Int.reduceToNat]
  refine run_seq ?_
  replace h := bind_some1 h; obtain ⟨y_2746, hy_2747, h⟩ := h
  refine run_textE hE [0, 4] (fr' := [(0, .sl false (L cU8 b_2745)), (4, .bool ((!y_2746)))]) (σ' := []) ⟨_, orcs_ok (l := [(3, 11, [], .bool y_2746)]) ⟨law02_sane_con hy_2747, trivial⟩, ?_⟩ ?_
  · simp only [go_sem, reduceIte, Nat.reduceLT, Nat.reduceEqDiff, Nat.reduceAdd, Nat.reduceBEq, Nat.reduceMul, Nat.reduceSub, Nat.reduceGT, Nat.reducePow, Nat.reduceLeDiff, Int.reduceToNat]
  refine run_condL (b := (!y_2746)) rfl (by decide) (fun hb => ?_) (fun hb => ?_)
  · replace h := ite_t h hb
    refine run_textE hE [2] (fr' := [(2, .bool false)]) (σ' := []) ⟨_, orcs_nil, ?_⟩ ?_
    · simp only [go_sem, reduceIte, Nat.reduceLT, Nat.reduceEqDiff, Nat.reduceAdd, Nat.reduceBEq, Nat.reduceMul, Nat.reduceSub, Nat.reduceGT, Nat.reducePow, Nat.reduceLeDiff, Int.reduceToNat]
    refine run_ret ?_
    refine thenK_r ?_
    obtain rfl := Option.some.inj h
    refine ret_ok (.inr rfl) ?_
    simp only [go_sem, reduceIte, Nat.reduceLT, Nat.reduceEqDiff, Nat.reduceAdd, Nat.reduceBEq, Nat.reduceMul, Nat.reduceSub, Nat.reduceGT, Nat.reducePow, Nat.reduceLeDiff, Int.reduceToNat]
  · replace h := ite_f h hb
    refine run_skip ?_
    refine thenK_n ?_
    refine run_seq ?_
    refine run_textE hE [0, 7] (fr' := [(0, .sl false (L cU8 b_2745)), (7, .bool ((decide ((b_2745.length : Int) > 1000))))]) (σ' := []) ⟨_, orcs_nil, ?_⟩ ?_
    · simp only [go_sem, reduceIte, Nat.reduceLT, Nat.reduceEqDiff, Nat.reduceAdd, Nat.reduceBEq, Nat.reduceMul, Nat.reduceSub, Nat.reduceGT, Nat.reducePow, Nat.reduceLeDiff, Int.reduceToNat]
    refine run_condL (b := (decide ((b_2745.length : Int) > 1000))) rfl (by decide) (fun hb => ?_) (fun hb => ?_)
    · replace h := ite_t h hb
      refine run_textE hE [2] (fr' := [(2, .bool true)]) (σ' := []) ⟨_, orcs_nil, ?_⟩ ?_
      · simp only [go_sem, reduceIte, Nat.reduceLT, Nat.reduceEqDiff, Nat.reduceAdd, Nat.reduceBEq, Nat.reduceMul, Nat.reduceSub, Nat.reduceGT, Nat.reducePow, Nat.reduceLeDiff, Int.reduceToNat]
      refine run_ret ?_
      refine thenK_r ?_
      obtain rfl := Option.some.inj h
      refine ret_ok (.inr rfl) ?_
      simp only [go_sem, reduceIte, Nat.reduceLT, Nat.reduceEqDiff, Nat.reduceAdd, Nat.reduceBEq, Nat.reduceMul, Nat.reduceSub, Nat.reduceGT, Nat.reducePow, Nat.reduceLeDiff, Int.reduceToNat]
    · replace h := ite_f h hb
      refine run_skip ?_
      refine thenK_n ?_
      replace h := bind_some1 h; obtain ⟨y_2748, hy_2750, h⟩ := h
      replace h := bind_some1 h; obtain ⟨y_2749, hy_2751, h⟩ := h
      refine run_textE hE [2] (fr' := [(2, .bool ((y_2748 == y_2749)))]) (σ' := []) ⟨_, orcs_ok (l := [(9, 12, [.sl false (L cU8 b_2745)], .agg (C1 u8 y_2748.l)), (11, 13, [.sl false (L cU8 b_2745)], .agg (C1 u8 y_2749.l))]) ⟨digest_Sum_con hy_2750, r02_Sum_con hy_2751, trivial⟩, ?_⟩ ?_
      · simp only [go_sem, reduceIte, Nat.reduceLT, Nat.reduceEqDiff, Nat.reduceAdd, Nat.reduceBEq, Nat.reduceMul, Nat.reduceSub, Nat.reduceGT, Nat.reducePow, Nat.reduceLeDiff, Int.reduceToNat]
      refine run_ret ?_
      obtain rfl := Option.some.inj h
      refine ret_ok (.inr rfl) ?_
      simp only [go_sem, reduceIte, Nat.reduceLT, Nat.reduceEqDiff, Nat.reduceAdd, Nat.reduceBEq, Nat.reduceMul, Nat.reduceSub, Nat.reduceGT, Nat.reducePow, Nat.reduceLeDiff, Int.reduceToNat]

theorem law02_DigestMatchesReference_con {tag_2752 : List UInt8} {b_2753 : List UInt8} {d_2754 : Arr UInt8 32} {r : Bool} (h : law02_DigestMatchesReference tag_2752 b_2753 d_2754 = some r) : Con B 4 [.str tag_2752, .sl false (L cU8 b_2753), .agg (C1 u8 d_2754.l)] [] (fun r' σ' => r' = .bool r ∧ σ' = []) := by
  refine con_walk (N := 40) (rs := [.tmp 6]) ok Tryd.func4 rfl (by decide +kernel) rfl rfl (Nat.le_of_ble_eq_true rfl) (fun F => ?_)
  have hE := ok.env F
  unfold law02_DigestMatchesReference at h
  show Run (B.env F) 0 _ ⟨asFr 40 [(0, .str tag_2752), (1, .sl false (L cU8 b_2753)), (2, .agg (C1 u8 d_2754.l))], []⟩ _
  refine run_textE hE [0, 1, 5] (fr' := [(0, .str tag_2752), (1, .sl false (L cU8 b_2753)), (5, .ref 0 0)]) (σ' := [.box (C1 u8 d_2754.l) false]) ⟨_, orcs_nil, ?_⟩ ?_
  · simp only [go_sem, reduceIte, Nat.reduceLT, Nat.reduceEqDiff, Nat.reduceAdd, Nat.reduceBEq, Nat.reduceMul, Nat.reduceSub, Nat.reduceGT, Nat.reducePow, Nat.reduceLeDiff, Int.reduceToNat]
  refine run_seq ?_
  replace h := bind_some1 h; obtain ⟨y_2755, hy_2756, h⟩ := h
  refine run_textE hE [0, 1, 5, 8] (fr' := [(0, .str tag_2752), (1, .sl false (L cU8 b_2753)), (5, .ref 0 0), (8, .bool ((!y_2755)))]) (σ' := [.box (C1 u8 d_2754.l) false]) ⟨_, orcs_ok (l := [(7, 11, [], .bool y_2755)]) ⟨law02_sane_con hy_2756, trivial⟩, ?_⟩ ?_
  · simp only [go_sem, reduceIte, Nat.reduceLT, Nat.reduceEqDiff, Nat.reduceAdd, Nat.reduceBEq, Nat.reduceMul, Nat.reduceSub, Nat.reduceGT, Nat.reducePow, Nat.reduceLeDiff, Int.reduceToNat]
  refine run_condL (b := (!y_2755)) rfl (by decide) (fun hb => ?_) (fun hb => ?_)
  · replace h := ite_t h hb
    refine run_textE hE [6] (fr' := [(6, .bool false)]) (σ' := [.box (C1 u8 d_2754.l) false]) ⟨_, orcs_nil, ?_⟩ ?_
    · simp only [go_sem, reduceIte, Nat.reduceLT, Nat.reduceEqDiff, Nat.reduceAdd, Nat.reduceBEq, Nat.reduceMul, Nat.reduceSub, Nat.reduceGT, Nat.reducePow, Nat.reduceLeDiff, Int.reduceToNat]
    refine run_ret ?_
    refine thenK_r ?_
    obtain rfl := Option.some.inj h
    refine ret_ok (.inr rfl) ?_
    simp only [go_sem, reduceIte, Nat.reduceLT, Nat.reduceEqDiff, Nat.reduceAdd, Nat.reduceBEq, Nat.reduceMul, Nat.reduceSub, Nat.reduceGT, Nat.reducePow, Nat.reduceLeDiff, Int.reduceToNat]
  · replace h := ite_f h hb
    refine run_skip ?_
    refine thenK_n ?_
    refine run_seq ?_
    replace h := bind_some1 h; obtain ⟨t_2757, hv_2758, h⟩ := h
    refine run_textW hE [0, 1, 5, 16] (fr' := [(0, .str tag_2752), (1, .sl false (L cU8 b_2753)), (5, .ref 0 0), (16, .bool t_2757)]) (σ' := [.box (C1 u8 d_2754.l) false]) ?_ ?_
    · rcases Bool.eq_false_or_eq_true ((decide ((tag_2752.length : Int) > 600))) with hb_2759 | hb_2759
      · replace hv_2758 := ite_t hv_2758 hb_2759
        have e_hv_2758 := Option.some.inj hv_2758; subst e_hv_2758
        exact ⟨_, [(0, .str tag_2752), (1, .sl false (L cU8 b_2753)), (5, .ref 0 0), (16, .bool true)], [.box (C1 u8 d_2754.l) false], orcs_nil, by simp only [go_sem, reduceIte, Nat.reduceLT, Nat.reduceEqDiff, Nat.reduceAdd, Nat.reduceBEq, Nat.reduceMul, Nat.reduceSub, Nat.reduceGT, Nat.reducePow, Nat.reduceLeDiff, Int.reduceToNat, hb_2759], (weak_sel [0] (by decide) rfl (by simp only [go_sem, reduceIte, Nat.reduceLT, Nat.reduceEqDiff, Nat.reduceAdd, Nat.reduceBEq, Nat.reduceMul, Nat.reduceSub, Nat.reduceGT, Nat.reducePow, Nat.reduceLeDiff, Int.reduceToNat]) (by simp only [go_sem, reduceIte, Nat.reduceLT, Nat.reduceEqDiff, Nat.reduceAdd, Nat.reduceBEq, Nat.reduceMul, Nat.reduceSub, Nat.reduceGT, Nat.reducePow, Nat.reduceLeDiff, Int.reduceToNat]))⟩
      · replace hv_2758 := ite_f hv_2758 hb_2759
        have e_hv_2758 := Option.some.inj hv_2758; subst e_hv_2758
        exact ⟨_, [(0, .str tag_2752), (1, .sl false (L cU8 b_2753)), (5, .ref 0 0), (16, .bool ((decide ((b_2753.length : Int) > 600))))], [.box (C1 u8 d_2754.l) false], orcs_nil, by simp only [go_sem, reduceIte, Nat.reduceLT, Nat.reduceEqDiff, Nat.reduceAdd, Nat.reduceBEq, Nat.reduceMul, Nat.reduceSub, Nat.reduceGT, Nat.reducePow, Nat.reduceLeDiff, Int.reduceToNat, hb_2759], (weak_sel [0] (by decide) rfl (by simp only [go_sem, reduceIte, Nat.reduceLT, Nat.reduceEqDiff, Nat.reduceAdd, Nat.reduceBEq, Nat.reduceMul, Nat.reduceSub, Nat.reduceGT, Nat.reducePow, Nat.reduceLeDiff, Int.reduceToNat]) (by simp only [go_sem, reduceIte, Nat.reduceLT, Nat.reduceEqDiff, Nat.reduceAdd, Nat.reduceBEq, Nat.reduceMul, Nat.reduceSub, Nat.reduceGT, Nat.reducePow, Nat.reduceLeDiff, Int.reduceToNat]))⟩
    refine run_condL (b := t_2757) rfl (by decide) (fun hb => ?_) (fun hb => ?_)
    · replace h := ite_t h hb
      refine run_textE hE [6] (fr' := [(6, .bool true)]) (σ' := [.box (C1 u8 d_2754.l) false]) ⟨_, orcs_nil, ?_⟩ ?_
      · simp only [go_sem, reduceIte, Nat.reduceLT, Nat.reduceEqDiff, Nat.reduceAdd, Nat.reduceBEq, Nat.reduceMul, Nat.reduceSub, Nat.reduceGT, Nat.reducePow, Nat.reduceLeDiff, Int.reduceToNat]
      refine run_ret ?_
      refine thenK_r ?_
      obtain rfl := Option.some.inj h
      refine ret_ok (.inr rfl) ?_
      simp only [go_sem, reduceIte, Nat.reduceLT, Nat.reduceEqDiff, Nat.reduceAdd, Nat.reduceBEq, Nat.reduceMul, Nat.reduceSub, Nat.reduceGT, Nat.reducePow, Nat.reduceLeDiff, Int.reduceToNat]
    · replace h := ite_f h hb
      refine run_skip ?_
      refine thenK_n ?_
      replace h := bind_some1 h; obtain ⟨t_2766, hv_2767, h⟩ := h
      refine run_drawW hE mixed [[], [], [0, 1], [], [], [0, 1, 2, 3, 4], [0, 1, 2, 3, 4, 5], [0, 1, 2, 3, 4, 5, 6], [0, 1, 2, 3, 4, 5, 6, 7], [0, 1, 2, 3, 4, 5, 6, 7], [0, 1, 2, 3, 4, 5, 6, 7, 8, 9], [0, 1, 2, 3, 4, 5, 6, 7], [0, 1, 2, 3, 4, 5, 6, 7], [0, 1, 2, 3, 4, 5, 6, 7, 8, 9, 10, 11, 12], [0, 1, 2, 3, 4, 5, 6, 7, 8, 9, 10, 11, 12, 13], [0, 1, 2, 3, 4, 5, 6, 7, 8, 9, 10, 11, 12, 13, 14], [0, 1, 2, 3, 4, 5, 6, 7, 8, 9, 10, 11, 12, 13, 14, 15], [0, 1, 2, 3, 4, 5, 6, 7, 8, 9, 10, 11, 12, 13, 14, 15, 16], [0, 1, 2, 3, 4, 5, 6, 7, 8, 9, 10, 11, 12, 13, 14, 15, 16, 17], [0, 1, 2, 3, 4, 5, 6, 7, 8, 9, 10, 11, 12, 13, 14, 15, 16], [0, 1, 2, 3, 4, 5, 6, 7, 8, 9, 10, 11, 12, 13, 14, 15, 16, 17, 18, 19], [0, 1, 2, 3, 4, 5, 6, 7, 8, 9, 10, 11, 12, 13, 14, 15, 16, 17, 18, 19, 20], [0, 1, 2, 3, 4, 5, 6, 7, 8, 9, 10, 11, 12, 13, 14, 15, 16, 17, 18, 19, 20, 21], [0, 1, 2, 3, 4, 5, 6, 7, 8, 9, 10, 11, 12, 13, 14, 15, 16, 17, 18, 19, 20, 21, 22]] (by kernel_rfl) (by kernel_rfl) [6] (fr' := [(6, .bool t_2766)]) (σ' := []) ?_ ?_
      · replace hv_2767 := bind_some1 hv_2767; obtain ⟨y_2760, hy_2768, hv_2767⟩ := hv_2767
        replace hv_2767 := bind_some1 hv_2767; obtain ⟨y_2761, hy_2769, hv_2767⟩ := hv_2767
        rcases Bool.eq_false_or_eq_true ((y_2760 == y_2761)) with hb_2770 | hb_2770
        · replace hv_2767 := ite_t hv_2767 hb_2770
          replace hv_2767 := bind_some1 hv_2767; obtain ⟨y_2762, hy_2771, hv_2767⟩ := hv_2767
          replace hv_2767 := bind_some1 hv_2767; obtain ⟨y_2763, hy_2772, hv_2767⟩ := hv_2767
          rcases Bool.eq_false_or_eq_true ((y_2762 == y_2763)) with hb_2773 | hb_2773
          · replace hv_2767 := ite_t hv_2767 hb_2773
            replace hv_2767 := bind_some1 hv_2767; obtain ⟨y_2764, hy_2774, hv_2767⟩ := hv_2767
            replace hv_2767 := bind_some1 hv_2767; obtain ⟨y_2765, hy_2775, hv_2767⟩ := hv_2767
            have e_hv_2767 := Option.some.inj hv_2767; subst e_hv_2767
            exact ⟨_, [(6, .bool ((y_2764 == y_2765)))], [.box (C1 u8 d_2754.l) false], orcs_ok (l := [(19, 14, [.str tag_2752, .sl false (L cU8 b_2753)], .agg (C1 u8 y_2760.l)), (22, 15, [.str tag_2752, .sl false (L cU8 b_2753)], .agg (C1 u8 y_2761.l)), (27, 16, [.agg (C1 u8 d_2754.l), .sl false (L cU8 b_2753)], .agg (C1 u8 y_2762.l)), (30, 17, [.agg (C1 u8 d_2754.l), .sl false (L cU8 b_2753)], .agg (C1 u8 y_2763.l)), (35, 18, [.agg (C1 u8 d_2754.l)], u64 y_2764), (37, 19, [.agg (C1 u8 d_2754.l)], u64 y_2765)]) ⟨digest_Tagged_con hy_2768, r02_Tagged_con hy_2769, digest_Next_con hy_2771, r02_Next_con hy_2772, digest_Number_con hy_2774, r02_Number_con hy_2775, trivial⟩, by simp only [go_sem, reduceIte, Nat.reduceLT, Nat.reduceEqDiff, Nat.reduceAdd, Nat.reduceBEq, Nat.reduceMul, Nat.reduceSub, Nat.reduceGT, Nat.reducePow, Nat.reduceLeDiff, Int.reduceToNat, hb_2770, hb_2773], (weak_sel [] (by decide) rfl (by simp only [go_sem, reduceIte, Nat.reduceLT, Nat.reduceEqDiff, Nat.reduceAdd, Nat.reduceBEq, Nat.reduceMul, Nat.reduceSub, Nat.reduceGT, Nat.reducePow, Nat.reduceLeDiff, Int.reduceToNat]) (by simp only [go_sem, reduceIte, Nat.reduceLT, Nat.reduceEqDiff, Nat.reduceAdd, Nat.reduceBEq, Nat.reduceMul, Nat.reduceSub, Nat.reduceGT, Nat.reducePow, Nat.reduceLeDiff, Int.reduceToNat]))⟩
          · replace hv_2767 := ite_f hv_2767 hb_2773
            have e_hv_2767 := Option.some.inj hv_2767; subst e_hv_2767
            exact ⟨_, [(6, .bool false)], [.box (C1 u8 d_2754.l) false], orcs_ok (l := [(19, 14, [.str tag_2752, .sl false (L cU8 b_2753)], .agg (C1 u8 y_2760.l)), (22, 15, [.str tag_2752, .sl false (L cU8 b_2753)], .agg (C1 u8 y_2761.l)), (27, 16, [.agg (C1 u8 d_2754.l), .sl false (L cU8 b_2753)], .agg (C1 u8 y_2762.l)), (30, 17, [.agg (C1 u8 d_2754.l), .sl false (L cU8 b_2753)], .agg (C1 u8 y_2763.l))]) ⟨digest_Tagged_con hy_2768, r02_Tagged_con hy_2769, digest_Next_con hy_2771, r02_Next_con hy_2772, trivial⟩, by simp only [go_sem, reduceIte, Nat.reduceLT, Nat.reduceEqDiff, Nat.reduceAdd, Nat.reduceBEq, Nat.reduceMul, Nat.reduceSub, Nat.reduceGT, Nat.reducePow, Nat.reduceLeDiff, Int.reduceToNat, hb_2770, hb_2773], (weak_sel [] (by decide) rfl (by simp only [go_sem, reduceIte, Nat.reduceLT, Nat.reduceEqDiff, Nat.reduceAdd, Nat.reduceBEq, Nat.reduceMul, Nat.reduceSub, Nat.reduceGT, Nat.reducePow, Nat.reduceLeDiff, Int.reduceToNat]) (by simp only [go_sem, reduceIte, Nat.reduceLT, Nat.reduceEqDiff, Nat.reduceAdd, Nat.reduceBEq, Nat.reduceMul, Nat.reduceSub, Nat.reduceGT, Nat.reducePow, Nat.reduceLeDiff, Int.reduceToNat]))⟩
        · replace hv_2767 := ite_f hv_2767 hb_2770
          have e_hv_2767 := Option.some.inj hv_2767; subst e_hv_2767
          exact ⟨_, [(6, .bool false)], [.box (C1 u8 d_2754.l) false], orcs_ok (l := [(19, 14, [.str tag_2752, .sl false (L cU8 b_2753)], .agg (C1 u8 y_2760.l)), (22, 15, [.str tag_2752, .sl false (L cU8 b_2753)], .agg (C1 u8 y_2761.l))]) ⟨digest_Tagged_con hy_2768, r02_Tagged_con hy_2769, trivial⟩, by simp only [go_sem, reduceIte, Nat.reduceLT, Nat.reduceEqDiff, Nat.reduceAdd, Nat.reduceBEq, Nat.reduceMul, Nat.reduceSub, Nat.reduceGT, Nat.reducePow, Nat.reduceLeDiff, Int.reduceToNat, hb_2770], (weak_sel [] (by decide) rfl (by simp only [go_sem, reduceIte, Nat.reduceLT, Nat.reduceEqDiff, Nat.reduceAdd, Nat.reduceBEq, Nat.reduceMul, Nat.reduceSub, Nat.reduceGT, Nat.reducePow, Nat.reduceLeDiff, Int.reduceToNat]) (by simp only [go_sem, reduceIte, Nat.reduceLT, Nat.reduceEqDiff, Nat.reduceAdd, Nat.reduceBEq, Nat.reduceMul, Nat.reduceSub, Nat.reduceGT, Nat.reducePow, Nat.reduceLeDiff, Int.reduceToNat]))⟩
      refine run_ret ?_
      obtain rfl := Option.some.inj h
      refine ret_ok (.inr rfl) ?_
      simp only [go_sem, reduceIte, Nat.reduceLT, Nat.reduceEqDiff, Nat.reduceAdd, Nat.reduceBEq, Nat.reduceMul, Nat.reduceSub, Nat.reduceGT, Nat.reducePow, Nat.reduceLeDiff, Int.reduceToNat]

theorem law02_DigestTaggedIsSum_con {tag_2776 : List UInt8} {b_2777 : List UInt8} {d_2778 : Arr UInt8 32} {r : Bool} (h : law02_DigestTaggedIsSum tag_2776 b_2777 d_2778 = some r) : Con B 5 [.str tag_2776, .sl false (L cU8 b_2777), .agg (C1 u8 d_2778.l)] [] (fun r' σ' => r' = .bool r ∧ σ' = []) := by
  refine con_walk (N := 41) (rs := [.tmp 6]) ok Tryd.func5 rfl (by decide +kernel) rfl rfl (Nat.le_of_ble_eq_true rfl) (fun F => ?_)
  have hE := ok.env F
  unfold law02_DigestTaggedIsSum at h
  show Run (B.env F) 0 _ ⟨asFr 41 [(0, .str tag_2776), (1, .sl false (L cU8 b_2777)), (2, .agg (C1 u8 d_2778.l))], []⟩ _
  refine run_textE hE [0, 1, 5] (fr' := [(0, .str tag_2776), (1, .sl false (L cU8 b_2777)), (5, .ref 0 0)]) (σ' := [.box (C1 u8 d_2778.l) false]) ⟨_, orcs_nil, ?_⟩ ?_
  · simp only [go_sem, reduceIte, Nat.reduceLT, Nat.reduceEqDiff, Nat.reduceAdd, Nat.reduceBEq, Nat.reduceMul, Nat.reduceSub, Nat.reduceGT, Nat.reducePow, Nat.reduceLeDiff, Int.reduceToNat]
  refine run_seq ?_
  replace h := bind_some1 h; obtain ⟨y_2779, hy_2780, h⟩ := h
  refine run_textE hE [0, 1, 5, 9] (fr' := [(0, .str tag_2776), (1, .sl false (L cU8 b_2777)), (5, .ref 0 0), (9, .bool ((!y_2779)))]) (σ' := [.box (C1 u8 d_2778.l) false]) ⟨_, orcs_ok (l := [(8, 11, [], .bool y_2779)]) ⟨law02_sane_con hy_2780, trivial⟩, ?_⟩ ?_
  · simp only [go_sem, reduceIte, Nat.reduceLT, Nat.reduceEqDiff, Nat.reduceAdd, Nat.reduceBEq, Nat.reduceMul, Nat.reduceSub, Nat.reduceGT, Nat.reducePow, Nat.reduceLeDiff, Int.reduceToNat]
  refine run_condL (b := (!y_2779)) rfl (by decide) (fun hb => ?_) (fun hb => ?_)
  · replace h := ite_t h hb
    refine run_textE hE [6] (fr' := [(6, .bool false)]) (σ' := [.box (C1 u8 d_2778.l) false]) ⟨_, orcs_nil, ?_⟩ ?_
    · simp only [go_sem, reduceIte, Nat.reduceLT, Nat.reduceEqDiff, Nat.reduceAdd, Nat.reduceBEq, Nat.reduceMul, Nat.reduceSub, Nat.reduceGT, Nat.reducePow, Nat.reduceLeDiff, Int.reduceToNat]
    refine run_ret ?_
    refine thenK_r ?_
    obtain rfl := Option.some.inj h
    refine ret_ok (.inr rfl) ?_
    simp only [go_sem, reduceIte, Nat.reduceLT, Nat.reduceEqDiff, Nat.reduceAdd, Nat.reduceBEq, Nat.reduceMul, Nat.reduceSub, Nat.reduceGT, Nat.reducePow, Nat.reduceLeDiff, Int.reduceToNat]
  · replace h := ite_f h hb
    refine run_skip ?_
    refine thenK_n ?_
    refine run_seq ?_
    replace h := bind_some1 h; obtain ⟨t_2781, hv_2782, h⟩ := h
    refine run_textW hE [0, 1, 5, 17] (fr' := [(0, .str tag_2776), (1, .sl false (L cU8 b_2777)), (5, .ref 0 0), (17, .bool t_2781)]) (σ' := [.box (C1 u8 d_2778.l) false]) ?_ ?_
    · rcases Bool.eq_false_or_eq_true ((decide ((tag_2776.length : Int) > 600))) with hb_2783 | hb_2783
      · replace hv_2782 := ite_t hv_2782 hb_2783
        have e_hv_2782 := Option.some.inj hv_2782; subst e_hv_2782
        exact ⟨_, [(0, .str tag_2776), (1, .sl false (L cU8 b_2777)), (5, .ref 0 0), (17, .bool true)], [.box (C1 u8 d_2778.l) false], orcs_nil, by simp only [go_sem, reduceIte, Nat.reduceLT, Nat.reduceEqDiff, Nat.reduceAdd, Nat.reduceBEq, Nat.reduceMul, Nat.reduceSub, Nat.reduceGT, Nat.reducePow, Nat.reduceLeDiff, Int.reduceToNat, hb_2783], (weak_sel [0] (by decide) rfl (by simp only [go_sem, reduceIte, Nat.reduceLT, Nat.reduceEqDiff, Nat.reduceAdd, Nat.reduceBEq, Nat.reduceMul, Nat.reduceSub, Nat.reduceGT, Nat.reducePow, Nat.reduceLeDiff, Int.reduceToNat]) (by simp only [go_sem, reduceIte, Nat.reduceLT, Nat.reduceEqDiff, Nat.reduceAdd, Nat.reduceBEq, Nat.reduceMul, Nat.reduceSub, Nat.reduceGT, Nat.reducePow, Nat.reduceLeDiff, Int.reduceToNat]))⟩
      · replace hv_2782 := ite_f hv_2782 hb_2783
        have e_hv_2782 := Option.some.inj hv_2782; subst e_hv_2782
        exact ⟨_, [(0, .str tag_2776), (1, .sl false (L cU8 b_2777)), (5, .ref 0 0), (17, .bool ((decide ((b_2777.length : Int) > 600))))], [.box (C1 u8 d_2778.l) false], orcs_nil, by simp only [go_sem, reduceIte, Nat.reduceLT, Nat.reduceEqDiff, Nat.reduceAdd, Nat.reduceBEq, Nat.reduceMul, Nat.reduceSub, Nat.reduceGT, Nat.reducePow, Nat.reduceLeDiff, Int.reduceToNat, hb_2783], (weak_sel [0] (by decide) rfl (by simp only [go_sem, reduceIte, Nat.reduceLT, Nat.reduceEqDiff, Nat.reduceAdd, Nat.reduceBEq, Nat.reduceMul, Nat.reduceSub, Nat.reduceGT, Nat.reducePow, Nat.reduceLeDiff, Int.reduceToNat]) (by simp only [go_sem, reduceIte, Nat.reduceLT, Nat.reduceEqDiff, Nat.reduceAdd, Nat.reduceBEq, Nat.reduceMul, Nat.reduceSub, Nat.reduceGT, Nat.reducePow, Nat.reduceLeDiff, Int.reduceToNat]))⟩
    refine run_condL (b := t_2781) rfl (by decide) (fun hb => ?_) (fun hb => ?_)
    · replace h := ite_t h hb
      refine run_textE hE [6] (fr' := [(6, .bool true)]) (σ' := [.box (C1 u8 d_2778.l) false]) ⟨_, orcs_nil, ?_⟩ ?_
      · simp only [go_sem, reduceIte, Nat.reduceLT, Nat.reduceEqDiff, Nat.reduceAdd, Nat.reduceBEq, Nat.reduceMul, Nat.reduceSub, Nat.reduceGT, Nat.reducePow, Nat.reduceLeDiff, Int.reduceToNat]
      refine run_ret ?_
      refine thenK_r ?_
      obtain rfl := Option.some.inj h
      refine ret_ok (.inr rfl) ?_
      simp only [go_sem, reduceIte, Nat.reduceLT, Nat.reduceEqDiff, Nat.reduceAdd, Nat.reduceBEq, Nat.reduceMul, Nat.reduceSub, Nat.reduceGT, Nat.reducePow, Nat.reduceLeDiff, Int.reduceToNat]
    · replace h := ite_f h hb
      refine run_skip ?_
      refine thenK_n ?_
      replace h := lt1_some h; obtain ⟨l_2784, hz_2785, h⟩ := h
      refine run_textE hE [0, 1, 5, 7] (fr' := [(0, .str tag_2776), (1, .sl false (L cU8 b_2777)), (5, .ref 0 0), (7, .bs true 1 (l_2784.length) 0 (l_2784.length))]) (σ' := [.box (C1 u8 d_2778.l) false, .buf 1 (L cU8 l_2784) false]) ⟨_, orcs_nil, ?_⟩ ?_
      · subst hz_2785; simp only [go_sem, reduceIte, Nat.reduceLT, Nat.reduceEqDiff, Nat.reduceAdd, Nat.reduceBEq, Nat.reduceMul, Nat.reduceSub, Nat.reduceGT, Nat.reducePow, Nat.reduceLeDiff, Int.reduceToNat]
      replace h := chk_some h; obtain ⟨hc_2786, h⟩ := h
      replace h := lt1_some h; obtain ⟨l_2787, hz_2788, h⟩ := h
      refine run_textE hE [0, 1, 5, 7] (fr' := [(0, .str tag_2776), (1, .sl false (L cU8 b_2777)), (5, .ref 0 0), (7, .bs false 1 (l_2787.length) 0 (l_2787.length))]) (σ' := [.box (C1 u8 d_2778.l) true, .buf 1 (L cU8 l_2787) false]) ⟨_, orcs_nil, ?_⟩ ?_
      · subst hz_2788; simp only [go_sem, reduceIte, Nat.reduceLT, Nat.reduceEqDiff, Nat.reduceAdd, Nat.reduceBEq, Nat.reduceMul, Nat.reduceSub, Nat.reduceGT, Nat.reducePow, Nat.reduceLeDiff, Int.reduceToNat, hc_2786]
      replace h := chk_some h; obtain ⟨hc_2789, h⟩ := h
      replace h := lt1_some h; obtain ⟨l_2790, hz_2791, h⟩ := h
      refine run_textE hE [0, 1, 5, 7] (fr' := [(0, .str tag_2776), (1, .sl false (L cU8 b_2777)), (5, .ref 0 0), (7, .bs false 1 (l_2790.length) 0 (l_2790.length))]) (σ' := [.box (C1 u8 d_2778.l) true, .buf 1 (L cU8 l_2790) false]) ⟨_, orcs_nil, ?_⟩ ?_
      · subst hz_2791; simp only [go_sem, reduceIte, Nat.reduceLT, Nat.reduceEqDiff, Nat.reduceAdd, Nat.reduceBEq, Nat.reduceMul, Nat.reduceSub, Nat.reduceGT, Nat.reducePow, Nat.reduceLeDiff, Int.reduceToNat, hc_2789]
      replace h := bind_some1 h; obtain ⟨t_2797, hv_2798, h⟩ := h
      refine run_textW hE [6] (fr' := [(6, .bool t_2797)]) (σ' := []) ?_ ?_
      · replace hv_2798 := bind_some1 hv_2798; obtain ⟨y_2792, hy_2799, hv_2798⟩ := hv_2798
        replace hv_2798 := bind_some1 hv_2798; obtain ⟨y_2793, hy_2800, hv_2798⟩ := hv_2798
        replace hv_2798 := bind_some1 hv_2798; obtain ⟨y_2794, hy_2801, hv_2798⟩ := hv_2798
        rcases Bool.eq_false_or_eq_true ((y_2792 == y_2794)) with hb_2802 | hb_2802
        · replace hv_2798 := ite_t hv_2798 hb_2802
          replace hv_2798 := bind_some1 hv_2798; obtain ⟨y_2795, hy_2803, hv_2798⟩ := hv_2798
          replace hv_2798 := bind_some1 hv_2798; obtain ⟨y_2796, hy_2804, hv_2798⟩ := hv_2798
          have e_hv_2798 := Option.some.inj hv_2798; subst e_hv_2798
          exact ⟨_, [(6, .bool ((y_2795 == y_2796)))], [.box (C1 u8 d_2778.l) true, .buf 1 (L cU8 l_2790) false], orcs_ok (l := [(27, 14, [.str tag_2776, .sl false (L cU8 b_2777)], .agg (C1 u8 y_2792.l)), (30, 20, [.str tag_2776, .sl false (L cU8 b_2777)], .sl false (L cU8 y_2793)), (31, 12, [.sl false (L cU8 y_2793)], .agg (C1 u8 y_2794.l)), (36, 16, [.agg (C1 u8 d_2778.l), .sl false (L cU8 b_2777)], .agg (C1 u8 y_2795.l)), (38, 14, [.str (([110, 101, 120, 116] : List UInt8)), .sl false (L cU8 l_2790)], .agg (C1 u8 y_2796.l))]) ⟨digest_Tagged_con hy_2799, r02_Hashed_con hy_2800, digest_Sum_con hy_2801, digest_Next_con hy_2803, digest_Tagged_con hy_2804, trivial⟩, by simp only [go_sem, reduceIte, Nat.reduceLT, Nat.reduceEqDiff, Nat.reduceAdd, Nat.reduceBEq, Nat.reduceMul, Nat.reduceSub, Nat.reduceGT, Nat.reducePow, Nat.reduceLeDiff, Int.reduceToNat, hb_2802], (weak_sel [] (by decide) rfl (by simp only [go_sem, reduceIte, Nat.reduceLT, Nat.reduceEqDiff, Nat.reduceAdd, Nat.reduceBEq, Nat.reduceMul, Nat.reduceSub, Nat.reduceGT, Nat.reducePow, Nat.reduceLeDiff, Int.reduceToNat]) (by simp only [go_sem, reduceIte, Nat.reduceLT, Nat.reduceEqDiff, Nat.reduceAdd, Nat.reduceBEq, Nat.reduceMul, Nat.reduceSub, Nat.reduceGT, Nat.reducePow, Nat.reduceLeDiff, Int.reduceToNat]))⟩
        · replace hv_2798 := ite_f hv_2798 hb_2802
          have e_hv_2798 := Option.some.inj hv_2798; subst e_hv_2798
          exact ⟨_, [(6, .bool false)], [.box (C1 u8 d_2778.l) true, .buf 1 (L cU8 l_2790) false], orcs_ok (l := [(27, 14, [.str tag_2776, .sl false (L cU8 b_2777)], .agg (C1 u8 y_2792.l)), (30, 20, [.str tag_2776, .sl false (L cU8 b_2777)], .sl false (L cU8 y_2793)), (31, 12, [.sl false (L cU8 y_2793)], .agg (C1 u8 y_2794.l))]) ⟨digest_Tagged_con hy_2799, r02_Hashed_con hy_2800, digest_Sum_con hy_2801, trivial⟩, by simp only [go_sem, reduceIte, Nat.reduceLT, Nat.reduceEqDiff, Nat.reduceAdd, Nat.reduceBEq, Nat.reduceMul, Nat.reduceSub, Nat.reduceGT, Nat.reducePow, Nat.reduceLeDiff, Int.reduceToNat, hb_2802], (weak_sel [] (by decide) rfl (by simp only [go_sem, reduceIte, Nat.reduceLT, Nat.reduceEqDiff, Nat.reduceAdd, Nat.reduceBEq, Nat.reduceMul, Nat.reduceSub, Nat.reduceGT, Nat.reducePow, Nat.reduceLeDiff, Int.reduceToNat]) (by simp only [go_sem, reduceIte, Nat.reduceLT, Nat.reduceEqDiff, Nat.reduceAdd, Nat.reduceBEq, Nat.reduceMul, Nat.reduceSub, Nat.reduceGT, Nat.reducePow, Nat.reduceLeDiff, Int.reduceToNat]))⟩
      refine run_ret ?_
      obtain rfl := Option.some.inj h
      refine ret_ok (.inr rfl) ?_
      simp only [go_sem, reduceIte, Nat.reduceLT, Nat.reduceEqDiff, Nat.reduceAdd, Nat.reduceBEq, Nat.reduceMul, Nat.reduceSub, Nat.reduceGT, Nat.reducePow, Nat.reduceLeDiff, Int.reduceToNat]

end Go.Proofs.YtgdiabbgiiemcaaDoor
