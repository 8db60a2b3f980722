/-
  The functions compute just that.
-/
import Derived.Test.YtgdiabbgiiemcaaDoorDW8
import Derived.KernelRfl
namespace Go.Proofs.YtgdiabbgiiemcaaDoor
open Go.Rv
set_option linter.unusedVariables false
set_option linter.unusedSimpArgs false
set_option maxRecDepth 20000

theorem r02_Number_con {d_2701 : Arr UInt8 32} {r : UInt64} (h : r02_Number d_2701 = some r) : Con B 19 [.agg (C1 u8 d_2701.l)] [] (fun r' σ' => r' = u64 r ∧ σ' = []) := by
  refine con_walk (N := 17) (rs := [.tmp 2]) ok Tryd.func19 rfl (by decide +kernel) rfl rfl (Nat.le_of_ble_eq_true rfl) (fun F => ?_)
  have hE := ok.env F
  unfold r02_Number at h
  show Run (B.env F) 0 _ ⟨asFr 17 [(0, .agg (C1 u8 d_2701.l))], []⟩ _
  refine run_textE hE [1] (fr' := [(1, .ref 0 0)]) (σ' := [.box (C1 u8 d_2701.l) false]) ⟨_, orcs_nil, ?_⟩ ?_
  · simp only [go_sem, reduceIte, Nat.reduceLT, Nat.reduceEqDiff, Nat.reduceAdd, Nat.reduceBEq, Nat.reduceMul, Nat.reduceSub, Nat.reduceGT, Nat.reducePow, Nat.reduceLeDiff, Int.reduceToNat]
  refine run_textE hE [1, 3] (fr' := [(1, .ref 0 0), (3, u64 ((0 : UInt64)))]) (σ' := [.box (C1 u8 d_2701.l) false]) ⟨_, orcs_nil, ?_⟩ ?_
  · simp only [go_sem, reduceIte, Nat.reduceLT, Nat.reduceEqDiff, Nat.reduceAdd, Nat.reduceBEq, Nat.reduceMul, Nat.reduceSub, Nat.reduceGT, Nat.reducePow, Nat.reduceLeDiff, Int.reduceToNat]
  replace h := bind_some1 h; obtain ⟨j_2720, hA_2721, hj_2722⟩ := h
  refine run_join (fun (v : UInt64) => (⟨asFr 17 [(3, u64 v)], []⟩ : St)) (fun v => v = j_2720) ?_ ?_
  · have h := hA_2721; clear hA_2721
    refine run_textE hE [1, 3, 4] (fr' := [(1, .ref 0 0), (3, u64 ((0 : UInt64))), (4, i64 0)]) (σ' := [.box (C1 u8 d_2701.l) false]) ⟨_, orcs_nil, ?_⟩ ?_
    · simp only [go_sem, reduceIte, Nat.reduceLT, Nat.reduceEqDiff, Nat.reduceAdd, Nat.reduceBEq, Nat.reduceMul, Nat.reduceSub, Nat.reduceGT, Nat.reducePow, Nat.reduceLeDiff, Int.reduceToNat]
    refine run_block ?_
    replace h := bind_some1 h; obtain ⟨x_2732, hx_2733, hj_2734⟩ := h
    refine run_loopO hx_2733 (fun (v : UInt64 × Int) => (⟨asFr 17 [(1, .ref 0 0), (3, u64 v.1), (4, i64 v.2)], [.box (C1 u8 d_2701.l) false]⟩ : St)) (weak_sel [0] (by decide) rfl (by simp only [go_sem, reduceIte, Nat.reduceLT, Nat.reduceEqDiff, Nat.reduceAdd, Nat.reduceBEq, Nat.reduceMul, Nat.reduceSub, Nat.reduceGT, Nat.reducePow, Nat.reduceLeDiff, Int.reduceToNat]) (by simp only [go_sem, reduceIte, Nat.reduceLT, Nat.reduceEqDiff, Nat.reduceAdd, Nat.reduceBEq, Nat.reduceMul, Nat.reduceSub, Nat.reduceGT, Nat.reducePow, Nat.reduceLeDiff, Int.reduceToNat])) ?_
    rintro ⟨n_2726, i_2727⟩ o_2735 h hxx_2736
    replace h : r02_Number_b1 d_2701 n_2726 i_2727 = some o_2735 := h
    unfold r02_Number_b1 at h
    refine run_seq ?_
    refine run_textE hE [1, 3, 4, 6] (fr' := [(1, .ref 0 0), (3, u64 n_2726), (4, i64 i_2727), (6, .bool ((decide (i_2727 < 8))))]) (σ' := [.box (C1 u8 d_2701.l) false]) ⟨_, orcs_nil, ?_⟩ ?_
    · simp only [go_sem, reduceIte, Nat.reduceLT, Nat.reduceEqDiff, Nat.reduceAdd, Nat.reduceBEq, Nat.reduceMul, Nat.reduceSub, Nat.reduceGT, Nat.reducePow, Nat.reduceLeDiff, Int.reduceToNat]
    refine run_condL (b := (decide (i_2727 < 8))) rfl (by decide) (fun hb => ?_) (fun hb => ?_)
    · replace h := ite_t h hb
      refine run_skip ?_
      refine thenK_n ?_
      refine run_seq ?_
      refine run_block ?_
      replace h := chk_some h; obtain ⟨hc_2737, h⟩ := h
      replace h := lt1_some h; obtain ⟨n_2738, hz_2739, h⟩ := h
      refine run_textE0 hE (wk_block wk_then) [1, 3, 4] (fr' := [(1, .ref 0 0), (3, u64 n_2738), (4, i64 i_2727)]) (σ' := [.box (C1 u8 d_2701.l) false]) ⟨_, orcs_nil, ?_⟩ ?_
      · subst hz_2739; simp only [go_sem, reduceIte, Nat.reduceLT, Nat.reduceEqDiff, Nat.reduceAdd, Nat.reduceBEq, Nat.reduceMul, Nat.reduceSub, Nat.reduceGT, Nat.reducePow, Nat.reduceLeDiff, Int.reduceToNat, hc_2737, hc_2737.2, lt_le hc_2737.2]
      refine blockK_n ?_
      refine thenK_n ?_
      refine run_textE0 hE wk_lp [1, 3, 4] (fr' := [(1, .ref 0 0), (3, u64 n_2738), (4, i64 ((w64 (i_2727 + 1))))]) (σ' := [.box (C1 u8 d_2701.l) false]) ⟨_, orcs_nil, ?_⟩ ?_
      · simp only [go_sem, reduceIte, Nat.reduceLT, Nat.reduceEqDiff, Nat.reduceAdd, Nat.reduceBEq, Nat.reduceMul, Nat.reduceSub, Nat.reduceGT, Nat.reducePow, Nat.reduceLeDiff, Int.reduceToNat]
      obtain rfl := Option.some.inj h
      exact lpK_n ((n_2738, (w64 (i_2727 + 1)))) rfl (weak_sel [0] (by decide) rfl (by simp only [go_sem, reduceIte, Nat.reduceLT, Nat.reduceEqDiff, Nat.reduceAdd, Nat.reduceBEq, Nat.reduceMul, Nat.reduceSub, Nat.reduceGT, Nat.reducePow, Nat.reduceLeDiff, Int.reduceToNat]) (by simp only [go_sem, reduceIte, Nat.reduceLT, Nat.reduceEqDiff, Nat.reduceAdd, Nat.reduceBEq, Nat.reduceMul, Nat.reduceSub, Nat.reduceGT, Nat.reducePow, Nat.reduceLeDiff, Int.reduceToNat]))
    · replace h := ite_f h hb
      refine run_exit ?_
      refine thenK_x ?_
      obtain rfl := Option.some.inj h
      have ex_x_2732 := hxx_2736 _ rfl
      subst ex_x_2732
      have h := hj_2734; clear hj_2734
      refine lpK_x ?_
      refine blockK_x ?_
      obtain rfl := Option.some.inj h
      exact joinK_n n_2726 rfl ((weak_sel (l' := [(3, u64 n_2726)]) (σ' := []) [] (by decide) rfl (by simp only [go_sem, reduceIte, Nat.reduceLT, Nat.reduceEqDiff, Nat.reduceAdd, Nat.reduceBEq, Nat.reduceMul, Nat.reduceSub, Nat.reduceGT, Nat.reducePow, Nat.reduceLeDiff, Int.reduceToNat]) (by simp only [go_sem, reduceIte, Nat.reduceLT, Nat.reduceEqDiff, Nat.reduceAdd, Nat.reduceBEq, Nat.reduceMul, Nat.reduceSub, Nat.reduceGT, Nat.reducePow, Nat.reduceLeDiff, Int.reduceToNat])).trans (weak_sel [] (by decide) rfl (by simp only [go_sem, reduceIte, Nat.reduceLT, Nat.reduceEqDiff, Nat.reduceAdd, Nat.reduceBEq, Nat.reduceMul, Nat.reduceSub, Nat.reduceGT, Nat.reducePow, Nat.reduceLeDiff, Int.reduceToNat]) (by simp only [go_sem, reduceIte, Nat.reduceLT, Nat.reduceEqDiff, Nat.reduceAdd, Nat.reduceBEq, Nat.reduceMul, Nat.reduceSub, Nat.reduceGT, Nat.reducePow, Nat.reduceLeDiff, Int.reduceToNat])))
  rintro n_2719 rfl
  have h := hj_2722; clear hj_2722
  refine run_textE hE [2] (fr' := [(2, u64 n_2719)]) (σ' := []) ⟨_, orcs_nil, ?_⟩ ?_
  · simp only [go_sem, reduceIte, Nat.reduceLT, Nat.reduceEqDiff, Nat.reduceAdd, Nat.reduceBEq, Nat.reduceMul, Nat.reduceSub, Nat.reduceGT, Nat.reducePow, Nat.reduceLeDiff, Int.reduceToNat]
  refine run_ret ?_
  obtain rfl := Option.some.inj h
  refine ret_ok (.inr rfl) ?_
  simp only [go_sem, reduceIte, Nat.reduceLT, Nat.reduceEqDiff, Nat.reduceAdd, Nat.reduceBEq, Nat.reduceMul, Nat.reduceSub, Nat.reduceGT, Nat.reducePow, Nat.reduceLeDiff, Int.reduceToNat]

theorem r02_Same_con {a_2740 : List UInt8} {b_2741 : List UInt8} {r : Bool} (h : r02_Same a_2740 b_2741 = some r) : Con B 21 [.sl false (L cU8 a_2740), .sl false (L cU8 b_2741)] [] (fun r' σ' => r' = .bool r ∧ σ' = []) := by
  refine con_walk (N := 10) (rs := [.tmp 4]) ok Tryd.func21 rfl (by decide +kernel) rfl rfl (Nat.le_of_ble_eq_true rfl) (fun F => ?_)
  have hE := ok.env F
  unfold r02_Same at h
  show Run (B.env F) 0 _ ⟨asFr 10 [(0, .sl false (L cU8 a_2740)), (1, .sl false (L cU8 b_2741))], []⟩ _
  refine run_textE hE [0, 1] (fr' := [(0, .sl false (L cU8 a_2740)), (1, .sl false (L cU8 b_2741))]) (σ' := []) ⟨_, orcs_nil, ?_⟩ ?_
  · simp only [go_sem, reduceIte, Nat.reduceLT, Nat.reduceEqDiff, Nat.reduceAdd, Nat.reduceBEq, Nat.reduceMul, Nat.reduceSub, Nat.reduceGT, Nat.reducePow, Nat.reduceLeDiff, Int.reduceToNat]
  refine run_textE hE [4] (fr' := [(4, .bool ((a_2740 == b_2741)))]) (σ' := []) ⟨_, orcs_nil, ?_⟩ ?_
  · simp only [go_sem, reduceIte, Nat.reduceLT, Nat.reduceEqDiff, Nat.reduceAdd, Nat.reduceBEq, Nat.reduceMul, Nat.reduceSub, Nat.reduceGT, Nat.reducePow, Nat.reduceLeDiff, Int.reduceToNat]
  refine run_ret ?_
  obtain rfl := Option.some.inj h
  refine ret_ok (.inr rfl) ?_
  simp only [go_sem, reduceIte, Nat.reduceLT, Nat.reduceEqDiff, Nat.reduceAdd, Nat.reduceBEq, Nat.reduceMul, Nat.reduceSub, Nat.reduceGT, Nat.reducePow, Nat.reduceLeDiff, Int.reduceToNat]

theorem digest_Value_con {tag_2742 : List UInt8} {v_2743 : Api_Value} {r : Arr UInt8 32 × Int} (h : digest_Value tag_2742 v_2743 = some r) : Con B 23 [.str tag_2742, .agg [i64 v_2743.Kind, i64 v_2743.N, .sl false (L cU8 v_2743.B), .sl false (L cApi_Value v_2743.L)]] [] (fun r' σ' => r' = .tup [.agg (C1 u8 r.1.l), i64 r.2] ∧ σ' = []) := by
  refine con_walk (N := 19) (rs := [.cell 4 25, .tmp 5]) ok Tryd.func23 rfl (by decide +kernel) rfl rfl (Nat.le_of_ble_eq_true rfl) (fun F => ?_)
  have hE := ok.env F
  unfold digest_Value at h
  show Run (B.env F) 0 _ ⟨asFr 19 [(0, .str tag_2742), (1, .agg [i64 v_2743.Kind, i64 v_2743.N, .sl false (L cU8 v_2743.B), .sl false (L cApi_Value v_2743.L)])], []⟩ _
  refine run_textE hE [0, 3, 4] (fr' := [(0, .str tag_2742), (3, .ref 0 0), (4, .ref 1 0)]) (σ' := [.box [i64 v_2743.Kind, i64 v_2743.N, .sl false (L cU8 v_2743.B), .sl false (L cApi_Value v_2743.L)] false, .box (C1 u8 ((Arr.rep 32 (0 : UInt8))).l) false]) ⟨_, orcs_nil, ?_⟩ ?_
  · simp only [go_sem, reduceIte, Nat.reduceLT, Nat.reduceEqDiff, Nat.reduceAdd, Nat.reduceBEq, Nat.reduceMul, Nat.reduceSub, Nat.reduceGT, Nat.reducePow, Nat.reduceLeDiff, Int.reduceToNat]
  replace h := bind_some1 h; obtain ⟨y_2744, hy_2745, h⟩ := h
  refine run_textE hE [0, 4, 5, 6] (fr' := [(0, .str tag_2742), (4, .ref 1 0), (5, i64 y_2744.2), (6, .sl false (L cU8 y_2744.1))]) (σ' := [.box [i64 v_2743.Kind, i64 v_2743.N, .sl false (L cU8 v_2743.B), .sl false (L cApi_Value v_2743.L)] false, .box (C1 u8 ((Arr.rep 32 (0 : UInt8))).l) false]) ⟨_, orcs_ok (l := [(9, 22, [.agg [i64 v_2743.Kind, i64 v_2743.N, .sl false (L cU8 v_2743.B), .sl false (L cApi_Value v_2743.L)]], .tup [.sl false (L cU8 y_2744.1), i64 y_2744.2])]) ⟨codec_Encode_con hy_2745, trivial⟩, ?_⟩ ?_
  · simp only [go_sem, reduceIte, Nat.reduceLT, Nat.reduceEqDiff, Nat.reduceAdd, Nat.reduceBEq, Nat.reduceMul, Nat.reduceSub, Nat.reduceGT, Nat.reducePow, Nat.reduceLeDiff, Int.reduceToNat]
  refine run_seq ?_
  refine run_textE hE [0, 4, 5, 6, 13] (fr' := [(0, .str tag_2742), (4, .ref 1 0), (5, i64 y_2744.2), (6, .sl false (L cU8 y_2744.1)), (13, .bool ((y_2744.2 != 0)))]) (σ' := [.box [i64 v_2743.Kind, i64 v_2743.N, .sl false (L cU8 v_2743.B), .sl false (L cApi_Value v_2743.L)] false, .box (C1 u8 ((Arr.rep 32 (0 : UInt8))).l) false]) ⟨_, orcs_nil, ?_⟩ ?_
  · simp only [go_sem, reduceIte, Nat.reduceLT, Nat.reduceEqDiff, Nat.reduceAdd, Nat.reduceBEq, Nat.reduceMul, Nat.reduceSub, Nat.reduceGT, Nat.reducePow, Nat.reduceLeDiff, Int.reduceToNat]
  refine run_condL (b := (y_2744.2 != 0)) rfl (by decide) (fun hb => ?_) (fun hb => ?_)
  · replace h := ite_t h hb
    replace h := lt1_some h; obtain ⟨f_2746, hz_2747, h⟩ := h
    refine run_textE hE [4, 5] (fr' := [(4, .ref 1 0), (5, i64 y_2744.2)]) (σ' := [.box [i64 v_2743.Kind, i64 v_2743.N, .sl false (L cU8 v_2743.B), .sl false (L cApi_Value v_2743.L)] false, .box (C1 u8 f_2746.l) false]) ⟨_, orcs_nil, ?_⟩ ?_
    · subst hz_2747; simp only [go_sem, reduceIte, Nat.reduceLT, Nat.reduceEqDiff, Nat.reduceAdd, Nat.reduceBEq, Nat.reduceMul, Nat.reduceSub, Nat.reduceGT, Nat.reducePow, Nat.reduceLeDiff, Int.reduceToNat, C1_rep, C1_nil, C1_cons]
    refine run_ret ?_
    refine thenK_r ?_
    obtain rfl := Option.some.inj h
    refine ret_ok (.inr rfl) ?_
    simp only [go_sem, reduceIte, Nat.reduceLT, Nat.reduceEqDiff, Nat.reduceAdd, Nat.reduceBEq, Nat.reduceMul, Nat.reduceSub, Nat.reduceGT, Nat.reducePow, Nat.reduceLeDiff, Int.reduceToNat]
  · replace h := ite_f h hb
    refine run_skip ?_
    refine thenK_n ?_
    replace h := bind_some1 h; obtain ⟨y_2748, hy_2749, h⟩ := h
    refine run_textE hE [4, 5] (fr' := [(4, .ref 1 0), (5, i64 0)]) (σ' := [.box [i64 v_2743.Kind, i64 v_2743.N, .sl false (L cU8 v_2743.B), .sl false (L cApi_Value v_2743.L)] false, .box (C1 u8 y_2748.l) false]) ⟨_, orcs_ok (l := [(18, 14, [.str tag_2742, .sl false (L cU8 y_2744.1)], .agg (C1 u8 y_2748.l))]) ⟨digest_Tagged_con hy_2749, trivial⟩, ?_⟩ ?_
    · simp only [go_sem, reduceIte, Nat.reduceLT, Nat.reduceEqDiff, Nat.reduceAdd, Nat.reduceBEq, Nat.reduceMul, Nat.reduceSub, Nat.reduceGT, Nat.reducePow, Nat.reduceLeDiff, Int.reduceToNat]
    refine run_ret ?_
    obtain rfl := Option.some.inj h
    refine ret_ok (.inr rfl) ?_
    simp only [go_sem, reduceIte, Nat.reduceLT, Nat.reduceEqDiff, Nat.reduceAdd, Nat.reduceBEq, Nat.reduceMul, Nat.reduceSub, Nat.reduceGT, Nat.reducePow, Nat.reduceLeDiff, Int.reduceToNat]

theorem law02_vector_con {d_2750 : Arr UInt8 32} {a_2751 : UInt8} {b_2752 : UInt8} {c_2753 : UInt8} {e_2754 : UInt8} {last_2755 : UInt8} {r : Bool} (h : law02_vector d_2750 a_2751 b_2752 c_2753 e_2754 last_2755 = some r) : Con B 27 [.agg (C1 u8 d_2750.l), u8 a_2751, u8 b_2752, u8 c_2753, u8 e_2754, u8 last_2755] [] (fun r' σ' => r' = .bool r ∧ σ' = []) := by
  refine con_walk (N := 41) (rs := [.tmp 12]) ok Tryd.func27 rfl (by decide +kernel) rfl rfl (Nat.le_of_ble_eq_true rfl) (fun F => ?_)
  have hE := ok.env F
  unfold law02_vector at h
  show Run (B.env F) 0 _ ⟨asFr 41 [(0, .agg (C1 u8 d_2750.l)), (1, u8 a_2751), (2, u8 b_2752), (3, u8 c_2753), (4, u8 e_2754), (5, u8 last_2755)], []⟩ _
  refine run_textE hE [1, 2, 3, 4, 5, 6] (fr' := [(1, u8 a_2751), (2, u8 b_2752), (3, u8 c_2753), (4, u8 e_2754), (5, u8 last_2755), (6, .ref 0 0)]) (σ' := [.box (C1 u8 d_2750.l) false]) ⟨_, orcs_nil, ?_⟩ ?_
  · simp only [go_sem, reduceIte, Nat.reduceLT, Nat.reduceEqDiff, Nat.reduceAdd, Nat.reduceBEq, Nat.reduceMul, Nat.reduceSub, Nat.reduceGT, Nat.reducePow, Nat.reduceLeDiff, Int.reduceToNat]
  replace h := bind_some1 h; obtain ⟨t_2756, hv_2757, h⟩ := h
  refine run_textW hE [12] (fr' := [(12, .bool t_2756)]) (σ' := []) ?_ ?_
  · have hk_2758 : InR 0 32 := by decide
    rcases Bool.eq_false_or_eq_true (((d_2750.get 0) == a_2751)) with hb_2759 | hb_2759
    · replace hv_2757 := ite_t hv_2757 hb_2759
      have hk_2760 : InR 1 32 := by decide
      rcases Bool.eq_false_or_eq_true (((d_2750.get 1) == b_2752)) with hb_2761 | hb_2761
      · replace hv_2757 := ite_t hv_2757 hb_2761
        have hk_2762 : InR 2 32 := by decide
        rcases Bool.eq_false_or_eq_true (((d_2750.get 2) == c_2753)) with hb_2763 | hb_2763
        · replace hv_2757 := ite_t hv_2757 hb_2763
          have hk_2764 : InR 3 32 := by decide
          rcases Bool.eq_false_or_eq_true (((d_2750.get 3) == e_2754)) with hb_2765 | hb_2765
          · replace hv_2757 := ite_t hv_2757 hb_2765
            have hk_2766 : InR 31 32 := by decide
            have e_hv_2757 := Option.some.inj hv_2757; subst e_hv_2757
            exact ⟨_, [(12, .bool (((d_2750.get 31) == last_2755)))], [.box (C1 u8 d_2750.l) false], orcs_nil, by simp only [go_sem, reduceIte, Nat.reduceLT, Nat.reduceEqDiff, Nat.reduceAdd, Nat.reduceBEq, Nat.reduceMul, Nat.reduceSub, Nat.reduceGT, Nat.reducePow, Nat.reduceLeDiff, Int.reduceToNat, hk_2758, hk_2758.2, hb_2759, hk_2760, hk_2760.2, hb_2761, hk_2762, hk_2762.2, hb_2763, hk_2764, hk_2764.2, hb_2765, hk_2766, hk_2766.2], (weak_sel [] (by decide) rfl (by simp only [go_sem, reduceIte, Nat.reduceLT, Nat.reduceEqDiff, Nat.reduceAdd, Nat.reduceBEq, Nat.reduceMul, Nat.reduceSub, Nat.reduceGT, Nat.reducePow, Nat.reduceLeDiff, Int.reduceToNat]) (by simp only [go_sem, reduceIte, Nat.reduceLT, Nat.reduceEqDiff, Nat.reduceAdd, Nat.reduceBEq, Nat.reduceMul, Nat.reduceSub, Nat.reduceGT, Nat.reducePow, Nat.reduceLeDiff, Int.reduceToNat]))⟩
          · replace hv_2757 := ite_f hv_2757 hb_2765
            have e_hv_2757 := Option.some.inj hv_2757; subst e_hv_2757
            exact ⟨_, [(12, .bool false)], [.box (C1 u8 d_2750.l) false], orcs_nil, by simp only [go_sem, reduceIte, Nat.reduceLT, Nat.reduceEqDiff, Nat.reduceAdd, Nat.reduceBEq, Nat.reduceMul, Nat.reduceSub, Nat.reduceGT, Nat.reducePow, Nat.reduceLeDiff, Int.reduceToNat, hk_2758, hk_2758.2, hb_2759, hk_2760, hk_2760.2, hb_2761, hk_2762, hk_2762.2, hb_2763, hk_2764, hk_2764.2, hb_2765], (weak_sel [] (by decide) rfl (by simp only [go_sem, reduceIte, Nat.reduceLT, Nat.reduceEqDiff, Nat.reduceAdd, Nat.reduceBEq, Nat.reduceMul, Nat.reduceSub, Nat.reduceGT, Nat.reducePow, Nat.reduceLeDiff, Int.reduceToNat]) (by simp only [go_sem, reduceIte, Nat.reduceLT, Nat.reduceEqDiff, Nat.reduceAdd, Nat.reduceBEq, Nat.reduceMul, Nat.reduceSub, Nat.reduceGT, Nat.reducePow, Nat.reduceLeDiff, Int.reduceToNat]))⟩
        · replace hv_2757 := ite_f hv_2757 hb_2763
          have e_hv_2757 := Option.some.inj hv_2757; subst e_hv_2757
          exact ⟨_, [(12, .bool false)], [.box (C1 u8 d_2750.l) false], orcs_nil, by simp only [go_sem, reduceIte, Nat.reduceLT, Nat.reduceEqDiff, Nat.reduceAdd, Nat.reduceBEq, Nat.reduceMul, Nat.reduceSub, Nat.reduceGT, Nat.reducePow, Nat.reduceLeDiff, Int.reduceToNat, hk_2758, hk_2758.2, hb_2759, hk_2760, hk_2760.2, hb_2761, hk_2762, hk_2762.2, hb_2763], (weak_sel [] (by decide) rfl (by simp only [go_sem, reduceIte, Nat.reduceLT, Nat.reduceEqDiff, Nat.reduceAdd, Nat.reduceBEq, Nat.reduceMul, Nat.reduceSub, Nat.reduceGT, Nat.reducePow, Nat.reduceLeDiff, Int.reduceToNat]) (by simp only [go_sem, reduceIte, Nat.reduceLT, Nat.reduceEqDiff, Nat.reduceAdd, Nat.reduceBEq, Nat.reduceMul, Nat.reduceSub, Nat.reduceGT, Nat.reducePow, Nat.reduceLeDiff, Int.reduceToNat]))⟩
      · replace hv_2757 := ite_f hv_2757 hb_2761
        have e_hv_2757 := Option.some.inj hv_2757; subst e_hv_2757
        exact ⟨_, [(12, .bool false)], [.box (C1 u8 d_2750.l) false], orcs_nil, by simp only [go_sem, reduceIte, Nat.reduceLT, Nat.reduceEqDiff, Nat.reduceAdd, Nat.reduceBEq, Nat.reduceMul, Nat.reduceSub, Nat.reduceGT, Nat.reducePow, Nat.reduceLeDiff, Int.reduceToNat, hk_2758, hk_2758.2, hb_2759, hk_2760, hk_2760.2, hb_2761], (weak_sel [] (by decide) rfl (by simp only [go_sem, reduceIte, Nat.reduceLT, Nat.reduceEqDiff, Nat.reduceAdd, Nat.reduceBEq, Nat.reduceMul, Nat.reduceSub, Nat.reduceGT, Nat.reducePow, Nat.reduceLeDiff, Int.reduceToNat]) (by simp only [go_sem, reduceIte, Nat.reduceLT, Nat.reduceEqDiff, Nat.reduceAdd, Nat.reduceBEq, Nat.reduceMul, Nat.reduceSub, Nat.reduceGT, Nat.reducePow, Nat.reduceLeDiff, Int.reduceToNat]))⟩
    · replace hv_2757 := ite_f hv_2757 hb_2759
      have e_hv_2757 := Option.some.inj hv_2757; subst e_hv_2757
      exact ⟨_, [(12, .bool false)], [.box (C1 u8 d_2750.l) false], orcs_nil, by simp only [go_sem, reduceIte, Nat.reduceLT, Nat.reduceEqDiff, Nat.reduceAdd, Nat.reduceBEq, Nat.reduceMul, Nat.reduceSub, Nat.reduceGT, Nat.reducePow, Nat.reduceLeDiff, Int.reduceToNat, hk_2758, hk_2758.2, hb_2759], (weak_sel [] (by decide) rfl (by simp only [go_sem, reduceIte, Nat.reduceLT, Nat.reduceEqDiff, Nat.reduceAdd, Nat.reduceBEq, Nat.reduceMul, Nat.reduceSub, Nat.reduceGT, Nat.reducePow, Nat.reduceLeDiff, Int.reduceToNat]) (by simp only [go_sem, reduceIte, Nat.reduceLT, Nat.reduceEqDiff, Nat.reduceAdd, Nat.reduceBEq, Nat.reduceMul, Nat.reduceSub, Nat.reduceGT, Nat.reducePow, Nat.reduceLeDiff, Int.reduceToNat]))⟩
  refine run_ret ?_
  obtain rfl := Option.some.inj h
  refine ret_ok (.inr rfl) ?_
  simp only [go_sem, reduceIte, Nat.reduceLT, Nat.reduceEqDiff, Nat.reduceAdd, Nat.reduceBEq, Nat.reduceMul, Nat.reduceSub, Nat.reduceGT, Nat.reducePow, Nat.reduceLeDiff, Int.reduceToNat]

end Go.Proofs.YtgdiabbgiiemcaaDoor
