/-
  The functions compute just that.
-/
import Derived.Test.YtgdiabbgiiemcaaDoorDW7
import Derived.KernelRfl
namespace Go.Proofs.YtgdiabbgiiemcaaDoor
open Go.Rv
set_option linter.unusedVariables false
set_option linter.unusedSimpArgs false
set_option maxRecDepth 20000

theorem r02_Number_con {d_2490 : Arr UInt8 32} {r : UInt64} (h : r02_Number d_2490 = some r) : Con B 19 [.agg (C1 u8 d_2490.l)] [] (fun r' σ' => r' = u64 r ∧ σ' = []) := by
  refine con_walk (N := 17) (rs := [.tmp 2]) ok Tryd.func19 rfl (by decide +kernel) rfl rfl (Nat.le_of_ble_eq_true rfl) (fun F => ?_)
  have hE := ok.env F
  unfold r02_Number at h
  show Run (B.env F) 0 _ ⟨asFr 17 [(0, .agg (C1 u8 d_2490.l))], []⟩ _
  refine run_textE hE [1] (fr' := [(1, .ref 0 0)]) (σ' := [.box (C1 u8 d_2490.l) false]) ⟨_, orcs_nil, ?_⟩ ?_
  · simp only [go_sem, reduceIte, Nat.reduceLT, Nat.reduceEqDiff, Nat.reduceAdd, Nat.reduceBEq, Nat.reduceMul, Nat.reduceSub, Nat.reduceGT, Nat.reducePow, Nat.reduceLeDiff, Int.reduceToNat]
  refine run_textE hE [1, 3] (fr' := [(1, .ref 0 0), (3, u64 ((0 : UInt64)))]) (σ' := [.box (C1 u8 d_2490.l) false]) ⟨_, orcs_nil, ?_⟩ ?_
  · simp only [go_sem, reduceIte, Nat.reduceLT, Nat.reduceEqDiff, Nat.reduceAdd, Nat.reduceBEq, Nat.reduceMul, Nat.reduceSub, Nat.reduceGT, Nat.reducePow, Nat.reduceLeDiff, Int.reduceToNat]
  replace h := bind_some1 h; obtain ⟨j_2509, hA_2510, hj_2511⟩ := h
  refine run_join (fun (v : UInt64) => (⟨asFr 17 [(3, u64 v)], []⟩ : St)) (fun v => v = j_2509) ?_ ?_
  · have h := hA_2510; clear hA_2510
    refine run_textE hE [1, 3, 4] (fr' := [(1, .ref 0 0), (3, u64 ((0 : UInt64))), (4, i64 0)]) (σ' := [.box (C1 u8 d_2490.l) false]) ⟨_, orcs_nil, ?_⟩ ?_
    · simp only [go_sem, reduceIte, Nat.reduceLT, Nat.reduceEqDiff, Nat.reduceAdd, Nat.reduceBEq, Nat.reduceMul, Nat.reduceSub, Nat.reduceGT, Nat.reducePow, Nat.reduceLeDiff, Int.reduceToNat]
    refine run_block ?_
    replace h := bind_some1 h; obtain ⟨x_2521, hx_2522, hj_2523⟩ := h
    refine run_loopO hx_2522 (fun (v : UInt64 × Int) => (⟨asFr 17 [(1, .ref 0 0), (3, u64 v.1), (4, i64 v.2)], [.box (C1 u8 d_2490.l) false]⟩ : St)) (weak_sel [0] (by decide) rfl (by simp only [go_sem, reduceIte, Nat.reduceLT, Nat.reduceEqDiff, Nat.reduceAdd, Nat.reduceBEq, Nat.reduceMul, Nat.reduceSub, Nat.reduceGT, Nat.reducePow, Nat.reduceLeDiff, Int.reduceToNat]) (by simp only [go_sem, reduceIte, Nat.reduceLT, Nat.reduceEqDiff, Nat.reduceAdd, Nat.reduceBEq, Nat.reduceMul, Nat.reduceSub, Nat.reduceGT, Nat.reducePow, Nat.reduceLeDiff, Int.reduceToNat])) ?_
    rintro ⟨n_2515, i_2516⟩ o_2524 h hxx_2525
    replace h : r02_Number_b1 d_2490 n_2515 i_2516 = some o_2524 := h
    unfold r02_Number_b1 at h
    refine run_seq ?_
    refine run_textE hE [1, 3, 4, 6] (fr' := [(1, .ref 0 0), (3, u64 n_2515), (4, i64 i_2516), (6, .bool ((decide (i_2516 < 8))))]) (σ' := [.box (C1 u8 d_2490.l) false]) ⟨_, orcs_nil, ?_⟩ ?_
    · simp only [go_sem, reduceIte, Nat.reduceLT, Nat.reduceEqDiff, Nat.reduceAdd, Nat.reduceBEq, Nat.reduceMul, Nat.reduceSub, Nat.reduceGT, Nat.reducePow, Nat.reduceLeDiff, Int.reduceToNat]
    refine run_condL (b := (decide (i_2516 < 8))) rfl (by decide) (fun hb => ?_) (fun hb => ?_)
    · replace h := ite_t h hb
      refine run_skip ?_
      refine thenK_n ?_
      refine run_seq ?_
      refine run_block ?_
      replace h := chk_some h; obtain ⟨hc_2526, h⟩ := h
      replace h := lt1_some h; obtain ⟨n_2527, hz_2528, h⟩ := h
      refine run_textE0 hE (wk_block wk_then) [1, 3, 4] (fr' := [(1, .ref 0 0), (3, u64 n_2527), (4, i64 i_2516)]) (σ' := [.box (C1 u8 d_2490.l) false]) ⟨_, orcs_nil, ?_⟩ ?_
      · subst hz_2528; simp only [go_sem, reduceIte, Nat.reduceLT, Nat.reduceEqDiff, Nat.reduceAdd, Nat.reduceBEq, Nat.reduceMul, Nat.reduceSub, Nat.reduceGT, Nat.reducePow, Nat.reduceLeDiff, Int.reduceToNat, hc_2526, hc_2526.2, lt_le hc_2526.2]
      refine blockK_n ?_
      refine thenK_n ?_
      refine run_textE0 hE wk_lp [1, 3, 4] (fr' := [(1, .ref 0 0), (3, u64 n_2527), (4, i64 ((w64 (i_2516 + 1))))]) (σ' := [.box (C1 u8 d_2490.l) false]) ⟨_, orcs_nil, ?_⟩ ?_
      · simp only [go_sem, reduceIte, Nat.reduceLT, Nat.reduceEqDiff, Nat.reduceAdd, Nat.reduceBEq, Nat.reduceMul, Nat.reduceSub, Nat.reduceGT, Nat.reducePow, Nat.reduceLeDiff, Int.reduceToNat]
      obtain rfl := Option.some.inj h
      exact lpK_n ((n_2527, (w64 (i_2516 + 1)))) rfl (weak_sel [0] (by decide) rfl (by simp only [go_sem, reduceIte, Nat.reduceLT, Nat.reduceEqDiff, Nat.reduceAdd, Nat.reduceBEq, Nat.reduceMul, Nat.reduceSub, Nat.reduceGT, Nat.reducePow, Nat.reduceLeDiff, Int.reduceToNat]) (by simp only [go_sem, reduceIte, Nat.reduceLT, Nat.reduceEqDiff, Nat.reduceAdd, Nat.reduceBEq, Nat.reduceMul, Nat.reduceSub, Nat.reduceGT, Nat.reducePow, Nat.reduceLeDiff, Int.reduceToNat]))
    · replace h := ite_f h hb
      refine run_exit ?_
      refine thenK_x ?_
      obtain rfl := Option.some.inj h
      have ex_x_2521 := hxx_2525 _ rfl
      subst ex_x_2521
      have h := hj_2523; clear hj_2523
      refine lpK_x ?_
      refine blockK_x ?_
      obtain rfl := Option.some.inj h
      exact joinK_n n_2515 rfl ((weak_sel (l' := [(3, u64 n_2515)]) (σ' := []) [] (by decide) rfl (by simp only [go_sem, reduceIte, Nat.reduceLT, Nat.reduceEqDiff, Nat.reduceAdd, Nat.reduceBEq, Nat.reduceMul, Nat.reduceSub, Nat.reduceGT, Nat.reducePow, Nat.reduceLeDiff, Int.reduceToNat]) (by simp only [go_sem, reduceIte, Nat.reduceLT, Nat.reduceEqDiff, Nat.reduceAdd, Nat.reduceBEq, Nat.reduceMul, Nat.reduceSub, Nat.reduceGT, Nat.reducePow, Nat.reduceLeDiff, Int.reduceToNat])).trans (weak_sel [] (by decide) rfl (by simp only [go_sem, reduceIte, Nat.reduceLT, Nat.reduceEqDiff, Nat.reduceAdd, Nat.reduceBEq, Nat.reduceMul, Nat.reduceSub, Nat.reduceGT, Nat.reducePow, Nat.reduceLeDiff, Int.reduceToNat]) (by simp only [go_sem, reduceIte, Nat.reduceLT, Nat.reduceEqDiff, Nat.reduceAdd, Nat.reduceBEq, Nat.reduceMul, Nat.reduceSub, Nat.reduceGT, Nat.reducePow, Nat.reduceLeDiff, Int.reduceToNat])))
  rintro n_2508 rfl
  have h := hj_2511; clear hj_2511
  refine run_textE hE [2] (fr' := [(2, u64 n_2508)]) (σ' := []) ⟨_, orcs_nil, ?_⟩ ?_
  · simp only [go_sem, reduceIte, Nat.reduceLT, Nat.reduceEqDiff, Nat.reduceAdd, Nat.reduceBEq, Nat.reduceMul, Nat.reduceSub, Nat.reduceGT, Nat.reducePow, Nat.reduceLeDiff, Int.reduceToNat]
  refine run_ret ?_
  obtain rfl := Option.some.inj h
  refine ret_ok (.inr rfl) ?_
  simp only [go_sem, reduceIte, Nat.reduceLT, Nat.reduceEqDiff, Nat.reduceAdd, Nat.reduceBEq, Nat.reduceMul, Nat.reduceSub, Nat.reduceGT, Nat.reducePow, Nat.reduceLeDiff, Int.reduceToNat]

theorem r02_Same_con {a_2529 : List UInt8} {b_2530 : List UInt8} {r : Bool} (h : r02_Same a_2529 b_2530 = some r) : Con B 21 [.sl false (L cU8 a_2529), .sl false (L cU8 b_2530)] [] (fun r' σ' => r' = .bool r ∧ σ' = []) := by
  refine con_walk (N := 10) (rs := [.tmp 4]) ok Tryd.func21 rfl (by decide +kernel) rfl rfl (Nat.le_of_ble_eq_true rfl) (fun F => ?_)
  have hE := ok.env F
  unfold r02_Same at h
  show Run (B.env F) 0 _ ⟨asFr 10 [(0, .sl false (L cU8 a_2529)), (1, .sl false (L cU8 b_2530))], []⟩ _
  refine run_textE hE [0, 1] (fr' := [(0, .sl false (L cU8 a_2529)), (1, .sl false (L cU8 b_2530))]) (σ' := []) ⟨_, orcs_nil, ?_⟩ ?_
  · simp only [go_sem, reduceIte, Nat.reduceLT, Nat.reduceEqDiff, Nat.reduceAdd, Nat.reduceBEq, Nat.reduceMul, Nat.reduceSub, Nat.reduceGT, Nat.reducePow, Nat.reduceLeDiff, Int.reduceToNat]
  refine run_textE hE [4] (fr' := [(4, .bool ((a_2529 == b_2530)))]) (σ' := []) ⟨_, orcs_nil, ?_⟩ ?_
  · simp only [go_sem, reduceIte, Nat.reduceLT, Nat.reduceEqDiff, Nat.reduceAdd, Nat.reduceBEq, Nat.reduceMul, Nat.reduceSub, Nat.reduceGT, Nat.reducePow, Nat.reduceLeDiff, Int.reduceToNat]
  refine run_ret ?_
  obtain rfl := Option.some.inj h
  refine ret_ok (.inr rfl) ?_
  simp only [go_sem, reduceIte, Nat.reduceLT, Nat.reduceEqDiff, Nat.reduceAdd, Nat.reduceBEq, Nat.reduceMul, Nat.reduceSub, Nat.reduceGT, Nat.reducePow, Nat.reduceLeDiff, Int.reduceToNat]

theorem digest_Value_con {tag_2531 : List UInt8} {v_2532 : Api_Value} {r : Arr UInt8 32 × Int} (h : digest_Value tag_2531 v_2532 = some r) : Con B 23 [.str tag_2531, .agg [i64 v_2532.Kind, i64 v_2532.N, .sl false (L cU8 v_2532.B), .sl false (L cRaw v_2532.L)]] [] (fun r' σ' => r' = .tup [.agg (C1 u8 r.1.l), i64 r.2] ∧ σ' = []) := by
  refine con_walk (N := 19) (rs := [.cell 4 25, .tmp 5]) ok Tryd.func23 rfl (by decide +kernel) rfl rfl (Nat.le_of_ble_eq_true rfl) (fun F => ?_)
  have hE := ok.env F
  unfold digest_Value at h
  show Run (B.env F) 0 _ ⟨asFr 19 [(0, .str tag_2531), (1, .agg [i64 v_2532.Kind, i64 v_2532.N, .sl false (L cU8 v_2532.B), .sl false (L cRaw v_2532.L)])], []⟩ _
  refine run_textE hE [0, 3, 4] (fr' := [(0, .str tag_2531), (3, .ref 0 0), (4, .ref 1 0)]) (σ' := [.box [i64 v_2532.Kind, i64 v_2532.N, .sl false (L cU8 v_2532.B), .sl false (L cRaw v_2532.L)] false, .box (C1 u8 ((Arr.rep 32 (0 : UInt8))).l) false]) ⟨_, orcs_nil, ?_⟩ ?_
  · simp only [go_sem, reduceIte, Nat.reduceLT, Nat.reduceEqDiff, Nat.reduceAdd, Nat.reduceBEq, Nat.reduceMul, Nat.reduceSub, Nat.reduceGT, Nat.reducePow, Nat.reduceLeDiff, Int.reduceToNat]
  replace h := bind_some1 h; obtain ⟨y_2533, hy_2534, h⟩ := h
  refine run_textE hE [0, 4, 5, 6] (fr' := [(0, .str tag_2531), (4, .ref 1 0), (5, i64 y_2533.2), (6, .sl false (L cU8 y_2533.1))]) (σ' := [.box [i64 v_2532.Kind, i64 v_2532.N, .sl false (L cU8 v_2532.B), .sl false (L cRaw v_2532.L)] false, .box (C1 u8 ((Arr.rep 32 (0 : UInt8))).l) false]) ⟨_, orcs_ok (l := [(9, 22, [.agg [i64 v_2532.Kind, i64 v_2532.N, .sl false (L cU8 v_2532.B), .sl false (L cRaw v_2532.L)]], .tup [.sl false (L cU8 y_2533.1), i64 y_2533.2])]) ⟨codec_Encode_con hy_2534, trivial⟩, ?_⟩ ?_
  · simp only [go_sem, reduceIte, Nat.reduceLT, Nat.reduceEqDiff, Nat.reduceAdd, Nat.reduceBEq, Nat.reduceMul, Nat.reduceSub, Nat.reduceGT, Nat.reducePow, Nat.reduceLeDiff, Int.reduceToNat]
  refine run_seq ?_
  refine run_textE hE [0, 4, 5, 6, 13] (fr' := [(0, .str tag_2531), (4, .ref 1 0), (5, i64 y_2533.2), (6, .sl false (L cU8 y_2533.1)), (13, .bool ((y_2533.2 != 0)))]) (σ' := [.box [i64 v_2532.Kind, i64 v_2532.N, .sl false (L cU8 v_2532.B), .sl false (L cRaw v_2532.L)] false, .box (C1 u8 ((Arr.rep 32 (0 : UInt8))).l) false]) ⟨_, orcs_nil, ?_⟩ ?_
  · simp only [go_sem, reduceIte, Nat.reduceLT, Nat.reduceEqDiff, Nat.reduceAdd, Nat.reduceBEq, Nat.reduceMul, Nat.reduceSub, Nat.reduceGT, Nat.reducePow, Nat.reduceLeDiff, Int.reduceToNat]
  refine run_condL (b := (y_2533.2 != 0)) rfl (by decide) (fun hb => ?_) (fun hb => ?_)
  · replace h := ite_t h hb
    replace h := lt1_some h; obtain ⟨f_2535, hz_2536, h⟩ := h
    refine run_textE hE [4, 5] (fr' := [(4, .ref 1 0), (5, i64 y_2533.2)]) (σ' := [.box [i64 v_2532.Kind, i64 v_2532.N, .sl false (L cU8 v_2532.B), .sl false (L cRaw v_2532.L)] false, .box (C1 u8 f_2535.l) false]) ⟨_, orcs_nil, ?_⟩ ?_
    · subst hz_2536; simp only [go_sem, reduceIte, Nat.reduceLT, Nat.reduceEqDiff, Nat.reduceAdd, Nat.reduceBEq, Nat.reduceMul, Nat.reduceSub, Nat.reduceGT, Nat.reducePow, Nat.reduceLeDiff, Int.reduceToNat, C1_rep, C1_nil, C1_cons]
    refine run_ret ?_
    refine thenK_r ?_
    obtain rfl := Option.some.inj h
    refine ret_ok (.inr rfl) ?_
    simp only [go_sem, reduceIte, Nat.reduceLT, Nat.reduceEqDiff, Nat.reduceAdd, Nat.reduceBEq, Nat.reduceMul, Nat.reduceSub, Nat.reduceGT, Nat.reducePow, Nat.reduceLeDiff, Int.reduceToNat]
  · replace h := ite_f h hb
    refine run_skip ?_
    refine thenK_n ?_
    replace h := bind_some1 h; obtain ⟨y_2537, hy_2538, h⟩ := h
    refine run_textE hE [4, 5] (fr' := [(4, .ref 1 0), (5, i64 0)]) (σ' := [.box [i64 v_2532.Kind, i64 v_2532.N, .sl false (L cU8 v_2532.B), .sl false (L cRaw v_2532.L)] false, .box (C1 u8 y_2537.l) false]) ⟨_, orcs_ok (l := [(18, 14, [.str tag_2531, .sl false (L cU8 y_2533.1)], .agg (C1 u8 y_2537.l))]) ⟨digest_Tagged_con hy_2538, trivial⟩, ?_⟩ ?_
    · simp only [go_sem, reduceIte, Nat.reduceLT, Nat.reduceEqDiff, Nat.reduceAdd, Nat.reduceBEq, Nat.reduceMul, Nat.reduceSub, Nat.reduceGT, Nat.reducePow, Nat.reduceLeDiff, Int.reduceToNat]
    refine run_ret ?_
    obtain rfl := Option.some.inj h
    refine ret_ok (.inr rfl) ?_
    simp only [go_sem, reduceIte, Nat.reduceLT, Nat.reduceEqDiff, Nat.reduceAdd, Nat.reduceBEq, Nat.reduceMul, Nat.reduceSub, Nat.reduceGT, Nat.reducePow, Nat.reduceLeDiff, Int.reduceToNat]

theorem law02_vector_con {d_2539 : Arr UInt8 32} {a_2540 : UInt8} {b_2541 : UInt8} {c_2542 : UInt8} {e_2543 : UInt8} {last_2544 : UInt8} {r : Bool} (h : law02_vector d_2539 a_2540 b_2541 c_2542 e_2543 last_2544 = some r) : Con B 27 [.agg (C1 u8 d_2539.l), u8 a_2540, u8 b_2541, u8 c_2542, u8 e_2543, u8 last_2544] [] (fun r' σ' => r' = .bool r ∧ σ' = []) := by
  refine con_walk (N := 41) (rs := [.tmp 12]) ok Tryd.func27 rfl (by decide +kernel) rfl rfl (Nat.le_of_ble_eq_true rfl) (fun F => ?_)
  have hE := ok.env F
  unfold law02_vector at h
  show Run (B.env F) 0 _ ⟨asFr 41 [(0, .agg (C1 u8 d_2539.l)), (1, u8 a_2540), (2, u8 b_2541), (3, u8 c_2542), (4, u8 e_2543), (5, u8 last_2544)], []⟩ _
  refine run_textE hE [1, 2, 3, 4, 5, 6] (fr' := [(1, u8 a_2540), (2, u8 b_2541), (3, u8 c_2542), (4, u8 e_2543), (5, u8 last_2544), (6, .ref 0 0)]) (σ' := [.box (C1 u8 d_2539.l) false]) ⟨_, orcs_nil, ?_⟩ ?_
  · simp only [go_sem, reduceIte, Nat.reduceLT, Nat.reduceEqDiff, Nat.reduceAdd, Nat.reduceBEq, Nat.reduceMul, Nat.reduceSub, Nat.reduceGT, Nat.reducePow, Nat.reduceLeDiff, Int.reduceToNat]
  replace h := bind_some1 h; obtain ⟨t_2545, hv_2546, h⟩ := h
  refine run_textW hE [12] (fr' := [(12, .bool t_2545)]) (σ' := []) ?_ ?_
  · have hk_2547 : InR 0 32 := by decide
    rcases Bool.eq_false_or_eq_true (((d_2539.get 0) == a_2540)) with hb_2548 | hb_2548
    · replace hv_2546 := ite_t hv_2546 hb_2548
      have hk_2549 : InR 1 32 := by decide
      rcases Bool.eq_false_or_eq_true (((d_2539.get 1) == b_2541)) with hb_2550 | hb_2550
      · replace hv_2546 := ite_t hv_2546 hb_2550
        have hk_2551 : InR 2 32 := by decide
        rcases Bool.eq_false_or_eq_true (((d_2539.get 2) == c_2542)) with hb_2552 | hb_2552
        · replace hv_2546 := ite_t hv_2546 hb_2552
          have hk_2553 : InR 3 32 := by decide
          rcases Bool.eq_false_or_eq_true (((d_2539.get 3) == e_2543)) with hb_2554 | hb_2554
          · replace hv_2546 := ite_t hv_2546 hb_2554
            have hk_2555 : InR 31 32 := by decide
            have e_hv_2546 := Option.some.inj hv_2546; subst e_hv_2546
            exact ⟨_, [(12, .bool (((d_2539.get 31) == last_2544)))], [.box (C1 u8 d_2539.l) false], orcs_nil, by simp only [go_sem, reduceIte, Nat.reduceLT, Nat.reduceEqDiff, Nat.reduceAdd, Nat.reduceBEq, Nat.reduceMul, Nat.reduceSub, Nat.reduceGT, Nat.reducePow, Nat.reduceLeDiff, Int.reduceToNat, hk_2547, hk_2547.2, hb_2548, hk_2549, hk_2549.2, hb_2550, hk_2551, hk_2551.2, hb_2552, hk_2553, hk_2553.2, hb_2554, hk_2555, hk_2555.2], (weak_sel [] (by decide) rfl (by simp only [go_sem, reduceIte, Nat.reduceLT, Nat.reduceEqDiff, Nat.reduceAdd, Nat.reduceBEq, Nat.reduceMul, Nat.reduceSub, Nat.reduceGT, Nat.reducePow, Nat.reduceLeDiff, Int.reduceToNat]) (by simp only [go_sem, reduceIte, Nat.reduceLT, Nat.reduceEqDiff, Nat.reduceAdd, Nat.reduceBEq, Nat.reduceMul, Nat.reduceSub, Nat.reduceGT, Nat.reducePow, Nat.reduceLeDiff, Int.reduceToNat]))⟩
          · replace hv_2546 := ite_f hv_2546 hb_2554
            have e_hv_2546 := Option.some.inj hv_2546; subst e_hv_2546
            exact ⟨_, [(12, .bool false)], [.box (C1 u8 d_2539.l) false], orcs_nil, by simp only [go_sem, reduceIte, Nat.reduceLT, Nat.reduceEqDiff, Nat.reduceAdd, Nat.reduceBEq, Nat.reduceMul, Nat.reduceSub, Nat.reduceGT, Nat.reducePow, Nat.reduceLeDiff, Int.reduceToNat, hk_2547, hk_2547.2, hb_2548, hk_2549, hk_2549.2, hb_2550, hk_2551, hk_2551.2, hb_2552, hk_2553, hk_2553.2, hb_2554], (weak_sel [] (by decide) rfl (by simp only [go_sem, reduceIte, Nat.reduceLT, Nat.reduceEqDiff, Nat.reduceAdd, Nat.reduceBEq, Nat.reduceMul, Nat.reduceSub, Nat.reduceGT, Nat.reducePow, Nat.reduceLeDiff, Int.reduceToNat]) (by simp only [go_sem, reduceIte, Nat.reduceLT, Nat.reduceEqDiff, Nat.reduceAdd, Nat.reduceBEq, Nat.reduceMul, Nat.reduceSub, Nat.reduceGT, Nat.reducePow, Nat.reduceLeDiff, Int.reduceToNat]))⟩
        · replace hv_2546 := ite_f hv_2546 hb_2552
          have e_hv_2546 := Option.some.inj hv_2546; subst e_hv_2546
          exact ⟨_, [(12, .bool false)], [.box (C1 u8 d_2539.l) false], orcs_nil, by simp only [go_sem, reduceIte, Nat.reduceLT, Nat.reduceEqDiff, Nat.reduceAdd, Nat.reduceBEq, Nat.reduceMul, Nat.reduceSub, Nat.reduceGT, Nat.reducePow, Nat.reduceLeDiff, Int.reduceToNat, hk_2547, hk_2547.2, hb_2548, hk_2549, hk_2549.2, hb_2550, hk_2551, hk_2551.2, hb_2552], (weak_sel [] (by decide) rfl (by simp only [go_sem, reduceIte, Nat.reduceLT, Nat.reduceEqDiff, Nat.reduceAdd, Nat.reduceBEq, Nat.reduceMul, Nat.reduceSub, Nat.reduceGT, Nat.reducePow, Nat.reduceLeDiff, Int.reduceToNat]) (by simp only [go_sem, reduceIte, Nat.reduceLT, Nat.reduceEqDiff, Nat.reduceAdd, Nat.reduceBEq, Nat.reduceMul, Nat.reduceSub, Nat.reduceGT, Nat.reducePow, Nat.reduceLeDiff, Int.reduceToNat]))⟩
      · replace hv_2546 := ite_f hv_2546 hb_2550
        have e_hv_2546 := Option.some.inj hv_2546; subst e_hv_2546
        exact ⟨_, [(12, .bool false)], [.box (C1 u8 d_2539.l) false], orcs_nil, by simp only [go_sem, reduceIte, Nat.reduceLT, Nat.reduceEqDiff, Nat.reduceAdd, Nat.reduceBEq, Nat.reduceMul, Nat.reduceSub, Nat.reduceGT, Nat.reducePow, Nat.reduceLeDiff, Int.reduceToNat, hk_2547, hk_2547.2, hb_2548, hk_2549, hk_2549.2, hb_2550], (weak_sel [] (by decide) rfl (by simp only [go_sem, reduceIte, Nat.reduceLT, Nat.reduceEqDiff, Nat.reduceAdd, Nat.reduceBEq, Nat.reduceMul, Nat.reduceSub, Nat.reduceGT, Nat.reducePow, Nat.reduceLeDiff, Int.reduceToNat]) (by simp only [go_sem, reduceIte, Nat.reduceLT, Nat.reduceEqDiff, Nat.reduceAdd, Nat.reduceBEq, Nat.reduceMul, Nat.reduceSub, Nat.reduceGT, Nat.reducePow, Nat.reduceLeDiff, Int.reduceToNat]))⟩
    · replace hv_2546 := ite_f hv_2546 hb_2548
      have e_hv_2546 := Option.some.inj hv_2546; subst e_hv_2546
      exact ⟨_, [(12, .bool false)], [.box (C1 u8 d_2539.l) false], orcs_nil, by simp only [go_sem, reduceIte, Nat.reduceLT, Nat.reduceEqDiff, Nat.reduceAdd, Nat.reduceBEq, Nat.reduceMul, Nat.reduceSub, Nat.reduceGT, Nat.reducePow, Nat.reduceLeDiff, Int.reduceToNat, hk_2547, hk_2547.2, hb_2548], (weak_sel [] (by decide) rfl (by simp only [go_sem, reduceIte, Nat.reduceLT, Nat.reduceEqDiff, Nat.reduceAdd, Nat.reduceBEq, Nat.reduceMul, Nat.reduceSub, Nat.reduceGT, Nat.reducePow, Nat.reduceLeDiff, Int.reduceToNat]) (by simp only [go_sem, reduceIte, Nat.reduceLT, Nat.reduceEqDiff, Nat.reduceAdd, Nat.reduceBEq, Nat.reduceMul, Nat.reduceSub, Nat.reduceGT, Nat.reducePow, Nat.reduceLeDiff, Int.reduceToNat]))⟩
  refine run_ret ?_
  obtain rfl := Option.some.inj h
  refine ret_ok (.inr rfl) ?_
  simp only [go_sem, reduceIte, Nat.reduceLT, Nat.reduceEqDiff, Nat.reduceAdd, Nat.reduceBEq, Nat.reduceMul, Nat.reduceSub, Nat.reduceGT, Nat.reducePow, Nat.reduceLeDiff, Int.reduceToNat]

end Go.Proofs.YtgdiabbgiiemcaaDoor
