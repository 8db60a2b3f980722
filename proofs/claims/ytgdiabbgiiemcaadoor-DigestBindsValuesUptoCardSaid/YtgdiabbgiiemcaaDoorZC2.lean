/-
  The library and the walks, part 2.
-/
import Derived.Test.YtgdiabbgiiemcaaDoorZC1
import Derived.KernelRfl
/-
  The functions compute just that.
-/
namespace Go.Proofs.YtgdiabbgiiemcaaDoor
open Go.Rv
set_option linter.unusedVariables false
set_option linter.unusedSimpArgs false
set_option maxRecDepth 20000

theorem digest_Number_con {d_2652 : Arr UInt8 32} {r : UInt64} (h : digest_Number d_2652 = some r) : Con B 18 [.agg (C1 u8 d_2652.l)] [] (fun r' σ' => r' = u64 r ∧ σ' = []) := by
  refine con_walk (N := 18) (rs := [.tmp 2]) ok Tryd.func18 rfl (by decide +kernel) rfl rfl (Nat.le_of_ble_eq_true rfl) (fun F => ?_)
  have hE := ok.env F
  unfold digest_Number at h
  show Run (B.env F) 0 _ ⟨asFr 18 [(0, .agg (C1 u8 d_2652.l))], []⟩ _
  refine run_textE hE [1, 2] (fr' := [(1, .ref 0 0), (2, u64 ((0 : UInt64)))]) (σ' := [.box (C1 u8 d_2652.l) false]) ⟨_, orcs_nil, ?_⟩ ?_
  · simp only [go_sem, reduceIte, Nat.reduceLT, Nat.reduceEqDiff, Nat.reduceAdd]
  replace h := bind_some1 h; obtain ⟨j_2676, hA_2677, hj_2678⟩ := h
  refine run_join (fun (v : UInt64) => (⟨asFr 18 [(2, u64 v)], []⟩ : St)) (fun v => v = j_2676) ?_ ?_
  · have h := hA_2677; clear hA_2677
    have hk_2679 : InB 8 32 := by decide
    refine run_textE hE [2, 5, 6, 7] (fr' := [(2, u64 ((0 : UInt64))), (5, .sl false (L cU8 ((d_2652.l.take 8)))), (6, i64 ((((d_2652.l.take 8)).length : Int))), (7, i64 0)]) (σ' := [.box (C1 u8 d_2652.l) true]) ⟨_, orcs_nil, ?_⟩ ?_
    · simp only [go_sem, reduceIte, Nat.reduceLT, Nat.reduceEqDiff, Nat.reduceAdd, Int.reduceToNat, hk_2679]
    refine run_block ?_
    replace h := bind_some1 h; obtain ⟨x_2691, hx_2692, hj_2693⟩ := h
    refine run_loopO hx_2692 (fun (v : UInt64 × Int) => (⟨asFr 18 [(2, u64 v.1), (5, .sl false (L cU8 ((d_2652.l.take 8)))), (6, i64 ((((d_2652.l.take 8)).length : Int))), (7, i64 v.2)], []⟩ : St)) (weak_sel [] (by decide) rfl (by simp only [go_sem, reduceIte, Nat.reduceLT, Nat.reduceEqDiff, Nat.reduceAdd]) (by simp only [go_sem, reduceIte, Nat.reduceLT, Nat.reduceEqDiff, Nat.reduceAdd])) ?_
    rintro ⟨n_2683, t_2684⟩ o_2694 h hxx_2695
    replace h : digest_Number_b1 d_2652 n_2683 t_2684 = some o_2694 := h
    unfold digest_Number_b1 at h
    refine run_textE hE [2, 5, 6, 7, 8] (fr' := [(2, u64 n_2683), (5, .sl false (L cU8 ((d_2652.l.take 8)))), (6, i64 ((((d_2652.l.take 8)).length : Int))), (7, i64 t_2684), (8, .bool ((decide (t_2684 < (((d_2652.l.take 8)).length : Int)))))]) (σ' := []) ⟨_, orcs_nil, ?_⟩ ?_
    · simp only [go_sem, reduceIte, Nat.reduceLT, Nat.reduceEqDiff, Nat.reduceAdd]
    refine run_seq ?_
    refine run_condL (b := (decide (t_2684 < (((d_2652.l.take 8)).length : Int)))) rfl (by decide) (fun hb => ?_) (fun hb => ?_)
    · replace h := ite_t h hb
      refine run_skip ?_
      refine thenK_n ?_
      refine run_seq ?_
      refine run_block ?_
      replace h := chk_some h; obtain ⟨hc_2696, h⟩ := h
      replace h := lt1_some h; obtain ⟨b_2697, hz_2698, h⟩ := h
      refine run_textE hE [2, 4, 5, 6, 7] (fr' := [(2, u64 n_2683), (4, u8 b_2697), (5, .sl false (L cU8 ((d_2652.l.take 8)))), (6, i64 ((((d_2652.l.take 8)).length : Int))), (7, i64 t_2684)]) (σ' := []) ⟨_, orcs_nil, ?_⟩ ?_
      · subst hz_2698; simp only [go_sem, reduceIte, Nat.reduceLT, Nat.reduceEqDiff, Nat.reduceAdd, Int.reduceToNat, hc_2696, hc_2696.2, lt_le hc_2696.2]
      replace h := lt1_some h; obtain ⟨n_2699, hz_2700, h⟩ := h
      refine run_textE0 hE (wk_block wk_then) [2, 5, 6, 7] (fr' := [(2, u64 n_2699), (5, .sl false (L cU8 ((d_2652.l.take 8)))), (6, i64 ((((d_2652.l.take 8)).length : Int))), (7, i64 t_2684)]) (σ' := []) ⟨_, orcs_nil, ?_⟩ ?_
      · subst hz_2700; simp only [go_sem, reduceIte, Nat.reduceLT, Nat.reduceEqDiff, Nat.reduceAdd]
      refine blockK_n ?_
      refine thenK_n ?_
      refine run_textE0 hE wk_lp [2, 5, 6, 7] (fr' := [(2, u64 n_2699), (5, .sl false (L cU8 ((d_2652.l.take 8)))), (6, i64 ((((d_2652.l.take 8)).length : Int))), (7, i64 ((w64 (t_2684 + 1))))]) (σ' := []) ⟨_, orcs_nil, ?_⟩ ?_
      · simp only [go_sem, reduceIte, Nat.reduceLT, Nat.reduceEqDiff, Nat.reduceAdd]
      obtain rfl := Option.some.inj h
      exact lpK_n ((n_2699, (w64 (t_2684 + 1)))) rfl (weak_sel [] (by decide) rfl (by simp only [go_sem, reduceIte, Nat.reduceLT, Nat.reduceEqDiff, Nat.reduceAdd]) (by simp only [go_sem, reduceIte, Nat.reduceLT, Nat.reduceEqDiff, Nat.reduceAdd]))
    · replace h := ite_f h hb
      refine run_exit ?_
      refine thenK_x ?_
      obtain rfl := Option.some.inj h
      have ex_x_2691 := hxx_2695 _ rfl
      subst ex_x_2691
      have h := hj_2693; clear hj_2693
      refine lpK_x ?_
      refine blockK_x ?_
      obtain rfl := Option.some.inj h
      exact joinK_n n_2683 rfl ((weak_sel (l' := [(2, u64 n_2683)]) (σ' := []) [] (by decide) rfl (by simp only [go_sem, reduceIte, Nat.reduceLT, Nat.reduceEqDiff, Nat.reduceAdd]) (by simp only [go_sem, reduceIte, Nat.reduceLT, Nat.reduceEqDiff, Nat.reduceAdd])).trans (weak_sel [] (by decide) rfl (by simp only [go_sem, reduceIte, Nat.reduceLT, Nat.reduceEqDiff, Nat.reduceAdd]) (by simp only [go_sem, reduceIte, Nat.reduceLT, Nat.reduceEqDiff, Nat.reduceAdd])))
  rintro n_2675 rfl
  have h := hj_2678; clear hj_2678
  refine run_textE hE [2] (fr' := [(2, u64 n_2675)]) (σ' := []) ⟨_, orcs_nil, ?_⟩ ?_
  · simp only [go_sem, reduceIte, Nat.reduceLT, Nat.reduceEqDiff, Nat.reduceAdd]
  refine run_ret ?_
  obtain rfl := Option.some.inj h
  refine ret_ok (.inr rfl) ?_
  simp only [go_sem, reduceIte, Nat.reduceLT, Nat.reduceEqDiff, Nat.reduceAdd]

theorem r02_Number_con {d_2701 : Arr UInt8 32} {r : UInt64} (h : r02_Number d_2701 = some r) : Con B 19 [.agg (C1 u8 d_2701.l)] [] (fun r' σ' => r' = u64 r ∧ σ' = []) := by
  refine con_walk (N := 17) (rs := [.tmp 2]) ok Tryd.func19 rfl (by decide +kernel) rfl rfl (Nat.le_of_ble_eq_true rfl) (fun F => ?_)
  have hE := ok.env F
  unfold r02_Number at h
  show Run (B.env F) 0 _ ⟨asFr 17 [(0, .agg (C1 u8 d_2701.l))], []⟩ _
  refine run_textE hE [1] (fr' := [(1, .ref 0 0)]) (σ' := [.box (C1 u8 d_2701.l) false]) ⟨_, orcs_nil, ?_⟩ ?_
  · simp only [go_sem, reduceIte, Nat.reduceLT, Nat.reduceEqDiff, Nat.reduceAdd]
  refine run_textE hE [1, 3] (fr' := [(1, .ref 0 0), (3, u64 ((0 : UInt64)))]) (σ' := [.box (C1 u8 d_2701.l) false]) ⟨_, orcs_nil, ?_⟩ ?_
  · simp only [go_sem, reduceIte, Nat.reduceLT, Nat.reduceEqDiff, Nat.reduceAdd]
  replace h := bind_some1 h; obtain ⟨j_2720, hA_2721, hj_2722⟩ := h
  refine run_join (fun (v : UInt64) => (⟨asFr 17 [(3, u64 v)], []⟩ : St)) (fun v => v = j_2720) ?_ ?_
  · have h := hA_2721; clear hA_2721
    refine run_textE hE [1, 3, 4] (fr' := [(1, .ref 0 0), (3, u64 ((0 : UInt64))), (4, i64 0)]) (σ' := [.box (C1 u8 d_2701.l) false]) ⟨_, orcs_nil, ?_⟩ ?_
    · simp only [go_sem, reduceIte, Nat.reduceLT, Nat.reduceEqDiff, Nat.reduceAdd]
    refine run_block ?_
    replace h := bind_some1 h; obtain ⟨x_2732, hx_2733, hj_2734⟩ := h
    refine run_loopO hx_2733 (fun (v : UInt64 × Int) => (⟨asFr 17 [(1, .ref 0 0), (3, u64 v.1), (4, i64 v.2)], [.box (C1 u8 d_2701.l) false]⟩ : St)) (weak_sel [0] (by decide) rfl (by simp only [go_sem, reduceIte, Nat.reduceLT, Nat.reduceEqDiff, Nat.reduceAdd]) (by simp only [go_sem, reduceIte, Nat.reduceLT, Nat.reduceEqDiff, Nat.reduceAdd])) ?_
    rintro ⟨n_2726, i_2727⟩ o_2735 h hxx_2736
    replace h : r02_Number_b1 d_2701 n_2726 i_2727 = some o_2735 := h
    unfold r02_Number_b1 at h
    refine run_seq ?_
    refine run_textE hE [1, 3, 4, 6] (fr' := [(1, .ref 0 0), (3, u64 n_2726), (4, i64 i_2727), (6, .bool ((decide (i_2727 < 8))))]) (σ' := [.box (C1 u8 d_2701.l) false]) ⟨_, orcs_nil, ?_⟩ ?_
    · simp only [go_sem, reduceIte, Nat.reduceLT, Nat.reduceEqDiff, Nat.reduceAdd]
    refine run_condL (b := (decide (i_2727 < 8))) rfl (by decide) (fun hb => ?_) (fun hb => ?_)
    · replace h := ite_t h hb
      refine run_skip ?_
      refine thenK_n ?_
      refine run_seq ?_
      refine run_block ?_
      replace h := chk_some h; obtain ⟨hc_2737, h⟩ := h
      replace h := lt1_some h; obtain ⟨n_2738, hz_2739, h⟩ := h
      refine run_textE0 hE (wk_block wk_then) [1, 3, 4] (fr' := [(1, .ref 0 0), (3, u64 n_2738), (4, i64 i_2727)]) (σ' := [.box (C1 u8 d_2701.l) false]) ⟨_, orcs_nil, ?_⟩ ?_
      · subst hz_2739; simp only [go_sem, reduceIte, Nat.reduceLT, Nat.reduceEqDiff, Nat.reduceAdd, Int.reduceToNat, hc_2737, hc_2737.2, lt_le hc_2737.2]
      refine blockK_n ?_
      refine thenK_n ?_
      refine run_textE0 hE wk_lp [1, 3, 4] (fr' := [(1, .ref 0 0), (3, u64 n_2738), (4, i64 ((w64 (i_2727 + 1))))]) (σ' := [.box (C1 u8 d_2701.l) false]) ⟨_, orcs_nil, ?_⟩ ?_
      · simp only [go_sem, reduceIte, Nat.reduceLT, Nat.reduceEqDiff, Nat.reduceAdd]
      obtain rfl := Option.some.inj h
      exact lpK_n ((n_2738, (w64 (i_2727 + 1)))) rfl (weak_sel [0] (by decide) rfl (by simp only [go_sem, reduceIte, Nat.reduceLT, Nat.reduceEqDiff, Nat.reduceAdd]) (by simp only [go_sem, reduceIte, Nat.reduceLT, Nat.reduceEqDiff, Nat.reduceAdd]))
    · replace h := ite_f h hb
      refine run_exit ?_
      refine thenK_x ?_
      obtain rfl := Option.some.inj h
      have ex_x_2732 := hxx_2736 _ rfl
      subst ex_x_2732
      have h := hj_2734; clear hj_2734
      refine lpK_x ?_
      refine blockK_x ?_
      obtain rfl := Option.some.inj h
      exact joinK_n n_2726 rfl ((weak_sel (l' := [(3, u64 n_2726)]) (σ' := []) [] (by decide) rfl (by simp only [go_sem, reduceIte, Nat.reduceLT, Nat.reduceEqDiff, Nat.reduceAdd]) (by simp only [go_sem, reduceIte, Nat.reduceLT, Nat.reduceEqDiff, Nat.reduceAdd])).trans (weak_sel [] (by decide) rfl (by simp only [go_sem, reduceIte, Nat.reduceLT, Nat.reduceEqDiff, Nat.reduceAdd]) (by simp only [go_sem, reduceIte, Nat.reduceLT, Nat.reduceEqDiff, Nat.reduceAdd])))
  rintro n_2719 rfl
  have h := hj_2722; clear hj_2722
  refine run_textE hE [2] (fr' := [(2, u64 n_2719)]) (σ' := []) ⟨_, orcs_nil, ?_⟩ ?_
  · simp only [go_sem, reduceIte, Nat.reduceLT, Nat.reduceEqDiff, Nat.reduceAdd]
  refine run_ret ?_
  obtain rfl := Option.some.inj h
  refine ret_ok (.inr rfl) ?_
  simp only [go_sem, reduceIte, Nat.reduceLT, Nat.reduceEqDiff, Nat.reduceAdd]

theorem r02_Same_con {a_2740 : List UInt8} {b_2741 : List UInt8} {r : Bool} (h : r02_Same a_2740 b_2741 = some r) : Con B 21 [.sl false (L cU8 a_2740), .sl false (L cU8 b_2741)] [] (fun r' σ' => r' = .bool r ∧ σ' = []) := by
  refine con_walk (N := 10) (rs := [.tmp 4]) ok Tryd.func21 rfl (by decide +kernel) rfl rfl (Nat.le_of_ble_eq_true rfl) (fun F => ?_)
  have hE := ok.env F
  unfold r02_Same at h
  show Run (B.env F) 0 _ ⟨asFr 10 [(0, .sl false (L cU8 a_2740)), (1, .sl false (L cU8 b_2741))], []⟩ _
  refine run_textE hE [0, 1] (fr' := [(0, .sl false (L cU8 a_2740)), (1, .sl false (L cU8 b_2741))]) (σ' := []) ⟨_, orcs_nil, ?_⟩ ?_
  · simp only [go_sem, reduceIte, Nat.reduceLT, Nat.reduceEqDiff, Nat.reduceAdd]
  refine run_textE hE [4] (fr' := [(4, .bool ((a_2740 == b_2741)))]) (σ' := []) ⟨_, orcs_nil, ?_⟩ ?_
  · simp only [go_sem, reduceIte, Nat.reduceLT, Nat.reduceEqDiff, Nat.reduceAdd]
  refine run_ret ?_
  obtain rfl := Option.some.inj h
  refine ret_ok (.inr rfl) ?_
  simp only [go_sem, reduceIte, Nat.reduceLT, Nat.reduceEqDiff, Nat.reduceAdd]

theorem digest_Value_con {tag_2742 : List UInt8} {v_2743 : Api_Value} {r : Arr UInt8 32 × Int} (h : digest_Value tag_2742 v_2743 = some r) : Con B 23 [.str tag_2742, .agg [i64 v_2743.Kind, i64 v_2743.N, .sl false (L cU8 v_2743.B), .sl false (L cApi_Value v_2743.L)]] [] (fun r' σ' => r' = .tup [.agg (C1 u8 r.1.l), i64 r.2] ∧ σ' = []) := by
  refine con_walk (N := 19) (rs := [.cell 4 25, .tmp 5]) ok Tryd.func23 rfl (by decide +kernel) rfl rfl (Nat.le_of_ble_eq_true rfl) (fun F => ?_)
  have hE := ok.env F
  unfold digest_Value at h
  show Run (B.env F) 0 _ ⟨asFr 19 [(0, .str tag_2742), (1, .agg [i64 v_2743.Kind, i64 v_2743.N, .sl false (L cU8 v_2743.B), .sl false (L cApi_Value v_2743.L)])], []⟩ _
  refine run_textE hE [0, 3, 4] (fr' := [(0, .str tag_2742), (3, .ref 0 0), (4, .ref 1 0)]) (σ' := [.box [i64 v_2743.Kind, i64 v_2743.N, .sl false (L cU8 v_2743.B), .sl false (L cApi_Value v_2743.L)] false, .box (C1 u8 ((Arr.rep 32 (0 : UInt8))).l) false]) ⟨_, orcs_nil, ?_⟩ ?_
  · simp only [go_sem, reduceIte, Nat.reduceLT, Nat.reduceEqDiff, Nat.reduceAdd]
  replace h := bind_some1 h; obtain ⟨y_2744, hy_2745, h⟩ := h
  refine run_textE hE [0, 4, 5, 6] (fr' := [(0, .str tag_2742), (4, .ref 1 0), (5, i64 y_2744.2), (6, .sl false (L cU8 y_2744.1))]) (σ' := [.box [i64 v_2743.Kind, i64 v_2743.N, .sl false (L cU8 v_2743.B), .sl false (L cApi_Value v_2743.L)] false, .box (C1 u8 ((Arr.rep 32 (0 : UInt8))).l) false]) ⟨_, orcs_ok (l := [(9, 22, [.agg [i64 v_2743.Kind, i64 v_2743.N, .sl false (L cU8 v_2743.B), .sl false (L cApi_Value v_2743.L)]], .tup [.sl false (L cU8 y_2744.1), i64 y_2744.2])]) ⟨codec_Encode_con  hy_2745, trivial⟩, ?_⟩ ?_
  · simp only [go_sem, reduceIte, Nat.reduceLT, Nat.reduceEqDiff, Nat.reduceAdd]
  refine run_seq ?_
  refine run_textE hE [0, 4, 5, 6, 13] (fr' := [(0, .str tag_2742), (4, .ref 1 0), (5, i64 y_2744.2), (6, .sl false (L cU8 y_2744.1)), (13, .bool ((y_2744.2 != 0)))]) (σ' := [.box [i64 v_2743.Kind, i64 v_2743.N, .sl false (L cU8 v_2743.B), .sl false (L cApi_Value v_2743.L)] false, .box (C1 u8 ((Arr.rep 32 (0 : UInt8))).l) false]) ⟨_, orcs_nil, ?_⟩ ?_
  · simp only [go_sem, reduceIte, Nat.reduceLT, Nat.reduceEqDiff, Nat.reduceAdd]
  refine run_condL (b := (y_2744.2 != 0)) rfl (by decide) (fun hb => ?_) (fun hb => ?_)
  · replace h := ite_t h hb
    replace h := lt1_some h; obtain ⟨f_2746, hz_2747, h⟩ := h
    refine run_textE hE [4, 5] (fr' := [(4, .ref 1 0), (5, i64 y_2744.2)]) (σ' := [.box [i64 v_2743.Kind, i64 v_2743.N, .sl false (L cU8 v_2743.B), .sl false (L cApi_Value v_2743.L)] false, .box (C1 u8 f_2746.l) false]) ⟨_, orcs_nil, ?_⟩ ?_
    · subst hz_2747; simp only [go_sem, reduceIte, Nat.reduceLT, Nat.reduceEqDiff, Nat.reduceAdd, Nat.reduceGT, C1_rep, C1_nil, C1_cons]
    refine run_ret ?_
    refine thenK_r ?_
    obtain rfl := Option.some.inj h
    refine ret_ok (.inr rfl) ?_
    simp only [go_sem, reduceIte, Nat.reduceLT, Nat.reduceEqDiff, Nat.reduceAdd]
  · replace h := ite_f h hb
    refine run_skip ?_
    refine thenK_n ?_
    replace h := bind_some1 h; obtain ⟨y_2748, hy_2749, h⟩ := h
    refine run_textE hE [4, 5] (fr' := [(4, .ref 1 0), (5, i64 0)]) (σ' := [.box [i64 v_2743.Kind, i64 v_2743.N, .sl false (L cU8 v_2743.B), .sl false (L cApi_Value v_2743.L)] false, .box (C1 u8 y_2748.l) false]) ⟨_, orcs_ok (l := [(18, 14, [.str tag_2742, .sl false (L cU8 y_2744.1)], .agg (C1 u8 y_2748.l))]) ⟨digest_Tagged_con  hy_2749, trivial⟩, ?_⟩ ?_
    · simp only [go_sem, reduceIte, Nat.reduceLT, Nat.reduceEqDiff, Nat.reduceAdd]
    refine run_ret ?_
    obtain rfl := Option.some.inj h
    refine ret_ok (.inr rfl) ?_
    simp only [go_sem, reduceIte, Nat.reduceLT, Nat.reduceEqDiff, Nat.reduceAdd]

theorem law02_vector_con {d_2750 : Arr UInt8 32} {a_2751 : UInt8} {b_2752 : UInt8} {c_2753 : UInt8} {e_2754 : UInt8} {last_2755 : UInt8} {r : Bool} (h : law02_vector d_2750 a_2751 b_2752 c_2753 e_2754 last_2755 = some r) : Con B 27 [.agg (C1 u8 d_2750.l), u8 a_2751, u8 b_2752, u8 c_2753, u8 e_2754, u8 last_2755] [] (fun r' σ' => r' = .bool r ∧ σ' = []) := by
  refine con_walk (N := 41) (rs := [.tmp 12]) ok Tryd.func27 rfl (by decide +kernel) rfl rfl (Nat.le_of_ble_eq_true rfl) (fun F => ?_)
  have hE := ok.env F
  unfold law02_vector at h
  show Run (B.env F) 0 _ ⟨asFr 41 [(0, .agg (C1 u8 d_2750.l)), (1, u8 a_2751), (2, u8 b_2752), (3, u8 c_2753), (4, u8 e_2754), (5, u8 last_2755)], []⟩ _
  refine run_textE hE [1, 2, 3, 4, 5, 6] (fr' := [(1, u8 a_2751), (2, u8 b_2752), (3, u8 c_2753), (4, u8 e_2754), (5, u8 last_2755), (6, .ref 0 0)]) (σ' := [.box (C1 u8 d_2750.l) false]) ⟨_, orcs_nil, ?_⟩ ?_
  · simp only [go_sem, reduceIte, Nat.reduceLT, Nat.reduceEqDiff, Nat.reduceAdd]
  replace h := bind_some1 h; obtain ⟨t_2756, hv_2757, h⟩ := h
  refine run_textW hE [12] (fr' := [(12, .bool t_2756)]) (σ' := []) ?_ ?_
  · have hk_2758 : InR 0 32 := by decide
    rcases Bool.eq_false_or_eq_true (((d_2750.get 0) == a_2751)) with hb_2759 | hb_2759
    · replace hv_2757 := ite_t hv_2757 hb_2759
      have hk_2760 : InR 1 32 := by decide
      rcases Bool.eq_false_or_eq_true (((d_2750.get 1) == b_2752)) with hb_2761 | hb_2761
      · replace hv_2757 := ite_t hv_2757 hb_2761
        have hk_2762 : InR 2 32 := by decide
        rcases Bool.eq_false_or_eq_true (((d_2750.get 2) == c_2753)) with hb_2763 | hb_2763
        · replace hv_2757 := ite_t hv_2757 hb_2763
          have hk_2764 : InR 3 32 := by decide
          rcases Bool.eq_false_or_eq_true (((d_2750.get 3) == e_2754)) with hb_2765 | hb_2765
          · replace hv_2757 := ite_t hv_2757 hb_2765
            have hk_2766 : InR 31 32 := by decide
            have e_hv_2757 := Option.some.inj hv_2757; subst e_hv_2757
            exact ⟨_, [(12, .bool (((d_2750.get 31) == last_2755)))], [.box (C1 u8 d_2750.l) false], orcs_nil, by simp only [go_sem, reduceIte, Nat.reduceLT, Nat.reduceEqDiff, Nat.reduceAdd, Int.reduceToNat, hk_2758, hk_2758.2, hb_2759, hk_2760, hk_2760.2, hb_2761, hk_2762, hk_2762.2, hb_2763, hk_2764, hk_2764.2, hb_2765, hk_2766, hk_2766.2], (weak_sel [] (by decide) rfl (by simp only [go_sem, reduceIte, Nat.reduceLT, Nat.reduceEqDiff, Nat.reduceAdd]) (by simp only [go_sem, reduceIte, Nat.reduceLT, Nat.reduceEqDiff, Nat.reduceAdd]))⟩
          · replace hv_2757 := ite_f hv_2757 hb_2765
            have e_hv_2757 := Option.some.inj hv_2757; subst e_hv_2757
            exact ⟨_, [(12, .bool false)], [.box (C1 u8 d_2750.l) false], orcs_nil, by simp only [go_sem, reduceIte, Nat.reduceLT, Nat.reduceEqDiff, Nat.reduceAdd, Int.reduceToNat, hk_2758, hk_2758.2, hb_2759, hk_2760, hk_2760.2, hb_2761, hk_2762, hk_2762.2, hb_2763, hk_2764, hk_2764.2, hb_2765], (weak_sel [] (by decide) rfl (by simp only [go_sem, reduceIte, Nat.reduceLT, Nat.reduceEqDiff, Nat.reduceAdd]) (by simp only [go_sem, reduceIte, Nat.reduceLT, Nat.reduceEqDiff, Nat.reduceAdd]))⟩
        · replace hv_2757 := ite_f hv_2757 hb_2763
          have e_hv_2757 := Option.some.inj hv_2757; subst e_hv_2757
          exact ⟨_, [(12, .bool false)], [.box (C1 u8 d_2750.l) false], orcs_nil, by simp only [go_sem, reduceIte, Nat.reduceLT, Nat.reduceEqDiff, Nat.reduceAdd, Int.reduceToNat, hk_2758, hk_2758.2, hb_2759, hk_2760, hk_2760.2, hb_2761, hk_2762, hk_2762.2, hb_2763], (weak_sel [] (by decide) rfl (by simp only [go_sem, reduceIte, Nat.reduceLT, Nat.reduceEqDiff, Nat.reduceAdd]) (by simp only [go_sem, reduceIte, Nat.reduceLT, Nat.reduceEqDiff, Nat.reduceAdd]))⟩
      · replace hv_2757 := ite_f hv_2757 hb_2761
        have e_hv_2757 := Option.some.inj hv_2757; subst e_hv_2757
        exact ⟨_, [(12, .bool false)], [.box (C1 u8 d_2750.l) false], orcs_nil, by simp only [go_sem, reduceIte, Nat.reduceLT, Nat.reduceEqDiff, Nat.reduceAdd, Int.reduceToNat, hk_2758, hk_2758.2, hb_2759, hk_2760, hk_2760.2, hb_2761], (weak_sel [] (by decide) rfl (by simp only [go_sem, reduceIte, Nat.reduceLT, Nat.reduceEqDiff, Nat.reduceAdd]) (by simp only [go_sem, reduceIte, Nat.reduceLT, Nat.reduceEqDiff, Nat.reduceAdd]))⟩
    · replace hv_2757 := ite_f hv_2757 hb_2759
      have e_hv_2757 := Option.some.inj hv_2757; subst e_hv_2757
      exact ⟨_, [(12, .bool false)], [.box (C1 u8 d_2750.l) false], orcs_nil, by simp only [go_sem, reduceIte, Nat.reduceLT, Nat.reduceEqDiff, Nat.reduceAdd, Int.reduceToNat, hk_2758, hk_2758.2, hb_2759], (weak_sel [] (by decide) rfl (by simp only [go_sem, reduceIte, Nat.reduceLT, Nat.reduceEqDiff, Nat.reduceAdd]) (by simp only [go_sem, reduceIte, Nat.reduceLT, Nat.reduceEqDiff, Nat.reduceAdd]))⟩
  refine run_ret ?_
  obtain rfl := Option.some.inj h
  refine ret_ok (.inr rfl) ?_
  simp only [go_sem, reduceIte, Nat.reduceLT, Nat.reduceEqDiff, Nat.reduceAdd]

end Go.Proofs.YtgdiabbgiiemcaaDoor
/-
  The functions compute just that.
-/
namespace Go.Proofs.YtgdiabbgiiemcaaDoor
open Go.Rv
set_option linter.unusedVariables false
set_option linter.unusedSimpArgs false
set_option maxRecDepth 20000

theorem law02_sane_con  {r : Bool} (h : law02_sane  = some r) : Con B 11 [] [] (fun r' σ' => r' = .bool r ∧ σ' = []) := by
  refine con_walk (N := 86) (rs := [.tmp 0]) ok Tryd.func11 rfl (by decide +kernel) rfl rfl (Nat.le_of_ble_eq_true rfl) (fun F => ?_)
  have hE := ok.env F
  unfold law02_sane at h
  show Run (B.env F) 0 _ ⟨asFr 86 [], []⟩ _
  refine run_textE hE [] (fr' := []) (σ' := []) ⟨_, orcs_nil, ?_⟩ ?_
  · simp only [go_sem, reduceIte, Nat.reduceLT, Nat.reduceEqDiff, Nat.reduceAdd]
  replace h := lt1_some h; obtain ⟨f_2767, hz_2768, h⟩ := h
  refine run_textE hE [1] (fr' := [(1, .ref 0 0)]) (σ' := [.box (C1 u8 f_2767.l) false]) ⟨_, orcs_nil, ?_⟩ ?_
  · subst hz_2768; simp only [go_sem, reduceIte, Nat.reduceLT, Nat.reduceEqDiff, Nat.reduceAdd, Nat.reduceGT, C1_rep, C1_nil, C1_cons]
  replace h := lt1_some h; obtain ⟨f_2769, hz_2770, h⟩ := h
  refine run_textE hE [1, 2] (fr' := [(1, .ref 0 0), (2, .ref 1 0)]) (σ' := [.box (C1 u8 f_2767.l) false, .box (C1 u8 f_2769.l) false]) ⟨_, orcs_nil, ?_⟩ ?_
  · subst hz_2770; simp only [go_sem, reduceIte, Nat.reduceLT, Nat.reduceEqDiff, Nat.reduceAdd, Nat.reduceGT, C1_rep, C1_nil, C1_cons]
  have hk_2771 : InR 6 32 := by decide
  replace h := lt1_some h; obtain ⟨f_2772, hz_2773, h⟩ := h
  refine run_textE hE [1, 2] (fr' := [(1, .ref 0 0), (2, .ref 1 0)]) (σ' := [.box (C1 u8 f_2767.l) false, .box (C1 u8 f_2772.l) false]) ⟨_, orcs_nil, ?_⟩ ?_
  · subst hz_2773; simp only [go_sem, reduceIte, Nat.reduceLT, Nat.reduceEqDiff, Nat.reduceAdd, Int.reduceToNat, Nat.reduceLeDiff, hk_2771, hk_2771.2]
  have hk_2774 : InR 7 32 := by decide
  replace h := lt1_some h; obtain ⟨f_2775, hz_2776, h⟩ := h
  refine run_textE hE [1, 2] (fr' := [(1, .ref 0 0), (2, .ref 1 0)]) (σ' := [.box (C1 u8 f_2767.l) false, .box (C1 u8 f_2775.l) false]) ⟨_, orcs_nil, ?_⟩ ?_
  · subst hz_2776; simp only [go_sem, reduceIte, Nat.reduceLT, Nat.reduceEqDiff, Nat.reduceAdd, Int.reduceToNat, Nat.reduceLeDiff, hk_2774, hk_2774.2]
  replace h := bind_some1 h; obtain ⟨y_2777, hy_2778, h⟩ := h
  refine run_textE hE [1, 2, 3, 4] (fr' := [(1, .ref 0 0), (2, .ref 1 0), (3, .ref 2 0), (4, i64 y_2777.2)]) (σ' := [.box (C1 u8 f_2767.l) false, .box (C1 u8 f_2775.l) false, .box (C1 u8 y_2777.1.l) false]) ⟨_, orcs_ok (l := [(18, 23, [.str (([116] : List UInt8)), .agg [i64 1, i64 0, .sl false (L cU8 ([])), .sl false (L cApi_Value ([]))]], .tup [.agg (C1 u8 y_2777.1.l), i64 y_2777.2])]) ⟨digest_Value_con  hy_2778, trivial⟩, ?_⟩ ?_
  · simp only [go_sem, reduceIte, Nat.reduceLT, Nat.reduceEqDiff, Nat.reduceAdd, Nat.reduceGT]
  replace h := bind_some1 h; obtain ⟨y_2779, hy_2780, h⟩ := h
  refine run_textE hE [1, 2, 3, 4, 5, 6] (fr' := [(1, .ref 0 0), (2, .ref 1 0), (3, .ref 2 0), (4, i64 y_2777.2), (5, .sl false (L cU8 y_2779.1)), (6, i64 y_2779.2)]) (σ' := [.box (C1 u8 f_2767.l) false, .box (C1 u8 f_2775.l) false, .box (C1 u8 y_2777.1.l) false]) ⟨_, orcs_ok (l := [(23, 22, [.agg [i64 1, i64 0, .sl false (L cU8 ([])), .sl false (L cApi_Value ([]))]], .tup [.sl false (L cU8 y_2779.1), i64 y_2779.2])]) ⟨codec_Encode_con  hy_2780, trivial⟩, ?_⟩ ?_
  · simp only [go_sem, reduceIte, Nat.reduceLT, Nat.reduceEqDiff, Nat.reduceAdd, Nat.reduceGT]
  replace h := bind_some1 h; obtain ⟨y_2781, hy_2782, h⟩ := h
  refine run_textE hE [1, 2, 3, 4, 5, 6, 8] (fr' := [(1, .ref 0 0), (2, .ref 1 0), (3, .ref 2 0), (4, i64 y_2777.2), (5, .sl false (L cU8 y_2779.1)), (6, i64 y_2779.2), (8, i64 y_2781.2)]) (σ' := [.box (C1 u8 f_2767.l) false, .box (C1 u8 f_2775.l) false, .box (C1 u8 y_2777.1.l) false, .box (C1 u8 y_2781.1.l) false]) ⟨_, orcs_ok (l := [(28, 23, [.str (([116] : List UInt8)), .agg [i64 0, i64 0, .sl false (L cU8 ([])), .sl false (L cApi_Value ([]))]], .tup [.agg (C1 u8 y_2781.1.l), i64 y_2781.2])]) ⟨digest_Value_con  hy_2782, trivial⟩, ?_⟩ ?_
  · simp only [go_sem, reduceIte, Nat.reduceLT, Nat.reduceEqDiff, Nat.reduceAdd, Nat.reduceGT]
  replace h := bind_some1 h; obtain ⟨sums_2787, hv_2788, h⟩ := h
  refine run_textW hE [1, 2, 3, 4, 5, 6, 8, 9] (fr' := [(1, .ref 0 0), (2, .ref 1 0), (3, .ref 2 0), (4, i64 y_2777.2), (5, .sl false (L cU8 y_2779.1)), (6, i64 y_2779.2), (8, i64 y_2781.2), (9, .bool sums_2787)]) (σ' := [.box (C1 u8 f_2767.l) false, .box (C1 u8 f_2775.l) false, .box (C1 u8 y_2777.1.l) false]) ?_ ?_
  · replace hv_2788 := bind_some1 hv_2788; obtain ⟨y_2783, hy_2789, hv_2788⟩ := hv_2788
    replace hv_2788 := bind_some1 hv_2788; obtain ⟨y_2784, hy_2790, hv_2788⟩ := hv_2788
    rcases Bool.eq_false_or_eq_true y_2784 with hb_2791 | hb_2791
    · replace hv_2788 := ite_t hv_2788 hb_2791
      replace hv_2788 := bind_some1 hv_2788; obtain ⟨y_2785, hy_2792, hv_2788⟩ := hv_2788
      replace hv_2788 := bind_some1 hv_2788; obtain ⟨y_2786, hy_2793, hv_2788⟩ := hv_2788
      have e_hv_2788 := Option.some.inj hv_2788; subst e_hv_2788
      exact ⟨_, [(1, .ref 0 0), (2, .ref 1 0), (3, .ref 2 0), (4, i64 y_2777.2), (5, .sl false (L cU8 y_2779.1)), (6, i64 y_2779.2), (8, i64 y_2781.2), (9, .bool y_2786)], [.box (C1 u8 f_2767.l) false, .box (C1 u8 f_2775.l) false, .box (C1 u8 y_2777.1.l) false, .box (C1 u8 y_2781.1.l) false, .buf 1 (L cU8 (([(97 : UInt8), (98 : UInt8), (99 : UInt8)] : List UInt8))) false], orcs_ok (l := [(31, 12, [.sl false (L cU8 ([]))], .agg (C1 u8 y_2783.l)), (32, 27, [.agg (C1 u8 y_2783.l), u8 ((227 : UInt8)), u8 ((176 : UInt8)), u8 ((196 : UInt8)), u8 ((66 : UInt8)), u8 ((85 : UInt8))], .bool y_2784), (36, 12, [.sl false (L cU8 (([(97 : UInt8), (98 : UInt8), (99 : UInt8)] : List UInt8)))], .agg (C1 u8 y_2785.l)), (37, 27, [.agg (C1 u8 y_2785.l), u8 ((186 : UInt8)), u8 ((120 : UInt8)), u8 ((22 : UInt8)), u8 ((191 : UInt8)), u8 ((173 : UInt8))], .bool y_2786)]) ⟨digest_Sum_con  hy_2789, law02_vector_con  hy_2790, digest_Sum_con  hy_2792, law02_vector_con  hy_2793, trivial⟩, by simp only [go_sem, reduceIte, Nat.reduceLT, Nat.reduceEqDiff, Nat.reduceAdd, Nat.reduceBEq, Nat.reduceMul, Nat.reduceSub, Nat.reduceGT, Nat.reducePow, Nat.reduceLeDiff, Int.reduceToNat, hb_2791], (weak_sel [0, 1, 2] (by decide) rfl (by simp only [go_sem, reduceIte, Nat.reduceLT, Nat.reduceEqDiff, Nat.reduceAdd]) (by simp only [go_sem, reduceIte, Nat.reduceLT, Nat.reduceEqDiff, Nat.reduceAdd]))⟩
    · replace hv_2788 := ite_f hv_2788 hb_2791
      have e_hv_2788 := Option.some.inj hv_2788; subst e_hv_2788
      exact ⟨_, [(1, .ref 0 0), (2, .ref 1 0), (3, .ref 2 0), (4, i64 y_2777.2), (5, .sl false (L cU8 y_2779.1)), (6, i64 y_2779.2), (8, i64 y_2781.2), (9, .bool false)], [.box (C1 u8 f_2767.l) false, .box (C1 u8 f_2775.l) false, .box (C1 u8 y_2777.1.l) false, .box (C1 u8 y_2781.1.l) false], orcs_ok (l := [(31, 12, [.sl false (L cU8 ([]))], .agg (C1 u8 y_2783.l)), (32, 27, [.agg (C1 u8 y_2783.l), u8 ((227 : UInt8)), u8 ((176 : UInt8)), u8 ((196 : UInt8)), u8 ((66 : UInt8)), u8 ((85 : UInt8))], .bool y_2784)]) ⟨digest_Sum_con  hy_2789, law02_vector_con  hy_2790, trivial⟩, by simp only [go_sem, reduceIte, Nat.reduceLT, Nat.reduceEqDiff, Nat.reduceAdd, Nat.reduceBEq, Nat.reduceMul, Nat.reduceSub, Nat.reduceGT, Nat.reducePow, Nat.reduceLeDiff, Int.reduceToNat, hb_2791], (weak_sel [0, 1, 2] (by decide) rfl (by simp only [go_sem, reduceIte, Nat.reduceLT, Nat.reduceEqDiff, Nat.reduceAdd]) (by simp only [go_sem, reduceIte, Nat.reduceLT, Nat.reduceEqDiff, Nat.reduceAdd]))⟩
  replace h := bind_some1 h; obtain ⟨tags_2798, hv_2799, h⟩ := h
  refine run_textW hE [1, 2, 3, 4, 5, 6, 8, 9, 10] (fr' := [(1, .ref 0 0), (2, .ref 1 0), (3, .ref 2 0), (4, i64 y_2777.2), (5, .sl false (L cU8 y_2779.1)), (6, i64 y_2779.2), (8, i64 y_2781.2), (9, .bool sums_2787), (10, .bool tags_2798)]) (σ' := [.box (C1 u8 f_2767.l) false, .box (C1 u8 f_2775.l) false, .box (C1 u8 y_2777.1.l) false]) ?_ ?_
  · replace hv_2799 := bind_some1 hv_2799; obtain ⟨y_2794, hy_2800, hv_2799⟩ := hv_2799
    replace hv_2799 := bind_some1 hv_2799; obtain ⟨y_2795, hy_2801, hv_2799⟩ := hv_2799
    rcases Bool.eq_false_or_eq_true ((y_2794 == y_2795)) with hb_2802 | hb_2802
    · replace hv_2799 := ite_t hv_2799 hb_2802
      replace hv_2799 := bind_some1 hv_2799; obtain ⟨y_2796, hy_2803, hv_2799⟩ := hv_2799
      replace hv_2799 := bind_some1 hv_2799; obtain ⟨y_2797, hy_2804, hv_2799⟩ := hv_2799
      have e_hv_2799 := Option.some.inj hv_2799; subst e_hv_2799
      exact ⟨_, [(1, .ref 0 0), (2, .ref 1 0), (3, .ref 2 0), (4, i64 y_2777.2), (5, .sl false (L cU8 y_2779.1)), (6, i64 y_2779.2), (8, i64 y_2781.2), (9, .bool sums_2787), (10, .bool ((y_2796 == y_2797)))], [.box (C1 u8 f_2767.l) false, .box (C1 u8 f_2775.l) false, .box (C1 u8 y_2777.1.l) false, .buf 1 (L cU8 (([(98 : UInt8), (99 : UInt8)] : List UInt8))) false, .buf 1 (L cU8 (([(1 : UInt8), (97 : UInt8), (98 : UInt8), (99 : UInt8)] : List UInt8))) false, .buf 1 (L cU8 (([(0 : UInt8)] : List UInt8))) false], orcs_ok (l := [(41, 14, [.str (([97] : List UInt8)), .sl false (L cU8 (([(98 : UInt8), (99 : UInt8)] : List UInt8)))], .agg (C1 u8 y_2794.l)), (43, 12, [.sl false (L cU8 (([(1 : UInt8), (97 : UInt8), (98 : UInt8), (99 : UInt8)] : List UInt8)))], .agg (C1 u8 y_2795.l)), (46, 14, [.str (([] : List UInt8)), .sl false (L cU8 ([]))], .agg (C1 u8 y_2796.l)), (48, 12, [.sl false (L cU8 (([(0 : UInt8)] : List UInt8)))], .agg (C1 u8 y_2797.l))]) ⟨digest_Tagged_con  hy_2800, digest_Sum_con  hy_2801, digest_Tagged_con  hy_2803, digest_Sum_con  hy_2804, trivial⟩, by simp only [go_sem, reduceIte, Nat.reduceLT, Nat.reduceEqDiff, Nat.reduceAdd, Nat.reduceBEq, Nat.reduceMul, Nat.reduceSub, Nat.reduceGT, Nat.reducePow, Nat.reduceLeDiff, Int.reduceToNat, hb_2802], (weak_sel [0, 1, 2] (by decide) rfl (by simp only [go_sem, reduceIte, Nat.reduceLT, Nat.reduceEqDiff, Nat.reduceAdd]) (by simp only [go_sem, reduceIte, Nat.reduceLT, Nat.reduceEqDiff, Nat.reduceAdd]))⟩
    · replace hv_2799 := ite_f hv_2799 hb_2802
      have e_hv_2799 := Option.some.inj hv_2799; subst e_hv_2799
      exact ⟨_, [(1, .ref 0 0), (2, .ref 1 0), (3, .ref 2 0), (4, i64 y_2777.2), (5, .sl false (L cU8 y_2779.1)), (6, i64 y_2779.2), (8, i64 y_2781.2), (9, .bool sums_2787), (10, .bool false)], [.box (C1 u8 f_2767.l) false, .box (C1 u8 f_2775.l) false, .box (C1 u8 y_2777.1.l) false, .buf 1 (L cU8 (([(98 : UInt8), (99 : UInt8)] : List UInt8))) false, .buf 1 (L cU8 (([(1 : UInt8), (97 : UInt8), (98 : UInt8), (99 : UInt8)] : List UInt8))) false], orcs_ok (l := [(41, 14, [.str (([97] : List UInt8)), .sl false (L cU8 (([(98 : UInt8), (99 : UInt8)] : List UInt8)))], .agg (C1 u8 y_2794.l)), (43, 12, [.sl false (L cU8 (([(1 : UInt8), (97 : UInt8), (98 : UInt8), (99 : UInt8)] : List UInt8)))], .agg (C1 u8 y_2795.l))]) ⟨digest_Tagged_con  hy_2800, digest_Sum_con  hy_2801, trivial⟩, by simp only [go_sem, reduceIte, Nat.reduceLT, Nat.reduceEqDiff, Nat.reduceAdd, Nat.reduceBEq, Nat.reduceMul, Nat.reduceSub, Nat.reduceGT, Nat.reducePow, Nat.reduceLeDiff, Int.reduceToNat, hb_2802], (weak_sel [0, 1, 2] (by decide) rfl (by simp only [go_sem, reduceIte, Nat.reduceLT, Nat.reduceEqDiff, Nat.reduceAdd]) (by simp only [go_sem, reduceIte, Nat.reduceLT, Nat.reduceEqDiff, Nat.reduceAdd]))⟩
  replace h := bind_some1 h; obtain ⟨links_2808, hv_2809, h⟩ := h
  refine run_drawW hE mixed [[], [0], [], [0, 1, 2], [0, 1, 2, 3], [0, 1, 2, 3, 4], [0, 1, 2, 3, 4, 5], [0, 1, 2, 3, 4, 5, 6], [0, 1, 2, 3, 4, 5, 6, 7], [0, 1, 2, 3, 4, 5, 6, 7, 8], [0, 1, 2, 3, 4, 5, 6, 7, 8, 9]] (by kernel_rfl) (by kernel_rfl) [3, 4, 5, 6, 8, 9, 10, 11] (fr' := [(3, .ref 0 0), (4, i64 y_2777.2), (5, .sl false (L cU8 y_2779.1)), (6, i64 y_2779.2), (8, i64 y_2781.2), (9, .bool sums_2787), (10, .bool tags_2798), (11, .bool links_2808)]) (σ' := [.box (C1 u8 y_2777.1.l) false]) ?_ ?_
  · replace hv_2809 := bind_some1 hv_2809; obtain ⟨y_2805, hy_2810, hv_2809⟩ := hv_2809
    replace hv_2809 := bind_some1 hv_2809; obtain ⟨y_2806, hy_2811, hv_2809⟩ := hv_2809
    rcases Bool.eq_false_or_eq_true ((y_2805 == y_2806)) with hb_2812 | hb_2812
    · replace hv_2809 := ite_t hv_2809 hb_2812
      replace hv_2809 := bind_some1 hv_2809; obtain ⟨y_2807, hy_2813, hv_2809⟩ := hv_2809
      have e_hv_2809 := Option.some.inj hv_2809; subst e_hv_2809
      exact ⟨_, [(3, .ref 2 0), (4, i64 y_2777.2), (5, .sl false (L cU8 y_2779.1)), (6, i64 y_2779.2), (8, i64 y_2781.2), (9, .bool sums_2787), (10, .bool tags_2798), (11, .bool ((y_2807 == (258 : UInt64))))], [.box (C1 u8 f_2767.l) true, .box (C1 u8 f_2775.l) false, .box (C1 u8 y_2777.1.l) false], orcs_ok (l := [(52, 16, [.agg (C1 u8 f_2767.l), .sl false (L cU8 ([]))], .agg (C1 u8 y_2805.l)), (54, 14, [.str (([110, 101, 120, 116] : List UInt8)), .sl false (L cU8 f_2767.l)], .agg (C1 u8 y_2806.l)), (58, 18, [.agg (C1 u8 f_2775.l)], u64 y_2807)]) ⟨digest_Next_con  hy_2810, digest_Tagged_con  hy_2811, digest_Number_con  hy_2813, trivial⟩, by simp only [go_sem, reduceIte, Nat.reduceLT, Nat.reduceEqDiff, Nat.reduceAdd, Int.reduceToNat, hb_2812], (weak_sel [2] (by decide) rfl (by simp only [go_sem, reduceIte, Nat.reduceLT, Nat.reduceEqDiff, Nat.reduceAdd]) (by simp only [go_sem, reduceIte, Nat.reduceLT, Nat.reduceEqDiff, Nat.reduceAdd]))⟩
    · replace hv_2809 := ite_f hv_2809 hb_2812
      have e_hv_2809 := Option.some.inj hv_2809; subst e_hv_2809
      exact ⟨_, [(3, .ref 2 0), (4, i64 y_2777.2), (5, .sl false (L cU8 y_2779.1)), (6, i64 y_2779.2), (8, i64 y_2781.2), (9, .bool sums_2787), (10, .bool tags_2798), (11, .bool false)], [.box (C1 u8 f_2767.l) true, .box (C1 u8 f_2775.l) false, .box (C1 u8 y_2777.1.l) false], orcs_ok (l := [(52, 16, [.agg (C1 u8 f_2767.l), .sl false (L cU8 ([]))], .agg (C1 u8 y_2805.l)), (54, 14, [.str (([110, 101, 120, 116] : List UInt8)), .sl false (L cU8 f_2767.l)], .agg (C1 u8 y_2806.l))]) ⟨digest_Next_con  hy_2810, digest_Tagged_con  hy_2811, trivial⟩, by simp only [go_sem, reduceIte, Nat.reduceLT, Nat.reduceEqDiff, Nat.reduceAdd, Int.reduceToNat, hb_2812], (weak_sel [2] (by decide) rfl (by simp only [go_sem, reduceIte, Nat.reduceLT, Nat.reduceEqDiff, Nat.reduceAdd]) (by simp only [go_sem, reduceIte, Nat.reduceLT, Nat.reduceEqDiff, Nat.reduceAdd]))⟩
  replace h := bind_some1 h; obtain ⟨t_2815, hv_2816, h⟩ := h
  refine run_drawW hE mixed [[], [0], [0, 1], [0, 1, 2], [0, 1, 2, 3], [0, 1, 2, 3, 4], [0, 1, 2, 3, 4, 5], [0, 1, 2, 3, 4, 5, 6], [0, 1, 2, 3, 4, 5, 6, 7], [0, 1, 2, 3, 4, 5, 6, 7, 8], [0, 1, 2, 3, 4, 5, 6, 7, 8, 9], [0, 1, 2, 3, 4, 5, 6, 7, 8, 9, 10], [0, 1, 2, 3, 4, 5, 6, 7, 8, 9, 10, 11], [0, 1, 2, 3, 4, 5, 6, 7, 8, 9, 10, 11, 12], [0, 1, 2, 3, 4, 5, 6, 7, 8, 9, 10, 11, 12, 13], [0, 1, 2, 3, 4, 5, 6, 7, 8, 9, 10, 11, 12, 13, 14], [0, 1, 2, 3, 4, 5, 6, 7, 8, 9, 10, 11, 12, 13, 14, 15], [0, 1, 2, 3, 4, 5, 6, 7, 8, 9, 10, 11, 12, 13, 14, 15], [0, 1, 2, 3, 4, 5, 6, 7, 8, 9, 10, 11, 12, 13, 14, 15, 17], [0, 1, 2, 3, 4, 5, 6, 7, 8, 9, 10, 11, 12, 13, 14, 15, 16, 17, 18], [0, 1, 2, 3, 4, 5, 6, 7, 8, 9, 10, 11, 12, 13, 14, 15, 16, 17, 18, 19], [0, 1, 2, 3, 4, 5, 6, 7, 8, 9, 10, 11, 12, 13, 14, 15, 16, 17, 18, 19, 20], [0, 1, 2, 3, 4, 5, 6, 7, 8, 9, 10, 11, 12, 13, 14, 15, 16, 17, 18, 19, 20, 21], [0, 1, 2, 3, 4, 5, 6, 7, 8, 9, 10, 11, 12, 13, 14, 15, 16, 17, 18, 19, 20, 21, 22], [0, 1, 2, 3, 4, 5, 6, 7, 8, 9, 10, 11, 12, 13, 14, 15, 16, 17, 18, 19, 20, 21, 22, 23], [0, 1, 2, 3, 4, 5, 6, 7, 8, 9, 10, 11, 12, 13, 14, 15, 16, 17, 18, 19, 20, 21, 22, 23, 24]] (by kernel_rfl) (by kernel_rfl) [0] (fr' := [(0, .bool t_2815)]) (σ' := []) ?_ ?_
  · rcases Bool.eq_false_or_eq_true sums_2787 with hb_2817 | hb_2817
    · replace hv_2816 := ite_t hv_2816 hb_2817
      rcases Bool.eq_false_or_eq_true tags_2798 with hb_2818 | hb_2818
      · replace hv_2816 := ite_t hv_2816 hb_2818
        rcases Bool.eq_false_or_eq_true links_2808 with hb_2819 | hb_2819
        · replace hv_2816 := ite_t hv_2816 hb_2819
          rcases Bool.eq_false_or_eq_true ((y_2777.2 == 0)) with hb_2820 | hb_2820
          · replace hv_2816 := ite_t hv_2816 hb_2820
            rcases Bool.eq_false_or_eq_true ((y_2779.2 == 0)) with hb_2821 | hb_2821
            · replace hv_2816 := ite_t hv_2816 hb_2821
              replace hv_2816 := bind_some1 hv_2816; obtain ⟨y_2814, hy_2822, hv_2816⟩ := hv_2816
              rcases Bool.eq_false_or_eq_true ((y_2777.1 == y_2814)) with hb_2823 | hb_2823
              · replace hv_2816 := ite_t hv_2816 hb_2823
                have e_hv_2816 := Option.some.inj hv_2816; subst e_hv_2816
                exact ⟨_, [(0, .bool ((y_2781.2 == 10)))], [.box (C1 u8 y_2777.1.l) false], orcs_ok (l := [(79, 14, [.str (([116] : List UInt8)), .sl false (L cU8 y_2779.1)], .agg (C1 u8 y_2814.l))]) ⟨digest_Tagged_con  hy_2822, trivial⟩, by simp only [go_sem, reduceIte, Nat.reduceLT, Nat.reduceEqDiff, Nat.reduceAdd, hb_2817, hb_2818, hb_2819, hb_2820, hb_2821, hb_2823], (weak_sel [] (by decide) rfl (by simp only [go_sem, reduceIte, Nat.reduceLT, Nat.reduceEqDiff, Nat.reduceAdd]) (by simp only [go_sem, reduceIte, Nat.reduceLT, Nat.reduceEqDiff, Nat.reduceAdd]))⟩
              · replace hv_2816 := ite_f hv_2816 hb_2823
                have e_hv_2816 := Option.some.inj hv_2816; subst e_hv_2816
                exact ⟨_, [(0, .bool false)], [.box (C1 u8 y_2777.1.l) false], orcs_ok (l := [(79, 14, [.str (([116] : List UInt8)), .sl false (L cU8 y_2779.1)], .agg (C1 u8 y_2814.l))]) ⟨digest_Tagged_con  hy_2822, trivial⟩, by simp only [go_sem, reduceIte, Nat.reduceLT, Nat.reduceEqDiff, Nat.reduceAdd, hb_2817, hb_2818, hb_2819, hb_2820, hb_2821, hb_2823], (weak_sel [] (by decide) rfl (by simp only [go_sem, reduceIte, Nat.reduceLT, Nat.reduceEqDiff, Nat.reduceAdd]) (by simp only [go_sem, reduceIte, Nat.reduceLT, Nat.reduceEqDiff, Nat.reduceAdd]))⟩
            · replace hv_2816 := ite_f hv_2816 hb_2821
              have e_hv_2816 := Option.some.inj hv_2816; subst e_hv_2816
              exact ⟨_, [(0, .bool false)], [.box (C1 u8 y_2777.1.l) false], orcs_nil, by simp only [go_sem, reduceIte, Nat.reduceLT, Nat.reduceEqDiff, Nat.reduceAdd, hb_2817, hb_2818, hb_2819, hb_2820, hb_2821], (weak_sel [] (by decide) rfl (by simp only [go_sem, reduceIte, Nat.reduceLT, Nat.reduceEqDiff, Nat.reduceAdd]) (by simp only [go_sem, reduceIte, Nat.reduceLT, Nat.reduceEqDiff, Nat.reduceAdd]))⟩
          · replace hv_2816 := ite_f hv_2816 hb_2820
            have e_hv_2816 := Option.some.inj hv_2816; subst e_hv_2816
            exact ⟨_, [(0, .bool false)], [.box (C1 u8 y_2777.1.l) false], orcs_nil, by simp only [go_sem, reduceIte, Nat.reduceLT, Nat.reduceEqDiff, Nat.reduceAdd, hb_2817, hb_2818, hb_2819, hb_2820], (weak_sel [] (by decide) rfl (by simp only [go_sem, reduceIte, Nat.reduceLT, Nat.reduceEqDiff, Nat.reduceAdd]) (by simp only [go_sem, reduceIte, Nat.reduceLT, Nat.reduceEqDiff, Nat.reduceAdd]))⟩
        · replace hv_2816 := ite_f hv_2816 hb_2819
          have e_hv_2816 := Option.some.inj hv_2816; subst e_hv_2816
          exact ⟨_, [(0, .bool false)], [.box (C1 u8 y_2777.1.l) false], orcs_nil, by simp only [go_sem, reduceIte, Nat.reduceLT, Nat.reduceEqDiff, Nat.reduceAdd, hb_2817, hb_2818, hb_2819], (weak_sel [] (by decide) rfl (by simp only [go_sem, reduceIte, Nat.reduceLT, Nat.reduceEqDiff, Nat.reduceAdd]) (by simp only [go_sem, reduceIte, Nat.reduceLT, Nat.reduceEqDiff, Nat.reduceAdd]))⟩
      · replace hv_2816 := ite_f hv_2816 hb_2818
        have e_hv_2816 := Option.some.inj hv_2816; subst e_hv_2816
        exact ⟨_, [(0, .bool false)], [.box (C1 u8 y_2777.1.l) false], orcs_nil, by simp only [go_sem, reduceIte, Nat.reduceLT, Nat.reduceEqDiff, Nat.reduceAdd, hb_2817, hb_2818], (weak_sel [] (by decide) rfl (by simp only [go_sem, reduceIte, Nat.reduceLT, Nat.reduceEqDiff, Nat.reduceAdd]) (by simp only [go_sem, reduceIte, Nat.reduceLT, Nat.reduceEqDiff, Nat.reduceAdd]))⟩
    · replace hv_2816 := ite_f hv_2816 hb_2817
      have e_hv_2816 := Option.some.inj hv_2816; subst e_hv_2816
      exact ⟨_, [(0, .bool false)], [.box (C1 u8 y_2777.1.l) false], orcs_nil, by simp only [go_sem, reduceIte, Nat.reduceLT, Nat.reduceEqDiff, Nat.reduceAdd, hb_2817], (weak_sel [] (by decide) rfl (by simp only [go_sem, reduceIte, Nat.reduceLT, Nat.reduceEqDiff, Nat.reduceAdd]) (by simp only [go_sem, reduceIte, Nat.reduceLT, Nat.reduceEqDiff, Nat.reduceAdd]))⟩
  refine run_ret ?_
  obtain rfl := Option.some.inj h
  refine ret_ok (.inr rfl) ?_
  simp only [go_sem, reduceIte, Nat.reduceLT, Nat.reduceEqDiff, Nat.reduceAdd]

theorem bytealg_Compare_con {a : List UInt8} {b : List UInt8} {r : Int} (h : bytealg_Compare a b = some r) : Con B 42 [.sl false (L cU8 a), .sl false (L cU8 b)] [] (fun r' σ' => r' = i64 r ∧ σ' = []) :=
  con_compare Tryd.func42 (by decide +kernel) rfl (by kernel_rfl) (by kernel_rfl) h

theorem bytes_Compare_con {a_2824 : List UInt8} {b_2825 : List UInt8} {r : Int} (h : bytes_Compare a_2824 b_2825 = some r) : Con B 34 [.sl false (L cU8 a_2824), .sl false (L cU8 b_2825)] [] (fun r' σ' => r' = i64 r ∧ σ' = []) := by
  refine con_walk (N := 8) (rs := [.tmp 4]) ok Tryd.func34 rfl (by decide +kernel) rfl rfl (Nat.le_of_ble_eq_true rfl) (fun F => ?_)
  have hE := ok.env F
  unfold bytes_Compare at h
  show Run (B.env F) 0 _ ⟨asFr 8 [(0, .sl false (L cU8 a_2824)), (1, .sl false (L cU8 b_2825))], []⟩ _
  refine run_textE hE [0, 1] (fr' := [(0, .sl false (L cU8 a_2824)), (1, .sl false (L cU8 b_2825))]) (σ' := []) ⟨_, orcs_nil, ?_⟩ ?_
  · simp only [go_sem, reduceIte, Nat.reduceLT, Nat.reduceEqDiff, Nat.reduceAdd]
  replace h := bind_some1 h; obtain ⟨y_2826, hy_2827, h⟩ := h
  refine run_textE hE [4] (fr' := [(4, i64 y_2826)]) (σ' := []) ⟨_, orcs_ok (l := [(7, 42, [.sl false (L cU8 a_2824), .sl false (L cU8 b_2825)], i64 y_2826)]) ⟨bytealg_Compare_con  hy_2827, trivial⟩, ?_⟩ ?_
  · simp only [go_sem, reduceIte, Nat.reduceLT, Nat.reduceEqDiff, Nat.reduceAdd]
  refine run_ret ?_
  obtain rfl := Option.some.inj h
  refine ret_ok (.inr rfl) ?_
  simp only [go_sem, reduceIte, Nat.reduceLT, Nat.reduceEqDiff, Nat.reduceAdd]

theorem cmp_isNaN_con {x_2828 : Int} {r : Bool} (h : cmp_isNaN x_2828 = some r) : Con B 41 [i64 x_2828] [] (fun r' σ' => r' = .bool r ∧ σ' = []) := by
  refine con_walk (N := 6) (rs := [.tmp 2]) ok Tryd.func41 rfl (by decide +kernel) rfl rfl (Nat.le_of_ble_eq_true rfl) (fun F => ?_)
  have hE := ok.env F
  unfold cmp_isNaN at h
  show Run (B.env F) 0 _ ⟨asFr 6 [(0, i64 x_2828)], []⟩ _
  refine run_textE hE [0] (fr' := [(0, i64 x_2828)]) (σ' := []) ⟨_, orcs_nil, ?_⟩ ?_
  · simp only [go_sem, reduceIte, Nat.reduceLT, Nat.reduceEqDiff, Nat.reduceAdd]
  refine run_textE hE [2] (fr' := [(2, .bool ((x_2828 != x_2828)))]) (σ' := []) ⟨_, orcs_nil, ?_⟩ ?_
  · simp only [go_sem, reduceIte, Nat.reduceLT, Nat.reduceEqDiff, Nat.reduceAdd]
  refine run_ret ?_
  obtain rfl := Option.some.inj h
  refine ret_ok (.inr rfl) ?_
  simp only [go_sem, reduceIte, Nat.reduceLT, Nat.reduceEqDiff, Nat.reduceAdd]

end Go.Proofs.YtgdiabbgiiemcaaDoor
