/-
  The functions compute just that.
-/
import Derived.Test.YtgdiabbgiiemcaaDoorDW10
import Derived.KernelRfl
namespace Go.Proofs.YtgdiabbgiiemcaaDoor
open Go.Rv
set_option linter.unusedVariables false
set_option linter.unusedSimpArgs false
set_option maxRecDepth 20000

theorem law02_chain_con {d_2876 : Arr UInt8 32} {l_2877 : List (List UInt8)} {r : List (Arr UInt8 32)} (h : law02_chain d_2876 l_2877 = some r) : Con B 25 [.agg (C1 u8 d_2876.l), .sl false (L (cSl cU8) l_2877)] [] (fun r' σ' => r' = .sl false (L (cArr u8 32) r) ∧ σ' = []) := by
  refine con_walk (N := 30) (rs := [.tmp 4]) ok Tryd.func25 rfl (by decide +kernel) rfl rfl (Nat.le_of_ble_eq_true rfl) (fun F => ?_)
  have hE := ok.env F
  unfold law02_chain at h
  show Run (B.env F) 0 _ ⟨asFr 30 [(0, .agg (C1 u8 d_2876.l)), (1, .sl false (L (cSl cU8) l_2877))], []⟩ _
  refine run_textE hE [1, 2] (fr' := [(1, .sl false (L (cSl cU8) l_2877)), (2, .ref 0 0)]) (σ' := [.box (C1 u8 d_2876.l) false]) ⟨_, orcs_nil, ?_⟩ ?_
  · simp only [go_sem, reduceIte, Nat.reduceLT, Nat.reduceEqDiff, Nat.reduceAdd, Nat.reduceBEq, Nat.reduceMul, Nat.reduceSub, Nat.reduceGT, Nat.reducePow, Nat.reduceLeDiff, Int.reduceToNat]
  replace h := lt1_some h; obtain ⟨l_2878, hz_2879, h⟩ := h
  refine run_textE hE [1, 2, 5] (fr' := [(1, .sl false (L (cSl cU8) l_2877)), (2, .ref 0 0), (5, .bs true 1 (l_2878.length) 0 (l_2878.length))]) (σ' := [.box (C1 u8 d_2876.l) false, .buf 32 (L (cArr u8 32) l_2878) false]) ⟨_, orcs_nil, ?_⟩ ?_
  · subst hz_2879; simp only [go_sem, reduceIte, Nat.reduceLT, Nat.reduceEqDiff, Nat.reduceAdd, Nat.reduceBEq, Nat.reduceMul, Nat.reduceSub, Nat.reduceGT, Nat.reducePow, Nat.reduceLeDiff, Int.reduceToNat]
  replace h := bind_some1 h; obtain ⟨j_2917, hA_2918, hj_2919⟩ := h
  refine run_join (fun (v : List (Arr UInt8 32)) => (⟨asFr 30 [(5, .bs false 0 (v.length) 0 (v.length))], [.buf 32 (L (cArr u8 32) v) false]⟩ : St)) (fun v => v = j_2917) ?_ ?_
  · have h := hA_2918; clear hA_2918
    refine run_textE hE [1, 2, 5, 6] (fr' := [(1, .sl false (L (cSl cU8) l_2877)), (2, .ref 0 0), (5, .bs true 1 (l_2878.length) 0 (l_2878.length)), (6, i64 0)]) (σ' := [.box (C1 u8 d_2876.l) false, .buf 32 (L (cArr u8 32) l_2878) false]) ⟨_, orcs_nil, ?_⟩ ?_
    · simp only [go_sem, reduceIte, Nat.reduceLT, Nat.reduceEqDiff, Nat.reduceAdd, Nat.reduceBEq, Nat.reduceMul, Nat.reduceSub, Nat.reduceGT, Nat.reducePow, Nat.reduceLeDiff, Int.reduceToNat]
    refine run_block ?_
    replace h := bind_some1 h; obtain ⟨x_2942, hx_2943, hj_2944⟩ := h
    refine run_loopO hx_2943 (fun (v : Int × Arr UInt8 32 × List (Arr UInt8 32)) => (⟨asFr 30 [(1, .sl false (L (cSl cU8) l_2877)), (2, .ref 0 0), (5, .bs false 1 (v.2.2.length) 0 (v.2.2.length)), (6, i64 v.1)], [.box (C1 u8 v.2.1.l) false, .buf 32 (L (cArr u8 32) v.2.2) false]⟩ : St)) (weak_sel [0, 1] (by decide) rfl (by simp only [go_sem, reduceIte, Nat.reduceLT, Nat.reduceEqDiff, Nat.reduceAdd, Nat.reduceBEq, Nat.reduceMul, Nat.reduceSub, Nat.reduceGT, Nat.reducePow, Nat.reduceLeDiff, Int.reduceToNat]) (by simp only [go_sem, reduceIte, Nat.reduceLT, Nat.reduceEqDiff, Nat.reduceAdd, Nat.reduceBEq, Nat.reduceMul, Nat.reduceSub, Nat.reduceGT, Nat.reducePow, Nat.reduceLeDiff, Int.reduceToNat])) ?_
    rintro ⟨i_2929, f_2930, l_2931⟩ o_2945 h hxx_2946
    replace h : law02_chain_b1 l_2877 i_2929 f_2930 l_2931 = some o_2945 := h
    unfold law02_chain_b1 at h
    refine run_seq ?_
    replace h := bind_some1 h; obtain ⟨t_2947, hv_2948, h⟩ := h
    refine run_textW hE [1, 2, 5, 6, 16] (fr' := [(1, .sl false (L (cSl cU8) l_2877)), (2, .ref 0 0), (5, .bs false 1 (l_2931.length) 0 (l_2931.length)), (6, i64 i_2929), (16, .bool t_2947)]) (σ' := [.box (C1 u8 f_2930.l) false, .buf 32 (L (cArr u8 32) l_2931) false]) ?_ ?_
    · rcases Bool.eq_false_or_eq_true ((decide (i_2929 < (l_2877.length : Int)))) with hb_2949 | hb_2949
      · replace hv_2948 := ite_t hv_2948 hb_2949
        have e_hv_2948 := Option.some.inj hv_2948; subst e_hv_2948
        exact ⟨_, [(1, .sl false (L (cSl cU8) l_2877)), (2, .ref 0 0), (5, .bs false 1 (l_2931.length) 0 (l_2931.length)), (6, i64 i_2929), (16, .bool ((decide (i_2929 < 8))))], [.box (C1 u8 f_2930.l) false, .buf 32 (L (cArr u8 32) l_2931) false], orcs_nil, by simp only [go_sem, reduceIte, Nat.reduceLT, Nat.reduceEqDiff, Nat.reduceAdd, Nat.reduceBEq, Nat.reduceMul, Nat.reduceSub, Nat.reduceGT, Nat.reducePow, Nat.reduceLeDiff, Int.reduceToNat, hb_2949], (weak_sel [0, 1] (by decide) rfl (by simp only [go_sem, reduceIte, Nat.reduceLT, Nat.reduceEqDiff, Nat.reduceAdd, Nat.reduceBEq, Nat.reduceMul, Nat.reduceSub, Nat.reduceGT, Nat.reducePow, Nat.reduceLeDiff, Int.reduceToNat]) (by simp only [go_sem, reduceIte, Nat.reduceLT, Nat.reduceEqDiff, Nat.reduceAdd, Nat.reduceBEq, Nat.reduceMul, Nat.reduceSub, Nat.reduceGT, Nat.reducePow, Nat.reduceLeDiff, Int.reduceToNat]))⟩
      · replace hv_2948 := ite_f hv_2948 hb_2949
        have e_hv_2948 := Option.some.inj hv_2948; subst e_hv_2948
        exact ⟨_, [(1, .sl false (L (cSl cU8) l_2877)), (2, .ref 0 0), (5, .bs false 1 (l_2931.length) 0 (l_2931.length)), (6, i64 i_2929), (16, .bool false)], [.box (C1 u8 f_2930.l) false, .buf 32 (L (cArr u8 32) l_2931) false], orcs_nil, by simp only [go_sem, reduceIte, Nat.reduceLT, Nat.reduceEqDiff, Nat.reduceAdd, Nat.reduceBEq, Nat.reduceMul, Nat.reduceSub, Nat.reduceGT, Nat.reducePow, Nat.reduceLeDiff, Int.reduceToNat, hb_2949], (weak_sel [0, 1] (by decide) rfl (by simp only [go_sem, reduceIte, Nat.reduceLT, Nat.reduceEqDiff, Nat.reduceAdd, Nat.reduceBEq, Nat.reduceMul, Nat.reduceSub, Nat.reduceGT, Nat.reducePow, Nat.reduceLeDiff, Int.reduceToNat]) (by simp only [go_sem, reduceIte, Nat.reduceLT, Nat.reduceEqDiff, Nat.reduceAdd, Nat.reduceBEq, Nat.reduceMul, Nat.reduceSub, Nat.reduceGT, Nat.reducePow, Nat.reduceLeDiff, Int.reduceToNat]))⟩
    refine run_condL (b := t_2947) rfl (by decide) (fun hb => ?_) (fun hb => ?_)
    · replace h := ite_t h hb
      refine run_skip ?_
      refine thenK_n ?_
      refine run_seq ?_
      refine run_block ?_
      replace h := chk_some h; obtain ⟨hc_2951, h⟩ := h
      replace h := bind_some1 h; obtain ⟨y_2950, hy_2952, h⟩ := h
      refine run_drawE hE mixed [[], [], [], [1, 2], [1, 2, 3], [0, 1, 2, 3, 4], [0, 1, 2, 3, 4, 5]] (by kernel_rfl) (by kernel_rfl) [1, 2, 5, 6] (fr' := [(1, .sl false (L (cSl cU8) l_2877)), (2, .ref 0 0), (5, .bs false 1 (l_2931.length) 0 (l_2931.length)), (6, i64 i_2929)]) (σ' := [.box (C1 u8 y_2950.l) false, .buf 32 (L (cArr u8 32) l_2931) false]) ⟨_, orcs_ok (l := [(24, 16, [.agg (C1 u8 f_2930.l), .sl false (L cU8 (nth l_2877 i_2929.toNat))], .agg (C1 u8 y_2950.l))]) ⟨digest_Next_con hy_2952, trivial⟩, ?_⟩ ?_
      · simp only [go_sem, reduceIte, Nat.reduceLT, Nat.reduceEqDiff, Nat.reduceAdd, Nat.reduceBEq, Nat.reduceMul, Nat.reduceSub, Nat.reduceGT, Nat.reducePow, Nat.reduceLeDiff, Int.reduceToNat, hc_2951, hc_2951.2, lt_le hc_2951.2]
      replace h := chk_some h; obtain ⟨hc_2953, h⟩ := h
      replace h := lt1_some h; obtain ⟨l_2954, hz_2955, h⟩ := h
      refine run_textE0 hE (wk_block wk_then) [1, 2, 5, 6] (fr' := [(1, .sl false (L (cSl cU8) l_2877)), (2, .ref 0 0), (5, .bs false 1 (l_2954.length) 0 (l_2954.length)), (6, i64 i_2929)]) (σ' := [.box (C1 u8 y_2950.l) false, .buf 32 (L (cArr u8 32) l_2954) false, .buf 32 (L (cArr u8 32) (([y_2950] : List (Arr UInt8 32)))) false]) ⟨_, orcs_nil, ?_⟩ ?_
      · subst hz_2955; simp only [go_sem, reduceIte, Nat.reduceLT, Nat.reduceEqDiff, Nat.reduceAdd, Nat.reduceBEq, Nat.reduceMul, Nat.reduceSub, Nat.reduceGT, Nat.reducePow, Nat.reduceLeDiff, Int.reduceToNat, hc_2953]
      refine blockK_n ?_
      refine thenK_n ?_
      refine run_textE0 hE wk_lp [1, 2, 5, 6] (fr' := [(1, .sl false (L (cSl cU8) l_2877)), (2, .ref 0 0), (5, .bs false 1 (l_2954.length) 0 (l_2954.length)), (6, i64 ((w64 (i_2929 + 1))))]) (σ' := [.box (C1 u8 y_2950.l) false, .buf 32 (L (cArr u8 32) l_2954) false, .buf 32 (L (cArr u8 32) (([y_2950] : List (Arr UInt8 32)))) false]) ⟨_, orcs_nil, ?_⟩ ?_
      · simp only [go_sem, reduceIte, Nat.reduceLT, Nat.reduceEqDiff, Nat.reduceAdd, Nat.reduceBEq, Nat.reduceMul, Nat.reduceSub, Nat.reduceGT, Nat.reducePow, Nat.reduceLeDiff, Int.reduceToNat]
      obtain rfl := Option.some.inj h
      exact lpK_n (((w64 (i_2929 + 1)), y_2950, l_2954)) rfl (weak_sel [0, 1] (by decide) rfl (by simp only [go_sem, reduceIte, Nat.reduceLT, Nat.reduceEqDiff, Nat.reduceAdd, Nat.reduceBEq, Nat.reduceMul, Nat.reduceSub, Nat.reduceGT, Nat.reducePow, Nat.reduceLeDiff, Int.reduceToNat]) (by simp only [go_sem, reduceIte, Nat.reduceLT, Nat.reduceEqDiff, Nat.reduceAdd, Nat.reduceBEq, Nat.reduceMul, Nat.reduceSub, Nat.reduceGT, Nat.reducePow, Nat.reduceLeDiff, Int.reduceToNat]))
    · replace h := ite_f h hb
      refine run_exit ?_
      refine thenK_x ?_
      obtain rfl := Option.some.inj h
      have ex_x_2942 := hxx_2946 _ rfl
      subst ex_x_2942
      have h := hj_2944; clear hj_2944
      refine lpK_x ?_
      refine blockK_x ?_
      obtain rfl := Option.some.inj h
      exact joinK_n l_2931 rfl ((weak_sel (l' := [(5, .bs false 0 (l_2931.length) 0 (l_2931.length))]) (σ' := [.buf 32 (L (cArr u8 32) l_2931) false]) [1] (by decide) rfl (by simp only [go_sem, reduceIte, Nat.reduceLT, Nat.reduceEqDiff, Nat.reduceAdd, Nat.reduceBEq, Nat.reduceMul, Nat.reduceSub, Nat.reduceGT, Nat.reducePow, Nat.reduceLeDiff, Int.reduceToNat]) (by simp only [go_sem, reduceIte, Nat.reduceLT, Nat.reduceEqDiff, Nat.reduceAdd, Nat.reduceBEq, Nat.reduceMul, Nat.reduceSub, Nat.reduceGT, Nat.reducePow, Nat.reduceLeDiff, Int.reduceToNat])).trans (weak_sel [0] (by decide) rfl (by simp only [go_sem, reduceIte, Nat.reduceLT, Nat.reduceEqDiff, Nat.reduceAdd, Nat.reduceBEq, Nat.reduceMul, Nat.reduceSub, Nat.reduceGT, Nat.reducePow, Nat.reduceLeDiff, Int.reduceToNat]) (by simp only [go_sem, reduceIte, Nat.reduceLT, Nat.reduceEqDiff, Nat.reduceAdd, Nat.reduceBEq, Nat.reduceMul, Nat.reduceSub, Nat.reduceGT, Nat.reducePow, Nat.reduceLeDiff, Int.reduceToNat])))
  rintro l_2916 rfl
  have h := hj_2919; clear hj_2919
  refine run_textE hE [4] (fr' := [(4, .bs false 0 (l_2916.length) 0 (l_2916.length))]) (σ' := [.buf 32 (L (cArr u8 32) l_2916) false]) ⟨_, orcs_nil, ?_⟩ ?_
  · simp only [go_sem, reduceIte, Nat.reduceLT, Nat.reduceEqDiff, Nat.reduceAdd, Nat.reduceBEq, Nat.reduceMul, Nat.reduceSub, Nat.reduceGT, Nat.reducePow, Nat.reduceLeDiff, Int.reduceToNat]
  refine run_ret ?_
  obtain rfl := Option.some.inj h
  refine ret_ok (.inr rfl) ?_
  simp only [go_sem, reduceIte, Nat.reduceLT, Nat.reduceEqDiff, Nat.reduceAdd, Nat.reduceBEq, Nat.reduceMul, Nat.reduceSub, Nat.reduceGT, Nat.reducePow, Nat.reduceLeDiff, Int.reduceToNat]

theorem law02_DigestSumMatchesReference_con {b_2956 : List UInt8} {r : Bool} (h : law02_DigestSumMatchesReference b_2956 = some r) : Con B 3 [.sl false (L cU8 b_2956)] [] (fun r' σ' => r' = .bool r ∧ σ' = []) := by
  refine con_walk (N := 13) (rs := [.tmp 2]) ok Tryd.func3 rfl (by decide +kernel) rfl rfl (Nat.le_of_ble_eq_true rfl) (fun F => ?_)
  have hE := ok.env F
  unfold law02_DigestSumMatchesReference at h
  show Run (B.env F) 0 _ ⟨asFr 13 [(0, .sl false (L cU8 b_2956))], []⟩ _
  refine run_textE hE [0] (fr' := [(0, .sl false (L cU8 b_2956))]) (σ' := []) ⟨_, orcs_nil, ?_⟩ ?_
  · simp only [go_sem, reduceIte, Nat.reduceLT, Nat.reduceEqDiff, Nat.reduceAdd, Nat.reduceBEq, Nat.reduceMul, Nat.reduceSub, Nat.reduceGT, Nat.reducePow, Nat.reduceLeDiff, Int.reduceToNat]
  refine run_seq ?_
  replace h := bind_some1 h; obtain ⟨y_2957, hy_2958, h⟩ := h
  refine run_textE hE [0, 4] (fr' := [(0, .sl false (L cU8 b_2956)), (4, .bool ((!y_2957)))]) (σ' := []) ⟨_, orcs_ok (l := [(3, 11, [], .bool y_2957)]) ⟨law02_sane_con hy_2958, trivial⟩, ?_⟩ ?_
  · simp only [go_sem, reduceIte, Nat.reduceLT, Nat.reduceEqDiff, Nat.reduceAdd, Nat.reduceBEq, Nat.reduceMul, Nat.reduceSub, Nat.reduceGT, Nat.reducePow, Nat.reduceLeDiff, Int.reduceToNat]
  refine run_condL (b := (!y_2957)) rfl (by decide) (fun hb => ?_) (fun hb => ?_)
  · replace h := ite_t h hb
    refine run_textE hE [2] (fr' := [(2, .bool false)]) (σ' := []) ⟨_, orcs_nil, ?_⟩ ?_
    · simp only [go_sem, reduceIte, Nat.reduceLT, Nat.reduceEqDiff, Nat.reduceAdd, Nat.reduceBEq, Nat.reduceMul, Nat.reduceSub, Nat.reduceGT, Nat.reducePow, Nat.reduceLeDiff, Int.reduceToNat]
    refine run_ret ?_
    refine thenK_r ?_
    obtain rfl := Option.some.inj h
    refine ret_ok (.inr rfl) ?_
    simp only [go_sem, reduceIte, Nat.reduceLT, Nat.reduceEqDiff, Nat.reduceAdd, Nat.reduceBEq, Nat.reduceMul, Nat.reduceSub, Nat.reduceGT, Nat.reducePow, Nat.reduceLeDiff, Int.reduceToNat]
  · replace h := ite_f h hb
    refine run_skip ?_
    refine thenK_n ?_
    refine run_seq ?_
    refine run_textE hE [0, 7] (fr' := [(0, .sl false (L cU8 b_2956)), (7, .bool ((decide ((b_2956.length : Int) > 1000))))]) (σ' := []) ⟨_, orcs_nil, ?_⟩ ?_
    · simp only [go_sem, reduceIte, Nat.reduceLT, Nat.reduceEqDiff, Nat.reduceAdd, Nat.reduceBEq, Nat.reduceMul, Nat.reduceSub, Nat.reduceGT, Nat.reducePow, Nat.reduceLeDiff, Int.reduceToNat]
    refine run_condL (b := (decide ((b_2956.length : Int) > 1000))) rfl (by decide) (fun hb => ?_) (fun hb => ?_)
    · replace h := ite_t h hb
      refine run_textE hE [2] (fr' := [(2, .bool true)]) (σ' := []) ⟨_, orcs_nil, ?_⟩ ?_
      · simp only [go_sem, reduceIte, Nat.reduceLT, Nat.reduceEqDiff, Nat.reduceAdd, Nat.reduceBEq, Nat.reduceMul, Nat.reduceSub, Nat.reduceGT, Nat.reducePow, Nat.reduceLeDiff, Int.reduceToNat]
      refine run_ret ?_
      refine thenK_r ?_
      obtain rfl := Option.some.inj h
      refine ret_ok (.inr rfl) ?_
      simp only [go_sem, reduceIte, Nat.reduceLT, Nat.reduceEqDiff, Nat.reduceAdd, Nat.reduceBEq, Nat.reduceMul, Nat.reduceSub, Nat.reduceGT, Nat.reducePow, Nat.reduceLeDiff, Int.reduceToNat]
    · replace h := ite_f h hb
      refine run_skip ?_
      refine thenK_n ?_
      replace h := bind_some1 h; obtain ⟨y_2959, hy_2961, h⟩ := h
      replace h := bind_some1 h; obtain ⟨y_2960, hy_2962, h⟩ := h
      refine run_textE hE [2] (fr' := [(2, .bool ((y_2959 == y_2960)))]) (σ' := []) ⟨_, orcs_ok (l := [(9, 12, [.sl false (L cU8 b_2956)], .agg (C1 u8 y_2959.l)), (11, 13, [.sl false (L cU8 b_2956)], .agg (C1 u8 y_2960.l))]) ⟨digest_Sum_con hy_2961, r02_Sum_con hy_2962, trivial⟩, ?_⟩ ?_
      · simp only [go_sem, reduceIte, Nat.reduceLT, Nat.reduceEqDiff, Nat.reduceAdd, Nat.reduceBEq, Nat.reduceMul, Nat.reduceSub, Nat.reduceGT, Nat.reducePow, Nat.reduceLeDiff, Int.reduceToNat]
      refine run_ret ?_
      obtain rfl := Option.some.inj h
      refine ret_ok (.inr rfl) ?_
      simp only [go_sem, reduceIte, Nat.reduceLT, Nat.reduceEqDiff, Nat.reduceAdd, Nat.reduceBEq, Nat.reduceMul, Nat.reduceSub, Nat.reduceGT, Nat.reducePow, Nat.reduceLeDiff, Int.reduceToNat]

theorem law02_DigestMatchesReference_con {tag_2963 : List UInt8} {b_2964 : List UInt8} {d_2965 : Arr UInt8 32} {r : Bool} (h : law02_DigestMatchesReference tag_2963 b_2964 d_2965 = some r) : Con B 4 [.str tag_2963, .sl false (L cU8 b_2964), .agg (C1 u8 d_2965.l)] [] (fun r' σ' => r' = .bool r ∧ σ' = []) := by
  refine con_walk (N := 40) (rs := [.tmp 6]) ok Tryd.func4 rfl (by decide +kernel) rfl rfl (Nat.le_of_ble_eq_true rfl) (fun F => ?_)
  have hE := ok.env F
  unfold law02_DigestMatchesReference at h
  show Run (B.env F) 0 _ ⟨asFr 40 [(0, .str tag_2963), (1, .sl false (L cU8 b_2964)), (2, .agg (C1 u8 d_2965.l))], []⟩ _
  refine run_textE hE [0, 1, 5] (fr' := [(0, .str tag_2963), (1, .sl false (L cU8 b_2964)), (5, .ref 0 0)]) (σ' := [.box (C1 u8 d_2965.l) false]) ⟨_, orcs_nil, ?_⟩ ?_
  · simp only [go_sem, reduceIte, Nat.reduceLT, Nat.reduceEqDiff, Nat.reduceAdd, Nat.reduceBEq, Nat.reduceMul, Nat.reduceSub, Nat.reduceGT, Nat.reducePow, Nat.reduceLeDiff, Int.reduceToNat]
  refine run_seq ?_
  replace h := bind_some1 h; obtain ⟨y_2966, hy_2967, h⟩ := h
  refine run_textE hE [0, 1, 5, 8] (fr' := [(0, .str tag_2963), (1, .sl false (L cU8 b_2964)), (5, .ref 0 0), (8, .bool ((!y_2966)))]) (σ' := [.box (C1 u8 d_2965.l) false]) ⟨_, orcs_ok (l := [(7, 11, [], .bool y_2966)]) ⟨law02_sane_con hy_2967, trivial⟩, ?_⟩ ?_
  · simp only [go_sem, reduceIte, Nat.reduceLT, Nat.reduceEqDiff, Nat.reduceAdd, Nat.reduceBEq, Nat.reduceMul, Nat.reduceSub, Nat.reduceGT, Nat.reducePow, Nat.reduceLeDiff, Int.reduceToNat]
  refine run_condL (b := (!y_2966)) rfl (by decide) (fun hb => ?_) (fun hb => ?_)
  · replace h := ite_t h hb
    refine run_textE hE [6] (fr' := [(6, .bool false)]) (σ' := [.box (C1 u8 d_2965.l) false]) ⟨_, orcs_nil, ?_⟩ ?_
    · simp only [go_sem, reduceIte, Nat.reduceLT, Nat.reduceEqDiff, Nat.reduceAdd, Nat.reduceBEq, Nat.reduceMul, Nat.reduceSub, Nat.reduceGT, Nat.reducePow, Nat.reduceLeDiff, Int.reduceToNat]
    refine run_ret ?_
    refine thenK_r ?_
    obtain rfl := Option.some.inj h
    refine ret_ok (.inr rfl) ?_
    simp only [go_sem, reduceIte, Nat.reduceLT, Nat.reduceEqDiff, Nat.reduceAdd, Nat.reduceBEq, Nat.reduceMul, Nat.reduceSub, Nat.reduceGT, Nat.reducePow, Nat.reduceLeDiff, Int.reduceToNat]
  · replace h := ite_f h hb
    refine run_skip ?_
    refine thenK_n ?_
    refine run_seq ?_
    replace h := bind_some1 h; obtain ⟨t_2968, hv_2969, h⟩ := h
    refine run_textW hE [0, 1, 5, 16] (fr' := [(0, .str tag_2963), (1, .sl false (L cU8 b_2964)), (5, .ref 0 0), (16, .bool t_2968)]) (σ' := [.box (C1 u8 d_2965.l) false]) ?_ ?_
    · rcases Bool.eq_false_or_eq_true ((decide ((tag_2963.length : Int) > 600))) with hb_2970 | hb_2970
      · replace hv_2969 := ite_t hv_2969 hb_2970
        have e_hv_2969 := Option.some.inj hv_2969; subst e_hv_2969
        exact ⟨_, [(0, .str tag_2963), (1, .sl false (L cU8 b_2964)), (5, .ref 0 0), (16, .bool true)], [.box (C1 u8 d_2965.l) false], orcs_nil, by simp only [go_sem, reduceIte, Nat.reduceLT, Nat.reduceEqDiff, Nat.reduceAdd, Nat.reduceBEq, Nat.reduceMul, Nat.reduceSub, Nat.reduceGT, Nat.reducePow, Nat.reduceLeDiff, Int.reduceToNat, hb_2970], (weak_sel [0] (by decide) rfl (by simp only [go_sem, reduceIte, Nat.reduceLT, Nat.reduceEqDiff, Nat.reduceAdd, Nat.reduceBEq, Nat.reduceMul, Nat.reduceSub, Nat.reduceGT, Nat.reducePow, Nat.reduceLeDiff, Int.reduceToNat]) (by simp only [go_sem, reduceIte, Nat.reduceLT, Nat.reduceEqDiff, Nat.reduceAdd, Nat.reduceBEq, Nat.reduceMul, Nat.reduceSub, Nat.reduceGT, Nat.reducePow, Nat.reduceLeDiff, Int.reduceToNat]))⟩
      · replace hv_2969 := ite_f hv_2969 hb_2970
        have e_hv_2969 := Option.some.inj hv_2969; subst e_hv_2969
        exact ⟨_, [(0, .str tag_2963), (1, .sl false (L cU8 b_2964)), (5, .ref 0 0), (16, .bool ((decide ((b_2964.length : Int) > 600))))], [.box (C1 u8 d_2965.l) false], orcs_nil, by simp only [go_sem, reduceIte, Nat.reduceLT, Nat.reduceEqDiff, Nat.reduceAdd, Nat.reduceBEq, Nat.reduceMul, Nat.reduceSub, Nat.reduceGT, Nat.reducePow, Nat.reduceLeDiff, Int.reduceToNat, hb_2970], (weak_sel [0] (by decide) rfl (by simp only [go_sem, reduceIte, Nat.reduceLT, Nat.reduceEqDiff, Nat.reduceAdd, Nat.reduceBEq, Nat.reduceMul, Nat.reduceSub, Nat.reduceGT, Nat.reducePow, Nat.reduceLeDiff, Int.reduceToNat]) (by simp only [go_sem, reduceIte, Nat.reduceLT, Nat.reduceEqDiff, Nat.reduceAdd, Nat.reduceBEq, Nat.reduceMul, Nat.reduceSub, Nat.reduceGT, Nat.reducePow, Nat.reduceLeDiff, Int.reduceToNat]))⟩
    refine run_condL (b := t_2968) rfl (by decide) (fun hb => ?_) (fun hb => ?_)
    · replace h := ite_t h hb
      refine run_textE hE [6] (fr' := [(6, .bool true)]) (σ' := [.box (C1 u8 d_2965.l) false]) ⟨_, orcs_nil, ?_⟩ ?_
      · simp only [go_sem, reduceIte, Nat.reduceLT, Nat.reduceEqDiff, Nat.reduceAdd, Nat.reduceBEq, Nat.reduceMul, Nat.reduceSub, Nat.reduceGT, Nat.reducePow, Nat.reduceLeDiff, Int.reduceToNat]
      refine run_ret ?_
      refine thenK_r ?_
      obtain rfl := Option.some.inj h
      refine ret_ok (.inr rfl) ?_
      simp only [go_sem, reduceIte, Nat.reduceLT, Nat.reduceEqDiff, Nat.reduceAdd, Nat.reduceBEq, Nat.reduceMul, Nat.reduceSub, Nat.reduceGT, Nat.reducePow, Nat.reduceLeDiff, Int.reduceToNat]
    · replace h := ite_f h hb
      refine run_skip ?_
      refine thenK_n ?_
      replace h := bind_some1 h; obtain ⟨t_2977, hv_2978, h⟩ := h
      refine run_drawW hE mixed [[], [], [0, 1], [], [], [0, 1, 2, 3, 4], [0, 1, 2, 3, 4, 5], [0, 1, 2, 3, 4, 5, 6], [0, 1, 2, 3, 4, 5, 6, 7], [0, 1, 2, 3, 4, 5, 6, 7], [0, 1, 2, 3, 4, 5, 6, 7, 8, 9], [0, 1, 2, 3, 4, 5, 6, 7], [0, 1, 2, 3, 4, 5, 6, 7], [0, 1, 2, 3, 4, 5, 6, 7, 8, 9, 10, 11, 12], [0, 1, 2, 3, 4, 5, 6, 7, 8, 9, 10, 11, 12, 13], [0, 1, 2, 3, 4, 5, 6, 7, 8, 9, 10, 11, 12, 13, 14], [0, 1, 2, 3, 4, 5, 6, 7, 8, 9, 10, 11, 12, 13, 14, 15], [0, 1, 2, 3, 4, 5, 6, 7, 8, 9, 10, 11, 12, 13, 14, 15, 16], [0, 1, 2, 3, 4, 5, 6, 7, 8, 9, 10, 11, 12, 13, 14, 15, 16, 17], [0, 1, 2, 3, 4, 5, 6, 7, 8, 9, 10, 11, 12, 13, 14, 15, 16], [0, 1, 2, 3, 4, 5, 6, 7, 8, 9, 10, 11, 12, 13, 14, 15, 16, 17, 18, 19], [0, 1, 2, 3, 4, 5, 6, 7, 8, 9, 10, 11, 12, 13, 14, 15, 16, 17, 18, 19, 20], [0, 1, 2, 3, 4, 5, 6, 7, 8, 9, 10, 11, 12, 13, 14, 15, 16, 17, 18, 19, 20, 21], [0, 1, 2, 3, 4, 5, 6, 7, 8, 9, 10, 11, 12, 13, 14, 15, 16, 17, 18, 19, 20, 21, 22]] (by kernel_rfl) (by kernel_rfl) [6] (fr' := [(6, .bool t_2977)]) (σ' := []) ?_ ?_
      · replace hv_2978 := bind_some1 hv_2978; obtain ⟨y_2971, hy_2979, hv_2978⟩ := hv_2978
        replace hv_2978 := bind_some1 hv_2978; obtain ⟨y_2972, hy_2980, hv_2978⟩ := hv_2978
        rcases Bool.eq_false_or_eq_true ((y_2971 == y_2972)) with hb_2981 | hb_2981
        · replace hv_2978 := ite_t hv_2978 hb_2981
          replace hv_2978 := bind_some1 hv_2978; obtain ⟨y_2973, hy_2982, hv_2978⟩ := hv_2978
          replace hv_2978 := bind_some1 hv_2978; obtain ⟨y_2974, hy_2983, hv_2978⟩ := hv_2978
          rcases Bool.eq_false_or_eq_true ((y_2973 == y_2974)) with hb_2984 | hb_2984
          · replace hv_2978 := ite_t hv_2978 hb_2984
            replace hv_2978 := bind_some1 hv_2978; obtain ⟨y_2975, hy_2985, hv_2978⟩ := hv_2978
            replace hv_2978 := bind_some1 hv_2978; obtain ⟨y_2976, hy_2986, hv_2978⟩ := hv_2978
            have e_hv_2978 := Option.some.inj hv_2978; subst e_hv_2978
            exact ⟨_, [(6, .bool ((y_2975 == y_2976)))], [.box (C1 u8 d_2965.l) false], orcs_ok (l := [(19, 14, [.str tag_2963, .sl false (L cU8 b_2964)], .agg (C1 u8 y_2971.l)), (22, 15, [.str tag_2963, .sl false (L cU8 b_2964)], .agg (C1 u8 y_2972.l)), (27, 16, [.agg (C1 u8 d_2965.l), .sl false (L cU8 b_2964)], .agg (C1 u8 y_2973.l)), (30, 17, [.agg (C1 u8 d_2965.l), .sl false (L cU8 b_2964)], .agg (C1 u8 y_2974.l)), (35, 18, [.agg (C1 u8 d_2965.l)], u64 y_2975), (37, 19, [.agg (C1 u8 d_2965.l)], u64 y_2976)]) ⟨digest_Tagged_con hy_2979, r02_Tagged_con hy_2980, digest_Next_con hy_2982, r02_Next_con hy_2983, digest_Number_con hy_2985, r02_Number_con hy_2986, trivial⟩, by simp only [go_sem, reduceIte, Nat.reduceLT, Nat.reduceEqDiff, Nat.reduceAdd, Nat.reduceBEq, Nat.reduceMul, Nat.reduceSub, Nat.reduceGT, Nat.reducePow, Nat.reduceLeDiff, Int.reduceToNat, hb_2981, hb_2984], (weak_sel [] (by decide) rfl (by simp only [go_sem, reduceIte, Nat.reduceLT, Nat.reduceEqDiff, Nat.reduceAdd, Nat.reduceBEq, Nat.reduceMul, Nat.reduceSub, Nat.reduceGT, Nat.reducePow, Nat.reduceLeDiff, Int.reduceToNat]) (by simp only [go_sem, reduceIte, Nat.reduceLT, Nat.reduceEqDiff, Nat.reduceAdd, Nat.reduceBEq, Nat.reduceMul, Nat.reduceSub, Nat.reduceGT, Nat.reducePow, Nat.reduceLeDiff, Int.reduceToNat]))⟩
          · replace hv_2978 := ite_f hv_2978 hb_2984
            have e_hv_2978 := Option.some.inj hv_2978; subst e_hv_2978
            exact ⟨_, [(6, .bool false)], [.box (C1 u8 d_2965.l) false], orcs_ok (l := [(19, 14, [.str tag_2963, .sl false (L cU8 b_2964)], .agg (C1 u8 y_2971.l)), (22, 15, [.str tag_2963, .sl false (L cU8 b_2964)], .agg (C1 u8 y_2972.l)), (27, 16, [.agg (C1 u8 d_2965.l), .sl false (L cU8 b_2964)], .agg (C1 u8 y_2973.l)), (30, 17, [.agg (C1 u8 d_2965.l), .sl false (L cU8 b_2964)], .agg (C1 u8 y_2974.l))]) ⟨digest_Tagged_con hy_2979, r02_Tagged_con hy_2980, digest_Next_con hy_2982, r02_Next_con hy_2983, trivial⟩, by simp only [go_sem, reduceIte, Nat.reduceLT, Nat.reduceEqDiff, Nat.reduceAdd, Nat.reduceBEq, Nat.reduceMul, Nat.reduceSub, Nat.reduceGT, Nat.reducePow, Nat.reduceLeDiff, Int.reduceToNat, hb_2981, hb_2984], (weak_sel [] (by decide) rfl (by simp only [go_sem, reduceIte, Nat.reduceLT, Nat.reduceEqDiff, Nat.reduceAdd, Nat.reduceBEq, Nat.reduceMul, Nat.reduceSub, Nat.reduceGT, Nat.reducePow, Nat.reduceLeDiff, Int.reduceToNat]) (by simp only [go_sem, reduceIte, Nat.reduceLT, Nat.reduceEqDiff, Nat.reduceAdd, Nat.reduceBEq, Nat.reduceMul, Nat.reduceSub, Nat.reduceGT, Nat.reducePow, Nat.reduceLeDiff, Int.reduceToNat]))⟩
        · replace hv_2978 := ite_f hv_2978 hb_2981
          have e_hv_2978 := Option.some.inj hv_2978; subst e_hv_2978
          exact ⟨_, [(6, .bool false)], [.box (C1 u8 d_2965.l) false], orcs_ok (l := [(19, 14, [.str tag_2963, .sl false (L cU8 b_2964)], .agg (C1 u8 y_2971.l)), (22, 15, [.str tag_2963, .sl false (L cU8 b_2964)], .agg (C1 u8 y_2972.l))]) ⟨digest_Tagged_con hy_2979, r02_Tagged_con hy_2980, trivial⟩, by simp only [go_sem, reduceIte, Nat.reduceLT, Nat.reduceEqDiff, Nat.reduceAdd, Nat.reduceBEq, Nat.reduceMul, Nat.reduceSub, Nat.reduceGT, Nat.reducePow, Nat.reduceLeDiff, Int.reduceToNat, hb_2981], (weak_sel [] (by decide) rfl (by simp only [go_sem, reduceIte, Nat.reduceLT, Nat.reduceEqDiff, Nat.reduceAdd, Nat.reduceBEq, Nat.reduceMul, Nat.reduceSub, Nat.reduceGT, Nat.reducePow, Nat.reduceLeDiff, Int.reduceToNat]) (by simp only [go_sem, reduceIte, Nat.reduceLT, Nat.reduceEqDiff, Nat.reduceAdd, Nat.reduceBEq, Nat.reduceMul, Nat.reduceSub, Nat.reduceGT, Nat.reducePow, Nat.reduceLeDiff, Int.reduceToNat]))⟩
      refine run_ret ?_
      obtain rfl := Option.some.inj h
      refine ret_ok (.inr rfl) ?_
      simp only [go_sem, reduceIte, Nat.reduceLT, Nat.reduceEqDiff, Nat.reduceAdd, Nat.reduceBEq, Nat.reduceMul, Nat.reduceSub, Nat.reduceGT, Nat.reducePow, Nat.reduceLeDiff, Int.reduceToNat]

theorem law02_DigestTaggedIsSum_con {tag_2987 : List UInt8} {b_2988 : List UInt8} {d_2989 : Arr UInt8 32} {r : Bool} (h : law02_DigestTaggedIsSum tag_2987 b_2988 d_2989 = some r) : Con B 5 [.str tag_2987, .sl false (L cU8 b_2988), .agg (C1 u8 d_2989.l)] [] (fun r' σ' => r' = .bool r ∧ σ' = []) := by
  refine con_walk (N := 41) (rs := [.tmp 6]) ok Tryd.func5 rfl (by decide +kernel) rfl rfl (Nat.le_of_ble_eq_true rfl) (fun F => ?_)
  have hE := ok.env F
  unfold law02_DigestTaggedIsSum at h
  show Run (B.env F) 0 _ ⟨asFr 41 [(0, .str tag_2987), (1, .sl false (L cU8 b_2988)), (2, .agg (C1 u8 d_2989.l))], []⟩ _
  refine run_textE hE [0, 1, 5] (fr' := [(0, .str tag_2987), (1, .sl false (L cU8 b_2988)), (5, .ref 0 0)]) (σ' := [.box (C1 u8 d_2989.l) false]) ⟨_, orcs_nil, ?_⟩ ?_
  · simp only [go_sem, reduceIte, Nat.reduceLT, Nat.reduceEqDiff, Nat.reduceAdd, Nat.reduceBEq, Nat.reduceMul, Nat.reduceSub, Nat.reduceGT, Nat.reducePow, Nat.reduceLeDiff, Int.reduceToNat]
  refine run_seq ?_
  replace h := bind_some1 h; obtain ⟨y_2990, hy_2991, h⟩ := h
  refine run_textE hE [0, 1, 5, 9] (fr' := [(0, .str tag_2987), (1, .sl false (L cU8 b_2988)), (5, .ref 0 0), (9, .bool ((!y_2990)))]) (σ' := [.box (C1 u8 d_2989.l) false]) ⟨_, orcs_ok (l := [(8, 11, [], .bool y_2990)]) ⟨law02_sane_con hy_2991, trivial⟩, ?_⟩ ?_
  · simp only [go_sem, reduceIte, Nat.reduceLT, Nat.reduceEqDiff, Nat.reduceAdd, Nat.reduceBEq, Nat.reduceMul, Nat.reduceSub, Nat.reduceGT, Nat.reducePow, Nat.reduceLeDiff, Int.reduceToNat]
  refine run_condL (b := (!y_2990)) rfl (by decide) (fun hb => ?_) (fun hb => ?_)
  · replace h := ite_t h hb
    refine run_textE hE [6] (fr' := [(6, .bool false)]) (σ' := [.box (C1 u8 d_2989.l) false]) ⟨_, orcs_nil, ?_⟩ ?_
    · simp only [go_sem, reduceIte, Nat.reduceLT, Nat.reduceEqDiff, Nat.reduceAdd, Nat.reduceBEq, Nat.reduceMul, Nat.reduceSub, Nat.reduceGT, Nat.reducePow, Nat.reduceLeDiff, Int.reduceToNat]
    refine run_ret ?_
    refine thenK_r ?_
    obtain rfl := Option.some.inj h
    refine ret_ok (.inr rfl) ?_
    simp only [go_sem, reduceIte, Nat.reduceLT, Nat.reduceEqDiff, Nat.reduceAdd, Nat.reduceBEq, Nat.reduceMul, Nat.reduceSub, Nat.reduceGT, Nat.reducePow, Nat.reduceLeDiff, Int.reduceToNat]
  · replace h := ite_f h hb
    refine run_skip ?_
    refine thenK_n ?_
    refine run_seq ?_
    replace h := bind_some1 h; obtain ⟨t_2992, hv_2993, h⟩ := h
    refine run_textW hE [0, 1, 5, 17] (fr' := [(0, .str tag_2987), (1, .sl false (L cU8 b_2988)), (5, .ref 0 0), (17, .bool t_2992)]) (σ' := [.box (C1 u8 d_2989.l) false]) ?_ ?_
    · rcases Bool.eq_false_or_eq_true ((decide ((tag_2987.length : Int) > 600))) with hb_2994 | hb_2994
      · replace hv_2993 := ite_t hv_2993 hb_2994
        have e_hv_2993 := Option.some.inj hv_2993; subst e_hv_2993
        exact ⟨_, [(0, .str tag_2987), (1, .sl false (L cU8 b_2988)), (5, .ref 0 0), (17, .bool true)], [.box (C1 u8 d_2989.l) false], orcs_nil, by simp only [go_sem, reduceIte, Nat.reduceLT, Nat.reduceEqDiff, Nat.reduceAdd, Nat.reduceBEq, Nat.reduceMul, Nat.reduceSub, Nat.reduceGT, Nat.reducePow, Nat.reduceLeDiff, Int.reduceToNat, hb_2994], (weak_sel [0] (by decide) rfl (by simp only [go_sem, reduceIte, Nat.reduceLT, Nat.reduceEqDiff, Nat.reduceAdd, Nat.reduceBEq, Nat.reduceMul, Nat.reduceSub, Nat.reduceGT, Nat.reducePow, Nat.reduceLeDiff, Int.reduceToNat]) (by simp only [go_sem, reduceIte, Nat.reduceLT, Nat.reduceEqDiff, Nat.reduceAdd, Nat.reduceBEq, Nat.reduceMul, Nat.reduceSub, Nat.reduceGT, Nat.reducePow, Nat.reduceLeDiff, Int.reduceToNat]))⟩
      · replace hv_2993 := ite_f hv_2993 hb_2994
        have e_hv_2993 := Option.some.inj hv_2993; subst e_hv_2993
        exact ⟨_, [(0, .str tag_2987), (1, .sl false (L cU8 b_2988)), (5, .ref 0 0), (17, .bool ((decide ((b_2988.length : Int) > 600))))], [.box (C1 u8 d_2989.l) false], orcs_nil, by simp only [go_sem, reduceIte, Nat.reduceLT, Nat.reduceEqDiff, Nat.reduceAdd, Nat.reduceBEq, Nat.reduceMul, Nat.reduceSub, Nat.reduceGT, Nat.reducePow, Nat.reduceLeDiff, Int.reduceToNat, hb_2994], (weak_sel [0] (by decide) rfl (by simp only [go_sem, reduceIte, Nat.reduceLT, Nat.reduceEqDiff, Nat.reduceAdd, Nat.reduceBEq, Nat.reduceMul, Nat.reduceSub, Nat.reduceGT, Nat.reducePow, Nat.reduceLeDiff, Int.reduceToNat]) (by simp only [go_sem, reduceIte, Nat.reduceLT, Nat.reduceEqDiff, Nat.reduceAdd, Nat.reduceBEq, Nat.reduceMul, Nat.reduceSub, Nat.reduceGT, Nat.reducePow, Nat.reduceLeDiff, Int.reduceToNat]))⟩
    refine run_condL (b := t_2992) rfl (by decide) (fun hb => ?_) (fun hb => ?_)
    · replace h := ite_t h hb
      refine run_textE hE [6] (fr' := [(6, .bool true)]) (σ' := [.box (C1 u8 d_2989.l) false]) ⟨_, orcs_nil, ?_⟩ ?_
      · simp only [go_sem, reduceIte, Nat.reduceLT, Nat.reduceEqDiff, Nat.reduceAdd, Nat.reduceBEq, Nat.reduceMul, Nat.reduceSub, Nat.reduceGT, Nat.reducePow, Nat.reduceLeDiff, Int.reduceToNat]
      refine run_ret ?_
      refine thenK_r ?_
      obtain rfl := Option.some.inj h
      refine ret_ok (.inr rfl) ?_
      simp only [go_sem, reduceIte, Nat.reduceLT, Nat.reduceEqDiff, Nat.reduceAdd, Nat.reduceBEq, Nat.reduceMul, Nat.reduceSub, Nat.reduceGT, Nat.reducePow, Nat.reduceLeDiff, Int.reduceToNat]
    · replace h := ite_f h hb
      refine run_skip ?_
      refine thenK_n ?_
      replace h := lt1_some h; obtain ⟨l_2995, hz_2996, h⟩ := h
      refine run_textE hE [0, 1, 5, 7] (fr' := [(0, .str tag_2987), (1, .sl false (L cU8 b_2988)), (5, .ref 0 0), (7, .bs true 1 (l_2995.length) 0 (l_2995.length))]) (σ' := [.box (C1 u8 d_2989.l) false, .buf 1 (L cU8 l_2995) false]) ⟨_, orcs_nil, ?_⟩ ?_
      · subst hz_2996; simp only [go_sem, reduceIte, Nat.reduceLT, Nat.reduceEqDiff, Nat.reduceAdd, Nat.reduceBEq, Nat.reduceMul, Nat.reduceSub, Nat.reduceGT, Nat.reducePow, Nat.reduceLeDiff, Int.reduceToNat]
      replace h := chk_some h; obtain ⟨hc_2997, h⟩ := h
      replace h := lt1_some h; obtain ⟨l_2998, hz_2999, h⟩ := h
      refine run_textE hE [0, 1, 5, 7] (fr' := [(0, .str tag_2987), (1, .sl false (L cU8 b_2988)), (5, .ref 0 0), (7, .bs false 1 (l_2998.length) 0 (l_2998.length))]) (σ' := [.box (C1 u8 d_2989.l) true, .buf 1 (L cU8 l_2998) false]) ⟨_, orcs_nil, ?_⟩ ?_
      · subst hz_2999; simp only [go_sem, reduceIte, Nat.reduceLT, Nat.reduceEqDiff, Nat.reduceAdd, Nat.reduceBEq, Nat.reduceMul, Nat.reduceSub, Nat.reduceGT, Nat.reducePow, Nat.reduceLeDiff, Int.reduceToNat, hc_2997]
      replace h := chk_some h; obtain ⟨hc_3000, h⟩ := h
      replace h := lt1_some h; obtain ⟨l_3001, hz_3002, h⟩ := h
      refine run_textE hE [0, 1, 5, 7] (fr' := [(0, .str tag_2987), (1, .sl false (L cU8 b_2988)), (5, .ref 0 0), (7, .bs false 1 (l_3001.length) 0 (l_3001.length))]) (σ' := [.box (C1 u8 d_2989.l) true, .buf 1 (L cU8 l_3001) false]) ⟨_, orcs_nil, ?_⟩ ?_
      · subst hz_3002; simp only [go_sem, reduceIte, Nat.reduceLT, Nat.reduceEqDiff, Nat.reduceAdd, Nat.reduceBEq, Nat.reduceMul, Nat.reduceSub, Nat.reduceGT, Nat.reducePow, Nat.reduceLeDiff, Int.reduceToNat, hc_3000]
      replace h := bind_some1 h; obtain ⟨t_3008, hv_3009, h⟩ := h
      refine run_textW hE [6] (fr' := [(6, .bool t_3008)]) (σ' := []) ?_ ?_
      · replace hv_3009 := bind_some1 hv_3009; obtain ⟨y_3003, hy_3010, hv_3009⟩ := hv_3009
        replace hv_3009 := bind_some1 hv_3009; obtain ⟨y_3004, hy_3011, hv_3009⟩ := hv_3009
        replace hv_3009 := bind_some1 hv_3009; obtain ⟨y_3005, hy_3012, hv_3009⟩ := hv_3009
        rcases Bool.eq_false_or_eq_true ((y_3003 == y_3005)) with hb_3013 | hb_3013
        · replace hv_3009 := ite_t hv_3009 hb_3013
          replace hv_3009 := bind_some1 hv_3009; obtain ⟨y_3006, hy_3014, hv_3009⟩ := hv_3009
          replace hv_3009 := bind_some1 hv_3009; obtain ⟨y_3007, hy_3015, hv_3009⟩ := hv_3009
          have e_hv_3009 := Option.some.inj hv_3009; subst e_hv_3009
          exact ⟨_, [(6, .bool ((y_3006 == y_3007)))], [.box (C1 u8 d_2989.l) true, .buf 1 (L cU8 l_3001) false], orcs_ok (l := [(27, 14, [.str tag_2987, .sl false (L cU8 b_2988)], .agg (C1 u8 y_3003.l)), (30, 20, [.str tag_2987, .sl false (L cU8 b_2988)], .sl false (L cU8 y_3004)), (31, 12, [.sl false (L cU8 y_3004)], .agg (C1 u8 y_3005.l)), (36, 16, [.agg (C1 u8 d_2989.l), .sl false (L cU8 b_2988)], .agg (C1 u8 y_3006.l)), (38, 14, [.str (([110, 101, 120, 116] : List UInt8)), .sl false (L cU8 l_3001)], .agg (C1 u8 y_3007.l))]) ⟨digest_Tagged_con hy_3010, r02_Hashed_con hy_3011, digest_Sum_con hy_3012, digest_Next_con hy_3014, digest_Tagged_con hy_3015, trivial⟩, by simp only [go_sem, reduceIte, Nat.reduceLT, Nat.reduceEqDiff, Nat.reduceAdd, Nat.reduceBEq, Nat.reduceMul, Nat.reduceSub, Nat.reduceGT, Nat.reducePow, Nat.reduceLeDiff, Int.reduceToNat, hb_3013], (weak_sel [] (by decide) rfl (by simp only [go_sem, reduceIte, Nat.reduceLT, Nat.reduceEqDiff, Nat.reduceAdd, Nat.reduceBEq, Nat.reduceMul, Nat.reduceSub, Nat.reduceGT, Nat.reducePow, Nat.reduceLeDiff, Int.reduceToNat]) (by simp only [go_sem, reduceIte, Nat.reduceLT, Nat.reduceEqDiff, Nat.reduceAdd, Nat.reduceBEq, Nat.reduceMul, Nat.reduceSub, Nat.reduceGT, Nat.reducePow, Nat.reduceLeDiff, Int.reduceToNat]))⟩
        · replace hv_3009 := ite_f hv_3009 hb_3013
          have e_hv_3009 := Option.some.inj hv_3009; subst e_hv_3009
          exact ⟨_, [(6, .bool false)], [.box (C1 u8 d_2989.l) true, .buf 1 (L cU8 l_3001) false], orcs_ok (l := [(27, 14, [.str tag_2987, .sl false (L cU8 b_2988)], .agg (C1 u8 y_3003.l)), (30, 20, [.str tag_2987, .sl false (L cU8 b_2988)], .sl false (L cU8 y_3004)), (31, 12, [.sl false (L cU8 y_3004)], .agg (C1 u8 y_3005.l))]) ⟨digest_Tagged_con hy_3010, r02_Hashed_con hy_3011, digest_Sum_con hy_3012, trivial⟩, by simp only [go_sem, reduceIte, Nat.reduceLT, Nat.reduceEqDiff, Nat.reduceAdd, Nat.reduceBEq, Nat.reduceMul, Nat.reduceSub, Nat.reduceGT, Nat.reducePow, Nat.reduceLeDiff, Int.reduceToNat, hb_3013], (weak_sel [] (by decide) rfl (by simp only [go_sem, reduceIte, Nat.reduceLT, Nat.reduceEqDiff, Nat.reduceAdd, Nat.reduceBEq, Nat.reduceMul, Nat.reduceSub, Nat.reduceGT, Nat.reducePow, Nat.reduceLeDiff, Int.reduceToNat]) (by simp only [go_sem, reduceIte, Nat.reduceLT, Nat.reduceEqDiff, Nat.reduceAdd, Nat.reduceBEq, Nat.reduceMul, Nat.reduceSub, Nat.reduceGT, Nat.reducePow, Nat.reduceLeDiff, Int.reduceToNat]))⟩
      refine run_ret ?_
      obtain rfl := Option.some.inj h
      refine ret_ok (.inr rfl) ?_
      simp only [go_sem, reduceIte, Nat.reduceLT, Nat.reduceEqDiff, Nat.reduceAdd, Nat.reduceBEq, Nat.reduceMul, Nat.reduceSub, Nat.reduceGT, Nat.reducePow, Nat.reduceLeDiff, Int.reduceToNat]

end Go.Proofs.YtgdiabbgiiemcaaDoor
