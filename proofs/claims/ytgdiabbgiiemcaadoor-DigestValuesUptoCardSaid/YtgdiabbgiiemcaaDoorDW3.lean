/-
  The functions compute just that.
-/
import Derived.Test.YtgdiabbgiiemcaaDoorDW2
import Derived.KernelRfl
namespace Go.Proofs.YtgdiabbgiiemcaaDoor
open Go.Rv
set_option linter.unusedVariables false
set_option linter.unusedSimpArgs false
set_option maxRecDepth 20000

theorem codec_appendValue_F_con {rec_ : (List UInt8) → Api_Value → Option (List UInt8)} (hrec : ∀ {b_382 : List UInt8} {v_383 : Api_Value} {r : List UInt8}, rec_ b_382 v_383 = some r → Con B 32 [.bs false 0 (b_382.length) 0 (b_382.length), .agg [i64 v_383.Kind, i64 v_383.N, .sl false (L cU8 v_383.B), .sl false (L cApi_Value v_383.L)]] [.buf 1 (L cU8 b_382) false] (fun r' σ' => r' = .bs false 0 (r.length) 0 (r.length) ∧ σ' = [.buf 1 (L cU8 r) false])) {b_382 : List UInt8} {v_383 : Api_Value} {r : List UInt8} (h : codec_appendValue_F rec_ b_382 v_383 = some r) : Con B 32 [.bs false 0 (b_382.length) 0 (b_382.length), .agg [i64 v_383.Kind, i64 v_383.N, .sl false (L cU8 v_383.B), .sl false (L cApi_Value v_383.L)]] [.buf 1 (L cU8 b_382) false] (fun r' σ' => r' = .bs false 0 (r.length) 0 (r.length) ∧ σ' = [.buf 1 (L cU8 r) false]) := by
  refine con_walk_own (N := 59) (rs := [.tmp 4]) 1 rfl ok Tryd.func32 rfl (by decide +kernel) rfl rfl (Nat.le_of_ble_eq_true rfl) (fun F => ?_)
  have hE := ok.env F
  unfold codec_appendValue_F at h
  show Run (B.env F) 1 _ ⟨asFr 59 [(0, .bs false 0 (b_382.length) 0 (b_382.length)), (1, .agg [i64 v_383.Kind, i64 v_383.N, .sl false (L cU8 v_383.B), .sl false (L cApi_Value v_383.L)])], [.buf 1 (L cU8 b_382) false]⟩ _
  refine run_textE hE [0, 3] (fr' := [(0, .bs false 0 (b_382.length) 0 (b_382.length)), (3, .ref 1 0)]) (σ' := [.buf 1 (L cU8 b_382) false, .box [i64 v_383.Kind, i64 v_383.N, .sl false (L cU8 v_383.B), .sl false (L cApi_Value v_383.L)] false]) ⟨_, orcs_nil, ?_⟩ ?_
  · simp only [go_sem, reduceIte, Nat.reduceLT, Nat.reduceEqDiff, Nat.reduceAdd, Nat.reduceBEq, Nat.reduceMul, Nat.reduceSub, Nat.reduceGT, Nat.reducePow, Nat.reduceLeDiff, Int.reduceToNat]
  replace h := bind_some1 h; obtain ⟨j_824, hA_825, hj_826⟩ := h
  refine run_join (fun (v : Unit) => (⟨asFr 59 [(0, .bs false 0 (b_382.length) 0 (b_382.length)), (3, .ref 1 0)], [.buf 1 (L cU8 b_382) false, .box [i64 v_383.Kind, i64 v_383.N, .sl false (L cU8 v_383.B), .sl false (L cApi_Value v_383.L)] false]⟩ : St)) (fun v => .inl v = j_824) ?_ ?_
  · have h := hA_825; clear hA_825
    refine run_textE hE [0, 3, 10] (fr' := [(0, .bs false 0 (b_382.length) 0 (b_382.length)), (3, .ref 1 0), (10, i64 v_383.Kind)]) (σ' := [.buf 1 (L cU8 b_382) false, .box [i64 v_383.Kind, i64 v_383.N, .sl false (L cU8 v_383.B), .sl false (L cApi_Value v_383.L)] false]) ⟨_, orcs_nil, ?_⟩ ?_
    · simp only [go_sem, reduceIte, Nat.reduceLT, Nat.reduceEqDiff, Nat.reduceAdd, Nat.reduceBEq, Nat.reduceMul, Nat.reduceSub, Nat.reduceGT, Nat.reducePow, Nat.reduceLeDiff, Int.reduceToNat]
    refine run_block ?_
    refine run_textE hE [0, 3, 10, 11] (fr' := [(0, .bs false 0 (b_382.length) 0 (b_382.length)), (3, .ref 1 0), (10, i64 v_383.Kind), (11, .bool ((v_383.Kind == 1)))]) (σ' := [.buf 1 (L cU8 b_382) false, .box [i64 v_383.Kind, i64 v_383.N, .sl false (L cU8 v_383.B), .sl false (L cApi_Value v_383.L)] false]) ⟨_, orcs_nil, ?_⟩ ?_
    · simp only [go_sem, reduceIte, Nat.reduceLT, Nat.reduceEqDiff, Nat.reduceAdd, Nat.reduceBEq, Nat.reduceMul, Nat.reduceSub, Nat.reduceGT, Nat.reducePow, Nat.reduceLeDiff, Int.reduceToNat]
    refine run_condL (b := (v_383.Kind == 1)) rfl (by decide) (fun hb => ?_) (fun hb => ?_)
    · replace h := ite_t h hb
      replace h := bind_some1 h; obtain ⟨y_827, hy_828, h⟩ := h
      refine run_textE hE [4] (fr' := [(4, .bs false 0 (y_827.length) 0 (y_827.length))]) (σ' := [.buf 1 (L cU8 y_827) false, .box [i64 v_383.Kind, i64 v_383.N, .sl false (L cU8 v_383.B), .sl false (L cApi_Value v_383.L)] false]) ⟨_, orcs_ok2 (l := []) (m := [(16, 40, [.bs false 0 (b_382.length) 0 (b_382.length), i64 v_383.N], [.buf 1 (L cU8 b_382) false, .box [i64 v_383.Kind, i64 v_383.N, .sl false (L cU8 v_383.B), .sl false (L cApi_Value v_383.L)] false], .bs false 0 (y_827.length) 0 (y_827.length), [.buf 1 (L cU8 y_827) false, .box [i64 v_383.Kind, i64 v_383.N, .sl false (L cU8 v_383.B), .sl false (L cApi_Value v_383.L)] false])]) trivial ⟨(wcon_call (codec_appendInt_con hy_828) [0] (by decide) (by simp only [go_sem, reduceIte, Nat.reduceLT, Nat.reduceEqDiff, Nat.reduceAdd, Nat.reduceBEq, Nat.reduceMul, Nat.reduceSub, Nat.reduceGT, Nat.reducePow, Nat.reduceLeDiff, Int.reduceToNat]) (by simp only [go_sem, reduceIte, Nat.reduceLT, Nat.reduceEqDiff, Nat.reduceAdd, Nat.reduceBEq, Nat.reduceMul, Nat.reduceSub, Nat.reduceGT, Nat.reducePow, Nat.reduceLeDiff, Int.reduceToNat]) (by simp only [go_sem, reduceIte, Nat.reduceLT, Nat.reduceEqDiff, Nat.reduceAdd, Nat.reduceBEq, Nat.reduceMul, Nat.reduceSub, Nat.reduceGT, Nat.reducePow, Nat.reduceLeDiff, Int.reduceToNat]) (by simp only [go_sem, reduceIte, Nat.reduceLT, Nat.reduceEqDiff, Nat.reduceAdd, Nat.reduceBEq, Nat.reduceMul, Nat.reduceSub, Nat.reduceGT, Nat.reducePow, Nat.reduceLeDiff, Int.reduceToNat]) (by simp only [go_sem, reduceIte, Nat.reduceLT, Nat.reduceEqDiff, Nat.reduceAdd, Nat.reduceBEq, Nat.reduceMul, Nat.reduceSub, Nat.reduceGT, Nat.reducePow, Nat.reduceLeDiff, Int.reduceToNat])), trivial⟩, ?_⟩ ?_
      · simp only [go_sem, reduceIte, Nat.reduceLT, Nat.reduceEqDiff, Nat.reduceAdd, Nat.reduceBEq, Nat.reduceMul, Nat.reduceSub, Nat.reduceGT, Nat.reducePow, Nat.reduceLeDiff, Int.reduceToNat]
      refine run_ret ?_
      refine blockK_r ?_
      refine joinK_r ?_
      replace h := bind_some1 h; obtain ⟨z_829, h, e_z_829⟩ := h
      obtain rfl := Option.some.inj e_z_829
      obtain rfl := Option.some.inj hj_826
      obtain rfl := Option.some.inj h
      refine ret_own (.inr rfl) [0] (by decide) rfl ?_ ?_
      · simp only [go_sem, reduceIte, Nat.reduceLT, Nat.reduceEqDiff, Nat.reduceAdd, Nat.reduceBEq, Nat.reduceMul, Nat.reduceSub, Nat.reduceGT, Nat.reducePow, Nat.reduceLeDiff, Int.reduceToNat]
      · simp only [go_sem, reduceIte, Nat.reduceLT, Nat.reduceEqDiff, Nat.reduceAdd, Nat.reduceBEq, Nat.reduceMul, Nat.reduceSub, Nat.reduceGT, Nat.reducePow, Nat.reduceLeDiff, Int.reduceToNat]
    · replace h := ite_f h hb
      refine run_textE hE [0, 3, 17] (fr' := [(0, .bs false 0 (b_382.length) 0 (b_382.length)), (3, .ref 1 0), (17, .bool ((v_383.Kind == 2)))]) (σ' := [.buf 1 (L cU8 b_382) false, .box [i64 v_383.Kind, i64 v_383.N, .sl false (L cU8 v_383.B), .sl false (L cApi_Value v_383.L)] false]) ⟨_, orcs_nil, ?_⟩ ?_
      · simp only [go_sem, reduceIte, Nat.reduceLT, Nat.reduceEqDiff, Nat.reduceAdd, Nat.reduceBEq, Nat.reduceMul, Nat.reduceSub, Nat.reduceGT, Nat.reducePow, Nat.reduceLeDiff, Int.reduceToNat]
      refine run_condL (b := (v_383.Kind == 2)) rfl (by decide) (fun hb => ?_) (fun hb => ?_)
      · replace h := ite_t h hb
        replace h := chk_some h; obtain ⟨hc_830, h⟩ := h
        replace h := lt1_some h; obtain ⟨l_831, hz_832, h⟩ := h
        refine run_textE hE [0, 3] (fr' := [(0, .bs false 0 (l_831.length) 0 (l_831.length)), (3, .ref 1 0)]) (σ' := [.buf 1 (L cU8 l_831) false, .box [i64 v_383.Kind, i64 v_383.N, .sl false (L cU8 v_383.B), .sl false (L cApi_Value v_383.L)] false, .buf 1 (L cU8 (([(48 : UInt8)] : List UInt8))) false]) ⟨_, orcs_nil, ?_⟩ ?_
        · subst hz_832; simp only [go_sem, reduceIte, Nat.reduceLT, Nat.reduceEqDiff, Nat.reduceAdd, Nat.reduceBEq, Nat.reduceMul, Nat.reduceSub, Nat.reduceGT, Nat.reducePow, Nat.reduceLeDiff, Int.reduceToNat, hc_830]
        replace h := bind_some1 h; obtain ⟨j_896, hA_897, hj_898⟩ := h
        refine run_join (fun (v : List UInt8) => (⟨asFr 59 [(0, .bs false 0 (v.length) 0 (v.length))], [.buf 1 (L cU8 v) false]⟩ : St)) (fun v => v = j_896) ?_ ?_
        · have h := hA_897; clear hA_897
          refine run_textE hE [0, 23, 24, 25] (fr' := [(0, .bs false 0 (l_831.length) 0 (l_831.length)), (23, .sl false (L cU8 v_383.B)), (24, i64 ((v_383.B.length : Int))), (25, i64 0)]) (σ' := [.buf 1 (L cU8 l_831) false, .box [i64 v_383.Kind, i64 v_383.N, .sl false (L cU8 v_383.B), .sl false (L cApi_Value v_383.L)] false, .buf 1 (L cU8 (([(48 : UInt8)] : List UInt8))) false]) ⟨_, orcs_nil, ?_⟩ ?_
          · simp only [go_sem, reduceIte, Nat.reduceLT, Nat.reduceEqDiff, Nat.reduceAdd, Nat.reduceBEq, Nat.reduceMul, Nat.reduceSub, Nat.reduceGT, Nat.reducePow, Nat.reduceLeDiff, Int.reduceToNat]
          refine run_block ?_
          replace h := bind_some1 h; obtain ⟨x_938, hx_939, hj_940⟩ := h
          refine run_loopO hx_939 (fun (v : Int × List UInt8) => (⟨asFr 59 [(0, .bs false 0 (v.2.length) 0 (v.2.length)), (23, .sl false (L cU8 v_383.B)), (24, i64 ((v_383.B.length : Int))), (25, i64 v.1)], [.buf 1 (L cU8 v.2) false]⟩ : St)) (weak_sel [0] (by decide) rfl (by simp only [go_sem, reduceIte, Nat.reduceLT, Nat.reduceEqDiff, Nat.reduceAdd, Nat.reduceBEq, Nat.reduceMul, Nat.reduceSub, Nat.reduceGT, Nat.reducePow, Nat.reduceLeDiff, Int.reduceToNat]) (by simp only [go_sem, reduceIte, Nat.reduceLT, Nat.reduceEqDiff, Nat.reduceAdd, Nat.reduceBEq, Nat.reduceMul, Nat.reduceSub, Nat.reduceGT, Nat.reducePow, Nat.reduceLeDiff, Int.reduceToNat])) ?_
          rintro ⟨t_917, l_918⟩ o_941 h hxx_942
          replace h : codec_appendValue_b1 v_383 t_917 l_918 = some o_941 := h
          unfold codec_appendValue_b1 at h
          refine run_textE hE [0, 23, 24, 25, 26] (fr' := [(0, .bs false 0 (l_918.length) 0 (l_918.length)), (23, .sl false (L cU8 v_383.B)), (24, i64 ((v_383.B.length : Int))), (25, i64 t_917), (26, .bool ((decide (t_917 < (v_383.B.length : Int)))))]) (σ' := [.buf 1 (L cU8 l_918) false]) ⟨_, orcs_nil, ?_⟩ ?_
          · simp only [go_sem, reduceIte, Nat.reduceLT, Nat.reduceEqDiff, Nat.reduceAdd, Nat.reduceBEq, Nat.reduceMul, Nat.reduceSub, Nat.reduceGT, Nat.reducePow, Nat.reduceLeDiff, Int.reduceToNat]
          refine run_seq ?_
          refine run_condL (b := (decide (t_917 < (v_383.B.length : Int)))) rfl (by decide) (fun hb => ?_) (fun hb => ?_)
          · replace h := ite_t h hb
            refine run_skip ?_
            refine thenK_n ?_
            replace h := bind_some1 h; obtain ⟨j_951, hA_952, hj_953⟩ := h
            refine run_join (fun (v : List UInt8) => (⟨asFr 59 [(0, .bs false 0 (v.length) 0 (v.length)), (23, .sl false (L cU8 v_383.B)), (24, i64 ((v_383.B.length : Int))), (25, i64 t_917)], [.buf 1 (L cU8 v) false]⟩ : St)) (fun v => v = j_951) ?_ ?_
            · have h := hA_952; clear hA_952
              refine run_block ?_
              replace h := chk_some h; obtain ⟨hc_954, h⟩ := h
              refine run_textE hE [0, 6, 23, 24, 25] (fr' := [(0, .bs false 0 (l_918.length) 0 (l_918.length)), (6, u8 (nth v_383.B t_917.toNat)), (23, .sl false (L cU8 v_383.B)), (24, i64 ((v_383.B.length : Int))), (25, i64 t_917)]) (σ' := [.buf 1 (L cU8 l_918) false]) ⟨_, orcs_nil, ?_⟩ ?_
              · simp only [go_sem, reduceIte, Nat.reduceLT, Nat.reduceEqDiff, Nat.reduceAdd, Nat.reduceBEq, Nat.reduceMul, Nat.reduceSub, Nat.reduceGT, Nat.reducePow, Nat.reduceLeDiff, Int.reduceToNat, hc_954, hc_954.2, lt_le hc_954.2]
              replace h := chk_some h; obtain ⟨hc_955, h⟩ := h
              replace h := lt1_some h; obtain ⟨l_956, hz_957, h⟩ := h
              refine run_textE hE [0, 6, 23, 24, 25] (fr' := [(0, .bs false 0 (l_956.length) 0 (l_956.length)), (6, u8 (nth v_383.B t_917.toNat)), (23, .sl false (L cU8 v_383.B)), (24, i64 ((v_383.B.length : Int))), (25, i64 t_917)]) (σ' := [.buf 1 (L cU8 l_956) false, .buf 1 (L cU8 (([nth v_383.B t_917.toNat] : List UInt8))) false]) ⟨_, orcs_nil, ?_⟩ ?_
              · subst hz_957; simp only [go_sem, reduceIte, Nat.reduceLT, Nat.reduceEqDiff, Nat.reduceAdd, Nat.reduceBEq, Nat.reduceMul, Nat.reduceSub, Nat.reduceGT, Nat.reducePow, Nat.reduceLeDiff, Int.reduceToNat, hc_955]
              refine run_textE hE [0, 23, 24, 25, 34] (fr' := [(0, .bs false 0 (l_956.length) 0 (l_956.length)), (23, .sl false (L cU8 v_383.B)), (24, i64 ((v_383.B.length : Int))), (25, i64 t_917), (34, .bool ((nth v_383.B t_917.toNat == (0 : UInt8))))]) (σ' := [.buf 1 (L cU8 l_956) false, .buf 1 (L cU8 (([nth v_383.B t_917.toNat] : List UInt8))) false]) ⟨_, orcs_nil, ?_⟩ ?_
              · simp only [go_sem, reduceIte, Nat.reduceLT, Nat.reduceEqDiff, Nat.reduceAdd, Nat.reduceBEq, Nat.reduceMul, Nat.reduceSub, Nat.reduceGT, Nat.reducePow, Nat.reduceLeDiff, Int.reduceToNat]
              refine run_condL (b := (nth v_383.B t_917.toNat == (0 : UInt8))) rfl (by decide) (fun hb => ?_) (fun hb => ?_)
              · replace h := ite_t h hb
                replace h := chk_some h; obtain ⟨hc_958, h⟩ := h
                replace h := lt1_some h; obtain ⟨l_959, hz_960, h⟩ := h
                refine run_textE0 hE (wk_block wk_join) [0, 23, 24, 25] (fr' := [(0, .bs false 0 (l_959.length) 0 (l_959.length)), (23, .sl false (L cU8 v_383.B)), (24, i64 ((v_383.B.length : Int))), (25, i64 t_917)]) (σ' := [.buf 1 (L cU8 l_959) false, .buf 1 (L cU8 (([nth v_383.B t_917.toNat] : List UInt8))) false, .buf 1 (L cU8 (([(255 : UInt8)] : List UInt8))) false]) ⟨_, orcs_nil, ?_⟩ ?_
                · subst hz_960; simp only [go_sem, reduceIte, Nat.reduceLT, Nat.reduceEqDiff, Nat.reduceAdd, Nat.reduceBEq, Nat.reduceMul, Nat.reduceSub, Nat.reduceGT, Nat.reducePow, Nat.reduceLeDiff, Int.reduceToNat, hc_958]
                refine blockK_n ?_
                obtain rfl := Option.some.inj h
                exact joinK_n l_959 rfl (weak_sel [0] (by decide) rfl (by simp only [go_sem, reduceIte, Nat.reduceLT, Nat.reduceEqDiff, Nat.reduceAdd, Nat.reduceBEq, Nat.reduceMul, Nat.reduceSub, Nat.reduceGT, Nat.reducePow, Nat.reduceLeDiff, Int.reduceToNat]) (by simp only [go_sem, reduceIte, Nat.reduceLT, Nat.reduceEqDiff, Nat.reduceAdd, Nat.reduceBEq, Nat.reduceMul, Nat.reduceSub, Nat.reduceGT, Nat.reducePow, Nat.reduceLeDiff, Int.reduceToNat]))
              · replace h := ite_f h hb
                refine run_skip ?_
                refine blockK_n ?_
                obtain rfl := Option.some.inj h
                exact joinK_n l_956 rfl (weak_sel [0] (by decide) rfl (by simp only [go_sem, reduceIte, Nat.reduceLT, Nat.reduceEqDiff, Nat.reduceAdd, Nat.reduceBEq, Nat.reduceMul, Nat.reduceSub, Nat.reduceGT, Nat.reducePow, Nat.reduceLeDiff, Int.reduceToNat]) (by simp only [go_sem, reduceIte, Nat.reduceLT, Nat.reduceEqDiff, Nat.reduceAdd, Nat.reduceBEq, Nat.reduceMul, Nat.reduceSub, Nat.reduceGT, Nat.reducePow, Nat.reduceLeDiff, Int.reduceToNat]))
            rintro l_950 rfl
            have h := hj_953; clear hj_953
            refine run_textE0 hE wk_lp [0, 23, 24, 25] (fr' := [(0, .bs false 0 (l_950.length) 0 (l_950.length)), (23, .sl false (L cU8 v_383.B)), (24, i64 ((v_383.B.length : Int))), (25, i64 ((w64 (t_917 + 1))))]) (σ' := [.buf 1 (L cU8 l_950) false]) ⟨_, orcs_nil, ?_⟩ ?_
            · simp only [go_sem, reduceIte, Nat.reduceLT, Nat.reduceEqDiff, Nat.reduceAdd, Nat.reduceBEq, Nat.reduceMul, Nat.reduceSub, Nat.reduceGT, Nat.reducePow, Nat.reduceLeDiff, Int.reduceToNat]
            obtain rfl := Option.some.inj h
            exact lpK_n (((w64 (t_917 + 1)), l_950)) rfl (weak_sel [0] (by decide) rfl (by simp only [go_sem, reduceIte, Nat.reduceLT, Nat.reduceEqDiff, Nat.reduceAdd, Nat.reduceBEq, Nat.reduceMul, Nat.reduceSub, Nat.reduceGT, Nat.reducePow, Nat.reduceLeDiff, Int.reduceToNat]) (by simp only [go_sem, reduceIte, Nat.reduceLT, Nat.reduceEqDiff, Nat.reduceAdd, Nat.reduceBEq, Nat.reduceMul, Nat.reduceSub, Nat.reduceGT, Nat.reducePow, Nat.reduceLeDiff, Int.reduceToNat]))
          · replace h := ite_f h hb
            refine run_exit ?_
            refine thenK_x ?_
            obtain rfl := Option.some.inj h
            have ex_x_938 := hxx_942 _ rfl
            subst ex_x_938
            have h := hj_940; clear hj_940
            refine lpK_x ?_
            refine blockK_x ?_
            obtain rfl := Option.some.inj h
            exact joinK_n l_918 rfl ((weak_sel (l' := [(0, .bs false 0 (l_918.length) 0 (l_918.length))]) (σ' := [.buf 1 (L cU8 l_918) false]) [0] (by decide) rfl (by simp only [go_sem, reduceIte, Nat.reduceLT, Nat.reduceEqDiff, Nat.reduceAdd, Nat.reduceBEq, Nat.reduceMul, Nat.reduceSub, Nat.reduceGT, Nat.reducePow, Nat.reduceLeDiff, Int.reduceToNat]) (by simp only [go_sem, reduceIte, Nat.reduceLT, Nat.reduceEqDiff, Nat.reduceAdd, Nat.reduceBEq, Nat.reduceMul, Nat.reduceSub, Nat.reduceGT, Nat.reducePow, Nat.reduceLeDiff, Int.reduceToNat])).trans (weak_sel [0] (by decide) rfl (by simp only [go_sem, reduceIte, Nat.reduceLT, Nat.reduceEqDiff, Nat.reduceAdd, Nat.reduceBEq, Nat.reduceMul, Nat.reduceSub, Nat.reduceGT, Nat.reducePow, Nat.reduceLeDiff, Int.reduceToNat]) (by simp only [go_sem, reduceIte, Nat.reduceLT, Nat.reduceEqDiff, Nat.reduceAdd, Nat.reduceBEq, Nat.reduceMul, Nat.reduceSub, Nat.reduceGT, Nat.reducePow, Nat.reduceLeDiff, Int.reduceToNat])))
        rintro l_895 rfl
        have h := hj_898; clear hj_898
        replace h := chk_some h; obtain ⟨hc_961, h⟩ := h
        replace h := lt1_some h; obtain ⟨l_962, hz_963, h⟩ := h
        refine run_textE hE [4] (fr' := [(4, .bs false 0 (l_962.length) 0 (l_962.length))]) (σ' := [.buf 1 (L cU8 l_962) false, .buf 1 (L cU8 (([(0 : UInt8), (0 : UInt8)] : List UInt8))) false]) ⟨_, orcs_nil, ?_⟩ ?_
        · subst hz_963; simp only [go_sem, reduceIte, Nat.reduceLT, Nat.reduceEqDiff, Nat.reduceAdd, Nat.reduceBEq, Nat.reduceMul, Nat.reduceSub, Nat.reduceGT, Nat.reducePow, Nat.reduceLeDiff, Int.reduceToNat, hc_961]
        refine run_ret ?_
        refine blockK_r ?_
        refine joinK_r ?_
        replace h := bind_some1 h; obtain ⟨z_964, h, e_z_964⟩ := h
        obtain rfl := Option.some.inj e_z_964
        obtain rfl := Option.some.inj hj_826
        obtain rfl := Option.some.inj h
        refine ret_own (.inr rfl) [0] (by decide) rfl ?_ ?_
        · simp only [go_sem, reduceIte, Nat.reduceLT, Nat.reduceEqDiff, Nat.reduceAdd, Nat.reduceBEq, Nat.reduceMul, Nat.reduceSub, Nat.reduceGT, Nat.reducePow, Nat.reduceLeDiff, Int.reduceToNat]
        · simp only [go_sem, reduceIte, Nat.reduceLT, Nat.reduceEqDiff, Nat.reduceAdd, Nat.reduceBEq, Nat.reduceMul, Nat.reduceSub, Nat.reduceGT, Nat.reducePow, Nat.reduceLeDiff, Int.reduceToNat]
      · replace h := ite_f h hb
        refine run_skip ?_
        refine blockK_n ?_
        obtain rfl := Option.some.inj h
        exact joinK_n (()) rfl (weak_sel [0, 1] (by decide) rfl (by simp only [go_sem, reduceIte, Nat.reduceLT, Nat.reduceEqDiff, Nat.reduceAdd, Nat.reduceBEq, Nat.reduceMul, Nat.reduceSub, Nat.reduceGT, Nat.reducePow, Nat.reduceLeDiff, Int.reduceToNat]) (by simp only [go_sem, reduceIte, Nat.reduceLT, Nat.reduceEqDiff, Nat.reduceAdd, Nat.reduceBEq, Nat.reduceMul, Nat.reduceSub, Nat.reduceGT, Nat.reducePow, Nat.reduceLeDiff, Int.reduceToNat]))
  rintro ⟨⟩ rfl
  have h := hj_826; clear hj_826
  replace h := chk_some h; obtain ⟨hc_965, h⟩ := h
  replace h := lt1_some h; obtain ⟨l_966, hz_967, h⟩ := h
  refine run_textE hE [0, 3] (fr' := [(0, .bs false 0 (l_966.length) 0 (l_966.length)), (3, .ref 1 0)]) (σ' := [.buf 1 (L cU8 l_966) false, .box [i64 v_383.Kind, i64 v_383.N, .sl false (L cU8 v_383.B), .sl false (L cApi_Value v_383.L)] false, .buf 1 (L cU8 (([(64 : UInt8)] : List UInt8))) false]) ⟨_, orcs_nil, ?_⟩ ?_
  · subst hz_967; simp only [go_sem, reduceIte, Nat.reduceLT, Nat.reduceEqDiff, Nat.reduceAdd, Nat.reduceBEq, Nat.reduceMul, Nat.reduceSub, Nat.reduceGT, Nat.reducePow, Nat.reduceLeDiff, Int.reduceToNat, hc_965]
  replace h := bind_some1 h; obtain ⟨j_1002, hA_1003, hj_1004⟩ := h
  refine run_join (fun (v : List UInt8) => (⟨asFr 59 [(0, .bs false 0 (v.length) 0 (v.length))], [.buf 1 (L cU8 v) false]⟩ : St)) (fun v => v = j_1002) ?_ ?_
  · have h := hA_1003; clear hA_1003
    refine run_textE hE [0, 46, 47, 48] (fr' := [(0, .bs false 0 (l_966.length) 0 (l_966.length)), (46, .sl false (L cApi_Value v_383.L)), (47, i64 ((v_383.L.length : Int))), (48, i64 0)]) (σ' := [.buf 1 (L cU8 l_966) false, .box [i64 v_383.Kind, i64 v_383.N, .sl false (L cU8 v_383.B), .sl false (L cApi_Value v_383.L)] false, .buf 1 (L cU8 (([(64 : UInt8)] : List UInt8))) false]) ⟨_, orcs_nil, ?_⟩ ?_
    · simp only [go_sem, reduceIte, Nat.reduceLT, Nat.reduceEqDiff, Nat.reduceAdd, Nat.reduceBEq, Nat.reduceMul, Nat.reduceSub, Nat.reduceGT, Nat.reducePow, Nat.reduceLeDiff, Int.reduceToNat]
    refine run_block ?_
    replace h := bind_some1 h; obtain ⟨x_1022, hx_1023, hj_1024⟩ := h
    refine run_loopO hx_1023 (fun (v : Int × List UInt8) => (⟨asFr 59 [(0, .bs false 0 (v.2.length) 0 (v.2.length)), (46, .sl false (L cApi_Value v_383.L)), (47, i64 ((v_383.L.length : Int))), (48, i64 v.1)], [.buf 1 (L cU8 v.2) false]⟩ : St)) (weak_sel [0] (by decide) rfl (by simp only [go_sem, reduceIte, Nat.reduceLT, Nat.reduceEqDiff, Nat.reduceAdd, Nat.reduceBEq, Nat.reduceMul, Nat.reduceSub, Nat.reduceGT, Nat.reducePow, Nat.reduceLeDiff, Int.reduceToNat]) (by simp only [go_sem, reduceIte, Nat.reduceLT, Nat.reduceEqDiff, Nat.reduceAdd, Nat.reduceBEq, Nat.reduceMul, Nat.reduceSub, Nat.reduceGT, Nat.reducePow, Nat.reduceLeDiff, Int.reduceToNat])) ?_
    rintro ⟨t_1008, l_1009⟩ o_1025 h hxx_1026
    replace h : codec_appendValue_b2 v_383 rec_ t_1008 l_1009 = some o_1025 := h
    unfold codec_appendValue_b2 at h
    refine run_textE hE [0, 46, 47, 48, 49] (fr' := [(0, .bs false 0 (l_1009.length) 0 (l_1009.length)), (46, .sl false (L cApi_Value v_383.L)), (47, i64 ((v_383.L.length : Int))), (48, i64 t_1008), (49, .bool ((decide (t_1008 < (v_383.L.length : Int)))))]) (σ' := [.buf 1 (L cU8 l_1009) false]) ⟨_, orcs_nil, ?_⟩ ?_
    · simp only [go_sem, reduceIte, Nat.reduceLT, Nat.reduceEqDiff, Nat.reduceAdd, Nat.reduceBEq, Nat.reduceMul, Nat.reduceSub, Nat.reduceGT, Nat.reducePow, Nat.reduceLeDiff, Int.reduceToNat]
    refine run_seq ?_
    refine run_condL (b := (decide (t_1008 < (v_383.L.length : Int)))) rfl (by decide) (fun hb => ?_) (fun hb => ?_)
    · replace h := ite_t h hb
      refine run_skip ?_
      refine thenK_n ?_
      refine run_seq ?_
      refine run_block ?_
      replace h := chk_some h; obtain ⟨hc_1027, h⟩ := h
      replace h := lt1_some h; obtain ⟨f_1028, hz_1032, h⟩ := h
      replace h := lt1_some h; obtain ⟨f_1029, hz_1033, h⟩ := h
      replace h := lt1_some h; obtain ⟨f_1030, hz_1034, h⟩ := h
      replace h := lt1_some h; obtain ⟨f_1031, hz_1035, h⟩ := h
      refine run_textE hE [0, 8, 46, 47, 48] (fr' := [(0, .bs false 0 (l_1009.length) 0 (l_1009.length)), (8, .ref 1 0), (46, .sl false (L cApi_Value v_383.L)), (47, i64 ((v_383.L.length : Int))), (48, i64 t_1008)]) (σ' := [.buf 1 (L cU8 l_1009) false, .box [i64 f_1028, i64 f_1029, .sl false (L cU8 f_1030), .sl false (L cApi_Value f_1031)] false]) ⟨_, orcs_nil, ?_⟩ ?_
      · subst hz_1035; subst hz_1034; subst hz_1033; subst hz_1032; simp only [go_sem, reduceIte, Nat.reduceLT, Nat.reduceEqDiff, Nat.reduceAdd, Nat.reduceBEq, Nat.reduceMul, Nat.reduceSub, Nat.reduceGT, Nat.reducePow, Nat.reduceLeDiff, Int.reduceToNat, hc_1027, hc_1027.2, lt_le hc_1027.2]
      replace h := bind_some1 h; obtain ⟨y_1036, hy_1037, h⟩ := h
      refine run_textE0 hE (wk_block wk_then) [0, 46, 47, 48] (fr' := [(0, .bs false 0 (y_1036.length) 0 (y_1036.length)), (46, .sl false (L cApi_Value v_383.L)), (47, i64 ((v_383.L.length : Int))), (48, i64 t_1008)]) (σ' := [.buf 1 (L cU8 y_1036) false, .box [i64 f_1028, i64 f_1029, .sl false (L cU8 f_1030), .sl false (L cApi_Value f_1031)] false]) ⟨_, orcs_ok2 (l := []) (m := [(54, 32, [.bs false 0 (l_1009.length) 0 (l_1009.length), .agg [i64 f_1028, i64 f_1029, .sl false (L cU8 f_1030), .sl false (L cApi_Value f_1031)]], [.buf 1 (L cU8 l_1009) false, .box [i64 f_1028, i64 f_1029, .sl false (L cU8 f_1030), .sl false (L cApi_Value f_1031)] false], .bs false 0 (y_1036.length) 0 (y_1036.length), [.buf 1 (L cU8 y_1036) false, .box [i64 f_1028, i64 f_1029, .sl false (L cU8 f_1030), .sl false (L cApi_Value f_1031)] false])]) trivial ⟨(wcon_call (hrec hy_1037) [0] (by decide) (by simp only [go_sem, reduceIte, Nat.reduceLT, Nat.reduceEqDiff, Nat.reduceAdd, Nat.reduceBEq, Nat.reduceMul, Nat.reduceSub, Nat.reduceGT, Nat.reducePow, Nat.reduceLeDiff, Int.reduceToNat]) (by simp only [go_sem, reduceIte, Nat.reduceLT, Nat.reduceEqDiff, Nat.reduceAdd, Nat.reduceBEq, Nat.reduceMul, Nat.reduceSub, Nat.reduceGT, Nat.reducePow, Nat.reduceLeDiff, Int.reduceToNat]) (by simp only [go_sem, reduceIte, Nat.reduceLT, Nat.reduceEqDiff, Nat.reduceAdd, Nat.reduceBEq, Nat.reduceMul, Nat.reduceSub, Nat.reduceGT, Nat.reducePow, Nat.reduceLeDiff, Int.reduceToNat]) (by simp only [go_sem, reduceIte, Nat.reduceLT, Nat.reduceEqDiff, Nat.reduceAdd, Nat.reduceBEq, Nat.reduceMul, Nat.reduceSub, Nat.reduceGT, Nat.reducePow, Nat.reduceLeDiff, Int.reduceToNat]) (by simp only [go_sem, reduceIte, Nat.reduceLT, Nat.reduceEqDiff, Nat.reduceAdd, Nat.reduceBEq, Nat.reduceMul, Nat.reduceSub, Nat.reduceGT, Nat.reducePow, Nat.reduceLeDiff, Int.reduceToNat])), trivial⟩, ?_⟩ ?_
      · simp only [go_sem, reduceIte, Nat.reduceLT, Nat.reduceEqDiff, Nat.reduceAdd, Nat.reduceBEq, Nat.reduceMul, Nat.reduceSub, Nat.reduceGT, Nat.reducePow, Nat.reduceLeDiff, Int.reduceToNat]
      refine blockK_n ?_
      refine thenK_n ?_
      refine run_textE0 hE wk_lp [0, 46, 47, 48] (fr' := [(0, .bs false 0 (y_1036.length) 0 (y_1036.length)), (46, .sl false (L cApi_Value v_383.L)), (47, i64 ((v_383.L.length : Int))), (48, i64 ((w64 (t_1008 + 1))))]) (σ' := [.buf 1 (L cU8 y_1036) false, .box [i64 f_1028, i64 f_1029, .sl false (L cU8 f_1030), .sl false (L cApi_Value f_1031)] false]) ⟨_, orcs_nil, ?_⟩ ?_
      · simp only [go_sem, reduceIte, Nat.reduceLT, Nat.reduceEqDiff, Nat.reduceAdd, Nat.reduceBEq, Nat.reduceMul, Nat.reduceSub, Nat.reduceGT, Nat.reducePow, Nat.reduceLeDiff, Int.reduceToNat]
      obtain rfl := Option.some.inj h
      exact lpK_n (((w64 (t_1008 + 1)), y_1036)) rfl (weak_sel [0] (by decide) rfl (by simp only [go_sem, reduceIte, Nat.reduceLT, Nat.reduceEqDiff, Nat.reduceAdd, Nat.reduceBEq, Nat.reduceMul, Nat.reduceSub, Nat.reduceGT, Nat.reducePow, Nat.reduceLeDiff, Int.reduceToNat]) (by simp only [go_sem, reduceIte, Nat.reduceLT, Nat.reduceEqDiff, Nat.reduceAdd, Nat.reduceBEq, Nat.reduceMul, Nat.reduceSub, Nat.reduceGT, Nat.reducePow, Nat.reduceLeDiff, Int.reduceToNat]))
    · replace h := ite_f h hb
      refine run_exit ?_
      refine thenK_x ?_
      obtain rfl := Option.some.inj h
      have ex_x_1022 := hxx_1026 _ rfl
      subst ex_x_1022
      have h := hj_1024; clear hj_1024
      refine lpK_x ?_
      refine blockK_x ?_
      obtain rfl := Option.some.inj h
      exact joinK_n l_1009 rfl ((weak_sel (l' := [(0, .bs false 0 (l_1009.length) 0 (l_1009.length))]) (σ' := [.buf 1 (L cU8 l_1009) false]) [0] (by decide) rfl (by simp only [go_sem, reduceIte, Nat.reduceLT, Nat.reduceEqDiff, Nat.reduceAdd, Nat.reduceBEq, Nat.reduceMul, Nat.reduceSub, Nat.reduceGT, Nat.reducePow, Nat.reduceLeDiff, Int.reduceToNat]) (by simp only [go_sem, reduceIte, Nat.reduceLT, Nat.reduceEqDiff, Nat.reduceAdd, Nat.reduceBEq, Nat.reduceMul, Nat.reduceSub, Nat.reduceGT, Nat.reducePow, Nat.reduceLeDiff, Int.reduceToNat])).trans (weak_sel [0] (by decide) rfl (by simp only [go_sem, reduceIte, Nat.reduceLT, Nat.reduceEqDiff, Nat.reduceAdd, Nat.reduceBEq, Nat.reduceMul, Nat.reduceSub, Nat.reduceGT, Nat.reducePow, Nat.reduceLeDiff, Int.reduceToNat]) (by simp only [go_sem, reduceIte, Nat.reduceLT, Nat.reduceEqDiff, Nat.reduceAdd, Nat.reduceBEq, Nat.reduceMul, Nat.reduceSub, Nat.reduceGT, Nat.reducePow, Nat.reduceLeDiff, Int.reduceToNat])))
  rintro l_1001 rfl
  have h := hj_1004; clear hj_1004
  replace h := chk_some h; obtain ⟨hc_1038, h⟩ := h
  replace h := lt1_some h; obtain ⟨l_1039, hz_1040, h⟩ := h
  refine run_textE hE [4] (fr' := [(4, .bs false 0 (l_1039.length) 0 (l_1039.length))]) (σ' := [.buf 1 (L cU8 l_1039) false, .buf 1 (L cU8 (([(0 : UInt8)] : List UInt8))) false]) ⟨_, orcs_nil, ?_⟩ ?_
  · subst hz_1040; simp only [go_sem, reduceIte, Nat.reduceLT, Nat.reduceEqDiff, Nat.reduceAdd, Nat.reduceBEq, Nat.reduceMul, Nat.reduceSub, Nat.reduceGT, Nat.reducePow, Nat.reduceLeDiff, Int.reduceToNat, hc_1038]
  refine run_ret ?_
  obtain rfl := Option.some.inj h
  refine ret_own (.inr rfl) [0] (by decide) rfl ?_ ?_
  · simp only [go_sem, reduceIte, Nat.reduceLT, Nat.reduceEqDiff, Nat.reduceAdd, Nat.reduceBEq, Nat.reduceMul, Nat.reduceSub, Nat.reduceGT, Nat.reducePow, Nat.reduceLeDiff, Int.reduceToNat]
  · simp only [go_sem, reduceIte, Nat.reduceLT, Nat.reduceEqDiff, Nat.reduceAdd, Nat.reduceBEq, Nat.reduceMul, Nat.reduceSub, Nat.reduceGT, Nat.reducePow, Nat.reduceLeDiff, Int.reduceToNat]
theorem codec_appendValue_n_con (n : Nat) : ∀ {b_382 : List UInt8} {v_383 : Api_Value} {r : List UInt8}, codec_appendValue_n n b_382 v_383 = some r → Con B 32 [.bs false 0 (b_382.length) 0 (b_382.length), .agg [i64 v_383.Kind, i64 v_383.N, .sl false (L cU8 v_383.B), .sl false (L cApi_Value v_383.L)]] [.buf 1 (L cU8 b_382) false] (fun r' σ' => r' = .bs false 0 (r.length) 0 (r.length) ∧ σ' = [.buf 1 (L cU8 r) false]) := by
  induction n with
  | zero => intro b_382 v_383 r h; cases h
  | succ n ih => intro b_382 v_383 r h; exact codec_appendValue_F_con ih h
theorem codec_appendValue_con {b_382 : List UInt8} {v_383 : Api_Value} {r : List UInt8} (h : codec_appendValue b_382 v_383 = some r) : Con B 32 [.bs false 0 (b_382.length) 0 (b_382.length), .agg [i64 v_383.Kind, i64 v_383.N, .sl false (L cU8 v_383.B), .sl false (L cApi_Value v_383.L)]] [.buf 1 (L cU8 b_382) false] (fun r' σ' => r' = .bs false 0 (r.length) 0 (r.length) ∧ σ' = [.buf 1 (L cU8 r) false]) := codec_appendValue_n_con _ h

theorem codec_Encode_con {v_1041 : Api_Value} {r : List UInt8 × Int} (h : codec_Encode v_1041 = some r) : Con B 22 [.agg [i64 v_1041.Kind, i64 v_1041.N, .sl false (L cU8 v_1041.B), .sl false (L cApi_Value v_1041.L)]] [] (fun r' σ' => r' = .tup [.sl false (L cU8 r.1), i64 r.2] ∧ σ' = []) := by
  refine con_walk (N := 22) (rs := [.tmp 2, .tmp 3]) ok Tryd.func22 rfl (by decide +kernel) rfl rfl (Nat.le_of_ble_eq_true rfl) (fun F => ?_)
  have hE := ok.env F
  unfold codec_Encode at h
  show Run (B.env F) 0 _ ⟨asFr 22 [(0, .agg [i64 v_1041.Kind, i64 v_1041.N, .sl false (L cU8 v_1041.B), .sl false (L cApi_Value v_1041.L)])], []⟩ _
  refine run_textE hE [1] (fr' := [(1, .ref 0 0)]) (σ' := [.box [i64 v_1041.Kind, i64 v_1041.N, .sl false (L cU8 v_1041.B), .sl false (L cApi_Value v_1041.L)] false]) ⟨_, orcs_nil, ?_⟩ ?_
  · simp only [go_sem, reduceIte, Nat.reduceLT, Nat.reduceEqDiff, Nat.reduceAdd, Nat.reduceBEq, Nat.reduceMul, Nat.reduceSub, Nat.reduceGT, Nat.reducePow, Nat.reduceLeDiff, Int.reduceToNat]
  replace h := bind_some1 h; obtain ⟨y_1042, hy_1043, h⟩ := h
  refine run_textE hE [1, 4, 5] (fr' := [(1, .ref 0 0), (4, i64 y_1042.1), (5, .bool y_1042.2)]) (σ' := [.box [i64 v_1041.Kind, i64 v_1041.N, .sl false (L cU8 v_1041.B), .sl false (L cApi_Value v_1041.L)] false]) ⟨_, orcs_ok (l := [(9, 31, [.agg [i64 v_1041.Kind, i64 v_1041.N, .sl false (L cU8 v_1041.B), .sl false (L cApi_Value v_1041.L)]], .tup [i64 y_1042.1, .bool y_1042.2])]) ⟨codec_shape_con hy_1043, trivial⟩, ?_⟩ ?_
  · simp only [go_sem, reduceIte, Nat.reduceLT, Nat.reduceEqDiff, Nat.reduceAdd, Nat.reduceBEq, Nat.reduceMul, Nat.reduceSub, Nat.reduceGT, Nat.reducePow, Nat.reduceLeDiff, Int.reduceToNat]
  refine run_seq ?_
  refine run_textE hE [1, 4, 13] (fr' := [(1, .ref 0 0), (4, i64 y_1042.1), (13, .bool ((!y_1042.2)))]) (σ' := [.box [i64 v_1041.Kind, i64 v_1041.N, .sl false (L cU8 v_1041.B), .sl false (L cApi_Value v_1041.L)] false]) ⟨_, orcs_nil, ?_⟩ ?_
  · simp only [go_sem, reduceIte, Nat.reduceLT, Nat.reduceEqDiff, Nat.reduceAdd, Nat.reduceBEq, Nat.reduceMul, Nat.reduceSub, Nat.reduceGT, Nat.reducePow, Nat.reduceLeDiff, Int.reduceToNat]
  refine run_condL (b := (!y_1042.2)) rfl (by decide) (fun hb => ?_) (fun hb => ?_)
  · replace h := ite_t h hb
    refine run_textE hE [2, 3] (fr' := [(2, .sl true (L cU8 ([]))), (3, i64 10)]) (σ' := [.box [i64 v_1041.Kind, i64 v_1041.N, .sl false (L cU8 v_1041.B), .sl false (L cApi_Value v_1041.L)] false]) ⟨_, orcs_nil, ?_⟩ ?_
    · simp only [go_sem, reduceIte, Nat.reduceLT, Nat.reduceEqDiff, Nat.reduceAdd, Nat.reduceBEq, Nat.reduceMul, Nat.reduceSub, Nat.reduceGT, Nat.reducePow, Nat.reduceLeDiff, Int.reduceToNat]
    refine run_ret ?_
    refine thenK_r ?_
    obtain rfl := Option.some.inj h
    refine ret_ok (.inr rfl) ?_
    simp only [go_sem, reduceIte, Nat.reduceLT, Nat.reduceEqDiff, Nat.reduceAdd, Nat.reduceBEq, Nat.reduceMul, Nat.reduceSub, Nat.reduceGT, Nat.reducePow, Nat.reduceLeDiff, Int.reduceToNat]
  · replace h := ite_f h hb
    refine run_skip ?_
    refine thenK_n ?_
    refine run_seq ?_
    refine run_textE hE [1, 15] (fr' := [(1, .ref 0 0), (15, .bool ((decide (y_1042.1 > 16))))]) (σ' := [.box [i64 v_1041.Kind, i64 v_1041.N, .sl false (L cU8 v_1041.B), .sl false (L cApi_Value v_1041.L)] false]) ⟨_, orcs_nil, ?_⟩ ?_
    · simp only [go_sem, reduceIte, Nat.reduceLT, Nat.reduceEqDiff, Nat.reduceAdd, Nat.reduceBEq, Nat.reduceMul, Nat.reduceSub, Nat.reduceGT, Nat.reducePow, Nat.reduceLeDiff, Int.reduceToNat]
    refine run_condL (b := (decide (y_1042.1 > 16))) rfl (by decide) (fun hb => ?_) (fun hb => ?_)
    · replace h := ite_t h hb
      refine run_textE hE [2, 3] (fr' := [(2, .sl true (L cU8 ([]))), (3, i64 2)]) (σ' := [.box [i64 v_1041.Kind, i64 v_1041.N, .sl false (L cU8 v_1041.B), .sl false (L cApi_Value v_1041.L)] false]) ⟨_, orcs_nil, ?_⟩ ?_
      · simp only [go_sem, reduceIte, Nat.reduceLT, Nat.reduceEqDiff, Nat.reduceAdd, Nat.reduceBEq, Nat.reduceMul, Nat.reduceSub, Nat.reduceGT, Nat.reducePow, Nat.reduceLeDiff, Int.reduceToNat]
      refine run_ret ?_
      refine thenK_r ?_
      obtain rfl := Option.some.inj h
      refine ret_ok (.inr rfl) ?_
      simp only [go_sem, reduceIte, Nat.reduceLT, Nat.reduceEqDiff, Nat.reduceAdd, Nat.reduceBEq, Nat.reduceMul, Nat.reduceSub, Nat.reduceGT, Nat.reducePow, Nat.reduceLeDiff, Int.reduceToNat]
    · replace h := ite_f h hb
      refine run_skip ?_
      refine thenK_n ?_
      replace h := bind_some1 h; obtain ⟨y_1044, hy_1045, h⟩ := h
      refine run_textE hE [6] (fr' := [(6, .bs false 1 (y_1044.length) 0 (y_1044.length))]) (σ' := [.box [i64 v_1041.Kind, i64 v_1041.N, .sl false (L cU8 v_1041.B), .sl false (L cApi_Value v_1041.L)] false, .buf 1 (L cU8 y_1044) false]) ⟨_, orcs_ok2 (l := []) (m := [(17, 32, [.sl true (L cU8 ([])), .agg [i64 v_1041.Kind, i64 v_1041.N, .sl false (L cU8 v_1041.B), .sl false (L cApi_Value v_1041.L)]], [.box [i64 v_1041.Kind, i64 v_1041.N, .sl false (L cU8 v_1041.B), .sl false (L cApi_Value v_1041.L)] false], .bs false 1 (y_1044.length) 0 (y_1044.length), [.box [i64 v_1041.Kind, i64 v_1041.N, .sl false (L cU8 v_1041.B), .sl false (L cApi_Value v_1041.L)] false, .buf 1 (L cU8 y_1044) false])]) trivial ⟨(wcon_nil 1 (args' := [.bs true 1 0 0 0, .agg [i64 v_1041.Kind, i64 v_1041.N, .sl false (L cU8 v_1041.B), .sl false (L cApi_Value v_1041.L)]]) (by simp only [go_sem, reduceIte, Nat.reduceLT, Nat.reduceEqDiff, Nat.reduceAdd, Nat.reduceBEq, Nat.reduceMul, Nat.reduceSub, Nat.reduceGT, Nat.reducePow, Nat.reduceLeDiff, Int.reduceToNat]) (wcon_call (codec_appendValue_con hy_1045) [1] (by decide) (by simp only [go_sem, reduceIte, Nat.reduceLT, Nat.reduceEqDiff, Nat.reduceAdd, Nat.reduceBEq, Nat.reduceMul, Nat.reduceSub, Nat.reduceGT, Nat.reducePow, Nat.reduceLeDiff, Int.reduceToNat]) (by simp only [go_sem, reduceIte, Nat.reduceLT, Nat.reduceEqDiff, Nat.reduceAdd, Nat.reduceBEq, Nat.reduceMul, Nat.reduceSub, Nat.reduceGT, Nat.reducePow, Nat.reduceLeDiff, Int.reduceToNat]) (by simp only [go_sem, reduceIte, Nat.reduceLT, Nat.reduceEqDiff, Nat.reduceAdd, Nat.reduceBEq, Nat.reduceMul, Nat.reduceSub, Nat.reduceGT, Nat.reducePow, Nat.reduceLeDiff, Int.reduceToNat]) (by simp only [go_sem, reduceIte, Nat.reduceLT, Nat.reduceEqDiff, Nat.reduceAdd, Nat.reduceBEq, Nat.reduceMul, Nat.reduceSub, Nat.reduceGT, Nat.reducePow, Nat.reduceLeDiff, Int.reduceToNat]) (by simp only [go_sem, reduceIte, Nat.reduceLT, Nat.reduceEqDiff, Nat.reduceAdd, Nat.reduceBEq, Nat.reduceMul, Nat.reduceSub, Nat.reduceGT, Nat.reducePow, Nat.reduceLeDiff, Int.reduceToNat]))), trivial⟩, ?_⟩ ?_
      · simp only [go_sem, reduceIte, Nat.reduceLT, Nat.reduceEqDiff, Nat.reduceAdd, Nat.reduceBEq, Nat.reduceMul, Nat.reduceSub, Nat.reduceGT, Nat.reducePow, Nat.reduceLeDiff, Int.reduceToNat]
      refine run_seq ?_
      refine run_textE hE [6, 20] (fr' := [(6, .bs false 1 (y_1044.length) 0 (y_1044.length)), (20, .bool ((decide ((y_1044.length : Int) > 65536))))]) (σ' := [.box [i64 v_1041.Kind, i64 v_1041.N, .sl false (L cU8 v_1041.B), .sl false (L cApi_Value v_1041.L)] false, .buf 1 (L cU8 y_1044) false]) ⟨_, orcs_nil, ?_⟩ ?_
      · simp only [go_sem, reduceIte, Nat.reduceLT, Nat.reduceEqDiff, Nat.reduceAdd, Nat.reduceBEq, Nat.reduceMul, Nat.reduceSub, Nat.reduceGT, Nat.reducePow, Nat.reduceLeDiff, Int.reduceToNat]
      refine run_condL (b := (decide ((y_1044.length : Int) > 65536))) rfl (by decide) (fun hb => ?_) (fun hb => ?_)
      · replace h := ite_t h hb
        refine run_textE hE [2, 3] (fr' := [(2, .sl true (L cU8 ([]))), (3, i64 2)]) (σ' := [.box [i64 v_1041.Kind, i64 v_1041.N, .sl false (L cU8 v_1041.B), .sl false (L cApi_Value v_1041.L)] false, .buf 1 (L cU8 y_1044) false]) ⟨_, orcs_nil, ?_⟩ ?_
        · simp only [go_sem, reduceIte, Nat.reduceLT, Nat.reduceEqDiff, Nat.reduceAdd, Nat.reduceBEq, Nat.reduceMul, Nat.reduceSub, Nat.reduceGT, Nat.reducePow, Nat.reduceLeDiff, Int.reduceToNat]
        refine run_ret ?_
        refine thenK_r ?_
        obtain rfl := Option.some.inj h
        refine ret_ok (.inr rfl) ?_
        simp only [go_sem, reduceIte, Nat.reduceLT, Nat.reduceEqDiff, Nat.reduceAdd, Nat.reduceBEq, Nat.reduceMul, Nat.reduceSub, Nat.reduceGT, Nat.reducePow, Nat.reduceLeDiff, Int.reduceToNat]
      · replace h := ite_f h hb
        refine run_skip ?_
        refine thenK_n ?_
        refine run_textE hE [2, 3] (fr' := [(2, .bs false 1 (y_1044.length) 0 (y_1044.length)), (3, i64 0)]) (σ' := [.box [i64 v_1041.Kind, i64 v_1041.N, .sl false (L cU8 v_1041.B), .sl false (L cApi_Value v_1041.L)] false, .buf 1 (L cU8 y_1044) false]) ⟨_, orcs_nil, ?_⟩ ?_
        · simp only [go_sem, reduceIte, Nat.reduceLT, Nat.reduceEqDiff, Nat.reduceAdd, Nat.reduceBEq, Nat.reduceMul, Nat.reduceSub, Nat.reduceGT, Nat.reducePow, Nat.reduceLeDiff, Int.reduceToNat]
        refine run_ret ?_
        obtain rfl := Option.some.inj h
        refine ret_ok (.inr rfl) ?_
        simp only [go_sem, reduceIte, Nat.reduceLT, Nat.reduceEqDiff, Nat.reduceAdd, Nat.reduceBEq, Nat.reduceMul, Nat.reduceSub, Nat.reduceGT, Nat.reducePow, Nat.reduceLeDiff, Int.reduceToNat]

theorem r02_constants_con  {r : Arr UInt32 64} (h : r02_constants  = some r) : Con B 38 [] [] (fun r' σ' => r' = .agg (C1 u32 r.l) ∧ σ' = []) := by
  refine con_walk (N := 2) (rs := [.cell 0 66]) ok Tryd.func38 rfl (by decide +kernel) rfl rfl (Nat.le_of_ble_eq_true rfl) (fun F => ?_)
  have hE := ok.env F
  unfold r02_constants at h
  show Run (B.env F) 0 _ ⟨asFr 2 [], []⟩ _
  refine run_textE hE [0] (fr' := [(0, .ref 0 0)]) (σ' := [.box (C1 u32 ((Arr.rep 64 (0 : UInt32))).l) false]) ⟨_, orcs_nil, ?_⟩ ?_
  · simp only [go_sem, reduceIte, Nat.reduceLT, Nat.reduceEqDiff, Nat.reduceAdd, Nat.reduceBEq, Nat.reduceMul, Nat.reduceSub, Nat.reduceGT, Nat.reducePow, Nat.reduceLeDiff, Int.reduceToNat]
  replace h := lt1_some h; obtain ⟨f_1046, hz_1047, h⟩ := h
  refine run_textE hE [0] (fr' := [(0, .ref 0 0)]) (σ' := [.box (C1 u32 f_1046.l) false]) ⟨_, orcs_nil, ?_⟩ ?_
  · subst hz_1047; simp only [go_sem, reduceIte, Nat.reduceLT, Nat.reduceEqDiff, Nat.reduceAdd, Nat.reduceBEq, Nat.reduceMul, Nat.reduceSub, Nat.reduceGT, Nat.reducePow, Nat.reduceLeDiff, Int.reduceToNat, C1_rep, C1_nil, C1_cons]
  refine run_ret ?_
  obtain rfl := Option.some.inj h
  refine ret_ok (.inr rfl) ?_
  simp only [go_sem, reduceIte, Nat.reduceLT, Nat.reduceEqDiff, Nat.reduceAdd, Nat.reduceBEq, Nat.reduceMul, Nat.reduceSub, Nat.reduceGT, Nat.reducePow, Nat.reduceLeDiff, Int.reduceToNat]

end Go.Proofs.YtgdiabbgiiemcaaDoor
