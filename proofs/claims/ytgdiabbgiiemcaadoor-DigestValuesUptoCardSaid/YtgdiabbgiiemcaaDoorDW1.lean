/-
  The functions compute just that.
-/
import Derived.Test.YtgdiabbgiiemcaaDoorDP
import Derived.KernelRfl
namespace Go.Proofs.YtgdiabbgiiemcaaDoor
open Go.Rv
set_option linter.unusedVariables false
set_option linter.unusedSimpArgs false
set_option maxRecDepth 20000

theorem bits_RotateLeft32_con {x_1 : UInt32} {k_2 : Int} {r : UInt32} (h : bits_RotateLeft32 x_1 k_2 = some r) : Con B 43 [u32 x_1, i64 k_2] [] (fun r' σ' => r' = u32 r ∧ σ' = []) := by
  refine con_walk (N := 17) (rs := [.tmp 4]) ok Tryd.func43 rfl (by decide +kernel) rfl rfl (Nat.le_of_ble_eq_true rfl) (fun F => ?_)
  have hE := ok.env F
  unfold bits_RotateLeft32 at h
  show Run (B.env F) 0 _ ⟨asFr 17 [(0, u32 x_1), (1, i64 k_2)], []⟩ _
  refine run_textE hE [0, 1] (fr' := [(0, u32 x_1), (1, i64 k_2)]) (σ' := []) ⟨_, orcs_nil, ?_⟩ ?_
  · simp only [go_sem, reduceIte, Nat.reduceLT, Nat.reduceEqDiff, Nat.reduceAdd, Nat.reduceBEq, Nat.reduceMul, Nat.reduceSub, Nat.reduceGT, Nat.reducePow, Nat.reduceLeDiff, Int.reduceToNat]
  replace h := lt1_some h; obtain ⟨s_3, hz_4, h⟩ := h
  refine run_textE hE [0, 5] (fr' := [(0, u32 x_1), (5, u64 s_3)]) (σ' := []) ⟨_, orcs_nil, ?_⟩ ?_
  · subst hz_4; simp only [go_sem, reduceIte, Nat.reduceLT, Nat.reduceEqDiff, Nat.reduceAdd, Nat.reduceBEq, Nat.reduceMul, Nat.reduceSub, Nat.reduceGT, Nat.reducePow, Nat.reduceLeDiff, Int.reduceToNat]
  replace h := lt1_some h; obtain ⟨t_5, hz_6, h⟩ := h
  refine run_textE hE [4] (fr' := [(4, u32 t_5)]) (σ' := []) ⟨_, orcs_nil, ?_⟩ ?_
  · subst hz_6; simp only [go_sem, reduceIte, Nat.reduceLT, Nat.reduceEqDiff, Nat.reduceAdd, Nat.reduceBEq, Nat.reduceMul, Nat.reduceSub, Nat.reduceGT, Nat.reducePow, Nat.reduceLeDiff, Int.reduceToNat]
  refine run_ret ?_
  obtain rfl := Option.some.inj h
  refine ret_ok (.inr rfl) ?_
  simp only [go_sem, reduceIte, Nat.reduceLT, Nat.reduceEqDiff, Nat.reduceAdd, Nat.reduceBEq, Nat.reduceMul, Nat.reduceSub, Nat.reduceGT, Nat.reducePow, Nat.reduceLeDiff, Int.reduceToNat]

theorem codec_appendInt_1_con {u_7 : UInt64} {r : Int} (h : codec_appendInt_1 u_7 = some r) : Con B 44 [u64 u_7] [] (fun r' σ' => r' = i64 r ∧ σ' = []) := by
  refine con_walk (N := 10) (rs := [.tmp 2]) ok Tryd.func44 rfl (by decide +kernel) rfl rfl (Nat.le_of_ble_eq_true rfl) (fun F => ?_)
  have hE := ok.env F
  unfold codec_appendInt_1 at h
  show Run (B.env F) 0 _ ⟨asFr 10 [(0, u64 u_7)], []⟩ _
  refine run_textE hE [0, 2] (fr' := [(0, u64 u_7), (2, i64 0)]) (σ' := []) ⟨_, orcs_nil, ?_⟩ ?_
  · simp only [go_sem, reduceIte, Nat.reduceLT, Nat.reduceEqDiff, Nat.reduceAdd, Nat.reduceBEq, Nat.reduceMul, Nat.reduceSub, Nat.reduceGT, Nat.reducePow, Nat.reduceLeDiff, Int.reduceToNat]
  replace h := bind_some1 h; obtain ⟨j_23, hA_24, hj_25⟩ := h
  refine run_join (fun (v : Int) => (⟨asFr 10 [(2, i64 v)], []⟩ : St)) (fun v => v = j_23) ?_ ?_
  · have h := hA_24; clear hA_24
    refine run_block ?_
    replace h := bind_some1 h; obtain ⟨x_33, hx_34, hj_35⟩ := h
    refine run_loopO hx_34 (fun (v : UInt64 × Int) => (⟨asFr 10 [(0, u64 v.1), (2, i64 v.2)], []⟩ : St)) (weak_sel [] (by decide) rfl (by simp only [go_sem, reduceIte, Nat.reduceLT, Nat.reduceEqDiff, Nat.reduceAdd, Nat.reduceBEq, Nat.reduceMul, Nat.reduceSub, Nat.reduceGT, Nat.reducePow, Nat.reduceLeDiff, Int.reduceToNat]) (by simp only [go_sem, reduceIte, Nat.reduceLT, Nat.reduceEqDiff, Nat.reduceAdd, Nat.reduceBEq, Nat.reduceMul, Nat.reduceSub, Nat.reduceGT, Nat.reducePow, Nat.reduceLeDiff, Int.reduceToNat])) ?_
    rintro ⟨u_28, k_29⟩ o_36 h hxx_37
    replace h : codec_appendInt_1_b1 u_28 k_29 = some o_36 := h
    unfold codec_appendInt_1_b1 at h
    refine run_seq ?_
    refine run_textE hE [0, 2, 4] (fr' := [(0, u64 u_28), (2, i64 k_29), (4, .bool ((decide (u_28 > (0 : UInt64)))))]) (σ' := []) ⟨_, orcs_nil, ?_⟩ ?_
    · simp only [go_sem, reduceIte, Nat.reduceLT, Nat.reduceEqDiff, Nat.reduceAdd, Nat.reduceBEq, Nat.reduceMul, Nat.reduceSub, Nat.reduceGT, Nat.reducePow, Nat.reduceLeDiff, Int.reduceToNat]
    refine run_condL (b := (decide (u_28 > (0 : UInt64)))) rfl (by decide) (fun hb => ?_) (fun hb => ?_)
    · replace h := ite_t h hb
      refine run_skip ?_
      refine thenK_n ?_
      refine run_seq ?_
      refine run_block ?_
      refine run_textE0 hE (wk_block wk_then) [0, 2] (fr' := [(0, u64 u_28), (2, i64 ((w64 (k_29 + 1))))]) (σ' := []) ⟨_, orcs_nil, ?_⟩ ?_
      · simp only [go_sem, reduceIte, Nat.reduceLT, Nat.reduceEqDiff, Nat.reduceAdd, Nat.reduceBEq, Nat.reduceMul, Nat.reduceSub, Nat.reduceGT, Nat.reducePow, Nat.reduceLeDiff, Int.reduceToNat]
      refine blockK_n ?_
      refine thenK_n ?_
      replace h := lt1_some h; obtain ⟨u_38, hz_39, h⟩ := h
      refine run_textE0 hE wk_lp [0, 2] (fr' := [(0, u64 u_38), (2, i64 ((w64 (k_29 + 1))))]) (σ' := []) ⟨_, orcs_nil, ?_⟩ ?_
      · subst hz_39; simp only [go_sem, reduceIte, Nat.reduceLT, Nat.reduceEqDiff, Nat.reduceAdd, Nat.reduceBEq, Nat.reduceMul, Nat.reduceSub, Nat.reduceGT, Nat.reducePow, Nat.reduceLeDiff, Int.reduceToNat]
      obtain rfl := Option.some.inj h
      exact lpK_n ((u_38, (w64 (k_29 + 1)))) rfl (weak_sel [] (by decide) rfl (by simp only [go_sem, reduceIte, Nat.reduceLT, Nat.reduceEqDiff, Nat.reduceAdd, Nat.reduceBEq, Nat.reduceMul, Nat.reduceSub, Nat.reduceGT, Nat.reducePow, Nat.reduceLeDiff, Int.reduceToNat]) (by simp only [go_sem, reduceIte, Nat.reduceLT, Nat.reduceEqDiff, Nat.reduceAdd, Nat.reduceBEq, Nat.reduceMul, Nat.reduceSub, Nat.reduceGT, Nat.reducePow, Nat.reduceLeDiff, Int.reduceToNat]))
    · replace h := ite_f h hb
      refine run_exit ?_
      refine thenK_x ?_
      obtain rfl := Option.some.inj h
      have ex_x_33 := hxx_37 _ rfl
      subst ex_x_33
      have h := hj_35; clear hj_35
      refine lpK_x ?_
      refine blockK_x ?_
      obtain rfl := Option.some.inj h
      exact joinK_n k_29 rfl ((weak_sel (l' := [(2, i64 k_29)]) (σ' := []) [] (by decide) rfl (by simp only [go_sem, reduceIte, Nat.reduceLT, Nat.reduceEqDiff, Nat.reduceAdd, Nat.reduceBEq, Nat.reduceMul, Nat.reduceSub, Nat.reduceGT, Nat.reducePow, Nat.reduceLeDiff, Int.reduceToNat]) (by simp only [go_sem, reduceIte, Nat.reduceLT, Nat.reduceEqDiff, Nat.reduceAdd, Nat.reduceBEq, Nat.reduceMul, Nat.reduceSub, Nat.reduceGT, Nat.reducePow, Nat.reduceLeDiff, Int.reduceToNat])).trans (weak_sel [] (by decide) rfl (by simp only [go_sem, reduceIte, Nat.reduceLT, Nat.reduceEqDiff, Nat.reduceAdd, Nat.reduceBEq, Nat.reduceMul, Nat.reduceSub, Nat.reduceGT, Nat.reducePow, Nat.reduceLeDiff, Int.reduceToNat]) (by simp only [go_sem, reduceIte, Nat.reduceLT, Nat.reduceEqDiff, Nat.reduceAdd, Nat.reduceBEq, Nat.reduceMul, Nat.reduceSub, Nat.reduceGT, Nat.reducePow, Nat.reduceLeDiff, Int.reduceToNat])))
  rintro k_22 rfl
  have h := hj_25; clear hj_25
  refine run_textE hE [2] (fr' := [(2, i64 k_22)]) (σ' := []) ⟨_, orcs_nil, ?_⟩ ?_
  · simp only [go_sem, reduceIte, Nat.reduceLT, Nat.reduceEqDiff, Nat.reduceAdd, Nat.reduceBEq, Nat.reduceMul, Nat.reduceSub, Nat.reduceGT, Nat.reducePow, Nat.reduceLeDiff, Int.reduceToNat]
  refine run_ret ?_
  obtain rfl := Option.some.inj h
  refine ret_ok (.inr rfl) ?_
  simp only [go_sem, reduceIte, Nat.reduceLT, Nat.reduceEqDiff, Nat.reduceAdd, Nat.reduceBEq, Nat.reduceMul, Nat.reduceSub, Nat.reduceGT, Nat.reducePow, Nat.reduceLeDiff, Int.reduceToNat]

theorem r02_rotr_con {x_40 : UInt32} {n_41 : Int} {r : UInt32} (h : r02_rotr x_40 n_41 = some r) : Con B 39 [u32 x_40, i64 n_41] [] (fun r' σ' => r' = u32 r ∧ σ' = []) := by
  refine con_walk (N := 13) (rs := [.tmp 4]) ok Tryd.func39 rfl (by decide +kernel) rfl rfl (Nat.le_of_ble_eq_true rfl) (fun F => ?_)
  have hE := ok.env F
  unfold r02_rotr at h
  show Run (B.env F) 0 _ ⟨asFr 13 [(0, u32 x_40), (1, i64 n_41)], []⟩ _
  refine run_textE hE [0, 1] (fr' := [(0, u32 x_40), (1, i64 n_41)]) (σ' := []) ⟨_, orcs_nil, ?_⟩ ?_
  · simp only [go_sem, reduceIte, Nat.reduceLT, Nat.reduceEqDiff, Nat.reduceAdd, Nat.reduceBEq, Nat.reduceMul, Nat.reduceSub, Nat.reduceGT, Nat.reducePow, Nat.reduceLeDiff, Int.reduceToNat]
  replace h := chk_some h; obtain ⟨hc_42, h⟩ := h
  replace h := chk_some h; obtain ⟨hc_43, h⟩ := h
  replace h := lt1_some h; obtain ⟨t_44, hz_45, h⟩ := h
  refine run_drawE hE mixed [[], [], [0, 1], [], [], [4], [3, 4, 5], [0, 1, 2, 3, 4, 5, 6], [0, 1, 2, 3, 4, 5, 6, 7]] (by kernel_rfl) (by kernel_rfl) [4] (fr' := [(4, u32 t_44)]) (σ' := []) ⟨_, orcs_nil, ?_⟩ ?_
  · subst hz_45; simp only [go_sem, reduceIte, Nat.reduceLT, Nat.reduceEqDiff, Nat.reduceAdd, Nat.reduceBEq, Nat.reduceMul, Nat.reduceSub, Nat.reduceGT, Nat.reducePow, Nat.reduceLeDiff, Int.reduceToNat, hc_42, hc_43]
  refine run_ret ?_
  obtain rfl := Option.some.inj h
  refine ret_ok (.inr rfl) ?_
  simp only [go_sem, reduceIte, Nat.reduceLT, Nat.reduceEqDiff, Nat.reduceAdd, Nat.reduceBEq, Nat.reduceMul, Nat.reduceSub, Nat.reduceGT, Nat.reducePow, Nat.reduceLeDiff, Int.reduceToNat]

theorem codec_appendInt_con {b_46 : List UInt8} {n_47 : Int} {r : List UInt8} (h : codec_appendInt b_46 n_47 = some r) : Con B 40 [.bs false 0 (b_46.length) 0 (b_46.length), i64 n_47] [.buf 1 (L cU8 b_46) false] (fun r' σ' => r' = .bs false 0 (r.length) 0 (r.length) ∧ σ' = [.buf 1 (L cU8 r) false]) := by
  refine con_walk_own (N := 48) (rs := [.tmp 4]) 1 rfl ok Tryd.func40 rfl (by decide +kernel) rfl rfl (Nat.le_of_ble_eq_true rfl) (fun F => ?_)
  have hE := ok.env F
  unfold codec_appendInt at h
  show Run (B.env F) 1 _ ⟨asFr 48 [(0, .bs false 0 (b_46.length) 0 (b_46.length)), (1, i64 n_47)], [.buf 1 (L cU8 b_46) false]⟩ _
  refine run_textE hE [0, 1] (fr' := [(0, .bs false 0 (b_46.length) 0 (b_46.length)), (1, i64 n_47)]) (σ' := [.buf 1 (L cU8 b_46) false]) ⟨_, orcs_nil, ?_⟩ ?_
  · simp only [go_sem, reduceIte, Nat.reduceLT, Nat.reduceEqDiff, Nat.reduceAdd, Nat.reduceBEq, Nat.reduceMul, Nat.reduceSub, Nat.reduceGT, Nat.reducePow, Nat.reduceLeDiff, Int.reduceToNat]
  refine run_textE hE [0, 1, 5] (fr' := [(0, .bs false 0 (b_46.length) 0 (b_46.length)), (1, i64 n_47), (5, .fn 44 [])]) (σ' := [.buf 1 (L cU8 b_46) false]) ⟨_, orcs_nil, ?_⟩ ?_
  · simp only [go_sem, reduceIte, Nat.reduceLT, Nat.reduceEqDiff, Nat.reduceAdd, Nat.reduceBEq, Nat.reduceMul, Nat.reduceSub, Nat.reduceGT, Nat.reducePow, Nat.reduceLeDiff, Int.reduceToNat]
  replace h := bind_some1 h; obtain ⟨y_112, hy_113, h⟩ := h
  refine run_textE hE [0, 1, 5, 6] (fr' := [(0, .bs false 0 (b_46.length) 0 (b_46.length)), (1, i64 n_47), (5, .fn 44 []), (6, i64 y_112)]) (σ' := [.buf 1 (L cU8 b_46) false]) ⟨_, orcs_ok (l := [(12, 44, [u64 ((UInt64.ofInt n_47))], i64 y_112)]) ⟨codec_appendInt_1_con hy_113, trivial⟩, ?_⟩ ?_
  · simp only [go_sem, reduceIte, Nat.reduceLT, Nat.reduceEqDiff, Nat.reduceAdd, Nat.reduceBEq, Nat.reduceMul, Nat.reduceSub, Nat.reduceGT, Nat.reducePow, Nat.reduceLeDiff, Int.reduceToNat]
  replace h := lt1_some h; obtain ⟨tag_114, hz_115, h⟩ := h
  refine run_textE hE [0, 1, 5, 6, 7] (fr' := [(0, .bs false 0 (b_46.length) 0 (b_46.length)), (1, i64 n_47), (5, .fn 44 []), (6, i64 y_112), (7, u8 tag_114)]) (σ' := [.buf 1 (L cU8 b_46) false]) ⟨_, orcs_nil, ?_⟩ ?_
  · subst hz_115; simp only [go_sem, reduceIte, Nat.reduceLT, Nat.reduceEqDiff, Nat.reduceAdd, Nat.reduceBEq, Nat.reduceMul, Nat.reduceSub, Nat.reduceGT, Nat.reducePow, Nat.reduceLeDiff, Int.reduceToNat]
  replace h := bind_some1 h; obtain ⟨j_122, hA_123, hj_124⟩ := h
  refine run_join (fun (v : Int × UInt8) => (⟨asFr 48 [(0, .bs false 0 (b_46.length) 0 (b_46.length)), (1, i64 n_47), (6, i64 v.1), (7, u8 v.2)], [.buf 1 (L cU8 b_46) false]⟩ : St)) (fun v => v = j_122) ?_ ?_
  · have h := hA_123; clear hA_123
    refine run_textE hE [0, 1, 5, 6, 7, 17] (fr' := [(0, .bs false 0 (b_46.length) 0 (b_46.length)), (1, i64 n_47), (5, .fn 44 []), (6, i64 y_112), (7, u8 tag_114), (17, .bool ((decide (n_47 < 0))))]) (σ' := [.buf 1 (L cU8 b_46) false]) ⟨_, orcs_nil, ?_⟩ ?_
    · simp only [go_sem, reduceIte, Nat.reduceLT, Nat.reduceEqDiff, Nat.reduceAdd, Nat.reduceBEq, Nat.reduceMul, Nat.reduceSub, Nat.reduceGT, Nat.reducePow, Nat.reduceLeDiff, Int.reduceToNat]
    refine run_condL (b := (decide (n_47 < 0))) rfl (by decide) (fun hb => ?_) (fun hb => ?_)
    · replace h := ite_t h hb
      replace h := bind_some1 h; obtain ⟨y_125, hy_126, h⟩ := h
      refine run_textE hE [0, 1, 6] (fr' := [(0, .bs false 0 (b_46.length) 0 (b_46.length)), (1, i64 n_47), (6, i64 y_125)]) (σ' := [.buf 1 (L cU8 b_46) false]) ⟨_, orcs_ok (l := [(22, 44, [u64 ((~~~(UInt64.ofInt n_47)))], i64 y_125)]) ⟨codec_appendInt_1_con hy_126, trivial⟩, ?_⟩ ?_
      · simp only [go_sem, reduceIte, Nat.reduceLT, Nat.reduceEqDiff, Nat.reduceAdd, Nat.reduceBEq, Nat.reduceMul, Nat.reduceSub, Nat.reduceGT, Nat.reducePow, Nat.reduceLeDiff, Int.reduceToNat]
      replace h := lt1_some h; obtain ⟨tag_127, hz_128, h⟩ := h
      refine run_textE0 hE wk_join [0, 1, 6, 7] (fr' := [(0, .bs false 0 (b_46.length) 0 (b_46.length)), (1, i64 n_47), (6, i64 y_125), (7, u8 tag_127)]) (σ' := [.buf 1 (L cU8 b_46) false]) ⟨_, orcs_nil, ?_⟩ ?_
      · subst hz_128; simp only [go_sem, reduceIte, Nat.reduceLT, Nat.reduceEqDiff, Nat.reduceAdd, Nat.reduceBEq, Nat.reduceMul, Nat.reduceSub, Nat.reduceGT, Nat.reducePow, Nat.reduceLeDiff, Int.reduceToNat]
      obtain rfl := Option.some.inj h
      exact joinK_n ((y_125, tag_127)) rfl (weak_sel [0] (by decide) rfl (by simp only [go_sem, reduceIte, Nat.reduceLT, Nat.reduceEqDiff, Nat.reduceAdd, Nat.reduceBEq, Nat.reduceMul, Nat.reduceSub, Nat.reduceGT, Nat.reducePow, Nat.reduceLeDiff, Int.reduceToNat]) (by simp only [go_sem, reduceIte, Nat.reduceLT, Nat.reduceEqDiff, Nat.reduceAdd, Nat.reduceBEq, Nat.reduceMul, Nat.reduceSub, Nat.reduceGT, Nat.reducePow, Nat.reduceLeDiff, Int.reduceToNat]))
    · replace h := ite_f h hb
      refine run_skip ?_
      obtain rfl := Option.some.inj h
      exact joinK_n ((y_112, tag_114)) rfl (weak_sel [0] (by decide) rfl (by simp only [go_sem, reduceIte, Nat.reduceLT, Nat.reduceEqDiff, Nat.reduceAdd, Nat.reduceBEq, Nat.reduceMul, Nat.reduceSub, Nat.reduceGT, Nat.reducePow, Nat.reduceLeDiff, Int.reduceToNat]) (by simp only [go_sem, reduceIte, Nat.reduceLT, Nat.reduceEqDiff, Nat.reduceAdd, Nat.reduceBEq, Nat.reduceMul, Nat.reduceSub, Nat.reduceGT, Nat.reducePow, Nat.reduceLeDiff, Int.reduceToNat]))
  rintro ⟨k_120, tag_121⟩ rfl
  have h := hj_124; clear hj_124
  replace h := chk_some h; obtain ⟨hc_129, h⟩ := h
  replace h := lt1_some h; obtain ⟨l_130, hz_131, h⟩ := h
  refine run_textE hE [0, 1, 6] (fr' := [(0, .bs false 0 (l_130.length) 0 (l_130.length)), (1, i64 n_47), (6, i64 k_120)]) (σ' := [.buf 1 (L cU8 l_130) false, .buf 1 (L cU8 (([tag_121] : List UInt8))) false]) ⟨_, orcs_nil, ?_⟩ ?_
  · subst hz_131; simp only [go_sem, reduceIte, Nat.reduceLT, Nat.reduceEqDiff, Nat.reduceAdd, Nat.reduceBEq, Nat.reduceMul, Nat.reduceSub, Nat.reduceGT, Nat.reducePow, Nat.reduceLeDiff, Int.reduceToNat, hc_129]
  replace h := bind_some1 h; obtain ⟨j_153, hA_154, hj_155⟩ := h
  refine run_join (fun (v : List UInt8) => (⟨asFr 48 [(0, .bs false 0 (v.length) 0 (v.length))], [.buf 1 (L cU8 v) false]⟩ : St)) (fun v => v = j_153) ?_ ?_
  · have h := hA_154; clear hA_154
    refine run_textE hE [0, 1, 6, 30, 31] (fr' := [(0, .bs false 0 (l_130.length) 0 (l_130.length)), (1, i64 n_47), (6, i64 k_120), (30, i64 k_120), (31, i64 0)]) (σ' := [.buf 1 (L cU8 l_130) false, .buf 1 (L cU8 (([tag_121] : List UInt8))) false]) ⟨_, orcs_nil, ?_⟩ ?_
    · simp only [go_sem, reduceIte, Nat.reduceLT, Nat.reduceEqDiff, Nat.reduceAdd, Nat.reduceBEq, Nat.reduceMul, Nat.reduceSub, Nat.reduceGT, Nat.reducePow, Nat.reduceLeDiff, Int.reduceToNat]
    refine run_block ?_
    replace h := bind_some1 h; obtain ⟨x_167, hx_168, hj_169⟩ := h
    refine run_loopO hx_168 (fun (v : Int × List UInt8) => (⟨asFr 48 [(0, .bs false 0 (v.2.length) 0 (v.2.length)), (1, i64 n_47), (6, i64 k_120), (30, i64 k_120), (31, i64 v.1)], [.buf 1 (L cU8 v.2) false]⟩ : St)) (weak_sel [0] (by decide) rfl (by simp only [go_sem, reduceIte, Nat.reduceLT, Nat.reduceEqDiff, Nat.reduceAdd, Nat.reduceBEq, Nat.reduceMul, Nat.reduceSub, Nat.reduceGT, Nat.reducePow, Nat.reduceLeDiff, Int.reduceToNat]) (by simp only [go_sem, reduceIte, Nat.reduceLT, Nat.reduceEqDiff, Nat.reduceAdd, Nat.reduceBEq, Nat.reduceMul, Nat.reduceSub, Nat.reduceGT, Nat.reducePow, Nat.reduceLeDiff, Int.reduceToNat])) ?_
    rintro ⟨t_160, l_161⟩ o_170 h hxx_171
    replace h : codec_appendInt_b1 n_47 k_120 t_160 l_161 = some o_170 := h
    unfold codec_appendInt_b1 at h
    refine run_textE hE [0, 1, 6, 30, 31, 32] (fr' := [(0, .bs false 0 (l_161.length) 0 (l_161.length)), (1, i64 n_47), (6, i64 k_120), (30, i64 k_120), (31, i64 t_160), (32, .bool ((decide (t_160 < k_120))))]) (σ' := [.buf 1 (L cU8 l_161) false]) ⟨_, orcs_nil, ?_⟩ ?_
    · simp only [go_sem, reduceIte, Nat.reduceLT, Nat.reduceEqDiff, Nat.reduceAdd, Nat.reduceBEq, Nat.reduceMul, Nat.reduceSub, Nat.reduceGT, Nat.reducePow, Nat.reduceLeDiff, Int.reduceToNat]
    refine run_seq ?_
    refine run_condL (b := (decide (t_160 < k_120))) rfl (by decide) (fun hb => ?_) (fun hb => ?_)
    · replace h := ite_t h hb
      refine run_skip ?_
      refine thenK_n ?_
      refine run_seq ?_
      refine run_block ?_
      refine run_textE hE [0, 1, 6, 8, 30, 31] (fr' := [(0, .bs false 0 (l_161.length) 0 (l_161.length)), (1, i64 n_47), (6, i64 k_120), (8, i64 t_160), (30, i64 k_120), (31, i64 t_160)]) (σ' := [.buf 1 (L cU8 l_161) false]) ⟨_, orcs_nil, ?_⟩ ?_
      · simp only [go_sem, reduceIte, Nat.reduceLT, Nat.reduceEqDiff, Nat.reduceAdd, Nat.reduceBEq, Nat.reduceMul, Nat.reduceSub, Nat.reduceGT, Nat.reducePow, Nat.reduceLeDiff, Int.reduceToNat]
      replace h := chk_some h; obtain ⟨hc_172, h⟩ := h
      replace h := chk_some h; obtain ⟨hc_173, h⟩ := h
      replace h := lt1_some h; obtain ⟨l_174, hz_175, h⟩ := h
      refine run_textE0 hE (wk_block wk_then) [0, 1, 6, 30, 31] (fr' := [(0, .bs false 0 (l_174.length) 0 (l_174.length)), (1, i64 n_47), (6, i64 k_120), (30, i64 k_120), (31, i64 t_160)]) (σ' := [.buf 1 (L cU8 l_174) false, .buf 1 (L cU8 (([((shr64 ((UInt64.ofInt n_47)) (((w64 (8 * (w64 ((w64 (k_120 - 1)) - t_160))))).toNat))).toUInt8] : List UInt8))) false]) ⟨_, orcs_nil, ?_⟩ ?_
      · subst hz_175; simp only [go_sem, reduceIte, Nat.reduceLT, Nat.reduceEqDiff, Nat.reduceAdd, Nat.reduceBEq, Nat.reduceMul, Nat.reduceSub, Nat.reduceGT, Nat.reducePow, Nat.reduceLeDiff, Int.reduceToNat, hc_172, hc_173]
      refine blockK_n ?_
      refine thenK_n ?_
      refine run_textE0 hE wk_lp [0, 1, 6, 30, 31] (fr' := [(0, .bs false 0 (l_174.length) 0 (l_174.length)), (1, i64 n_47), (6, i64 k_120), (30, i64 k_120), (31, i64 ((w64 (t_160 + 1))))]) (σ' := [.buf 1 (L cU8 l_174) false, .buf 1 (L cU8 (([((shr64 ((UInt64.ofInt n_47)) (((w64 (8 * (w64 ((w64 (k_120 - 1)) - t_160))))).toNat))).toUInt8] : List UInt8))) false]) ⟨_, orcs_nil, ?_⟩ ?_
      · simp only [go_sem, reduceIte, Nat.reduceLT, Nat.reduceEqDiff, Nat.reduceAdd, Nat.reduceBEq, Nat.reduceMul, Nat.reduceSub, Nat.reduceGT, Nat.reducePow, Nat.reduceLeDiff, Int.reduceToNat]
      obtain rfl := Option.some.inj h
      exact lpK_n (((w64 (t_160 + 1)), l_174)) rfl (weak_sel [0] (by decide) rfl (by simp only [go_sem, reduceIte, Nat.reduceLT, Nat.reduceEqDiff, Nat.reduceAdd, Nat.reduceBEq, Nat.reduceMul, Nat.reduceSub, Nat.reduceGT, Nat.reducePow, Nat.reduceLeDiff, Int.reduceToNat]) (by simp only [go_sem, reduceIte, Nat.reduceLT, Nat.reduceEqDiff, Nat.reduceAdd, Nat.reduceBEq, Nat.reduceMul, Nat.reduceSub, Nat.reduceGT, Nat.reducePow, Nat.reduceLeDiff, Int.reduceToNat]))
    · replace h := ite_f h hb
      refine run_exit ?_
      refine thenK_x ?_
      obtain rfl := Option.some.inj h
      have ex_x_167 := hxx_171 _ rfl
      subst ex_x_167
      have h := hj_169; clear hj_169
      refine lpK_x ?_
      refine blockK_x ?_
      obtain rfl := Option.some.inj h
      exact joinK_n l_161 rfl ((weak_sel (l' := [(0, .bs false 0 (l_161.length) 0 (l_161.length))]) (σ' := [.buf 1 (L cU8 l_161) false]) [0] (by decide) rfl (by simp only [go_sem, reduceIte, Nat.reduceLT, Nat.reduceEqDiff, Nat.reduceAdd, Nat.reduceBEq, Nat.reduceMul, Nat.reduceSub, Nat.reduceGT, Nat.reducePow, Nat.reduceLeDiff, Int.reduceToNat]) (by simp only [go_sem, reduceIte, Nat.reduceLT, Nat.reduceEqDiff, Nat.reduceAdd, Nat.reduceBEq, Nat.reduceMul, Nat.reduceSub, Nat.reduceGT, Nat.reducePow, Nat.reduceLeDiff, Int.reduceToNat])).trans (weak_sel [0] (by decide) rfl (by simp only [go_sem, reduceIte, Nat.reduceLT, Nat.reduceEqDiff, Nat.reduceAdd, Nat.reduceBEq, Nat.reduceMul, Nat.reduceSub, Nat.reduceGT, Nat.reducePow, Nat.reduceLeDiff, Int.reduceToNat]) (by simp only [go_sem, reduceIte, Nat.reduceLT, Nat.reduceEqDiff, Nat.reduceAdd, Nat.reduceBEq, Nat.reduceMul, Nat.reduceSub, Nat.reduceGT, Nat.reducePow, Nat.reduceLeDiff, Int.reduceToNat])))
  rintro l_152 rfl
  have h := hj_155; clear hj_155
  refine run_textE hE [4] (fr' := [(4, .bs false 0 (l_152.length) 0 (l_152.length))]) (σ' := [.buf 1 (L cU8 l_152) false]) ⟨_, orcs_nil, ?_⟩ ?_
  · simp only [go_sem, reduceIte, Nat.reduceLT, Nat.reduceEqDiff, Nat.reduceAdd, Nat.reduceBEq, Nat.reduceMul, Nat.reduceSub, Nat.reduceGT, Nat.reducePow, Nat.reduceLeDiff, Int.reduceToNat]
  refine run_ret ?_
  obtain rfl := Option.some.inj h
  refine ret_own (.inr rfl) [0] (by decide) rfl ?_ ?_
  · simp only [go_sem, reduceIte, Nat.reduceLT, Nat.reduceEqDiff, Nat.reduceAdd, Nat.reduceBEq, Nat.reduceMul, Nat.reduceSub, Nat.reduceGT, Nat.reducePow, Nat.reduceLeDiff, Int.reduceToNat]
  · simp only [go_sem, reduceIte, Nat.reduceLT, Nat.reduceEqDiff, Nat.reduceAdd, Nat.reduceBEq, Nat.reduceMul, Nat.reduceSub, Nat.reduceGT, Nat.reducePow, Nat.reduceLeDiff, Int.reduceToNat]

end Go.Proofs.YtgdiabbgiiemcaaDoor
