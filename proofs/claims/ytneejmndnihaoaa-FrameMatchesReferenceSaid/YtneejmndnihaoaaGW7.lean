/-
  The functions compute just that.
-/
import Derived.Test.YtneejmndnihaoaaGW6
import Derived.KernelRfl
namespace Go.Proofs.Ytneejmndnihaoaa
open Go.Rv
set_option linter.unusedVariables false
set_option linter.unusedSimpArgs false

theorem law10_FrameRoundTrip_con {l_3792 : List (List UInt8)} {r : Bool} (h : law10_FrameRoundTrip l_3792 = some r) : Con B 5 [.sl false (L (cSl cU8) l_3792)] [] (fun r' σ' => r' = .bool r ∧ σ' = []) := by
  refine con_walk (N := 73) (rs := [.tmp 2]) ok Try.func5 rfl (by decide +kernel) rfl rfl (Nat.le_of_ble_eq_true rfl) (fun F => ?_)
  have hE := ok.env F
  unfold law10_FrameRoundTrip at h
  show Run (B.env F) 0 _ ⟨asFr 73 [(0, .sl false (L (cSl cU8) l_3792))], []⟩ _
  refine run_textE hE [0] (fr' := [(0, .sl false (L (cSl cU8) l_3792))]) (σ' := []) ⟨_, orcs_nil, ?_⟩ ?_
  · simp only [go_sem, reduceIte, Nat.reduceLT, Nat.reduceEqDiff, Nat.reduceAdd, Nat.reduceBEq, Nat.reduceMul, Nat.reduceSub, Nat.reduceGT, Nat.reducePow, Nat.reduceLeDiff, Int.reduceToNat]
  refine run_seq ?_
  replace h := bind_some1 h; obtain ⟨y_3793, hy_3794, h⟩ := h
  refine run_textE hE [0, 10] (fr' := [(0, .sl false (L (cSl cU8) l_3792)), (10, .bool ((!y_3793)))]) (σ' := []) ⟨_, orcs_ok (l := [(9, 10, [], .bool y_3793)]) ⟨law10_sane_con hy_3794, trivial⟩, ?_⟩ ?_
  · simp only [go_sem, reduceIte, Nat.reduceLT, Nat.reduceEqDiff, Nat.reduceAdd, Nat.reduceBEq, Nat.reduceMul, Nat.reduceSub, Nat.reduceGT, Nat.reducePow, Nat.reduceLeDiff, Int.reduceToNat]
  refine run_condL (b := (!y_3793)) rfl (by decide) (fun hb => ?_) (fun hb => ?_)
  · replace h := ite_t h hb
    refine run_textE hE [2] (fr' := [(2, .bool false)]) (σ' := []) ⟨_, orcs_nil, ?_⟩ ?_
    · simp only [go_sem, reduceIte, Nat.reduceLT, Nat.reduceEqDiff, Nat.reduceAdd, Nat.reduceBEq, Nat.reduceMul, Nat.reduceSub, Nat.reduceGT, Nat.reducePow, Nat.reduceLeDiff, Int.reduceToNat]
    refine run_ret ?_
    refine thenK_r ?_
    obtain rfl := Option.some.inj h
    refine ret_ok (.inr rfl) ?_
    simp only [go_sem, reduceIte, Nat.reduceLT, Nat.reduceEqDiff, Nat.reduceAdd, Nat.reduceBEq, Nat.reduceMul, Nat.reduceSub, Nat.reduceGT, Nat.reducePow, Nat.reduceLeDiff, Int.reduceToNat]
  · replace h := ite_f h hb
    refine run_skip ?_
    refine thenK_n ?_
    replace h := lt1_some h; obtain ⟨l_3795, hz_3796, h⟩ := h
    refine run_textE hE [0, 3] (fr' := [(0, .sl false (L (cSl cU8) l_3792)), (3, .bs true 0 (l_3795.length) 0 (l_3795.length))]) (σ' := [.buf 1 (L cU8 l_3795) false]) ⟨_, orcs_nil, ?_⟩ ?_
    · subst hz_3796; simp only [go_sem, reduceIte, Nat.reduceLT, Nat.reduceEqDiff, Nat.reduceAdd, Nat.reduceBEq, Nat.reduceMul, Nat.reduceSub, Nat.reduceGT, Nat.reducePow, Nat.reduceLeDiff, Int.reduceToNat]
    replace h := lt1_some h; obtain ⟨l_3797, hz_3798, h⟩ := h
    refine run_textE hE [0, 3, 4] (fr' := [(0, .sl false (L (cSl cU8) l_3792)), (3, .bs true 0 (l_3795.length) 0 (l_3795.length)), (4, .bs true 1 (l_3797.length) 0 (l_3797.length))]) (σ' := [.buf 1 (L cU8 l_3795) false, .buf 1 (L cU8 l_3797) false]) ⟨_, orcs_nil, ?_⟩ ?_
    · subst hz_3798; simp only [go_sem, reduceIte, Nat.reduceLT, Nat.reduceEqDiff, Nat.reduceAdd, Nat.reduceBEq, Nat.reduceMul, Nat.reduceSub, Nat.reduceGT, Nat.reducePow, Nat.reduceLeDiff, Int.reduceToNat]
    replace h := lt1_some h; obtain ⟨l_3799, hz_3800, h⟩ := h
    refine run_textE hE [0, 3, 4, 5] (fr' := [(0, .sl false (L (cSl cU8) l_3792)), (3, .bs true 0 (l_3795.length) 0 (l_3795.length)), (4, .bs true 1 (l_3797.length) 0 (l_3797.length)), (5, .bs true 2 (l_3799.length) 0 (l_3799.length))]) (σ' := [.buf 1 (L cU8 l_3795) false, .buf 1 (L cU8 l_3797) false, .buf 1 (L (cSl cU8) l_3799) false]) ⟨_, orcs_nil, ?_⟩ ?_
    · subst hz_3800; simp only [go_sem, reduceIte, Nat.reduceLT, Nat.reduceEqDiff, Nat.reduceAdd, Nat.reduceBEq, Nat.reduceMul, Nat.reduceSub, Nat.reduceGT, Nat.reducePow, Nat.reduceLeDiff, Int.reduceToNat]
    replace h := bind_some1 h; obtain ⟨j_3996, hA_3997, hj_3998⟩ := h
    refine run_join (fun (v : List UInt8 × List UInt8 × List (List UInt8)) => (⟨asFr 73 [(3, .bs false 0 (v.1.length) 0 (v.1.length)), (4, .bs false 1 (v.2.1.length) 0 (v.2.1.length)), (5, .bs false 2 (v.2.2.length) 0 (v.2.2.length))], [.buf 1 (L cU8 v.1) false, .buf 1 (L cU8 v.2.1) false, .buf 1 (L (cSl cU8) v.2.2) false]⟩ : St)) (fun v => .inl v = j_3996) ?_ ?_
    · have h := hA_3997; clear hA_3997
      refine run_textE hE [0, 3, 4, 5, 6] (fr' := [(0, .sl false (L (cSl cU8) l_3792)), (3, .bs true 0 (l_3795.length) 0 (l_3795.length)), (4, .bs true 1 (l_3797.length) 0 (l_3797.length)), (5, .bs true 2 (l_3799.length) 0 (l_3799.length)), (6, i64 0)]) (σ' := [.buf 1 (L cU8 l_3795) false, .buf 1 (L cU8 l_3797) false, .buf 1 (L (cSl cU8) l_3799) false]) ⟨_, orcs_nil, ?_⟩ ?_
      · simp only [go_sem, reduceIte, Nat.reduceLT, Nat.reduceEqDiff, Nat.reduceAdd, Nat.reduceBEq, Nat.reduceMul, Nat.reduceSub, Nat.reduceGT, Nat.reducePow, Nat.reduceLeDiff, Int.reduceToNat]
      refine run_block ?_
      replace h := bind_some1 h; obtain ⟨x_4126, hx_4127, hj_4128⟩ := h
      refine run_loopO hx_4127 (fun (v : Int × List UInt8 × List UInt8 × List (List UInt8)) => (⟨asFr 73 [(0, .sl false (L (cSl cU8) l_3792)), (3, .bs false 0 (v.2.1.length) 0 (v.2.1.length)), (4, .bs false 1 (v.2.2.1.length) 0 (v.2.2.1.length)), (5, .bs false 2 (v.2.2.2.length) 0 (v.2.2.2.length)), (6, i64 v.1)], [.buf 1 (L cU8 v.2.1) false, .buf 1 (L cU8 v.2.2.1) false, .buf 1 (L (cSl cU8) v.2.2.2) false]⟩ : St)) (weak_sel [0, 1, 2] (by decide) rfl (by simp only [go_sem, reduceIte, Nat.reduceLT, Nat.reduceEqDiff, Nat.reduceAdd, Nat.reduceBEq, Nat.reduceMul, Nat.reduceSub, Nat.reduceGT, Nat.reducePow, Nat.reduceLeDiff, Int.reduceToNat]) (by simp only [go_sem, reduceIte, Nat.reduceLT, Nat.reduceEqDiff, Nat.reduceAdd, Nat.reduceBEq, Nat.reduceMul, Nat.reduceSub, Nat.reduceGT, Nat.reducePow, Nat.reduceLeDiff, Int.reduceToNat])) ?_
      rintro ⟨i_4059, l_4060, l_4061, l_4062⟩ o_4129 h hxx_4130
      replace h : law10_FrameRoundTrip_b1 l_3792 i_4059 l_4060 l_4061 l_4062 = some o_4129 := h
      unfold law10_FrameRoundTrip_b1 at h
      refine run_seq ?_
      refine run_textE hE [0, 3, 4, 5, 6, 17] (fr' := [(0, .sl false (L (cSl cU8) l_3792)), (3, .bs false 0 (l_4060.length) 0 (l_4060.length)), (4, .bs false 1 (l_4061.length) 0 (l_4061.length)), (5, .bs false 2 (l_4062.length) 0 (l_4062.length)), (6, i64 i_4059), (17, .bool ((decide (i_4059 < (l_3792.length : Int)))))]) (σ' := [.buf 1 (L cU8 l_4060) false, .buf 1 (L cU8 l_4061) false, .buf 1 (L (cSl cU8) l_4062) false]) ⟨_, orcs_nil, ?_⟩ ?_
      · simp only [go_sem, reduceIte, Nat.reduceLT, Nat.reduceEqDiff, Nat.reduceAdd, Nat.reduceBEq, Nat.reduceMul, Nat.reduceSub, Nat.reduceGT, Nat.reducePow, Nat.reduceLeDiff, Int.reduceToNat]
      refine run_condL (b := (decide (i_4059 < (l_3792.length : Int)))) rfl (by decide) (fun hb => ?_) (fun hb => ?_)
      · replace h := ite_t h hb
        refine run_skip ?_
        refine thenK_n ?_
        replace h := bind_some1 h; obtain ⟨j_4161, hA_4162, hj_4163⟩ := h
        refine run_join (fun (v : List UInt8 × List UInt8 × List (List UInt8)) => (⟨asFr 73 [(0, .sl false (L (cSl cU8) l_3792)), (3, .bs false 0 (v.1.length) 0 (v.1.length)), (4, .bs false 1 (v.2.1.length) 0 (v.2.1.length)), (5, .bs false 2 (v.2.2.length) 0 (v.2.2.length)), (6, i64 i_4059)], [.buf 1 (L cU8 v.1) false, .buf 1 (L cU8 v.2.1) false, .buf 1 (L (cSl cU8) v.2.2) false]⟩ : St)) (fun v => .inl v = j_4161) ?_ ?_
        · have h := hA_4162; clear hA_4162
          refine run_block ?_
          replace h := chk_some h; obtain ⟨hc_4165, h⟩ := h
          replace h := bind_some1 h; obtain ⟨y_4164, hy_4166, h⟩ := h
          refine run_textE hE [0, 3, 4, 5, 6, 7, 8] (fr' := [(0, .sl false (L (cSl cU8) l_3792)), (3, .bs false 0 (l_4060.length) 0 (l_4060.length)), (4, .bs false 1 (l_4061.length) 0 (l_4061.length)), (5, .bs false 2 (l_4062.length) 0 (l_4062.length)), (6, i64 i_4059), (7, .sl false (L cU8 y_4164.1)), (8, i64 y_4164.2)]) (σ' := [.buf 1 (L cU8 l_4060) false, .buf 1 (L cU8 l_4061) false, .buf 1 (L (cSl cU8) l_4062) false]) ⟨_, orcs_ok (l := [(25, 11, [.sl false (L cU8 (nth l_3792 i_4059.toNat))], .tup [.sl false (L cU8 y_4164.1), i64 y_4164.2])]) ⟨frame_Make_con hy_4166, trivial⟩, ?_⟩ ?_
          · simp only [go_sem, reduceIte, Nat.reduceLT, Nat.reduceEqDiff, Nat.reduceAdd, Nat.reduceBEq, Nat.reduceMul, Nat.reduceSub, Nat.reduceGT, Nat.reducePow, Nat.reduceLeDiff, Int.reduceToNat, hc_4165, hc_4165.2, lt_le hc_4165.2]
          refine run_seq ?_
          replace h := chk_some h; obtain ⟨hc_4167, h⟩ := h
          refine run_textE hE [0, 3, 4, 5, 6, 7, 8, 33] (fr' := [(0, .sl false (L (cSl cU8) l_3792)), (3, .bs false 0 (l_4060.length) 0 (l_4060.length)), (4, .bs false 1 (l_4061.length) 0 (l_4061.length)), (5, .bs false 2 (l_4062.length) 0 (l_4062.length)), (6, i64 i_4059), (7, .sl false (L cU8 y_4164.1)), (8, i64 y_4164.2), (33, .bool ((decide (((nth l_3792 i_4059.toNat).length : Int) > 8192))))]) (σ' := [.buf 1 (L cU8 l_4060) false, .buf 1 (L cU8 l_4061) false, .buf 1 (L (cSl cU8) l_4062) false]) ⟨_, orcs_nil, ?_⟩ ?_
          · simp only [go_sem, reduceIte, Nat.reduceLT, Nat.reduceEqDiff, Nat.reduceAdd, Nat.reduceBEq, Nat.reduceMul, Nat.reduceSub, Nat.reduceGT, Nat.reducePow, Nat.reduceLeDiff, Int.reduceToNat, hc_4167, hc_4167.2, lt_le hc_4167.2]
          refine run_condL (b := (decide (((nth l_3792 i_4059.toNat).length : Int) > 8192))) rfl (by decide) (fun hb => ?_) (fun hb => ?_)
          · replace h := ite_t h hb
            refine run_seq ?_
            replace h := bind_some1 h; obtain ⟨t_4168, hv_4169, h⟩ := h
            refine run_textW hE [0, 3, 4, 5, 6, 40] (fr' := [(0, .sl false (L (cSl cU8) l_3792)), (3, .bs false 0 (l_4060.length) 0 (l_4060.length)), (4, .bs false 1 (l_4061.length) 0 (l_4061.length)), (5, .bs false 2 (l_4062.length) 0 (l_4062.length)), (6, i64 i_4059), (40, .bool t_4168)]) (σ' := [.buf 1 (L cU8 l_4060) false, .buf 1 (L cU8 l_4061) false, .buf 1 (L (cSl cU8) l_4062) false]) ?_ ?_
            · rcases Bool.eq_false_or_eq_true ((y_4164.2 != 2)) with hb_4170 | hb_4170
              · replace hv_4169 := ite_t hv_4169 hb_4170
                have e_hv_4169 := Option.some.inj hv_4169; subst e_hv_4169
                exact ⟨_, [(0, .sl false (L (cSl cU8) l_3792)), (3, .bs false 0 (l_4060.length) 0 (l_4060.length)), (4, .bs false 1 (l_4061.length) 0 (l_4061.length)), (5, .bs false 2 (l_4062.length) 0 (l_4062.length)), (6, i64 i_4059), (40, .bool true)], [.buf 1 (L cU8 l_4060) false, .buf 1 (L cU8 l_4061) false, .buf 1 (L (cSl cU8) l_4062) false], orcs_nil, by simp only [go_sem, reduceIte, Nat.reduceLT, Nat.reduceEqDiff, Nat.reduceAdd, Nat.reduceBEq, Nat.reduceMul, Nat.reduceSub, Nat.reduceGT, Nat.reducePow, Nat.reduceLeDiff, Int.reduceToNat, hb_4170], (weak_sel [0, 1, 2] (by decide) rfl (by simp only [go_sem, reduceIte, Nat.reduceLT, Nat.reduceEqDiff, Nat.reduceAdd, Nat.reduceBEq, Nat.reduceMul, Nat.reduceSub, Nat.reduceGT, Nat.reducePow, Nat.reduceLeDiff, Int.reduceToNat]) (by simp only [go_sem, reduceIte, Nat.reduceLT, Nat.reduceEqDiff, Nat.reduceAdd, Nat.reduceBEq, Nat.reduceMul, Nat.reduceSub, Nat.reduceGT, Nat.reducePow, Nat.reduceLeDiff, Int.reduceToNat]))⟩
              · replace hv_4169 := ite_f hv_4169 hb_4170
                have e_hv_4169 := Option.some.inj hv_4169; subst e_hv_4169
                exact ⟨_, [(0, .sl false (L (cSl cU8) l_3792)), (3, .bs false 0 (l_4060.length) 0 (l_4060.length)), (4, .bs false 1 (l_4061.length) 0 (l_4061.length)), (5, .bs false 2 (l_4062.length) 0 (l_4062.length)), (6, i64 i_4059), (40, .bool ((decide ((y_4164.1.length : Int) > 0))))], [.buf 1 (L cU8 l_4060) false, .buf 1 (L cU8 l_4061) false, .buf 1 (L (cSl cU8) l_4062) false], orcs_nil, by simp only [go_sem, reduceIte, Nat.reduceLT, Nat.reduceEqDiff, Nat.reduceAdd, Nat.reduceBEq, Nat.reduceMul, Nat.reduceSub, Nat.reduceGT, Nat.reducePow, Nat.reduceLeDiff, Int.reduceToNat, hb_4170], (weak_sel [0, 1, 2] (by decide) rfl (by simp only [go_sem, reduceIte, Nat.reduceLT, Nat.reduceEqDiff, Nat.reduceAdd, Nat.reduceBEq, Nat.reduceMul, Nat.reduceSub, Nat.reduceGT, Nat.reducePow, Nat.reduceLeDiff, Int.reduceToNat]) (by simp only [go_sem, reduceIte, Nat.reduceLT, Nat.reduceEqDiff, Nat.reduceAdd, Nat.reduceBEq, Nat.reduceMul, Nat.reduceSub, Nat.reduceGT, Nat.reducePow, Nat.reduceLeDiff, Int.reduceToNat]))⟩
            refine run_condL (b := t_4168) rfl (by decide) (fun hb => ?_) (fun hb => ?_)
            · replace h := ite_t h hb
              refine run_textE hE [2] (fr' := [(2, .bool false)]) (σ' := [.buf 1 (L cU8 l_4060) false, .buf 1 (L cU8 l_4061) false, .buf 1 (L (cSl cU8) l_4062) false]) ⟨_, orcs_nil, ?_⟩ ?_
              · simp only [go_sem, reduceIte, Nat.reduceLT, Nat.reduceEqDiff, Nat.reduceAdd, Nat.reduceBEq, Nat.reduceMul, Nat.reduceSub, Nat.reduceGT, Nat.reducePow, Nat.reduceLeDiff, Int.reduceToNat]
              refine run_ret ?_
              refine thenK_r ?_
              refine thenK_r ?_
              refine blockK_r ?_
              refine joinK_r ?_
              replace h := bind_some1 h; obtain ⟨z_4173, h, e_z_4173⟩ := h
              obtain rfl := Option.some.inj e_z_4173
              obtain rfl := Option.some.inj hj_4163
              refine lpK_r ?_
              replace h := bind_some1 h; obtain ⟨z_4172, h, e_z_4172⟩ := h
              obtain rfl := Option.some.inj e_z_4172
              have ex_z_4172 := hxx_4130 _ rfl
              subst ex_z_4172
              obtain rfl := Option.some.inj hj_4128
              refine blockK_r ?_
              refine joinK_r ?_
              replace h := bind_some1 h; obtain ⟨z_4171, h, e_z_4171⟩ := h
              obtain rfl := Option.some.inj e_z_4171
              obtain rfl := Option.some.inj hj_3998
              obtain rfl := Option.some.inj h
              refine ret_ok (.inr rfl) ?_
              simp only [go_sem, reduceIte, Nat.reduceLT, Nat.reduceEqDiff, Nat.reduceAdd, Nat.reduceBEq, Nat.reduceMul, Nat.reduceSub, Nat.reduceGT, Nat.reducePow, Nat.reduceLeDiff, Int.reduceToNat]
            · replace h := ite_f h hb
              refine run_skip ?_
              refine thenK_n ?_
              refine run_exit ?_
              refine thenK_x ?_
              refine blockK_x ?_
              obtain rfl := Option.some.inj h
              exact joinK_n ((l_4060, l_4061, l_4062)) rfl (weak_sel [0, 1, 2] (by decide) rfl (by simp only [go_sem, reduceIte, Nat.reduceLT, Nat.reduceEqDiff, Nat.reduceAdd, Nat.reduceBEq, Nat.reduceMul, Nat.reduceSub, Nat.reduceGT, Nat.reducePow, Nat.reduceLeDiff, Int.reduceToNat]) (by simp only [go_sem, reduceIte, Nat.reduceLT, Nat.reduceEqDiff, Nat.reduceAdd, Nat.reduceBEq, Nat.reduceMul, Nat.reduceSub, Nat.reduceGT, Nat.reducePow, Nat.reduceLeDiff, Int.reduceToNat]))
          · replace h := ite_f h hb
            refine run_skip ?_
            refine thenK_n ?_
            refine run_seq ?_
            replace h := bind_some1 h; obtain ⟨t_4174, hv_4175, h⟩ := h
            refine run_textW hE [0, 3, 4, 5, 6, 7, 47] (fr' := [(0, .sl false (L (cSl cU8) l_3792)), (3, .bs false 0 (l_4060.length) 0 (l_4060.length)), (4, .bs false 1 (l_4061.length) 0 (l_4061.length)), (5, .bs false 2 (l_4062.length) 0 (l_4062.length)), (6, i64 i_4059), (7, .sl false (L cU8 y_4164.1)), (47, .bool t_4174)]) (σ' := [.buf 1 (L cU8 l_4060) false, .buf 1 (L cU8 l_4061) false, .buf 1 (L (cSl cU8) l_4062) false]) ?_ ?_
            · rcases Bool.eq_false_or_eq_true ((y_4164.2 != 0)) with hb_4176 | hb_4176
              · replace hv_4175 := ite_t hv_4175 hb_4176
                have e_hv_4175 := Option.some.inj hv_4175; subst e_hv_4175
                exact ⟨_, [(0, .sl false (L (cSl cU8) l_3792)), (3, .bs false 0 (l_4060.length) 0 (l_4060.length)), (4, .bs false 1 (l_4061.length) 0 (l_4061.length)), (5, .bs false 2 (l_4062.length) 0 (l_4062.length)), (6, i64 i_4059), (7, .sl false (L cU8 y_4164.1)), (47, .bool true)], [.buf 1 (L cU8 l_4060) false, .buf 1 (L cU8 l_4061) false, .buf 1 (L (cSl cU8) l_4062) false], orcs_nil, by simp only [go_sem, reduceIte, Nat.reduceLT, Nat.reduceEqDiff, Nat.reduceAdd, Nat.reduceBEq, Nat.reduceMul, Nat.reduceSub, Nat.reduceGT, Nat.reducePow, Nat.reduceLeDiff, Int.reduceToNat, hb_4176], (weak_sel [0, 1, 2] (by decide) rfl (by simp only [go_sem, reduceIte, Nat.reduceLT, Nat.reduceEqDiff, Nat.reduceAdd, Nat.reduceBEq, Nat.reduceMul, Nat.reduceSub, Nat.reduceGT, Nat.reducePow, Nat.reduceLeDiff, Int.reduceToNat]) (by simp only [go_sem, reduceIte, Nat.reduceLT, Nat.reduceEqDiff, Nat.reduceAdd, Nat.reduceBEq, Nat.reduceMul, Nat.reduceSub, Nat.reduceGT, Nat.reducePow, Nat.reduceLeDiff, Int.reduceToNat]))⟩
              · replace hv_4175 := ite_f hv_4175 hb_4176
                have e_hv_4175 := Option.some.inj hv_4175; subst e_hv_4175
                exact ⟨_, [(0, .sl false (L (cSl cU8) l_3792)), (3, .bs false 0 (l_4060.length) 0 (l_4060.length)), (4, .bs false 1 (l_4061.length) 0 (l_4061.length)), (5, .bs false 2 (l_4062.length) 0 (l_4062.length)), (6, i64 i_4059), (7, .sl false (L cU8 y_4164.1)), (47, .bool ((decide ((y_4164.1.length : Int) < 2))))], [.buf 1 (L cU8 l_4060) false, .buf 1 (L cU8 l_4061) false, .buf 1 (L (cSl cU8) l_4062) false], orcs_nil, by simp only [go_sem, reduceIte, Nat.reduceLT, Nat.reduceEqDiff, Nat.reduceAdd, Nat.reduceBEq, Nat.reduceMul, Nat.reduceSub, Nat.reduceGT, Nat.reducePow, Nat.reduceLeDiff, Int.reduceToNat, hb_4176], (weak_sel [0, 1, 2] (by decide) rfl (by simp only [go_sem, reduceIte, Nat.reduceLT, Nat.reduceEqDiff, Nat.reduceAdd, Nat.reduceBEq, Nat.reduceMul, Nat.reduceSub, Nat.reduceGT, Nat.reducePow, Nat.reduceLeDiff, Int.reduceToNat]) (by simp only [go_sem, reduceIte, Nat.reduceLT, Nat.reduceEqDiff, Nat.reduceAdd, Nat.reduceBEq, Nat.reduceMul, Nat.reduceSub, Nat.reduceGT, Nat.reducePow, Nat.reduceLeDiff, Int.reduceToNat]))⟩
            refine run_condL (b := t_4174) rfl (by decide) (fun hb => ?_) (fun hb => ?_)
            · replace h := ite_t h hb
              refine run_textE hE [2] (fr' := [(2, .bool false)]) (σ' := [.buf 1 (L cU8 l_4060) false, .buf 1 (L cU8 l_4061) false, .buf 1 (L (cSl cU8) l_4062) false]) ⟨_, orcs_nil, ?_⟩ ?_
              · simp only [go_sem, reduceIte, Nat.reduceLT, Nat.reduceEqDiff, Nat.reduceAdd, Nat.reduceBEq, Nat.reduceMul, Nat.reduceSub, Nat.reduceGT, Nat.reducePow, Nat.reduceLeDiff, Int.reduceToNat]
              refine run_ret ?_
              refine thenK_r ?_
              refine blockK_r ?_
              refine joinK_r ?_
              replace h := bind_some1 h; obtain ⟨z_4179, h, e_z_4179⟩ := h
              obtain rfl := Option.some.inj e_z_4179
              obtain rfl := Option.some.inj hj_4163
              refine lpK_r ?_
              replace h := bind_some1 h; obtain ⟨z_4178, h, e_z_4178⟩ := h
              obtain rfl := Option.some.inj e_z_4178
              have ex_z_4178 := hxx_4130 _ rfl
              subst ex_z_4178
              obtain rfl := Option.some.inj hj_4128
              refine blockK_r ?_
              refine joinK_r ?_
              replace h := bind_some1 h; obtain ⟨z_4177, h, e_z_4177⟩ := h
              obtain rfl := Option.some.inj e_z_4177
              obtain rfl := Option.some.inj hj_3998
              obtain rfl := Option.some.inj h
              refine ret_ok (.inr rfl) ?_
              simp only [go_sem, reduceIte, Nat.reduceLT, Nat.reduceEqDiff, Nat.reduceAdd, Nat.reduceBEq, Nat.reduceMul, Nat.reduceSub, Nat.reduceGT, Nat.reducePow, Nat.reduceLeDiff, Int.reduceToNat]
            · replace h := ite_f h hb
              refine run_skip ?_
              refine thenK_n ?_
              replace h := chk_some h; obtain ⟨hc_4180, h⟩ := h
              replace h := lt1_some h; obtain ⟨l_4181, hz_4182, h⟩ := h
              refine run_textE hE [0, 3, 4, 5, 6, 7] (fr' := [(0, .sl false (L (cSl cU8) l_3792)), (3, .bs false 0 (l_4181.length) 0 (l_4181.length)), (4, .bs false 1 (l_4061.length) 0 (l_4061.length)), (5, .bs false 2 (l_4062.length) 0 (l_4062.length)), (6, i64 i_4059), (7, .sl false (L cU8 y_4164.1))]) (σ' := [.buf 1 (L cU8 l_4181) false, .buf 1 (L cU8 l_4061) false, .buf 1 (L (cSl cU8) l_4062) false]) ⟨_, orcs_nil, ?_⟩ ?_
              · subst hz_4182; simp only [go_sem, reduceIte, Nat.reduceLT, Nat.reduceEqDiff, Nat.reduceAdd, Nat.reduceBEq, Nat.reduceMul, Nat.reduceSub, Nat.reduceGT, Nat.reducePow, Nat.reduceLeDiff, Int.reduceToNat, hc_4180]
              replace h := chk_some h; obtain ⟨hc_4183, h⟩ := h
              replace h := chk_some h; obtain ⟨hc_4184, h⟩ := h
              replace h := lt1_some h; obtain ⟨l_4185, hz_4186, h⟩ := h
              refine run_textE hE [0, 3, 4, 5, 6] (fr' := [(0, .sl false (L (cSl cU8) l_3792)), (3, .bs false 0 (l_4181.length) 0 (l_4181.length)), (4, .bs false 1 (l_4185.length) 0 (l_4185.length)), (5, .bs false 2 (l_4062.length) 0 (l_4062.length)), (6, i64 i_4059)]) (σ' := [.buf 1 (L cU8 l_4181) false, .buf 1 (L cU8 l_4185) false, .buf 1 (L (cSl cU8) l_4062) false]) ⟨_, orcs_nil, ?_⟩ ?_
              · subst hz_4186; simp only [go_sem, reduceIte, Nat.reduceLT, Nat.reduceEqDiff, Nat.reduceAdd, Nat.reduceBEq, Nat.reduceMul, Nat.reduceSub, Nat.reduceGT, Nat.reducePow, Nat.reduceLeDiff, Int.reduceToNat, hc_4183, hc_4184]
              replace h := chk_some h; obtain ⟨hc_4187, h⟩ := h
              replace h := chk_some h; obtain ⟨hc_4188, h⟩ := h
              replace h := lt1_some h; obtain ⟨l_4189, hz_4190, h⟩ := h
              refine run_textE0 hE (wk_block wk_join) [0, 3, 4, 5, 6] (fr' := [(0, .sl false (L (cSl cU8) l_3792)), (3, .bs false 0 (l_4181.length) 0 (l_4181.length)), (4, .bs false 1 (l_4185.length) 0 (l_4185.length)), (5, .bs false 2 (l_4189.length) 0 (l_4189.length)), (6, i64 i_4059)]) (σ' := [.buf 1 (L cU8 l_4181) false, .buf 1 (L cU8 l_4185) false, .buf 1 (L (cSl cU8) l_4189) false, .buf 1 (L (cSl cU8) (([nth l_3792 i_4059.toNat] : List (List UInt8)))) false]) ⟨_, orcs_nil, ?_⟩ ?_
              · subst hz_4190; simp only [go_sem, reduceIte, Nat.reduceLT, Nat.reduceEqDiff, Nat.reduceAdd, Nat.reduceBEq, Nat.reduceMul, Nat.reduceSub, Nat.reduceGT, Nat.reducePow, Nat.reduceLeDiff, Int.reduceToNat, hc_4187, hc_4187.2, lt_le hc_4187.2, hc_4188]
              refine blockK_n ?_
              obtain rfl := Option.some.inj h
              exact joinK_n ((l_4181, l_4185, l_4189)) rfl (weak_sel [0, 1, 2] (by decide) rfl (by simp only [go_sem, reduceIte, Nat.reduceLT, Nat.reduceEqDiff, Nat.reduceAdd, Nat.reduceBEq, Nat.reduceMul, Nat.reduceSub, Nat.reduceGT, Nat.reducePow, Nat.reduceLeDiff, Int.reduceToNat]) (by simp only [go_sem, reduceIte, Nat.reduceLT, Nat.reduceEqDiff, Nat.reduceAdd, Nat.reduceBEq, Nat.reduceMul, Nat.reduceSub, Nat.reduceGT, Nat.reducePow, Nat.reduceLeDiff, Int.reduceToNat]))
        rintro ⟨l_4158, l_4159, l_4160⟩ rfl
        have h := hj_4163; clear hj_4163
        refine run_textE0 hE wk_lp [0, 3, 4, 5, 6] (fr' := [(0, .sl false (L (cSl cU8) l_3792)), (3, .bs false 0 (l_4158.length) 0 (l_4158.length)), (4, .bs false 1 (l_4159.length) 0 (l_4159.length)), (5, .bs false 2 (l_4160.length) 0 (l_4160.length)), (6, i64 ((w64 (i_4059 + 1))))]) (σ' := [.buf 1 (L cU8 l_4158) false, .buf 1 (L cU8 l_4159) false, .buf 1 (L (cSl cU8) l_4160) false]) ⟨_, orcs_nil, ?_⟩ ?_
        · simp only [go_sem, reduceIte, Nat.reduceLT, Nat.reduceEqDiff, Nat.reduceAdd, Nat.reduceBEq, Nat.reduceMul, Nat.reduceSub, Nat.reduceGT, Nat.reducePow, Nat.reduceLeDiff, Int.reduceToNat]
        obtain rfl := Option.some.inj h
        exact lpK_n (((w64 (i_4059 + 1)), l_4158, l_4159, l_4160)) rfl (weak_sel [0, 1, 2] (by decide) rfl (by simp only [go_sem, reduceIte, Nat.reduceLT, Nat.reduceEqDiff, Nat.reduceAdd, Nat.reduceBEq, Nat.reduceMul, Nat.reduceSub, Nat.reduceGT, Nat.reducePow, Nat.reduceLeDiff, Int.reduceToNat]) (by simp only [go_sem, reduceIte, Nat.reduceLT, Nat.reduceEqDiff, Nat.reduceAdd, Nat.reduceBEq, Nat.reduceMul, Nat.reduceSub, Nat.reduceGT, Nat.reducePow, Nat.reduceLeDiff, Int.reduceToNat]))
      · replace h := ite_f h hb
        refine run_exit ?_
        refine thenK_x ?_
        obtain rfl := Option.some.inj h
        have ex_x_4126 := hxx_4130 _ rfl
        subst ex_x_4126
        have h := hj_4128; clear hj_4128
        refine lpK_x ?_
        refine blockK_x ?_
        obtain rfl := Option.some.inj h
        exact joinK_n ((l_4060, l_4061, l_4062)) rfl ((weak_sel (l' := [(3, .bs false 0 (l_4060.length) 0 (l_4060.length)), (4, .bs false 1 (l_4061.length) 0 (l_4061.length)), (5, .bs false 2 (l_4062.length) 0 (l_4062.length))]) (σ' := [.buf 1 (L cU8 l_4060) false, .buf 1 (L cU8 l_4061) false, .buf 1 (L (cSl cU8) l_4062) false]) [0, 1, 2] (by decide) rfl (by simp only [go_sem, reduceIte, Nat.reduceLT, Nat.reduceEqDiff, Nat.reduceAdd, Nat.reduceBEq, Nat.reduceMul, Nat.reduceSub, Nat.reduceGT, Nat.reducePow, Nat.reduceLeDiff, Int.reduceToNat]) (by simp only [go_sem, reduceIte, Nat.reduceLT, Nat.reduceEqDiff, Nat.reduceAdd, Nat.reduceBEq, Nat.reduceMul, Nat.reduceSub, Nat.reduceGT, Nat.reducePow, Nat.reduceLeDiff, Int.reduceToNat])).trans (weak_sel [0, 1, 2] (by decide) rfl (by simp only [go_sem, reduceIte, Nat.reduceLT, Nat.reduceEqDiff, Nat.reduceAdd, Nat.reduceBEq, Nat.reduceMul, Nat.reduceSub, Nat.reduceGT, Nat.reducePow, Nat.reduceLeDiff, Int.reduceToNat]) (by simp only [go_sem, reduceIte, Nat.reduceLT, Nat.reduceEqDiff, Nat.reduceAdd, Nat.reduceBEq, Nat.reduceMul, Nat.reduceSub, Nat.reduceGT, Nat.reducePow, Nat.reduceLeDiff, Int.reduceToNat])))
    rintro ⟨l_3993, l_3994, l_3995⟩ rfl
    have h := hj_3998; clear hj_3998
    refine run_seq ?_
    refine run_textE hE [3, 4, 5, 64] (fr' := [(3, .bs false 0 (l_3993.length) 0 (l_3993.length)), (4, .bs false 1 (l_3994.length) 0 (l_3994.length)), (5, .bs false 2 (l_3995.length) 0 (l_3995.length)), (64, .bool (((l_3995.length : Int) == 0)))]) (σ' := [.buf 1 (L cU8 l_3993) false, .buf 1 (L cU8 l_3994) false, .buf 1 (L (cSl cU8) l_3995) false]) ⟨_, orcs_nil, ?_⟩ ?_
    · simp only [go_sem, reduceIte, Nat.reduceLT, Nat.reduceEqDiff, Nat.reduceAdd, Nat.reduceBEq, Nat.reduceMul, Nat.reduceSub, Nat.reduceGT, Nat.reducePow, Nat.reduceLeDiff, Int.reduceToNat]
    refine run_condL (b := ((l_3995.length : Int) == 0)) rfl (by decide) (fun hb => ?_) (fun hb => ?_)
    · replace h := ite_t h hb
      refine run_textE hE [2] (fr' := [(2, .bool true)]) (σ' := [.buf 1 (L cU8 l_3993) false, .buf 1 (L cU8 l_3994) false, .buf 1 (L (cSl cU8) l_3995) false]) ⟨_, orcs_nil, ?_⟩ ?_
      · simp only [go_sem, reduceIte, Nat.reduceLT, Nat.reduceEqDiff, Nat.reduceAdd, Nat.reduceBEq, Nat.reduceMul, Nat.reduceSub, Nat.reduceGT, Nat.reducePow, Nat.reduceLeDiff, Int.reduceToNat]
      refine run_ret ?_
      refine thenK_r ?_
      obtain rfl := Option.some.inj h
      refine ret_ok (.inr rfl) ?_
      simp only [go_sem, reduceIte, Nat.reduceLT, Nat.reduceEqDiff, Nat.reduceAdd, Nat.reduceBEq, Nat.reduceMul, Nat.reduceSub, Nat.reduceGT, Nat.reducePow, Nat.reduceLeDiff, Int.reduceToNat]
    · replace h := ite_f h hb
      refine run_skip ?_
      refine thenK_n ?_
      replace h := bind_some1 h; obtain ⟨t_4193, hv_4194, h⟩ := h
      refine run_textW hE [2] (fr' := [(2, .bool t_4193)]) (σ' := []) ?_ ?_
      · replace hv_4194 := bind_some1 hv_4194; obtain ⟨y_4191, hy_4195, hv_4194⟩ := hv_4194
        rcases Bool.eq_false_or_eq_true y_4191 with hb_4196 | hb_4196
        · replace hv_4194 := ite_t hv_4194 hb_4196
          replace hv_4194 := bind_some1 hv_4194; obtain ⟨y_4192, hy_4197, hv_4194⟩ := hv_4194
          have e_hv_4194 := Option.some.inj hv_4194; subst e_hv_4194
          exact ⟨_, [(2, .bool y_4192)], [.buf 1 (L cU8 l_3993) false, .buf 1 (L cU8 l_3994) false, .buf 1 (L (cSl cU8) l_3995) false], orcs_ok (l := [(67, 19, [.sl false (L cU8 l_3993), .sl false (L (cSl cU8) l_3995), i64 0], .bool y_4191), (71, 19, [.sl false (L cU8 l_3994), .sl false (L (cSl cU8) l_3995), i64 0], .bool y_4192)]) ⟨law10_receives_con hy_4195, law10_receives_con hy_4197, trivial⟩, by simp only [go_sem, reduceIte, Nat.reduceLT, Nat.reduceEqDiff, Nat.reduceAdd, Nat.reduceBEq, Nat.reduceMul, Nat.reduceSub, Nat.reduceGT, Nat.reducePow, Nat.reduceLeDiff, Int.reduceToNat, hb_4196], (weak_sel [] (by decide) rfl (by simp only [go_sem, reduceIte, Nat.reduceLT, Nat.reduceEqDiff, Nat.reduceAdd, Nat.reduceBEq, Nat.reduceMul, Nat.reduceSub, Nat.reduceGT, Nat.reducePow, Nat.reduceLeDiff, Int.reduceToNat]) (by simp only [go_sem, reduceIte, Nat.reduceLT, Nat.reduceEqDiff, Nat.reduceAdd, Nat.reduceBEq, Nat.reduceMul, Nat.reduceSub, Nat.reduceGT, Nat.reducePow, Nat.reduceLeDiff, Int.reduceToNat]))⟩
        · replace hv_4194 := ite_f hv_4194 hb_4196
          have e_hv_4194 := Option.some.inj hv_4194; subst e_hv_4194
          exact ⟨_, [(2, .bool false)], [.buf 1 (L cU8 l_3993) false, .buf 1 (L cU8 l_3994) false, .buf 1 (L (cSl cU8) l_3995) false], orcs_ok (l := [(67, 19, [.sl false (L cU8 l_3993), .sl false (L (cSl cU8) l_3995), i64 0], .bool y_4191)]) ⟨law10_receives_con hy_4195, trivial⟩, by simp only [go_sem, reduceIte, Nat.reduceLT, Nat.reduceEqDiff, Nat.reduceAdd, Nat.reduceBEq, Nat.reduceMul, Nat.reduceSub, Nat.reduceGT, Nat.reducePow, Nat.reduceLeDiff, Int.reduceToNat, hb_4196], (weak_sel [] (by decide) rfl (by simp only [go_sem, reduceIte, Nat.reduceLT, Nat.reduceEqDiff, Nat.reduceAdd, Nat.reduceBEq, Nat.reduceMul, Nat.reduceSub, Nat.reduceGT, Nat.reducePow, Nat.reduceLeDiff, Int.reduceToNat]) (by simp only [go_sem, reduceIte, Nat.reduceLT, Nat.reduceEqDiff, Nat.reduceAdd, Nat.reduceBEq, Nat.reduceMul, Nat.reduceSub, Nat.reduceGT, Nat.reducePow, Nat.reduceLeDiff, Int.reduceToNat]))⟩
      refine run_ret ?_
      obtain rfl := Option.some.inj h
      refine ret_ok (.inr rfl) ?_
      simp only [go_sem, reduceIte, Nat.reduceLT, Nat.reduceEqDiff, Nat.reduceAdd, Nat.reduceBEq, Nat.reduceMul, Nat.reduceSub, Nat.reduceGT, Nat.reducePow, Nat.reduceLeDiff, Int.reduceToNat]

end Go.Proofs.Ytneejmndnihaoaa
