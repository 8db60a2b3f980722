/-
  The functions compute just that.
-/
import Derived.Test.YtneejmndnihaoaaGW7
import Derived.KernelRfl
namespace Go.Proofs.Ytneejmndnihaoaa
open Go.Rv
set_option linter.unusedVariables false
set_option linter.unusedSimpArgs false

theorem law10_FrameRoundTrip_con {l_3836 : List (List UInt8)} {r : Bool} (h : law10_FrameRoundTrip l_3836 = some r) : Con B 5 [.sl false (L (cSl cU8) l_3836)] [] (fun r' σ' => r' = .bool r ∧ σ' = []) := by
  refine con_walk (N := 73) (rs := [.tmp 2]) ok Try.func5 rfl (by decide +kernel) rfl rfl (Nat.le_of_ble_eq_true rfl) (fun F => ?_)
  have hE := ok.env F
  unfold law10_FrameRoundTrip at h
  show Run (B.env F) 0 _ ⟨asFr 73 [(0, .sl false (L (cSl cU8) l_3836))], []⟩ _
  refine run_textE hE [0] (fr' := [(0, .sl false (L (cSl cU8) l_3836))]) (σ' := []) ⟨_, orcs_nil, ?_⟩ ?_
  · simp only [go_sem, reduceIte, Nat.reduceLT, Nat.reduceEqDiff, Nat.reduceAdd, Nat.reduceBEq, Nat.reduceMul, Nat.reduceSub, Nat.reduceGT, Nat.reducePow, Nat.reduceLeDiff, Int.reduceToNat]
  refine run_seq ?_
  replace h := bind_some1 h; obtain ⟨y_3837, hy_3838, h⟩ := h
  refine run_textE hE [0, 10] (fr' := [(0, .sl false (L (cSl cU8) l_3836)), (10, .bool ((!y_3837)))]) (σ' := []) ⟨_, orcs_ok (l := [(9, 10, [], .bool y_3837)]) ⟨law10_sane_con hy_3838, trivial⟩, ?_⟩ ?_
  · simp only [go_sem, reduceIte, Nat.reduceLT, Nat.reduceEqDiff, Nat.reduceAdd, Nat.reduceBEq, Nat.reduceMul, Nat.reduceSub, Nat.reduceGT, Nat.reducePow, Nat.reduceLeDiff, Int.reduceToNat]
  refine run_condL (b := (!y_3837)) rfl (by decide) (fun hb => ?_) (fun hb => ?_)
  · replace h := ite_t h hb
    refine run_textE hE [2] (fr' := [(2, .bool false)]) (σ' := []) ⟨_, orcs_nil, ?_⟩ ?_
    · simp only [go_sem, reduceIte, Nat.reduceLT, Nat.reduceEqDiff, Nat.reduceAdd, Nat.reduceBEq, Nat.reduceMul, Nat.reduceSub, Nat.reduceGT, Nat.reducePow, Nat.reduceLeDiff, Int.reduceToNat]
    refine run_ret ?_
    refine thenK_r ?_
    obtain rfl := Option.some.inj h
    refine ret_ok (.inr rfl) ?_
    simp only [go_sem, reduceIte, Nat.reduceLT, Nat.reduceEqDiff, Nat.reduceAdd, Nat.reduceBEq, Nat.reduceMul, Nat.reduceSub, Nat.reduceGT, Nat.reducePow, Nat.reduceLeDiff, Int.reduceToNat]
  · replace h := ite_f h hb
    refine run_skip ?_
    refine thenK_n ?_
    replace h := lt1_some h; obtain ⟨l_3839, hz_3840, h⟩ := h
    refine run_textE hE [0, 3] (fr' := [(0, .sl false (L (cSl cU8) l_3836)), (3, .bs true 0 (l_3839.length) 0 (l_3839.length))]) (σ' := [.buf 1 (L cU8 l_3839) false]) ⟨_, orcs_nil, ?_⟩ ?_
    · subst hz_3840; simp only [go_sem, reduceIte, Nat.reduceLT, Nat.reduceEqDiff, Nat.reduceAdd, Nat.reduceBEq, Nat.reduceMul, Nat.reduceSub, Nat.reduceGT, Nat.reducePow, Nat.reduceLeDiff, Int.reduceToNat]
    replace h := lt1_some h; obtain ⟨l_3841, hz_3842, h⟩ := h
    refine run_textE hE [0, 3, 4] (fr' := [(0, .sl false (L (cSl cU8) l_3836)), (3, .bs true 0 (l_3839.length) 0 (l_3839.length)), (4, .bs true 1 (l_3841.length) 0 (l_3841.length))]) (σ' := [.buf 1 (L cU8 l_3839) false, .buf 1 (L cU8 l_3841) false]) ⟨_, orcs_nil, ?_⟩ ?_
    · subst hz_3842; simp only [go_sem, reduceIte, Nat.reduceLT, Nat.reduceEqDiff, Nat.reduceAdd, Nat.reduceBEq, Nat.reduceMul, Nat.reduceSub, Nat.reduceGT, Nat.reducePow, Nat.reduceLeDiff, Int.reduceToNat]
    replace h := lt1_some h; obtain ⟨l_3843, hz_3844, h⟩ := h
    refine run_textE hE [0, 3, 4, 5] (fr' := [(0, .sl false (L (cSl cU8) l_3836)), (3, .bs true 0 (l_3839.length) 0 (l_3839.length)), (4, .bs true 1 (l_3841.length) 0 (l_3841.length)), (5, .bs true 2 (l_3843.length) 0 (l_3843.length))]) (σ' := [.buf 1 (L cU8 l_3839) false, .buf 1 (L cU8 l_3841) false, .buf 1 (L (cSl cU8) l_3843) false]) ⟨_, orcs_nil, ?_⟩ ?_
    · subst hz_3844; simp only [go_sem, reduceIte, Nat.reduceLT, Nat.reduceEqDiff, Nat.reduceAdd, Nat.reduceBEq, Nat.reduceMul, Nat.reduceSub, Nat.reduceGT, Nat.reducePow, Nat.reduceLeDiff, Int.reduceToNat]
    replace h := bind_some1 h; obtain ⟨j_4040, hA_4041, hj_4042⟩ := h
    refine run_join (fun (v : List UInt8 × List UInt8 × List (List UInt8)) => (⟨asFr 73 [(3, .bs false 0 (v.1.length) 0 (v.1.length)), (4, .bs false 1 (v.2.1.length) 0 (v.2.1.length)), (5, .bs false 2 (v.2.2.length) 0 (v.2.2.length))], [.buf 1 (L cU8 v.1) false, .buf 1 (L cU8 v.2.1) false, .buf 1 (L (cSl cU8) v.2.2) false]⟩ : St)) (fun v => .inl v = j_4040) ?_ ?_
    · have h := hA_4041; clear hA_4041
      refine run_textE hE [0, 3, 4, 5, 6] (fr' := [(0, .sl false (L (cSl cU8) l_3836)), (3, .bs true 0 (l_3839.length) 0 (l_3839.length)), (4, .bs true 1 (l_3841.length) 0 (l_3841.length)), (5, .bs true 2 (l_3843.length) 0 (l_3843.length)), (6, i64 0)]) (σ' := [.buf 1 (L cU8 l_3839) false, .buf 1 (L cU8 l_3841) false, .buf 1 (L (cSl cU8) l_3843) false]) ⟨_, orcs_nil, ?_⟩ ?_
      · simp only [go_sem, reduceIte, Nat.reduceLT, Nat.reduceEqDiff, Nat.reduceAdd, Nat.reduceBEq, Nat.reduceMul, Nat.reduceSub, Nat.reduceGT, Nat.reducePow, Nat.reduceLeDiff, Int.reduceToNat]
      refine run_block ?_
      replace h := bind_some1 h; obtain ⟨x_4170, hx_4171, hj_4172⟩ := h
      refine run_loopO hx_4171 (fun (v : Int × List UInt8 × List UInt8 × List (List UInt8)) => (⟨asFr 73 [(0, .sl false (L (cSl cU8) l_3836)), (3, .bs false 0 (v.2.1.length) 0 (v.2.1.length)), (4, .bs false 1 (v.2.2.1.length) 0 (v.2.2.1.length)), (5, .bs false 2 (v.2.2.2.length) 0 (v.2.2.2.length)), (6, i64 v.1)], [.buf 1 (L cU8 v.2.1) false, .buf 1 (L cU8 v.2.2.1) false, .buf 1 (L (cSl cU8) v.2.2.2) false]⟩ : St)) (weak_sel [0, 1, 2] (by decide) rfl (by simp only [go_sem, reduceIte, Nat.reduceLT, Nat.reduceEqDiff, Nat.reduceAdd, Nat.reduceBEq, Nat.reduceMul, Nat.reduceSub, Nat.reduceGT, Nat.reducePow, Nat.reduceLeDiff, Int.reduceToNat]) (by simp only [go_sem, reduceIte, Nat.reduceLT, Nat.reduceEqDiff, Nat.reduceAdd, Nat.reduceBEq, Nat.reduceMul, Nat.reduceSub, Nat.reduceGT, Nat.reducePow, Nat.reduceLeDiff, Int.reduceToNat])) ?_
      rintro ⟨i_4103, l_4104, l_4105, l_4106⟩ o_4173 h hxx_4174
      replace h : law10_FrameRoundTrip_b1 l_3836 i_4103 l_4104 l_4105 l_4106 = some o_4173 := h
      unfold law10_FrameRoundTrip_b1 at h
      refine run_seq ?_
      refine run_textE hE [0, 3, 4, 5, 6, 17] (fr' := [(0, .sl false (L (cSl cU8) l_3836)), (3, .bs false 0 (l_4104.length) 0 (l_4104.length)), (4, .bs false 1 (l_4105.length) 0 (l_4105.length)), (5, .bs false 2 (l_4106.length) 0 (l_4106.length)), (6, i64 i_4103), (17, .bool ((decide (i_4103 < (l_3836.length : Int)))))]) (σ' := [.buf 1 (L cU8 l_4104) false, .buf 1 (L cU8 l_4105) false, .buf 1 (L (cSl cU8) l_4106) false]) ⟨_, orcs_nil, ?_⟩ ?_
      · simp only [go_sem, reduceIte, Nat.reduceLT, Nat.reduceEqDiff, Nat.reduceAdd, Nat.reduceBEq, Nat.reduceMul, Nat.reduceSub, Nat.reduceGT, Nat.reducePow, Nat.reduceLeDiff, Int.reduceToNat]
      refine run_condL (b := (decide (i_4103 < (l_3836.length : Int)))) rfl (by decide) (fun hb => ?_) (fun hb => ?_)
      · replace h := ite_t h hb
        refine run_skip ?_
        refine thenK_n ?_
        replace h := bind_some1 h; obtain ⟨j_4205, hA_4206, hj_4207⟩ := h
        refine run_join (fun (v : List UInt8 × List UInt8 × List (List UInt8)) => (⟨asFr 73 [(0, .sl false (L (cSl cU8) l_3836)), (3, .bs false 0 (v.1.length) 0 (v.1.length)), (4, .bs false 1 (v.2.1.length) 0 (v.2.1.length)), (5, .bs false 2 (v.2.2.length) 0 (v.2.2.length)), (6, i64 i_4103)], [.buf 1 (L cU8 v.1) false, .buf 1 (L cU8 v.2.1) false, .buf 1 (L (cSl cU8) v.2.2) false]⟩ : St)) (fun v => .inl v = j_4205) ?_ ?_
        · have h := hA_4206; clear hA_4206
          refine run_block ?_
          replace h := chk_some h; obtain ⟨hc_4209, h⟩ := h
          replace h := bind_some1 h; obtain ⟨y_4208, hy_4210, h⟩ := h
          refine run_textE hE [0, 3, 4, 5, 6, 7, 8] (fr' := [(0, .sl false (L (cSl cU8) l_3836)), (3, .bs false 0 (l_4104.length) 0 (l_4104.length)), (4, .bs false 1 (l_4105.length) 0 (l_4105.length)), (5, .bs false 2 (l_4106.length) 0 (l_4106.length)), (6, i64 i_4103), (7, .sl false (L cU8 y_4208.1)), (8, i64 y_4208.2)]) (σ' := [.buf 1 (L cU8 l_4104) false, .buf 1 (L cU8 l_4105) false, .buf 1 (L (cSl cU8) l_4106) false]) ⟨_, orcs_ok (l := [(25, 11, [.sl false (L cU8 (nth l_3836 i_4103.toNat))], .tup [.sl false (L cU8 y_4208.1), i64 y_4208.2])]) ⟨frame_Make_con hy_4210, trivial⟩, ?_⟩ ?_
          · simp only [go_sem, reduceIte, Nat.reduceLT, Nat.reduceEqDiff, Nat.reduceAdd, Nat.reduceBEq, Nat.reduceMul, Nat.reduceSub, Nat.reduceGT, Nat.reducePow, Nat.reduceLeDiff, Int.reduceToNat, hc_4209, hc_4209.2, lt_le hc_4209.2]
          refine run_seq ?_
          replace h := chk_some h; obtain ⟨hc_4211, h⟩ := h
          refine run_textE hE [0, 3, 4, 5, 6, 7, 8, 33] (fr' := [(0, .sl false (L (cSl cU8) l_3836)), (3, .bs false 0 (l_4104.length) 0 (l_4104.length)), (4, .bs false 1 (l_4105.length) 0 (l_4105.length)), (5, .bs false 2 (l_4106.length) 0 (l_4106.length)), (6, i64 i_4103), (7, .sl false (L cU8 y_4208.1)), (8, i64 y_4208.2), (33, .bool ((decide (((nth l_3836 i_4103.toNat).length : Int) > 8192))))]) (σ' := [.buf 1 (L cU8 l_4104) false, .buf 1 (L cU8 l_4105) false, .buf 1 (L (cSl cU8) l_4106) false]) ⟨_, orcs_nil, ?_⟩ ?_
          · simp only [go_sem, reduceIte, Nat.reduceLT, Nat.reduceEqDiff, Nat.reduceAdd, Nat.reduceBEq, Nat.reduceMul, Nat.reduceSub, Nat.reduceGT, Nat.reducePow, Nat.reduceLeDiff, Int.reduceToNat, hc_4211, hc_4211.2, lt_le hc_4211.2]
          refine run_condL (b := (decide (((nth l_3836 i_4103.toNat).length : Int) > 8192))) rfl (by decide) (fun hb => ?_) (fun hb => ?_)
          · replace h := ite_t h hb
            refine run_seq ?_
            replace h := bind_some1 h; obtain ⟨t_4212, hv_4213, h⟩ := h
            refine run_textW hE [0, 3, 4, 5, 6, 40] (fr' := [(0, .sl false (L (cSl cU8) l_3836)), (3, .bs false 0 (l_4104.length) 0 (l_4104.length)), (4, .bs false 1 (l_4105.length) 0 (l_4105.length)), (5, .bs false 2 (l_4106.length) 0 (l_4106.length)), (6, i64 i_4103), (40, .bool t_4212)]) (σ' := [.buf 1 (L cU8 l_4104) false, .buf 1 (L cU8 l_4105) false, .buf 1 (L (cSl cU8) l_4106) false]) ?_ ?_
            · rcases Bool.eq_false_or_eq_true ((y_4208.2 != 2)) with hb_4214 | hb_4214
              · replace hv_4213 := ite_t hv_4213 hb_4214
                have e_hv_4213 := Option.some.inj hv_4213; subst e_hv_4213
                exact ⟨_, [(0, .sl false (L (cSl cU8) l_3836)), (3, .bs false 0 (l_4104.length) 0 (l_4104.length)), (4, .bs false 1 (l_4105.length) 0 (l_4105.length)), (5, .bs false 2 (l_4106.length) 0 (l_4106.length)), (6, i64 i_4103), (40, .bool true)], [.buf 1 (L cU8 l_4104) false, .buf 1 (L cU8 l_4105) false, .buf 1 (L (cSl cU8) l_4106) false], orcs_nil, by simp only [go_sem, reduceIte, Nat.reduceLT, Nat.reduceEqDiff, Nat.reduceAdd, Nat.reduceBEq, Nat.reduceMul, Nat.reduceSub, Nat.reduceGT, Nat.reducePow, Nat.reduceLeDiff, Int.reduceToNat, hb_4214], (weak_sel [0, 1, 2] (by decide) rfl (by simp only [go_sem, reduceIte, Nat.reduceLT, Nat.reduceEqDiff, Nat.reduceAdd, Nat.reduceBEq, Nat.reduceMul, Nat.reduceSub, Nat.reduceGT, Nat.reducePow, Nat.reduceLeDiff, Int.reduceToNat]) (by simp only [go_sem, reduceIte, Nat.reduceLT, Nat.reduceEqDiff, Nat.reduceAdd, Nat.reduceBEq, Nat.reduceMul, Nat.reduceSub, Nat.reduceGT, Nat.reducePow, Nat.reduceLeDiff, Int.reduceToNat]))⟩
              · replace hv_4213 := ite_f hv_4213 hb_4214
                have e_hv_4213 := Option.some.inj hv_4213; subst e_hv_4213
                exact ⟨_, [(0, .sl false (L (cSl cU8) l_3836)), (3, .bs false 0 (l_4104.length) 0 (l_4104.length)), (4, .bs false 1 (l_4105.length) 0 (l_4105.length)), (5, .bs false 2 (l_4106.length) 0 (l_4106.length)), (6, i64 i_4103), (40, .bool ((decide ((y_4208.1.length : Int) > 0))))], [.buf 1 (L cU8 l_4104) false, .buf 1 (L cU8 l_4105) false, .buf 1 (L (cSl cU8) l_4106) false], orcs_nil, by simp only [go_sem, reduceIte, Nat.reduceLT, Nat.reduceEqDiff, Nat.reduceAdd, Nat.reduceBEq, Nat.reduceMul, Nat.reduceSub, Nat.reduceGT, Nat.reducePow, Nat.reduceLeDiff, Int.reduceToNat, hb_4214], (weak_sel [0, 1, 2] (by decide) rfl (by simp only [go_sem, reduceIte, Nat.reduceLT, Nat.reduceEqDiff, Nat.reduceAdd, Nat.reduceBEq, Nat.reduceMul, Nat.reduceSub, Nat.reduceGT, Nat.reducePow, Nat.reduceLeDiff, Int.reduceToNat]) (by simp only [go_sem, reduceIte, Nat.reduceLT, Nat.reduceEqDiff, Nat.reduceAdd, Nat.reduceBEq, Nat.reduceMul, Nat.reduceSub, Nat.reduceGT, Nat.reducePow, Nat.reduceLeDiff, Int.reduceToNat]))⟩
            refine run_condL (b := t_4212) rfl (by decide) (fun hb => ?_) (fun hb => ?_)
            · replace h := ite_t h hb
              refine run_textE hE [2] (fr' := [(2, .bool false)]) (σ' := [.buf 1 (L cU8 l_4104) false, .buf 1 (L cU8 l_4105) false, .buf 1 (L (cSl cU8) l_4106) false]) ⟨_, orcs_nil, ?_⟩ ?_
              · simp only [go_sem, reduceIte, Nat.reduceLT, Nat.reduceEqDiff, Nat.reduceAdd, Nat.reduceBEq, Nat.reduceMul, Nat.reduceSub, Nat.reduceGT, Nat.reducePow, Nat.reduceLeDiff, Int.reduceToNat]
              refine run_ret ?_
              refine thenK_r ?_
              refine thenK_r ?_
              refine blockK_r ?_
              refine joinK_r ?_
              replace h := bind_some1 h; obtain ⟨z_4217, h, e_z_4217⟩ := h
              obtain rfl := Option.some.inj e_z_4217
              obtain rfl := Option.some.inj hj_4207
              refine lpK_r ?_
              replace h := bind_some1 h; obtain ⟨z_4216, h, e_z_4216⟩ := h
              obtain rfl := Option.some.inj e_z_4216
              have ex_z_4216 := hxx_4174 _ rfl
              subst ex_z_4216
              obtain rfl := Option.some.inj hj_4172
              refine blockK_r ?_
              refine joinK_r ?_
              replace h := bind_some1 h; obtain ⟨z_4215, h, e_z_4215⟩ := h
              obtain rfl := Option.some.inj e_z_4215
              obtain rfl := Option.some.inj hj_4042
              obtain rfl := Option.some.inj h
              refine ret_ok (.inr rfl) ?_
              simp only [go_sem, reduceIte, Nat.reduceLT, Nat.reduceEqDiff, Nat.reduceAdd, Nat.reduceBEq, Nat.reduceMul, Nat.reduceSub, Nat.reduceGT, Nat.reducePow, Nat.reduceLeDiff, Int.reduceToNat]
            · replace h := ite_f h hb
              refine run_skip ?_
              refine thenK_n ?_
              refine run_exit ?_
              refine thenK_x ?_
              refine blockK_x ?_
              obtain rfl := Option.some.inj h
              exact joinK_n ((l_4104, l_4105, l_4106)) rfl (weak_sel [0, 1, 2] (by decide) rfl (by simp only [go_sem, reduceIte, Nat.reduceLT, Nat.reduceEqDiff, Nat.reduceAdd, Nat.reduceBEq, Nat.reduceMul, Nat.reduceSub, Nat.reduceGT, Nat.reducePow, Nat.reduceLeDiff, Int.reduceToNat]) (by simp only [go_sem, reduceIte, Nat.reduceLT, Nat.reduceEqDiff, Nat.reduceAdd, Nat.reduceBEq, Nat.reduceMul, Nat.reduceSub, Nat.reduceGT, Nat.reducePow, Nat.reduceLeDiff, Int.reduceToNat]))
          · replace h := ite_f h hb
            refine run_skip ?_
            refine thenK_n ?_
            refine run_seq ?_
            replace h := bind_some1 h; obtain ⟨t_4218, hv_4219, h⟩ := h
            refine run_textW hE [0, 3, 4, 5, 6, 7, 47] (fr' := [(0, .sl false (L (cSl cU8) l_3836)), (3, .bs false 0 (l_4104.length) 0 (l_4104.length)), (4, .bs false 1 (l_4105.length) 0 (l_4105.length)), (5, .bs false 2 (l_4106.length) 0 (l_4106.length)), (6, i64 i_4103), (7, .sl false (L cU8 y_4208.1)), (47, .bool t_4218)]) (σ' := [.buf 1 (L cU8 l_4104) false, .buf 1 (L cU8 l_4105) false, .buf 1 (L (cSl cU8) l_4106) false]) ?_ ?_
            · rcases Bool.eq_false_or_eq_true ((y_4208.2 != 0)) with hb_4220 | hb_4220
              · replace hv_4219 := ite_t hv_4219 hb_4220
                have e_hv_4219 := Option.some.inj hv_4219; subst e_hv_4219
                exact ⟨_, [(0, .sl false (L (cSl cU8) l_3836)), (3, .bs false 0 (l_4104.length) 0 (l_4104.length)), (4, .bs false 1 (l_4105.length) 0 (l_4105.length)), (5, .bs false 2 (l_4106.length) 0 (l_4106.length)), (6, i64 i_4103), (7, .sl false (L cU8 y_4208.1)), (47, .bool true)], [.buf 1 (L cU8 l_4104) false, .buf 1 (L cU8 l_4105) false, .buf 1 (L (cSl cU8) l_4106) false], orcs_nil, by simp only [go_sem, reduceIte, Nat.reduceLT, Nat.reduceEqDiff, Nat.reduceAdd, Nat.reduceBEq, Nat.reduceMul, Nat.reduceSub, Nat.reduceGT, Nat.reducePow, Nat.reduceLeDiff, Int.reduceToNat, hb_4220], (weak_sel [0, 1, 2] (by decide) rfl (by simp only [go_sem, reduceIte, Nat.reduceLT, Nat.reduceEqDiff, Nat.reduceAdd, Nat.reduceBEq, Nat.reduceMul, Nat.reduceSub, Nat.reduceGT, Nat.reducePow, Nat.reduceLeDiff, Int.reduceToNat]) (by simp only [go_sem, reduceIte, Nat.reduceLT, Nat.reduceEqDiff, Nat.reduceAdd, Nat.reduceBEq, Nat.reduceMul, Nat.reduceSub, Nat.reduceGT, Nat.reducePow, Nat.reduceLeDiff, Int.reduceToNat]))⟩
              · replace hv_4219 := ite_f hv_4219 hb_4220
                have e_hv_4219 := Option.some.inj hv_4219; subst e_hv_4219
                exact ⟨_, [(0, .sl false (L (cSl cU8) l_3836)), (3, .bs false 0 (l_4104.length) 0 (l_4104.length)), (4, .bs false 1 (l_4105.length) 0 (l_4105.length)), (5, .bs false 2 (l_4106.length) 0 (l_4106.length)), (6, i64 i_4103), (7, .sl false (L cU8 y_4208.1)), (47, .bool ((decide ((y_4208.1.length : Int) < 2))))], [.buf 1 (L cU8 l_4104) false, .buf 1 (L cU8 l_4105) false, .buf 1 (L (cSl cU8) l_4106) false], orcs_nil, by simp only [go_sem, reduceIte, Nat.reduceLT, Nat.reduceEqDiff, Nat.reduceAdd, Nat.reduceBEq, Nat.reduceMul, Nat.reduceSub, Nat.reduceGT, Nat.reducePow, Nat.reduceLeDiff, Int.reduceToNat, hb_4220], (weak_sel [0, 1, 2] (by decide) rfl (by simp only [go_sem, reduceIte, Nat.reduceLT, Nat.reduceEqDiff, Nat.reduceAdd, Nat.reduceBEq, Nat.reduceMul, Nat.reduceSub, Nat.reduceGT, Nat.reducePow, Nat.reduceLeDiff, Int.reduceToNat]) (by simp only [go_sem, reduceIte, Nat.reduceLT, Nat.reduceEqDiff, Nat.reduceAdd, Nat.reduceBEq, Nat.reduceMul, Nat.reduceSub, Nat.reduceGT, Nat.reducePow, Nat.reduceLeDiff, Int.reduceToNat]))⟩
            refine run_condL (b := t_4218) rfl (by decide) (fun hb => ?_) (fun hb => ?_)
            · replace h := ite_t h hb
              refine run_textE hE [2] (fr' := [(2, .bool false)]) (σ' := [.buf 1 (L cU8 l_4104) false, .buf 1 (L cU8 l_4105) false, .buf 1 (L (cSl cU8) l_4106) false]) ⟨_, orcs_nil, ?_⟩ ?_
              · simp only [go_sem, reduceIte, Nat.reduceLT, Nat.reduceEqDiff, Nat.reduceAdd, Nat.reduceBEq, Nat.reduceMul, Nat.reduceSub, Nat.reduceGT, Nat.reducePow, Nat.reduceLeDiff, Int.reduceToNat]
              refine run_ret ?_
              refine thenK_r ?_
              refine blockK_r ?_
              refine joinK_r ?_
              replace h := bind_some1 h; obtain ⟨z_4223, h, e_z_4223⟩ := h
              obtain rfl := Option.some.inj e_z_4223
              obtain rfl := Option.some.inj hj_4207
              refine lpK_r ?_
              replace h := bind_some1 h; obtain ⟨z_4222, h, e_z_4222⟩ := h
              obtain rfl := Option.some.inj e_z_4222
              have ex_z_4222 := hxx_4174 _ rfl
              subst ex_z_4222
              obtain rfl := Option.some.inj hj_4172
              refine blockK_r ?_
              refine joinK_r ?_
              replace h := bind_some1 h; obtain ⟨z_4221, h, e_z_4221⟩ := h
              obtain rfl := Option.some.inj e_z_4221
              obtain rfl := Option.some.inj hj_4042
              obtain rfl := Option.some.inj h
              refine ret_ok (.inr rfl) ?_
              simp only [go_sem, reduceIte, Nat.reduceLT, Nat.reduceEqDiff, Nat.reduceAdd, Nat.reduceBEq, Nat.reduceMul, Nat.reduceSub, Nat.reduceGT, Nat.reducePow, Nat.reduceLeDiff, Int.reduceToNat]
            · replace h := ite_f h hb
              refine run_skip ?_
              refine thenK_n ?_
              replace h := chk_some h; obtain ⟨hc_4224, h⟩ := h
              replace h := lt1_some h; obtain ⟨l_4225, hz_4226, h⟩ := h
              refine run_textE hE [0, 3, 4, 5, 6, 7] (fr' := [(0, .sl false (L (cSl cU8) l_3836)), (3, .bs false 0 (l_4225.length) 0 (l_4225.length)), (4, .bs false 1 (l_4105.length) 0 (l_4105.length)), (5, .bs false 2 (l_4106.length) 0 (l_4106.length)), (6, i64 i_4103), (7, .sl false (L cU8 y_4208.1))]) (σ' := [.buf 1 (L cU8 l_4225) false, .buf 1 (L cU8 l_4105) false, .buf 1 (L (cSl cU8) l_4106) false]) ⟨_, orcs_nil, ?_⟩ ?_
              · subst hz_4226; simp only [go_sem, reduceIte, Nat.reduceLT, Nat.reduceEqDiff, Nat.reduceAdd, Nat.reduceBEq, Nat.reduceMul, Nat.reduceSub, Nat.reduceGT, Nat.reducePow, Nat.reduceLeDiff, Int.reduceToNat, hc_4224]
              replace h := chk_some h; obtain ⟨hc_4227, h⟩ := h
              replace h := chk_some h; obtain ⟨hc_4228, h⟩ := h
              replace h := lt1_some h; obtain ⟨l_4229, hz_4230, h⟩ := h
              refine run_textE hE [0, 3, 4, 5, 6] (fr' := [(0, .sl false (L (cSl cU8) l_3836)), (3, .bs false 0 (l_4225.length) 0 (l_4225.length)), (4, .bs false 1 (l_4229.length) 0 (l_4229.length)), (5, .bs false 2 (l_4106.length) 0 (l_4106.length)), (6, i64 i_4103)]) (σ' := [.buf 1 (L cU8 l_4225) false, .buf 1 (L cU8 l_4229) false, .buf 1 (L (cSl cU8) l_4106) false]) ⟨_, orcs_nil, ?_⟩ ?_
              · subst hz_4230; simp only [go_sem, reduceIte, Nat.reduceLT, Nat.reduceEqDiff, Nat.reduceAdd, Nat.reduceBEq, Nat.reduceMul, Nat.reduceSub, Nat.reduceGT, Nat.reducePow, Nat.reduceLeDiff, Int.reduceToNat, hc_4227, hc_4228]
              replace h := chk_some h; obtain ⟨hc_4231, h⟩ := h
              replace h := chk_some h; obtain ⟨hc_4232, h⟩ := h
              replace h := lt1_some h; obtain ⟨l_4233, hz_4234, h⟩ := h
              refine run_textE0 hE (wk_block wk_join) [0, 3, 4, 5, 6] (fr' := [(0, .sl false (L (cSl cU8) l_3836)), (3, .bs false 0 (l_4225.length) 0 (l_4225.length)), (4, .bs false 1 (l_4229.length) 0 (l_4229.length)), (5, .bs false 2 (l_4233.length) 0 (l_4233.length)), (6, i64 i_4103)]) (σ' := [.buf 1 (L cU8 l_4225) false, .buf 1 (L cU8 l_4229) false, .buf 1 (L (cSl cU8) l_4233) false, .buf 1 (L (cSl cU8) (([nth l_3836 i_4103.toNat] : List (List UInt8)))) false]) ⟨_, orcs_nil, ?_⟩ ?_
              · subst hz_4234; simp only [go_sem, reduceIte, Nat.reduceLT, Nat.reduceEqDiff, Nat.reduceAdd, Nat.reduceBEq, Nat.reduceMul, Nat.reduceSub, Nat.reduceGT, Nat.reducePow, Nat.reduceLeDiff, Int.reduceToNat, hc_4231, hc_4231.2, lt_le hc_4231.2, hc_4232]
              refine blockK_n ?_
              obtain rfl := Option.some.inj h
              exact joinK_n ((l_4225, l_4229, l_4233)) rfl (weak_sel [0, 1, 2] (by decide) rfl (by simp only [go_sem, reduceIte, Nat.reduceLT, Nat.reduceEqDiff, Nat.reduceAdd, Nat.reduceBEq, Nat.reduceMul, Nat.reduceSub, Nat.reduceGT, Nat.reducePow, Nat.reduceLeDiff, Int.reduceToNat]) (by simp only [go_sem, reduceIte, Nat.reduceLT, Nat.reduceEqDiff, Nat.reduceAdd, Nat.reduceBEq, Nat.reduceMul, Nat.reduceSub, Nat.reduceGT, Nat.reducePow, Nat.reduceLeDiff, Int.reduceToNat]))
        rintro ⟨l_4202, l_4203, l_4204⟩ rfl
        have h := hj_4207; clear hj_4207
        refine run_textE0 hE wk_lp [0, 3, 4, 5, 6] (fr' := [(0, .sl false (L (cSl cU8) l_3836)), (3, .bs false 0 (l_4202.length) 0 (l_4202.length)), (4, .bs false 1 (l_4203.length) 0 (l_4203.length)), (5, .bs false 2 (l_4204.length) 0 (l_4204.length)), (6, i64 ((w64 (i_4103 + 1))))]) (σ' := [.buf 1 (L cU8 l_4202) false, .buf 1 (L cU8 l_4203) false, .buf 1 (L (cSl cU8) l_4204) false]) ⟨_, orcs_nil, ?_⟩ ?_
        · simp only [go_sem, reduceIte, Nat.reduceLT, Nat.reduceEqDiff, Nat.reduceAdd, Nat.reduceBEq, Nat.reduceMul, Nat.reduceSub, Nat.reduceGT, Nat.reducePow, Nat.reduceLeDiff, Int.reduceToNat]
        obtain rfl := Option.some.inj h
        exact lpK_n (((w64 (i_4103 + 1)), l_4202, l_4203, l_4204)) rfl (weak_sel [0, 1, 2] (by decide) rfl (by simp only [go_sem, reduceIte, Nat.reduceLT, Nat.reduceEqDiff, Nat.reduceAdd, Nat.reduceBEq, Nat.reduceMul, Nat.reduceSub, Nat.reduceGT, Nat.reducePow, Nat.reduceLeDiff, Int.reduceToNat]) (by simp only [go_sem, reduceIte, Nat.reduceLT, Nat.reduceEqDiff, Nat.reduceAdd, Nat.reduceBEq, Nat.reduceMul, Nat.reduceSub, Nat.reduceGT, Nat.reducePow, Nat.reduceLeDiff, Int.reduceToNat]))
      · replace h := ite_f h hb
        refine run_exit ?_
        refine thenK_x ?_
        obtain rfl := Option.some.inj h
        have ex_x_4170 := hxx_4174 _ rfl
        subst ex_x_4170
        have h := hj_4172; clear hj_4172
        refine lpK_x ?_
        refine blockK_x ?_
        obtain rfl := Option.some.inj h
        exact joinK_n ((l_4104, l_4105, l_4106)) rfl ((weak_sel (l' := [(3, .bs false 0 (l_4104.length) 0 (l_4104.length)), (4, .bs false 1 (l_4105.length) 0 (l_4105.length)), (5, .bs false 2 (l_4106.length) 0 (l_4106.length))]) (σ' := [.buf 1 (L cU8 l_4104) false, .buf 1 (L cU8 l_4105) false, .buf 1 (L (cSl cU8) l_4106) false]) [0, 1, 2] (by decide) rfl (by simp only [go_sem, reduceIte, Nat.reduceLT, Nat.reduceEqDiff, Nat.reduceAdd, Nat.reduceBEq, Nat.reduceMul, Nat.reduceSub, Nat.reduceGT, Nat.reducePow, Nat.reduceLeDiff, Int.reduceToNat]) (by simp only [go_sem, reduceIte, Nat.reduceLT, Nat.reduceEqDiff, Nat.reduceAdd, Nat.reduceBEq, Nat.reduceMul, Nat.reduceSub, Nat.reduceGT, Nat.reducePow, Nat.reduceLeDiff, Int.reduceToNat])).trans (weak_sel [0, 1, 2] (by decide) rfl (by simp only [go_sem, reduceIte, Nat.reduceLT, Nat.reduceEqDiff, Nat.reduceAdd, Nat.reduceBEq, Nat.reduceMul, Nat.reduceSub, Nat.reduceGT, Nat.reducePow, Nat.reduceLeDiff, Int.reduceToNat]) (by simp only [go_sem, reduceIte, Nat.reduceLT, Nat.reduceEqDiff, Nat.reduceAdd, Nat.reduceBEq, Nat.reduceMul, Nat.reduceSub, Nat.reduceGT, Nat.reducePow, Nat.reduceLeDiff, Int.reduceToNat])))
    rintro ⟨l_4037, l_4038, l_4039⟩ rfl
    have h := hj_4042; clear hj_4042
    refine run_seq ?_
    refine run_textE hE [3, 4, 5, 64] (fr' := [(3, .bs false 0 (l_4037.length) 0 (l_4037.length)), (4, .bs false 1 (l_4038.length) 0 (l_4038.length)), (5, .bs false 2 (l_4039.length) 0 (l_4039.length)), (64, .bool (((l_4039.length : Int) == 0)))]) (σ' := [.buf 1 (L cU8 l_4037) false, .buf 1 (L cU8 l_4038) false, .buf 1 (L (cSl cU8) l_4039) false]) ⟨_, orcs_nil, ?_⟩ ?_
    · simp only [go_sem, reduceIte, Nat.reduceLT, Nat.reduceEqDiff, Nat.reduceAdd, Nat.reduceBEq, Nat.reduceMul, Nat.reduceSub, Nat.reduceGT, Nat.reducePow, Nat.reduceLeDiff, Int.reduceToNat]
    refine run_condL (b := ((l_4039.length : Int) == 0)) rfl (by decide) (fun hb => ?_) (fun hb => ?_)
    · replace h := ite_t h hb
      refine run_textE hE [2] (fr' := [(2, .bool true)]) (σ' := [.buf 1 (L cU8 l_4037) false, .buf 1 (L cU8 l_4038) false, .buf 1 (L (cSl cU8) l_4039) false]) ⟨_, orcs_nil, ?_⟩ ?_
      · simp only [go_sem, reduceIte, Nat.reduceLT, Nat.reduceEqDiff, Nat.reduceAdd, Nat.reduceBEq, Nat.reduceMul, Nat.reduceSub, Nat.reduceGT, Nat.reducePow, Nat.reduceLeDiff, Int.reduceToNat]
      refine run_ret ?_
      refine thenK_r ?_
      obtain rfl := Option.some.inj h
      refine ret_ok (.inr rfl) ?_
      simp only [go_sem, reduceIte, Nat.reduceLT, Nat.reduceEqDiff, Nat.reduceAdd, Nat.reduceBEq, Nat.reduceMul, Nat.reduceSub, Nat.reduceGT, Nat.reducePow, Nat.reduceLeDiff, Int.reduceToNat]
    · replace h := ite_f h hb
      refine run_skip ?_
      refine thenK_n ?_
      replace h := bind_some1 h; obtain ⟨t_4237, hv_4238, h⟩ := h
      refine run_textW hE [2] (fr' := [(2, .bool t_4237)]) (σ' := []) ?_ ?_
      · replace hv_4238 := bind_some1 hv_4238; obtain ⟨y_4235, hy_4239, hv_4238⟩ := hv_4238
        rcases Bool.eq_false_or_eq_true y_4235 with hb_4240 | hb_4240
        · replace hv_4238 := ite_t hv_4238 hb_4240
          replace hv_4238 := bind_some1 hv_4238; obtain ⟨y_4236, hy_4241, hv_4238⟩ := hv_4238
          have e_hv_4238 := Option.some.inj hv_4238; subst e_hv_4238
          exact ⟨_, [(2, .bool y_4236)], [.buf 1 (L cU8 l_4037) false, .buf 1 (L cU8 l_4038) false, .buf 1 (L (cSl cU8) l_4039) false], orcs_ok (l := [(67, 19, [.sl false (L cU8 l_4037), .sl false (L (cSl cU8) l_4039), i64 0], .bool y_4235), (71, 19, [.sl false (L cU8 l_4038), .sl false (L (cSl cU8) l_4039), i64 0], .bool y_4236)]) ⟨law10_receives_con hy_4239, law10_receives_con hy_4241, trivial⟩, by simp only [go_sem, reduceIte, Nat.reduceLT, Nat.reduceEqDiff, Nat.reduceAdd, Nat.reduceBEq, Nat.reduceMul, Nat.reduceSub, Nat.reduceGT, Nat.reducePow, Nat.reduceLeDiff, Int.reduceToNat, hb_4240], (weak_sel [] (by decide) rfl (by simp only [go_sem, reduceIte, Nat.reduceLT, Nat.reduceEqDiff, Nat.reduceAdd, Nat.reduceBEq, Nat.reduceMul, Nat.reduceSub, Nat.reduceGT, Nat.reducePow, Nat.reduceLeDiff, Int.reduceToNat]) (by simp only [go_sem, reduceIte, Nat.reduceLT, Nat.reduceEqDiff, Nat.reduceAdd, Nat.reduceBEq, Nat.reduceMul, Nat.reduceSub, Nat.reduceGT, Nat.reducePow, Nat.reduceLeDiff, Int.reduceToNat]))⟩
        · replace hv_4238 := ite_f hv_4238 hb_4240
          have e_hv_4238 := Option.some.inj hv_4238; subst e_hv_4238
          exact ⟨_, [(2, .bool false)], [.buf 1 (L cU8 l_4037) false, .buf 1 (L cU8 l_4038) false, .buf 1 (L (cSl cU8) l_4039) false], orcs_ok (l := [(67, 19, [.sl false (L cU8 l_4037), .sl false (L (cSl cU8) l_4039), i64 0], .bool y_4235)]) ⟨law10_receives_con hy_4239, trivial⟩, by simp only [go_sem, reduceIte, Nat.reduceLT, Nat.reduceEqDiff, Nat.reduceAdd, Nat.reduceBEq, Nat.reduceMul, Nat.reduceSub, Nat.reduceGT, Nat.reducePow, Nat.reduceLeDiff, Int.reduceToNat, hb_4240], (weak_sel [] (by decide) rfl (by simp only [go_sem, reduceIte, Nat.reduceLT, Nat.reduceEqDiff, Nat.reduceAdd, Nat.reduceBEq, Nat.reduceMul, Nat.reduceSub, Nat.reduceGT, Nat.reducePow, Nat.reduceLeDiff, Int.reduceToNat]) (by simp only [go_sem, reduceIte, Nat.reduceLT, Nat.reduceEqDiff, Nat.reduceAdd, Nat.reduceBEq, Nat.reduceMul, Nat.reduceSub, Nat.reduceGT, Nat.reducePow, Nat.reduceLeDiff, Int.reduceToNat]))⟩
      refine run_ret ?_
      obtain rfl := Option.some.inj h
      refine ret_ok (.inr rfl) ?_
      simp only [go_sem, reduceIte, Nat.reduceLT, Nat.reduceEqDiff, Nat.reduceAdd, Nat.reduceBEq, Nat.reduceMul, Nat.reduceSub, Nat.reduceGT, Nat.reducePow, Nat.reduceLeDiff, Int.reduceToNat]

end Go.Proofs.Ytneejmndnihaoaa
