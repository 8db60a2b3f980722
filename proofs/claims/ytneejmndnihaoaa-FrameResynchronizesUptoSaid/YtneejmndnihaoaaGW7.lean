/-
  The functions compute just that.
-/
import Derived.Test.YtneejmndnihaoaaGW6
import Derived.KernelRfl
namespace Go.Proofs.Ytneejmndnihaoaa
open Go.Rv
set_option linter.unusedVariables false
set_option linter.unusedSimpArgs false

theorem law10_FrameTransparent_con {b_3764 : List UInt8} {r : Bool} (h : law10_FrameTransparent b_3764 = some r) : Con B 8 [.sl false (L cU8 b_3764)] [] (fun r' σ' => r' = .bool r ∧ σ' = []) := by
  refine con_walk (N := 70) (rs := [.tmp 2]) ok Try.func8 rfl (by decide +kernel) rfl rfl (Nat.le_of_ble_eq_true rfl) (fun F => ?_)
  have hE := ok.env F
  unfold law10_FrameTransparent at h
  show Run (B.env F) 0 _ ⟨asFr 70 [(0, .sl false (L cU8 b_3764))], []⟩ _
  refine run_textE hE [0] (fr' := [(0, .sl false (L cU8 b_3764))]) (σ' := []) ⟨_, orcs_nil, ?_⟩ ?_
  · simp only [go_sem, reduceIte, Nat.reduceLT, Nat.reduceEqDiff, Nat.reduceAdd, Nat.reduceBEq, Nat.reduceMul, Nat.reduceSub, Nat.reduceGT, Nat.reducePow, Nat.reduceLeDiff, Int.reduceToNat]
  refine run_seq ?_
  replace h := bind_some1 h; obtain ⟨y_3765, hy_3766, h⟩ := h
  refine run_textE hE [0, 8] (fr' := [(0, .sl false (L cU8 b_3764)), (8, .bool ((!y_3765)))]) (σ' := []) ⟨_, orcs_ok (l := [(7, 10, [], .bool y_3765)]) ⟨law10_sane_con hy_3766, trivial⟩, ?_⟩ ?_
  · simp only [go_sem, reduceIte, Nat.reduceLT, Nat.reduceEqDiff, Nat.reduceAdd, Nat.reduceBEq, Nat.reduceMul, Nat.reduceSub, Nat.reduceGT, Nat.reducePow, Nat.reduceLeDiff, Int.reduceToNat]
  refine run_condL (b := (!y_3765)) rfl (by decide) (fun hb => ?_) (fun hb => ?_)
  · replace h := ite_t h hb
    refine run_textE hE [2] (fr' := [(2, .bool false)]) (σ' := []) ⟨_, orcs_nil, ?_⟩ ?_
    · simp only [go_sem, reduceIte, Nat.reduceLT, Nat.reduceEqDiff, Nat.reduceAdd, Nat.reduceBEq, Nat.reduceMul, Nat.reduceSub, Nat.reduceGT, Nat.reducePow, Nat.reduceLeDiff, Int.reduceToNat]
    refine run_ret ?_
    refine thenK_r ?_
    obtain rfl := Option.some.inj h
    refine ret_ok (.inr rfl) ?_
    simp only [go_sem, reduceIte, Nat.reduceLT, Nat.reduceEqDiff, Nat.reduceAdd, Nat.reduceBEq, Nat.reduceMul, Nat.reduceSub, Nat.reduceGT, Nat.reducePow, Nat.reduceLeDiff, Int.reduceToNat]
  · replace h := ite_f h hb
    refine run_skip ?_
    refine thenK_n ?_
    replace h := bind_some1 h; obtain ⟨y_3767, hy_3768, h⟩ := h
    refine run_textE hE [0, 3, 4] (fr' := [(0, .sl false (L cU8 b_3764)), (3, .sl false (L cU8 y_3767.1)), (4, i64 y_3767.2)]) (σ' := []) ⟨_, orcs_ok (l := [(11, 11, [.sl false (L cU8 b_3764)], .tup [.sl false (L cU8 y_3767.1), i64 y_3767.2])]) ⟨frame_Make_con hy_3768, trivial⟩, ?_⟩ ?_
    · simp only [go_sem, reduceIte, Nat.reduceLT, Nat.reduceEqDiff, Nat.reduceAdd, Nat.reduceBEq, Nat.reduceMul, Nat.reduceSub, Nat.reduceGT, Nat.reducePow, Nat.reduceLeDiff, Int.reduceToNat]
    refine run_seq ?_
    refine run_textE hE [0, 3, 4, 15] (fr' := [(0, .sl false (L cU8 b_3764)), (3, .sl false (L cU8 y_3767.1)), (4, i64 y_3767.2), (15, .bool ((y_3767.2 != 0)))]) (σ' := []) ⟨_, orcs_nil, ?_⟩ ?_
    · simp only [go_sem, reduceIte, Nat.reduceLT, Nat.reduceEqDiff, Nat.reduceAdd, Nat.reduceBEq, Nat.reduceMul, Nat.reduceSub, Nat.reduceGT, Nat.reducePow, Nat.reduceLeDiff, Int.reduceToNat]
    refine run_condL (b := (y_3767.2 != 0)) rfl (by decide) (fun hb => ?_) (fun hb => ?_)
    · replace h := ite_t h hb
      replace h := bind_some1 h; obtain ⟨t_3769, hv_3770, h⟩ := h
      refine run_textW hE [2] (fr' := [(2, .bool t_3769)]) (σ' := []) ?_ ?_
      · rcases Bool.eq_false_or_eq_true ((y_3767.2 == 2)) with hb_3771 | hb_3771
        · replace hv_3770 := ite_t hv_3770 hb_3771
          have e_hv_3770 := Option.some.inj hv_3770; subst e_hv_3770
          exact ⟨_, [(2, .bool ((decide ((b_3764.length : Int) > 8192))))], [], orcs_nil, by simp only [go_sem, reduceIte, Nat.reduceLT, Nat.reduceEqDiff, Nat.reduceAdd, Nat.reduceBEq, Nat.reduceMul, Nat.reduceSub, Nat.reduceGT, Nat.reducePow, Nat.reduceLeDiff, Int.reduceToNat, hb_3771], (weak_sel [] (by decide) rfl (by simp only [go_sem, reduceIte, Nat.reduceLT, Nat.reduceEqDiff, Nat.reduceAdd, Nat.reduceBEq, Nat.reduceMul, Nat.reduceSub, Nat.reduceGT, Nat.reducePow, Nat.reduceLeDiff, Int.reduceToNat]) (by simp only [go_sem, reduceIte, Nat.reduceLT, Nat.reduceEqDiff, Nat.reduceAdd, Nat.reduceBEq, Nat.reduceMul, Nat.reduceSub, Nat.reduceGT, Nat.reducePow, Nat.reduceLeDiff, Int.reduceToNat]))⟩
        · replace hv_3770 := ite_f hv_3770 hb_3771
          have e_hv_3770 := Option.some.inj hv_3770; subst e_hv_3770
          exact ⟨_, [(2, .bool false)], [], orcs_nil, by simp only [go_sem, reduceIte, Nat.reduceLT, Nat.reduceEqDiff, Nat.reduceAdd, Nat.reduceBEq, Nat.reduceMul, Nat.reduceSub, Nat.reduceGT, Nat.reducePow, Nat.reduceLeDiff, Int.reduceToNat, hb_3771], (weak_sel [] (by decide) rfl (by simp only [go_sem, reduceIte, Nat.reduceLT, Nat.reduceEqDiff, Nat.reduceAdd, Nat.reduceBEq, Nat.reduceMul, Nat.reduceSub, Nat.reduceGT, Nat.reducePow, Nat.reduceLeDiff, Int.reduceToNat]) (by simp only [go_sem, reduceIte, Nat.reduceLT, Nat.reduceEqDiff, Nat.reduceAdd, Nat.reduceBEq, Nat.reduceMul, Nat.reduceSub, Nat.reduceGT, Nat.reducePow, Nat.reduceLeDiff, Int.reduceToNat]))⟩
      refine run_ret ?_
      refine thenK_r ?_
      obtain rfl := Option.some.inj h
      refine ret_ok (.inr rfl) ?_
      simp only [go_sem, reduceIte, Nat.reduceLT, Nat.reduceEqDiff, Nat.reduceAdd, Nat.reduceBEq, Nat.reduceMul, Nat.reduceSub, Nat.reduceGT, Nat.reducePow, Nat.reduceLeDiff, Int.reduceToNat]
    · replace h := ite_f h hb
      refine run_skip ?_
      refine thenK_n ?_
      refine run_textE hE [0, 3, 5] (fr' := [(0, .sl false (L cU8 b_3764)), (3, .sl false (L cU8 y_3767.1)), (5, i64 0)]) (σ' := []) ⟨_, orcs_nil, ?_⟩ ?_
      · simp only [go_sem, reduceIte, Nat.reduceLT, Nat.reduceEqDiff, Nat.reduceAdd, Nat.reduceBEq, Nat.reduceMul, Nat.reduceSub, Nat.reduceGT, Nat.reducePow, Nat.reduceLeDiff, Int.reduceToNat]
      replace h := bind_some1 h; obtain ⟨j_3799, hA_3800, hj_3801⟩ := h
      refine run_join (fun (v : Int) => (⟨asFr 70 [(0, .sl false (L cU8 b_3764)), (3, .sl false (L cU8 y_3767.1)), (5, i64 v)], []⟩ : St)) (fun v => v = j_3799) ?_ ?_
      · have h := hA_3800; clear hA_3800
        refine run_textE hE [0, 3, 5, 6] (fr' := [(0, .sl false (L cU8 b_3764)), (3, .sl false (L cU8 y_3767.1)), (5, i64 0), (6, i64 0)]) (σ' := []) ⟨_, orcs_nil, ?_⟩ ?_
        · simp only [go_sem, reduceIte, Nat.reduceLT, Nat.reduceEqDiff, Nat.reduceAdd, Nat.reduceBEq, Nat.reduceMul, Nat.reduceSub, Nat.reduceGT, Nat.reducePow, Nat.reduceLeDiff, Int.reduceToNat]
        refine run_block ?_
        replace h := bind_some1 h; obtain ⟨x_3817, hx_3818, hj_3819⟩ := h
        refine run_loopO hx_3818 (fun (v : Int × Int) => (⟨asFr 70 [(0, .sl false (L cU8 b_3764)), (3, .sl false (L cU8 y_3767.1)), (5, i64 v.1), (6, i64 v.2)], []⟩ : St)) (weak_sel [] (by decide) rfl (by simp only [go_sem, reduceIte, Nat.reduceLT, Nat.reduceEqDiff, Nat.reduceAdd, Nat.reduceBEq, Nat.reduceMul, Nat.reduceSub, Nat.reduceGT, Nat.reducePow, Nat.reduceLeDiff, Int.reduceToNat]) (by simp only [go_sem, reduceIte, Nat.reduceLT, Nat.reduceEqDiff, Nat.reduceAdd, Nat.reduceBEq, Nat.reduceMul, Nat.reduceSub, Nat.reduceGT, Nat.reducePow, Nat.reduceLeDiff, Int.reduceToNat])) ?_
        rintro ⟨flags_3808, i_3809⟩ o_3820 h hxx_3821
        replace h : law10_FrameTransparent_b1 y_3767 flags_3808 i_3809 = some o_3820 := h
        unfold law10_FrameTransparent_b1 at h
        refine run_seq ?_
        refine run_textE hE [0, 3, 5, 6, 26] (fr' := [(0, .sl false (L cU8 b_3764)), (3, .sl false (L cU8 y_3767.1)), (5, i64 flags_3808), (6, i64 i_3809), (26, .bool ((decide (i_3809 < (y_3767.1.length : Int)))))]) (σ' := []) ⟨_, orcs_nil, ?_⟩ ?_
        · simp only [go_sem, reduceIte, Nat.reduceLT, Nat.reduceEqDiff, Nat.reduceAdd, Nat.reduceBEq, Nat.reduceMul, Nat.reduceSub, Nat.reduceGT, Nat.reducePow, Nat.reduceLeDiff, Int.reduceToNat]
        refine run_condL (b := (decide (i_3809 < (y_3767.1.length : Int)))) rfl (by decide) (fun hb => ?_) (fun hb => ?_)
        · replace h := ite_t h hb
          refine run_skip ?_
          refine thenK_n ?_
          replace h := bind_some1 h; obtain ⟨j_3824, hA_3825, hj_3826⟩ := h
          refine run_join (fun (v : Int) => (⟨asFr 70 [(0, .sl false (L cU8 b_3764)), (3, .sl false (L cU8 y_3767.1)), (5, i64 v), (6, i64 i_3809)], []⟩ : St)) (fun v => v = j_3824) ?_ ?_
          · have h := hA_3825; clear hA_3825
            refine run_block ?_
            replace h := chk_some h; obtain ⟨hc_3827, h⟩ := h
            refine run_textE hE [0, 3, 5, 6, 33] (fr' := [(0, .sl false (L cU8 b_3764)), (3, .sl false (L cU8 y_3767.1)), (5, i64 flags_3808), (6, i64 i_3809), (33, .bool ((nth y_3767.1 i_3809.toNat == (126 : UInt8))))]) (σ' := []) ⟨_, orcs_nil, ?_⟩ ?_
            · simp only [go_sem, reduceIte, Nat.reduceLT, Nat.reduceEqDiff, Nat.reduceAdd, Nat.reduceBEq, Nat.reduceMul, Nat.reduceSub, Nat.reduceGT, Nat.reducePow, Nat.reduceLeDiff, Int.reduceToNat, hc_3827, hc_3827.2, lt_le hc_3827.2]
            refine run_condL (b := (nth y_3767.1 i_3809.toNat == (126 : UInt8))) rfl (by decide) (fun hb => ?_) (fun hb => ?_)
            · replace h := ite_t h hb
              refine run_textE0 hE (wk_block wk_join) [0, 3, 5, 6] (fr' := [(0, .sl false (L cU8 b_3764)), (3, .sl false (L cU8 y_3767.1)), (5, i64 ((w64 (flags_3808 + 1)))), (6, i64 i_3809)]) (σ' := []) ⟨_, orcs_nil, ?_⟩ ?_
              · simp only [go_sem, reduceIte, Nat.reduceLT, Nat.reduceEqDiff, Nat.reduceAdd, Nat.reduceBEq, Nat.reduceMul, Nat.reduceSub, Nat.reduceGT, Nat.reducePow, Nat.reduceLeDiff, Int.reduceToNat]
              refine blockK_n ?_
              obtain rfl := Option.some.inj h
              exact joinK_n ((w64 (flags_3808 + 1))) rfl (weak_sel [] (by decide) rfl (by simp only [go_sem, reduceIte, Nat.reduceLT, Nat.reduceEqDiff, Nat.reduceAdd, Nat.reduceBEq, Nat.reduceMul, Nat.reduceSub, Nat.reduceGT, Nat.reducePow, Nat.reduceLeDiff, Int.reduceToNat]) (by simp only [go_sem, reduceIte, Nat.reduceLT, Nat.reduceEqDiff, Nat.reduceAdd, Nat.reduceBEq, Nat.reduceMul, Nat.reduceSub, Nat.reduceGT, Nat.reducePow, Nat.reduceLeDiff, Int.reduceToNat]))
            · replace h := ite_f h hb
              refine run_skip ?_
              refine blockK_n ?_
              obtain rfl := Option.some.inj h
              exact joinK_n flags_3808 rfl (weak_sel [] (by decide) rfl (by simp only [go_sem, reduceIte, Nat.reduceLT, Nat.reduceEqDiff, Nat.reduceAdd, Nat.reduceBEq, Nat.reduceMul, Nat.reduceSub, Nat.reduceGT, Nat.reducePow, Nat.reduceLeDiff, Int.reduceToNat]) (by simp only [go_sem, reduceIte, Nat.reduceLT, Nat.reduceEqDiff, Nat.reduceAdd, Nat.reduceBEq, Nat.reduceMul, Nat.reduceSub, Nat.reduceGT, Nat.reducePow, Nat.reduceLeDiff, Int.reduceToNat]))
          rintro flags_3823 rfl
          have h := hj_3826; clear hj_3826
          refine run_textE0 hE wk_lp [0, 3, 5, 6] (fr' := [(0, .sl false (L cU8 b_3764)), (3, .sl false (L cU8 y_3767.1)), (5, i64 flags_3823), (6, i64 ((w64 (i_3809 + 1))))]) (σ' := []) ⟨_, orcs_nil, ?_⟩ ?_
          · simp only [go_sem, reduceIte, Nat.reduceLT, Nat.reduceEqDiff, Nat.reduceAdd, Nat.reduceBEq, Nat.reduceMul, Nat.reduceSub, Nat.reduceGT, Nat.reducePow, Nat.reduceLeDiff, Int.reduceToNat]
          obtain rfl := Option.some.inj h
          exact lpK_n ((flags_3823, (w64 (i_3809 + 1)))) rfl (weak_sel [] (by decide) rfl (by simp only [go_sem, reduceIte, Nat.reduceLT, Nat.reduceEqDiff, Nat.reduceAdd, Nat.reduceBEq, Nat.reduceMul, Nat.reduceSub, Nat.reduceGT, Nat.reducePow, Nat.reduceLeDiff, Int.reduceToNat]) (by simp only [go_sem, reduceIte, Nat.reduceLT, Nat.reduceEqDiff, Nat.reduceAdd, Nat.reduceBEq, Nat.reduceMul, Nat.reduceSub, Nat.reduceGT, Nat.reducePow, Nat.reduceLeDiff, Int.reduceToNat]))
        · replace h := ite_f h hb
          refine run_exit ?_
          refine thenK_x ?_
          obtain rfl := Option.some.inj h
          have ex_x_3817 := hxx_3821 _ rfl
          subst ex_x_3817
          have h := hj_3819; clear hj_3819
          refine lpK_x ?_
          refine blockK_x ?_
          obtain rfl := Option.some.inj h
          exact joinK_n flags_3808 rfl ((weak_sel (l' := [(0, .sl false (L cU8 b_3764)), (3, .sl false (L cU8 y_3767.1)), (5, i64 flags_3808)]) (σ' := []) [] (by decide) rfl (by simp only [go_sem, reduceIte, Nat.reduceLT, Nat.reduceEqDiff, Nat.reduceAdd, Nat.reduceBEq, Nat.reduceMul, Nat.reduceSub, Nat.reduceGT, Nat.reducePow, Nat.reduceLeDiff, Int.reduceToNat]) (by simp only [go_sem, reduceIte, Nat.reduceLT, Nat.reduceEqDiff, Nat.reduceAdd, Nat.reduceBEq, Nat.reduceMul, Nat.reduceSub, Nat.reduceGT, Nat.reducePow, Nat.reduceLeDiff, Int.reduceToNat])).trans (weak_sel [] (by decide) rfl (by simp only [go_sem, reduceIte, Nat.reduceLT, Nat.reduceEqDiff, Nat.reduceAdd, Nat.reduceBEq, Nat.reduceMul, Nat.reduceSub, Nat.reduceGT, Nat.reducePow, Nat.reduceLeDiff, Int.reduceToNat]) (by simp only [go_sem, reduceIte, Nat.reduceLT, Nat.reduceEqDiff, Nat.reduceAdd, Nat.reduceBEq, Nat.reduceMul, Nat.reduceSub, Nat.reduceGT, Nat.reducePow, Nat.reduceLeDiff, Int.reduceToNat])))
      rintro flags_3798 rfl
      have h := hj_3801; clear hj_3801
      replace h := bind_some1 h; obtain ⟨t_3828, hv_3829, h⟩ := h
      refine run_textW hE [2] (fr' := [(2, .bool t_3828)]) (σ' := []) ?_ ?_
      · rcases Bool.eq_false_or_eq_true ((decide ((y_3767.1.length : Int) ≥ (w64 ((b_3764.length : Int) + 6))))) with hb_3830 | hb_3830
        · replace hv_3829 := ite_t hv_3829 hb_3830
          rcases Bool.eq_false_or_eq_true ((decide ((y_3767.1.length : Int) ≤ (w64 ((w64 (2 * (b_3764.length : Int))) + 10))))) with hb_3831 | hb_3831
          · replace hv_3829 := ite_t hv_3829 hb_3831
            rcases Bool.eq_false_or_eq_true ((flags_3798 == 2)) with hb_3832 | hb_3832
            · replace hv_3829 := ite_t hv_3829 hb_3832
              replace hv_3829 := chk_some hv_3829; obtain ⟨hc_3833, hv_3829⟩ := hv_3829
              rcases Bool.eq_false_or_eq_true ((nth y_3767.1 0 == (126 : UInt8))) with hb_3834 | hb_3834
              · replace hv_3829 := ite_t hv_3829 hb_3834
                replace hv_3829 := chk_some hv_3829; obtain ⟨hc_3835, hv_3829⟩ := hv_3829
                have e_hv_3829 := Option.some.inj hv_3829; subst e_hv_3829
                exact ⟨_, [(2, .bool ((nth y_3767.1 (((w64 ((y_3767.1.length : Int) - 1))).toNat) == (126 : UInt8))))], [], orcs_nil, by simp only [go_sem, reduceIte, Nat.reduceLT, Nat.reduceEqDiff, Nat.reduceAdd, Nat.reduceBEq, Nat.reduceMul, Nat.reduceSub, Nat.reduceGT, Nat.reducePow, Nat.reduceLeDiff, Int.reduceToNat, hb_3830, hb_3831, hb_3832, hc_3833, (show 0 < y_3767.1.length from hc_3833.2), hb_3834, hc_3835, hc_3835.2, lt_le hc_3835.2], (weak_sel [] (by decide) rfl (by simp only [go_sem, reduceIte, Nat.reduceLT, Nat.reduceEqDiff, Nat.reduceAdd, Nat.reduceBEq, Nat.reduceMul, Nat.reduceSub, Nat.reduceGT, Nat.reducePow, Nat.reduceLeDiff, Int.reduceToNat]) (by simp only [go_sem, reduceIte, Nat.reduceLT, Nat.reduceEqDiff, Nat.reduceAdd, Nat.reduceBEq, Nat.reduceMul, Nat.reduceSub, Nat.reduceGT, Nat.reducePow, Nat.reduceLeDiff, Int.reduceToNat]))⟩
              · replace hv_3829 := ite_f hv_3829 hb_3834
                have e_hv_3829 := Option.some.inj hv_3829; subst e_hv_3829
                exact ⟨_, [(2, .bool false)], [], orcs_nil, by simp only [go_sem, reduceIte, Nat.reduceLT, Nat.reduceEqDiff, Nat.reduceAdd, Nat.reduceBEq, Nat.reduceMul, Nat.reduceSub, Nat.reduceGT, Nat.reducePow, Nat.reduceLeDiff, Int.reduceToNat, hb_3830, hb_3831, hb_3832, hc_3833, (show 0 < y_3767.1.length from hc_3833.2), hb_3834], (weak_sel [] (by decide) rfl (by simp only [go_sem, reduceIte, Nat.reduceLT, Nat.reduceEqDiff, Nat.reduceAdd, Nat.reduceBEq, Nat.reduceMul, Nat.reduceSub, Nat.reduceGT, Nat.reducePow, Nat.reduceLeDiff, Int.reduceToNat]) (by simp only [go_sem, reduceIte, Nat.reduceLT, Nat.reduceEqDiff, Nat.reduceAdd, Nat.reduceBEq, Nat.reduceMul, Nat.reduceSub, Nat.reduceGT, Nat.reducePow, Nat.reduceLeDiff, Int.reduceToNat]))⟩
            · replace hv_3829 := ite_f hv_3829 hb_3832
              have e_hv_3829 := Option.some.inj hv_3829; subst e_hv_3829
              exact ⟨_, [(2, .bool false)], [], orcs_nil, by simp only [go_sem, reduceIte, Nat.reduceLT, Nat.reduceEqDiff, Nat.reduceAdd, Nat.reduceBEq, Nat.reduceMul, Nat.reduceSub, Nat.reduceGT, Nat.reducePow, Nat.reduceLeDiff, Int.reduceToNat, hb_3830, hb_3831, hb_3832], (weak_sel [] (by decide) rfl (by simp only [go_sem, reduceIte, Nat.reduceLT, Nat.reduceEqDiff, Nat.reduceAdd, Nat.reduceBEq, Nat.reduceMul, Nat.reduceSub, Nat.reduceGT, Nat.reducePow, Nat.reduceLeDiff, Int.reduceToNat]) (by simp only [go_sem, reduceIte, Nat.reduceLT, Nat.reduceEqDiff, Nat.reduceAdd, Nat.reduceBEq, Nat.reduceMul, Nat.reduceSub, Nat.reduceGT, Nat.reducePow, Nat.reduceLeDiff, Int.reduceToNat]))⟩
          · replace hv_3829 := ite_f hv_3829 hb_3831
            have e_hv_3829 := Option.some.inj hv_3829; subst e_hv_3829
            exact ⟨_, [(2, .bool false)], [], orcs_nil, by simp only [go_sem, reduceIte, Nat.reduceLT, Nat.reduceEqDiff, Nat.reduceAdd, Nat.reduceBEq, Nat.reduceMul, Nat.reduceSub, Nat.reduceGT, Nat.reducePow, Nat.reduceLeDiff, Int.reduceToNat, hb_3830, hb_3831], (weak_sel [] (by decide) rfl (by simp only [go_sem, reduceIte, Nat.reduceLT, Nat.reduceEqDiff, Nat.reduceAdd, Nat.reduceBEq, Nat.reduceMul, Nat.reduceSub, Nat.reduceGT, Nat.reducePow, Nat.reduceLeDiff, Int.reduceToNat]) (by simp only [go_sem, reduceIte, Nat.reduceLT, Nat.reduceEqDiff, Nat.reduceAdd, Nat.reduceBEq, Nat.reduceMul, Nat.reduceSub, Nat.reduceGT, Nat.reducePow, Nat.reduceLeDiff, Int.reduceToNat]))⟩
        · replace hv_3829 := ite_f hv_3829 hb_3830
          have e_hv_3829 := Option.some.inj hv_3829; subst e_hv_3829
          exact ⟨_, [(2, .bool false)], [], orcs_nil, by simp only [go_sem, reduceIte, Nat.reduceLT, Nat.reduceEqDiff, Nat.reduceAdd, Nat.reduceBEq, Nat.reduceMul, Nat.reduceSub, Nat.reduceGT, Nat.reducePow, Nat.reduceLeDiff, Int.reduceToNat, hb_3830], (weak_sel [] (by decide) rfl (by simp only [go_sem, reduceIte, Nat.reduceLT, Nat.reduceEqDiff, Nat.reduceAdd, Nat.reduceBEq, Nat.reduceMul, Nat.reduceSub, Nat.reduceGT, Nat.reducePow, Nat.reduceLeDiff, Int.reduceToNat]) (by simp only [go_sem, reduceIte, Nat.reduceLT, Nat.reduceEqDiff, Nat.reduceAdd, Nat.reduceBEq, Nat.reduceMul, Nat.reduceSub, Nat.reduceGT, Nat.reducePow, Nat.reduceLeDiff, Int.reduceToNat]))⟩
      refine run_ret ?_
      obtain rfl := Option.some.inj h
      refine ret_ok (.inr rfl) ?_
      simp only [go_sem, reduceIte, Nat.reduceLT, Nat.reduceEqDiff, Nat.reduceAdd, Nat.reduceBEq, Nat.reduceMul, Nat.reduceSub, Nat.reduceGT, Nat.reducePow, Nat.reduceLeDiff, Int.reduceToNat]

end Go.Proofs.Ytneejmndnihaoaa
