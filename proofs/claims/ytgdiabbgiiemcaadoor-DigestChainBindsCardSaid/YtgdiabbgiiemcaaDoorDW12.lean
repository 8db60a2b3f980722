/-
  The functions compute just that.
-/
import Derived.Test.YtgdiabbgiiemcaaDoorDW11
import Derived.KernelRfl
namespace Go.Proofs.YtgdiabbgiiemcaaDoor
open Go.Rv
set_option linter.unusedVariables false
set_option linter.unusedSimpArgs false
set_option maxRecDepth 20000

theorem law02_DigestChainBinds_con {d_2842 : Arr UInt8 32} {l_2843 : List (List UInt8)} {m_2844 : List (List UInt8)} {r : Bool} (h : law02_DigestChainBinds d_2842 l_2843 m_2844 = some r) : Con B 8 [.agg (C1 u8 d_2842.l), .sl false (L (cSl cU8) l_2843), .sl false (L (cSl cU8) m_2844)] [] (fun r' σ' => r' = .bool r ∧ σ' = []) := by
  refine con_walk (N := 113) (rs := [.tmp 6]) ok Tryd.func8 rfl (by decide +kernel) rfl rfl (Nat.le_of_ble_eq_true rfl) (fun F => ?_)
  have hE := ok.env F
  unfold law02_DigestChainBinds at h
  show Run (B.env F) 0 _ ⟨asFr 113 [(0, .agg (C1 u8 d_2842.l)), (1, .sl false (L (cSl cU8) l_2843)), (2, .sl false (L (cSl cU8) m_2844))], []⟩ _
  refine run_textE hE [1, 2, 3] (fr' := [(1, .sl false (L (cSl cU8) l_2843)), (2, .sl false (L (cSl cU8) m_2844)), (3, .ref 0 0)]) (σ' := [.box (C1 u8 d_2842.l) false]) ⟨_, orcs_nil, ?_⟩ ?_
  · simp only [go_sem, reduceIte, Nat.reduceLT, Nat.reduceEqDiff, Nat.reduceAdd, Nat.reduceBEq, Nat.reduceMul, Nat.reduceSub, Nat.reduceGT, Nat.reducePow, Nat.reduceLeDiff, Int.reduceToNat]
  refine run_seq ?_
  replace h := bind_some1 h; obtain ⟨y_2845, hy_2846, h⟩ := h
  refine run_textE hE [1, 2, 3, 14] (fr' := [(1, .sl false (L (cSl cU8) l_2843)), (2, .sl false (L (cSl cU8) m_2844)), (3, .ref 0 0), (14, .bool ((!y_2845)))]) (σ' := [.box (C1 u8 d_2842.l) false]) ⟨_, orcs_ok (l := [(13, 11, [], .bool y_2845)]) ⟨law02_sane_con hy_2846, trivial⟩, ?_⟩ ?_
  · simp only [go_sem, reduceIte, Nat.reduceLT, Nat.reduceEqDiff, Nat.reduceAdd, Nat.reduceBEq, Nat.reduceMul, Nat.reduceSub, Nat.reduceGT, Nat.reducePow, Nat.reduceLeDiff, Int.reduceToNat]
  refine run_condL (b := (!y_2845)) rfl (by decide) (fun hb => ?_) (fun hb => ?_)
  · replace h := ite_t h hb
    refine run_textE hE [6] (fr' := [(6, .bool false)]) (σ' := [.box (C1 u8 d_2842.l) false]) ⟨_, orcs_nil, ?_⟩ ?_
    · simp only [go_sem, reduceIte, Nat.reduceLT, Nat.reduceEqDiff, Nat.reduceAdd, Nat.reduceBEq, Nat.reduceMul, Nat.reduceSub, Nat.reduceGT, Nat.reducePow, Nat.reduceLeDiff, Int.reduceToNat]
    refine run_ret ?_
    refine thenK_r ?_
    obtain rfl := Option.some.inj h
    refine ret_ok (.inr rfl) ?_
    simp only [go_sem, reduceIte, Nat.reduceLT, Nat.reduceEqDiff, Nat.reduceAdd, Nat.reduceBEq, Nat.reduceMul, Nat.reduceSub, Nat.reduceGT, Nat.reducePow, Nat.reduceLeDiff, Int.reduceToNat]
  · replace h := ite_f h hb
    refine run_skip ?_
    refine thenK_n ?_
    refine run_seq ?_
    replace h := bind_some1 h; obtain ⟨t_2849, hv_2850, h⟩ := h
    refine run_textW hE [1, 2, 3, 27] (fr' := [(1, .sl false (L (cSl cU8) l_2843)), (2, .sl false (L (cSl cU8) m_2844)), (3, .ref 0 0), (27, .bool t_2849)]) (σ' := [.box (C1 u8 d_2842.l) false]) ?_ ?_
    · rcases Bool.eq_false_or_eq_true (((l_2843.length : Int) != (m_2844.length : Int))) with hb_2851 | hb_2851
      · replace hv_2850 := ite_t hv_2850 hb_2851
        have e_hv_2850 := Option.some.inj hv_2850; subst e_hv_2850
        exact ⟨_, [(1, .sl false (L (cSl cU8) l_2843)), (2, .sl false (L (cSl cU8) m_2844)), (3, .ref 0 0), (27, .bool true)], [.box (C1 u8 d_2842.l) false], orcs_nil, by simp only [go_sem, reduceIte, Nat.reduceLT, Nat.reduceEqDiff, Nat.reduceAdd, Nat.reduceBEq, Nat.reduceMul, Nat.reduceSub, Nat.reduceGT, Nat.reducePow, Nat.reduceLeDiff, Int.reduceToNat, hb_2851], (weak_sel [0] (by decide) rfl (by simp only [go_sem, reduceIte, Nat.reduceLT, Nat.reduceEqDiff, Nat.reduceAdd, Nat.reduceBEq, Nat.reduceMul, Nat.reduceSub, Nat.reduceGT, Nat.reducePow, Nat.reduceLeDiff, Int.reduceToNat]) (by simp only [go_sem, reduceIte, Nat.reduceLT, Nat.reduceEqDiff, Nat.reduceAdd, Nat.reduceBEq, Nat.reduceMul, Nat.reduceSub, Nat.reduceGT, Nat.reducePow, Nat.reduceLeDiff, Int.reduceToNat]))⟩
      · replace hv_2850 := ite_f hv_2850 hb_2851
        replace hv_2850 := bind_some1 hv_2850; obtain ⟨y_2847, hy_2852, hv_2850⟩ := hv_2850
        rcases Bool.eq_false_or_eq_true y_2847 with hb_2853 | hb_2853
        · replace hv_2850 := ite_t hv_2850 hb_2853
          have e_hv_2850 := Option.some.inj hv_2850; subst e_hv_2850
          exact ⟨_, [(1, .sl false (L (cSl cU8) l_2843)), (2, .sl false (L (cSl cU8) m_2844)), (3, .ref 0 0), (27, .bool true)], [.box (C1 u8 d_2842.l) false], orcs_ok (l := [(22, 24, [.sl false (L (cSl cU8) l_2843)], .bool y_2847)]) ⟨law02_long_con hy_2852, trivial⟩, by simp only [go_sem, reduceIte, Nat.reduceLT, Nat.reduceEqDiff, Nat.reduceAdd, Nat.reduceBEq, Nat.reduceMul, Nat.reduceSub, Nat.reduceGT, Nat.reducePow, Nat.reduceLeDiff, Int.reduceToNat, hb_2851, hb_2853], (weak_sel [0] (by decide) rfl (by simp only [go_sem, reduceIte, Nat.reduceLT, Nat.reduceEqDiff, Nat.reduceAdd, Nat.reduceBEq, Nat.reduceMul, Nat.reduceSub, Nat.reduceGT, Nat.reducePow, Nat.reduceLeDiff, Int.reduceToNat]) (by simp only [go_sem, reduceIte, Nat.reduceLT, Nat.reduceEqDiff, Nat.reduceAdd, Nat.reduceBEq, Nat.reduceMul, Nat.reduceSub, Nat.reduceGT, Nat.reducePow, Nat.reduceLeDiff, Int.reduceToNat]))⟩
        · replace hv_2850 := ite_f hv_2850 hb_2853
          replace hv_2850 := bind_some1 hv_2850; obtain ⟨y_2848, hy_2854, hv_2850⟩ := hv_2850
          have e_hv_2850 := Option.some.inj hv_2850; subst e_hv_2850
          exact ⟨_, [(1, .sl false (L (cSl cU8) l_2843)), (2, .sl false (L (cSl cU8) m_2844)), (3, .ref 0 0), (27, .bool y_2848)], [.box (C1 u8 d_2842.l) false], orcs_ok (l := [(22, 24, [.sl false (L (cSl cU8) l_2843)], .bool y_2847), (26, 24, [.sl false (L (cSl cU8) m_2844)], .bool y_2848)]) ⟨law02_long_con hy_2852, law02_long_con hy_2854, trivial⟩, by simp only [go_sem, reduceIte, Nat.reduceLT, Nat.reduceEqDiff, Nat.reduceAdd, Nat.reduceBEq, Nat.reduceMul, Nat.reduceSub, Nat.reduceGT, Nat.reducePow, Nat.reduceLeDiff, Int.reduceToNat, hb_2851, hb_2853], (weak_sel [0] (by decide) rfl (by simp only [go_sem, reduceIte, Nat.reduceLT, Nat.reduceEqDiff, Nat.reduceAdd, Nat.reduceBEq, Nat.reduceMul, Nat.reduceSub, Nat.reduceGT, Nat.reducePow, Nat.reduceLeDiff, Int.reduceToNat]) (by simp only [go_sem, reduceIte, Nat.reduceLT, Nat.reduceEqDiff, Nat.reduceAdd, Nat.reduceBEq, Nat.reduceMul, Nat.reduceSub, Nat.reduceGT, Nat.reducePow, Nat.reduceLeDiff, Int.reduceToNat]))⟩
    refine run_condL (b := t_2849) rfl (by decide) (fun hb => ?_) (fun hb => ?_)
    · replace h := ite_t h hb
      refine run_textE hE [6] (fr' := [(6, .bool true)]) (σ' := [.box (C1 u8 d_2842.l) false]) ⟨_, orcs_nil, ?_⟩ ?_
      · simp only [go_sem, reduceIte, Nat.reduceLT, Nat.reduceEqDiff, Nat.reduceAdd, Nat.reduceBEq, Nat.reduceMul, Nat.reduceSub, Nat.reduceGT, Nat.reducePow, Nat.reduceLeDiff, Int.reduceToNat]
      refine run_ret ?_
      refine thenK_r ?_
      obtain rfl := Option.some.inj h
      refine ret_ok (.inr rfl) ?_
      simp only [go_sem, reduceIte, Nat.reduceLT, Nat.reduceEqDiff, Nat.reduceAdd, Nat.reduceBEq, Nat.reduceMul, Nat.reduceSub, Nat.reduceGT, Nat.reducePow, Nat.reduceLeDiff, Int.reduceToNat]
    · replace h := ite_f h hb
      refine run_skip ?_
      refine thenK_n ?_
      replace h := bind_some1 h; obtain ⟨y_2855, hy_2856, h⟩ := h
      refine run_textE hE [1, 2, 3, 7] (fr' := [(1, .sl false (L (cSl cU8) l_2843)), (2, .sl false (L (cSl cU8) m_2844)), (3, .ref 0 0), (7, .sl false (L (cArr u8 32) y_2855))]) (σ' := [.box (C1 u8 d_2842.l) false]) ⟨_, orcs_ok (l := [(30, 25, [.agg (C1 u8 d_2842.l), .sl false (L (cSl cU8) l_2843)], .sl false (L (cArr u8 32) y_2855))]) ⟨law02_chain_con hy_2856, trivial⟩, ?_⟩ ?_
      · simp only [go_sem, reduceIte, Nat.reduceLT, Nat.reduceEqDiff, Nat.reduceAdd, Nat.reduceBEq, Nat.reduceMul, Nat.reduceSub, Nat.reduceGT, Nat.reducePow, Nat.reduceLeDiff, Int.reduceToNat]
      replace h := bind_some1 h; obtain ⟨y_2857, hy_2858, h⟩ := h
      refine run_textE hE [1, 2, 7, 8] (fr' := [(1, .sl false (L (cSl cU8) l_2843)), (2, .sl false (L (cSl cU8) m_2844)), (7, .sl false (L (cArr u8 32) y_2855)), (8, .sl false (L (cArr u8 32) y_2857))]) (σ' := [.box (C1 u8 d_2842.l) false]) ⟨_, orcs_ok (l := [(33, 25, [.agg (C1 u8 d_2842.l), .sl false (L (cSl cU8) m_2844)], .sl false (L (cArr u8 32) y_2857))]) ⟨law02_chain_con hy_2858, trivial⟩, ?_⟩ ?_
      · simp only [go_sem, reduceIte, Nat.reduceLT, Nat.reduceEqDiff, Nat.reduceAdd, Nat.reduceBEq, Nat.reduceMul, Nat.reduceSub, Nat.reduceGT, Nat.reducePow, Nat.reduceLeDiff, Int.reduceToNat]
      refine run_textE hE [1, 2, 7, 8, 9] (fr' := [(1, .sl false (L (cSl cU8) l_2843)), (2, .sl false (L (cSl cU8) m_2844)), (7, .sl false (L (cArr u8 32) y_2855)), (8, .sl false (L (cArr u8 32) y_2857)), (9, i64 ((l_2843.length : Int)))]) (σ' := [.box (C1 u8 d_2842.l) false]) ⟨_, orcs_nil, ?_⟩ ?_
      · simp only [go_sem, reduceIte, Nat.reduceLT, Nat.reduceEqDiff, Nat.reduceAdd, Nat.reduceBEq, Nat.reduceMul, Nat.reduceSub, Nat.reduceGT, Nat.reducePow, Nat.reduceLeDiff, Int.reduceToNat]
      replace h := bind_some1 h; obtain ⟨j_2921, hA_2922, hj_2923⟩ := h
      refine run_join (fun (v : Unit) => (⟨asFr 113 [(1, .sl false (L (cSl cU8) l_2843)), (2, .sl false (L (cSl cU8) m_2844)), (7, .sl false (L (cArr u8 32) y_2855)), (8, .sl false (L (cArr u8 32) y_2857)), (9, i64 ((l_2843.length : Int)))], []⟩ : St)) (fun v => .inl v = j_2921) ?_ ?_
      · have h := hA_2922; clear hA_2922
        replace h := chk_some h; obtain ⟨hc_2924, h⟩ := h
        replace h := chk_some h; obtain ⟨hc_2925, h⟩ := h
        replace h := lt1_some h; obtain ⟨t_2926, hz_2927, h⟩ := h
        refine run_drawE hE mixed [[], [], [0, 1], [0, 1, 2], [], [], [4, 5], [4, 5, 6], [0, 1, 2, 3, 4, 5, 6, 7]] (by kernel_rfl) (by kernel_rfl) [1, 2, 7, 8, 9, 44] (fr' := [(1, .sl false (L (cSl cU8) l_2843)), (2, .sl false (L (cSl cU8) m_2844)), (7, .sl false (L (cArr u8 32) y_2855)), (8, .sl false (L (cArr u8 32) y_2857)), (9, i64 ((l_2843.length : Int))), (44, .bool t_2926)]) (σ' := [.box (C1 u8 d_2842.l) false]) ⟨_, orcs_nil, ?_⟩ ?_
        · subst hz_2927; simp only [go_sem, reduceIte, Nat.reduceLT, Nat.reduceEqDiff, Nat.reduceAdd, Nat.reduceBEq, Nat.reduceMul, Nat.reduceSub, Nat.reduceGT, Nat.reducePow, Nat.reduceLeDiff, Int.reduceToNat, hc_2924, hc_2924.2, lt_le hc_2924.2, hc_2925, hc_2925.2, lt_le hc_2925.2]
        refine run_condL (b := t_2926) rfl (by decide) (fun hb => ?_) (fun hb => ?_)
        · replace h := ite_t h hb
          replace h := bind_some1 h; obtain ⟨j_2955, hA_2956, hj_2957⟩ := h
          refine run_join (fun (v : Unit) => (⟨asFr 113 [], []⟩ : St)) (fun v => .inl v = j_2955) ?_ ?_
          · have h := hA_2956; clear hA_2956
            refine run_textE hE [1, 2, 9, 10] (fr' := [(1, .sl false (L (cSl cU8) l_2843)), (2, .sl false (L (cSl cU8) m_2844)), (9, i64 ((l_2843.length : Int))), (10, i64 0)]) (σ' := [.box (C1 u8 d_2842.l) false]) ⟨_, orcs_nil, ?_⟩ ?_
            · simp only [go_sem, reduceIte, Nat.reduceLT, Nat.reduceEqDiff, Nat.reduceAdd, Nat.reduceBEq, Nat.reduceMul, Nat.reduceSub, Nat.reduceGT, Nat.reducePow, Nat.reduceLeDiff, Int.reduceToNat]
            refine run_block ?_
            replace h := bind_some1 h; obtain ⟨x_2973, hx_2974, hj_2975⟩ := h
            refine run_loopO hx_2974 (fun (v : Int) => (⟨asFr 113 [(1, .sl false (L (cSl cU8) l_2843)), (2, .sl false (L (cSl cU8) m_2844)), (9, i64 ((l_2843.length : Int))), (10, i64 v)], []⟩ : St)) (weak_sel [] (by decide) rfl (by simp only [go_sem, reduceIte, Nat.reduceLT, Nat.reduceEqDiff, Nat.reduceAdd, Nat.reduceBEq, Nat.reduceMul, Nat.reduceSub, Nat.reduceGT, Nat.reducePow, Nat.reduceLeDiff, Int.reduceToNat]) (by simp only [go_sem, reduceIte, Nat.reduceLT, Nat.reduceEqDiff, Nat.reduceAdd, Nat.reduceBEq, Nat.reduceMul, Nat.reduceSub, Nat.reduceGT, Nat.reducePow, Nat.reduceLeDiff, Int.reduceToNat])) ?_
            rintro i_2965 o_2976 h hxx_2977
            replace h : law02_DigestChainBinds_b1 l_2843 m_2844 i_2965 = some o_2976 := h
            unfold law02_DigestChainBinds_b1 at h
            refine run_seq ?_
            refine run_textE hE [1, 2, 9, 10, 47] (fr' := [(1, .sl false (L (cSl cU8) l_2843)), (2, .sl false (L (cSl cU8) m_2844)), (9, i64 ((l_2843.length : Int))), (10, i64 i_2965), (47, .bool ((decide (i_2965 < (l_2843.length : Int)))))]) (σ' := []) ⟨_, orcs_nil, ?_⟩ ?_
            · simp only [go_sem, reduceIte, Nat.reduceLT, Nat.reduceEqDiff, Nat.reduceAdd, Nat.reduceBEq, Nat.reduceMul, Nat.reduceSub, Nat.reduceGT, Nat.reducePow, Nat.reduceLeDiff, Int.reduceToNat]
            refine run_condL (b := (decide (i_2965 < (l_2843.length : Int)))) rfl (by decide) (fun hb => ?_) (fun hb => ?_)
            · replace h := ite_t h hb
              refine run_skip ?_
              refine thenK_n ?_
              refine run_seq ?_
              refine run_block ?_
              replace h := chk_some h; obtain ⟨hc_2979, h⟩ := h
              replace h := chk_some h; obtain ⟨hc_2980, h⟩ := h
              replace h := bind_some1 h; obtain ⟨y_2978, hy_2981, h⟩ := h
              refine run_drawE hE mixed [[], [], [0, 1], [0, 1, 2], [], [], [4, 5], [4, 5, 6], [0, 1, 2, 3, 4, 5, 6, 7], [0, 1, 2, 3, 4, 5, 6, 7, 8]] (by kernel_rfl) (by kernel_rfl) [1, 2, 9, 10, 59] (fr' := [(1, .sl false (L (cSl cU8) l_2843)), (2, .sl false (L (cSl cU8) m_2844)), (9, i64 ((l_2843.length : Int))), (10, i64 i_2965), (59, .bool ((!y_2978)))]) (σ' := []) ⟨_, orcs_ok (l := [(58, 21, [.sl false (L cU8 (nth l_2843 i_2965.toNat)), .sl false (L cU8 (nth m_2844 i_2965.toNat))], .bool y_2978)]) ⟨r02_Same_con hy_2981, trivial⟩, ?_⟩ ?_
              · simp only [go_sem, reduceIte, Nat.reduceLT, Nat.reduceEqDiff, Nat.reduceAdd, Nat.reduceBEq, Nat.reduceMul, Nat.reduceSub, Nat.reduceGT, Nat.reducePow, Nat.reduceLeDiff, Int.reduceToNat, hc_2979, hc_2979.2, lt_le hc_2979.2, hc_2980, hc_2980.2, lt_le hc_2980.2]
              refine run_condL (b := (!y_2978)) rfl (by decide) (fun hb => ?_) (fun hb => ?_)
              · replace h := ite_t h hb
                refine run_textE hE [6] (fr' := [(6, .bool true)]) (σ' := []) ⟨_, orcs_nil, ?_⟩ ?_
                · simp only [go_sem, reduceIte, Nat.reduceLT, Nat.reduceEqDiff, Nat.reduceAdd, Nat.reduceBEq, Nat.reduceMul, Nat.reduceSub, Nat.reduceGT, Nat.reducePow, Nat.reduceLeDiff, Int.reduceToNat]
                refine run_ret ?_
                refine blockK_r ?_
                refine thenK_r ?_
                refine lpK_r ?_
                replace h := bind_some1 h; obtain ⟨z_2984, h, e_z_2984⟩ := h
                obtain rfl := Option.some.inj e_z_2984
                have ex_z_2984 := hxx_2977 _ rfl
                subst ex_z_2984
                obtain rfl := Option.some.inj hj_2975
                refine blockK_r ?_
                refine joinK_r ?_
                replace h := bind_some1 h; obtain ⟨z_2983, h, e_z_2983⟩ := h
                obtain rfl := Option.some.inj e_z_2983
                obtain rfl := Option.some.inj hj_2957
                refine joinK_r ?_
                replace h := bind_some1 h; obtain ⟨z_2982, h, e_z_2982⟩ := h
                obtain rfl := Option.some.inj e_z_2982
                obtain rfl := Option.some.inj hj_2923
                obtain rfl := Option.some.inj h
                refine ret_ok (.inr rfl) ?_
                simp only [go_sem, reduceIte, Nat.reduceLT, Nat.reduceEqDiff, Nat.reduceAdd, Nat.reduceBEq, Nat.reduceMul, Nat.reduceSub, Nat.reduceGT, Nat.reducePow, Nat.reduceLeDiff, Int.reduceToNat]
              · replace h := ite_f h hb
                refine run_skip ?_
                refine blockK_n ?_
                refine thenK_n ?_
                refine run_textE0 hE wk_lp [1, 2, 9, 10] (fr' := [(1, .sl false (L (cSl cU8) l_2843)), (2, .sl false (L (cSl cU8) m_2844)), (9, i64 ((l_2843.length : Int))), (10, i64 ((w64 (i_2965 + 1))))]) (σ' := []) ⟨_, orcs_nil, ?_⟩ ?_
                · simp only [go_sem, reduceIte, Nat.reduceLT, Nat.reduceEqDiff, Nat.reduceAdd, Nat.reduceBEq, Nat.reduceMul, Nat.reduceSub, Nat.reduceGT, Nat.reducePow, Nat.reduceLeDiff, Int.reduceToNat]
                obtain rfl := Option.some.inj h
                exact lpK_n ((w64 (i_2965 + 1))) rfl (weak_sel [] (by decide) rfl (by simp only [go_sem, reduceIte, Nat.reduceLT, Nat.reduceEqDiff, Nat.reduceAdd, Nat.reduceBEq, Nat.reduceMul, Nat.reduceSub, Nat.reduceGT, Nat.reducePow, Nat.reduceLeDiff, Int.reduceToNat]) (by simp only [go_sem, reduceIte, Nat.reduceLT, Nat.reduceEqDiff, Nat.reduceAdd, Nat.reduceBEq, Nat.reduceMul, Nat.reduceSub, Nat.reduceGT, Nat.reducePow, Nat.reduceLeDiff, Int.reduceToNat]))
            · replace h := ite_f h hb
              refine run_exit ?_
              refine thenK_x ?_
              obtain rfl := Option.some.inj h
              have ex_x_2973 := hxx_2977 _ rfl
              subst ex_x_2973
              have h := hj_2975; clear hj_2975
              refine lpK_x ?_
              refine blockK_x ?_
              obtain rfl := Option.some.inj h
              exact joinK_n (()) rfl ((weak_sel (l' := []) (σ' := []) [] (by decide) rfl (by simp only [go_sem, reduceIte, Nat.reduceLT, Nat.reduceEqDiff, Nat.reduceAdd, Nat.reduceBEq, Nat.reduceMul, Nat.reduceSub, Nat.reduceGT, Nat.reducePow, Nat.reduceLeDiff, Int.reduceToNat]) (by simp only [go_sem, reduceIte, Nat.reduceLT, Nat.reduceEqDiff, Nat.reduceAdd, Nat.reduceBEq, Nat.reduceMul, Nat.reduceSub, Nat.reduceGT, Nat.reducePow, Nat.reduceLeDiff, Int.reduceToNat])).trans (weak_sel [] (by decide) rfl (by simp only [go_sem, reduceIte, Nat.reduceLT, Nat.reduceEqDiff, Nat.reduceAdd, Nat.reduceBEq, Nat.reduceMul, Nat.reduceSub, Nat.reduceGT, Nat.reducePow, Nat.reduceLeDiff, Int.reduceToNat]) (by simp only [go_sem, reduceIte, Nat.reduceLT, Nat.reduceEqDiff, Nat.reduceAdd, Nat.reduceBEq, Nat.reduceMul, Nat.reduceSub, Nat.reduceGT, Nat.reducePow, Nat.reduceLeDiff, Int.reduceToNat])))
          rintro ⟨⟩ rfl
          have h := hj_2957; clear hj_2957
          refine run_textE hE [6] (fr' := [(6, .bool false)]) (σ' := []) ⟨_, orcs_nil, ?_⟩ ?_
          · simp only [go_sem, reduceIte, Nat.reduceLT, Nat.reduceEqDiff, Nat.reduceAdd, Nat.reduceBEq, Nat.reduceMul, Nat.reduceSub, Nat.reduceGT, Nat.reducePow, Nat.reduceLeDiff, Int.reduceToNat]
          refine run_ret ?_
          refine joinK_r ?_
          replace h := bind_some1 h; obtain ⟨z_2985, h, e_z_2985⟩ := h
          obtain rfl := Option.some.inj e_z_2985
          obtain rfl := Option.some.inj hj_2923
          obtain rfl := Option.some.inj h
          refine ret_ok (.inr rfl) ?_
          simp only [go_sem, reduceIte, Nat.reduceLT, Nat.reduceEqDiff, Nat.reduceAdd, Nat.reduceBEq, Nat.reduceMul, Nat.reduceSub, Nat.reduceGT, Nat.reducePow, Nat.reduceLeDiff, Int.reduceToNat]
        · replace h := ite_f h hb
          refine run_skip ?_
          obtain rfl := Option.some.inj h
          exact joinK_n (()) rfl (weak_sel [] (by decide) rfl (by simp only [go_sem, reduceIte, Nat.reduceLT, Nat.reduceEqDiff, Nat.reduceAdd, Nat.reduceBEq, Nat.reduceMul, Nat.reduceSub, Nat.reduceGT, Nat.reducePow, Nat.reduceLeDiff, Int.reduceToNat]) (by simp only [go_sem, reduceIte, Nat.reduceLT, Nat.reduceEqDiff, Nat.reduceAdd, Nat.reduceBEq, Nat.reduceMul, Nat.reduceSub, Nat.reduceGT, Nat.reducePow, Nat.reduceLeDiff, Int.reduceToNat]))
      rintro ⟨⟩ rfl
      have h := hj_2923; clear hj_2923
      replace h := bind_some1 h; obtain ⟨j_3099, hA_3100, hj_3101⟩ := h
      refine run_join (fun (v : Unit) => (⟨asFr 113 [(1, .sl false (L (cSl cU8) l_2843)), (2, .sl false (L (cSl cU8) m_2844)), (9, i64 ((l_2843.length : Int)))], []⟩ : St)) (fun v => .inl v = j_3099) ?_ ?_
      · have h := hA_3100; clear hA_3100
        replace h := lt1_some h; obtain ⟨i_3102, hz_3103, h⟩ := h
        refine run_textE hE [1, 2, 7, 8, 9, 11] (fr' := [(1, .sl false (L (cSl cU8) l_2843)), (2, .sl false (L (cSl cU8) m_2844)), (7, .sl false (L (cArr u8 32) y_2855)), (8, .sl false (L (cArr u8 32) y_2857)), (9, i64 ((l_2843.length : Int))), (11, i64 i_3102)]) (σ' := []) ⟨_, orcs_nil, ?_⟩ ?_
        · subst hz_3103; simp only [go_sem, reduceIte, Nat.reduceLT, Nat.reduceEqDiff, Nat.reduceAdd, Nat.reduceBEq, Nat.reduceMul, Nat.reduceSub, Nat.reduceGT, Nat.reducePow, Nat.reduceLeDiff, Int.reduceToNat]
        refine run_block ?_
        replace h := bind_some1 h; obtain ⟨x_3175, hx_3176, hj_3177⟩ := h
        refine run_loopO hx_3176 (fun (v : Int) => (⟨asFr 113 [(1, .sl false (L (cSl cU8) l_2843)), (2, .sl false (L (cSl cU8) m_2844)), (7, .sl false (L (cArr u8 32) y_2855)), (8, .sl false (L (cArr u8 32) y_2857)), (9, i64 ((l_2843.length : Int))), (11, i64 v)], []⟩ : St)) (weak_sel [] (by decide) rfl (by simp only [go_sem, reduceIte, Nat.reduceLT, Nat.reduceEqDiff, Nat.reduceAdd, Nat.reduceBEq, Nat.reduceMul, Nat.reduceSub, Nat.reduceGT, Nat.reducePow, Nat.reduceLeDiff, Int.reduceToNat]) (by simp only [go_sem, reduceIte, Nat.reduceLT, Nat.reduceEqDiff, Nat.reduceAdd, Nat.reduceBEq, Nat.reduceMul, Nat.reduceSub, Nat.reduceGT, Nat.reducePow, Nat.reduceLeDiff, Int.reduceToNat])) ?_
        rintro i_3139 o_3178 h hxx_3179
        replace h : law02_DigestChainBinds_b2 l_2843 m_2844 y_2855 y_2857 i_3139 = some o_3178 := h
        unfold law02_DigestChainBinds_b2 at h
        refine run_seq ?_
        refine run_textE hE [1, 2, 7, 8, 9, 11, 63] (fr' := [(1, .sl false (L (cSl cU8) l_2843)), (2, .sl false (L (cSl cU8) m_2844)), (7, .sl false (L (cArr u8 32) y_2855)), (8, .sl false (L (cArr u8 32) y_2857)), (9, i64 ((l_2843.length : Int))), (11, i64 i_3139), (63, .bool ((decide (i_3139 ≥ 0))))]) (σ' := []) ⟨_, orcs_nil, ?_⟩ ?_
        · simp only [go_sem, reduceIte, Nat.reduceLT, Nat.reduceEqDiff, Nat.reduceAdd, Nat.reduceBEq, Nat.reduceMul, Nat.reduceSub, Nat.reduceGT, Nat.reducePow, Nat.reduceLeDiff, Int.reduceToNat]
        refine run_condL (b := (decide (i_3139 ≥ 0))) rfl (by decide) (fun hb => ?_) (fun hb => ?_)
        · replace h := ite_t h hb
          refine run_skip ?_
          refine thenK_n ?_
          replace h := bind_some1 h; obtain ⟨j_3196, hA_3197, hj_3198⟩ := h
          refine run_join (fun (v : Unit) => (⟨asFr 113 [(1, .sl false (L (cSl cU8) l_2843)), (2, .sl false (L (cSl cU8) m_2844)), (7, .sl false (L (cArr u8 32) y_2855)), (8, .sl false (L (cArr u8 32) y_2857)), (9, i64 ((l_2843.length : Int))), (11, i64 i_3139)], []⟩ : St)) (fun v => .inl v = j_3196) ?_ ?_
          · have h := hA_3197; clear hA_3197
            refine run_block ?_
            replace h := bind_some1 h; obtain ⟨t_3200, hv_3201, h⟩ := h
            refine run_drawW hE mixed [[], [], [0, 1], [0, 1, 2], [], [], [4, 5], [4, 5, 6], [0, 1, 2, 3, 4, 5, 6, 7], [0, 1, 2, 3, 4, 5, 6, 7, 8], [0, 1, 2, 3, 4, 5, 6, 7, 8, 9], [0, 1, 2, 3, 4, 5, 6, 7, 8, 9], [0, 1, 2, 3, 4, 5, 6, 7, 8, 9, 10, 11], [0, 1, 2, 3, 4, 5, 6, 7, 8, 9, 10, 11, 12], [0, 1, 2, 3, 4, 5, 6, 7, 8, 9], [0, 1, 2, 3, 4, 5, 6, 7, 8, 9], [0, 1, 2, 3, 4, 5, 6, 7, 8, 9, 14, 15], [0, 1, 2, 3, 4, 5, 6, 7, 8, 9, 14, 15, 16], [0, 1, 2, 3, 4, 5, 6, 7, 8, 9, 10, 11, 12, 13, 14, 15, 16, 17], [0, 1, 2, 3, 4, 5, 6, 7, 8, 9, 10, 11, 12, 13, 14, 15, 16, 17, 18], [0, 1, 2, 3, 4, 5, 6, 7, 8, 9, 10, 11, 12, 13, 14, 15, 16, 17, 18, 19]] (by kernel_rfl) (by kernel_rfl) [1, 2, 7, 8, 9, 11, 86] (fr' := [(1, .sl false (L (cSl cU8) l_2843)), (2, .sl false (L (cSl cU8) m_2844)), (7, .sl false (L (cArr u8 32) y_2855)), (8, .sl false (L (cArr u8 32) y_2857)), (9, i64 ((l_2843.length : Int))), (11, i64 i_3139), (86, .bool t_3200)]) (σ' := []) ?_ ?_
            · replace hv_3201 := chk_some hv_3201; obtain ⟨hc_3202, hv_3201⟩ := hv_3201
              replace hv_3201 := chk_some hv_3201; obtain ⟨hc_3203, hv_3201⟩ := hv_3201
              rcases Bool.eq_false_or_eq_true ((!(nth y_2855 i_3139.toNat == nth y_2857 i_3139.toNat))) with hb_3204 | hb_3204
              · replace hv_3201 := ite_t hv_3201 hb_3204
                have e_hv_3201 := Option.some.inj hv_3201; subst e_hv_3201
                exact ⟨_, [(1, .sl false (L (cSl cU8) l_2843)), (2, .sl false (L (cSl cU8) m_2844)), (7, .sl false (L (cArr u8 32) y_2855)), (8, .sl false (L (cArr u8 32) y_2857)), (9, i64 ((l_2843.length : Int))), (11, i64 i_3139), (86, .bool true)], [], orcs_nil, by simp only [go_sem, reduceIte, Nat.reduceLT, Nat.reduceEqDiff, Nat.reduceAdd, Nat.reduceBEq, Nat.reduceMul, Nat.reduceSub, Nat.reduceGT, Nat.reducePow, Nat.reduceLeDiff, Int.reduceToNat, hc_3202, hc_3202.2, lt_le hc_3202.2, hc_3203, hc_3203.2, lt_le hc_3203.2, hb_3204], (weak_sel [] (by decide) rfl (by simp only [go_sem, reduceIte, Nat.reduceLT, Nat.reduceEqDiff, Nat.reduceAdd, Nat.reduceBEq, Nat.reduceMul, Nat.reduceSub, Nat.reduceGT, Nat.reducePow, Nat.reduceLeDiff, Int.reduceToNat]) (by simp only [go_sem, reduceIte, Nat.reduceLT, Nat.reduceEqDiff, Nat.reduceAdd, Nat.reduceBEq, Nat.reduceMul, Nat.reduceSub, Nat.reduceGT, Nat.reducePow, Nat.reduceLeDiff, Int.reduceToNat]))⟩
              · replace hv_3201 := ite_f hv_3201 hb_3204
                replace hv_3201 := chk_some hv_3201; obtain ⟨hc_3205, hv_3201⟩ := hv_3201
                replace hv_3201 := chk_some hv_3201; obtain ⟨hc_3206, hv_3201⟩ := hv_3201
                replace hv_3201 := bind_some1 hv_3201; obtain ⟨y_3199, hy_3207, hv_3201⟩ := hv_3201
                have e_hv_3201 := Option.some.inj hv_3201; subst e_hv_3201
                exact ⟨_, [(1, .sl false (L (cSl cU8) l_2843)), (2, .sl false (L (cSl cU8) m_2844)), (7, .sl false (L (cArr u8 32) y_2855)), (8, .sl false (L (cArr u8 32) y_2857)), (9, i64 ((l_2843.length : Int))), (11, i64 i_3139), (86, .bool ((!y_3199)))], [], orcs_ok (l := [(84, 21, [.sl false (L cU8 (nth l_2843 i_3139.toNat)), .sl false (L cU8 (nth m_2844 i_3139.toNat))], .bool y_3199)]) ⟨r02_Same_con hy_3207, trivial⟩, by simp only [go_sem, reduceIte, Nat.reduceLT, Nat.reduceEqDiff, Nat.reduceAdd, Nat.reduceBEq, Nat.reduceMul, Nat.reduceSub, Nat.reduceGT, Nat.reducePow, Nat.reduceLeDiff, Int.reduceToNat, hc_3202, hc_3202.2, lt_le hc_3202.2, hc_3203, hc_3203.2, lt_le hc_3203.2, hb_3204, hc_3205, hc_3205.2, lt_le hc_3205.2, hc_3206, hc_3206.2, lt_le hc_3206.2], (weak_sel [] (by decide) rfl (by simp only [go_sem, reduceIte, Nat.reduceLT, Nat.reduceEqDiff, Nat.reduceAdd, Nat.reduceBEq, Nat.reduceMul, Nat.reduceSub, Nat.reduceGT, Nat.reducePow, Nat.reduceLeDiff, Int.reduceToNat]) (by simp only [go_sem, reduceIte, Nat.reduceLT, Nat.reduceEqDiff, Nat.reduceAdd, Nat.reduceBEq, Nat.reduceMul, Nat.reduceSub, Nat.reduceGT, Nat.reducePow, Nat.reduceLeDiff, Int.reduceToNat]))⟩
            refine run_condL (b := t_3200) rfl (by decide) (fun hb => ?_) (fun hb => ?_)
            · replace h := ite_t h hb
              replace h := chk_some h; obtain ⟨hc_3208, h⟩ := h
              replace h := chk_some h; obtain ⟨hc_3209, h⟩ := h
              replace h := lt1_some h; obtain ⟨t_3210, hz_3211, h⟩ := h
              refine run_drawE hE mixed [[], [], [1], [0, 1, 2], [0, 1, 2, 3], [], [], [6], [5, 6, 7], [5, 6, 7, 8], [0, 1, 2, 3, 4, 5, 6, 7, 8, 9]] (by kernel_rfl) (by kernel_rfl) [1, 2, 7, 8, 9, 11, 97] (fr' := [(1, .sl false (L (cSl cU8) l_2843)), (2, .sl false (L (cSl cU8) m_2844)), (7, .sl false (L (cArr u8 32) y_2855)), (8, .sl false (L (cArr u8 32) y_2857)), (9, i64 ((l_2843.length : Int))), (11, i64 i_3139), (97, .bool t_3210)]) (σ' := []) ⟨_, orcs_nil, ?_⟩ ?_
              · subst hz_3211; simp only [go_sem, reduceIte, Nat.reduceLT, Nat.reduceEqDiff, Nat.reduceAdd, Nat.reduceBEq, Nat.reduceMul, Nat.reduceSub, Nat.reduceGT, Nat.reducePow, Nat.reduceLeDiff, Int.reduceToNat, hc_3208, hc_3208.2, lt_le hc_3208.2, hc_3209, hc_3209.2, lt_le hc_3209.2]
              refine run_condL (b := t_3210) rfl (by decide) (fun hb => ?_) (fun hb => ?_)
              · replace h := ite_t h hb
                refine run_textE hE [6] (fr' := [(6, .bool true)]) (σ' := []) ⟨_, orcs_nil, ?_⟩ ?_
                · simp only [go_sem, reduceIte, Nat.reduceLT, Nat.reduceEqDiff, Nat.reduceAdd, Nat.reduceBEq, Nat.reduceMul, Nat.reduceSub, Nat.reduceGT, Nat.reducePow, Nat.reduceLeDiff, Int.reduceToNat]
                refine run_ret ?_
                refine blockK_r ?_
                refine joinK_r ?_
                replace h := bind_some1 h; obtain ⟨z_3214, h, e_z_3214⟩ := h
                obtain rfl := Option.some.inj e_z_3214
                obtain rfl := Option.some.inj hj_3198
                refine lpK_r ?_
                replace h := bind_some1 h; obtain ⟨z_3213, h, e_z_3213⟩ := h
                obtain rfl := Option.some.inj e_z_3213
                have ex_z_3213 := hxx_3179 _ rfl
                subst ex_z_3213
                obtain rfl := Option.some.inj hj_3177
                refine blockK_r ?_
                refine joinK_r ?_
                replace h := bind_some1 h; obtain ⟨z_3212, h, e_z_3212⟩ := h
                obtain rfl := Option.some.inj e_z_3212
                obtain rfl := Option.some.inj hj_3101
                obtain rfl := Option.some.inj h
                refine ret_ok (.inr rfl) ?_
                simp only [go_sem, reduceIte, Nat.reduceLT, Nat.reduceEqDiff, Nat.reduceAdd, Nat.reduceBEq, Nat.reduceMul, Nat.reduceSub, Nat.reduceGT, Nat.reducePow, Nat.reduceLeDiff, Int.reduceToNat]
              · replace h := ite_f h hb
                refine run_skip ?_
                refine blockK_n ?_
                obtain rfl := Option.some.inj h
                exact joinK_n (()) rfl (weak_sel [] (by decide) rfl (by simp only [go_sem, reduceIte, Nat.reduceLT, Nat.reduceEqDiff, Nat.reduceAdd, Nat.reduceBEq, Nat.reduceMul, Nat.reduceSub, Nat.reduceGT, Nat.reducePow, Nat.reduceLeDiff, Int.reduceToNat]) (by simp only [go_sem, reduceIte, Nat.reduceLT, Nat.reduceEqDiff, Nat.reduceAdd, Nat.reduceBEq, Nat.reduceMul, Nat.reduceSub, Nat.reduceGT, Nat.reducePow, Nat.reduceLeDiff, Int.reduceToNat]))
            · replace h := ite_f h hb
              refine run_skip ?_
              refine blockK_n ?_
              obtain rfl := Option.some.inj h
              exact joinK_n (()) rfl (weak_sel [] (by decide) rfl (by simp only [go_sem, reduceIte, Nat.reduceLT, Nat.reduceEqDiff, Nat.reduceAdd, Nat.reduceBEq, Nat.reduceMul, Nat.reduceSub, Nat.reduceGT, Nat.reducePow, Nat.reduceLeDiff, Int.reduceToNat]) (by simp only [go_sem, reduceIte, Nat.reduceLT, Nat.reduceEqDiff, Nat.reduceAdd, Nat.reduceBEq, Nat.reduceMul, Nat.reduceSub, Nat.reduceGT, Nat.reducePow, Nat.reduceLeDiff, Int.reduceToNat]))
          rintro ⟨⟩ rfl
          have h := hj_3198; clear hj_3198
          refine run_textE0 hE wk_lp [1, 2, 7, 8, 9, 11] (fr' := [(1, .sl false (L (cSl cU8) l_2843)), (2, .sl false (L (cSl cU8) m_2844)), (7, .sl false (L (cArr u8 32) y_2855)), (8, .sl false (L (cArr u8 32) y_2857)), (9, i64 ((l_2843.length : Int))), (11, i64 ((w64 (i_3139 - 1))))]) (σ' := []) ⟨_, orcs_nil, ?_⟩ ?_
          · simp only [go_sem, reduceIte, Nat.reduceLT, Nat.reduceEqDiff, Nat.reduceAdd, Nat.reduceBEq, Nat.reduceMul, Nat.reduceSub, Nat.reduceGT, Nat.reducePow, Nat.reduceLeDiff, Int.reduceToNat]
          obtain rfl := Option.some.inj h
          exact lpK_n ((w64 (i_3139 - 1))) rfl (weak_sel [] (by decide) rfl (by simp only [go_sem, reduceIte, Nat.reduceLT, Nat.reduceEqDiff, Nat.reduceAdd, Nat.reduceBEq, Nat.reduceMul, Nat.reduceSub, Nat.reduceGT, Nat.reducePow, Nat.reduceLeDiff, Int.reduceToNat]) (by simp only [go_sem, reduceIte, Nat.reduceLT, Nat.reduceEqDiff, Nat.reduceAdd, Nat.reduceBEq, Nat.reduceMul, Nat.reduceSub, Nat.reduceGT, Nat.reducePow, Nat.reduceLeDiff, Int.reduceToNat]))
        · replace h := ite_f h hb
          refine run_exit ?_
          refine thenK_x ?_
          obtain rfl := Option.some.inj h
          have ex_x_3175 := hxx_3179 _ rfl
          subst ex_x_3175
          have h := hj_3177; clear hj_3177
          refine lpK_x ?_
          refine blockK_x ?_
          obtain rfl := Option.some.inj h
          exact joinK_n (()) rfl ((weak_sel (l' := [(1, .sl false (L (cSl cU8) l_2843)), (2, .sl false (L (cSl cU8) m_2844)), (9, i64 ((l_2843.length : Int)))]) (σ' := []) [] (by decide) rfl (by simp only [go_sem, reduceIte, Nat.reduceLT, Nat.reduceEqDiff, Nat.reduceAdd, Nat.reduceBEq, Nat.reduceMul, Nat.reduceSub, Nat.reduceGT, Nat.reducePow, Nat.reduceLeDiff, Int.reduceToNat]) (by simp only [go_sem, reduceIte, Nat.reduceLT, Nat.reduceEqDiff, Nat.reduceAdd, Nat.reduceBEq, Nat.reduceMul, Nat.reduceSub, Nat.reduceGT, Nat.reducePow, Nat.reduceLeDiff, Int.reduceToNat])).trans (weak_sel [] (by decide) rfl (by simp only [go_sem, reduceIte, Nat.reduceLT, Nat.reduceEqDiff, Nat.reduceAdd, Nat.reduceBEq, Nat.reduceMul, Nat.reduceSub, Nat.reduceGT, Nat.reducePow, Nat.reduceLeDiff, Int.reduceToNat]) (by simp only [go_sem, reduceIte, Nat.reduceLT, Nat.reduceEqDiff, Nat.reduceAdd, Nat.reduceBEq, Nat.reduceMul, Nat.reduceSub, Nat.reduceGT, Nat.reducePow, Nat.reduceLeDiff, Int.reduceToNat])))
      rintro ⟨⟩ rfl
      have h := hj_3101; clear hj_3101
      replace h := bind_some1 h; obtain ⟨j_3239, hA_3240, hj_3241⟩ := h
      refine run_join (fun (v : Unit) => (⟨asFr 113 [], []⟩ : St)) (fun v => .inl v = j_3239) ?_ ?_
      · have h := hA_3240; clear hA_3240
        refine run_textE hE [1, 2, 9, 12] (fr' := [(1, .sl false (L (cSl cU8) l_2843)), (2, .sl false (L (cSl cU8) m_2844)), (9, i64 ((l_2843.length : Int))), (12, i64 0)]) (σ' := []) ⟨_, orcs_nil, ?_⟩ ?_
        · simp only [go_sem, reduceIte, Nat.reduceLT, Nat.reduceEqDiff, Nat.reduceAdd, Nat.reduceBEq, Nat.reduceMul, Nat.reduceSub, Nat.reduceGT, Nat.reducePow, Nat.reduceLeDiff, Int.reduceToNat]
        refine run_block ?_
        replace h := bind_some1 h; obtain ⟨x_3255, hx_3256, hj_3257⟩ := h
        refine run_loopO hx_3256 (fun (v : Int) => (⟨asFr 113 [(1, .sl false (L (cSl cU8) l_2843)), (2, .sl false (L (cSl cU8) m_2844)), (9, i64 ((l_2843.length : Int))), (12, i64 v)], []⟩ : St)) (weak_sel [] (by decide) rfl (by simp only [go_sem, reduceIte, Nat.reduceLT, Nat.reduceEqDiff, Nat.reduceAdd, Nat.reduceBEq, Nat.reduceMul, Nat.reduceSub, Nat.reduceGT, Nat.reducePow, Nat.reduceLeDiff, Int.reduceToNat]) (by simp only [go_sem, reduceIte, Nat.reduceLT, Nat.reduceEqDiff, Nat.reduceAdd, Nat.reduceBEq, Nat.reduceMul, Nat.reduceSub, Nat.reduceGT, Nat.reducePow, Nat.reduceLeDiff, Int.reduceToNat])) ?_
        rintro i_3248 o_3258 h hxx_3259
        replace h : law02_DigestChainBinds_b3 l_2843 m_2844 i_3248 = some o_3258 := h
        unfold law02_DigestChainBinds_b3 at h
        refine run_seq ?_
        refine run_textE hE [1, 2, 9, 12, 100] (fr' := [(1, .sl false (L (cSl cU8) l_2843)), (2, .sl false (L (cSl cU8) m_2844)), (9, i64 ((l_2843.length : Int))), (12, i64 i_3248), (100, .bool ((decide (i_3248 < (l_2843.length : Int)))))]) (σ' := []) ⟨_, orcs_nil, ?_⟩ ?_
        · simp only [go_sem, reduceIte, Nat.reduceLT, Nat.reduceEqDiff, Nat.reduceAdd, Nat.reduceBEq, Nat.reduceMul, Nat.reduceSub, Nat.reduceGT, Nat.reducePow, Nat.reduceLeDiff, Int.reduceToNat]
        refine run_condL (b := (decide (i_3248 < (l_2843.length : Int)))) rfl (by decide) (fun hb => ?_) (fun hb => ?_)
        · replace h := ite_t h hb
          refine run_skip ?_
          refine thenK_n ?_
          refine run_seq ?_
          refine run_block ?_
          replace h := chk_some h; obtain ⟨hc_3261, h⟩ := h
          replace h := chk_some h; obtain ⟨hc_3262, h⟩ := h
          replace h := bind_some1 h; obtain ⟨y_3260, hy_3263, h⟩ := h
          refine run_drawE hE mixed [[], [], [0, 1], [0, 1, 2], [], [], [4, 5], [4, 5, 6], [0, 1, 2, 3, 4, 5, 6, 7], [0, 1, 2, 3, 4, 5, 6, 7, 8]] (by kernel_rfl) (by kernel_rfl) [1, 2, 9, 12, 112] (fr' := [(1, .sl false (L (cSl cU8) l_2843)), (2, .sl false (L (cSl cU8) m_2844)), (9, i64 ((l_2843.length : Int))), (12, i64 i_3248), (112, .bool ((!y_3260)))]) (σ' := []) ⟨_, orcs_ok (l := [(111, 21, [.sl false (L cU8 (nth l_2843 i_3248.toNat)), .sl false (L cU8 (nth m_2844 i_3248.toNat))], .bool y_3260)]) ⟨r02_Same_con hy_3263, trivial⟩, ?_⟩ ?_
          · simp only [go_sem, reduceIte, Nat.reduceLT, Nat.reduceEqDiff, Nat.reduceAdd, Nat.reduceBEq, Nat.reduceMul, Nat.reduceSub, Nat.reduceGT, Nat.reducePow, Nat.reduceLeDiff, Int.reduceToNat, hc_3261, hc_3261.2, lt_le hc_3261.2, hc_3262, hc_3262.2, lt_le hc_3262.2]
          refine run_condL (b := (!y_3260)) rfl (by decide) (fun hb => ?_) (fun hb => ?_)
          · replace h := ite_t h hb
            refine run_textE hE [6] (fr' := [(6, .bool false)]) (σ' := []) ⟨_, orcs_nil, ?_⟩ ?_
            · simp only [go_sem, reduceIte, Nat.reduceLT, Nat.reduceEqDiff, Nat.reduceAdd, Nat.reduceBEq, Nat.reduceMul, Nat.reduceSub, Nat.reduceGT, Nat.reducePow, Nat.reduceLeDiff, Int.reduceToNat]
            refine run_ret ?_
            refine blockK_r ?_
            refine thenK_r ?_
            refine lpK_r ?_
            replace h := bind_some1 h; obtain ⟨z_3265, h, e_z_3265⟩ := h
            obtain rfl := Option.some.inj e_z_3265
            have ex_z_3265 := hxx_3259 _ rfl
            subst ex_z_3265
            obtain rfl := Option.some.inj hj_3257
            refine blockK_r ?_
            refine joinK_r ?_
            replace h := bind_some1 h; obtain ⟨z_3264, h, e_z_3264⟩ := h
            obtain rfl := Option.some.inj e_z_3264
            obtain rfl := Option.some.inj hj_3241
            obtain rfl := Option.some.inj h
            refine ret_ok (.inr rfl) ?_
            simp only [go_sem, reduceIte, Nat.reduceLT, Nat.reduceEqDiff, Nat.reduceAdd, Nat.reduceBEq, Nat.reduceMul, Nat.reduceSub, Nat.reduceGT, Nat.reducePow, Nat.reduceLeDiff, Int.reduceToNat]
          · replace h := ite_f h hb
            refine run_skip ?_
            refine blockK_n ?_
            refine thenK_n ?_
            refine run_textE0 hE wk_lp [1, 2, 9, 12] (fr' := [(1, .sl false (L (cSl cU8) l_2843)), (2, .sl false (L (cSl cU8) m_2844)), (9, i64 ((l_2843.length : Int))), (12, i64 ((w64 (i_3248 + 1))))]) (σ' := []) ⟨_, orcs_nil, ?_⟩ ?_
            · simp only [go_sem, reduceIte, Nat.reduceLT, Nat.reduceEqDiff, Nat.reduceAdd, Nat.reduceBEq, Nat.reduceMul, Nat.reduceSub, Nat.reduceGT, Nat.reducePow, Nat.reduceLeDiff, Int.reduceToNat]
            obtain rfl := Option.some.inj h
            exact lpK_n ((w64 (i_3248 + 1))) rfl (weak_sel [] (by decide) rfl (by simp only [go_sem, reduceIte, Nat.reduceLT, Nat.reduceEqDiff, Nat.reduceAdd, Nat.reduceBEq, Nat.reduceMul, Nat.reduceSub, Nat.reduceGT, Nat.reducePow, Nat.reduceLeDiff, Int.reduceToNat]) (by simp only [go_sem, reduceIte, Nat.reduceLT, Nat.reduceEqDiff, Nat.reduceAdd, Nat.reduceBEq, Nat.reduceMul, Nat.reduceSub, Nat.reduceGT, Nat.reducePow, Nat.reduceLeDiff, Int.reduceToNat]))
        · replace h := ite_f h hb
          refine run_exit ?_
          refine thenK_x ?_
          obtain rfl := Option.some.inj h
          have ex_x_3255 := hxx_3259 _ rfl
          subst ex_x_3255
          have h := hj_3257; clear hj_3257
          refine lpK_x ?_
          refine blockK_x ?_
          obtain rfl := Option.some.inj h
          exact joinK_n (()) rfl ((weak_sel (l' := []) (σ' := []) [] (by decide) rfl (by simp only [go_sem, reduceIte, Nat.reduceLT, Nat.reduceEqDiff, Nat.reduceAdd, Nat.reduceBEq, Nat.reduceMul, Nat.reduceSub, Nat.reduceGT, Nat.reducePow, Nat.reduceLeDiff, Int.reduceToNat]) (by simp only [go_sem, reduceIte, Nat.reduceLT, Nat.reduceEqDiff, Nat.reduceAdd, Nat.reduceBEq, Nat.reduceMul, Nat.reduceSub, Nat.reduceGT, Nat.reducePow, Nat.reduceLeDiff, Int.reduceToNat])).trans (weak_sel [] (by decide) rfl (by simp only [go_sem, reduceIte, Nat.reduceLT, Nat.reduceEqDiff, Nat.reduceAdd, Nat.reduceBEq, Nat.reduceMul, Nat.reduceSub, Nat.reduceGT, Nat.reducePow, Nat.reduceLeDiff, Int.reduceToNat]) (by simp only [go_sem, reduceIte, Nat.reduceLT, Nat.reduceEqDiff, Nat.reduceAdd, Nat.reduceBEq, Nat.reduceMul, Nat.reduceSub, Nat.reduceGT, Nat.reducePow, Nat.reduceLeDiff, Int.reduceToNat])))
      rintro ⟨⟩ rfl
      have h := hj_3241; clear hj_3241
      refine run_textE hE [6] (fr' := [(6, .bool true)]) (σ' := []) ⟨_, orcs_nil, ?_⟩ ?_
      · simp only [go_sem, reduceIte, Nat.reduceLT, Nat.reduceEqDiff, Nat.reduceAdd, Nat.reduceBEq, Nat.reduceMul, Nat.reduceSub, Nat.reduceGT, Nat.reducePow, Nat.reduceLeDiff, Int.reduceToNat]
      refine run_ret ?_
      obtain rfl := Option.some.inj h
      refine ret_ok (.inr rfl) ?_
      simp only [go_sem, reduceIte, Nat.reduceLT, Nat.reduceEqDiff, Nat.reduceAdd, Nat.reduceBEq, Nat.reduceMul, Nat.reduceSub, Nat.reduceGT, Nat.reducePow, Nat.reduceLeDiff, Int.reduceToNat]

end Go.Proofs.YtgdiabbgiiemcaaDoor
