/-
  The functions compute just that.
-/
import Derived.Test.YtgdiabbgiiemcaaDoorDW11
import Derived.KernelRfl
namespace Go.Proofs.YtgdiabbgiiemcaaDoor
open Go.Rv
set_option linter.unusedVariables false
set_option linter.unusedSimpArgs false
set_option maxRecDepth 20000

theorem law02_DigestTagsSeparate_con {tag_3016 : List UInt8} {b_3017 : List UInt8} {other_3018 : List UInt8} {c_3019 : List UInt8} {r : Bool} (h : law02_DigestTagsSeparate tag_3016 b_3017 other_3018 c_3019 = some r) : Con B 6 [.str tag_3016, .sl false (L cU8 b_3017), .str other_3018, .sl false (L cU8 c_3019)] [] (fun r' σ' => r' = .bool r ∧ σ' = []) := by
  refine con_walk (N := 81) (rs := [.tmp 8]) ok Tryd.func6 rfl (by decide +kernel) rfl rfl (Nat.le_of_ble_eq_true rfl) (fun F => ?_)
  have hE := ok.env F
  unfold law02_DigestTagsSeparate at h
  show Run (B.env F) 0 _ ⟨asFr 81 [(0, .str tag_3016), (1, .sl false (L cU8 b_3017)), (2, .str other_3018), (3, .sl false (L cU8 c_3019))], []⟩ _
  refine run_textE hE [0, 1, 2, 3] (fr' := [(0, .str tag_3016), (1, .sl false (L cU8 b_3017)), (2, .str other_3018), (3, .sl false (L cU8 c_3019))]) (σ' := []) ⟨_, orcs_nil, ?_⟩ ?_
  · simp only [go_sem, reduceIte, Nat.reduceLT, Nat.reduceEqDiff, Nat.reduceAdd, Nat.reduceBEq, Nat.reduceMul, Nat.reduceSub, Nat.reduceGT, Nat.reducePow, Nat.reduceLeDiff, Int.reduceToNat]
  refine run_seq ?_
  replace h := bind_some1 h; obtain ⟨y_3020, hy_3021, h⟩ := h
  refine run_textE hE [0, 1, 2, 3, 14] (fr' := [(0, .str tag_3016), (1, .sl false (L cU8 b_3017)), (2, .str other_3018), (3, .sl false (L cU8 c_3019)), (14, .bool ((!y_3020)))]) (σ' := []) ⟨_, orcs_ok (l := [(13, 11, [], .bool y_3020)]) ⟨law02_sane_con hy_3021, trivial⟩, ?_⟩ ?_
  · simp only [go_sem, reduceIte, Nat.reduceLT, Nat.reduceEqDiff, Nat.reduceAdd, Nat.reduceBEq, Nat.reduceMul, Nat.reduceSub, Nat.reduceGT, Nat.reducePow, Nat.reduceLeDiff, Int.reduceToNat]
  refine run_condL (b := (!y_3020)) rfl (by decide) (fun hb => ?_) (fun hb => ?_)
  · replace h := ite_t h hb
    refine run_textE hE [8] (fr' := [(8, .bool false)]) (σ' := []) ⟨_, orcs_nil, ?_⟩ ?_
    · simp only [go_sem, reduceIte, Nat.reduceLT, Nat.reduceEqDiff, Nat.reduceAdd, Nat.reduceBEq, Nat.reduceMul, Nat.reduceSub, Nat.reduceGT, Nat.reducePow, Nat.reduceLeDiff, Int.reduceToNat]
    refine run_ret ?_
    refine thenK_r ?_
    obtain rfl := Option.some.inj h
    refine ret_ok (.inr rfl) ?_
    simp only [go_sem, reduceIte, Nat.reduceLT, Nat.reduceEqDiff, Nat.reduceAdd, Nat.reduceBEq, Nat.reduceMul, Nat.reduceSub, Nat.reduceGT, Nat.reducePow, Nat.reduceLeDiff, Int.reduceToNat]
  · replace h := ite_f h hb
    refine run_skip ?_
    refine thenK_n ?_
    refine run_seq ?_
    replace h := bind_some1 h; obtain ⟨t_3022, hv_3023, h⟩ := h
    refine run_textW hE [0, 1, 2, 3, 32] (fr' := [(0, .str tag_3016), (1, .sl false (L cU8 b_3017)), (2, .str other_3018), (3, .sl false (L cU8 c_3019)), (32, .bool t_3022)]) (σ' := []) ?_ ?_
    · rcases Bool.eq_false_or_eq_true ((decide ((tag_3016.length : Int) > 400))) with hb_3024 | hb_3024
      · replace hv_3023 := ite_t hv_3023 hb_3024
        have e_hv_3023 := Option.some.inj hv_3023; subst e_hv_3023
        exact ⟨_, [(0, .str tag_3016), (1, .sl false (L cU8 b_3017)), (2, .str other_3018), (3, .sl false (L cU8 c_3019)), (32, .bool true)], [], orcs_nil, by simp only [go_sem, reduceIte, Nat.reduceLT, Nat.reduceEqDiff, Nat.reduceAdd, Nat.reduceBEq, Nat.reduceMul, Nat.reduceSub, Nat.reduceGT, Nat.reducePow, Nat.reduceLeDiff, Int.reduceToNat, hb_3024], (weak_sel [] (by decide) rfl (by simp only [go_sem, reduceIte, Nat.reduceLT, Nat.reduceEqDiff, Nat.reduceAdd, Nat.reduceBEq, Nat.reduceMul, Nat.reduceSub, Nat.reduceGT, Nat.reducePow, Nat.reduceLeDiff, Int.reduceToNat]) (by simp only [go_sem, reduceIte, Nat.reduceLT, Nat.reduceEqDiff, Nat.reduceAdd, Nat.reduceBEq, Nat.reduceMul, Nat.reduceSub, Nat.reduceGT, Nat.reducePow, Nat.reduceLeDiff, Int.reduceToNat]))⟩
      · replace hv_3023 := ite_f hv_3023 hb_3024
        rcases Bool.eq_false_or_eq_true ((decide ((b_3017.length : Int) > 400))) with hb_3025 | hb_3025
        · replace hv_3023 := ite_t hv_3023 hb_3025
          have e_hv_3023 := Option.some.inj hv_3023; subst e_hv_3023
          exact ⟨_, [(0, .str tag_3016), (1, .sl false (L cU8 b_3017)), (2, .str other_3018), (3, .sl false (L cU8 c_3019)), (32, .bool true)], [], orcs_nil, by simp only [go_sem, reduceIte, Nat.reduceLT, Nat.reduceEqDiff, Nat.reduceAdd, Nat.reduceBEq, Nat.reduceMul, Nat.reduceSub, Nat.reduceGT, Nat.reducePow, Nat.reduceLeDiff, Int.reduceToNat, hb_3024, hb_3025], (weak_sel [] (by decide) rfl (by simp only [go_sem, reduceIte, Nat.reduceLT, Nat.reduceEqDiff, Nat.reduceAdd, Nat.reduceBEq, Nat.reduceMul, Nat.reduceSub, Nat.reduceGT, Nat.reducePow, Nat.reduceLeDiff, Int.reduceToNat]) (by simp only [go_sem, reduceIte, Nat.reduceLT, Nat.reduceEqDiff, Nat.reduceAdd, Nat.reduceBEq, Nat.reduceMul, Nat.reduceSub, Nat.reduceGT, Nat.reducePow, Nat.reduceLeDiff, Int.reduceToNat]))⟩
        · replace hv_3023 := ite_f hv_3023 hb_3025
          rcases Bool.eq_false_or_eq_true ((decide ((other_3018.length : Int) > 400))) with hb_3026 | hb_3026
          · replace hv_3023 := ite_t hv_3023 hb_3026
            have e_hv_3023 := Option.some.inj hv_3023; subst e_hv_3023
            exact ⟨_, [(0, .str tag_3016), (1, .sl false (L cU8 b_3017)), (2, .str other_3018), (3, .sl false (L cU8 c_3019)), (32, .bool true)], [], orcs_nil, by simp only [go_sem, reduceIte, Nat.reduceLT, Nat.reduceEqDiff, Nat.reduceAdd, Nat.reduceBEq, Nat.reduceMul, Nat.reduceSub, Nat.reduceGT, Nat.reducePow, Nat.reduceLeDiff, Int.reduceToNat, hb_3024, hb_3025, hb_3026], (weak_sel [] (by decide) rfl (by simp only [go_sem, reduceIte, Nat.reduceLT, Nat.reduceEqDiff, Nat.reduceAdd, Nat.reduceBEq, Nat.reduceMul, Nat.reduceSub, Nat.reduceGT, Nat.reducePow, Nat.reduceLeDiff, Int.reduceToNat]) (by simp only [go_sem, reduceIte, Nat.reduceLT, Nat.reduceEqDiff, Nat.reduceAdd, Nat.reduceBEq, Nat.reduceMul, Nat.reduceSub, Nat.reduceGT, Nat.reducePow, Nat.reduceLeDiff, Int.reduceToNat]))⟩
          · replace hv_3023 := ite_f hv_3023 hb_3026
            have e_hv_3023 := Option.some.inj hv_3023; subst e_hv_3023
            exact ⟨_, [(0, .str tag_3016), (1, .sl false (L cU8 b_3017)), (2, .str other_3018), (3, .sl false (L cU8 c_3019)), (32, .bool ((decide ((c_3019.length : Int) > 400))))], [], orcs_nil, by simp only [go_sem, reduceIte, Nat.reduceLT, Nat.reduceEqDiff, Nat.reduceAdd, Nat.reduceBEq, Nat.reduceMul, Nat.reduceSub, Nat.reduceGT, Nat.reducePow, Nat.reduceLeDiff, Int.reduceToNat, hb_3024, hb_3025, hb_3026], (weak_sel [] (by decide) rfl (by simp only [go_sem, reduceIte, Nat.reduceLT, Nat.reduceEqDiff, Nat.reduceAdd, Nat.reduceBEq, Nat.reduceMul, Nat.reduceSub, Nat.reduceGT, Nat.reducePow, Nat.reduceLeDiff, Int.reduceToNat]) (by simp only [go_sem, reduceIte, Nat.reduceLT, Nat.reduceEqDiff, Nat.reduceAdd, Nat.reduceBEq, Nat.reduceMul, Nat.reduceSub, Nat.reduceGT, Nat.reducePow, Nat.reduceLeDiff, Int.reduceToNat]))⟩
    refine run_condL (b := t_3022) rfl (by decide) (fun hb => ?_) (fun hb => ?_)
    · replace h := ite_t h hb
      refine run_textE hE [8] (fr' := [(8, .bool true)]) (σ' := []) ⟨_, orcs_nil, ?_⟩ ?_
      · simp only [go_sem, reduceIte, Nat.reduceLT, Nat.reduceEqDiff, Nat.reduceAdd, Nat.reduceBEq, Nat.reduceMul, Nat.reduceSub, Nat.reduceGT, Nat.reducePow, Nat.reduceLeDiff, Int.reduceToNat]
      refine run_ret ?_
      refine thenK_r ?_
      obtain rfl := Option.some.inj h
      refine ret_ok (.inr rfl) ?_
      simp only [go_sem, reduceIte, Nat.reduceLT, Nat.reduceEqDiff, Nat.reduceAdd, Nat.reduceBEq, Nat.reduceMul, Nat.reduceSub, Nat.reduceGT, Nat.reducePow, Nat.reduceLeDiff, Int.reduceToNat]
    · replace h := ite_f h hb
      refine run_skip ?_
      refine thenK_n ?_
      replace h := bind_some1 h; obtain ⟨y_3027, hy_3028, h⟩ := h
      refine run_textE hE [0, 1, 2, 3, 9] (fr' := [(0, .str tag_3016), (1, .sl false (L cU8 b_3017)), (2, .str other_3018), (3, .sl false (L cU8 c_3019)), (9, .sl false (L cU8 y_3027))]) (σ' := []) ⟨_, orcs_ok (l := [(35, 20, [.str tag_3016, .sl false (L cU8 b_3017)], .sl false (L cU8 y_3027))]) ⟨r02_Hashed_con hy_3028, trivial⟩, ?_⟩ ?_
      · simp only [go_sem, reduceIte, Nat.reduceLT, Nat.reduceEqDiff, Nat.reduceAdd, Nat.reduceBEq, Nat.reduceMul, Nat.reduceSub, Nat.reduceGT, Nat.reducePow, Nat.reduceLeDiff, Int.reduceToNat]
      replace h := bind_some1 h; obtain ⟨y_3029, hy_3030, h⟩ := h
      refine run_textE hE [0, 1, 2, 3, 9, 10] (fr' := [(0, .str tag_3016), (1, .sl false (L cU8 b_3017)), (2, .str other_3018), (3, .sl false (L cU8 c_3019)), (9, .sl false (L cU8 y_3027)), (10, .sl false (L cU8 y_3029))]) (σ' := []) ⟨_, orcs_ok (l := [(38, 20, [.str other_3018, .sl false (L cU8 c_3019)], .sl false (L cU8 y_3029))]) ⟨r02_Hashed_con hy_3030, trivial⟩, ?_⟩ ?_
      · simp only [go_sem, reduceIte, Nat.reduceLT, Nat.reduceEqDiff, Nat.reduceAdd, Nat.reduceBEq, Nat.reduceMul, Nat.reduceSub, Nat.reduceGT, Nat.reducePow, Nat.reduceLeDiff, Int.reduceToNat]
      replace h := bind_some1 h; obtain ⟨same_3032, hv_3033, h⟩ := h
      refine run_drawW hE mixed [[], [], [1], [1, 2], [0, 1, 2, 3], [], [], [6], [6, 7], [5, 6, 7, 8], [0, 1, 2, 3, 4, 5, 6, 7, 8, 9], [0, 1, 2, 3, 4, 5, 6, 7, 8, 9, 10], [0, 1, 2, 3, 4, 5, 6, 7, 8, 9, 10, 11], [0, 1, 2, 3, 4, 5, 6, 7, 8, 9, 10, 11], [0, 1, 2, 3, 4, 5, 6, 7, 8, 9, 10, 11, 12, 13], [0, 1, 2, 3, 4, 5, 6, 7, 8, 9, 10, 11, 12, 13, 14], [0, 1, 2, 3, 4, 5, 6, 7, 8, 9, 10, 11, 12, 13, 14, 15]] (by kernel_rfl) (by kernel_rfl) [0, 1, 2, 3, 9, 10, 11] (fr' := [(0, .str tag_3016), (1, .sl false (L cU8 b_3017)), (2, .str other_3018), (3, .sl false (L cU8 c_3019)), (9, .sl false (L cU8 y_3027)), (10, .sl false (L cU8 y_3029)), (11, .bool same_3032)]) (σ' := []) ?_ ?_
      · replace hv_3033 := chk_some hv_3033; obtain ⟨hc_3034, hv_3033⟩ := hv_3033
        replace hv_3033 := chk_some hv_3033; obtain ⟨hc_3035, hv_3033⟩ := hv_3033
        rcases Bool.eq_false_or_eq_true ((((tag_3016.take (((mn64 ((tag_3016.length : Int)) 255)).toNat))) == ((other_3018.take (((mn64 ((other_3018.length : Int)) 255)).toNat))))) with hb_3036 | hb_3036
        · replace hv_3033 := ite_t hv_3033 hb_3036
          replace hv_3033 := bind_some1 hv_3033; obtain ⟨y_3031, hy_3037, hv_3033⟩ := hv_3033
          have e_hv_3033 := Option.some.inj hv_3033; subst e_hv_3033
          exact ⟨_, [(0, .str tag_3016), (1, .sl false (L cU8 b_3017)), (2, .str other_3018), (3, .sl false (L cU8 c_3019)), (9, .sl false (L cU8 y_3027)), (10, .sl false (L cU8 y_3029)), (11, .bool y_3031)], [], orcs_ok (l := [(53, 21, [.sl false (L cU8 b_3017), .sl false (L cU8 c_3019)], .bool y_3031)]) ⟨r02_Same_con hy_3037, trivial⟩, by simp only [go_sem, reduceIte, Nat.reduceLT, Nat.reduceEqDiff, Nat.reduceAdd, Nat.reduceBEq, Nat.reduceMul, Nat.reduceSub, Nat.reduceGT, Nat.reducePow, Nat.reduceLeDiff, Int.reduceToNat, hc_3034, hc_3035, hb_3036], (weak_sel [] (by decide) rfl (by simp only [go_sem, reduceIte, Nat.reduceLT, Nat.reduceEqDiff, Nat.reduceAdd, Nat.reduceBEq, Nat.reduceMul, Nat.reduceSub, Nat.reduceGT, Nat.reducePow, Nat.reduceLeDiff, Int.reduceToNat]) (by simp only [go_sem, reduceIte, Nat.reduceLT, Nat.reduceEqDiff, Nat.reduceAdd, Nat.reduceBEq, Nat.reduceMul, Nat.reduceSub, Nat.reduceGT, Nat.reducePow, Nat.reduceLeDiff, Int.reduceToNat]))⟩
        · replace hv_3033 := ite_f hv_3033 hb_3036
          have e_hv_3033 := Option.some.inj hv_3033; subst e_hv_3033
          exact ⟨_, [(0, .str tag_3016), (1, .sl false (L cU8 b_3017)), (2, .str other_3018), (3, .sl false (L cU8 c_3019)), (9, .sl false (L cU8 y_3027)), (10, .sl false (L cU8 y_3029)), (11, .bool false)], [], orcs_nil, by simp only [go_sem, reduceIte, Nat.reduceLT, Nat.reduceEqDiff, Nat.reduceAdd, Nat.reduceBEq, Nat.reduceMul, Nat.reduceSub, Nat.reduceGT, Nat.reducePow, Nat.reduceLeDiff, Int.reduceToNat, hc_3034, hc_3035, hb_3036], (weak_sel [] (by decide) rfl (by simp only [go_sem, reduceIte, Nat.reduceLT, Nat.reduceEqDiff, Nat.reduceAdd, Nat.reduceBEq, Nat.reduceMul, Nat.reduceSub, Nat.reduceGT, Nat.reducePow, Nat.reduceLeDiff, Int.reduceToNat]) (by simp only [go_sem, reduceIte, Nat.reduceLT, Nat.reduceEqDiff, Nat.reduceAdd, Nat.reduceBEq, Nat.reduceMul, Nat.reduceSub, Nat.reduceGT, Nat.reducePow, Nat.reduceLeDiff, Int.reduceToNat]))⟩
      replace h := bind_some1 h; obtain ⟨y_3038, hy_3040, h⟩ := h
      replace h := bind_some1 h; obtain ⟨y_3039, hy_3041, h⟩ := h
      refine run_textE hE [9, 10, 11, 12] (fr' := [(9, .sl false (L cU8 y_3027)), (10, .sl false (L cU8 y_3029)), (11, .bool same_3032), (12, .bool ((y_3038 == y_3039)))]) (σ' := []) ⟨_, orcs_ok (l := [(57, 14, [.str tag_3016, .sl false (L cU8 b_3017)], .agg (C1 u8 y_3038.l)), (60, 14, [.str other_3018, .sl false (L cU8 c_3019)], .agg (C1 u8 y_3039.l))]) ⟨digest_Tagged_con hy_3040, digest_Tagged_con hy_3041, trivial⟩, ?_⟩ ?_
      · simp only [go_sem, reduceIte, Nat.reduceLT, Nat.reduceEqDiff, Nat.reduceAdd, Nat.reduceBEq, Nat.reduceMul, Nat.reduceSub, Nat.reduceGT, Nat.reducePow, Nat.reduceLeDiff, Int.reduceToNat]
      refine run_seq ?_
      replace h := bind_some1 h; obtain ⟨t_3043, hv_3044, h⟩ := h
      refine run_textW hE [9, 10, 12, 73] (fr' := [(9, .sl false (L cU8 y_3027)), (10, .sl false (L cU8 y_3029)), (12, .bool ((y_3038 == y_3039))), (73, .bool t_3043)]) (σ' := []) ?_ ?_
      · replace hv_3044 := bind_some1 hv_3044; obtain ⟨y_3042, hy_3045, hv_3044⟩ := hv_3044
        rcases Bool.eq_false_or_eq_true ((!(same_3032 == y_3042))) with hb_3046 | hb_3046
        · replace hv_3044 := ite_t hv_3044 hb_3046
          have e_hv_3044 := Option.some.inj hv_3044; subst e_hv_3044
          exact ⟨_, [(9, .sl false (L cU8 y_3027)), (10, .sl false (L cU8 y_3029)), (12, .bool ((y_3038 == y_3039))), (73, .bool true)], [], orcs_ok (l := [(65, 21, [.sl false (L cU8 y_3027), .sl false (L cU8 y_3029)], .bool y_3042)]) ⟨r02_Same_con hy_3045, trivial⟩, by simp only [go_sem, reduceIte, Nat.reduceLT, Nat.reduceEqDiff, Nat.reduceAdd, Nat.reduceBEq, Nat.reduceMul, Nat.reduceSub, Nat.reduceGT, Nat.reducePow, Nat.reduceLeDiff, Int.reduceToNat, hb_3046], (weak_sel [] (by decide) rfl (by simp only [go_sem, reduceIte, Nat.reduceLT, Nat.reduceEqDiff, Nat.reduceAdd, Nat.reduceBEq, Nat.reduceMul, Nat.reduceSub, Nat.reduceGT, Nat.reducePow, Nat.reduceLeDiff, Int.reduceToNat]) (by simp only [go_sem, reduceIte, Nat.reduceLT, Nat.reduceEqDiff, Nat.reduceAdd, Nat.reduceBEq, Nat.reduceMul, Nat.reduceSub, Nat.reduceGT, Nat.reducePow, Nat.reduceLeDiff, Int.reduceToNat]))⟩
        · replace hv_3044 := ite_f hv_3044 hb_3046
          rcases Bool.eq_false_or_eq_true same_3032 with hb_3047 | hb_3047
          · replace hv_3044 := ite_t hv_3044 hb_3047
            have hb_3048 := hb_3046; try simp only [hb_3047] at hb_3048
            have e_hv_3044 := Option.some.inj hv_3044; subst e_hv_3044
            exact ⟨_, [(9, .sl false (L cU8 y_3027)), (10, .sl false (L cU8 y_3029)), (12, .bool ((y_3038 == y_3039))), (73, .bool ((!(y_3038 == y_3039))))], [], orcs_ok (l := [(65, 21, [.sl false (L cU8 y_3027), .sl false (L cU8 y_3029)], .bool y_3042)]) ⟨r02_Same_con hy_3045, trivial⟩, by simp only [go_sem, reduceIte, Nat.reduceLT, Nat.reduceEqDiff, Nat.reduceAdd, Nat.reduceBEq, Nat.reduceMul, Nat.reduceSub, Nat.reduceGT, Nat.reducePow, Nat.reduceLeDiff, Int.reduceToNat, hb_3046, hb_3047, hb_3048], (weak_sel [] (by decide) rfl (by simp only [go_sem, reduceIte, Nat.reduceLT, Nat.reduceEqDiff, Nat.reduceAdd, Nat.reduceBEq, Nat.reduceMul, Nat.reduceSub, Nat.reduceGT, Nat.reducePow, Nat.reduceLeDiff, Int.reduceToNat]) (by simp only [go_sem, reduceIte, Nat.reduceLT, Nat.reduceEqDiff, Nat.reduceAdd, Nat.reduceBEq, Nat.reduceMul, Nat.reduceSub, Nat.reduceGT, Nat.reducePow, Nat.reduceLeDiff, Int.reduceToNat]))⟩
          · replace hv_3044 := ite_f hv_3044 hb_3047
            have hb_3048 := hb_3046; try simp only [hb_3047] at hb_3048
            have e_hv_3044 := Option.some.inj hv_3044; subst e_hv_3044
            exact ⟨_, [(9, .sl false (L cU8 y_3027)), (10, .sl false (L cU8 y_3029)), (12, .bool ((y_3038 == y_3039))), (73, .bool false)], [], orcs_ok (l := [(65, 21, [.sl false (L cU8 y_3027), .sl false (L cU8 y_3029)], .bool y_3042)]) ⟨r02_Same_con hy_3045, trivial⟩, by simp only [go_sem, reduceIte, Nat.reduceLT, Nat.reduceEqDiff, Nat.reduceAdd, Nat.reduceBEq, Nat.reduceMul, Nat.reduceSub, Nat.reduceGT, Nat.reducePow, Nat.reduceLeDiff, Int.reduceToNat, hb_3046, hb_3047, hb_3048], (weak_sel [] (by decide) rfl (by simp only [go_sem, reduceIte, Nat.reduceLT, Nat.reduceEqDiff, Nat.reduceAdd, Nat.reduceBEq, Nat.reduceMul, Nat.reduceSub, Nat.reduceGT, Nat.reducePow, Nat.reduceLeDiff, Int.reduceToNat]) (by simp only [go_sem, reduceIte, Nat.reduceLT, Nat.reduceEqDiff, Nat.reduceAdd, Nat.reduceBEq, Nat.reduceMul, Nat.reduceSub, Nat.reduceGT, Nat.reducePow, Nat.reduceLeDiff, Int.reduceToNat]))⟩
      refine run_condL (b := t_3043) rfl (by decide) (fun hb => ?_) (fun hb => ?_)
      · replace h := ite_t h hb
        refine run_textE hE [8] (fr' := [(8, .bool false)]) (σ' := []) ⟨_, orcs_nil, ?_⟩ ?_
        · simp only [go_sem, reduceIte, Nat.reduceLT, Nat.reduceEqDiff, Nat.reduceAdd, Nat.reduceBEq, Nat.reduceMul, Nat.reduceSub, Nat.reduceGT, Nat.reducePow, Nat.reduceLeDiff, Int.reduceToNat]
        refine run_ret ?_
        refine thenK_r ?_
        obtain rfl := Option.some.inj h
        refine ret_ok (.inr rfl) ?_
        simp only [go_sem, reduceIte, Nat.reduceLT, Nat.reduceEqDiff, Nat.reduceAdd, Nat.reduceBEq, Nat.reduceMul, Nat.reduceSub, Nat.reduceGT, Nat.reducePow, Nat.reduceLeDiff, Int.reduceToNat]
      · replace h := ite_f h hb
        refine run_skip ?_
        refine thenK_n ?_
        replace h := bind_some1 h; obtain ⟨y_3049, hy_3051, h⟩ := h
        replace h := bind_some1 h; obtain ⟨y_3050, hy_3052, h⟩ := h
        refine run_textE hE [8] (fr' := [(8, .bool (((y_3038 == y_3039) == (y_3049 == y_3050))))]) (σ' := []) ⟨_, orcs_ok (l := [(76, 12, [.sl false (L cU8 y_3027)], .agg (C1 u8 y_3049.l)), (78, 12, [.sl false (L cU8 y_3029)], .agg (C1 u8 y_3050.l))]) ⟨digest_Sum_con hy_3051, digest_Sum_con hy_3052, trivial⟩, ?_⟩ ?_
        · simp only [go_sem, reduceIte, Nat.reduceLT, Nat.reduceEqDiff, Nat.reduceAdd, Nat.reduceBEq, Nat.reduceMul, Nat.reduceSub, Nat.reduceGT, Nat.reducePow, Nat.reduceLeDiff, Int.reduceToNat]
        refine run_ret ?_
        obtain rfl := Option.some.inj h
        refine ret_ok (.inr rfl) ?_
        simp only [go_sem, reduceIte, Nat.reduceLT, Nat.reduceEqDiff, Nat.reduceAdd, Nat.reduceBEq, Nat.reduceMul, Nat.reduceSub, Nat.reduceGT, Nat.reducePow, Nat.reduceLeDiff, Int.reduceToNat]

theorem law02_DigestValues_con {tag_3053 : List UInt8} {v_3054 : Api_Value} {r : Bool} (h : law02_DigestValues tag_3053 v_3054 = some r) : Con B 7 [.str tag_3053, .agg [i64 v_3054.Kind, i64 v_3054.N, .sl false (L cU8 v_3054.B), .sl false (L cApi_Value v_3054.L)]] [] (fun r' σ' => r' = .bool r ∧ σ' = []) := by
  refine con_walk (N := 49) (rs := [.tmp 4]) ok Tryd.func7 rfl (by decide +kernel) rfl rfl (Nat.le_of_ble_eq_true rfl) (fun F => ?_)
  have hE := ok.env F
  unfold law02_DigestValues at h
  show Run (B.env F) 0 _ ⟨asFr 49 [(0, .str tag_3053), (1, .agg [i64 v_3054.Kind, i64 v_3054.N, .sl false (L cU8 v_3054.B), .sl false (L cApi_Value v_3054.L)])], []⟩ _
  refine run_textE hE [0, 3] (fr' := [(0, .str tag_3053), (3, .ref 0 0)]) (σ' := [.box [i64 v_3054.Kind, i64 v_3054.N, .sl false (L cU8 v_3054.B), .sl false (L cApi_Value v_3054.L)] false]) ⟨_, orcs_nil, ?_⟩ ?_
  · simp only [go_sem, reduceIte, Nat.reduceLT, Nat.reduceEqDiff, Nat.reduceAdd, Nat.reduceBEq, Nat.reduceMul, Nat.reduceSub, Nat.reduceGT, Nat.reducePow, Nat.reduceLeDiff, Int.reduceToNat]
  refine run_seq ?_
  replace h := bind_some1 h; obtain ⟨y_3055, hy_3056, h⟩ := h
  refine run_textE hE [0, 3, 10] (fr' := [(0, .str tag_3053), (3, .ref 0 0), (10, .bool ((!y_3055)))]) (σ' := [.box [i64 v_3054.Kind, i64 v_3054.N, .sl false (L cU8 v_3054.B), .sl false (L cApi_Value v_3054.L)] false]) ⟨_, orcs_ok (l := [(9, 11, [], .bool y_3055)]) ⟨law02_sane_con hy_3056, trivial⟩, ?_⟩ ?_
  · simp only [go_sem, reduceIte, Nat.reduceLT, Nat.reduceEqDiff, Nat.reduceAdd, Nat.reduceBEq, Nat.reduceMul, Nat.reduceSub, Nat.reduceGT, Nat.reducePow, Nat.reduceLeDiff, Int.reduceToNat]
  refine run_condL (b := (!y_3055)) rfl (by decide) (fun hb => ?_) (fun hb => ?_)
  · replace h := ite_t h hb
    refine run_textE hE [4] (fr' := [(4, .bool false)]) (σ' := [.box [i64 v_3054.Kind, i64 v_3054.N, .sl false (L cU8 v_3054.B), .sl false (L cApi_Value v_3054.L)] false]) ⟨_, orcs_nil, ?_⟩ ?_
    · simp only [go_sem, reduceIte, Nat.reduceLT, Nat.reduceEqDiff, Nat.reduceAdd, Nat.reduceBEq, Nat.reduceMul, Nat.reduceSub, Nat.reduceGT, Nat.reducePow, Nat.reduceLeDiff, Int.reduceToNat]
    refine run_ret ?_
    refine thenK_r ?_
    obtain rfl := Option.some.inj h
    refine ret_ok (.inr rfl) ?_
    simp only [go_sem, reduceIte, Nat.reduceLT, Nat.reduceEqDiff, Nat.reduceAdd, Nat.reduceBEq, Nat.reduceMul, Nat.reduceSub, Nat.reduceGT, Nat.reducePow, Nat.reduceLeDiff, Int.reduceToNat]
  · replace h := ite_f h hb
    refine run_skip ?_
    refine thenK_n ?_
    replace h := bind_some1 h; obtain ⟨y_3057, hy_3058, h⟩ := h
    refine run_textE hE [0, 3, 5, 6] (fr' := [(0, .str tag_3053), (3, .ref 0 0), (5, .sl false (L cU8 y_3057.1)), (6, i64 y_3057.2)]) (σ' := [.box [i64 v_3054.Kind, i64 v_3054.N, .sl false (L cU8 v_3054.B), .sl false (L cApi_Value v_3054.L)] false]) ⟨_, orcs_ok (l := [(13, 22, [.agg [i64 v_3054.Kind, i64 v_3054.N, .sl false (L cU8 v_3054.B), .sl false (L cApi_Value v_3054.L)]], .tup [.sl false (L cU8 y_3057.1), i64 y_3057.2])]) ⟨codec_Encode_con hy_3058, trivial⟩, ?_⟩ ?_
    · simp only [go_sem, reduceIte, Nat.reduceLT, Nat.reduceEqDiff, Nat.reduceAdd, Nat.reduceBEq, Nat.reduceMul, Nat.reduceSub, Nat.reduceGT, Nat.reducePow, Nat.reduceLeDiff, Int.reduceToNat]
    refine run_seq ?_
    replace h := bind_some1 h; obtain ⟨t_3059, hv_3060, h⟩ := h
    refine run_textW hE [0, 3, 5, 6, 23] (fr' := [(0, .str tag_3053), (3, .ref 0 0), (5, .sl false (L cU8 y_3057.1)), (6, i64 y_3057.2), (23, .bool t_3059)]) (σ' := [.box [i64 v_3054.Kind, i64 v_3054.N, .sl false (L cU8 v_3054.B), .sl false (L cApi_Value v_3054.L)] false]) ?_ ?_
    · rcases Bool.eq_false_or_eq_true ((decide ((tag_3053.length : Int) > 400))) with hb_3061 | hb_3061
      · replace hv_3060 := ite_t hv_3060 hb_3061
        have e_hv_3060 := Option.some.inj hv_3060; subst e_hv_3060
        exact ⟨_, [(0, .str tag_3053), (3, .ref 0 0), (5, .sl false (L cU8 y_3057.1)), (6, i64 y_3057.2), (23, .bool true)], [.box [i64 v_3054.Kind, i64 v_3054.N, .sl false (L cU8 v_3054.B), .sl false (L cApi_Value v_3054.L)] false], orcs_nil, by simp only [go_sem, reduceIte, Nat.reduceLT, Nat.reduceEqDiff, Nat.reduceAdd, Nat.reduceBEq, Nat.reduceMul, Nat.reduceSub, Nat.reduceGT, Nat.reducePow, Nat.reduceLeDiff, Int.reduceToNat, hb_3061], (weak_sel [0] (by decide) rfl (by simp only [go_sem, reduceIte, Nat.reduceLT, Nat.reduceEqDiff, Nat.reduceAdd, Nat.reduceBEq, Nat.reduceMul, Nat.reduceSub, Nat.reduceGT, Nat.reducePow, Nat.reduceLeDiff, Int.reduceToNat]) (by simp only [go_sem, reduceIte, Nat.reduceLT, Nat.reduceEqDiff, Nat.reduceAdd, Nat.reduceBEq, Nat.reduceMul, Nat.reduceSub, Nat.reduceGT, Nat.reducePow, Nat.reduceLeDiff, Int.reduceToNat]))⟩
      · replace hv_3060 := ite_f hv_3060 hb_3061
        have e_hv_3060 := Option.some.inj hv_3060; subst e_hv_3060
        exact ⟨_, [(0, .str tag_3053), (3, .ref 0 0), (5, .sl false (L cU8 y_3057.1)), (6, i64 y_3057.2), (23, .bool ((decide ((y_3057.1.length : Int) > 1000))))], [.box [i64 v_3054.Kind, i64 v_3054.N, .sl false (L cU8 v_3054.B), .sl false (L cApi_Value v_3054.L)] false], orcs_nil, by simp only [go_sem, reduceIte, Nat.reduceLT, Nat.reduceEqDiff, Nat.reduceAdd, Nat.reduceBEq, Nat.reduceMul, Nat.reduceSub, Nat.reduceGT, Nat.reducePow, Nat.reduceLeDiff, Int.reduceToNat, hb_3061], (weak_sel [0] (by decide) rfl (by simp only [go_sem, reduceIte, Nat.reduceLT, Nat.reduceEqDiff, Nat.reduceAdd, Nat.reduceBEq, Nat.reduceMul, Nat.reduceSub, Nat.reduceGT, Nat.reducePow, Nat.reduceLeDiff, Int.reduceToNat]) (by simp only [go_sem, reduceIte, Nat.reduceLT, Nat.reduceEqDiff, Nat.reduceAdd, Nat.reduceBEq, Nat.reduceMul, Nat.reduceSub, Nat.reduceGT, Nat.reducePow, Nat.reduceLeDiff, Int.reduceToNat]))⟩
    refine run_condL (b := t_3059) rfl (by decide) (fun hb => ?_) (fun hb => ?_)
    · replace h := ite_t h hb
      refine run_textE hE [4] (fr' := [(4, .bool true)]) (σ' := [.box [i64 v_3054.Kind, i64 v_3054.N, .sl false (L cU8 v_3054.B), .sl false (L cApi_Value v_3054.L)] false]) ⟨_, orcs_nil, ?_⟩ ?_
      · simp only [go_sem, reduceIte, Nat.reduceLT, Nat.reduceEqDiff, Nat.reduceAdd, Nat.reduceBEq, Nat.reduceMul, Nat.reduceSub, Nat.reduceGT, Nat.reducePow, Nat.reduceLeDiff, Int.reduceToNat]
      refine run_ret ?_
      refine thenK_r ?_
      obtain rfl := Option.some.inj h
      refine ret_ok (.inr rfl) ?_
      simp only [go_sem, reduceIte, Nat.reduceLT, Nat.reduceEqDiff, Nat.reduceAdd, Nat.reduceBEq, Nat.reduceMul, Nat.reduceSub, Nat.reduceGT, Nat.reducePow, Nat.reduceLeDiff, Int.reduceToNat]
    · replace h := ite_f h hb
      refine run_skip ?_
      refine thenK_n ?_
      replace h := bind_some1 h; obtain ⟨y_3062, hy_3063, h⟩ := h
      refine run_textE hE [0, 5, 6, 7, 8] (fr' := [(0, .str tag_3053), (5, .sl false (L cU8 y_3057.1)), (6, i64 y_3057.2), (7, .ref 1 0), (8, i64 y_3062.2)]) (σ' := [.box [i64 v_3054.Kind, i64 v_3054.N, .sl false (L cU8 v_3054.B), .sl false (L cApi_Value v_3054.L)] false, .box (C1 u8 y_3062.1.l) false]) ⟨_, orcs_ok (l := [(27, 23, [.str tag_3053, .agg [i64 v_3054.Kind, i64 v_3054.N, .sl false (L cU8 v_3054.B), .sl false (L cApi_Value v_3054.L)]], .tup [.agg (C1 u8 y_3062.1.l), i64 y_3062.2])]) ⟨digest_Value_con hy_3063, trivial⟩, ?_⟩ ?_
      · simp only [go_sem, reduceIte, Nat.reduceLT, Nat.reduceEqDiff, Nat.reduceAdd, Nat.reduceBEq, Nat.reduceMul, Nat.reduceSub, Nat.reduceGT, Nat.reducePow, Nat.reduceLeDiff, Int.reduceToNat]
      refine run_seq ?_
      refine run_textE hE [0, 5, 6, 7, 8, 31] (fr' := [(0, .str tag_3053), (5, .sl false (L cU8 y_3057.1)), (6, i64 y_3057.2), (7, .ref 1 0), (8, i64 y_3062.2), (31, .bool ((y_3057.2 != 0)))]) (σ' := [.box [i64 v_3054.Kind, i64 v_3054.N, .sl false (L cU8 v_3054.B), .sl false (L cApi_Value v_3054.L)] false, .box (C1 u8 y_3062.1.l) false]) ⟨_, orcs_nil, ?_⟩ ?_
      · simp only [go_sem, reduceIte, Nat.reduceLT, Nat.reduceEqDiff, Nat.reduceAdd, Nat.reduceBEq, Nat.reduceMul, Nat.reduceSub, Nat.reduceGT, Nat.reducePow, Nat.reduceLeDiff, Int.reduceToNat]
      refine run_condL (b := (y_3057.2 != 0)) rfl (by decide) (fun hb => ?_) (fun hb => ?_)
      · replace h := ite_t h hb
        replace h := bind_some1 h; obtain ⟨t_3064, hv_3065, h⟩ := h
        refine run_textW hE [4] (fr' := [(4, .bool t_3064)]) (σ' := []) ?_ ?_
        · rcases Bool.eq_false_or_eq_true ((y_3062.2 == y_3057.2)) with hb_3066 | hb_3066
          · replace hv_3065 := ite_t hv_3065 hb_3066
            have e_hv_3065 := Option.some.inj hv_3065; subst e_hv_3065
            exact ⟨_, [(4, .bool ((y_3062.1 == (⟨[(0 : UInt8), (0 : UInt8), (0 : UInt8), (0 : UInt8), (0 : UInt8), (0 : UInt8), (0 : UInt8), (0 : UInt8), (0 : UInt8), (0 : UInt8), (0 : UInt8), (0 : UInt8), (0 : UInt8), (0 : UInt8), (0 : UInt8), (0 : UInt8), (0 : UInt8), (0 : UInt8), (0 : UInt8), (0 : UInt8), (0 : UInt8), (0 : UInt8), (0 : UInt8), (0 : UInt8), (0 : UInt8), (0 : UInt8), (0 : UInt8), (0 : UInt8), (0 : UInt8), (0 : UInt8), (0 : UInt8), (0 : UInt8)], rfl⟩ : Arr UInt8 32))))], [.box [i64 v_3054.Kind, i64 v_3054.N, .sl false (L cU8 v_3054.B), .sl false (L cApi_Value v_3054.L)] false, .box (C1 u8 y_3062.1.l) false], orcs_nil, by simp only [go_sem, reduceIte, Nat.reduceLT, Nat.reduceEqDiff, Nat.reduceAdd, Nat.reduceBEq, Nat.reduceMul, Nat.reduceSub, Nat.reduceGT, Nat.reducePow, Nat.reduceLeDiff, Int.reduceToNat, hb_3066, C1_rep, C1_nil, C1_cons], (weak_sel [] (by decide) rfl (by simp only [go_sem, reduceIte, Nat.reduceLT, Nat.reduceEqDiff, Nat.reduceAdd, Nat.reduceBEq, Nat.reduceMul, Nat.reduceSub, Nat.reduceGT, Nat.reducePow, Nat.reduceLeDiff, Int.reduceToNat]) (by simp only [go_sem, reduceIte, Nat.reduceLT, Nat.reduceEqDiff, Nat.reduceAdd, Nat.reduceBEq, Nat.reduceMul, Nat.reduceSub, Nat.reduceGT, Nat.reducePow, Nat.reduceLeDiff, Int.reduceToNat]))⟩
          · replace hv_3065 := ite_f hv_3065 hb_3066
            have e_hv_3065 := Option.some.inj hv_3065; subst e_hv_3065
            exact ⟨_, [(4, .bool false)], [.box [i64 v_3054.Kind, i64 v_3054.N, .sl false (L cU8 v_3054.B), .sl false (L cApi_Value v_3054.L)] false, .box (C1 u8 y_3062.1.l) false], orcs_nil, by simp only [go_sem, reduceIte, Nat.reduceLT, Nat.reduceEqDiff, Nat.reduceAdd, Nat.reduceBEq, Nat.reduceMul, Nat.reduceSub, Nat.reduceGT, Nat.reducePow, Nat.reduceLeDiff, Int.reduceToNat, hb_3066], (weak_sel [] (by decide) rfl (by simp only [go_sem, reduceIte, Nat.reduceLT, Nat.reduceEqDiff, Nat.reduceAdd, Nat.reduceBEq, Nat.reduceMul, Nat.reduceSub, Nat.reduceGT, Nat.reducePow, Nat.reduceLeDiff, Int.reduceToNat]) (by simp only [go_sem, reduceIte, Nat.reduceLT, Nat.reduceEqDiff, Nat.reduceAdd, Nat.reduceBEq, Nat.reduceMul, Nat.reduceSub, Nat.reduceGT, Nat.reducePow, Nat.reduceLeDiff, Int.reduceToNat]))⟩
        refine run_ret ?_
        refine thenK_r ?_
        obtain rfl := Option.some.inj h
        refine ret_ok (.inr rfl) ?_
        simp only [go_sem, reduceIte, Nat.reduceLT, Nat.reduceEqDiff, Nat.reduceAdd, Nat.reduceBEq, Nat.reduceMul, Nat.reduceSub, Nat.reduceGT, Nat.reducePow, Nat.reduceLeDiff, Int.reduceToNat]
      · replace h := ite_f h hb
        refine run_skip ?_
        refine thenK_n ?_
        replace h := bind_some1 h; obtain ⟨t_3068, hv_3069, h⟩ := h
        refine run_drawW hE mixed [[], [0], [0, 1], [0, 1, 2], [0, 1, 2], [0, 1, 2], [0, 1, 2, 4, 5], [0, 1, 2, 3, 4, 5, 6], [0, 1, 2, 3, 4, 5, 6, 7], [0, 1, 2, 3, 4, 5, 6, 7, 8]] (by kernel_rfl) (by kernel_rfl) [4] (fr' := [(4, .bool t_3068)]) (σ' := []) ?_ ?_
        · rcases Bool.eq_false_or_eq_true ((y_3062.2 == 0)) with hb_3070 | hb_3070
          · replace hv_3069 := ite_t hv_3069 hb_3070
            replace hv_3069 := bind_some1 hv_3069; obtain ⟨y_3067, hy_3071, hv_3069⟩ := hv_3069
            have e_hv_3069 := Option.some.inj hv_3069; subst e_hv_3069
            exact ⟨_, [(4, .bool ((y_3062.1 == y_3067)))], [.box [i64 v_3054.Kind, i64 v_3054.N, .sl false (L cU8 v_3054.B), .sl false (L cApi_Value v_3054.L)] false, .box (C1 u8 y_3062.1.l) false], orcs_ok (l := [(46, 14, [.str tag_3053, .sl false (L cU8 y_3057.1)], .agg (C1 u8 y_3067.l))]) ⟨digest_Tagged_con hy_3071, trivial⟩, by simp only [go_sem, reduceIte, Nat.reduceLT, Nat.reduceEqDiff, Nat.reduceAdd, Nat.reduceBEq, Nat.reduceMul, Nat.reduceSub, Nat.reduceGT, Nat.reducePow, Nat.reduceLeDiff, Int.reduceToNat, hb_3070], (weak_sel [] (by decide) rfl (by simp only [go_sem, reduceIte, Nat.reduceLT, Nat.reduceEqDiff, Nat.reduceAdd, Nat.reduceBEq, Nat.reduceMul, Nat.reduceSub, Nat.reduceGT, Nat.reducePow, Nat.reduceLeDiff, Int.reduceToNat]) (by simp only [go_sem, reduceIte, Nat.reduceLT, Nat.reduceEqDiff, Nat.reduceAdd, Nat.reduceBEq, Nat.reduceMul, Nat.reduceSub, Nat.reduceGT, Nat.reducePow, Nat.reduceLeDiff, Int.reduceToNat]))⟩
          · replace hv_3069 := ite_f hv_3069 hb_3070
            have e_hv_3069 := Option.some.inj hv_3069; subst e_hv_3069
            exact ⟨_, [(4, .bool false)], [.box [i64 v_3054.Kind, i64 v_3054.N, .sl false (L cU8 v_3054.B), .sl false (L cApi_Value v_3054.L)] false, .box (C1 u8 y_3062.1.l) false], orcs_nil, by simp only [go_sem, reduceIte, Nat.reduceLT, Nat.reduceEqDiff, Nat.reduceAdd, Nat.reduceBEq, Nat.reduceMul, Nat.reduceSub, Nat.reduceGT, Nat.reducePow, Nat.reduceLeDiff, Int.reduceToNat, hb_3070], (weak_sel [] (by decide) rfl (by simp only [go_sem, reduceIte, Nat.reduceLT, Nat.reduceEqDiff, Nat.reduceAdd, Nat.reduceBEq, Nat.reduceMul, Nat.reduceSub, Nat.reduceGT, Nat.reducePow, Nat.reduceLeDiff, Int.reduceToNat]) (by simp only [go_sem, reduceIte, Nat.reduceLT, Nat.reduceEqDiff, Nat.reduceAdd, Nat.reduceBEq, Nat.reduceMul, Nat.reduceSub, Nat.reduceGT, Nat.reducePow, Nat.reduceLeDiff, Int.reduceToNat]))⟩
        refine run_ret ?_
        obtain rfl := Option.some.inj h
        refine ret_ok (.inr rfl) ?_
        simp only [go_sem, reduceIte, Nat.reduceLT, Nat.reduceEqDiff, Nat.reduceAdd, Nat.reduceBEq, Nat.reduceMul, Nat.reduceSub, Nat.reduceGT, Nat.reducePow, Nat.reduceLeDiff, Int.reduceToNat]

end Go.Proofs.YtgdiabbgiiemcaaDoor
