/-
  The functions compute just that.
-/
import Derived.Test.YtgdiabbgiiemcaaDoorDW10
import Derived.KernelRfl
namespace Go.Proofs.YtgdiabbgiiemcaaDoor
open Go.Rv
set_option linter.unusedVariables false
set_option linter.unusedSimpArgs false
set_option maxRecDepth 20000

theorem law02_DigestTagsSeparate_con {tag_2805 : List UInt8} {b_2806 : List UInt8} {other_2807 : List UInt8} {c_2808 : List UInt8} {r : Bool} (h : law02_DigestTagsSeparate tag_2805 b_2806 other_2807 c_2808 = some r) : Con B 6 [.str tag_2805, .sl false (L cU8 b_2806), .str other_2807, .sl false (L cU8 c_2808)] [] (fun r' σ' => r' = .bool r ∧ σ' = []) := by
  refine con_walk (N := 81) (rs := [.tmp 8]) ok Tryd.func6 rfl (by decide +kernel) rfl rfl (Nat.le_of_ble_eq_true rfl) (fun F => ?_)
  have hE := ok.env F
  unfold law02_DigestTagsSeparate at h
  show Run (B.env F) 0 _ ⟨asFr 81 [(0, .str tag_2805), (1, .sl false (L cU8 b_2806)), (2, .str other_2807), (3, .sl false (L cU8 c_2808))], []⟩ _
  refine run_textE hE [0, 1, 2, 3] (fr' := [(0, .str tag_2805), (1, .sl false (L cU8 b_2806)), (2, .str other_2807), (3, .sl false (L cU8 c_2808))]) (σ' := []) ⟨_, orcs_nil, ?_⟩ ?_
  · simp only [go_sem, reduceIte, Nat.reduceLT, Nat.reduceEqDiff, Nat.reduceAdd, Nat.reduceBEq, Nat.reduceMul, Nat.reduceSub, Nat.reduceGT, Nat.reducePow, Nat.reduceLeDiff, Int.reduceToNat]
  refine run_seq ?_
  replace h := bind_some1 h; obtain ⟨y_2809, hy_2810, h⟩ := h
  refine run_textE hE [0, 1, 2, 3, 14] (fr' := [(0, .str tag_2805), (1, .sl false (L cU8 b_2806)), (2, .str other_2807), (3, .sl false (L cU8 c_2808)), (14, .bool ((!y_2809)))]) (σ' := []) ⟨_, orcs_ok (l := [(13, 11, [], .bool y_2809)]) ⟨law02_sane_con hy_2810, trivial⟩, ?_⟩ ?_
  · simp only [go_sem, reduceIte, Nat.reduceLT, Nat.reduceEqDiff, Nat.reduceAdd, Nat.reduceBEq, Nat.reduceMul, Nat.reduceSub, Nat.reduceGT, Nat.reducePow, Nat.reduceLeDiff, Int.reduceToNat]
  refine run_condL (b := (!y_2809)) rfl (by decide) (fun hb => ?_) (fun hb => ?_)
  · replace h := ite_t h hb
    refine run_textE hE [8] (fr' := [(8, .bool false)]) (σ' := []) ⟨_, orcs_nil, ?_⟩ ?_
    · simp only [go_sem, reduceIte, Nat.reduceLT, Nat.reduceEqDiff, Nat.reduceAdd, Nat.reduceBEq, Nat.reduceMul, Nat.reduceSub, Nat.reduceGT, Nat.reducePow, Nat.reduceLeDiff, Int.reduceToNat]
    refine run_ret ?_
    refine thenK_r ?_
    obtain rfl := Option.some.inj h
    refine ret_ok (.inr rfl) ?_
    simp only [go_sem, reduceIte, Nat.reduceLT, Nat.reduceEqDiff, Nat.reduceAdd, Nat.reduceBEq, Nat.reduceMul, Nat.reduceSub, Nat.reduceGT, Nat.reducePow, Nat.reduceLeDiff, Int.reduceToNat]
  · replace h := ite_f h hb
    refine run_skip ?_
    refine thenK_n ?_
    refine run_seq ?_
    replace h := bind_some1 h; obtain ⟨t_2811, hv_2812, h⟩ := h
    refine run_textW hE [0, 1, 2, 3, 32] (fr' := [(0, .str tag_2805), (1, .sl false (L cU8 b_2806)), (2, .str other_2807), (3, .sl false (L cU8 c_2808)), (32, .bool t_2811)]) (σ' := []) ?_ ?_
    · rcases Bool.eq_false_or_eq_true ((decide ((tag_2805.length : Int) > 400))) with hb_2813 | hb_2813
      · replace hv_2812 := ite_t hv_2812 hb_2813
        have e_hv_2812 := Option.some.inj hv_2812; subst e_hv_2812
        exact ⟨_, [(0, .str tag_2805), (1, .sl false (L cU8 b_2806)), (2, .str other_2807), (3, .sl false (L cU8 c_2808)), (32, .bool true)], [], orcs_nil, by simp only [go_sem, reduceIte, Nat.reduceLT, Nat.reduceEqDiff, Nat.reduceAdd, Nat.reduceBEq, Nat.reduceMul, Nat.reduceSub, Nat.reduceGT, Nat.reducePow, Nat.reduceLeDiff, Int.reduceToNat, hb_2813], (weak_sel [] (by decide) rfl (by simp only [go_sem, reduceIte, Nat.reduceLT, Nat.reduceEqDiff, Nat.reduceAdd, Nat.reduceBEq, Nat.reduceMul, Nat.reduceSub, Nat.reduceGT, Nat.reducePow, Nat.reduceLeDiff, Int.reduceToNat]) (by simp only [go_sem, reduceIte, Nat.reduceLT, Nat.reduceEqDiff, Nat.reduceAdd, Nat.reduceBEq, Nat.reduceMul, Nat.reduceSub, Nat.reduceGT, Nat.reducePow, Nat.reduceLeDiff, Int.reduceToNat]))⟩
      · replace hv_2812 := ite_f hv_2812 hb_2813
        rcases Bool.eq_false_or_eq_true ((decide ((b_2806.length : Int) > 400))) with hb_2814 | hb_2814
        · replace hv_2812 := ite_t hv_2812 hb_2814
          have e_hv_2812 := Option.some.inj hv_2812; subst e_hv_2812
          exact ⟨_, [(0, .str tag_2805), (1, .sl false (L cU8 b_2806)), (2, .str other_2807), (3, .sl false (L cU8 c_2808)), (32, .bool true)], [], orcs_nil, by simp only [go_sem, reduceIte, Nat.reduceLT, Nat.reduceEqDiff, Nat.reduceAdd, Nat.reduceBEq, Nat.reduceMul, Nat.reduceSub, Nat.reduceGT, Nat.reducePow, Nat.reduceLeDiff, Int.reduceToNat, hb_2813, hb_2814], (weak_sel [] (by decide) rfl (by simp only [go_sem, reduceIte, Nat.reduceLT, Nat.reduceEqDiff, Nat.reduceAdd, Nat.reduceBEq, Nat.reduceMul, Nat.reduceSub, Nat.reduceGT, Nat.reducePow, Nat.reduceLeDiff, Int.reduceToNat]) (by simp only [go_sem, reduceIte, Nat.reduceLT, Nat.reduceEqDiff, Nat.reduceAdd, Nat.reduceBEq, Nat.reduceMul, Nat.reduceSub, Nat.reduceGT, Nat.reducePow, Nat.reduceLeDiff, Int.reduceToNat]))⟩
        · replace hv_2812 := ite_f hv_2812 hb_2814
          rcases Bool.eq_false_or_eq_true ((decide ((other_2807.length : Int) > 400))) with hb_2815 | hb_2815
          · replace hv_2812 := ite_t hv_2812 hb_2815
            have e_hv_2812 := Option.some.inj hv_2812; subst e_hv_2812
            exact ⟨_, [(0, .str tag_2805), (1, .sl false (L cU8 b_2806)), (2, .str other_2807), (3, .sl false (L cU8 c_2808)), (32, .bool true)], [], orcs_nil, by simp only [go_sem, reduceIte, Nat.reduceLT, Nat.reduceEqDiff, Nat.reduceAdd, Nat.reduceBEq, Nat.reduceMul, Nat.reduceSub, Nat.reduceGT, Nat.reducePow, Nat.reduceLeDiff, Int.reduceToNat, hb_2813, hb_2814, hb_2815], (weak_sel [] (by decide) rfl (by simp only [go_sem, reduceIte, Nat.reduceLT, Nat.reduceEqDiff, Nat.reduceAdd, Nat.reduceBEq, Nat.reduceMul, Nat.reduceSub, Nat.reduceGT, Nat.reducePow, Nat.reduceLeDiff, Int.reduceToNat]) (by simp only [go_sem, reduceIte, Nat.reduceLT, Nat.reduceEqDiff, Nat.reduceAdd, Nat.reduceBEq, Nat.reduceMul, Nat.reduceSub, Nat.reduceGT, Nat.reducePow, Nat.reduceLeDiff, Int.reduceToNat]))⟩
          · replace hv_2812 := ite_f hv_2812 hb_2815
            have e_hv_2812 := Option.some.inj hv_2812; subst e_hv_2812
            exact ⟨_, [(0, .str tag_2805), (1, .sl false (L cU8 b_2806)), (2, .str other_2807), (3, .sl false (L cU8 c_2808)), (32, .bool ((decide ((c_2808.length : Int) > 400))))], [], orcs_nil, by simp only [go_sem, reduceIte, Nat.reduceLT, Nat.reduceEqDiff, Nat.reduceAdd, Nat.reduceBEq, Nat.reduceMul, Nat.reduceSub, Nat.reduceGT, Nat.reducePow, Nat.reduceLeDiff, Int.reduceToNat, hb_2813, hb_2814, hb_2815], (weak_sel [] (by decide) rfl (by simp only [go_sem, reduceIte, Nat.reduceLT, Nat.reduceEqDiff, Nat.reduceAdd, Nat.reduceBEq, Nat.reduceMul, Nat.reduceSub, Nat.reduceGT, Nat.reducePow, Nat.reduceLeDiff, Int.reduceToNat]) (by simp only [go_sem, reduceIte, Nat.reduceLT, Nat.reduceEqDiff, Nat.reduceAdd, Nat.reduceBEq, Nat.reduceMul, Nat.reduceSub, Nat.reduceGT, Nat.reducePow, Nat.reduceLeDiff, Int.reduceToNat]))⟩
    refine run_condL (b := t_2811) rfl (by decide) (fun hb => ?_) (fun hb => ?_)
    · replace h := ite_t h hb
      refine run_textE hE [8] (fr' := [(8, .bool true)]) (σ' := []) ⟨_, orcs_nil, ?_⟩ ?_
      · simp only [go_sem, reduceIte, Nat.reduceLT, Nat.reduceEqDiff, Nat.reduceAdd, Nat.reduceBEq, Nat.reduceMul, Nat.reduceSub, Nat.reduceGT, Nat.reducePow, Nat.reduceLeDiff, Int.reduceToNat]
      refine run_ret ?_
      refine thenK_r ?_
      obtain rfl := Option.some.inj h
      refine ret_ok (.inr rfl) ?_
      simp only [go_sem, reduceIte, Nat.reduceLT, Nat.reduceEqDiff, Nat.reduceAdd, Nat.reduceBEq, Nat.reduceMul, Nat.reduceSub, Nat.reduceGT, Nat.reducePow, Nat.reduceLeDiff, Int.reduceToNat]
    · replace h := ite_f h hb
      refine run_skip ?_
      refine thenK_n ?_
      replace h := bind_some1 h; obtain ⟨y_2816, hy_2817, h⟩ := h
      refine run_textE hE [0, 1, 2, 3, 9] (fr' := [(0, .str tag_2805), (1, .sl false (L cU8 b_2806)), (2, .str other_2807), (3, .sl false (L cU8 c_2808)), (9, .sl false (L cU8 y_2816))]) (σ' := []) ⟨_, orcs_ok (l := [(35, 20, [.str tag_2805, .sl false (L cU8 b_2806)], .sl false (L cU8 y_2816))]) ⟨r02_Hashed_con hy_2817, trivial⟩, ?_⟩ ?_
      · simp only [go_sem, reduceIte, Nat.reduceLT, Nat.reduceEqDiff, Nat.reduceAdd, Nat.reduceBEq, Nat.reduceMul, Nat.reduceSub, Nat.reduceGT, Nat.reducePow, Nat.reduceLeDiff, Int.reduceToNat]
      replace h := bind_some1 h; obtain ⟨y_2818, hy_2819, h⟩ := h
      refine run_textE hE [0, 1, 2, 3, 9, 10] (fr' := [(0, .str tag_2805), (1, .sl false (L cU8 b_2806)), (2, .str other_2807), (3, .sl false (L cU8 c_2808)), (9, .sl false (L cU8 y_2816)), (10, .sl false (L cU8 y_2818))]) (σ' := []) ⟨_, orcs_ok (l := [(38, 20, [.str other_2807, .sl false (L cU8 c_2808)], .sl false (L cU8 y_2818))]) ⟨r02_Hashed_con hy_2819, trivial⟩, ?_⟩ ?_
      · simp only [go_sem, reduceIte, Nat.reduceLT, Nat.reduceEqDiff, Nat.reduceAdd, Nat.reduceBEq, Nat.reduceMul, Nat.reduceSub, Nat.reduceGT, Nat.reducePow, Nat.reduceLeDiff, Int.reduceToNat]
      replace h := bind_some1 h; obtain ⟨same_2821, hv_2822, h⟩ := h
      refine run_drawW hE mixed [[], [], [1], [1, 2], [0, 1, 2, 3], [], [], [6], [6, 7], [5, 6, 7, 8], [0, 1, 2, 3, 4, 5, 6, 7, 8, 9], [0, 1, 2, 3, 4, 5, 6, 7, 8, 9, 10], [0, 1, 2, 3, 4, 5, 6, 7, 8, 9, 10, 11], [0, 1, 2, 3, 4, 5, 6, 7, 8, 9, 10, 11], [0, 1, 2, 3, 4, 5, 6, 7, 8, 9, 10, 11, 12, 13], [0, 1, 2, 3, 4, 5, 6, 7, 8, 9, 10, 11, 12, 13, 14], [0, 1, 2, 3, 4, 5, 6, 7, 8, 9, 10, 11, 12, 13, 14, 15]] (by kernel_rfl) (by kernel_rfl) [0, 1, 2, 3, 9, 10, 11] (fr' := [(0, .str tag_2805), (1, .sl false (L cU8 b_2806)), (2, .str other_2807), (3, .sl false (L cU8 c_2808)), (9, .sl false (L cU8 y_2816)), (10, .sl false (L cU8 y_2818)), (11, .bool same_2821)]) (σ' := []) ?_ ?_
      · replace hv_2822 := chk_some hv_2822; obtain ⟨hc_2823, hv_2822⟩ := hv_2822
        replace hv_2822 := chk_some hv_2822; obtain ⟨hc_2824, hv_2822⟩ := hv_2822
        rcases Bool.eq_false_or_eq_true ((((tag_2805.take (((mn64 ((tag_2805.length : Int)) 255)).toNat))) == ((other_2807.take (((mn64 ((other_2807.length : Int)) 255)).toNat))))) with hb_2825 | hb_2825
        · replace hv_2822 := ite_t hv_2822 hb_2825
          replace hv_2822 := bind_some1 hv_2822; obtain ⟨y_2820, hy_2826, hv_2822⟩ := hv_2822
          have e_hv_2822 := Option.some.inj hv_2822; subst e_hv_2822
          exact ⟨_, [(0, .str tag_2805), (1, .sl false (L cU8 b_2806)), (2, .str other_2807), (3, .sl false (L cU8 c_2808)), (9, .sl false (L cU8 y_2816)), (10, .sl false (L cU8 y_2818)), (11, .bool y_2820)], [], orcs_ok (l := [(53, 21, [.sl false (L cU8 b_2806), .sl false (L cU8 c_2808)], .bool y_2820)]) ⟨r02_Same_con hy_2826, trivial⟩, by simp only [go_sem, reduceIte, Nat.reduceLT, Nat.reduceEqDiff, Nat.reduceAdd, Nat.reduceBEq, Nat.reduceMul, Nat.reduceSub, Nat.reduceGT, Nat.reducePow, Nat.reduceLeDiff, Int.reduceToNat, hc_2823, hc_2824, hb_2825], (weak_sel [] (by decide) rfl (by simp only [go_sem, reduceIte, Nat.reduceLT, Nat.reduceEqDiff, Nat.reduceAdd, Nat.reduceBEq, Nat.reduceMul, Nat.reduceSub, Nat.reduceGT, Nat.reducePow, Nat.reduceLeDiff, Int.reduceToNat]) (by simp only [go_sem, reduceIte, Nat.reduceLT, Nat.reduceEqDiff, Nat.reduceAdd, Nat.reduceBEq, Nat.reduceMul, Nat.reduceSub, Nat.reduceGT, Nat.reducePow, Nat.reduceLeDiff, Int.reduceToNat]))⟩
        · replace hv_2822 := ite_f hv_2822 hb_2825
          have e_hv_2822 := Option.some.inj hv_2822; subst e_hv_2822
          exact ⟨_, [(0, .str tag_2805), (1, .sl false (L cU8 b_2806)), (2, .str other_2807), (3, .sl false (L cU8 c_2808)), (9, .sl false (L cU8 y_2816)), (10, .sl false (L cU8 y_2818)), (11, .bool false)], [], orcs_nil, by simp only [go_sem, reduceIte, Nat.reduceLT, Nat.reduceEqDiff, Nat.reduceAdd, Nat.reduceBEq, Nat.reduceMul, Nat.reduceSub, Nat.reduceGT, Nat.reducePow, Nat.reduceLeDiff, Int.reduceToNat, hc_2823, hc_2824, hb_2825], (weak_sel [] (by decide) rfl (by simp only [go_sem, reduceIte, Nat.reduceLT, Nat.reduceEqDiff, Nat.reduceAdd, Nat.reduceBEq, Nat.reduceMul, Nat.reduceSub, Nat.reduceGT, Nat.reducePow, Nat.reduceLeDiff, Int.reduceToNat]) (by simp only [go_sem, reduceIte, Nat.reduceLT, Nat.reduceEqDiff, Nat.reduceAdd, Nat.reduceBEq, Nat.reduceMul, Nat.reduceSub, Nat.reduceGT, Nat.reducePow, Nat.reduceLeDiff, Int.reduceToNat]))⟩
      replace h := bind_some1 h; obtain ⟨y_2827, hy_2829, h⟩ := h
      replace h := bind_some1 h; obtain ⟨y_2828, hy_2830, h⟩ := h
      refine run_textE hE [9, 10, 11, 12] (fr' := [(9, .sl false (L cU8 y_2816)), (10, .sl false (L cU8 y_2818)), (11, .bool same_2821), (12, .bool ((y_2827 == y_2828)))]) (σ' := []) ⟨_, orcs_ok (l := [(57, 14, [.str tag_2805, .sl false (L cU8 b_2806)], .agg (C1 u8 y_2827.l)), (60, 14, [.str other_2807, .sl false (L cU8 c_2808)], .agg (C1 u8 y_2828.l))]) ⟨digest_Tagged_con hy_2829, digest_Tagged_con hy_2830, trivial⟩, ?_⟩ ?_
      · simp only [go_sem, reduceIte, Nat.reduceLT, Nat.reduceEqDiff, Nat.reduceAdd, Nat.reduceBEq, Nat.reduceMul, Nat.reduceSub, Nat.reduceGT, Nat.reducePow, Nat.reduceLeDiff, Int.reduceToNat]
      refine run_seq ?_
      replace h := bind_some1 h; obtain ⟨t_2832, hv_2833, h⟩ := h
      refine run_textW hE [9, 10, 12, 73] (fr' := [(9, .sl false (L cU8 y_2816)), (10, .sl false (L cU8 y_2818)), (12, .bool ((y_2827 == y_2828))), (73, .bool t_2832)]) (σ' := []) ?_ ?_
      · replace hv_2833 := bind_some1 hv_2833; obtain ⟨y_2831, hy_2834, hv_2833⟩ := hv_2833
        rcases Bool.eq_false_or_eq_true ((!(same_2821 == y_2831))) with hb_2835 | hb_2835
        · replace hv_2833 := ite_t hv_2833 hb_2835
          have e_hv_2833 := Option.some.inj hv_2833; subst e_hv_2833
          exact ⟨_, [(9, .sl false (L cU8 y_2816)), (10, .sl false (L cU8 y_2818)), (12, .bool ((y_2827 == y_2828))), (73, .bool true)], [], orcs_ok (l := [(65, 21, [.sl false (L cU8 y_2816), .sl false (L cU8 y_2818)], .bool y_2831)]) ⟨r02_Same_con hy_2834, trivial⟩, by simp only [go_sem, reduceIte, Nat.reduceLT, Nat.reduceEqDiff, Nat.reduceAdd, Nat.reduceBEq, Nat.reduceMul, Nat.reduceSub, Nat.reduceGT, Nat.reducePow, Nat.reduceLeDiff, Int.reduceToNat, hb_2835], (weak_sel [] (by decide) rfl (by simp only [go_sem, reduceIte, Nat.reduceLT, Nat.reduceEqDiff, Nat.reduceAdd, Nat.reduceBEq, Nat.reduceMul, Nat.reduceSub, Nat.reduceGT, Nat.reducePow, Nat.reduceLeDiff, Int.reduceToNat]) (by simp only [go_sem, reduceIte, Nat.reduceLT, Nat.reduceEqDiff, Nat.reduceAdd, Nat.reduceBEq, Nat.reduceMul, Nat.reduceSub, Nat.reduceGT, Nat.reducePow, Nat.reduceLeDiff, Int.reduceToNat]))⟩
        · replace hv_2833 := ite_f hv_2833 hb_2835
          rcases Bool.eq_false_or_eq_true same_2821 with hb_2836 | hb_2836
          · replace hv_2833 := ite_t hv_2833 hb_2836
            have hb_2837 := hb_2835; try simp only [hb_2836] at hb_2837
            have e_hv_2833 := Option.some.inj hv_2833; subst e_hv_2833
            exact ⟨_, [(9, .sl false (L cU8 y_2816)), (10, .sl false (L cU8 y_2818)), (12, .bool ((y_2827 == y_2828))), (73, .bool ((!(y_2827 == y_2828))))], [], orcs_ok (l := [(65, 21, [.sl false (L cU8 y_2816), .sl false (L cU8 y_2818)], .bool y_2831)]) ⟨r02_Same_con hy_2834, trivial⟩, by simp only [go_sem, reduceIte, Nat.reduceLT, Nat.reduceEqDiff, Nat.reduceAdd, Nat.reduceBEq, Nat.reduceMul, Nat.reduceSub, Nat.reduceGT, Nat.reducePow, Nat.reduceLeDiff, Int.reduceToNat, hb_2835, hb_2836, hb_2837], (weak_sel [] (by decide) rfl (by simp only [go_sem, reduceIte, Nat.reduceLT, Nat.reduceEqDiff, Nat.reduceAdd, Nat.reduceBEq, Nat.reduceMul, Nat.reduceSub, Nat.reduceGT, Nat.reducePow, Nat.reduceLeDiff, Int.reduceToNat]) (by simp only [go_sem, reduceIte, Nat.reduceLT, Nat.reduceEqDiff, Nat.reduceAdd, Nat.reduceBEq, Nat.reduceMul, Nat.reduceSub, Nat.reduceGT, Nat.reducePow, Nat.reduceLeDiff, Int.reduceToNat]))⟩
          · replace hv_2833 := ite_f hv_2833 hb_2836
            have hb_2837 := hb_2835; try simp only [hb_2836] at hb_2837
            have e_hv_2833 := Option.some.inj hv_2833; subst e_hv_2833
            exact ⟨_, [(9, .sl false (L cU8 y_2816)), (10, .sl false (L cU8 y_2818)), (12, .bool ((y_2827 == y_2828))), (73, .bool false)], [], orcs_ok (l := [(65, 21, [.sl false (L cU8 y_2816), .sl false (L cU8 y_2818)], .bool y_2831)]) ⟨r02_Same_con hy_2834, trivial⟩, by simp only [go_sem, reduceIte, Nat.reduceLT, Nat.reduceEqDiff, Nat.reduceAdd, Nat.reduceBEq, Nat.reduceMul, Nat.reduceSub, Nat.reduceGT, Nat.reducePow, Nat.reduceLeDiff, Int.reduceToNat, hb_2835, hb_2836, hb_2837], (weak_sel [] (by decide) rfl (by simp only [go_sem, reduceIte, Nat.reduceLT, Nat.reduceEqDiff, Nat.reduceAdd, Nat.reduceBEq, Nat.reduceMul, Nat.reduceSub, Nat.reduceGT, Nat.reducePow, Nat.reduceLeDiff, Int.reduceToNat]) (by simp only [go_sem, reduceIte, Nat.reduceLT, Nat.reduceEqDiff, Nat.reduceAdd, Nat.reduceBEq, Nat.reduceMul, Nat.reduceSub, Nat.reduceGT, Nat.reducePow, Nat.reduceLeDiff, Int.reduceToNat]))⟩
      refine run_condL (b := t_2832) rfl (by decide) (fun hb => ?_) (fun hb => ?_)
      · replace h := ite_t h hb
        refine run_textE hE [8] (fr' := [(8, .bool false)]) (σ' := []) ⟨_, orcs_nil, ?_⟩ ?_
        · simp only [go_sem, reduceIte, Nat.reduceLT, Nat.reduceEqDiff, Nat.reduceAdd, Nat.reduceBEq, Nat.reduceMul, Nat.reduceSub, Nat.reduceGT, Nat.reducePow, Nat.reduceLeDiff, Int.reduceToNat]
        refine run_ret ?_
        refine thenK_r ?_
        obtain rfl := Option.some.inj h
        refine ret_ok (.inr rfl) ?_
        simp only [go_sem, reduceIte, Nat.reduceLT, Nat.reduceEqDiff, Nat.reduceAdd, Nat.reduceBEq, Nat.reduceMul, Nat.reduceSub, Nat.reduceGT, Nat.reducePow, Nat.reduceLeDiff, Int.reduceToNat]
      · replace h := ite_f h hb
        refine run_skip ?_
        refine thenK_n ?_
        replace h := bind_some1 h; obtain ⟨y_2838, hy_2840, h⟩ := h
        replace h := bind_some1 h; obtain ⟨y_2839, hy_2841, h⟩ := h
        refine run_textE hE [8] (fr' := [(8, .bool (((y_2827 == y_2828) == (y_2838 == y_2839))))]) (σ' := []) ⟨_, orcs_ok (l := [(76, 12, [.sl false (L cU8 y_2816)], .agg (C1 u8 y_2838.l)), (78, 12, [.sl false (L cU8 y_2818)], .agg (C1 u8 y_2839.l))]) ⟨digest_Sum_con hy_2840, digest_Sum_con hy_2841, trivial⟩, ?_⟩ ?_
        · simp only [go_sem, reduceIte, Nat.reduceLT, Nat.reduceEqDiff, Nat.reduceAdd, Nat.reduceBEq, Nat.reduceMul, Nat.reduceSub, Nat.reduceGT, Nat.reducePow, Nat.reduceLeDiff, Int.reduceToNat]
        refine run_ret ?_
        obtain rfl := Option.some.inj h
        refine ret_ok (.inr rfl) ?_
        simp only [go_sem, reduceIte, Nat.reduceLT, Nat.reduceEqDiff, Nat.reduceAdd, Nat.reduceBEq, Nat.reduceMul, Nat.reduceSub, Nat.reduceGT, Nat.reducePow, Nat.reduceLeDiff, Int.reduceToNat]

end Go.Proofs.YtgdiabbgiiemcaaDoor
