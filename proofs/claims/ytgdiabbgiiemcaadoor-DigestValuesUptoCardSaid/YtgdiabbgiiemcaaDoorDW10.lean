/-
  The functions compute just that.
-/
import Derived.Test.YtgdiabbgiiemcaaDoorDW9
import Derived.KernelRfl
namespace Go.Proofs.YtgdiabbgiiemcaaDoor
open Go.Rv
set_option linter.unusedVariables false
set_option linter.unusedSimpArgs false
set_option maxRecDepth 20000

theorem law02_sane_con  {r : Bool} (h : law02_sane  = some r) : Con B 11 [] [] (fun r' σ' => r' = .bool r ∧ σ' = []) := by
  refine con_walk (N := 86) (rs := [.tmp 0]) ok Tryd.func11 rfl (by decide +kernel) rfl rfl (Nat.le_of_ble_eq_true rfl) (fun F => ?_)
  have hE := ok.env F
  unfold law02_sane at h
  show Run (B.env F) 0 _ ⟨asFr 86 [], []⟩ _
  refine run_textE hE [] (fr' := []) (σ' := []) ⟨_, orcs_nil, ?_⟩ ?_
  · simp only [go_sem, reduceIte, Nat.reduceLT, Nat.reduceEqDiff, Nat.reduceAdd, Nat.reduceBEq, Nat.reduceMul, Nat.reduceSub, Nat.reduceGT, Nat.reducePow, Nat.reduceLeDiff, Int.reduceToNat]
  replace h := lt1_some h; obtain ⟨f_2767, hz_2768, h⟩ := h
  refine run_textE hE [1] (fr' := [(1, .ref 0 0)]) (σ' := [.box (C1 u8 f_2767.l) false]) ⟨_, orcs_nil, ?_⟩ ?_
  · subst hz_2768; simp only [go_sem, reduceIte, Nat.reduceLT, Nat.reduceEqDiff, Nat.reduceAdd, Nat.reduceBEq, Nat.reduceMul, Nat.reduceSub, Nat.reduceGT, Nat.reducePow, Nat.reduceLeDiff, Int.reduceToNat, C1_rep, C1_nil, C1_cons]
  replace h := lt1_some h; obtain ⟨f_2769, hz_2770, h⟩ := h
  refine run_textE hE [1, 2] (fr' := [(1, .ref 0 0), (2, .ref 1 0)]) (σ' := [.box (C1 u8 f_2767.l) false, .box (C1 u8 f_2769.l) false]) ⟨_, orcs_nil, ?_⟩ ?_
  · subst hz_2770; simp only [go_sem, reduceIte, Nat.reduceLT, Nat.reduceEqDiff, Nat.reduceAdd, Nat.reduceBEq, Nat.reduceMul, Nat.reduceSub, Nat.reduceGT, Nat.reducePow, Nat.reduceLeDiff, Int.reduceToNat, C1_rep, C1_nil, C1_cons]
  have hk_2771 : InR 6 32 := by decide
  replace h := lt1_some h; obtain ⟨f_2772, hz_2773, h⟩ := h
  refine run_textE hE [1, 2] (fr' := [(1, .ref 0 0), (2, .ref 1 0)]) (σ' := [.box (C1 u8 f_2767.l) false, .box (C1 u8 f_2772.l) false]) ⟨_, orcs_nil, ?_⟩ ?_
  · subst hz_2773; simp only [go_sem, reduceIte, Nat.reduceLT, Nat.reduceEqDiff, Nat.reduceAdd, Nat.reduceBEq, Nat.reduceMul, Nat.reduceSub, Nat.reduceGT, Nat.reducePow, Nat.reduceLeDiff, Int.reduceToNat, hk_2771, hk_2771.2]
  have hk_2774 : InR 7 32 := by decide
  replace h := lt1_some h; obtain ⟨f_2775, hz_2776, h⟩ := h
  refine run_textE hE [1, 2] (fr' := [(1, .ref 0 0), (2, .ref 1 0)]) (σ' := [.box (C1 u8 f_2767.l) false, .box (C1 u8 f_2775.l) false]) ⟨_, orcs_nil, ?_⟩ ?_
  · subst hz_2776; simp only [go_sem, reduceIte, Nat.reduceLT, Nat.reduceEqDiff, Nat.reduceAdd, Nat.reduceBEq, Nat.reduceMul, Nat.reduceSub, Nat.reduceGT, Nat.reducePow, Nat.reduceLeDiff, Int.reduceToNat, hk_2774, hk_2774.2]
  replace h := bind_some1 h; obtain ⟨y_2777, hy_2778, h⟩ := h
  refine run_textE hE [1, 2, 3, 4] (fr' := [(1, .ref 0 0), (2, .ref 1 0), (3, .ref 2 0), (4, i64 y_2777.2)]) (σ' := [.box (C1 u8 f_2767.l) false, .box (C1 u8 f_2775.l) false, .box (C1 u8 y_2777.1.l) false]) ⟨_, orcs_ok (l := [(18, 23, [.str (([116] : List UInt8)), .agg [i64 1, i64 0, .sl false (L cU8 ([])), .sl false (L cApi_Value ([]))]], .tup [.agg (C1 u8 y_2777.1.l), i64 y_2777.2])]) ⟨digest_Value_con hy_2778, trivial⟩, ?_⟩ ?_
  · simp only [go_sem, reduceIte, Nat.reduceLT, Nat.reduceEqDiff, Nat.reduceAdd, Nat.reduceBEq, Nat.reduceMul, Nat.reduceSub, Nat.reduceGT, Nat.reducePow, Nat.reduceLeDiff, Int.reduceToNat]
  replace h := bind_some1 h; obtain ⟨y_2779, hy_2780, h⟩ := h
  refine run_textE hE [1, 2, 3, 4, 5, 6] (fr' := [(1, .ref 0 0), (2, .ref 1 0), (3, .ref 2 0), (4, i64 y_2777.2), (5, .sl false (L cU8 y_2779.1)), (6, i64 y_2779.2)]) (σ' := [.box (C1 u8 f_2767.l) false, .box (C1 u8 f_2775.l) false, .box (C1 u8 y_2777.1.l) false]) ⟨_, orcs_ok (l := [(23, 22, [.agg [i64 1, i64 0, .sl false (L cU8 ([])), .sl false (L cApi_Value ([]))]], .tup [.sl false (L cU8 y_2779.1), i64 y_2779.2])]) ⟨codec_Encode_con hy_2780, trivial⟩, ?_⟩ ?_
  · simp only [go_sem, reduceIte, Nat.reduceLT, Nat.reduceEqDiff, Nat.reduceAdd, Nat.reduceBEq, Nat.reduceMul, Nat.reduceSub, Nat.reduceGT, Nat.reducePow, Nat.reduceLeDiff, Int.reduceToNat]
  replace h := bind_some1 h; obtain ⟨y_2781, hy_2782, h⟩ := h
  refine run_textE hE [1, 2, 3, 4, 5, 6, 8] (fr' := [(1, .ref 0 0), (2, .ref 1 0), (3, .ref 2 0), (4, i64 y_2777.2), (5, .sl false (L cU8 y_2779.1)), (6, i64 y_2779.2), (8, i64 y_2781.2)]) (σ' := [.box (C1 u8 f_2767.l) false, .box (C1 u8 f_2775.l) false, .box (C1 u8 y_2777.1.l) false, .box (C1 u8 y_2781.1.l) false]) ⟨_, orcs_ok (l := [(28, 23, [.str (([116] : List UInt8)), .agg [i64 0, i64 0, .sl false (L cU8 ([])), .sl false (L cApi_Value ([]))]], .tup [.agg (C1 u8 y_2781.1.l), i64 y_2781.2])]) ⟨digest_Value_con hy_2782, trivial⟩, ?_⟩ ?_
  · simp only [go_sem, reduceIte, Nat.reduceLT, Nat.reduceEqDiff, Nat.reduceAdd, Nat.reduceBEq, Nat.reduceMul, Nat.reduceSub, Nat.reduceGT, Nat.reducePow, Nat.reduceLeDiff, Int.reduceToNat]
  replace h := bind_some1 h; obtain ⟨sums_2787, hv_2788, h⟩ := h
  refine run_textW hE [1, 2, 3, 4, 5, 6, 8, 9] (fr' := [(1, .ref 0 0), (2, .ref 1 0), (3, .ref 2 0), (4, i64 y_2777.2), (5, .sl false (L cU8 y_2779.1)), (6, i64 y_2779.2), (8, i64 y_2781.2), (9, .bool sums_2787)]) (σ' := [.box (C1 u8 f_2767.l) false, .box (C1 u8 f_2775.l) false, .box (C1 u8 y_2777.1.l) false]) ?_ ?_
  · replace hv_2788 := bind_some1 hv_2788; obtain ⟨y_2783, hy_2789, hv_2788⟩ := hv_2788
    replace hv_2788 := bind_some1 hv_2788; obtain ⟨y_2784, hy_2790, hv_2788⟩ := hv_2788
    rcases Bool.eq_false_or_eq_true y_2784 with hb_2791 | hb_2791
    · replace hv_2788 := ite_t hv_2788 hb_2791
      replace hv_2788 := bind_some1 hv_2788; obtain ⟨y_2785, hy_2792, hv_2788⟩ := hv_2788
      replace hv_2788 := bind_some1 hv_2788; obtain ⟨y_2786, hy_2793, hv_2788⟩ := hv_2788
      have e_hv_2788 := Option.some.inj hv_2788; subst e_hv_2788
      exact ⟨_, [(1, .ref 0 0), (2, .ref 1 0), (3, .ref 2 0), (4, i64 y_2777.2), (5, .sl false (L cU8 y_2779.1)), (6, i64 y_2779.2), (8, i64 y_2781.2), (9, .bool y_2786)], [.box (C1 u8 f_2767.l) false, .box (C1 u8 f_2775.l) false, .box (C1 u8 y_2777.1.l) false, .box (C1 u8 y_2781.1.l) false, .buf 1 (L cU8 (([(97 : UInt8), (98 : UInt8), (99 : UInt8)] : List UInt8))) false], orcs_ok (l := [(31, 12, [.sl false (L cU8 ([]))], .agg (C1 u8 y_2783.l)), (32, 27, [.agg (C1 u8 y_2783.l), u8 ((227 : UInt8)), u8 ((176 : UInt8)), u8 ((196 : UInt8)), u8 ((66 : UInt8)), u8 ((85 : UInt8))], .bool y_2784), (36, 12, [.sl false (L cU8 (([(97 : UInt8), (98 : UInt8), (99 : UInt8)] : List UInt8)))], .agg (C1 u8 y_2785.l)), (37, 27, [.agg (C1 u8 y_2785.l), u8 ((186 : UInt8)), u8 ((120 : UInt8)), u8 ((22 : UInt8)), u8 ((191 : UInt8)), u8 ((173 : UInt8))], .bool y_2786)]) ⟨digest_Sum_con hy_2789, law02_vector_con hy_2790, digest_Sum_con hy_2792, law02_vector_con hy_2793, trivial⟩, by simp only [go_sem, reduceIte, Nat.reduceLT, Nat.reduceEqDiff, Nat.reduceAdd, Nat.reduceBEq, Nat.reduceMul, Nat.reduceSub, Nat.reduceGT, Nat.reducePow, Nat.reduceLeDiff, Int.reduceToNat, hb_2791], (weak_sel [0, 1, 2] (by decide) rfl (by simp only [go_sem, reduceIte, Nat.reduceLT, Nat.reduceEqDiff, Nat.reduceAdd, Nat.reduceBEq, Nat.reduceMul, Nat.reduceSub, Nat.reduceGT, Nat.reducePow, Nat.reduceLeDiff, Int.reduceToNat]) (by simp only [go_sem, reduceIte, Nat.reduceLT, Nat.reduceEqDiff, Nat.reduceAdd, Nat.reduceBEq, Nat.reduceMul, Nat.reduceSub, Nat.reduceGT, Nat.reducePow, Nat.reduceLeDiff, Int.reduceToNat]))⟩
    · replace hv_2788 := ite_f hv_2788 hb_2791
      have e_hv_2788 := Option.some.inj hv_2788; subst e_hv_2788
      exact ⟨_, [(1, .ref 0 0), (2, .ref 1 0), (3, .ref 2 0), (4, i64 y_2777.2), (5, .sl false (L cU8 y_2779.1)), (6, i64 y_2779.2), (8, i64 y_2781.2), (9, .bool false)], [.box (C1 u8 f_2767.l) false, .box (C1 u8 f_2775.l) false, .box (C1 u8 y_2777.1.l) false, .box (C1 u8 y_2781.1.l) false], orcs_ok (l := [(31, 12, [.sl false (L cU8 ([]))], .agg (C1 u8 y_2783.l)), (32, 27, [.agg (C1 u8 y_2783.l), u8 ((227 : UInt8)), u8 ((176 : UInt8)), u8 ((196 : UInt8)), u8 ((66 : UInt8)), u8 ((85 : UInt8))], .bool y_2784)]) ⟨digest_Sum_con hy_2789, law02_vector_con hy_2790, trivial⟩, by simp only [go_sem, reduceIte, Nat.reduceLT, Nat.reduceEqDiff, Nat.reduceAdd, Nat.reduceBEq, Nat.reduceMul, Nat.reduceSub, Nat.reduceGT, Nat.reducePow, Nat.reduceLeDiff, Int.reduceToNat, hb_2791], (weak_sel [0, 1, 2] (by decide) rfl (by simp only [go_sem, reduceIte, Nat.reduceLT, Nat.reduceEqDiff, Nat.reduceAdd, Nat.reduceBEq, Nat.reduceMul, Nat.reduceSub, Nat.reduceGT, Nat.reducePow, Nat.reduceLeDiff, Int.reduceToNat]) (by simp only [go_sem, reduceIte, Nat.reduceLT, Nat.reduceEqDiff, Nat.reduceAdd, Nat.reduceBEq, Nat.reduceMul, Nat.reduceSub, Nat.reduceGT, Nat.reducePow, Nat.reduceLeDiff, Int.reduceToNat]))⟩
  replace h := bind_some1 h; obtain ⟨tags_2798, hv_2799, h⟩ := h
  refine run_textW hE [1, 2, 3, 4, 5, 6, 8, 9, 10] (fr' := [(1, .ref 0 0), (2, .ref 1 0), (3, .ref 2 0), (4, i64 y_2777.2), (5, .sl false (L cU8 y_2779.1)), (6, i64 y_2779.2), (8, i64 y_2781.2), (9, .bool sums_2787), (10, .bool tags_2798)]) (σ' := [.box (C1 u8 f_2767.l) false, .box (C1 u8 f_2775.l) false, .box (C1 u8 y_2777.1.l) false]) ?_ ?_
  · replace hv_2799 := bind_some1 hv_2799; obtain ⟨y_2794, hy_2800, hv_2799⟩ := hv_2799
    replace hv_2799 := bind_some1 hv_2799; obtain ⟨y_2795, hy_2801, hv_2799⟩ := hv_2799
    rcases Bool.eq_false_or_eq_true ((y_2794 == y_2795)) with hb_2802 | hb_2802
    · replace hv_2799 := ite_t hv_2799 hb_2802
      replace hv_2799 := bind_some1 hv_2799; obtain ⟨y_2796, hy_2803, hv_2799⟩ := hv_2799
      replace hv_2799 := bind_some1 hv_2799; obtain ⟨y_2797, hy_2804, hv_2799⟩ := hv_2799
      have e_hv_2799 := Option.some.inj hv_2799; subst e_hv_2799
      exact ⟨_, [(1, .ref 0 0), (2, .ref 1 0), (3, .ref 2 0), (4, i64 y_2777.2), (5, .sl false (L cU8 y_2779.1)), (6, i64 y_2779.2), (8, i64 y_2781.2), (9, .bool sums_2787), (10, .bool ((y_2796 == y_2797)))], [.box (C1 u8 f_2767.l) false, .box (C1 u8 f_2775.l) false, .box (C1 u8 y_2777.1.l) false, .buf 1 (L cU8 (([(98 : UInt8), (99 : UInt8)] : List UInt8))) false, .buf 1 (L cU8 (([(1 : UInt8), (97 : UInt8), (98 : UInt8), (99 : UInt8)] : List UInt8))) false, .buf 1 (L cU8 (([(0 : UInt8)] : List UInt8))) false], orcs_ok (l := [(41, 14, [.str (([97] : List UInt8)), .sl false (L cU8 (([(98 : UInt8), (99 : UInt8)] : List UInt8)))], .agg (C1 u8 y_2794.l)), (43, 12, [.sl false (L cU8 (([(1 : UInt8), (97 : UInt8), (98 : UInt8), (99 : UInt8)] : List UInt8)))], .agg (C1 u8 y_2795.l)), (46, 14, [.str (([] : List UInt8)), .sl false (L cU8 ([]))], .agg (C1 u8 y_2796.l)), (48, 12, [.sl false (L cU8 (([(0 : UInt8)] : List UInt8)))], .agg (C1 u8 y_2797.l))]) ⟨digest_Tagged_con hy_2800, digest_Sum_con hy_2801, digest_Tagged_con hy_2803, digest_Sum_con hy_2804, trivial⟩, by simp only [go_sem, reduceIte, Nat.reduceLT, Nat.reduceEqDiff, Nat.reduceAdd, Nat.reduceBEq, Nat.reduceMul, Nat.reduceSub, Nat.reduceGT, Nat.reducePow, Nat.reduceLeDiff, Int.reduceToNat, hb_2802], (weak_sel [0, 1, 2] (by decide) rfl (by simp only [go_sem, reduceIte, Nat.reduceLT, Nat.reduceEqDiff, Nat.reduceAdd, Nat.reduceBEq, Nat.reduceMul, Nat.reduceSub, Nat.reduceGT, Nat.reducePow, Nat.reduceLeDiff, Int.reduceToNat]) (by simp only [go_sem, reduceIte, Nat.reduceLT, Nat.reduceEqDiff, Nat.reduceAdd, Nat.reduceBEq, Nat.reduceMul, Nat.reduceSub, Nat.reduceGT, Nat.reducePow, Nat.reduceLeDiff, Int.reduceToNat]))⟩
    · replace hv_2799 := ite_f hv_2799 hb_2802
      have e_hv_2799 := Option.some.inj hv_2799; subst e_hv_2799
      exact ⟨_, [(1, .ref 0 0), (2, .ref 1 0), (3, .ref 2 0), (4, i64 y_2777.2), (5, .sl false (L cU8 y_2779.1)), (6, i64 y_2779.2), (8, i64 y_2781.2), (9, .bool sums_2787), (10, .bool false)], [.box (C1 u8 f_2767.l) false, .box (C1 u8 f_2775.l) false, .box (C1 u8 y_2777.1.l) false, .buf 1 (L cU8 (([(98 : UInt8), (99 : UInt8)] : List UInt8))) false, .buf 1 (L cU8 (([(1 : UInt8), (97 : UInt8), (98 : UInt8), (99 : UInt8)] : List UInt8))) false], orcs_ok (l := [(41, 14, [.str (([97] : List UInt8)), .sl false (L cU8 (([(98 : UInt8), (99 : UInt8)] : List UInt8)))], .agg (C1 u8 y_2794.l)), (43, 12, [.sl false (L cU8 (([(1 : UInt8), (97 : UInt8), (98 : UInt8), (99 : UInt8)] : List UInt8)))], .agg (C1 u8 y_2795.l))]) ⟨digest_Tagged_con hy_2800, digest_Sum_con hy_2801, trivial⟩, by simp only [go_sem, reduceIte, Nat.reduceLT, Nat.reduceEqDiff, Nat.reduceAdd, Nat.reduceBEq, Nat.reduceMul, Nat.reduceSub, Nat.reduceGT, Nat.reducePow, Nat.reduceLeDiff, Int.reduceToNat, hb_2802], (weak_sel [0, 1, 2] (by decide) rfl (by simp only [go_sem, reduceIte, Nat.reduceLT, Nat.reduceEqDiff, Nat.reduceAdd, Nat.reduceBEq, Nat.reduceMul, Nat.reduceSub, Nat.reduceGT, Nat.reducePow, Nat.reduceLeDiff, Int.reduceToNat]) (by simp only [go_sem, reduceIte, Nat.reduceLT, Nat.reduceEqDiff, Nat.reduceAdd, Nat.reduceBEq, Nat.reduceMul, Nat.reduceSub, Nat.reduceGT, Nat.reducePow, Nat.reduceLeDiff, Int.reduceToNat]))⟩
  replace h := bind_some1 h; obtain ⟨links_2808, hv_2809, h⟩ := h
  refine run_drawW hE mixed [[], [0], [], [0, 1, 2], [0, 1, 2, 3], [0, 1, 2, 3, 4], [0, 1, 2, 3, 4, 5], [0, 1, 2, 3, 4, 5, 6], [0, 1, 2, 3, 4, 5, 6, 7], [0, 1, 2, 3, 4, 5, 6, 7, 8], [0, 1, 2, 3, 4, 5, 6, 7, 8, 9]] (by kernel_rfl) (by kernel_rfl) [3, 4, 5, 6, 8, 9, 10, 11] (fr' := [(3, .ref 0 0), (4, i64 y_2777.2), (5, .sl false (L cU8 y_2779.1)), (6, i64 y_2779.2), (8, i64 y_2781.2), (9, .bool sums_2787), (10, .bool tags_2798), (11, .bool links_2808)]) (σ' := [.box (C1 u8 y_2777.1.l) false]) ?_ ?_
  · replace hv_2809 := bind_some1 hv_2809; obtain ⟨y_2805, hy_2810, hv_2809⟩ := hv_2809
    replace hv_2809 := bind_some1 hv_2809; obtain ⟨y_2806, hy_2811, hv_2809⟩ := hv_2809
    rcases Bool.eq_false_or_eq_true ((y_2805 == y_2806)) with hb_2812 | hb_2812
    · replace hv_2809 := ite_t hv_2809 hb_2812
      replace hv_2809 := bind_some1 hv_2809; obtain ⟨y_2807, hy_2813, hv_2809⟩ := hv_2809
      have e_hv_2809 := Option.some.inj hv_2809; subst e_hv_2809
      exact ⟨_, [(3, .ref 2 0), (4, i64 y_2777.2), (5, .sl false (L cU8 y_2779.1)), (6, i64 y_2779.2), (8, i64 y_2781.2), (9, .bool sums_2787), (10, .bool tags_2798), (11, .bool ((y_2807 == (258 : UInt64))))], [.box (C1 u8 f_2767.l) true, .box (C1 u8 f_2775.l) false, .box (C1 u8 y_2777.1.l) false], orcs_ok (l := [(52, 16, [.agg (C1 u8 f_2767.l), .sl false (L cU8 ([]))], .agg (C1 u8 y_2805.l)), (54, 14, [.str (([110, 101, 120, 116] : List UInt8)), .sl false (L cU8 f_2767.l)], .agg (C1 u8 y_2806.l)), (58, 18, [.agg (C1 u8 f_2775.l)], u64 y_2807)]) ⟨digest_Next_con hy_2810, digest_Tagged_con hy_2811, digest_Number_con hy_2813, trivial⟩, by simp only [go_sem, reduceIte, Nat.reduceLT, Nat.reduceEqDiff, Nat.reduceAdd, Nat.reduceBEq, Nat.reduceMul, Nat.reduceSub, Nat.reduceGT, Nat.reducePow, Nat.reduceLeDiff, Int.reduceToNat, hb_2812], (weak_sel [2] (by decide) rfl (by simp only [go_sem, reduceIte, Nat.reduceLT, Nat.reduceEqDiff, Nat.reduceAdd, Nat.reduceBEq, Nat.reduceMul, Nat.reduceSub, Nat.reduceGT, Nat.reducePow, Nat.reduceLeDiff, Int.reduceToNat]) (by simp only [go_sem, reduceIte, Nat.reduceLT, Nat.reduceEqDiff, Nat.reduceAdd, Nat.reduceBEq, Nat.reduceMul, Nat.reduceSub, Nat.reduceGT, Nat.reducePow, Nat.reduceLeDiff, Int.reduceToNat]))⟩
    · replace hv_2809 := ite_f hv_2809 hb_2812
      have e_hv_2809 := Option.some.inj hv_2809; subst e_hv_2809
      exact ⟨_, [(3, .ref 2 0), (4, i64 y_2777.2), (5, .sl false (L cU8 y_2779.1)), (6, i64 y_2779.2), (8, i64 y_2781.2), (9, .bool sums_2787), (10, .bool tags_2798), (11, .bool false)], [.box (C1 u8 f_2767.l) true, .box (C1 u8 f_2775.l) false, .box (C1 u8 y_2777.1.l) false], orcs_ok (l := [(52, 16, [.agg (C1 u8 f_2767.l), .sl false (L cU8 ([]))], .agg (C1 u8 y_2805.l)), (54, 14, [.str (([110, 101, 120, 116] : List UInt8)), .sl false (L cU8 f_2767.l)], .agg (C1 u8 y_2806.l))]) ⟨digest_Next_con hy_2810, digest_Tagged_con hy_2811, trivial⟩, by simp only [go_sem, reduceIte, Nat.reduceLT, Nat.reduceEqDiff, Nat.reduceAdd, Nat.reduceBEq, Nat.reduceMul, Nat.reduceSub, Nat.reduceGT, Nat.reducePow, Nat.reduceLeDiff, Int.reduceToNat, hb_2812], (weak_sel [2] (by decide) rfl (by simp only [go_sem, reduceIte, Nat.reduceLT, Nat.reduceEqDiff, Nat.reduceAdd, Nat.reduceBEq, Nat.reduceMul, Nat.reduceSub, Nat.reduceGT, Nat.reducePow, Nat.reduceLeDiff, Int.reduceToNat]) (by simp only [go_sem, reduceIte, Nat.reduceLT, Nat.reduceEqDiff, Nat.reduceAdd, Nat.reduceBEq, Nat.reduceMul, Nat.reduceSub, Nat.reduceGT, Nat.reducePow, Nat.reduceLeDiff, Int.reduceToNat]))⟩
  replace h := bind_some1 h; obtain ⟨t_2815, hv_2816, h⟩ := h
  refine run_drawW hE mixed [[], [0], [0, 1], [0, 1, 2], [0, 1, 2, 3], [0, 1, 2, 3, 4], [0, 1, 2, 3, 4, 5], [0, 1, 2, 3, 4, 5, 6], [0, 1, 2, 3, 4, 5, 6, 7], [0, 1, 2, 3, 4, 5, 6, 7, 8], [0, 1, 2, 3, 4, 5, 6, 7, 8, 9], [0, 1, 2, 3, 4, 5, 6, 7, 8, 9, 10], [0, 1, 2, 3, 4, 5, 6, 7, 8, 9, 10, 11], [0, 1, 2, 3, 4, 5, 6, 7, 8, 9, 10, 11, 12], [0, 1, 2, 3, 4, 5, 6, 7, 8, 9, 10, 11, 12, 13], [0, 1, 2, 3, 4, 5, 6, 7, 8, 9, 10, 11, 12, 13, 14], [0, 1, 2, 3, 4, 5, 6, 7, 8, 9, 10, 11, 12, 13, 14, 15], [0, 1, 2, 3, 4, 5, 6, 7, 8, 9, 10, 11, 12, 13, 14, 15], [0, 1, 2, 3, 4, 5, 6, 7, 8, 9, 10, 11, 12, 13, 14, 15, 17], [0, 1, 2, 3, 4, 5, 6, 7, 8, 9, 10, 11, 12, 13, 14, 15, 16, 17, 18], [0, 1, 2, 3, 4, 5, 6, 7, 8, 9, 10, 11, 12, 13, 14, 15, 16, 17, 18, 19], [0, 1, 2, 3, 4, 5, 6, 7, 8, 9, 10, 11, 12, 13, 14, 15, 16, 17, 18, 19, 20], [0, 1, 2, 3, 4, 5, 6, 7, 8, 9, 10, 11, 12, 13, 14, 15, 16, 17, 18, 19, 20, 21], [0, 1, 2, 3, 4, 5, 6, 7, 8, 9, 10, 11, 12, 13, 14, 15, 16, 17, 18, 19, 20, 21, 22], [0, 1, 2, 3, 4, 5, 6, 7, 8, 9, 10, 11, 12, 13, 14, 15, 16, 17, 18, 19, 20, 21, 22, 23], [0, 1, 2, 3, 4, 5, 6, 7, 8, 9, 10, 11, 12, 13, 14, 15, 16, 17, 18, 19, 20, 21, 22, 23, 24]] (by kernel_rfl) (by kernel_rfl) [0] (fr' := [(0, .bool t_2815)]) (σ' := []) ?_ ?_
  · rcases Bool.eq_false_or_eq_true sums_2787 with hb_2817 | hb_2817
    · replace hv_2816 := ite_t hv_2816 hb_2817
      rcases Bool.eq_false_or_eq_true tags_2798 with hb_2818 | hb_2818
      · replace hv_2816 := ite_t hv_2816 hb_2818
        rcases Bool.eq_false_or_eq_true links_2808 with hb_2819 | hb_2819
        · replace hv_2816 := ite_t hv_2816 hb_2819
          rcases Bool.eq_false_or_eq_true ((y_2777.2 == 0)) with hb_2820 | hb_2820
          · replace hv_2816 := ite_t hv_2816 hb_2820
            rcases Bool.eq_false_or_eq_true ((y_2779.2 == 0)) with hb_2821 | hb_2821
            · replace hv_2816 := ite_t hv_2816 hb_2821
              replace hv_2816 := bind_some1 hv_2816; obtain ⟨y_2814, hy_2822, hv_2816⟩ := hv_2816
              rcases Bool.eq_false_or_eq_true ((y_2777.1 == y_2814)) with hb_2823 | hb_2823
              · replace hv_2816 := ite_t hv_2816 hb_2823
                have e_hv_2816 := Option.some.inj hv_2816; subst e_hv_2816
                exact ⟨_, [(0, .bool ((y_2781.2 == 10)))], [.box (C1 u8 y_2777.1.l) false], orcs_ok (l := [(79, 14, [.str (([116] : List UInt8)), .sl false (L cU8 y_2779.1)], .agg (C1 u8 y_2814.l))]) ⟨digest_Tagged_con hy_2822, trivial⟩, by simp only [go_sem, reduceIte, Nat.reduceLT, Nat.reduceEqDiff, Nat.reduceAdd, Nat.reduceBEq, Nat.reduceMul, Nat.reduceSub, Nat.reduceGT, Nat.reducePow, Nat.reduceLeDiff, Int.reduceToNat, hb_2817, hb_2818, hb_2819, hb_2820, hb_2821, hb_2823], (weak_sel [] (by decide) rfl (by simp only [go_sem, reduceIte, Nat.reduceLT, Nat.reduceEqDiff, Nat.reduceAdd, Nat.reduceBEq, Nat.reduceMul, Nat.reduceSub, Nat.reduceGT, Nat.reducePow, Nat.reduceLeDiff, Int.reduceToNat]) (by simp only [go_sem, reduceIte, Nat.reduceLT, Nat.reduceEqDiff, Nat.reduceAdd, Nat.reduceBEq, Nat.reduceMul, Nat.reduceSub, Nat.reduceGT, Nat.reducePow, Nat.reduceLeDiff, Int.reduceToNat]))⟩
              · replace hv_2816 := ite_f hv_2816 hb_2823
                have e_hv_2816 := Option.some.inj hv_2816; subst e_hv_2816
                exact ⟨_, [(0, .bool false)], [.box (C1 u8 y_2777.1.l) false], orcs_ok (l := [(79, 14, [.str (([116] : List UInt8)), .sl false (L cU8 y_2779.1)], .agg (C1 u8 y_2814.l))]) ⟨digest_Tagged_con hy_2822, trivial⟩, by simp only [go_sem, reduceIte, Nat.reduceLT, Nat.reduceEqDiff, Nat.reduceAdd, Nat.reduceBEq, Nat.reduceMul, Nat.reduceSub, Nat.reduceGT, Nat.reducePow, Nat.reduceLeDiff, Int.reduceToNat, hb_2817, hb_2818, hb_2819, hb_2820, hb_2821, hb_2823], (weak_sel [] (by decide) rfl (by simp only [go_sem, reduceIte, Nat.reduceLT, Nat.reduceEqDiff, Nat.reduceAdd, Nat.reduceBEq, Nat.reduceMul, Nat.reduceSub, Nat.reduceGT, Nat.reducePow, Nat.reduceLeDiff, Int.reduceToNat]) (by simp only [go_sem, reduceIte, Nat.reduceLT, Nat.reduceEqDiff, Nat.reduceAdd, Nat.reduceBEq, Nat.reduceMul, Nat.reduceSub, Nat.reduceGT, Nat.reducePow, Nat.reduceLeDiff, Int.reduceToNat]))⟩
            · replace hv_2816 := ite_f hv_2816 hb_2821
              have e_hv_2816 := Option.some.inj hv_2816; subst e_hv_2816
              exact ⟨_, [(0, .bool false)], [.box (C1 u8 y_2777.1.l) false], orcs_nil, by simp only [go_sem, reduceIte, Nat.reduceLT, Nat.reduceEqDiff, Nat.reduceAdd, Nat.reduceBEq, Nat.reduceMul, Nat.reduceSub, Nat.reduceGT, Nat.reducePow, Nat.reduceLeDiff, Int.reduceToNat, hb_2817, hb_2818, hb_2819, hb_2820, hb_2821], (weak_sel [] (by decide) rfl (by simp only [go_sem, reduceIte, Nat.reduceLT, Nat.reduceEqDiff, Nat.reduceAdd, Nat.reduceBEq, Nat.reduceMul, Nat.reduceSub, Nat.reduceGT, Nat.reducePow, Nat.reduceLeDiff, Int.reduceToNat]) (by simp only [go_sem, reduceIte, Nat.reduceLT, Nat.reduceEqDiff, Nat.reduceAdd, Nat.reduceBEq, Nat.reduceMul, Nat.reduceSub, Nat.reduceGT, Nat.reducePow, Nat.reduceLeDiff, Int.reduceToNat]))⟩
          · replace hv_2816 := ite_f hv_2816 hb_2820
            have e_hv_2816 := Option.some.inj hv_2816; subst e_hv_2816
            exact ⟨_, [(0, .bool false)], [.box (C1 u8 y_2777.1.l) false], orcs_nil, by simp only [go_sem, reduceIte, Nat.reduceLT, Nat.reduceEqDiff, Nat.reduceAdd, Nat.reduceBEq, Nat.reduceMul, Nat.reduceSub, Nat.reduceGT, Nat.reducePow, Nat.reduceLeDiff, Int.reduceToNat, hb_2817, hb_2818, hb_2819, hb_2820], (weak_sel [] (by decide) rfl (by simp only [go_sem, reduceIte, Nat.reduceLT, Nat.reduceEqDiff, Nat.reduceAdd, Nat.reduceBEq, Nat.reduceMul, Nat.reduceSub, Nat.reduceGT, Nat.reducePow, Nat.reduceLeDiff, Int.reduceToNat]) (by simp only [go_sem, reduceIte, Nat.reduceLT, Nat.reduceEqDiff, Nat.reduceAdd, Nat.reduceBEq, Nat.reduceMul, Nat.reduceSub, Nat.reduceGT, Nat.reducePow, Nat.reduceLeDiff, Int.reduceToNat]))⟩
        · replace hv_2816 := ite_f hv_2816 hb_2819
          have e_hv_2816 := Option.some.inj hv_2816; subst e_hv_2816
          exact ⟨_, [(0, .bool false)], [.box (C1 u8 y_2777.1.l) false], orcs_nil, by simp only [go_sem, reduceIte, Nat.reduceLT, Nat.reduceEqDiff, Nat.reduceAdd, Nat.reduceBEq, Nat.reduceMul, Nat.reduceSub, Nat.reduceGT, Nat.reducePow, Nat.reduceLeDiff, Int.reduceToNat, hb_2817, hb_2818, hb_2819], (weak_sel [] (by decide) rfl (by simp only [go_sem, reduceIte, Nat.reduceLT, Nat.reduceEqDiff, Nat.reduceAdd, Nat.reduceBEq, Nat.reduceMul, Nat.reduceSub, Nat.reduceGT, Nat.reducePow, Nat.reduceLeDiff, Int.reduceToNat]) (by simp only [go_sem, reduceIte, Nat.reduceLT, Nat.reduceEqDiff, Nat.reduceAdd, Nat.reduceBEq, Nat.reduceMul, Nat.reduceSub, Nat.reduceGT, Nat.reducePow, Nat.reduceLeDiff, Int.reduceToNat]))⟩
      · replace hv_2816 := ite_f hv_2816 hb_2818
        have e_hv_2816 := Option.some.inj hv_2816; subst e_hv_2816
        exact ⟨_, [(0, .bool false)], [.box (C1 u8 y_2777.1.l) false], orcs_nil, by simp only [go_sem, reduceIte, Nat.reduceLT, Nat.reduceEqDiff, Nat.reduceAdd, Nat.reduceBEq, Nat.reduceMul, Nat.reduceSub, Nat.reduceGT, Nat.reducePow, Nat.reduceLeDiff, Int.reduceToNat, hb_2817, hb_2818], (weak_sel [] (by decide) rfl (by simp only [go_sem, reduceIte, Nat.reduceLT, Nat.reduceEqDiff, Nat.reduceAdd, Nat.reduceBEq, Nat.reduceMul, Nat.reduceSub, Nat.reduceGT, Nat.reducePow, Nat.reduceLeDiff, Int.reduceToNat]) (by simp only [go_sem, reduceIte, Nat.reduceLT, Nat.reduceEqDiff, Nat.reduceAdd, Nat.reduceBEq, Nat.reduceMul, Nat.reduceSub, Nat.reduceGT, Nat.reducePow, Nat.reduceLeDiff, Int.reduceToNat]))⟩
    · replace hv_2816 := ite_f hv_2816 hb_2817
      have e_hv_2816 := Option.some.inj hv_2816; subst e_hv_2816
      exact ⟨_, [(0, .bool false)], [.box (C1 u8 y_2777.1.l) false], orcs_nil, by simp only [go_sem, reduceIte, Nat.reduceLT, Nat.reduceEqDiff, Nat.reduceAdd, Nat.reduceBEq, Nat.reduceMul, Nat.reduceSub, Nat.reduceGT, Nat.reducePow, Nat.reduceLeDiff, Int.reduceToNat, hb_2817], (weak_sel [] (by decide) rfl (by simp only [go_sem, reduceIte, Nat.reduceLT, Nat.reduceEqDiff, Nat.reduceAdd, Nat.reduceBEq, Nat.reduceMul, Nat.reduceSub, Nat.reduceGT, Nat.reducePow, Nat.reduceLeDiff, Int.reduceToNat]) (by simp only [go_sem, reduceIte, Nat.reduceLT, Nat.reduceEqDiff, Nat.reduceAdd, Nat.reduceBEq, Nat.reduceMul, Nat.reduceSub, Nat.reduceGT, Nat.reducePow, Nat.reduceLeDiff, Int.reduceToNat]))⟩
  refine run_ret ?_
  obtain rfl := Option.some.inj h
  refine ret_ok (.inr rfl) ?_
  simp only [go_sem, reduceIte, Nat.reduceLT, Nat.reduceEqDiff, Nat.reduceAdd, Nat.reduceBEq, Nat.reduceMul, Nat.reduceSub, Nat.reduceGT, Nat.reducePow, Nat.reduceLeDiff, Int.reduceToNat]

theorem law02_long_con {l_2824 : List (List UInt8)} {r : Bool} (h : law02_long l_2824 = some r) : Con B 24 [.sl false (L (cSl cU8) l_2824)] [] (fun r' σ' => r' = .bool r ∧ σ' = []) := by
  refine con_walk (N := 23) (rs := [.tmp 2]) ok Tryd.func24 rfl (by decide +kernel) rfl rfl (Nat.le_of_ble_eq_true rfl) (fun F => ?_)
  have hE := ok.env F
  unfold law02_long at h
  show Run (B.env F) 0 _ ⟨asFr 23 [(0, .sl false (L (cSl cU8) l_2824))], []⟩ _
  refine run_textE hE [0] (fr' := [(0, .sl false (L (cSl cU8) l_2824))]) (σ' := []) ⟨_, orcs_nil, ?_⟩ ?_
  · simp only [go_sem, reduceIte, Nat.reduceLT, Nat.reduceEqDiff, Nat.reduceAdd, Nat.reduceBEq, Nat.reduceMul, Nat.reduceSub, Nat.reduceGT, Nat.reducePow, Nat.reduceLeDiff, Int.reduceToNat]
  replace h := bind_some1 h; obtain ⟨j_2849, hA_2850, hj_2851⟩ := h
  refine run_join (fun (v : Unit) => (⟨asFr 23 [(0, .sl false (L (cSl cU8) l_2824))], []⟩ : St)) (fun v => .inl v = j_2849) ?_ ?_
  · have h := hA_2850; clear hA_2850
    refine run_textE hE [0, 3] (fr' := [(0, .sl false (L (cSl cU8) l_2824)), (3, i64 0)]) (σ' := []) ⟨_, orcs_nil, ?_⟩ ?_
    · simp only [go_sem, reduceIte, Nat.reduceLT, Nat.reduceEqDiff, Nat.reduceAdd, Nat.reduceBEq, Nat.reduceMul, Nat.reduceSub, Nat.reduceGT, Nat.reducePow, Nat.reduceLeDiff, Int.reduceToNat]
    refine run_block ?_
    replace h := bind_some1 h; obtain ⟨x_2865, hx_2866, hj_2867⟩ := h
    refine run_loopO hx_2866 (fun (v : Int) => (⟨asFr 23 [(0, .sl false (L (cSl cU8) l_2824)), (3, i64 v)], []⟩ : St)) (weak_sel [] (by decide) rfl (by simp only [go_sem, reduceIte, Nat.reduceLT, Nat.reduceEqDiff, Nat.reduceAdd, Nat.reduceBEq, Nat.reduceMul, Nat.reduceSub, Nat.reduceGT, Nat.reducePow, Nat.reduceLeDiff, Int.reduceToNat]) (by simp only [go_sem, reduceIte, Nat.reduceLT, Nat.reduceEqDiff, Nat.reduceAdd, Nat.reduceBEq, Nat.reduceMul, Nat.reduceSub, Nat.reduceGT, Nat.reducePow, Nat.reduceLeDiff, Int.reduceToNat])) ?_
    rintro i_2858 o_2868 h hxx_2869
    replace h : law02_long_b1 l_2824 i_2858 = some o_2868 := h
    unfold law02_long_b1 at h
    refine run_seq ?_
    replace h := bind_some1 h; obtain ⟨t_2870, hv_2871, h⟩ := h
    refine run_textW hE [0, 3, 11] (fr' := [(0, .sl false (L (cSl cU8) l_2824)), (3, i64 i_2858), (11, .bool t_2870)]) (σ' := []) ?_ ?_
    · rcases Bool.eq_false_or_eq_true ((decide (i_2858 < (l_2824.length : Int)))) with hb_2872 | hb_2872
      · replace hv_2871 := ite_t hv_2871 hb_2872
        have e_hv_2871 := Option.some.inj hv_2871; subst e_hv_2871
        exact ⟨_, [(0, .sl false (L (cSl cU8) l_2824)), (3, i64 i_2858), (11, .bool ((decide (i_2858 < 9))))], [], orcs_nil, by simp only [go_sem, reduceIte, Nat.reduceLT, Nat.reduceEqDiff, Nat.reduceAdd, Nat.reduceBEq, Nat.reduceMul, Nat.reduceSub, Nat.reduceGT, Nat.reducePow, Nat.reduceLeDiff, Int.reduceToNat, hb_2872], (weak_sel [] (by decide) rfl (by simp only [go_sem, reduceIte, Nat.reduceLT, Nat.reduceEqDiff, Nat.reduceAdd, Nat.reduceBEq, Nat.reduceMul, Nat.reduceSub, Nat.reduceGT, Nat.reducePow, Nat.reduceLeDiff, Int.reduceToNat]) (by simp only [go_sem, reduceIte, Nat.reduceLT, Nat.reduceEqDiff, Nat.reduceAdd, Nat.reduceBEq, Nat.reduceMul, Nat.reduceSub, Nat.reduceGT, Nat.reducePow, Nat.reduceLeDiff, Int.reduceToNat]))⟩
      · replace hv_2871 := ite_f hv_2871 hb_2872
        have e_hv_2871 := Option.some.inj hv_2871; subst e_hv_2871
        exact ⟨_, [(0, .sl false (L (cSl cU8) l_2824)), (3, i64 i_2858), (11, .bool false)], [], orcs_nil, by simp only [go_sem, reduceIte, Nat.reduceLT, Nat.reduceEqDiff, Nat.reduceAdd, Nat.reduceBEq, Nat.reduceMul, Nat.reduceSub, Nat.reduceGT, Nat.reducePow, Nat.reduceLeDiff, Int.reduceToNat, hb_2872], (weak_sel [] (by decide) rfl (by simp only [go_sem, reduceIte, Nat.reduceLT, Nat.reduceEqDiff, Nat.reduceAdd, Nat.reduceBEq, Nat.reduceMul, Nat.reduceSub, Nat.reduceGT, Nat.reducePow, Nat.reduceLeDiff, Int.reduceToNat]) (by simp only [go_sem, reduceIte, Nat.reduceLT, Nat.reduceEqDiff, Nat.reduceAdd, Nat.reduceBEq, Nat.reduceMul, Nat.reduceSub, Nat.reduceGT, Nat.reducePow, Nat.reduceLeDiff, Int.reduceToNat]))⟩
    refine run_condL (b := t_2870) rfl (by decide) (fun hb => ?_) (fun hb => ?_)
    · replace h := ite_t h hb
      refine run_skip ?_
      refine thenK_n ?_
      refine run_seq ?_
      refine run_block ?_
      replace h := chk_some h; obtain ⟨hc_2873, h⟩ := h
      refine run_textE hE [0, 3, 19] (fr' := [(0, .sl false (L (cSl cU8) l_2824)), (3, i64 i_2858), (19, .bool ((decide (((nth l_2824 i_2858.toNat).length : Int) > 200))))]) (σ' := []) ⟨_, orcs_nil, ?_⟩ ?_
      · simp only [go_sem, reduceIte, Nat.reduceLT, Nat.reduceEqDiff, Nat.reduceAdd, Nat.reduceBEq, Nat.reduceMul, Nat.reduceSub, Nat.reduceGT, Nat.reducePow, Nat.reduceLeDiff, Int.reduceToNat, hc_2873, hc_2873.2, lt_le hc_2873.2]
      refine run_condL (b := (decide (((nth l_2824 i_2858.toNat).length : Int) > 200))) rfl (by decide) (fun hb => ?_) (fun hb => ?_)
      · replace h := ite_t h hb
        refine run_textE hE [2] (fr' := [(2, .bool true)]) (σ' := []) ⟨_, orcs_nil, ?_⟩ ?_
        · simp only [go_sem, reduceIte, Nat.reduceLT, Nat.reduceEqDiff, Nat.reduceAdd, Nat.reduceBEq, Nat.reduceMul, Nat.reduceSub, Nat.reduceGT, Nat.reducePow, Nat.reduceLeDiff, Int.reduceToNat]
        refine run_ret ?_
        refine blockK_r ?_
        refine thenK_r ?_
        refine lpK_r ?_
        replace h := bind_some1 h; obtain ⟨z_2875, h, e_z_2875⟩ := h
        obtain rfl := Option.some.inj e_z_2875
        have ex_z_2875 := hxx_2869 _ rfl
        subst ex_z_2875
        obtain rfl := Option.some.inj hj_2867
        refine blockK_r ?_
        refine joinK_r ?_
        replace h := bind_some1 h; obtain ⟨z_2874, h, e_z_2874⟩ := h
        obtain rfl := Option.some.inj e_z_2874
        obtain rfl := Option.some.inj hj_2851
        obtain rfl := Option.some.inj h
        refine ret_ok (.inr rfl) ?_
        simp only [go_sem, reduceIte, Nat.reduceLT, Nat.reduceEqDiff, Nat.reduceAdd, Nat.reduceBEq, Nat.reduceMul, Nat.reduceSub, Nat.reduceGT, Nat.reducePow, Nat.reduceLeDiff, Int.reduceToNat]
      · replace h := ite_f h hb
        refine run_skip ?_
        refine blockK_n ?_
        refine thenK_n ?_
        refine run_textE0 hE wk_lp [0, 3] (fr' := [(0, .sl false (L (cSl cU8) l_2824)), (3, i64 ((w64 (i_2858 + 1))))]) (σ' := []) ⟨_, orcs_nil, ?_⟩ ?_
        · simp only [go_sem, reduceIte, Nat.reduceLT, Nat.reduceEqDiff, Nat.reduceAdd, Nat.reduceBEq, Nat.reduceMul, Nat.reduceSub, Nat.reduceGT, Nat.reducePow, Nat.reduceLeDiff, Int.reduceToNat]
        obtain rfl := Option.some.inj h
        exact lpK_n ((w64 (i_2858 + 1))) rfl (weak_sel [] (by decide) rfl (by simp only [go_sem, reduceIte, Nat.reduceLT, Nat.reduceEqDiff, Nat.reduceAdd, Nat.reduceBEq, Nat.reduceMul, Nat.reduceSub, Nat.reduceGT, Nat.reducePow, Nat.reduceLeDiff, Int.reduceToNat]) (by simp only [go_sem, reduceIte, Nat.reduceLT, Nat.reduceEqDiff, Nat.reduceAdd, Nat.reduceBEq, Nat.reduceMul, Nat.reduceSub, Nat.reduceGT, Nat.reducePow, Nat.reduceLeDiff, Int.reduceToNat]))
    · replace h := ite_f h hb
      refine run_exit ?_
      refine thenK_x ?_
      obtain rfl := Option.some.inj h
      have ex_x_2865 := hxx_2869 _ rfl
      subst ex_x_2865
      have h := hj_2867; clear hj_2867
      refine lpK_x ?_
      refine blockK_x ?_
      obtain rfl := Option.some.inj h
      exact joinK_n (()) rfl ((weak_sel (l' := [(0, .sl false (L (cSl cU8) l_2824))]) (σ' := []) [] (by decide) rfl (by simp only [go_sem, reduceIte, Nat.reduceLT, Nat.reduceEqDiff, Nat.reduceAdd, Nat.reduceBEq, Nat.reduceMul, Nat.reduceSub, Nat.reduceGT, Nat.reducePow, Nat.reduceLeDiff, Int.reduceToNat]) (by simp only [go_sem, reduceIte, Nat.reduceLT, Nat.reduceEqDiff, Nat.reduceAdd, Nat.reduceBEq, Nat.reduceMul, Nat.reduceSub, Nat.reduceGT, Nat.reducePow, Nat.reduceLeDiff, Int.reduceToNat])).trans (weak_sel [] (by decide) rfl (by simp only [go_sem, reduceIte, Nat.reduceLT, Nat.reduceEqDiff, Nat.reduceAdd, Nat.reduceBEq, Nat.reduceMul, Nat.reduceSub, Nat.reduceGT, Nat.reducePow, Nat.reduceLeDiff, Int.reduceToNat]) (by simp only [go_sem, reduceIte, Nat.reduceLT, Nat.reduceEqDiff, Nat.reduceAdd, Nat.reduceBEq, Nat.reduceMul, Nat.reduceSub, Nat.reduceGT, Nat.reducePow, Nat.reduceLeDiff, Int.reduceToNat])))
  rintro ⟨⟩ rfl
  have h := hj_2851; clear hj_2851
  refine run_textE hE [2] (fr' := [(2, .bool ((decide ((l_2824.length : Int) > 8))))]) (σ' := []) ⟨_, orcs_nil, ?_⟩ ?_
  · simp only [go_sem, reduceIte, Nat.reduceLT, Nat.reduceEqDiff, Nat.reduceAdd, Nat.reduceBEq, Nat.reduceMul, Nat.reduceSub, Nat.reduceGT, Nat.reducePow, Nat.reduceLeDiff, Int.reduceToNat]
  refine run_ret ?_
  obtain rfl := Option.some.inj h
  refine ret_ok (.inr rfl) ?_
  simp only [go_sem, reduceIte, Nat.reduceLT, Nat.reduceEqDiff, Nat.reduceAdd, Nat.reduceBEq, Nat.reduceMul, Nat.reduceSub, Nat.reduceGT, Nat.reducePow, Nat.reduceLeDiff, Int.reduceToNat]

end Go.Proofs.YtgdiabbgiiemcaaDoor
