/-
  The functions compute just that.
-/
import Derived.Test.YtgdiabbgiiemcaaDoorDW8
import Derived.KernelRfl
namespace Go.Proofs.YtgdiabbgiiemcaaDoor
open Go.Rv
set_option linter.unusedVariables false
set_option linter.unusedSimpArgs false
set_option maxRecDepth 20000

theorem law02_sane_con  {r : Bool} (h : law02_sane  = some r) : Con B 11 [] [] (fun r' σ' => r' = .bool r ∧ σ' = []) := by
  refine con_walk (N := 86) (rs := [.tmp 0]) ok Tryd.func11 rfl (by decide +kernel) rfl rfl (Nat.le_of_ble_eq_true rfl) (fun F => ?_)
  have hE := ok.env F
  unfold law02_sane at h
  show Run (B.env F) 0 _ ⟨asFr 86 [], []⟩ _
  refine run_textE hE [] (fr' := []) (σ' := []) ⟨_, orcs_nil, ?_⟩ ?_
  · simp only [go_sem, reduceIte, Nat.reduceLT, Nat.reduceEqDiff, Nat.reduceAdd, Nat.reduceBEq, Nat.reduceMul, Nat.reduceSub, Nat.reduceGT, Nat.reducePow, Nat.reduceLeDiff, Int.reduceToNat]
  replace h := lt1_some h; obtain ⟨f_2556, hz_2557, h⟩ := h
  refine run_textE hE [1] (fr' := [(1, .ref 0 0)]) (σ' := [.box (C1 u8 f_2556.l) false]) ⟨_, orcs_nil, ?_⟩ ?_
  · subst hz_2557; simp only [go_sem, reduceIte, Nat.reduceLT, Nat.reduceEqDiff, Nat.reduceAdd, Nat.reduceBEq, Nat.reduceMul, Nat.reduceSub, Nat.reduceGT, Nat.reducePow, Nat.reduceLeDiff, Int.reduceToNat, C1_rep, C1_nil, C1_cons]
  replace h := lt1_some h; obtain ⟨f_2558, hz_2559, h⟩ := h
  refine run_textE hE [1, 2] (fr' := [(1, .ref 0 0), (2, .ref 1 0)]) (σ' := [.box (C1 u8 f_2556.l) false, .box (C1 u8 f_2558.l) false]) ⟨_, orcs_nil, ?_⟩ ?_
  · subst hz_2559; simp only [go_sem, reduceIte, Nat.reduceLT, Nat.reduceEqDiff, Nat.reduceAdd, Nat.reduceBEq, Nat.reduceMul, Nat.reduceSub, Nat.reduceGT, Nat.reducePow, Nat.reduceLeDiff, Int.reduceToNat, C1_rep, C1_nil, C1_cons]
  have hk_2560 : InR 6 32 := by decide
  replace h := lt1_some h; obtain ⟨f_2561, hz_2562, h⟩ := h
  refine run_textE hE [1, 2] (fr' := [(1, .ref 0 0), (2, .ref 1 0)]) (σ' := [.box (C1 u8 f_2556.l) false, .box (C1 u8 f_2561.l) false]) ⟨_, orcs_nil, ?_⟩ ?_
  · subst hz_2562; simp only [go_sem, reduceIte, Nat.reduceLT, Nat.reduceEqDiff, Nat.reduceAdd, Nat.reduceBEq, Nat.reduceMul, Nat.reduceSub, Nat.reduceGT, Nat.reducePow, Nat.reduceLeDiff, Int.reduceToNat, hk_2560, hk_2560.2]
  have hk_2563 : InR 7 32 := by decide
  replace h := lt1_some h; obtain ⟨f_2564, hz_2565, h⟩ := h
  refine run_textE hE [1, 2] (fr' := [(1, .ref 0 0), (2, .ref 1 0)]) (σ' := [.box (C1 u8 f_2556.l) false, .box (C1 u8 f_2564.l) false]) ⟨_, orcs_nil, ?_⟩ ?_
  · subst hz_2565; simp only [go_sem, reduceIte, Nat.reduceLT, Nat.reduceEqDiff, Nat.reduceAdd, Nat.reduceBEq, Nat.reduceMul, Nat.reduceSub, Nat.reduceGT, Nat.reducePow, Nat.reduceLeDiff, Int.reduceToNat, hk_2563, hk_2563.2]
  replace h := bind_some1 h; obtain ⟨y_2566, hy_2567, h⟩ := h
  refine run_textE hE [1, 2, 3, 4] (fr' := [(1, .ref 0 0), (2, .ref 1 0), (3, .ref 2 0), (4, i64 y_2566.2)]) (σ' := [.box (C1 u8 f_2556.l) false, .box (C1 u8 f_2564.l) false, .box (C1 u8 y_2566.1.l) false]) ⟨_, orcs_ok (l := [(18, 23, [.str (([116] : List UInt8)), .agg [i64 1, i64 0, .sl false (L cU8 ([])), .sl false (L cRaw ([]))]], .tup [.agg (C1 u8 y_2566.1.l), i64 y_2566.2])]) ⟨digest_Value_con hy_2567, trivial⟩, ?_⟩ ?_
  · simp only [go_sem, reduceIte, Nat.reduceLT, Nat.reduceEqDiff, Nat.reduceAdd, Nat.reduceBEq, Nat.reduceMul, Nat.reduceSub, Nat.reduceGT, Nat.reducePow, Nat.reduceLeDiff, Int.reduceToNat]
  replace h := bind_some1 h; obtain ⟨y_2568, hy_2569, h⟩ := h
  refine run_textE hE [1, 2, 3, 4, 5, 6] (fr' := [(1, .ref 0 0), (2, .ref 1 0), (3, .ref 2 0), (4, i64 y_2566.2), (5, .sl false (L cU8 y_2568.1)), (6, i64 y_2568.2)]) (σ' := [.box (C1 u8 f_2556.l) false, .box (C1 u8 f_2564.l) false, .box (C1 u8 y_2566.1.l) false]) ⟨_, orcs_ok (l := [(23, 22, [.agg [i64 1, i64 0, .sl false (L cU8 ([])), .sl false (L cRaw ([]))]], .tup [.sl false (L cU8 y_2568.1), i64 y_2568.2])]) ⟨codec_Encode_con hy_2569, trivial⟩, ?_⟩ ?_
  · simp only [go_sem, reduceIte, Nat.reduceLT, Nat.reduceEqDiff, Nat.reduceAdd, Nat.reduceBEq, Nat.reduceMul, Nat.reduceSub, Nat.reduceGT, Nat.reducePow, Nat.reduceLeDiff, Int.reduceToNat]
  replace h := bind_some1 h; obtain ⟨y_2570, hy_2571, h⟩ := h
  refine run_textE hE [1, 2, 3, 4, 5, 6, 8] (fr' := [(1, .ref 0 0), (2, .ref 1 0), (3, .ref 2 0), (4, i64 y_2566.2), (5, .sl false (L cU8 y_2568.1)), (6, i64 y_2568.2), (8, i64 y_2570.2)]) (σ' := [.box (C1 u8 f_2556.l) false, .box (C1 u8 f_2564.l) false, .box (C1 u8 y_2566.1.l) false, .box (C1 u8 y_2570.1.l) false]) ⟨_, orcs_ok (l := [(28, 23, [.str (([116] : List UInt8)), .agg [i64 0, i64 0, .sl false (L cU8 ([])), .sl false (L cRaw ([]))]], .tup [.agg (C1 u8 y_2570.1.l), i64 y_2570.2])]) ⟨digest_Value_con hy_2571, trivial⟩, ?_⟩ ?_
  · simp only [go_sem, reduceIte, Nat.reduceLT, Nat.reduceEqDiff, Nat.reduceAdd, Nat.reduceBEq, Nat.reduceMul, Nat.reduceSub, Nat.reduceGT, Nat.reducePow, Nat.reduceLeDiff, Int.reduceToNat]
  replace h := bind_some1 h; obtain ⟨sums_2576, hv_2577, h⟩ := h
  refine run_textW hE [1, 2, 3, 4, 5, 6, 8, 9] (fr' := [(1, .ref 0 0), (2, .ref 1 0), (3, .ref 2 0), (4, i64 y_2566.2), (5, .sl false (L cU8 y_2568.1)), (6, i64 y_2568.2), (8, i64 y_2570.2), (9, .bool sums_2576)]) (σ' := [.box (C1 u8 f_2556.l) false, .box (C1 u8 f_2564.l) false, .box (C1 u8 y_2566.1.l) false]) ?_ ?_
  · replace hv_2577 := bind_some1 hv_2577; obtain ⟨y_2572, hy_2578, hv_2577⟩ := hv_2577
    replace hv_2577 := bind_some1 hv_2577; obtain ⟨y_2573, hy_2579, hv_2577⟩ := hv_2577
    rcases Bool.eq_false_or_eq_true y_2573 with hb_2580 | hb_2580
    · replace hv_2577 := ite_t hv_2577 hb_2580
      replace hv_2577 := bind_some1 hv_2577; obtain ⟨y_2574, hy_2581, hv_2577⟩ := hv_2577
      replace hv_2577 := bind_some1 hv_2577; obtain ⟨y_2575, hy_2582, hv_2577⟩ := hv_2577
      have e_hv_2577 := Option.some.inj hv_2577; subst e_hv_2577
      exact ⟨_, [(1, .ref 0 0), (2, .ref 1 0), (3, .ref 2 0), (4, i64 y_2566.2), (5, .sl false (L cU8 y_2568.1)), (6, i64 y_2568.2), (8, i64 y_2570.2), (9, .bool y_2575)], [.box (C1 u8 f_2556.l) false, .box (C1 u8 f_2564.l) false, .box (C1 u8 y_2566.1.l) false, .box (C1 u8 y_2570.1.l) false, .buf 1 (L cU8 (([(97 : UInt8), (98 : UInt8), (99 : UInt8)] : List UInt8))) false], orcs_ok (l := [(31, 12, [.sl false (L cU8 ([]))], .agg (C1 u8 y_2572.l)), (32, 27, [.agg (C1 u8 y_2572.l), u8 ((227 : UInt8)), u8 ((176 : UInt8)), u8 ((196 : UInt8)), u8 ((66 : UInt8)), u8 ((85 : UInt8))], .bool y_2573), (36, 12, [.sl false (L cU8 (([(97 : UInt8), (98 : UInt8), (99 : UInt8)] : List UInt8)))], .agg (C1 u8 y_2574.l)), (37, 27, [.agg (C1 u8 y_2574.l), u8 ((186 : UInt8)), u8 ((120 : UInt8)), u8 ((22 : UInt8)), u8 ((191 : UInt8)), u8 ((173 : UInt8))], .bool y_2575)]) ⟨digest_Sum_con hy_2578, law02_vector_con hy_2579, digest_Sum_con hy_2581, law02_vector_con hy_2582, trivial⟩, by simp only [go_sem, reduceIte, Nat.reduceLT, Nat.reduceEqDiff, Nat.reduceAdd, Nat.reduceBEq, Nat.reduceMul, Nat.reduceSub, Nat.reduceGT, Nat.reducePow, Nat.reduceLeDiff, Int.reduceToNat, hb_2580], (weak_sel [0, 1, 2] (by decide) rfl (by simp only [go_sem, reduceIte, Nat.reduceLT, Nat.reduceEqDiff, Nat.reduceAdd, Nat.reduceBEq, Nat.reduceMul, Nat.reduceSub, Nat.reduceGT, Nat.reducePow, Nat.reduceLeDiff, Int.reduceToNat]) (by simp only [go_sem, reduceIte, Nat.reduceLT, Nat.reduceEqDiff, Nat.reduceAdd, Nat.reduceBEq, Nat.reduceMul, Nat.reduceSub, Nat.reduceGT, Nat.reducePow, Nat.reduceLeDiff, Int.reduceToNat]))⟩
    · replace hv_2577 := ite_f hv_2577 hb_2580
      have e_hv_2577 := Option.some.inj hv_2577; subst e_hv_2577
      exact ⟨_, [(1, .ref 0 0), (2, .ref 1 0), (3, .ref 2 0), (4, i64 y_2566.2), (5, .sl false (L cU8 y_2568.1)), (6, i64 y_2568.2), (8, i64 y_2570.2), (9, .bool false)], [.box (C1 u8 f_2556.l) false, .box (C1 u8 f_2564.l) false, .box (C1 u8 y_2566.1.l) false, .box (C1 u8 y_2570.1.l) false], orcs_ok (l := [(31, 12, [.sl false (L cU8 ([]))], .agg (C1 u8 y_2572.l)), (32, 27, [.agg (C1 u8 y_2572.l), u8 ((227 : UInt8)), u8 ((176 : UInt8)), u8 ((196 : UInt8)), u8 ((66 : UInt8)), u8 ((85 : UInt8))], .bool y_2573)]) ⟨digest_Sum_con hy_2578, law02_vector_con hy_2579, trivial⟩, by simp only [go_sem, reduceIte, Nat.reduceLT, Nat.reduceEqDiff, Nat.reduceAdd, Nat.reduceBEq, Nat.reduceMul, Nat.reduceSub, Nat.reduceGT, Nat.reducePow, Nat.reduceLeDiff, Int.reduceToNat, hb_2580], (weak_sel [0, 1, 2] (by decide) rfl (by simp only [go_sem, reduceIte, Nat.reduceLT, Nat.reduceEqDiff, Nat.reduceAdd, Nat.reduceBEq, Nat.reduceMul, Nat.reduceSub, Nat.reduceGT, Nat.reducePow, Nat.reduceLeDiff, Int.reduceToNat]) (by simp only [go_sem, reduceIte, Nat.reduceLT, Nat.reduceEqDiff, Nat.reduceAdd, Nat.reduceBEq, Nat.reduceMul, Nat.reduceSub, Nat.reduceGT, Nat.reducePow, Nat.reduceLeDiff, Int.reduceToNat]))⟩
  replace h := bind_some1 h; obtain ⟨tags_2587, hv_2588, h⟩ := h
  refine run_textW hE [1, 2, 3, 4, 5, 6, 8, 9, 10] (fr' := [(1, .ref 0 0), (2, .ref 1 0), (3, .ref 2 0), (4, i64 y_2566.2), (5, .sl false (L cU8 y_2568.1)), (6, i64 y_2568.2), (8, i64 y_2570.2), (9, .bool sums_2576), (10, .bool tags_2587)]) (σ' := [.box (C1 u8 f_2556.l) false, .box (C1 u8 f_2564.l) false, .box (C1 u8 y_2566.1.l) false]) ?_ ?_
  · replace hv_2588 := bind_some1 hv_2588; obtain ⟨y_2583, hy_2589, hv_2588⟩ := hv_2588
    replace hv_2588 := bind_some1 hv_2588; obtain ⟨y_2584, hy_2590, hv_2588⟩ := hv_2588
    rcases Bool.eq_false_or_eq_true ((y_2583 == y_2584)) with hb_2591 | hb_2591
    · replace hv_2588 := ite_t hv_2588 hb_2591
      replace hv_2588 := bind_some1 hv_2588; obtain ⟨y_2585, hy_2592, hv_2588⟩ := hv_2588
      replace hv_2588 := bind_some1 hv_2588; obtain ⟨y_2586, hy_2593, hv_2588⟩ := hv_2588
      have e_hv_2588 := Option.some.inj hv_2588; subst e_hv_2588
      exact ⟨_, [(1, .ref 0 0), (2, .ref 1 0), (3, .ref 2 0), (4, i64 y_2566.2), (5, .sl false (L cU8 y_2568.1)), (6, i64 y_2568.2), (8, i64 y_2570.2), (9, .bool sums_2576), (10, .bool ((y_2585 == y_2586)))], [.box (C1 u8 f_2556.l) false, .box (C1 u8 f_2564.l) false, .box (C1 u8 y_2566.1.l) false, .buf 1 (L cU8 (([(98 : UInt8), (99 : UInt8)] : List UInt8))) false, .buf 1 (L cU8 (([(1 : UInt8), (97 : UInt8), (98 : UInt8), (99 : UInt8)] : List UInt8))) false, .buf 1 (L cU8 (([(0 : UInt8)] : List UInt8))) false], orcs_ok (l := [(41, 14, [.str (([97] : List UInt8)), .sl false (L cU8 (([(98 : UInt8), (99 : UInt8)] : List UInt8)))], .agg (C1 u8 y_2583.l)), (43, 12, [.sl false (L cU8 (([(1 : UInt8), (97 : UInt8), (98 : UInt8), (99 : UInt8)] : List UInt8)))], .agg (C1 u8 y_2584.l)), (46, 14, [.str (([] : List UInt8)), .sl false (L cU8 ([]))], .agg (C1 u8 y_2585.l)), (48, 12, [.sl false (L cU8 (([(0 : UInt8)] : List UInt8)))], .agg (C1 u8 y_2586.l))]) ⟨digest_Tagged_con hy_2589, digest_Sum_con hy_2590, digest_Tagged_con hy_2592, digest_Sum_con hy_2593, trivial⟩, by simp only [go_sem, reduceIte, Nat.reduceLT, Nat.reduceEqDiff, Nat.reduceAdd, Nat.reduceBEq, Nat.reduceMul, Nat.reduceSub, Nat.reduceGT, Nat.reducePow, Nat.reduceLeDiff, Int.reduceToNat, hb_2591], (weak_sel [0, 1, 2] (by decide) rfl (by simp only [go_sem, reduceIte, Nat.reduceLT, Nat.reduceEqDiff, Nat.reduceAdd, Nat.reduceBEq, Nat.reduceMul, Nat.reduceSub, Nat.reduceGT, Nat.reducePow, Nat.reduceLeDiff, Int.reduceToNat]) (by simp only [go_sem, reduceIte, Nat.reduceLT, Nat.reduceEqDiff, Nat.reduceAdd, Nat.reduceBEq, Nat.reduceMul, Nat.reduceSub, Nat.reduceGT, Nat.reducePow, Nat.reduceLeDiff, Int.reduceToNat]))⟩
    · replace hv_2588 := ite_f hv_2588 hb_2591
      have e_hv_2588 := Option.some.inj hv_2588; subst e_hv_2588
      exact ⟨_, [(1, .ref 0 0), (2, .ref 1 0), (3, .ref 2 0), (4, i64 y_2566.2), (5, .sl false (L cU8 y_2568.1)), (6, i64 y_2568.2), (8, i64 y_2570.2), (9, .bool sums_2576), (10, .bool false)], [.box (C1 u8 f_2556.l) false, .box (C1 u8 f_2564.l) false, .box (C1 u8 y_2566.1.l) false, .buf 1 (L cU8 (([(98 : UInt8), (99 : UInt8)] : List UInt8))) false, .buf 1 (L cU8 (([(1 : UInt8), (97 : UInt8), (98 : UInt8), (99 : UInt8)] : List UInt8))) false], orcs_ok (l := [(41, 14, [.str (([97] : List UInt8)), .sl false (L cU8 (([(98 : UInt8), (99 : UInt8)] : List UInt8)))], .agg (C1 u8 y_2583.l)), (43, 12, [.sl false (L cU8 (([(1 : UInt8), (97 : UInt8), (98 : UInt8), (99 : UInt8)] : List UInt8)))], .agg (C1 u8 y_2584.l))]) ⟨digest_Tagged_con hy_2589, digest_Sum_con hy_2590, trivial⟩, by simp only [go_sem, reduceIte, Nat.reduceLT, Nat.reduceEqDiff, Nat.reduceAdd, Nat.reduceBEq, Nat.reduceMul, Nat.reduceSub, Nat.reduceGT, Nat.reducePow, Nat.reduceLeDiff, Int.reduceToNat, hb_2591], (weak_sel [0, 1, 2] (by decide) rfl (by simp only [go_sem, reduceIte, Nat.reduceLT, Nat.reduceEqDiff, Nat.reduceAdd, Nat.reduceBEq, Nat.reduceMul, Nat.reduceSub, Nat.reduceGT, Nat.reducePow, Nat.reduceLeDiff, Int.reduceToNat]) (by simp only [go_sem, reduceIte, Nat.reduceLT, Nat.reduceEqDiff, Nat.reduceAdd, Nat.reduceBEq, Nat.reduceMul, Nat.reduceSub, Nat.reduceGT, Nat.reducePow, Nat.reduceLeDiff, Int.reduceToNat]))⟩
  replace h := bind_some1 h; obtain ⟨links_2597, hv_2598, h⟩ := h
  refine run_drawW hE mixed [[], [0], [], [0, 1, 2], [0, 1, 2, 3], [0, 1, 2, 3, 4], [0, 1, 2, 3, 4, 5], [0, 1, 2, 3, 4, 5, 6], [0, 1, 2, 3, 4, 5, 6, 7], [0, 1, 2, 3, 4, 5, 6, 7, 8], [0, 1, 2, 3, 4, 5, 6, 7, 8, 9]] (by kernel_rfl) (by kernel_rfl) [3, 4, 5, 6, 8, 9, 10, 11] (fr' := [(3, .ref 0 0), (4, i64 y_2566.2), (5, .sl false (L cU8 y_2568.1)), (6, i64 y_2568.2), (8, i64 y_2570.2), (9, .bool sums_2576), (10, .bool tags_2587), (11, .bool links_2597)]) (σ' := [.box (C1 u8 y_2566.1.l) false]) ?_ ?_
  · replace hv_2598 := bind_some1 hv_2598; obtain ⟨y_2594, hy_2599, hv_2598⟩ := hv_2598
    replace hv_2598 := bind_some1 hv_2598; obtain ⟨y_2595, hy_2600, hv_2598⟩ := hv_2598
    rcases Bool.eq_false_or_eq_true ((y_2594 == y_2595)) with hb_2601 | hb_2601
    · replace hv_2598 := ite_t hv_2598 hb_2601
      replace hv_2598 := bind_some1 hv_2598; obtain ⟨y_2596, hy_2602, hv_2598⟩ := hv_2598
      have e_hv_2598 := Option.some.inj hv_2598; subst e_hv_2598
      exact ⟨_, [(3, .ref 2 0), (4, i64 y_2566.2), (5, .sl false (L cU8 y_2568.1)), (6, i64 y_2568.2), (8, i64 y_2570.2), (9, .bool sums_2576), (10, .bool tags_2587), (11, .bool ((y_2596 == (258 : UInt64))))], [.box (C1 u8 f_2556.l) true, .box (C1 u8 f_2564.l) false, .box (C1 u8 y_2566.1.l) false], orcs_ok (l := [(52, 16, [.agg (C1 u8 f_2556.l), .sl false (L cU8 ([]))], .agg (C1 u8 y_2594.l)), (54, 14, [.str (([110, 101, 120, 116] : List UInt8)), .sl false (L cU8 f_2556.l)], .agg (C1 u8 y_2595.l)), (58, 18, [.agg (C1 u8 f_2564.l)], u64 y_2596)]) ⟨digest_Next_con hy_2599, digest_Tagged_con hy_2600, digest_Number_con hy_2602, trivial⟩, by simp only [go_sem, reduceIte, Nat.reduceLT, Nat.reduceEqDiff, Nat.reduceAdd, Nat.reduceBEq, Nat.reduceMul, Nat.reduceSub, Nat.reduceGT, Nat.reducePow, Nat.reduceLeDiff, Int.reduceToNat, hb_2601], (weak_sel [2] (by decide) rfl (by simp only [go_sem, reduceIte, Nat.reduceLT, Nat.reduceEqDiff, Nat.reduceAdd, Nat.reduceBEq, Nat.reduceMul, Nat.reduceSub, Nat.reduceGT, Nat.reducePow, Nat.reduceLeDiff, Int.reduceToNat]) (by simp only [go_sem, reduceIte, Nat.reduceLT, Nat.reduceEqDiff, Nat.reduceAdd, Nat.reduceBEq, Nat.reduceMul, Nat.reduceSub, Nat.reduceGT, Nat.reducePow, Nat.reduceLeDiff, Int.reduceToNat]))⟩
    · replace hv_2598 := ite_f hv_2598 hb_2601
      have e_hv_2598 := Option.some.inj hv_2598; subst e_hv_2598
      exact ⟨_, [(3, .ref 2 0), (4, i64 y_2566.2), (5, .sl false (L cU8 y_2568.1)), (6, i64 y_2568.2), (8, i64 y_2570.2), (9, .bool sums_2576), (10, .bool tags_2587), (11, .bool false)], [.box (C1 u8 f_2556.l) true, .box (C1 u8 f_2564.l) false, .box (C1 u8 y_2566.1.l) false], orcs_ok (l := [(52, 16, [.agg (C1 u8 f_2556.l), .sl false (L cU8 ([]))], .agg (C1 u8 y_2594.l)), (54, 14, [.str (([110, 101, 120, 116] : List UInt8)), .sl false (L cU8 f_2556.l)], .agg (C1 u8 y_2595.l))]) ⟨digest_Next_con hy_2599, digest_Tagged_con hy_2600, trivial⟩, by simp only [go_sem, reduceIte, Nat.reduceLT, Nat.reduceEqDiff, Nat.reduceAdd, Nat.reduceBEq, Nat.reduceMul, Nat.reduceSub, Nat.reduceGT, Nat.reducePow, Nat.reduceLeDiff, Int.reduceToNat, hb_2601], (weak_sel [2] (by decide) rfl (by simp only [go_sem, reduceIte, Nat.reduceLT, Nat.reduceEqDiff, Nat.reduceAdd, Nat.reduceBEq, Nat.reduceMul, Nat.reduceSub, Nat.reduceGT, Nat.reducePow, Nat.reduceLeDiff, Int.reduceToNat]) (by simp only [go_sem, reduceIte, Nat.reduceLT, Nat.reduceEqDiff, Nat.reduceAdd, Nat.reduceBEq, Nat.reduceMul, Nat.reduceSub, Nat.reduceGT, Nat.reducePow, Nat.reduceLeDiff, Int.reduceToNat]))⟩
  replace h := bind_some1 h; obtain ⟨t_2604, hv_2605, h⟩ := h
  refine run_drawW hE mixed [[], [0], [0, 1], [0, 1, 2], [0, 1, 2, 3], [0, 1, 2, 3, 4], [0, 1, 2, 3, 4, 5], [0, 1, 2, 3, 4, 5, 6], [0, 1, 2, 3, 4, 5, 6, 7], [0, 1, 2, 3, 4, 5, 6, 7, 8], [0, 1, 2, 3, 4, 5, 6, 7, 8, 9], [0, 1, 2, 3, 4, 5, 6, 7, 8, 9, 10], [0, 1, 2, 3, 4, 5, 6, 7, 8, 9, 10, 11], [0, 1, 2, 3, 4, 5, 6, 7, 8, 9, 10, 11, 12], [0, 1, 2, 3, 4, 5, 6, 7, 8, 9, 10, 11, 12, 13], [0, 1, 2, 3, 4, 5, 6, 7, 8, 9, 10, 11, 12, 13, 14], [0, 1, 2, 3, 4, 5, 6, 7, 8, 9, 10, 11, 12, 13, 14, 15], [0, 1, 2, 3, 4, 5, 6, 7, 8, 9, 10, 11, 12, 13, 14, 15], [0, 1, 2, 3, 4, 5, 6, 7, 8, 9, 10, 11, 12, 13, 14, 15, 17], [0, 1, 2, 3, 4, 5, 6, 7, 8, 9, 10, 11, 12, 13, 14, 15, 16, 17, 18], [0, 1, 2, 3, 4, 5, 6, 7, 8, 9, 10, 11, 12, 13, 14, 15, 16, 17, 18, 19], [0, 1, 2, 3, 4, 5, 6, 7, 8, 9, 10, 11, 12, 13, 14, 15, 16, 17, 18, 19, 20], [0, 1, 2, 3, 4, 5, 6, 7, 8, 9, 10, 11, 12, 13, 14, 15, 16, 17, 18, 19, 20, 21], [0, 1, 2, 3, 4, 5, 6, 7, 8, 9, 10, 11, 12, 13, 14, 15, 16, 17, 18, 19, 20, 21, 22], [0, 1, 2, 3, 4, 5, 6, 7, 8, 9, 10, 11, 12, 13, 14, 15, 16, 17, 18, 19, 20, 21, 22, 23], [0, 1, 2, 3, 4, 5, 6, 7, 8, 9, 10, 11, 12, 13, 14, 15, 16, 17, 18, 19, 20, 21, 22, 23, 24]] (by kernel_rfl) (by kernel_rfl) [0] (fr' := [(0, .bool t_2604)]) (σ' := []) ?_ ?_
  · rcases Bool.eq_false_or_eq_true sums_2576 with hb_2606 | hb_2606
    · replace hv_2605 := ite_t hv_2605 hb_2606
      rcases Bool.eq_false_or_eq_true tags_2587 with hb_2607 | hb_2607
      · replace hv_2605 := ite_t hv_2605 hb_2607
        rcases Bool.eq_false_or_eq_true links_2597 with hb_2608 | hb_2608
        · replace hv_2605 := ite_t hv_2605 hb_2608
          rcases Bool.eq_false_or_eq_true ((y_2566.2 == 0)) with hb_2609 | hb_2609
          · replace hv_2605 := ite_t hv_2605 hb_2609
            rcases Bool.eq_false_or_eq_true ((y_2568.2 == 0)) with hb_2610 | hb_2610
            · replace hv_2605 := ite_t hv_2605 hb_2610
              replace hv_2605 := bind_some1 hv_2605; obtain ⟨y_2603, hy_2611, hv_2605⟩ := hv_2605
              rcases Bool.eq_false_or_eq_true ((y_2566.1 == y_2603)) with hb_2612 | hb_2612
              · replace hv_2605 := ite_t hv_2605 hb_2612
                have e_hv_2605 := Option.some.inj hv_2605; subst e_hv_2605
                exact ⟨_, [(0, .bool ((y_2570.2 == 10)))], [.box (C1 u8 y_2566.1.l) false], orcs_ok (l := [(79, 14, [.str (([116] : List UInt8)), .sl false (L cU8 y_2568.1)], .agg (C1 u8 y_2603.l))]) ⟨digest_Tagged_con hy_2611, trivial⟩, by simp only [go_sem, reduceIte, Nat.reduceLT, Nat.reduceEqDiff, Nat.reduceAdd, Nat.reduceBEq, Nat.reduceMul, Nat.reduceSub, Nat.reduceGT, Nat.reducePow, Nat.reduceLeDiff, Int.reduceToNat, hb_2606, hb_2607, hb_2608, hb_2609, hb_2610, hb_2612], (weak_sel [] (by decide) rfl (by simp only [go_sem, reduceIte, Nat.reduceLT, Nat.reduceEqDiff, Nat.reduceAdd, Nat.reduceBEq, Nat.reduceMul, Nat.reduceSub, Nat.reduceGT, Nat.reducePow, Nat.reduceLeDiff, Int.reduceToNat]) (by simp only [go_sem, reduceIte, Nat.reduceLT, Nat.reduceEqDiff, Nat.reduceAdd, Nat.reduceBEq, Nat.reduceMul, Nat.reduceSub, Nat.reduceGT, Nat.reducePow, Nat.reduceLeDiff, Int.reduceToNat]))⟩
              · replace hv_2605 := ite_f hv_2605 hb_2612
                have e_hv_2605 := Option.some.inj hv_2605; subst e_hv_2605
                exact ⟨_, [(0, .bool false)], [.box (C1 u8 y_2566.1.l) false], orcs_ok (l := [(79, 14, [.str (([116] : List UInt8)), .sl false (L cU8 y_2568.1)], .agg (C1 u8 y_2603.l))]) ⟨digest_Tagged_con hy_2611, trivial⟩, by simp only [go_sem, reduceIte, Nat.reduceLT, Nat.reduceEqDiff, Nat.reduceAdd, Nat.reduceBEq, Nat.reduceMul, Nat.reduceSub, Nat.reduceGT, Nat.reducePow, Nat.reduceLeDiff, Int.reduceToNat, hb_2606, hb_2607, hb_2608, hb_2609, hb_2610, hb_2612], (weak_sel [] (by decide) rfl (by simp only [go_sem, reduceIte, Nat.reduceLT, Nat.reduceEqDiff, Nat.reduceAdd, Nat.reduceBEq, Nat.reduceMul, Nat.reduceSub, Nat.reduceGT, Nat.reducePow, Nat.reduceLeDiff, Int.reduceToNat]) (by simp only [go_sem, reduceIte, Nat.reduceLT, Nat.reduceEqDiff, Nat.reduceAdd, Nat.reduceBEq, Nat.reduceMul, Nat.reduceSub, Nat.reduceGT, Nat.reducePow, Nat.reduceLeDiff, Int.reduceToNat]))⟩
            · replace hv_2605 := ite_f hv_2605 hb_2610
              have e_hv_2605 := Option.some.inj hv_2605; subst e_hv_2605
              exact ⟨_, [(0, .bool false)], [.box (C1 u8 y_2566.1.l) false], orcs_nil, by simp only [go_sem, reduceIte, Nat.reduceLT, Nat.reduceEqDiff, Nat.reduceAdd, Nat.reduceBEq, Nat.reduceMul, Nat.reduceSub, Nat.reduceGT, Nat.reducePow, Nat.reduceLeDiff, Int.reduceToNat, hb_2606, hb_2607, hb_2608, hb_2609, hb_2610], (weak_sel [] (by decide) rfl (by simp only [go_sem, reduceIte, Nat.reduceLT, Nat.reduceEqDiff, Nat.reduceAdd, Nat.reduceBEq, Nat.reduceMul, Nat.reduceSub, Nat.reduceGT, Nat.reducePow, Nat.reduceLeDiff, Int.reduceToNat]) (by simp only [go_sem, reduceIte, Nat.reduceLT, Nat.reduceEqDiff, Nat.reduceAdd, Nat.reduceBEq, Nat.reduceMul, Nat.reduceSub, Nat.reduceGT, Nat.reducePow, Nat.reduceLeDiff, Int.reduceToNat]))⟩
          · replace hv_2605 := ite_f hv_2605 hb_2609
            have e_hv_2605 := Option.some.inj hv_2605; subst e_hv_2605
            exact ⟨_, [(0, .bool false)], [.box (C1 u8 y_2566.1.l) false], orcs_nil, by simp only [go_sem, reduceIte, Nat.reduceLT, Nat.reduceEqDiff, Nat.reduceAdd, Nat.reduceBEq, Nat.reduceMul, Nat.reduceSub, Nat.reduceGT, Nat.reducePow, Nat.reduceLeDiff, Int.reduceToNat, hb_2606, hb_2607, hb_2608, hb_2609], (weak_sel [] (by decide) rfl (by simp only [go_sem, reduceIte, Nat.reduceLT, Nat.reduceEqDiff, Nat.reduceAdd, Nat.reduceBEq, Nat.reduceMul, Nat.reduceSub, Nat.reduceGT, Nat.reducePow, Nat.reduceLeDiff, Int.reduceToNat]) (by simp only [go_sem, reduceIte, Nat.reduceLT, Nat.reduceEqDiff, Nat.reduceAdd, Nat.reduceBEq, Nat.reduceMul, Nat.reduceSub, Nat.reduceGT, Nat.reducePow, Nat.reduceLeDiff, Int.reduceToNat]))⟩
        · replace hv_2605 := ite_f hv_2605 hb_2608
          have e_hv_2605 := Option.some.inj hv_2605; subst e_hv_2605
          exact ⟨_, [(0, .bool false)], [.box (C1 u8 y_2566.1.l) false], orcs_nil, by simp only [go_sem, reduceIte, Nat.reduceLT, Nat.reduceEqDiff, Nat.reduceAdd, Nat.reduceBEq, Nat.reduceMul, Nat.reduceSub, Nat.reduceGT, Nat.reducePow, Nat.reduceLeDiff, Int.reduceToNat, hb_2606, hb_2607, hb_2608], (weak_sel [] (by decide) rfl (by simp only [go_sem, reduceIte, Nat.reduceLT, Nat.reduceEqDiff, Nat.reduceAdd, Nat.reduceBEq, Nat.reduceMul, Nat.reduceSub, Nat.reduceGT, Nat.reducePow, Nat.reduceLeDiff, Int.reduceToNat]) (by simp only [go_sem, reduceIte, Nat.reduceLT, Nat.reduceEqDiff, Nat.reduceAdd, Nat.reduceBEq, Nat.reduceMul, Nat.reduceSub, Nat.reduceGT, Nat.reducePow, Nat.reduceLeDiff, Int.reduceToNat]))⟩
      · replace hv_2605 := ite_f hv_2605 hb_2607
        have e_hv_2605 := Option.some.inj hv_2605; subst e_hv_2605
        exact ⟨_, [(0, .bool false)], [.box (C1 u8 y_2566.1.l) false], orcs_nil, by simp only [go_sem, reduceIte, Nat.reduceLT, Nat.reduceEqDiff, Nat.reduceAdd, Nat.reduceBEq, Nat.reduceMul, Nat.reduceSub, Nat.reduceGT, Nat.reducePow, Nat.reduceLeDiff, Int.reduceToNat, hb_2606, hb_2607], (weak_sel [] (by decide) rfl (by simp only [go_sem, reduceIte, Nat.reduceLT, Nat.reduceEqDiff, Nat.reduceAdd, Nat.reduceBEq, Nat.reduceMul, Nat.reduceSub, Nat.reduceGT, Nat.reducePow, Nat.reduceLeDiff, Int.reduceToNat]) (by simp only [go_sem, reduceIte, Nat.reduceLT, Nat.reduceEqDiff, Nat.reduceAdd, Nat.reduceBEq, Nat.reduceMul, Nat.reduceSub, Nat.reduceGT, Nat.reducePow, Nat.reduceLeDiff, Int.reduceToNat]))⟩
    · replace hv_2605 := ite_f hv_2605 hb_2606
      have e_hv_2605 := Option.some.inj hv_2605; subst e_hv_2605
      exact ⟨_, [(0, .bool false)], [.box (C1 u8 y_2566.1.l) false], orcs_nil, by simp only [go_sem, reduceIte, Nat.reduceLT, Nat.reduceEqDiff, Nat.reduceAdd, Nat.reduceBEq, Nat.reduceMul, Nat.reduceSub, Nat.reduceGT, Nat.reducePow, Nat.reduceLeDiff, Int.reduceToNat, hb_2606], (weak_sel [] (by decide) rfl (by simp only [go_sem, reduceIte, Nat.reduceLT, Nat.reduceEqDiff, Nat.reduceAdd, Nat.reduceBEq, Nat.reduceMul, Nat.reduceSub, Nat.reduceGT, Nat.reducePow, Nat.reduceLeDiff, Int.reduceToNat]) (by simp only [go_sem, reduceIte, Nat.reduceLT, Nat.reduceEqDiff, Nat.reduceAdd, Nat.reduceBEq, Nat.reduceMul, Nat.reduceSub, Nat.reduceGT, Nat.reducePow, Nat.reduceLeDiff, Int.reduceToNat]))⟩
  refine run_ret ?_
  obtain rfl := Option.some.inj h
  refine ret_ok (.inr rfl) ?_
  simp only [go_sem, reduceIte, Nat.reduceLT, Nat.reduceEqDiff, Nat.reduceAdd, Nat.reduceBEq, Nat.reduceMul, Nat.reduceSub, Nat.reduceGT, Nat.reducePow, Nat.reduceLeDiff, Int.reduceToNat]

theorem law02_long_con {l_2613 : List (List UInt8)} {r : Bool} (h : law02_long l_2613 = some r) : Con B 24 [.sl false (L (cSl cU8) l_2613)] [] (fun r' σ' => r' = .bool r ∧ σ' = []) := by
  refine con_walk (N := 23) (rs := [.tmp 2]) ok Tryd.func24 rfl (by decide +kernel) rfl rfl (Nat.le_of_ble_eq_true rfl) (fun F => ?_)
  have hE := ok.env F
  unfold law02_long at h
  show Run (B.env F) 0 _ ⟨asFr 23 [(0, .sl false (L (cSl cU8) l_2613))], []⟩ _
  refine run_textE hE [0] (fr' := [(0, .sl false (L (cSl cU8) l_2613))]) (σ' := []) ⟨_, orcs_nil, ?_⟩ ?_
  · simp only [go_sem, reduceIte, Nat.reduceLT, Nat.reduceEqDiff, Nat.reduceAdd, Nat.reduceBEq, Nat.reduceMul, Nat.reduceSub, Nat.reduceGT, Nat.reducePow, Nat.reduceLeDiff, Int.reduceToNat]
  replace h := bind_some1 h; obtain ⟨j_2638, hA_2639, hj_2640⟩ := h
  refine run_join (fun (v : Unit) => (⟨asFr 23 [(0, .sl false (L (cSl cU8) l_2613))], []⟩ : St)) (fun v => .inl v = j_2638) ?_ ?_
  · have h := hA_2639; clear hA_2639
    refine run_textE hE [0, 3] (fr' := [(0, .sl false (L (cSl cU8) l_2613)), (3, i64 0)]) (σ' := []) ⟨_, orcs_nil, ?_⟩ ?_
    · simp only [go_sem, reduceIte, Nat.reduceLT, Nat.reduceEqDiff, Nat.reduceAdd, Nat.reduceBEq, Nat.reduceMul, Nat.reduceSub, Nat.reduceGT, Nat.reducePow, Nat.reduceLeDiff, Int.reduceToNat]
    refine run_block ?_
    replace h := bind_some1 h; obtain ⟨x_2654, hx_2655, hj_2656⟩ := h
    refine run_loopO hx_2655 (fun (v : Int) => (⟨asFr 23 [(0, .sl false (L (cSl cU8) l_2613)), (3, i64 v)], []⟩ : St)) (weak_sel [] (by decide) rfl (by simp only [go_sem, reduceIte, Nat.reduceLT, Nat.reduceEqDiff, Nat.reduceAdd, Nat.reduceBEq, Nat.reduceMul, Nat.reduceSub, Nat.reduceGT, Nat.reducePow, Nat.reduceLeDiff, Int.reduceToNat]) (by simp only [go_sem, reduceIte, Nat.reduceLT, Nat.reduceEqDiff, Nat.reduceAdd, Nat.reduceBEq, Nat.reduceMul, Nat.reduceSub, Nat.reduceGT, Nat.reducePow, Nat.reduceLeDiff, Int.reduceToNat])) ?_
    rintro i_2647 o_2657 h hxx_2658
    replace h : law02_long_b1 l_2613 i_2647 = some o_2657 := h
    unfold law02_long_b1 at h
    refine run_seq ?_
    replace h := bind_some1 h; obtain ⟨t_2659, hv_2660, h⟩ := h
    refine run_textW hE [0, 3, 11] (fr' := [(0, .sl false (L (cSl cU8) l_2613)), (3, i64 i_2647), (11, .bool t_2659)]) (σ' := []) ?_ ?_
    · rcases Bool.eq_false_or_eq_true ((decide (i_2647 < (l_2613.length : Int)))) with hb_2661 | hb_2661
      · replace hv_2660 := ite_t hv_2660 hb_2661
        have e_hv_2660 := Option.some.inj hv_2660; subst e_hv_2660
        exact ⟨_, [(0, .sl false (L (cSl cU8) l_2613)), (3, i64 i_2647), (11, .bool ((decide (i_2647 < 9))))], [], orcs_nil, by simp only [go_sem, reduceIte, Nat.reduceLT, Nat.reduceEqDiff, Nat.reduceAdd, Nat.reduceBEq, Nat.reduceMul, Nat.reduceSub, Nat.reduceGT, Nat.reducePow, Nat.reduceLeDiff, Int.reduceToNat, hb_2661], (weak_sel [] (by decide) rfl (by simp only [go_sem, reduceIte, Nat.reduceLT, Nat.reduceEqDiff, Nat.reduceAdd, Nat.reduceBEq, Nat.reduceMul, Nat.reduceSub, Nat.reduceGT, Nat.reducePow, Nat.reduceLeDiff, Int.reduceToNat]) (by simp only [go_sem, reduceIte, Nat.reduceLT, Nat.reduceEqDiff, Nat.reduceAdd, Nat.reduceBEq, Nat.reduceMul, Nat.reduceSub, Nat.reduceGT, Nat.reducePow, Nat.reduceLeDiff, Int.reduceToNat]))⟩
      · replace hv_2660 := ite_f hv_2660 hb_2661
        have e_hv_2660 := Option.some.inj hv_2660; subst e_hv_2660
        exact ⟨_, [(0, .sl false (L (cSl cU8) l_2613)), (3, i64 i_2647), (11, .bool false)], [], orcs_nil, by simp only [go_sem, reduceIte, Nat.reduceLT, Nat.reduceEqDiff, Nat.reduceAdd, Nat.reduceBEq, Nat.reduceMul, Nat.reduceSub, Nat.reduceGT, Nat.reducePow, Nat.reduceLeDiff, Int.reduceToNat, hb_2661], (weak_sel [] (by decide) rfl (by simp only [go_sem, reduceIte, Nat.reduceLT, Nat.reduceEqDiff, Nat.reduceAdd, Nat.reduceBEq, Nat.reduceMul, Nat.reduceSub, Nat.reduceGT, Nat.reducePow, Nat.reduceLeDiff, Int.reduceToNat]) (by simp only [go_sem, reduceIte, Nat.reduceLT, Nat.reduceEqDiff, Nat.reduceAdd, Nat.reduceBEq, Nat.reduceMul, Nat.reduceSub, Nat.reduceGT, Nat.reducePow, Nat.reduceLeDiff, Int.reduceToNat]))⟩
    refine run_condL (b := t_2659) rfl (by decide) (fun hb => ?_) (fun hb => ?_)
    · replace h := ite_t h hb
      refine run_skip ?_
      refine thenK_n ?_
      refine run_seq ?_
      refine run_block ?_
      replace h := chk_some h; obtain ⟨hc_2662, h⟩ := h
      refine run_textE hE [0, 3, 19] (fr' := [(0, .sl false (L (cSl cU8) l_2613)), (3, i64 i_2647), (19, .bool ((decide (((nth l_2613 i_2647.toNat).length : Int) > 200))))]) (σ' := []) ⟨_, orcs_nil, ?_⟩ ?_
      · simp only [go_sem, reduceIte, Nat.reduceLT, Nat.reduceEqDiff, Nat.reduceAdd, Nat.reduceBEq, Nat.reduceMul, Nat.reduceSub, Nat.reduceGT, Nat.reducePow, Nat.reduceLeDiff, Int.reduceToNat, hc_2662, hc_2662.2, lt_le hc_2662.2]
      refine run_condL (b := (decide (((nth l_2613 i_2647.toNat).length : Int) > 200))) rfl (by decide) (fun hb => ?_) (fun hb => ?_)
      · replace h := ite_t h hb
        refine run_textE hE [2] (fr' := [(2, .bool true)]) (σ' := []) ⟨_, orcs_nil, ?_⟩ ?_
        · simp only [go_sem, reduceIte, Nat.reduceLT, Nat.reduceEqDiff, Nat.reduceAdd, Nat.reduceBEq, Nat.reduceMul, Nat.reduceSub, Nat.reduceGT, Nat.reducePow, Nat.reduceLeDiff, Int.reduceToNat]
        refine run_ret ?_
        refine blockK_r ?_
        refine thenK_r ?_
        refine lpK_r ?_
        replace h := bind_some1 h; obtain ⟨z_2664, h, e_z_2664⟩ := h
        obtain rfl := Option.some.inj e_z_2664
        have ex_z_2664 := hxx_2658 _ rfl
        subst ex_z_2664
        obtain rfl := Option.some.inj hj_2656
        refine blockK_r ?_
        refine joinK_r ?_
        replace h := bind_some1 h; obtain ⟨z_2663, h, e_z_2663⟩ := h
        obtain rfl := Option.some.inj e_z_2663
        obtain rfl := Option.some.inj hj_2640
        obtain rfl := Option.some.inj h
        refine ret_ok (.inr rfl) ?_
        simp only [go_sem, reduceIte, Nat.reduceLT, Nat.reduceEqDiff, Nat.reduceAdd, Nat.reduceBEq, Nat.reduceMul, Nat.reduceSub, Nat.reduceGT, Nat.reducePow, Nat.reduceLeDiff, Int.reduceToNat]
      · replace h := ite_f h hb
        refine run_skip ?_
        refine blockK_n ?_
        refine thenK_n ?_
        refine run_textE0 hE wk_lp [0, 3] (fr' := [(0, .sl false (L (cSl cU8) l_2613)), (3, i64 ((w64 (i_2647 + 1))))]) (σ' := []) ⟨_, orcs_nil, ?_⟩ ?_
        · simp only [go_sem, reduceIte, Nat.reduceLT, Nat.reduceEqDiff, Nat.reduceAdd, Nat.reduceBEq, Nat.reduceMul, Nat.reduceSub, Nat.reduceGT, Nat.reducePow, Nat.reduceLeDiff, Int.reduceToNat]
        obtain rfl := Option.some.inj h
        exact lpK_n ((w64 (i_2647 + 1))) rfl (weak_sel [] (by decide) rfl (by simp only [go_sem, reduceIte, Nat.reduceLT, Nat.reduceEqDiff, Nat.reduceAdd, Nat.reduceBEq, Nat.reduceMul, Nat.reduceSub, Nat.reduceGT, Nat.reducePow, Nat.reduceLeDiff, Int.reduceToNat]) (by simp only [go_sem, reduceIte, Nat.reduceLT, Nat.reduceEqDiff, Nat.reduceAdd, Nat.reduceBEq, Nat.reduceMul, Nat.reduceSub, Nat.reduceGT, Nat.reducePow, Nat.reduceLeDiff, Int.reduceToNat]))
    · replace h := ite_f h hb
      refine run_exit ?_
      refine thenK_x ?_
      obtain rfl := Option.some.inj h
      have ex_x_2654 := hxx_2658 _ rfl
      subst ex_x_2654
      have h := hj_2656; clear hj_2656
      refine lpK_x ?_
      refine blockK_x ?_
      obtain rfl := Option.some.inj h
      exact joinK_n (()) rfl ((weak_sel (l' := [(0, .sl false (L (cSl cU8) l_2613))]) (σ' := []) [] (by decide) rfl (by simp only [go_sem, reduceIte, Nat.reduceLT, Nat.reduceEqDiff, Nat.reduceAdd, Nat.reduceBEq, Nat.reduceMul, Nat.reduceSub, Nat.reduceGT, Nat.reducePow, Nat.reduceLeDiff, Int.reduceToNat]) (by simp only [go_sem, reduceIte, Nat.reduceLT, Nat.reduceEqDiff, Nat.reduceAdd, Nat.reduceBEq, Nat.reduceMul, Nat.reduceSub, Nat.reduceGT, Nat.reducePow, Nat.reduceLeDiff, Int.reduceToNat])).trans (weak_sel [] (by decide) rfl (by simp only [go_sem, reduceIte, Nat.reduceLT, Nat.reduceEqDiff, Nat.reduceAdd, Nat.reduceBEq, Nat.reduceMul, Nat.reduceSub, Nat.reduceGT, Nat.reducePow, Nat.reduceLeDiff, Int.reduceToNat]) (by simp only [go_sem, reduceIte, Nat.reduceLT, Nat.reduceEqDiff, Nat.reduceAdd, Nat.reduceBEq, Nat.reduceMul, Nat.reduceSub, Nat.reduceGT, Nat.reducePow, Nat.reduceLeDiff, Int.reduceToNat])))
  rintro ⟨⟩ rfl
  have h := hj_2640; clear hj_2640
  refine run_textE hE [2] (fr' := [(2, .bool ((decide ((l_2613.length : Int) > 8))))]) (σ' := []) ⟨_, orcs_nil, ?_⟩ ?_
  · simp only [go_sem, reduceIte, Nat.reduceLT, Nat.reduceEqDiff, Nat.reduceAdd, Nat.reduceBEq, Nat.reduceMul, Nat.reduceSub, Nat.reduceGT, Nat.reducePow, Nat.reduceLeDiff, Int.reduceToNat]
  refine run_ret ?_
  obtain rfl := Option.some.inj h
  refine ret_ok (.inr rfl) ?_
  simp only [go_sem, reduceIte, Nat.reduceLT, Nat.reduceEqDiff, Nat.reduceAdd, Nat.reduceBEq, Nat.reduceMul, Nat.reduceSub, Nat.reduceGT, Nat.reducePow, Nat.reduceLeDiff, Int.reduceToNat]

end Go.Proofs.YtgdiabbgiiemcaaDoor
