/-
  The functions compute just that.
-/
import Derived.Test.YtneejmndnihaoaaGW4
import Derived.KernelRfl
namespace Go.Proofs.Ytneejmndnihaoaa
open Go.Rv
set_option linter.unusedVariables false
set_option linter.unusedSimpArgs false

theorem frame_Feed_con {d_2636 : Api_Deframer} {b_2637 : List UInt8} {r : Api_Deframer × List (List UInt8) × Int} (h : frame_Feed d_2636 b_2637 = some r) : Con B 15 [.agg [.sl false (L cU8 d_2636.Rest), .bool d_2636.In, .bool d_2636.Escape, .bool d_2636.Bad], .sl false (L cU8 b_2637)] [] (fun r' σ' => r' = .tup [.agg [.sl false (L cU8 r.1.Rest), .bool r.1.In, .bool r.1.Escape, .bool r.1.Bad], .sl false (L (cSl cU8) r.2.1), i64 r.2.2] ∧ σ' = []) := by
  refine con_walk (N := 99) (rs := [.cell 4 31, .tmp 5, .tmp 6]) ok Try.func15 rfl (by decide +kernel) rfl rfl (Nat.le_of_ble_eq_true rfl) (fun F => ?_)
  have hE := ok.env F
  unfold frame_Feed at h
  show Run (B.env F) 0 _ ⟨asFr 99 [(0, .agg [.sl false (L cU8 d_2636.Rest), .bool d_2636.In, .bool d_2636.Escape, .bool d_2636.Bad]), (1, .sl false (L cU8 b_2637))], []⟩ _
  refine run_textE hE [1, 2, 4, 5, 6] (fr' := [(1, .sl false (L cU8 b_2637)), (2, .ref 0 0), (4, .ref 1 0), (5, .sl true (L (cSl cU8) ([]))), (6, i64 0)]) (σ' := [.box [.sl false (L cU8 d_2636.Rest), .bool d_2636.In, .bool d_2636.Escape, .bool d_2636.Bad] false, .box [.sl true (L cU8 ([])), .bool false, .bool false, .bool false] false]) ⟨_, orcs_nil, ?_⟩ ?_
  · simp only [go_sem, reduceIte, Nat.reduceLT, Nat.reduceEqDiff, Nat.reduceAdd, Nat.reduceBEq, Nat.reduceMul, Nat.reduceSub, Nat.reduceGT, Nat.reducePow, Nat.reduceLeDiff, Int.reduceToNat]
  refine run_scope ?_
  replace h := chk_some h; obtain ⟨hc_2638, h⟩ := h
  replace h := lt1_some h; obtain ⟨l_2639, hz_2640, h⟩ := h
  refine run_textE hE [1, 2, 4, 5, 6, 7] (fr' := [(1, .sl false (L cU8 b_2637)), (2, .ref 0 0), (4, .ref 1 0), (5, .sl true (L (cSl cU8) ([]))), (6, i64 0), (7, .bs true 2 (l_2639.length) 0 (l_2639.length))]) (σ' := [.box [.sl false (L cU8 d_2636.Rest), .bool d_2636.In, .bool d_2636.Escape, .bool d_2636.Bad] false, .box [.sl true (L cU8 ([])), .bool false, .bool false, .bool false] false, .buf 1 (L cU8 l_2639) false]) ⟨_, orcs_nil, ?_⟩ ?_
  · subst hz_2640; simp only [go_sem, reduceIte, Nat.reduceLT, Nat.reduceEqDiff, Nat.reduceAdd, Nat.reduceBEq, Nat.reduceMul, Nat.reduceSub, Nat.reduceGT, Nat.reducePow, Nat.reduceLeDiff, Int.reduceToNat, hc_2638]
  replace h := lt1_some h; obtain ⟨l_2641, hz_2642, h⟩ := h
  refine run_textE hE [1, 2, 4, 5, 6, 7] (fr' := [(1, .sl false (L cU8 b_2637)), (2, .ref 0 0), (4, .ref 1 0), (5, .sl true (L (cSl cU8) ([]))), (6, i64 0), (7, .bs true 2 (l_2641.length) 0 (l_2641.length))]) (σ' := [.box [.sl false (L cU8 d_2636.Rest), .bool d_2636.In, .bool d_2636.Escape, .bool d_2636.Bad] false, .box [.sl true (L cU8 ([])), .bool false, .bool false, .bool false] false, .buf 1 (L cU8 l_2641) false]) ⟨_, orcs_nil, ?_⟩ ?_
  · subst hz_2642; simp only [go_sem, reduceIte, Nat.reduceLT, Nat.reduceEqDiff, Nat.reduceAdd, Nat.reduceBEq, Nat.reduceMul, Nat.reduceSub, Nat.reduceGT, Nat.reducePow, Nat.reduceLeDiff, Int.reduceToNat]
  refine run_textE hE [1, 2, 4, 5, 6] (fr' := [(1, .sl false (L cU8 b_2637)), (2, .ref 0 0), (4, .ref 1 0), (5, .sl true (L (cSl cU8) ([]))), (6, i64 0)]) (σ' := [.box [.bs true 2 (l_2641.length) 0 (l_2641.length), .bool d_2636.In, .bool d_2636.Escape, .bool d_2636.Bad] false, .box [.sl true (L cU8 ([])), .bool false, .bool false, .bool false] false, .buf 1 (L cU8 l_2641) false]) ⟨_, orcs_nil, ?_⟩ ?_
  · simp only [go_sem, reduceIte, Nat.reduceLT, Nat.reduceEqDiff, Nat.reduceAdd, Nat.reduceBEq, Nat.reduceMul, Nat.reduceSub, Nat.reduceGT, Nat.reducePow, Nat.reduceLeDiff, Int.reduceToNat]
  refine run_seq ?_
  refine run_label ?_
  refine thenK_n ?_
  replace h := bind_some1 h; obtain ⟨j_3174, hA_3175, hj_3176⟩ := h
  refine run_join (fun (v : Int × Bool × Bool × Bool × List (List UInt8) × List UInt8) => (⟨asFr 99 [(2, .ref 0 0), (4, .ref 1 0), (5, .bs false 2 (v.2.2.2.2.1.length) 0 (v.2.2.2.2.1.length)), (6, i64 v.1)], [.box [.bs false 3 (v.2.2.2.2.2.length) 0 (v.2.2.2.2.2.length), .bool v.2.1, .bool v.2.2.1, .bool v.2.2.2.1] false, .box [.sl true (L cU8 ([])), .bool false, .bool false, .bool false] false, .buf 1 (L (cSl cU8) v.2.2.2.2.1) false, .buf 1 (L cU8 v.2.2.2.2.2) false]⟩ : St)) (fun v => v = j_3174) ?_ ?_
  · have h := hA_3175; clear hA_3175
    refine run_textE hE [2, 4, 5, 6, 22, 23, 24] (fr' := [(2, .ref 0 0), (4, .ref 1 0), (5, .sl true (L (cSl cU8) ([]))), (6, i64 0), (22, .sl false (L cU8 b_2637)), (23, i64 ((b_2637.length : Int))), (24, i64 0)]) (σ' := [.box [.bs true 2 (l_2641.length) 0 (l_2641.length), .bool d_2636.In, .bool d_2636.Escape, .bool d_2636.Bad] false, .box [.sl true (L cU8 ([])), .bool false, .bool false, .bool false] false, .buf 1 (L cU8 l_2641) false]) ⟨_, orcs_nil, ?_⟩ ?_
    · simp only [go_sem, reduceIte, Nat.reduceLT, Nat.reduceEqDiff, Nat.reduceAdd, Nat.reduceBEq, Nat.reduceMul, Nat.reduceSub, Nat.reduceGT, Nat.reducePow, Nat.reduceLeDiff, Int.reduceToNat]
    refine run_block ?_
    replace h := bind_some1 h; obtain ⟨x_3528, hx_3529, hj_3530⟩ := h
    refine run_loopO hx_3529 (fun (v : Int × Int × Bool × Bool × Bool × List (List UInt8) × List UInt8) => (⟨asFr 99 [(2, .ref 0 0), (4, .ref 1 0), (5, .bs false 2 (v.2.2.2.2.2.1.length) 0 (v.2.2.2.2.2.1.length)), (6, i64 v.1), (22, .sl false (L cU8 b_2637)), (23, i64 ((b_2637.length : Int))), (24, i64 v.2.1)], [.box [.bs false 3 (v.2.2.2.2.2.2.length) 0 (v.2.2.2.2.2.2.length), .bool v.2.2.1, .bool v.2.2.2.1, .bool v.2.2.2.2.1] false, .box [.sl true (L cU8 ([])), .bool false, .bool false, .bool false] false, .buf 1 (L (cSl cU8) v.2.2.2.2.2.1) false, .buf 1 (L cU8 v.2.2.2.2.2.2) false]⟩ : St)) ((weak_nil 5 1 rfl).trans (weak_sel [0, 1, 3, 2] (by decide) rfl (by simp only [go_sem, reduceIte, Nat.reduceLT, Nat.reduceEqDiff, Nat.reduceAdd, Nat.reduceBEq, Nat.reduceMul, Nat.reduceSub, Nat.reduceGT, Nat.reducePow, Nat.reduceLeDiff, Int.reduceToNat]) (by simp only [go_sem, reduceIte, Nat.reduceLT, Nat.reduceEqDiff, Nat.reduceAdd, Nat.reduceBEq, Nat.reduceMul, Nat.reduceSub, Nat.reduceGT, Nat.reducePow, Nat.reduceLeDiff, Int.reduceToNat]))) ?_
    rintro ⟨bad_3346, t_3347, f_3348, f_3349, f_3350, l_3351, l_3352⟩ o_3531 h hxx_3532
    replace h : frame_Feed_b1 b_2637 bad_3346 t_3347 f_3348 f_3349 f_3350 l_3351 l_3352 = some o_3531 := h
    unfold frame_Feed_b1 at h
    refine run_textE hE [2, 4, 5, 6, 22, 23, 24, 25] (fr' := [(2, .ref 0 0), (4, .ref 1 0), (5, .bs false 2 (l_3351.length) 0 (l_3351.length)), (6, i64 bad_3346), (22, .sl false (L cU8 b_2637)), (23, i64 ((b_2637.length : Int))), (24, i64 t_3347), (25, .bool ((decide (t_3347 < (b_2637.length : Int)))))]) (σ' := [.box [.bs false 3 (l_3352.length) 0 (l_3352.length), .bool f_3348, .bool f_3349, .bool f_3350] false, .box [.sl true (L cU8 ([])), .bool false, .bool false, .bool false] false, .buf 1 (L (cSl cU8) l_3351) false, .buf 1 (L cU8 l_3352) false]) ⟨_, orcs_nil, ?_⟩ ?_
    · simp only [go_sem, reduceIte, Nat.reduceLT, Nat.reduceEqDiff, Nat.reduceAdd, Nat.reduceBEq, Nat.reduceMul, Nat.reduceSub, Nat.reduceGT, Nat.reducePow, Nat.reduceLeDiff, Int.reduceToNat]
    refine run_seq ?_
    refine run_condL (b := (decide (t_3347 < (b_2637.length : Int)))) rfl (by decide) (fun hb => ?_) (fun hb => ?_)
    · replace h := ite_t h hb
      refine run_skip ?_
      refine thenK_n ?_
      replace h := bind_some1 h; obtain ⟨j_3619, hA_3620, hj_3621⟩ := h
      refine run_join (fun (v : Int × Bool × Bool × Bool × List (List UInt8) × List UInt8) => (⟨asFr 99 [(2, .ref 0 0), (4, .ref 1 0), (5, .bs false 2 (v.2.2.2.2.1.length) 0 (v.2.2.2.2.1.length)), (6, i64 v.1), (22, .sl false (L cU8 b_2637)), (23, i64 ((b_2637.length : Int))), (24, i64 t_3347)], [.box [.bs false 3 (v.2.2.2.2.2.length) 0 (v.2.2.2.2.2.length), .bool v.2.1, .bool v.2.2.1, .bool v.2.2.2.1] false, .box [.sl true (L cU8 ([])), .bool false, .bool false, .bool false] false, .buf 1 (L (cSl cU8) v.2.2.2.2.1) false, .buf 1 (L cU8 v.2.2.2.2.2) false]⟩ : St)) (fun v => v = j_3619) ?_ ?_
      · have h := hA_3620; clear hA_3620
        refine run_block ?_
        replace h := chk_some h; obtain ⟨hc_3622, h⟩ := h
        refine run_textE hE [2, 4, 5, 6, 9, 22, 23, 24] (fr' := [(2, .ref 0 0), (4, .ref 1 0), (5, .bs false 2 (l_3351.length) 0 (l_3351.length)), (6, i64 bad_3346), (9, u8 (nth b_2637 t_3347.toNat)), (22, .sl false (L cU8 b_2637)), (23, i64 ((b_2637.length : Int))), (24, i64 t_3347)]) (σ' := [.box [.bs false 3 (l_3352.length) 0 (l_3352.length), .bool f_3348, .bool f_3349, .bool f_3350] false, .box [.sl true (L cU8 ([])), .bool false, .bool false, .bool false] false, .buf 1 (L (cSl cU8) l_3351) false, .buf 1 (L cU8 l_3352) false]) ⟨_, orcs_nil, ?_⟩ ?_
        · simp only [go_sem, reduceIte, Nat.reduceLT, Nat.reduceEqDiff, Nat.reduceAdd, Nat.reduceBEq, Nat.reduceMul, Nat.reduceSub, Nat.reduceGT, Nat.reducePow, Nat.reduceLeDiff, Int.reduceToNat, hc_3622, hc_3622.2, lt_le hc_3622.2]
        replace h := bind_some1 h; obtain ⟨j_3660, hA_3661, hj_3662⟩ := h
        refine run_join (fun (v : UInt8) => (⟨asFr 99 [(2, .ref 0 0), (4, .ref 1 0), (5, .bs false 2 (l_3351.length) 0 (l_3351.length)), (6, i64 bad_3346), (9, u8 v), (22, .sl false (L cU8 b_2637)), (23, i64 ((b_2637.length : Int))), (24, i64 t_3347)], [.box [.bs false 3 (l_3352.length) 0 (l_3352.length), .bool f_3348, .bool f_3349, .bool f_3350] false, .box [.sl true (L cU8 ([])), .bool false, .bool false, .bool false] false, .buf 1 (L (cSl cU8) l_3351) false, .buf 1 (L cU8 l_3352) false]⟩ : St)) (fun v => .inl v = j_3660) ?_ ?_
        · have h := hA_3661; clear hA_3661
          refine run_block ?_
          refine run_textE hE [2, 4, 5, 6, 9, 22, 23, 24, 28] (fr' := [(2, .ref 0 0), (4, .ref 1 0), (5, .bs false 2 (l_3351.length) 0 (l_3351.length)), (6, i64 bad_3346), (9, u8 (nth b_2637 t_3347.toNat)), (22, .sl false (L cU8 b_2637)), (23, i64 ((b_2637.length : Int))), (24, i64 t_3347), (28, .bool ((nth b_2637 t_3347.toNat == (126 : UInt8))))]) (σ' := [.box [.bs false 3 (l_3352.length) 0 (l_3352.length), .bool f_3348, .bool f_3349, .bool f_3350] false, .box [.sl true (L cU8 ([])), .bool false, .bool false, .bool false] false, .buf 1 (L (cSl cU8) l_3351) false, .buf 1 (L cU8 l_3352) false]) ⟨_, orcs_nil, ?_⟩ ?_
          · simp only [go_sem, reduceIte, Nat.reduceLT, Nat.reduceEqDiff, Nat.reduceAdd, Nat.reduceBEq, Nat.reduceMul, Nat.reduceSub, Nat.reduceGT, Nat.reducePow, Nat.reduceLeDiff, Int.reduceToNat]
          refine run_condL (b := (nth b_2637 t_3347.toNat == (126 : UInt8))) rfl (by decide) (fun hb => ?_) (fun hb => ?_)
          · replace h := ite_t h hb
            replace h := bind_some1 h; obtain ⟨j_3675, hA_3676, hj_3677⟩ := h
            refine run_join (fun (v : Int × List (List UInt8)) => (⟨asFr 99 [(2, .ref 0 0), (4, .ref 1 0), (5, .bs false 2 (v.2.length) 0 (v.2.length)), (6, i64 v.1), (22, .sl false (L cU8 b_2637)), (23, i64 ((b_2637.length : Int))), (24, i64 t_3347)], [.box [.bs false 3 (l_3352.length) 0 (l_3352.length), .bool f_3348, .bool f_3349, .bool f_3350] false, .box [.sl true (L cU8 ([])), .bool false, .bool false, .bool false] false, .buf 1 (L (cSl cU8) v.2) false, .buf 1 (L cU8 l_3352) true]⟩ : St)) (fun v => v = j_3675) ?_ ?_
            · have h := hA_3676; clear hA_3676
              replace h := bind_some1 h; obtain ⟨t_3678, hv_3679, h⟩ := h
              refine run_textW hE [2, 4, 5, 6, 22, 23, 24, 46] (fr' := [(2, .ref 0 0), (4, .ref 1 0), (5, .bs false 2 (l_3351.length) 0 (l_3351.length)), (6, i64 bad_3346), (22, .sl false (L cU8 b_2637)), (23, i64 ((b_2637.length : Int))), (24, i64 t_3347), (46, .bool t_3678)]) (σ' := [.box [.bs false 3 (l_3352.length) 0 (l_3352.length), .bool f_3348, .bool f_3349, .bool f_3350] false, .box [.sl true (L cU8 ([])), .bool false, .bool false, .bool false] false, .buf 1 (L (cSl cU8) l_3351) false, .buf 1 (L cU8 l_3352) false]) ?_ ?_
              · rcases Bool.eq_false_or_eq_true f_3348 with hb_3680 | hb_3680
                · replace hv_3679 := ite_t hv_3679 hb_3680
                  rcases Bool.eq_false_or_eq_true ((decide ((l_3352.length : Int) > 0))) with hb_3681 | hb_3681
                  · replace hv_3679 := ite_t hv_3679 hb_3681
                    have e_hv_3679 := Option.some.inj hv_3679; subst e_hv_3679
                    exact ⟨_, [(2, .ref 0 0), (4, .ref 1 0), (5, .bs false 2 (l_3351.length) 0 (l_3351.length)), (6, i64 bad_3346), (22, .sl false (L cU8 b_2637)), (23, i64 ((b_2637.length : Int))), (24, i64 t_3347), (46, .bool true)], [.box [.bs false 3 (l_3352.length) 0 (l_3352.length), .bool f_3348, .bool f_3349, .bool f_3350] false, .box [.sl true (L cU8 ([])), .bool false, .bool false, .bool false] false, .buf 1 (L (cSl cU8) l_3351) false, .buf 1 (L cU8 l_3352) false], orcs_nil, by simp only [go_sem, reduceIte, Nat.reduceLT, Nat.reduceEqDiff, Nat.reduceAdd, Nat.reduceBEq, Nat.reduceMul, Nat.reduceSub, Nat.reduceGT, Nat.reducePow, Nat.reduceLeDiff, Int.reduceToNat, hb_3680, hb_3681], (weak_sel [0, 1, 2, 3] (by decide) rfl (by simp only [go_sem, reduceIte, Nat.reduceLT, Nat.reduceEqDiff, Nat.reduceAdd, Nat.reduceBEq, Nat.reduceMul, Nat.reduceSub, Nat.reduceGT, Nat.reducePow, Nat.reduceLeDiff, Int.reduceToNat]) (by simp only [go_sem, reduceIte, Nat.reduceLT, Nat.reduceEqDiff, Nat.reduceAdd, Nat.reduceBEq, Nat.reduceMul, Nat.reduceSub, Nat.reduceGT, Nat.reducePow, Nat.reduceLeDiff, Int.reduceToNat]))⟩
                  · replace hv_3679 := ite_f hv_3679 hb_3681
                    rcases Bool.eq_false_or_eq_true f_3349 with hb_3682 | hb_3682
                    · replace hv_3679 := ite_t hv_3679 hb_3682
                      have e_hv_3679 := Option.some.inj hv_3679; subst e_hv_3679
                      exact ⟨_, [(2, .ref 0 0), (4, .ref 1 0), (5, .bs false 2 (l_3351.length) 0 (l_3351.length)), (6, i64 bad_3346), (22, .sl false (L cU8 b_2637)), (23, i64 ((b_2637.length : Int))), (24, i64 t_3347), (46, .bool true)], [.box [.bs false 3 (l_3352.length) 0 (l_3352.length), .bool f_3348, .bool f_3349, .bool f_3350] false, .box [.sl true (L cU8 ([])), .bool false, .bool false, .bool false] false, .buf 1 (L (cSl cU8) l_3351) false, .buf 1 (L cU8 l_3352) false], orcs_nil, by simp only [go_sem, reduceIte, Nat.reduceLT, Nat.reduceEqDiff, Nat.reduceAdd, Nat.reduceBEq, Nat.reduceMul, Nat.reduceSub, Nat.reduceGT, Nat.reducePow, Nat.reduceLeDiff, Int.reduceToNat, hb_3680, hb_3681, hb_3682], (weak_sel [0, 1, 2, 3] (by decide) rfl (by simp only [go_sem, reduceIte, Nat.reduceLT, Nat.reduceEqDiff, Nat.reduceAdd, Nat.reduceBEq, Nat.reduceMul, Nat.reduceSub, Nat.reduceGT, Nat.reducePow, Nat.reduceLeDiff, Int.reduceToNat]) (by simp only [go_sem, reduceIte, Nat.reduceLT, Nat.reduceEqDiff, Nat.reduceAdd, Nat.reduceBEq, Nat.reduceMul, Nat.reduceSub, Nat.reduceGT, Nat.reducePow, Nat.reduceLeDiff, Int.reduceToNat]))⟩
                    · replace hv_3679 := ite_f hv_3679 hb_3682
                      have e_hv_3679 := Option.some.inj hv_3679; subst e_hv_3679
                      exact ⟨_, [(2, .ref 0 0), (4, .ref 1 0), (5, .bs false 2 (l_3351.length) 0 (l_3351.length)), (6, i64 bad_3346), (22, .sl false (L cU8 b_2637)), (23, i64 ((b_2637.length : Int))), (24, i64 t_3347), (46, .bool f_3350)], [.box [.bs false 3 (l_3352.length) 0 (l_3352.length), .bool f_3348, .bool f_3349, .bool f_3350] false, .box [.sl true (L cU8 ([])), .bool false, .bool false, .bool false] false, .buf 1 (L (cSl cU8) l_3351) false, .buf 1 (L cU8 l_3352) false], orcs_nil, by simp only [go_sem, reduceIte, Nat.reduceLT, Nat.reduceEqDiff, Nat.reduceAdd, Nat.reduceBEq, Nat.reduceMul, Nat.reduceSub, Nat.reduceGT, Nat.reducePow, Nat.reduceLeDiff, Int.reduceToNat, hb_3680, hb_3681, hb_3682], (weak_sel [0, 1, 2, 3] (by decide) rfl (by simp only [go_sem, reduceIte, Nat.reduceLT, Nat.reduceEqDiff, Nat.reduceAdd, Nat.reduceBEq, Nat.reduceMul, Nat.reduceSub, Nat.reduceGT, Nat.reducePow, Nat.reduceLeDiff, Int.reduceToNat]) (by simp only [go_sem, reduceIte, Nat.reduceLT, Nat.reduceEqDiff, Nat.reduceAdd, Nat.reduceBEq, Nat.reduceMul, Nat.reduceSub, Nat.reduceGT, Nat.reducePow, Nat.reduceLeDiff, Int.reduceToNat]))⟩
                · replace hv_3679 := ite_f hv_3679 hb_3680
                  have e_hv_3679 := Option.some.inj hv_3679; subst e_hv_3679
                  exact ⟨_, [(2, .ref 0 0), (4, .ref 1 0), (5, .bs false 2 (l_3351.length) 0 (l_3351.length)), (6, i64 bad_3346), (22, .sl false (L cU8 b_2637)), (23, i64 ((b_2637.length : Int))), (24, i64 t_3347), (46, .bool false)], [.box [.bs false 3 (l_3352.length) 0 (l_3352.length), .bool f_3348, .bool f_3349, .bool f_3350] false, .box [.sl true (L cU8 ([])), .bool false, .bool false, .bool false] false, .buf 1 (L (cSl cU8) l_3351) false, .buf 1 (L cU8 l_3352) false], orcs_nil, by simp only [go_sem, reduceIte, Nat.reduceLT, Nat.reduceEqDiff, Nat.reduceAdd, Nat.reduceBEq, Nat.reduceMul, Nat.reduceSub, Nat.reduceGT, Nat.reducePow, Nat.reduceLeDiff, Int.reduceToNat, hb_3680], (weak_sel [0, 1, 2, 3] (by decide) rfl (by simp only [go_sem, reduceIte, Nat.reduceLT, Nat.reduceEqDiff, Nat.reduceAdd, Nat.reduceBEq, Nat.reduceMul, Nat.reduceSub, Nat.reduceGT, Nat.reducePow, Nat.reduceLeDiff, Int.reduceToNat]) (by simp only [go_sem, reduceIte, Nat.reduceLT, Nat.reduceEqDiff, Nat.reduceAdd, Nat.reduceBEq, Nat.reduceMul, Nat.reduceSub, Nat.reduceGT, Nat.reducePow, Nat.reduceLeDiff, Int.reduceToNat]))⟩
              refine run_condL (b := t_3678) rfl (by decide) (fun hb => ?_) (fun hb => ?_)
              · replace h := ite_t h hb
                replace h := bind_some1 h; obtain ⟨y_3683, hy_3684, h⟩ := h
                refine run_textE hE [2, 4, 5, 6, 10, 11, 22, 23, 24] (fr' := [(2, .ref 0 0), (4, .ref 1 0), (5, .bs false 2 (l_3351.length) 0 (l_3351.length)), (6, i64 bad_3346), (10, .sl false (L cU8 y_3683.1)), (11, .bool y_3683.2), (22, .sl false (L cU8 b_2637)), (23, i64 ((b_2637.length : Int))), (24, i64 t_3347)]) (σ' := [.box [.bs false 3 (l_3352.length) 0 (l_3352.length), .bool f_3348, .bool f_3349, .bool f_3350] false, .box [.sl true (L cU8 ([])), .bool false, .bool false, .bool false] false, .buf 1 (L (cSl cU8) l_3351) false, .buf 1 (L cU8 l_3352) true]) ⟨_, orcs_ok (l := [(49, 24, [.agg [.sl false (L cU8 l_3352), .bool f_3348, .bool f_3349, .bool f_3350]], .tup [.sl false (L cU8 y_3683.1), .bool y_3683.2])]) ⟨frame_content_con hy_3684, trivial⟩, ?_⟩ ?_
                · simp only [go_sem, reduceIte, Nat.reduceLT, Nat.reduceEqDiff, Nat.reduceAdd, Nat.reduceBEq, Nat.reduceMul, Nat.reduceSub, Nat.reduceGT, Nat.reducePow, Nat.reduceLeDiff, Int.reduceToNat]
                refine run_textE hE [2, 4, 5, 6, 10, 22, 23, 24, 52] (fr' := [(2, .ref 0 0), (4, .ref 1 0), (5, .bs false 2 (l_3351.length) 0 (l_3351.length)), (6, i64 bad_3346), (10, .sl false (L cU8 y_3683.1)), (22, .sl false (L cU8 b_2637)), (23, i64 ((b_2637.length : Int))), (24, i64 t_3347), (52, .bool y_3683.2)]) (σ' := [.box [.bs false 3 (l_3352.length) 0 (l_3352.length), .bool f_3348, .bool f_3349, .bool f_3350] false, .box [.sl true (L cU8 ([])), .bool false, .bool false, .bool false] false, .buf 1 (L (cSl cU8) l_3351) false, .buf 1 (L cU8 l_3352) true]) ⟨_, orcs_nil, ?_⟩ ?_
                · simp only [go_sem, reduceIte, Nat.reduceLT, Nat.reduceEqDiff, Nat.reduceAdd, Nat.reduceBEq, Nat.reduceMul, Nat.reduceSub, Nat.reduceGT, Nat.reducePow, Nat.reduceLeDiff, Int.reduceToNat]
                refine run_condL (b := y_3683.2) rfl (by decide) (fun hb => ?_) (fun hb => ?_)
                · replace h := ite_t h hb
                  replace h := chk_some h; obtain ⟨hc_3685, h⟩ := h
                  replace h := lt1_some h; obtain ⟨l_3686, hz_3687, h⟩ := h
                  refine run_textE0 hE wk_join [2, 4, 5, 6, 22, 23, 24] (fr' := [(2, .ref 0 0), (4, .ref 1 0), (5, .bs false 2 (l_3686.length) 0 (l_3686.length)), (6, i64 bad_3346), (22, .sl false (L cU8 b_2637)), (23, i64 ((b_2637.length : Int))), (24, i64 t_3347)]) (σ' := [.box [.bs false 3 (l_3352.length) 0 (l_3352.length), .bool f_3348, .bool f_3349, .bool f_3350] false, .box [.sl true (L cU8 ([])), .bool false, .bool false, .bool false] false, .buf 1 (L (cSl cU8) l_3686) false, .buf 1 (L cU8 l_3352) true, .buf 1 (L (cSl cU8) (([y_3683.1] : List (List UInt8)))) false]) ⟨_, orcs_nil, ?_⟩ ?_
                  · subst hz_3687; simp only [go_sem, reduceIte, Nat.reduceLT, Nat.reduceEqDiff, Nat.reduceAdd, Nat.reduceBEq, Nat.reduceMul, Nat.reduceSub, Nat.reduceGT, Nat.reducePow, Nat.reduceLeDiff, Int.reduceToNat, hc_3685]
                  obtain rfl := Option.some.inj h
                  exact joinK_n ((bad_3346, l_3686)) rfl (weak_sel [0, 1, 2, 3] (by decide) rfl (by simp only [go_sem, reduceIte, Nat.reduceLT, Nat.reduceEqDiff, Nat.reduceAdd, Nat.reduceBEq, Nat.reduceMul, Nat.reduceSub, Nat.reduceGT, Nat.reducePow, Nat.reduceLeDiff, Int.reduceToNat]) (by simp only [go_sem, reduceIte, Nat.reduceLT, Nat.reduceEqDiff, Nat.reduceAdd, Nat.reduceBEq, Nat.reduceMul, Nat.reduceSub, Nat.reduceGT, Nat.reducePow, Nat.reduceLeDiff, Int.reduceToNat]))
                · replace h := ite_f h hb
                  refine run_textE0 hE wk_join [2, 4, 5, 6, 22, 23, 24] (fr' := [(2, .ref 0 0), (4, .ref 1 0), (5, .bs false 2 (l_3351.length) 0 (l_3351.length)), (6, i64 ((w64 (bad_3346 + 1)))), (22, .sl false (L cU8 b_2637)), (23, i64 ((b_2637.length : Int))), (24, i64 t_3347)]) (σ' := [.box [.bs false 3 (l_3352.length) 0 (l_3352.length), .bool f_3348, .bool f_3349, .bool f_3350] false, .box [.sl true (L cU8 ([])), .bool false, .bool false, .bool false] false, .buf 1 (L (cSl cU8) l_3351) false, .buf 1 (L cU8 l_3352) true]) ⟨_, orcs_nil, ?_⟩ ?_
                  · simp only [go_sem, reduceIte, Nat.reduceLT, Nat.reduceEqDiff, Nat.reduceAdd, Nat.reduceBEq, Nat.reduceMul, Nat.reduceSub, Nat.reduceGT, Nat.reducePow, Nat.reduceLeDiff, Int.reduceToNat]
                  obtain rfl := Option.some.inj h
                  exact joinK_n (((w64 (bad_3346 + 1)), l_3351)) rfl (weak_sel [0, 1, 2, 3] (by decide) rfl (by simp only [go_sem, reduceIte, Nat.reduceLT, Nat.reduceEqDiff, Nat.reduceAdd, Nat.reduceBEq, Nat.reduceMul, Nat.reduceSub, Nat.reduceGT, Nat.reducePow, Nat.reduceLeDiff, Int.reduceToNat]) (by simp only [go_sem, reduceIte, Nat.reduceLT, Nat.reduceEqDiff, Nat.reduceAdd, Nat.reduceBEq, Nat.reduceMul, Nat.reduceSub, Nat.reduceGT, Nat.reducePow, Nat.reduceLeDiff, Int.reduceToNat]))
              · replace h := ite_f h hb
                refine run_skip ?_
                obtain rfl := Option.some.inj h
                exact joinK_n ((bad_3346, l_3351)) rfl ((weak_ro 3).trans (weak_sel [0, 1, 2, 3] (by decide) rfl (by simp only [go_sem, reduceIte, Nat.reduceLT, Nat.reduceEqDiff, Nat.reduceAdd, Nat.reduceBEq, Nat.reduceMul, Nat.reduceSub, Nat.reduceGT, Nat.reducePow, Nat.reduceLeDiff, Int.reduceToNat]) (by simp only [go_sem, reduceIte, Nat.reduceLT, Nat.reduceEqDiff, Nat.reduceAdd, Nat.reduceBEq, Nat.reduceMul, Nat.reduceSub, Nat.reduceGT, Nat.reducePow, Nat.reduceLeDiff, Int.reduceToNat])))
            rintro ⟨bad_3673, l_3674⟩ rfl
            have h := hj_3677; clear hj_3677
            refine run_textE hE [2, 4, 5, 6, 22, 23, 24] (fr' := [(2, .ref 0 0), (4, .ref 1 0), (5, .bs false 2 (l_3674.length) 0 (l_3674.length)), (6, i64 bad_3673), (22, .sl false (L cU8 b_2637)), (23, i64 ((b_2637.length : Int))), (24, i64 t_3347)]) (σ' := [.box [.sl true (L cU8 ([])), .bool true, .bool false, .bool false] false, .box [.sl true (L cU8 ([])), .bool false, .bool false, .bool false] false, .buf 1 (L (cSl cU8) l_3674) false, .buf 1 (L cU8 l_3352) true]) ⟨_, orcs_nil, ?_⟩ ?_
            · simp only [go_sem, reduceIte, Nat.reduceLT, Nat.reduceEqDiff, Nat.reduceAdd, Nat.reduceBEq, Nat.reduceMul, Nat.reduceSub, Nat.reduceGT, Nat.reducePow, Nat.reduceLeDiff, Int.reduceToNat]
            refine run_exit ?_
            refine blockK_o ?_ rfl
            refine joinK_x ?_
            replace h := bind_some1 h; obtain ⟨z_3688, h, e_z_3688⟩ := h
            obtain rfl := Option.some.inj e_z_3688
            obtain rfl := Option.some.inj hj_3662
            refine blockK_x ?_
            obtain rfl := Option.some.inj h
            exact joinK_n ((bad_3673, true, false, false, l_3674, [])) rfl ((weak_nil_box 0 0 1 rfl rfl).trans (weak_sel [0, 1, 2, 4] (by decide) rfl (by simp only [go_sem, reduceIte, Nat.reduceLT, Nat.reduceEqDiff, Nat.reduceAdd, Nat.reduceBEq, Nat.reduceMul, Nat.reduceSub, Nat.reduceGT, Nat.reducePow, Nat.reduceLeDiff, Int.reduceToNat]) (by simp only [go_sem, reduceIte, Nat.reduceLT, Nat.reduceEqDiff, Nat.reduceAdd, Nat.reduceBEq, Nat.reduceMul, Nat.reduceSub, Nat.reduceGT, Nat.reducePow, Nat.reduceLeDiff, Int.reduceToNat])))
          · replace h := ite_f h hb
            replace h := bind_some1 h; obtain ⟨t_3689, hv_3690, h⟩ := h
            refine run_textW hE [2, 4, 5, 6, 9, 22, 23, 24, 60] (fr' := [(2, .ref 0 0), (4, .ref 1 0), (5, .bs false 2 (l_3351.length) 0 (l_3351.length)), (6, i64 bad_3346), (9, u8 (nth b_2637 t_3347.toNat)), (22, .sl false (L cU8 b_2637)), (23, i64 ((b_2637.length : Int))), (24, i64 t_3347), (60, .bool t_3689)]) (σ' := [.box [.bs false 3 (l_3352.length) 0 (l_3352.length), .bool f_3348, .bool f_3349, .bool f_3350] false, .box [.sl true (L cU8 ([])), .bool false, .bool false, .bool false] false, .buf 1 (L (cSl cU8) l_3351) false, .buf 1 (L cU8 l_3352) false]) ?_ ?_
            · rcases Bool.eq_false_or_eq_true ((!f_3348)) with hb_3691 | hb_3691
              · replace hv_3690 := ite_t hv_3690 hb_3691
                have e_hv_3690 := Option.some.inj hv_3690; subst e_hv_3690
                exact ⟨_, [(2, .ref 0 0), (4, .ref 1 0), (5, .bs false 2 (l_3351.length) 0 (l_3351.length)), (6, i64 bad_3346), (9, u8 (nth b_2637 t_3347.toNat)), (22, .sl false (L cU8 b_2637)), (23, i64 ((b_2637.length : Int))), (24, i64 t_3347), (60, .bool true)], [.box [.bs false 3 (l_3352.length) 0 (l_3352.length), .bool f_3348, .bool f_3349, .bool f_3350] false, .box [.sl true (L cU8 ([])), .bool false, .bool false, .bool false] false, .buf 1 (L (cSl cU8) l_3351) false, .buf 1 (L cU8 l_3352) false], orcs_nil, by simp only [go_sem, reduceIte, Nat.reduceLT, Nat.reduceEqDiff, Nat.reduceAdd, Nat.reduceBEq, Nat.reduceMul, Nat.reduceSub, Nat.reduceGT, Nat.reducePow, Nat.reduceLeDiff, Int.reduceToNat, hb_3691], (weak_sel [0, 1, 2, 3] (by decide) rfl (by simp only [go_sem, reduceIte, Nat.reduceLT, Nat.reduceEqDiff, Nat.reduceAdd, Nat.reduceBEq, Nat.reduceMul, Nat.reduceSub, Nat.reduceGT, Nat.reducePow, Nat.reduceLeDiff, Int.reduceToNat]) (by simp only [go_sem, reduceIte, Nat.reduceLT, Nat.reduceEqDiff, Nat.reduceAdd, Nat.reduceBEq, Nat.reduceMul, Nat.reduceSub, Nat.reduceGT, Nat.reducePow, Nat.reduceLeDiff, Int.reduceToNat]))⟩
              · replace hv_3690 := ite_f hv_3690 hb_3691
                have e_hv_3690 := Option.some.inj hv_3690; subst e_hv_3690
                exact ⟨_, [(2, .ref 0 0), (4, .ref 1 0), (5, .bs false 2 (l_3351.length) 0 (l_3351.length)), (6, i64 bad_3346), (9, u8 (nth b_2637 t_3347.toNat)), (22, .sl false (L cU8 b_2637)), (23, i64 ((b_2637.length : Int))), (24, i64 t_3347), (60, .bool f_3350)], [.box [.bs false 3 (l_3352.length) 0 (l_3352.length), .bool f_3348, .bool f_3349, .bool f_3350] false, .box [.sl true (L cU8 ([])), .bool false, .bool false, .bool false] false, .buf 1 (L (cSl cU8) l_3351) false, .buf 1 (L cU8 l_3352) false], orcs_nil, by simp only [go_sem, reduceIte, Nat.reduceLT, Nat.reduceEqDiff, Nat.reduceAdd, Nat.reduceBEq, Nat.reduceMul, Nat.reduceSub, Nat.reduceGT, Nat.reducePow, Nat.reduceLeDiff, Int.reduceToNat, hb_3691], (weak_sel [0, 1, 2, 3] (by decide) rfl (by simp only [go_sem, reduceIte, Nat.reduceLT, Nat.reduceEqDiff, Nat.reduceAdd, Nat.reduceBEq, Nat.reduceMul, Nat.reduceSub, Nat.reduceGT, Nat.reducePow, Nat.reduceLeDiff, Int.reduceToNat]) (by simp only [go_sem, reduceIte, Nat.reduceLT, Nat.reduceEqDiff, Nat.reduceAdd, Nat.reduceBEq, Nat.reduceMul, Nat.reduceSub, Nat.reduceGT, Nat.reducePow, Nat.reduceLeDiff, Int.reduceToNat]))⟩
            refine run_condL (b := t_3689) rfl (by decide) (fun hb => ?_) (fun hb => ?_)
            · replace h := ite_t h hb
              refine run_exit ?_
              refine blockK_o ?_ rfl
              refine joinK_x ?_
              replace h := bind_some1 h; obtain ⟨z_3692, h, e_z_3692⟩ := h
              obtain rfl := Option.some.inj e_z_3692
              obtain rfl := Option.some.inj hj_3662
              refine blockK_x ?_
              obtain rfl := Option.some.inj h
              exact joinK_n ((bad_3346, f_3348, f_3349, f_3350, l_3351, l_3352)) rfl (weak_sel [0, 1, 2, 3] (by decide) rfl (by simp only [go_sem, reduceIte, Nat.reduceLT, Nat.reduceEqDiff, Nat.reduceAdd, Nat.reduceBEq, Nat.reduceMul, Nat.reduceSub, Nat.reduceGT, Nat.reducePow, Nat.reduceLeDiff, Int.reduceToNat]) (by simp only [go_sem, reduceIte, Nat.reduceLT, Nat.reduceEqDiff, Nat.reduceAdd, Nat.reduceBEq, Nat.reduceMul, Nat.reduceSub, Nat.reduceGT, Nat.reducePow, Nat.reduceLeDiff, Int.reduceToNat]))
            · replace h := ite_f h hb
              replace h := bind_some1 h; obtain ⟨t_3693, hv_3694, h⟩ := h
              refine run_textW hE [2, 4, 5, 6, 9, 22, 23, 24, 68] (fr' := [(2, .ref 0 0), (4, .ref 1 0), (5, .bs false 2 (l_3351.length) 0 (l_3351.length)), (6, i64 bad_3346), (9, u8 (nth b_2637 t_3347.toNat)), (22, .sl false (L cU8 b_2637)), (23, i64 ((b_2637.length : Int))), (24, i64 t_3347), (68, .bool t_3693)]) (σ' := [.box [.bs false 3 (l_3352.length) 0 (l_3352.length), .bool f_3348, .bool f_3349, .bool f_3350] false, .box [.sl true (L cU8 ([])), .bool false, .bool false, .bool false] false, .buf 1 (L (cSl cU8) l_3351) false, .buf 1 (L cU8 l_3352) false]) ?_ ?_
              · rcases Bool.eq_false_or_eq_true ((nth b_2637 t_3347.toNat == (125 : UInt8))) with hb_3695 | hb_3695
                · replace hv_3694 := ite_t hv_3694 hb_3695
                  have e_hv_3694 := Option.some.inj hv_3694; subst e_hv_3694
                  exact ⟨_, [(2, .ref 0 0), (4, .ref 1 0), (5, .bs false 2 (l_3351.length) 0 (l_3351.length)), (6, i64 bad_3346), (9, u8 (nth b_2637 t_3347.toNat)), (22, .sl false (L cU8 b_2637)), (23, i64 ((b_2637.length : Int))), (24, i64 t_3347), (68, .bool ((!f_3349)))], [.box [.bs false 3 (l_3352.length) 0 (l_3352.length), .bool f_3348, .bool f_3349, .bool f_3350] false, .box [.sl true (L cU8 ([])), .bool false, .bool false, .bool false] false, .buf 1 (L (cSl cU8) l_3351) false, .buf 1 (L cU8 l_3352) false], orcs_nil, by simp only [go_sem, reduceIte, Nat.reduceLT, Nat.reduceEqDiff, Nat.reduceAdd, Nat.reduceBEq, Nat.reduceMul, Nat.reduceSub, Nat.reduceGT, Nat.reducePow, Nat.reduceLeDiff, Int.reduceToNat, hb_3695], (weak_sel [0, 1, 2, 3] (by decide) rfl (by simp only [go_sem, reduceIte, Nat.reduceLT, Nat.reduceEqDiff, Nat.reduceAdd, Nat.reduceBEq, Nat.reduceMul, Nat.reduceSub, Nat.reduceGT, Nat.reducePow, Nat.reduceLeDiff, Int.reduceToNat]) (by simp only [go_sem, reduceIte, Nat.reduceLT, Nat.reduceEqDiff, Nat.reduceAdd, Nat.reduceBEq, Nat.reduceMul, Nat.reduceSub, Nat.reduceGT, Nat.reducePow, Nat.reduceLeDiff, Int.reduceToNat]))⟩
                · replace hv_3694 := ite_f hv_3694 hb_3695
                  have e_hv_3694 := Option.some.inj hv_3694; subst e_hv_3694
                  exact ⟨_, [(2, .ref 0 0), (4, .ref 1 0), (5, .bs false 2 (l_3351.length) 0 (l_3351.length)), (6, i64 bad_3346), (9, u8 (nth b_2637 t_3347.toNat)), (22, .sl false (L cU8 b_2637)), (23, i64 ((b_2637.length : Int))), (24, i64 t_3347), (68, .bool false)], [.box [.bs false 3 (l_3352.length) 0 (l_3352.length), .bool f_3348, .bool f_3349, .bool f_3350] false, .box [.sl true (L cU8 ([])), .bool false, .bool false, .bool false] false, .buf 1 (L (cSl cU8) l_3351) false, .buf 1 (L cU8 l_3352) false], orcs_nil, by simp only [go_sem, reduceIte, Nat.reduceLT, Nat.reduceEqDiff, Nat.reduceAdd, Nat.reduceBEq, Nat.reduceMul, Nat.reduceSub, Nat.reduceGT, Nat.reducePow, Nat.reduceLeDiff, Int.reduceToNat, hb_3695], (weak_sel [0, 1, 2, 3] (by decide) rfl (by simp only [go_sem, reduceIte, Nat.reduceLT, Nat.reduceEqDiff, Nat.reduceAdd, Nat.reduceBEq, Nat.reduceMul, Nat.reduceSub, Nat.reduceGT, Nat.reducePow, Nat.reduceLeDiff, Int.reduceToNat]) (by simp only [go_sem, reduceIte, Nat.reduceLT, Nat.reduceEqDiff, Nat.reduceAdd, Nat.reduceBEq, Nat.reduceMul, Nat.reduceSub, Nat.reduceGT, Nat.reducePow, Nat.reduceLeDiff, Int.reduceToNat]))⟩
              refine run_condL (b := t_3693) rfl (by decide) (fun hb => ?_) (fun hb => ?_)
              · replace h := ite_t h hb
                refine run_textE hE [2, 4, 5, 6, 22, 23, 24] (fr' := [(2, .ref 0 0), (4, .ref 1 0), (5, .bs false 2 (l_3351.length) 0 (l_3351.length)), (6, i64 bad_3346), (22, .sl false (L cU8 b_2637)), (23, i64 ((b_2637.length : Int))), (24, i64 t_3347)]) (σ' := [.box [.bs false 3 (l_3352.length) 0 (l_3352.length), .bool f_3348, .bool true, .bool f_3350] false, .box [.sl true (L cU8 ([])), .bool false, .bool false, .bool false] false, .buf 1 (L (cSl cU8) l_3351) false, .buf 1 (L cU8 l_3352) false]) ⟨_, orcs_nil, ?_⟩ ?_
                · simp only [go_sem, reduceIte, Nat.reduceLT, Nat.reduceEqDiff, Nat.reduceAdd, Nat.reduceBEq, Nat.reduceMul, Nat.reduceSub, Nat.reduceGT, Nat.reducePow, Nat.reduceLeDiff, Int.reduceToNat]
                refine run_exit ?_
                refine blockK_o ?_ rfl
                refine joinK_x ?_
                replace h := bind_some1 h; obtain ⟨z_3696, h, e_z_3696⟩ := h
                obtain rfl := Option.some.inj e_z_3696
                obtain rfl := Option.some.inj hj_3662
                refine blockK_x ?_
                obtain rfl := Option.some.inj h
                exact joinK_n ((bad_3346, f_3348, true, f_3350, l_3351, l_3352)) rfl (weak_sel [0, 1, 2, 3] (by decide) rfl (by simp only [go_sem, reduceIte, Nat.reduceLT, Nat.reduceEqDiff, Nat.reduceAdd, Nat.reduceBEq, Nat.reduceMul, Nat.reduceSub, Nat.reduceGT, Nat.reducePow, Nat.reduceLeDiff, Int.reduceToNat]) (by simp only [go_sem, reduceIte, Nat.reduceLT, Nat.reduceEqDiff, Nat.reduceAdd, Nat.reduceBEq, Nat.reduceMul, Nat.reduceSub, Nat.reduceGT, Nat.reducePow, Nat.reduceLeDiff, Int.reduceToNat]))
              · replace h := ite_f h hb
                refine run_textE hE [2, 4, 5, 6, 9, 22, 23, 24, 77] (fr' := [(2, .ref 0 0), (4, .ref 1 0), (5, .bs false 2 (l_3351.length) 0 (l_3351.length)), (6, i64 bad_3346), (9, u8 (nth b_2637 t_3347.toNat)), (22, .sl false (L cU8 b_2637)), (23, i64 ((b_2637.length : Int))), (24, i64 t_3347), (77, .bool f_3349)]) (σ' := [.box [.bs false 3 (l_3352.length) 0 (l_3352.length), .bool f_3348, .bool f_3349, .bool f_3350] false, .box [.sl true (L cU8 ([])), .bool false, .bool false, .bool false] false, .buf 1 (L (cSl cU8) l_3351) false, .buf 1 (L cU8 l_3352) false]) ⟨_, orcs_nil, ?_⟩ ?_
                · simp only [go_sem, reduceIte, Nat.reduceLT, Nat.reduceEqDiff, Nat.reduceAdd, Nat.reduceBEq, Nat.reduceMul, Nat.reduceSub, Nat.reduceGT, Nat.reducePow, Nat.reduceLeDiff, Int.reduceToNat]
                refine run_condL (b := f_3349) rfl (by decide) (fun hb => ?_) (fun hb => ?_)
                · replace h := ite_t h hb
                  replace h := lt1_some h; obtain ⟨c_3697, hz_3698, h⟩ := h
                  refine run_textE0 hE (wk_block wk_join) [2, 4, 5, 6, 9, 22, 23, 24] (fr' := [(2, .ref 0 0), (4, .ref 1 0), (5, .bs false 2 (l_3351.length) 0 (l_3351.length)), (6, i64 bad_3346), (9, u8 c_3697), (22, .sl false (L cU8 b_2637)), (23, i64 ((b_2637.length : Int))), (24, i64 t_3347)]) (σ' := [.box [.bs false 3 (l_3352.length) 0 (l_3352.length), .bool f_3348, .bool f_3349, .bool f_3350] false, .box [.sl true (L cU8 ([])), .bool false, .bool false, .bool false] false, .buf 1 (L (cSl cU8) l_3351) false, .buf 1 (L cU8 l_3352) false]) ⟨_, orcs_nil, ?_⟩ ?_
                  · subst hz_3698; simp only [go_sem, reduceIte, Nat.reduceLT, Nat.reduceEqDiff, Nat.reduceAdd, Nat.reduceBEq, Nat.reduceMul, Nat.reduceSub, Nat.reduceGT, Nat.reducePow, Nat.reduceLeDiff, Int.reduceToNat]
                  refine blockK_n ?_
                  obtain rfl := Option.some.inj h
                  exact joinK_n c_3697 rfl (weak_sel [0, 1, 2, 3] (by decide) rfl (by simp only [go_sem, reduceIte, Nat.reduceLT, Nat.reduceEqDiff, Nat.reduceAdd, Nat.reduceBEq, Nat.reduceMul, Nat.reduceSub, Nat.reduceGT, Nat.reducePow, Nat.reduceLeDiff, Int.reduceToNat]) (by simp only [go_sem, reduceIte, Nat.reduceLT, Nat.reduceEqDiff, Nat.reduceAdd, Nat.reduceBEq, Nat.reduceMul, Nat.reduceSub, Nat.reduceGT, Nat.reducePow, Nat.reduceLeDiff, Int.reduceToNat]))
                · replace h := ite_f h hb
                  refine run_skip ?_
                  refine blockK_n ?_
                  obtain rfl := Option.some.inj h
                  exact joinK_n (nth b_2637 t_3347.toNat) rfl (weak_sel [0, 1, 2, 3] (by decide) rfl (by simp only [go_sem, reduceIte, Nat.reduceLT, Nat.reduceEqDiff, Nat.reduceAdd, Nat.reduceBEq, Nat.reduceMul, Nat.reduceSub, Nat.reduceGT, Nat.reducePow, Nat.reduceLeDiff, Int.reduceToNat]) (by simp only [go_sem, reduceIte, Nat.reduceLT, Nat.reduceEqDiff, Nat.reduceAdd, Nat.reduceBEq, Nat.reduceMul, Nat.reduceSub, Nat.reduceGT, Nat.reducePow, Nat.reduceLeDiff, Int.reduceToNat]))
        rintro c_3659 rfl
        have h := hj_3662; clear hj_3662
        refine run_textE hE [2, 4, 5, 6, 9, 22, 23, 24] (fr' := [(2, .ref 0 0), (4, .ref 1 0), (5, .bs false 2 (l_3351.length) 0 (l_3351.length)), (6, i64 bad_3346), (9, u8 c_3659), (22, .sl false (L cU8 b_2637)), (23, i64 ((b_2637.length : Int))), (24, i64 t_3347)]) (σ' := [.box [.bs false 3 (l_3352.length) 0 (l_3352.length), .bool f_3348, .bool false, .bool f_3350] false, .box [.sl true (L cU8 ([])), .bool false, .bool false, .bool false] false, .buf 1 (L (cSl cU8) l_3351) false, .buf 1 (L cU8 l_3352) false]) ⟨_, orcs_nil, ?_⟩ ?_
        · simp only [go_sem, reduceIte, Nat.reduceLT, Nat.reduceEqDiff, Nat.reduceAdd, Nat.reduceBEq, Nat.reduceMul, Nat.reduceSub, Nat.reduceGT, Nat.reducePow, Nat.reduceLeDiff, Int.reduceToNat]
        refine run_seq ?_
        refine run_textE hE [2, 4, 5, 6, 9, 22, 23, 24, 86] (fr' := [(2, .ref 0 0), (4, .ref 1 0), (5, .bs false 2 (l_3351.length) 0 (l_3351.length)), (6, i64 bad_3346), (9, u8 c_3659), (22, .sl false (L cU8 b_2637)), (23, i64 ((b_2637.length : Int))), (24, i64 t_3347), (86, .bool ((decide ((l_3352.length : Int) ≥ 8196))))]) (σ' := [.box [.bs false 3 (l_3352.length) 0 (l_3352.length), .bool f_3348, .bool false, .bool f_3350] false, .box [.sl true (L cU8 ([])), .bool false, .bool false, .bool false] false, .buf 1 (L (cSl cU8) l_3351) false, .buf 1 (L cU8 l_3352) false]) ⟨_, orcs_nil, ?_⟩ ?_
        · simp only [go_sem, reduceIte, Nat.reduceLT, Nat.reduceEqDiff, Nat.reduceAdd, Nat.reduceBEq, Nat.reduceMul, Nat.reduceSub, Nat.reduceGT, Nat.reducePow, Nat.reduceLeDiff, Int.reduceToNat]
        refine run_condL (b := (decide ((l_3352.length : Int) ≥ 8196))) rfl (by decide) (fun hb => ?_) (fun hb => ?_)
        · replace h := ite_t h hb
          refine run_textE hE [2, 4, 5, 6, 22, 23, 24] (fr' := [(2, .ref 0 0), (4, .ref 1 0), (5, .bs false 2 (l_3351.length) 0 (l_3351.length)), (6, i64 bad_3346), (22, .sl false (L cU8 b_2637)), (23, i64 ((b_2637.length : Int))), (24, i64 t_3347)]) (σ' := [.box [.sl true (L cU8 ([])), .bool f_3348, .bool false, .bool true] false, .box [.sl true (L cU8 ([])), .bool false, .bool false, .bool false] false, .buf 1 (L (cSl cU8) l_3351) false, .buf 1 (L cU8 l_3352) false]) ⟨_, orcs_nil, ?_⟩ ?_
          · simp only [go_sem, reduceIte, Nat.reduceLT, Nat.reduceEqDiff, Nat.reduceAdd, Nat.reduceBEq, Nat.reduceMul, Nat.reduceSub, Nat.reduceGT, Nat.reducePow, Nat.reduceLeDiff, Int.reduceToNat]
          refine run_exit ?_
          refine thenK_x ?_
          refine blockK_x ?_
          obtain rfl := Option.some.inj h
          exact joinK_n ((bad_3346, f_3348, false, true, l_3351, [])) rfl ((weak_nil_box 0 0 1 rfl rfl).trans (weak_sel [0, 1, 2, 4] (by decide) rfl (by simp only [go_sem, reduceIte, Nat.reduceLT, Nat.reduceEqDiff, Nat.reduceAdd, Nat.reduceBEq, Nat.reduceMul, Nat.reduceSub, Nat.reduceGT, Nat.reducePow, Nat.reduceLeDiff, Int.reduceToNat]) (by simp only [go_sem, reduceIte, Nat.reduceLT, Nat.reduceEqDiff, Nat.reduceAdd, Nat.reduceBEq, Nat.reduceMul, Nat.reduceSub, Nat.reduceGT, Nat.reducePow, Nat.reduceLeDiff, Int.reduceToNat])))
        · replace h := ite_f h hb
          refine run_skip ?_
          refine thenK_n ?_
          replace h := chk_some h; obtain ⟨hc_3699, h⟩ := h
          replace h := lt1_some h; obtain ⟨l_3700, hz_3701, h⟩ := h
          refine run_textE0 hE (wk_block wk_join) [2, 4, 5, 6, 22, 23, 24] (fr' := [(2, .ref 0 0), (4, .ref 1 0), (5, .bs false 2 (l_3351.length) 0 (l_3351.length)), (6, i64 bad_3346), (22, .sl false (L cU8 b_2637)), (23, i64 ((b_2637.length : Int))), (24, i64 t_3347)]) (σ' := [.box [.bs false 3 (l_3700.length) 0 (l_3700.length), .bool f_3348, .bool false, .bool f_3350] false, .box [.sl true (L cU8 ([])), .bool false, .bool false, .bool false] false, .buf 1 (L (cSl cU8) l_3351) false, .buf 1 (L cU8 l_3700) false, .buf 1 (L cU8 (([c_3659] : List UInt8))) false]) ⟨_, orcs_nil, ?_⟩ ?_
          · subst hz_3701; simp only [go_sem, reduceIte, Nat.reduceLT, Nat.reduceEqDiff, Nat.reduceAdd, Nat.reduceBEq, Nat.reduceMul, Nat.reduceSub, Nat.reduceGT, Nat.reducePow, Nat.reduceLeDiff, Int.reduceToNat, hc_3699]
          refine blockK_n ?_
          obtain rfl := Option.some.inj h
          exact joinK_n ((bad_3346, f_3348, false, f_3350, l_3351, l_3700)) rfl (weak_sel [0, 1, 2, 3] (by decide) rfl (by simp only [go_sem, reduceIte, Nat.reduceLT, Nat.reduceEqDiff, Nat.reduceAdd, Nat.reduceBEq, Nat.reduceMul, Nat.reduceSub, Nat.reduceGT, Nat.reducePow, Nat.reduceLeDiff, Int.reduceToNat]) (by simp only [go_sem, reduceIte, Nat.reduceLT, Nat.reduceEqDiff, Nat.reduceAdd, Nat.reduceBEq, Nat.reduceMul, Nat.reduceSub, Nat.reduceGT, Nat.reducePow, Nat.reduceLeDiff, Int.reduceToNat]))
      rintro ⟨bad_3613, f_3614, f_3615, f_3616, l_3617, l_3618⟩ rfl
      have h := hj_3621; clear hj_3621
      refine run_textE0 hE wk_lp [2, 4, 5, 6, 22, 23, 24] (fr' := [(2, .ref 0 0), (4, .ref 1 0), (5, .bs false 2 (l_3617.length) 0 (l_3617.length)), (6, i64 bad_3613), (22, .sl false (L cU8 b_2637)), (23, i64 ((b_2637.length : Int))), (24, i64 ((w64 (t_3347 + 1))))]) (σ' := [.box [.bs false 3 (l_3618.length) 0 (l_3618.length), .bool f_3614, .bool f_3615, .bool f_3616] false, .box [.sl true (L cU8 ([])), .bool false, .bool false, .bool false] false, .buf 1 (L (cSl cU8) l_3617) false, .buf 1 (L cU8 l_3618) false]) ⟨_, orcs_nil, ?_⟩ ?_
      · simp only [go_sem, reduceIte, Nat.reduceLT, Nat.reduceEqDiff, Nat.reduceAdd, Nat.reduceBEq, Nat.reduceMul, Nat.reduceSub, Nat.reduceGT, Nat.reducePow, Nat.reduceLeDiff, Int.reduceToNat]
      obtain rfl := Option.some.inj h
      exact lpK_n ((bad_3613, (w64 (t_3347 + 1)), f_3614, f_3615, f_3616, l_3617, l_3618)) rfl (weak_sel [0, 1, 2, 3] (by decide) rfl (by simp only [go_sem, reduceIte, Nat.reduceLT, Nat.reduceEqDiff, Nat.reduceAdd, Nat.reduceBEq, Nat.reduceMul, Nat.reduceSub, Nat.reduceGT, Nat.reducePow, Nat.reduceLeDiff, Int.reduceToNat]) (by simp only [go_sem, reduceIte, Nat.reduceLT, Nat.reduceEqDiff, Nat.reduceAdd, Nat.reduceBEq, Nat.reduceMul, Nat.reduceSub, Nat.reduceGT, Nat.reducePow, Nat.reduceLeDiff, Int.reduceToNat]))
    · replace h := ite_f h hb
      refine run_exit ?_
      refine thenK_x ?_
      obtain rfl := Option.some.inj h
      have ex_x_3528 := hxx_3532 _ rfl
      subst ex_x_3528
      have h := hj_3530; clear hj_3530
      refine lpK_x ?_
      refine blockK_x ?_
      obtain rfl := Option.some.inj h
      exact joinK_n ((bad_3346, f_3348, f_3349, f_3350, l_3351, l_3352)) rfl ((weak_sel (l' := [(2, .ref 0 0), (4, .ref 1 0), (5, .bs false 2 (l_3351.length) 0 (l_3351.length)), (6, i64 bad_3346)]) (σ' := [.box [.bs false 3 (l_3352.length) 0 (l_3352.length), .bool f_3348, .bool f_3349, .bool f_3350] false, .box [.sl true (L cU8 ([])), .bool false, .bool false, .bool false] false, .buf 1 (L (cSl cU8) l_3351) false, .buf 1 (L cU8 l_3352) false]) [0, 1, 2, 3] (by decide) rfl (by simp only [go_sem, reduceIte, Nat.reduceLT, Nat.reduceEqDiff, Nat.reduceAdd, Nat.reduceBEq, Nat.reduceMul, Nat.reduceSub, Nat.reduceGT, Nat.reducePow, Nat.reduceLeDiff, Int.reduceToNat]) (by simp only [go_sem, reduceIte, Nat.reduceLT, Nat.reduceEqDiff, Nat.reduceAdd, Nat.reduceBEq, Nat.reduceMul, Nat.reduceSub, Nat.reduceGT, Nat.reducePow, Nat.reduceLeDiff, Int.reduceToNat])).trans (weak_sel [0, 1, 2, 3] (by decide) rfl (by simp only [go_sem, reduceIte, Nat.reduceLT, Nat.reduceEqDiff, Nat.reduceAdd, Nat.reduceBEq, Nat.reduceMul, Nat.reduceSub, Nat.reduceGT, Nat.reducePow, Nat.reduceLeDiff, Int.reduceToNat]) (by simp only [go_sem, reduceIte, Nat.reduceLT, Nat.reduceEqDiff, Nat.reduceAdd, Nat.reduceBEq, Nat.reduceMul, Nat.reduceSub, Nat.reduceGT, Nat.reducePow, Nat.reduceLeDiff, Int.reduceToNat])))
  rintro ⟨bad_3168, f_3169, f_3170, f_3171, l_3172, l_3173⟩ rfl
  have h := hj_3176; clear hj_3176
  refine run_textE hE [4, 5, 6] (fr' := [(4, .ref 1 0), (5, .bs false 2 (l_3172.length) 0 (l_3172.length)), (6, i64 bad_3168)]) (σ' := [.box [.bs false 3 (l_3173.length) 0 (l_3173.length), .bool f_3169, .bool f_3170, .bool f_3171] false, .box [.bs false 3 (l_3173.length) 0 (l_3173.length), .bool f_3169, .bool f_3170, .bool f_3171] false, .buf 1 (L (cSl cU8) l_3172) false, .buf 1 (L cU8 l_3173) false]) ⟨_, orcs_nil, ?_⟩ ?_
  · simp only [go_sem, reduceIte, Nat.reduceLT, Nat.reduceEqDiff, Nat.reduceAdd, Nat.reduceBEq, Nat.reduceMul, Nat.reduceSub, Nat.reduceGT, Nat.reducePow, Nat.reduceLeDiff, Int.reduceToNat]
  refine run_ret ?_
  refine scopeK_r ?_
  obtain rfl := Option.some.inj h
  refine ret_ok (.inr rfl) ?_
  simp only [go_sem, reduceIte, Nat.reduceLT, Nat.reduceEqDiff, Nat.reduceAdd, Nat.reduceBEq, Nat.reduceMul, Nat.reduceSub, Nat.reduceGT, Nat.reducePow, Nat.reduceLeDiff, Int.reduceToNat]

end Go.Proofs.Ytneejmndnihaoaa
