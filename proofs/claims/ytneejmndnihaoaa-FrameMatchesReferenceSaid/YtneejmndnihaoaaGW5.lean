/-
  The functions compute just that.
-/
import Derived.Test.YtneejmndnihaoaaGW4
import Derived.KernelRfl
namespace Go.Proofs.Ytneejmndnihaoaa
open Go.Rv
set_option linter.unusedVariables false
set_option linter.unusedSimpArgs false

theorem frame_Feed_con {d_2640 : Api_Deframer} {b_2641 : List UInt8} {r : Api_Deframer × List (List UInt8) × Int} (h : frame_Feed d_2640 b_2641 = some r) : Con B 15 [.agg [.sl false (L cU8 d_2640.Rest), .bool d_2640.In, .bool d_2640.Escape, .bool d_2640.Bad], .sl false (L cU8 b_2641)] [] (fun r' σ' => r' = .tup [.agg [.sl false (L cU8 r.1.Rest), .bool r.1.In, .bool r.1.Escape, .bool r.1.Bad], .sl false (L (cSl cU8) r.2.1), i64 r.2.2] ∧ σ' = []) := by
  refine con_walk (N := 99) (rs := [.cell 4 31, .tmp 5, .tmp 6]) ok Try.func15 rfl (by decide +kernel) rfl rfl (Nat.le_of_ble_eq_true rfl) (fun F => ?_)
  have hE := ok.env F
  unfold frame_Feed at h
  show Run (B.env F) 0 _ ⟨asFr 99 [(0, .agg [.sl false (L cU8 d_2640.Rest), .bool d_2640.In, .bool d_2640.Escape, .bool d_2640.Bad]), (1, .sl false (L cU8 b_2641))], []⟩ _
  refine run_textE hE [1, 2, 4, 5, 6] (fr' := [(1, .sl false (L cU8 b_2641)), (2, .ref 0 0), (4, .ref 1 0), (5, .sl true (L (cSl cU8) ([]))), (6, i64 0)]) (σ' := [.box [.sl false (L cU8 d_2640.Rest), .bool d_2640.In, .bool d_2640.Escape, .bool d_2640.Bad] false, .box [.sl true (L cU8 ([])), .bool false, .bool false, .bool false] false]) ⟨_, orcs_nil, ?_⟩ ?_
  · simp only [go_sem, reduceIte, Nat.reduceLT, Nat.reduceEqDiff, Nat.reduceAdd, Nat.reduceBEq, Nat.reduceMul, Nat.reduceSub, Nat.reduceGT, Nat.reducePow, Nat.reduceLeDiff, Int.reduceToNat]
  refine run_scope ?_
  replace h := chk_some h; obtain ⟨hc_2642, h⟩ := h
  replace h := lt1_some h; obtain ⟨l_2643, hz_2644, h⟩ := h
  refine run_textE hE [1, 2, 4, 5, 6, 7] (fr' := [(1, .sl false (L cU8 b_2641)), (2, .ref 0 0), (4, .ref 1 0), (5, .sl true (L (cSl cU8) ([]))), (6, i64 0), (7, .bs true 2 (l_2643.length) 0 (l_2643.length))]) (σ' := [.box [.sl false (L cU8 d_2640.Rest), .bool d_2640.In, .bool d_2640.Escape, .bool d_2640.Bad] false, .box [.sl true (L cU8 ([])), .bool false, .bool false, .bool false] false, .buf 1 (L cU8 l_2643) false]) ⟨_, orcs_nil, ?_⟩ ?_
  · subst hz_2644; simp only [go_sem, reduceIte, Nat.reduceLT, Nat.reduceEqDiff, Nat.reduceAdd, Nat.reduceBEq, Nat.reduceMul, Nat.reduceSub, Nat.reduceGT, Nat.reducePow, Nat.reduceLeDiff, Int.reduceToNat, hc_2642]
  replace h := lt1_some h; obtain ⟨l_2645, hz_2646, h⟩ := h
  refine run_textE hE [1, 2, 4, 5, 6, 7] (fr' := [(1, .sl false (L cU8 b_2641)), (2, .ref 0 0), (4, .ref 1 0), (5, .sl true (L (cSl cU8) ([]))), (6, i64 0), (7, .bs true 2 (l_2645.length) 0 (l_2645.length))]) (σ' := [.box [.sl false (L cU8 d_2640.Rest), .bool d_2640.In, .bool d_2640.Escape, .bool d_2640.Bad] false, .box [.sl true (L cU8 ([])), .bool false, .bool false, .bool false] false, .buf 1 (L cU8 l_2645) false]) ⟨_, orcs_nil, ?_⟩ ?_
  · subst hz_2646; simp only [go_sem, reduceIte, Nat.reduceLT, Nat.reduceEqDiff, Nat.reduceAdd, Nat.reduceBEq, Nat.reduceMul, Nat.reduceSub, Nat.reduceGT, Nat.reducePow, Nat.reduceLeDiff, Int.reduceToNat]
  refine run_textE hE [1, 2, 4, 5, 6] (fr' := [(1, .sl false (L cU8 b_2641)), (2, .ref 0 0), (4, .ref 1 0), (5, .sl true (L (cSl cU8) ([]))), (6, i64 0)]) (σ' := [.box [.bs true 2 (l_2645.length) 0 (l_2645.length), .bool d_2640.In, .bool d_2640.Escape, .bool d_2640.Bad] false, .box [.sl true (L cU8 ([])), .bool false, .bool false, .bool false] false, .buf 1 (L cU8 l_2645) false]) ⟨_, orcs_nil, ?_⟩ ?_
  · simp only [go_sem, reduceIte, Nat.reduceLT, Nat.reduceEqDiff, Nat.reduceAdd, Nat.reduceBEq, Nat.reduceMul, Nat.reduceSub, Nat.reduceGT, Nat.reducePow, Nat.reduceLeDiff, Int.reduceToNat]
  refine run_seq ?_
  refine run_label ?_
  refine thenK_n ?_
  replace h := bind_some1 h; obtain ⟨j_3178, hA_3179, hj_3180⟩ := h
  refine run_join (fun (v : Int × Bool × Bool × Bool × List (List UInt8) × List UInt8) => (⟨asFr 99 [(2, .ref 0 0), (4, .ref 1 0), (5, .bs false 2 (v.2.2.2.2.1.length) 0 (v.2.2.2.2.1.length)), (6, i64 v.1)], [.box [.bs false 3 (v.2.2.2.2.2.length) 0 (v.2.2.2.2.2.length), .bool v.2.1, .bool v.2.2.1, .bool v.2.2.2.1] false, .box [.sl true (L cU8 ([])), .bool false, .bool false, .bool false] false, .buf 1 (L (cSl cU8) v.2.2.2.2.1) false, .buf 1 (L cU8 v.2.2.2.2.2) false]⟩ : St)) (fun v => v = j_3178) ?_ ?_
  · have h := hA_3179; clear hA_3179
    refine run_textE hE [2, 4, 5, 6, 22, 23, 24] (fr' := [(2, .ref 0 0), (4, .ref 1 0), (5, .sl true (L (cSl cU8) ([]))), (6, i64 0), (22, .sl false (L cU8 b_2641)), (23, i64 ((b_2641.length : Int))), (24, i64 0)]) (σ' := [.box [.bs true 2 (l_2645.length) 0 (l_2645.length), .bool d_2640.In, .bool d_2640.Escape, .bool d_2640.Bad] false, .box [.sl true (L cU8 ([])), .bool false, .bool false, .bool false] false, .buf 1 (L cU8 l_2645) false]) ⟨_, orcs_nil, ?_⟩ ?_
    · simp only [go_sem, reduceIte, Nat.reduceLT, Nat.reduceEqDiff, Nat.reduceAdd, Nat.reduceBEq, Nat.reduceMul, Nat.reduceSub, Nat.reduceGT, Nat.reducePow, Nat.reduceLeDiff, Int.reduceToNat]
    refine run_block ?_
    replace h := bind_some1 h; obtain ⟨x_3532, hx_3533, hj_3534⟩ := h
    refine run_loopO hx_3533 (fun (v : Int × Int × Bool × Bool × Bool × List (List UInt8) × List UInt8) => (⟨asFr 99 [(2, .ref 0 0), (4, .ref 1 0), (5, .bs false 2 (v.2.2.2.2.2.1.length) 0 (v.2.2.2.2.2.1.length)), (6, i64 v.1), (22, .sl false (L cU8 b_2641)), (23, i64 ((b_2641.length : Int))), (24, i64 v.2.1)], [.box [.bs false 3 (v.2.2.2.2.2.2.length) 0 (v.2.2.2.2.2.2.length), .bool v.2.2.1, .bool v.2.2.2.1, .bool v.2.2.2.2.1] false, .box [.sl true (L cU8 ([])), .bool false, .bool false, .bool false] false, .buf 1 (L (cSl cU8) v.2.2.2.2.2.1) false, .buf 1 (L cU8 v.2.2.2.2.2.2) false]⟩ : St)) ((weak_nil 5 1 rfl).trans (weak_sel [0, 1, 3, 2] (by decide) rfl (by simp only [go_sem, reduceIte, Nat.reduceLT, Nat.reduceEqDiff, Nat.reduceAdd, Nat.reduceBEq, Nat.reduceMul, Nat.reduceSub, Nat.reduceGT, Nat.reducePow, Nat.reduceLeDiff, Int.reduceToNat]) (by simp only [go_sem, reduceIte, Nat.reduceLT, Nat.reduceEqDiff, Nat.reduceAdd, Nat.reduceBEq, Nat.reduceMul, Nat.reduceSub, Nat.reduceGT, Nat.reducePow, Nat.reduceLeDiff, Int.reduceToNat]))) ?_
    rintro ⟨bad_3350, t_3351, f_3352, f_3353, f_3354, l_3355, l_3356⟩ o_3535 h hxx_3536
    replace h : frame_Feed_b1 b_2641 bad_3350 t_3351 f_3352 f_3353 f_3354 l_3355 l_3356 = some o_3535 := h
    unfold frame_Feed_b1 at h
    refine run_textE hE [2, 4, 5, 6, 22, 23, 24, 25] (fr' := [(2, .ref 0 0), (4, .ref 1 0), (5, .bs false 2 (l_3355.length) 0 (l_3355.length)), (6, i64 bad_3350), (22, .sl false (L cU8 b_2641)), (23, i64 ((b_2641.length : Int))), (24, i64 t_3351), (25, .bool ((decide (t_3351 < (b_2641.length : Int)))))]) (σ' := [.box [.bs false 3 (l_3356.length) 0 (l_3356.length), .bool f_3352, .bool f_3353, .bool f_3354] false, .box [.sl true (L cU8 ([])), .bool false, .bool false, .bool false] false, .buf 1 (L (cSl cU8) l_3355) false, .buf 1 (L cU8 l_3356) false]) ⟨_, orcs_nil, ?_⟩ ?_
    · simp only [go_sem, reduceIte, Nat.reduceLT, Nat.reduceEqDiff, Nat.reduceAdd, Nat.reduceBEq, Nat.reduceMul, Nat.reduceSub, Nat.reduceGT, Nat.reducePow, Nat.reduceLeDiff, Int.reduceToNat]
    refine run_seq ?_
    refine run_condL (b := (decide (t_3351 < (b_2641.length : Int)))) rfl (by decide) (fun hb => ?_) (fun hb => ?_)
    · replace h := ite_t h hb
      refine run_skip ?_
      refine thenK_n ?_
      replace h := bind_some1 h; obtain ⟨j_3623, hA_3624, hj_3625⟩ := h
      refine run_join (fun (v : Int × Bool × Bool × Bool × List (List UInt8) × List UInt8) => (⟨asFr 99 [(2, .ref 0 0), (4, .ref 1 0), (5, .bs false 2 (v.2.2.2.2.1.length) 0 (v.2.2.2.2.1.length)), (6, i64 v.1), (22, .sl false (L cU8 b_2641)), (23, i64 ((b_2641.length : Int))), (24, i64 t_3351)], [.box [.bs false 3 (v.2.2.2.2.2.length) 0 (v.2.2.2.2.2.length), .bool v.2.1, .bool v.2.2.1, .bool v.2.2.2.1] false, .box [.sl true (L cU8 ([])), .bool false, .bool false, .bool false] false, .buf 1 (L (cSl cU8) v.2.2.2.2.1) false, .buf 1 (L cU8 v.2.2.2.2.2) false]⟩ : St)) (fun v => v = j_3623) ?_ ?_
      · have h := hA_3624; clear hA_3624
        refine run_block ?_
        replace h := chk_some h; obtain ⟨hc_3626, h⟩ := h
        refine run_textE hE [2, 4, 5, 6, 9, 22, 23, 24] (fr' := [(2, .ref 0 0), (4, .ref 1 0), (5, .bs false 2 (l_3355.length) 0 (l_3355.length)), (6, i64 bad_3350), (9, u8 (nth b_2641 t_3351.toNat)), (22, .sl false (L cU8 b_2641)), (23, i64 ((b_2641.length : Int))), (24, i64 t_3351)]) (σ' := [.box [.bs false 3 (l_3356.length) 0 (l_3356.length), .bool f_3352, .bool f_3353, .bool f_3354] false, .box [.sl true (L cU8 ([])), .bool false, .bool false, .bool false] false, .buf 1 (L (cSl cU8) l_3355) false, .buf 1 (L cU8 l_3356) false]) ⟨_, orcs_nil, ?_⟩ ?_
        · simp only [go_sem, reduceIte, Nat.reduceLT, Nat.reduceEqDiff, Nat.reduceAdd, Nat.reduceBEq, Nat.reduceMul, Nat.reduceSub, Nat.reduceGT, Nat.reducePow, Nat.reduceLeDiff, Int.reduceToNat, hc_3626, hc_3626.2, lt_le hc_3626.2]
        replace h := bind_some1 h; obtain ⟨j_3664, hA_3665, hj_3666⟩ := h
        refine run_join (fun (v : UInt8) => (⟨asFr 99 [(2, .ref 0 0), (4, .ref 1 0), (5, .bs false 2 (l_3355.length) 0 (l_3355.length)), (6, i64 bad_3350), (9, u8 v), (22, .sl false (L cU8 b_2641)), (23, i64 ((b_2641.length : Int))), (24, i64 t_3351)], [.box [.bs false 3 (l_3356.length) 0 (l_3356.length), .bool f_3352, .bool f_3353, .bool f_3354] false, .box [.sl true (L cU8 ([])), .bool false, .bool false, .bool false] false, .buf 1 (L (cSl cU8) l_3355) false, .buf 1 (L cU8 l_3356) false]⟩ : St)) (fun v => .inl v = j_3664) ?_ ?_
        · have h := hA_3665; clear hA_3665
          refine run_block ?_
          refine run_textE hE [2, 4, 5, 6, 9, 22, 23, 24, 28] (fr' := [(2, .ref 0 0), (4, .ref 1 0), (5, .bs false 2 (l_3355.length) 0 (l_3355.length)), (6, i64 bad_3350), (9, u8 (nth b_2641 t_3351.toNat)), (22, .sl false (L cU8 b_2641)), (23, i64 ((b_2641.length : Int))), (24, i64 t_3351), (28, .bool ((nth b_2641 t_3351.toNat == (126 : UInt8))))]) (σ' := [.box [.bs false 3 (l_3356.length) 0 (l_3356.length), .bool f_3352, .bool f_3353, .bool f_3354] false, .box [.sl true (L cU8 ([])), .bool false, .bool false, .bool false] false, .buf 1 (L (cSl cU8) l_3355) false, .buf 1 (L cU8 l_3356) false]) ⟨_, orcs_nil, ?_⟩ ?_
          · simp only [go_sem, reduceIte, Nat.reduceLT, Nat.reduceEqDiff, Nat.reduceAdd, Nat.reduceBEq, Nat.reduceMul, Nat.reduceSub, Nat.reduceGT, Nat.reducePow, Nat.reduceLeDiff, Int.reduceToNat]
          refine run_condL (b := (nth b_2641 t_3351.toNat == (126 : UInt8))) rfl (by decide) (fun hb => ?_) (fun hb => ?_)
          · replace h := ite_t h hb
            replace h := bind_some1 h; obtain ⟨j_3679, hA_3680, hj_3681⟩ := h
            refine run_join (fun (v : Int × List (List UInt8)) => (⟨asFr 99 [(2, .ref 0 0), (4, .ref 1 0), (5, .bs false 2 (v.2.length) 0 (v.2.length)), (6, i64 v.1), (22, .sl false (L cU8 b_2641)), (23, i64 ((b_2641.length : Int))), (24, i64 t_3351)], [.box [.bs false 3 (l_3356.length) 0 (l_3356.length), .bool f_3352, .bool f_3353, .bool f_3354] false, .box [.sl true (L cU8 ([])), .bool false, .bool false, .bool false] false, .buf 1 (L (cSl cU8) v.2) false, .buf 1 (L cU8 l_3356) true]⟩ : St)) (fun v => v = j_3679) ?_ ?_
            · have h := hA_3680; clear hA_3680
              replace h := bind_some1 h; obtain ⟨t_3682, hv_3683, h⟩ := h
              refine run_textW hE [2, 4, 5, 6, 22, 23, 24, 46] (fr' := [(2, .ref 0 0), (4, .ref 1 0), (5, .bs false 2 (l_3355.length) 0 (l_3355.length)), (6, i64 bad_3350), (22, .sl false (L cU8 b_2641)), (23, i64 ((b_2641.length : Int))), (24, i64 t_3351), (46, .bool t_3682)]) (σ' := [.box [.bs false 3 (l_3356.length) 0 (l_3356.length), .bool f_3352, .bool f_3353, .bool f_3354] false, .box [.sl true (L cU8 ([])), .bool false, .bool false, .bool false] false, .buf 1 (L (cSl cU8) l_3355) false, .buf 1 (L cU8 l_3356) false]) ?_ ?_
              · rcases Bool.eq_false_or_eq_true f_3352 with hb_3684 | hb_3684
                · replace hv_3683 := ite_t hv_3683 hb_3684
                  rcases Bool.eq_false_or_eq_true ((decide ((l_3356.length : Int) > 0))) with hb_3685 | hb_3685
                  · replace hv_3683 := ite_t hv_3683 hb_3685
                    have e_hv_3683 := Option.some.inj hv_3683; subst e_hv_3683
                    exact ⟨_, [(2, .ref 0 0), (4, .ref 1 0), (5, .bs false 2 (l_3355.length) 0 (l_3355.length)), (6, i64 bad_3350), (22, .sl false (L cU8 b_2641)), (23, i64 ((b_2641.length : Int))), (24, i64 t_3351), (46, .bool true)], [.box [.bs false 3 (l_3356.length) 0 (l_3356.length), .bool f_3352, .bool f_3353, .bool f_3354] false, .box [.sl true (L cU8 ([])), .bool false, .bool false, .bool false] false, .buf 1 (L (cSl cU8) l_3355) false, .buf 1 (L cU8 l_3356) false], orcs_nil, by simp only [go_sem, reduceIte, Nat.reduceLT, Nat.reduceEqDiff, Nat.reduceAdd, Nat.reduceBEq, Nat.reduceMul, Nat.reduceSub, Nat.reduceGT, Nat.reducePow, Nat.reduceLeDiff, Int.reduceToNat, hb_3684, hb_3685], (weak_sel [0, 1, 2, 3] (by decide) rfl (by simp only [go_sem, reduceIte, Nat.reduceLT, Nat.reduceEqDiff, Nat.reduceAdd, Nat.reduceBEq, Nat.reduceMul, Nat.reduceSub, Nat.reduceGT, Nat.reducePow, Nat.reduceLeDiff, Int.reduceToNat]) (by simp only [go_sem, reduceIte, Nat.reduceLT, Nat.reduceEqDiff, Nat.reduceAdd, Nat.reduceBEq, Nat.reduceMul, Nat.reduceSub, Nat.reduceGT, Nat.reducePow, Nat.reduceLeDiff, Int.reduceToNat]))⟩
                  · replace hv_3683 := ite_f hv_3683 hb_3685
                    rcases Bool.eq_false_or_eq_true f_3353 with hb_3686 | hb_3686
                    · replace hv_3683 := ite_t hv_3683 hb_3686
                      have e_hv_3683 := Option.some.inj hv_3683; subst e_hv_3683
                      exact ⟨_, [(2, .ref 0 0), (4, .ref 1 0), (5, .bs false 2 (l_3355.length) 0 (l_3355.length)), (6, i64 bad_3350), (22, .sl false (L cU8 b_2641)), (23, i64 ((b_2641.length : Int))), (24, i64 t_3351), (46, .bool true)], [.box [.bs false 3 (l_3356.length) 0 (l_3356.length), .bool f_3352, .bool f_3353, .bool f_3354] false, .box [.sl true (L cU8 ([])), .bool false, .bool false, .bool false] false, .buf 1 (L (cSl cU8) l_3355) false, .buf 1 (L cU8 l_3356) false], orcs_nil, by simp only [go_sem, reduceIte, Nat.reduceLT, Nat.reduceEqDiff, Nat.reduceAdd, Nat.reduceBEq, Nat.reduceMul, Nat.reduceSub, Nat.reduceGT, Nat.reducePow, Nat.reduceLeDiff, Int.reduceToNat, hb_3684, hb_3685, hb_3686], (weak_sel [0, 1, 2, 3] (by decide) rfl (by simp only [go_sem, reduceIte, Nat.reduceLT, Nat.reduceEqDiff, Nat.reduceAdd, Nat.reduceBEq, Nat.reduceMul, Nat.reduceSub, Nat.reduceGT, Nat.reducePow, Nat.reduceLeDiff, Int.reduceToNat]) (by simp only [go_sem, reduceIte, Nat.reduceLT, Nat.reduceEqDiff, Nat.reduceAdd, Nat.reduceBEq, Nat.reduceMul, Nat.reduceSub, Nat.reduceGT, Nat.reducePow, Nat.reduceLeDiff, Int.reduceToNat]))⟩
                    · replace hv_3683 := ite_f hv_3683 hb_3686
                      have e_hv_3683 := Option.some.inj hv_3683; subst e_hv_3683
                      exact ⟨_, [(2, .ref 0 0), (4, .ref 1 0), (5, .bs false 2 (l_3355.length) 0 (l_3355.length)), (6, i64 bad_3350), (22, .sl false (L cU8 b_2641)), (23, i64 ((b_2641.length : Int))), (24, i64 t_3351), (46, .bool f_3354)], [.box [.bs false 3 (l_3356.length) 0 (l_3356.length), .bool f_3352, .bool f_3353, .bool f_3354] false, .box [.sl true (L cU8 ([])), .bool false, .bool false, .bool false] false, .buf 1 (L (cSl cU8) l_3355) false, .buf 1 (L cU8 l_3356) false], orcs_nil, by simp only [go_sem, reduceIte, Nat.reduceLT, Nat.reduceEqDiff, Nat.reduceAdd, Nat.reduceBEq, Nat.reduceMul, Nat.reduceSub, Nat.reduceGT, Nat.reducePow, Nat.reduceLeDiff, Int.reduceToNat, hb_3684, hb_3685, hb_3686], (weak_sel [0, 1, 2, 3] (by decide) rfl (by simp only [go_sem, reduceIte, Nat.reduceLT, Nat.reduceEqDiff, Nat.reduceAdd, Nat.reduceBEq, Nat.reduceMul, Nat.reduceSub, Nat.reduceGT, Nat.reducePow, Nat.reduceLeDiff, Int.reduceToNat]) (by simp only [go_sem, reduceIte, Nat.reduceLT, Nat.reduceEqDiff, Nat.reduceAdd, Nat.reduceBEq, Nat.reduceMul, Nat.reduceSub, Nat.reduceGT, Nat.reducePow, Nat.reduceLeDiff, Int.reduceToNat]))⟩
                · replace hv_3683 := ite_f hv_3683 hb_3684
                  have e_hv_3683 := Option.some.inj hv_3683; subst e_hv_3683
                  exact ⟨_, [(2, .ref 0 0), (4, .ref 1 0), (5, .bs false 2 (l_3355.length) 0 (l_3355.length)), (6, i64 bad_3350), (22, .sl false (L cU8 b_2641)), (23, i64 ((b_2641.length : Int))), (24, i64 t_3351), (46, .bool false)], [.box [.bs false 3 (l_3356.length) 0 (l_3356.length), .bool f_3352, .bool f_3353, .bool f_3354] false, .box [.sl true (L cU8 ([])), .bool false, .bool false, .bool false] false, .buf 1 (L (cSl cU8) l_3355) false, .buf 1 (L cU8 l_3356) false], orcs_nil, by simp only [go_sem, reduceIte, Nat.reduceLT, Nat.reduceEqDiff, Nat.reduceAdd, Nat.reduceBEq, Nat.reduceMul, Nat.reduceSub, Nat.reduceGT, Nat.reducePow, Nat.reduceLeDiff, Int.reduceToNat, hb_3684], (weak_sel [0, 1, 2, 3] (by decide) rfl (by simp only [go_sem, reduceIte, Nat.reduceLT, Nat.reduceEqDiff, Nat.reduceAdd, Nat.reduceBEq, Nat.reduceMul, Nat.reduceSub, Nat.reduceGT, Nat.reducePow, Nat.reduceLeDiff, Int.reduceToNat]) (by simp only [go_sem, reduceIte, Nat.reduceLT, Nat.reduceEqDiff, Nat.reduceAdd, Nat.reduceBEq, Nat.reduceMul, Nat.reduceSub, Nat.reduceGT, Nat.reducePow, Nat.reduceLeDiff, Int.reduceToNat]))⟩
              refine run_condL (b := t_3682) rfl (by decide) (fun hb => ?_) (fun hb => ?_)
              · replace h := ite_t h hb
                replace h := bind_some1 h; obtain ⟨y_3687, hy_3688, h⟩ := h
                refine run_textE hE [2, 4, 5, 6, 10, 11, 22, 23, 24] (fr' := [(2, .ref 0 0), (4, .ref 1 0), (5, .bs false 2 (l_3355.length) 0 (l_3355.length)), (6, i64 bad_3350), (10, .sl false (L cU8 y_3687.1)), (11, .bool y_3687.2), (22, .sl false (L cU8 b_2641)), (23, i64 ((b_2641.length : Int))), (24, i64 t_3351)]) (σ' := [.box [.bs false 3 (l_3356.length) 0 (l_3356.length), .bool f_3352, .bool f_3353, .bool f_3354] false, .box [.sl true (L cU8 ([])), .bool false, .bool false, .bool false] false, .buf 1 (L (cSl cU8) l_3355) false, .buf 1 (L cU8 l_3356) true]) ⟨_, orcs_ok (l := [(49, 24, [.agg [.sl false (L cU8 l_3356), .bool f_3352, .bool f_3353, .bool f_3354]], .tup [.sl false (L cU8 y_3687.1), .bool y_3687.2])]) ⟨frame_content_con hy_3688, trivial⟩, ?_⟩ ?_
                · simp only [go_sem, reduceIte, Nat.reduceLT, Nat.reduceEqDiff, Nat.reduceAdd, Nat.reduceBEq, Nat.reduceMul, Nat.reduceSub, Nat.reduceGT, Nat.reducePow, Nat.reduceLeDiff, Int.reduceToNat]
                refine run_textE hE [2, 4, 5, 6, 10, 22, 23, 24, 52] (fr' := [(2, .ref 0 0), (4, .ref 1 0), (5, .bs false 2 (l_3355.length) 0 (l_3355.length)), (6, i64 bad_3350), (10, .sl false (L cU8 y_3687.1)), (22, .sl false (L cU8 b_2641)), (23, i64 ((b_2641.length : Int))), (24, i64 t_3351), (52, .bool y_3687.2)]) (σ' := [.box [.bs false 3 (l_3356.length) 0 (l_3356.length), .bool f_3352, .bool f_3353, .bool f_3354] false, .box [.sl true (L cU8 ([])), .bool false, .bool false, .bool false] false, .buf 1 (L (cSl cU8) l_3355) false, .buf 1 (L cU8 l_3356) true]) ⟨_, orcs_nil, ?_⟩ ?_
                · simp only [go_sem, reduceIte, Nat.reduceLT, Nat.reduceEqDiff, Nat.reduceAdd, Nat.reduceBEq, Nat.reduceMul, Nat.reduceSub, Nat.reduceGT, Nat.reducePow, Nat.reduceLeDiff, Int.reduceToNat]
                refine run_condL (b := y_3687.2) rfl (by decide) (fun hb => ?_) (fun hb => ?_)
                · replace h := ite_t h hb
                  replace h := chk_some h; obtain ⟨hc_3689, h⟩ := h
                  replace h := lt1_some h; obtain ⟨l_3690, hz_3691, h⟩ := h
                  refine run_textE0 hE wk_join [2, 4, 5, 6, 22, 23, 24] (fr' := [(2, .ref 0 0), (4, .ref 1 0), (5, .bs false 2 (l_3690.length) 0 (l_3690.length)), (6, i64 bad_3350), (22, .sl false (L cU8 b_2641)), (23, i64 ((b_2641.length : Int))), (24, i64 t_3351)]) (σ' := [.box [.bs false 3 (l_3356.length) 0 (l_3356.length), .bool f_3352, .bool f_3353, .bool f_3354] false, .box [.sl true (L cU8 ([])), .bool false, .bool false, .bool false] false, .buf 1 (L (cSl cU8) l_3690) false, .buf 1 (L cU8 l_3356) true, .buf 1 (L (cSl cU8) (([y_3687.1] : List (List UInt8)))) false]) ⟨_, orcs_nil, ?_⟩ ?_
                  · subst hz_3691; simp only [go_sem, reduceIte, Nat.reduceLT, Nat.reduceEqDiff, Nat.reduceAdd, Nat.reduceBEq, Nat.reduceMul, Nat.reduceSub, Nat.reduceGT, Nat.reducePow, Nat.reduceLeDiff, Int.reduceToNat, hc_3689]
                  obtain rfl := Option.some.inj h
                  exact joinK_n ((bad_3350, l_3690)) rfl (weak_sel [0, 1, 2, 3] (by decide) rfl (by simp only [go_sem, reduceIte, Nat.reduceLT, Nat.reduceEqDiff, Nat.reduceAdd, Nat.reduceBEq, Nat.reduceMul, Nat.reduceSub, Nat.reduceGT, Nat.reducePow, Nat.reduceLeDiff, Int.reduceToNat]) (by simp only [go_sem, reduceIte, Nat.reduceLT, Nat.reduceEqDiff, Nat.reduceAdd, Nat.reduceBEq, Nat.reduceMul, Nat.reduceSub, Nat.reduceGT, Nat.reducePow, Nat.reduceLeDiff, Int.reduceToNat]))
                · replace h := ite_f h hb
                  refine run_textE0 hE wk_join [2, 4, 5, 6, 22, 23, 24] (fr' := [(2, .ref 0 0), (4, .ref 1 0), (5, .bs false 2 (l_3355.length) 0 (l_3355.length)), (6, i64 ((w64 (bad_3350 + 1)))), (22, .sl false (L cU8 b_2641)), (23, i64 ((b_2641.length : Int))), (24, i64 t_3351)]) (σ' := [.box [.bs false 3 (l_3356.length) 0 (l_3356.length), .bool f_3352, .bool f_3353, .bool f_3354] false, .box [.sl true (L cU8 ([])), .bool false, .bool false, .bool false] false, .buf 1 (L (cSl cU8) l_3355) false, .buf 1 (L cU8 l_3356) true]) ⟨_, orcs_nil, ?_⟩ ?_
                  · simp only [go_sem, reduceIte, Nat.reduceLT, Nat.reduceEqDiff, Nat.reduceAdd, Nat.reduceBEq, Nat.reduceMul, Nat.reduceSub, Nat.reduceGT, Nat.reducePow, Nat.reduceLeDiff, Int.reduceToNat]
                  obtain rfl := Option.some.inj h
                  exact joinK_n (((w64 (bad_3350 + 1)), l_3355)) rfl (weak_sel [0, 1, 2, 3] (by decide) rfl (by simp only [go_sem, reduceIte, Nat.reduceLT, Nat.reduceEqDiff, Nat.reduceAdd, Nat.reduceBEq, Nat.reduceMul, Nat.reduceSub, Nat.reduceGT, Nat.reducePow, Nat.reduceLeDiff, Int.reduceToNat]) (by simp only [go_sem, reduceIte, Nat.reduceLT, Nat.reduceEqDiff, Nat.reduceAdd, Nat.reduceBEq, Nat.reduceMul, Nat.reduceSub, Nat.reduceGT, Nat.reducePow, Nat.reduceLeDiff, Int.reduceToNat]))
              · replace h := ite_f h hb
                refine run_skip ?_
                obtain rfl := Option.some.inj h
                exact joinK_n ((bad_3350, l_3355)) rfl ((weak_ro 3).trans (weak_sel [0, 1, 2, 3] (by decide) rfl (by simp only [go_sem, reduceIte, Nat.reduceLT, Nat.reduceEqDiff, Nat.reduceAdd, Nat.reduceBEq, Nat.reduceMul, Nat.reduceSub, Nat.reduceGT, Nat.reducePow, Nat.reduceLeDiff, Int.reduceToNat]) (by simp only [go_sem, reduceIte, Nat.reduceLT, Nat.reduceEqDiff, Nat.reduceAdd, Nat.reduceBEq, Nat.reduceMul, Nat.reduceSub, Nat.reduceGT, Nat.reducePow, Nat.reduceLeDiff, Int.reduceToNat])))
            rintro ⟨bad_3677, l_3678⟩ rfl
            have h := hj_3681; clear hj_3681
            refine run_textE hE [2, 4, 5, 6, 22, 23, 24] (fr' := [(2, .ref 0 0), (4, .ref 1 0), (5, .bs false 2 (l_3678.length) 0 (l_3678.length)), (6, i64 bad_3677), (22, .sl false (L cU8 b_2641)), (23, i64 ((b_2641.length : Int))), (24, i64 t_3351)]) (σ' := [.box [.sl true (L cU8 ([])), .bool true, .bool false, .bool false] false, .box [.sl true (L cU8 ([])), .bool false, .bool false, .bool false] false, .buf 1 (L (cSl cU8) l_3678) false, .buf 1 (L cU8 l_3356) true]) ⟨_, orcs_nil, ?_⟩ ?_
            · simp only [go_sem, reduceIte, Nat.reduceLT, Nat.reduceEqDiff, Nat.reduceAdd, Nat.reduceBEq, Nat.reduceMul, Nat.reduceSub, Nat.reduceGT, Nat.reducePow, Nat.reduceLeDiff, Int.reduceToNat]
            refine run_exit ?_
            refine blockK_o ?_ rfl
            refine joinK_x ?_
            replace h := bind_some1 h; obtain ⟨z_3692, h, e_z_3692⟩ := h
            obtain rfl := Option.some.inj e_z_3692
            obtain rfl := Option.some.inj hj_3666
            refine blockK_x ?_
            obtain rfl := Option.some.inj h
            exact joinK_n ((bad_3677, true, false, false, l_3678, [])) rfl ((weak_nil_box 0 0 1 rfl rfl).trans (weak_sel [0, 1, 2, 4] (by decide) rfl (by simp only [go_sem, reduceIte, Nat.reduceLT, Nat.reduceEqDiff, Nat.reduceAdd, Nat.reduceBEq, Nat.reduceMul, Nat.reduceSub, Nat.reduceGT, Nat.reducePow, Nat.reduceLeDiff, Int.reduceToNat]) (by simp only [go_sem, reduceIte, Nat.reduceLT, Nat.reduceEqDiff, Nat.reduceAdd, Nat.reduceBEq, Nat.reduceMul, Nat.reduceSub, Nat.reduceGT, Nat.reducePow, Nat.reduceLeDiff, Int.reduceToNat])))
          · replace h := ite_f h hb
            replace h := bind_some1 h; obtain ⟨t_3693, hv_3694, h⟩ := h
            refine run_textW hE [2, 4, 5, 6, 9, 22, 23, 24, 60] (fr' := [(2, .ref 0 0), (4, .ref 1 0), (5, .bs false 2 (l_3355.length) 0 (l_3355.length)), (6, i64 bad_3350), (9, u8 (nth b_2641 t_3351.toNat)), (22, .sl false (L cU8 b_2641)), (23, i64 ((b_2641.length : Int))), (24, i64 t_3351), (60, .bool t_3693)]) (σ' := [.box [.bs false 3 (l_3356.length) 0 (l_3356.length), .bool f_3352, .bool f_3353, .bool f_3354] false, .box [.sl true (L cU8 ([])), .bool false, .bool false, .bool false] false, .buf 1 (L (cSl cU8) l_3355) false, .buf 1 (L cU8 l_3356) false]) ?_ ?_
            · rcases Bool.eq_false_or_eq_true ((!f_3352)) with hb_3695 | hb_3695
              · replace hv_3694 := ite_t hv_3694 hb_3695
                have e_hv_3694 := Option.some.inj hv_3694; subst e_hv_3694
                exact ⟨_, [(2, .ref 0 0), (4, .ref 1 0), (5, .bs false 2 (l_3355.length) 0 (l_3355.length)), (6, i64 bad_3350), (9, u8 (nth b_2641 t_3351.toNat)), (22, .sl false (L cU8 b_2641)), (23, i64 ((b_2641.length : Int))), (24, i64 t_3351), (60, .bool true)], [.box [.bs false 3 (l_3356.length) 0 (l_3356.length), .bool f_3352, .bool f_3353, .bool f_3354] false, .box [.sl true (L cU8 ([])), .bool false, .bool false, .bool false] false, .buf 1 (L (cSl cU8) l_3355) false, .buf 1 (L cU8 l_3356) false], orcs_nil, by simp only [go_sem, reduceIte, Nat.reduceLT, Nat.reduceEqDiff, Nat.reduceAdd, Nat.reduceBEq, Nat.reduceMul, Nat.reduceSub, Nat.reduceGT, Nat.reducePow, Nat.reduceLeDiff, Int.reduceToNat, hb_3695], (weak_sel [0, 1, 2, 3] (by decide) rfl (by simp only [go_sem, reduceIte, Nat.reduceLT, Nat.reduceEqDiff, Nat.reduceAdd, Nat.reduceBEq, Nat.reduceMul, Nat.reduceSub, Nat.reduceGT, Nat.reducePow, Nat.reduceLeDiff, Int.reduceToNat]) (by simp only [go_sem, reduceIte, Nat.reduceLT, Nat.reduceEqDiff, Nat.reduceAdd, Nat.reduceBEq, Nat.reduceMul, Nat.reduceSub, Nat.reduceGT, Nat.reducePow, Nat.reduceLeDiff, Int.reduceToNat]))⟩
              · replace hv_3694 := ite_f hv_3694 hb_3695
                have e_hv_3694 := Option.some.inj hv_3694; subst e_hv_3694
                exact ⟨_, [(2, .ref 0 0), (4, .ref 1 0), (5, .bs false 2 (l_3355.length) 0 (l_3355.length)), (6, i64 bad_3350), (9, u8 (nth b_2641 t_3351.toNat)), (22, .sl false (L cU8 b_2641)), (23, i64 ((b_2641.length : Int))), (24, i64 t_3351), (60, .bool f_3354)], [.box [.bs false 3 (l_3356.length) 0 (l_3356.length), .bool f_3352, .bool f_3353, .bool f_3354] false, .box [.sl true (L cU8 ([])), .bool false, .bool false, .bool false] false, .buf 1 (L (cSl cU8) l_3355) false, .buf 1 (L cU8 l_3356) false], orcs_nil, by simp only [go_sem, reduceIte, Nat.reduceLT, Nat.reduceEqDiff, Nat.reduceAdd, Nat.reduceBEq, Nat.reduceMul, Nat.reduceSub, Nat.reduceGT, Nat.reducePow, Nat.reduceLeDiff, Int.reduceToNat, hb_3695], (weak_sel [0, 1, 2, 3] (by decide) rfl (by simp only [go_sem, reduceIte, Nat.reduceLT, Nat.reduceEqDiff, Nat.reduceAdd, Nat.reduceBEq, Nat.reduceMul, Nat.reduceSub, Nat.reduceGT, Nat.reducePow, Nat.reduceLeDiff, Int.reduceToNat]) (by simp only [go_sem, reduceIte, Nat.reduceLT, Nat.reduceEqDiff, Nat.reduceAdd, Nat.reduceBEq, Nat.reduceMul, Nat.reduceSub, Nat.reduceGT, Nat.reducePow, Nat.reduceLeDiff, Int.reduceToNat]))⟩
            refine run_condL (b := t_3693) rfl (by decide) (fun hb => ?_) (fun hb => ?_)
            · replace h := ite_t h hb
              refine run_exit ?_
              refine blockK_o ?_ rfl
              refine joinK_x ?_
              replace h := bind_some1 h; obtain ⟨z_3696, h, e_z_3696⟩ := h
              obtain rfl := Option.some.inj e_z_3696
              obtain rfl := Option.some.inj hj_3666
              refine blockK_x ?_
              obtain rfl := Option.some.inj h
              exact joinK_n ((bad_3350, f_3352, f_3353, f_3354, l_3355, l_3356)) rfl (weak_sel [0, 1, 2, 3] (by decide) rfl (by simp only [go_sem, reduceIte, Nat.reduceLT, Nat.reduceEqDiff, Nat.reduceAdd, Nat.reduceBEq, Nat.reduceMul, Nat.reduceSub, Nat.reduceGT, Nat.reducePow, Nat.reduceLeDiff, Int.reduceToNat]) (by simp only [go_sem, reduceIte, Nat.reduceLT, Nat.reduceEqDiff, Nat.reduceAdd, Nat.reduceBEq, Nat.reduceMul, Nat.reduceSub, Nat.reduceGT, Nat.reducePow, Nat.reduceLeDiff, Int.reduceToNat]))
            · replace h := ite_f h hb
              replace h := bind_some1 h; obtain ⟨t_3697, hv_3698, h⟩ := h
              refine run_textW hE [2, 4, 5, 6, 9, 22, 23, 24, 68] (fr' := [(2, .ref 0 0), (4, .ref 1 0), (5, .bs false 2 (l_3355.length) 0 (l_3355.length)), (6, i64 bad_3350), (9, u8 (nth b_2641 t_3351.toNat)), (22, .sl false (L cU8 b_2641)), (23, i64 ((b_2641.length : Int))), (24, i64 t_3351), (68, .bool t_3697)]) (σ' := [.box [.bs false 3 (l_3356.length) 0 (l_3356.length), .bool f_3352, .bool f_3353, .bool f_3354] false, .box [.sl true (L cU8 ([])), .bool false, .bool false, .bool false] false, .buf 1 (L (cSl cU8) l_3355) false, .buf 1 (L cU8 l_3356) false]) ?_ ?_
              · rcases Bool.eq_false_or_eq_true ((nth b_2641 t_3351.toNat == (125 : UInt8))) with hb_3699 | hb_3699
                · replace hv_3698 := ite_t hv_3698 hb_3699
                  have e_hv_3698 := Option.some.inj hv_3698; subst e_hv_3698
                  exact ⟨_, [(2, .ref 0 0), (4, .ref 1 0), (5, .bs false 2 (l_3355.length) 0 (l_3355.length)), (6, i64 bad_3350), (9, u8 (nth b_2641 t_3351.toNat)), (22, .sl false (L cU8 b_2641)), (23, i64 ((b_2641.length : Int))), (24, i64 t_3351), (68, .bool ((!f_3353)))], [.box [.bs false 3 (l_3356.length) 0 (l_3356.length), .bool f_3352, .bool f_3353, .bool f_3354] false, .box [.sl true (L cU8 ([])), .bool false, .bool false, .bool false] false, .buf 1 (L (cSl cU8) l_3355) false, .buf 1 (L cU8 l_3356) false], orcs_nil, by simp only [go_sem, reduceIte, Nat.reduceLT, Nat.reduceEqDiff, Nat.reduceAdd, Nat.reduceBEq, Nat.reduceMul, Nat.reduceSub, Nat.reduceGT, Nat.reducePow, Nat.reduceLeDiff, Int.reduceToNat, hb_3699], (weak_sel [0, 1, 2, 3] (by decide) rfl (by simp only [go_sem, reduceIte, Nat.reduceLT, Nat.reduceEqDiff, Nat.reduceAdd, Nat.reduceBEq, Nat.reduceMul, Nat.reduceSub, Nat.reduceGT, Nat.reducePow, Nat.reduceLeDiff, Int.reduceToNat]) (by simp only [go_sem, reduceIte, Nat.reduceLT, Nat.reduceEqDiff, Nat.reduceAdd, Nat.reduceBEq, Nat.reduceMul, Nat.reduceSub, Nat.reduceGT, Nat.reducePow, Nat.reduceLeDiff, Int.reduceToNat]))⟩
                · replace hv_3698 := ite_f hv_3698 hb_3699
                  have e_hv_3698 := Option.some.inj hv_3698; subst e_hv_3698
                  exact ⟨_, [(2, .ref 0 0), (4, .ref 1 0), (5, .bs false 2 (l_3355.length) 0 (l_3355.length)), (6, i64 bad_3350), (9, u8 (nth b_2641 t_3351.toNat)), (22, .sl false (L cU8 b_2641)), (23, i64 ((b_2641.length : Int))), (24, i64 t_3351), (68, .bool false)], [.box [.bs false 3 (l_3356.length) 0 (l_3356.length), .bool f_3352, .bool f_3353, .bool f_3354] false, .box [.sl true (L cU8 ([])), .bool false, .bool false, .bool false] false, .buf 1 (L (cSl cU8) l_3355) false, .buf 1 (L cU8 l_3356) false], orcs_nil, by simp only [go_sem, reduceIte, Nat.reduceLT, Nat.reduceEqDiff, Nat.reduceAdd, Nat.reduceBEq, Nat.reduceMul, Nat.reduceSub, Nat.reduceGT, Nat.reducePow, Nat.reduceLeDiff, Int.reduceToNat, hb_3699], (weak_sel [0, 1, 2, 3] (by decide) rfl (by simp only [go_sem, reduceIte, Nat.reduceLT, Nat.reduceEqDiff, Nat.reduceAdd, Nat.reduceBEq, Nat.reduceMul, Nat.reduceSub, Nat.reduceGT, Nat.reducePow, Nat.reduceLeDiff, Int.reduceToNat]) (by simp only [go_sem, reduceIte, Nat.reduceLT, Nat.reduceEqDiff, Nat.reduceAdd, Nat.reduceBEq, Nat.reduceMul, Nat.reduceSub, Nat.reduceGT, Nat.reducePow, Nat.reduceLeDiff, Int.reduceToNat]))⟩
              refine run_condL (b := t_3697) rfl (by decide) (fun hb => ?_) (fun hb => ?_)
              · replace h := ite_t h hb
                refine run_textE hE [2, 4, 5, 6, 22, 23, 24] (fr' := [(2, .ref 0 0), (4, .ref 1 0), (5, .bs false 2 (l_3355.length) 0 (l_3355.length)), (6, i64 bad_3350), (22, .sl false (L cU8 b_2641)), (23, i64 ((b_2641.length : Int))), (24, i64 t_3351)]) (σ' := [.box [.bs false 3 (l_3356.length) 0 (l_3356.length), .bool f_3352, .bool true, .bool f_3354] false, .box [.sl true (L cU8 ([])), .bool false, .bool false, .bool false] false, .buf 1 (L (cSl cU8) l_3355) false, .buf 1 (L cU8 l_3356) false]) ⟨_, orcs_nil, ?_⟩ ?_
                · simp only [go_sem, reduceIte, Nat.reduceLT, Nat.reduceEqDiff, Nat.reduceAdd, Nat.reduceBEq, Nat.reduceMul, Nat.reduceSub, Nat.reduceGT, Nat.reducePow, Nat.reduceLeDiff, Int.reduceToNat]
                refine run_exit ?_
                refine blockK_o ?_ rfl
                refine joinK_x ?_
                replace h := bind_some1 h; obtain ⟨z_3700, h, e_z_3700⟩ := h
                obtain rfl := Option.some.inj e_z_3700
                obtain rfl := Option.some.inj hj_3666
                refine blockK_x ?_
                obtain rfl := Option.some.inj h
                exact joinK_n ((bad_3350, f_3352, true, f_3354, l_3355, l_3356)) rfl (weak_sel [0, 1, 2, 3] (by decide) rfl (by simp only [go_sem, reduceIte, Nat.reduceLT, Nat.reduceEqDiff, Nat.reduceAdd, Nat.reduceBEq, Nat.reduceMul, Nat.reduceSub, Nat.reduceGT, Nat.reducePow, Nat.reduceLeDiff, Int.reduceToNat]) (by simp only [go_sem, reduceIte, Nat.reduceLT, Nat.reduceEqDiff, Nat.reduceAdd, Nat.reduceBEq, Nat.reduceMul, Nat.reduceSub, Nat.reduceGT, Nat.reducePow, Nat.reduceLeDiff, Int.reduceToNat]))
              · replace h := ite_f h hb
                refine run_textE hE [2, 4, 5, 6, 9, 22, 23, 24, 77] (fr' := [(2, .ref 0 0), (4, .ref 1 0), (5, .bs false 2 (l_3355.length) 0 (l_3355.length)), (6, i64 bad_3350), (9, u8 (nth b_2641 t_3351.toNat)), (22, .sl false (L cU8 b_2641)), (23, i64 ((b_2641.length : Int))), (24, i64 t_3351), (77, .bool f_3353)]) (σ' := [.box [.bs false 3 (l_3356.length) 0 (l_3356.length), .bool f_3352, .bool f_3353, .bool f_3354] false, .box [.sl true (L cU8 ([])), .bool false, .bool false, .bool false] false, .buf 1 (L (cSl cU8) l_3355) false, .buf 1 (L cU8 l_3356) false]) ⟨_, orcs_nil, ?_⟩ ?_
                · simp only [go_sem, reduceIte, Nat.reduceLT, Nat.reduceEqDiff, Nat.reduceAdd, Nat.reduceBEq, Nat.reduceMul, Nat.reduceSub, Nat.reduceGT, Nat.reducePow, Nat.reduceLeDiff, Int.reduceToNat]
                refine run_condL (b := f_3353) rfl (by decide) (fun hb => ?_) (fun hb => ?_)
                · replace h := ite_t h hb
                  replace h := lt1_some h; obtain ⟨c_3701, hz_3702, h⟩ := h
                  refine run_textE0 hE (wk_block wk_join) [2, 4, 5, 6, 9, 22, 23, 24] (fr' := [(2, .ref 0 0), (4, .ref 1 0), (5, .bs false 2 (l_3355.length) 0 (l_3355.length)), (6, i64 bad_3350), (9, u8 c_3701), (22, .sl false (L cU8 b_2641)), (23, i64 ((b_2641.length : Int))), (24, i64 t_3351)]) (σ' := [.box [.bs false 3 (l_3356.length) 0 (l_3356.length), .bool f_3352, .bool f_3353, .bool f_3354] false, .box [.sl true (L cU8 ([])), .bool false, .bool false, .bool false] false, .buf 1 (L (cSl cU8) l_3355) false, .buf 1 (L cU8 l_3356) false]) ⟨_, orcs_nil, ?_⟩ ?_
                  · subst hz_3702; simp only [go_sem, reduceIte, Nat.reduceLT, Nat.reduceEqDiff, Nat.reduceAdd, Nat.reduceBEq, Nat.reduceMul, Nat.reduceSub, Nat.reduceGT, Nat.reducePow, Nat.reduceLeDiff, Int.reduceToNat]
                  refine blockK_n ?_
                  obtain rfl := Option.some.inj h
                  exact joinK_n c_3701 rfl (weak_sel [0, 1, 2, 3] (by decide) rfl (by simp only [go_sem, reduceIte, Nat.reduceLT, Nat.reduceEqDiff, Nat.reduceAdd, Nat.reduceBEq, Nat.reduceMul, Nat.reduceSub, Nat.reduceGT, Nat.reducePow, Nat.reduceLeDiff, Int.reduceToNat]) (by simp only [go_sem, reduceIte, Nat.reduceLT, Nat.reduceEqDiff, Nat.reduceAdd, Nat.reduceBEq, Nat.reduceMul, Nat.reduceSub, Nat.reduceGT, Nat.reducePow, Nat.reduceLeDiff, Int.reduceToNat]))
                · replace h := ite_f h hb
                  refine run_skip ?_
                  refine blockK_n ?_
                  obtain rfl := Option.some.inj h
                  exact joinK_n (nth b_2641 t_3351.toNat) rfl (weak_sel [0, 1, 2, 3] (by decide) rfl (by simp only [go_sem, reduceIte, Nat.reduceLT, Nat.reduceEqDiff, Nat.reduceAdd, Nat.reduceBEq, Nat.reduceMul, Nat.reduceSub, Nat.reduceGT, Nat.reducePow, Nat.reduceLeDiff, Int.reduceToNat]) (by simp only [go_sem, reduceIte, Nat.reduceLT, Nat.reduceEqDiff, Nat.reduceAdd, Nat.reduceBEq, Nat.reduceMul, Nat.reduceSub, Nat.reduceGT, Nat.reducePow, Nat.reduceLeDiff, Int.reduceToNat]))
        rintro c_3663 rfl
        have h := hj_3666; clear hj_3666
        refine run_textE hE [2, 4, 5, 6, 9, 22, 23, 24] (fr' := [(2, .ref 0 0), (4, .ref 1 0), (5, .bs false 2 (l_3355.length) 0 (l_3355.length)), (6, i64 bad_3350), (9, u8 c_3663), (22, .sl false (L cU8 b_2641)), (23, i64 ((b_2641.length : Int))), (24, i64 t_3351)]) (σ' := [.box [.bs false 3 (l_3356.length) 0 (l_3356.length), .bool f_3352, .bool false, .bool f_3354] false, .box [.sl true (L cU8 ([])), .bool false, .bool false, .bool false] false, .buf 1 (L (cSl cU8) l_3355) false, .buf 1 (L cU8 l_3356) false]) ⟨_, orcs_nil, ?_⟩ ?_
        · simp only [go_sem, reduceIte, Nat.reduceLT, Nat.reduceEqDiff, Nat.reduceAdd, Nat.reduceBEq, Nat.reduceMul, Nat.reduceSub, Nat.reduceGT, Nat.reducePow, Nat.reduceLeDiff, Int.reduceToNat]
        refine run_seq ?_
        refine run_textE hE [2, 4, 5, 6, 9, 22, 23, 24, 86] (fr' := [(2, .ref 0 0), (4, .ref 1 0), (5, .bs false 2 (l_3355.length) 0 (l_3355.length)), (6, i64 bad_3350), (9, u8 c_3663), (22, .sl false (L cU8 b_2641)), (23, i64 ((b_2641.length : Int))), (24, i64 t_3351), (86, .bool ((decide ((l_3356.length : Int) ≥ 8196))))]) (σ' := [.box [.bs false 3 (l_3356.length) 0 (l_3356.length), .bool f_3352, .bool false, .bool f_3354] false, .box [.sl true (L cU8 ([])), .bool false, .bool false, .bool false] false, .buf 1 (L (cSl cU8) l_3355) false, .buf 1 (L cU8 l_3356) false]) ⟨_, orcs_nil, ?_⟩ ?_
        · simp only [go_sem, reduceIte, Nat.reduceLT, Nat.reduceEqDiff, Nat.reduceAdd, Nat.reduceBEq, Nat.reduceMul, Nat.reduceSub, Nat.reduceGT, Nat.reducePow, Nat.reduceLeDiff, Int.reduceToNat]
        refine run_condL (b := (decide ((l_3356.length : Int) ≥ 8196))) rfl (by decide) (fun hb => ?_) (fun hb => ?_)
        · replace h := ite_t h hb
          refine run_textE hE [2, 4, 5, 6, 22, 23, 24] (fr' := [(2, .ref 0 0), (4, .ref 1 0), (5, .bs false 2 (l_3355.length) 0 (l_3355.length)), (6, i64 bad_3350), (22, .sl false (L cU8 b_2641)), (23, i64 ((b_2641.length : Int))), (24, i64 t_3351)]) (σ' := [.box [.sl true (L cU8 ([])), .bool f_3352, .bool false, .bool true] false, .box [.sl true (L cU8 ([])), .bool false, .bool false, .bool false] false, .buf 1 (L (cSl cU8) l_3355) false, .buf 1 (L cU8 l_3356) false]) ⟨_, orcs_nil, ?_⟩ ?_
          · simp only [go_sem, reduceIte, Nat.reduceLT, Nat.reduceEqDiff, Nat.reduceAdd, Nat.reduceBEq, Nat.reduceMul, Nat.reduceSub, Nat.reduceGT, Nat.reducePow, Nat.reduceLeDiff, Int.reduceToNat]
          refine run_exit ?_
          refine thenK_x ?_
          refine blockK_x ?_
          obtain rfl := Option.some.inj h
          exact joinK_n ((bad_3350, f_3352, false, true, l_3355, [])) rfl ((weak_nil_box 0 0 1 rfl rfl).trans (weak_sel [0, 1, 2, 4] (by decide) rfl (by simp only [go_sem, reduceIte, Nat.reduceLT, Nat.reduceEqDiff, Nat.reduceAdd, Nat.reduceBEq, Nat.reduceMul, Nat.reduceSub, Nat.reduceGT, Nat.reducePow, Nat.reduceLeDiff, Int.reduceToNat]) (by simp only [go_sem, reduceIte, Nat.reduceLT, Nat.reduceEqDiff, Nat.reduceAdd, Nat.reduceBEq, Nat.reduceMul, Nat.reduceSub, Nat.reduceGT, Nat.reducePow, Nat.reduceLeDiff, Int.reduceToNat])))
        · replace h := ite_f h hb
          refine run_skip ?_
          refine thenK_n ?_
          replace h := chk_some h; obtain ⟨hc_3703, h⟩ := h
          replace h := lt1_some h; obtain ⟨l_3704, hz_3705, h⟩ := h
          refine run_textE0 hE (wk_block wk_join) [2, 4, 5, 6, 22, 23, 24] (fr' := [(2, .ref 0 0), (4, .ref 1 0), (5, .bs false 2 (l_3355.length) 0 (l_3355.length)), (6, i64 bad_3350), (22, .sl false (L cU8 b_2641)), (23, i64 ((b_2641.length : Int))), (24, i64 t_3351)]) (σ' := [.box [.bs false 3 (l_3704.length) 0 (l_3704.length), .bool f_3352, .bool false, .bool f_3354] false, .box [.sl true (L cU8 ([])), .bool false, .bool false, .bool false] false, .buf 1 (L (cSl cU8) l_3355) false, .buf 1 (L cU8 l_3704) false, .buf 1 (L cU8 (([c_3663] : List UInt8))) false]) ⟨_, orcs_nil, ?_⟩ ?_
          · subst hz_3705; simp only [go_sem, reduceIte, Nat.reduceLT, Nat.reduceEqDiff, Nat.reduceAdd, Nat.reduceBEq, Nat.reduceMul, Nat.reduceSub, Nat.reduceGT, Nat.reducePow, Nat.reduceLeDiff, Int.reduceToNat, hc_3703]
          refine blockK_n ?_
          obtain rfl := Option.some.inj h
          exact joinK_n ((bad_3350, f_3352, false, f_3354, l_3355, l_3704)) rfl (weak_sel [0, 1, 2, 3] (by decide) rfl (by simp only [go_sem, reduceIte, Nat.reduceLT, Nat.reduceEqDiff, Nat.reduceAdd, Nat.reduceBEq, Nat.reduceMul, Nat.reduceSub, Nat.reduceGT, Nat.reducePow, Nat.reduceLeDiff, Int.reduceToNat]) (by simp only [go_sem, reduceIte, Nat.reduceLT, Nat.reduceEqDiff, Nat.reduceAdd, Nat.reduceBEq, Nat.reduceMul, Nat.reduceSub, Nat.reduceGT, Nat.reducePow, Nat.reduceLeDiff, Int.reduceToNat]))
      rintro ⟨bad_3617, f_3618, f_3619, f_3620, l_3621, l_3622⟩ rfl
      have h := hj_3625; clear hj_3625
      refine run_textE0 hE wk_lp [2, 4, 5, 6, 22, 23, 24] (fr' := [(2, .ref 0 0), (4, .ref 1 0), (5, .bs false 2 (l_3621.length) 0 (l_3621.length)), (6, i64 bad_3617), (22, .sl false (L cU8 b_2641)), (23, i64 ((b_2641.length : Int))), (24, i64 ((w64 (t_3351 + 1))))]) (σ' := [.box [.bs false 3 (l_3622.length) 0 (l_3622.length), .bool f_3618, .bool f_3619, .bool f_3620] false, .box [.sl true (L cU8 ([])), .bool false, .bool false, .bool false] false, .buf 1 (L (cSl cU8) l_3621) false, .buf 1 (L cU8 l_3622) false]) ⟨_, orcs_nil, ?_⟩ ?_
      · simp only [go_sem, reduceIte, Nat.reduceLT, Nat.reduceEqDiff, Nat.reduceAdd, Nat.reduceBEq, Nat.reduceMul, Nat.reduceSub, Nat.reduceGT, Nat.reducePow, Nat.reduceLeDiff, Int.reduceToNat]
      obtain rfl := Option.some.inj h
      exact lpK_n ((bad_3617, (w64 (t_3351 + 1)), f_3618, f_3619, f_3620, l_3621, l_3622)) rfl (weak_sel [0, 1, 2, 3] (by decide) rfl (by simp only [go_sem, reduceIte, Nat.reduceLT, Nat.reduceEqDiff, Nat.reduceAdd, Nat.reduceBEq, Nat.reduceMul, Nat.reduceSub, Nat.reduceGT, Nat.reducePow, Nat.reduceLeDiff, Int.reduceToNat]) (by simp only [go_sem, reduceIte, Nat.reduceLT, Nat.reduceEqDiff, Nat.reduceAdd, Nat.reduceBEq, Nat.reduceMul, Nat.reduceSub, Nat.reduceGT, Nat.reducePow, Nat.reduceLeDiff, Int.reduceToNat]))
    · replace h := ite_f h hb
      refine run_exit ?_
      refine thenK_x ?_
      obtain rfl := Option.some.inj h
      have ex_x_3532 := hxx_3536 _ rfl
      subst ex_x_3532
      have h := hj_3534; clear hj_3534
      refine lpK_x ?_
      refine blockK_x ?_
      obtain rfl := Option.some.inj h
      exact joinK_n ((bad_3350, f_3352, f_3353, f_3354, l_3355, l_3356)) rfl ((weak_sel (l' := [(2, .ref 0 0), (4, .ref 1 0), (5, .bs false 2 (l_3355.length) 0 (l_3355.length)), (6, i64 bad_3350)]) (σ' := [.box [.bs false 3 (l_3356.length) 0 (l_3356.length), .bool f_3352, .bool f_3353, .bool f_3354] false, .box [.sl true (L cU8 ([])), .bool false, .bool false, .bool false] false, .buf 1 (L (cSl cU8) l_3355) false, .buf 1 (L cU8 l_3356) false]) [0, 1, 2, 3] (by decide) rfl (by simp only [go_sem, reduceIte, Nat.reduceLT, Nat.reduceEqDiff, Nat.reduceAdd, Nat.reduceBEq, Nat.reduceMul, Nat.reduceSub, Nat.reduceGT, Nat.reducePow, Nat.reduceLeDiff, Int.reduceToNat]) (by simp only [go_sem, reduceIte, Nat.reduceLT, Nat.reduceEqDiff, Nat.reduceAdd, Nat.reduceBEq, Nat.reduceMul, Nat.reduceSub, Nat.reduceGT, Nat.reducePow, Nat.reduceLeDiff, Int.reduceToNat])).trans (weak_sel [0, 1, 2, 3] (by decide) rfl (by simp only [go_sem, reduceIte, Nat.reduceLT, Nat.reduceEqDiff, Nat.reduceAdd, Nat.reduceBEq, Nat.reduceMul, Nat.reduceSub, Nat.reduceGT, Nat.reducePow, Nat.reduceLeDiff, Int.reduceToNat]) (by simp only [go_sem, reduceIte, Nat.reduceLT, Nat.reduceEqDiff, Nat.reduceAdd, Nat.reduceBEq, Nat.reduceMul, Nat.reduceSub, Nat.reduceGT, Nat.reducePow, Nat.reduceLeDiff, Int.reduceToNat])))
  rintro ⟨bad_3172, f_3173, f_3174, f_3175, l_3176, l_3177⟩ rfl
  have h := hj_3180; clear hj_3180
  refine run_textE hE [4, 5, 6] (fr' := [(4, .ref 1 0), (5, .bs false 2 (l_3176.length) 0 (l_3176.length)), (6, i64 bad_3172)]) (σ' := [.box [.bs false 3 (l_3177.length) 0 (l_3177.length), .bool f_3173, .bool f_3174, .bool f_3175] false, .box [.bs false 3 (l_3177.length) 0 (l_3177.length), .bool f_3173, .bool f_3174, .bool f_3175] false, .buf 1 (L (cSl cU8) l_3176) false, .buf 1 (L cU8 l_3177) false]) ⟨_, orcs_nil, ?_⟩ ?_
  · simp only [go_sem, reduceIte, Nat.reduceLT, Nat.reduceEqDiff, Nat.reduceAdd, Nat.reduceBEq, Nat.reduceMul, Nat.reduceSub, Nat.reduceGT, Nat.reducePow, Nat.reduceLeDiff, Int.reduceToNat]
  refine run_ret ?_
  refine scopeK_r ?_
  obtain rfl := Option.some.inj h
  refine ret_ok (.inr rfl) ?_
  simp only [go_sem, reduceIte, Nat.reduceLT, Nat.reduceEqDiff, Nat.reduceAdd, Nat.reduceBEq, Nat.reduceMul, Nat.reduceSub, Nat.reduceGT, Nat.reducePow, Nat.reduceLeDiff, Int.reduceToNat]

end Go.Proofs.Ytneejmndnihaoaa
