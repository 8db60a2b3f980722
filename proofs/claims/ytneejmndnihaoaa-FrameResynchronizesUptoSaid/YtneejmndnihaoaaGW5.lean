/-
  The functions compute just that.
-/
import Derived.Test.YtneejmndnihaoaaGW4
import Derived.KernelRfl
namespace Go.Proofs.Ytneejmndnihaoaa
open Go.Rv
set_option linter.unusedVariables false
set_option linter.unusedSimpArgs false

theorem frame_Feed_con {d_2628 : Api_Deframer} {b_2629 : List UInt8} {r : Api_Deframer × List (List UInt8) × Int} (h : frame_Feed d_2628 b_2629 = some r) : Con B 15 [.agg [.sl false (L cU8 d_2628.Rest), .bool d_2628.In, .bool d_2628.Escape, .bool d_2628.Bad], .sl false (L cU8 b_2629)] [] (fun r' σ' => r' = .tup [.agg [.sl false (L cU8 r.1.Rest), .bool r.1.In, .bool r.1.Escape, .bool r.1.Bad], .sl false (L (cSl cU8) r.2.1), i64 r.2.2] ∧ σ' = []) := by
  refine con_walk (N := 99) (rs := [.cell 4 31, .tmp 5, .tmp 6]) ok Try.func15 rfl (by decide +kernel) rfl rfl (Nat.le_of_ble_eq_true rfl) (fun F => ?_)
  have hE := ok.env F
  unfold frame_Feed at h
  show Run (B.env F) 0 _ ⟨asFr 99 [(0, .agg [.sl false (L cU8 d_2628.Rest), .bool d_2628.In, .bool d_2628.Escape, .bool d_2628.Bad]), (1, .sl false (L cU8 b_2629))], []⟩ _
  refine run_textE hE [1, 2, 4, 5, 6] (fr' := [(1, .sl false (L cU8 b_2629)), (2, .ref 0 0), (4, .ref 1 0), (5, .sl true (L (cSl cU8) ([]))), (6, i64 0)]) (σ' := [.box [.sl false (L cU8 d_2628.Rest), .bool d_2628.In, .bool d_2628.Escape, .bool d_2628.Bad] false, .box [.sl true (L cU8 ([])), .bool false, .bool false, .bool false] false]) ⟨_, orcs_nil, ?_⟩ ?_
  · simp only [go_sem, reduceIte, Nat.reduceLT, Nat.reduceEqDiff, Nat.reduceAdd, Nat.reduceBEq, Nat.reduceMul, Nat.reduceSub, Nat.reduceGT, Nat.reducePow, Nat.reduceLeDiff, Int.reduceToNat]
  refine run_scope ?_
  replace h := chk_some h; obtain ⟨hc_2630, h⟩ := h
  replace h := lt1_some h; obtain ⟨l_2631, hz_2632, h⟩ := h
  refine run_textE hE [1, 2, 4, 5, 6, 7] (fr' := [(1, .sl false (L cU8 b_2629)), (2, .ref 0 0), (4, .ref 1 0), (5, .sl true (L (cSl cU8) ([]))), (6, i64 0), (7, .bs true 2 (l_2631.length) 0 (l_2631.length))]) (σ' := [.box [.sl false (L cU8 d_2628.Rest), .bool d_2628.In, .bool d_2628.Escape, .bool d_2628.Bad] false, .box [.sl true (L cU8 ([])), .bool false, .bool false, .bool false] false, .buf 1 (L cU8 l_2631) false]) ⟨_, orcs_nil, ?_⟩ ?_
  · subst hz_2632; simp only [go_sem, reduceIte, Nat.reduceLT, Nat.reduceEqDiff, Nat.reduceAdd, Nat.reduceBEq, Nat.reduceMul, Nat.reduceSub, Nat.reduceGT, Nat.reducePow, Nat.reduceLeDiff, Int.reduceToNat, hc_2630]
  replace h := lt1_some h; obtain ⟨l_2633, hz_2634, h⟩ := h
  refine run_textE hE [1, 2, 4, 5, 6, 7] (fr' := [(1, .sl false (L cU8 b_2629)), (2, .ref 0 0), (4, .ref 1 0), (5, .sl true (L (cSl cU8) ([]))), (6, i64 0), (7, .bs true 2 (l_2633.length) 0 (l_2633.length))]) (σ' := [.box [.sl false (L cU8 d_2628.Rest), .bool d_2628.In, .bool d_2628.Escape, .bool d_2628.Bad] false, .box [.sl true (L cU8 ([])), .bool false, .bool false, .bool false] false, .buf 1 (L cU8 l_2633) false]) ⟨_, orcs_nil, ?_⟩ ?_
  · subst hz_2634; simp only [go_sem, reduceIte, Nat.reduceLT, Nat.reduceEqDiff, Nat.reduceAdd, Nat.reduceBEq, Nat.reduceMul, Nat.reduceSub, Nat.reduceGT, Nat.reducePow, Nat.reduceLeDiff, Int.reduceToNat]
  refine run_textE hE [1, 2, 4, 5, 6] (fr' := [(1, .sl false (L cU8 b_2629)), (2, .ref 0 0), (4, .ref 1 0), (5, .sl true (L (cSl cU8) ([]))), (6, i64 0)]) (σ' := [.box [.bs true 2 (l_2633.length) 0 (l_2633.length), .bool d_2628.In, .bool d_2628.Escape, .bool d_2628.Bad] false, .box [.sl true (L cU8 ([])), .bool false, .bool false, .bool false] false, .buf 1 (L cU8 l_2633) false]) ⟨_, orcs_nil, ?_⟩ ?_
  · simp only [go_sem, reduceIte, Nat.reduceLT, Nat.reduceEqDiff, Nat.reduceAdd, Nat.reduceBEq, Nat.reduceMul, Nat.reduceSub, Nat.reduceGT, Nat.reducePow, Nat.reduceLeDiff, Int.reduceToNat]
  refine run_seq ?_
  refine run_label ?_
  refine thenK_n ?_
  replace h := bind_some1 h; obtain ⟨j_3166, hA_3167, hj_3168⟩ := h
  refine run_join (fun (v : Int × Bool × Bool × Bool × List (List UInt8) × List UInt8) => (⟨asFr 99 [(2, .ref 0 0), (4, .ref 1 0), (5, .bs false 2 (v.2.2.2.2.1.length) 0 (v.2.2.2.2.1.length)), (6, i64 v.1)], [.box [.bs false 3 (v.2.2.2.2.2.length) 0 (v.2.2.2.2.2.length), .bool v.2.1, .bool v.2.2.1, .bool v.2.2.2.1] false, .box [.sl true (L cU8 ([])), .bool false, .bool false, .bool false] false, .buf 1 (L (cSl cU8) v.2.2.2.2.1) false, .buf 1 (L cU8 v.2.2.2.2.2) false]⟩ : St)) (fun v => v = j_3166) ?_ ?_
  · have h := hA_3167; clear hA_3167
    refine run_textE hE [2, 4, 5, 6, 22, 23, 24] (fr' := [(2, .ref 0 0), (4, .ref 1 0), (5, .sl true (L (cSl cU8) ([]))), (6, i64 0), (22, .sl false (L cU8 b_2629)), (23, i64 ((b_2629.length : Int))), (24, i64 0)]) (σ' := [.box [.bs true 2 (l_2633.length) 0 (l_2633.length), .bool d_2628.In, .bool d_2628.Escape, .bool d_2628.Bad] false, .box [.sl true (L cU8 ([])), .bool false, .bool false, .bool false] false, .buf 1 (L cU8 l_2633) false]) ⟨_, orcs_nil, ?_⟩ ?_
    · simp only [go_sem, reduceIte, Nat.reduceLT, Nat.reduceEqDiff, Nat.reduceAdd, Nat.reduceBEq, Nat.reduceMul, Nat.reduceSub, Nat.reduceGT, Nat.reducePow, Nat.reduceLeDiff, Int.reduceToNat]
    refine run_block ?_
    replace h := bind_some1 h; obtain ⟨x_3520, hx_3521, hj_3522⟩ := h
    refine run_loopO hx_3521 (fun (v : Int × Int × Bool × Bool × Bool × List (List UInt8) × List UInt8) => (⟨asFr 99 [(2, .ref 0 0), (4, .ref 1 0), (5, .bs false 2 (v.2.2.2.2.2.1.length) 0 (v.2.2.2.2.2.1.length)), (6, i64 v.1), (22, .sl false (L cU8 b_2629)), (23, i64 ((b_2629.length : Int))), (24, i64 v.2.1)], [.box [.bs false 3 (v.2.2.2.2.2.2.length) 0 (v.2.2.2.2.2.2.length), .bool v.2.2.1, .bool v.2.2.2.1, .bool v.2.2.2.2.1] false, .box [.sl true (L cU8 ([])), .bool false, .bool false, .bool false] false, .buf 1 (L (cSl cU8) v.2.2.2.2.2.1) false, .buf 1 (L cU8 v.2.2.2.2.2.2) false]⟩ : St)) ((weak_nil 5 1 rfl).trans (weak_sel [0, 1, 3, 2] (by decide) rfl (by simp only [go_sem, reduceIte, Nat.reduceLT, Nat.reduceEqDiff, Nat.reduceAdd, Nat.reduceBEq, Nat.reduceMul, Nat.reduceSub, Nat.reduceGT, Nat.reducePow, Nat.reduceLeDiff, Int.reduceToNat]) (by simp only [go_sem, reduceIte, Nat.reduceLT, Nat.reduceEqDiff, Nat.reduceAdd, Nat.reduceBEq, Nat.reduceMul, Nat.reduceSub, Nat.reduceGT, Nat.reducePow, Nat.reduceLeDiff, Int.reduceToNat]))) ?_
    rintro ⟨bad_3338, t_3339, f_3340, f_3341, f_3342, l_3343, l_3344⟩ o_3523 h hxx_3524
    replace h : frame_Feed_b1 b_2629 bad_3338 t_3339 f_3340 f_3341 f_3342 l_3343 l_3344 = some o_3523 := h
    unfold frame_Feed_b1 at h
    refine run_textE hE [2, 4, 5, 6, 22, 23, 24, 25] (fr' := [(2, .ref 0 0), (4, .ref 1 0), (5, .bs false 2 (l_3343.length) 0 (l_3343.length)), (6, i64 bad_3338), (22, .sl false (L cU8 b_2629)), (23, i64 ((b_2629.length : Int))), (24, i64 t_3339), (25, .bool ((decide (t_3339 < (b_2629.length : Int)))))]) (σ' := [.box [.bs false 3 (l_3344.length) 0 (l_3344.length), .bool f_3340, .bool f_3341, .bool f_3342] false, .box [.sl true (L cU8 ([])), .bool false, .bool false, .bool false] false, .buf 1 (L (cSl cU8) l_3343) false, .buf 1 (L cU8 l_3344) false]) ⟨_, orcs_nil, ?_⟩ ?_
    · simp only [go_sem, reduceIte, Nat.reduceLT, Nat.reduceEqDiff, Nat.reduceAdd, Nat.reduceBEq, Nat.reduceMul, Nat.reduceSub, Nat.reduceGT, Nat.reducePow, Nat.reduceLeDiff, Int.reduceToNat]
    refine run_seq ?_
    refine run_condL (b := (decide (t_3339 < (b_2629.length : Int)))) rfl (by decide) (fun hb => ?_) (fun hb => ?_)
    · replace h := ite_t h hb
      refine run_skip ?_
      refine thenK_n ?_
      replace h := bind_some1 h; obtain ⟨j_3611, hA_3612, hj_3613⟩ := h
      refine run_join (fun (v : Int × Bool × Bool × Bool × List (List UInt8) × List UInt8) => (⟨asFr 99 [(2, .ref 0 0), (4, .ref 1 0), (5, .bs false 2 (v.2.2.2.2.1.length) 0 (v.2.2.2.2.1.length)), (6, i64 v.1), (22, .sl false (L cU8 b_2629)), (23, i64 ((b_2629.length : Int))), (24, i64 t_3339)], [.box [.bs false 3 (v.2.2.2.2.2.length) 0 (v.2.2.2.2.2.length), .bool v.2.1, .bool v.2.2.1, .bool v.2.2.2.1] false, .box [.sl true (L cU8 ([])), .bool false, .bool false, .bool false] false, .buf 1 (L (cSl cU8) v.2.2.2.2.1) false, .buf 1 (L cU8 v.2.2.2.2.2) false]⟩ : St)) (fun v => v = j_3611) ?_ ?_
      · have h := hA_3612; clear hA_3612
        refine run_block ?_
        replace h := chk_some h; obtain ⟨hc_3614, h⟩ := h
        refine run_textE hE [2, 4, 5, 6, 9, 22, 23, 24] (fr' := [(2, .ref 0 0), (4, .ref 1 0), (5, .bs false 2 (l_3343.length) 0 (l_3343.length)), (6, i64 bad_3338), (9, u8 (nth b_2629 t_3339.toNat)), (22, .sl false (L cU8 b_2629)), (23, i64 ((b_2629.length : Int))), (24, i64 t_3339)]) (σ' := [.box [.bs false 3 (l_3344.length) 0 (l_3344.length), .bool f_3340, .bool f_3341, .bool f_3342] false, .box [.sl true (L cU8 ([])), .bool false, .bool false, .bool false] false, .buf 1 (L (cSl cU8) l_3343) false, .buf 1 (L cU8 l_3344) false]) ⟨_, orcs_nil, ?_⟩ ?_
        · simp only [go_sem, reduceIte, Nat.reduceLT, Nat.reduceEqDiff, Nat.reduceAdd, Nat.reduceBEq, Nat.reduceMul, Nat.reduceSub, Nat.reduceGT, Nat.reducePow, Nat.reduceLeDiff, Int.reduceToNat, hc_3614, hc_3614.2, lt_le hc_3614.2]
        replace h := bind_some1 h; obtain ⟨j_3652, hA_3653, hj_3654⟩ := h
        refine run_join (fun (v : UInt8) => (⟨asFr 99 [(2, .ref 0 0), (4, .ref 1 0), (5, .bs false 2 (l_3343.length) 0 (l_3343.length)), (6, i64 bad_3338), (9, u8 v), (22, .sl false (L cU8 b_2629)), (23, i64 ((b_2629.length : Int))), (24, i64 t_3339)], [.box [.bs false 3 (l_3344.length) 0 (l_3344.length), .bool f_3340, .bool f_3341, .bool f_3342] false, .box [.sl true (L cU8 ([])), .bool false, .bool false, .bool false] false, .buf 1 (L (cSl cU8) l_3343) false, .buf 1 (L cU8 l_3344) false]⟩ : St)) (fun v => .inl v = j_3652) ?_ ?_
        · have h := hA_3653; clear hA_3653
          refine run_block ?_
          refine run_textE hE [2, 4, 5, 6, 9, 22, 23, 24, 28] (fr' := [(2, .ref 0 0), (4, .ref 1 0), (5, .bs false 2 (l_3343.length) 0 (l_3343.length)), (6, i64 bad_3338), (9, u8 (nth b_2629 t_3339.toNat)), (22, .sl false (L cU8 b_2629)), (23, i64 ((b_2629.length : Int))), (24, i64 t_3339), (28, .bool ((nth b_2629 t_3339.toNat == (126 : UInt8))))]) (σ' := [.box [.bs false 3 (l_3344.length) 0 (l_3344.length), .bool f_3340, .bool f_3341, .bool f_3342] false, .box [.sl true (L cU8 ([])), .bool false, .bool false, .bool false] false, .buf 1 (L (cSl cU8) l_3343) false, .buf 1 (L cU8 l_3344) false]) ⟨_, orcs_nil, ?_⟩ ?_
          · simp only [go_sem, reduceIte, Nat.reduceLT, Nat.reduceEqDiff, Nat.reduceAdd, Nat.reduceBEq, Nat.reduceMul, Nat.reduceSub, Nat.reduceGT, Nat.reducePow, Nat.reduceLeDiff, Int.reduceToNat]
          refine run_condL (b := (nth b_2629 t_3339.toNat == (126 : UInt8))) rfl (by decide) (fun hb => ?_) (fun hb => ?_)
          · replace h := ite_t h hb
            replace h := bind_some1 h; obtain ⟨j_3667, hA_3668, hj_3669⟩ := h
            refine run_join (fun (v : Int × List (List UInt8)) => (⟨asFr 99 [(2, .ref 0 0), (4, .ref 1 0), (5, .bs false 2 (v.2.length) 0 (v.2.length)), (6, i64 v.1), (22, .sl false (L cU8 b_2629)), (23, i64 ((b_2629.length : Int))), (24, i64 t_3339)], [.box [.bs false 3 (l_3344.length) 0 (l_3344.length), .bool f_3340, .bool f_3341, .bool f_3342] false, .box [.sl true (L cU8 ([])), .bool false, .bool false, .bool false] false, .buf 1 (L (cSl cU8) v.2) false, .buf 1 (L cU8 l_3344) true]⟩ : St)) (fun v => v = j_3667) ?_ ?_
            · have h := hA_3668; clear hA_3668
              replace h := bind_some1 h; obtain ⟨t_3670, hv_3671, h⟩ := h
              refine run_textW hE [2, 4, 5, 6, 22, 23, 24, 46] (fr' := [(2, .ref 0 0), (4, .ref 1 0), (5, .bs false 2 (l_3343.length) 0 (l_3343.length)), (6, i64 bad_3338), (22, .sl false (L cU8 b_2629)), (23, i64 ((b_2629.length : Int))), (24, i64 t_3339), (46, .bool t_3670)]) (σ' := [.box [.bs false 3 (l_3344.length) 0 (l_3344.length), .bool f_3340, .bool f_3341, .bool f_3342] false, .box [.sl true (L cU8 ([])), .bool false, .bool false, .bool false] false, .buf 1 (L (cSl cU8) l_3343) false, .buf 1 (L cU8 l_3344) false]) ?_ ?_
              · rcases Bool.eq_false_or_eq_true f_3340 with hb_3672 | hb_3672
                · replace hv_3671 := ite_t hv_3671 hb_3672
                  rcases Bool.eq_false_or_eq_true ((decide ((l_3344.length : Int) > 0))) with hb_3673 | hb_3673
                  · replace hv_3671 := ite_t hv_3671 hb_3673
                    have e_hv_3671 := Option.some.inj hv_3671; subst e_hv_3671
                    exact ⟨_, [(2, .ref 0 0), (4, .ref 1 0), (5, .bs false 2 (l_3343.length) 0 (l_3343.length)), (6, i64 bad_3338), (22, .sl false (L cU8 b_2629)), (23, i64 ((b_2629.length : Int))), (24, i64 t_3339), (46, .bool true)], [.box [.bs false 3 (l_3344.length) 0 (l_3344.length), .bool f_3340, .bool f_3341, .bool f_3342] false, .box [.sl true (L cU8 ([])), .bool false, .bool false, .bool false] false, .buf 1 (L (cSl cU8) l_3343) false, .buf 1 (L cU8 l_3344) false], orcs_nil, by simp only [go_sem, reduceIte, Nat.reduceLT, Nat.reduceEqDiff, Nat.reduceAdd, Nat.reduceBEq, Nat.reduceMul, Nat.reduceSub, Nat.reduceGT, Nat.reducePow, Nat.reduceLeDiff, Int.reduceToNat, hb_3672, hb_3673], (weak_sel [0, 1, 2, 3] (by decide) rfl (by simp only [go_sem, reduceIte, Nat.reduceLT, Nat.reduceEqDiff, Nat.reduceAdd, Nat.reduceBEq, Nat.reduceMul, Nat.reduceSub, Nat.reduceGT, Nat.reducePow, Nat.reduceLeDiff, Int.reduceToNat]) (by simp only [go_sem, reduceIte, Nat.reduceLT, Nat.reduceEqDiff, Nat.reduceAdd, Nat.reduceBEq, Nat.reduceMul, Nat.reduceSub, Nat.reduceGT, Nat.reducePow, Nat.reduceLeDiff, Int.reduceToNat]))⟩
                  · replace hv_3671 := ite_f hv_3671 hb_3673
                    rcases Bool.eq_false_or_eq_true f_3341 with hb_3674 | hb_3674
                    · replace hv_3671 := ite_t hv_3671 hb_3674
                      have e_hv_3671 := Option.some.inj hv_3671; subst e_hv_3671
                      exact ⟨_, [(2, .ref 0 0), (4, .ref 1 0), (5, .bs false 2 (l_3343.length) 0 (l_3343.length)), (6, i64 bad_3338), (22, .sl false (L cU8 b_2629)), (23, i64 ((b_2629.length : Int))), (24, i64 t_3339), (46, .bool true)], [.box [.bs false 3 (l_3344.length) 0 (l_3344.length), .bool f_3340, .bool f_3341, .bool f_3342] false, .box [.sl true (L cU8 ([])), .bool false, .bool false, .bool false] false, .buf 1 (L (cSl cU8) l_3343) false, .buf 1 (L cU8 l_3344) false], orcs_nil, by simp only [go_sem, reduceIte, Nat.reduceLT, Nat.reduceEqDiff, Nat.reduceAdd, Nat.reduceBEq, Nat.reduceMul, Nat.reduceSub, Nat.reduceGT, Nat.reducePow, Nat.reduceLeDiff, Int.reduceToNat, hb_3672, hb_3673, hb_3674], (weak_sel [0, 1, 2, 3] (by decide) rfl (by simp only [go_sem, reduceIte, Nat.reduceLT, Nat.reduceEqDiff, Nat.reduceAdd, Nat.reduceBEq, Nat.reduceMul, Nat.reduceSub, Nat.reduceGT, Nat.reducePow, Nat.reduceLeDiff, Int.reduceToNat]) (by simp only [go_sem, reduceIte, Nat.reduceLT, Nat.reduceEqDiff, Nat.reduceAdd, Nat.reduceBEq, Nat.reduceMul, Nat.reduceSub, Nat.reduceGT, Nat.reducePow, Nat.reduceLeDiff, Int.reduceToNat]))⟩
                    · replace hv_3671 := ite_f hv_3671 hb_3674
                      have e_hv_3671 := Option.some.inj hv_3671; subst e_hv_3671
                      exact ⟨_, [(2, .ref 0 0), (4, .ref 1 0), (5, .bs false 2 (l_3343.length) 0 (l_3343.length)), (6, i64 bad_3338), (22, .sl false (L cU8 b_2629)), (23, i64 ((b_2629.length : Int))), (24, i64 t_3339), (46, .bool f_3342)], [.box [.bs false 3 (l_3344.length) 0 (l_3344.length), .bool f_3340, .bool f_3341, .bool f_3342] false, .box [.sl true (L cU8 ([])), .bool false, .bool false, .bool false] false, .buf 1 (L (cSl cU8) l_3343) false, .buf 1 (L cU8 l_3344) false], orcs_nil, by simp only [go_sem, reduceIte, Nat.reduceLT, Nat.reduceEqDiff, Nat.reduceAdd, Nat.reduceBEq, Nat.reduceMul, Nat.reduceSub, Nat.reduceGT, Nat.reducePow, Nat.reduceLeDiff, Int.reduceToNat, hb_3672, hb_3673, hb_3674], (weak_sel [0, 1, 2, 3] (by decide) rfl (by simp only [go_sem, reduceIte, Nat.reduceLT, Nat.reduceEqDiff, Nat.reduceAdd, Nat.reduceBEq, Nat.reduceMul, Nat.reduceSub, Nat.reduceGT, Nat.reducePow, Nat.reduceLeDiff, Int.reduceToNat]) (by simp only [go_sem, reduceIte, Nat.reduceLT, Nat.reduceEqDiff, Nat.reduceAdd, Nat.reduceBEq, Nat.reduceMul, Nat.reduceSub, Nat.reduceGT, Nat.reducePow, Nat.reduceLeDiff, Int.reduceToNat]))⟩
                · replace hv_3671 := ite_f hv_3671 hb_3672
                  have e_hv_3671 := Option.some.inj hv_3671; subst e_hv_3671
                  exact ⟨_, [(2, .ref 0 0), (4, .ref 1 0), (5, .bs false 2 (l_3343.length) 0 (l_3343.length)), (6, i64 bad_3338), (22, .sl false (L cU8 b_2629)), (23, i64 ((b_2629.length : Int))), (24, i64 t_3339), (46, .bool false)], [.box [.bs false 3 (l_3344.length) 0 (l_3344.length), .bool f_3340, .bool f_3341, .bool f_3342] false, .box [.sl true (L cU8 ([])), .bool false, .bool false, .bool false] false, .buf 1 (L (cSl cU8) l_3343) false, .buf 1 (L cU8 l_3344) false], orcs_nil, by simp only [go_sem, reduceIte, Nat.reduceLT, Nat.reduceEqDiff, Nat.reduceAdd, Nat.reduceBEq, Nat.reduceMul, Nat.reduceSub, Nat.reduceGT, Nat.reducePow, Nat.reduceLeDiff, Int.reduceToNat, hb_3672], (weak_sel [0, 1, 2, 3] (by decide) rfl (by simp only [go_sem, reduceIte, Nat.reduceLT, Nat.reduceEqDiff, Nat.reduceAdd, Nat.reduceBEq, Nat.reduceMul, Nat.reduceSub, Nat.reduceGT, Nat.reducePow, Nat.reduceLeDiff, Int.reduceToNat]) (by simp only [go_sem, reduceIte, Nat.reduceLT, Nat.reduceEqDiff, Nat.reduceAdd, Nat.reduceBEq, Nat.reduceMul, Nat.reduceSub, Nat.reduceGT, Nat.reducePow, Nat.reduceLeDiff, Int.reduceToNat]))⟩
              refine run_condL (b := t_3670) rfl (by decide) (fun hb => ?_) (fun hb => ?_)
              · replace h := ite_t h hb
                replace h := bind_some1 h; obtain ⟨y_3675, hy_3676, h⟩ := h
                refine run_textE hE [2, 4, 5, 6, 10, 11, 22, 23, 24] (fr' := [(2, .ref 0 0), (4, .ref 1 0), (5, .bs false 2 (l_3343.length) 0 (l_3343.length)), (6, i64 bad_3338), (10, .sl false (L cU8 y_3675.1)), (11, .bool y_3675.2), (22, .sl false (L cU8 b_2629)), (23, i64 ((b_2629.length : Int))), (24, i64 t_3339)]) (σ' := [.box [.bs false 3 (l_3344.length) 0 (l_3344.length), .bool f_3340, .bool f_3341, .bool f_3342] false, .box [.sl true (L cU8 ([])), .bool false, .bool false, .bool false] false, .buf 1 (L (cSl cU8) l_3343) false, .buf 1 (L cU8 l_3344) true]) ⟨_, orcs_ok (l := [(49, 24, [.agg [.sl false (L cU8 l_3344), .bool f_3340, .bool f_3341, .bool f_3342]], .tup [.sl false (L cU8 y_3675.1), .bool y_3675.2])]) ⟨frame_content_con hy_3676, trivial⟩, ?_⟩ ?_
                · simp only [go_sem, reduceIte, Nat.reduceLT, Nat.reduceEqDiff, Nat.reduceAdd, Nat.reduceBEq, Nat.reduceMul, Nat.reduceSub, Nat.reduceGT, Nat.reducePow, Nat.reduceLeDiff, Int.reduceToNat]
                refine run_textE hE [2, 4, 5, 6, 10, 22, 23, 24, 52] (fr' := [(2, .ref 0 0), (4, .ref 1 0), (5, .bs false 2 (l_3343.length) 0 (l_3343.length)), (6, i64 bad_3338), (10, .sl false (L cU8 y_3675.1)), (22, .sl false (L cU8 b_2629)), (23, i64 ((b_2629.length : Int))), (24, i64 t_3339), (52, .bool y_3675.2)]) (σ' := [.box [.bs false 3 (l_3344.length) 0 (l_3344.length), .bool f_3340, .bool f_3341, .bool f_3342] false, .box [.sl true (L cU8 ([])), .bool false, .bool false, .bool false] false, .buf 1 (L (cSl cU8) l_3343) false, .buf 1 (L cU8 l_3344) true]) ⟨_, orcs_nil, ?_⟩ ?_
                · simp only [go_sem, reduceIte, Nat.reduceLT, Nat.reduceEqDiff, Nat.reduceAdd, Nat.reduceBEq, Nat.reduceMul, Nat.reduceSub, Nat.reduceGT, Nat.reducePow, Nat.reduceLeDiff, Int.reduceToNat]
                refine run_condL (b := y_3675.2) rfl (by decide) (fun hb => ?_) (fun hb => ?_)
                · replace h := ite_t h hb
                  replace h := chk_some h; obtain ⟨hc_3677, h⟩ := h
                  replace h := lt1_some h; obtain ⟨l_3678, hz_3679, h⟩ := h
                  refine run_textE0 hE wk_join [2, 4, 5, 6, 22, 23, 24] (fr' := [(2, .ref 0 0), (4, .ref 1 0), (5, .bs false 2 (l_3678.length) 0 (l_3678.length)), (6, i64 bad_3338), (22, .sl false (L cU8 b_2629)), (23, i64 ((b_2629.length : Int))), (24, i64 t_3339)]) (σ' := [.box [.bs false 3 (l_3344.length) 0 (l_3344.length), .bool f_3340, .bool f_3341, .bool f_3342] false, .box [.sl true (L cU8 ([])), .bool false, .bool false, .bool false] false, .buf 1 (L (cSl cU8) l_3678) false, .buf 1 (L cU8 l_3344) true, .buf 1 (L (cSl cU8) (([y_3675.1] : List (List UInt8)))) false]) ⟨_, orcs_nil, ?_⟩ ?_
                  · subst hz_3679; simp only [go_sem, reduceIte, Nat.reduceLT, Nat.reduceEqDiff, Nat.reduceAdd, Nat.reduceBEq, Nat.reduceMul, Nat.reduceSub, Nat.reduceGT, Nat.reducePow, Nat.reduceLeDiff, Int.reduceToNat, hc_3677]
                  obtain rfl := Option.some.inj h
                  exact joinK_n ((bad_3338, l_3678)) rfl (weak_sel [0, 1, 2, 3] (by decide) rfl (by simp only [go_sem, reduceIte, Nat.reduceLT, Nat.reduceEqDiff, Nat.reduceAdd, Nat.reduceBEq, Nat.reduceMul, Nat.reduceSub, Nat.reduceGT, Nat.reducePow, Nat.reduceLeDiff, Int.reduceToNat]) (by simp only [go_sem, reduceIte, Nat.reduceLT, Nat.reduceEqDiff, Nat.reduceAdd, Nat.reduceBEq, Nat.reduceMul, Nat.reduceSub, Nat.reduceGT, Nat.reducePow, Nat.reduceLeDiff, Int.reduceToNat]))
                · replace h := ite_f h hb
                  refine run_textE0 hE wk_join [2, 4, 5, 6, 22, 23, 24] (fr' := [(2, .ref 0 0), (4, .ref 1 0), (5, .bs false 2 (l_3343.length) 0 (l_3343.length)), (6, i64 ((w64 (bad_3338 + 1)))), (22, .sl false (L cU8 b_2629)), (23, i64 ((b_2629.length : Int))), (24, i64 t_3339)]) (σ' := [.box [.bs false 3 (l_3344.length) 0 (l_3344.length), .bool f_3340, .bool f_3341, .bool f_3342] false, .box [.sl true (L cU8 ([])), .bool false, .bool false, .bool false] false, .buf 1 (L (cSl cU8) l_3343) false, .buf 1 (L cU8 l_3344) true]) ⟨_, orcs_nil, ?_⟩ ?_
                  · simp only [go_sem, reduceIte, Nat.reduceLT, Nat.reduceEqDiff, Nat.reduceAdd, Nat.reduceBEq, Nat.reduceMul, Nat.reduceSub, Nat.reduceGT, Nat.reducePow, Nat.reduceLeDiff, Int.reduceToNat]
                  obtain rfl := Option.some.inj h
                  exact joinK_n (((w64 (bad_3338 + 1)), l_3343)) rfl (weak_sel [0, 1, 2, 3] (by decide) rfl (by simp only [go_sem, reduceIte, Nat.reduceLT, Nat.reduceEqDiff, Nat.reduceAdd, Nat.reduceBEq, Nat.reduceMul, Nat.reduceSub, Nat.reduceGT, Nat.reducePow, Nat.reduceLeDiff, Int.reduceToNat]) (by simp only [go_sem, reduceIte, Nat.reduceLT, Nat.reduceEqDiff, Nat.reduceAdd, Nat.reduceBEq, Nat.reduceMul, Nat.reduceSub, Nat.reduceGT, Nat.reducePow, Nat.reduceLeDiff, Int.reduceToNat]))
              · replace h := ite_f h hb
                refine run_skip ?_
                obtain rfl := Option.some.inj h
                exact joinK_n ((bad_3338, l_3343)) rfl ((weak_ro 3).trans (weak_sel [0, 1, 2, 3] (by decide) rfl (by simp only [go_sem, reduceIte, Nat.reduceLT, Nat.reduceEqDiff, Nat.reduceAdd, Nat.reduceBEq, Nat.reduceMul, Nat.reduceSub, Nat.reduceGT, Nat.reducePow, Nat.reduceLeDiff, Int.reduceToNat]) (by simp only [go_sem, reduceIte, Nat.reduceLT, Nat.reduceEqDiff, Nat.reduceAdd, Nat.reduceBEq, Nat.reduceMul, Nat.reduceSub, Nat.reduceGT, Nat.reducePow, Nat.reduceLeDiff, Int.reduceToNat])))
            rintro ⟨bad_3665, l_3666⟩ rfl
            have h := hj_3669; clear hj_3669
            refine run_textE hE [2, 4, 5, 6, 22, 23, 24] (fr' := [(2, .ref 0 0), (4, .ref 1 0), (5, .bs false 2 (l_3666.length) 0 (l_3666.length)), (6, i64 bad_3665), (22, .sl false (L cU8 b_2629)), (23, i64 ((b_2629.length : Int))), (24, i64 t_3339)]) (σ' := [.box [.sl true (L cU8 ([])), .bool true, .bool false, .bool false] false, .box [.sl true (L cU8 ([])), .bool false, .bool false, .bool false] false, .buf 1 (L (cSl cU8) l_3666) false, .buf 1 (L cU8 l_3344) true]) ⟨_, orcs_nil, ?_⟩ ?_
            · simp only [go_sem, reduceIte, Nat.reduceLT, Nat.reduceEqDiff, Nat.reduceAdd, Nat.reduceBEq, Nat.reduceMul, Nat.reduceSub, Nat.reduceGT, Nat.reducePow, Nat.reduceLeDiff, Int.reduceToNat]
            refine run_exit ?_
            refine blockK_o ?_ rfl
            refine joinK_x ?_
            replace h := bind_some1 h; obtain ⟨z_3680, h, e_z_3680⟩ := h
            obtain rfl := Option.some.inj e_z_3680
            obtain rfl := Option.some.inj hj_3654
            refine blockK_x ?_
            obtain rfl := Option.some.inj h
            exact joinK_n ((bad_3665, true, false, false, l_3666, [])) rfl ((weak_nil_box 0 0 1 rfl rfl).trans (weak_sel [0, 1, 2, 4] (by decide) rfl (by simp only [go_sem, reduceIte, Nat.reduceLT, Nat.reduceEqDiff, Nat.reduceAdd, Nat.reduceBEq, Nat.reduceMul, Nat.reduceSub, Nat.reduceGT, Nat.reducePow, Nat.reduceLeDiff, Int.reduceToNat]) (by simp only [go_sem, reduceIte, Nat.reduceLT, Nat.reduceEqDiff, Nat.reduceAdd, Nat.reduceBEq, Nat.reduceMul, Nat.reduceSub, Nat.reduceGT, Nat.reducePow, Nat.reduceLeDiff, Int.reduceToNat])))
          · replace h := ite_f h hb
            replace h := bind_some1 h; obtain ⟨t_3681, hv_3682, h⟩ := h
            refine run_textW hE [2, 4, 5, 6, 9, 22, 23, 24, 60] (fr' := [(2, .ref 0 0), (4, .ref 1 0), (5, .bs false 2 (l_3343.length) 0 (l_3343.length)), (6, i64 bad_3338), (9, u8 (nth b_2629 t_3339.toNat)), (22, .sl false (L cU8 b_2629)), (23, i64 ((b_2629.length : Int))), (24, i64 t_3339), (60, .bool t_3681)]) (σ' := [.box [.bs false 3 (l_3344.length) 0 (l_3344.length), .bool f_3340, .bool f_3341, .bool f_3342] false, .box [.sl true (L cU8 ([])), .bool false, .bool false, .bool false] false, .buf 1 (L (cSl cU8) l_3343) false, .buf 1 (L cU8 l_3344) false]) ?_ ?_
            · rcases Bool.eq_false_or_eq_true ((!f_3340)) with hb_3683 | hb_3683
              · replace hv_3682 := ite_t hv_3682 hb_3683
                have e_hv_3682 := Option.some.inj hv_3682; subst e_hv_3682
                exact ⟨_, [(2, .ref 0 0), (4, .ref 1 0), (5, .bs false 2 (l_3343.length) 0 (l_3343.length)), (6, i64 bad_3338), (9, u8 (nth b_2629 t_3339.toNat)), (22, .sl false (L cU8 b_2629)), (23, i64 ((b_2629.length : Int))), (24, i64 t_3339), (60, .bool true)], [.box [.bs false 3 (l_3344.length) 0 (l_3344.length), .bool f_3340, .bool f_3341, .bool f_3342] false, .box [.sl true (L cU8 ([])), .bool false, .bool false, .bool false] false, .buf 1 (L (cSl cU8) l_3343) false, .buf 1 (L cU8 l_3344) false], orcs_nil, by simp only [go_sem, reduceIte, Nat.reduceLT, Nat.reduceEqDiff, Nat.reduceAdd, Nat.reduceBEq, Nat.reduceMul, Nat.reduceSub, Nat.reduceGT, Nat.reducePow, Nat.reduceLeDiff, Int.reduceToNat, hb_3683], (weak_sel [0, 1, 2, 3] (by decide) rfl (by simp only [go_sem, reduceIte, Nat.reduceLT, Nat.reduceEqDiff, Nat.reduceAdd, Nat.reduceBEq, Nat.reduceMul, Nat.reduceSub, Nat.reduceGT, Nat.reducePow, Nat.reduceLeDiff, Int.reduceToNat]) (by simp only [go_sem, reduceIte, Nat.reduceLT, Nat.reduceEqDiff, Nat.reduceAdd, Nat.reduceBEq, Nat.reduceMul, Nat.reduceSub, Nat.reduceGT, Nat.reducePow, Nat.reduceLeDiff, Int.reduceToNat]))⟩
              · replace hv_3682 := ite_f hv_3682 hb_3683
                have e_hv_3682 := Option.some.inj hv_3682; subst e_hv_3682
                exact ⟨_, [(2, .ref 0 0), (4, .ref 1 0), (5, .bs false 2 (l_3343.length) 0 (l_3343.length)), (6, i64 bad_3338), (9, u8 (nth b_2629 t_3339.toNat)), (22, .sl false (L cU8 b_2629)), (23, i64 ((b_2629.length : Int))), (24, i64 t_3339), (60, .bool f_3342)], [.box [.bs false 3 (l_3344.length) 0 (l_3344.length), .bool f_3340, .bool f_3341, .bool f_3342] false, .box [.sl true (L cU8 ([])), .bool false, .bool false, .bool false] false, .buf 1 (L (cSl cU8) l_3343) false, .buf 1 (L cU8 l_3344) false], orcs_nil, by simp only [go_sem, reduceIte, Nat.reduceLT, Nat.reduceEqDiff, Nat.reduceAdd, Nat.reduceBEq, Nat.reduceMul, Nat.reduceSub, Nat.reduceGT, Nat.reducePow, Nat.reduceLeDiff, Int.reduceToNat, hb_3683], (weak_sel [0, 1, 2, 3] (by decide) rfl (by simp only [go_sem, reduceIte, Nat.reduceLT, Nat.reduceEqDiff, Nat.reduceAdd, Nat.reduceBEq, Nat.reduceMul, Nat.reduceSub, Nat.reduceGT, Nat.reducePow, Nat.reduceLeDiff, Int.reduceToNat]) (by simp only [go_sem, reduceIte, Nat.reduceLT, Nat.reduceEqDiff, Nat.reduceAdd, Nat.reduceBEq, Nat.reduceMul, Nat.reduceSub, Nat.reduceGT, Nat.reducePow, Nat.reduceLeDiff, Int.reduceToNat]))⟩
            refine run_condL (b := t_3681) rfl (by decide) (fun hb => ?_) (fun hb => ?_)
            · replace h := ite_t h hb
              refine run_exit ?_
              refine blockK_o ?_ rfl
              refine joinK_x ?_
              replace h := bind_some1 h; obtain ⟨z_3684, h, e_z_3684⟩ := h
              obtain rfl := Option.some.inj e_z_3684
              obtain rfl := Option.some.inj hj_3654
              refine blockK_x ?_
              obtain rfl := Option.some.inj h
              exact joinK_n ((bad_3338, f_3340, f_3341, f_3342, l_3343, l_3344)) rfl (weak_sel [0, 1, 2, 3] (by decide) rfl (by simp only [go_sem, reduceIte, Nat.reduceLT, Nat.reduceEqDiff, Nat.reduceAdd, Nat.reduceBEq, Nat.reduceMul, Nat.reduceSub, Nat.reduceGT, Nat.reducePow, Nat.reduceLeDiff, Int.reduceToNat]) (by simp only [go_sem, reduceIte, Nat.reduceLT, Nat.reduceEqDiff, Nat.reduceAdd, Nat.reduceBEq, Nat.reduceMul, Nat.reduceSub, Nat.reduceGT, Nat.reducePow, Nat.reduceLeDiff, Int.reduceToNat]))
            · replace h := ite_f h hb
              replace h := bind_some1 h; obtain ⟨t_3685, hv_3686, h⟩ := h
              refine run_textW hE [2, 4, 5, 6, 9, 22, 23, 24, 68] (fr' := [(2, .ref 0 0), (4, .ref 1 0), (5, .bs false 2 (l_3343.length) 0 (l_3343.length)), (6, i64 bad_3338), (9, u8 (nth b_2629 t_3339.toNat)), (22, .sl false (L cU8 b_2629)), (23, i64 ((b_2629.length : Int))), (24, i64 t_3339), (68, .bool t_3685)]) (σ' := [.box [.bs false 3 (l_3344.length) 0 (l_3344.length), .bool f_3340, .bool f_3341, .bool f_3342] false, .box [.sl true (L cU8 ([])), .bool false, .bool false, .bool false] false, .buf 1 (L (cSl cU8) l_3343) false, .buf 1 (L cU8 l_3344) false]) ?_ ?_
              · rcases Bool.eq_false_or_eq_true ((nth b_2629 t_3339.toNat == (125 : UInt8))) with hb_3687 | hb_3687
                · replace hv_3686 := ite_t hv_3686 hb_3687
                  have e_hv_3686 := Option.some.inj hv_3686; subst e_hv_3686
                  exact ⟨_, [(2, .ref 0 0), (4, .ref 1 0), (5, .bs false 2 (l_3343.length) 0 (l_3343.length)), (6, i64 bad_3338), (9, u8 (nth b_2629 t_3339.toNat)), (22, .sl false (L cU8 b_2629)), (23, i64 ((b_2629.length : Int))), (24, i64 t_3339), (68, .bool ((!f_3341)))], [.box [.bs false 3 (l_3344.length) 0 (l_3344.length), .bool f_3340, .bool f_3341, .bool f_3342] false, .box [.sl true (L cU8 ([])), .bool false, .bool false, .bool false] false, .buf 1 (L (cSl cU8) l_3343) false, .buf 1 (L cU8 l_3344) false], orcs_nil, by simp only [go_sem, reduceIte, Nat.reduceLT, Nat.reduceEqDiff, Nat.reduceAdd, Nat.reduceBEq, Nat.reduceMul, Nat.reduceSub, Nat.reduceGT, Nat.reducePow, Nat.reduceLeDiff, Int.reduceToNat, hb_3687], (weak_sel [0, 1, 2, 3] (by decide) rfl (by simp only [go_sem, reduceIte, Nat.reduceLT, Nat.reduceEqDiff, Nat.reduceAdd, Nat.reduceBEq, Nat.reduceMul, Nat.reduceSub, Nat.reduceGT, Nat.reducePow, Nat.reduceLeDiff, Int.reduceToNat]) (by simp only [go_sem, reduceIte, Nat.reduceLT, Nat.reduceEqDiff, Nat.reduceAdd, Nat.reduceBEq, Nat.reduceMul, Nat.reduceSub, Nat.reduceGT, Nat.reducePow, Nat.reduceLeDiff, Int.reduceToNat]))⟩
                · replace hv_3686 := ite_f hv_3686 hb_3687
                  have e_hv_3686 := Option.some.inj hv_3686; subst e_hv_3686
                  exact ⟨_, [(2, .ref 0 0), (4, .ref 1 0), (5, .bs false 2 (l_3343.length) 0 (l_3343.length)), (6, i64 bad_3338), (9, u8 (nth b_2629 t_3339.toNat)), (22, .sl false (L cU8 b_2629)), (23, i64 ((b_2629.length : Int))), (24, i64 t_3339), (68, .bool false)], [.box [.bs false 3 (l_3344.length) 0 (l_3344.length), .bool f_3340, .bool f_3341, .bool f_3342] false, .box [.sl true (L cU8 ([])), .bool false, .bool false, .bool false] false, .buf 1 (L (cSl cU8) l_3343) false, .buf 1 (L cU8 l_3344) false], orcs_nil, by simp only [go_sem, reduceIte, Nat.reduceLT, Nat.reduceEqDiff, Nat.reduceAdd, Nat.reduceBEq, Nat.reduceMul, Nat.reduceSub, Nat.reduceGT, Nat.reducePow, Nat.reduceLeDiff, Int.reduceToNat, hb_3687], (weak_sel [0, 1, 2, 3] (by decide) rfl (by simp only [go_sem, reduceIte, Nat.reduceLT, Nat.reduceEqDiff, Nat.reduceAdd, Nat.reduceBEq, Nat.reduceMul, Nat.reduceSub, Nat.reduceGT, Nat.reducePow, Nat.reduceLeDiff, Int.reduceToNat]) (by simp only [go_sem, reduceIte, Nat.reduceLT, Nat.reduceEqDiff, Nat.reduceAdd, Nat.reduceBEq, Nat.reduceMul, Nat.reduceSub, Nat.reduceGT, Nat.reducePow, Nat.reduceLeDiff, Int.reduceToNat]))⟩
              refine run_condL (b := t_3685) rfl (by decide) (fun hb => ?_) (fun hb => ?_)
              · replace h := ite_t h hb
                refine run_textE hE [2, 4, 5, 6, 22, 23, 24] (fr' := [(2, .ref 0 0), (4, .ref 1 0), (5, .bs false 2 (l_3343.length) 0 (l_3343.length)), (6, i64 bad_3338), (22, .sl false (L cU8 b_2629)), (23, i64 ((b_2629.length : Int))), (24, i64 t_3339)]) (σ' := [.box [.bs false 3 (l_3344.length) 0 (l_3344.length), .bool f_3340, .bool true, .bool f_3342] false, .box [.sl true (L cU8 ([])), .bool false, .bool false, .bool false] false, .buf 1 (L (cSl cU8) l_3343) false, .buf 1 (L cU8 l_3344) false]) ⟨_, orcs_nil, ?_⟩ ?_
                · simp only [go_sem, reduceIte, Nat.reduceLT, Nat.reduceEqDiff, Nat.reduceAdd, Nat.reduceBEq, Nat.reduceMul, Nat.reduceSub, Nat.reduceGT, Nat.reducePow, Nat.reduceLeDiff, Int.reduceToNat]
                refine run_exit ?_
                refine blockK_o ?_ rfl
                refine joinK_x ?_
                replace h := bind_some1 h; obtain ⟨z_3688, h, e_z_3688⟩ := h
                obtain rfl := Option.some.inj e_z_3688
                obtain rfl := Option.some.inj hj_3654
                refine blockK_x ?_
                obtain rfl := Option.some.inj h
                exact joinK_n ((bad_3338, f_3340, true, f_3342, l_3343, l_3344)) rfl (weak_sel [0, 1, 2, 3] (by decide) rfl (by simp only [go_sem, reduceIte, Nat.reduceLT, Nat.reduceEqDiff, Nat.reduceAdd, Nat.reduceBEq, Nat.reduceMul, Nat.reduceSub, Nat.reduceGT, Nat.reducePow, Nat.reduceLeDiff, Int.reduceToNat]) (by simp only [go_sem, reduceIte, Nat.reduceLT, Nat.reduceEqDiff, Nat.reduceAdd, Nat.reduceBEq, Nat.reduceMul, Nat.reduceSub, Nat.reduceGT, Nat.reducePow, Nat.reduceLeDiff, Int.reduceToNat]))
              · replace h := ite_f h hb
                refine run_textE hE [2, 4, 5, 6, 9, 22, 23, 24, 77] (fr' := [(2, .ref 0 0), (4, .ref 1 0), (5, .bs false 2 (l_3343.length) 0 (l_3343.length)), (6, i64 bad_3338), (9, u8 (nth b_2629 t_3339.toNat)), (22, .sl false (L cU8 b_2629)), (23, i64 ((b_2629.length : Int))), (24, i64 t_3339), (77, .bool f_3341)]) (σ' := [.box [.bs false 3 (l_3344.length) 0 (l_3344.length), .bool f_3340, .bool f_3341, .bool f_3342] false, .box [.sl true (L cU8 ([])), .bool false, .bool false, .bool false] false, .buf 1 (L (cSl cU8) l_3343) false, .buf 1 (L cU8 l_3344) false]) ⟨_, orcs_nil, ?_⟩ ?_
                · simp only [go_sem, reduceIte, Nat.reduceLT, Nat.reduceEqDiff, Nat.reduceAdd, Nat.reduceBEq, Nat.reduceMul, Nat.reduceSub, Nat.reduceGT, Nat.reducePow, Nat.reduceLeDiff, Int.reduceToNat]
                refine run_condL (b := f_3341) rfl (by decide) (fun hb => ?_) (fun hb => ?_)
                · replace h := ite_t h hb
                  replace h := lt1_some h; obtain ⟨c_3689, hz_3690, h⟩ := h
                  refine run_textE0 hE (wk_block wk_join) [2, 4, 5, 6, 9, 22, 23, 24] (fr' := [(2, .ref 0 0), (4, .ref 1 0), (5, .bs false 2 (l_3343.length) 0 (l_3343.length)), (6, i64 bad_3338), (9, u8 c_3689), (22, .sl false (L cU8 b_2629)), (23, i64 ((b_2629.length : Int))), (24, i64 t_3339)]) (σ' := [.box [.bs false 3 (l_3344.length) 0 (l_3344.length), .bool f_3340, .bool f_3341, .bool f_3342] false, .box [.sl true (L cU8 ([])), .bool false, .bool false, .bool false] false, .buf 1 (L (cSl cU8) l_3343) false, .buf 1 (L cU8 l_3344) false]) ⟨_, orcs_nil, ?_⟩ ?_
                  · subst hz_3690; simp only [go_sem, reduceIte, Nat.reduceLT, Nat.reduceEqDiff, Nat.reduceAdd, Nat.reduceBEq, Nat.reduceMul, Nat.reduceSub, Nat.reduceGT, Nat.reducePow, Nat.reduceLeDiff, Int.reduceToNat]
                  refine blockK_n ?_
                  obtain rfl := Option.some.inj h
                  exact joinK_n c_3689 rfl (weak_sel [0, 1, 2, 3] (by decide) rfl (by simp only [go_sem, reduceIte, Nat.reduceLT, Nat.reduceEqDiff, Nat.reduceAdd, Nat.reduceBEq, Nat.reduceMul, Nat.reduceSub, Nat.reduceGT, Nat.reducePow, Nat.reduceLeDiff, Int.reduceToNat]) (by simp only [go_sem, reduceIte, Nat.reduceLT, Nat.reduceEqDiff, Nat.reduceAdd, Nat.reduceBEq, Nat.reduceMul, Nat.reduceSub, Nat.reduceGT, Nat.reducePow, Nat.reduceLeDiff, Int.reduceToNat]))
                · replace h := ite_f h hb
                  refine run_skip ?_
                  refine blockK_n ?_
                  obtain rfl := Option.some.inj h
                  exact joinK_n (nth b_2629 t_3339.toNat) rfl (weak_sel [0, 1, 2, 3] (by decide) rfl (by simp only [go_sem, reduceIte, Nat.reduceLT, Nat.reduceEqDiff, Nat.reduceAdd, Nat.reduceBEq, Nat.reduceMul, Nat.reduceSub, Nat.reduceGT, Nat.reducePow, Nat.reduceLeDiff, Int.reduceToNat]) (by simp only [go_sem, reduceIte, Nat.reduceLT, Nat.reduceEqDiff, Nat.reduceAdd, Nat.reduceBEq, Nat.reduceMul, Nat.reduceSub, Nat.reduceGT, Nat.reducePow, Nat.reduceLeDiff, Int.reduceToNat]))
        rintro c_3651 rfl
        have h := hj_3654; clear hj_3654
        refine run_textE hE [2, 4, 5, 6, 9, 22, 23, 24] (fr' := [(2, .ref 0 0), (4, .ref 1 0), (5, .bs false 2 (l_3343.length) 0 (l_3343.length)), (6, i64 bad_3338), (9, u8 c_3651), (22, .sl false (L cU8 b_2629)), (23, i64 ((b_2629.length : Int))), (24, i64 t_3339)]) (σ' := [.box [.bs false 3 (l_3344.length) 0 (l_3344.length), .bool f_3340, .bool false, .bool f_3342] false, .box [.sl true (L cU8 ([])), .bool false, .bool false, .bool false] false, .buf 1 (L (cSl cU8) l_3343) false, .buf 1 (L cU8 l_3344) false]) ⟨_, orcs_nil, ?_⟩ ?_
        · simp only [go_sem, reduceIte, Nat.reduceLT, Nat.reduceEqDiff, Nat.reduceAdd, Nat.reduceBEq, Nat.reduceMul, Nat.reduceSub, Nat.reduceGT, Nat.reducePow, Nat.reduceLeDiff, Int.reduceToNat]
        refine run_seq ?_
        refine run_textE hE [2, 4, 5, 6, 9, 22, 23, 24, 86] (fr' := [(2, .ref 0 0), (4, .ref 1 0), (5, .bs false 2 (l_3343.length) 0 (l_3343.length)), (6, i64 bad_3338), (9, u8 c_3651), (22, .sl false (L cU8 b_2629)), (23, i64 ((b_2629.length : Int))), (24, i64 t_3339), (86, .bool ((decide ((l_3344.length : Int) ≥ 8196))))]) (σ' := [.box [.bs false 3 (l_3344.length) 0 (l_3344.length), .bool f_3340, .bool false, .bool f_3342] false, .box [.sl true (L cU8 ([])), .bool false, .bool false, .bool false] false, .buf 1 (L (cSl cU8) l_3343) false, .buf 1 (L cU8 l_3344) false]) ⟨_, orcs_nil, ?_⟩ ?_
        · simp only [go_sem, reduceIte, Nat.reduceLT, Nat.reduceEqDiff, Nat.reduceAdd, Nat.reduceBEq, Nat.reduceMul, Nat.reduceSub, Nat.reduceGT, Nat.reducePow, Nat.reduceLeDiff, Int.reduceToNat]
        refine run_condL (b := (decide ((l_3344.length : Int) ≥ 8196))) rfl (by decide) (fun hb => ?_) (fun hb => ?_)
        · replace h := ite_t h hb
          refine run_textE hE [2, 4, 5, 6, 22, 23, 24] (fr' := [(2, .ref 0 0), (4, .ref 1 0), (5, .bs false 2 (l_3343.length) 0 (l_3343.length)), (6, i64 bad_3338), (22, .sl false (L cU8 b_2629)), (23, i64 ((b_2629.length : Int))), (24, i64 t_3339)]) (σ' := [.box [.sl true (L cU8 ([])), .bool f_3340, .bool false, .bool true] false, .box [.sl true (L cU8 ([])), .bool false, .bool false, .bool false] false, .buf 1 (L (cSl cU8) l_3343) false, .buf 1 (L cU8 l_3344) false]) ⟨_, orcs_nil, ?_⟩ ?_
          · simp only [go_sem, reduceIte, Nat.reduceLT, Nat.reduceEqDiff, Nat.reduceAdd, Nat.reduceBEq, Nat.reduceMul, Nat.reduceSub, Nat.reduceGT, Nat.reducePow, Nat.reduceLeDiff, Int.reduceToNat]
          refine run_exit ?_
          refine thenK_x ?_
          refine blockK_x ?_
          obtain rfl := Option.some.inj h
          exact joinK_n ((bad_3338, f_3340, false, true, l_3343, [])) rfl ((weak_nil_box 0 0 1 rfl rfl).trans (weak_sel [0, 1, 2, 4] (by decide) rfl (by simp only [go_sem, reduceIte, Nat.reduceLT, Nat.reduceEqDiff, Nat.reduceAdd, Nat.reduceBEq, Nat.reduceMul, Nat.reduceSub, Nat.reduceGT, Nat.reducePow, Nat.reduceLeDiff, Int.reduceToNat]) (by simp only [go_sem, reduceIte, Nat.reduceLT, Nat.reduceEqDiff, Nat.reduceAdd, Nat.reduceBEq, Nat.reduceMul, Nat.reduceSub, Nat.reduceGT, Nat.reducePow, Nat.reduceLeDiff, Int.reduceToNat])))
        · replace h := ite_f h hb
          refine run_skip ?_
          refine thenK_n ?_
          replace h := chk_some h; obtain ⟨hc_3691, h⟩ := h
          replace h := lt1_some h; obtain ⟨l_3692, hz_3693, h⟩ := h
          refine run_textE0 hE (wk_block wk_join) [2, 4, 5, 6, 22, 23, 24] (fr' := [(2, .ref 0 0), (4, .ref 1 0), (5, .bs false 2 (l_3343.length) 0 (l_3343.length)), (6, i64 bad_3338), (22, .sl false (L cU8 b_2629)), (23, i64 ((b_2629.length : Int))), (24, i64 t_3339)]) (σ' := [.box [.bs false 3 (l_3692.length) 0 (l_3692.length), .bool f_3340, .bool false, .bool f_3342] false, .box [.sl true (L cU8 ([])), .bool false, .bool false, .bool false] false, .buf 1 (L (cSl cU8) l_3343) false, .buf 1 (L cU8 l_3692) false, .buf 1 (L cU8 (([c_3651] : List UInt8))) false]) ⟨_, orcs_nil, ?_⟩ ?_
          · subst hz_3693; simp only [go_sem, reduceIte, Nat.reduceLT, Nat.reduceEqDiff, Nat.reduceAdd, Nat.reduceBEq, Nat.reduceMul, Nat.reduceSub, Nat.reduceGT, Nat.reducePow, Nat.reduceLeDiff, Int.reduceToNat, hc_3691]
          refine blockK_n ?_
          obtain rfl := Option.some.inj h
          exact joinK_n ((bad_3338, f_3340, false, f_3342, l_3343, l_3692)) rfl (weak_sel [0, 1, 2, 3] (by decide) rfl (by simp only [go_sem, reduceIte, Nat.reduceLT, Nat.reduceEqDiff, Nat.reduceAdd, Nat.reduceBEq, Nat.reduceMul, Nat.reduceSub, Nat.reduceGT, Nat.reducePow, Nat.reduceLeDiff, Int.reduceToNat]) (by simp only [go_sem, reduceIte, Nat.reduceLT, Nat.reduceEqDiff, Nat.reduceAdd, Nat.reduceBEq, Nat.reduceMul, Nat.reduceSub, Nat.reduceGT, Nat.reducePow, Nat.reduceLeDiff, Int.reduceToNat]))
      rintro ⟨bad_3605, f_3606, f_3607, f_3608, l_3609, l_3610⟩ rfl
      have h := hj_3613; clear hj_3613
      refine run_textE0 hE wk_lp [2, 4, 5, 6, 22, 23, 24] (fr' := [(2, .ref 0 0), (4, .ref 1 0), (5, .bs false 2 (l_3609.length) 0 (l_3609.length)), (6, i64 bad_3605), (22, .sl false (L cU8 b_2629)), (23, i64 ((b_2629.length : Int))), (24, i64 ((w64 (t_3339 + 1))))]) (σ' := [.box [.bs false 3 (l_3610.length) 0 (l_3610.length), .bool f_3606, .bool f_3607, .bool f_3608] false, .box [.sl true (L cU8 ([])), .bool false, .bool false, .bool false] false, .buf 1 (L (cSl cU8) l_3609) false, .buf 1 (L cU8 l_3610) false]) ⟨_, orcs_nil, ?_⟩ ?_
      · simp only [go_sem, reduceIte, Nat.reduceLT, Nat.reduceEqDiff, Nat.reduceAdd, Nat.reduceBEq, Nat.reduceMul, Nat.reduceSub, Nat.reduceGT, Nat.reducePow, Nat.reduceLeDiff, Int.reduceToNat]
      obtain rfl := Option.some.inj h
      exact lpK_n ((bad_3605, (w64 (t_3339 + 1)), f_3606, f_3607, f_3608, l_3609, l_3610)) rfl (weak_sel [0, 1, 2, 3] (by decide) rfl (by simp only [go_sem, reduceIte, Nat.reduceLT, Nat.reduceEqDiff, Nat.reduceAdd, Nat.reduceBEq, Nat.reduceMul, Nat.reduceSub, Nat.reduceGT, Nat.reducePow, Nat.reduceLeDiff, Int.reduceToNat]) (by simp only [go_sem, reduceIte, Nat.reduceLT, Nat.reduceEqDiff, Nat.reduceAdd, Nat.reduceBEq, Nat.reduceMul, Nat.reduceSub, Nat.reduceGT, Nat.reducePow, Nat.reduceLeDiff, Int.reduceToNat]))
    · replace h := ite_f h hb
      refine run_exit ?_
      refine thenK_x ?_
      obtain rfl := Option.some.inj h
      have ex_x_3520 := hxx_3524 _ rfl
      subst ex_x_3520
      have h := hj_3522; clear hj_3522
      refine lpK_x ?_
      refine blockK_x ?_
      obtain rfl := Option.some.inj h
      exact joinK_n ((bad_3338, f_3340, f_3341, f_3342, l_3343, l_3344)) rfl ((weak_sel (l' := [(2, .ref 0 0), (4, .ref 1 0), (5, .bs false 2 (l_3343.length) 0 (l_3343.length)), (6, i64 bad_3338)]) (σ' := [.box [.bs false 3 (l_3344.length) 0 (l_3344.length), .bool f_3340, .bool f_3341, .bool f_3342] false, .box [.sl true (L cU8 ([])), .bool false, .bool false, .bool false] false, .buf 1 (L (cSl cU8) l_3343) false, .buf 1 (L cU8 l_3344) false]) [0, 1, 2, 3] (by decide) rfl (by simp only [go_sem, reduceIte, Nat.reduceLT, Nat.reduceEqDiff, Nat.reduceAdd, Nat.reduceBEq, Nat.reduceMul, Nat.reduceSub, Nat.reduceGT, Nat.reducePow, Nat.reduceLeDiff, Int.reduceToNat]) (by simp only [go_sem, reduceIte, Nat.reduceLT, Nat.reduceEqDiff, Nat.reduceAdd, Nat.reduceBEq, Nat.reduceMul, Nat.reduceSub, Nat.reduceGT, Nat.reducePow, Nat.reduceLeDiff, Int.reduceToNat])).trans (weak_sel [0, 1, 2, 3] (by decide) rfl (by simp only [go_sem, reduceIte, Nat.reduceLT, Nat.reduceEqDiff, Nat.reduceAdd, Nat.reduceBEq, Nat.reduceMul, Nat.reduceSub, Nat.reduceGT, Nat.reducePow, Nat.reduceLeDiff, Int.reduceToNat]) (by simp only [go_sem, reduceIte, Nat.reduceLT, Nat.reduceEqDiff, Nat.reduceAdd, Nat.reduceBEq, Nat.reduceMul, Nat.reduceSub, Nat.reduceGT, Nat.reducePow, Nat.reduceLeDiff, Int.reduceToNat])))
  rintro ⟨bad_3160, f_3161, f_3162, f_3163, l_3164, l_3165⟩ rfl
  have h := hj_3168; clear hj_3168
  refine run_textE hE [4, 5, 6] (fr' := [(4, .ref 1 0), (5, .bs false 2 (l_3164.length) 0 (l_3164.length)), (6, i64 bad_3160)]) (σ' := [.box [.bs false 3 (l_3165.length) 0 (l_3165.length), .bool f_3161, .bool f_3162, .bool f_3163] false, .box [.bs false 3 (l_3165.length) 0 (l_3165.length), .bool f_3161, .bool f_3162, .bool f_3163] false, .buf 1 (L (cSl cU8) l_3164) false, .buf 1 (L cU8 l_3165) false]) ⟨_, orcs_nil, ?_⟩ ?_
  · simp only [go_sem, reduceIte, Nat.reduceLT, Nat.reduceEqDiff, Nat.reduceAdd, Nat.reduceBEq, Nat.reduceMul, Nat.reduceSub, Nat.reduceGT, Nat.reducePow, Nat.reduceLeDiff, Int.reduceToNat]
  refine run_ret ?_
  refine scopeK_r ?_
  obtain rfl := Option.some.inj h
  refine ret_ok (.inr rfl) ?_
  simp only [go_sem, reduceIte, Nat.reduceLT, Nat.reduceEqDiff, Nat.reduceAdd, Nat.reduceBEq, Nat.reduceMul, Nat.reduceSub, Nat.reduceGT, Nat.reducePow, Nat.reduceLeDiff, Int.reduceToNat]

end Go.Proofs.Ytneejmndnihaoaa
