/-
  The functions compute just that.
-/
import Derived.Test.YtneejmndnihaoaaGW2
import Derived.KernelRfl
namespace Go.Proofs.Ytneejmndnihaoaa
open Go.Rv
set_option linter.unusedVariables false
set_option linter.unusedSimpArgs false

theorem frame_Make_con {b_1532 : List UInt8} {r : List UInt8 × Int} (h : frame_Make b_1532 = some r) : Con B 11 [.sl false (L cU8 b_1532)] [] (fun r' σ' => r' = .tup [.sl false (L cU8 r.1), i64 r.2] ∧ σ' = []) := by
  refine con_walk (N := 53) (rs := [.tmp 2, .tmp 3]) ok Try.func11 rfl (by decide +kernel) rfl rfl (Nat.le_of_ble_eq_true rfl) (fun F => ?_)
  have hE := ok.env F
  unfold frame_Make at h
  show Run (B.env F) 0 _ ⟨asFr 53 [(0, .sl false (L cU8 b_1532))], []⟩ _
  refine run_textE hE [0] (fr' := [(0, .sl false (L cU8 b_1532))]) (σ' := []) ⟨_, orcs_nil, ?_⟩ ?_
  · simp only [go_sem, reduceIte, Nat.reduceLT, Nat.reduceEqDiff, Nat.reduceAdd, Nat.reduceBEq, Nat.reduceMul, Nat.reduceSub, Nat.reduceGT, Nat.reducePow, Nat.reduceLeDiff, Int.reduceToNat]
  refine run_seq ?_
  refine run_textE hE [0, 11] (fr' := [(0, .sl false (L cU8 b_1532)), (11, .bool ((decide ((b_1532.length : Int) > 8192))))]) (σ' := []) ⟨_, orcs_nil, ?_⟩ ?_
  · simp only [go_sem, reduceIte, Nat.reduceLT, Nat.reduceEqDiff, Nat.reduceAdd, Nat.reduceBEq, Nat.reduceMul, Nat.reduceSub, Nat.reduceGT, Nat.reducePow, Nat.reduceLeDiff, Int.reduceToNat]
  refine run_condL (b := (decide ((b_1532.length : Int) > 8192))) rfl (by decide) (fun hb => ?_) (fun hb => ?_)
  · replace h := ite_t h hb
    refine run_textE hE [2, 3] (fr' := [(2, .sl true (L cU8 ([]))), (3, i64 2)]) (σ' := []) ⟨_, orcs_nil, ?_⟩ ?_
    · simp only [go_sem, reduceIte, Nat.reduceLT, Nat.reduceEqDiff, Nat.reduceAdd, Nat.reduceBEq, Nat.reduceMul, Nat.reduceSub, Nat.reduceGT, Nat.reducePow, Nat.reduceLeDiff, Int.reduceToNat]
    refine run_ret ?_
    refine thenK_r ?_
    obtain rfl := Option.some.inj h
    refine ret_ok (.inr rfl) ?_
    simp only [go_sem, reduceIte, Nat.reduceLT, Nat.reduceEqDiff, Nat.reduceAdd, Nat.reduceBEq, Nat.reduceMul, Nat.reduceSub, Nat.reduceGT, Nat.reducePow, Nat.reduceLeDiff, Int.reduceToNat]
  · replace h := ite_f h hb
    refine run_skip ?_
    refine thenK_n ?_
    replace h := chk_some h; obtain ⟨hc_1533, h⟩ := h
    replace h := lt1_some h; obtain ⟨l_1534, hz_1535, h⟩ := h
    refine run_textE hE [0, 4] (fr' := [(0, .sl false (L cU8 b_1532)), (4, .bs ((1 == (w64 ((b_1532.length : Int) + 6)))) 0 (l_1534.length) 0 (l_1534.length))]) (σ' := [.buf 1 (L cU8 l_1534) false]) ⟨_, orcs_nil, ?_⟩ ?_
    · subst hz_1535; simp only [go_sem, reduceIte, Nat.reduceLT, Nat.reduceEqDiff, Nat.reduceAdd, Nat.reduceBEq, Nat.reduceMul, Nat.reduceSub, Nat.reduceGT, Nat.reducePow, Nat.reduceLeDiff, Int.reduceToNat, hc_1533]
    replace h := chk_some h; obtain ⟨hc_1536, h⟩ := h
    replace h := lt1_some h; obtain ⟨l_1537, hz_1538, h⟩ := h
    refine run_textE hE [0, 4] (fr' := [(0, .sl false (L cU8 b_1532)), (4, .bs ((1 == (w64 ((b_1532.length : Int) + 6)))) 0 (l_1537.length) 0 (l_1537.length))]) (σ' := [.buf 1 (L cU8 l_1537) false]) ⟨_, orcs_nil, ?_⟩ ?_
    · subst hz_1538; simp only [go_sem, reduceIte, Nat.reduceLT, Nat.reduceEqDiff, Nat.reduceAdd, Nat.reduceBEq, Nat.reduceMul, Nat.reduceSub, Nat.reduceGT, Nat.reducePow, Nat.reduceLeDiff, Int.reduceToNat, hc_1536, (show 0 < l_1534.length from hc_1536.2)]
    replace h := bind_some1 h; obtain ⟨j_2042, hA_2043, hj_2044⟩ := h
    refine run_join (fun (v : List UInt8) => (⟨asFr 53 [(4, .bs false 0 (v.length) 0 (v.length))], [.buf 1 (L cU8 v) false]⟩ : St)) (fun v => v = j_2042) ?_ ?_
    · have h := hA_2043; clear hA_2043
      replace h := bind_some1 h; obtain ⟨y_2045, hy_2046, h⟩ := h
      replace h := lt1_some h; obtain ⟨l_2047, hz_2048, h⟩ := h
      refine run_textE hE [4, 21, 22, 23] (fr' := [(4, .bs ((1 == (w64 ((b_1532.length : Int) + 6)))) 0 (l_1537.length) 0 (l_1537.length)), (21, .bs true 1 (l_2047.length) 0 (l_2047.length)), (22, i64 (((([b_1532, y_2045] : List (List UInt8))).length : Int))), (23, i64 0)]) (σ' := [.buf 1 (L cU8 l_1537) false, .buf 1 (L (cSl cU8) l_2047) false]) ⟨_, orcs_ok (l := [(20, 23, [.sl false (L cU8 b_1532)], .sl false (L cU8 y_2045))]) ⟨frame_seal_con hy_2046, trivial⟩, ?_⟩ ?_
      · subst hz_2048; simp only [go_sem, reduceIte, Nat.reduceLT, Nat.reduceEqDiff, Nat.reduceAdd, Nat.reduceBEq, Nat.reduceMul, Nat.reduceSub, Nat.reduceGT, Nat.reducePow, Nat.reduceLeDiff, Int.reduceToNat]
      refine run_block ?_
      replace h := bind_some1 h; obtain ⟨x_2380, hx_2381, hj_2382⟩ := h
      refine run_loopO hx_2381 (fun (v : Int × List UInt8) => (⟨asFr 53 [(4, .bs false 0 (v.2.length) 0 (v.2.length)), (21, .bs true 1 (l_2047.length) 0 (l_2047.length)), (22, i64 (((([b_1532, y_2045] : List (List UInt8))).length : Int))), (23, i64 v.1)], [.buf 1 (L cU8 v.2) false, .buf 1 (L (cSl cU8) l_2047) false]⟩ : St)) (weak_sel [0, 1] (by decide) rfl (by simp only [go_sem, reduceIte, Nat.reduceLT, Nat.reduceEqDiff, Nat.reduceAdd, Nat.reduceBEq, Nat.reduceMul, Nat.reduceSub, Nat.reduceGT, Nat.reducePow, Nat.reduceLeDiff, Int.reduceToNat]) (by simp only [go_sem, reduceIte, Nat.reduceLT, Nat.reduceEqDiff, Nat.reduceAdd, Nat.reduceBEq, Nat.reduceMul, Nat.reduceSub, Nat.reduceGT, Nat.reducePow, Nat.reduceLeDiff, Int.reduceToNat])) ?_
      rintro ⟨t_2215, l_2216⟩ o_2383 h hxx_2384
      replace h : frame_Make_b2 b_1532 y_2045 l_2047 t_2215 l_2216 = some o_2383 := h
      unfold frame_Make_b2 at h
      replace h := lt1_some h; obtain ⟨t_2385, hz_2386, h⟩ := h
      refine run_textE hE [4, 21, 22, 23, 24] (fr' := [(4, .bs false 0 (l_2216.length) 0 (l_2216.length)), (21, .bs true 1 (l_2047.length) 0 (l_2047.length)), (22, i64 (((([b_1532, y_2045] : List (List UInt8))).length : Int))), (23, i64 t_2215), (24, .bool t_2385)]) (σ' := [.buf 1 (L cU8 l_2216) false, .buf 1 (L (cSl cU8) l_2047) false]) ⟨_, orcs_nil, ?_⟩ ?_
      · subst hz_2386; simp only [go_sem, reduceIte, Nat.reduceLT, Nat.reduceEqDiff, Nat.reduceAdd, Nat.reduceBEq, Nat.reduceMul, Nat.reduceSub, Nat.reduceGT, Nat.reducePow, Nat.reduceLeDiff, Int.reduceToNat]
      refine run_seq ?_
      refine run_condL (b := t_2385) rfl (by decide) (fun hb => ?_) (fun hb => ?_)
      · replace h := ite_t h hb
        refine run_skip ?_
        refine thenK_n ?_
        replace h := bind_some1 h; obtain ⟨j_2466, hA_2467, hj_2468⟩ := h
        refine run_join (fun (v : List UInt8) => (⟨asFr 53 [(4, .bs false 0 (v.length) 0 (v.length)), (21, .bs true 1 (l_2047.length) 0 (l_2047.length)), (22, i64 (((([b_1532, y_2045] : List (List UInt8))).length : Int))), (23, i64 t_2215)], [.buf 1 (L cU8 v) false, .buf 1 (L (cSl cU8) l_2047) false]⟩ : St)) (fun v => v = j_2466) ?_ ?_
        · have h := hA_2467; clear hA_2467
          refine run_block ?_
          replace h := chk_some h; obtain ⟨hc_2469, h⟩ := h
          refine run_textE hE [4, 6, 21, 22, 23] (fr' := [(4, .bs false 0 (l_2216.length) 0 (l_2216.length)), (6, .sl false (L cU8 (nth l_2047 t_2215.toNat))), (21, .bs true 1 (l_2047.length) 0 (l_2047.length)), (22, i64 (((([b_1532, y_2045] : List (List UInt8))).length : Int))), (23, i64 t_2215)]) (σ' := [.buf 1 (L cU8 l_2216) false, .buf 1 (L (cSl cU8) l_2047) false]) ⟨_, orcs_nil, ?_⟩ ?_
          · simp only [go_sem, reduceIte, Nat.reduceLT, Nat.reduceEqDiff, Nat.reduceAdd, Nat.reduceBEq, Nat.reduceMul, Nat.reduceSub, Nat.reduceGT, Nat.reducePow, Nat.reduceLeDiff, Int.reduceToNat, hc_2469, hc_2469.2, lt_le hc_2469.2]
          refine run_textE hE [4, 21, 22, 23, 27, 28, 29] (fr' := [(4, .bs false 0 (l_2216.length) 0 (l_2216.length)), (21, .bs true 1 (l_2047.length) 0 (l_2047.length)), (22, i64 (((([b_1532, y_2045] : List (List UInt8))).length : Int))), (23, i64 t_2215), (27, .sl false (L cU8 (nth l_2047 t_2215.toNat))), (28, i64 (((nth l_2047 t_2215.toNat).length : Int))), (29, i64 0)]) (σ' := [.buf 1 (L cU8 l_2216) false, .buf 1 (L (cSl cU8) l_2047) false]) ⟨_, orcs_nil, ?_⟩ ?_
          · simp only [go_sem, reduceIte, Nat.reduceLT, Nat.reduceEqDiff, Nat.reduceAdd, Nat.reduceBEq, Nat.reduceMul, Nat.reduceSub, Nat.reduceGT, Nat.reducePow, Nat.reduceLeDiff, Int.reduceToNat]
          refine run_block ?_
          replace h := bind_some1 h; obtain ⟨x_2519, hx_2520, hj_2521⟩ := h
          refine run_loopO hx_2520 (fun (v : Int × List UInt8) => (⟨asFr 53 [(4, .bs false 0 (v.2.length) 0 (v.2.length)), (21, .bs true 1 (l_2047.length) 0 (l_2047.length)), (22, i64 (((([b_1532, y_2045] : List (List UInt8))).length : Int))), (23, i64 t_2215), (27, .sl false (L cU8 (nth l_2047 t_2215.toNat))), (28, i64 (((nth l_2047 t_2215.toNat).length : Int))), (29, i64 v.1)], [.buf 1 (L cU8 v.2) false, .buf 1 (L (cSl cU8) l_2047) false]⟩ : St)) (weak_sel [0, 1] (by decide) rfl (by simp only [go_sem, reduceIte, Nat.reduceLT, Nat.reduceEqDiff, Nat.reduceAdd, Nat.reduceBEq, Nat.reduceMul, Nat.reduceSub, Nat.reduceGT, Nat.reducePow, Nat.reduceLeDiff, Int.reduceToNat]) (by simp only [go_sem, reduceIte, Nat.reduceLT, Nat.reduceEqDiff, Nat.reduceAdd, Nat.reduceBEq, Nat.reduceMul, Nat.reduceSub, Nat.reduceGT, Nat.reducePow, Nat.reduceLeDiff, Int.reduceToNat])) ?_
          rintro ⟨t_2493, l_2494⟩ o_2522 h hxx_2523
          replace h : frame_Make_b1 l_2047 t_2215 t_2493 l_2494 = some o_2522 := h
          unfold frame_Make_b1 at h
          refine run_textE hE [4, 21, 22, 23, 27, 28, 29, 30] (fr' := [(4, .bs false 0 (l_2494.length) 0 (l_2494.length)), (21, .bs true 1 (l_2047.length) 0 (l_2047.length)), (22, i64 (((([b_1532, y_2045] : List (List UInt8))).length : Int))), (23, i64 t_2215), (27, .sl false (L cU8 (nth l_2047 t_2215.toNat))), (28, i64 (((nth l_2047 t_2215.toNat).length : Int))), (29, i64 t_2493), (30, .bool ((decide (t_2493 < ((nth l_2047 t_2215.toNat).length : Int)))))]) (σ' := [.buf 1 (L cU8 l_2494) false, .buf 1 (L (cSl cU8) l_2047) false]) ⟨_, orcs_nil, ?_⟩ ?_
          · simp only [go_sem, reduceIte, Nat.reduceLT, Nat.reduceEqDiff, Nat.reduceAdd, Nat.reduceBEq, Nat.reduceMul, Nat.reduceSub, Nat.reduceGT, Nat.reducePow, Nat.reduceLeDiff, Int.reduceToNat]
          refine run_seq ?_
          refine run_condL (b := (decide (t_2493 < ((nth l_2047 t_2215.toNat).length : Int)))) rfl (by decide) (fun hb => ?_) (fun hb => ?_)
          · replace h := ite_t h hb
            refine run_skip ?_
            refine thenK_n ?_
            refine run_seq ?_
            refine run_block ?_
            replace h := chk_some h; obtain ⟨hc_2524, h⟩ := h
            replace h := lt1_some h; obtain ⟨x_2525, hz_2526, h⟩ := h
            refine run_textE hE [4, 8, 21, 22, 23, 27, 28, 29] (fr' := [(4, .bs false 0 (l_2494.length) 0 (l_2494.length)), (8, u8 x_2525), (21, .bs true 1 (l_2047.length) 0 (l_2047.length)), (22, i64 (((([b_1532, y_2045] : List (List UInt8))).length : Int))), (23, i64 t_2215), (27, .sl false (L cU8 (nth l_2047 t_2215.toNat))), (28, i64 (((nth l_2047 t_2215.toNat).length : Int))), (29, i64 t_2493)]) (σ' := [.buf 1 (L cU8 l_2494) false, .buf 1 (L (cSl cU8) l_2047) false]) ⟨_, orcs_nil, ?_⟩ ?_
            · subst hz_2526; simp only [go_sem, reduceIte, Nat.reduceLT, Nat.reduceEqDiff, Nat.reduceAdd, Nat.reduceBEq, Nat.reduceMul, Nat.reduceSub, Nat.reduceGT, Nat.reducePow, Nat.reduceLeDiff, Int.reduceToNat, hc_2524, hc_2524.2, lt_le hc_2524.2]
            replace h := bind_some1 h; obtain ⟨j_2535, hA_2536, hj_2537⟩ := h
            refine run_join (fun (v : UInt8 × List UInt8) => (⟨asFr 53 [(4, .bs false 0 (v.2.length) 0 (v.2.length)), (8, u8 v.1), (21, .bs true 1 (l_2047.length) 0 (l_2047.length)), (22, i64 (((([b_1532, y_2045] : List (List UInt8))).length : Int))), (23, i64 t_2215), (27, .sl false (L cU8 (nth l_2047 t_2215.toNat))), (28, i64 (((nth l_2047 t_2215.toNat).length : Int))), (29, i64 t_2493)], [.buf 1 (L cU8 v.2) false, .buf 1 (L (cSl cU8) l_2047) false]⟩ : St)) (fun v => v = j_2535) ?_ ?_
            · have h := hA_2536; clear hA_2536
              replace h := bind_some1 h; obtain ⟨t_2538, hv_2539, h⟩ := h
              refine run_textW hE [4, 8, 21, 22, 23, 27, 28, 29, 38] (fr' := [(4, .bs false 0 (l_2494.length) 0 (l_2494.length)), (8, u8 x_2525), (21, .bs true 1 (l_2047.length) 0 (l_2047.length)), (22, i64 (((([b_1532, y_2045] : List (List UInt8))).length : Int))), (23, i64 t_2215), (27, .sl false (L cU8 (nth l_2047 t_2215.toNat))), (28, i64 (((nth l_2047 t_2215.toNat).length : Int))), (29, i64 t_2493), (38, .bool t_2538)]) (σ' := [.buf 1 (L cU8 l_2494) false, .buf 1 (L (cSl cU8) l_2047) false]) ?_ ?_
              · rcases Bool.eq_false_or_eq_true ((x_2525 == (126 : UInt8))) with hb_2540 | hb_2540
                · replace hv_2539 := ite_t hv_2539 hb_2540
                  have e_hv_2539 := Option.some.inj hv_2539; subst e_hv_2539
                  exact ⟨_, [(4, .bs false 0 (l_2494.length) 0 (l_2494.length)), (8, u8 x_2525), (21, .bs true 1 (l_2047.length) 0 (l_2047.length)), (22, i64 (((([b_1532, y_2045] : List (List UInt8))).length : Int))), (23, i64 t_2215), (27, .sl false (L cU8 (nth l_2047 t_2215.toNat))), (28, i64 (((nth l_2047 t_2215.toNat).length : Int))), (29, i64 t_2493), (38, .bool true)], [.buf 1 (L cU8 l_2494) false, .buf 1 (L (cSl cU8) l_2047) false], orcs_nil, by simp only [go_sem, reduceIte, Nat.reduceLT, Nat.reduceEqDiff, Nat.reduceAdd, Nat.reduceBEq, Nat.reduceMul, Nat.reduceSub, Nat.reduceGT, Nat.reducePow, Nat.reduceLeDiff, Int.reduceToNat, hb_2540], (weak_sel [0, 1] (by decide) rfl (by simp only [go_sem, reduceIte, Nat.reduceLT, Nat.reduceEqDiff, Nat.reduceAdd, Nat.reduceBEq, Nat.reduceMul, Nat.reduceSub, Nat.reduceGT, Nat.reducePow, Nat.reduceLeDiff, Int.reduceToNat]) (by simp only [go_sem, reduceIte, Nat.reduceLT, Nat.reduceEqDiff, Nat.reduceAdd, Nat.reduceBEq, Nat.reduceMul, Nat.reduceSub, Nat.reduceGT, Nat.reducePow, Nat.reduceLeDiff, Int.reduceToNat]))⟩
                · replace hv_2539 := ite_f hv_2539 hb_2540
                  have e_hv_2539 := Option.some.inj hv_2539; subst e_hv_2539
                  exact ⟨_, [(4, .bs false 0 (l_2494.length) 0 (l_2494.length)), (8, u8 x_2525), (21, .bs true 1 (l_2047.length) 0 (l_2047.length)), (22, i64 (((([b_1532, y_2045] : List (List UInt8))).length : Int))), (23, i64 t_2215), (27, .sl false (L cU8 (nth l_2047 t_2215.toNat))), (28, i64 (((nth l_2047 t_2215.toNat).length : Int))), (29, i64 t_2493), (38, .bool ((x_2525 == (125 : UInt8))))], [.buf 1 (L cU8 l_2494) false, .buf 1 (L (cSl cU8) l_2047) false], orcs_nil, by simp only [go_sem, reduceIte, Nat.reduceLT, Nat.reduceEqDiff, Nat.reduceAdd, Nat.reduceBEq, Nat.reduceMul, Nat.reduceSub, Nat.reduceGT, Nat.reducePow, Nat.reduceLeDiff, Int.reduceToNat, hb_2540], (weak_sel [0, 1] (by decide) rfl (by simp only [go_sem, reduceIte, Nat.reduceLT, Nat.reduceEqDiff, Nat.reduceAdd, Nat.reduceBEq, Nat.reduceMul, Nat.reduceSub, Nat.reduceGT, Nat.reducePow, Nat.reduceLeDiff, Int.reduceToNat]) (by simp only [go_sem, reduceIte, Nat.reduceLT, Nat.reduceEqDiff, Nat.reduceAdd, Nat.reduceBEq, Nat.reduceMul, Nat.reduceSub, Nat.reduceGT, Nat.reducePow, Nat.reduceLeDiff, Int.reduceToNat]))⟩
              refine run_condL (b := t_2538) rfl (by decide) (fun hb => ?_) (fun hb => ?_)
              · replace h := ite_t h hb
                replace h := chk_some h; obtain ⟨hc_2541, h⟩ := h
                replace h := lt1_some h; obtain ⟨l_2542, hz_2543, h⟩ := h
                refine run_textE hE [4, 8, 21, 22, 23, 27, 28, 29] (fr' := [(4, .bs false 0 (l_2542.length) 0 (l_2542.length)), (8, u8 x_2525), (21, .bs true 1 (l_2047.length) 0 (l_2047.length)), (22, i64 (((([b_1532, y_2045] : List (List UInt8))).length : Int))), (23, i64 t_2215), (27, .sl false (L cU8 (nth l_2047 t_2215.toNat))), (28, i64 (((nth l_2047 t_2215.toNat).length : Int))), (29, i64 t_2493)]) (σ' := [.buf 1 (L cU8 l_2542) false, .buf 1 (L (cSl cU8) l_2047) false, .buf 1 (L cU8 (([(125 : UInt8)] : List UInt8))) false]) ⟨_, orcs_nil, ?_⟩ ?_
                · subst hz_2543; simp only [go_sem, reduceIte, Nat.reduceLT, Nat.reduceEqDiff, Nat.reduceAdd, Nat.reduceBEq, Nat.reduceMul, Nat.reduceSub, Nat.reduceGT, Nat.reducePow, Nat.reduceLeDiff, Int.reduceToNat, hc_2541]
                refine run_textE0 hE wk_join [4, 8, 21, 22, 23, 27, 28, 29] (fr' := [(4, .bs false 0 (l_2542.length) 0 (l_2542.length)), (8, u8 ((x_2525 ^^^ (32 : UInt8)))), (21, .bs true 1 (l_2047.length) 0 (l_2047.length)), (22, i64 (((([b_1532, y_2045] : List (List UInt8))).length : Int))), (23, i64 t_2215), (27, .sl false (L cU8 (nth l_2047 t_2215.toNat))), (28, i64 (((nth l_2047 t_2215.toNat).length : Int))), (29, i64 t_2493)]) (σ' := [.buf 1 (L cU8 l_2542) false, .buf 1 (L (cSl cU8) l_2047) false, .buf 1 (L cU8 (([(125 : UInt8)] : List UInt8))) false]) ⟨_, orcs_nil, ?_⟩ ?_
                · simp only [go_sem, reduceIte, Nat.reduceLT, Nat.reduceEqDiff, Nat.reduceAdd, Nat.reduceBEq, Nat.reduceMul, Nat.reduceSub, Nat.reduceGT, Nat.reducePow, Nat.reduceLeDiff, Int.reduceToNat]
                obtain rfl := Option.some.inj h
                exact joinK_n (((x_2525 ^^^ (32 : UInt8)), l_2542)) rfl (weak_sel [0, 1] (by decide) rfl (by simp only [go_sem, reduceIte, Nat.reduceLT, Nat.reduceEqDiff, Nat.reduceAdd, Nat.reduceBEq, Nat.reduceMul, Nat.reduceSub, Nat.reduceGT, Nat.reducePow, Nat.reduceLeDiff, Int.reduceToNat]) (by simp only [go_sem, reduceIte, Nat.reduceLT, Nat.reduceEqDiff, Nat.reduceAdd, Nat.reduceBEq, Nat.reduceMul, Nat.reduceSub, Nat.reduceGT, Nat.reducePow, Nat.reduceLeDiff, Int.reduceToNat]))
              · replace h := ite_f h hb
                refine run_skip ?_
                obtain rfl := Option.some.inj h
                exact joinK_n ((x_2525, l_2494)) rfl (weak_sel [0, 1] (by decide) rfl (by simp only [go_sem, reduceIte, Nat.reduceLT, Nat.reduceEqDiff, Nat.reduceAdd, Nat.reduceBEq, Nat.reduceMul, Nat.reduceSub, Nat.reduceGT, Nat.reducePow, Nat.reduceLeDiff, Int.reduceToNat]) (by simp only [go_sem, reduceIte, Nat.reduceLT, Nat.reduceEqDiff, Nat.reduceAdd, Nat.reduceBEq, Nat.reduceMul, Nat.reduceSub, Nat.reduceGT, Nat.reducePow, Nat.reduceLeDiff, Int.reduceToNat]))
            rintro ⟨x_2533, l_2534⟩ rfl
            have h := hj_2537; clear hj_2537
            replace h := chk_some h; obtain ⟨hc_2544, h⟩ := h
            replace h := lt1_some h; obtain ⟨l_2545, hz_2546, h⟩ := h
            refine run_textE0 hE (wk_block wk_then) [4, 21, 22, 23, 27, 28, 29] (fr' := [(4, .bs false 0 (l_2545.length) 0 (l_2545.length)), (21, .bs true 1 (l_2047.length) 0 (l_2047.length)), (22, i64 (((([b_1532, y_2045] : List (List UInt8))).length : Int))), (23, i64 t_2215), (27, .sl false (L cU8 (nth l_2047 t_2215.toNat))), (28, i64 (((nth l_2047 t_2215.toNat).length : Int))), (29, i64 t_2493)]) (σ' := [.buf 1 (L cU8 l_2545) false, .buf 1 (L (cSl cU8) l_2047) false, .buf 1 (L cU8 (([x_2533] : List UInt8))) false]) ⟨_, orcs_nil, ?_⟩ ?_
            · subst hz_2546; simp only [go_sem, reduceIte, Nat.reduceLT, Nat.reduceEqDiff, Nat.reduceAdd, Nat.reduceBEq, Nat.reduceMul, Nat.reduceSub, Nat.reduceGT, Nat.reducePow, Nat.reduceLeDiff, Int.reduceToNat, hc_2544]
            refine blockK_n ?_
            refine thenK_n ?_
            refine run_textE0 hE wk_lp [4, 21, 22, 23, 27, 28, 29] (fr' := [(4, .bs false 0 (l_2545.length) 0 (l_2545.length)), (21, .bs true 1 (l_2047.length) 0 (l_2047.length)), (22, i64 (((([b_1532, y_2045] : List (List UInt8))).length : Int))), (23, i64 t_2215), (27, .sl false (L cU8 (nth l_2047 t_2215.toNat))), (28, i64 (((nth l_2047 t_2215.toNat).length : Int))), (29, i64 ((w64 (t_2493 + 1))))]) (σ' := [.buf 1 (L cU8 l_2545) false, .buf 1 (L (cSl cU8) l_2047) false, .buf 1 (L cU8 (([x_2533] : List UInt8))) false]) ⟨_, orcs_nil, ?_⟩ ?_
            · simp only [go_sem, reduceIte, Nat.reduceLT, Nat.reduceEqDiff, Nat.reduceAdd, Nat.reduceBEq, Nat.reduceMul, Nat.reduceSub, Nat.reduceGT, Nat.reducePow, Nat.reduceLeDiff, Int.reduceToNat]
            obtain rfl := Option.some.inj h
            exact lpK_n (((w64 (t_2493 + 1)), l_2545)) rfl (weak_sel [0, 1] (by decide) rfl (by simp only [go_sem, reduceIte, Nat.reduceLT, Nat.reduceEqDiff, Nat.reduceAdd, Nat.reduceBEq, Nat.reduceMul, Nat.reduceSub, Nat.reduceGT, Nat.reducePow, Nat.reduceLeDiff, Int.reduceToNat]) (by simp only [go_sem, reduceIte, Nat.reduceLT, Nat.reduceEqDiff, Nat.reduceAdd, Nat.reduceBEq, Nat.reduceMul, Nat.reduceSub, Nat.reduceGT, Nat.reducePow, Nat.reduceLeDiff, Int.reduceToNat]))
          · replace h := ite_f h hb
            refine run_exit ?_
            refine thenK_x ?_
            obtain rfl := Option.some.inj h
            have ex_x_2519 := hxx_2523 _ rfl
            subst ex_x_2519
            have h := hj_2521; clear hj_2521
            refine lpK_x ?_
            refine blockK_x ?_
            refine blockK_n ?_
            obtain rfl := Option.some.inj h
            exact joinK_n l_2494 rfl ((weak_sel (l' := [(4, .bs false 0 (l_2494.length) 0 (l_2494.length)), (21, .bs true 1 (l_2047.length) 0 (l_2047.length)), (22, i64 (((([b_1532, y_2045] : List (List UInt8))).length : Int))), (23, i64 t_2215)]) (σ' := [.buf 1 (L cU8 l_2494) false, .buf 1 (L (cSl cU8) l_2047) false]) [0, 1] (by decide) rfl (by simp only [go_sem, reduceIte, Nat.reduceLT, Nat.reduceEqDiff, Nat.reduceAdd, Nat.reduceBEq, Nat.reduceMul, Nat.reduceSub, Nat.reduceGT, Nat.reducePow, Nat.reduceLeDiff, Int.reduceToNat]) (by simp only [go_sem, reduceIte, Nat.reduceLT, Nat.reduceEqDiff, Nat.reduceAdd, Nat.reduceBEq, Nat.reduceMul, Nat.reduceSub, Nat.reduceGT, Nat.reducePow, Nat.reduceLeDiff, Int.reduceToNat])).trans (weak_sel [0, 1] (by decide) rfl (by simp only [go_sem, reduceIte, Nat.reduceLT, Nat.reduceEqDiff, Nat.reduceAdd, Nat.reduceBEq, Nat.reduceMul, Nat.reduceSub, Nat.reduceGT, Nat.reducePow, Nat.reduceLeDiff, Int.reduceToNat]) (by simp only [go_sem, reduceIte, Nat.reduceLT, Nat.reduceEqDiff, Nat.reduceAdd, Nat.reduceBEq, Nat.reduceMul, Nat.reduceSub, Nat.reduceGT, Nat.reducePow, Nat.reduceLeDiff, Int.reduceToNat])))
        rintro l_2465 rfl
        have h := hj_2468; clear hj_2468
        refine run_textE0 hE wk_lp [4, 21, 22, 23] (fr' := [(4, .bs false 0 (l_2465.length) 0 (l_2465.length)), (21, .bs true 1 (l_2047.length) 0 (l_2047.length)), (22, i64 (((([b_1532, y_2045] : List (List UInt8))).length : Int))), (23, i64 ((w64 (t_2215 + 1))))]) (σ' := [.buf 1 (L cU8 l_2465) false, .buf 1 (L (cSl cU8) l_2047) false]) ⟨_, orcs_nil, ?_⟩ ?_
        · simp only [go_sem, reduceIte, Nat.reduceLT, Nat.reduceEqDiff, Nat.reduceAdd, Nat.reduceBEq, Nat.reduceMul, Nat.reduceSub, Nat.reduceGT, Nat.reducePow, Nat.reduceLeDiff, Int.reduceToNat]
        obtain rfl := Option.some.inj h
        exact lpK_n (((w64 (t_2215 + 1)), l_2465)) rfl (weak_sel [0, 1] (by decide) rfl (by simp only [go_sem, reduceIte, Nat.reduceLT, Nat.reduceEqDiff, Nat.reduceAdd, Nat.reduceBEq, Nat.reduceMul, Nat.reduceSub, Nat.reduceGT, Nat.reducePow, Nat.reduceLeDiff, Int.reduceToNat]) (by simp only [go_sem, reduceIte, Nat.reduceLT, Nat.reduceEqDiff, Nat.reduceAdd, Nat.reduceBEq, Nat.reduceMul, Nat.reduceSub, Nat.reduceGT, Nat.reducePow, Nat.reduceLeDiff, Int.reduceToNat]))
      · replace h := ite_f h hb
        refine run_exit ?_
        refine thenK_x ?_
        obtain rfl := Option.some.inj h
        have ex_x_2380 := hxx_2384 _ rfl
        subst ex_x_2380
        have h := hj_2382; clear hj_2382
        refine lpK_x ?_
        refine blockK_x ?_
        obtain rfl := Option.some.inj h
        exact joinK_n l_2216 rfl ((weak_sel (l' := [(4, .bs false 0 (l_2216.length) 0 (l_2216.length))]) (σ' := [.buf 1 (L cU8 l_2216) false]) [0] (by decide) rfl (by simp only [go_sem, reduceIte, Nat.reduceLT, Nat.reduceEqDiff, Nat.reduceAdd, Nat.reduceBEq, Nat.reduceMul, Nat.reduceSub, Nat.reduceGT, Nat.reducePow, Nat.reduceLeDiff, Int.reduceToNat]) (by simp only [go_sem, reduceIte, Nat.reduceLT, Nat.reduceEqDiff, Nat.reduceAdd, Nat.reduceBEq, Nat.reduceMul, Nat.reduceSub, Nat.reduceGT, Nat.reducePow, Nat.reduceLeDiff, Int.reduceToNat])).trans (weak_sel [0] (by decide) rfl (by simp only [go_sem, reduceIte, Nat.reduceLT, Nat.reduceEqDiff, Nat.reduceAdd, Nat.reduceBEq, Nat.reduceMul, Nat.reduceSub, Nat.reduceGT, Nat.reducePow, Nat.reduceLeDiff, Int.reduceToNat]) (by simp only [go_sem, reduceIte, Nat.reduceLT, Nat.reduceEqDiff, Nat.reduceAdd, Nat.reduceBEq, Nat.reduceMul, Nat.reduceSub, Nat.reduceGT, Nat.reducePow, Nat.reduceLeDiff, Int.reduceToNat])))
    rintro l_2041 rfl
    have h := hj_2044; clear hj_2044
    replace h := chk_some h; obtain ⟨hc_2547, h⟩ := h
    replace h := lt1_some h; obtain ⟨l_2548, hz_2549, h⟩ := h
    refine run_textE hE [2, 3] (fr' := [(2, .bs false 0 (l_2548.length) 0 (l_2548.length)), (3, i64 0)]) (σ' := [.buf 1 (L cU8 l_2548) false, .buf 1 (L cU8 (([(126 : UInt8)] : List UInt8))) false]) ⟨_, orcs_nil, ?_⟩ ?_
    · subst hz_2549; simp only [go_sem, reduceIte, Nat.reduceLT, Nat.reduceEqDiff, Nat.reduceAdd, Nat.reduceBEq, Nat.reduceMul, Nat.reduceSub, Nat.reduceGT, Nat.reducePow, Nat.reduceLeDiff, Int.reduceToNat, hc_2547]
    refine run_ret ?_
    obtain rfl := Option.some.inj h
    refine ret_ok (.inr rfl) ?_
    simp only [go_sem, reduceIte, Nat.reduceLT, Nat.reduceEqDiff, Nat.reduceAdd, Nat.reduceBEq, Nat.reduceMul, Nat.reduceSub, Nat.reduceGT, Nat.reducePow, Nat.reduceLeDiff, Int.reduceToNat]

theorem r10_Make_con {b_2550 : List UInt8} {r : List UInt8 × Int} (h : r10_Make b_2550 = some r) : Con B 12 [.sl false (L cU8 b_2550)] [] (fun r' σ' => r' = .tup [.sl false (L cU8 r.1), i64 r.2] ∧ σ' = []) := by
  refine con_walk (N := 12) (rs := [.tmp 2, .tmp 3]) ok Try.func12 rfl (by decide +kernel) rfl rfl (Nat.le_of_ble_eq_true rfl) (fun F => ?_)
  have hE := ok.env F
  unfold r10_Make at h
  show Run (B.env F) 0 _ ⟨asFr 12 [(0, .sl false (L cU8 b_2550))], []⟩ _
  refine run_textE hE [0] (fr' := [(0, .sl false (L cU8 b_2550))]) (σ' := []) ⟨_, orcs_nil, ?_⟩ ?_
  · simp only [go_sem, reduceIte, Nat.reduceLT, Nat.reduceEqDiff, Nat.reduceAdd, Nat.reduceBEq, Nat.reduceMul, Nat.reduceSub, Nat.reduceGT, Nat.reducePow, Nat.reduceLeDiff, Int.reduceToNat]
  refine run_seq ?_
  refine run_textE hE [0, 6] (fr' := [(0, .sl false (L cU8 b_2550)), (6, .bool ((decide ((b_2550.length : Int) > 8192))))]) (σ' := []) ⟨_, orcs_nil, ?_⟩ ?_
  · simp only [go_sem, reduceIte, Nat.reduceLT, Nat.reduceEqDiff, Nat.reduceAdd, Nat.reduceBEq, Nat.reduceMul, Nat.reduceSub, Nat.reduceGT, Nat.reducePow, Nat.reduceLeDiff, Int.reduceToNat]
  refine run_condL (b := (decide ((b_2550.length : Int) > 8192))) rfl (by decide) (fun hb => ?_) (fun hb => ?_)
  · replace h := ite_t h hb
    refine run_textE hE [2, 3] (fr' := [(2, .sl true (L cU8 ([]))), (3, i64 2)]) (σ' := []) ⟨_, orcs_nil, ?_⟩ ?_
    · simp only [go_sem, reduceIte, Nat.reduceLT, Nat.reduceEqDiff, Nat.reduceAdd, Nat.reduceBEq, Nat.reduceMul, Nat.reduceSub, Nat.reduceGT, Nat.reducePow, Nat.reduceLeDiff, Int.reduceToNat]
    refine run_ret ?_
    refine thenK_r ?_
    obtain rfl := Option.some.inj h
    refine ret_ok (.inr rfl) ?_
    simp only [go_sem, reduceIte, Nat.reduceLT, Nat.reduceEqDiff, Nat.reduceAdd, Nat.reduceBEq, Nat.reduceMul, Nat.reduceSub, Nat.reduceGT, Nat.reducePow, Nat.reduceLeDiff, Int.reduceToNat]
  · replace h := ite_f h hb
    refine run_skip ?_
    refine thenK_n ?_
    replace h := bind_some1 h; obtain ⟨y_2551, hy_2554, h⟩ := h
    replace h := bind_some1 h; obtain ⟨y_2552, hy_2555, h⟩ := h
    replace h := bind_some1 h; obtain ⟨y_2553, hy_2556, h⟩ := h
    refine run_textE hE [2, 3] (fr' := [(2, .sl false (L cU8 y_2553)), (3, i64 0)]) (σ' := []) ⟨_, orcs_ok (l := [(9, 14, [.sl false (L cU8 b_2550)], u32 y_2551), (10, 22, [.sl false (L cU8 b_2550), u32 y_2551], .sl false (L cU8 y_2552)), (11, 21, [.sl false (L cU8 y_2552)], .sl false (L cU8 y_2553))]) ⟨r10_Crc_con hy_2554, r10_Sealed_con hy_2555, r10_Wrapped_con hy_2556, trivial⟩, ?_⟩ ?_
    · simp only [go_sem, reduceIte, Nat.reduceLT, Nat.reduceEqDiff, Nat.reduceAdd, Nat.reduceBEq, Nat.reduceMul, Nat.reduceSub, Nat.reduceGT, Nat.reducePow, Nat.reduceLeDiff, Int.reduceToNat]
    refine run_ret ?_
    obtain rfl := Option.some.inj h
    refine ret_ok (.inr rfl) ?_
    simp only [go_sem, reduceIte, Nat.reduceLT, Nat.reduceEqDiff, Nat.reduceAdd, Nat.reduceBEq, Nat.reduceMul, Nat.reduceSub, Nat.reduceGT, Nat.reducePow, Nat.reduceLeDiff, Int.reduceToNat]

theorem frame_content_con {d_2557 : Api_Deframer} {r : List UInt8 × Bool} (h : frame_content d_2557 = some r) : Con B 24 [.agg [.sl false (L cU8 d_2557.Rest), .bool d_2557.In, .bool d_2557.Escape, .bool d_2557.Bad]] [] (fun r' σ' => r' = .tup [.sl false (L cU8 r.1), .bool r.2] ∧ σ' = []) := by
  refine con_walk (N := 38) (rs := [.tmp 2, .tmp 3]) ok Try.func24 rfl (by decide +kernel) rfl rfl (Nat.le_of_ble_eq_true rfl) (fun F => ?_)
  have hE := ok.env F
  unfold frame_content at h
  show Run (B.env F) 0 _ ⟨asFr 38 [(0, .agg [.sl false (L cU8 d_2557.Rest), .bool d_2557.In, .bool d_2557.Escape, .bool d_2557.Bad])], []⟩ _
  refine run_textE hE [1] (fr' := [(1, .ref 0 0)]) (σ' := [.box [.sl false (L cU8 d_2557.Rest), .bool d_2557.In, .bool d_2557.Escape, .bool d_2557.Bad] false]) ⟨_, orcs_nil, ?_⟩ ?_
  · simp only [go_sem, reduceIte, Nat.reduceLT, Nat.reduceEqDiff, Nat.reduceAdd, Nat.reduceBEq, Nat.reduceMul, Nat.reduceSub, Nat.reduceGT, Nat.reducePow, Nat.reduceLeDiff, Int.reduceToNat]
  replace h := lt1_some h; obtain ⟨n_2558, hz_2559, h⟩ := h
  refine run_textE hE [1, 4] (fr' := [(1, .ref 0 0), (4, i64 n_2558)]) (σ' := [.box [.sl false (L cU8 d_2557.Rest), .bool d_2557.In, .bool d_2557.Escape, .bool d_2557.Bad] false]) ⟨_, orcs_nil, ?_⟩ ?_
  · subst hz_2559; simp only [go_sem, reduceIte, Nat.reduceLT, Nat.reduceEqDiff, Nat.reduceAdd, Nat.reduceBEq, Nat.reduceMul, Nat.reduceSub, Nat.reduceGT, Nat.reducePow, Nat.reduceLeDiff, Int.reduceToNat]
  refine run_seq ?_
  replace h := bind_some1 h; obtain ⟨t_2560, hv_2561, h⟩ := h
  refine run_textW hE [1, 4, 22] (fr' := [(1, .ref 0 0), (4, i64 n_2558), (22, .bool t_2560)]) (σ' := [.box [.sl false (L cU8 d_2557.Rest), .bool d_2557.In, .bool d_2557.Escape, .bool d_2557.Bad] false]) ?_ ?_
  · rcases Bool.eq_false_or_eq_true d_2557.Escape with hb_2562 | hb_2562
    · replace hv_2561 := ite_t hv_2561 hb_2562
      have e_hv_2561 := Option.some.inj hv_2561; subst e_hv_2561
      exact ⟨_, [(1, .ref 0 0), (4, i64 n_2558), (22, .bool true)], [.box [.sl false (L cU8 d_2557.Rest), .bool d_2557.In, .bool d_2557.Escape, .bool d_2557.Bad] false], orcs_nil, by simp only [go_sem, reduceIte, Nat.reduceLT, Nat.reduceEqDiff, Nat.reduceAdd, Nat.reduceBEq, Nat.reduceMul, Nat.reduceSub, Nat.reduceGT, Nat.reducePow, Nat.reduceLeDiff, Int.reduceToNat, hb_2562], (weak_sel [0] (by decide) rfl (by simp only [go_sem, reduceIte, Nat.reduceLT, Nat.reduceEqDiff, Nat.reduceAdd, Nat.reduceBEq, Nat.reduceMul, Nat.reduceSub, Nat.reduceGT, Nat.reducePow, Nat.reduceLeDiff, Int.reduceToNat]) (by simp only [go_sem, reduceIte, Nat.reduceLT, Nat.reduceEqDiff, Nat.reduceAdd, Nat.reduceBEq, Nat.reduceMul, Nat.reduceSub, Nat.reduceGT, Nat.reducePow, Nat.reduceLeDiff, Int.reduceToNat]))⟩
    · replace hv_2561 := ite_f hv_2561 hb_2562
      rcases Bool.eq_false_or_eq_true d_2557.Bad with hb_2563 | hb_2563
      · replace hv_2561 := ite_t hv_2561 hb_2563
        have e_hv_2561 := Option.some.inj hv_2561; subst e_hv_2561
        exact ⟨_, [(1, .ref 0 0), (4, i64 n_2558), (22, .bool true)], [.box [.sl false (L cU8 d_2557.Rest), .bool d_2557.In, .bool d_2557.Escape, .bool d_2557.Bad] false], orcs_nil, by simp only [go_sem, reduceIte, Nat.reduceLT, Nat.reduceEqDiff, Nat.reduceAdd, Nat.reduceBEq, Nat.reduceMul, Nat.reduceSub, Nat.reduceGT, Nat.reducePow, Nat.reduceLeDiff, Int.reduceToNat, hb_2562, hb_2563], (weak_sel [0] (by decide) rfl (by simp only [go_sem, reduceIte, Nat.reduceLT, Nat.reduceEqDiff, Nat.reduceAdd, Nat.reduceBEq, Nat.reduceMul, Nat.reduceSub, Nat.reduceGT, Nat.reducePow, Nat.reduceLeDiff, Int.reduceToNat]) (by simp only [go_sem, reduceIte, Nat.reduceLT, Nat.reduceEqDiff, Nat.reduceAdd, Nat.reduceBEq, Nat.reduceMul, Nat.reduceSub, Nat.reduceGT, Nat.reducePow, Nat.reduceLeDiff, Int.reduceToNat]))⟩
      · replace hv_2561 := ite_f hv_2561 hb_2563
        rcases Bool.eq_false_or_eq_true ((decide (n_2558 < 0))) with hb_2564 | hb_2564
        · replace hv_2561 := ite_t hv_2561 hb_2564
          have e_hv_2561 := Option.some.inj hv_2561; subst e_hv_2561
          exact ⟨_, [(1, .ref 0 0), (4, i64 n_2558), (22, .bool true)], [.box [.sl false (L cU8 d_2557.Rest), .bool d_2557.In, .bool d_2557.Escape, .bool d_2557.Bad] false], orcs_nil, by simp only [go_sem, reduceIte, Nat.reduceLT, Nat.reduceEqDiff, Nat.reduceAdd, Nat.reduceBEq, Nat.reduceMul, Nat.reduceSub, Nat.reduceGT, Nat.reducePow, Nat.reduceLeDiff, Int.reduceToNat, hb_2562, hb_2563, hb_2564], (weak_sel [0] (by decide) rfl (by simp only [go_sem, reduceIte, Nat.reduceLT, Nat.reduceEqDiff, Nat.reduceAdd, Nat.reduceBEq, Nat.reduceMul, Nat.reduceSub, Nat.reduceGT, Nat.reducePow, Nat.reduceLeDiff, Int.reduceToNat]) (by simp only [go_sem, reduceIte, Nat.reduceLT, Nat.reduceEqDiff, Nat.reduceAdd, Nat.reduceBEq, Nat.reduceMul, Nat.reduceSub, Nat.reduceGT, Nat.reducePow, Nat.reduceLeDiff, Int.reduceToNat]))⟩
        · replace hv_2561 := ite_f hv_2561 hb_2564
          have e_hv_2561 := Option.some.inj hv_2561; subst e_hv_2561
          exact ⟨_, [(1, .ref 0 0), (4, i64 n_2558), (22, .bool ((decide (n_2558 > 8192))))], [.box [.sl false (L cU8 d_2557.Rest), .bool d_2557.In, .bool d_2557.Escape, .bool d_2557.Bad] false], orcs_nil, by simp only [go_sem, reduceIte, Nat.reduceLT, Nat.reduceEqDiff, Nat.reduceAdd, Nat.reduceBEq, Nat.reduceMul, Nat.reduceSub, Nat.reduceGT, Nat.reducePow, Nat.reduceLeDiff, Int.reduceToNat, hb_2562, hb_2563, hb_2564], (weak_sel [0] (by decide) rfl (by simp only [go_sem, reduceIte, Nat.reduceLT, Nat.reduceEqDiff, Nat.reduceAdd, Nat.reduceBEq, Nat.reduceMul, Nat.reduceSub, Nat.reduceGT, Nat.reducePow, Nat.reduceLeDiff, Int.reduceToNat]) (by simp only [go_sem, reduceIte, Nat.reduceLT, Nat.reduceEqDiff, Nat.reduceAdd, Nat.reduceBEq, Nat.reduceMul, Nat.reduceSub, Nat.reduceGT, Nat.reducePow, Nat.reduceLeDiff, Int.reduceToNat]))⟩
  refine run_condL (b := t_2560) rfl (by decide) (fun hb => ?_) (fun hb => ?_)
  · replace h := ite_t h hb
    refine run_textE hE [2, 3] (fr' := [(2, .sl true (L cU8 ([]))), (3, .bool false)]) (σ' := [.box [.sl false (L cU8 d_2557.Rest), .bool d_2557.In, .bool d_2557.Escape, .bool d_2557.Bad] false]) ⟨_, orcs_nil, ?_⟩ ?_
    · simp only [go_sem, reduceIte, Nat.reduceLT, Nat.reduceEqDiff, Nat.reduceAdd, Nat.reduceBEq, Nat.reduceMul, Nat.reduceSub, Nat.reduceGT, Nat.reducePow, Nat.reduceLeDiff, Int.reduceToNat]
    refine run_ret ?_
    refine thenK_r ?_
    obtain rfl := Option.some.inj h
    refine ret_ok (.inr rfl) ?_
    simp only [go_sem, reduceIte, Nat.reduceLT, Nat.reduceEqDiff, Nat.reduceAdd, Nat.reduceBEq, Nat.reduceMul, Nat.reduceSub, Nat.reduceGT, Nat.reducePow, Nat.reduceLeDiff, Int.reduceToNat]
  · replace h := ite_f h hb
    refine run_skip ?_
    refine thenK_n ?_
    replace h := chk_some h; obtain ⟨hc_2567, h⟩ := h
    replace h := chk_some h; obtain ⟨hc_2568, h⟩ := h
    replace h := chk_some h; obtain ⟨hc_2569, h⟩ := h
    replace h := bind_some1 h; obtain ⟨y_2565, hy_2570, h⟩ := h
    replace h := chk_some h; obtain ⟨hc_2571, h⟩ := h
    replace h := bind_some1 h; obtain ⟨y_2566, hy_2572, h⟩ := h
    refine run_drawE hE mixed [[], [0], [], [], [0, 1, 2, 3], [], [5], [], [5, 6, 7], [5, 6, 7, 8], [], [10], [], [10, 11, 12], [5, 6, 7, 8, 9, 10, 11, 12, 13], [0, 1, 2, 3, 4, 5, 6, 7, 8, 9, 10, 11, 12, 13, 14], [0, 1, 2, 3, 4, 5, 6, 7, 8, 9, 10, 11, 12, 13, 14, 15]] (by kernel_rfl) (by kernel_rfl) [2, 3] (fr' := [(2, .sl true (L cU8 ((d_2557.Rest.take n_2558.toNat)))), (3, .bool y_2566)]) (σ' := [.box [.sl false (L cU8 d_2557.Rest), .bool d_2557.In, .bool d_2557.Escape, .bool d_2557.Bad] false]) ⟨_, orcs_ok (l := [(32, 23, [.sl false (L cU8 ((d_2557.Rest.take n_2558.toNat)))], .sl false (L cU8 y_2565)), (37, 27, [.sl false (L cU8 y_2565), .sl false (L cU8 (((d_2557.Rest.drop n_2558.toNat).take (d_2557.Rest.length - n_2558.toNat))))], .bool y_2566)]) ⟨frame_seal_con hy_2570, bytes_Equal_con hy_2572, trivial⟩, ?_⟩ ?_
    · simp only [go_sem, reduceIte, Nat.reduceLT, Nat.reduceEqDiff, Nat.reduceAdd, Nat.reduceBEq, Nat.reduceMul, Nat.reduceSub, Nat.reduceGT, Nat.reducePow, Nat.reduceLeDiff, Int.reduceToNat, hc_2567, hc_2568, hc_2569, hc_2571]
    refine run_ret ?_
    obtain rfl := Option.some.inj h
    refine ret_ok (.inr rfl) ?_
    simp only [go_sem, reduceIte, Nat.reduceLT, Nat.reduceEqDiff, Nat.reduceAdd, Nat.reduceBEq, Nat.reduceMul, Nat.reduceSub, Nat.reduceGT, Nat.reducePow, Nat.reduceLeDiff, Int.reduceToNat]

end Go.Proofs.Ytneejmndnihaoaa
