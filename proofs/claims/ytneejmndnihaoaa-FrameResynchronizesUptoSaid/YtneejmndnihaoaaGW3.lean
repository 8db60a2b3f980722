/-
  The functions compute just that.
-/
import Derived.Test.YtneejmndnihaoaaGW2
import Derived.KernelRfl
namespace Go.Proofs.Ytneejmndnihaoaa
open Go.Rv
set_option linter.unusedVariables false
set_option linter.unusedSimpArgs false

theorem frame_Make_con {b_1524 : List UInt8} {r : List UInt8 × Int} (h : frame_Make b_1524 = some r) : Con B 11 [.sl false (L cU8 b_1524)] [] (fun r' σ' => r' = .tup [.sl false (L cU8 r.1), i64 r.2] ∧ σ' = []) := by
  refine con_walk (N := 53) (rs := [.tmp 2, .tmp 3]) ok Try.func11 rfl (by decide +kernel) rfl rfl (Nat.le_of_ble_eq_true rfl) (fun F => ?_)
  have hE := ok.env F
  unfold frame_Make at h
  show Run (B.env F) 0 _ ⟨asFr 53 [(0, .sl false (L cU8 b_1524))], []⟩ _
  refine run_textE hE [0] (fr' := [(0, .sl false (L cU8 b_1524))]) (σ' := []) ⟨_, orcs_nil, ?_⟩ ?_
  · simp only [go_sem, reduceIte, Nat.reduceLT, Nat.reduceEqDiff, Nat.reduceAdd, Nat.reduceBEq, Nat.reduceMul, Nat.reduceSub, Nat.reduceGT, Nat.reducePow, Nat.reduceLeDiff, Int.reduceToNat]
  refine run_seq ?_
  refine run_textE hE [0, 11] (fr' := [(0, .sl false (L cU8 b_1524)), (11, .bool ((decide ((b_1524.length : Int) > 8192))))]) (σ' := []) ⟨_, orcs_nil, ?_⟩ ?_
  · simp only [go_sem, reduceIte, Nat.reduceLT, Nat.reduceEqDiff, Nat.reduceAdd, Nat.reduceBEq, Nat.reduceMul, Nat.reduceSub, Nat.reduceGT, Nat.reducePow, Nat.reduceLeDiff, Int.reduceToNat]
  refine run_condL (b := (decide ((b_1524.length : Int) > 8192))) rfl (by decide) (fun hb => ?_) (fun hb => ?_)
  · replace h := ite_t h hb
    refine run_textE hE [2, 3] (fr' := [(2, .sl true (L cU8 ([]))), (3, i64 2)]) (σ' := []) ⟨_, orcs_nil, ?_⟩ ?_
    · simp only [go_sem, reduceIte, Nat.reduceLT, Nat.reduceEqDiff, Nat.reduceAdd, Nat.reduceBEq, Nat.reduceMul, Nat.reduceSub, Nat.reduceGT, Nat.reducePow, Nat.reduceLeDiff, Int.reduceToNat]
    refine run_ret ?_
    refine thenK_r ?_
    obtain rfl := Option.some.inj h
    refine ret_ok (.inr rfl) ?_
    simp only [go_sem, reduceIte, Nat.reduceLT, Nat.reduceEqDiff, Nat.reduceAdd, Nat.reduceBEq, Nat.reduceMul, Nat.reduceSub, Nat.reduceGT, Nat.reducePow, Nat.reduceLeDiff, Int.reduceToNat]
  · replace h := ite_f h hb
    refine run_skip ?_
    refine thenK_n ?_
    replace h := chk_some h; obtain ⟨hc_1525, h⟩ := h
    replace h := lt1_some h; obtain ⟨l_1526, hz_1527, h⟩ := h
    refine run_textE hE [0, 4] (fr' := [(0, .sl false (L cU8 b_1524)), (4, .bs ((1 == (w64 ((b_1524.length : Int) + 6)))) 0 (l_1526.length) 0 (l_1526.length))]) (σ' := [.buf 1 (L cU8 l_1526) false]) ⟨_, orcs_nil, ?_⟩ ?_
    · subst hz_1527; simp only [go_sem, reduceIte, Nat.reduceLT, Nat.reduceEqDiff, Nat.reduceAdd, Nat.reduceBEq, Nat.reduceMul, Nat.reduceSub, Nat.reduceGT, Nat.reducePow, Nat.reduceLeDiff, Int.reduceToNat, hc_1525]
    replace h := chk_some h; obtain ⟨hc_1528, h⟩ := h
    replace h := lt1_some h; obtain ⟨l_1529, hz_1530, h⟩ := h
    refine run_textE hE [0, 4] (fr' := [(0, .sl false (L cU8 b_1524)), (4, .bs ((1 == (w64 ((b_1524.length : Int) + 6)))) 0 (l_1529.length) 0 (l_1529.length))]) (σ' := [.buf 1 (L cU8 l_1529) false]) ⟨_, orcs_nil, ?_⟩ ?_
    · subst hz_1530; simp only [go_sem, reduceIte, Nat.reduceLT, Nat.reduceEqDiff, Nat.reduceAdd, Nat.reduceBEq, Nat.reduceMul, Nat.reduceSub, Nat.reduceGT, Nat.reducePow, Nat.reduceLeDiff, Int.reduceToNat, hc_1528, (show 0 < l_1526.length from hc_1528.2)]
    replace h := bind_some1 h; obtain ⟨j_2034, hA_2035, hj_2036⟩ := h
    refine run_join (fun (v : List UInt8) => (⟨asFr 53 [(4, .bs false 0 (v.length) 0 (v.length))], [.buf 1 (L cU8 v) false]⟩ : St)) (fun v => v = j_2034) ?_ ?_
    · have h := hA_2035; clear hA_2035
      replace h := bind_some1 h; obtain ⟨y_2037, hy_2038, h⟩ := h
      replace h := lt1_some h; obtain ⟨l_2039, hz_2040, h⟩ := h
      refine run_textE hE [4, 21, 22, 23] (fr' := [(4, .bs ((1 == (w64 ((b_1524.length : Int) + 6)))) 0 (l_1529.length) 0 (l_1529.length)), (21, .bs true 1 (l_2039.length) 0 (l_2039.length)), (22, i64 (((([b_1524, y_2037] : List (List UInt8))).length : Int))), (23, i64 0)]) (σ' := [.buf 1 (L cU8 l_1529) false, .buf 1 (L (cSl cU8) l_2039) false]) ⟨_, orcs_ok (l := [(20, 23, [.sl false (L cU8 b_1524)], .sl false (L cU8 y_2037))]) ⟨frame_seal_con hy_2038, trivial⟩, ?_⟩ ?_
      · subst hz_2040; simp only [go_sem, reduceIte, Nat.reduceLT, Nat.reduceEqDiff, Nat.reduceAdd, Nat.reduceBEq, Nat.reduceMul, Nat.reduceSub, Nat.reduceGT, Nat.reducePow, Nat.reduceLeDiff, Int.reduceToNat]
      refine run_block ?_
      replace h := bind_some1 h; obtain ⟨x_2372, hx_2373, hj_2374⟩ := h
      refine run_loopO hx_2373 (fun (v : Int × List UInt8) => (⟨asFr 53 [(4, .bs false 0 (v.2.length) 0 (v.2.length)), (21, .bs true 1 (l_2039.length) 0 (l_2039.length)), (22, i64 (((([b_1524, y_2037] : List (List UInt8))).length : Int))), (23, i64 v.1)], [.buf 1 (L cU8 v.2) false, .buf 1 (L (cSl cU8) l_2039) false]⟩ : St)) (weak_sel [0, 1] (by decide) rfl (by simp only [go_sem, reduceIte, Nat.reduceLT, Nat.reduceEqDiff, Nat.reduceAdd, Nat.reduceBEq, Nat.reduceMul, Nat.reduceSub, Nat.reduceGT, Nat.reducePow, Nat.reduceLeDiff, Int.reduceToNat]) (by simp only [go_sem, reduceIte, Nat.reduceLT, Nat.reduceEqDiff, Nat.reduceAdd, Nat.reduceBEq, Nat.reduceMul, Nat.reduceSub, Nat.reduceGT, Nat.reducePow, Nat.reduceLeDiff, Int.reduceToNat])) ?_
      rintro ⟨t_2207, l_2208⟩ o_2375 h hxx_2376
      replace h : frame_Make_b2 b_1524 y_2037 l_2039 t_2207 l_2208 = some o_2375 := h
      unfold frame_Make_b2 at h
      replace h := lt1_some h; obtain ⟨t_2377, hz_2378, h⟩ := h
      refine run_textE hE [4, 21, 22, 23, 24] (fr' := [(4, .bs false 0 (l_2208.length) 0 (l_2208.length)), (21, .bs true 1 (l_2039.length) 0 (l_2039.length)), (22, i64 (((([b_1524, y_2037] : List (List UInt8))).length : Int))), (23, i64 t_2207), (24, .bool t_2377)]) (σ' := [.buf 1 (L cU8 l_2208) false, .buf 1 (L (cSl cU8) l_2039) false]) ⟨_, orcs_nil, ?_⟩ ?_
      · subst hz_2378; simp only [go_sem, reduceIte, Nat.reduceLT, Nat.reduceEqDiff, Nat.reduceAdd, Nat.reduceBEq, Nat.reduceMul, Nat.reduceSub, Nat.reduceGT, Nat.reducePow, Nat.reduceLeDiff, Int.reduceToNat]
      refine run_seq ?_
      refine run_condL (b := t_2377) rfl (by decide) (fun hb => ?_) (fun hb => ?_)
      · replace h := ite_t h hb
        refine run_skip ?_
        refine thenK_n ?_
        replace h := bind_some1 h; obtain ⟨j_2458, hA_2459, hj_2460⟩ := h
        refine run_join (fun (v : List UInt8) => (⟨asFr 53 [(4, .bs false 0 (v.length) 0 (v.length)), (21, .bs true 1 (l_2039.length) 0 (l_2039.length)), (22, i64 (((([b_1524, y_2037] : List (List UInt8))).length : Int))), (23, i64 t_2207)], [.buf 1 (L cU8 v) false, .buf 1 (L (cSl cU8) l_2039) false]⟩ : St)) (fun v => v = j_2458) ?_ ?_
        · have h := hA_2459; clear hA_2459
          refine run_block ?_
          replace h := chk_some h; obtain ⟨hc_2461, h⟩ := h
          refine run_textE hE [4, 6, 21, 22, 23] (fr' := [(4, .bs false 0 (l_2208.length) 0 (l_2208.length)), (6, .sl false (L cU8 (nth l_2039 t_2207.toNat))), (21, .bs true 1 (l_2039.length) 0 (l_2039.length)), (22, i64 (((([b_1524, y_2037] : List (List UInt8))).length : Int))), (23, i64 t_2207)]) (σ' := [.buf 1 (L cU8 l_2208) false, .buf 1 (L (cSl cU8) l_2039) false]) ⟨_, orcs_nil, ?_⟩ ?_
          · simp only [go_sem, reduceIte, Nat.reduceLT, Nat.reduceEqDiff, Nat.reduceAdd, Nat.reduceBEq, Nat.reduceMul, Nat.reduceSub, Nat.reduceGT, Nat.reducePow, Nat.reduceLeDiff, Int.reduceToNat, hc_2461, hc_2461.2, lt_le hc_2461.2]
          refine run_textE hE [4, 21, 22, 23, 27, 28, 29] (fr' := [(4, .bs false 0 (l_2208.length) 0 (l_2208.length)), (21, .bs true 1 (l_2039.length) 0 (l_2039.length)), (22, i64 (((([b_1524, y_2037] : List (List UInt8))).length : Int))), (23, i64 t_2207), (27, .sl false (L cU8 (nth l_2039 t_2207.toNat))), (28, i64 (((nth l_2039 t_2207.toNat).length : Int))), (29, i64 0)]) (σ' := [.buf 1 (L cU8 l_2208) false, .buf 1 (L (cSl cU8) l_2039) false]) ⟨_, orcs_nil, ?_⟩ ?_
          · simp only [go_sem, reduceIte, Nat.reduceLT, Nat.reduceEqDiff, Nat.reduceAdd, Nat.reduceBEq, Nat.reduceMul, Nat.reduceSub, Nat.reduceGT, Nat.reducePow, Nat.reduceLeDiff, Int.reduceToNat]
          refine run_block ?_
          replace h := bind_some1 h; obtain ⟨x_2511, hx_2512, hj_2513⟩ := h
          refine run_loopO hx_2512 (fun (v : Int × List UInt8) => (⟨asFr 53 [(4, .bs false 0 (v.2.length) 0 (v.2.length)), (21, .bs true 1 (l_2039.length) 0 (l_2039.length)), (22, i64 (((([b_1524, y_2037] : List (List UInt8))).length : Int))), (23, i64 t_2207), (27, .sl false (L cU8 (nth l_2039 t_2207.toNat))), (28, i64 (((nth l_2039 t_2207.toNat).length : Int))), (29, i64 v.1)], [.buf 1 (L cU8 v.2) false, .buf 1 (L (cSl cU8) l_2039) false]⟩ : St)) (weak_sel [0, 1] (by decide) rfl (by simp only [go_sem, reduceIte, Nat.reduceLT, Nat.reduceEqDiff, Nat.reduceAdd, Nat.reduceBEq, Nat.reduceMul, Nat.reduceSub, Nat.reduceGT, Nat.reducePow, Nat.reduceLeDiff, Int.reduceToNat]) (by simp only [go_sem, reduceIte, Nat.reduceLT, Nat.reduceEqDiff, Nat.reduceAdd, Nat.reduceBEq, Nat.reduceMul, Nat.reduceSub, Nat.reduceGT, Nat.reducePow, Nat.reduceLeDiff, Int.reduceToNat])) ?_
          rintro ⟨t_2485, l_2486⟩ o_2514 h hxx_2515
          replace h : frame_Make_b1 l_2039 t_2207 t_2485 l_2486 = some o_2514 := h
          unfold frame_Make_b1 at h
          refine run_textE hE [4, 21, 22, 23, 27, 28, 29, 30] (fr' := [(4, .bs false 0 (l_2486.length) 0 (l_2486.length)), (21, .bs true 1 (l_2039.length) 0 (l_2039.length)), (22, i64 (((([b_1524, y_2037] : List (List UInt8))).length : Int))), (23, i64 t_2207), (27, .sl false (L cU8 (nth l_2039 t_2207.toNat))), (28, i64 (((nth l_2039 t_2207.toNat).length : Int))), (29, i64 t_2485), (30, .bool ((decide (t_2485 < ((nth l_2039 t_2207.toNat).length : Int)))))]) (σ' := [.buf 1 (L cU8 l_2486) false, .buf 1 (L (cSl cU8) l_2039) false]) ⟨_, orcs_nil, ?_⟩ ?_
          · simp only [go_sem, reduceIte, Nat.reduceLT, Nat.reduceEqDiff, Nat.reduceAdd, Nat.reduceBEq, Nat.reduceMul, Nat.reduceSub, Nat.reduceGT, Nat.reducePow, Nat.reduceLeDiff, Int.reduceToNat]
          refine run_seq ?_
          refine run_condL (b := (decide (t_2485 < ((nth l_2039 t_2207.toNat).length : Int)))) rfl (by decide) (fun hb => ?_) (fun hb => ?_)
          · replace h := ite_t h hb
            refine run_skip ?_
            refine thenK_n ?_
            refine run_seq ?_
            refine run_block ?_
            replace h := chk_some h; obtain ⟨hc_2516, h⟩ := h
            replace h := lt1_some h; obtain ⟨x_2517, hz_2518, h⟩ := h
            refine run_textE hE [4, 8, 21, 22, 23, 27, 28, 29] (fr' := [(4, .bs false 0 (l_2486.length) 0 (l_2486.length)), (8, u8 x_2517), (21, .bs true 1 (l_2039.length) 0 (l_2039.length)), (22, i64 (((([b_1524, y_2037] : List (List UInt8))).length : Int))), (23, i64 t_2207), (27, .sl false (L cU8 (nth l_2039 t_2207.toNat))), (28, i64 (((nth l_2039 t_2207.toNat).length : Int))), (29, i64 t_2485)]) (σ' := [.buf 1 (L cU8 l_2486) false, .buf 1 (L (cSl cU8) l_2039) false]) ⟨_, orcs_nil, ?_⟩ ?_
            · subst hz_2518; simp only [go_sem, reduceIte, Nat.reduceLT, Nat.reduceEqDiff, Nat.reduceAdd, Nat.reduceBEq, Nat.reduceMul, Nat.reduceSub, Nat.reduceGT, Nat.reducePow, Nat.reduceLeDiff, Int.reduceToNat, hc_2516, hc_2516.2, lt_le hc_2516.2]
            replace h := bind_some1 h; obtain ⟨j_2527, hA_2528, hj_2529⟩ := h
            refine run_join (fun (v : UInt8 × List UInt8) => (⟨asFr 53 [(4, .bs false 0 (v.2.length) 0 (v.2.length)), (8, u8 v.1), (21, .bs true 1 (l_2039.length) 0 (l_2039.length)), (22, i64 (((([b_1524, y_2037] : List (List UInt8))).length : Int))), (23, i64 t_2207), (27, .sl false (L cU8 (nth l_2039 t_2207.toNat))), (28, i64 (((nth l_2039 t_2207.toNat).length : Int))), (29, i64 t_2485)], [.buf 1 (L cU8 v.2) false, .buf 1 (L (cSl cU8) l_2039) false]⟩ : St)) (fun v => v = j_2527) ?_ ?_
            · have h := hA_2528; clear hA_2528
              replace h := bind_some1 h; obtain ⟨t_2530, hv_2531, h⟩ := h
              refine run_textW hE [4, 8, 21, 22, 23, 27, 28, 29, 38] (fr' := [(4, .bs false 0 (l_2486.length) 0 (l_2486.length)), (8, u8 x_2517), (21, .bs true 1 (l_2039.length) 0 (l_2039.length)), (22, i64 (((([b_1524, y_2037] : List (List UInt8))).length : Int))), (23, i64 t_2207), (27, .sl false (L cU8 (nth l_2039 t_2207.toNat))), (28, i64 (((nth l_2039 t_2207.toNat).length : Int))), (29, i64 t_2485), (38, .bool t_2530)]) (σ' := [.buf 1 (L cU8 l_2486) false, .buf 1 (L (cSl cU8) l_2039) false]) ?_ ?_
              · rcases Bool.eq_false_or_eq_true ((x_2517 == (126 : UInt8))) with hb_2532 | hb_2532
                · replace hv_2531 := ite_t hv_2531 hb_2532
                  have e_hv_2531 := Option.some.inj hv_2531; subst e_hv_2531
                  exact ⟨_, [(4, .bs false 0 (l_2486.length) 0 (l_2486.length)), (8, u8 x_2517), (21, .bs true 1 (l_2039.length) 0 (l_2039.length)), (22, i64 (((([b_1524, y_2037] : List (List UInt8))).length : Int))), (23, i64 t_2207), (27, .sl false (L cU8 (nth l_2039 t_2207.toNat))), (28, i64 (((nth l_2039 t_2207.toNat).length : Int))), (29, i64 t_2485), (38, .bool true)], [.buf 1 (L cU8 l_2486) false, .buf 1 (L (cSl cU8) l_2039) false], orcs_nil, by simp only [go_sem, reduceIte, Nat.reduceLT, Nat.reduceEqDiff, Nat.reduceAdd, Nat.reduceBEq, Nat.reduceMul, Nat.reduceSub, Nat.reduceGT, Nat.reducePow, Nat.reduceLeDiff, Int.reduceToNat, hb_2532], (weak_sel [0, 1] (by decide) rfl (by simp only [go_sem, reduceIte, Nat.reduceLT, Nat.reduceEqDiff, Nat.reduceAdd, Nat.reduceBEq, Nat.reduceMul, Nat.reduceSub, Nat.reduceGT, Nat.reducePow, Nat.reduceLeDiff, Int.reduceToNat]) (by simp only [go_sem, reduceIte, Nat.reduceLT, Nat.reduceEqDiff, Nat.reduceAdd, Nat.reduceBEq, Nat.reduceMul, Nat.reduceSub, Nat.reduceGT, Nat.reducePow, Nat.reduceLeDiff, Int.reduceToNat]))⟩
                · replace hv_2531 := ite_f hv_2531 hb_2532
                  have e_hv_2531 := Option.some.inj hv_2531; subst e_hv_2531
                  exact ⟨_, [(4, .bs false 0 (l_2486.length) 0 (l_2486.length)), (8, u8 x_2517), (21, .bs true 1 (l_2039.length) 0 (l_2039.length)), (22, i64 (((([b_1524, y_2037] : List (List UInt8))).length : Int))), (23, i64 t_2207), (27, .sl false (L cU8 (nth l_2039 t_2207.toNat))), (28, i64 (((nth l_2039 t_2207.toNat).length : Int))), (29, i64 t_2485), (38, .bool ((x_2517 == (125 : UInt8))))], [.buf 1 (L cU8 l_2486) false, .buf 1 (L (cSl cU8) l_2039) false], orcs_nil, by simp only [go_sem, reduceIte, Nat.reduceLT, Nat.reduceEqDiff, Nat.reduceAdd, Nat.reduceBEq, Nat.reduceMul, Nat.reduceSub, Nat.reduceGT, Nat.reducePow, Nat.reduceLeDiff, Int.reduceToNat, hb_2532], (weak_sel [0, 1] (by decide) rfl (by simp only [go_sem, reduceIte, Nat.reduceLT, Nat.reduceEqDiff, Nat.reduceAdd, Nat.reduceBEq, Nat.reduceMul, Nat.reduceSub, Nat.reduceGT, Nat.reducePow, Nat.reduceLeDiff, Int.reduceToNat]) (by simp only [go_sem, reduceIte, Nat.reduceLT, Nat.reduceEqDiff, Nat.reduceAdd, Nat.reduceBEq, Nat.reduceMul, Nat.reduceSub, Nat.reduceGT, Nat.reducePow, Nat.reduceLeDiff, Int.reduceToNat]))⟩
              refine run_condL (b := t_2530) rfl (by decide) (fun hb => ?_) (fun hb => ?_)
              · replace h := ite_t h hb
                replace h := chk_some h; obtain ⟨hc_2533, h⟩ := h
                replace h := lt1_some h; obtain ⟨l_2534, hz_2535, h⟩ := h
                refine run_textE hE [4, 8, 21, 22, 23, 27, 28, 29] (fr' := [(4, .bs false 0 (l_2534.length) 0 (l_2534.length)), (8, u8 x_2517), (21, .bs true 1 (l_2039.length) 0 (l_2039.length)), (22, i64 (((([b_1524, y_2037] : List (List UInt8))).length : Int))), (23, i64 t_2207), (27, .sl false (L cU8 (nth l_2039 t_2207.toNat))), (28, i64 (((nth l_2039 t_2207.toNat).length : Int))), (29, i64 t_2485)]) (σ' := [.buf 1 (L cU8 l_2534) false, .buf 1 (L (cSl cU8) l_2039) false, .buf 1 (L cU8 (([(125 : UInt8)] : List UInt8))) false]) ⟨_, orcs_nil, ?_⟩ ?_
                · subst hz_2535; simp only [go_sem, reduceIte, Nat.reduceLT, Nat.reduceEqDiff, Nat.reduceAdd, Nat.reduceBEq, Nat.reduceMul, Nat.reduceSub, Nat.reduceGT, Nat.reducePow, Nat.reduceLeDiff, Int.reduceToNat, hc_2533]
                refine run_textE0 hE wk_join [4, 8, 21, 22, 23, 27, 28, 29] (fr' := [(4, .bs false 0 (l_2534.length) 0 (l_2534.length)), (8, u8 ((x_2517 ^^^ (32 : UInt8)))), (21, .bs true 1 (l_2039.length) 0 (l_2039.length)), (22, i64 (((([b_1524, y_2037] : List (List UInt8))).length : Int))), (23, i64 t_2207), (27, .sl false (L cU8 (nth l_2039 t_2207.toNat))), (28, i64 (((nth l_2039 t_2207.toNat).length : Int))), (29, i64 t_2485)]) (σ' := [.buf 1 (L cU8 l_2534) false, .buf 1 (L (cSl cU8) l_2039) false, .buf 1 (L cU8 (([(125 : UInt8)] : List UInt8))) false]) ⟨_, orcs_nil, ?_⟩ ?_
                · simp only [go_sem, reduceIte, Nat.reduceLT, Nat.reduceEqDiff, Nat.reduceAdd, Nat.reduceBEq, Nat.reduceMul, Nat.reduceSub, Nat.reduceGT, Nat.reducePow, Nat.reduceLeDiff, Int.reduceToNat]
                obtain rfl := Option.some.inj h
                exact joinK_n (((x_2517 ^^^ (32 : UInt8)), l_2534)) rfl (weak_sel [0, 1] (by decide) rfl (by simp only [go_sem, reduceIte, Nat.reduceLT, Nat.reduceEqDiff, Nat.reduceAdd, Nat.reduceBEq, Nat.reduceMul, Nat.reduceSub, Nat.reduceGT, Nat.reducePow, Nat.reduceLeDiff, Int.reduceToNat]) (by simp only [go_sem, reduceIte, Nat.reduceLT, Nat.reduceEqDiff, Nat.reduceAdd, Nat.reduceBEq, Nat.reduceMul, Nat.reduceSub, Nat.reduceGT, Nat.reducePow, Nat.reduceLeDiff, Int.reduceToNat]))
              · replace h := ite_f h hb
                refine run_skip ?_
                obtain rfl := Option.some.inj h
                exact joinK_n ((x_2517, l_2486)) rfl (weak_sel [0, 1] (by decide) rfl (by simp only [go_sem, reduceIte, Nat.reduceLT, Nat.reduceEqDiff, Nat.reduceAdd, Nat.reduceBEq, Nat.reduceMul, Nat.reduceSub, Nat.reduceGT, Nat.reducePow, Nat.reduceLeDiff, Int.reduceToNat]) (by simp only [go_sem, reduceIte, Nat.reduceLT, Nat.reduceEqDiff, Nat.reduceAdd, Nat.reduceBEq, Nat.reduceMul, Nat.reduceSub, Nat.reduceGT, Nat.reducePow, Nat.reduceLeDiff, Int.reduceToNat]))
            rintro ⟨x_2525, l_2526⟩ rfl
            have h := hj_2529; clear hj_2529
            replace h := chk_some h; obtain ⟨hc_2536, h⟩ := h
            replace h := lt1_some h; obtain ⟨l_2537, hz_2538, h⟩ := h
            refine run_textE0 hE (wk_block wk_then) [4, 21, 22, 23, 27, 28, 29] (fr' := [(4, .bs false 0 (l_2537.length) 0 (l_2537.length)), (21, .bs true 1 (l_2039.length) 0 (l_2039.length)), (22, i64 (((([b_1524, y_2037] : List (List UInt8))).length : Int))), (23, i64 t_2207), (27, .sl false (L cU8 (nth l_2039 t_2207.toNat))), (28, i64 (((nth l_2039 t_2207.toNat).length : Int))), (29, i64 t_2485)]) (σ' := [.buf 1 (L cU8 l_2537) false, .buf 1 (L (cSl cU8) l_2039) false, .buf 1 (L cU8 (([x_2525] : List UInt8))) false]) ⟨_, orcs_nil, ?_⟩ ?_
            · subst hz_2538; simp only [go_sem, reduceIte, Nat.reduceLT, Nat.reduceEqDiff, Nat.reduceAdd, Nat.reduceBEq, Nat.reduceMul, Nat.reduceSub, Nat.reduceGT, Nat.reducePow, Nat.reduceLeDiff, Int.reduceToNat, hc_2536]
            refine blockK_n ?_
            refine thenK_n ?_
            refine run_textE0 hE wk_lp [4, 21, 22, 23, 27, 28, 29] (fr' := [(4, .bs false 0 (l_2537.length) 0 (l_2537.length)), (21, .bs true 1 (l_2039.length) 0 (l_2039.length)), (22, i64 (((([b_1524, y_2037] : List (List UInt8))).length : Int))), (23, i64 t_2207), (27, .sl false (L cU8 (nth l_2039 t_2207.toNat))), (28, i64 (((nth l_2039 t_2207.toNat).length : Int))), (29, i64 ((w64 (t_2485 + 1))))]) (σ' := [.buf 1 (L cU8 l_2537) false, .buf 1 (L (cSl cU8) l_2039) false, .buf 1 (L cU8 (([x_2525] : List UInt8))) false]) ⟨_, orcs_nil, ?_⟩ ?_
            · simp only [go_sem, reduceIte, Nat.reduceLT, Nat.reduceEqDiff, Nat.reduceAdd, Nat.reduceBEq, Nat.reduceMul, Nat.reduceSub, Nat.reduceGT, Nat.reducePow, Nat.reduceLeDiff, Int.reduceToNat]
            obtain rfl := Option.some.inj h
            exact lpK_n (((w64 (t_2485 + 1)), l_2537)) rfl (weak_sel [0, 1] (by decide) rfl (by simp only [go_sem, reduceIte, Nat.reduceLT, Nat.reduceEqDiff, Nat.reduceAdd, Nat.reduceBEq, Nat.reduceMul, Nat.reduceSub, Nat.reduceGT, Nat.reducePow, Nat.reduceLeDiff, Int.reduceToNat]) (by simp only [go_sem, reduceIte, Nat.reduceLT, Nat.reduceEqDiff, Nat.reduceAdd, Nat.reduceBEq, Nat.reduceMul, Nat.reduceSub, Nat.reduceGT, Nat.reducePow, Nat.reduceLeDiff, Int.reduceToNat]))
          · replace h := ite_f h hb
            refine run_exit ?_
            refine thenK_x ?_
            obtain rfl := Option.some.inj h
            have ex_x_2511 := hxx_2515 _ rfl
            subst ex_x_2511
            have h := hj_2513; clear hj_2513
            refine lpK_x ?_
            refine blockK_x ?_
            refine blockK_n ?_
            obtain rfl := Option.some.inj h
            exact joinK_n l_2486 rfl ((weak_sel (l' := [(4, .bs false 0 (l_2486.length) 0 (l_2486.length)), (21, .bs true 1 (l_2039.length) 0 (l_2039.length)), (22, i64 (((([b_1524, y_2037] : List (List UInt8))).length : Int))), (23, i64 t_2207)]) (σ' := [.buf 1 (L cU8 l_2486) false, .buf 1 (L (cSl cU8) l_2039) false]) [0, 1] (by decide) rfl (by simp only [go_sem, reduceIte, Nat.reduceLT, Nat.reduceEqDiff, Nat.reduceAdd, Nat.reduceBEq, Nat.reduceMul, Nat.reduceSub, Nat.reduceGT, Nat.reducePow, Nat.reduceLeDiff, Int.reduceToNat]) (by simp only [go_sem, reduceIte, Nat.reduceLT, Nat.reduceEqDiff, Nat.reduceAdd, Nat.reduceBEq, Nat.reduceMul, Nat.reduceSub, Nat.reduceGT, Nat.reducePow, Nat.reduceLeDiff, Int.reduceToNat])).trans (weak_sel [0, 1] (by decide) rfl (by simp only [go_sem, reduceIte, Nat.reduceLT, Nat.reduceEqDiff, Nat.reduceAdd, Nat.reduceBEq, Nat.reduceMul, Nat.reduceSub, Nat.reduceGT, Nat.reducePow, Nat.reduceLeDiff, Int.reduceToNat]) (by simp only [go_sem, reduceIte, Nat.reduceLT, Nat.reduceEqDiff, Nat.reduceAdd, Nat.reduceBEq, Nat.reduceMul, Nat.reduceSub, Nat.reduceGT, Nat.reducePow, Nat.reduceLeDiff, Int.reduceToNat])))
        rintro l_2457 rfl
        have h := hj_2460; clear hj_2460
        refine run_textE0 hE wk_lp [4, 21, 22, 23] (fr' := [(4, .bs false 0 (l_2457.length) 0 (l_2457.length)), (21, .bs true 1 (l_2039.length) 0 (l_2039.length)), (22, i64 (((([b_1524, y_2037] : List (List UInt8))).length : Int))), (23, i64 ((w64 (t_2207 + 1))))]) (σ' := [.buf 1 (L cU8 l_2457) false, .buf 1 (L (cSl cU8) l_2039) false]) ⟨_, orcs_nil, ?_⟩ ?_
        · simp only [go_sem, reduceIte, Nat.reduceLT, Nat.reduceEqDiff, Nat.reduceAdd, Nat.reduceBEq, Nat.reduceMul, Nat.reduceSub, Nat.reduceGT, Nat.reducePow, Nat.reduceLeDiff, Int.reduceToNat]
        obtain rfl := Option.some.inj h
        exact lpK_n (((w64 (t_2207 + 1)), l_2457)) rfl (weak_sel [0, 1] (by decide) rfl (by simp only [go_sem, reduceIte, Nat.reduceLT, Nat.reduceEqDiff, Nat.reduceAdd, Nat.reduceBEq, Nat.reduceMul, Nat.reduceSub, Nat.reduceGT, Nat.reducePow, Nat.reduceLeDiff, Int.reduceToNat]) (by simp only [go_sem, reduceIte, Nat.reduceLT, Nat.reduceEqDiff, Nat.reduceAdd, Nat.reduceBEq, Nat.reduceMul, Nat.reduceSub, Nat.reduceGT, Nat.reducePow, Nat.reduceLeDiff, Int.reduceToNat]))
      · replace h := ite_f h hb
        refine run_exit ?_
        refine thenK_x ?_
        obtain rfl := Option.some.inj h
        have ex_x_2372 := hxx_2376 _ rfl
        subst ex_x_2372
        have h := hj_2374; clear hj_2374
        refine lpK_x ?_
        refine blockK_x ?_
        obtain rfl := Option.some.inj h
        exact joinK_n l_2208 rfl ((weak_sel (l' := [(4, .bs false 0 (l_2208.length) 0 (l_2208.length))]) (σ' := [.buf 1 (L cU8 l_2208) false]) [0] (by decide) rfl (by simp only [go_sem, reduceIte, Nat.reduceLT, Nat.reduceEqDiff, Nat.reduceAdd, Nat.reduceBEq, Nat.reduceMul, Nat.reduceSub, Nat.reduceGT, Nat.reducePow, Nat.reduceLeDiff, Int.reduceToNat]) (by simp only [go_sem, reduceIte, Nat.reduceLT, Nat.reduceEqDiff, Nat.reduceAdd, Nat.reduceBEq, Nat.reduceMul, Nat.reduceSub, Nat.reduceGT, Nat.reducePow, Nat.reduceLeDiff, Int.reduceToNat])).trans (weak_sel [0] (by decide) rfl (by simp only [go_sem, reduceIte, Nat.reduceLT, Nat.reduceEqDiff, Nat.reduceAdd, Nat.reduceBEq, Nat.reduceMul, Nat.reduceSub, Nat.reduceGT, Nat.reducePow, Nat.reduceLeDiff, Int.reduceToNat]) (by simp only [go_sem, reduceIte, Nat.reduceLT, Nat.reduceEqDiff, Nat.reduceAdd, Nat.reduceBEq, Nat.reduceMul, Nat.reduceSub, Nat.reduceGT, Nat.reducePow, Nat.reduceLeDiff, Int.reduceToNat])))
    rintro l_2033 rfl
    have h := hj_2036; clear hj_2036
    replace h := chk_some h; obtain ⟨hc_2539, h⟩ := h
    replace h := lt1_some h; obtain ⟨l_2540, hz_2541, h⟩ := h
    refine run_textE hE [2, 3] (fr' := [(2, .bs false 0 (l_2540.length) 0 (l_2540.length)), (3, i64 0)]) (σ' := [.buf 1 (L cU8 l_2540) false, .buf 1 (L cU8 (([(126 : UInt8)] : List UInt8))) false]) ⟨_, orcs_nil, ?_⟩ ?_
    · subst hz_2541; simp only [go_sem, reduceIte, Nat.reduceLT, Nat.reduceEqDiff, Nat.reduceAdd, Nat.reduceBEq, Nat.reduceMul, Nat.reduceSub, Nat.reduceGT, Nat.reducePow, Nat.reduceLeDiff, Int.reduceToNat, hc_2539]
    refine run_ret ?_
    obtain rfl := Option.some.inj h
    refine ret_ok (.inr rfl) ?_
    simp only [go_sem, reduceIte, Nat.reduceLT, Nat.reduceEqDiff, Nat.reduceAdd, Nat.reduceBEq, Nat.reduceMul, Nat.reduceSub, Nat.reduceGT, Nat.reducePow, Nat.reduceLeDiff, Int.reduceToNat]

theorem r10_Make_con {b_2542 : List UInt8} {r : List UInt8 × Int} (h : r10_Make b_2542 = some r) : Con B 12 [.sl false (L cU8 b_2542)] [] (fun r' σ' => r' = .tup [.sl false (L cU8 r.1), i64 r.2] ∧ σ' = []) := by
  refine con_walk (N := 12) (rs := [.tmp 2, .tmp 3]) ok Try.func12 rfl (by decide +kernel) rfl rfl (Nat.le_of_ble_eq_true rfl) (fun F => ?_)
  have hE := ok.env F
  unfold r10_Make at h
  show Run (B.env F) 0 _ ⟨asFr 12 [(0, .sl false (L cU8 b_2542))], []⟩ _
  refine run_textE hE [0] (fr' := [(0, .sl false (L cU8 b_2542))]) (σ' := []) ⟨_, orcs_nil, ?_⟩ ?_
  · simp only [go_sem, reduceIte, Nat.reduceLT, Nat.reduceEqDiff, Nat.reduceAdd, Nat.reduceBEq, Nat.reduceMul, Nat.reduceSub, Nat.reduceGT, Nat.reducePow, Nat.reduceLeDiff, Int.reduceToNat]
  refine run_seq ?_
  refine run_textE hE [0, 6] (fr' := [(0, .sl false (L cU8 b_2542)), (6, .bool ((decide ((b_2542.length : Int) > 8192))))]) (σ' := []) ⟨_, orcs_nil, ?_⟩ ?_
  · simp only [go_sem, reduceIte, Nat.reduceLT, Nat.reduceEqDiff, Nat.reduceAdd, Nat.reduceBEq, Nat.reduceMul, Nat.reduceSub, Nat.reduceGT, Nat.reducePow, Nat.reduceLeDiff, Int.reduceToNat]
  refine run_condL (b := (decide ((b_2542.length : Int) > 8192))) rfl (by decide) (fun hb => ?_) (fun hb => ?_)
  · replace h := ite_t h hb
    refine run_textE hE [2, 3] (fr' := [(2, .sl true (L cU8 ([]))), (3, i64 2)]) (σ' := []) ⟨_, orcs_nil, ?_⟩ ?_
    · simp only [go_sem, reduceIte, Nat.reduceLT, Nat.reduceEqDiff, Nat.reduceAdd, Nat.reduceBEq, Nat.reduceMul, Nat.reduceSub, Nat.reduceGT, Nat.reducePow, Nat.reduceLeDiff, Int.reduceToNat]
    refine run_ret ?_
    refine thenK_r ?_
    obtain rfl := Option.some.inj h
    refine ret_ok (.inr rfl) ?_
    simp only [go_sem, reduceIte, Nat.reduceLT, Nat.reduceEqDiff, Nat.reduceAdd, Nat.reduceBEq, Nat.reduceMul, Nat.reduceSub, Nat.reduceGT, Nat.reducePow, Nat.reduceLeDiff, Int.reduceToNat]
  · replace h := ite_f h hb
    refine run_skip ?_
    refine thenK_n ?_
    replace h := bind_some1 h; obtain ⟨y_2543, hy_2546, h⟩ := h
    replace h := bind_some1 h; obtain ⟨y_2544, hy_2547, h⟩ := h
    replace h := bind_some1 h; obtain ⟨y_2545, hy_2548, h⟩ := h
    refine run_textE hE [2, 3] (fr' := [(2, .sl false (L cU8 y_2545)), (3, i64 0)]) (σ' := []) ⟨_, orcs_ok (l := [(9, 14, [.sl false (L cU8 b_2542)], u32 y_2543), (10, 22, [.sl false (L cU8 b_2542), u32 y_2543], .sl false (L cU8 y_2544)), (11, 21, [.sl false (L cU8 y_2544)], .sl false (L cU8 y_2545))]) ⟨r10_Crc_con hy_2546, r10_Sealed_con hy_2547, r10_Wrapped_con hy_2548, trivial⟩, ?_⟩ ?_
    · simp only [go_sem, reduceIte, Nat.reduceLT, Nat.reduceEqDiff, Nat.reduceAdd, Nat.reduceBEq, Nat.reduceMul, Nat.reduceSub, Nat.reduceGT, Nat.reducePow, Nat.reduceLeDiff, Int.reduceToNat]
    refine run_ret ?_
    obtain rfl := Option.some.inj h
    refine ret_ok (.inr rfl) ?_
    simp only [go_sem, reduceIte, Nat.reduceLT, Nat.reduceEqDiff, Nat.reduceAdd, Nat.reduceBEq, Nat.reduceMul, Nat.reduceSub, Nat.reduceGT, Nat.reducePow, Nat.reduceLeDiff, Int.reduceToNat]

theorem frame_content_con {d_2549 : Api_Deframer} {r : List UInt8 × Bool} (h : frame_content d_2549 = some r) : Con B 24 [.agg [.sl false (L cU8 d_2549.Rest), .bool d_2549.In, .bool d_2549.Escape, .bool d_2549.Bad]] [] (fun r' σ' => r' = .tup [.sl false (L cU8 r.1), .bool r.2] ∧ σ' = []) := by
  refine con_walk (N := 38) (rs := [.tmp 2, .tmp 3]) ok Try.func24 rfl (by decide +kernel) rfl rfl (Nat.le_of_ble_eq_true rfl) (fun F => ?_)
  have hE := ok.env F
  unfold frame_content at h
  show Run (B.env F) 0 _ ⟨asFr 38 [(0, .agg [.sl false (L cU8 d_2549.Rest), .bool d_2549.In, .bool d_2549.Escape, .bool d_2549.Bad])], []⟩ _
  refine run_textE hE [1] (fr' := [(1, .ref 0 0)]) (σ' := [.box [.sl false (L cU8 d_2549.Rest), .bool d_2549.In, .bool d_2549.Escape, .bool d_2549.Bad] false]) ⟨_, orcs_nil, ?_⟩ ?_
  · simp only [go_sem, reduceIte, Nat.reduceLT, Nat.reduceEqDiff, Nat.reduceAdd, Nat.reduceBEq, Nat.reduceMul, Nat.reduceSub, Nat.reduceGT, Nat.reducePow, Nat.reduceLeDiff, Int.reduceToNat]
  replace h := lt1_some h; obtain ⟨n_2550, hz_2551, h⟩ := h
  refine run_textE hE [1, 4] (fr' := [(1, .ref 0 0), (4, i64 n_2550)]) (σ' := [.box [.sl false (L cU8 d_2549.Rest), .bool d_2549.In, .bool d_2549.Escape, .bool d_2549.Bad] false]) ⟨_, orcs_nil, ?_⟩ ?_
  · subst hz_2551; simp only [go_sem, reduceIte, Nat.reduceLT, Nat.reduceEqDiff, Nat.reduceAdd, Nat.reduceBEq, Nat.reduceMul, Nat.reduceSub, Nat.reduceGT, Nat.reducePow, Nat.reduceLeDiff, Int.reduceToNat]
  refine run_seq ?_
  replace h := bind_some1 h; obtain ⟨t_2552, hv_2553, h⟩ := h
  refine run_textW hE [1, 4, 22] (fr' := [(1, .ref 0 0), (4, i64 n_2550), (22, .bool t_2552)]) (σ' := [.box [.sl false (L cU8 d_2549.Rest), .bool d_2549.In, .bool d_2549.Escape, .bool d_2549.Bad] false]) ?_ ?_
  · rcases Bool.eq_false_or_eq_true d_2549.Escape with hb_2554 | hb_2554
    · replace hv_2553 := ite_t hv_2553 hb_2554
      have e_hv_2553 := Option.some.inj hv_2553; subst e_hv_2553
      exact ⟨_, [(1, .ref 0 0), (4, i64 n_2550), (22, .bool true)], [.box [.sl false (L cU8 d_2549.Rest), .bool d_2549.In, .bool d_2549.Escape, .bool d_2549.Bad] false], orcs_nil, by simp only [go_sem, reduceIte, Nat.reduceLT, Nat.reduceEqDiff, Nat.reduceAdd, Nat.reduceBEq, Nat.reduceMul, Nat.reduceSub, Nat.reduceGT, Nat.reducePow, Nat.reduceLeDiff, Int.reduceToNat, hb_2554], (weak_sel [0] (by decide) rfl (by simp only [go_sem, reduceIte, Nat.reduceLT, Nat.reduceEqDiff, Nat.reduceAdd, Nat.reduceBEq, Nat.reduceMul, Nat.reduceSub, Nat.reduceGT, Nat.reducePow, Nat.reduceLeDiff, Int.reduceToNat]) (by simp only [go_sem, reduceIte, Nat.reduceLT, Nat.reduceEqDiff, Nat.reduceAdd, Nat.reduceBEq, Nat.reduceMul, Nat.reduceSub, Nat.reduceGT, Nat.reducePow, Nat.reduceLeDiff, Int.reduceToNat]))⟩
    · replace hv_2553 := ite_f hv_2553 hb_2554
      rcases Bool.eq_false_or_eq_true d_2549.Bad with hb_2555 | hb_2555
      · replace hv_2553 := ite_t hv_2553 hb_2555
        have e_hv_2553 := Option.some.inj hv_2553; subst e_hv_2553
        exact ⟨_, [(1, .ref 0 0), (4, i64 n_2550), (22, .bool true)], [.box [.sl false (L cU8 d_2549.Rest), .bool d_2549.In, .bool d_2549.Escape, .bool d_2549.Bad] false], orcs_nil, by simp only [go_sem, reduceIte, Nat.reduceLT, Nat.reduceEqDiff, Nat.reduceAdd, Nat.reduceBEq, Nat.reduceMul, Nat.reduceSub, Nat.reduceGT, Nat.reducePow, Nat.reduceLeDiff, Int.reduceToNat, hb_2554, hb_2555], (weak_sel [0] (by decide) rfl (by simp only [go_sem, reduceIte, Nat.reduceLT, Nat.reduceEqDiff, Nat.reduceAdd, Nat.reduceBEq, Nat.reduceMul, Nat.reduceSub, Nat.reduceGT, Nat.reducePow, Nat.reduceLeDiff, Int.reduceToNat]) (by simp only [go_sem, reduceIte, Nat.reduceLT, Nat.reduceEqDiff, Nat.reduceAdd, Nat.reduceBEq, Nat.reduceMul, Nat.reduceSub, Nat.reduceGT, Nat.reducePow, Nat.reduceLeDiff, Int.reduceToNat]))⟩
      · replace hv_2553 := ite_f hv_2553 hb_2555
        rcases Bool.eq_false_or_eq_true ((decide (n_2550 < 0))) with hb_2556 | hb_2556
        · replace hv_2553 := ite_t hv_2553 hb_2556
          have e_hv_2553 := Option.some.inj hv_2553; subst e_hv_2553
          exact ⟨_, [(1, .ref 0 0), (4, i64 n_2550), (22, .bool true)], [.box [.sl false (L cU8 d_2549.Rest), .bool d_2549.In, .bool d_2549.Escape, .bool d_2549.Bad] false], orcs_nil, by simp only [go_sem, reduceIte, Nat.reduceLT, Nat.reduceEqDiff, Nat.reduceAdd, Nat.reduceBEq, Nat.reduceMul, Nat.reduceSub, Nat.reduceGT, Nat.reducePow, Nat.reduceLeDiff, Int.reduceToNat, hb_2554, hb_2555, hb_2556], (weak_sel [0] (by decide) rfl (by simp only [go_sem, reduceIte, Nat.reduceLT, Nat.reduceEqDiff, Nat.reduceAdd, Nat.reduceBEq, Nat.reduceMul, Nat.reduceSub, Nat.reduceGT, Nat.reducePow, Nat.reduceLeDiff, Int.reduceToNat]) (by simp only [go_sem, reduceIte, Nat.reduceLT, Nat.reduceEqDiff, Nat.reduceAdd, Nat.reduceBEq, Nat.reduceMul, Nat.reduceSub, Nat.reduceGT, Nat.reducePow, Nat.reduceLeDiff, Int.reduceToNat]))⟩
        · replace hv_2553 := ite_f hv_2553 hb_2556
          have e_hv_2553 := Option.some.inj hv_2553; subst e_hv_2553
          exact ⟨_, [(1, .ref 0 0), (4, i64 n_2550), (22, .bool ((decide (n_2550 > 8192))))], [.box [.sl false (L cU8 d_2549.Rest), .bool d_2549.In, .bool d_2549.Escape, .bool d_2549.Bad] false], orcs_nil, by simp only [go_sem, reduceIte, Nat.reduceLT, Nat.reduceEqDiff, Nat.reduceAdd, Nat.reduceBEq, Nat.reduceMul, Nat.reduceSub, Nat.reduceGT, Nat.reducePow, Nat.reduceLeDiff, Int.reduceToNat, hb_2554, hb_2555, hb_2556], (weak_sel [0] (by decide) rfl (by simp only [go_sem, reduceIte, Nat.reduceLT, Nat.reduceEqDiff, Nat.reduceAdd, Nat.reduceBEq, Nat.reduceMul, Nat.reduceSub, Nat.reduceGT, Nat.reducePow, Nat.reduceLeDiff, Int.reduceToNat]) (by simp only [go_sem, reduceIte, Nat.reduceLT, Nat.reduceEqDiff, Nat.reduceAdd, Nat.reduceBEq, Nat.reduceMul, Nat.reduceSub, Nat.reduceGT, Nat.reducePow, Nat.reduceLeDiff, Int.reduceToNat]))⟩
  refine run_condL (b := t_2552) rfl (by decide) (fun hb => ?_) (fun hb => ?_)
  · replace h := ite_t h hb
    refine run_textE hE [2, 3] (fr' := [(2, .sl true (L cU8 ([]))), (3, .bool false)]) (σ' := [.box [.sl false (L cU8 d_2549.Rest), .bool d_2549.In, .bool d_2549.Escape, .bool d_2549.Bad] false]) ⟨_, orcs_nil, ?_⟩ ?_
    · simp only [go_sem, reduceIte, Nat.reduceLT, Nat.reduceEqDiff, Nat.reduceAdd, Nat.reduceBEq, Nat.reduceMul, Nat.reduceSub, Nat.reduceGT, Nat.reducePow, Nat.reduceLeDiff, Int.reduceToNat]
    refine run_ret ?_
    refine thenK_r ?_
    obtain rfl := Option.some.inj h
    refine ret_ok (.inr rfl) ?_
    simp only [go_sem, reduceIte, Nat.reduceLT, Nat.reduceEqDiff, Nat.reduceAdd, Nat.reduceBEq, Nat.reduceMul, Nat.reduceSub, Nat.reduceGT, Nat.reducePow, Nat.reduceLeDiff, Int.reduceToNat]
  · replace h := ite_f h hb
    refine run_skip ?_
    refine thenK_n ?_
    replace h := chk_some h; obtain ⟨hc_2559, h⟩ := h
    replace h := chk_some h; obtain ⟨hc_2560, h⟩ := h
    replace h := chk_some h; obtain ⟨hc_2561, h⟩ := h
    replace h := bind_some1 h; obtain ⟨y_2557, hy_2562, h⟩ := h
    replace h := chk_some h; obtain ⟨hc_2563, h⟩ := h
    replace h := bind_some1 h; obtain ⟨y_2558, hy_2564, h⟩ := h
    refine run_drawE hE mixed [[], [0], [], [], [0, 1, 2, 3], [], [5], [], [5, 6, 7], [5, 6, 7, 8], [], [10], [], [10, 11, 12], [5, 6, 7, 8, 9, 10, 11, 12, 13], [0, 1, 2, 3, 4, 5, 6, 7, 8, 9, 10, 11, 12, 13, 14], [0, 1, 2, 3, 4, 5, 6, 7, 8, 9, 10, 11, 12, 13, 14, 15]] (by kernel_rfl) (by kernel_rfl) [2, 3] (fr' := [(2, .sl true (L cU8 ((d_2549.Rest.take n_2550.toNat)))), (3, .bool y_2558)]) (σ' := [.box [.sl false (L cU8 d_2549.Rest), .bool d_2549.In, .bool d_2549.Escape, .bool d_2549.Bad] false]) ⟨_, orcs_ok (l := [(32, 23, [.sl false (L cU8 ((d_2549.Rest.take n_2550.toNat)))], .sl false (L cU8 y_2557)), (37, 27, [.sl false (L cU8 y_2557), .sl false (L cU8 (((d_2549.Rest.drop n_2550.toNat).take (d_2549.Rest.length - n_2550.toNat))))], .bool y_2558)]) ⟨frame_seal_con hy_2562, bytes_Equal_con hy_2564, trivial⟩, ?_⟩ ?_
    · simp only [go_sem, reduceIte, Nat.reduceLT, Nat.reduceEqDiff, Nat.reduceAdd, Nat.reduceBEq, Nat.reduceMul, Nat.reduceSub, Nat.reduceGT, Nat.reducePow, Nat.reduceLeDiff, Int.reduceToNat, hc_2559, hc_2560, hc_2561, hc_2563]
    refine run_ret ?_
    obtain rfl := Option.some.inj h
    refine ret_ok (.inr rfl) ?_
    simp only [go_sem, reduceIte, Nat.reduceLT, Nat.reduceEqDiff, Nat.reduceAdd, Nat.reduceBEq, Nat.reduceMul, Nat.reduceSub, Nat.reduceGT, Nat.reducePow, Nat.reduceLeDiff, Int.reduceToNat]

end Go.Proofs.Ytneejmndnihaoaa
