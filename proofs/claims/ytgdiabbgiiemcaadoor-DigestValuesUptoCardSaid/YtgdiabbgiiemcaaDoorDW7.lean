/-
  The functions compute just that.
-/
import Derived.Test.YtgdiabbgiiemcaaDoorDW6
import Derived.KernelRfl
namespace Go.Proofs.YtgdiabbgiiemcaaDoor
open Go.Rv
set_option linter.unusedVariables false
set_option linter.unusedSimpArgs false
set_option maxRecDepth 20000

theorem digest_sum_con {parts_2240 : List (List UInt8)} {r : Arr UInt8 32} (h : digest_sum parts_2240 = some r) : Con B 28 [.sl false (L (cSl cU8) parts_2240)] [] (fun r' σ' => r' = .agg (C1 u8 r.l) ∧ σ' = []) := by
  refine con_walk (N := 72) (rs := [.cell 2 25]) ok Tryd.func28 rfl (by decide +kernel) rfl rfl (Nat.le_of_ble_eq_true rfl) (fun F => ?_)
  have hE := ok.env F
  unfold digest_sum at h
  show Run (B.env F) 0 _ ⟨asFr 72 [(0, .sl false (L (cSl cU8) parts_2240))], []⟩ _
  refine run_textE hE [0, 2] (fr' := [(0, .sl false (L (cSl cU8) parts_2240)), (2, .ref 0 0)]) (σ' := [.box (C1 u8 ((Arr.rep 32 (0 : UInt8))).l) false]) ⟨_, orcs_nil, ?_⟩ ?_
  · simp only [go_sem, reduceIte, Nat.reduceLT, Nat.reduceEqDiff, Nat.reduceAdd, Nat.reduceBEq, Nat.reduceMul, Nat.reduceSub, Nat.reduceGT, Nat.reducePow, Nat.reduceLeDiff, Int.reduceToNat]
  refine run_textE hE [0, 2, 3] (fr' := [(0, .sl false (L (cSl cU8) parts_2240)), (2, .ref 0 0), (3, .sl true (L cU8 ([])))]) (σ' := [.box (C1 u8 ((Arr.rep 32 (0 : UInt8))).l) false]) ⟨_, orcs_nil, ?_⟩ ?_
  · simp only [go_sem, reduceIte, Nat.reduceLT, Nat.reduceEqDiff, Nat.reduceAdd, Nat.reduceBEq, Nat.reduceMul, Nat.reduceSub, Nat.reduceGT, Nat.reducePow, Nat.reduceLeDiff, Int.reduceToNat]
  replace h := bind_some1 h; obtain ⟨j_2266, hA_2267, hj_2268⟩ := h
  refine run_join (fun (v : List UInt8) => (⟨asFr 72 [(2, .ref 0 0), (3, .bs false 1 (v.length) 0 (v.length))], [.box (C1 u8 ((Arr.rep 32 (0 : UInt8))).l) false, .buf 1 (L cU8 v) false]⟩ : St)) (fun v => v = j_2266) ?_ ?_
  · have h := hA_2267; clear hA_2267
    refine run_textE hE [2, 3, 10, 11, 12] (fr' := [(2, .ref 0 0), (3, .sl true (L cU8 ([]))), (10, .sl false (L (cSl cU8) parts_2240)), (11, i64 ((parts_2240.length : Int))), (12, i64 0)]) (σ' := [.box (C1 u8 ((Arr.rep 32 (0 : UInt8))).l) false]) ⟨_, orcs_nil, ?_⟩ ?_
    · simp only [go_sem, reduceIte, Nat.reduceLT, Nat.reduceEqDiff, Nat.reduceAdd, Nat.reduceBEq, Nat.reduceMul, Nat.reduceSub, Nat.reduceGT, Nat.reducePow, Nat.reduceLeDiff, Int.reduceToNat]
    refine run_block ?_
    replace h := bind_some1 h; obtain ⟨x_2282, hx_2283, hj_2284⟩ := h
    refine run_loopO hx_2283 (fun (v : Int × List UInt8) => (⟨asFr 72 [(2, .ref 0 0), (3, .bs false 1 (v.2.length) 0 (v.2.length)), (10, .sl false (L (cSl cU8) parts_2240)), (11, i64 ((parts_2240.length : Int))), (12, i64 v.1)], [.box (C1 u8 ((Arr.rep 32 (0 : UInt8))).l) false, .buf 1 (L cU8 v.2) false]⟩ : St)) ((weak_nil 3 1 rfl).trans (weak_sel [0, 1] (by decide) rfl (by simp only [go_sem, reduceIte, Nat.reduceLT, Nat.reduceEqDiff, Nat.reduceAdd, Nat.reduceBEq, Nat.reduceMul, Nat.reduceSub, Nat.reduceGT, Nat.reducePow, Nat.reduceLeDiff, Int.reduceToNat]) (by simp only [go_sem, reduceIte, Nat.reduceLT, Nat.reduceEqDiff, Nat.reduceAdd, Nat.reduceBEq, Nat.reduceMul, Nat.reduceSub, Nat.reduceGT, Nat.reducePow, Nat.reduceLeDiff, Int.reduceToNat]))) ?_
    rintro ⟨t_2273, l_2274⟩ o_2285 h hxx_2286
    replace h : digest_sum_b1 parts_2240 t_2273 l_2274 = some o_2285 := h
    unfold digest_sum_b1 at h
    refine run_textE hE [2, 3, 10, 11, 12, 13] (fr' := [(2, .ref 0 0), (3, .bs false 1 (l_2274.length) 0 (l_2274.length)), (10, .sl false (L (cSl cU8) parts_2240)), (11, i64 ((parts_2240.length : Int))), (12, i64 t_2273), (13, .bool ((decide (t_2273 < (parts_2240.length : Int)))))]) (σ' := [.box (C1 u8 ((Arr.rep 32 (0 : UInt8))).l) false, .buf 1 (L cU8 l_2274) false]) ⟨_, orcs_nil, ?_⟩ ?_
    · simp only [go_sem, reduceIte, Nat.reduceLT, Nat.reduceEqDiff, Nat.reduceAdd, Nat.reduceBEq, Nat.reduceMul, Nat.reduceSub, Nat.reduceGT, Nat.reducePow, Nat.reduceLeDiff, Int.reduceToNat]
    refine run_seq ?_
    refine run_condL (b := (decide (t_2273 < (parts_2240.length : Int)))) rfl (by decide) (fun hb => ?_) (fun hb => ?_)
    · replace h := ite_t h hb
      refine run_skip ?_
      refine thenK_n ?_
      refine run_seq ?_
      refine run_block ?_
      replace h := chk_some h; obtain ⟨hc_2287, h⟩ := h
      replace h := lt1_some h; obtain ⟨p_2288, hz_2289, h⟩ := h
      refine run_textE hE [2, 3, 5, 10, 11, 12] (fr' := [(2, .ref 0 0), (3, .bs false 1 (l_2274.length) 0 (l_2274.length)), (5, .sl false (L cU8 p_2288)), (10, .sl false (L (cSl cU8) parts_2240)), (11, i64 ((parts_2240.length : Int))), (12, i64 t_2273)]) (σ' := [.box (C1 u8 ((Arr.rep 32 (0 : UInt8))).l) false, .buf 1 (L cU8 l_2274) false]) ⟨_, orcs_nil, ?_⟩ ?_
      · subst hz_2289; simp only [go_sem, reduceIte, Nat.reduceLT, Nat.reduceEqDiff, Nat.reduceAdd, Nat.reduceBEq, Nat.reduceMul, Nat.reduceSub, Nat.reduceGT, Nat.reducePow, Nat.reduceLeDiff, Int.reduceToNat, hc_2287, hc_2287.2, lt_le hc_2287.2]
      replace h := chk_some h; obtain ⟨hc_2290, h⟩ := h
      replace h := lt1_some h; obtain ⟨l_2291, hz_2292, h⟩ := h
      refine run_textE0 hE (wk_block wk_then) [2, 3, 10, 11, 12] (fr' := [(2, .ref 0 0), (3, .bs false 1 (l_2291.length) 0 (l_2291.length)), (10, .sl false (L (cSl cU8) parts_2240)), (11, i64 ((parts_2240.length : Int))), (12, i64 t_2273)]) (σ' := [.box (C1 u8 ((Arr.rep 32 (0 : UInt8))).l) false, .buf 1 (L cU8 l_2291) false]) ⟨_, orcs_nil, ?_⟩ ?_
      · subst hz_2292; simp only [go_sem, reduceIte, Nat.reduceLT, Nat.reduceEqDiff, Nat.reduceAdd, Nat.reduceBEq, Nat.reduceMul, Nat.reduceSub, Nat.reduceGT, Nat.reducePow, Nat.reduceLeDiff, Int.reduceToNat, hc_2290]
      refine blockK_n ?_
      refine thenK_n ?_
      refine run_textE0 hE wk_lp [2, 3, 10, 11, 12] (fr' := [(2, .ref 0 0), (3, .bs false 1 (l_2291.length) 0 (l_2291.length)), (10, .sl false (L (cSl cU8) parts_2240)), (11, i64 ((parts_2240.length : Int))), (12, i64 ((w64 (t_2273 + 1))))]) (σ' := [.box (C1 u8 ((Arr.rep 32 (0 : UInt8))).l) false, .buf 1 (L cU8 l_2291) false]) ⟨_, orcs_nil, ?_⟩ ?_
      · simp only [go_sem, reduceIte, Nat.reduceLT, Nat.reduceEqDiff, Nat.reduceAdd, Nat.reduceBEq, Nat.reduceMul, Nat.reduceSub, Nat.reduceGT, Nat.reducePow, Nat.reduceLeDiff, Int.reduceToNat]
      obtain rfl := Option.some.inj h
      exact lpK_n (((w64 (t_2273 + 1)), l_2291)) rfl (weak_sel [0, 1] (by decide) rfl (by simp only [go_sem, reduceIte, Nat.reduceLT, Nat.reduceEqDiff, Nat.reduceAdd, Nat.reduceBEq, Nat.reduceMul, Nat.reduceSub, Nat.reduceGT, Nat.reducePow, Nat.reduceLeDiff, Int.reduceToNat]) (by simp only [go_sem, reduceIte, Nat.reduceLT, Nat.reduceEqDiff, Nat.reduceAdd, Nat.reduceBEq, Nat.reduceMul, Nat.reduceSub, Nat.reduceGT, Nat.reducePow, Nat.reduceLeDiff, Int.reduceToNat]))
    · replace h := ite_f h hb
      refine run_exit ?_
      refine thenK_x ?_
      obtain rfl := Option.some.inj h
      have ex_x_2282 := hxx_2286 _ rfl
      subst ex_x_2282
      have h := hj_2284; clear hj_2284
      refine lpK_x ?_
      refine blockK_x ?_
      obtain rfl := Option.some.inj h
      exact joinK_n l_2274 rfl ((weak_sel (l' := [(2, .ref 0 0), (3, .bs false 1 (l_2274.length) 0 (l_2274.length))]) (σ' := [.box (C1 u8 ((Arr.rep 32 (0 : UInt8))).l) false, .buf 1 (L cU8 l_2274) false]) [0, 1] (by decide) rfl (by simp only [go_sem, reduceIte, Nat.reduceLT, Nat.reduceEqDiff, Nat.reduceAdd, Nat.reduceBEq, Nat.reduceMul, Nat.reduceSub, Nat.reduceGT, Nat.reducePow, Nat.reduceLeDiff, Int.reduceToNat]) (by simp only [go_sem, reduceIte, Nat.reduceLT, Nat.reduceEqDiff, Nat.reduceAdd, Nat.reduceBEq, Nat.reduceMul, Nat.reduceSub, Nat.reduceGT, Nat.reducePow, Nat.reduceLeDiff, Int.reduceToNat])).trans (weak_sel [0, 1] (by decide) rfl (by simp only [go_sem, reduceIte, Nat.reduceLT, Nat.reduceEqDiff, Nat.reduceAdd, Nat.reduceBEq, Nat.reduceMul, Nat.reduceSub, Nat.reduceGT, Nat.reducePow, Nat.reduceLeDiff, Int.reduceToNat]) (by simp only [go_sem, reduceIte, Nat.reduceLT, Nat.reduceEqDiff, Nat.reduceAdd, Nat.reduceBEq, Nat.reduceMul, Nat.reduceSub, Nat.reduceGT, Nat.reducePow, Nat.reduceLeDiff, Int.reduceToNat])))
  rintro l_2265 rfl
  have h := hj_2268; clear hj_2268
  replace h := lt1_some h; obtain ⟨n_2293, hz_2294, h⟩ := h
  refine run_textE hE [2, 3, 6] (fr' := [(2, .ref 0 0), (3, .bs false 1 (l_2265.length) 0 (l_2265.length)), (6, u64 n_2293)]) (σ' := [.box (C1 u8 ((Arr.rep 32 (0 : UInt8))).l) false, .buf 1 (L cU8 l_2265) false]) ⟨_, orcs_nil, ?_⟩ ?_
  · subst hz_2294; simp only [go_sem, reduceIte, Nat.reduceLT, Nat.reduceEqDiff, Nat.reduceAdd, Nat.reduceBEq, Nat.reduceMul, Nat.reduceSub, Nat.reduceGT, Nat.reducePow, Nat.reduceLeDiff, Int.reduceToNat]
  replace h := chk_some h; obtain ⟨hc_2295, h⟩ := h
  replace h := lt1_some h; obtain ⟨l_2296, hz_2297, h⟩ := h
  refine run_textE hE [2, 3, 6] (fr' := [(2, .ref 0 0), (3, .bs false 1 (l_2296.length) 0 (l_2296.length)), (6, u64 n_2293)]) (σ' := [.box (C1 u8 ((Arr.rep 32 (0 : UInt8))).l) false, .buf 1 (L cU8 l_2296) false, .buf 1 (L cU8 (([(128 : UInt8)] : List UInt8))) false]) ⟨_, orcs_nil, ?_⟩ ?_
  · subst hz_2297; simp only [go_sem, reduceIte, Nat.reduceLT, Nat.reduceEqDiff, Nat.reduceAdd, Nat.reduceBEq, Nat.reduceMul, Nat.reduceSub, Nat.reduceGT, Nat.reducePow, Nat.reduceLeDiff, Int.reduceToNat, hc_2295]
  replace h := bind_some1 h; obtain ⟨j_2318, hA_2319, hj_2320⟩ := h
  refine run_join (fun (v : List UInt8) => (⟨asFr 72 [(2, .ref 0 0), (3, .bs false 1 (v.length) 0 (v.length)), (6, u64 n_2293)], [.box (C1 u8 ((Arr.rep 32 (0 : UInt8))).l) false, .buf 1 (L cU8 v) false]⟩ : St)) (fun v => v = j_2318) ?_ ?_
  · have h := hA_2319; clear hA_2319
    refine run_block ?_
    replace h := bind_some1 h; obtain ⟨x_2331, hx_2332, hj_2333⟩ := h
    refine run_loopO hx_2332 (fun (v : List UInt8) => (⟨asFr 72 [(2, .ref 0 0), (3, .bs false 1 (v.length) 0 (v.length)), (6, u64 n_2293)], [.box (C1 u8 ((Arr.rep 32 (0 : UInt8))).l) false, .buf 1 (L cU8 v) false]⟩ : St)) (weak_sel [0, 1] (by decide) rfl (by simp only [go_sem, reduceIte, Nat.reduceLT, Nat.reduceEqDiff, Nat.reduceAdd, Nat.reduceBEq, Nat.reduceMul, Nat.reduceSub, Nat.reduceGT, Nat.reducePow, Nat.reduceLeDiff, Int.reduceToNat]) (by simp only [go_sem, reduceIte, Nat.reduceLT, Nat.reduceEqDiff, Nat.reduceAdd, Nat.reduceBEq, Nat.reduceMul, Nat.reduceSub, Nat.reduceGT, Nat.reducePow, Nat.reduceLeDiff, Int.reduceToNat])) ?_
    rintro l_2325 o_2334 h hxx_2335
    replace h : digest_sum_b2 l_2325 = some o_2334 := h
    unfold digest_sum_b2 at h
    refine run_seq ?_
    have hk_2336 : ¬(64 : Int) = 0 := by decide
    refine run_textE hE [2, 3, 6, 30] (fr' := [(2, .ref 0 0), (3, .bs false 1 (l_2325.length) 0 (l_2325.length)), (6, u64 n_2293), (30, .bool (((((l_2325.length : Int) : Int).tmod 64) != 56)))]) (σ' := [.box (C1 u8 ((Arr.rep 32 (0 : UInt8))).l) false, .buf 1 (L cU8 l_2325) false]) ⟨_, orcs_nil, ?_⟩ ?_
    · simp only [go_sem, reduceIte, Nat.reduceLT, Nat.reduceEqDiff, Nat.reduceAdd, Nat.reduceBEq, Nat.reduceMul, Nat.reduceSub, Nat.reduceGT, Nat.reducePow, Nat.reduceLeDiff, Int.reduceToNat, hk_2336]
    refine run_condL (b := ((((l_2325.length : Int) : Int).tmod 64) != 56)) rfl (by decide) (fun hb => ?_) (fun hb => ?_)
    · replace h := ite_t h hb
      refine run_skip ?_
      refine thenK_n ?_
      refine run_block ?_
      replace h := chk_some h; obtain ⟨hc_2337, h⟩ := h
      replace h := lt1_some h; obtain ⟨l_2338, hz_2339, h⟩ := h
      refine run_textE0 hE (wk_block wk_lp) [2, 3, 6] (fr' := [(2, .ref 0 0), (3, .bs false 1 (l_2338.length) 0 (l_2338.length)), (6, u64 n_2293)]) (σ' := [.box (C1 u8 ((Arr.rep 32 (0 : UInt8))).l) false, .buf 1 (L cU8 l_2338) false, .buf 1 (L cU8 (([(0 : UInt8)] : List UInt8))) false]) ⟨_, orcs_nil, ?_⟩ ?_
      · subst hz_2339; simp only [go_sem, reduceIte, Nat.reduceLT, Nat.reduceEqDiff, Nat.reduceAdd, Nat.reduceBEq, Nat.reduceMul, Nat.reduceSub, Nat.reduceGT, Nat.reducePow, Nat.reduceLeDiff, Int.reduceToNat, hc_2337]
      refine blockK_n ?_
      obtain rfl := Option.some.inj h
      exact lpK_n l_2338 rfl (weak_sel [0, 1] (by decide) rfl (by simp only [go_sem, reduceIte, Nat.reduceLT, Nat.reduceEqDiff, Nat.reduceAdd, Nat.reduceBEq, Nat.reduceMul, Nat.reduceSub, Nat.reduceGT, Nat.reducePow, Nat.reduceLeDiff, Int.reduceToNat]) (by simp only [go_sem, reduceIte, Nat.reduceLT, Nat.reduceEqDiff, Nat.reduceAdd, Nat.reduceBEq, Nat.reduceMul, Nat.reduceSub, Nat.reduceGT, Nat.reducePow, Nat.reduceLeDiff, Int.reduceToNat]))
    · replace h := ite_f h hb
      refine run_exit ?_
      refine thenK_x ?_
      obtain rfl := Option.some.inj h
      have ex_x_2331 := hxx_2335 _ rfl
      subst ex_x_2331
      have h := hj_2333; clear hj_2333
      refine lpK_x ?_
      refine blockK_x ?_
      obtain rfl := Option.some.inj h
      exact joinK_n l_2325 rfl ((weak_sel (l' := [(2, .ref 0 0), (3, .bs false 1 (l_2325.length) 0 (l_2325.length)), (6, u64 n_2293)]) (σ' := [.box (C1 u8 ((Arr.rep 32 (0 : UInt8))).l) false, .buf 1 (L cU8 l_2325) false]) [0, 1] (by decide) rfl (by simp only [go_sem, reduceIte, Nat.reduceLT, Nat.reduceEqDiff, Nat.reduceAdd, Nat.reduceBEq, Nat.reduceMul, Nat.reduceSub, Nat.reduceGT, Nat.reducePow, Nat.reduceLeDiff, Int.reduceToNat]) (by simp only [go_sem, reduceIte, Nat.reduceLT, Nat.reduceEqDiff, Nat.reduceAdd, Nat.reduceBEq, Nat.reduceMul, Nat.reduceSub, Nat.reduceGT, Nat.reducePow, Nat.reduceLeDiff, Int.reduceToNat])).trans (weak_sel [0, 1] (by decide) rfl (by simp only [go_sem, reduceIte, Nat.reduceLT, Nat.reduceEqDiff, Nat.reduceAdd, Nat.reduceBEq, Nat.reduceMul, Nat.reduceSub, Nat.reduceGT, Nat.reducePow, Nat.reduceLeDiff, Int.reduceToNat]) (by simp only [go_sem, reduceIte, Nat.reduceLT, Nat.reduceEqDiff, Nat.reduceAdd, Nat.reduceBEq, Nat.reduceMul, Nat.reduceSub, Nat.reduceGT, Nat.reducePow, Nat.reduceLeDiff, Int.reduceToNat])))
  rintro l_2317 rfl
  have h := hj_2320; clear hj_2320
  replace h := bind_some1 h; obtain ⟨j_2361, hA_2362, hj_2363⟩ := h
  refine run_join (fun (v : List UInt8) => (⟨asFr 72 [(2, .ref 0 0), (3, .bs false 1 (v.length) 0 (v.length))], [.box (C1 u8 ((Arr.rep 32 (0 : UInt8))).l) false, .buf 1 (L cU8 v) false]⟩ : St)) (fun v => v = j_2361) ?_ ?_
  · have h := hA_2362; clear hA_2362
    refine run_textE hE [2, 3, 6, 7] (fr' := [(2, .ref 0 0), (3, .bs false 1 (l_2317.length) 0 (l_2317.length)), (6, u64 n_2293), (7, i64 56)]) (σ' := [.box (C1 u8 ((Arr.rep 32 (0 : UInt8))).l) false, .buf 1 (L cU8 l_2317) false]) ⟨_, orcs_nil, ?_⟩ ?_
    · simp only [go_sem, reduceIte, Nat.reduceLT, Nat.reduceEqDiff, Nat.reduceAdd, Nat.reduceBEq, Nat.reduceMul, Nat.reduceSub, Nat.reduceGT, Nat.reducePow, Nat.reduceLeDiff, Int.reduceToNat]
    refine run_block ?_
    replace h := bind_some1 h; obtain ⟨x_2375, hx_2376, hj_2377⟩ := h
    refine run_loopO hx_2376 (fun (v : Int × List UInt8) => (⟨asFr 72 [(2, .ref 0 0), (3, .bs false 1 (v.2.length) 0 (v.2.length)), (6, u64 n_2293), (7, i64 v.1)], [.box (C1 u8 ((Arr.rep 32 (0 : UInt8))).l) false, .buf 1 (L cU8 v.2) false]⟩ : St)) (weak_sel [0, 1] (by decide) rfl (by simp only [go_sem, reduceIte, Nat.reduceLT, Nat.reduceEqDiff, Nat.reduceAdd, Nat.reduceBEq, Nat.reduceMul, Nat.reduceSub, Nat.reduceGT, Nat.reducePow, Nat.reduceLeDiff, Int.reduceToNat]) (by simp only [go_sem, reduceIte, Nat.reduceLT, Nat.reduceEqDiff, Nat.reduceAdd, Nat.reduceBEq, Nat.reduceMul, Nat.reduceSub, Nat.reduceGT, Nat.reducePow, Nat.reduceLeDiff, Int.reduceToNat])) ?_
    rintro ⟨i_2368, l_2369⟩ o_2378 h hxx_2379
    replace h : digest_sum_b3 n_2293 i_2368 l_2369 = some o_2378 := h
    unfold digest_sum_b3 at h
    refine run_seq ?_
    refine run_textE hE [2, 3, 6, 7, 35] (fr' := [(2, .ref 0 0), (3, .bs false 1 (l_2369.length) 0 (l_2369.length)), (6, u64 n_2293), (7, i64 i_2368), (35, .bool ((decide (i_2368 ≥ 0))))]) (σ' := [.box (C1 u8 ((Arr.rep 32 (0 : UInt8))).l) false, .buf 1 (L cU8 l_2369) false]) ⟨_, orcs_nil, ?_⟩ ?_
    · simp only [go_sem, reduceIte, Nat.reduceLT, Nat.reduceEqDiff, Nat.reduceAdd, Nat.reduceBEq, Nat.reduceMul, Nat.reduceSub, Nat.reduceGT, Nat.reducePow, Nat.reduceLeDiff, Int.reduceToNat]
    refine run_condL (b := (decide (i_2368 ≥ 0))) rfl (by decide) (fun hb => ?_) (fun hb => ?_)
    · replace h := ite_t h hb
      refine run_skip ?_
      refine thenK_n ?_
      refine run_seq ?_
      refine run_block ?_
      replace h := chk_some h; obtain ⟨hc_2380, h⟩ := h
      replace h := chk_some h; obtain ⟨hc_2381, h⟩ := h
      replace h := lt1_some h; obtain ⟨l_2382, hz_2383, h⟩ := h
      refine run_textE0 hE (wk_block wk_then) [2, 3, 6, 7] (fr' := [(2, .ref 0 0), (3, .bs false 1 (l_2382.length) 0 (l_2382.length)), (6, u64 n_2293), (7, i64 i_2368)]) (σ' := [.box (C1 u8 ((Arr.rep 32 (0 : UInt8))).l) false, .buf 1 (L cU8 l_2382) false, .buf 1 (L cU8 (([((shr64 n_2293 i_2368.toNat)).toUInt8] : List UInt8))) false]) ⟨_, orcs_nil, ?_⟩ ?_
      · subst hz_2383; simp only [go_sem, reduceIte, Nat.reduceLT, Nat.reduceEqDiff, Nat.reduceAdd, Nat.reduceBEq, Nat.reduceMul, Nat.reduceSub, Nat.reduceGT, Nat.reducePow, Nat.reduceLeDiff, Int.reduceToNat, hc_2380, hc_2381]
      refine blockK_n ?_
      refine thenK_n ?_
      refine run_textE0 hE wk_lp [2, 3, 6, 7] (fr' := [(2, .ref 0 0), (3, .bs false 1 (l_2382.length) 0 (l_2382.length)), (6, u64 n_2293), (7, i64 ((w64 (i_2368 - 8))))]) (σ' := [.box (C1 u8 ((Arr.rep 32 (0 : UInt8))).l) false, .buf 1 (L cU8 l_2382) false, .buf 1 (L cU8 (([((shr64 n_2293 i_2368.toNat)).toUInt8] : List UInt8))) false]) ⟨_, orcs_nil, ?_⟩ ?_
      · simp only [go_sem, reduceIte, Nat.reduceLT, Nat.reduceEqDiff, Nat.reduceAdd, Nat.reduceBEq, Nat.reduceMul, Nat.reduceSub, Nat.reduceGT, Nat.reducePow, Nat.reduceLeDiff, Int.reduceToNat]
      obtain rfl := Option.some.inj h
      exact lpK_n (((w64 (i_2368 - 8)), l_2382)) rfl (weak_sel [0, 1] (by decide) rfl (by simp only [go_sem, reduceIte, Nat.reduceLT, Nat.reduceEqDiff, Nat.reduceAdd, Nat.reduceBEq, Nat.reduceMul, Nat.reduceSub, Nat.reduceGT, Nat.reducePow, Nat.reduceLeDiff, Int.reduceToNat]) (by simp only [go_sem, reduceIte, Nat.reduceLT, Nat.reduceEqDiff, Nat.reduceAdd, Nat.reduceBEq, Nat.reduceMul, Nat.reduceSub, Nat.reduceGT, Nat.reducePow, Nat.reduceLeDiff, Int.reduceToNat]))
    · replace h := ite_f h hb
      refine run_exit ?_
      refine thenK_x ?_
      obtain rfl := Option.some.inj h
      have ex_x_2375 := hxx_2379 _ rfl
      subst ex_x_2375
      have h := hj_2377; clear hj_2377
      refine lpK_x ?_
      refine blockK_x ?_
      obtain rfl := Option.some.inj h
      exact joinK_n l_2369 rfl ((weak_sel (l' := [(2, .ref 0 0), (3, .bs false 1 (l_2369.length) 0 (l_2369.length))]) (σ' := [.box (C1 u8 ((Arr.rep 32 (0 : UInt8))).l) false, .buf 1 (L cU8 l_2369) false]) [0, 1] (by decide) rfl (by simp only [go_sem, reduceIte, Nat.reduceLT, Nat.reduceEqDiff, Nat.reduceAdd, Nat.reduceBEq, Nat.reduceMul, Nat.reduceSub, Nat.reduceGT, Nat.reducePow, Nat.reduceLeDiff, Int.reduceToNat]) (by simp only [go_sem, reduceIte, Nat.reduceLT, Nat.reduceEqDiff, Nat.reduceAdd, Nat.reduceBEq, Nat.reduceMul, Nat.reduceSub, Nat.reduceGT, Nat.reducePow, Nat.reduceLeDiff, Int.reduceToNat])).trans (weak_sel [0, 1] (by decide) rfl (by simp only [go_sem, reduceIte, Nat.reduceLT, Nat.reduceEqDiff, Nat.reduceAdd, Nat.reduceBEq, Nat.reduceMul, Nat.reduceSub, Nat.reduceGT, Nat.reducePow, Nat.reduceLeDiff, Int.reduceToNat]) (by simp only [go_sem, reduceIte, Nat.reduceLT, Nat.reduceEqDiff, Nat.reduceAdd, Nat.reduceBEq, Nat.reduceMul, Nat.reduceSub, Nat.reduceGT, Nat.reducePow, Nat.reduceLeDiff, Int.reduceToNat])))
  rintro l_2360 rfl
  have h := hj_2363; clear hj_2363
  replace h := lt1_some h; obtain ⟨f_2384, hz_2385, h⟩ := h
  refine run_textE hE [2, 3, 8] (fr' := [(2, .ref 0 0), (3, .bs false 1 (l_2360.length) 0 (l_2360.length)), (8, .ref 2 0)]) (σ' := [.box (C1 u8 ((Arr.rep 32 (0 : UInt8))).l) false, .buf 1 (L cU8 l_2360) false, .box (C1 u32 f_2384.l) false]) ⟨_, orcs_nil, ?_⟩ ?_
  · subst hz_2385; simp only [go_sem, reduceIte, Nat.reduceLT, Nat.reduceEqDiff, Nat.reduceAdd, Nat.reduceBEq, Nat.reduceMul, Nat.reduceSub, Nat.reduceGT, Nat.reducePow, Nat.reduceLeDiff, Int.reduceToNat, C1_rep, C1_nil, C1_cons]
  replace h := bind_some1 h; obtain ⟨j_2408, hA_2409, hj_2410⟩ := h
  refine run_join (fun (v : Arr UInt32 8) => (⟨asFr 72 [(2, .ref 0 0), (8, .ref 1 0)], [.box (C1 u8 ((Arr.rep 32 (0 : UInt8))).l) false, .box (C1 u32 v.l) false]⟩ : St)) (fun v => v = j_2408) ?_ ?_
  · have h := hA_2409; clear hA_2409
    refine run_block ?_
    replace h := bind_some1 h; obtain ⟨x_2423, hx_2424, hj_2425⟩ := h
    refine run_loopO hx_2424 (fun (v : Nat × Nat × Arr UInt32 8) => (⟨asFr 72 [(2, .ref 0 0), (3, .bs false 1 (l_2360.length) v.1 v.2.1), (8, .ref 2 0)], [.box (C1 u8 ((Arr.rep 32 (0 : UInt8))).l) false, .buf 1 (L cU8 l_2360) false, .box (C1 u32 v.2.2.l) false]⟩ : St)) (weak_sel [0, 1, 2] (by decide) rfl (by simp only [go_sem, reduceIte, Nat.reduceLT, Nat.reduceEqDiff, Nat.reduceAdd, Nat.reduceBEq, Nat.reduceMul, Nat.reduceSub, Nat.reduceGT, Nat.reducePow, Nat.reduceLeDiff, Int.reduceToNat]) (by simp only [go_sem, reduceIte, Nat.reduceLT, Nat.reduceEqDiff, Nat.reduceAdd, Nat.reduceBEq, Nat.reduceMul, Nat.reduceSub, Nat.reduceGT, Nat.reducePow, Nat.reduceLeDiff, Int.reduceToNat])) ?_
    rintro ⟨m_2415, m_2416, f_2417⟩ o_2426 h hxx_2427
    replace h : digest_sum_b4 l_2360 m_2415 m_2416 f_2417 = some o_2426 := h
    unfold digest_sum_b4 at h
    refine run_seq ?_
    refine run_textE hE [2, 3, 8, 48] (fr' := [(2, .ref 0 0), (3, .bs false 1 (l_2360.length) m_2415 m_2416), (8, .ref 2 0), (48, .bool ((decide ((m_2416 : Int) > 0))))]) (σ' := [.box (C1 u8 ((Arr.rep 32 (0 : UInt8))).l) false, .buf 1 (L cU8 l_2360) false, .box (C1 u32 f_2417.l) false]) ⟨_, orcs_nil, ?_⟩ ?_
    · simp only [go_sem, reduceIte, Nat.reduceLT, Nat.reduceEqDiff, Nat.reduceAdd, Nat.reduceBEq, Nat.reduceMul, Nat.reduceSub, Nat.reduceGT, Nat.reducePow, Nat.reduceLeDiff, Int.reduceToNat]
    refine run_condL (b := (decide ((m_2416 : Int) > 0))) rfl (by decide) (fun hb => ?_) (fun hb => ?_)
    · replace h := ite_t h hb
      refine run_skip ?_
      refine thenK_n ?_
      refine run_seq ?_
      refine run_block ?_
      replace h := chk_some h; obtain ⟨hc_2429, h⟩ := h
      replace h := bind_some1 h; obtain ⟨y_2428, hy_2430, h⟩ := h
      refine run_drawE0 hE mixed [[], [], [1], [0, 1, 2], [0, 1, 2, 3]] (by kernel_rfl) (by kernel_rfl) (wk_block wk_then) [2, 3, 8] (fr' := [(2, .ref 0 0), (3, .bs false 1 (l_2360.length) m_2415 m_2416), (8, .ref 2 0)]) (σ' := [.box (C1 u8 ((Arr.rep 32 (0 : UInt8))).l) false, .buf 1 (L cU8 l_2360) false, .box (C1 u32 y_2428.l) false]) ⟨_, orcs_ok (l := [(54, 36, [.agg (C1 u32 f_2417.l), .sl false (L cU8 (((l_2360.drop m_2415).take 64)))], .agg (C1 u32 y_2428.l))]) ⟨digest_block_con hy_2430, trivial⟩, ?_⟩ ?_
      · simp only [go_sem, reduceIte, Nat.reduceLT, Nat.reduceEqDiff, Nat.reduceAdd, Nat.reduceBEq, Nat.reduceMul, Nat.reduceSub, Nat.reduceGT, Nat.reducePow, Nat.reduceLeDiff, Int.reduceToNat, hc_2429]
      refine blockK_n ?_
      refine thenK_n ?_
      replace h := chk_some h; obtain ⟨hc_2431, h⟩ := h
      refine run_textE0 hE wk_lp [2, 3, 8] (fr' := [(2, .ref 0 0), (3, .bs false 1 (l_2360.length) ((m_2415 + 64)) ((m_2416 - 64))), (8, .ref 2 0)]) (σ' := [.box (C1 u8 ((Arr.rep 32 (0 : UInt8))).l) false, .buf 1 (L cU8 l_2360) false, .box (C1 u32 y_2428.l) false]) ⟨_, orcs_nil, ?_⟩ ?_
      · simp only [go_sem, reduceIte, Nat.reduceLT, Nat.reduceEqDiff, Nat.reduceAdd, Nat.reduceBEq, Nat.reduceMul, Nat.reduceSub, Nat.reduceGT, Nat.reducePow, Nat.reduceLeDiff, Int.reduceToNat, hc_2431]
      obtain rfl := Option.some.inj h
      exact lpK_n (((m_2415 + 64), (m_2416 - 64), y_2428)) rfl (weak_sel [0, 1, 2] (by decide) rfl (by simp only [go_sem, reduceIte, Nat.reduceLT, Nat.reduceEqDiff, Nat.reduceAdd, Nat.reduceBEq, Nat.reduceMul, Nat.reduceSub, Nat.reduceGT, Nat.reducePow, Nat.reduceLeDiff, Int.reduceToNat]) (by simp only [go_sem, reduceIte, Nat.reduceLT, Nat.reduceEqDiff, Nat.reduceAdd, Nat.reduceBEq, Nat.reduceMul, Nat.reduceSub, Nat.reduceGT, Nat.reducePow, Nat.reduceLeDiff, Int.reduceToNat]))
    · replace h := ite_f h hb
      refine run_exit ?_
      refine thenK_x ?_
      obtain rfl := Option.some.inj h
      have ex_x_2423 := hxx_2427 _ rfl
      subst ex_x_2423
      have h := hj_2425; clear hj_2425
      refine lpK_x ?_
      refine blockK_x ?_
      obtain rfl := Option.some.inj h
      exact joinK_n f_2417 rfl ((weak_sel (l' := [(2, .ref 0 0), (8, .ref 1 0)]) (σ' := [.box (C1 u8 ((Arr.rep 32 (0 : UInt8))).l) false, .box (C1 u32 f_2417.l) false]) [0, 2] (by decide) rfl (by simp only [go_sem, reduceIte, Nat.reduceLT, Nat.reduceEqDiff, Nat.reduceAdd, Nat.reduceBEq, Nat.reduceMul, Nat.reduceSub, Nat.reduceGT, Nat.reducePow, Nat.reduceLeDiff, Int.reduceToNat]) (by simp only [go_sem, reduceIte, Nat.reduceLT, Nat.reduceEqDiff, Nat.reduceAdd, Nat.reduceBEq, Nat.reduceMul, Nat.reduceSub, Nat.reduceGT, Nat.reducePow, Nat.reduceLeDiff, Int.reduceToNat])).trans (weak_sel [0, 1] (by decide) rfl (by simp only [go_sem, reduceIte, Nat.reduceLT, Nat.reduceEqDiff, Nat.reduceAdd, Nat.reduceBEq, Nat.reduceMul, Nat.reduceSub, Nat.reduceGT, Nat.reducePow, Nat.reduceLeDiff, Int.reduceToNat]) (by simp only [go_sem, reduceIte, Nat.reduceLT, Nat.reduceEqDiff, Nat.reduceAdd, Nat.reduceBEq, Nat.reduceMul, Nat.reduceSub, Nat.reduceGT, Nat.reducePow, Nat.reduceLeDiff, Int.reduceToNat])))
  rintro f_2407 rfl
  have h := hj_2410; clear hj_2410
  replace h := bind_some1 h; obtain ⟨j_2462, hA_2463, hj_2464⟩ := h
  refine run_join (fun (v : Arr UInt8 32) => (⟨asFr 72 [(2, .ref 0 0)], [.box (C1 u8 v.l) false]⟩ : St)) (fun v => v = j_2462) ?_ ?_
  · have h := hA_2463; clear hA_2463
    refine run_textE hE [2, 8, 55] (fr' := [(2, .ref 0 0), (8, .ref 1 0), (55, i64 0)]) (σ' := [.box (C1 u8 ((Arr.rep 32 (0 : UInt8))).l) false, .box (C1 u32 f_2407.l) false]) ⟨_, orcs_nil, ?_⟩ ?_
    · simp only [go_sem, reduceIte, Nat.reduceLT, Nat.reduceEqDiff, Nat.reduceAdd, Nat.reduceBEq, Nat.reduceMul, Nat.reduceSub, Nat.reduceGT, Nat.reducePow, Nat.reduceLeDiff, Int.reduceToNat]
    refine run_block ?_
    replace h := bind_some1 h; obtain ⟨x_2482, hx_2483, hj_2484⟩ := h
    refine run_loopO hx_2483 (fun (v : Int × Arr UInt8 32) => (⟨asFr 72 [(2, .ref 0 0), (8, .ref 1 0), (55, i64 v.1)], [.box (C1 u8 v.2.l) false, .box (C1 u32 f_2407.l) false]⟩ : St)) (weak_sel [0, 1] (by decide) rfl (by simp only [go_sem, reduceIte, Nat.reduceLT, Nat.reduceEqDiff, Nat.reduceAdd, Nat.reduceBEq, Nat.reduceMul, Nat.reduceSub, Nat.reduceGT, Nat.reducePow, Nat.reduceLeDiff, Int.reduceToNat]) (by simp only [go_sem, reduceIte, Nat.reduceLT, Nat.reduceEqDiff, Nat.reduceAdd, Nat.reduceBEq, Nat.reduceMul, Nat.reduceSub, Nat.reduceGT, Nat.reducePow, Nat.reduceLeDiff, Int.reduceToNat])) ?_
    rintro ⟨t_2472, f_2473⟩ o_2485 h hxx_2486
    replace h : digest_sum_b5 f_2407 t_2472 f_2473 = some o_2485 := h
    unfold digest_sum_b5 at h
    refine run_textE hE [2, 8, 55, 56] (fr' := [(2, .ref 0 0), (8, .ref 1 0), (55, i64 t_2472), (56, .bool ((decide (t_2472 < 32))))]) (σ' := [.box (C1 u8 f_2473.l) false, .box (C1 u32 f_2407.l) false]) ⟨_, orcs_nil, ?_⟩ ?_
    · simp only [go_sem, reduceIte, Nat.reduceLT, Nat.reduceEqDiff, Nat.reduceAdd, Nat.reduceBEq, Nat.reduceMul, Nat.reduceSub, Nat.reduceGT, Nat.reducePow, Nat.reduceLeDiff, Int.reduceToNat]
    refine run_seq ?_
    refine run_condL (b := (decide (t_2472 < 32))) rfl (by decide) (fun hb => ?_) (fun hb => ?_)
    · replace h := ite_t h hb
      refine run_skip ?_
      refine thenK_n ?_
      refine run_seq ?_
      refine run_block ?_
      refine run_textE hE [2, 8, 9, 55] (fr' := [(2, .ref 0 0), (8, .ref 1 0), (9, i64 t_2472), (55, i64 t_2472)]) (σ' := [.box (C1 u8 f_2473.l) false, .box (C1 u32 f_2407.l) false]) ⟨_, orcs_nil, ?_⟩ ?_
      · simp only [go_sem, reduceIte, Nat.reduceLT, Nat.reduceEqDiff, Nat.reduceAdd, Nat.reduceBEq, Nat.reduceMul, Nat.reduceSub, Nat.reduceGT, Nat.reducePow, Nat.reduceLeDiff, Int.reduceToNat]
      have hk_2487 : ¬(4 : Int) = 0 := by decide
      replace h := chk_some h; obtain ⟨hc_2488, h⟩ := h
      have hk_2489 : ¬(4 : Int) = 0 := by decide
      replace h := chk_some h; obtain ⟨hc_2490, h⟩ := h
      replace h := chk_some h; obtain ⟨hc_2491, h⟩ := h
      replace h := lt1_some h; obtain ⟨f_2492, hz_2493, h⟩ := h
      refine run_textE0 hE (wk_block wk_then) [2, 8, 55] (fr' := [(2, .ref 0 0), (8, .ref 1 0), (55, i64 t_2472)]) (σ' := [.box (C1 u8 f_2492.l) false, .box (C1 u32 f_2407.l) false]) ⟨_, orcs_nil, ?_⟩ ?_
      · subst hz_2493; simp only [go_sem, reduceIte, Nat.reduceLT, Nat.reduceEqDiff, Nat.reduceAdd, Nat.reduceBEq, Nat.reduceMul, Nat.reduceSub, Nat.reduceGT, Nat.reducePow, Nat.reduceLeDiff, Int.reduceToNat, hk_2487, hc_2488, hc_2488.2, lt_le hc_2488.2, hk_2489, hc_2490, hc_2491, hc_2491.2, lt_le hc_2491.2]
      refine blockK_n ?_
      refine thenK_n ?_
      refine run_textE0 hE wk_lp [2, 8, 55] (fr' := [(2, .ref 0 0), (8, .ref 1 0), (55, i64 ((w64 (t_2472 + 1))))]) (σ' := [.box (C1 u8 f_2492.l) false, .box (C1 u32 f_2407.l) false]) ⟨_, orcs_nil, ?_⟩ ?_
      · simp only [go_sem, reduceIte, Nat.reduceLT, Nat.reduceEqDiff, Nat.reduceAdd, Nat.reduceBEq, Nat.reduceMul, Nat.reduceSub, Nat.reduceGT, Nat.reducePow, Nat.reduceLeDiff, Int.reduceToNat]
      obtain rfl := Option.some.inj h
      exact lpK_n (((w64 (t_2472 + 1)), f_2492)) rfl (weak_sel [0, 1] (by decide) rfl (by simp only [go_sem, reduceIte, Nat.reduceLT, Nat.reduceEqDiff, Nat.reduceAdd, Nat.reduceBEq, Nat.reduceMul, Nat.reduceSub, Nat.reduceGT, Nat.reducePow, Nat.reduceLeDiff, Int.reduceToNat]) (by simp only [go_sem, reduceIte, Nat.reduceLT, Nat.reduceEqDiff, Nat.reduceAdd, Nat.reduceBEq, Nat.reduceMul, Nat.reduceSub, Nat.reduceGT, Nat.reducePow, Nat.reduceLeDiff, Int.reduceToNat]))
    · replace h := ite_f h hb
      refine run_exit ?_
      refine thenK_x ?_
      obtain rfl := Option.some.inj h
      have ex_x_2482 := hxx_2486 _ rfl
      subst ex_x_2482
      have h := hj_2484; clear hj_2484
      refine lpK_x ?_
      refine blockK_x ?_
      obtain rfl := Option.some.inj h
      exact joinK_n f_2473 rfl ((weak_sel (l' := [(2, .ref 0 0)]) (σ' := [.box (C1 u8 f_2473.l) false]) [0] (by decide) rfl (by simp only [go_sem, reduceIte, Nat.reduceLT, Nat.reduceEqDiff, Nat.reduceAdd, Nat.reduceBEq, Nat.reduceMul, Nat.reduceSub, Nat.reduceGT, Nat.reducePow, Nat.reduceLeDiff, Int.reduceToNat]) (by simp only [go_sem, reduceIte, Nat.reduceLT, Nat.reduceEqDiff, Nat.reduceAdd, Nat.reduceBEq, Nat.reduceMul, Nat.reduceSub, Nat.reduceGT, Nat.reducePow, Nat.reduceLeDiff, Int.reduceToNat])).trans (weak_sel [0] (by decide) rfl (by simp only [go_sem, reduceIte, Nat.reduceLT, Nat.reduceEqDiff, Nat.reduceAdd, Nat.reduceBEq, Nat.reduceMul, Nat.reduceSub, Nat.reduceGT, Nat.reducePow, Nat.reduceLeDiff, Int.reduceToNat]) (by simp only [go_sem, reduceIte, Nat.reduceLT, Nat.reduceEqDiff, Nat.reduceAdd, Nat.reduceBEq, Nat.reduceMul, Nat.reduceSub, Nat.reduceGT, Nat.reducePow, Nat.reduceLeDiff, Int.reduceToNat])))
  rintro f_2461 rfl
  have h := hj_2464; clear hj_2464
  refine run_textE hE [2] (fr' := [(2, .ref 0 0)]) (σ' := [.box (C1 u8 f_2461.l) false]) ⟨_, orcs_nil, ?_⟩ ?_
  · simp only [go_sem, reduceIte, Nat.reduceLT, Nat.reduceEqDiff, Nat.reduceAdd, Nat.reduceBEq, Nat.reduceMul, Nat.reduceSub, Nat.reduceGT, Nat.reducePow, Nat.reduceLeDiff, Int.reduceToNat]
  refine run_ret ?_
  obtain rfl := Option.some.inj h
  refine ret_ok (.inr rfl) ?_
  simp only [go_sem, reduceIte, Nat.reduceLT, Nat.reduceEqDiff, Nat.reduceAdd, Nat.reduceBEq, Nat.reduceMul, Nat.reduceSub, Nat.reduceGT, Nat.reducePow, Nat.reduceLeDiff, Int.reduceToNat]

theorem digest_Sum_con {b_2494 : List UInt8} {r : Arr UInt8 32} (h : digest_Sum b_2494 = some r) : Con B 12 [.sl false (L cU8 b_2494)] [] (fun r' σ' => r' = .agg (C1 u8 r.l) ∧ σ' = []) := by
  refine con_walk (N := 6) (rs := [.cell 2 25]) ok Tryd.func12 rfl (by decide +kernel) rfl rfl (Nat.le_of_ble_eq_true rfl) (fun F => ?_)
  have hE := ok.env F
  unfold digest_Sum at h
  show Run (B.env F) 0 _ ⟨asFr 6 [(0, .sl false (L cU8 b_2494))], []⟩ _
  refine run_textE hE [0, 2] (fr' := [(0, .sl false (L cU8 b_2494)), (2, .ref 0 0)]) (σ' := [.box (C1 u8 ((Arr.rep 32 (0 : UInt8))).l) false]) ⟨_, orcs_nil, ?_⟩ ?_
  · simp only [go_sem, reduceIte, Nat.reduceLT, Nat.reduceEqDiff, Nat.reduceAdd, Nat.reduceBEq, Nat.reduceMul, Nat.reduceSub, Nat.reduceGT, Nat.reducePow, Nat.reduceLeDiff, Int.reduceToNat]
  replace h := bind_some1 h; obtain ⟨y_2495, hy_2496, h⟩ := h
  refine run_textE hE [2] (fr' := [(2, .ref 0 0)]) (σ' := [.box (C1 u8 y_2495.l) false, .buf 1 (L (cSl cU8) (([b_2494] : List (List UInt8)))) false]) ⟨_, orcs_ok (l := [(5, 28, [.sl false (L (cSl cU8) (([b_2494] : List (List UInt8))))], .agg (C1 u8 y_2495.l))]) ⟨digest_sum_con hy_2496, trivial⟩, ?_⟩ ?_
  · simp only [go_sem, reduceIte, Nat.reduceLT, Nat.reduceEqDiff, Nat.reduceAdd, Nat.reduceBEq, Nat.reduceMul, Nat.reduceSub, Nat.reduceGT, Nat.reducePow, Nat.reduceLeDiff, Int.reduceToNat]
  refine run_ret ?_
  obtain rfl := Option.some.inj h
  refine ret_ok (.inr rfl) ?_
  simp only [go_sem, reduceIte, Nat.reduceLT, Nat.reduceEqDiff, Nat.reduceAdd, Nat.reduceBEq, Nat.reduceMul, Nat.reduceSub, Nat.reduceGT, Nat.reducePow, Nat.reduceLeDiff, Int.reduceToNat]

end Go.Proofs.YtgdiabbgiiemcaaDoor
