/-
  The functions compute just that.
-/
import Derived.Test.YtgdiabbgiiemcaaDoorDW6
import Derived.KernelRfl
namespace Go.Proofs.YtgdiabbgiiemcaaDoor
open Go.Rv
set_option linter.unusedVariables false
set_option linter.unusedSimpArgs false
set_option maxRecDepth 20000

theorem r02_Sum_con {b_2286 : List UInt8} {r : Arr UInt8 32} (h : r02_Sum b_2286 = some r) : Con B 13 [.sl false (L cU8 b_2286)] [] (fun r' σ' => r' = .agg (C1 u8 r.l) ∧ σ' = []) := by
  refine con_walk (N := 42) (rs := [.cell 2 25]) ok Tryd.func13 rfl (by decide +kernel) rfl rfl (Nat.le_of_ble_eq_true rfl) (fun F => ?_)
  have hE := ok.env F
  unfold r02_Sum at h
  show Run (B.env F) 0 _ ⟨asFr 42 [(0, .sl false (L cU8 b_2286))], []⟩ _
  refine run_textE hE [0, 2] (fr' := [(0, .sl false (L cU8 b_2286)), (2, .ref 0 0)]) (σ' := [.box (C1 u8 ((Arr.rep 32 (0 : UInt8))).l) false]) ⟨_, orcs_nil, ?_⟩ ?_
  · simp only [go_sem, reduceIte, Nat.reduceLT, Nat.reduceEqDiff, Nat.reduceAdd, Nat.reduceBEq, Nat.reduceMul, Nat.reduceSub, Nat.reduceGT, Nat.reducePow, Nat.reduceLeDiff, Int.reduceToNat]
  replace h := lt1_some h; obtain ⟨f_2287, hz_2288, h⟩ := h
  refine run_textE hE [0, 2, 3] (fr' := [(0, .sl false (L cU8 b_2286)), (2, .ref 0 0), (3, .ref 1 0)]) (σ' := [.box (C1 u8 ((Arr.rep 32 (0 : UInt8))).l) false, .box (C1 u32 f_2287.l) false]) ⟨_, orcs_nil, ?_⟩ ?_
  · subst hz_2288; simp only [go_sem, reduceIte, Nat.reduceLT, Nat.reduceEqDiff, Nat.reduceAdd, Nat.reduceBEq, Nat.reduceMul, Nat.reduceSub, Nat.reduceGT, Nat.reducePow, Nat.reduceLeDiff, Int.reduceToNat, C1_rep, C1_nil, C1_cons]
  replace h := bind_some1 h; obtain ⟨y_2289, hy_2290, h⟩ := h
  refine run_textE hE [2, 3, 4] (fr' := [(2, .ref 0 0), (3, .ref 1 0), (4, .sl false (L cU8 y_2289))]) (σ' := [.box (C1 u8 ((Arr.rep 32 (0 : UInt8))).l) false, .box (C1 u32 f_2287.l) false]) ⟨_, orcs_ok (l := [(10, 29, [.sl false (L cU8 b_2286)], .sl false (L cU8 y_2289))]) ⟨r02_padded_con hy_2290, trivial⟩, ?_⟩ ?_
  · simp only [go_sem, reduceIte, Nat.reduceLT, Nat.reduceEqDiff, Nat.reduceAdd, Nat.reduceBEq, Nat.reduceMul, Nat.reduceSub, Nat.reduceGT, Nat.reducePow, Nat.reduceLeDiff, Int.reduceToNat]
  replace h := bind_some1 h; obtain ⟨j_2312, hA_2313, hj_2314⟩ := h
  refine run_join (fun (v : Arr UInt32 8) => (⟨asFr 42 [(2, .ref 0 0), (3, .ref 1 0)], [.box (C1 u8 ((Arr.rep 32 (0 : UInt8))).l) false, .box (C1 u32 v.l) false]⟩ : St)) (fun v => v = j_2312) ?_ ?_
  · have h := hA_2313; clear hA_2313
    refine run_textE hE [2, 3, 4, 5] (fr' := [(2, .ref 0 0), (3, .ref 1 0), (4, .sl false (L cU8 y_2289)), (5, i64 0)]) (σ' := [.box (C1 u8 ((Arr.rep 32 (0 : UInt8))).l) false, .box (C1 u32 f_2287.l) false]) ⟨_, orcs_nil, ?_⟩ ?_
    · simp only [go_sem, reduceIte, Nat.reduceLT, Nat.reduceEqDiff, Nat.reduceAdd, Nat.reduceBEq, Nat.reduceMul, Nat.reduceSub, Nat.reduceGT, Nat.reducePow, Nat.reduceLeDiff, Int.reduceToNat]
    refine run_block ?_
    replace h := bind_some1 h; obtain ⟨x_2326, hx_2327, hj_2328⟩ := h
    refine run_loopO hx_2327 (fun (v : Int × Arr UInt32 8) => (⟨asFr 42 [(2, .ref 0 0), (3, .ref 1 0), (4, .sl false (L cU8 y_2289)), (5, i64 v.1)], [.box (C1 u8 ((Arr.rep 32 (0 : UInt8))).l) false, .box (C1 u32 v.2.l) false]⟩ : St)) (weak_sel [0, 1] (by decide) rfl (by simp only [go_sem, reduceIte, Nat.reduceLT, Nat.reduceEqDiff, Nat.reduceAdd, Nat.reduceBEq, Nat.reduceMul, Nat.reduceSub, Nat.reduceGT, Nat.reducePow, Nat.reduceLeDiff, Int.reduceToNat]) (by simp only [go_sem, reduceIte, Nat.reduceLT, Nat.reduceEqDiff, Nat.reduceAdd, Nat.reduceBEq, Nat.reduceMul, Nat.reduceSub, Nat.reduceGT, Nat.reducePow, Nat.reduceLeDiff, Int.reduceToNat])) ?_
    rintro ⟨at_2319, f_2320⟩ o_2329 h hxx_2330
    replace h : r02_Sum_b1 y_2289 at_2319 f_2320 = some o_2329 := h
    unfold r02_Sum_b1 at h
    refine run_seq ?_
    refine run_textE hE [2, 3, 4, 5, 14] (fr' := [(2, .ref 0 0), (3, .ref 1 0), (4, .sl false (L cU8 y_2289)), (5, i64 at_2319), (14, .bool ((decide (at_2319 < (y_2289.length : Int)))))]) (σ' := [.box (C1 u8 ((Arr.rep 32 (0 : UInt8))).l) false, .box (C1 u32 f_2320.l) false]) ⟨_, orcs_nil, ?_⟩ ?_
    · simp only [go_sem, reduceIte, Nat.reduceLT, Nat.reduceEqDiff, Nat.reduceAdd, Nat.reduceBEq, Nat.reduceMul, Nat.reduceSub, Nat.reduceGT, Nat.reducePow, Nat.reduceLeDiff, Int.reduceToNat]
    refine run_condL (b := (decide (at_2319 < (y_2289.length : Int)))) rfl (by decide) (fun hb => ?_) (fun hb => ?_)
    · replace h := ite_t h hb
      refine run_skip ?_
      refine thenK_n ?_
      refine run_seq ?_
      refine run_block ?_
      replace h := chk_some h; obtain ⟨hc_2332, h⟩ := h
      replace h := chk_some h; obtain ⟨hc_2333, h⟩ := h
      replace h := bind_some1 h; obtain ⟨y_2331, hy_2334, h⟩ := h
      refine run_drawE0 hE mixed [[], [], [], [], [3], [1, 2, 3, 4], [0, 1, 2, 3, 4, 5], [0, 1, 2, 3, 4, 5, 6]] (by kernel_rfl) (by kernel_rfl) (wk_block wk_then) [2, 3, 4, 5] (fr' := [(2, .ref 0 0), (3, .ref 1 0), (4, .sl false (L cU8 y_2289)), (5, i64 at_2319)]) (σ' := [.box (C1 u8 ((Arr.rep 32 (0 : UInt8))).l) false, .box (C1 u32 y_2331.l) false]) ⟨_, orcs_ok (l := [(23, 30, [.agg (C1 u32 f_2320.l), .sl false (L cU8 (((y_2289.drop at_2319.toNat).take (((w64 (at_2319 + 64))).toNat - at_2319.toNat))))], .agg (C1 u32 y_2331.l))]) ⟨r02_block_con hy_2334, trivial⟩, ?_⟩ ?_
      · simp only [go_sem, reduceIte, Nat.reduceLT, Nat.reduceEqDiff, Nat.reduceAdd, Nat.reduceBEq, Nat.reduceMul, Nat.reduceSub, Nat.reduceGT, Nat.reducePow, Nat.reduceLeDiff, Int.reduceToNat, hc_2332, hc_2333]
      refine blockK_n ?_
      refine thenK_n ?_
      refine run_textE0 hE wk_lp [2, 3, 4, 5] (fr' := [(2, .ref 0 0), (3, .ref 1 0), (4, .sl false (L cU8 y_2289)), (5, i64 ((w64 (at_2319 + 64))))]) (σ' := [.box (C1 u8 ((Arr.rep 32 (0 : UInt8))).l) false, .box (C1 u32 y_2331.l) false]) ⟨_, orcs_nil, ?_⟩ ?_
      · simp only [go_sem, reduceIte, Nat.reduceLT, Nat.reduceEqDiff, Nat.reduceAdd, Nat.reduceBEq, Nat.reduceMul, Nat.reduceSub, Nat.reduceGT, Nat.reducePow, Nat.reduceLeDiff, Int.reduceToNat]
      obtain rfl := Option.some.inj h
      exact lpK_n (((w64 (at_2319 + 64)), y_2331)) rfl (weak_sel [0, 1] (by decide) rfl (by simp only [go_sem, reduceIte, Nat.reduceLT, Nat.reduceEqDiff, Nat.reduceAdd, Nat.reduceBEq, Nat.reduceMul, Nat.reduceSub, Nat.reduceGT, Nat.reducePow, Nat.reduceLeDiff, Int.reduceToNat]) (by simp only [go_sem, reduceIte, Nat.reduceLT, Nat.reduceEqDiff, Nat.reduceAdd, Nat.reduceBEq, Nat.reduceMul, Nat.reduceSub, Nat.reduceGT, Nat.reducePow, Nat.reduceLeDiff, Int.reduceToNat]))
    · replace h := ite_f h hb
      refine run_exit ?_
      refine thenK_x ?_
      obtain rfl := Option.some.inj h
      have ex_x_2326 := hxx_2330 _ rfl
      subst ex_x_2326
      have h := hj_2328; clear hj_2328
      refine lpK_x ?_
      refine blockK_x ?_
      obtain rfl := Option.some.inj h
      exact joinK_n f_2320 rfl ((weak_sel (l' := [(2, .ref 0 0), (3, .ref 1 0)]) (σ' := [.box (C1 u8 ((Arr.rep 32 (0 : UInt8))).l) false, .box (C1 u32 f_2320.l) false]) [0, 1] (by decide) rfl (by simp only [go_sem, reduceIte, Nat.reduceLT, Nat.reduceEqDiff, Nat.reduceAdd, Nat.reduceBEq, Nat.reduceMul, Nat.reduceSub, Nat.reduceGT, Nat.reducePow, Nat.reduceLeDiff, Int.reduceToNat]) (by simp only [go_sem, reduceIte, Nat.reduceLT, Nat.reduceEqDiff, Nat.reduceAdd, Nat.reduceBEq, Nat.reduceMul, Nat.reduceSub, Nat.reduceGT, Nat.reducePow, Nat.reduceLeDiff, Int.reduceToNat])).trans (weak_sel [0, 1] (by decide) rfl (by simp only [go_sem, reduceIte, Nat.reduceLT, Nat.reduceEqDiff, Nat.reduceAdd, Nat.reduceBEq, Nat.reduceMul, Nat.reduceSub, Nat.reduceGT, Nat.reducePow, Nat.reduceLeDiff, Int.reduceToNat]) (by simp only [go_sem, reduceIte, Nat.reduceLT, Nat.reduceEqDiff, Nat.reduceAdd, Nat.reduceBEq, Nat.reduceMul, Nat.reduceSub, Nat.reduceGT, Nat.reducePow, Nat.reduceLeDiff, Int.reduceToNat])))
  rintro f_2311 rfl
  have h := hj_2314; clear hj_2314
  replace h := lt1_some h; obtain ⟨f_2335, hz_2336, h⟩ := h
  refine run_textE hE [2, 3, 6] (fr' := [(2, .ref 0 0), (3, .ref 1 0), (6, .ref 2 0)]) (σ' := [.box (C1 u8 ((Arr.rep 32 (0 : UInt8))).l) false, .box (C1 u32 f_2311.l) false, .box (C1 u8 f_2335.l) false]) ⟨_, orcs_nil, ?_⟩ ?_
  · subst hz_2336; simp only [go_sem, reduceIte, Nat.reduceLT, Nat.reduceEqDiff, Nat.reduceAdd, Nat.reduceBEq, Nat.reduceMul, Nat.reduceSub, Nat.reduceGT, Nat.reducePow, Nat.reduceLeDiff, Int.reduceToNat, C1_rep, C1_nil, C1_cons]
  replace h := bind_some1 h; obtain ⟨j_2367, hA_2368, hj_2369⟩ := h
  refine run_join (fun (v : Arr UInt8 32) => (⟨asFr 42 [(2, .ref 0 0), (6, .ref 1 0)], [.box (C1 u8 ((Arr.rep 32 (0 : UInt8))).l) false, .box (C1 u8 v.l) false]⟩ : St)) (fun v => v = j_2367) ?_ ?_
  · have h := hA_2368; clear hA_2368
    refine run_textE hE [2, 3, 6, 7] (fr' := [(2, .ref 0 0), (3, .ref 1 0), (6, .ref 2 0), (7, i64 0)]) (σ' := [.box (C1 u8 ((Arr.rep 32 (0 : UInt8))).l) false, .box (C1 u32 f_2311.l) false, .box (C1 u8 f_2335.l) false]) ⟨_, orcs_nil, ?_⟩ ?_
    · simp only [go_sem, reduceIte, Nat.reduceLT, Nat.reduceEqDiff, Nat.reduceAdd, Nat.reduceBEq, Nat.reduceMul, Nat.reduceSub, Nat.reduceGT, Nat.reducePow, Nat.reduceLeDiff, Int.reduceToNat]
    refine run_block ?_
    replace h := bind_some1 h; obtain ⟨x_2387, hx_2388, hj_2389⟩ := h
    refine run_loopO hx_2388 (fun (v : Int × Arr UInt8 32) => (⟨asFr 42 [(2, .ref 0 0), (3, .ref 1 0), (6, .ref 2 0), (7, i64 v.1)], [.box (C1 u8 ((Arr.rep 32 (0 : UInt8))).l) false, .box (C1 u32 f_2311.l) false, .box (C1 u8 v.2.l) false]⟩ : St)) (weak_sel [0, 1, 2] (by decide) rfl (by simp only [go_sem, reduceIte, Nat.reduceLT, Nat.reduceEqDiff, Nat.reduceAdd, Nat.reduceBEq, Nat.reduceMul, Nat.reduceSub, Nat.reduceGT, Nat.reducePow, Nat.reduceLeDiff, Int.reduceToNat]) (by simp only [go_sem, reduceIte, Nat.reduceLT, Nat.reduceEqDiff, Nat.reduceAdd, Nat.reduceBEq, Nat.reduceMul, Nat.reduceSub, Nat.reduceGT, Nat.reducePow, Nat.reduceLeDiff, Int.reduceToNat])) ?_
    rintro ⟨i_2377, f_2378⟩ o_2390 h hxx_2391
    replace h : r02_Sum_b2 f_2311 i_2377 f_2378 = some o_2390 := h
    unfold r02_Sum_b2 at h
    refine run_seq ?_
    refine run_textE hE [2, 3, 6, 7, 26] (fr' := [(2, .ref 0 0), (3, .ref 1 0), (6, .ref 2 0), (7, i64 i_2377), (26, .bool ((decide (i_2377 < 32))))]) (σ' := [.box (C1 u8 ((Arr.rep 32 (0 : UInt8))).l) false, .box (C1 u32 f_2311.l) false, .box (C1 u8 f_2378.l) false]) ⟨_, orcs_nil, ?_⟩ ?_
    · simp only [go_sem, reduceIte, Nat.reduceLT, Nat.reduceEqDiff, Nat.reduceAdd, Nat.reduceBEq, Nat.reduceMul, Nat.reduceSub, Nat.reduceGT, Nat.reducePow, Nat.reduceLeDiff, Int.reduceToNat]
    refine run_condL (b := (decide (i_2377 < 32))) rfl (by decide) (fun hb => ?_) (fun hb => ?_)
    · replace h := ite_t h hb
      refine run_skip ?_
      refine thenK_n ?_
      refine run_seq ?_
      refine run_block ?_
      have hk_2392 : ¬(4 : Int) = 0 := by decide
      replace h := chk_some h; obtain ⟨hc_2393, h⟩ := h
      have hk_2394 : ¬(4 : Int) = 0 := by decide
      replace h := chk_some h; obtain ⟨hc_2395, h⟩ := h
      replace h := chk_some h; obtain ⟨hc_2396, h⟩ := h
      replace h := lt1_some h; obtain ⟨f_2397, hz_2398, h⟩ := h
      refine run_textE0 hE (wk_block wk_then) [2, 3, 6, 7] (fr' := [(2, .ref 0 0), (3, .ref 1 0), (6, .ref 2 0), (7, i64 i_2377)]) (σ' := [.box (C1 u8 ((Arr.rep 32 (0 : UInt8))).l) false, .box (C1 u32 f_2311.l) false, .box (C1 u8 f_2397.l) false]) ⟨_, orcs_nil, ?_⟩ ?_
      · subst hz_2398; simp only [go_sem, reduceIte, Nat.reduceLT, Nat.reduceEqDiff, Nat.reduceAdd, Nat.reduceBEq, Nat.reduceMul, Nat.reduceSub, Nat.reduceGT, Nat.reducePow, Nat.reduceLeDiff, Int.reduceToNat, hk_2392, hc_2393, hc_2393.2, lt_le hc_2393.2, hk_2394, hc_2395, hc_2396, hc_2396.2, lt_le hc_2396.2]
      refine blockK_n ?_
      refine thenK_n ?_
      refine run_textE0 hE wk_lp [2, 3, 6, 7] (fr' := [(2, .ref 0 0), (3, .ref 1 0), (6, .ref 2 0), (7, i64 ((w64 (i_2377 + 1))))]) (σ' := [.box (C1 u8 ((Arr.rep 32 (0 : UInt8))).l) false, .box (C1 u32 f_2311.l) false, .box (C1 u8 f_2397.l) false]) ⟨_, orcs_nil, ?_⟩ ?_
      · simp only [go_sem, reduceIte, Nat.reduceLT, Nat.reduceEqDiff, Nat.reduceAdd, Nat.reduceBEq, Nat.reduceMul, Nat.reduceSub, Nat.reduceGT, Nat.reducePow, Nat.reduceLeDiff, Int.reduceToNat]
      obtain rfl := Option.some.inj h
      exact lpK_n (((w64 (i_2377 + 1)), f_2397)) rfl (weak_sel [0, 1, 2] (by decide) rfl (by simp only [go_sem, reduceIte, Nat.reduceLT, Nat.reduceEqDiff, Nat.reduceAdd, Nat.reduceBEq, Nat.reduceMul, Nat.reduceSub, Nat.reduceGT, Nat.reducePow, Nat.reduceLeDiff, Int.reduceToNat]) (by simp only [go_sem, reduceIte, Nat.reduceLT, Nat.reduceEqDiff, Nat.reduceAdd, Nat.reduceBEq, Nat.reduceMul, Nat.reduceSub, Nat.reduceGT, Nat.reducePow, Nat.reduceLeDiff, Int.reduceToNat]))
    · replace h := ite_f h hb
      refine run_exit ?_
      refine thenK_x ?_
      obtain rfl := Option.some.inj h
      have ex_x_2387 := hxx_2391 _ rfl
      subst ex_x_2387
      have h := hj_2389; clear hj_2389
      refine lpK_x ?_
      refine blockK_x ?_
      obtain rfl := Option.some.inj h
      exact joinK_n f_2378 rfl ((weak_sel (l' := [(2, .ref 0 0), (6, .ref 1 0)]) (σ' := [.box (C1 u8 ((Arr.rep 32 (0 : UInt8))).l) false, .box (C1 u8 f_2378.l) false]) [0, 2] (by decide) rfl (by simp only [go_sem, reduceIte, Nat.reduceLT, Nat.reduceEqDiff, Nat.reduceAdd, Nat.reduceBEq, Nat.reduceMul, Nat.reduceSub, Nat.reduceGT, Nat.reducePow, Nat.reduceLeDiff, Int.reduceToNat]) (by simp only [go_sem, reduceIte, Nat.reduceLT, Nat.reduceEqDiff, Nat.reduceAdd, Nat.reduceBEq, Nat.reduceMul, Nat.reduceSub, Nat.reduceGT, Nat.reducePow, Nat.reduceLeDiff, Int.reduceToNat])).trans (weak_sel [0, 1] (by decide) rfl (by simp only [go_sem, reduceIte, Nat.reduceLT, Nat.reduceEqDiff, Nat.reduceAdd, Nat.reduceBEq, Nat.reduceMul, Nat.reduceSub, Nat.reduceGT, Nat.reducePow, Nat.reduceLeDiff, Int.reduceToNat]) (by simp only [go_sem, reduceIte, Nat.reduceLT, Nat.reduceEqDiff, Nat.reduceAdd, Nat.reduceBEq, Nat.reduceMul, Nat.reduceSub, Nat.reduceGT, Nat.reducePow, Nat.reduceLeDiff, Int.reduceToNat])))
  rintro f_2366 rfl
  have h := hj_2369; clear hj_2369
  refine run_textE hE [2] (fr' := [(2, .ref 0 0)]) (σ' := [.box (C1 u8 f_2366.l) false, .box (C1 u8 f_2366.l) false]) ⟨_, orcs_nil, ?_⟩ ?_
  · simp only [go_sem, reduceIte, Nat.reduceLT, Nat.reduceEqDiff, Nat.reduceAdd, Nat.reduceBEq, Nat.reduceMul, Nat.reduceSub, Nat.reduceGT, Nat.reducePow, Nat.reduceLeDiff, Int.reduceToNat]
  refine run_ret ?_
  obtain rfl := Option.some.inj h
  refine ret_ok (.inr rfl) ?_
  simp only [go_sem, reduceIte, Nat.reduceLT, Nat.reduceEqDiff, Nat.reduceAdd, Nat.reduceBEq, Nat.reduceMul, Nat.reduceSub, Nat.reduceGT, Nat.reducePow, Nat.reduceLeDiff, Int.reduceToNat]

theorem digest_Tagged_con {tag_2399 : List UInt8} {b_2400 : List UInt8} {r : Arr UInt8 32} (h : digest_Tagged tag_2399 b_2400 = some r) : Con B 14 [.str tag_2399, .sl false (L cU8 b_2400)] [] (fun r' σ' => r' = .agg (C1 u8 r.l) ∧ σ' = []) := by
  refine con_walk (N := 19) (rs := [.cell 4 25]) ok Tryd.func14 rfl (by decide +kernel) rfl rfl (Nat.le_of_ble_eq_true rfl) (fun F => ?_)
  have hE := ok.env F
  unfold digest_Tagged at h
  show Run (B.env F) 0 _ ⟨asFr 19 [(0, .str tag_2399), (1, .sl false (L cU8 b_2400))], []⟩ _
  refine run_textE hE [0, 1, 4] (fr' := [(0, .str tag_2399), (1, .sl false (L cU8 b_2400)), (4, .ref 0 0)]) (σ' := [.box (C1 u8 ((Arr.rep 32 (0 : UInt8))).l) false]) ⟨_, orcs_nil, ?_⟩ ?_
  · simp only [go_sem, reduceIte, Nat.reduceLT, Nat.reduceEqDiff, Nat.reduceAdd, Nat.reduceBEq, Nat.reduceMul, Nat.reduceSub, Nat.reduceGT, Nat.reducePow, Nat.reduceLeDiff, Int.reduceToNat]
  replace h := chk_some h; obtain ⟨hc_2401, h⟩ := h
  replace h := lt1_some h; obtain ⟨tag_2402, hz_2403, h⟩ := h
  refine run_textE hE [0, 1, 4] (fr' := [(0, .str tag_2402), (1, .sl false (L cU8 b_2400)), (4, .ref 0 0)]) (σ' := [.box (C1 u8 ((Arr.rep 32 (0 : UInt8))).l) false]) ⟨_, orcs_nil, ?_⟩ ?_
  · subst hz_2403; simp only [go_sem, reduceIte, Nat.reduceLT, Nat.reduceEqDiff, Nat.reduceAdd, Nat.reduceBEq, Nat.reduceMul, Nat.reduceSub, Nat.reduceGT, Nat.reducePow, Nat.reduceLeDiff, Int.reduceToNat, hc_2401]
  replace h := bind_some1 h; obtain ⟨y_2404, hy_2405, h⟩ := h
  refine run_textE hE [4] (fr' := [(4, .ref 0 0)]) (σ' := [.box (C1 u8 y_2404.l) false, .buf 1 (L cU8 (([(UInt8.ofInt ((tag_2402.length : Int)))] : List UInt8))) true, .buf 1 (L cU8 tag_2402) true, .buf 1 (L (cSl cU8) (([([(UInt8.ofInt ((tag_2402.length : Int)))] : List UInt8), tag_2402, b_2400] : List (List UInt8)))) false]) ⟨_, orcs_ok (l := [(18, 28, [.sl false (L (cSl cU8) (([([(UInt8.ofInt ((tag_2402.length : Int)))] : List UInt8), tag_2402, b_2400] : List (List UInt8))))], .agg (C1 u8 y_2404.l))]) ⟨digest_sum_con hy_2405, trivial⟩, ?_⟩ ?_
  · simp only [go_sem, reduceIte, Nat.reduceLT, Nat.reduceEqDiff, Nat.reduceAdd, Nat.reduceBEq, Nat.reduceMul, Nat.reduceSub, Nat.reduceGT, Nat.reducePow, Nat.reduceLeDiff, Int.reduceToNat]
  refine run_ret ?_
  obtain rfl := Option.some.inj h
  refine ret_ok (.inr rfl) ?_
  simp only [go_sem, reduceIte, Nat.reduceLT, Nat.reduceEqDiff, Nat.reduceAdd, Nat.reduceBEq, Nat.reduceMul, Nat.reduceSub, Nat.reduceGT, Nat.reducePow, Nat.reduceLeDiff, Int.reduceToNat]

theorem r02_Hashed_con {tag_2406 : List UInt8} {b_2407 : List UInt8} {r : List UInt8} (h : r02_Hashed tag_2406 b_2407 = some r) : Con B 20 [.str tag_2406, .sl false (L cU8 b_2407)] [] (fun r' σ' => r' = .sl false (L cU8 r) ∧ σ' = []) := by
  refine con_walk (N := 23) (rs := [.tmp 4]) ok Tryd.func20 rfl (by decide +kernel) rfl rfl (Nat.le_of_ble_eq_true rfl) (fun F => ?_)
  have hE := ok.env F
  unfold r02_Hashed at h
  show Run (B.env F) 0 _ ⟨asFr 23 [(0, .str tag_2406), (1, .sl false (L cU8 b_2407))], []⟩ _
  refine run_textE hE [0, 1] (fr' := [(0, .str tag_2406), (1, .sl false (L cU8 b_2407))]) (σ' := []) ⟨_, orcs_nil, ?_⟩ ?_
  · simp only [go_sem, reduceIte, Nat.reduceLT, Nat.reduceEqDiff, Nat.reduceAdd, Nat.reduceBEq, Nat.reduceMul, Nat.reduceSub, Nat.reduceGT, Nat.reducePow, Nat.reduceLeDiff, Int.reduceToNat]
  replace h := chk_some h; obtain ⟨hc_2408, h⟩ := h
  replace h := lt1_some h; obtain ⟨t_2409, hz_2410, h⟩ := h
  refine run_textE hE [1, 5] (fr' := [(1, .sl false (L cU8 b_2407)), (5, .str t_2409)]) (σ' := []) ⟨_, orcs_nil, ?_⟩ ?_
  · subst hz_2410; simp only [go_sem, reduceIte, Nat.reduceLT, Nat.reduceEqDiff, Nat.reduceAdd, Nat.reduceBEq, Nat.reduceMul, Nat.reduceSub, Nat.reduceGT, Nat.reducePow, Nat.reduceLeDiff, Int.reduceToNat, hc_2408]
  replace h := lt1_some h; obtain ⟨l_2411, hz_2412, h⟩ := h
  refine run_textE hE [1, 5, 6] (fr' := [(1, .sl false (L cU8 b_2407)), (5, .str t_2409), (6, .bs true 0 (l_2411.length) 0 (l_2411.length))]) (σ' := [.buf 1 (L cU8 l_2411) false]) ⟨_, orcs_nil, ?_⟩ ?_
  · subst hz_2412; simp only [go_sem, reduceIte, Nat.reduceLT, Nat.reduceEqDiff, Nat.reduceAdd, Nat.reduceBEq, Nat.reduceMul, Nat.reduceSub, Nat.reduceGT, Nat.reducePow, Nat.reduceLeDiff, Int.reduceToNat]
  replace h := chk_some h; obtain ⟨hc_2413, h⟩ := h
  replace h := lt1_some h; obtain ⟨l_2414, hz_2415, h⟩ := h
  refine run_textE hE [1, 6] (fr' := [(1, .sl false (L cU8 b_2407)), (6, .bs false 0 (l_2414.length) 0 (l_2414.length))]) (σ' := [.buf 1 (L cU8 l_2414) false, .buf 1 (L cU8 t_2409) false]) ⟨_, orcs_nil, ?_⟩ ?_
  · subst hz_2415; simp only [go_sem, reduceIte, Nat.reduceLT, Nat.reduceEqDiff, Nat.reduceAdd, Nat.reduceBEq, Nat.reduceMul, Nat.reduceSub, Nat.reduceGT, Nat.reducePow, Nat.reduceLeDiff, Int.reduceToNat, hc_2413]
  replace h := chk_some h; obtain ⟨hc_2416, h⟩ := h
  replace h := lt1_some h; obtain ⟨l_2417, hz_2418, h⟩ := h
  refine run_textE hE [4] (fr' := [(4, .bs false 0 (l_2417.length) 0 (l_2417.length))]) (σ' := [.buf 1 (L cU8 l_2417) false, .buf 1 (L cU8 t_2409) false]) ⟨_, orcs_nil, ?_⟩ ?_
  · subst hz_2418; simp only [go_sem, reduceIte, Nat.reduceLT, Nat.reduceEqDiff, Nat.reduceAdd, Nat.reduceBEq, Nat.reduceMul, Nat.reduceSub, Nat.reduceGT, Nat.reducePow, Nat.reduceLeDiff, Int.reduceToNat, hc_2416]
  refine run_ret ?_
  obtain rfl := Option.some.inj h
  refine ret_ok (.inr rfl) ?_
  simp only [go_sem, reduceIte, Nat.reduceLT, Nat.reduceEqDiff, Nat.reduceAdd, Nat.reduceBEq, Nat.reduceMul, Nat.reduceSub, Nat.reduceGT, Nat.reducePow, Nat.reduceLeDiff, Int.reduceToNat]

theorem r02_Tagged_con {tag_2419 : List UInt8} {b_2420 : List UInt8} {r : Arr UInt8 32} (h : r02_Tagged tag_2419 b_2420 = some r) : Con B 15 [.str tag_2419, .sl false (L cU8 b_2420)] [] (fun r' σ' => r' = .agg (C1 u8 r.l) ∧ σ' = []) := by
  refine con_walk (N := 9) (rs := [.cell 4 25]) ok Tryd.func15 rfl (by decide +kernel) rfl rfl (Nat.le_of_ble_eq_true rfl) (fun F => ?_)
  have hE := ok.env F
  unfold r02_Tagged at h
  show Run (B.env F) 0 _ ⟨asFr 9 [(0, .str tag_2419), (1, .sl false (L cU8 b_2420))], []⟩ _
  refine run_textE hE [0, 1, 4] (fr' := [(0, .str tag_2419), (1, .sl false (L cU8 b_2420)), (4, .ref 0 0)]) (σ' := [.box (C1 u8 ((Arr.rep 32 (0 : UInt8))).l) false]) ⟨_, orcs_nil, ?_⟩ ?_
  · simp only [go_sem, reduceIte, Nat.reduceLT, Nat.reduceEqDiff, Nat.reduceAdd, Nat.reduceBEq, Nat.reduceMul, Nat.reduceSub, Nat.reduceGT, Nat.reducePow, Nat.reduceLeDiff, Int.reduceToNat]
  replace h := bind_some1 h; obtain ⟨y_2421, hy_2423, h⟩ := h
  replace h := bind_some1 h; obtain ⟨y_2422, hy_2424, h⟩ := h
  refine run_textE hE [4] (fr' := [(4, .ref 0 0)]) (σ' := [.box (C1 u8 y_2422.l) false]) ⟨_, orcs_ok (l := [(7, 20, [.str tag_2419, .sl false (L cU8 b_2420)], .sl false (L cU8 y_2421)), (8, 13, [.sl false (L cU8 y_2421)], .agg (C1 u8 y_2422.l))]) ⟨r02_Hashed_con hy_2423, r02_Sum_con hy_2424, trivial⟩, ?_⟩ ?_
  · simp only [go_sem, reduceIte, Nat.reduceLT, Nat.reduceEqDiff, Nat.reduceAdd, Nat.reduceBEq, Nat.reduceMul, Nat.reduceSub, Nat.reduceGT, Nat.reducePow, Nat.reduceLeDiff, Int.reduceToNat]
  refine run_ret ?_
  obtain rfl := Option.some.inj h
  refine ret_ok (.inr rfl) ?_
  simp only [go_sem, reduceIte, Nat.reduceLT, Nat.reduceEqDiff, Nat.reduceAdd, Nat.reduceBEq, Nat.reduceMul, Nat.reduceSub, Nat.reduceGT, Nat.reducePow, Nat.reduceLeDiff, Int.reduceToNat]

theorem digest_Next_con {d_2425 : Arr UInt8 32} {b_2426 : List UInt8} {r : Arr UInt8 32} (h : digest_Next d_2425 b_2426 = some r) : Con B 16 [.agg (C1 u8 d_2425.l), .sl false (L cU8 b_2426)] [] (fun r' σ' => r' = .agg (C1 u8 r.l) ∧ σ' = []) := by
  refine con_walk (N := 12) (rs := [.cell 4 25]) ok Tryd.func16 rfl (by decide +kernel) rfl rfl (Nat.le_of_ble_eq_true rfl) (fun F => ?_)
  have hE := ok.env F
  unfold digest_Next at h
  show Run (B.env F) 0 _ ⟨asFr 12 [(0, .agg (C1 u8 d_2425.l)), (1, .sl false (L cU8 b_2426))], []⟩ _
  refine run_textE hE [1, 2, 4] (fr' := [(1, .sl false (L cU8 b_2426)), (2, .ref 0 0), (4, .ref 1 0)]) (σ' := [.box (C1 u8 d_2425.l) false, .box (C1 u8 ((Arr.rep 32 (0 : UInt8))).l) false]) ⟨_, orcs_nil, ?_⟩ ?_
  · simp only [go_sem, reduceIte, Nat.reduceLT, Nat.reduceEqDiff, Nat.reduceAdd, Nat.reduceBEq, Nat.reduceMul, Nat.reduceSub, Nat.reduceGT, Nat.reducePow, Nat.reduceLeDiff, Int.reduceToNat]
  replace h := bind_some1 h; obtain ⟨y_2427, hy_2428, h⟩ := h
  refine run_textE hE [4] (fr' := [(4, .ref 1 0)]) (σ' := [.box (C1 u8 d_2425.l) true, .box (C1 u8 y_2427.l) false, .buf 1 (L cU8 (([(4 : UInt8)] : List UInt8))) true, .buf 1 (L cU8 (([(110 : UInt8), (101 : UInt8), (120 : UInt8), (116 : UInt8)] : List UInt8))) true, .buf 1 (L (cSl cU8) (([([(4 : UInt8)] : List UInt8), ([(110 : UInt8), (101 : UInt8), (120 : UInt8), (116 : UInt8)] : List UInt8), d_2425.l, b_2426] : List (List UInt8)))) false]) ⟨_, orcs_ok (l := [(11, 28, [.sl false (L (cSl cU8) (([([(4 : UInt8)] : List UInt8), ([(110 : UInt8), (101 : UInt8), (120 : UInt8), (116 : UInt8)] : List UInt8), d_2425.l, b_2426] : List (List UInt8))))], .agg (C1 u8 y_2427.l))]) ⟨digest_sum_con hy_2428, trivial⟩, ?_⟩ ?_
  · simp only [go_sem, reduceIte, Nat.reduceLT, Nat.reduceEqDiff, Nat.reduceAdd, Nat.reduceBEq, Nat.reduceMul, Nat.reduceSub, Nat.reduceGT, Nat.reducePow, Nat.reduceLeDiff, Int.reduceToNat]
  refine run_ret ?_
  obtain rfl := Option.some.inj h
  refine ret_ok (.inr rfl) ?_
  simp only [go_sem, reduceIte, Nat.reduceLT, Nat.reduceEqDiff, Nat.reduceAdd, Nat.reduceBEq, Nat.reduceMul, Nat.reduceSub, Nat.reduceGT, Nat.reducePow, Nat.reduceLeDiff, Int.reduceToNat]

theorem r02_Next_con {d_2429 : Arr UInt8 32} {b_2430 : List UInt8} {r : Arr UInt8 32} (h : r02_Next d_2429 b_2430 = some r) : Con B 17 [.agg (C1 u8 d_2429.l), .sl false (L cU8 b_2430)] [] (fun r' σ' => r' = .agg (C1 u8 r.l) ∧ σ' = []) := by
  refine con_walk (N := 15) (rs := [.cell 4 25]) ok Tryd.func17 rfl (by decide +kernel) rfl rfl (Nat.le_of_ble_eq_true rfl) (fun F => ?_)
  have hE := ok.env F
  unfold r02_Next at h
  show Run (B.env F) 0 _ ⟨asFr 15 [(0, .agg (C1 u8 d_2429.l)), (1, .sl false (L cU8 b_2430))], []⟩ _
  refine run_textE hE [1, 2, 4] (fr' := [(1, .sl false (L cU8 b_2430)), (2, .ref 0 0), (4, .ref 1 0)]) (σ' := [.box (C1 u8 d_2429.l) false, .box (C1 u8 ((Arr.rep 32 (0 : UInt8))).l) false]) ⟨_, orcs_nil, ?_⟩ ?_
  · simp only [go_sem, reduceIte, Nat.reduceLT, Nat.reduceEqDiff, Nat.reduceAdd, Nat.reduceBEq, Nat.reduceMul, Nat.reduceSub, Nat.reduceGT, Nat.reducePow, Nat.reduceLeDiff, Int.reduceToNat]
  replace h := lt1_some h; obtain ⟨l_2431, hz_2432, h⟩ := h
  refine run_textE hE [1, 2, 4, 5] (fr' := [(1, .sl false (L cU8 b_2430)), (2, .ref 0 0), (4, .ref 1 0), (5, .bs true 2 (l_2431.length) 0 (l_2431.length))]) (σ' := [.box (C1 u8 d_2429.l) false, .box (C1 u8 ((Arr.rep 32 (0 : UInt8))).l) false, .buf 1 (L cU8 l_2431) false]) ⟨_, orcs_nil, ?_⟩ ?_
  · subst hz_2432; simp only [go_sem, reduceIte, Nat.reduceLT, Nat.reduceEqDiff, Nat.reduceAdd, Nat.reduceBEq, Nat.reduceMul, Nat.reduceSub, Nat.reduceGT, Nat.reducePow, Nat.reduceLeDiff, Int.reduceToNat]
  replace h := chk_some h; obtain ⟨hc_2433, h⟩ := h
  replace h := lt1_some h; obtain ⟨l_2434, hz_2435, h⟩ := h
  refine run_textE hE [1, 4, 5] (fr' := [(1, .sl false (L cU8 b_2430)), (4, .ref 1 0), (5, .bs false 2 (l_2434.length) 0 (l_2434.length))]) (σ' := [.box (C1 u8 d_2429.l) true, .box (C1 u8 ((Arr.rep 32 (0 : UInt8))).l) false, .buf 1 (L cU8 l_2434) false]) ⟨_, orcs_nil, ?_⟩ ?_
  · subst hz_2435; simp only [go_sem, reduceIte, Nat.reduceLT, Nat.reduceEqDiff, Nat.reduceAdd, Nat.reduceBEq, Nat.reduceMul, Nat.reduceSub, Nat.reduceGT, Nat.reducePow, Nat.reduceLeDiff, Int.reduceToNat, hc_2433]
  replace h := chk_some h; obtain ⟨hc_2436, h⟩ := h
  replace h := lt1_some h; obtain ⟨l_2437, hz_2438, h⟩ := h
  refine run_textE hE [4, 5] (fr' := [(4, .ref 1 0), (5, .bs false 2 (l_2437.length) 0 (l_2437.length))]) (σ' := [.box (C1 u8 d_2429.l) true, .box (C1 u8 ((Arr.rep 32 (0 : UInt8))).l) false, .buf 1 (L cU8 l_2437) false]) ⟨_, orcs_nil, ?_⟩ ?_
  · subst hz_2438; simp only [go_sem, reduceIte, Nat.reduceLT, Nat.reduceEqDiff, Nat.reduceAdd, Nat.reduceBEq, Nat.reduceMul, Nat.reduceSub, Nat.reduceGT, Nat.reducePow, Nat.reduceLeDiff, Int.reduceToNat, hc_2436]
  replace h := bind_some1 h; obtain ⟨y_2439, hy_2440, h⟩ := h
  refine run_textE hE [4] (fr' := [(4, .ref 1 0)]) (σ' := [.box (C1 u8 d_2429.l) true, .box (C1 u8 y_2439.l) false, .buf 1 (L cU8 l_2437) false]) ⟨_, orcs_ok (l := [(14, 15, [.str (([110, 101, 120, 116] : List UInt8)), .sl false (L cU8 l_2437)], .agg (C1 u8 y_2439.l))]) ⟨r02_Tagged_con hy_2440, trivial⟩, ?_⟩ ?_
  · simp only [go_sem, reduceIte, Nat.reduceLT, Nat.reduceEqDiff, Nat.reduceAdd, Nat.reduceBEq, Nat.reduceMul, Nat.reduceSub, Nat.reduceGT, Nat.reducePow, Nat.reduceLeDiff, Int.reduceToNat]
  refine run_ret ?_
  obtain rfl := Option.some.inj h
  refine ret_ok (.inr rfl) ?_
  simp only [go_sem, reduceIte, Nat.reduceLT, Nat.reduceEqDiff, Nat.reduceAdd, Nat.reduceBEq, Nat.reduceMul, Nat.reduceSub, Nat.reduceGT, Nat.reducePow, Nat.reduceLeDiff, Int.reduceToNat]

theorem digest_Number_con {d_2441 : Arr UInt8 32} {r : UInt64} (h : digest_Number d_2441 = some r) : Con B 18 [.agg (C1 u8 d_2441.l)] [] (fun r' σ' => r' = u64 r ∧ σ' = []) := by
  refine con_walk (N := 18) (rs := [.tmp 2]) ok Tryd.func18 rfl (by decide +kernel) rfl rfl (Nat.le_of_ble_eq_true rfl) (fun F => ?_)
  have hE := ok.env F
  unfold digest_Number at h
  show Run (B.env F) 0 _ ⟨asFr 18 [(0, .agg (C1 u8 d_2441.l))], []⟩ _
  refine run_textE hE [1, 2] (fr' := [(1, .ref 0 0), (2, u64 ((0 : UInt64)))]) (σ' := [.box (C1 u8 d_2441.l) false]) ⟨_, orcs_nil, ?_⟩ ?_
  · simp only [go_sem, reduceIte, Nat.reduceLT, Nat.reduceEqDiff, Nat.reduceAdd, Nat.reduceBEq, Nat.reduceMul, Nat.reduceSub, Nat.reduceGT, Nat.reducePow, Nat.reduceLeDiff, Int.reduceToNat]
  replace h := bind_some1 h; obtain ⟨j_2465, hA_2466, hj_2467⟩ := h
  refine run_join (fun (v : UInt64) => (⟨asFr 18 [(2, u64 v)], []⟩ : St)) (fun v => v = j_2465) ?_ ?_
  · have h := hA_2466; clear hA_2466
    have hk_2468 : InB 8 32 := by decide
    refine run_textE hE [2, 5, 6, 7] (fr' := [(2, u64 ((0 : UInt64))), (5, .sl false (L cU8 ((d_2441.l.take 8)))), (6, i64 ((((d_2441.l.take 8)).length : Int))), (7, i64 0)]) (σ' := [.box (C1 u8 d_2441.l) true]) ⟨_, orcs_nil, ?_⟩ ?_
    · simp only [go_sem, reduceIte, Nat.reduceLT, Nat.reduceEqDiff, Nat.reduceAdd, Nat.reduceBEq, Nat.reduceMul, Nat.reduceSub, Nat.reduceGT, Nat.reducePow, Nat.reduceLeDiff, Int.reduceToNat, hk_2468]
    refine run_block ?_
    replace h := bind_some1 h; obtain ⟨x_2480, hx_2481, hj_2482⟩ := h
    refine run_loopO hx_2481 (fun (v : UInt64 × Int) => (⟨asFr 18 [(2, u64 v.1), (5, .sl false (L cU8 ((d_2441.l.take 8)))), (6, i64 ((((d_2441.l.take 8)).length : Int))), (7, i64 v.2)], []⟩ : St)) (weak_sel [] (by decide) rfl (by simp only [go_sem, reduceIte, Nat.reduceLT, Nat.reduceEqDiff, Nat.reduceAdd, Nat.reduceBEq, Nat.reduceMul, Nat.reduceSub, Nat.reduceGT, Nat.reducePow, Nat.reduceLeDiff, Int.reduceToNat]) (by simp only [go_sem, reduceIte, Nat.reduceLT, Nat.reduceEqDiff, Nat.reduceAdd, Nat.reduceBEq, Nat.reduceMul, Nat.reduceSub, Nat.reduceGT, Nat.reducePow, Nat.reduceLeDiff, Int.reduceToNat])) ?_
    rintro ⟨n_2472, t_2473⟩ o_2483 h hxx_2484
    replace h : digest_Number_b1 d_2441 n_2472 t_2473 = some o_2483 := h
    unfold digest_Number_b1 at h
    refine run_textE hE [2, 5, 6, 7, 8] (fr' := [(2, u64 n_2472), (5, .sl false (L cU8 ((d_2441.l.take 8)))), (6, i64 ((((d_2441.l.take 8)).length : Int))), (7, i64 t_2473), (8, .bool ((decide (t_2473 < (((d_2441.l.take 8)).length : Int)))))]) (σ' := []) ⟨_, orcs_nil, ?_⟩ ?_
    · simp only [go_sem, reduceIte, Nat.reduceLT, Nat.reduceEqDiff, Nat.reduceAdd, Nat.reduceBEq, Nat.reduceMul, Nat.reduceSub, Nat.reduceGT, Nat.reducePow, Nat.reduceLeDiff, Int.reduceToNat]
    refine run_seq ?_
    refine run_condL (b := (decide (t_2473 < (((d_2441.l.take 8)).length : Int)))) rfl (by decide) (fun hb => ?_) (fun hb => ?_)
    · replace h := ite_t h hb
      refine run_skip ?_
      refine thenK_n ?_
      refine run_seq ?_
      refine run_block ?_
      replace h := chk_some h; obtain ⟨hc_2485, h⟩ := h
      replace h := lt1_some h; obtain ⟨b_2486, hz_2487, h⟩ := h
      refine run_textE hE [2, 4, 5, 6, 7] (fr' := [(2, u64 n_2472), (4, u8 b_2486), (5, .sl false (L cU8 ((d_2441.l.take 8)))), (6, i64 ((((d_2441.l.take 8)).length : Int))), (7, i64 t_2473)]) (σ' := []) ⟨_, orcs_nil, ?_⟩ ?_
      · subst hz_2487; simp only [go_sem, reduceIte, Nat.reduceLT, Nat.reduceEqDiff, Nat.reduceAdd, Nat.reduceBEq, Nat.reduceMul, Nat.reduceSub, Nat.reduceGT, Nat.reducePow, Nat.reduceLeDiff, Int.reduceToNat, hc_2485, hc_2485.2, lt_le hc_2485.2]
      replace h := lt1_some h; obtain ⟨n_2488, hz_2489, h⟩ := h
      refine run_textE0 hE (wk_block wk_then) [2, 5, 6, 7] (fr' := [(2, u64 n_2488), (5, .sl false (L cU8 ((d_2441.l.take 8)))), (6, i64 ((((d_2441.l.take 8)).length : Int))), (7, i64 t_2473)]) (σ' := []) ⟨_, orcs_nil, ?_⟩ ?_
      · subst hz_2489; simp only [go_sem, reduceIte, Nat.reduceLT, Nat.reduceEqDiff, Nat.reduceAdd, Nat.reduceBEq, Nat.reduceMul, Nat.reduceSub, Nat.reduceGT, Nat.reducePow, Nat.reduceLeDiff, Int.reduceToNat]
      refine blockK_n ?_
      refine thenK_n ?_
      refine run_textE0 hE wk_lp [2, 5, 6, 7] (fr' := [(2, u64 n_2488), (5, .sl false (L cU8 ((d_2441.l.take 8)))), (6, i64 ((((d_2441.l.take 8)).length : Int))), (7, i64 ((w64 (t_2473 + 1))))]) (σ' := []) ⟨_, orcs_nil, ?_⟩ ?_
      · simp only [go_sem, reduceIte, Nat.reduceLT, Nat.reduceEqDiff, Nat.reduceAdd, Nat.reduceBEq, Nat.reduceMul, Nat.reduceSub, Nat.reduceGT, Nat.reducePow, Nat.reduceLeDiff, Int.reduceToNat]
      obtain rfl := Option.some.inj h
      exact lpK_n ((n_2488, (w64 (t_2473 + 1)))) rfl (weak_sel [] (by decide) rfl (by simp only [go_sem, reduceIte, Nat.reduceLT, Nat.reduceEqDiff, Nat.reduceAdd, Nat.reduceBEq, Nat.reduceMul, Nat.reduceSub, Nat.reduceGT, Nat.reducePow, Nat.reduceLeDiff, Int.reduceToNat]) (by simp only [go_sem, reduceIte, Nat.reduceLT, Nat.reduceEqDiff, Nat.reduceAdd, Nat.reduceBEq, Nat.reduceMul, Nat.reduceSub, Nat.reduceGT, Nat.reducePow, Nat.reduceLeDiff, Int.reduceToNat]))
    · replace h := ite_f h hb
      refine run_exit ?_
      refine thenK_x ?_
      obtain rfl := Option.some.inj h
      have ex_x_2480 := hxx_2484 _ rfl
      subst ex_x_2480
      have h := hj_2482; clear hj_2482
      refine lpK_x ?_
      refine blockK_x ?_
      obtain rfl := Option.some.inj h
      exact joinK_n n_2472 rfl ((weak_sel (l' := [(2, u64 n_2472)]) (σ' := []) [] (by decide) rfl (by simp only [go_sem, reduceIte, Nat.reduceLT, Nat.reduceEqDiff, Nat.reduceAdd, Nat.reduceBEq, Nat.reduceMul, Nat.reduceSub, Nat.reduceGT, Nat.reducePow, Nat.reduceLeDiff, Int.reduceToNat]) (by simp only [go_sem, reduceIte, Nat.reduceLT, Nat.reduceEqDiff, Nat.reduceAdd, Nat.reduceBEq, Nat.reduceMul, Nat.reduceSub, Nat.reduceGT, Nat.reducePow, Nat.reduceLeDiff, Int.reduceToNat])).trans (weak_sel [] (by decide) rfl (by simp only [go_sem, reduceIte, Nat.reduceLT, Nat.reduceEqDiff, Nat.reduceAdd, Nat.reduceBEq, Nat.reduceMul, Nat.reduceSub, Nat.reduceGT, Nat.reducePow, Nat.reduceLeDiff, Int.reduceToNat]) (by simp only [go_sem, reduceIte, Nat.reduceLT, Nat.reduceEqDiff, Nat.reduceAdd, Nat.reduceBEq, Nat.reduceMul, Nat.reduceSub, Nat.reduceGT, Nat.reducePow, Nat.reduceLeDiff, Int.reduceToNat])))
  rintro n_2464 rfl
  have h := hj_2467; clear hj_2467
  refine run_textE hE [2] (fr' := [(2, u64 n_2464)]) (σ' := []) ⟨_, orcs_nil, ?_⟩ ?_
  · simp only [go_sem, reduceIte, Nat.reduceLT, Nat.reduceEqDiff, Nat.reduceAdd, Nat.reduceBEq, Nat.reduceMul, Nat.reduceSub, Nat.reduceGT, Nat.reducePow, Nat.reduceLeDiff, Int.reduceToNat]
  refine run_ret ?_
  obtain rfl := Option.some.inj h
  refine ret_ok (.inr rfl) ?_
  simp only [go_sem, reduceIte, Nat.reduceLT, Nat.reduceEqDiff, Nat.reduceAdd, Nat.reduceBEq, Nat.reduceMul, Nat.reduceSub, Nat.reduceGT, Nat.reducePow, Nat.reduceLeDiff, Int.reduceToNat]

end Go.Proofs.YtgdiabbgiiemcaaDoor
