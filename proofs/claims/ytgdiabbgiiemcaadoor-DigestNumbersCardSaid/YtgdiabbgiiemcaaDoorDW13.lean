/-
  The functions compute just that.
-/
import Derived.Test.YtgdiabbgiiemcaaDoorDW12
import Derived.KernelRfl
namespace Go.Proofs.YtgdiabbgiiemcaaDoor
open Go.Rv
set_option linter.unusedVariables false
set_option linter.unusedSimpArgs false
set_option maxRecDepth 20000

theorem law02_DigestNumbers_con {a_3266 : Arr UInt8 32} {b_3267 : Arr UInt8 32} {r : Bool} (h : law02_DigestNumbers a_3266 b_3267 = some r) : Con B 9 [.agg (C1 u8 a_3266.l), .agg (C1 u8 b_3267.l)] [] (fun r' σ' => r' = .bool r ∧ σ' = []) := by
  refine con_walk (N := 37) (rs := [.tmp 4]) ok Tryd.func9 rfl (by decide +kernel) rfl rfl (Nat.le_of_ble_eq_true rfl) (fun F => ?_)
  have hE := ok.env F
  unfold law02_DigestNumbers at h
  show Run (B.env F) 0 _ ⟨asFr 37 [(0, .agg (C1 u8 a_3266.l)), (1, .agg (C1 u8 b_3267.l))], []⟩ _
  refine run_textE hE [2, 3] (fr' := [(2, .ref 0 0), (3, .ref 1 0)]) (σ' := [.box (C1 u8 a_3266.l) false, .box (C1 u8 b_3267.l) false]) ⟨_, orcs_nil, ?_⟩ ?_
  · simp only [go_sem, reduceIte, Nat.reduceLT, Nat.reduceEqDiff, Nat.reduceAdd, Nat.reduceBEq, Nat.reduceMul, Nat.reduceSub, Nat.reduceGT, Nat.reducePow, Nat.reduceLeDiff, Int.reduceToNat]
  refine run_seq ?_
  replace h := bind_some1 h; obtain ⟨y_3268, hy_3269, h⟩ := h
  refine run_textE hE [2, 3, 9] (fr' := [(2, .ref 0 0), (3, .ref 1 0), (9, .bool ((!y_3268)))]) (σ' := [.box (C1 u8 a_3266.l) false, .box (C1 u8 b_3267.l) false]) ⟨_, orcs_ok (l := [(8, 11, [], .bool y_3268)]) ⟨law02_sane_con hy_3269, trivial⟩, ?_⟩ ?_
  · simp only [go_sem, reduceIte, Nat.reduceLT, Nat.reduceEqDiff, Nat.reduceAdd, Nat.reduceBEq, Nat.reduceMul, Nat.reduceSub, Nat.reduceGT, Nat.reducePow, Nat.reduceLeDiff, Int.reduceToNat]
  refine run_condL (b := (!y_3268)) rfl (by decide) (fun hb => ?_) (fun hb => ?_)
  · replace h := ite_t h hb
    refine run_textE hE [4] (fr' := [(4, .bool false)]) (σ' := [.box (C1 u8 a_3266.l) false, .box (C1 u8 b_3267.l) false]) ⟨_, orcs_nil, ?_⟩ ?_
    · simp only [go_sem, reduceIte, Nat.reduceLT, Nat.reduceEqDiff, Nat.reduceAdd, Nat.reduceBEq, Nat.reduceMul, Nat.reduceSub, Nat.reduceGT, Nat.reducePow, Nat.reduceLeDiff, Int.reduceToNat]
    refine run_ret ?_
    refine thenK_r ?_
    obtain rfl := Option.some.inj h
    refine ret_ok (.inr rfl) ?_
    simp only [go_sem, reduceIte, Nat.reduceLT, Nat.reduceEqDiff, Nat.reduceAdd, Nat.reduceBEq, Nat.reduceMul, Nat.reduceSub, Nat.reduceGT, Nat.reducePow, Nat.reduceLeDiff, Int.reduceToNat]
  · replace h := ite_f h hb
    refine run_skip ?_
    refine thenK_n ?_
    replace h := bind_some1 h; obtain ⟨y_3270, hy_3271, h⟩ := h
    refine run_textE hE [2, 3, 5] (fr' := [(2, .ref 0 0), (3, .ref 1 0), (5, u64 y_3270)]) (σ' := [.box (C1 u8 a_3266.l) false, .box (C1 u8 b_3267.l) false]) ⟨_, orcs_ok (l := [(11, 18, [.agg (C1 u8 a_3266.l)], u64 y_3270)]) ⟨digest_Number_con hy_3271, trivial⟩, ?_⟩ ?_
    · simp only [go_sem, reduceIte, Nat.reduceLT, Nat.reduceEqDiff, Nat.reduceAdd, Nat.reduceBEq, Nat.reduceMul, Nat.reduceSub, Nat.reduceGT, Nat.reducePow, Nat.reduceLeDiff, Int.reduceToNat]
    replace h := bind_some1 h; obtain ⟨y_3272, hy_3273, h⟩ := h
    refine run_textE hE [2, 3, 5, 6] (fr' := [(2, .ref 0 0), (3, .ref 1 0), (5, u64 y_3270), (6, u64 y_3272)]) (σ' := [.box (C1 u8 a_3266.l) false, .box (C1 u8 b_3267.l) false]) ⟨_, orcs_ok (l := [(13, 18, [.agg (C1 u8 b_3267.l)], u64 y_3272)]) ⟨digest_Number_con hy_3273, trivial⟩, ?_⟩ ?_
    · simp only [go_sem, reduceIte, Nat.reduceLT, Nat.reduceEqDiff, Nat.reduceAdd, Nat.reduceBEq, Nat.reduceMul, Nat.reduceSub, Nat.reduceGT, Nat.reducePow, Nat.reduceLeDiff, Int.reduceToNat]
    replace h := bind_some1 h; obtain ⟨j_3298, hA_3299, hj_3300⟩ := h
    refine run_join (fun (v : Unit) => (⟨asFr 37 [(2, .ref 0 0), (3, .ref 1 0), (5, u64 y_3270), (6, u64 y_3272)], [.box (C1 u8 a_3266.l) false, .box (C1 u8 b_3267.l) false]⟩ : St)) (fun v => .inl v = j_3298) ?_ ?_
    · have h := hA_3299; clear hA_3299
      refine run_textE hE [2, 3, 5, 6, 7] (fr' := [(2, .ref 0 0), (3, .ref 1 0), (5, u64 y_3270), (6, u64 y_3272), (7, i64 0)]) (σ' := [.box (C1 u8 a_3266.l) false, .box (C1 u8 b_3267.l) false]) ⟨_, orcs_nil, ?_⟩ ?_
      · simp only [go_sem, reduceIte, Nat.reduceLT, Nat.reduceEqDiff, Nat.reduceAdd, Nat.reduceBEq, Nat.reduceMul, Nat.reduceSub, Nat.reduceGT, Nat.reducePow, Nat.reduceLeDiff, Int.reduceToNat]
      refine run_block ?_
      replace h := bind_some1 h; obtain ⟨x_3314, hx_3315, hj_3316⟩ := h
      refine run_loopO hx_3315 (fun (v : Int) => (⟨asFr 37 [(2, .ref 0 0), (3, .ref 1 0), (5, u64 y_3270), (6, u64 y_3272), (7, i64 v)], [.box (C1 u8 a_3266.l) false, .box (C1 u8 b_3267.l) false]⟩ : St)) (weak_sel [0, 1] (by decide) rfl (by simp only [go_sem, reduceIte, Nat.reduceLT, Nat.reduceEqDiff, Nat.reduceAdd, Nat.reduceBEq, Nat.reduceMul, Nat.reduceSub, Nat.reduceGT, Nat.reducePow, Nat.reduceLeDiff, Int.reduceToNat]) (by simp only [go_sem, reduceIte, Nat.reduceLT, Nat.reduceEqDiff, Nat.reduceAdd, Nat.reduceBEq, Nat.reduceMul, Nat.reduceSub, Nat.reduceGT, Nat.reducePow, Nat.reduceLeDiff, Int.reduceToNat])) ?_
      rintro i_3307 o_3317 h hxx_3318
      replace h : law02_DigestNumbers_b1 a_3266 y_3270 i_3307 = some o_3317 := h
      unfold law02_DigestNumbers_b1 at h
      refine run_seq ?_
      refine run_textE hE [2, 3, 5, 6, 7, 15] (fr' := [(2, .ref 0 0), (3, .ref 1 0), (5, u64 y_3270), (6, u64 y_3272), (7, i64 i_3307), (15, .bool ((decide (i_3307 < 8))))]) (σ' := [.box (C1 u8 a_3266.l) false, .box (C1 u8 b_3267.l) false]) ⟨_, orcs_nil, ?_⟩ ?_
      · simp only [go_sem, reduceIte, Nat.reduceLT, Nat.reduceEqDiff, Nat.reduceAdd, Nat.reduceBEq, Nat.reduceMul, Nat.reduceSub, Nat.reduceGT, Nat.reducePow, Nat.reduceLeDiff, Int.reduceToNat]
      refine run_condL (b := (decide (i_3307 < 8))) rfl (by decide) (fun hb => ?_) (fun hb => ?_)
      · replace h := ite_t h hb
        refine run_skip ?_
        refine thenK_n ?_
        refine run_seq ?_
        refine run_block ?_
        replace h := chk_some h; obtain ⟨hc_3319, h⟩ := h
        replace h := chk_some h; obtain ⟨hc_3320, h⟩ := h
        replace h := lt1_some h; obtain ⟨t_3321, hz_3322, h⟩ := h
        refine run_drawE hE mixed [[], [], [1], [1, 2], [0, 1, 2, 3], [0, 1, 2, 3, 4], [], [6], [6, 7], [0, 1, 2, 3, 4, 5, 6, 7, 8]] (by kernel_rfl) (by kernel_rfl) [2, 3, 5, 6, 7, 27] (fr' := [(2, .ref 0 0), (3, .ref 1 0), (5, u64 y_3270), (6, u64 y_3272), (7, i64 i_3307), (27, .bool t_3321)]) (σ' := [.box (C1 u8 a_3266.l) false, .box (C1 u8 b_3267.l) false]) ⟨_, orcs_nil, ?_⟩ ?_
        · subst hz_3322; simp only [go_sem, reduceIte, Nat.reduceLT, Nat.reduceEqDiff, Nat.reduceAdd, Nat.reduceBEq, Nat.reduceMul, Nat.reduceSub, Nat.reduceGT, Nat.reducePow, Nat.reduceLeDiff, Int.reduceToNat, hc_3319, hc_3320, hc_3320.2, lt_le hc_3320.2]
        refine run_condL (b := t_3321) rfl (by decide) (fun hb => ?_) (fun hb => ?_)
        · replace h := ite_t h hb
          refine run_textE hE [4] (fr' := [(4, .bool false)]) (σ' := [.box (C1 u8 a_3266.l) false, .box (C1 u8 b_3267.l) false]) ⟨_, orcs_nil, ?_⟩ ?_
          · simp only [go_sem, reduceIte, Nat.reduceLT, Nat.reduceEqDiff, Nat.reduceAdd, Nat.reduceBEq, Nat.reduceMul, Nat.reduceSub, Nat.reduceGT, Nat.reducePow, Nat.reduceLeDiff, Int.reduceToNat]
          refine run_ret ?_
          refine blockK_r ?_
          refine thenK_r ?_
          refine lpK_r ?_
          replace h := bind_some1 h; obtain ⟨z_3324, h, e_z_3324⟩ := h
          obtain rfl := Option.some.inj e_z_3324
          have ex_z_3324 := hxx_3318 _ rfl
          subst ex_z_3324
          obtain rfl := Option.some.inj hj_3316
          refine blockK_r ?_
          refine joinK_r ?_
          replace h := bind_some1 h; obtain ⟨z_3323, h, e_z_3323⟩ := h
          obtain rfl := Option.some.inj e_z_3323
          obtain rfl := Option.some.inj hj_3300
          obtain rfl := Option.some.inj h
          refine ret_ok (.inr rfl) ?_
          simp only [go_sem, reduceIte, Nat.reduceLT, Nat.reduceEqDiff, Nat.reduceAdd, Nat.reduceBEq, Nat.reduceMul, Nat.reduceSub, Nat.reduceGT, Nat.reducePow, Nat.reduceLeDiff, Int.reduceToNat]
        · replace h := ite_f h hb
          refine run_skip ?_
          refine blockK_n ?_
          refine thenK_n ?_
          refine run_textE0 hE wk_lp [2, 3, 5, 6, 7] (fr' := [(2, .ref 0 0), (3, .ref 1 0), (5, u64 y_3270), (6, u64 y_3272), (7, i64 ((w64 (i_3307 + 1))))]) (σ' := [.box (C1 u8 a_3266.l) false, .box (C1 u8 b_3267.l) false]) ⟨_, orcs_nil, ?_⟩ ?_
          · simp only [go_sem, reduceIte, Nat.reduceLT, Nat.reduceEqDiff, Nat.reduceAdd, Nat.reduceBEq, Nat.reduceMul, Nat.reduceSub, Nat.reduceGT, Nat.reducePow, Nat.reduceLeDiff, Int.reduceToNat]
          obtain rfl := Option.some.inj h
          exact lpK_n ((w64 (i_3307 + 1))) rfl (weak_sel [0, 1] (by decide) rfl (by simp only [go_sem, reduceIte, Nat.reduceLT, Nat.reduceEqDiff, Nat.reduceAdd, Nat.reduceBEq, Nat.reduceMul, Nat.reduceSub, Nat.reduceGT, Nat.reducePow, Nat.reduceLeDiff, Int.reduceToNat]) (by simp only [go_sem, reduceIte, Nat.reduceLT, Nat.reduceEqDiff, Nat.reduceAdd, Nat.reduceBEq, Nat.reduceMul, Nat.reduceSub, Nat.reduceGT, Nat.reducePow, Nat.reduceLeDiff, Int.reduceToNat]))
      · replace h := ite_f h hb
        refine run_exit ?_
        refine thenK_x ?_
        obtain rfl := Option.some.inj h
        have ex_x_3314 := hxx_3318 _ rfl
        subst ex_x_3314
        have h := hj_3316; clear hj_3316
        refine lpK_x ?_
        refine blockK_x ?_
        obtain rfl := Option.some.inj h
        exact joinK_n (()) rfl ((weak_sel (l' := [(2, .ref 0 0), (3, .ref 1 0), (5, u64 y_3270), (6, u64 y_3272)]) (σ' := [.box (C1 u8 a_3266.l) false, .box (C1 u8 b_3267.l) false]) [0, 1] (by decide) rfl (by simp only [go_sem, reduceIte, Nat.reduceLT, Nat.reduceEqDiff, Nat.reduceAdd, Nat.reduceBEq, Nat.reduceMul, Nat.reduceSub, Nat.reduceGT, Nat.reducePow, Nat.reduceLeDiff, Int.reduceToNat]) (by simp only [go_sem, reduceIte, Nat.reduceLT, Nat.reduceEqDiff, Nat.reduceAdd, Nat.reduceBEq, Nat.reduceMul, Nat.reduceSub, Nat.reduceGT, Nat.reducePow, Nat.reduceLeDiff, Int.reduceToNat])).trans (weak_sel [0, 1] (by decide) rfl (by simp only [go_sem, reduceIte, Nat.reduceLT, Nat.reduceEqDiff, Nat.reduceAdd, Nat.reduceBEq, Nat.reduceMul, Nat.reduceSub, Nat.reduceGT, Nat.reducePow, Nat.reduceLeDiff, Int.reduceToNat]) (by simp only [go_sem, reduceIte, Nat.reduceLT, Nat.reduceEqDiff, Nat.reduceAdd, Nat.reduceBEq, Nat.reduceMul, Nat.reduceSub, Nat.reduceGT, Nat.reducePow, Nat.reduceLeDiff, Int.reduceToNat])))
    rintro ⟨⟩ rfl
    have h := hj_3300; clear hj_3300
    have hk_3325 : InB 8 32 := by decide
    have hk_3326 : InB 8 32 := by decide
    replace h := lt1_some h; obtain ⟨t_3327, hz_3328, h⟩ := h
    refine run_drawE hE mixed [[], [], [0, 1], [], [3], [], [5], [3, 4, 5, 6], [0, 1, 2, 3, 4, 5, 6, 7], [0, 1, 2, 3, 4, 5, 6, 7, 8]] (by kernel_rfl) (by kernel_rfl) [4] (fr' := [(4, .bool t_3327)]) (σ' := [.box (C1 u8 a_3266.l) true, .box (C1 u8 b_3267.l) true]) ⟨_, orcs_nil, ?_⟩ ?_
    · subst hz_3328; simp only [go_sem, reduceIte, Nat.reduceLT, Nat.reduceEqDiff, Nat.reduceAdd, Nat.reduceBEq, Nat.reduceMul, Nat.reduceSub, Nat.reduceGT, Nat.reducePow, Nat.reduceLeDiff, Int.reduceToNat, hk_3325, hk_3326]
    refine run_ret ?_
    obtain rfl := Option.some.inj h
    refine ret_ok (.inr rfl) ?_
    simp only [go_sem, reduceIte, Nat.reduceLT, Nat.reduceEqDiff, Nat.reduceAdd, Nat.reduceBEq, Nat.reduceMul, Nat.reduceSub, Nat.reduceGT, Nat.reducePow, Nat.reduceLeDiff, Int.reduceToNat]

end Go.Proofs.YtgdiabbgiiemcaaDoor
