/-
  The functions compute just that.
-/
import Derived.Test.YtneejmndnihaoaaGW6
import Derived.KernelRfl
namespace Go.Proofs.Ytneejmndnihaoaa
open Go.Rv
set_option linter.unusedVariables false
set_option linter.unusedSimpArgs false

theorem r10_next_con {d_3772 : Api_Deframer} {c_3773 : UInt8} {r : Api_Deframer ⊕ (Api_Deframer × List UInt8)} (h : r10_next d_3772 c_3773 = some r) : Con B 25 [.agg [.bs false 0 (d_3772.Rest.length) 0 (d_3772.Rest.length), .bool d_3772.In, .bool d_3772.Escape, .bool d_3772.Bad], u8 c_3773] [.buf 1 (L cU8 d_3772.Rest) false] (fun r' σ' => r' = r10_next_rv r ∧ σ' = r10_next_st r) := by
  refine con_walk_own (N := 41) (rs := [.cell 4 31]) 1 rfl ok Try.func25 rfl (by decide +kernel) rfl rfl (Nat.le_of_ble_eq_true rfl) (fun F => ?_)
  have hE := ok.env F
  unfold r10_next at h
  show Run (B.env F) 1 _ ⟨asFr 41 [(0, .agg [.bs false 0 (d_3772.Rest.length) 0 (d_3772.Rest.length), .bool d_3772.In, .bool d_3772.Escape, .bool d_3772.Bad]), (1, u8 c_3773)], [.buf 1 (L cU8 d_3772.Rest) false]⟩ _
  refine run_textE hE [1, 2, 4] (fr' := [(1, u8 c_3773), (2, .ref 1 0), (4, .ref 2 0)]) (σ' := [.buf 1 (L cU8 d_3772.Rest) false, .box [.bs false 0 (d_3772.Rest.length) 0 (d_3772.Rest.length), .bool d_3772.In, .bool d_3772.Escape, .bool d_3772.Bad] false, .box [.sl true (L cU8 ([])), .bool false, .bool false, .bool false] false]) ⟨_, orcs_nil, ?_⟩ ?_
  · simp only [go_sem, reduceIte, Nat.reduceLT, Nat.reduceEqDiff, Nat.reduceAdd, Nat.reduceBEq, Nat.reduceMul, Nat.reduceSub, Nat.reduceGT, Nat.reducePow, Nat.reduceLeDiff, Int.reduceToNat]
  refine run_seq ?_
  replace h := bind_some1 h; obtain ⟨t_3787, hv_3788, h⟩ := h
  refine run_textW hE [1, 2, 4, 11] (fr' := [(1, u8 c_3773), (2, .ref 1 0), (4, .ref 2 0), (11, .bool t_3787)]) (σ' := [.buf 1 (L cU8 d_3772.Rest) false, .box [.bs false 0 (d_3772.Rest.length) 0 (d_3772.Rest.length), .bool d_3772.In, .bool d_3772.Escape, .bool d_3772.Bad] false, .box [.sl true (L cU8 ([])), .bool false, .bool false, .bool false] false]) ?_ ?_
  · rcases Bool.eq_false_or_eq_true ((!d_3772.In)) with hb_3789 | hb_3789
    · replace hv_3788 := ite_t hv_3788 hb_3789
      have e_hv_3788 := Option.some.inj hv_3788; subst e_hv_3788
      exact ⟨_, [(1, u8 c_3773), (2, .ref 1 0), (4, .ref 2 0), (11, .bool true)], [.buf 1 (L cU8 d_3772.Rest) false, .box [.bs false 0 (d_3772.Rest.length) 0 (d_3772.Rest.length), .bool d_3772.In, .bool d_3772.Escape, .bool d_3772.Bad] false, .box [.sl true (L cU8 ([])), .bool false, .bool false, .bool false] false], orcs_nil, by simp only [go_sem, reduceIte, Nat.reduceLT, Nat.reduceEqDiff, Nat.reduceAdd, Nat.reduceBEq, Nat.reduceMul, Nat.reduceSub, Nat.reduceGT, Nat.reducePow, Nat.reduceLeDiff, Int.reduceToNat, hb_3789], (weak_sel [0, 1, 2] (by decide) rfl (by simp only [go_sem, reduceIte, Nat.reduceLT, Nat.reduceEqDiff, Nat.reduceAdd, Nat.reduceBEq, Nat.reduceMul, Nat.reduceSub, Nat.reduceGT, Nat.reducePow, Nat.reduceLeDiff, Int.reduceToNat]) (by simp only [go_sem, reduceIte, Nat.reduceLT, Nat.reduceEqDiff, Nat.reduceAdd, Nat.reduceBEq, Nat.reduceMul, Nat.reduceSub, Nat.reduceGT, Nat.reducePow, Nat.reduceLeDiff, Int.reduceToNat]))⟩
    · replace hv_3788 := ite_f hv_3788 hb_3789
      have e_hv_3788 := Option.some.inj hv_3788; subst e_hv_3788
      exact ⟨_, [(1, u8 c_3773), (2, .ref 1 0), (4, .ref 2 0), (11, .bool d_3772.Bad)], [.buf 1 (L cU8 d_3772.Rest) false, .box [.bs false 0 (d_3772.Rest.length) 0 (d_3772.Rest.length), .bool d_3772.In, .bool d_3772.Escape, .bool d_3772.Bad] false, .box [.sl true (L cU8 ([])), .bool false, .bool false, .bool false] false], orcs_nil, by simp only [go_sem, reduceIte, Nat.reduceLT, Nat.reduceEqDiff, Nat.reduceAdd, Nat.reduceBEq, Nat.reduceMul, Nat.reduceSub, Nat.reduceGT, Nat.reducePow, Nat.reduceLeDiff, Int.reduceToNat, hb_3789], (weak_sel [0, 1, 2] (by decide) rfl (by simp only [go_sem, reduceIte, Nat.reduceLT, Nat.reduceEqDiff, Nat.reduceAdd, Nat.reduceBEq, Nat.reduceMul, Nat.reduceSub, Nat.reduceGT, Nat.reducePow, Nat.reduceLeDiff, Int.reduceToNat]) (by simp only [go_sem, reduceIte, Nat.reduceLT, Nat.reduceEqDiff, Nat.reduceAdd, Nat.reduceBEq, Nat.reduceMul, Nat.reduceSub, Nat.reduceGT, Nat.reducePow, Nat.reduceLeDiff, Int.reduceToNat]))⟩
  refine run_condL (b := t_3787) rfl (by decide) (fun hb => ?_) (fun hb => ?_)
  · replace h := ite_t h hb
    refine run_textE hE [4] (fr' := [(4, .ref 2 0)]) (σ' := [.buf 1 (L cU8 d_3772.Rest) false, .box [.bs false 0 (d_3772.Rest.length) 0 (d_3772.Rest.length), .bool d_3772.In, .bool d_3772.Escape, .bool d_3772.Bad] false, .box [.bs false 0 (d_3772.Rest.length) 0 (d_3772.Rest.length), .bool d_3772.In, .bool d_3772.Escape, .bool d_3772.Bad] false]) ⟨_, orcs_nil, ?_⟩ ?_
    · simp only [go_sem, reduceIte, Nat.reduceLT, Nat.reduceEqDiff, Nat.reduceAdd, Nat.reduceBEq, Nat.reduceMul, Nat.reduceSub, Nat.reduceGT, Nat.reducePow, Nat.reduceLeDiff, Int.reduceToNat]
    refine run_ret ?_
    refine thenK_r ?_
    obtain rfl := Option.some.inj h
    refine ret_own (.inr rfl) [0] (by decide) rfl ?_ ?_
    · simp only [go_sem, reduceIte, Nat.reduceLT, Nat.reduceEqDiff, Nat.reduceAdd, Nat.reduceBEq, Nat.reduceMul, Nat.reduceSub, Nat.reduceGT, Nat.reducePow, Nat.reduceLeDiff, Int.reduceToNat]
    · simp only [go_sem, reduceIte, Nat.reduceLT, Nat.reduceEqDiff, Nat.reduceAdd, Nat.reduceBEq, Nat.reduceMul, Nat.reduceSub, Nat.reduceGT, Nat.reducePow, Nat.reduceLeDiff, Int.reduceToNat]
  · replace h := ite_f h hb
    refine run_skip ?_
    refine thenK_n ?_
    refine run_seq ?_
    replace h := bind_some1 h; obtain ⟨t_3790, hv_3791, h⟩ := h
    refine run_textW hE [1, 2, 4, 19] (fr' := [(1, u8 c_3773), (2, .ref 1 0), (4, .ref 2 0), (19, .bool t_3790)]) (σ' := [.buf 1 (L cU8 d_3772.Rest) false, .box [.bs false 0 (d_3772.Rest.length) 0 (d_3772.Rest.length), .bool d_3772.In, .bool d_3772.Escape, .bool d_3772.Bad] false, .box [.sl true (L cU8 ([])), .bool false, .bool false, .bool false] false]) ?_ ?_
    · rcases Bool.eq_false_or_eq_true ((c_3773 == (125 : UInt8))) with hb_3792 | hb_3792
      · replace hv_3791 := ite_t hv_3791 hb_3792
        have e_hv_3791 := Option.some.inj hv_3791; subst e_hv_3791
        exact ⟨_, [(1, u8 c_3773), (2, .ref 1 0), (4, .ref 2 0), (19, .bool ((!d_3772.Escape)))], [.buf 1 (L cU8 d_3772.Rest) false, .box [.bs false 0 (d_3772.Rest.length) 0 (d_3772.Rest.length), .bool d_3772.In, .bool d_3772.Escape, .bool d_3772.Bad] false, .box [.sl true (L cU8 ([])), .bool false, .bool false, .bool false] false], orcs_nil, by simp only [go_sem, reduceIte, Nat.reduceLT, Nat.reduceEqDiff, Nat.reduceAdd, Nat.reduceBEq, Nat.reduceMul, Nat.reduceSub, Nat.reduceGT, Nat.reducePow, Nat.reduceLeDiff, Int.reduceToNat, hb_3792], (weak_sel [0, 1, 2] (by decide) rfl (by simp only [go_sem, reduceIte, Nat.reduceLT, Nat.reduceEqDiff, Nat.reduceAdd, Nat.reduceBEq, Nat.reduceMul, Nat.reduceSub, Nat.reduceGT, Nat.reducePow, Nat.reduceLeDiff, Int.reduceToNat]) (by simp only [go_sem, reduceIte, Nat.reduceLT, Nat.reduceEqDiff, Nat.reduceAdd, Nat.reduceBEq, Nat.reduceMul, Nat.reduceSub, Nat.reduceGT, Nat.reducePow, Nat.reduceLeDiff, Int.reduceToNat]))⟩
      · replace hv_3791 := ite_f hv_3791 hb_3792
        have e_hv_3791 := Option.some.inj hv_3791; subst e_hv_3791
        exact ⟨_, [(1, u8 c_3773), (2, .ref 1 0), (4, .ref 2 0), (19, .bool false)], [.buf 1 (L cU8 d_3772.Rest) false, .box [.bs false 0 (d_3772.Rest.length) 0 (d_3772.Rest.length), .bool d_3772.In, .bool d_3772.Escape, .bool d_3772.Bad] false, .box [.sl true (L cU8 ([])), .bool false, .bool false, .bool false] false], orcs_nil, by simp only [go_sem, reduceIte, Nat.reduceLT, Nat.reduceEqDiff, Nat.reduceAdd, Nat.reduceBEq, Nat.reduceMul, Nat.reduceSub, Nat.reduceGT, Nat.reducePow, Nat.reduceLeDiff, Int.reduceToNat, hb_3792], (weak_sel [0, 1, 2] (by decide) rfl (by simp only [go_sem, reduceIte, Nat.reduceLT, Nat.reduceEqDiff, Nat.reduceAdd, Nat.reduceBEq, Nat.reduceMul, Nat.reduceSub, Nat.reduceGT, Nat.reducePow, Nat.reduceLeDiff, Int.reduceToNat]) (by simp only [go_sem, reduceIte, Nat.reduceLT, Nat.reduceEqDiff, Nat.reduceAdd, Nat.reduceBEq, Nat.reduceMul, Nat.reduceSub, Nat.reduceGT, Nat.reducePow, Nat.reduceLeDiff, Int.reduceToNat]))⟩
    refine run_condL (b := t_3790) rfl (by decide) (fun hb => ?_) (fun hb => ?_)
    · replace h := ite_t h hb
      refine run_textE hE [2, 4] (fr' := [(2, .ref 1 0), (4, .ref 2 0)]) (σ' := [.buf 1 (L cU8 d_3772.Rest) false, .box [.bs false 0 (d_3772.Rest.length) 0 (d_3772.Rest.length), .bool d_3772.In, .bool true, .bool d_3772.Bad] false, .box [.sl true (L cU8 ([])), .bool false, .bool false, .bool false] false]) ⟨_, orcs_nil, ?_⟩ ?_
      · simp only [go_sem, reduceIte, Nat.reduceLT, Nat.reduceEqDiff, Nat.reduceAdd, Nat.reduceBEq, Nat.reduceMul, Nat.reduceSub, Nat.reduceGT, Nat.reducePow, Nat.reduceLeDiff, Int.reduceToNat]
      refine run_textE hE [4] (fr' := [(4, .ref 2 0)]) (σ' := [.buf 1 (L cU8 d_3772.Rest) false, .box [.bs false 0 (d_3772.Rest.length) 0 (d_3772.Rest.length), .bool d_3772.In, .bool true, .bool d_3772.Bad] false, .box [.bs false 0 (d_3772.Rest.length) 0 (d_3772.Rest.length), .bool d_3772.In, .bool true, .bool d_3772.Bad] false]) ⟨_, orcs_nil, ?_⟩ ?_
      · simp only [go_sem, reduceIte, Nat.reduceLT, Nat.reduceEqDiff, Nat.reduceAdd, Nat.reduceBEq, Nat.reduceMul, Nat.reduceSub, Nat.reduceGT, Nat.reducePow, Nat.reduceLeDiff, Int.reduceToNat]
      refine run_ret ?_
      refine thenK_r ?_
      obtain rfl := Option.some.inj h
      refine ret_own (.inr rfl) [0] (by decide) rfl ?_ ?_
      · simp only [go_sem, reduceIte, Nat.reduceLT, Nat.reduceEqDiff, Nat.reduceAdd, Nat.reduceBEq, Nat.reduceMul, Nat.reduceSub, Nat.reduceGT, Nat.reducePow, Nat.reduceLeDiff, Int.reduceToNat]
      · simp only [go_sem, reduceIte, Nat.reduceLT, Nat.reduceEqDiff, Nat.reduceAdd, Nat.reduceBEq, Nat.reduceMul, Nat.reduceSub, Nat.reduceGT, Nat.reducePow, Nat.reduceLeDiff, Int.reduceToNat]
    · replace h := ite_f h hb
      refine run_skip ?_
      refine thenK_n ?_
      replace h := bind_some1 h; obtain ⟨j_3794, hA_3795, hj_3796⟩ := h
      refine run_join (fun (v : UInt8) => (⟨asFr 41 [(1, u8 v), (2, .ref 1 0), (4, .ref 2 0)], [.buf 1 (L cU8 d_3772.Rest) false, .box [.bs false 0 (d_3772.Rest.length) 0 (d_3772.Rest.length), .bool d_3772.In, .bool d_3772.Escape, .bool d_3772.Bad] false, .box [.sl true (L cU8 ([])), .bool false, .bool false, .bool false] false]⟩ : St)) (fun v => v = j_3794) ?_ ?_
      · have h := hA_3795; clear hA_3795
        refine run_textE hE [1, 2, 4, 23] (fr' := [(1, u8 c_3773), (2, .ref 1 0), (4, .ref 2 0), (23, .bool d_3772.Escape)]) (σ' := [.buf 1 (L cU8 d_3772.Rest) false, .box [.bs false 0 (d_3772.Rest.length) 0 (d_3772.Rest.length), .bool d_3772.In, .bool d_3772.Escape, .bool d_3772.Bad] false, .box [.sl true (L cU8 ([])), .bool false, .bool false, .bool false] false]) ⟨_, orcs_nil, ?_⟩ ?_
        · simp only [go_sem, reduceIte, Nat.reduceLT, Nat.reduceEqDiff, Nat.reduceAdd, Nat.reduceBEq, Nat.reduceMul, Nat.reduceSub, Nat.reduceGT, Nat.reducePow, Nat.reduceLeDiff, Int.reduceToNat]
        refine run_condL (b := d_3772.Escape) rfl (by decide) (fun hb => ?_) (fun hb => ?_)
        · replace h := ite_t h hb
          refine run_textE0 hE wk_join [1, 2, 4] (fr' := [(1, u8 ((c_3773 ^^^ (32 : UInt8)))), (2, .ref 1 0), (4, .ref 2 0)]) (σ' := [.buf 1 (L cU8 d_3772.Rest) false, .box [.bs false 0 (d_3772.Rest.length) 0 (d_3772.Rest.length), .bool d_3772.In, .bool d_3772.Escape, .bool d_3772.Bad] false, .box [.sl true (L cU8 ([])), .bool false, .bool false, .bool false] false]) ⟨_, orcs_nil, ?_⟩ ?_
          · simp only [go_sem, reduceIte, Nat.reduceLT, Nat.reduceEqDiff, Nat.reduceAdd, Nat.reduceBEq, Nat.reduceMul, Nat.reduceSub, Nat.reduceGT, Nat.reducePow, Nat.reduceLeDiff, Int.reduceToNat]
          obtain rfl := Option.some.inj h
          exact joinK_n ((c_3773 ^^^ (32 : UInt8))) rfl (weak_sel [0, 1, 2] (by decide) rfl (by simp only [go_sem, reduceIte, Nat.reduceLT, Nat.reduceEqDiff, Nat.reduceAdd, Nat.reduceBEq, Nat.reduceMul, Nat.reduceSub, Nat.reduceGT, Nat.reducePow, Nat.reduceLeDiff, Int.reduceToNat]) (by simp only [go_sem, reduceIte, Nat.reduceLT, Nat.reduceEqDiff, Nat.reduceAdd, Nat.reduceBEq, Nat.reduceMul, Nat.reduceSub, Nat.reduceGT, Nat.reducePow, Nat.reduceLeDiff, Int.reduceToNat]))
        · replace h := ite_f h hb
          refine run_skip ?_
          obtain rfl := Option.some.inj h
          exact joinK_n c_3773 rfl (weak_sel [0, 1, 2] (by decide) rfl (by simp only [go_sem, reduceIte, Nat.reduceLT, Nat.reduceEqDiff, Nat.reduceAdd, Nat.reduceBEq, Nat.reduceMul, Nat.reduceSub, Nat.reduceGT, Nat.reducePow, Nat.reduceLeDiff, Int.reduceToNat]) (by simp only [go_sem, reduceIte, Nat.reduceLT, Nat.reduceEqDiff, Nat.reduceAdd, Nat.reduceBEq, Nat.reduceMul, Nat.reduceSub, Nat.reduceGT, Nat.reducePow, Nat.reduceLeDiff, Int.reduceToNat]))
      rintro c_3793 rfl
      have h := hj_3796; clear hj_3796
      refine run_textE hE [1, 2, 4] (fr' := [(1, u8 c_3793), (2, .ref 1 0), (4, .ref 2 0)]) (σ' := [.buf 1 (L cU8 d_3772.Rest) false, .box [.bs false 0 (d_3772.Rest.length) 0 (d_3772.Rest.length), .bool d_3772.In, .bool false, .bool d_3772.Bad] false, .box [.sl true (L cU8 ([])), .bool false, .bool false, .bool false] false]) ⟨_, orcs_nil, ?_⟩ ?_
      · simp only [go_sem, reduceIte, Nat.reduceLT, Nat.reduceEqDiff, Nat.reduceAdd, Nat.reduceBEq, Nat.reduceMul, Nat.reduceSub, Nat.reduceGT, Nat.reducePow, Nat.reduceLeDiff, Int.reduceToNat]
      refine run_seq ?_
      refine run_textE hE [1, 2, 4, 30] (fr' := [(1, u8 c_3793), (2, .ref 1 0), (4, .ref 2 0), (30, .bool ((decide ((d_3772.Rest.length : Int) ≥ 8196))))]) (σ' := [.buf 1 (L cU8 d_3772.Rest) false, .box [.bs false 0 (d_3772.Rest.length) 0 (d_3772.Rest.length), .bool d_3772.In, .bool false, .bool d_3772.Bad] false, .box [.sl true (L cU8 ([])), .bool false, .bool false, .bool false] false]) ⟨_, orcs_nil, ?_⟩ ?_
      · simp only [go_sem, reduceIte, Nat.reduceLT, Nat.reduceEqDiff, Nat.reduceAdd, Nat.reduceBEq, Nat.reduceMul, Nat.reduceSub, Nat.reduceGT, Nat.reducePow, Nat.reduceLeDiff, Int.reduceToNat]
      refine run_condL (b := (decide ((d_3772.Rest.length : Int) ≥ 8196))) rfl (by decide) (fun hb => ?_) (fun hb => ?_)
      · replace h := ite_t h hb
        refine run_textE hE [2, 4] (fr' := [(2, .ref 1 0), (4, .ref 2 0)]) (σ' := [.buf 1 (L cU8 d_3772.Rest) false, .box [.bs false 0 (d_3772.Rest.length) 0 (d_3772.Rest.length), .bool d_3772.In, .bool false, .bool true] false, .box [.sl true (L cU8 ([])), .bool false, .bool false, .bool false] false]) ⟨_, orcs_nil, ?_⟩ ?_
        · simp only [go_sem, reduceIte, Nat.reduceLT, Nat.reduceEqDiff, Nat.reduceAdd, Nat.reduceBEq, Nat.reduceMul, Nat.reduceSub, Nat.reduceGT, Nat.reducePow, Nat.reduceLeDiff, Int.reduceToNat]
        refine run_textE hE [2, 4] (fr' := [(2, .ref 1 0), (4, .ref 2 0)]) (σ' := [.buf 1 (L cU8 d_3772.Rest) false, .box [.sl true (L cU8 ([])), .bool d_3772.In, .bool false, .bool true] false, .box [.sl true (L cU8 ([])), .bool false, .bool false, .bool false] false]) ⟨_, orcs_nil, ?_⟩ ?_
        · simp only [go_sem, reduceIte, Nat.reduceLT, Nat.reduceEqDiff, Nat.reduceAdd, Nat.reduceBEq, Nat.reduceMul, Nat.reduceSub, Nat.reduceGT, Nat.reducePow, Nat.reduceLeDiff, Int.reduceToNat]
        refine run_textE hE [4] (fr' := [(4, .ref 2 0)]) (σ' := [.buf 1 (L cU8 d_3772.Rest) false, .box [.sl true (L cU8 ([])), .bool d_3772.In, .bool false, .bool true] false, .box [.sl true (L cU8 ([])), .bool d_3772.In, .bool false, .bool true] false]) ⟨_, orcs_nil, ?_⟩ ?_
        · simp only [go_sem, reduceIte, Nat.reduceLT, Nat.reduceEqDiff, Nat.reduceAdd, Nat.reduceBEq, Nat.reduceMul, Nat.reduceSub, Nat.reduceGT, Nat.reducePow, Nat.reduceLeDiff, Int.reduceToNat]
        refine run_ret ?_
        refine thenK_r ?_
        obtain rfl := Option.some.inj h
        refine ret_own (.inr rfl) [0] (by decide) rfl ?_ ?_
        · simp only [go_sem, reduceIte, Nat.reduceLT, Nat.reduceEqDiff, Nat.reduceAdd, Nat.reduceBEq, Nat.reduceMul, Nat.reduceSub, Nat.reduceGT, Nat.reducePow, Nat.reduceLeDiff, Int.reduceToNat]
        · simp only [go_sem, reduceIte, Nat.reduceLT, Nat.reduceEqDiff, Nat.reduceAdd, Nat.reduceBEq, Nat.reduceMul, Nat.reduceSub, Nat.reduceGT, Nat.reducePow, Nat.reduceLeDiff, Int.reduceToNat]
      · replace h := ite_f h hb
        refine run_skip ?_
        refine thenK_n ?_
        replace h := chk_some h; obtain ⟨hc_3797, h⟩ := h
        replace h := lt1_some h; obtain ⟨l_3798, hz_3799, h⟩ := h
        refine run_textE hE [2, 4] (fr' := [(2, .ref 1 0), (4, .ref 2 0)]) (σ' := [.buf 1 (L cU8 l_3798) false, .box [.bs false 0 (l_3798.length) 0 (l_3798.length), .bool d_3772.In, .bool false, .bool d_3772.Bad] false, .box [.sl true (L cU8 ([])), .bool false, .bool false, .bool false] false, .buf 1 (L cU8 (([c_3793] : List UInt8))) false]) ⟨_, orcs_nil, ?_⟩ ?_
        · subst hz_3799; simp only [go_sem, reduceIte, Nat.reduceLT, Nat.reduceEqDiff, Nat.reduceAdd, Nat.reduceBEq, Nat.reduceMul, Nat.reduceSub, Nat.reduceGT, Nat.reducePow, Nat.reduceLeDiff, Int.reduceToNat, hc_3797]
        refine run_textE hE [4] (fr' := [(4, .ref 2 0)]) (σ' := [.buf 1 (L cU8 l_3798) false, .box [.bs false 0 (l_3798.length) 0 (l_3798.length), .bool d_3772.In, .bool false, .bool d_3772.Bad] false, .box [.bs false 0 (l_3798.length) 0 (l_3798.length), .bool d_3772.In, .bool false, .bool d_3772.Bad] false, .buf 1 (L cU8 (([c_3793] : List UInt8))) false]) ⟨_, orcs_nil, ?_⟩ ?_
        · simp only [go_sem, reduceIte, Nat.reduceLT, Nat.reduceEqDiff, Nat.reduceAdd, Nat.reduceBEq, Nat.reduceMul, Nat.reduceSub, Nat.reduceGT, Nat.reducePow, Nat.reduceLeDiff, Int.reduceToNat]
        refine run_ret ?_
        obtain rfl := Option.some.inj h
        refine ret_own (.inr rfl) [0] (by decide) rfl ?_ ?_
        · simp only [go_sem, reduceIte, Nat.reduceLT, Nat.reduceEqDiff, Nat.reduceAdd, Nat.reduceBEq, Nat.reduceMul, Nat.reduceSub, Nat.reduceGT, Nat.reducePow, Nat.reduceLeDiff, Int.reduceToNat]
        · simp only [go_sem, reduceIte, Nat.reduceLT, Nat.reduceEqDiff, Nat.reduceAdd, Nat.reduceBEq, Nat.reduceMul, Nat.reduceSub, Nat.reduceGT, Nat.reducePow, Nat.reduceLeDiff, Int.reduceToNat]

end Go.Proofs.Ytneejmndnihaoaa
