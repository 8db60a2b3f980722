/-
  The functions compute just that.
-/
import Derived.Test.YtneejmndnihaoaaGW5
import Derived.KernelRfl
namespace Go.Proofs.Ytneejmndnihaoaa
open Go.Rv
set_option linter.unusedVariables false
set_option linter.unusedSimpArgs false

theorem law10_receives_con {stream_3716 : List UInt8} {want_3717 : List (List UInt8)} {damaged_3718 : Int} {r : Bool} (h : law10_receives stream_3716 want_3717 damaged_3718 = some r) : Con B 19 [.sl false (L cU8 stream_3716), .sl false (L (cSl cU8) want_3717), i64 damaged_3718] [] (fun r' σ' => r' = .bool r ∧ σ' = []) := by
  refine con_walk (N := 30) (rs := [.tmp 6]) ok Try.func19 rfl (by decide +kernel) rfl rfl (Nat.le_of_ble_eq_true rfl) (fun F => ?_)
  have hE := ok.env F
  unfold law10_receives at h
  show Run (B.env F) 0 _ ⟨asFr 30 [(0, .sl false (L cU8 stream_3716)), (1, .sl false (L (cSl cU8) want_3717)), (2, i64 damaged_3718)], []⟩ _
  refine run_textE hE [0, 1, 2] (fr' := [(0, .sl false (L cU8 stream_3716)), (1, .sl false (L (cSl cU8) want_3717)), (2, i64 damaged_3718)]) (σ' := []) ⟨_, orcs_nil, ?_⟩ ?_
  · simp only [go_sem, reduceIte, Nat.reduceLT, Nat.reduceEqDiff, Nat.reduceAdd, Nat.reduceBEq, Nat.reduceMul, Nat.reduceSub, Nat.reduceGT, Nat.reducePow, Nat.reduceLeDiff, Int.reduceToNat]
  replace h := bind_some1 h; obtain ⟨y_3719, hy_3720, h⟩ := h
  refine run_textE hE [1, 2, 7, 8, 9] (fr' := [(1, .sl false (L (cSl cU8) want_3717)), (2, i64 damaged_3718), (7, .ref 0 0), (8, .sl false (L (cSl cU8) y_3719.2.1)), (9, i64 y_3719.2.2)]) (σ' := [.box [.sl false (L cU8 y_3719.1.Rest), .bool y_3719.1.In, .bool y_3719.1.Escape, .bool y_3719.1.Bad] false]) ⟨_, orcs_ok (l := [(13, 15, [.agg [.sl false (L cU8 ([])), .bool false, .bool false, .bool false], .sl false (L cU8 stream_3716)], .tup [.agg [.sl false (L cU8 y_3719.1.Rest), .bool y_3719.1.In, .bool y_3719.1.Escape, .bool y_3719.1.Bad], .sl false (L (cSl cU8) y_3719.2.1), i64 y_3719.2.2])]) ⟨frame_Feed_con hy_3720, trivial⟩, ?_⟩ ?_
  · simp only [go_sem, reduceIte, Nat.reduceLT, Nat.reduceEqDiff, Nat.reduceAdd, Nat.reduceBEq, Nat.reduceMul, Nat.reduceSub, Nat.reduceGT, Nat.reducePow, Nat.reduceLeDiff, Int.reduceToNat]
  replace h := bind_some1 h; obtain ⟨t_3723, hv_3724, h⟩ := h
  refine run_textW hE [6] (fr' := [(6, .bool t_3723)]) (σ' := []) ?_ ?_
  · replace hv_3724 := bind_some1 hv_3724; obtain ⟨y_3721, hy_3725, hv_3724⟩ := hv_3724
    rcases Bool.eq_false_or_eq_true y_3721 with hb_3726 | hb_3726
    · replace hv_3724 := ite_t hv_3724 hb_3726
      replace hv_3724 := bind_some1 hv_3724; obtain ⟨y_3722, hy_3727, hv_3724⟩ := hv_3724
      rcases Bool.eq_false_or_eq_true y_3722 with hb_3728 | hb_3728
      · replace hv_3724 := ite_t hv_3724 hb_3728
        have e_hv_3724 := Option.some.inj hv_3724; subst e_hv_3724
        exact ⟨_, [(6, .bool ((y_3719.2.2 == damaged_3718)))], [.box [.sl false (L cU8 y_3719.1.Rest), .bool y_3719.1.In, .bool y_3719.1.Escape, .bool y_3719.1.Bad] false], orcs_ok (l := [(19, 17, [.agg [.sl false (L cU8 y_3719.1.Rest), .bool y_3719.1.In, .bool y_3719.1.Escape, .bool y_3719.1.Bad], .agg [.sl false (L cU8 ([])), .bool true, .bool false, .bool false]], .bool y_3721), (23, 18, [.sl false (L (cSl cU8) y_3719.2.1), .sl false (L (cSl cU8) want_3717)], .bool y_3722)]) ⟨r10_SameState_con hy_3725, r10_Same_con hy_3727, trivial⟩, by simp only [go_sem, reduceIte, Nat.reduceLT, Nat.reduceEqDiff, Nat.reduceAdd, Nat.reduceBEq, Nat.reduceMul, Nat.reduceSub, Nat.reduceGT, Nat.reducePow, Nat.reduceLeDiff, Int.reduceToNat, hb_3726, hb_3728], (weak_sel [] (by decide) rfl (by simp only [go_sem, reduceIte, Nat.reduceLT, Nat.reduceEqDiff, Nat.reduceAdd, Nat.reduceBEq, Nat.reduceMul, Nat.reduceSub, Nat.reduceGT, Nat.reducePow, Nat.reduceLeDiff, Int.reduceToNat]) (by simp only [go_sem, reduceIte, Nat.reduceLT, Nat.reduceEqDiff, Nat.reduceAdd, Nat.reduceBEq, Nat.reduceMul, Nat.reduceSub, Nat.reduceGT, Nat.reducePow, Nat.reduceLeDiff, Int.reduceToNat]))⟩
      · replace hv_3724 := ite_f hv_3724 hb_3728
        have e_hv_3724 := Option.some.inj hv_3724; subst e_hv_3724
        exact ⟨_, [(6, .bool false)], [.box [.sl false (L cU8 y_3719.1.Rest), .bool y_3719.1.In, .bool y_3719.1.Escape, .bool y_3719.1.Bad] false], orcs_ok (l := [(19, 17, [.agg [.sl false (L cU8 y_3719.1.Rest), .bool y_3719.1.In, .bool y_3719.1.Escape, .bool y_3719.1.Bad], .agg [.sl false (L cU8 ([])), .bool true, .bool false, .bool false]], .bool y_3721), (23, 18, [.sl false (L (cSl cU8) y_3719.2.1), .sl false (L (cSl cU8) want_3717)], .bool y_3722)]) ⟨r10_SameState_con hy_3725, r10_Same_con hy_3727, trivial⟩, by simp only [go_sem, reduceIte, Nat.reduceLT, Nat.reduceEqDiff, Nat.reduceAdd, Nat.reduceBEq, Nat.reduceMul, Nat.reduceSub, Nat.reduceGT, Nat.reducePow, Nat.reduceLeDiff, Int.reduceToNat, hb_3726, hb_3728], (weak_sel [] (by decide) rfl (by simp only [go_sem, reduceIte, Nat.reduceLT, Nat.reduceEqDiff, Nat.reduceAdd, Nat.reduceBEq, Nat.reduceMul, Nat.reduceSub, Nat.reduceGT, Nat.reducePow, Nat.reduceLeDiff, Int.reduceToNat]) (by simp only [go_sem, reduceIte, Nat.reduceLT, Nat.reduceEqDiff, Nat.reduceAdd, Nat.reduceBEq, Nat.reduceMul, Nat.reduceSub, Nat.reduceGT, Nat.reducePow, Nat.reduceLeDiff, Int.reduceToNat]))⟩
    · replace hv_3724 := ite_f hv_3724 hb_3726
      have e_hv_3724 := Option.some.inj hv_3724; subst e_hv_3724
      exact ⟨_, [(6, .bool false)], [.box [.sl false (L cU8 y_3719.1.Rest), .bool y_3719.1.In, .bool y_3719.1.Escape, .bool y_3719.1.Bad] false], orcs_ok (l := [(19, 17, [.agg [.sl false (L cU8 y_3719.1.Rest), .bool y_3719.1.In, .bool y_3719.1.Escape, .bool y_3719.1.Bad], .agg [.sl false (L cU8 ([])), .bool true, .bool false, .bool false]], .bool y_3721)]) ⟨r10_SameState_con hy_3725, trivial⟩, by simp only [go_sem, reduceIte, Nat.reduceLT, Nat.reduceEqDiff, Nat.reduceAdd, Nat.reduceBEq, Nat.reduceMul, Nat.reduceSub, Nat.reduceGT, Nat.reducePow, Nat.reduceLeDiff, Int.reduceToNat, hb_3726], (weak_sel [] (by decide) rfl (by simp only [go_sem, reduceIte, Nat.reduceLT, Nat.reduceEqDiff, Nat.reduceAdd, Nat.reduceBEq, Nat.reduceMul, Nat.reduceSub, Nat.reduceGT, Nat.reducePow, Nat.reduceLeDiff, Int.reduceToNat]) (by simp only [go_sem, reduceIte, Nat.reduceLT, Nat.reduceEqDiff, Nat.reduceAdd, Nat.reduceBEq, Nat.reduceMul, Nat.reduceSub, Nat.reduceGT, Nat.reducePow, Nat.reduceLeDiff, Int.reduceToNat]))⟩
  refine run_ret ?_
  obtain rfl := Option.some.inj h
  refine ret_ok (.inr rfl) ?_
  simp only [go_sem, reduceIte, Nat.reduceLT, Nat.reduceEqDiff, Nat.reduceAdd, Nat.reduceBEq, Nat.reduceMul, Nat.reduceSub, Nat.reduceGT, Nat.reducePow, Nat.reduceLeDiff, Int.reduceToNat]

theorem law10_sane_con  {r : Bool} (h : law10_sane  = some r) : Con B 10 [] [] (fun r' σ' => r' = .bool r ∧ σ' = []) := by
  refine con_walk (N := 80) (rs := [.tmp 0]) ok Try.func10 rfl (by decide +kernel) rfl rfl (Nat.le_of_ble_eq_true rfl) (fun F => ?_)
  have hE := ok.env F
  unfold law10_sane at h
  show Run (B.env F) 0 _ ⟨asFr 80 [], []⟩ _
  refine run_textE hE [] (fr' := []) (σ' := []) ⟨_, orcs_nil, ?_⟩ ?_
  · simp only [go_sem, reduceIte, Nat.reduceLT, Nat.reduceEqDiff, Nat.reduceAdd, Nat.reduceBEq, Nat.reduceMul, Nat.reduceSub, Nat.reduceGT, Nat.reducePow, Nat.reduceLeDiff, Int.reduceToNat]
  replace h := lt1_some h; obtain ⟨l_3729, hz_3730, h⟩ := h
  refine run_textE hE [1] (fr' := [(1, .bs true 0 (l_3729.length) 0 (l_3729.length))]) (σ' := [.buf 1 (L cU8 l_3729) false]) ⟨_, orcs_nil, ?_⟩ ?_
  · subst hz_3730; simp only [go_sem, reduceIte, Nat.reduceLT, Nat.reduceEqDiff, Nat.reduceAdd, Nat.reduceBEq, Nat.reduceMul, Nat.reduceSub, Nat.reduceGT, Nat.reducePow, Nat.reduceLeDiff, Int.reduceToNat]
  replace h := bind_some1 h; obtain ⟨y_3731, hy_3732, h⟩ := h
  refine run_textE hE [1, 2, 3] (fr' := [(1, .bs true 0 (l_3729.length) 0 (l_3729.length)), (2, .sl false (L cU8 y_3731.1)), (3, i64 y_3731.2)]) (σ' := [.buf 1 (L cU8 l_3729) false]) ⟨_, orcs_ok (l := [(11, 11, [.sl false (L cU8 ([]))], .tup [.sl false (L cU8 y_3731.1), i64 y_3731.2])]) ⟨frame_Make_con hy_3732, trivial⟩, ?_⟩ ?_
  · simp only [go_sem, reduceIte, Nat.reduceLT, Nat.reduceEqDiff, Nat.reduceAdd, Nat.reduceBEq, Nat.reduceMul, Nat.reduceSub, Nat.reduceGT, Nat.reducePow, Nat.reduceLeDiff, Int.reduceToNat]
  replace h := bind_some1 h; obtain ⟨y_3733, hy_3734, h⟩ := h
  refine run_textE hE [1, 2, 3, 4, 5] (fr' := [(1, .bs true 0 (l_3729.length) 0 (l_3729.length)), (2, .sl false (L cU8 y_3731.1)), (3, i64 y_3731.2), (4, .sl false (L cU8 y_3733.1)), (5, i64 y_3733.2)]) (σ' := [.buf 1 (L cU8 l_3729) true]) ⟨_, orcs_ok (l := [(16, 11, [.sl false (L cU8 l_3729)], .tup [.sl false (L cU8 y_3733.1), i64 y_3733.2])]) ⟨frame_Make_con hy_3734, trivial⟩, ?_⟩ ?_
  · simp only [go_sem, reduceIte, Nat.reduceLT, Nat.reduceEqDiff, Nat.reduceAdd, Nat.reduceBEq, Nat.reduceMul, Nat.reduceSub, Nat.reduceGT, Nat.reducePow, Nat.reduceLeDiff, Int.reduceToNat]
  refine run_seq ?_
  replace h := bind_some1 h; obtain ⟨t_3735, hv_3736, h⟩ := h
  refine run_textW hE [1, 34] (fr' := [(1, .bs true 0 (l_3729.length) 0 (l_3729.length)), (34, .bool t_3735)]) (σ' := [.buf 1 (L cU8 l_3729) true]) ?_ ?_
  · rcases Bool.eq_false_or_eq_true ((y_3731.2 != 0)) with hb_3737 | hb_3737
    · replace hv_3736 := ite_t hv_3736 hb_3737
      have e_hv_3736 := Option.some.inj hv_3736; subst e_hv_3736
      exact ⟨_, [(1, .bs true 0 (l_3729.length) 0 (l_3729.length)), (34, .bool true)], [.buf 1 (L cU8 l_3729) true], orcs_nil, by simp only [go_sem, reduceIte, Nat.reduceLT, Nat.reduceEqDiff, Nat.reduceAdd, Nat.reduceBEq, Nat.reduceMul, Nat.reduceSub, Nat.reduceGT, Nat.reducePow, Nat.reduceLeDiff, Int.reduceToNat, hb_3737], (weak_sel [0] (by decide) rfl (by simp only [go_sem, reduceIte, Nat.reduceLT, Nat.reduceEqDiff, Nat.reduceAdd, Nat.reduceBEq, Nat.reduceMul, Nat.reduceSub, Nat.reduceGT, Nat.reducePow, Nat.reduceLeDiff, Int.reduceToNat]) (by simp only [go_sem, reduceIte, Nat.reduceLT, Nat.reduceEqDiff, Nat.reduceAdd, Nat.reduceBEq, Nat.reduceMul, Nat.reduceSub, Nat.reduceGT, Nat.reducePow, Nat.reduceLeDiff, Int.reduceToNat]))⟩
    · replace hv_3736 := ite_f hv_3736 hb_3737
      rcases Bool.eq_false_or_eq_true ((y_3733.2 != 0)) with hb_3738 | hb_3738
      · replace hv_3736 := ite_t hv_3736 hb_3738
        have e_hv_3736 := Option.some.inj hv_3736; subst e_hv_3736
        exact ⟨_, [(1, .bs true 0 (l_3729.length) 0 (l_3729.length)), (34, .bool true)], [.buf 1 (L cU8 l_3729) true], orcs_nil, by simp only [go_sem, reduceIte, Nat.reduceLT, Nat.reduceEqDiff, Nat.reduceAdd, Nat.reduceBEq, Nat.reduceMul, Nat.reduceSub, Nat.reduceGT, Nat.reducePow, Nat.reduceLeDiff, Int.reduceToNat, hb_3737, hb_3738], (weak_sel [0] (by decide) rfl (by simp only [go_sem, reduceIte, Nat.reduceLT, Nat.reduceEqDiff, Nat.reduceAdd, Nat.reduceBEq, Nat.reduceMul, Nat.reduceSub, Nat.reduceGT, Nat.reducePow, Nat.reduceLeDiff, Int.reduceToNat]) (by simp only [go_sem, reduceIte, Nat.reduceLT, Nat.reduceEqDiff, Nat.reduceAdd, Nat.reduceBEq, Nat.reduceMul, Nat.reduceSub, Nat.reduceGT, Nat.reducePow, Nat.reduceLeDiff, Int.reduceToNat]))⟩
      · replace hv_3736 := ite_f hv_3736 hb_3738
        rcases Bool.eq_false_or_eq_true ((!(y_3731.1 == (([126, 0, 0, 0, 0, 126] : List UInt8))))) with hb_3739 | hb_3739
        · replace hv_3736 := ite_t hv_3736 hb_3739
          have e_hv_3736 := Option.some.inj hv_3736; subst e_hv_3736
          exact ⟨_, [(1, .bs true 0 (l_3729.length) 0 (l_3729.length)), (34, .bool true)], [.buf 1 (L cU8 l_3729) true], orcs_nil, by simp only [go_sem, reduceIte, Nat.reduceLT, Nat.reduceEqDiff, Nat.reduceAdd, Nat.reduceBEq, Nat.reduceMul, Nat.reduceSub, Nat.reduceGT, Nat.reducePow, Nat.reduceLeDiff, Int.reduceToNat, hb_3737, hb_3738, hb_3739], (weak_sel [0] (by decide) rfl (by simp only [go_sem, reduceIte, Nat.reduceLT, Nat.reduceEqDiff, Nat.reduceAdd, Nat.reduceBEq, Nat.reduceMul, Nat.reduceSub, Nat.reduceGT, Nat.reducePow, Nat.reduceLeDiff, Int.reduceToNat]) (by simp only [go_sem, reduceIte, Nat.reduceLT, Nat.reduceEqDiff, Nat.reduceAdd, Nat.reduceBEq, Nat.reduceMul, Nat.reduceSub, Nat.reduceGT, Nat.reducePow, Nat.reduceLeDiff, Int.reduceToNat]))⟩
        · replace hv_3736 := ite_f hv_3736 hb_3739
          have e_hv_3736 := Option.some.inj hv_3736; subst e_hv_3736
          exact ⟨_, [(1, .bs true 0 (l_3729.length) 0 (l_3729.length)), (34, .bool ((!(y_3733.1 == (([126, 49, 50, 51, 52, 53, 54, 55, 56, 57, 203, 244, 57, 38, 126] : List UInt8))))))], [.buf 1 (L cU8 l_3729) true], orcs_nil, by simp only [go_sem, reduceIte, Nat.reduceLT, Nat.reduceEqDiff, Nat.reduceAdd, Nat.reduceBEq, Nat.reduceMul, Nat.reduceSub, Nat.reduceGT, Nat.reducePow, Nat.reduceLeDiff, Int.reduceToNat, hb_3737, hb_3738, hb_3739], (weak_sel [0] (by decide) rfl (by simp only [go_sem, reduceIte, Nat.reduceLT, Nat.reduceEqDiff, Nat.reduceAdd, Nat.reduceBEq, Nat.reduceMul, Nat.reduceSub, Nat.reduceGT, Nat.reducePow, Nat.reduceLeDiff, Int.reduceToNat]) (by simp only [go_sem, reduceIte, Nat.reduceLT, Nat.reduceEqDiff, Nat.reduceAdd, Nat.reduceBEq, Nat.reduceMul, Nat.reduceSub, Nat.reduceGT, Nat.reducePow, Nat.reduceLeDiff, Int.reduceToNat]))⟩
  refine run_condL (b := t_3735) rfl (by decide) (fun hb => ?_) (fun hb => ?_)
  · replace h := ite_t h hb
    refine run_textE hE [0] (fr' := [(0, .bool false)]) (σ' := [.buf 1 (L cU8 l_3729) true]) ⟨_, orcs_nil, ?_⟩ ?_
    · simp only [go_sem, reduceIte, Nat.reduceLT, Nat.reduceEqDiff, Nat.reduceAdd, Nat.reduceBEq, Nat.reduceMul, Nat.reduceSub, Nat.reduceGT, Nat.reducePow, Nat.reduceLeDiff, Int.reduceToNat]
    refine run_ret ?_
    refine thenK_r ?_
    obtain rfl := Option.some.inj h
    refine ret_ok (.inr rfl) ?_
    simp only [go_sem, reduceIte, Nat.reduceLT, Nat.reduceEqDiff, Nat.reduceAdd, Nat.reduceBEq, Nat.reduceMul, Nat.reduceSub, Nat.reduceGT, Nat.reducePow, Nat.reduceLeDiff, Int.reduceToNat]
  · replace h := ite_f h hb
    refine run_skip ?_
    refine thenK_n ?_
    replace h := lt1_some h; obtain ⟨l_3740, hz_3741, h⟩ := h
    refine run_textE hE [1, 6] (fr' := [(1, .bs true 0 (l_3729.length) 0 (l_3729.length)), (6, .bs true 1 (l_3740.length) 0 (l_3740.length))]) (σ' := [.buf 1 (L cU8 l_3729) true, .buf 1 (L (cSl cU8) l_3740) false]) ⟨_, orcs_nil, ?_⟩ ?_
    · subst hz_3741; simp only [go_sem, reduceIte, Nat.reduceLT, Nat.reduceEqDiff, Nat.reduceAdd, Nat.reduceBEq, Nat.reduceMul, Nat.reduceSub, Nat.reduceGT, Nat.reducePow, Nat.reduceLeDiff, Int.reduceToNat]
    replace h := lt1_some h; obtain ⟨l_3742, hz_3743, h⟩ := h
    refine run_textE hE [1, 6, 7] (fr' := [(1, .bs true 0 (l_3729.length) 0 (l_3729.length)), (6, .bs true 1 (l_3740.length) 0 (l_3740.length)), (7, .bs true 3 (l_3742.length) 0 (l_3742.length))]) (σ' := [.buf 1 (L cU8 l_3729) true, .buf 1 (L (cSl cU8) l_3740) false, .buf 1 (L cU8 (([] : List UInt8))) true, .buf 1 (L (cSl cU8) l_3742) false]) ⟨_, orcs_nil, ?_⟩ ?_
    · subst hz_3743; simp only [go_sem, reduceIte, Nat.reduceLT, Nat.reduceEqDiff, Nat.reduceAdd, Nat.reduceBEq, Nat.reduceMul, Nat.reduceSub, Nat.reduceGT, Nat.reducePow, Nat.reduceLeDiff, Int.reduceToNat]
    refine run_seq ?_
    replace h := bind_some1 h; obtain ⟨t_3746, hv_3747, h⟩ := h
    refine run_textW hE [6, 7, 44] (fr' := [(6, .bs true 0 (l_3740.length) 0 (l_3740.length)), (7, .bs true 1 (l_3742.length) 0 (l_3742.length)), (44, .bool t_3746)]) (σ' := [.buf 1 (L (cSl cU8) l_3740) false, .buf 1 (L (cSl cU8) l_3742) false]) ?_ ?_
    · replace hv_3747 := bind_some1 hv_3747; obtain ⟨y_3744, hy_3748, hv_3747⟩ := hv_3747
      rcases Bool.eq_false_or_eq_true ((y_3744 != (0 : UInt32))) with hb_3749 | hb_3749
      · replace hv_3747 := ite_t hv_3747 hb_3749
        have e_hv_3747 := Option.some.inj hv_3747; subst e_hv_3747
        exact ⟨_, [(6, .bs true 1 (l_3740.length) 0 (l_3740.length)), (7, .bs true 3 (l_3742.length) 0 (l_3742.length)), (44, .bool true)], [.buf 1 (L cU8 l_3729) true, .buf 1 (L (cSl cU8) l_3740) false, .buf 1 (L cU8 (([] : List UInt8))) true, .buf 1 (L (cSl cU8) l_3742) false], orcs_ok (l := [(38, 13, [.sl false (L cU8 ([]))], u32 y_3744)]) ⟨frame_Crc_con hy_3748, trivial⟩, by simp only [go_sem, reduceIte, Nat.reduceLT, Nat.reduceEqDiff, Nat.reduceAdd, Nat.reduceBEq, Nat.reduceMul, Nat.reduceSub, Nat.reduceGT, Nat.reducePow, Nat.reduceLeDiff, Int.reduceToNat, hb_3749], (weak_sel [1, 3] (by decide) rfl (by simp only [go_sem, reduceIte, Nat.reduceLT, Nat.reduceEqDiff, Nat.reduceAdd, Nat.reduceBEq, Nat.reduceMul, Nat.reduceSub, Nat.reduceGT, Nat.reducePow, Nat.reduceLeDiff, Int.reduceToNat]) (by simp only [go_sem, reduceIte, Nat.reduceLT, Nat.reduceEqDiff, Nat.reduceAdd, Nat.reduceBEq, Nat.reduceMul, Nat.reduceSub, Nat.reduceGT, Nat.reducePow, Nat.reduceLeDiff, Int.reduceToNat]))⟩
      · replace hv_3747 := ite_f hv_3747 hb_3749
        replace hv_3747 := bind_some1 hv_3747; obtain ⟨y_3745, hy_3750, hv_3747⟩ := hv_3747
        have e_hv_3747 := Option.some.inj hv_3747; subst e_hv_3747
        exact ⟨_, [(6, .bs true 1 (l_3740.length) 0 (l_3740.length)), (7, .bs true 3 (l_3742.length) 0 (l_3742.length)), (44, .bool ((y_3745 != (3421780262 : UInt32))))], [.buf 1 (L cU8 l_3729) true, .buf 1 (L (cSl cU8) l_3740) false, .buf 1 (L cU8 (([] : List UInt8))) true, .buf 1 (L (cSl cU8) l_3742) false], orcs_ok (l := [(38, 13, [.sl false (L cU8 ([]))], u32 y_3744), (42, 13, [.sl false (L cU8 l_3729)], u32 y_3745)]) ⟨frame_Crc_con hy_3748, frame_Crc_con hy_3750, trivial⟩, by simp only [go_sem, reduceIte, Nat.reduceLT, Nat.reduceEqDiff, Nat.reduceAdd, Nat.reduceBEq, Nat.reduceMul, Nat.reduceSub, Nat.reduceGT, Nat.reducePow, Nat.reduceLeDiff, Int.reduceToNat, hb_3749], (weak_sel [1, 3] (by decide) rfl (by simp only [go_sem, reduceIte, Nat.reduceLT, Nat.reduceEqDiff, Nat.reduceAdd, Nat.reduceBEq, Nat.reduceMul, Nat.reduceSub, Nat.reduceGT, Nat.reducePow, Nat.reduceLeDiff, Int.reduceToNat]) (by simp only [go_sem, reduceIte, Nat.reduceLT, Nat.reduceEqDiff, Nat.reduceAdd, Nat.reduceBEq, Nat.reduceMul, Nat.reduceSub, Nat.reduceGT, Nat.reducePow, Nat.reduceLeDiff, Int.reduceToNat]))⟩
    refine run_condL (b := t_3746) rfl (by decide) (fun hb => ?_) (fun hb => ?_)
    · replace h := ite_t h hb
      refine run_textE hE [0] (fr' := [(0, .bool false)]) (σ' := [.buf 1 (L (cSl cU8) l_3740) false, .buf 1 (L (cSl cU8) l_3742) false]) ⟨_, orcs_nil, ?_⟩ ?_
      · simp only [go_sem, reduceIte, Nat.reduceLT, Nat.reduceEqDiff, Nat.reduceAdd, Nat.reduceBEq, Nat.reduceMul, Nat.reduceSub, Nat.reduceGT, Nat.reducePow, Nat.reduceLeDiff, Int.reduceToNat]
      refine run_ret ?_
      refine thenK_r ?_
      obtain rfl := Option.some.inj h
      refine ret_ok (.inr rfl) ?_
      simp only [go_sem, reduceIte, Nat.reduceLT, Nat.reduceEqDiff, Nat.reduceAdd, Nat.reduceBEq, Nat.reduceMul, Nat.reduceSub, Nat.reduceGT, Nat.reducePow, Nat.reduceLeDiff, Int.reduceToNat]
    · replace h := ite_f h hb
      refine run_skip ?_
      refine thenK_n ?_
      refine run_seq ?_
      replace h := bind_some1 h; obtain ⟨t_3754, hv_3755, h⟩ := h
      refine run_textW hE [6, 63] (fr' := [(6, .bs true 0 (l_3740.length) 0 (l_3740.length)), (63, .bool t_3754)]) (σ' := [.buf 1 (L (cSl cU8) l_3740) false]) ?_ ?_
      · replace hv_3755 := bind_some1 hv_3755; obtain ⟨y_3751, hy_3756, hv_3755⟩ := hv_3755
        rcases Bool.eq_false_or_eq_true ((!y_3751)) with hb_3757 | hb_3757
        · replace hv_3755 := ite_t hv_3755 hb_3757
          have e_hv_3755 := Option.some.inj hv_3755; subst e_hv_3755
          exact ⟨_, [(6, .bs true 0 (l_3740.length) 0 (l_3740.length)), (63, .bool true)], [.buf 1 (L (cSl cU8) l_3740) false, .buf 1 (L (cSl cU8) l_3742) false, .buf 1 (L cU8 (([(126 : UInt8), (126 : UInt8), (0 : UInt8), (0 : UInt8), (0 : UInt8), (0 : UInt8), (126 : UInt8), (126 : UInt8)] : List UInt8))) false], orcs_ok (l := [(48, 19, [.sl false (L cU8 (([(126 : UInt8), (126 : UInt8), (0 : UInt8), (0 : UInt8), (0 : UInt8), (0 : UInt8), (126 : UInt8), (126 : UInt8)] : List UInt8))), .sl false (L (cSl cU8) l_3742), i64 0], .bool y_3751)]) ⟨law10_receives_con hy_3756, trivial⟩, by simp only [go_sem, reduceIte, Nat.reduceLT, Nat.reduceEqDiff, Nat.reduceAdd, Nat.reduceBEq, Nat.reduceMul, Nat.reduceSub, Nat.reduceGT, Nat.reducePow, Nat.reduceLeDiff, Int.reduceToNat, hb_3757], (weak_sel [0] (by decide) rfl (by simp only [go_sem, reduceIte, Nat.reduceLT, Nat.reduceEqDiff, Nat.reduceAdd, Nat.reduceBEq, Nat.reduceMul, Nat.reduceSub, Nat.reduceGT, Nat.reducePow, Nat.reduceLeDiff, Int.reduceToNat]) (by simp only [go_sem, reduceIte, Nat.reduceLT, Nat.reduceEqDiff, Nat.reduceAdd, Nat.reduceBEq, Nat.reduceMul, Nat.reduceSub, Nat.reduceGT, Nat.reducePow, Nat.reduceLeDiff, Int.reduceToNat]))⟩
        · replace hv_3755 := ite_f hv_3755 hb_3757
          replace hv_3755 := bind_some1 hv_3755; obtain ⟨y_3752, hy_3758, hv_3755⟩ := hv_3755
          rcases Bool.eq_false_or_eq_true ((!y_3752)) with hb_3759 | hb_3759
          · replace hv_3755 := ite_t hv_3755 hb_3759
            have e_hv_3755 := Option.some.inj hv_3755; subst e_hv_3755
            exact ⟨_, [(6, .bs true 0 (l_3740.length) 0 (l_3740.length)), (63, .bool true)], [.buf 1 (L (cSl cU8) l_3740) false, .buf 1 (L (cSl cU8) l_3742) false, .buf 1 (L cU8 (([(126 : UInt8), (126 : UInt8), (0 : UInt8), (0 : UInt8), (0 : UInt8), (0 : UInt8), (126 : UInt8), (126 : UInt8)] : List UInt8))) false, .buf 1 (L cU8 (([(0 : UInt8), (0 : UInt8), (0 : UInt8), (0 : UInt8), (126 : UInt8)] : List UInt8))) false], orcs_ok (l := [(48, 19, [.sl false (L cU8 (([(126 : UInt8), (126 : UInt8), (0 : UInt8), (0 : UInt8), (0 : UInt8), (0 : UInt8), (126 : UInt8), (126 : UInt8)] : List UInt8))), .sl false (L (cSl cU8) l_3742), i64 0], .bool y_3751), (54, 19, [.sl false (L cU8 (([(0 : UInt8), (0 : UInt8), (0 : UInt8), (0 : UInt8), (126 : UInt8)] : List UInt8))), .sl false (L (cSl cU8) l_3740), i64 0], .bool y_3752)]) ⟨law10_receives_con hy_3756, law10_receives_con hy_3758, trivial⟩, by simp only [go_sem, reduceIte, Nat.reduceLT, Nat.reduceEqDiff, Nat.reduceAdd, Nat.reduceBEq, Nat.reduceMul, Nat.reduceSub, Nat.reduceGT, Nat.reducePow, Nat.reduceLeDiff, Int.reduceToNat, hb_3757, hb_3759], (weak_sel [0] (by decide) rfl (by simp only [go_sem, reduceIte, Nat.reduceLT, Nat.reduceEqDiff, Nat.reduceAdd, Nat.reduceBEq, Nat.reduceMul, Nat.reduceSub, Nat.reduceGT, Nat.reducePow, Nat.reduceLeDiff, Int.reduceToNat]) (by simp only [go_sem, reduceIte, Nat.reduceLT, Nat.reduceEqDiff, Nat.reduceAdd, Nat.reduceBEq, Nat.reduceMul, Nat.reduceSub, Nat.reduceGT, Nat.reducePow, Nat.reduceLeDiff, Int.reduceToNat]))⟩
          · replace hv_3755 := ite_f hv_3755 hb_3759
            replace hv_3755 := bind_some1 hv_3755; obtain ⟨y_3753, hy_3760, hv_3755⟩ := hv_3755
            have e_hv_3755 := Option.some.inj hv_3755; subst e_hv_3755
            exact ⟨_, [(6, .bs true 0 (l_3740.length) 0 (l_3740.length)), (63, .bool ((!y_3753)))], [.buf 1 (L (cSl cU8) l_3740) false, .buf 1 (L (cSl cU8) l_3742) false, .buf 1 (L cU8 (([(126 : UInt8), (126 : UInt8), (0 : UInt8), (0 : UInt8), (0 : UInt8), (0 : UInt8), (126 : UInt8), (126 : UInt8)] : List UInt8))) false, .buf 1 (L cU8 (([(0 : UInt8), (0 : UInt8), (0 : UInt8), (0 : UInt8), (126 : UInt8)] : List UInt8))) false, .buf 1 (L cU8 (([(126 : UInt8), (125 : UInt8), (32 : UInt8), (0 : UInt8), (0 : UInt8), (0 : UInt8), (126 : UInt8)] : List UInt8))) false], orcs_ok (l := [(48, 19, [.sl false (L cU8 (([(126 : UInt8), (126 : UInt8), (0 : UInt8), (0 : UInt8), (0 : UInt8), (0 : UInt8), (126 : UInt8), (126 : UInt8)] : List UInt8))), .sl false (L (cSl cU8) l_3742), i64 0], .bool y_3751), (54, 19, [.sl false (L cU8 (([(0 : UInt8), (0 : UInt8), (0 : UInt8), (0 : UInt8), (126 : UInt8)] : List UInt8))), .sl false (L (cSl cU8) l_3740), i64 0], .bool y_3752), (61, 19, [.sl false (L cU8 (([(126 : UInt8), (125 : UInt8), (32 : UInt8), (0 : UInt8), (0 : UInt8), (0 : UInt8), (126 : UInt8)] : List UInt8))), .sl false (L (cSl cU8) l_3742), i64 0], .bool y_3753)]) ⟨law10_receives_con hy_3756, law10_receives_con hy_3758, law10_receives_con hy_3760, trivial⟩, by simp only [go_sem, reduceIte, Nat.reduceLT, Nat.reduceEqDiff, Nat.reduceAdd, Nat.reduceBEq, Nat.reduceMul, Nat.reduceSub, Nat.reduceGT, Nat.reducePow, Nat.reduceLeDiff, Int.reduceToNat, hb_3757, hb_3759], (weak_sel [0] (by decide) rfl (by simp only [go_sem, reduceIte, Nat.reduceLT, Nat.reduceEqDiff, Nat.reduceAdd, Nat.reduceBEq, Nat.reduceMul, Nat.reduceSub, Nat.reduceGT, Nat.reducePow, Nat.reduceLeDiff, Int.reduceToNat]) (by simp only [go_sem, reduceIte, Nat.reduceLT, Nat.reduceEqDiff, Nat.reduceAdd, Nat.reduceBEq, Nat.reduceMul, Nat.reduceSub, Nat.reduceGT, Nat.reducePow, Nat.reduceLeDiff, Int.reduceToNat]))⟩
      refine run_condL (b := t_3754) rfl (by decide) (fun hb => ?_) (fun hb => ?_)
      · replace h := ite_t h hb
        refine run_textE hE [0] (fr' := [(0, .bool false)]) (σ' := [.buf 1 (L (cSl cU8) l_3740) false]) ⟨_, orcs_nil, ?_⟩ ?_
        · simp only [go_sem, reduceIte, Nat.reduceLT, Nat.reduceEqDiff, Nat.reduceAdd, Nat.reduceBEq, Nat.reduceMul, Nat.reduceSub, Nat.reduceGT, Nat.reducePow, Nat.reduceLeDiff, Int.reduceToNat]
        refine run_ret ?_
        refine thenK_r ?_
        obtain rfl := Option.some.inj h
        refine ret_ok (.inr rfl) ?_
        simp only [go_sem, reduceIte, Nat.reduceLT, Nat.reduceEqDiff, Nat.reduceAdd, Nat.reduceBEq, Nat.reduceMul, Nat.reduceSub, Nat.reduceGT, Nat.reducePow, Nat.reduceLeDiff, Int.reduceToNat]
      · replace h := ite_f h hb
        refine run_skip ?_
        refine thenK_n ?_
        replace h := bind_some1 h; obtain ⟨t_3764, hv_3765, h⟩ := h
        refine run_textW hE [0] (fr' := [(0, .bool t_3764)]) (σ' := []) ?_ ?_
        · replace hv_3765 := bind_some1 hv_3765; obtain ⟨y_3761, hy_3766, hv_3765⟩ := hv_3765
          rcases Bool.eq_false_or_eq_true y_3761 with hb_3767 | hb_3767
          · replace hv_3765 := ite_t hv_3765 hb_3767
            replace hv_3765 := bind_some1 hv_3765; obtain ⟨y_3762, hy_3768, hv_3765⟩ := hv_3765
            rcases Bool.eq_false_or_eq_true y_3762 with hb_3769 | hb_3769
            · replace hv_3765 := ite_t hv_3765 hb_3769
              replace hv_3765 := bind_some1 hv_3765; obtain ⟨y_3763, hy_3770, hv_3765⟩ := hv_3765
              have e_hv_3765 := Option.some.inj hv_3765; subst e_hv_3765
              exact ⟨_, [(0, .bool y_3763)], [.buf 1 (L (cSl cU8) l_3740) false, .buf 1 (L cU8 (([(126 : UInt8), (1 : UInt8), (2 : UInt8), (126 : UInt8)] : List UInt8))) false, .buf 1 (L cU8 (([(126 : UInt8), (0 : UInt8), (0 : UInt8), (0 : UInt8), (125 : UInt8), (126 : UInt8)] : List UInt8))) false, .buf 1 (L cU8 (([(126 : UInt8), (0 : UInt8), (0 : UInt8), (0 : UInt8), (1 : UInt8), (126 : UInt8)] : List UInt8))) false], orcs_ok (l := [(67, 19, [.sl false (L cU8 (([(126 : UInt8), (1 : UInt8), (2 : UInt8), (126 : UInt8)] : List UInt8))), .sl false (L (cSl cU8) l_3740), i64 1], .bool y_3761), (72, 19, [.sl false (L cU8 (([(126 : UInt8), (0 : UInt8), (0 : UInt8), (0 : UInt8), (125 : UInt8), (126 : UInt8)] : List UInt8))), .sl false (L (cSl cU8) l_3740), i64 1], .bool y_3762), (78, 19, [.sl false (L cU8 (([(126 : UInt8), (0 : UInt8), (0 : UInt8), (0 : UInt8), (1 : UInt8), (126 : UInt8)] : List UInt8))), .sl false (L (cSl cU8) l_3740), i64 1], .bool y_3763)]) ⟨law10_receives_con hy_3766, law10_receives_con hy_3768, law10_receives_con hy_3770, trivial⟩, by simp only [go_sem, reduceIte, Nat.reduceLT, Nat.reduceEqDiff, Nat.reduceAdd, Nat.reduceBEq, Nat.reduceMul, Nat.reduceSub, Nat.reduceGT, Nat.reducePow, Nat.reduceLeDiff, Int.reduceToNat, hb_3767, hb_3769], (weak_sel [] (by decide) rfl (by simp only [go_sem, reduceIte, Nat.reduceLT, Nat.reduceEqDiff, Nat.reduceAdd, Nat.reduceBEq, Nat.reduceMul, Nat.reduceSub, Nat.reduceGT, Nat.reducePow, Nat.reduceLeDiff, Int.reduceToNat]) (by simp only [go_sem, reduceIte, Nat.reduceLT, Nat.reduceEqDiff, Nat.reduceAdd, Nat.reduceBEq, Nat.reduceMul, Nat.reduceSub, Nat.reduceGT, Nat.reducePow, Nat.reduceLeDiff, Int.reduceToNat]))⟩
            · replace hv_3765 := ite_f hv_3765 hb_3769
              have e_hv_3765 := Option.some.inj hv_3765; subst e_hv_3765
              exact ⟨_, [(0, .bool false)], [.buf 1 (L (cSl cU8) l_3740) false, .buf 1 (L cU8 (([(126 : UInt8), (1 : UInt8), (2 : UInt8), (126 : UInt8)] : List UInt8))) false, .buf 1 (L cU8 (([(126 : UInt8), (0 : UInt8), (0 : UInt8), (0 : UInt8), (125 : UInt8), (126 : UInt8)] : List UInt8))) false], orcs_ok (l := [(67, 19, [.sl false (L cU8 (([(126 : UInt8), (1 : UInt8), (2 : UInt8), (126 : UInt8)] : List UInt8))), .sl false (L (cSl cU8) l_3740), i64 1], .bool y_3761), (72, 19, [.sl false (L cU8 (([(126 : UInt8), (0 : UInt8), (0 : UInt8), (0 : UInt8), (125 : UInt8), (126 : UInt8)] : List UInt8))), .sl false (L (cSl cU8) l_3740), i64 1], .bool y_3762)]) ⟨law10_receives_con hy_3766, law10_receives_con hy_3768, trivial⟩, by simp only [go_sem, reduceIte, Nat.reduceLT, Nat.reduceEqDiff, Nat.reduceAdd, Nat.reduceBEq, Nat.reduceMul, Nat.reduceSub, Nat.reduceGT, Nat.reducePow, Nat.reduceLeDiff, Int.reduceToNat, hb_3767, hb_3769], (weak_sel [] (by decide) rfl (by simp only [go_sem, reduceIte, Nat.reduceLT, Nat.reduceEqDiff, Nat.reduceAdd, Nat.reduceBEq, Nat.reduceMul, Nat.reduceSub, Nat.reduceGT, Nat.reducePow, Nat.reduceLeDiff, Int.reduceToNat]) (by simp only [go_sem, reduceIte, Nat.reduceLT, Nat.reduceEqDiff, Nat.reduceAdd, Nat.reduceBEq, Nat.reduceMul, Nat.reduceSub, Nat.reduceGT, Nat.reducePow, Nat.reduceLeDiff, Int.reduceToNat]))⟩
          · replace hv_3765 := ite_f hv_3765 hb_3767
            have e_hv_3765 := Option.some.inj hv_3765; subst e_hv_3765
            exact ⟨_, [(0, .bool false)], [.buf 1 (L (cSl cU8) l_3740) false, .buf 1 (L cU8 (([(126 : UInt8), (1 : UInt8), (2 : UInt8), (126 : UInt8)] : List UInt8))) false], orcs_ok (l := [(67, 19, [.sl false (L cU8 (([(126 : UInt8), (1 : UInt8), (2 : UInt8), (126 : UInt8)] : List UInt8))), .sl false (L (cSl cU8) l_3740), i64 1], .bool y_3761)]) ⟨law10_receives_con hy_3766, trivial⟩, by simp only [go_sem, reduceIte, Nat.reduceLT, Nat.reduceEqDiff, Nat.reduceAdd, Nat.reduceBEq, Nat.reduceMul, Nat.reduceSub, Nat.reduceGT, Nat.reducePow, Nat.reduceLeDiff, Int.reduceToNat, hb_3767], (weak_sel [] (by decide) rfl (by simp only [go_sem, reduceIte, Nat.reduceLT, Nat.reduceEqDiff, Nat.reduceAdd, Nat.reduceBEq, Nat.reduceMul, Nat.reduceSub, Nat.reduceGT, Nat.reducePow, Nat.reduceLeDiff, Int.reduceToNat]) (by simp only [go_sem, reduceIte, Nat.reduceLT, Nat.reduceEqDiff, Nat.reduceAdd, Nat.reduceBEq, Nat.reduceMul, Nat.reduceSub, Nat.reduceGT, Nat.reducePow, Nat.reduceLeDiff, Int.reduceToNat]))⟩
        refine run_ret ?_
        obtain rfl := Option.some.inj h
        refine ret_ok (.inr rfl) ?_
        simp only [go_sem, reduceIte, Nat.reduceLT, Nat.reduceEqDiff, Nat.reduceAdd, Nat.reduceBEq, Nat.reduceMul, Nat.reduceSub, Nat.reduceGT, Nat.reducePow, Nat.reduceLeDiff, Int.reduceToNat]

theorem law10_FrameMatchesReference_con {b_3771 : List UInt8} {r : Bool} (h : law10_FrameMatchesReference b_3771 = some r) : Con B 3 [.sl false (L cU8 b_3771)] [] (fun r' σ' => r' = .bool r ∧ σ' = []) := by
  refine con_walk (N := 36) (rs := [.tmp 2]) ok Try.func3 rfl (by decide +kernel) rfl rfl (Nat.le_of_ble_eq_true rfl) (fun F => ?_)
  have hE := ok.env F
  unfold law10_FrameMatchesReference at h
  show Run (B.env F) 0 _ ⟨asFr 36 [(0, .sl false (L cU8 b_3771))], []⟩ _
  refine run_textE hE [0] (fr' := [(0, .sl false (L cU8 b_3771))]) (σ' := []) ⟨_, orcs_nil, ?_⟩ ?_
  · simp only [go_sem, reduceIte, Nat.reduceLT, Nat.reduceEqDiff, Nat.reduceAdd, Nat.reduceBEq, Nat.reduceMul, Nat.reduceSub, Nat.reduceGT, Nat.reducePow, Nat.reduceLeDiff, Int.reduceToNat]
  refine run_seq ?_
  replace h := bind_some1 h; obtain ⟨y_3772, hy_3773, h⟩ := h
  refine run_textE hE [0, 8] (fr' := [(0, .sl false (L cU8 b_3771)), (8, .bool ((!y_3772)))]) (σ' := []) ⟨_, orcs_ok (l := [(7, 10, [], .bool y_3772)]) ⟨law10_sane_con hy_3773, trivial⟩, ?_⟩ ?_
  · simp only [go_sem, reduceIte, Nat.reduceLT, Nat.reduceEqDiff, Nat.reduceAdd, Nat.reduceBEq, Nat.reduceMul, Nat.reduceSub, Nat.reduceGT, Nat.reducePow, Nat.reduceLeDiff, Int.reduceToNat]
  refine run_condL (b := (!y_3772)) rfl (by decide) (fun hb => ?_) (fun hb => ?_)
  · replace h := ite_t h hb
    refine run_textE hE [2] (fr' := [(2, .bool false)]) (σ' := []) ⟨_, orcs_nil, ?_⟩ ?_
    · simp only [go_sem, reduceIte, Nat.reduceLT, Nat.reduceEqDiff, Nat.reduceAdd, Nat.reduceBEq, Nat.reduceMul, Nat.reduceSub, Nat.reduceGT, Nat.reducePow, Nat.reduceLeDiff, Int.reduceToNat]
    refine run_ret ?_
    refine thenK_r ?_
    obtain rfl := Option.some.inj h
    refine ret_ok (.inr rfl) ?_
    simp only [go_sem, reduceIte, Nat.reduceLT, Nat.reduceEqDiff, Nat.reduceAdd, Nat.reduceBEq, Nat.reduceMul, Nat.reduceSub, Nat.reduceGT, Nat.reducePow, Nat.reduceLeDiff, Int.reduceToNat]
  · replace h := ite_f h hb
    refine run_skip ?_
    refine thenK_n ?_
    replace h := bind_some1 h; obtain ⟨y_3774, hy_3775, h⟩ := h
    refine run_textE hE [0, 3, 4] (fr' := [(0, .sl false (L cU8 b_3771)), (3, .sl false (L cU8 y_3774.1)), (4, i64 y_3774.2)]) (σ' := []) ⟨_, orcs_ok (l := [(11, 11, [.sl false (L cU8 b_3771)], .tup [.sl false (L cU8 y_3774.1), i64 y_3774.2])]) ⟨frame_Make_con hy_3775, trivial⟩, ?_⟩ ?_
    · simp only [go_sem, reduceIte, Nat.reduceLT, Nat.reduceEqDiff, Nat.reduceAdd, Nat.reduceBEq, Nat.reduceMul, Nat.reduceSub, Nat.reduceGT, Nat.reducePow, Nat.reduceLeDiff, Int.reduceToNat]
    replace h := bind_some1 h; obtain ⟨y_3776, hy_3777, h⟩ := h
    refine run_textE hE [0, 3, 4, 5, 6] (fr' := [(0, .sl false (L cU8 b_3771)), (3, .sl false (L cU8 y_3774.1)), (4, i64 y_3774.2), (5, .sl false (L cU8 y_3776.1)), (6, i64 y_3776.2)]) (σ' := []) ⟨_, orcs_ok (l := [(16, 12, [.sl false (L cU8 b_3771)], .tup [.sl false (L cU8 y_3776.1), i64 y_3776.2])]) ⟨r10_Make_con hy_3777, trivial⟩, ?_⟩ ?_
    · simp only [go_sem, reduceIte, Nat.reduceLT, Nat.reduceEqDiff, Nat.reduceAdd, Nat.reduceBEq, Nat.reduceMul, Nat.reduceSub, Nat.reduceGT, Nat.reducePow, Nat.reduceLeDiff, Int.reduceToNat]
    replace h := bind_some1 h; obtain ⟨t_3780, hv_3781, h⟩ := h
    refine run_textW hE [2] (fr' := [(2, .bool t_3780)]) (σ' := []) ?_ ?_
    · replace hv_3781 := bind_some1 hv_3781; obtain ⟨y_3778, hy_3782, hv_3781⟩ := hv_3781
      replace hv_3781 := bind_some1 hv_3781; obtain ⟨y_3779, hy_3783, hv_3781⟩ := hv_3781
      rcases Bool.eq_false_or_eq_true ((y_3778 == y_3779)) with hb_3784 | hb_3784
      · replace hv_3781 := ite_t hv_3781 hb_3784
        rcases Bool.eq_false_or_eq_true ((y_3774.2 == y_3776.2)) with hb_3785 | hb_3785
        · replace hv_3781 := ite_t hv_3781 hb_3785
          have e_hv_3781 := Option.some.inj hv_3781; subst e_hv_3781
          exact ⟨_, [(2, .bool ((y_3774.1 == y_3776.1)))], [], orcs_ok (l := [(20, 13, [.sl false (L cU8 b_3771)], u32 y_3778), (22, 14, [.sl false (L cU8 b_3771)], u32 y_3779)]) ⟨frame_Crc_con hy_3782, r10_Crc_con hy_3783, trivial⟩, by simp only [go_sem, reduceIte, Nat.reduceLT, Nat.reduceEqDiff, Nat.reduceAdd, Nat.reduceBEq, Nat.reduceMul, Nat.reduceSub, Nat.reduceGT, Nat.reducePow, Nat.reduceLeDiff, Int.reduceToNat, hb_3784, hb_3785], (weak_sel [] (by decide) rfl (by simp only [go_sem, reduceIte, Nat.reduceLT, Nat.reduceEqDiff, Nat.reduceAdd, Nat.reduceBEq, Nat.reduceMul, Nat.reduceSub, Nat.reduceGT, Nat.reducePow, Nat.reduceLeDiff, Int.reduceToNat]) (by simp only [go_sem, reduceIte, Nat.reduceLT, Nat.reduceEqDiff, Nat.reduceAdd, Nat.reduceBEq, Nat.reduceMul, Nat.reduceSub, Nat.reduceGT, Nat.reducePow, Nat.reduceLeDiff, Int.reduceToNat]))⟩
        · replace hv_3781 := ite_f hv_3781 hb_3785
          have e_hv_3781 := Option.some.inj hv_3781; subst e_hv_3781
          exact ⟨_, [(2, .bool false)], [], orcs_ok (l := [(20, 13, [.sl false (L cU8 b_3771)], u32 y_3778), (22, 14, [.sl false (L cU8 b_3771)], u32 y_3779)]) ⟨frame_Crc_con hy_3782, r10_Crc_con hy_3783, trivial⟩, by simp only [go_sem, reduceIte, Nat.reduceLT, Nat.reduceEqDiff, Nat.reduceAdd, Nat.reduceBEq, Nat.reduceMul, Nat.reduceSub, Nat.reduceGT, Nat.reducePow, Nat.reduceLeDiff, Int.reduceToNat, hb_3784, hb_3785], (weak_sel [] (by decide) rfl (by simp only [go_sem, reduceIte, Nat.reduceLT, Nat.reduceEqDiff, Nat.reduceAdd, Nat.reduceBEq, Nat.reduceMul, Nat.reduceSub, Nat.reduceGT, Nat.reducePow, Nat.reduceLeDiff, Int.reduceToNat]) (by simp only [go_sem, reduceIte, Nat.reduceLT, Nat.reduceEqDiff, Nat.reduceAdd, Nat.reduceBEq, Nat.reduceMul, Nat.reduceSub, Nat.reduceGT, Nat.reducePow, Nat.reduceLeDiff, Int.reduceToNat]))⟩
      · replace hv_3781 := ite_f hv_3781 hb_3784
        have e_hv_3781 := Option.some.inj hv_3781; subst e_hv_3781
        exact ⟨_, [(2, .bool false)], [], orcs_ok (l := [(20, 13, [.sl false (L cU8 b_3771)], u32 y_3778), (22, 14, [.sl false (L cU8 b_3771)], u32 y_3779)]) ⟨frame_Crc_con hy_3782, r10_Crc_con hy_3783, trivial⟩, by simp only [go_sem, reduceIte, Nat.reduceLT, Nat.reduceEqDiff, Nat.reduceAdd, Nat.reduceBEq, Nat.reduceMul, Nat.reduceSub, Nat.reduceGT, Nat.reducePow, Nat.reduceLeDiff, Int.reduceToNat, hb_3784], (weak_sel [] (by decide) rfl (by simp only [go_sem, reduceIte, Nat.reduceLT, Nat.reduceEqDiff, Nat.reduceAdd, Nat.reduceBEq, Nat.reduceMul, Nat.reduceSub, Nat.reduceGT, Nat.reducePow, Nat.reduceLeDiff, Int.reduceToNat]) (by simp only [go_sem, reduceIte, Nat.reduceLT, Nat.reduceEqDiff, Nat.reduceAdd, Nat.reduceBEq, Nat.reduceMul, Nat.reduceSub, Nat.reduceGT, Nat.reducePow, Nat.reduceLeDiff, Int.reduceToNat]))⟩
    refine run_ret ?_
    obtain rfl := Option.some.inj h
    refine ret_ok (.inr rfl) ?_
    simp only [go_sem, reduceIte, Nat.reduceLT, Nat.reduceEqDiff, Nat.reduceAdd, Nat.reduceBEq, Nat.reduceMul, Nat.reduceSub, Nat.reduceGT, Nat.reducePow, Nat.reduceLeDiff, Int.reduceToNat]

end Go.Proofs.Ytneejmndnihaoaa
