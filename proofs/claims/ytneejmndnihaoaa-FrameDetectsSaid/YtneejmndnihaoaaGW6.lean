/-
  The functions compute just that.
-/
import Derived.Test.YtneejmndnihaoaaGW5
import Derived.KernelRfl
namespace Go.Proofs.Ytneejmndnihaoaa
open Go.Rv
set_option linter.unusedVariables false
set_option linter.unusedSimpArgs false

theorem law10_receives_con {stream_3702 : List UInt8} {want_3703 : List (List UInt8)} {damaged_3704 : Int} {r : Bool} (h : law10_receives stream_3702 want_3703 damaged_3704 = some r) : Con B 19 [.sl false (L cU8 stream_3702), .sl false (L (cSl cU8) want_3703), i64 damaged_3704] [] (fun r' σ' => r' = .bool r ∧ σ' = []) := by
  refine con_walk (N := 30) (rs := [.tmp 6]) ok Try.func19 rfl (by decide +kernel) rfl rfl (Nat.le_of_ble_eq_true rfl) (fun F => ?_)
  have hE := ok.env F
  unfold law10_receives at h
  show Run (B.env F) 0 _ ⟨asFr 30 [(0, .sl false (L cU8 stream_3702)), (1, .sl false (L (cSl cU8) want_3703)), (2, i64 damaged_3704)], []⟩ _
  refine run_textE hE [0, 1, 2] (fr' := [(0, .sl false (L cU8 stream_3702)), (1, .sl false (L (cSl cU8) want_3703)), (2, i64 damaged_3704)]) (σ' := []) ⟨_, orcs_nil, ?_⟩ ?_
  · simp only [go_sem, reduceIte, Nat.reduceLT, Nat.reduceEqDiff, Nat.reduceAdd, Nat.reduceBEq, Nat.reduceMul, Nat.reduceSub, Nat.reduceGT, Nat.reducePow, Nat.reduceLeDiff, Int.reduceToNat]
  replace h := bind_some1 h; obtain ⟨y_3705, hy_3706, h⟩ := h
  refine run_textE hE [1, 2, 7, 8, 9] (fr' := [(1, .sl false (L (cSl cU8) want_3703)), (2, i64 damaged_3704), (7, .ref 0 0), (8, .sl false (L (cSl cU8) y_3705.2.1)), (9, i64 y_3705.2.2)]) (σ' := [.box [.sl false (L cU8 y_3705.1.Rest), .bool y_3705.1.In, .bool y_3705.1.Escape, .bool y_3705.1.Bad] false]) ⟨_, orcs_ok (l := [(13, 15, [.agg [.sl false (L cU8 ([])), .bool false, .bool false, .bool false], .sl false (L cU8 stream_3702)], .tup [.agg [.sl false (L cU8 y_3705.1.Rest), .bool y_3705.1.In, .bool y_3705.1.Escape, .bool y_3705.1.Bad], .sl false (L (cSl cU8) y_3705.2.1), i64 y_3705.2.2])]) ⟨frame_Feed_con hy_3706, trivial⟩, ?_⟩ ?_
  · simp only [go_sem, reduceIte, Nat.reduceLT, Nat.reduceEqDiff, Nat.reduceAdd, Nat.reduceBEq, Nat.reduceMul, Nat.reduceSub, Nat.reduceGT, Nat.reducePow, Nat.reduceLeDiff, Int.reduceToNat]
  replace h := bind_some1 h; obtain ⟨t_3709, hv_3710, h⟩ := h
  refine run_textW hE [6] (fr' := [(6, .bool t_3709)]) (σ' := []) ?_ ?_
  · replace hv_3710 := bind_some1 hv_3710; obtain ⟨y_3707, hy_3711, hv_3710⟩ := hv_3710
    rcases Bool.eq_false_or_eq_true y_3707 with hb_3712 | hb_3712
    · replace hv_3710 := ite_t hv_3710 hb_3712
      replace hv_3710 := bind_some1 hv_3710; obtain ⟨y_3708, hy_3713, hv_3710⟩ := hv_3710
      rcases Bool.eq_false_or_eq_true y_3708 with hb_3714 | hb_3714
      · replace hv_3710 := ite_t hv_3710 hb_3714
        have e_hv_3710 := Option.some.inj hv_3710; subst e_hv_3710
        exact ⟨_, [(6, .bool ((y_3705.2.2 == damaged_3704)))], [.box [.sl false (L cU8 y_3705.1.Rest), .bool y_3705.1.In, .bool y_3705.1.Escape, .bool y_3705.1.Bad] false], orcs_ok (l := [(19, 17, [.agg [.sl false (L cU8 y_3705.1.Rest), .bool y_3705.1.In, .bool y_3705.1.Escape, .bool y_3705.1.Bad], .agg [.sl false (L cU8 ([])), .bool true, .bool false, .bool false]], .bool y_3707), (23, 18, [.sl false (L (cSl cU8) y_3705.2.1), .sl false (L (cSl cU8) want_3703)], .bool y_3708)]) ⟨r10_SameState_con hy_3711, r10_Same_con hy_3713, trivial⟩, by simp only [go_sem, reduceIte, Nat.reduceLT, Nat.reduceEqDiff, Nat.reduceAdd, Nat.reduceBEq, Nat.reduceMul, Nat.reduceSub, Nat.reduceGT, Nat.reducePow, Nat.reduceLeDiff, Int.reduceToNat, hb_3712, hb_3714], (weak_sel [] (by decide) rfl (by simp only [go_sem, reduceIte, Nat.reduceLT, Nat.reduceEqDiff, Nat.reduceAdd, Nat.reduceBEq, Nat.reduceMul, Nat.reduceSub, Nat.reduceGT, Nat.reducePow, Nat.reduceLeDiff, Int.reduceToNat]) (by simp only [go_sem, reduceIte, Nat.reduceLT, Nat.reduceEqDiff, Nat.reduceAdd, Nat.reduceBEq, Nat.reduceMul, Nat.reduceSub, Nat.reduceGT, Nat.reducePow, Nat.reduceLeDiff, Int.reduceToNat]))⟩
      · replace hv_3710 := ite_f hv_3710 hb_3714
        have e_hv_3710 := Option.some.inj hv_3710; subst e_hv_3710
        exact ⟨_, [(6, .bool false)], [.box [.sl false (L cU8 y_3705.1.Rest), .bool y_3705.1.In, .bool y_3705.1.Escape, .bool y_3705.1.Bad] false], orcs_ok (l := [(19, 17, [.agg [.sl false (L cU8 y_3705.1.Rest), .bool y_3705.1.In, .bool y_3705.1.Escape, .bool y_3705.1.Bad], .agg [.sl false (L cU8 ([])), .bool true, .bool false, .bool false]], .bool y_3707), (23, 18, [.sl false (L (cSl cU8) y_3705.2.1), .sl false (L (cSl cU8) want_3703)], .bool y_3708)]) ⟨r10_SameState_con hy_3711, r10_Same_con hy_3713, trivial⟩, by simp only [go_sem, reduceIte, Nat.reduceLT, Nat.reduceEqDiff, Nat.reduceAdd, Nat.reduceBEq, Nat.reduceMul, Nat.reduceSub, Nat.reduceGT, Nat.reducePow, Nat.reduceLeDiff, Int.reduceToNat, hb_3712, hb_3714], (weak_sel [] (by decide) rfl (by simp only [go_sem, reduceIte, Nat.reduceLT, Nat.reduceEqDiff, Nat.reduceAdd, Nat.reduceBEq, Nat.reduceMul, Nat.reduceSub, Nat.reduceGT, Nat.reducePow, Nat.reduceLeDiff, Int.reduceToNat]) (by simp only [go_sem, reduceIte, Nat.reduceLT, Nat.reduceEqDiff, Nat.reduceAdd, Nat.reduceBEq, Nat.reduceMul, Nat.reduceSub, Nat.reduceGT, Nat.reducePow, Nat.reduceLeDiff, Int.reduceToNat]))⟩
    · replace hv_3710 := ite_f hv_3710 hb_3712
      have e_hv_3710 := Option.some.inj hv_3710; subst e_hv_3710
      exact ⟨_, [(6, .bool false)], [.box [.sl false (L cU8 y_3705.1.Rest), .bool y_3705.1.In, .bool y_3705.1.Escape, .bool y_3705.1.Bad] false], orcs_ok (l := [(19, 17, [.agg [.sl false (L cU8 y_3705.1.Rest), .bool y_3705.1.In, .bool y_3705.1.Escape, .bool y_3705.1.Bad], .agg [.sl false (L cU8 ([])), .bool true, .bool false, .bool false]], .bool y_3707)]) ⟨r10_SameState_con hy_3711, trivial⟩, by simp only [go_sem, reduceIte, Nat.reduceLT, Nat.reduceEqDiff, Nat.reduceAdd, Nat.reduceBEq, Nat.reduceMul, Nat.reduceSub, Nat.reduceGT, Nat.reducePow, Nat.reduceLeDiff, Int.reduceToNat, hb_3712], (weak_sel [] (by decide) rfl (by simp only [go_sem, reduceIte, Nat.reduceLT, Nat.reduceEqDiff, Nat.reduceAdd, Nat.reduceBEq, Nat.reduceMul, Nat.reduceSub, Nat.reduceGT, Nat.reducePow, Nat.reduceLeDiff, Int.reduceToNat]) (by simp only [go_sem, reduceIte, Nat.reduceLT, Nat.reduceEqDiff, Nat.reduceAdd, Nat.reduceBEq, Nat.reduceMul, Nat.reduceSub, Nat.reduceGT, Nat.reducePow, Nat.reduceLeDiff, Int.reduceToNat]))⟩
  refine run_ret ?_
  obtain rfl := Option.some.inj h
  refine ret_ok (.inr rfl) ?_
  simp only [go_sem, reduceIte, Nat.reduceLT, Nat.reduceEqDiff, Nat.reduceAdd, Nat.reduceBEq, Nat.reduceMul, Nat.reduceSub, Nat.reduceGT, Nat.reducePow, Nat.reduceLeDiff, Int.reduceToNat]

theorem law10_sane_con  {r : Bool} (h : law10_sane  = some r) : Con B 10 [] [] (fun r' σ' => r' = .bool r ∧ σ' = []) := by
  refine con_walk (N := 80) (rs := [.tmp 0]) ok Try.func10 rfl (by decide +kernel) rfl rfl (Nat.le_of_ble_eq_true rfl) (fun F => ?_)
  have hE := ok.env F
  unfold law10_sane at h
  show Run (B.env F) 0 _ ⟨asFr 80 [], []⟩ _
  refine run_textE hE [] (fr' := []) (σ' := []) ⟨_, orcs_nil, ?_⟩ ?_
  · simp only [go_sem, reduceIte, Nat.reduceLT, Nat.reduceEqDiff, Nat.reduceAdd, Nat.reduceBEq, Nat.reduceMul, Nat.reduceSub, Nat.reduceGT, Nat.reducePow, Nat.reduceLeDiff, Int.reduceToNat]
  replace h := lt1_some h; obtain ⟨l_3715, hz_3716, h⟩ := h
  refine run_textE hE [1] (fr' := [(1, .bs true 0 (l_3715.length) 0 (l_3715.length))]) (σ' := [.buf 1 (L cU8 l_3715) false]) ⟨_, orcs_nil, ?_⟩ ?_
  · subst hz_3716; simp only [go_sem, reduceIte, Nat.reduceLT, Nat.reduceEqDiff, Nat.reduceAdd, Nat.reduceBEq, Nat.reduceMul, Nat.reduceSub, Nat.reduceGT, Nat.reducePow, Nat.reduceLeDiff, Int.reduceToNat]
  replace h := bind_some1 h; obtain ⟨y_3717, hy_3718, h⟩ := h
  refine run_textE hE [1, 2, 3] (fr' := [(1, .bs true 0 (l_3715.length) 0 (l_3715.length)), (2, .sl false (L cU8 y_3717.1)), (3, i64 y_3717.2)]) (σ' := [.buf 1 (L cU8 l_3715) false]) ⟨_, orcs_ok (l := [(11, 11, [.sl false (L cU8 ([]))], .tup [.sl false (L cU8 y_3717.1), i64 y_3717.2])]) ⟨frame_Make_con hy_3718, trivial⟩, ?_⟩ ?_
  · simp only [go_sem, reduceIte, Nat.reduceLT, Nat.reduceEqDiff, Nat.reduceAdd, Nat.reduceBEq, Nat.reduceMul, Nat.reduceSub, Nat.reduceGT, Nat.reducePow, Nat.reduceLeDiff, Int.reduceToNat]
  replace h := bind_some1 h; obtain ⟨y_3719, hy_3720, h⟩ := h
  refine run_textE hE [1, 2, 3, 4, 5] (fr' := [(1, .bs true 0 (l_3715.length) 0 (l_3715.length)), (2, .sl false (L cU8 y_3717.1)), (3, i64 y_3717.2), (4, .sl false (L cU8 y_3719.1)), (5, i64 y_3719.2)]) (σ' := [.buf 1 (L cU8 l_3715) true]) ⟨_, orcs_ok (l := [(16, 11, [.sl false (L cU8 l_3715)], .tup [.sl false (L cU8 y_3719.1), i64 y_3719.2])]) ⟨frame_Make_con hy_3720, trivial⟩, ?_⟩ ?_
  · simp only [go_sem, reduceIte, Nat.reduceLT, Nat.reduceEqDiff, Nat.reduceAdd, Nat.reduceBEq, Nat.reduceMul, Nat.reduceSub, Nat.reduceGT, Nat.reducePow, Nat.reduceLeDiff, Int.reduceToNat]
  refine run_seq ?_
  replace h := bind_some1 h; obtain ⟨t_3721, hv_3722, h⟩ := h
  refine run_textW hE [1, 34] (fr' := [(1, .bs true 0 (l_3715.length) 0 (l_3715.length)), (34, .bool t_3721)]) (σ' := [.buf 1 (L cU8 l_3715) true]) ?_ ?_
  · rcases Bool.eq_false_or_eq_true ((y_3717.2 != 0)) with hb_3723 | hb_3723
    · replace hv_3722 := ite_t hv_3722 hb_3723
      have e_hv_3722 := Option.some.inj hv_3722; subst e_hv_3722
      exact ⟨_, [(1, .bs true 0 (l_3715.length) 0 (l_3715.length)), (34, .bool true)], [.buf 1 (L cU8 l_3715) true], orcs_nil, by simp only [go_sem, reduceIte, Nat.reduceLT, Nat.reduceEqDiff, Nat.reduceAdd, Nat.reduceBEq, Nat.reduceMul, Nat.reduceSub, Nat.reduceGT, Nat.reducePow, Nat.reduceLeDiff, Int.reduceToNat, hb_3723], (weak_sel [0] (by decide) rfl (by simp only [go_sem, reduceIte, Nat.reduceLT, Nat.reduceEqDiff, Nat.reduceAdd, Nat.reduceBEq, Nat.reduceMul, Nat.reduceSub, Nat.reduceGT, Nat.reducePow, Nat.reduceLeDiff, Int.reduceToNat]) (by simp only [go_sem, reduceIte, Nat.reduceLT, Nat.reduceEqDiff, Nat.reduceAdd, Nat.reduceBEq, Nat.reduceMul, Nat.reduceSub, Nat.reduceGT, Nat.reducePow, Nat.reduceLeDiff, Int.reduceToNat]))⟩
    · replace hv_3722 := ite_f hv_3722 hb_3723
      rcases Bool.eq_false_or_eq_true ((y_3719.2 != 0)) with hb_3724 | hb_3724
      · replace hv_3722 := ite_t hv_3722 hb_3724
        have e_hv_3722 := Option.some.inj hv_3722; subst e_hv_3722
        exact ⟨_, [(1, .bs true 0 (l_3715.length) 0 (l_3715.length)), (34, .bool true)], [.buf 1 (L cU8 l_3715) true], orcs_nil, by simp only [go_sem, reduceIte, Nat.reduceLT, Nat.reduceEqDiff, Nat.reduceAdd, Nat.reduceBEq, Nat.reduceMul, Nat.reduceSub, Nat.reduceGT, Nat.reducePow, Nat.reduceLeDiff, Int.reduceToNat, hb_3723, hb_3724], (weak_sel [0] (by decide) rfl (by simp only [go_sem, reduceIte, Nat.reduceLT, Nat.reduceEqDiff, Nat.reduceAdd, Nat.reduceBEq, Nat.reduceMul, Nat.reduceSub, Nat.reduceGT, Nat.reducePow, Nat.reduceLeDiff, Int.reduceToNat]) (by simp only [go_sem, reduceIte, Nat.reduceLT, Nat.reduceEqDiff, Nat.reduceAdd, Nat.reduceBEq, Nat.reduceMul, Nat.reduceSub, Nat.reduceGT, Nat.reducePow, Nat.reduceLeDiff, Int.reduceToNat]))⟩
      · replace hv_3722 := ite_f hv_3722 hb_3724
        rcases Bool.eq_false_or_eq_true ((!(y_3717.1 == (([126, 0, 0, 0, 0, 126] : List UInt8))))) with hb_3725 | hb_3725
        · replace hv_3722 := ite_t hv_3722 hb_3725
          have e_hv_3722 := Option.some.inj hv_3722; subst e_hv_3722
          exact ⟨_, [(1, .bs true 0 (l_3715.length) 0 (l_3715.length)), (34, .bool true)], [.buf 1 (L cU8 l_3715) true], orcs_nil, by simp only [go_sem, reduceIte, Nat.reduceLT, Nat.reduceEqDiff, Nat.reduceAdd, Nat.reduceBEq, Nat.reduceMul, Nat.reduceSub, Nat.reduceGT, Nat.reducePow, Nat.reduceLeDiff, Int.reduceToNat, hb_3723, hb_3724, hb_3725], (weak_sel [0] (by decide) rfl (by simp only [go_sem, reduceIte, Nat.reduceLT, Nat.reduceEqDiff, Nat.reduceAdd, Nat.reduceBEq, Nat.reduceMul, Nat.reduceSub, Nat.reduceGT, Nat.reducePow, Nat.reduceLeDiff, Int.reduceToNat]) (by simp only [go_sem, reduceIte, Nat.reduceLT, Nat.reduceEqDiff, Nat.reduceAdd, Nat.reduceBEq, Nat.reduceMul, Nat.reduceSub, Nat.reduceGT, Nat.reducePow, Nat.reduceLeDiff, Int.reduceToNat]))⟩
        · replace hv_3722 := ite_f hv_3722 hb_3725
          have e_hv_3722 := Option.some.inj hv_3722; subst e_hv_3722
          exact ⟨_, [(1, .bs true 0 (l_3715.length) 0 (l_3715.length)), (34, .bool ((!(y_3719.1 == (([126, 49, 50, 51, 52, 53, 54, 55, 56, 57, 203, 244, 57, 38, 126] : List UInt8))))))], [.buf 1 (L cU8 l_3715) true], orcs_nil, by simp only [go_sem, reduceIte, Nat.reduceLT, Nat.reduceEqDiff, Nat.reduceAdd, Nat.reduceBEq, Nat.reduceMul, Nat.reduceSub, Nat.reduceGT, Nat.reducePow, Nat.reduceLeDiff, Int.reduceToNat, hb_3723, hb_3724, hb_3725], (weak_sel [0] (by decide) rfl (by simp only [go_sem, reduceIte, Nat.reduceLT, Nat.reduceEqDiff, Nat.reduceAdd, Nat.reduceBEq, Nat.reduceMul, Nat.reduceSub, Nat.reduceGT, Nat.reducePow, Nat.reduceLeDiff, Int.reduceToNat]) (by simp only [go_sem, reduceIte, Nat.reduceLT, Nat.reduceEqDiff, Nat.reduceAdd, Nat.reduceBEq, Nat.reduceMul, Nat.reduceSub, Nat.reduceGT, Nat.reducePow, Nat.reduceLeDiff, Int.reduceToNat]))⟩
  refine run_condL (b := t_3721) rfl (by decide) (fun hb => ?_) (fun hb => ?_)
  · replace h := ite_t h hb
    refine run_textE hE [0] (fr' := [(0, .bool false)]) (σ' := [.buf 1 (L cU8 l_3715) true]) ⟨_, orcs_nil, ?_⟩ ?_
    · simp only [go_sem, reduceIte, Nat.reduceLT, Nat.reduceEqDiff, Nat.reduceAdd, Nat.reduceBEq, Nat.reduceMul, Nat.reduceSub, Nat.reduceGT, Nat.reducePow, Nat.reduceLeDiff, Int.reduceToNat]
    refine run_ret ?_
    refine thenK_r ?_
    obtain rfl := Option.some.inj h
    refine ret_ok (.inr rfl) ?_
    simp only [go_sem, reduceIte, Nat.reduceLT, Nat.reduceEqDiff, Nat.reduceAdd, Nat.reduceBEq, Nat.reduceMul, Nat.reduceSub, Nat.reduceGT, Nat.reducePow, Nat.reduceLeDiff, Int.reduceToNat]
  · replace h := ite_f h hb
    refine run_skip ?_
    refine thenK_n ?_
    replace h := lt1_some h; obtain ⟨l_3726, hz_3727, h⟩ := h
    refine run_textE hE [1, 6] (fr' := [(1, .bs true 0 (l_3715.length) 0 (l_3715.length)), (6, .bs true 1 (l_3726.length) 0 (l_3726.length))]) (σ' := [.buf 1 (L cU8 l_3715) true, .buf 1 (L (cSl cU8) l_3726) false]) ⟨_, orcs_nil, ?_⟩ ?_
    · subst hz_3727; simp only [go_sem, reduceIte, Nat.reduceLT, Nat.reduceEqDiff, Nat.reduceAdd, Nat.reduceBEq, Nat.reduceMul, Nat.reduceSub, Nat.reduceGT, Nat.reducePow, Nat.reduceLeDiff, Int.reduceToNat]
    replace h := lt1_some h; obtain ⟨l_3728, hz_3729, h⟩ := h
    refine run_textE hE [1, 6, 7] (fr' := [(1, .bs true 0 (l_3715.length) 0 (l_3715.length)), (6, .bs true 1 (l_3726.length) 0 (l_3726.length)), (7, .bs true 3 (l_3728.length) 0 (l_3728.length))]) (σ' := [.buf 1 (L cU8 l_3715) true, .buf 1 (L (cSl cU8) l_3726) false, .buf 1 (L cU8 (([] : List UInt8))) true, .buf 1 (L (cSl cU8) l_3728) false]) ⟨_, orcs_nil, ?_⟩ ?_
    · subst hz_3729; simp only [go_sem, reduceIte, Nat.reduceLT, Nat.reduceEqDiff, Nat.reduceAdd, Nat.reduceBEq, Nat.reduceMul, Nat.reduceSub, Nat.reduceGT, Nat.reducePow, Nat.reduceLeDiff, Int.reduceToNat]
    refine run_seq ?_
    replace h := bind_some1 h; obtain ⟨t_3732, hv_3733, h⟩ := h
    refine run_textW hE [6, 7, 44] (fr' := [(6, .bs true 0 (l_3726.length) 0 (l_3726.length)), (7, .bs true 1 (l_3728.length) 0 (l_3728.length)), (44, .bool t_3732)]) (σ' := [.buf 1 (L (cSl cU8) l_3726) false, .buf 1 (L (cSl cU8) l_3728) false]) ?_ ?_
    · replace hv_3733 := bind_some1 hv_3733; obtain ⟨y_3730, hy_3734, hv_3733⟩ := hv_3733
      rcases Bool.eq_false_or_eq_true ((y_3730 != (0 : UInt32))) with hb_3735 | hb_3735
      · replace hv_3733 := ite_t hv_3733 hb_3735
        have e_hv_3733 := Option.some.inj hv_3733; subst e_hv_3733
        exact ⟨_, [(6, .bs true 1 (l_3726.length) 0 (l_3726.length)), (7, .bs true 3 (l_3728.length) 0 (l_3728.length)), (44, .bool true)], [.buf 1 (L cU8 l_3715) true, .buf 1 (L (cSl cU8) l_3726) false, .buf 1 (L cU8 (([] : List UInt8))) true, .buf 1 (L (cSl cU8) l_3728) false], orcs_ok (l := [(38, 13, [.sl false (L cU8 ([]))], u32 y_3730)]) ⟨frame_Crc_con hy_3734, trivial⟩, by simp only [go_sem, reduceIte, Nat.reduceLT, Nat.reduceEqDiff, Nat.reduceAdd, Nat.reduceBEq, Nat.reduceMul, Nat.reduceSub, Nat.reduceGT, Nat.reducePow, Nat.reduceLeDiff, Int.reduceToNat, hb_3735], (weak_sel [1, 3] (by decide) rfl (by simp only [go_sem, reduceIte, Nat.reduceLT, Nat.reduceEqDiff, Nat.reduceAdd, Nat.reduceBEq, Nat.reduceMul, Nat.reduceSub, Nat.reduceGT, Nat.reducePow, Nat.reduceLeDiff, Int.reduceToNat]) (by simp only [go_sem, reduceIte, Nat.reduceLT, Nat.reduceEqDiff, Nat.reduceAdd, Nat.reduceBEq, Nat.reduceMul, Nat.reduceSub, Nat.reduceGT, Nat.reducePow, Nat.reduceLeDiff, Int.reduceToNat]))⟩
      · replace hv_3733 := ite_f hv_3733 hb_3735
        replace hv_3733 := bind_some1 hv_3733; obtain ⟨y_3731, hy_3736, hv_3733⟩ := hv_3733
        have e_hv_3733 := Option.some.inj hv_3733; subst e_hv_3733
        exact ⟨_, [(6, .bs true 1 (l_3726.length) 0 (l_3726.length)), (7, .bs true 3 (l_3728.length) 0 (l_3728.length)), (44, .bool ((y_3731 != (3421780262 : UInt32))))], [.buf 1 (L cU8 l_3715) true, .buf 1 (L (cSl cU8) l_3726) false, .buf 1 (L cU8 (([] : List UInt8))) true, .buf 1 (L (cSl cU8) l_3728) false], orcs_ok (l := [(38, 13, [.sl false (L cU8 ([]))], u32 y_3730), (42, 13, [.sl false (L cU8 l_3715)], u32 y_3731)]) ⟨frame_Crc_con hy_3734, frame_Crc_con hy_3736, trivial⟩, by simp only [go_sem, reduceIte, Nat.reduceLT, Nat.reduceEqDiff, Nat.reduceAdd, Nat.reduceBEq, Nat.reduceMul, Nat.reduceSub, Nat.reduceGT, Nat.reducePow, Nat.reduceLeDiff, Int.reduceToNat, hb_3735], (weak_sel [1, 3] (by decide) rfl (by simp only [go_sem, reduceIte, Nat.reduceLT, Nat.reduceEqDiff, Nat.reduceAdd, Nat.reduceBEq, Nat.reduceMul, Nat.reduceSub, Nat.reduceGT, Nat.reducePow, Nat.reduceLeDiff, Int.reduceToNat]) (by simp only [go_sem, reduceIte, Nat.reduceLT, Nat.reduceEqDiff, Nat.reduceAdd, Nat.reduceBEq, Nat.reduceMul, Nat.reduceSub, Nat.reduceGT, Nat.reducePow, Nat.reduceLeDiff, Int.reduceToNat]))⟩
    refine run_condL (b := t_3732) rfl (by decide) (fun hb => ?_) (fun hb => ?_)
    · replace h := ite_t h hb
      refine run_textE hE [0] (fr' := [(0, .bool false)]) (σ' := [.buf 1 (L (cSl cU8) l_3726) false, .buf 1 (L (cSl cU8) l_3728) false]) ⟨_, orcs_nil, ?_⟩ ?_
      · simp only [go_sem, reduceIte, Nat.reduceLT, Nat.reduceEqDiff, Nat.reduceAdd, Nat.reduceBEq, Nat.reduceMul, Nat.reduceSub, Nat.reduceGT, Nat.reducePow, Nat.reduceLeDiff, Int.reduceToNat]
      refine run_ret ?_
      refine thenK_r ?_
      obtain rfl := Option.some.inj h
      refine ret_ok (.inr rfl) ?_
      simp only [go_sem, reduceIte, Nat.reduceLT, Nat.reduceEqDiff, Nat.reduceAdd, Nat.reduceBEq, Nat.reduceMul, Nat.reduceSub, Nat.reduceGT, Nat.reducePow, Nat.reduceLeDiff, Int.reduceToNat]
    · replace h := ite_f h hb
      refine run_skip ?_
      refine thenK_n ?_
      refine run_seq ?_
      replace h := bind_some1 h; obtain ⟨t_3740, hv_3741, h⟩ := h
      refine run_textW hE [6, 63] (fr' := [(6, .bs true 0 (l_3726.length) 0 (l_3726.length)), (63, .bool t_3740)]) (σ' := [.buf 1 (L (cSl cU8) l_3726) false]) ?_ ?_
      · replace hv_3741 := bind_some1 hv_3741; obtain ⟨y_3737, hy_3742, hv_3741⟩ := hv_3741
        rcases Bool.eq_false_or_eq_true ((!y_3737)) with hb_3743 | hb_3743
        · replace hv_3741 := ite_t hv_3741 hb_3743
          have e_hv_3741 := Option.some.inj hv_3741; subst e_hv_3741
          exact ⟨_, [(6, .bs true 0 (l_3726.length) 0 (l_3726.length)), (63, .bool true)], [.buf 1 (L (cSl cU8) l_3726) false, .buf 1 (L (cSl cU8) l_3728) false, .buf 1 (L cU8 (([(126 : UInt8), (126 : UInt8), (0 : UInt8), (0 : UInt8), (0 : UInt8), (0 : UInt8), (126 : UInt8), (126 : UInt8)] : List UInt8))) false], orcs_ok (l := [(48, 19, [.sl false (L cU8 (([(126 : UInt8), (126 : UInt8), (0 : UInt8), (0 : UInt8), (0 : UInt8), (0 : UInt8), (126 : UInt8), (126 : UInt8)] : List UInt8))), .sl false (L (cSl cU8) l_3728), i64 0], .bool y_3737)]) ⟨law10_receives_con hy_3742, trivial⟩, by simp only [go_sem, reduceIte, Nat.reduceLT, Nat.reduceEqDiff, Nat.reduceAdd, Nat.reduceBEq, Nat.reduceMul, Nat.reduceSub, Nat.reduceGT, Nat.reducePow, Nat.reduceLeDiff, Int.reduceToNat, hb_3743], (weak_sel [0] (by decide) rfl (by simp only [go_sem, reduceIte, Nat.reduceLT, Nat.reduceEqDiff, Nat.reduceAdd, Nat.reduceBEq, Nat.reduceMul, Nat.reduceSub, Nat.reduceGT, Nat.reducePow, Nat.reduceLeDiff, Int.reduceToNat]) (by simp only [go_sem, reduceIte, Nat.reduceLT, Nat.reduceEqDiff, Nat.reduceAdd, Nat.reduceBEq, Nat.reduceMul, Nat.reduceSub, Nat.reduceGT, Nat.reducePow, Nat.reduceLeDiff, Int.reduceToNat]))⟩
        · replace hv_3741 := ite_f hv_3741 hb_3743
          replace hv_3741 := bind_some1 hv_3741; obtain ⟨y_3738, hy_3744, hv_3741⟩ := hv_3741
          rcases Bool.eq_false_or_eq_true ((!y_3738)) with hb_3745 | hb_3745
          · replace hv_3741 := ite_t hv_3741 hb_3745
            have e_hv_3741 := Option.some.inj hv_3741; subst e_hv_3741
            exact ⟨_, [(6, .bs true 0 (l_3726.length) 0 (l_3726.length)), (63, .bool true)], [.buf 1 (L (cSl cU8) l_3726) false, .buf 1 (L (cSl cU8) l_3728) false, .buf 1 (L cU8 (([(126 : UInt8), (126 : UInt8), (0 : UInt8), (0 : UInt8), (0 : UInt8), (0 : UInt8), (126 : UInt8), (126 : UInt8)] : List UInt8))) false, .buf 1 (L cU8 (([(0 : UInt8), (0 : UInt8), (0 : UInt8), (0 : UInt8), (126 : UInt8)] : List UInt8))) false], orcs_ok (l := [(48, 19, [.sl false (L cU8 (([(126 : UInt8), (126 : UInt8), (0 : UInt8), (0 : UInt8), (0 : UInt8), (0 : UInt8), (126 : UInt8), (126 : UInt8)] : List UInt8))), .sl false (L (cSl cU8) l_3728), i64 0], .bool y_3737), (54, 19, [.sl false (L cU8 (([(0 : UInt8), (0 : UInt8), (0 : UInt8), (0 : UInt8), (126 : UInt8)] : List UInt8))), .sl false (L (cSl cU8) l_3726), i64 0], .bool y_3738)]) ⟨law10_receives_con hy_3742, law10_receives_con hy_3744, trivial⟩, by simp only [go_sem, reduceIte, Nat.reduceLT, Nat.reduceEqDiff, Nat.reduceAdd, Nat.reduceBEq, Nat.reduceMul, Nat.reduceSub, Nat.reduceGT, Nat.reducePow, Nat.reduceLeDiff, Int.reduceToNat, hb_3743, hb_3745], (weak_sel [0] (by decide) rfl (by simp only [go_sem, reduceIte, Nat.reduceLT, Nat.reduceEqDiff, Nat.reduceAdd, Nat.reduceBEq, Nat.reduceMul, Nat.reduceSub, Nat.reduceGT, Nat.reducePow, Nat.reduceLeDiff, Int.reduceToNat]) (by simp only [go_sem, reduceIte, Nat.reduceLT, Nat.reduceEqDiff, Nat.reduceAdd, Nat.reduceBEq, Nat.reduceMul, Nat.reduceSub, Nat.reduceGT, Nat.reducePow, Nat.reduceLeDiff, Int.reduceToNat]))⟩
          · replace hv_3741 := ite_f hv_3741 hb_3745
            replace hv_3741 := bind_some1 hv_3741; obtain ⟨y_3739, hy_3746, hv_3741⟩ := hv_3741
            have e_hv_3741 := Option.some.inj hv_3741; subst e_hv_3741
            exact ⟨_, [(6, .bs true 0 (l_3726.length) 0 (l_3726.length)), (63, .bool ((!y_3739)))], [.buf 1 (L (cSl cU8) l_3726) false, .buf 1 (L (cSl cU8) l_3728) false, .buf 1 (L cU8 (([(126 : UInt8), (126 : UInt8), (0 : UInt8), (0 : UInt8), (0 : UInt8), (0 : UInt8), (126 : UInt8), (126 : UInt8)] : List UInt8))) false, .buf 1 (L cU8 (([(0 : UInt8), (0 : UInt8), (0 : UInt8), (0 : UInt8), (126 : UInt8)] : List UInt8))) false, .buf 1 (L cU8 (([(126 : UInt8), (125 : UInt8), (32 : UInt8), (0 : UInt8), (0 : UInt8), (0 : UInt8), (126 : UInt8)] : List UInt8))) false], orcs_ok (l := [(48, 19, [.sl false (L cU8 (([(126 : UInt8), (126 : UInt8), (0 : UInt8), (0 : UInt8), (0 : UInt8), (0 : UInt8), (126 : UInt8), (126 : UInt8)] : List UInt8))), .sl false (L (cSl cU8) l_3728), i64 0], .bool y_3737), (54, 19, [.sl false (L cU8 (([(0 : UInt8), (0 : UInt8), (0 : UInt8), (0 : UInt8), (126 : UInt8)] : List UInt8))), .sl false (L (cSl cU8) l_3726), i64 0], .bool y_3738), (61, 19, [.sl false (L cU8 (([(126 : UInt8), (125 : UInt8), (32 : UInt8), (0 : UInt8), (0 : UInt8), (0 : UInt8), (126 : UInt8)] : List UInt8))), .sl false (L (cSl cU8) l_3728), i64 0], .bool y_3739)]) ⟨law10_receives_con hy_3742, law10_receives_con hy_3744, law10_receives_con hy_3746, trivial⟩, by simp only [go_sem, reduceIte, Nat.reduceLT, Nat.reduceEqDiff, Nat.reduceAdd, Nat.reduceBEq, Nat.reduceMul, Nat.reduceSub, Nat.reduceGT, Nat.reducePow, Nat.reduceLeDiff, Int.reduceToNat, hb_3743, hb_3745], (weak_sel [0] (by decide) rfl (by simp only [go_sem, reduceIte, Nat.reduceLT, Nat.reduceEqDiff, Nat.reduceAdd, Nat.reduceBEq, Nat.reduceMul, Nat.reduceSub, Nat.reduceGT, Nat.reducePow, Nat.reduceLeDiff, Int.reduceToNat]) (by simp only [go_sem, reduceIte, Nat.reduceLT, Nat.reduceEqDiff, Nat.reduceAdd, Nat.reduceBEq, Nat.reduceMul, Nat.reduceSub, Nat.reduceGT, Nat.reducePow, Nat.reduceLeDiff, Int.reduceToNat]))⟩
      refine run_condL (b := t_3740) rfl (by decide) (fun hb => ?_) (fun hb => ?_)
      · replace h := ite_t h hb
        refine run_textE hE [0] (fr' := [(0, .bool false)]) (σ' := [.buf 1 (L (cSl cU8) l_3726) false]) ⟨_, orcs_nil, ?_⟩ ?_
        · simp only [go_sem, reduceIte, Nat.reduceLT, Nat.reduceEqDiff, Nat.reduceAdd, Nat.reduceBEq, Nat.reduceMul, Nat.reduceSub, Nat.reduceGT, Nat.reducePow, Nat.reduceLeDiff, Int.reduceToNat]
        refine run_ret ?_
        refine thenK_r ?_
        obtain rfl := Option.some.inj h
        refine ret_ok (.inr rfl) ?_
        simp only [go_sem, reduceIte, Nat.reduceLT, Nat.reduceEqDiff, Nat.reduceAdd, Nat.reduceBEq, Nat.reduceMul, Nat.reduceSub, Nat.reduceGT, Nat.reducePow, Nat.reduceLeDiff, Int.reduceToNat]
      · replace h := ite_f h hb
        refine run_skip ?_
        refine thenK_n ?_
        replace h := bind_some1 h; obtain ⟨t_3750, hv_3751, h⟩ := h
        refine run_textW hE [0] (fr' := [(0, .bool t_3750)]) (σ' := []) ?_ ?_
        · replace hv_3751 := bind_some1 hv_3751; obtain ⟨y_3747, hy_3752, hv_3751⟩ := hv_3751
          rcases Bool.eq_false_or_eq_true y_3747 with hb_3753 | hb_3753
          · replace hv_3751 := ite_t hv_3751 hb_3753
            replace hv_3751 := bind_some1 hv_3751; obtain ⟨y_3748, hy_3754, hv_3751⟩ := hv_3751
            rcases Bool.eq_false_or_eq_true y_3748 with hb_3755 | hb_3755
            · replace hv_3751 := ite_t hv_3751 hb_3755
              replace hv_3751 := bind_some1 hv_3751; obtain ⟨y_3749, hy_3756, hv_3751⟩ := hv_3751
              have e_hv_3751 := Option.some.inj hv_3751; subst e_hv_3751
              exact ⟨_, [(0, .bool y_3749)], [.buf 1 (L (cSl cU8) l_3726) false, .buf 1 (L cU8 (([(126 : UInt8), (1 : UInt8), (2 : UInt8), (126 : UInt8)] : List UInt8))) false, .buf 1 (L cU8 (([(126 : UInt8), (0 : UInt8), (0 : UInt8), (0 : UInt8), (125 : UInt8), (126 : UInt8)] : List UInt8))) false, .buf 1 (L cU8 (([(126 : UInt8), (0 : UInt8), (0 : UInt8), (0 : UInt8), (1 : UInt8), (126 : UInt8)] : List UInt8))) false], orcs_ok (l := [(67, 19, [.sl false (L cU8 (([(126 : UInt8), (1 : UInt8), (2 : UInt8), (126 : UInt8)] : List UInt8))), .sl false (L (cSl cU8) l_3726), i64 1], .bool y_3747), (72, 19, [.sl false (L cU8 (([(126 : UInt8), (0 : UInt8), (0 : UInt8), (0 : UInt8), (125 : UInt8), (126 : UInt8)] : List UInt8))), .sl false (L (cSl cU8) l_3726), i64 1], .bool y_3748), (78, 19, [.sl false (L cU8 (([(126 : UInt8), (0 : UInt8), (0 : UInt8), (0 : UInt8), (1 : UInt8), (126 : UInt8)] : List UInt8))), .sl false (L (cSl cU8) l_3726), i64 1], .bool y_3749)]) ⟨law10_receives_con hy_3752, law10_receives_con hy_3754, law10_receives_con hy_3756, trivial⟩, by simp only [go_sem, reduceIte, Nat.reduceLT, Nat.reduceEqDiff, Nat.reduceAdd, Nat.reduceBEq, Nat.reduceMul, Nat.reduceSub, Nat.reduceGT, Nat.reducePow, Nat.reduceLeDiff, Int.reduceToNat, hb_3753, hb_3755], (weak_sel [] (by decide) rfl (by simp only [go_sem, reduceIte, Nat.reduceLT, Nat.reduceEqDiff, Nat.reduceAdd, Nat.reduceBEq, Nat.reduceMul, Nat.reduceSub, Nat.reduceGT, Nat.reducePow, Nat.reduceLeDiff, Int.reduceToNat]) (by simp only [go_sem, reduceIte, Nat.reduceLT, Nat.reduceEqDiff, Nat.reduceAdd, Nat.reduceBEq, Nat.reduceMul, Nat.reduceSub, Nat.reduceGT, Nat.reducePow, Nat.reduceLeDiff, Int.reduceToNat]))⟩
            · replace hv_3751 := ite_f hv_3751 hb_3755
              have e_hv_3751 := Option.some.inj hv_3751; subst e_hv_3751
              exact ⟨_, [(0, .bool false)], [.buf 1 (L (cSl cU8) l_3726) false, .buf 1 (L cU8 (([(126 : UInt8), (1 : UInt8), (2 : UInt8), (126 : UInt8)] : List UInt8))) false, .buf 1 (L cU8 (([(126 : UInt8), (0 : UInt8), (0 : UInt8), (0 : UInt8), (125 : UInt8), (126 : UInt8)] : List UInt8))) false], orcs_ok (l := [(67, 19, [.sl false (L cU8 (([(126 : UInt8), (1 : UInt8), (2 : UInt8), (126 : UInt8)] : List UInt8))), .sl false (L (cSl cU8) l_3726), i64 1], .bool y_3747), (72, 19, [.sl false (L cU8 (([(126 : UInt8), (0 : UInt8), (0 : UInt8), (0 : UInt8), (125 : UInt8), (126 : UInt8)] : List UInt8))), .sl false (L (cSl cU8) l_3726), i64 1], .bool y_3748)]) ⟨law10_receives_con hy_3752, law10_receives_con hy_3754, trivial⟩, by simp only [go_sem, reduceIte, Nat.reduceLT, Nat.reduceEqDiff, Nat.reduceAdd, Nat.reduceBEq, Nat.reduceMul, Nat.reduceSub, Nat.reduceGT, Nat.reducePow, Nat.reduceLeDiff, Int.reduceToNat, hb_3753, hb_3755], (weak_sel [] (by decide) rfl (by simp only [go_sem, reduceIte, Nat.reduceLT, Nat.reduceEqDiff, Nat.reduceAdd, Nat.reduceBEq, Nat.reduceMul, Nat.reduceSub, Nat.reduceGT, Nat.reducePow, Nat.reduceLeDiff, Int.reduceToNat]) (by simp only [go_sem, reduceIte, Nat.reduceLT, Nat.reduceEqDiff, Nat.reduceAdd, Nat.reduceBEq, Nat.reduceMul, Nat.reduceSub, Nat.reduceGT, Nat.reducePow, Nat.reduceLeDiff, Int.reduceToNat]))⟩
          · replace hv_3751 := ite_f hv_3751 hb_3753
            have e_hv_3751 := Option.some.inj hv_3751; subst e_hv_3751
            exact ⟨_, [(0, .bool false)], [.buf 1 (L (cSl cU8) l_3726) false, .buf 1 (L cU8 (([(126 : UInt8), (1 : UInt8), (2 : UInt8), (126 : UInt8)] : List UInt8))) false], orcs_ok (l := [(67, 19, [.sl false (L cU8 (([(126 : UInt8), (1 : UInt8), (2 : UInt8), (126 : UInt8)] : List UInt8))), .sl false (L (cSl cU8) l_3726), i64 1], .bool y_3747)]) ⟨law10_receives_con hy_3752, trivial⟩, by simp only [go_sem, reduceIte, Nat.reduceLT, Nat.reduceEqDiff, Nat.reduceAdd, Nat.reduceBEq, Nat.reduceMul, Nat.reduceSub, Nat.reduceGT, Nat.reducePow, Nat.reduceLeDiff, Int.reduceToNat, hb_3753], (weak_sel [] (by decide) rfl (by simp only [go_sem, reduceIte, Nat.reduceLT, Nat.reduceEqDiff, Nat.reduceAdd, Nat.reduceBEq, Nat.reduceMul, Nat.reduceSub, Nat.reduceGT, Nat.reducePow, Nat.reduceLeDiff, Int.reduceToNat]) (by simp only [go_sem, reduceIte, Nat.reduceLT, Nat.reduceEqDiff, Nat.reduceAdd, Nat.reduceBEq, Nat.reduceMul, Nat.reduceSub, Nat.reduceGT, Nat.reducePow, Nat.reduceLeDiff, Int.reduceToNat]))⟩
        refine run_ret ?_
        obtain rfl := Option.some.inj h
        refine ret_ok (.inr rfl) ?_
        simp only [go_sem, reduceIte, Nat.reduceLT, Nat.reduceEqDiff, Nat.reduceAdd, Nat.reduceBEq, Nat.reduceMul, Nat.reduceSub, Nat.reduceGT, Nat.reducePow, Nat.reduceLeDiff, Int.reduceToNat]

theorem law10_FrameMatchesReference_con {b_3757 : List UInt8} {r : Bool} (h : law10_FrameMatchesReference b_3757 = some r) : Con B 3 [.sl false (L cU8 b_3757)] [] (fun r' σ' => r' = .bool r ∧ σ' = []) := by
  refine con_walk (N := 36) (rs := [.tmp 2]) ok Try.func3 rfl (by decide +kernel) rfl rfl (Nat.le_of_ble_eq_true rfl) (fun F => ?_)
  have hE := ok.env F
  unfold law10_FrameMatchesReference at h
  show Run (B.env F) 0 _ ⟨asFr 36 [(0, .sl false (L cU8 b_3757))], []⟩ _
  refine run_textE hE [0] (fr' := [(0, .sl false (L cU8 b_3757))]) (σ' := []) ⟨_, orcs_nil, ?_⟩ ?_
  · simp only [go_sem, reduceIte, Nat.reduceLT, Nat.reduceEqDiff, Nat.reduceAdd, Nat.reduceBEq, Nat.reduceMul, Nat.reduceSub, Nat.reduceGT, Nat.reducePow, Nat.reduceLeDiff, Int.reduceToNat]
  refine run_seq ?_
  replace h := bind_some1 h; obtain ⟨y_3758, hy_3759, h⟩ := h
  refine run_textE hE [0, 8] (fr' := [(0, .sl false (L cU8 b_3757)), (8, .bool ((!y_3758)))]) (σ' := []) ⟨_, orcs_ok (l := [(7, 10, [], .bool y_3758)]) ⟨law10_sane_con hy_3759, trivial⟩, ?_⟩ ?_
  · simp only [go_sem, reduceIte, Nat.reduceLT, Nat.reduceEqDiff, Nat.reduceAdd, Nat.reduceBEq, Nat.reduceMul, Nat.reduceSub, Nat.reduceGT, Nat.reducePow, Nat.reduceLeDiff, Int.reduceToNat]
  refine run_condL (b := (!y_3758)) rfl (by decide) (fun hb => ?_) (fun hb => ?_)
  · replace h := ite_t h hb
    refine run_textE hE [2] (fr' := [(2, .bool false)]) (σ' := []) ⟨_, orcs_nil, ?_⟩ ?_
    · simp only [go_sem, reduceIte, Nat.reduceLT, Nat.reduceEqDiff, Nat.reduceAdd, Nat.reduceBEq, Nat.reduceMul, Nat.reduceSub, Nat.reduceGT, Nat.reducePow, Nat.reduceLeDiff, Int.reduceToNat]
    refine run_ret ?_
    refine thenK_r ?_
    obtain rfl := Option.some.inj h
    refine ret_ok (.inr rfl) ?_
    simp only [go_sem, reduceIte, Nat.reduceLT, Nat.reduceEqDiff, Nat.reduceAdd, Nat.reduceBEq, Nat.reduceMul, Nat.reduceSub, Nat.reduceGT, Nat.reducePow, Nat.reduceLeDiff, Int.reduceToNat]
  · replace h := ite_f h hb
    refine run_skip ?_
    refine thenK_n ?_
    replace h := bind_some1 h; obtain ⟨y_3760, hy_3761, h⟩ := h
    refine run_textE hE [0, 3, 4] (fr' := [(0, .sl false (L cU8 b_3757)), (3, .sl false (L cU8 y_3760.1)), (4, i64 y_3760.2)]) (σ' := []) ⟨_, orcs_ok (l := [(11, 11, [.sl false (L cU8 b_3757)], .tup [.sl false (L cU8 y_3760.1), i64 y_3760.2])]) ⟨frame_Make_con hy_3761, trivial⟩, ?_⟩ ?_
    · simp only [go_sem, reduceIte, Nat.reduceLT, Nat.reduceEqDiff, Nat.reduceAdd, Nat.reduceBEq, Nat.reduceMul, Nat.reduceSub, Nat.reduceGT, Nat.reducePow, Nat.reduceLeDiff, Int.reduceToNat]
    replace h := bind_some1 h; obtain ⟨y_3762, hy_3763, h⟩ := h
    refine run_textE hE [0, 3, 4, 5, 6] (fr' := [(0, .sl false (L cU8 b_3757)), (3, .sl false (L cU8 y_3760.1)), (4, i64 y_3760.2), (5, .sl false (L cU8 y_3762.1)), (6, i64 y_3762.2)]) (σ' := []) ⟨_, orcs_ok (l := [(16, 12, [.sl false (L cU8 b_3757)], .tup [.sl false (L cU8 y_3762.1), i64 y_3762.2])]) ⟨r10_Make_con hy_3763, trivial⟩, ?_⟩ ?_
    · simp only [go_sem, reduceIte, Nat.reduceLT, Nat.reduceEqDiff, Nat.reduceAdd, Nat.reduceBEq, Nat.reduceMul, Nat.reduceSub, Nat.reduceGT, Nat.reducePow, Nat.reduceLeDiff, Int.reduceToNat]
    replace h := bind_some1 h; obtain ⟨t_3766, hv_3767, h⟩ := h
    refine run_textW hE [2] (fr' := [(2, .bool t_3766)]) (σ' := []) ?_ ?_
    · replace hv_3767 := bind_some1 hv_3767; obtain ⟨y_3764, hy_3768, hv_3767⟩ := hv_3767
      replace hv_3767 := bind_some1 hv_3767; obtain ⟨y_3765, hy_3769, hv_3767⟩ := hv_3767
      rcases Bool.eq_false_or_eq_true ((y_3764 == y_3765)) with hb_3770 | hb_3770
      · replace hv_3767 := ite_t hv_3767 hb_3770
        rcases Bool.eq_false_or_eq_true ((y_3760.2 == y_3762.2)) with hb_3771 | hb_3771
        · replace hv_3767 := ite_t hv_3767 hb_3771
          have e_hv_3767 := Option.some.inj hv_3767; subst e_hv_3767
          exact ⟨_, [(2, .bool ((y_3760.1 == y_3762.1)))], [], orcs_ok (l := [(20, 13, [.sl false (L cU8 b_3757)], u32 y_3764), (22, 14, [.sl false (L cU8 b_3757)], u32 y_3765)]) ⟨frame_Crc_con hy_3768, r10_Crc_con hy_3769, trivial⟩, by simp only [go_sem, reduceIte, Nat.reduceLT, Nat.reduceEqDiff, Nat.reduceAdd, Nat.reduceBEq, Nat.reduceMul, Nat.reduceSub, Nat.reduceGT, Nat.reducePow, Nat.reduceLeDiff, Int.reduceToNat, hb_3770, hb_3771], (weak_sel [] (by decide) rfl (by simp only [go_sem, reduceIte, Nat.reduceLT, Nat.reduceEqDiff, Nat.reduceAdd, Nat.reduceBEq, Nat.reduceMul, Nat.reduceSub, Nat.reduceGT, Nat.reducePow, Nat.reduceLeDiff, Int.reduceToNat]) (by simp only [go_sem, reduceIte, Nat.reduceLT, Nat.reduceEqDiff, Nat.reduceAdd, Nat.reduceBEq, Nat.reduceMul, Nat.reduceSub, Nat.reduceGT, Nat.reducePow, Nat.reduceLeDiff, Int.reduceToNat]))⟩
        · replace hv_3767 := ite_f hv_3767 hb_3771
          have e_hv_3767 := Option.some.inj hv_3767; subst e_hv_3767
          exact ⟨_, [(2, .bool false)], [], orcs_ok (l := [(20, 13, [.sl false (L cU8 b_3757)], u32 y_3764), (22, 14, [.sl false (L cU8 b_3757)], u32 y_3765)]) ⟨frame_Crc_con hy_3768, r10_Crc_con hy_3769, trivial⟩, by simp only [go_sem, reduceIte, Nat.reduceLT, Nat.reduceEqDiff, Nat.reduceAdd, Nat.reduceBEq, Nat.reduceMul, Nat.reduceSub, Nat.reduceGT, Nat.reducePow, Nat.reduceLeDiff, Int.reduceToNat, hb_3770, hb_3771], (weak_sel [] (by decide) rfl (by simp only [go_sem, reduceIte, Nat.reduceLT, Nat.reduceEqDiff, Nat.reduceAdd, Nat.reduceBEq, Nat.reduceMul, Nat.reduceSub, Nat.reduceGT, Nat.reducePow, Nat.reduceLeDiff, Int.reduceToNat]) (by simp only [go_sem, reduceIte, Nat.reduceLT, Nat.reduceEqDiff, Nat.reduceAdd, Nat.reduceBEq, Nat.reduceMul, Nat.reduceSub, Nat.reduceGT, Nat.reducePow, Nat.reduceLeDiff, Int.reduceToNat]))⟩
      · replace hv_3767 := ite_f hv_3767 hb_3770
        have e_hv_3767 := Option.some.inj hv_3767; subst e_hv_3767
        exact ⟨_, [(2, .bool false)], [], orcs_ok (l := [(20, 13, [.sl false (L cU8 b_3757)], u32 y_3764), (22, 14, [.sl false (L cU8 b_3757)], u32 y_3765)]) ⟨frame_Crc_con hy_3768, r10_Crc_con hy_3769, trivial⟩, by simp only [go_sem, reduceIte, Nat.reduceLT, Nat.reduceEqDiff, Nat.reduceAdd, Nat.reduceBEq, Nat.reduceMul, Nat.reduceSub, Nat.reduceGT, Nat.reducePow, Nat.reduceLeDiff, Int.reduceToNat, hb_3770], (weak_sel [] (by decide) rfl (by simp only [go_sem, reduceIte, Nat.reduceLT, Nat.reduceEqDiff, Nat.reduceAdd, Nat.reduceBEq, Nat.reduceMul, Nat.reduceSub, Nat.reduceGT, Nat.reducePow, Nat.reduceLeDiff, Int.reduceToNat]) (by simp only [go_sem, reduceIte, Nat.reduceLT, Nat.reduceEqDiff, Nat.reduceAdd, Nat.reduceBEq, Nat.reduceMul, Nat.reduceSub, Nat.reduceGT, Nat.reducePow, Nat.reduceLeDiff, Int.reduceToNat]))⟩
    refine run_ret ?_
    obtain rfl := Option.some.inj h
    refine ret_ok (.inr rfl) ?_
    simp only [go_sem, reduceIte, Nat.reduceLT, Nat.reduceEqDiff, Nat.reduceAdd, Nat.reduceBEq, Nat.reduceMul, Nat.reduceSub, Nat.reduceGT, Nat.reducePow, Nat.reduceLeDiff, Int.reduceToNat]

end Go.Proofs.Ytneejmndnihaoaa
