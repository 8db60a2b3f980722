/-
  The functions compute just that.
-/
import Derived.Test.YtneejmndnihaoaaGW5
import Derived.KernelRfl
namespace Go.Proofs.Ytneejmndnihaoaa
open Go.Rv
set_option linter.unusedVariables false
set_option linter.unusedSimpArgs false

theorem law10_receives_con {stream_3694 : List UInt8} {want_3695 : List (List UInt8)} {damaged_3696 : Int} {r : Bool} (h : law10_receives stream_3694 want_3695 damaged_3696 = some r) : Con B 19 [.sl false (L cU8 stream_3694), .sl false (L (cSl cU8) want_3695), i64 damaged_3696] [] (fun r' σ' => r' = .bool r ∧ σ' = []) := by
  refine con_walk (N := 30) (rs := [.tmp 6]) ok Try.func19 rfl (by decide +kernel) rfl rfl (Nat.le_of_ble_eq_true rfl) (fun F => ?_)
  have hE := ok.env F
  unfold law10_receives at h
  show Run (B.env F) 0 _ ⟨asFr 30 [(0, .sl false (L cU8 stream_3694)), (1, .sl false (L (cSl cU8) want_3695)), (2, i64 damaged_3696)], []⟩ _
  refine run_textE hE [0, 1, 2] (fr' := [(0, .sl false (L cU8 stream_3694)), (1, .sl false (L (cSl cU8) want_3695)), (2, i64 damaged_3696)]) (σ' := []) ⟨_, orcs_nil, ?_⟩ ?_
  · simp only [go_sem, reduceIte, Nat.reduceLT, Nat.reduceEqDiff, Nat.reduceAdd, Nat.reduceBEq, Nat.reduceMul, Nat.reduceSub, Nat.reduceGT, Nat.reducePow, Nat.reduceLeDiff, Int.reduceToNat]
  replace h := bind_some1 h; obtain ⟨y_3697, hy_3698, h⟩ := h
  refine run_textE hE [1, 2, 7, 8, 9] (fr' := [(1, .sl false (L (cSl cU8) want_3695)), (2, i64 damaged_3696), (7, .ref 0 0), (8, .sl false (L (cSl cU8) y_3697.2.1)), (9, i64 y_3697.2.2)]) (σ' := [.box [.sl false (L cU8 y_3697.1.Rest), .bool y_3697.1.In, .bool y_3697.1.Escape, .bool y_3697.1.Bad] false]) ⟨_, orcs_ok (l := [(13, 15, [.agg [.sl false (L cU8 ([])), .bool false, .bool false, .bool false], .sl false (L cU8 stream_3694)], .tup [.agg [.sl false (L cU8 y_3697.1.Rest), .bool y_3697.1.In, .bool y_3697.1.Escape, .bool y_3697.1.Bad], .sl false (L (cSl cU8) y_3697.2.1), i64 y_3697.2.2])]) ⟨frame_Feed_con hy_3698, trivial⟩, ?_⟩ ?_
  · simp only [go_sem, reduceIte, Nat.reduceLT, Nat.reduceEqDiff, Nat.reduceAdd, Nat.reduceBEq, Nat.reduceMul, Nat.reduceSub, Nat.reduceGT, Nat.reducePow, Nat.reduceLeDiff, Int.reduceToNat]
  replace h := bind_some1 h; obtain ⟨t_3701, hv_3702, h⟩ := h
  refine run_textW hE [6] (fr' := [(6, .bool t_3701)]) (σ' := []) ?_ ?_
  · replace hv_3702 := bind_some1 hv_3702; obtain ⟨y_3699, hy_3703, hv_3702⟩ := hv_3702
    rcases Bool.eq_false_or_eq_true y_3699 with hb_3704 | hb_3704
    · replace hv_3702 := ite_t hv_3702 hb_3704
      replace hv_3702 := bind_some1 hv_3702; obtain ⟨y_3700, hy_3705, hv_3702⟩ := hv_3702
      rcases Bool.eq_false_or_eq_true y_3700 with hb_3706 | hb_3706
      · replace hv_3702 := ite_t hv_3702 hb_3706
        have e_hv_3702 := Option.some.inj hv_3702; subst e_hv_3702
        exact ⟨_, [(6, .bool ((y_3697.2.2 == damaged_3696)))], [.box [.sl false (L cU8 y_3697.1.Rest), .bool y_3697.1.In, .bool y_3697.1.Escape, .bool y_3697.1.Bad] false], orcs_ok (l := [(19, 17, [.agg [.sl false (L cU8 y_3697.1.Rest), .bool y_3697.1.In, .bool y_3697.1.Escape, .bool y_3697.1.Bad], .agg [.sl false (L cU8 ([])), .bool true, .bool false, .bool false]], .bool y_3699), (23, 18, [.sl false (L (cSl cU8) y_3697.2.1), .sl false (L (cSl cU8) want_3695)], .bool y_3700)]) ⟨r10_SameState_con hy_3703, r10_Same_con hy_3705, trivial⟩, by simp only [go_sem, reduceIte, Nat.reduceLT, Nat.reduceEqDiff, Nat.reduceAdd, Nat.reduceBEq, Nat.reduceMul, Nat.reduceSub, Nat.reduceGT, Nat.reducePow, Nat.reduceLeDiff, Int.reduceToNat, hb_3704, hb_3706], (weak_sel [] (by decide) rfl (by simp only [go_sem, reduceIte, Nat.reduceLT, Nat.reduceEqDiff, Nat.reduceAdd, Nat.reduceBEq, Nat.reduceMul, Nat.reduceSub, Nat.reduceGT, Nat.reducePow, Nat.reduceLeDiff, Int.reduceToNat]) (by simp only [go_sem, reduceIte, Nat.reduceLT, Nat.reduceEqDiff, Nat.reduceAdd, Nat.reduceBEq, Nat.reduceMul, Nat.reduceSub, Nat.reduceGT, Nat.reducePow, Nat.reduceLeDiff, Int.reduceToNat]))⟩
      · replace hv_3702 := ite_f hv_3702 hb_3706
        have e_hv_3702 := Option.some.inj hv_3702; subst e_hv_3702
        exact ⟨_, [(6, .bool false)], [.box [.sl false (L cU8 y_3697.1.Rest), .bool y_3697.1.In, .bool y_3697.1.Escape, .bool y_3697.1.Bad] false], orcs_ok (l := [(19, 17, [.agg [.sl false (L cU8 y_3697.1.Rest), .bool y_3697.1.In, .bool y_3697.1.Escape, .bool y_3697.1.Bad], .agg [.sl false (L cU8 ([])), .bool true, .bool false, .bool false]], .bool y_3699), (23, 18, [.sl false (L (cSl cU8) y_3697.2.1), .sl false (L (cSl cU8) want_3695)], .bool y_3700)]) ⟨r10_SameState_con hy_3703, r10_Same_con hy_3705, trivial⟩, by simp only [go_sem, reduceIte, Nat.reduceLT, Nat.reduceEqDiff, Nat.reduceAdd, Nat.reduceBEq, Nat.reduceMul, Nat.reduceSub, Nat.reduceGT, Nat.reducePow, Nat.reduceLeDiff, Int.reduceToNat, hb_3704, hb_3706], (weak_sel [] (by decide) rfl (by simp only [go_sem, reduceIte, Nat.reduceLT, Nat.reduceEqDiff, Nat.reduceAdd, Nat.reduceBEq, Nat.reduceMul, Nat.reduceSub, Nat.reduceGT, Nat.reducePow, Nat.reduceLeDiff, Int.reduceToNat]) (by simp only [go_sem, reduceIte, Nat.reduceLT, Nat.reduceEqDiff, Nat.reduceAdd, Nat.reduceBEq, Nat.reduceMul, Nat.reduceSub, Nat.reduceGT, Nat.reducePow, Nat.reduceLeDiff, Int.reduceToNat]))⟩
    · replace hv_3702 := ite_f hv_3702 hb_3704
      have e_hv_3702 := Option.some.inj hv_3702; subst e_hv_3702
      exact ⟨_, [(6, .bool false)], [.box [.sl false (L cU8 y_3697.1.Rest), .bool y_3697.1.In, .bool y_3697.1.Escape, .bool y_3697.1.Bad] false], orcs_ok (l := [(19, 17, [.agg [.sl false (L cU8 y_3697.1.Rest), .bool y_3697.1.In, .bool y_3697.1.Escape, .bool y_3697.1.Bad], .agg [.sl false (L cU8 ([])), .bool true, .bool false, .bool false]], .bool y_3699)]) ⟨r10_SameState_con hy_3703, trivial⟩, by simp only [go_sem, reduceIte, Nat.reduceLT, Nat.reduceEqDiff, Nat.reduceAdd, Nat.reduceBEq, Nat.reduceMul, Nat.reduceSub, Nat.reduceGT, Nat.reducePow, Nat.reduceLeDiff, Int.reduceToNat, hb_3704], (weak_sel [] (by decide) rfl (by simp only [go_sem, reduceIte, Nat.reduceLT, Nat.reduceEqDiff, Nat.reduceAdd, Nat.reduceBEq, Nat.reduceMul, Nat.reduceSub, Nat.reduceGT, Nat.reducePow, Nat.reduceLeDiff, Int.reduceToNat]) (by simp only [go_sem, reduceIte, Nat.reduceLT, Nat.reduceEqDiff, Nat.reduceAdd, Nat.reduceBEq, Nat.reduceMul, Nat.reduceSub, Nat.reduceGT, Nat.reducePow, Nat.reduceLeDiff, Int.reduceToNat]))⟩
  refine run_ret ?_
  obtain rfl := Option.some.inj h
  refine ret_ok (.inr rfl) ?_
  simp only [go_sem, reduceIte, Nat.reduceLT, Nat.reduceEqDiff, Nat.reduceAdd, Nat.reduceBEq, Nat.reduceMul, Nat.reduceSub, Nat.reduceGT, Nat.reducePow, Nat.reduceLeDiff, Int.reduceToNat]

theorem law10_sane_con  {r : Bool} (h : law10_sane  = some r) : Con B 10 [] [] (fun r' σ' => r' = .bool r ∧ σ' = []) := by
  refine con_walk (N := 80) (rs := [.tmp 0]) ok Try.func10 rfl (by decide +kernel) rfl rfl (Nat.le_of_ble_eq_true rfl) (fun F => ?_)
  have hE := ok.env F
  unfold law10_sane at h
  show Run (B.env F) 0 _ ⟨asFr 80 [], []⟩ _
  refine run_textE hE [] (fr' := []) (σ' := []) ⟨_, orcs_nil, ?_⟩ ?_
  · simp only [go_sem, reduceIte, Nat.reduceLT, Nat.reduceEqDiff, Nat.reduceAdd, Nat.reduceBEq, Nat.reduceMul, Nat.reduceSub, Nat.reduceGT, Nat.reducePow, Nat.reduceLeDiff, Int.reduceToNat]
  replace h := lt1_some h; obtain ⟨l_3707, hz_3708, h⟩ := h
  refine run_textE hE [1] (fr' := [(1, .bs true 0 (l_3707.length) 0 (l_3707.length))]) (σ' := [.buf 1 (L cU8 l_3707) false]) ⟨_, orcs_nil, ?_⟩ ?_
  · subst hz_3708; simp only [go_sem, reduceIte, Nat.reduceLT, Nat.reduceEqDiff, Nat.reduceAdd, Nat.reduceBEq, Nat.reduceMul, Nat.reduceSub, Nat.reduceGT, Nat.reducePow, Nat.reduceLeDiff, Int.reduceToNat]
  replace h := bind_some1 h; obtain ⟨y_3709, hy_3710, h⟩ := h
  refine run_textE hE [1, 2, 3] (fr' := [(1, .bs true 0 (l_3707.length) 0 (l_3707.length)), (2, .sl false (L cU8 y_3709.1)), (3, i64 y_3709.2)]) (σ' := [.buf 1 (L cU8 l_3707) false]) ⟨_, orcs_ok (l := [(11, 11, [.sl false (L cU8 ([]))], .tup [.sl false (L cU8 y_3709.1), i64 y_3709.2])]) ⟨frame_Make_con hy_3710, trivial⟩, ?_⟩ ?_
  · simp only [go_sem, reduceIte, Nat.reduceLT, Nat.reduceEqDiff, Nat.reduceAdd, Nat.reduceBEq, Nat.reduceMul, Nat.reduceSub, Nat.reduceGT, Nat.reducePow, Nat.reduceLeDiff, Int.reduceToNat]
  replace h := bind_some1 h; obtain ⟨y_3711, hy_3712, h⟩ := h
  refine run_textE hE [1, 2, 3, 4, 5] (fr' := [(1, .bs true 0 (l_3707.length) 0 (l_3707.length)), (2, .sl false (L cU8 y_3709.1)), (3, i64 y_3709.2), (4, .sl false (L cU8 y_3711.1)), (5, i64 y_3711.2)]) (σ' := [.buf 1 (L cU8 l_3707) true]) ⟨_, orcs_ok (l := [(16, 11, [.sl false (L cU8 l_3707)], .tup [.sl false (L cU8 y_3711.1), i64 y_3711.2])]) ⟨frame_Make_con hy_3712, trivial⟩, ?_⟩ ?_
  · simp only [go_sem, reduceIte, Nat.reduceLT, Nat.reduceEqDiff, Nat.reduceAdd, Nat.reduceBEq, Nat.reduceMul, Nat.reduceSub, Nat.reduceGT, Nat.reducePow, Nat.reduceLeDiff, Int.reduceToNat]
  refine run_seq ?_
  replace h := bind_some1 h; obtain ⟨t_3713, hv_3714, h⟩ := h
  refine run_textW hE [1, 34] (fr' := [(1, .bs true 0 (l_3707.length) 0 (l_3707.length)), (34, .bool t_3713)]) (σ' := [.buf 1 (L cU8 l_3707) true]) ?_ ?_
  · rcases Bool.eq_false_or_eq_true ((y_3709.2 != 0)) with hb_3715 | hb_3715
    · replace hv_3714 := ite_t hv_3714 hb_3715
      have e_hv_3714 := Option.some.inj hv_3714; subst e_hv_3714
      exact ⟨_, [(1, .bs true 0 (l_3707.length) 0 (l_3707.length)), (34, .bool true)], [.buf 1 (L cU8 l_3707) true], orcs_nil, by simp only [go_sem, reduceIte, Nat.reduceLT, Nat.reduceEqDiff, Nat.reduceAdd, Nat.reduceBEq, Nat.reduceMul, Nat.reduceSub, Nat.reduceGT, Nat.reducePow, Nat.reduceLeDiff, Int.reduceToNat, hb_3715], (weak_sel [0] (by decide) rfl (by simp only [go_sem, reduceIte, Nat.reduceLT, Nat.reduceEqDiff, Nat.reduceAdd, Nat.reduceBEq, Nat.reduceMul, Nat.reduceSub, Nat.reduceGT, Nat.reducePow, Nat.reduceLeDiff, Int.reduceToNat]) (by simp only [go_sem, reduceIte, Nat.reduceLT, Nat.reduceEqDiff, Nat.reduceAdd, Nat.reduceBEq, Nat.reduceMul, Nat.reduceSub, Nat.reduceGT, Nat.reducePow, Nat.reduceLeDiff, Int.reduceToNat]))⟩
    · replace hv_3714 := ite_f hv_3714 hb_3715
      rcases Bool.eq_false_or_eq_true ((y_3711.2 != 0)) with hb_3716 | hb_3716
      · replace hv_3714 := ite_t hv_3714 hb_3716
        have e_hv_3714 := Option.some.inj hv_3714; subst e_hv_3714
        exact ⟨_, [(1, .bs true 0 (l_3707.length) 0 (l_3707.length)), (34, .bool true)], [.buf 1 (L cU8 l_3707) true], orcs_nil, by simp only [go_sem, reduceIte, Nat.reduceLT, Nat.reduceEqDiff, Nat.reduceAdd, Nat.reduceBEq, Nat.reduceMul, Nat.reduceSub, Nat.reduceGT, Nat.reducePow, Nat.reduceLeDiff, Int.reduceToNat, hb_3715, hb_3716], (weak_sel [0] (by decide) rfl (by simp only [go_sem, reduceIte, Nat.reduceLT, Nat.reduceEqDiff, Nat.reduceAdd, Nat.reduceBEq, Nat.reduceMul, Nat.reduceSub, Nat.reduceGT, Nat.reducePow, Nat.reduceLeDiff, Int.reduceToNat]) (by simp only [go_sem, reduceIte, Nat.reduceLT, Nat.reduceEqDiff, Nat.reduceAdd, Nat.reduceBEq, Nat.reduceMul, Nat.reduceSub, Nat.reduceGT, Nat.reducePow, Nat.reduceLeDiff, Int.reduceToNat]))⟩
      · replace hv_3714 := ite_f hv_3714 hb_3716
        rcases Bool.eq_false_or_eq_true ((!(y_3709.1 == (([126, 0, 0, 0, 0, 126] : List UInt8))))) with hb_3717 | hb_3717
        · replace hv_3714 := ite_t hv_3714 hb_3717
          have e_hv_3714 := Option.some.inj hv_3714; subst e_hv_3714
          exact ⟨_, [(1, .bs true 0 (l_3707.length) 0 (l_3707.length)), (34, .bool true)], [.buf 1 (L cU8 l_3707) true], orcs_nil, by simp only [go_sem, reduceIte, Nat.reduceLT, Nat.reduceEqDiff, Nat.reduceAdd, Nat.reduceBEq, Nat.reduceMul, Nat.reduceSub, Nat.reduceGT, Nat.reducePow, Nat.reduceLeDiff, Int.reduceToNat, hb_3715, hb_3716, hb_3717], (weak_sel [0] (by decide) rfl (by simp only [go_sem, reduceIte, Nat.reduceLT, Nat.reduceEqDiff, Nat.reduceAdd, Nat.reduceBEq, Nat.reduceMul, Nat.reduceSub, Nat.reduceGT, Nat.reducePow, Nat.reduceLeDiff, Int.reduceToNat]) (by simp only [go_sem, reduceIte, Nat.reduceLT, Nat.reduceEqDiff, Nat.reduceAdd, Nat.reduceBEq, Nat.reduceMul, Nat.reduceSub, Nat.reduceGT, Nat.reducePow, Nat.reduceLeDiff, Int.reduceToNat]))⟩
        · replace hv_3714 := ite_f hv_3714 hb_3717
          have e_hv_3714 := Option.some.inj hv_3714; subst e_hv_3714
          exact ⟨_, [(1, .bs true 0 (l_3707.length) 0 (l_3707.length)), (34, .bool ((!(y_3711.1 == (([126, 49, 50, 51, 52, 53, 54, 55, 56, 57, 203, 244, 57, 38, 126] : List UInt8))))))], [.buf 1 (L cU8 l_3707) true], orcs_nil, by simp only [go_sem, reduceIte, Nat.reduceLT, Nat.reduceEqDiff, Nat.reduceAdd, Nat.reduceBEq, Nat.reduceMul, Nat.reduceSub, Nat.reduceGT, Nat.reducePow, Nat.reduceLeDiff, Int.reduceToNat, hb_3715, hb_3716, hb_3717], (weak_sel [0] (by decide) rfl (by simp only [go_sem, reduceIte, Nat.reduceLT, Nat.reduceEqDiff, Nat.reduceAdd, Nat.reduceBEq, Nat.reduceMul, Nat.reduceSub, Nat.reduceGT, Nat.reducePow, Nat.reduceLeDiff, Int.reduceToNat]) (by simp only [go_sem, reduceIte, Nat.reduceLT, Nat.reduceEqDiff, Nat.reduceAdd, Nat.reduceBEq, Nat.reduceMul, Nat.reduceSub, Nat.reduceGT, Nat.reducePow, Nat.reduceLeDiff, Int.reduceToNat]))⟩
  refine run_condL (b := t_3713) rfl (by decide) (fun hb => ?_) (fun hb => ?_)
  · replace h := ite_t h hb
    refine run_textE hE [0] (fr' := [(0, .bool false)]) (σ' := [.buf 1 (L cU8 l_3707) true]) ⟨_, orcs_nil, ?_⟩ ?_
    · simp only [go_sem, reduceIte, Nat.reduceLT, Nat.reduceEqDiff, Nat.reduceAdd, Nat.reduceBEq, Nat.reduceMul, Nat.reduceSub, Nat.reduceGT, Nat.reducePow, Nat.reduceLeDiff, Int.reduceToNat]
    refine run_ret ?_
    refine thenK_r ?_
    obtain rfl := Option.some.inj h
    refine ret_ok (.inr rfl) ?_
    simp only [go_sem, reduceIte, Nat.reduceLT, Nat.reduceEqDiff, Nat.reduceAdd, Nat.reduceBEq, Nat.reduceMul, Nat.reduceSub, Nat.reduceGT, Nat.reducePow, Nat.reduceLeDiff, Int.reduceToNat]
  · replace h := ite_f h hb
    refine run_skip ?_
    refine thenK_n ?_
    replace h := lt1_some h; obtain ⟨l_3718, hz_3719, h⟩ := h
    refine run_textE hE [1, 6] (fr' := [(1, .bs true 0 (l_3707.length) 0 (l_3707.length)), (6, .bs true 1 (l_3718.length) 0 (l_3718.length))]) (σ' := [.buf 1 (L cU8 l_3707) true, .buf 1 (L (cSl cU8) l_3718) false]) ⟨_, orcs_nil, ?_⟩ ?_
    · subst hz_3719; simp only [go_sem, reduceIte, Nat.reduceLT, Nat.reduceEqDiff, Nat.reduceAdd, Nat.reduceBEq, Nat.reduceMul, Nat.reduceSub, Nat.reduceGT, Nat.reducePow, Nat.reduceLeDiff, Int.reduceToNat]
    replace h := lt1_some h; obtain ⟨l_3720, hz_3721, h⟩ := h
    refine run_textE hE [1, 6, 7] (fr' := [(1, .bs true 0 (l_3707.length) 0 (l_3707.length)), (6, .bs true 1 (l_3718.length) 0 (l_3718.length)), (7, .bs true 3 (l_3720.length) 0 (l_3720.length))]) (σ' := [.buf 1 (L cU8 l_3707) true, .buf 1 (L (cSl cU8) l_3718) false, .buf 1 (L cU8 (([] : List UInt8))) true, .buf 1 (L (cSl cU8) l_3720) false]) ⟨_, orcs_nil, ?_⟩ ?_
    · subst hz_3721; simp only [go_sem, reduceIte, Nat.reduceLT, Nat.reduceEqDiff, Nat.reduceAdd, Nat.reduceBEq, Nat.reduceMul, Nat.reduceSub, Nat.reduceGT, Nat.reducePow, Nat.reduceLeDiff, Int.reduceToNat]
    refine run_seq ?_
    replace h := bind_some1 h; obtain ⟨t_3724, hv_3725, h⟩ := h
    refine run_textW hE [6, 7, 44] (fr' := [(6, .bs true 0 (l_3718.length) 0 (l_3718.length)), (7, .bs true 1 (l_3720.length) 0 (l_3720.length)), (44, .bool t_3724)]) (σ' := [.buf 1 (L (cSl cU8) l_3718) false, .buf 1 (L (cSl cU8) l_3720) false]) ?_ ?_
    · replace hv_3725 := bind_some1 hv_3725; obtain ⟨y_3722, hy_3726, hv_3725⟩ := hv_3725
      rcases Bool.eq_false_or_eq_true ((y_3722 != (0 : UInt32))) with hb_3727 | hb_3727
      · replace hv_3725 := ite_t hv_3725 hb_3727
        have e_hv_3725 := Option.some.inj hv_3725; subst e_hv_3725
        exact ⟨_, [(6, .bs true 1 (l_3718.length) 0 (l_3718.length)), (7, .bs true 3 (l_3720.length) 0 (l_3720.length)), (44, .bool true)], [.buf 1 (L cU8 l_3707) true, .buf 1 (L (cSl cU8) l_3718) false, .buf 1 (L cU8 (([] : List UInt8))) true, .buf 1 (L (cSl cU8) l_3720) false], orcs_ok (l := [(38, 13, [.sl false (L cU8 ([]))], u32 y_3722)]) ⟨frame_Crc_con hy_3726, trivial⟩, by simp only [go_sem, reduceIte, Nat.reduceLT, Nat.reduceEqDiff, Nat.reduceAdd, Nat.reduceBEq, Nat.reduceMul, Nat.reduceSub, Nat.reduceGT, Nat.reducePow, Nat.reduceLeDiff, Int.reduceToNat, hb_3727], (weak_sel [1, 3] (by decide) rfl (by simp only [go_sem, reduceIte, Nat.reduceLT, Nat.reduceEqDiff, Nat.reduceAdd, Nat.reduceBEq, Nat.reduceMul, Nat.reduceSub, Nat.reduceGT, Nat.reducePow, Nat.reduceLeDiff, Int.reduceToNat]) (by simp only [go_sem, reduceIte, Nat.reduceLT, Nat.reduceEqDiff, Nat.reduceAdd, Nat.reduceBEq, Nat.reduceMul, Nat.reduceSub, Nat.reduceGT, Nat.reducePow, Nat.reduceLeDiff, Int.reduceToNat]))⟩
      · replace hv_3725 := ite_f hv_3725 hb_3727
        replace hv_3725 := bind_some1 hv_3725; obtain ⟨y_3723, hy_3728, hv_3725⟩ := hv_3725
        have e_hv_3725 := Option.some.inj hv_3725; subst e_hv_3725
        exact ⟨_, [(6, .bs true 1 (l_3718.length) 0 (l_3718.length)), (7, .bs true 3 (l_3720.length) 0 (l_3720.length)), (44, .bool ((y_3723 != (3421780262 : UInt32))))], [.buf 1 (L cU8 l_3707) true, .buf 1 (L (cSl cU8) l_3718) false, .buf 1 (L cU8 (([] : List UInt8))) true, .buf 1 (L (cSl cU8) l_3720) false], orcs_ok (l := [(38, 13, [.sl false (L cU8 ([]))], u32 y_3722), (42, 13, [.sl false (L cU8 l_3707)], u32 y_3723)]) ⟨frame_Crc_con hy_3726, frame_Crc_con hy_3728, trivial⟩, by simp only [go_sem, reduceIte, Nat.reduceLT, Nat.reduceEqDiff, Nat.reduceAdd, Nat.reduceBEq, Nat.reduceMul, Nat.reduceSub, Nat.reduceGT, Nat.reducePow, Nat.reduceLeDiff, Int.reduceToNat, hb_3727], (weak_sel [1, 3] (by decide) rfl (by simp only [go_sem, reduceIte, Nat.reduceLT, Nat.reduceEqDiff, Nat.reduceAdd, Nat.reduceBEq, Nat.reduceMul, Nat.reduceSub, Nat.reduceGT, Nat.reducePow, Nat.reduceLeDiff, Int.reduceToNat]) (by simp only [go_sem, reduceIte, Nat.reduceLT, Nat.reduceEqDiff, Nat.reduceAdd, Nat.reduceBEq, Nat.reduceMul, Nat.reduceSub, Nat.reduceGT, Nat.reducePow, Nat.reduceLeDiff, Int.reduceToNat]))⟩
    refine run_condL (b := t_3724) rfl (by decide) (fun hb => ?_) (fun hb => ?_)
    · replace h := ite_t h hb
      refine run_textE hE [0] (fr' := [(0, .bool false)]) (σ' := [.buf 1 (L (cSl cU8) l_3718) false, .buf 1 (L (cSl cU8) l_3720) false]) ⟨_, orcs_nil, ?_⟩ ?_
      · simp only [go_sem, reduceIte, Nat.reduceLT, Nat.reduceEqDiff, Nat.reduceAdd, Nat.reduceBEq, Nat.reduceMul, Nat.reduceSub, Nat.reduceGT, Nat.reducePow, Nat.reduceLeDiff, Int.reduceToNat]
      refine run_ret ?_
      refine thenK_r ?_
      obtain rfl := Option.some.inj h
      refine ret_ok (.inr rfl) ?_
      simp only [go_sem, reduceIte, Nat.reduceLT, Nat.reduceEqDiff, Nat.reduceAdd, Nat.reduceBEq, Nat.reduceMul, Nat.reduceSub, Nat.reduceGT, Nat.reducePow, Nat.reduceLeDiff, Int.reduceToNat]
    · replace h := ite_f h hb
      refine run_skip ?_
      refine thenK_n ?_
      refine run_seq ?_
      replace h := bind_some1 h; obtain ⟨t_3732, hv_3733, h⟩ := h
      refine run_textW hE [6, 63] (fr' := [(6, .bs true 0 (l_3718.length) 0 (l_3718.length)), (63, .bool t_3732)]) (σ' := [.buf 1 (L (cSl cU8) l_3718) false]) ?_ ?_
      · replace hv_3733 := bind_some1 hv_3733; obtain ⟨y_3729, hy_3734, hv_3733⟩ := hv_3733
        rcases Bool.eq_false_or_eq_true ((!y_3729)) with hb_3735 | hb_3735
        · replace hv_3733 := ite_t hv_3733 hb_3735
          have e_hv_3733 := Option.some.inj hv_3733; subst e_hv_3733
          exact ⟨_, [(6, .bs true 0 (l_3718.length) 0 (l_3718.length)), (63, .bool true)], [.buf 1 (L (cSl cU8) l_3718) false, .buf 1 (L (cSl cU8) l_3720) false, .buf 1 (L cU8 (([(126 : UInt8), (126 : UInt8), (0 : UInt8), (0 : UInt8), (0 : UInt8), (0 : UInt8), (126 : UInt8), (126 : UInt8)] : List UInt8))) false], orcs_ok (l := [(48, 19, [.sl false (L cU8 (([(126 : UInt8), (126 : UInt8), (0 : UInt8), (0 : UInt8), (0 : UInt8), (0 : UInt8), (126 : UInt8), (126 : UInt8)] : List UInt8))), .sl false (L (cSl cU8) l_3720), i64 0], .bool y_3729)]) ⟨law10_receives_con hy_3734, trivial⟩, by simp only [go_sem, reduceIte, Nat.reduceLT, Nat.reduceEqDiff, Nat.reduceAdd, Nat.reduceBEq, Nat.reduceMul, Nat.reduceSub, Nat.reduceGT, Nat.reducePow, Nat.reduceLeDiff, Int.reduceToNat, hb_3735], (weak_sel [0] (by decide) rfl (by simp only [go_sem, reduceIte, Nat.reduceLT, Nat.reduceEqDiff, Nat.reduceAdd, Nat.reduceBEq, Nat.reduceMul, Nat.reduceSub, Nat.reduceGT, Nat.reducePow, Nat.reduceLeDiff, Int.reduceToNat]) (by simp only [go_sem, reduceIte, Nat.reduceLT, Nat.reduceEqDiff, Nat.reduceAdd, Nat.reduceBEq, Nat.reduceMul, Nat.reduceSub, Nat.reduceGT, Nat.reducePow, Nat.reduceLeDiff, Int.reduceToNat]))⟩
        · replace hv_3733 := ite_f hv_3733 hb_3735
          replace hv_3733 := bind_some1 hv_3733; obtain ⟨y_3730, hy_3736, hv_3733⟩ := hv_3733
          rcases Bool.eq_false_or_eq_true ((!y_3730)) with hb_3737 | hb_3737
          · replace hv_3733 := ite_t hv_3733 hb_3737
            have e_hv_3733 := Option.some.inj hv_3733; subst e_hv_3733
            exact ⟨_, [(6, .bs true 0 (l_3718.length) 0 (l_3718.length)), (63, .bool true)], [.buf 1 (L (cSl cU8) l_3718) false, .buf 1 (L (cSl cU8) l_3720) false, .buf 1 (L cU8 (([(126 : UInt8), (126 : UInt8), (0 : UInt8), (0 : UInt8), (0 : UInt8), (0 : UInt8), (126 : UInt8), (126 : UInt8)] : List UInt8))) false, .buf 1 (L cU8 (([(0 : UInt8), (0 : UInt8), (0 : UInt8), (0 : UInt8), (126 : UInt8)] : List UInt8))) false], orcs_ok (l := [(48, 19, [.sl false (L cU8 (([(126 : UInt8), (126 : UInt8), (0 : UInt8), (0 : UInt8), (0 : UInt8), (0 : UInt8), (126 : UInt8), (126 : UInt8)] : List UInt8))), .sl false (L (cSl cU8) l_3720), i64 0], .bool y_3729), (54, 19, [.sl false (L cU8 (([(0 : UInt8), (0 : UInt8), (0 : UInt8), (0 : UInt8), (126 : UInt8)] : List UInt8))), .sl false (L (cSl cU8) l_3718), i64 0], .bool y_3730)]) ⟨law10_receives_con hy_3734, law10_receives_con hy_3736, trivial⟩, by simp only [go_sem, reduceIte, Nat.reduceLT, Nat.reduceEqDiff, Nat.reduceAdd, Nat.reduceBEq, Nat.reduceMul, Nat.reduceSub, Nat.reduceGT, Nat.reducePow, Nat.reduceLeDiff, Int.reduceToNat, hb_3735, hb_3737], (weak_sel [0] (by decide) rfl (by simp only [go_sem, reduceIte, Nat.reduceLT, Nat.reduceEqDiff, Nat.reduceAdd, Nat.reduceBEq, Nat.reduceMul, Nat.reduceSub, Nat.reduceGT, Nat.reducePow, Nat.reduceLeDiff, Int.reduceToNat]) (by simp only [go_sem, reduceIte, Nat.reduceLT, Nat.reduceEqDiff, Nat.reduceAdd, Nat.reduceBEq, Nat.reduceMul, Nat.reduceSub, Nat.reduceGT, Nat.reducePow, Nat.reduceLeDiff, Int.reduceToNat]))⟩
          · replace hv_3733 := ite_f hv_3733 hb_3737
            replace hv_3733 := bind_some1 hv_3733; obtain ⟨y_3731, hy_3738, hv_3733⟩ := hv_3733
            have e_hv_3733 := Option.some.inj hv_3733; subst e_hv_3733
            exact ⟨_, [(6, .bs true 0 (l_3718.length) 0 (l_3718.length)), (63, .bool ((!y_3731)))], [.buf 1 (L (cSl cU8) l_3718) false, .buf 1 (L (cSl cU8) l_3720) false, .buf 1 (L cU8 (([(126 : UInt8), (126 : UInt8), (0 : UInt8), (0 : UInt8), (0 : UInt8), (0 : UInt8), (126 : UInt8), (126 : UInt8)] : List UInt8))) false, .buf 1 (L cU8 (([(0 : UInt8), (0 : UInt8), (0 : UInt8), (0 : UInt8), (126 : UInt8)] : List UInt8))) false, .buf 1 (L cU8 (([(126 : UInt8), (125 : UInt8), (32 : UInt8), (0 : UInt8), (0 : UInt8), (0 : UInt8), (126 : UInt8)] : List UInt8))) false], orcs_ok (l := [(48, 19, [.sl false (L cU8 (([(126 : UInt8), (126 : UInt8), (0 : UInt8), (0 : UInt8), (0 : UInt8), (0 : UInt8), (126 : UInt8), (126 : UInt8)] : List UInt8))), .sl false (L (cSl cU8) l_3720), i64 0], .bool y_3729), (54, 19, [.sl false (L cU8 (([(0 : UInt8), (0 : UInt8), (0 : UInt8), (0 : UInt8), (126 : UInt8)] : List UInt8))), .sl false (L (cSl cU8) l_3718), i64 0], .bool y_3730), (61, 19, [.sl false (L cU8 (([(126 : UInt8), (125 : UInt8), (32 : UInt8), (0 : UInt8), (0 : UInt8), (0 : UInt8), (126 : UInt8)] : List UInt8))), .sl false (L (cSl cU8) l_3720), i64 0], .bool y_3731)]) ⟨law10_receives_con hy_3734, law10_receives_con hy_3736, law10_receives_con hy_3738, trivial⟩, by simp only [go_sem, reduceIte, Nat.reduceLT, Nat.reduceEqDiff, Nat.reduceAdd, Nat.reduceBEq, Nat.reduceMul, Nat.reduceSub, Nat.reduceGT, Nat.reducePow, Nat.reduceLeDiff, Int.reduceToNat, hb_3735, hb_3737], (weak_sel [0] (by decide) rfl (by simp only [go_sem, reduceIte, Nat.reduceLT, Nat.reduceEqDiff, Nat.reduceAdd, Nat.reduceBEq, Nat.reduceMul, Nat.reduceSub, Nat.reduceGT, Nat.reducePow, Nat.reduceLeDiff, Int.reduceToNat]) (by simp only [go_sem, reduceIte, Nat.reduceLT, Nat.reduceEqDiff, Nat.reduceAdd, Nat.reduceBEq, Nat.reduceMul, Nat.reduceSub, Nat.reduceGT, Nat.reducePow, Nat.reduceLeDiff, Int.reduceToNat]))⟩
      refine run_condL (b := t_3732) rfl (by decide) (fun hb => ?_) (fun hb => ?_)
      · replace h := ite_t h hb
        refine run_textE hE [0] (fr' := [(0, .bool false)]) (σ' := [.buf 1 (L (cSl cU8) l_3718) false]) ⟨_, orcs_nil, ?_⟩ ?_
        · simp only [go_sem, reduceIte, Nat.reduceLT, Nat.reduceEqDiff, Nat.reduceAdd, Nat.reduceBEq, Nat.reduceMul, Nat.reduceSub, Nat.reduceGT, Nat.reducePow, Nat.reduceLeDiff, Int.reduceToNat]
        refine run_ret ?_
        refine thenK_r ?_
        obtain rfl := Option.some.inj h
        refine ret_ok (.inr rfl) ?_
        simp only [go_sem, reduceIte, Nat.reduceLT, Nat.reduceEqDiff, Nat.reduceAdd, Nat.reduceBEq, Nat.reduceMul, Nat.reduceSub, Nat.reduceGT, Nat.reducePow, Nat.reduceLeDiff, Int.reduceToNat]
      · replace h := ite_f h hb
        refine run_skip ?_
        refine thenK_n ?_
        replace h := bind_some1 h; obtain ⟨t_3742, hv_3743, h⟩ := h
        refine run_textW hE [0] (fr' := [(0, .bool t_3742)]) (σ' := []) ?_ ?_
        · replace hv_3743 := bind_some1 hv_3743; obtain ⟨y_3739, hy_3744, hv_3743⟩ := hv_3743
          rcases Bool.eq_false_or_eq_true y_3739 with hb_3745 | hb_3745
          · replace hv_3743 := ite_t hv_3743 hb_3745
            replace hv_3743 := bind_some1 hv_3743; obtain ⟨y_3740, hy_3746, hv_3743⟩ := hv_3743
            rcases Bool.eq_false_or_eq_true y_3740 with hb_3747 | hb_3747
            · replace hv_3743 := ite_t hv_3743 hb_3747
              replace hv_3743 := bind_some1 hv_3743; obtain ⟨y_3741, hy_3748, hv_3743⟩ := hv_3743
              have e_hv_3743 := Option.some.inj hv_3743; subst e_hv_3743
              exact ⟨_, [(0, .bool y_3741)], [.buf 1 (L (cSl cU8) l_3718) false, .buf 1 (L cU8 (([(126 : UInt8), (1 : UInt8), (2 : UInt8), (126 : UInt8)] : List UInt8))) false, .buf 1 (L cU8 (([(126 : UInt8), (0 : UInt8), (0 : UInt8), (0 : UInt8), (125 : UInt8), (126 : UInt8)] : List UInt8))) false, .buf 1 (L cU8 (([(126 : UInt8), (0 : UInt8), (0 : UInt8), (0 : UInt8), (1 : UInt8), (126 : UInt8)] : List UInt8))) false], orcs_ok (l := [(67, 19, [.sl false (L cU8 (([(126 : UInt8), (1 : UInt8), (2 : UInt8), (126 : UInt8)] : List UInt8))), .sl false (L (cSl cU8) l_3718), i64 1], .bool y_3739), (72, 19, [.sl false (L cU8 (([(126 : UInt8), (0 : UInt8), (0 : UInt8), (0 : UInt8), (125 : UInt8), (126 : UInt8)] : List UInt8))), .sl false (L (cSl cU8) l_3718), i64 1], .bool y_3740), (78, 19, [.sl false (L cU8 (([(126 : UInt8), (0 : UInt8), (0 : UInt8), (0 : UInt8), (1 : UInt8), (126 : UInt8)] : List UInt8))), .sl false (L (cSl cU8) l_3718), i64 1], .bool y_3741)]) ⟨law10_receives_con hy_3744, law10_receives_con hy_3746, law10_receives_con hy_3748, trivial⟩, by simp only [go_sem, reduceIte, Nat.reduceLT, Nat.reduceEqDiff, Nat.reduceAdd, Nat.reduceBEq, Nat.reduceMul, Nat.reduceSub, Nat.reduceGT, Nat.reducePow, Nat.reduceLeDiff, Int.reduceToNat, hb_3745, hb_3747], (weak_sel [] (by decide) rfl (by simp only [go_sem, reduceIte, Nat.reduceLT, Nat.reduceEqDiff, Nat.reduceAdd, Nat.reduceBEq, Nat.reduceMul, Nat.reduceSub, Nat.reduceGT, Nat.reducePow, Nat.reduceLeDiff, Int.reduceToNat]) (by simp only [go_sem, reduceIte, Nat.reduceLT, Nat.reduceEqDiff, Nat.reduceAdd, Nat.reduceBEq, Nat.reduceMul, Nat.reduceSub, Nat.reduceGT, Nat.reducePow, Nat.reduceLeDiff, Int.reduceToNat]))⟩
            · replace hv_3743 := ite_f hv_3743 hb_3747
              have e_hv_3743 := Option.some.inj hv_3743; subst e_hv_3743
              exact ⟨_, [(0, .bool false)], [.buf 1 (L (cSl cU8) l_3718) false, .buf 1 (L cU8 (([(126 : UInt8), (1 : UInt8), (2 : UInt8), (126 : UInt8)] : List UInt8))) false, .buf 1 (L cU8 (([(126 : UInt8), (0 : UInt8), (0 : UInt8), (0 : UInt8), (125 : UInt8), (126 : UInt8)] : List UInt8))) false], orcs_ok (l := [(67, 19, [.sl false (L cU8 (([(126 : UInt8), (1 : UInt8), (2 : UInt8), (126 : UInt8)] : List UInt8))), .sl false (L (cSl cU8) l_3718), i64 1], .bool y_3739), (72, 19, [.sl false (L cU8 (([(126 : UInt8), (0 : UInt8), (0 : UInt8), (0 : UInt8), (125 : UInt8), (126 : UInt8)] : List UInt8))), .sl false (L (cSl cU8) l_3718), i64 1], .bool y_3740)]) ⟨law10_receives_con hy_3744, law10_receives_con hy_3746, trivial⟩, by simp only [go_sem, reduceIte, Nat.reduceLT, Nat.reduceEqDiff, Nat.reduceAdd, Nat.reduceBEq, Nat.reduceMul, Nat.reduceSub, Nat.reduceGT, Nat.reducePow, Nat.reduceLeDiff, Int.reduceToNat, hb_3745, hb_3747], (weak_sel [] (by decide) rfl (by simp only [go_sem, reduceIte, Nat.reduceLT, Nat.reduceEqDiff, Nat.reduceAdd, Nat.reduceBEq, Nat.reduceMul, Nat.reduceSub, Nat.reduceGT, Nat.reducePow, Nat.reduceLeDiff, Int.reduceToNat]) (by simp only [go_sem, reduceIte, Nat.reduceLT, Nat.reduceEqDiff, Nat.reduceAdd, Nat.reduceBEq, Nat.reduceMul, Nat.reduceSub, Nat.reduceGT, Nat.reducePow, Nat.reduceLeDiff, Int.reduceToNat]))⟩
          · replace hv_3743 := ite_f hv_3743 hb_3745
            have e_hv_3743 := Option.some.inj hv_3743; subst e_hv_3743
            exact ⟨_, [(0, .bool false)], [.buf 1 (L (cSl cU8) l_3718) false, .buf 1 (L cU8 (([(126 : UInt8), (1 : UInt8), (2 : UInt8), (126 : UInt8)] : List UInt8))) false], orcs_ok (l := [(67, 19, [.sl false (L cU8 (([(126 : UInt8), (1 : UInt8), (2 : UInt8), (126 : UInt8)] : List UInt8))), .sl false (L (cSl cU8) l_3718), i64 1], .bool y_3739)]) ⟨law10_receives_con hy_3744, trivial⟩, by simp only [go_sem, reduceIte, Nat.reduceLT, Nat.reduceEqDiff, Nat.reduceAdd, Nat.reduceBEq, Nat.reduceMul, Nat.reduceSub, Nat.reduceGT, Nat.reducePow, Nat.reduceLeDiff, Int.reduceToNat, hb_3745], (weak_sel [] (by decide) rfl (by simp only [go_sem, reduceIte, Nat.reduceLT, Nat.reduceEqDiff, Nat.reduceAdd, Nat.reduceBEq, Nat.reduceMul, Nat.reduceSub, Nat.reduceGT, Nat.reducePow, Nat.reduceLeDiff, Int.reduceToNat]) (by simp only [go_sem, reduceIte, Nat.reduceLT, Nat.reduceEqDiff, Nat.reduceAdd, Nat.reduceBEq, Nat.reduceMul, Nat.reduceSub, Nat.reduceGT, Nat.reducePow, Nat.reduceLeDiff, Int.reduceToNat]))⟩
        refine run_ret ?_
        obtain rfl := Option.some.inj h
        refine ret_ok (.inr rfl) ?_
        simp only [go_sem, reduceIte, Nat.reduceLT, Nat.reduceEqDiff, Nat.reduceAdd, Nat.reduceBEq, Nat.reduceMul, Nat.reduceSub, Nat.reduceGT, Nat.reducePow, Nat.reduceLeDiff, Int.reduceToNat]

theorem law10_FrameMatchesReference_con {b_3749 : List UInt8} {r : Bool} (h : law10_FrameMatchesReference b_3749 = some r) : Con B 3 [.sl false (L cU8 b_3749)] [] (fun r' σ' => r' = .bool r ∧ σ' = []) := by
  refine con_walk (N := 36) (rs := [.tmp 2]) ok Try.func3 rfl (by decide +kernel) rfl rfl (Nat.le_of_ble_eq_true rfl) (fun F => ?_)
  have hE := ok.env F
  unfold law10_FrameMatchesReference at h
  show Run (B.env F) 0 _ ⟨asFr 36 [(0, .sl false (L cU8 b_3749))], []⟩ _
  refine run_textE hE [0] (fr' := [(0, .sl false (L cU8 b_3749))]) (σ' := []) ⟨_, orcs_nil, ?_⟩ ?_
  · simp only [go_sem, reduceIte, Nat.reduceLT, Nat.reduceEqDiff, Nat.reduceAdd, Nat.reduceBEq, Nat.reduceMul, Nat.reduceSub, Nat.reduceGT, Nat.reducePow, Nat.reduceLeDiff, Int.reduceToNat]
  refine run_seq ?_
  replace h := bind_some1 h; obtain ⟨y_3750, hy_3751, h⟩ := h
  refine run_textE hE [0, 8] (fr' := [(0, .sl false (L cU8 b_3749)), (8, .bool ((!y_3750)))]) (σ' := []) ⟨_, orcs_ok (l := [(7, 10, [], .bool y_3750)]) ⟨law10_sane_con hy_3751, trivial⟩, ?_⟩ ?_
  · simp only [go_sem, reduceIte, Nat.reduceLT, Nat.reduceEqDiff, Nat.reduceAdd, Nat.reduceBEq, Nat.reduceMul, Nat.reduceSub, Nat.reduceGT, Nat.reducePow, Nat.reduceLeDiff, Int.reduceToNat]
  refine run_condL (b := (!y_3750)) rfl (by decide) (fun hb => ?_) (fun hb => ?_)
  · replace h := ite_t h hb
    refine run_textE hE [2] (fr' := [(2, .bool false)]) (σ' := []) ⟨_, orcs_nil, ?_⟩ ?_
    · simp only [go_sem, reduceIte, Nat.reduceLT, Nat.reduceEqDiff, Nat.reduceAdd, Nat.reduceBEq, Nat.reduceMul, Nat.reduceSub, Nat.reduceGT, Nat.reducePow, Nat.reduceLeDiff, Int.reduceToNat]
    refine run_ret ?_
    refine thenK_r ?_
    obtain rfl := Option.some.inj h
    refine ret_ok (.inr rfl) ?_
    simp only [go_sem, reduceIte, Nat.reduceLT, Nat.reduceEqDiff, Nat.reduceAdd, Nat.reduceBEq, Nat.reduceMul, Nat.reduceSub, Nat.reduceGT, Nat.reducePow, Nat.reduceLeDiff, Int.reduceToNat]
  · replace h := ite_f h hb
    refine run_skip ?_
    refine thenK_n ?_
    replace h := bind_some1 h; obtain ⟨y_3752, hy_3753, h⟩ := h
    refine run_textE hE [0, 3, 4] (fr' := [(0, .sl false (L cU8 b_3749)), (3, .sl false (L cU8 y_3752.1)), (4, i64 y_3752.2)]) (σ' := []) ⟨_, orcs_ok (l := [(11, 11, [.sl false (L cU8 b_3749)], .tup [.sl false (L cU8 y_3752.1), i64 y_3752.2])]) ⟨frame_Make_con hy_3753, trivial⟩, ?_⟩ ?_
    · simp only [go_sem, reduceIte, Nat.reduceLT, Nat.reduceEqDiff, Nat.reduceAdd, Nat.reduceBEq, Nat.reduceMul, Nat.reduceSub, Nat.reduceGT, Nat.reducePow, Nat.reduceLeDiff, Int.reduceToNat]
    replace h := bind_some1 h; obtain ⟨y_3754, hy_3755, h⟩ := h
    refine run_textE hE [0, 3, 4, 5, 6] (fr' := [(0, .sl false (L cU8 b_3749)), (3, .sl false (L cU8 y_3752.1)), (4, i64 y_3752.2), (5, .sl false (L cU8 y_3754.1)), (6, i64 y_3754.2)]) (σ' := []) ⟨_, orcs_ok (l := [(16, 12, [.sl false (L cU8 b_3749)], .tup [.sl false (L cU8 y_3754.1), i64 y_3754.2])]) ⟨r10_Make_con hy_3755, trivial⟩, ?_⟩ ?_
    · simp only [go_sem, reduceIte, Nat.reduceLT, Nat.reduceEqDiff, Nat.reduceAdd, Nat.reduceBEq, Nat.reduceMul, Nat.reduceSub, Nat.reduceGT, Nat.reducePow, Nat.reduceLeDiff, Int.reduceToNat]
    replace h := bind_some1 h; obtain ⟨t_3758, hv_3759, h⟩ := h
    refine run_textW hE [2] (fr' := [(2, .bool t_3758)]) (σ' := []) ?_ ?_
    · replace hv_3759 := bind_some1 hv_3759; obtain ⟨y_3756, hy_3760, hv_3759⟩ := hv_3759
      replace hv_3759 := bind_some1 hv_3759; obtain ⟨y_3757, hy_3761, hv_3759⟩ := hv_3759
      rcases Bool.eq_false_or_eq_true ((y_3756 == y_3757)) with hb_3762 | hb_3762
      · replace hv_3759 := ite_t hv_3759 hb_3762
        rcases Bool.eq_false_or_eq_true ((y_3752.2 == y_3754.2)) with hb_3763 | hb_3763
        · replace hv_3759 := ite_t hv_3759 hb_3763
          have e_hv_3759 := Option.some.inj hv_3759; subst e_hv_3759
          exact ⟨_, [(2, .bool ((y_3752.1 == y_3754.1)))], [], orcs_ok (l := [(20, 13, [.sl false (L cU8 b_3749)], u32 y_3756), (22, 14, [.sl false (L cU8 b_3749)], u32 y_3757)]) ⟨frame_Crc_con hy_3760, r10_Crc_con hy_3761, trivial⟩, by simp only [go_sem, reduceIte, Nat.reduceLT, Nat.reduceEqDiff, Nat.reduceAdd, Nat.reduceBEq, Nat.reduceMul, Nat.reduceSub, Nat.reduceGT, Nat.reducePow, Nat.reduceLeDiff, Int.reduceToNat, hb_3762, hb_3763], (weak_sel [] (by decide) rfl (by simp only [go_sem, reduceIte, Nat.reduceLT, Nat.reduceEqDiff, Nat.reduceAdd, Nat.reduceBEq, Nat.reduceMul, Nat.reduceSub, Nat.reduceGT, Nat.reducePow, Nat.reduceLeDiff, Int.reduceToNat]) (by simp only [go_sem, reduceIte, Nat.reduceLT, Nat.reduceEqDiff, Nat.reduceAdd, Nat.reduceBEq, Nat.reduceMul, Nat.reduceSub, Nat.reduceGT, Nat.reducePow, Nat.reduceLeDiff, Int.reduceToNat]))⟩
        · replace hv_3759 := ite_f hv_3759 hb_3763
          have e_hv_3759 := Option.some.inj hv_3759; subst e_hv_3759
          exact ⟨_, [(2, .bool false)], [], orcs_ok (l := [(20, 13, [.sl false (L cU8 b_3749)], u32 y_3756), (22, 14, [.sl false (L cU8 b_3749)], u32 y_3757)]) ⟨frame_Crc_con hy_3760, r10_Crc_con hy_3761, trivial⟩, by simp only [go_sem, reduceIte, Nat.reduceLT, Nat.reduceEqDiff, Nat.reduceAdd, Nat.reduceBEq, Nat.reduceMul, Nat.reduceSub, Nat.reduceGT, Nat.reducePow, Nat.reduceLeDiff, Int.reduceToNat, hb_3762, hb_3763], (weak_sel [] (by decide) rfl (by simp only [go_sem, reduceIte, Nat.reduceLT, Nat.reduceEqDiff, Nat.reduceAdd, Nat.reduceBEq, Nat.reduceMul, Nat.reduceSub, Nat.reduceGT, Nat.reducePow, Nat.reduceLeDiff, Int.reduceToNat]) (by simp only [go_sem, reduceIte, Nat.reduceLT, Nat.reduceEqDiff, Nat.reduceAdd, Nat.reduceBEq, Nat.reduceMul, Nat.reduceSub, Nat.reduceGT, Nat.reducePow, Nat.reduceLeDiff, Int.reduceToNat]))⟩
      · replace hv_3759 := ite_f hv_3759 hb_3762
        have e_hv_3759 := Option.some.inj hv_3759; subst e_hv_3759
        exact ⟨_, [(2, .bool false)], [], orcs_ok (l := [(20, 13, [.sl false (L cU8 b_3749)], u32 y_3756), (22, 14, [.sl false (L cU8 b_3749)], u32 y_3757)]) ⟨frame_Crc_con hy_3760, r10_Crc_con hy_3761, trivial⟩, by simp only [go_sem, reduceIte, Nat.reduceLT, Nat.reduceEqDiff, Nat.reduceAdd, Nat.reduceBEq, Nat.reduceMul, Nat.reduceSub, Nat.reduceGT, Nat.reducePow, Nat.reduceLeDiff, Int.reduceToNat, hb_3762], (weak_sel [] (by decide) rfl (by simp only [go_sem, reduceIte, Nat.reduceLT, Nat.reduceEqDiff, Nat.reduceAdd, Nat.reduceBEq, Nat.reduceMul, Nat.reduceSub, Nat.reduceGT, Nat.reducePow, Nat.reduceLeDiff, Int.reduceToNat]) (by simp only [go_sem, reduceIte, Nat.reduceLT, Nat.reduceEqDiff, Nat.reduceAdd, Nat.reduceBEq, Nat.reduceMul, Nat.reduceSub, Nat.reduceGT, Nat.reducePow, Nat.reduceLeDiff, Int.reduceToNat]))⟩
    refine run_ret ?_
    obtain rfl := Option.some.inj h
    refine ret_ok (.inr rfl) ?_
    simp only [go_sem, reduceIte, Nat.reduceLT, Nat.reduceEqDiff, Nat.reduceAdd, Nat.reduceBEq, Nat.reduceMul, Nat.reduceSub, Nat.reduceGT, Nat.reducePow, Nat.reduceLeDiff, Int.reduceToNat]

end Go.Proofs.Ytneejmndnihaoaa
