/-
  The functions compute just that.
-/
import Derived.Test.YtgdiabbgiiemcaaDoorDW1
import Derived.KernelRfl
namespace Go.Proofs.YtgdiabbgiiemcaaDoor
open Go.Rv
set_option linter.unusedVariables false
set_option linter.unusedSimpArgs false
set_option maxRecDepth 20000

theorem codec_shape_F_con {rec_ : Api_Value → Option (Int × Bool)} (hrec : ∀ {v_176 : Api_Value} {r : Int × Bool}, rec_ v_176 = some r → Con B 31 [.agg [i64 v_176.Kind, i64 v_176.N, .sl false (L cU8 v_176.B), .sl false (L cApi_Value v_176.L)]] [] (fun r' σ' => r' = .tup [i64 r.1, .bool r.2] ∧ σ' = [])) {v_176 : Api_Value} {r : Int × Bool} (h : codec_shape_F rec_ v_176 = some r) : Con B 31 [.agg [i64 v_176.Kind, i64 v_176.N, .sl false (L cU8 v_176.B), .sl false (L cApi_Value v_176.L)]] [] (fun r' σ' => r' = .tup [i64 r.1, .bool r.2] ∧ σ' = []) := by
  refine con_walk (N := 64) (rs := [.tmp 2, .tmp 3]) ok Tryd.func31 rfl (by decide +kernel) rfl rfl (Nat.le_of_ble_eq_true rfl) (fun F => ?_)
  have hE := ok.env F
  unfold codec_shape_F at h
  show Run (B.env F) 0 _ ⟨asFr 64 [(0, .agg [i64 v_176.Kind, i64 v_176.N, .sl false (L cU8 v_176.B), .sl false (L cApi_Value v_176.L)])], []⟩ _
  refine run_textE hE [1, 2] (fr' := [(1, .ref 0 0), (2, i64 0)]) (σ' := [.box [i64 v_176.Kind, i64 v_176.N, .sl false (L cU8 v_176.B), .sl false (L cApi_Value v_176.L)] false]) ⟨_, orcs_nil, ?_⟩ ?_
  · simp only [go_sem, reduceIte, Nat.reduceLT, Nat.reduceEqDiff, Nat.reduceAdd, Nat.reduceBEq, Nat.reduceMul, Nat.reduceSub, Nat.reduceGT, Nat.reducePow, Nat.reduceLeDiff, Int.reduceToNat]
  replace h := bind_some1 h; obtain ⟨j_278, hA_279, hj_280⟩ := h
  refine run_join (fun (v : Unit) => (⟨asFr 64 [], []⟩ : St)) (fun v => .inl v = j_278) ?_ ?_
  · have h := hA_279; clear hA_279
    refine run_textE hE [1, 2, 9] (fr' := [(1, .ref 0 0), (2, i64 0), (9, i64 v_176.Kind)]) (σ' := [.box [i64 v_176.Kind, i64 v_176.N, .sl false (L cU8 v_176.B), .sl false (L cApi_Value v_176.L)] false]) ⟨_, orcs_nil, ?_⟩ ?_
    · simp only [go_sem, reduceIte, Nat.reduceLT, Nat.reduceEqDiff, Nat.reduceAdd, Nat.reduceBEq, Nat.reduceMul, Nat.reduceSub, Nat.reduceGT, Nat.reducePow, Nat.reduceLeDiff, Int.reduceToNat]
    refine run_block ?_
    refine run_textE hE [1, 2, 9, 10] (fr' := [(1, .ref 0 0), (2, i64 0), (9, i64 v_176.Kind), (10, .bool ((v_176.Kind == 1)))]) (σ' := [.box [i64 v_176.Kind, i64 v_176.N, .sl false (L cU8 v_176.B), .sl false (L cApi_Value v_176.L)] false]) ⟨_, orcs_nil, ?_⟩ ?_
    · simp only [go_sem, reduceIte, Nat.reduceLT, Nat.reduceEqDiff, Nat.reduceAdd, Nat.reduceBEq, Nat.reduceMul, Nat.reduceSub, Nat.reduceGT, Nat.reducePow, Nat.reduceLeDiff, Int.reduceToNat]
    refine run_condL (b := (v_176.Kind == 1)) rfl (by decide) (fun hb => ?_) (fun hb => ?_)
    · replace h := ite_t h hb
      replace h := bind_some1 h; obtain ⟨ok_281, hv_282, h⟩ := h
      refine run_drawW hE mixed [[], [0], [0, 1], [0, 1, 2], [0, 1, 2, 3], [0, 1, 2, 3, 4], [0, 1, 2, 3, 4, 5], [0, 1, 2, 3, 4, 5, 6], [0, 1, 2, 3, 4, 5, 6, 7], [0, 1, 2, 3, 4, 5, 6, 7, 8], [0, 1, 2, 3, 4], [0, 1, 2, 3, 4, 5, 6, 7, 8, 9, 10]] (by kernel_rfl) (by kernel_rfl) [2, 3] (fr' := [(2, i64 0), (3, .bool ok_281)]) (σ' := []) ?_ ?_
      · rcases Bool.eq_false_or_eq_true (((v_176.B.length : Int) == 0)) with hb_283 | hb_283
        · replace hv_282 := ite_t hv_282 hb_283
          have e_hv_282 := Option.some.inj hv_282; subst e_hv_282
          exact ⟨_, [(2, i64 0), (3, .bool (((v_176.L.length : Int) == 0)))], [.box [i64 v_176.Kind, i64 v_176.N, .sl false (L cU8 v_176.B), .sl false (L cApi_Value v_176.L)] false], orcs_nil, by simp only [go_sem, reduceIte, Nat.reduceLT, Nat.reduceEqDiff, Nat.reduceAdd, Nat.reduceBEq, Nat.reduceMul, Nat.reduceSub, Nat.reduceGT, Nat.reducePow, Nat.reduceLeDiff, Int.reduceToNat, hb_283], (weak_sel [] (by decide) rfl (by simp only [go_sem, reduceIte, Nat.reduceLT, Nat.reduceEqDiff, Nat.reduceAdd, Nat.reduceBEq, Nat.reduceMul, Nat.reduceSub, Nat.reduceGT, Nat.reducePow, Nat.reduceLeDiff, Int.reduceToNat]) (by simp only [go_sem, reduceIte, Nat.reduceLT, Nat.reduceEqDiff, Nat.reduceAdd, Nat.reduceBEq, Nat.reduceMul, Nat.reduceSub, Nat.reduceGT, Nat.reducePow, Nat.reduceLeDiff, Int.reduceToNat]))⟩
        · replace hv_282 := ite_f hv_282 hb_283
          have e_hv_282 := Option.some.inj hv_282; subst e_hv_282
          exact ⟨_, [(2, i64 0), (3, .bool false)], [.box [i64 v_176.Kind, i64 v_176.N, .sl false (L cU8 v_176.B), .sl false (L cApi_Value v_176.L)] false], orcs_nil, by simp only [go_sem, reduceIte, Nat.reduceLT, Nat.reduceEqDiff, Nat.reduceAdd, Nat.reduceBEq, Nat.reduceMul, Nat.reduceSub, Nat.reduceGT, Nat.reducePow, Nat.reduceLeDiff, Int.reduceToNat, hb_283], (weak_sel [] (by decide) rfl (by simp only [go_sem, reduceIte, Nat.reduceLT, Nat.reduceEqDiff, Nat.reduceAdd, Nat.reduceBEq, Nat.reduceMul, Nat.reduceSub, Nat.reduceGT, Nat.reducePow, Nat.reduceLeDiff, Int.reduceToNat]) (by simp only [go_sem, reduceIte, Nat.reduceLT, Nat.reduceEqDiff, Nat.reduceAdd, Nat.reduceBEq, Nat.reduceMul, Nat.reduceSub, Nat.reduceGT, Nat.reducePow, Nat.reduceLeDiff, Int.reduceToNat]))⟩
      refine run_ret ?_
      refine blockK_r ?_
      refine joinK_r ?_
      replace h := bind_some1 h; obtain ⟨z_284, h, e_z_284⟩ := h
      obtain rfl := Option.some.inj e_z_284
      obtain rfl := Option.some.inj hj_280
      obtain rfl := Option.some.inj h
      refine ret_ok (.inr rfl) ?_
      simp only [go_sem, reduceIte, Nat.reduceLT, Nat.reduceEqDiff, Nat.reduceAdd, Nat.reduceBEq, Nat.reduceMul, Nat.reduceSub, Nat.reduceGT, Nat.reducePow, Nat.reduceLeDiff, Int.reduceToNat]
    · replace h := ite_f h hb
      refine run_textE hE [1, 2, 9, 22] (fr' := [(1, .ref 0 0), (2, i64 0), (9, i64 v_176.Kind), (22, .bool ((v_176.Kind == 2)))]) (σ' := [.box [i64 v_176.Kind, i64 v_176.N, .sl false (L cU8 v_176.B), .sl false (L cApi_Value v_176.L)] false]) ⟨_, orcs_nil, ?_⟩ ?_
      · simp only [go_sem, reduceIte, Nat.reduceLT, Nat.reduceEqDiff, Nat.reduceAdd, Nat.reduceBEq, Nat.reduceMul, Nat.reduceSub, Nat.reduceGT, Nat.reducePow, Nat.reduceLeDiff, Int.reduceToNat]
      refine run_condL (b := (v_176.Kind == 2)) rfl (by decide) (fun hb => ?_) (fun hb => ?_)
      · replace h := ite_t h hb
        replace h := bind_some1 h; obtain ⟨ok_285, hv_286, h⟩ := h
        refine run_drawW hE mixed [[], [0], [0, 1], [0, 1, 2], [0, 1, 2, 3], [0, 1, 2, 3, 4], [0, 1, 2, 3, 4, 5], [0, 1, 2, 3, 4, 5, 6], [0, 1, 2, 3, 4, 5, 6, 7], [0, 1, 2, 3], [0, 1, 2, 3, 4, 5, 6, 7, 8, 9]] (by kernel_rfl) (by kernel_rfl) [2, 3] (fr' := [(2, i64 0), (3, .bool ok_285)]) (σ' := []) ?_ ?_
        · rcases Bool.eq_false_or_eq_true ((v_176.N == 0)) with hb_287 | hb_287
          · replace hv_286 := ite_t hv_286 hb_287
            have e_hv_286 := Option.some.inj hv_286; subst e_hv_286
            exact ⟨_, [(2, i64 0), (3, .bool (((v_176.L.length : Int) == 0)))], [.box [i64 v_176.Kind, i64 v_176.N, .sl false (L cU8 v_176.B), .sl false (L cApi_Value v_176.L)] false], orcs_nil, by simp only [go_sem, reduceIte, Nat.reduceLT, Nat.reduceEqDiff, Nat.reduceAdd, Nat.reduceBEq, Nat.reduceMul, Nat.reduceSub, Nat.reduceGT, Nat.reducePow, Nat.reduceLeDiff, Int.reduceToNat, hb_287], (weak_sel [] (by decide) rfl (by simp only [go_sem, reduceIte, Nat.reduceLT, Nat.reduceEqDiff, Nat.reduceAdd, Nat.reduceBEq, Nat.reduceMul, Nat.reduceSub, Nat.reduceGT, Nat.reducePow, Nat.reduceLeDiff, Int.reduceToNat]) (by simp only [go_sem, reduceIte, Nat.reduceLT, Nat.reduceEqDiff, Nat.reduceAdd, Nat.reduceBEq, Nat.reduceMul, Nat.reduceSub, Nat.reduceGT, Nat.reducePow, Nat.reduceLeDiff, Int.reduceToNat]))⟩
          · replace hv_286 := ite_f hv_286 hb_287
            have e_hv_286 := Option.some.inj hv_286; subst e_hv_286
            exact ⟨_, [(2, i64 0), (3, .bool false)], [.box [i64 v_176.Kind, i64 v_176.N, .sl false (L cU8 v_176.B), .sl false (L cApi_Value v_176.L)] false], orcs_nil, by simp only [go_sem, reduceIte, Nat.reduceLT, Nat.reduceEqDiff, Nat.reduceAdd, Nat.reduceBEq, Nat.reduceMul, Nat.reduceSub, Nat.reduceGT, Nat.reducePow, Nat.reduceLeDiff, Int.reduceToNat, hb_287], (weak_sel [] (by decide) rfl (by simp only [go_sem, reduceIte, Nat.reduceLT, Nat.reduceEqDiff, Nat.reduceAdd, Nat.reduceBEq, Nat.reduceMul, Nat.reduceSub, Nat.reduceGT, Nat.reducePow, Nat.reduceLeDiff, Int.reduceToNat]) (by simp only [go_sem, reduceIte, Nat.reduceLT, Nat.reduceEqDiff, Nat.reduceAdd, Nat.reduceBEq, Nat.reduceMul, Nat.reduceSub, Nat.reduceGT, Nat.reducePow, Nat.reduceLeDiff, Int.reduceToNat]))⟩
        refine run_ret ?_
        refine blockK_r ?_
        refine joinK_r ?_
        replace h := bind_some1 h; obtain ⟨z_288, h, e_z_288⟩ := h
        obtain rfl := Option.some.inj e_z_288
        obtain rfl := Option.some.inj hj_280
        obtain rfl := Option.some.inj h
        refine ret_ok (.inr rfl) ?_
        simp only [go_sem, reduceIte, Nat.reduceLT, Nat.reduceEqDiff, Nat.reduceAdd, Nat.reduceBEq, Nat.reduceMul, Nat.reduceSub, Nat.reduceGT, Nat.reducePow, Nat.reduceLeDiff, Int.reduceToNat]
      · replace h := ite_f h hb
        refine run_textE hE [1, 2, 33] (fr' := [(1, .ref 0 0), (2, i64 0), (33, .bool ((v_176.Kind == 3)))]) (σ' := [.box [i64 v_176.Kind, i64 v_176.N, .sl false (L cU8 v_176.B), .sl false (L cApi_Value v_176.L)] false]) ⟨_, orcs_nil, ?_⟩ ?_
        · simp only [go_sem, reduceIte, Nat.reduceLT, Nat.reduceEqDiff, Nat.reduceAdd, Nat.reduceBEq, Nat.reduceMul, Nat.reduceSub, Nat.reduceGT, Nat.reducePow, Nat.reduceLeDiff, Int.reduceToNat]
        refine run_condL (b := (v_176.Kind == 3)) rfl (by decide) (fun hb => ?_) (fun hb => ?_)
        · replace h := ite_t h hb
          refine run_seq ?_
          replace h := bind_some1 h; obtain ⟨t_289, hv_290, h⟩ := h
          refine run_textW hE [1, 2, 43] (fr' := [(1, .ref 0 0), (2, i64 0), (43, .bool t_289)]) (σ' := [.box [i64 v_176.Kind, i64 v_176.N, .sl false (L cU8 v_176.B), .sl false (L cApi_Value v_176.L)] false]) ?_ ?_
          · rcases Bool.eq_false_or_eq_true ((v_176.N != 0)) with hb_291 | hb_291
            · replace hv_290 := ite_t hv_290 hb_291
              have e_hv_290 := Option.some.inj hv_290; subst e_hv_290
              exact ⟨_, [(1, .ref 0 0), (2, i64 0), (43, .bool true)], [.box [i64 v_176.Kind, i64 v_176.N, .sl false (L cU8 v_176.B), .sl false (L cApi_Value v_176.L)] false], orcs_nil, by simp only [go_sem, reduceIte, Nat.reduceLT, Nat.reduceEqDiff, Nat.reduceAdd, Nat.reduceBEq, Nat.reduceMul, Nat.reduceSub, Nat.reduceGT, Nat.reducePow, Nat.reduceLeDiff, Int.reduceToNat, hb_291], (weak_sel [0] (by decide) rfl (by simp only [go_sem, reduceIte, Nat.reduceLT, Nat.reduceEqDiff, Nat.reduceAdd, Nat.reduceBEq, Nat.reduceMul, Nat.reduceSub, Nat.reduceGT, Nat.reducePow, Nat.reduceLeDiff, Int.reduceToNat]) (by simp only [go_sem, reduceIte, Nat.reduceLT, Nat.reduceEqDiff, Nat.reduceAdd, Nat.reduceBEq, Nat.reduceMul, Nat.reduceSub, Nat.reduceGT, Nat.reducePow, Nat.reduceLeDiff, Int.reduceToNat]))⟩
            · replace hv_290 := ite_f hv_290 hb_291
              have e_hv_290 := Option.some.inj hv_290; subst e_hv_290
              exact ⟨_, [(1, .ref 0 0), (2, i64 0), (43, .bool (((v_176.B.length : Int) != 0)))], [.box [i64 v_176.Kind, i64 v_176.N, .sl false (L cU8 v_176.B), .sl false (L cApi_Value v_176.L)] false], orcs_nil, by simp only [go_sem, reduceIte, Nat.reduceLT, Nat.reduceEqDiff, Nat.reduceAdd, Nat.reduceBEq, Nat.reduceMul, Nat.reduceSub, Nat.reduceGT, Nat.reducePow, Nat.reduceLeDiff, Int.reduceToNat, hb_291], (weak_sel [0] (by decide) rfl (by simp only [go_sem, reduceIte, Nat.reduceLT, Nat.reduceEqDiff, Nat.reduceAdd, Nat.reduceBEq, Nat.reduceMul, Nat.reduceSub, Nat.reduceGT, Nat.reducePow, Nat.reduceLeDiff, Int.reduceToNat]) (by simp only [go_sem, reduceIte, Nat.reduceLT, Nat.reduceEqDiff, Nat.reduceAdd, Nat.reduceBEq, Nat.reduceMul, Nat.reduceSub, Nat.reduceGT, Nat.reducePow, Nat.reduceLeDiff, Int.reduceToNat]))⟩
          refine run_condL (b := t_289) rfl (by decide) (fun hb => ?_) (fun hb => ?_)
          · replace h := ite_t h hb
            refine run_textE hE [2, 3] (fr' := [(2, i64 0), (3, .bool false)]) (σ' := [.box [i64 v_176.Kind, i64 v_176.N, .sl false (L cU8 v_176.B), .sl false (L cApi_Value v_176.L)] false]) ⟨_, orcs_nil, ?_⟩ ?_
            · simp only [go_sem, reduceIte, Nat.reduceLT, Nat.reduceEqDiff, Nat.reduceAdd, Nat.reduceBEq, Nat.reduceMul, Nat.reduceSub, Nat.reduceGT, Nat.reducePow, Nat.reduceLeDiff, Int.reduceToNat]
            refine run_ret ?_
            refine thenK_r ?_
            refine blockK_r ?_
            refine joinK_r ?_
            replace h := bind_some1 h; obtain ⟨z_292, h, e_z_292⟩ := h
            obtain rfl := Option.some.inj e_z_292
            obtain rfl := Option.some.inj hj_280
            obtain rfl := Option.some.inj h
            refine ret_ok (.inr rfl) ?_
            simp only [go_sem, reduceIte, Nat.reduceLT, Nat.reduceEqDiff, Nat.reduceAdd, Nat.reduceBEq, Nat.reduceMul, Nat.reduceSub, Nat.reduceGT, Nat.reducePow, Nat.reduceLeDiff, Int.reduceToNat]
          · replace h := ite_f h hb
            refine run_skip ?_
            refine thenK_n ?_
            replace h := bind_some1 h; obtain ⟨j_336, hA_337, hj_338⟩ := h
            refine run_join (fun (v : Int) => (⟨asFr 64 [(2, i64 v)], []⟩ : St)) (fun v => .inl v = j_336) ?_ ?_
            · have h := hA_337; clear hA_337
              refine run_textE hE [2, 45, 46, 47] (fr' := [(2, i64 0), (45, .sl false (L cApi_Value v_176.L)), (46, i64 ((v_176.L.length : Int))), (47, i64 0)]) (σ' := [.box [i64 v_176.Kind, i64 v_176.N, .sl false (L cU8 v_176.B), .sl false (L cApi_Value v_176.L)] false]) ⟨_, orcs_nil, ?_⟩ ?_
              · simp only [go_sem, reduceIte, Nat.reduceLT, Nat.reduceEqDiff, Nat.reduceAdd, Nat.reduceBEq, Nat.reduceMul, Nat.reduceSub, Nat.reduceGT, Nat.reducePow, Nat.reduceLeDiff, Int.reduceToNat]
              refine run_block ?_
              replace h := bind_some1 h; obtain ⟨x_362, hx_363, hj_364⟩ := h
              refine run_loopO hx_363 (fun (v : Int × Int) => (⟨asFr 64 [(2, i64 v.1), (45, .sl false (L cApi_Value v_176.L)), (46, i64 ((v_176.L.length : Int))), (47, i64 v.2)], []⟩ : St)) (weak_sel [] (by decide) rfl (by simp only [go_sem, reduceIte, Nat.reduceLT, Nat.reduceEqDiff, Nat.reduceAdd, Nat.reduceBEq, Nat.reduceMul, Nat.reduceSub, Nat.reduceGT, Nat.reducePow, Nat.reduceLeDiff, Int.reduceToNat]) (by simp only [go_sem, reduceIte, Nat.reduceLT, Nat.reduceEqDiff, Nat.reduceAdd, Nat.reduceBEq, Nat.reduceMul, Nat.reduceSub, Nat.reduceGT, Nat.reducePow, Nat.reduceLeDiff, Int.reduceToNat])) ?_
              rintro ⟨depth_345, t_346⟩ o_365 h hxx_366
              replace h : codec_shape_b1 v_176 rec_ depth_345 t_346 = some o_365 := h
              unfold codec_shape_b1 at h
              refine run_textE hE [2, 45, 46, 47, 48] (fr' := [(2, i64 depth_345), (45, .sl false (L cApi_Value v_176.L)), (46, i64 ((v_176.L.length : Int))), (47, i64 t_346), (48, .bool ((decide (t_346 < (v_176.L.length : Int)))))]) (σ' := []) ⟨_, orcs_nil, ?_⟩ ?_
              · simp only [go_sem, reduceIte, Nat.reduceLT, Nat.reduceEqDiff, Nat.reduceAdd, Nat.reduceBEq, Nat.reduceMul, Nat.reduceSub, Nat.reduceGT, Nat.reducePow, Nat.reduceLeDiff, Int.reduceToNat]
              refine run_seq ?_
              refine run_condL (b := (decide (t_346 < (v_176.L.length : Int)))) rfl (by decide) (fun hb => ?_) (fun hb => ?_)
              · replace h := ite_t h hb
                refine run_skip ?_
                refine thenK_n ?_
                refine run_seq ?_
                refine run_block ?_
                replace h := chk_some h; obtain ⟨hc_367, h⟩ := h
                replace h := lt1_some h; obtain ⟨f_368, hz_372, h⟩ := h
                replace h := lt1_some h; obtain ⟨f_369, hz_373, h⟩ := h
                replace h := lt1_some h; obtain ⟨f_370, hz_374, h⟩ := h
                replace h := lt1_some h; obtain ⟨f_371, hz_375, h⟩ := h
                refine run_textE hE [2, 5, 45, 46, 47] (fr' := [(2, i64 depth_345), (5, .ref 0 0), (45, .sl false (L cApi_Value v_176.L)), (46, i64 ((v_176.L.length : Int))), (47, i64 t_346)]) (σ' := [.box [i64 f_368, i64 f_369, .sl false (L cU8 f_370), .sl false (L cApi_Value f_371)] false]) ⟨_, orcs_nil, ?_⟩ ?_
                · subst hz_375; subst hz_374; subst hz_373; subst hz_372; simp only [go_sem, reduceIte, Nat.reduceLT, Nat.reduceEqDiff, Nat.reduceAdd, Nat.reduceBEq, Nat.reduceMul, Nat.reduceSub, Nat.reduceGT, Nat.reducePow, Nat.reduceLeDiff, Int.reduceToNat, hc_367, hc_367.2, lt_le hc_367.2]
                replace h := bind_some1 h; obtain ⟨y_376, hy_377, h⟩ := h
                refine run_textE hE [2, 6, 7, 45, 46, 47] (fr' := [(2, i64 depth_345), (6, i64 y_376.1), (7, .bool y_376.2), (45, .sl false (L cApi_Value v_176.L)), (46, i64 ((v_176.L.length : Int))), (47, i64 t_346)]) (σ' := [.box [i64 f_368, i64 f_369, .sl false (L cU8 f_370), .sl false (L cApi_Value f_371)] false]) ⟨_, orcs_ok (l := [(53, 31, [.agg [i64 f_368, i64 f_369, .sl false (L cU8 f_370), .sl false (L cApi_Value f_371)]], .tup [i64 y_376.1, .bool y_376.2])]) ⟨hrec hy_377, trivial⟩, ?_⟩ ?_
                · simp only [go_sem, reduceIte, Nat.reduceLT, Nat.reduceEqDiff, Nat.reduceAdd, Nat.reduceBEq, Nat.reduceMul, Nat.reduceSub, Nat.reduceGT, Nat.reducePow, Nat.reduceLeDiff, Int.reduceToNat]
                refine run_seq ?_
                refine run_textE hE [2, 6, 45, 46, 47, 57] (fr' := [(2, i64 depth_345), (6, i64 y_376.1), (45, .sl false (L cApi_Value v_176.L)), (46, i64 ((v_176.L.length : Int))), (47, i64 t_346), (57, .bool ((!y_376.2)))]) (σ' := [.box [i64 f_368, i64 f_369, .sl false (L cU8 f_370), .sl false (L cApi_Value f_371)] false]) ⟨_, orcs_nil, ?_⟩ ?_
                · simp only [go_sem, reduceIte, Nat.reduceLT, Nat.reduceEqDiff, Nat.reduceAdd, Nat.reduceBEq, Nat.reduceMul, Nat.reduceSub, Nat.reduceGT, Nat.reducePow, Nat.reduceLeDiff, Int.reduceToNat]
                refine run_condL (b := (!y_376.2)) rfl (by decide) (fun hb => ?_) (fun hb => ?_)
                · replace h := ite_t h hb
                  refine run_textE hE [2, 3] (fr' := [(2, i64 0), (3, .bool false)]) (σ' := [.box [i64 f_368, i64 f_369, .sl false (L cU8 f_370), .sl false (L cApi_Value f_371)] false]) ⟨_, orcs_nil, ?_⟩ ?_
                  · simp only [go_sem, reduceIte, Nat.reduceLT, Nat.reduceEqDiff, Nat.reduceAdd, Nat.reduceBEq, Nat.reduceMul, Nat.reduceSub, Nat.reduceGT, Nat.reducePow, Nat.reduceLeDiff, Int.reduceToNat]
                  refine run_ret ?_
                  refine thenK_r ?_
                  refine blockK_r ?_
                  refine thenK_r ?_
                  refine lpK_r ?_
                  replace h := bind_some1 h; obtain ⟨z_380, h, e_z_380⟩ := h
                  obtain rfl := Option.some.inj e_z_380
                  have ex_z_380 := hxx_366 _ rfl
                  subst ex_z_380
                  obtain rfl := Option.some.inj hj_364
                  refine blockK_r ?_
                  refine joinK_r ?_
                  replace h := bind_some1 h; obtain ⟨z_379, h, e_z_379⟩ := h
                  obtain rfl := Option.some.inj e_z_379
                  obtain rfl := Option.some.inj hj_338
                  refine blockK_r ?_
                  refine joinK_r ?_
                  replace h := bind_some1 h; obtain ⟨z_378, h, e_z_378⟩ := h
                  obtain rfl := Option.some.inj e_z_378
                  obtain rfl := Option.some.inj hj_280
                  obtain rfl := Option.some.inj h
                  refine ret_ok (.inr rfl) ?_
                  simp only [go_sem, reduceIte, Nat.reduceLT, Nat.reduceEqDiff, Nat.reduceAdd, Nat.reduceBEq, Nat.reduceMul, Nat.reduceSub, Nat.reduceGT, Nat.reducePow, Nat.reduceLeDiff, Int.reduceToNat]
                · replace h := ite_f h hb
                  refine run_skip ?_
                  refine thenK_n ?_
                  refine run_textE0 hE (wk_block wk_then) [2, 45, 46, 47] (fr' := [(2, i64 ((mx64 depth_345 y_376.1))), (45, .sl false (L cApi_Value v_176.L)), (46, i64 ((v_176.L.length : Int))), (47, i64 t_346)]) (σ' := [.box [i64 f_368, i64 f_369, .sl false (L cU8 f_370), .sl false (L cApi_Value f_371)] false]) ⟨_, orcs_nil, ?_⟩ ?_
                  · simp only [go_sem, reduceIte, Nat.reduceLT, Nat.reduceEqDiff, Nat.reduceAdd, Nat.reduceBEq, Nat.reduceMul, Nat.reduceSub, Nat.reduceGT, Nat.reducePow, Nat.reduceLeDiff, Int.reduceToNat]
                  refine blockK_n ?_
                  refine thenK_n ?_
                  refine run_textE0 hE wk_lp [2, 45, 46, 47] (fr' := [(2, i64 ((mx64 depth_345 y_376.1))), (45, .sl false (L cApi_Value v_176.L)), (46, i64 ((v_176.L.length : Int))), (47, i64 ((w64 (t_346 + 1))))]) (σ' := [.box [i64 f_368, i64 f_369, .sl false (L cU8 f_370), .sl false (L cApi_Value f_371)] false]) ⟨_, orcs_nil, ?_⟩ ?_
                  · simp only [go_sem, reduceIte, Nat.reduceLT, Nat.reduceEqDiff, Nat.reduceAdd, Nat.reduceBEq, Nat.reduceMul, Nat.reduceSub, Nat.reduceGT, Nat.reducePow, Nat.reduceLeDiff, Int.reduceToNat]
                  obtain rfl := Option.some.inj h
                  exact lpK_n (((mx64 depth_345 y_376.1), (w64 (t_346 + 1)))) rfl (weak_sel [] (by decide) rfl (by simp only [go_sem, reduceIte, Nat.reduceLT, Nat.reduceEqDiff, Nat.reduceAdd, Nat.reduceBEq, Nat.reduceMul, Nat.reduceSub, Nat.reduceGT, Nat.reducePow, Nat.reduceLeDiff, Int.reduceToNat]) (by simp only [go_sem, reduceIte, Nat.reduceLT, Nat.reduceEqDiff, Nat.reduceAdd, Nat.reduceBEq, Nat.reduceMul, Nat.reduceSub, Nat.reduceGT, Nat.reducePow, Nat.reduceLeDiff, Int.reduceToNat]))
              · replace h := ite_f h hb
                refine run_exit ?_
                refine thenK_x ?_
                obtain rfl := Option.some.inj h
                have ex_x_362 := hxx_366 _ rfl
                subst ex_x_362
                have h := hj_364; clear hj_364
                refine lpK_x ?_
                refine blockK_x ?_
                obtain rfl := Option.some.inj h
                exact joinK_n depth_345 rfl ((weak_sel (l' := [(2, i64 depth_345)]) (σ' := []) [] (by decide) rfl (by simp only [go_sem, reduceIte, Nat.reduceLT, Nat.reduceEqDiff, Nat.reduceAdd, Nat.reduceBEq, Nat.reduceMul, Nat.reduceSub, Nat.reduceGT, Nat.reducePow, Nat.reduceLeDiff, Int.reduceToNat]) (by simp only [go_sem, reduceIte, Nat.reduceLT, Nat.reduceEqDiff, Nat.reduceAdd, Nat.reduceBEq, Nat.reduceMul, Nat.reduceSub, Nat.reduceGT, Nat.reducePow, Nat.reduceLeDiff, Int.reduceToNat])).trans (weak_sel [] (by decide) rfl (by simp only [go_sem, reduceIte, Nat.reduceLT, Nat.reduceEqDiff, Nat.reduceAdd, Nat.reduceBEq, Nat.reduceMul, Nat.reduceSub, Nat.reduceGT, Nat.reducePow, Nat.reduceLeDiff, Int.reduceToNat]) (by simp only [go_sem, reduceIte, Nat.reduceLT, Nat.reduceEqDiff, Nat.reduceAdd, Nat.reduceBEq, Nat.reduceMul, Nat.reduceSub, Nat.reduceGT, Nat.reducePow, Nat.reduceLeDiff, Int.reduceToNat])))
            rintro depth_335 rfl
            have h := hj_338; clear hj_338
            refine run_textE hE [2, 3] (fr' := [(2, i64 ((w64 (depth_335 + 1)))), (3, .bool true)]) (σ' := []) ⟨_, orcs_nil, ?_⟩ ?_
            · simp only [go_sem, reduceIte, Nat.reduceLT, Nat.reduceEqDiff, Nat.reduceAdd, Nat.reduceBEq, Nat.reduceMul, Nat.reduceSub, Nat.reduceGT, Nat.reducePow, Nat.reduceLeDiff, Int.reduceToNat]
            refine run_ret ?_
            refine blockK_r ?_
            refine joinK_r ?_
            replace h := bind_some1 h; obtain ⟨z_381, h, e_z_381⟩ := h
            obtain rfl := Option.some.inj e_z_381
            obtain rfl := Option.some.inj hj_280
            obtain rfl := Option.some.inj h
            refine ret_ok (.inr rfl) ?_
            simp only [go_sem, reduceIte, Nat.reduceLT, Nat.reduceEqDiff, Nat.reduceAdd, Nat.reduceBEq, Nat.reduceMul, Nat.reduceSub, Nat.reduceGT, Nat.reducePow, Nat.reduceLeDiff, Int.reduceToNat]
        · replace h := ite_f h hb
          refine run_skip ?_
          refine blockK_n ?_
          obtain rfl := Option.some.inj h
          exact joinK_n (()) rfl (weak_sel [] (by decide) rfl (by simp only [go_sem, reduceIte, Nat.reduceLT, Nat.reduceEqDiff, Nat.reduceAdd, Nat.reduceBEq, Nat.reduceMul, Nat.reduceSub, Nat.reduceGT, Nat.reducePow, Nat.reduceLeDiff, Int.reduceToNat]) (by simp only [go_sem, reduceIte, Nat.reduceLT, Nat.reduceEqDiff, Nat.reduceAdd, Nat.reduceBEq, Nat.reduceMul, Nat.reduceSub, Nat.reduceGT, Nat.reducePow, Nat.reduceLeDiff, Int.reduceToNat]))
  rintro ⟨⟩ rfl
  have h := hj_280; clear hj_280
  refine run_textE hE [2, 3] (fr' := [(2, i64 0), (3, .bool false)]) (σ' := []) ⟨_, orcs_nil, ?_⟩ ?_
  · simp only [go_sem, reduceIte, Nat.reduceLT, Nat.reduceEqDiff, Nat.reduceAdd, Nat.reduceBEq, Nat.reduceMul, Nat.reduceSub, Nat.reduceGT, Nat.reducePow, Nat.reduceLeDiff, Int.reduceToNat]
  refine run_ret ?_
  obtain rfl := Option.some.inj h
  refine ret_ok (.inr rfl) ?_
  simp only [go_sem, reduceIte, Nat.reduceLT, Nat.reduceEqDiff, Nat.reduceAdd, Nat.reduceBEq, Nat.reduceMul, Nat.reduceSub, Nat.reduceGT, Nat.reducePow, Nat.reduceLeDiff, Int.reduceToNat]
theorem codec_shape_n_con (n : Nat) : ∀ {v_176 : Api_Value} {r : Int × Bool}, codec_shape_n n v_176 = some r → Con B 31 [.agg [i64 v_176.Kind, i64 v_176.N, .sl false (L cU8 v_176.B), .sl false (L cApi_Value v_176.L)]] [] (fun r' σ' => r' = .tup [i64 r.1, .bool r.2] ∧ σ' = []) := by
  induction n with
  | zero => intro v_176 r h; cases h
  | succ n ih => intro v_176 r h; exact codec_shape_F_con ih h
theorem codec_shape_con {v_176 : Api_Value} {r : Int × Bool} (h : codec_shape v_176 = some r) : Con B 31 [.agg [i64 v_176.Kind, i64 v_176.N, .sl false (L cU8 v_176.B), .sl false (L cApi_Value v_176.L)]] [] (fun r' σ' => r' = .tup [i64 r.1, .bool r.2] ∧ σ' = []) := codec_shape_n_con _ h

end Go.Proofs.YtgdiabbgiiemcaaDoor
