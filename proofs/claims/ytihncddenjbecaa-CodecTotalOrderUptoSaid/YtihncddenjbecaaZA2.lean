/-
  The library and the walks, part 2.
-/
import Derived.Test.YtihncddenjbecaaZA1
import Derived.KernelRfl
/-
  The functions compute just that.
-/
namespace Go.Proofs.Ytihncddenjbecaa
open Go.Rv
set_option linter.unusedVariables false
set_option linter.unusedSimpArgs false
set_option maxRecDepth 20000

theorem r01_Nesting_F_con {rec_ : Api_Value → Option (Int)} (hrec : ∀ {v_1202 : Api_Value} {r : Int}, rec_ v_1202 = some r → Con B 28 [.agg [i64 v_1202.Kind, i64 v_1202.N, .sl false (L cU8 v_1202.B), .sl false (L cApi_Value v_1202.L)]] [] (fun r' σ' => r' = i64 r ∧ σ' = [])) {v_1202 : Api_Value} {r : Int} (h : r01_Nesting_F rec_ v_1202 = some r) : Con B 28 [.agg [i64 v_1202.Kind, i64 v_1202.N, .sl false (L cU8 v_1202.B), .sl false (L cApi_Value v_1202.L)]] [] (fun r' σ' => r' = i64 r ∧ σ' = []) := by
  refine con_walk (N := 26) (rs := [.tmp 2]) ok Try.func28 rfl (by decide +kernel) rfl rfl (Nat.le_of_ble_eq_true rfl) (fun F => ?_)
  have hE := ok.env F
  unfold r01_Nesting_F at h
  show Run (B.env F) 0 _ ⟨asFr 26 [(0, .agg [i64 v_1202.Kind, i64 v_1202.N, .sl false (L cU8 v_1202.B), .sl false (L cApi_Value v_1202.L)])], []⟩ _
  refine run_textE hE [1] (fr' := [(1, .ref 0 0)]) (σ' := [.box [i64 v_1202.Kind, i64 v_1202.N, .sl false (L cU8 v_1202.B), .sl false (L cApi_Value v_1202.L)] false]) ⟨_, orcs_nil, ?_⟩ ?_
  · simp only [go_sem, reduceIte, Nat.reduceLT, Nat.reduceEqDiff, Nat.reduceAdd, Nat.reduceBEq, Nat.reduceMul, Nat.reduceSub, Nat.reduceGT, Nat.reducePow, Nat.reduceLeDiff, Int.reduceToNat]
  refine run_textE hE [1, 3] (fr' := [(1, .ref 0 0), (3, i64 0)]) (σ' := [.box [i64 v_1202.Kind, i64 v_1202.N, .sl false (L cU8 v_1202.B), .sl false (L cApi_Value v_1202.L)] false]) ⟨_, orcs_nil, ?_⟩ ?_
  · simp only [go_sem, reduceIte, Nat.reduceLT, Nat.reduceEqDiff, Nat.reduceAdd, Nat.reduceBEq, Nat.reduceMul, Nat.reduceSub, Nat.reduceGT, Nat.reducePow, Nat.reduceLeDiff, Int.reduceToNat]
  replace h := bind_some1 h; obtain ⟨j_1221, hA_1222, hj_1223⟩ := h
  refine run_join (fun (v : Int) => (⟨asFr 26 [(1, .ref 0 0), (3, i64 v)], [.box [i64 v_1202.Kind, i64 v_1202.N, .sl false (L cU8 v_1202.B), .sl false (L cApi_Value v_1202.L)] false]⟩ : St)) (fun v => v = j_1221) ?_ ?_
  · have h := hA_1222; clear hA_1222
    refine run_textE hE [1, 3, 4] (fr' := [(1, .ref 0 0), (3, i64 0), (4, i64 0)]) (σ' := [.box [i64 v_1202.Kind, i64 v_1202.N, .sl false (L cU8 v_1202.B), .sl false (L cApi_Value v_1202.L)] false]) ⟨_, orcs_nil, ?_⟩ ?_
    · simp only [go_sem, reduceIte, Nat.reduceLT, Nat.reduceEqDiff, Nat.reduceAdd, Nat.reduceBEq, Nat.reduceMul, Nat.reduceSub, Nat.reduceGT, Nat.reducePow, Nat.reduceLeDiff, Int.reduceToNat]
    refine run_block ?_
    replace h := bind_some1 h; obtain ⟨x_1233, hx_1234, hj_1235⟩ := h
    refine run_loopO hx_1234 (fun (v : Int × Int) => (⟨asFr 26 [(1, .ref 0 0), (3, i64 v.1), (4, i64 v.2)], [.box [i64 v_1202.Kind, i64 v_1202.N, .sl false (L cU8 v_1202.B), .sl false (L cApi_Value v_1202.L)] false]⟩ : St)) (weak_sel [0] (by decide) rfl (by simp only [go_sem, reduceIte, Nat.reduceLT, Nat.reduceEqDiff, Nat.reduceAdd, Nat.reduceBEq, Nat.reduceMul, Nat.reduceSub, Nat.reduceGT, Nat.reducePow, Nat.reduceLeDiff, Int.reduceToNat]) (by simp only [go_sem, reduceIte, Nat.reduceLT, Nat.reduceEqDiff, Nat.reduceAdd, Nat.reduceBEq, Nat.reduceMul, Nat.reduceSub, Nat.reduceGT, Nat.reducePow, Nat.reduceLeDiff, Int.reduceToNat])) ?_
    rintro ⟨n_1227, i_1228⟩ o_1236 h hxx_1237
    replace h : r01_Nesting_b1 v_1202 rec_ n_1227 i_1228 = some o_1236 := h
    unfold r01_Nesting_b1 at h
    refine run_seq ?_
    refine run_textE hE [1, 3, 4, 9] (fr' := [(1, .ref 0 0), (3, i64 n_1227), (4, i64 i_1228), (9, .bool ((decide (i_1228 < (v_1202.L.length : Int)))))]) (σ' := [.box [i64 v_1202.Kind, i64 v_1202.N, .sl false (L cU8 v_1202.B), .sl false (L cApi_Value v_1202.L)] false]) ⟨_, orcs_nil, ?_⟩ ?_
    · simp only [go_sem, reduceIte, Nat.reduceLT, Nat.reduceEqDiff, Nat.reduceAdd, Nat.reduceBEq, Nat.reduceMul, Nat.reduceSub, Nat.reduceGT, Nat.reducePow, Nat.reduceLeDiff, Int.reduceToNat]
    refine run_condL (b := (decide (i_1228 < (v_1202.L.length : Int)))) rfl (by decide) (fun hb => ?_) (fun hb => ?_)
    · replace h := ite_t h hb
      refine run_skip ?_
      refine thenK_n ?_
      refine run_seq ?_
      refine run_block ?_
      replace h := chk_some h; obtain ⟨hc_1239, h⟩ := h
      replace h := bind_some1 h; obtain ⟨y_1238, hy_1240, h⟩ := h
      refine run_textE0 hE (wk_block wk_then) [1, 3, 4] (fr' := [(1, .ref 0 0), (3, i64 ((mx64 n_1227 y_1238))), (4, i64 i_1228)]) (σ' := [.box [i64 v_1202.Kind, i64 v_1202.N, .sl false (L cU8 v_1202.B), .sl false (L cApi_Value v_1202.L)] false]) ⟨_, orcs_ok (l := [(18, 28, [.agg [i64 ((nth v_1202.L i_1228.toNat).Kind), i64 ((nth v_1202.L i_1228.toNat).N), .sl false (L cU8 ((nth v_1202.L i_1228.toNat).B)), .sl false (L cApi_Value ((nth v_1202.L i_1228.toNat).L))]], i64 y_1238)]) ⟨hrec  hy_1240, trivial⟩, ?_⟩ ?_
      · simp only [go_sem, reduceIte, Nat.reduceLT, Nat.reduceEqDiff, Nat.reduceAdd, Nat.reduceBEq, Nat.reduceMul, Nat.reduceSub, Nat.reduceGT, Nat.reducePow, Nat.reduceLeDiff, Int.reduceToNat, hc_1239, hc_1239.2, lt_le hc_1239.2]
      refine blockK_n ?_
      refine thenK_n ?_
      refine run_textE0 hE wk_lp [1, 3, 4] (fr' := [(1, .ref 0 0), (3, i64 ((mx64 n_1227 y_1238))), (4, i64 ((w64 (i_1228 + 1))))]) (σ' := [.box [i64 v_1202.Kind, i64 v_1202.N, .sl false (L cU8 v_1202.B), .sl false (L cApi_Value v_1202.L)] false]) ⟨_, orcs_nil, ?_⟩ ?_
      · simp only [go_sem, reduceIte, Nat.reduceLT, Nat.reduceEqDiff, Nat.reduceAdd, Nat.reduceBEq, Nat.reduceMul, Nat.reduceSub, Nat.reduceGT, Nat.reducePow, Nat.reduceLeDiff, Int.reduceToNat]
      obtain rfl := Option.some.inj h
      exact lpK_n (((mx64 n_1227 y_1238), (w64 (i_1228 + 1)))) rfl (weak_sel [0] (by decide) rfl (by simp only [go_sem, reduceIte, Nat.reduceLT, Nat.reduceEqDiff, Nat.reduceAdd, Nat.reduceBEq, Nat.reduceMul, Nat.reduceSub, Nat.reduceGT, Nat.reducePow, Nat.reduceLeDiff, Int.reduceToNat]) (by simp only [go_sem, reduceIte, Nat.reduceLT, Nat.reduceEqDiff, Nat.reduceAdd, Nat.reduceBEq, Nat.reduceMul, Nat.reduceSub, Nat.reduceGT, Nat.reducePow, Nat.reduceLeDiff, Int.reduceToNat]))
    · replace h := ite_f h hb
      refine run_exit ?_
      refine thenK_x ?_
      obtain rfl := Option.some.inj h
      have ex_x_1233 := hxx_1237 _ rfl
      subst ex_x_1233
      have h := hj_1235; clear hj_1235
      refine lpK_x ?_
      refine blockK_x ?_
      obtain rfl := Option.some.inj h
      exact joinK_n n_1227 rfl ((weak_sel (l' := [(1, .ref 0 0), (3, i64 n_1227)]) (σ' := [.box [i64 v_1202.Kind, i64 v_1202.N, .sl false (L cU8 v_1202.B), .sl false (L cApi_Value v_1202.L)] false]) [0] (by decide) rfl (by simp only [go_sem, reduceIte, Nat.reduceLT, Nat.reduceEqDiff, Nat.reduceAdd, Nat.reduceBEq, Nat.reduceMul, Nat.reduceSub, Nat.reduceGT, Nat.reducePow, Nat.reduceLeDiff, Int.reduceToNat]) (by simp only [go_sem, reduceIte, Nat.reduceLT, Nat.reduceEqDiff, Nat.reduceAdd, Nat.reduceBEq, Nat.reduceMul, Nat.reduceSub, Nat.reduceGT, Nat.reducePow, Nat.reduceLeDiff, Int.reduceToNat])).trans (weak_sel [0] (by decide) rfl (by simp only [go_sem, reduceIte, Nat.reduceLT, Nat.reduceEqDiff, Nat.reduceAdd, Nat.reduceBEq, Nat.reduceMul, Nat.reduceSub, Nat.reduceGT, Nat.reducePow, Nat.reduceLeDiff, Int.reduceToNat]) (by simp only [go_sem, reduceIte, Nat.reduceLT, Nat.reduceEqDiff, Nat.reduceAdd, Nat.reduceBEq, Nat.reduceMul, Nat.reduceSub, Nat.reduceGT, Nat.reducePow, Nat.reduceLeDiff, Int.reduceToNat])))
  rintro n_1220 rfl
  have h := hj_1223; clear hj_1223
  refine run_seq ?_
  refine run_textE hE [3, 22] (fr' := [(3, i64 n_1220), (22, .bool ((v_1202.Kind == 3)))]) (σ' := [.box [i64 v_1202.Kind, i64 v_1202.N, .sl false (L cU8 v_1202.B), .sl false (L cApi_Value v_1202.L)] false]) ⟨_, orcs_nil, ?_⟩ ?_
  · simp only [go_sem, reduceIte, Nat.reduceLT, Nat.reduceEqDiff, Nat.reduceAdd, Nat.reduceBEq, Nat.reduceMul, Nat.reduceSub, Nat.reduceGT, Nat.reducePow, Nat.reduceLeDiff, Int.reduceToNat]
  refine run_condL (b := (v_1202.Kind == 3)) rfl (by decide) (fun hb => ?_) (fun hb => ?_)
  · replace h := ite_t h hb
    refine run_textE hE [2] (fr' := [(2, i64 ((w64 (n_1220 + 1))))]) (σ' := [.box [i64 v_1202.Kind, i64 v_1202.N, .sl false (L cU8 v_1202.B), .sl false (L cApi_Value v_1202.L)] false]) ⟨_, orcs_nil, ?_⟩ ?_
    · simp only [go_sem, reduceIte, Nat.reduceLT, Nat.reduceEqDiff, Nat.reduceAdd, Nat.reduceBEq, Nat.reduceMul, Nat.reduceSub, Nat.reduceGT, Nat.reducePow, Nat.reduceLeDiff, Int.reduceToNat]
    refine run_ret ?_
    refine thenK_r ?_
    obtain rfl := Option.some.inj h
    refine ret_ok (.inr rfl) ?_
    simp only [go_sem, reduceIte, Nat.reduceLT, Nat.reduceEqDiff, Nat.reduceAdd, Nat.reduceBEq, Nat.reduceMul, Nat.reduceSub, Nat.reduceGT, Nat.reducePow, Nat.reduceLeDiff, Int.reduceToNat]
  · replace h := ite_f h hb
    refine run_skip ?_
    refine thenK_n ?_
    refine run_textE hE [2] (fr' := [(2, i64 n_1220)]) (σ' := [.box [i64 v_1202.Kind, i64 v_1202.N, .sl false (L cU8 v_1202.B), .sl false (L cApi_Value v_1202.L)] false]) ⟨_, orcs_nil, ?_⟩ ?_
    · simp only [go_sem, reduceIte, Nat.reduceLT, Nat.reduceEqDiff, Nat.reduceAdd, Nat.reduceBEq, Nat.reduceMul, Nat.reduceSub, Nat.reduceGT, Nat.reducePow, Nat.reduceLeDiff, Int.reduceToNat]
    refine run_ret ?_
    obtain rfl := Option.some.inj h
    refine ret_ok (.inr rfl) ?_
    simp only [go_sem, reduceIte, Nat.reduceLT, Nat.reduceEqDiff, Nat.reduceAdd, Nat.reduceBEq, Nat.reduceMul, Nat.reduceSub, Nat.reduceGT, Nat.reducePow, Nat.reduceLeDiff, Int.reduceToNat]
theorem r01_Nesting_n_con (n : Nat) : ∀ {v_1202 : Api_Value} {r : Int}, r01_Nesting_n n v_1202 = some r → Con B 28 [.agg [i64 v_1202.Kind, i64 v_1202.N, .sl false (L cU8 v_1202.B), .sl false (L cApi_Value v_1202.L)]] [] (fun r' σ' => r' = i64 r ∧ σ' = []) := by
  induction n with
  | zero => intro v_1202 r h; cases h
  | succ n ih => intro v_1202 r h; exact r01_Nesting_F_con ih h
theorem r01_Nesting_con {v_1202 : Api_Value} {r : Int} (h : r01_Nesting v_1202 = some r) : Con B 28 [.agg [i64 v_1202.Kind, i64 v_1202.N, .sl false (L cU8 v_1202.B), .sl false (L cApi_Value v_1202.L)]] [] (fun r' σ' => r' = i64 r ∧ σ' = []) := r01_Nesting_n_con _ h

theorem r01_digits_con {n_1241 : Int} {r : List UInt8} (h : r01_digits n_1241 = some r) : Con B 55 [i64 n_1241] [] (fun r' σ' => r' = .sl false (L cU8 r) ∧ σ' = []) := by
  refine con_walk (N := 27) (rs := [.tmp 2]) ok Try.func55 rfl (by decide +kernel) rfl rfl (Nat.le_of_ble_eq_true rfl) (fun F => ?_)
  have hE := ok.env F
  unfold r01_digits at h
  show Run (B.env F) 0 _ ⟨asFr 27 [(0, i64 n_1241)], []⟩ _
  refine run_textE hE [0] (fr' := [(0, i64 n_1241)]) (σ' := []) ⟨_, orcs_nil, ?_⟩ ?_
  · simp only [go_sem, reduceIte, Nat.reduceLT, Nat.reduceEqDiff, Nat.reduceAdd, Nat.reduceBEq, Nat.reduceMul, Nat.reduceSub, Nat.reduceGT, Nat.reducePow, Nat.reduceLeDiff, Int.reduceToNat]
  replace h := lt1_some h; obtain ⟨l_1242, hz_1243, h⟩ := h
  refine run_textE hE [0, 3] (fr' := [(0, i64 n_1241), (3, .bs true 0 (l_1242.length) 0 (l_1242.length))]) (σ' := [.buf 1 (L cU8 l_1242) false]) ⟨_, orcs_nil, ?_⟩ ?_
  · subst hz_1243; simp only [go_sem, reduceIte, Nat.reduceLT, Nat.reduceEqDiff, Nat.reduceAdd, Nat.reduceBEq, Nat.reduceMul, Nat.reduceSub, Nat.reduceGT, Nat.reducePow, Nat.reduceLeDiff, Int.reduceToNat]
  replace h := bind_some1 h; obtain ⟨j_1319, hA_1320, hj_1321⟩ := h
  refine run_join (fun (v : List UInt8) => (⟨asFr 27 [(3, .bs false 0 (v.length) 0 (v.length))], [.buf 1 (L cU8 v) false]⟩ : St)) (fun v => v = j_1319) ?_ ?_
  · have h := hA_1320; clear hA_1320
    refine run_textE hE [0, 3, 4] (fr' := [(0, i64 n_1241), (3, .bs true 0 (l_1242.length) 0 (l_1242.length)), (4, i64 56)]) (σ' := [.buf 1 (L cU8 l_1242) false]) ⟨_, orcs_nil, ?_⟩ ?_
    · simp only [go_sem, reduceIte, Nat.reduceLT, Nat.reduceEqDiff, Nat.reduceAdd, Nat.reduceBEq, Nat.reduceMul, Nat.reduceSub, Nat.reduceGT, Nat.reducePow, Nat.reduceLeDiff, Int.reduceToNat]
    refine run_block ?_
    replace h := bind_some1 h; obtain ⟨x_1369, hx_1370, hj_1371⟩ := h
    refine run_loopO hx_1370 (fun (v : Int × List UInt8) => (⟨asFr 27 [(0, i64 n_1241), (3, .bs false 0 (v.2.length) 0 (v.2.length)), (4, i64 v.1)], [.buf 1 (L cU8 v.2) false]⟩ : St)) (weak_sel [0] (by decide) rfl (by simp only [go_sem, reduceIte, Nat.reduceLT, Nat.reduceEqDiff, Nat.reduceAdd, Nat.reduceBEq, Nat.reduceMul, Nat.reduceSub, Nat.reduceGT, Nat.reducePow, Nat.reduceLeDiff, Int.reduceToNat]) (by simp only [go_sem, reduceIte, Nat.reduceLT, Nat.reduceEqDiff, Nat.reduceAdd, Nat.reduceBEq, Nat.reduceMul, Nat.reduceSub, Nat.reduceGT, Nat.reducePow, Nat.reduceLeDiff, Int.reduceToNat])) ?_
    rintro ⟨s_1344, l_1345⟩ o_1372 h hxx_1373
    replace h : r01_digits_b1 n_1241 s_1344 l_1345 = some o_1372 := h
    unfold r01_digits_b1 at h
    refine run_seq ?_
    refine run_textE hE [0, 3, 4, 8] (fr' := [(0, i64 n_1241), (3, .bs false 0 (l_1345.length) 0 (l_1345.length)), (4, i64 s_1344), (8, .bool ((decide (s_1344 ≥ 0))))]) (σ' := [.buf 1 (L cU8 l_1345) false]) ⟨_, orcs_nil, ?_⟩ ?_
    · simp only [go_sem, reduceIte, Nat.reduceLT, Nat.reduceEqDiff, Nat.reduceAdd, Nat.reduceBEq, Nat.reduceMul, Nat.reduceSub, Nat.reduceGT, Nat.reducePow, Nat.reduceLeDiff, Int.reduceToNat]
    refine run_condL (b := (decide (s_1344 ≥ 0))) rfl (by decide) (fun hb => ?_) (fun hb => ?_)
    · replace h := ite_t h hb
      refine run_skip ?_
      refine thenK_n ?_
      replace h := bind_some1 h; obtain ⟨j_1384, hA_1385, hj_1386⟩ := h
      refine run_join (fun (v : List UInt8) => (⟨asFr 27 [(0, i64 n_1241), (3, .bs false 0 (v.length) 0 (v.length)), (4, i64 s_1344)], [.buf 1 (L cU8 v) false]⟩ : St)) (fun v => v = j_1384) ?_ ?_
      · have h := hA_1385; clear hA_1385
        refine run_block ?_
        replace h := chk_some h; obtain ⟨hc_1387, h⟩ := h
        replace h := lt1_some h; obtain ⟨b_1388, hz_1389, h⟩ := h
        refine run_textE hE [0, 3, 4, 5] (fr' := [(0, i64 n_1241), (3, .bs false 0 (l_1345.length) 0 (l_1345.length)), (4, i64 s_1344), (5, u8 b_1388)]) (σ' := [.buf 1 (L cU8 l_1345) false]) ⟨_, orcs_nil, ?_⟩ ?_
        · subst hz_1389; simp only [go_sem, reduceIte, Nat.reduceLT, Nat.reduceEqDiff, Nat.reduceAdd, Nat.reduceBEq, Nat.reduceMul, Nat.reduceSub, Nat.reduceGT, Nat.reducePow, Nat.reduceLeDiff, Int.reduceToNat, hc_1387]
        replace h := bind_some1 h; obtain ⟨t_1390, hv_1391, h⟩ := h
        refine run_textW hE [0, 3, 4, 5, 21] (fr' := [(0, i64 n_1241), (3, .bs false 0 (l_1345.length) 0 (l_1345.length)), (4, i64 s_1344), (5, u8 b_1388), (21, .bool t_1390)]) (σ' := [.buf 1 (L cU8 l_1345) false]) ?_ ?_
        · rcases Bool.eq_false_or_eq_true ((b_1388 != (0 : UInt8))) with hb_1392 | hb_1392
          · replace hv_1391 := ite_t hv_1391 hb_1392
            have e_hv_1391 := Option.some.inj hv_1391; subst e_hv_1391
            exact ⟨_, [(0, i64 n_1241), (3, .bs false 0 (l_1345.length) 0 (l_1345.length)), (4, i64 s_1344), (5, u8 b_1388), (21, .bool true)], [.buf 1 (L cU8 l_1345) false], orcs_nil, by simp only [go_sem, reduceIte, Nat.reduceLT, Nat.reduceEqDiff, Nat.reduceAdd, Nat.reduceBEq, Nat.reduceMul, Nat.reduceSub, Nat.reduceGT, Nat.reducePow, Nat.reduceLeDiff, Int.reduceToNat, hb_1392], (weak_sel [0] (by decide) rfl (by simp only [go_sem, reduceIte, Nat.reduceLT, Nat.reduceEqDiff, Nat.reduceAdd, Nat.reduceBEq, Nat.reduceMul, Nat.reduceSub, Nat.reduceGT, Nat.reducePow, Nat.reduceLeDiff, Int.reduceToNat]) (by simp only [go_sem, reduceIte, Nat.reduceLT, Nat.reduceEqDiff, Nat.reduceAdd, Nat.reduceBEq, Nat.reduceMul, Nat.reduceSub, Nat.reduceGT, Nat.reducePow, Nat.reduceLeDiff, Int.reduceToNat]))⟩
          · replace hv_1391 := ite_f hv_1391 hb_1392
            have e_hv_1391 := Option.some.inj hv_1391; subst e_hv_1391
            exact ⟨_, [(0, i64 n_1241), (3, .bs false 0 (l_1345.length) 0 (l_1345.length)), (4, i64 s_1344), (5, u8 b_1388), (21, .bool ((decide ((l_1345.length : Int) > 0))))], [.buf 1 (L cU8 l_1345) false], orcs_nil, by simp only [go_sem, reduceIte, Nat.reduceLT, Nat.reduceEqDiff, Nat.reduceAdd, Nat.reduceBEq, Nat.reduceMul, Nat.reduceSub, Nat.reduceGT, Nat.reducePow, Nat.reduceLeDiff, Int.reduceToNat, hb_1392], (weak_sel [0] (by decide) rfl (by simp only [go_sem, reduceIte, Nat.reduceLT, Nat.reduceEqDiff, Nat.reduceAdd, Nat.reduceBEq, Nat.reduceMul, Nat.reduceSub, Nat.reduceGT, Nat.reducePow, Nat.reduceLeDiff, Int.reduceToNat]) (by simp only [go_sem, reduceIte, Nat.reduceLT, Nat.reduceEqDiff, Nat.reduceAdd, Nat.reduceBEq, Nat.reduceMul, Nat.reduceSub, Nat.reduceGT, Nat.reducePow, Nat.reduceLeDiff, Int.reduceToNat]))⟩
        refine run_condL (b := t_1390) rfl (by decide) (fun hb => ?_) (fun hb => ?_)
        · replace h := ite_t h hb
          replace h := chk_some h; obtain ⟨hc_1393, h⟩ := h
          replace h := lt1_some h; obtain ⟨l_1394, hz_1395, h⟩ := h
          refine run_textE0 hE (wk_block wk_join) [0, 3, 4] (fr' := [(0, i64 n_1241), (3, .bs false 0 (l_1394.length) 0 (l_1394.length)), (4, i64 s_1344)]) (σ' := [.buf 1 (L cU8 l_1394) false, .buf 1 (L cU8 (([b_1388] : List UInt8))) false]) ⟨_, orcs_nil, ?_⟩ ?_
          · subst hz_1395; simp only [go_sem, reduceIte, Nat.reduceLT, Nat.reduceEqDiff, Nat.reduceAdd, Nat.reduceBEq, Nat.reduceMul, Nat.reduceSub, Nat.reduceGT, Nat.reducePow, Nat.reduceLeDiff, Int.reduceToNat, hc_1393]
          refine blockK_n ?_
          obtain rfl := Option.some.inj h
          exact joinK_n l_1394 rfl (weak_sel [0] (by decide) rfl (by simp only [go_sem, reduceIte, Nat.reduceLT, Nat.reduceEqDiff, Nat.reduceAdd, Nat.reduceBEq, Nat.reduceMul, Nat.reduceSub, Nat.reduceGT, Nat.reducePow, Nat.reduceLeDiff, Int.reduceToNat]) (by simp only [go_sem, reduceIte, Nat.reduceLT, Nat.reduceEqDiff, Nat.reduceAdd, Nat.reduceBEq, Nat.reduceMul, Nat.reduceSub, Nat.reduceGT, Nat.reducePow, Nat.reduceLeDiff, Int.reduceToNat]))
        · replace h := ite_f h hb
          refine run_skip ?_
          refine blockK_n ?_
          obtain rfl := Option.some.inj h
          exact joinK_n l_1345 rfl (weak_sel [0] (by decide) rfl (by simp only [go_sem, reduceIte, Nat.reduceLT, Nat.reduceEqDiff, Nat.reduceAdd, Nat.reduceBEq, Nat.reduceMul, Nat.reduceSub, Nat.reduceGT, Nat.reducePow, Nat.reduceLeDiff, Int.reduceToNat]) (by simp only [go_sem, reduceIte, Nat.reduceLT, Nat.reduceEqDiff, Nat.reduceAdd, Nat.reduceBEq, Nat.reduceMul, Nat.reduceSub, Nat.reduceGT, Nat.reducePow, Nat.reduceLeDiff, Int.reduceToNat]))
      rintro l_1383 rfl
      have h := hj_1386; clear hj_1386
      refine run_textE0 hE wk_lp [0, 3, 4] (fr' := [(0, i64 n_1241), (3, .bs false 0 (l_1383.length) 0 (l_1383.length)), (4, i64 ((w64 (s_1344 - 8))))]) (σ' := [.buf 1 (L cU8 l_1383) false]) ⟨_, orcs_nil, ?_⟩ ?_
      · simp only [go_sem, reduceIte, Nat.reduceLT, Nat.reduceEqDiff, Nat.reduceAdd, Nat.reduceBEq, Nat.reduceMul, Nat.reduceSub, Nat.reduceGT, Nat.reducePow, Nat.reduceLeDiff, Int.reduceToNat]
      obtain rfl := Option.some.inj h
      exact lpK_n (((w64 (s_1344 - 8)), l_1383)) rfl (weak_sel [0] (by decide) rfl (by simp only [go_sem, reduceIte, Nat.reduceLT, Nat.reduceEqDiff, Nat.reduceAdd, Nat.reduceBEq, Nat.reduceMul, Nat.reduceSub, Nat.reduceGT, Nat.reducePow, Nat.reduceLeDiff, Int.reduceToNat]) (by simp only [go_sem, reduceIte, Nat.reduceLT, Nat.reduceEqDiff, Nat.reduceAdd, Nat.reduceBEq, Nat.reduceMul, Nat.reduceSub, Nat.reduceGT, Nat.reducePow, Nat.reduceLeDiff, Int.reduceToNat]))
    · replace h := ite_f h hb
      refine run_exit ?_
      refine thenK_x ?_
      obtain rfl := Option.some.inj h
      have ex_x_1369 := hxx_1373 _ rfl
      subst ex_x_1369
      have h := hj_1371; clear hj_1371
      refine lpK_x ?_
      refine blockK_x ?_
      obtain rfl := Option.some.inj h
      exact joinK_n l_1345 rfl ((weak_sel (l' := [(3, .bs false 0 (l_1345.length) 0 (l_1345.length))]) (σ' := [.buf 1 (L cU8 l_1345) false]) [0] (by decide) rfl (by simp only [go_sem, reduceIte, Nat.reduceLT, Nat.reduceEqDiff, Nat.reduceAdd, Nat.reduceBEq, Nat.reduceMul, Nat.reduceSub, Nat.reduceGT, Nat.reducePow, Nat.reduceLeDiff, Int.reduceToNat]) (by simp only [go_sem, reduceIte, Nat.reduceLT, Nat.reduceEqDiff, Nat.reduceAdd, Nat.reduceBEq, Nat.reduceMul, Nat.reduceSub, Nat.reduceGT, Nat.reducePow, Nat.reduceLeDiff, Int.reduceToNat])).trans (weak_sel [0] (by decide) rfl (by simp only [go_sem, reduceIte, Nat.reduceLT, Nat.reduceEqDiff, Nat.reduceAdd, Nat.reduceBEq, Nat.reduceMul, Nat.reduceSub, Nat.reduceGT, Nat.reducePow, Nat.reduceLeDiff, Int.reduceToNat]) (by simp only [go_sem, reduceIte, Nat.reduceLT, Nat.reduceEqDiff, Nat.reduceAdd, Nat.reduceBEq, Nat.reduceMul, Nat.reduceSub, Nat.reduceGT, Nat.reducePow, Nat.reduceLeDiff, Int.reduceToNat])))
  rintro l_1318 rfl
  have h := hj_1321; clear hj_1321
  refine run_textE hE [2] (fr' := [(2, .bs false 0 (l_1318.length) 0 (l_1318.length))]) (σ' := [.buf 1 (L cU8 l_1318) false]) ⟨_, orcs_nil, ?_⟩ ?_
  · simp only [go_sem, reduceIte, Nat.reduceLT, Nat.reduceEqDiff, Nat.reduceAdd, Nat.reduceBEq, Nat.reduceMul, Nat.reduceSub, Nat.reduceGT, Nat.reducePow, Nat.reduceLeDiff, Int.reduceToNat]
  refine run_ret ?_
  obtain rfl := Option.some.inj h
  refine ret_ok (.inr rfl) ?_
  simp only [go_sem, reduceIte, Nat.reduceLT, Nat.reduceEqDiff, Nat.reduceAdd, Nat.reduceBEq, Nat.reduceMul, Nat.reduceSub, Nat.reduceGT, Nat.reducePow, Nat.reduceLeDiff, Int.reduceToNat]

end Go.Proofs.Ytihncddenjbecaa
/-
  The functions compute just that.
-/
namespace Go.Proofs.Ytihncddenjbecaa
open Go.Rv
set_option linter.unusedVariables false
set_option linter.unusedSimpArgs false
set_option maxRecDepth 20000

theorem r01_integer_con {n_1396 : Int} {r : List UInt8} (h : r01_integer n_1396 = some r) : Con B 46 [i64 n_1396] [] (fun r' σ' => r' = .sl false (L cU8 r) ∧ σ' = []) := by
  refine con_walk (N := 44) (rs := [.tmp 2]) ok Try.func46 rfl (by decide +kernel) rfl rfl (Nat.le_of_ble_eq_true rfl) (fun F => ?_)
  have hE := ok.env F
  unfold r01_integer at h
  show Run (B.env F) 0 _ ⟨asFr 44 [(0, i64 n_1396)], []⟩ _
  refine run_textE hE [0] (fr' := [(0, i64 n_1396)]) (σ' := []) ⟨_, orcs_nil, ?_⟩ ?_
  · simp only [go_sem, reduceIte, Nat.reduceLT, Nat.reduceEqDiff, Nat.reduceAdd, Nat.reduceBEq, Nat.reduceMul, Nat.reduceSub, Nat.reduceGT, Nat.reducePow, Nat.reduceLeDiff, Int.reduceToNat]
  refine run_seq ?_
  refine run_textE hE [0, 9] (fr' := [(0, i64 n_1396), (9, .bool ((decide (n_1396 ≥ 0))))]) (σ' := []) ⟨_, orcs_nil, ?_⟩ ?_
  · simp only [go_sem, reduceIte, Nat.reduceLT, Nat.reduceEqDiff, Nat.reduceAdd, Nat.reduceBEq, Nat.reduceMul, Nat.reduceSub, Nat.reduceGT, Nat.reducePow, Nat.reduceLeDiff, Int.reduceToNat]
  refine run_condL (b := (decide (n_1396 ≥ 0))) rfl (by decide) (fun hb => ?_) (fun hb => ?_)
  · replace h := ite_t h hb
    replace h := bind_some1 h; obtain ⟨y_1397, hy_1398, h⟩ := h
    refine run_textE hE [3] (fr' := [(3, .sl false (L cU8 y_1397))]) (σ' := []) ⟨_, orcs_ok (l := [(11, 55, [i64 n_1396], .sl false (L cU8 y_1397))]) ⟨r01_digits_con  hy_1398, trivial⟩, ?_⟩ ?_
    · simp only [go_sem, reduceIte, Nat.reduceLT, Nat.reduceEqDiff, Nat.reduceAdd, Nat.reduceBEq, Nat.reduceMul, Nat.reduceSub, Nat.reduceGT, Nat.reducePow, Nat.reduceLeDiff, Int.reduceToNat]
    replace h := lt1_some h; obtain ⟨l_1399, hz_1400, h⟩ := h
    refine run_textE hE [3, 4] (fr' := [(3, .sl false (L cU8 y_1397)), (4, .bs true 0 (l_1399.length) 0 (l_1399.length))]) (σ' := [.buf 1 (L cU8 l_1399) false]) ⟨_, orcs_nil, ?_⟩ ?_
    · subst hz_1400; simp only [go_sem, reduceIte, Nat.reduceLT, Nat.reduceEqDiff, Nat.reduceAdd, Nat.reduceBEq, Nat.reduceMul, Nat.reduceSub, Nat.reduceGT, Nat.reducePow, Nat.reduceLeDiff, Int.reduceToNat]
    replace h := chk_some h; obtain ⟨hc_1401, h⟩ := h
    replace h := lt1_some h; obtain ⟨l_1402, hz_1403, h⟩ := h
    refine run_textE hE [2] (fr' := [(2, .bs false 0 (l_1402.length) 0 (l_1402.length))]) (σ' := [.buf 1 (L cU8 l_1402) false]) ⟨_, orcs_nil, ?_⟩ ?_
    · subst hz_1403; simp only [go_sem, reduceIte, Nat.reduceLT, Nat.reduceEqDiff, Nat.reduceAdd, Nat.reduceBEq, Nat.reduceMul, Nat.reduceSub, Nat.reduceGT, Nat.reducePow, Nat.reduceLeDiff, Int.reduceToNat, hc_1401]
    refine run_ret ?_
    refine thenK_r ?_
    obtain rfl := Option.some.inj h
    refine ret_ok (.inr rfl) ?_
    simp only [go_sem, reduceIte, Nat.reduceLT, Nat.reduceEqDiff, Nat.reduceAdd, Nat.reduceBEq, Nat.reduceMul, Nat.reduceSub, Nat.reduceGT, Nat.reducePow, Nat.reduceLeDiff, Int.reduceToNat]
  · replace h := ite_f h hb
    refine run_skip ?_
    refine thenK_n ?_
    replace h := bind_some1 h; obtain ⟨y_1404, hy_1405, h⟩ := h
    refine run_textE hE [5] (fr' := [(5, .sl false (L cU8 y_1404))]) (σ' := []) ⟨_, orcs_ok (l := [(23, 55, [i64 ((w64 (0 - (w64 (n_1396 + 1)))))], .sl false (L cU8 y_1404))]) ⟨r01_digits_con  hy_1405, trivial⟩, ?_⟩ ?_
    · simp only [go_sem, reduceIte, Nat.reduceLT, Nat.reduceEqDiff, Nat.reduceAdd, Nat.reduceBEq, Nat.reduceMul, Nat.reduceSub, Nat.reduceGT, Nat.reducePow, Nat.reduceLeDiff, Int.reduceToNat]
    replace h := lt1_some h; obtain ⟨l_1406, hz_1407, h⟩ := h
    refine run_textE hE [5, 6] (fr' := [(5, .sl false (L cU8 y_1404)), (6, .bs true 0 (l_1406.length) 0 (l_1406.length))]) (σ' := [.buf 1 (L cU8 l_1406) false]) ⟨_, orcs_nil, ?_⟩ ?_
    · subst hz_1407; simp only [go_sem, reduceIte, Nat.reduceLT, Nat.reduceEqDiff, Nat.reduceAdd, Nat.reduceBEq, Nat.reduceMul, Nat.reduceSub, Nat.reduceGT, Nat.reducePow, Nat.reduceLeDiff, Int.reduceToNat]
    replace h := bind_some1 h; obtain ⟨j_1429, hA_1430, hj_1431⟩ := h
    refine run_join (fun (v : List UInt8) => (⟨asFr 44 [(6, .bs false 0 (v.length) 0 (v.length))], [.buf 1 (L cU8 v) false]⟩ : St)) (fun v => v = j_1429) ?_ ?_
    · have h := hA_1430; clear hA_1430
      refine run_textE hE [5, 6, 7] (fr' := [(5, .sl false (L cU8 y_1404)), (6, .bs true 0 (l_1406.length) 0 (l_1406.length)), (7, i64 0)]) (σ' := [.buf 1 (L cU8 l_1406) false]) ⟨_, orcs_nil, ?_⟩ ?_
      · simp only [go_sem, reduceIte, Nat.reduceLT, Nat.reduceEqDiff, Nat.reduceAdd, Nat.reduceBEq, Nat.reduceMul, Nat.reduceSub, Nat.reduceGT, Nat.reducePow, Nat.reduceLeDiff, Int.reduceToNat]
      refine run_block ?_
      replace h := bind_some1 h; obtain ⟨x_1443, hx_1444, hj_1445⟩ := h
      refine run_loopO hx_1444 (fun (v : Int × List UInt8) => (⟨asFr 44 [(5, .sl false (L cU8 y_1404)), (6, .bs false 0 (v.2.length) 0 (v.2.length)), (7, i64 v.1)], [.buf 1 (L cU8 v.2) false]⟩ : St)) (weak_sel [0] (by decide) rfl (by simp only [go_sem, reduceIte, Nat.reduceLT, Nat.reduceEqDiff, Nat.reduceAdd, Nat.reduceBEq, Nat.reduceMul, Nat.reduceSub, Nat.reduceGT, Nat.reducePow, Nat.reduceLeDiff, Int.reduceToNat]) (by simp only [go_sem, reduceIte, Nat.reduceLT, Nat.reduceEqDiff, Nat.reduceAdd, Nat.reduceBEq, Nat.reduceMul, Nat.reduceSub, Nat.reduceGT, Nat.reducePow, Nat.reduceLeDiff, Int.reduceToNat])) ?_
      rintro ⟨i_1436, l_1437⟩ o_1446 h hxx_1447
      replace h : r01_integer_b1 y_1404 i_1436 l_1437 = some o_1446 := h
      unfold r01_integer_b1 at h
      refine run_seq ?_
      refine run_textE hE [5, 6, 7, 32] (fr' := [(5, .sl false (L cU8 y_1404)), (6, .bs false 0 (l_1437.length) 0 (l_1437.length)), (7, i64 i_1436), (32, .bool ((decide (i_1436 < (y_1404.length : Int)))))]) (σ' := [.buf 1 (L cU8 l_1437) false]) ⟨_, orcs_nil, ?_⟩ ?_
      · simp only [go_sem, reduceIte, Nat.reduceLT, Nat.reduceEqDiff, Nat.reduceAdd, Nat.reduceBEq, Nat.reduceMul, Nat.reduceSub, Nat.reduceGT, Nat.reducePow, Nat.reduceLeDiff, Int.reduceToNat]
      refine run_condL (b := (decide (i_1436 < (y_1404.length : Int)))) rfl (by decide) (fun hb => ?_) (fun hb => ?_)
      · replace h := ite_t h hb
        refine run_skip ?_
        refine thenK_n ?_
        refine run_seq ?_
        refine run_block ?_
        replace h := chk_some h; obtain ⟨hc_1448, h⟩ := h
        replace h := chk_some h; obtain ⟨hc_1449, h⟩ := h
        replace h := lt1_some h; obtain ⟨l_1450, hz_1451, h⟩ := h
        refine run_textE0 hE (wk_block wk_then) [5, 6, 7] (fr' := [(5, .sl false (L cU8 y_1404)), (6, .bs false 0 (l_1450.length) 0 (l_1450.length)), (7, i64 i_1436)]) (σ' := [.buf 1 (L cU8 l_1450) false, .buf 1 (L cU8 (([((255 : UInt8) - nth y_1404 i_1436.toNat)] : List UInt8))) false]) ⟨_, orcs_nil, ?_⟩ ?_
        · subst hz_1451; simp only [go_sem, reduceIte, Nat.reduceLT, Nat.reduceEqDiff, Nat.reduceAdd, Nat.reduceBEq, Nat.reduceMul, Nat.reduceSub, Nat.reduceGT, Nat.reducePow, Nat.reduceLeDiff, Int.reduceToNat, hc_1448, hc_1448.2, lt_le hc_1448.2, hc_1449]
        refine blockK_n ?_
        refine thenK_n ?_
        refine run_textE0 hE wk_lp [5, 6, 7] (fr' := [(5, .sl false (L cU8 y_1404)), (6, .bs false 0 (l_1450.length) 0 (l_1450.length)), (7, i64 ((w64 (i_1436 + 1))))]) (σ' := [.buf 1 (L cU8 l_1450) false, .buf 1 (L cU8 (([((255 : UInt8) - nth y_1404 i_1436.toNat)] : List UInt8))) false]) ⟨_, orcs_nil, ?_⟩ ?_
        · simp only [go_sem, reduceIte, Nat.reduceLT, Nat.reduceEqDiff, Nat.reduceAdd, Nat.reduceBEq, Nat.reduceMul, Nat.reduceSub, Nat.reduceGT, Nat.reducePow, Nat.reduceLeDiff, Int.reduceToNat]
        obtain rfl := Option.some.inj h
        exact lpK_n (((w64 (i_1436 + 1)), l_1450)) rfl (weak_sel [0] (by decide) rfl (by simp only [go_sem, reduceIte, Nat.reduceLT, Nat.reduceEqDiff, Nat.reduceAdd, Nat.reduceBEq, Nat.reduceMul, Nat.reduceSub, Nat.reduceGT, Nat.reducePow, Nat.reduceLeDiff, Int.reduceToNat]) (by simp only [go_sem, reduceIte, Nat.reduceLT, Nat.reduceEqDiff, Nat.reduceAdd, Nat.reduceBEq, Nat.reduceMul, Nat.reduceSub, Nat.reduceGT, Nat.reducePow, Nat.reduceLeDiff, Int.reduceToNat]))
      · replace h := ite_f h hb
        refine run_exit ?_
        refine thenK_x ?_
        obtain rfl := Option.some.inj h
        have ex_x_1443 := hxx_1447 _ rfl
        subst ex_x_1443
        have h := hj_1445; clear hj_1445
        refine lpK_x ?_
        refine blockK_x ?_
        obtain rfl := Option.some.inj h
        exact joinK_n l_1437 rfl ((weak_sel (l' := [(6, .bs false 0 (l_1437.length) 0 (l_1437.length))]) (σ' := [.buf 1 (L cU8 l_1437) false]) [0] (by decide) rfl (by simp only [go_sem, reduceIte, Nat.reduceLT, Nat.reduceEqDiff, Nat.reduceAdd, Nat.reduceBEq, Nat.reduceMul, Nat.reduceSub, Nat.reduceGT, Nat.reducePow, Nat.reduceLeDiff, Int.reduceToNat]) (by simp only [go_sem, reduceIte, Nat.reduceLT, Nat.reduceEqDiff, Nat.reduceAdd, Nat.reduceBEq, Nat.reduceMul, Nat.reduceSub, Nat.reduceGT, Nat.reducePow, Nat.reduceLeDiff, Int.reduceToNat])).trans (weak_sel [0] (by decide) rfl (by simp only [go_sem, reduceIte, Nat.reduceLT, Nat.reduceEqDiff, Nat.reduceAdd, Nat.reduceBEq, Nat.reduceMul, Nat.reduceSub, Nat.reduceGT, Nat.reducePow, Nat.reduceLeDiff, Int.reduceToNat]) (by simp only [go_sem, reduceIte, Nat.reduceLT, Nat.reduceEqDiff, Nat.reduceAdd, Nat.reduceBEq, Nat.reduceMul, Nat.reduceSub, Nat.reduceGT, Nat.reducePow, Nat.reduceLeDiff, Int.reduceToNat])))
    rintro l_1428 rfl
    have h := hj_1431; clear hj_1431
    refine run_textE hE [2] (fr' := [(2, .bs false 0 (l_1428.length) 0 (l_1428.length))]) (σ' := [.buf 1 (L cU8 l_1428) false]) ⟨_, orcs_nil, ?_⟩ ?_
    · simp only [go_sem, reduceIte, Nat.reduceLT, Nat.reduceEqDiff, Nat.reduceAdd, Nat.reduceBEq, Nat.reduceMul, Nat.reduceSub, Nat.reduceGT, Nat.reducePow, Nat.reduceLeDiff, Int.reduceToNat]
    refine run_ret ?_
    obtain rfl := Option.some.inj h
    refine ret_ok (.inr rfl) ?_
    simp only [go_sem, reduceIte, Nat.reduceLT, Nat.reduceEqDiff, Nat.reduceAdd, Nat.reduceBEq, Nat.reduceMul, Nat.reduceSub, Nat.reduceGT, Nat.reducePow, Nat.reduceLeDiff, Int.reduceToNat]

end Go.Proofs.Ytihncddenjbecaa
/-
  The functions compute just that.
-/
namespace Go.Proofs.Ytihncddenjbecaa
open Go.Rv
set_option linter.unusedVariables false
set_option linter.unusedSimpArgs false
set_option maxRecDepth 20000

theorem r01_Bytes_F_con {rec_ : Api_Value → Option (List UInt8)} (hrec : ∀ {v_1452 : Api_Value} {r : List UInt8}, rec_ v_1452 = some r → Con B 36 [.agg [i64 v_1452.Kind, i64 v_1452.N, .sl false (L cU8 v_1452.B), .sl false (L cApi_Value v_1452.L)]] [] (fun r' σ' => r' = .sl false (L cU8 r) ∧ σ' = [])) {v_1452 : Api_Value} {r : List UInt8} (h : r01_Bytes_F rec_ v_1452 = some r) : Con B 36 [.agg [i64 v_1452.Kind, i64 v_1452.N, .sl false (L cU8 v_1452.B), .sl false (L cApi_Value v_1452.L)]] [] (fun r' σ' => r' = .sl false (L cU8 r) ∧ σ' = []) := by
  refine con_walk (N := 67) (rs := [.tmp 2]) ok Try.func36 rfl (by decide +kernel) rfl rfl (Nat.le_of_ble_eq_true rfl) (fun F => ?_)
  have hE := ok.env F
  unfold r01_Bytes_F at h
  show Run (B.env F) 0 _ ⟨asFr 67 [(0, .agg [i64 v_1452.Kind, i64 v_1452.N, .sl false (L cU8 v_1452.B), .sl false (L cApi_Value v_1452.L)])], []⟩ _
  refine run_textE hE [1] (fr' := [(1, .ref 0 0)]) (σ' := [.box [i64 v_1452.Kind, i64 v_1452.N, .sl false (L cU8 v_1452.B), .sl false (L cApi_Value v_1452.L)] false]) ⟨_, orcs_nil, ?_⟩ ?_
  · simp only [go_sem, reduceIte, Nat.reduceLT, Nat.reduceEqDiff, Nat.reduceAdd, Nat.reduceBEq, Nat.reduceMul, Nat.reduceSub, Nat.reduceGT, Nat.reducePow, Nat.reduceLeDiff, Int.reduceToNat]
  refine run_seq ?_
  refine run_textE hE [1, 8] (fr' := [(1, .ref 0 0), (8, .bool ((v_1452.Kind == 1)))]) (σ' := [.box [i64 v_1452.Kind, i64 v_1452.N, .sl false (L cU8 v_1452.B), .sl false (L cApi_Value v_1452.L)] false]) ⟨_, orcs_nil, ?_⟩ ?_
  · simp only [go_sem, reduceIte, Nat.reduceLT, Nat.reduceEqDiff, Nat.reduceAdd, Nat.reduceBEq, Nat.reduceMul, Nat.reduceSub, Nat.reduceGT, Nat.reducePow, Nat.reduceLeDiff, Int.reduceToNat]
  refine run_condL (b := (v_1452.Kind == 1)) rfl (by decide) (fun hb => ?_) (fun hb => ?_)
  · replace h := ite_t h hb
    replace h := bind_some1 h; obtain ⟨y_1453, hy_1454, h⟩ := h
    refine run_textE hE [2] (fr' := [(2, .sl false (L cU8 y_1453))]) (σ' := [.box [i64 v_1452.Kind, i64 v_1452.N, .sl false (L cU8 v_1452.B), .sl false (L cApi_Value v_1452.L)] false]) ⟨_, orcs_ok (l := [(11, 46, [i64 v_1452.N], .sl false (L cU8 y_1453))]) ⟨r01_integer_con  hy_1454, trivial⟩, ?_⟩ ?_
    · simp only [go_sem, reduceIte, Nat.reduceLT, Nat.reduceEqDiff, Nat.reduceAdd, Nat.reduceBEq, Nat.reduceMul, Nat.reduceSub, Nat.reduceGT, Nat.reducePow, Nat.reduceLeDiff, Int.reduceToNat]
    refine run_ret ?_
    refine thenK_r ?_
    obtain rfl := Option.some.inj h
    refine ret_ok (.inr rfl) ?_
    simp only [go_sem, reduceIte, Nat.reduceLT, Nat.reduceEqDiff, Nat.reduceAdd, Nat.reduceBEq, Nat.reduceMul, Nat.reduceSub, Nat.reduceGT, Nat.reducePow, Nat.reduceLeDiff, Int.reduceToNat]
  · replace h := ite_f h hb
    refine run_skip ?_
    refine thenK_n ?_
    replace h := lt1_some h; obtain ⟨l_1455, hz_1456, h⟩ := h
    refine run_textE hE [1, 3] (fr' := [(1, .ref 0 0), (3, .bs true 1 (l_1455.length) 0 (l_1455.length))]) (σ' := [.box [i64 v_1452.Kind, i64 v_1452.N, .sl false (L cU8 v_1452.B), .sl false (L cApi_Value v_1452.L)] false, .buf 1 (L cU8 l_1455) false]) ⟨_, orcs_nil, ?_⟩ ?_
    · subst hz_1456; simp only [go_sem, reduceIte, Nat.reduceLT, Nat.reduceEqDiff, Nat.reduceAdd, Nat.reduceBEq, Nat.reduceMul, Nat.reduceSub, Nat.reduceGT, Nat.reducePow, Nat.reduceLeDiff, Int.reduceToNat]
    replace h := bind_some1 h; obtain ⟨j_1604, hA_1605, hj_1606⟩ := h
    refine run_join (fun (v : Unit) => (⟨asFr 67 [(1, .ref 0 0), (3, .bs true 1 (l_1455.length) 0 (l_1455.length))], [.box [i64 v_1452.Kind, i64 v_1452.N, .sl false (L cU8 v_1452.B), .sl false (L cApi_Value v_1452.L)] false, .buf 1 (L cU8 l_1455) false]⟩ : St)) (fun v => .inl v = j_1604) ?_ ?_
    · have h := hA_1605; clear hA_1605
      refine run_textE hE [1, 3, 15] (fr' := [(1, .ref 0 0), (3, .bs true 1 (l_1455.length) 0 (l_1455.length)), (15, .bool ((v_1452.Kind == 2)))]) (σ' := [.box [i64 v_1452.Kind, i64 v_1452.N, .sl false (L cU8 v_1452.B), .sl false (L cApi_Value v_1452.L)] false, .buf 1 (L cU8 l_1455) false]) ⟨_, orcs_nil, ?_⟩ ?_
      · simp only [go_sem, reduceIte, Nat.reduceLT, Nat.reduceEqDiff, Nat.reduceAdd, Nat.reduceBEq, Nat.reduceMul, Nat.reduceSub, Nat.reduceGT, Nat.reducePow, Nat.reduceLeDiff, Int.reduceToNat]
      refine run_condL (b := (v_1452.Kind == 2)) rfl (by decide) (fun hb => ?_) (fun hb => ?_)
      · replace h := ite_t h hb
        replace h := chk_some h; obtain ⟨hc_1607, h⟩ := h
        replace h := lt1_some h; obtain ⟨l_1608, hz_1609, h⟩ := h
        refine run_textE hE [1, 3] (fr' := [(1, .ref 0 0), (3, .bs false 1 (l_1608.length) 0 (l_1608.length))]) (σ' := [.box [i64 v_1452.Kind, i64 v_1452.N, .sl false (L cU8 v_1452.B), .sl false (L cApi_Value v_1452.L)] false, .buf 1 (L cU8 l_1608) false, .buf 1 (L cU8 (([(48 : UInt8)] : List UInt8))) false]) ⟨_, orcs_nil, ?_⟩ ?_
        · subst hz_1609; simp only [go_sem, reduceIte, Nat.reduceLT, Nat.reduceEqDiff, Nat.reduceAdd, Nat.reduceBEq, Nat.reduceMul, Nat.reduceSub, Nat.reduceGT, Nat.reducePow, Nat.reduceLeDiff, Int.reduceToNat, hc_1607]
        replace h := bind_some1 h; obtain ⟨j_1679, hA_1680, hj_1681⟩ := h
        refine run_join (fun (v : List UInt8) => (⟨asFr 67 [(3, .bs false 0 (v.length) 0 (v.length))], [.buf 1 (L cU8 v) false]⟩ : St)) (fun v => v = j_1679) ?_ ?_
        · have h := hA_1680; clear hA_1680
          refine run_textE hE [1, 3, 4] (fr' := [(1, .ref 0 0), (3, .bs false 1 (l_1608.length) 0 (l_1608.length)), (4, i64 0)]) (σ' := [.box [i64 v_1452.Kind, i64 v_1452.N, .sl false (L cU8 v_1452.B), .sl false (L cApi_Value v_1452.L)] false, .buf 1 (L cU8 l_1608) false, .buf 1 (L cU8 (([(48 : UInt8)] : List UInt8))) false]) ⟨_, orcs_nil, ?_⟩ ?_
          · simp only [go_sem, reduceIte, Nat.reduceLT, Nat.reduceEqDiff, Nat.reduceAdd, Nat.reduceBEq, Nat.reduceMul, Nat.reduceSub, Nat.reduceGT, Nat.reducePow, Nat.reduceLeDiff, Int.reduceToNat]
          refine run_block ?_
          replace h := bind_some1 h; obtain ⟨x_1725, hx_1726, hj_1727⟩ := h
          refine run_loopO hx_1726 (fun (v : Int × List UInt8) => (⟨asFr 67 [(1, .ref 0 0), (3, .bs false 1 (v.2.length) 0 (v.2.length)), (4, i64 v.1)], [.box [i64 v_1452.Kind, i64 v_1452.N, .sl false (L cU8 v_1452.B), .sl false (L cApi_Value v_1452.L)] false, .buf 1 (L cU8 v.2) false]⟩ : St)) (weak_sel [0, 1] (by decide) rfl (by simp only [go_sem, reduceIte, Nat.reduceLT, Nat.reduceEqDiff, Nat.reduceAdd, Nat.reduceBEq, Nat.reduceMul, Nat.reduceSub, Nat.reduceGT, Nat.reducePow, Nat.reduceLeDiff, Int.reduceToNat]) (by simp only [go_sem, reduceIte, Nat.reduceLT, Nat.reduceEqDiff, Nat.reduceAdd, Nat.reduceBEq, Nat.reduceMul, Nat.reduceSub, Nat.reduceGT, Nat.reducePow, Nat.reduceLeDiff, Int.reduceToNat])) ?_
          rintro ⟨i_1702, l_1703⟩ o_1728 h hxx_1729
          replace h : r01_Bytes_b1 v_1452 i_1702 l_1703 = some o_1728 := h
          unfold r01_Bytes_b1 at h
          refine run_seq ?_
          refine run_textE hE [1, 3, 4, 23] (fr' := [(1, .ref 0 0), (3, .bs false 1 (l_1703.length) 0 (l_1703.length)), (4, i64 i_1702), (23, .bool ((decide (i_1702 < (v_1452.B.length : Int)))))]) (σ' := [.box [i64 v_1452.Kind, i64 v_1452.N, .sl false (L cU8 v_1452.B), .sl false (L cApi_Value v_1452.L)] false, .buf 1 (L cU8 l_1703) false]) ⟨_, orcs_nil, ?_⟩ ?_
          · simp only [go_sem, reduceIte, Nat.reduceLT, Nat.reduceEqDiff, Nat.reduceAdd, Nat.reduceBEq, Nat.reduceMul, Nat.reduceSub, Nat.reduceGT, Nat.reducePow, Nat.reduceLeDiff, Int.reduceToNat]
          refine run_condL (b := (decide (i_1702 < (v_1452.B.length : Int)))) rfl (by decide) (fun hb => ?_) (fun hb => ?_)
          · replace h := ite_t h hb
            refine run_skip ?_
            refine thenK_n ?_
            replace h := bind_some1 h; obtain ⟨j_1739, hA_1740, hj_1741⟩ := h
            refine run_join (fun (v : List UInt8) => (⟨asFr 67 [(1, .ref 0 0), (3, .bs false 1 (v.length) 0 (v.length)), (4, i64 i_1702)], [.box [i64 v_1452.Kind, i64 v_1452.N, .sl false (L cU8 v_1452.B), .sl false (L cApi_Value v_1452.L)] false, .buf 1 (L cU8 v) false]⟩ : St)) (fun v => v = j_1739) ?_ ?_
            · have h := hA_1740; clear hA_1740
              refine run_block ?_
              replace h := chk_some h; obtain ⟨hc_1742, h⟩ := h
              replace h := chk_some h; obtain ⟨hc_1743, h⟩ := h
              replace h := lt1_some h; obtain ⟨l_1744, hz_1745, h⟩ := h
              refine run_textE hE [1, 3, 4] (fr' := [(1, .ref 0 0), (3, .bs false 1 (l_1744.length) 0 (l_1744.length)), (4, i64 i_1702)]) (σ' := [.box [i64 v_1452.Kind, i64 v_1452.N, .sl false (L cU8 v_1452.B), .sl false (L cApi_Value v_1452.L)] false, .buf 1 (L cU8 l_1744) false, .buf 1 (L cU8 (([nth v_1452.B i_1702.toNat] : List UInt8))) false]) ⟨_, orcs_nil, ?_⟩ ?_
              · subst hz_1745; simp only [go_sem, reduceIte, Nat.reduceLT, Nat.reduceEqDiff, Nat.reduceAdd, Nat.reduceBEq, Nat.reduceMul, Nat.reduceSub, Nat.reduceGT, Nat.reducePow, Nat.reduceLeDiff, Int.reduceToNat, hc_1742, hc_1742.2, lt_le hc_1742.2, hc_1743]
              replace h := chk_some h; obtain ⟨hc_1746, h⟩ := h
              refine run_textE hE [1, 3, 4, 39] (fr' := [(1, .ref 0 0), (3, .bs false 1 (l_1744.length) 0 (l_1744.length)), (4, i64 i_1702), (39, .bool ((nth v_1452.B i_1702.toNat == (0 : UInt8))))]) (σ' := [.box [i64 v_1452.Kind, i64 v_1452.N, .sl false (L cU8 v_1452.B), .sl false (L cApi_Value v_1452.L)] false, .buf 1 (L cU8 l_1744) false, .buf 1 (L cU8 (([nth v_1452.B i_1702.toNat] : List UInt8))) false]) ⟨_, orcs_nil, ?_⟩ ?_
              · simp only [go_sem, reduceIte, Nat.reduceLT, Nat.reduceEqDiff, Nat.reduceAdd, Nat.reduceBEq, Nat.reduceMul, Nat.reduceSub, Nat.reduceGT, Nat.reducePow, Nat.reduceLeDiff, Int.reduceToNat, hc_1746, hc_1746.2, lt_le hc_1746.2]
              refine run_condL (b := (nth v_1452.B i_1702.toNat == (0 : UInt8))) rfl (by decide) (fun hb => ?_) (fun hb => ?_)
              · replace h := ite_t h hb
                replace h := chk_some h; obtain ⟨hc_1747, h⟩ := h
                replace h := lt1_some h; obtain ⟨l_1748, hz_1749, h⟩ := h
                refine run_textE0 hE (wk_block wk_join) [1, 3, 4] (fr' := [(1, .ref 0 0), (3, .bs false 1 (l_1748.length) 0 (l_1748.length)), (4, i64 i_1702)]) (σ' := [.box [i64 v_1452.Kind, i64 v_1452.N, .sl false (L cU8 v_1452.B), .sl false (L cApi_Value v_1452.L)] false, .buf 1 (L cU8 l_1748) false, .buf 1 (L cU8 (([nth v_1452.B i_1702.toNat] : List UInt8))) false, .buf 1 (L cU8 (([(255 : UInt8)] : List UInt8))) false]) ⟨_, orcs_nil, ?_⟩ ?_
                · subst hz_1749; simp only [go_sem, reduceIte, Nat.reduceLT, Nat.reduceEqDiff, Nat.reduceAdd, Nat.reduceBEq, Nat.reduceMul, Nat.reduceSub, Nat.reduceGT, Nat.reducePow, Nat.reduceLeDiff, Int.reduceToNat, hc_1747]
                refine blockK_n ?_
                obtain rfl := Option.some.inj h
                exact joinK_n l_1748 rfl (weak_sel [0, 1] (by decide) rfl (by simp only [go_sem, reduceIte, Nat.reduceLT, Nat.reduceEqDiff, Nat.reduceAdd, Nat.reduceBEq, Nat.reduceMul, Nat.reduceSub, Nat.reduceGT, Nat.reducePow, Nat.reduceLeDiff, Int.reduceToNat]) (by simp only [go_sem, reduceIte, Nat.reduceLT, Nat.reduceEqDiff, Nat.reduceAdd, Nat.reduceBEq, Nat.reduceMul, Nat.reduceSub, Nat.reduceGT, Nat.reducePow, Nat.reduceLeDiff, Int.reduceToNat]))
              · replace h := ite_f h hb
                refine run_skip ?_
                refine blockK_n ?_
                obtain rfl := Option.some.inj h
                exact joinK_n l_1744 rfl (weak_sel [0, 1] (by decide) rfl (by simp only [go_sem, reduceIte, Nat.reduceLT, Nat.reduceEqDiff, Nat.reduceAdd, Nat.reduceBEq, Nat.reduceMul, Nat.reduceSub, Nat.reduceGT, Nat.reducePow, Nat.reduceLeDiff, Int.reduceToNat]) (by simp only [go_sem, reduceIte, Nat.reduceLT, Nat.reduceEqDiff, Nat.reduceAdd, Nat.reduceBEq, Nat.reduceMul, Nat.reduceSub, Nat.reduceGT, Nat.reducePow, Nat.reduceLeDiff, Int.reduceToNat]))
            rintro l_1738 rfl
            have h := hj_1741; clear hj_1741
            refine run_textE0 hE wk_lp [1, 3, 4] (fr' := [(1, .ref 0 0), (3, .bs false 1 (l_1738.length) 0 (l_1738.length)), (4, i64 ((w64 (i_1702 + 1))))]) (σ' := [.box [i64 v_1452.Kind, i64 v_1452.N, .sl false (L cU8 v_1452.B), .sl false (L cApi_Value v_1452.L)] false, .buf 1 (L cU8 l_1738) false]) ⟨_, orcs_nil, ?_⟩ ?_
            · simp only [go_sem, reduceIte, Nat.reduceLT, Nat.reduceEqDiff, Nat.reduceAdd, Nat.reduceBEq, Nat.reduceMul, Nat.reduceSub, Nat.reduceGT, Nat.reducePow, Nat.reduceLeDiff, Int.reduceToNat]
            obtain rfl := Option.some.inj h
            exact lpK_n (((w64 (i_1702 + 1)), l_1738)) rfl (weak_sel [0, 1] (by decide) rfl (by simp only [go_sem, reduceIte, Nat.reduceLT, Nat.reduceEqDiff, Nat.reduceAdd, Nat.reduceBEq, Nat.reduceMul, Nat.reduceSub, Nat.reduceGT, Nat.reducePow, Nat.reduceLeDiff, Int.reduceToNat]) (by simp only [go_sem, reduceIte, Nat.reduceLT, Nat.reduceEqDiff, Nat.reduceAdd, Nat.reduceBEq, Nat.reduceMul, Nat.reduceSub, Nat.reduceGT, Nat.reducePow, Nat.reduceLeDiff, Int.reduceToNat]))
          · replace h := ite_f h hb
            refine run_exit ?_
            refine thenK_x ?_
            obtain rfl := Option.some.inj h
            have ex_x_1725 := hxx_1729 _ rfl
            subst ex_x_1725
            have h := hj_1727; clear hj_1727
            refine lpK_x ?_
            refine blockK_x ?_
            obtain rfl := Option.some.inj h
            exact joinK_n l_1703 rfl ((weak_sel (l' := [(3, .bs false 0 (l_1703.length) 0 (l_1703.length))]) (σ' := [.buf 1 (L cU8 l_1703) false]) [1] (by decide) rfl (by simp only [go_sem, reduceIte, Nat.reduceLT, Nat.reduceEqDiff, Nat.reduceAdd, Nat.reduceBEq, Nat.reduceMul, Nat.reduceSub, Nat.reduceGT, Nat.reducePow, Nat.reduceLeDiff, Int.reduceToNat]) (by simp only [go_sem, reduceIte, Nat.reduceLT, Nat.reduceEqDiff, Nat.reduceAdd, Nat.reduceBEq, Nat.reduceMul, Nat.reduceSub, Nat.reduceGT, Nat.reducePow, Nat.reduceLeDiff, Int.reduceToNat])).trans (weak_sel [0] (by decide) rfl (by simp only [go_sem, reduceIte, Nat.reduceLT, Nat.reduceEqDiff, Nat.reduceAdd, Nat.reduceBEq, Nat.reduceMul, Nat.reduceSub, Nat.reduceGT, Nat.reducePow, Nat.reduceLeDiff, Int.reduceToNat]) (by simp only [go_sem, reduceIte, Nat.reduceLT, Nat.reduceEqDiff, Nat.reduceAdd, Nat.reduceBEq, Nat.reduceMul, Nat.reduceSub, Nat.reduceGT, Nat.reducePow, Nat.reduceLeDiff, Int.reduceToNat])))
        rintro l_1678 rfl
        have h := hj_1681; clear hj_1681
        replace h := chk_some h; obtain ⟨hc_1750, h⟩ := h
        replace h := lt1_some h; obtain ⟨l_1751, hz_1752, h⟩ := h
        refine run_textE hE [2] (fr' := [(2, .bs false 0 (l_1751.length) 0 (l_1751.length))]) (σ' := [.buf 1 (L cU8 l_1751) false, .buf 1 (L cU8 (([(0 : UInt8), (0 : UInt8)] : List UInt8))) false]) ⟨_, orcs_nil, ?_⟩ ?_
        · subst hz_1752; simp only [go_sem, reduceIte, Nat.reduceLT, Nat.reduceEqDiff, Nat.reduceAdd, Nat.reduceBEq, Nat.reduceMul, Nat.reduceSub, Nat.reduceGT, Nat.reducePow, Nat.reduceLeDiff, Int.reduceToNat, hc_1750]
        refine run_ret ?_
        refine joinK_r ?_
        replace h := bind_some1 h; obtain ⟨z_1753, h, e_z_1753⟩ := h
        obtain rfl := Option.some.inj e_z_1753
        obtain rfl := Option.some.inj hj_1606
        obtain rfl := Option.some.inj h
        refine ret_ok (.inr rfl) ?_
        simp only [go_sem, reduceIte, Nat.reduceLT, Nat.reduceEqDiff, Nat.reduceAdd, Nat.reduceBEq, Nat.reduceMul, Nat.reduceSub, Nat.reduceGT, Nat.reducePow, Nat.reduceLeDiff, Int.reduceToNat]
      · replace h := ite_f h hb
        refine run_skip ?_
        obtain rfl := Option.some.inj h
        exact joinK_n (()) rfl (weak_sel [0, 1] (by decide) rfl (by simp only [go_sem, reduceIte, Nat.reduceLT, Nat.reduceEqDiff, Nat.reduceAdd, Nat.reduceBEq, Nat.reduceMul, Nat.reduceSub, Nat.reduceGT, Nat.reducePow, Nat.reduceLeDiff, Int.reduceToNat]) (by simp only [go_sem, reduceIte, Nat.reduceLT, Nat.reduceEqDiff, Nat.reduceAdd, Nat.reduceBEq, Nat.reduceMul, Nat.reduceSub, Nat.reduceGT, Nat.reducePow, Nat.reduceLeDiff, Int.reduceToNat]))
    rintro ⟨⟩ rfl
    have h := hj_1606; clear hj_1606
    replace h := chk_some h; obtain ⟨hc_1754, h⟩ := h
    replace h := lt1_some h; obtain ⟨l_1755, hz_1756, h⟩ := h
    refine run_textE hE [1, 3] (fr' := [(1, .ref 0 0), (3, .bs false 1 (l_1755.length) 0 (l_1755.length))]) (σ' := [.box [i64 v_1452.Kind, i64 v_1452.N, .sl false (L cU8 v_1452.B), .sl false (L cApi_Value v_1452.L)] false, .buf 1 (L cU8 l_1755) false, .buf 1 (L cU8 (([(64 : UInt8)] : List UInt8))) false]) ⟨_, orcs_nil, ?_⟩ ?_
    · subst hz_1756; simp only [go_sem, reduceIte, Nat.reduceLT, Nat.reduceEqDiff, Nat.reduceAdd, Nat.reduceBEq, Nat.reduceMul, Nat.reduceSub, Nat.reduceGT, Nat.reducePow, Nat.reduceLeDiff, Int.reduceToNat, hc_1754]
    replace h := bind_some1 h; obtain ⟨j_1784, hA_1785, hj_1786⟩ := h
    refine run_join (fun (v : List UInt8) => (⟨asFr 67 [(3, .bs false 0 (v.length) 0 (v.length))], [.buf 1 (L cU8 v) false]⟩ : St)) (fun v => v = j_1784) ?_ ?_
    · have h := hA_1785; clear hA_1785
      refine run_textE hE [1, 3, 5] (fr' := [(1, .ref 0 0), (3, .bs false 1 (l_1755.length) 0 (l_1755.length)), (5, i64 0)]) (σ' := [.box [i64 v_1452.Kind, i64 v_1452.N, .sl false (L cU8 v_1452.B), .sl false (L cApi_Value v_1452.L)] false, .buf 1 (L cU8 l_1755) false, .buf 1 (L cU8 (([(64 : UInt8)] : List UInt8))) false]) ⟨_, orcs_nil, ?_⟩ ?_
      · simp only [go_sem, reduceIte, Nat.reduceLT, Nat.reduceEqDiff, Nat.reduceAdd, Nat.reduceBEq, Nat.reduceMul, Nat.reduceSub, Nat.reduceGT, Nat.reducePow, Nat.reduceLeDiff, Int.reduceToNat]
      refine run_block ?_
      replace h := bind_some1 h; obtain ⟨x_1802, hx_1803, hj_1804⟩ := h
      refine run_loopO hx_1803 (fun (v : Int × List UInt8) => (⟨asFr 67 [(1, .ref 0 0), (3, .bs false 1 (v.2.length) 0 (v.2.length)), (5, i64 v.1)], [.box [i64 v_1452.Kind, i64 v_1452.N, .sl false (L cU8 v_1452.B), .sl false (L cApi_Value v_1452.L)] false, .buf 1 (L cU8 v.2) false]⟩ : St)) (weak_sel [0, 1] (by decide) rfl (by simp only [go_sem, reduceIte, Nat.reduceLT, Nat.reduceEqDiff, Nat.reduceAdd, Nat.reduceBEq, Nat.reduceMul, Nat.reduceSub, Nat.reduceGT, Nat.reducePow, Nat.reduceLeDiff, Int.reduceToNat]) (by simp only [go_sem, reduceIte, Nat.reduceLT, Nat.reduceEqDiff, Nat.reduceAdd, Nat.reduceBEq, Nat.reduceMul, Nat.reduceSub, Nat.reduceGT, Nat.reducePow, Nat.reduceLeDiff, Int.reduceToNat])) ?_
      rintro ⟨i_1793, l_1794⟩ o_1805 h hxx_1806
      replace h : r01_Bytes_b2 v_1452 rec_ i_1793 l_1794 = some o_1805 := h
      unfold r01_Bytes_b2 at h
      refine run_seq ?_
      refine run_textE hE [1, 3, 5, 53] (fr' := [(1, .ref 0 0), (3, .bs false 1 (l_1794.length) 0 (l_1794.length)), (5, i64 i_1793), (53, .bool ((decide (i_1793 < (v_1452.L.length : Int)))))]) (σ' := [.box [i64 v_1452.Kind, i64 v_1452.N, .sl false (L cU8 v_1452.B), .sl false (L cApi_Value v_1452.L)] false, .buf 1 (L cU8 l_1794) false]) ⟨_, orcs_nil, ?_⟩ ?_
      · simp only [go_sem, reduceIte, Nat.reduceLT, Nat.reduceEqDiff, Nat.reduceAdd, Nat.reduceBEq, Nat.reduceMul, Nat.reduceSub, Nat.reduceGT, Nat.reducePow, Nat.reduceLeDiff, Int.reduceToNat]
      refine run_condL (b := (decide (i_1793 < (v_1452.L.length : Int)))) rfl (by decide) (fun hb => ?_) (fun hb => ?_)
      · replace h := ite_t h hb
        refine run_skip ?_
        refine thenK_n ?_
        refine run_seq ?_
        refine run_block ?_
        replace h := chk_some h; obtain ⟨hc_1808, h⟩ := h
        replace h := bind_some1 h; obtain ⟨y_1807, hy_1809, h⟩ := h
        replace h := chk_some h; obtain ⟨hc_1810, h⟩ := h
        replace h := lt1_some h; obtain ⟨l_1811, hz_1812, h⟩ := h
        refine run_textE0 hE (wk_block wk_then) [1, 3, 5] (fr' := [(1, .ref 0 0), (3, .bs false 1 (l_1811.length) 0 (l_1811.length)), (5, i64 i_1793)]) (σ' := [.box [i64 v_1452.Kind, i64 v_1452.N, .sl false (L cU8 v_1452.B), .sl false (L cApi_Value v_1452.L)] false, .buf 1 (L cU8 l_1811) false]) ⟨_, orcs_ok (l := [(62, 36, [.agg [i64 ((nth v_1452.L i_1793.toNat).Kind), i64 ((nth v_1452.L i_1793.toNat).N), .sl false (L cU8 ((nth v_1452.L i_1793.toNat).B)), .sl false (L cApi_Value ((nth v_1452.L i_1793.toNat).L))]], .sl false (L cU8 y_1807))]) ⟨hrec  hy_1809, trivial⟩, ?_⟩ ?_
        · subst hz_1812; simp only [go_sem, reduceIte, Nat.reduceLT, Nat.reduceEqDiff, Nat.reduceAdd, Nat.reduceBEq, Nat.reduceMul, Nat.reduceSub, Nat.reduceGT, Nat.reducePow, Nat.reduceLeDiff, Int.reduceToNat, hc_1808, hc_1808.2, lt_le hc_1808.2, hc_1810]
        refine blockK_n ?_
        refine thenK_n ?_
        refine run_textE0 hE wk_lp [1, 3, 5] (fr' := [(1, .ref 0 0), (3, .bs false 1 (l_1811.length) 0 (l_1811.length)), (5, i64 ((w64 (i_1793 + 1))))]) (σ' := [.box [i64 v_1452.Kind, i64 v_1452.N, .sl false (L cU8 v_1452.B), .sl false (L cApi_Value v_1452.L)] false, .buf 1 (L cU8 l_1811) false]) ⟨_, orcs_nil, ?_⟩ ?_
        · simp only [go_sem, reduceIte, Nat.reduceLT, Nat.reduceEqDiff, Nat.reduceAdd, Nat.reduceBEq, Nat.reduceMul, Nat.reduceSub, Nat.reduceGT, Nat.reducePow, Nat.reduceLeDiff, Int.reduceToNat]
        obtain rfl := Option.some.inj h
        exact lpK_n (((w64 (i_1793 + 1)), l_1811)) rfl (weak_sel [0, 1] (by decide) rfl (by simp only [go_sem, reduceIte, Nat.reduceLT, Nat.reduceEqDiff, Nat.reduceAdd, Nat.reduceBEq, Nat.reduceMul, Nat.reduceSub, Nat.reduceGT, Nat.reducePow, Nat.reduceLeDiff, Int.reduceToNat]) (by simp only [go_sem, reduceIte, Nat.reduceLT, Nat.reduceEqDiff, Nat.reduceAdd, Nat.reduceBEq, Nat.reduceMul, Nat.reduceSub, Nat.reduceGT, Nat.reducePow, Nat.reduceLeDiff, Int.reduceToNat]))
      · replace h := ite_f h hb
        refine run_exit ?_
        refine thenK_x ?_
        obtain rfl := Option.some.inj h
        have ex_x_1802 := hxx_1806 _ rfl
        subst ex_x_1802
        have h := hj_1804; clear hj_1804
        refine lpK_x ?_
        refine blockK_x ?_
        obtain rfl := Option.some.inj h
        exact joinK_n l_1794 rfl ((weak_sel (l' := [(3, .bs false 0 (l_1794.length) 0 (l_1794.length))]) (σ' := [.buf 1 (L cU8 l_1794) false]) [1] (by decide) rfl (by simp only [go_sem, reduceIte, Nat.reduceLT, Nat.reduceEqDiff, Nat.reduceAdd, Nat.reduceBEq, Nat.reduceMul, Nat.reduceSub, Nat.reduceGT, Nat.reducePow, Nat.reduceLeDiff, Int.reduceToNat]) (by simp only [go_sem, reduceIte, Nat.reduceLT, Nat.reduceEqDiff, Nat.reduceAdd, Nat.reduceBEq, Nat.reduceMul, Nat.reduceSub, Nat.reduceGT, Nat.reducePow, Nat.reduceLeDiff, Int.reduceToNat])).trans (weak_sel [0] (by decide) rfl (by simp only [go_sem, reduceIte, Nat.reduceLT, Nat.reduceEqDiff, Nat.reduceAdd, Nat.reduceBEq, Nat.reduceMul, Nat.reduceSub, Nat.reduceGT, Nat.reducePow, Nat.reduceLeDiff, Int.reduceToNat]) (by simp only [go_sem, reduceIte, Nat.reduceLT, Nat.reduceEqDiff, Nat.reduceAdd, Nat.reduceBEq, Nat.reduceMul, Nat.reduceSub, Nat.reduceGT, Nat.reducePow, Nat.reduceLeDiff, Int.reduceToNat])))
    rintro l_1783 rfl
    have h := hj_1786; clear hj_1786
    replace h := chk_some h; obtain ⟨hc_1813, h⟩ := h
    replace h := lt1_some h; obtain ⟨l_1814, hz_1815, h⟩ := h
    refine run_textE hE [2] (fr' := [(2, .bs false 0 (l_1814.length) 0 (l_1814.length))]) (σ' := [.buf 1 (L cU8 l_1814) false, .buf 1 (L cU8 (([(0 : UInt8)] : List UInt8))) false]) ⟨_, orcs_nil, ?_⟩ ?_
    · subst hz_1815; simp only [go_sem, reduceIte, Nat.reduceLT, Nat.reduceEqDiff, Nat.reduceAdd, Nat.reduceBEq, Nat.reduceMul, Nat.reduceSub, Nat.reduceGT, Nat.reducePow, Nat.reduceLeDiff, Int.reduceToNat, hc_1813]
    refine run_ret ?_
    obtain rfl := Option.some.inj h
    refine ret_ok (.inr rfl) ?_
    simp only [go_sem, reduceIte, Nat.reduceLT, Nat.reduceEqDiff, Nat.reduceAdd, Nat.reduceBEq, Nat.reduceMul, Nat.reduceSub, Nat.reduceGT, Nat.reducePow, Nat.reduceLeDiff, Int.reduceToNat]
theorem r01_Bytes_n_con (n : Nat) : ∀ {v_1452 : Api_Value} {r : List UInt8}, r01_Bytes_n n v_1452 = some r → Con B 36 [.agg [i64 v_1452.Kind, i64 v_1452.N, .sl false (L cU8 v_1452.B), .sl false (L cApi_Value v_1452.L)]] [] (fun r' σ' => r' = .sl false (L cU8 r) ∧ σ' = []) := by
  induction n with
  | zero => intro v_1452 r h; cases h
  | succ n ih => intro v_1452 r h; exact r01_Bytes_F_con ih h
theorem r01_Bytes_con {v_1452 : Api_Value} {r : List UInt8} (h : r01_Bytes v_1452 = some r) : Con B 36 [.agg [i64 v_1452.Kind, i64 v_1452.N, .sl false (L cU8 v_1452.B), .sl false (L cApi_Value v_1452.L)]] [] (fun r' σ' => r' = .sl false (L cU8 r) ∧ σ' = []) := r01_Bytes_n_con _ h

end Go.Proofs.Ytihncddenjbecaa
/-
  The functions compute just that.
-/
namespace Go.Proofs.Ytihncddenjbecaa
open Go.Rv
set_option linter.unusedVariables false
set_option linter.unusedSimpArgs false
set_option maxRecDepth 20000

theorem r01_Check_con {v_1816 : Api_Value} {r : Int} (h : r01_Check v_1816 = some r) : Con B 17 [.agg [i64 v_1816.Kind, i64 v_1816.N, .sl false (L cU8 v_1816.B), .sl false (L cApi_Value v_1816.L)]] [] (fun r' σ' => r' = i64 r ∧ σ' = []) := by
  refine con_walk (N := 15) (rs := [.tmp 2]) ok Try.func17 rfl (by decide +kernel) rfl rfl (Nat.le_of_ble_eq_true rfl) (fun F => ?_)
  have hE := ok.env F
  unfold r01_Check at h
  show Run (B.env F) 0 _ ⟨asFr 15 [(0, .agg [i64 v_1816.Kind, i64 v_1816.N, .sl false (L cU8 v_1816.B), .sl false (L cApi_Value v_1816.L)])], []⟩ _
  refine run_textE hE [1] (fr' := [(1, .ref 0 0)]) (σ' := [.box [i64 v_1816.Kind, i64 v_1816.N, .sl false (L cU8 v_1816.B), .sl false (L cApi_Value v_1816.L)] false]) ⟨_, orcs_nil, ?_⟩ ?_
  · simp only [go_sem, reduceIte, Nat.reduceLT, Nat.reduceEqDiff, Nat.reduceAdd, Nat.reduceBEq, Nat.reduceMul, Nat.reduceSub, Nat.reduceGT, Nat.reducePow, Nat.reduceLeDiff, Int.reduceToNat]
  refine run_seq ?_
  replace h := bind_some1 h; obtain ⟨y_1817, hy_1818, h⟩ := h
  refine run_textE hE [1, 5] (fr' := [(1, .ref 0 0), (5, .bool ((!y_1817)))]) (σ' := [.box [i64 v_1816.Kind, i64 v_1816.N, .sl false (L cU8 v_1816.B), .sl false (L cApi_Value v_1816.L)] false]) ⟨_, orcs_ok (l := [(4, 37, [.agg [i64 v_1816.Kind, i64 v_1816.N, .sl false (L cU8 v_1816.B), .sl false (L cApi_Value v_1816.L)]], .bool y_1817)]) ⟨r01_Shape_con  hy_1818, trivial⟩, ?_⟩ ?_
  · simp only [go_sem, reduceIte, Nat.reduceLT, Nat.reduceEqDiff, Nat.reduceAdd, Nat.reduceBEq, Nat.reduceMul, Nat.reduceSub, Nat.reduceGT, Nat.reducePow, Nat.reduceLeDiff, Int.reduceToNat]
  refine run_condL (b := (!y_1817)) rfl (by decide) (fun hb => ?_) (fun hb => ?_)
  · replace h := ite_t h hb
    refine run_textE hE [2] (fr' := [(2, i64 10)]) (σ' := [.box [i64 v_1816.Kind, i64 v_1816.N, .sl false (L cU8 v_1816.B), .sl false (L cApi_Value v_1816.L)] false]) ⟨_, orcs_nil, ?_⟩ ?_
    · simp only [go_sem, reduceIte, Nat.reduceLT, Nat.reduceEqDiff, Nat.reduceAdd, Nat.reduceBEq, Nat.reduceMul, Nat.reduceSub, Nat.reduceGT, Nat.reducePow, Nat.reduceLeDiff, Int.reduceToNat]
    refine run_ret ?_
    refine thenK_r ?_
    obtain rfl := Option.some.inj h
    refine ret_ok (.inr rfl) ?_
    simp only [go_sem, reduceIte, Nat.reduceLT, Nat.reduceEqDiff, Nat.reduceAdd, Nat.reduceBEq, Nat.reduceMul, Nat.reduceSub, Nat.reduceGT, Nat.reducePow, Nat.reduceLeDiff, Int.reduceToNat]
  · replace h := ite_f h hb
    refine run_skip ?_
    refine thenK_n ?_
    refine run_seq ?_
    replace h := bind_some1 h; obtain ⟨t_1821, hv_1822, h⟩ := h
    refine run_textW hE [14] (fr' := [(14, .bool t_1821)]) (σ' := []) ?_ ?_
    · replace hv_1822 := bind_some1 hv_1822; obtain ⟨y_1819, hy_1823, hv_1822⟩ := hv_1822
      rcases Bool.eq_false_or_eq_true ((decide (y_1819 > 16))) with hb_1824 | hb_1824
      · replace hv_1822 := ite_t hv_1822 hb_1824
        have e_hv_1822 := Option.some.inj hv_1822; subst e_hv_1822
        exact ⟨_, [(14, .bool true)], [.box [i64 v_1816.Kind, i64 v_1816.N, .sl false (L cU8 v_1816.B), .sl false (L cApi_Value v_1816.L)] false], orcs_ok (l := [(7, 28, [.agg [i64 v_1816.Kind, i64 v_1816.N, .sl false (L cU8 v_1816.B), .sl false (L cApi_Value v_1816.L)]], i64 y_1819)]) ⟨r01_Nesting_con  hy_1823, trivial⟩, by simp only [go_sem, reduceIte, Nat.reduceLT, Nat.reduceEqDiff, Nat.reduceAdd, Nat.reduceBEq, Nat.reduceMul, Nat.reduceSub, Nat.reduceGT, Nat.reducePow, Nat.reduceLeDiff, Int.reduceToNat, hb_1824], (weak_sel [] (by decide) rfl (by simp only [go_sem, reduceIte, Nat.reduceLT, Nat.reduceEqDiff, Nat.reduceAdd, Nat.reduceBEq, Nat.reduceMul, Nat.reduceSub, Nat.reduceGT, Nat.reducePow, Nat.reduceLeDiff, Int.reduceToNat]) (by simp only [go_sem, reduceIte, Nat.reduceLT, Nat.reduceEqDiff, Nat.reduceAdd, Nat.reduceBEq, Nat.reduceMul, Nat.reduceSub, Nat.reduceGT, Nat.reducePow, Nat.reduceLeDiff, Int.reduceToNat]))⟩
      · replace hv_1822 := ite_f hv_1822 hb_1824
        replace hv_1822 := bind_some1 hv_1822; obtain ⟨y_1820, hy_1825, hv_1822⟩ := hv_1822
        have e_hv_1822 := Option.some.inj hv_1822; subst e_hv_1822
        exact ⟨_, [(14, .bool ((decide ((y_1820.length : Int) > 65536))))], [.box [i64 v_1816.Kind, i64 v_1816.N, .sl false (L cU8 v_1816.B), .sl false (L cApi_Value v_1816.L)] false], orcs_ok (l := [(7, 28, [.agg [i64 v_1816.Kind, i64 v_1816.N, .sl false (L cU8 v_1816.B), .sl false (L cApi_Value v_1816.L)]], i64 y_1819), (11, 36, [.agg [i64 v_1816.Kind, i64 v_1816.N, .sl false (L cU8 v_1816.B), .sl false (L cApi_Value v_1816.L)]], .sl false (L cU8 y_1820))]) ⟨r01_Nesting_con  hy_1823, r01_Bytes_con  hy_1825, trivial⟩, by simp only [go_sem, reduceIte, Nat.reduceLT, Nat.reduceEqDiff, Nat.reduceAdd, Nat.reduceBEq, Nat.reduceMul, Nat.reduceSub, Nat.reduceGT, Nat.reducePow, Nat.reduceLeDiff, Int.reduceToNat, hb_1824], (weak_sel [] (by decide) rfl (by simp only [go_sem, reduceIte, Nat.reduceLT, Nat.reduceEqDiff, Nat.reduceAdd, Nat.reduceBEq, Nat.reduceMul, Nat.reduceSub, Nat.reduceGT, Nat.reducePow, Nat.reduceLeDiff, Int.reduceToNat]) (by simp only [go_sem, reduceIte, Nat.reduceLT, Nat.reduceEqDiff, Nat.reduceAdd, Nat.reduceBEq, Nat.reduceMul, Nat.reduceSub, Nat.reduceGT, Nat.reducePow, Nat.reduceLeDiff, Int.reduceToNat]))⟩
    refine run_condL (b := t_1821) rfl (by decide) (fun hb => ?_) (fun hb => ?_)
    · replace h := ite_t h hb
      refine run_textE hE [2] (fr' := [(2, i64 2)]) (σ' := []) ⟨_, orcs_nil, ?_⟩ ?_
      · simp only [go_sem, reduceIte, Nat.reduceLT, Nat.reduceEqDiff, Nat.reduceAdd, Nat.reduceBEq, Nat.reduceMul, Nat.reduceSub, Nat.reduceGT, Nat.reducePow, Nat.reduceLeDiff, Int.reduceToNat]
      refine run_ret ?_
      refine thenK_r ?_
      obtain rfl := Option.some.inj h
      refine ret_ok (.inr rfl) ?_
      simp only [go_sem, reduceIte, Nat.reduceLT, Nat.reduceEqDiff, Nat.reduceAdd, Nat.reduceBEq, Nat.reduceMul, Nat.reduceSub, Nat.reduceGT, Nat.reducePow, Nat.reduceLeDiff, Int.reduceToNat]
    · replace h := ite_f h hb
      refine run_skip ?_
      refine thenK_n ?_
      refine run_textE hE [2] (fr' := [(2, i64 0)]) (σ' := []) ⟨_, orcs_nil, ?_⟩ ?_
      · simp only [go_sem, reduceIte, Nat.reduceLT, Nat.reduceEqDiff, Nat.reduceAdd, Nat.reduceBEq, Nat.reduceMul, Nat.reduceSub, Nat.reduceGT, Nat.reducePow, Nat.reduceLeDiff, Int.reduceToNat]
      refine run_ret ?_
      obtain rfl := Option.some.inj h
      refine ret_ok (.inr rfl) ?_
      simp only [go_sem, reduceIte, Nat.reduceLT, Nat.reduceEqDiff, Nat.reduceAdd, Nat.reduceBEq, Nat.reduceMul, Nat.reduceSub, Nat.reduceGT, Nat.reducePow, Nat.reduceLeDiff, Int.reduceToNat]

theorem r01_Encode_con {v_1826 : Api_Value} {r : List UInt8 × Int} (h : r01_Encode v_1826 = some r) : Con B 15 [.agg [i64 v_1826.Kind, i64 v_1826.N, .sl false (L cU8 v_1826.B), .sl false (L cApi_Value v_1826.L)]] [] (fun r' σ' => r' = .tup [.sl false (L cU8 r.1), i64 r.2] ∧ σ' = []) := by
  refine con_walk (N := 12) (rs := [.tmp 2, .tmp 3]) ok Try.func15 rfl (by decide +kernel) rfl rfl (Nat.le_of_ble_eq_true rfl) (fun F => ?_)
  have hE := ok.env F
  unfold r01_Encode at h
  show Run (B.env F) 0 _ ⟨asFr 12 [(0, .agg [i64 v_1826.Kind, i64 v_1826.N, .sl false (L cU8 v_1826.B), .sl false (L cApi_Value v_1826.L)])], []⟩ _
  refine run_textE hE [1] (fr' := [(1, .ref 0 0)]) (σ' := [.box [i64 v_1826.Kind, i64 v_1826.N, .sl false (L cU8 v_1826.B), .sl false (L cApi_Value v_1826.L)] false]) ⟨_, orcs_nil, ?_⟩ ?_
  · simp only [go_sem, reduceIte, Nat.reduceLT, Nat.reduceEqDiff, Nat.reduceAdd, Nat.reduceBEq, Nat.reduceMul, Nat.reduceSub, Nat.reduceGT, Nat.reducePow, Nat.reduceLeDiff, Int.reduceToNat]
  replace h := bind_some1 h; obtain ⟨y_1827, hy_1828, h⟩ := h
  refine run_textE hE [1, 4] (fr' := [(1, .ref 0 0), (4, i64 y_1827)]) (σ' := [.box [i64 v_1826.Kind, i64 v_1826.N, .sl false (L cU8 v_1826.B), .sl false (L cApi_Value v_1826.L)] false]) ⟨_, orcs_ok (l := [(6, 17, [.agg [i64 v_1826.Kind, i64 v_1826.N, .sl false (L cU8 v_1826.B), .sl false (L cApi_Value v_1826.L)]], i64 y_1827)]) ⟨r01_Check_con  hy_1828, trivial⟩, ?_⟩ ?_
  · simp only [go_sem, reduceIte, Nat.reduceLT, Nat.reduceEqDiff, Nat.reduceAdd, Nat.reduceBEq, Nat.reduceMul, Nat.reduceSub, Nat.reduceGT, Nat.reducePow, Nat.reduceLeDiff, Int.reduceToNat]
  refine run_seq ?_
  refine run_textE hE [1, 4, 8] (fr' := [(1, .ref 0 0), (4, i64 y_1827), (8, .bool ((y_1827 != 0)))]) (σ' := [.box [i64 v_1826.Kind, i64 v_1826.N, .sl false (L cU8 v_1826.B), .sl false (L cApi_Value v_1826.L)] false]) ⟨_, orcs_nil, ?_⟩ ?_
  · simp only [go_sem, reduceIte, Nat.reduceLT, Nat.reduceEqDiff, Nat.reduceAdd, Nat.reduceBEq, Nat.reduceMul, Nat.reduceSub, Nat.reduceGT, Nat.reducePow, Nat.reduceLeDiff, Int.reduceToNat]
  refine run_condL (b := (y_1827 != 0)) rfl (by decide) (fun hb => ?_) (fun hb => ?_)
  · replace h := ite_t h hb
    refine run_textE hE [2, 3] (fr' := [(2, .sl true (L cU8 ([]))), (3, i64 y_1827)]) (σ' := [.box [i64 v_1826.Kind, i64 v_1826.N, .sl false (L cU8 v_1826.B), .sl false (L cApi_Value v_1826.L)] false]) ⟨_, orcs_nil, ?_⟩ ?_
    · simp only [go_sem, reduceIte, Nat.reduceLT, Nat.reduceEqDiff, Nat.reduceAdd, Nat.reduceBEq, Nat.reduceMul, Nat.reduceSub, Nat.reduceGT, Nat.reducePow, Nat.reduceLeDiff, Int.reduceToNat]
    refine run_ret ?_
    refine thenK_r ?_
    obtain rfl := Option.some.inj h
    refine ret_ok (.inr rfl) ?_
    simp only [go_sem, reduceIte, Nat.reduceLT, Nat.reduceEqDiff, Nat.reduceAdd, Nat.reduceBEq, Nat.reduceMul, Nat.reduceSub, Nat.reduceGT, Nat.reducePow, Nat.reduceLeDiff, Int.reduceToNat]
  · replace h := ite_f h hb
    refine run_skip ?_
    refine thenK_n ?_
    replace h := bind_some1 h; obtain ⟨y_1829, hy_1830, h⟩ := h
    refine run_textE hE [2, 3] (fr' := [(2, .sl false (L cU8 y_1829)), (3, i64 0)]) (σ' := [.box [i64 v_1826.Kind, i64 v_1826.N, .sl false (L cU8 v_1826.B), .sl false (L cApi_Value v_1826.L)] false]) ⟨_, orcs_ok (l := [(11, 36, [.agg [i64 v_1826.Kind, i64 v_1826.N, .sl false (L cU8 v_1826.B), .sl false (L cApi_Value v_1826.L)]], .sl false (L cU8 y_1829))]) ⟨r01_Bytes_con  hy_1830, trivial⟩, ?_⟩ ?_
    · simp only [go_sem, reduceIte, Nat.reduceLT, Nat.reduceEqDiff, Nat.reduceAdd, Nat.reduceBEq, Nat.reduceMul, Nat.reduceSub, Nat.reduceGT, Nat.reducePow, Nat.reduceLeDiff, Int.reduceToNat]
    refine run_ret ?_
    obtain rfl := Option.some.inj h
    refine ret_ok (.inr rfl) ?_
    simp only [go_sem, reduceIte, Nat.reduceLT, Nat.reduceEqDiff, Nat.reduceAdd, Nat.reduceBEq, Nat.reduceMul, Nat.reduceSub, Nat.reduceGT, Nat.reducePow, Nat.reduceLeDiff, Int.reduceToNat]

theorem r01_Order_con {a_1831 : Int} {b_1832 : Int} {r : Int} (h : r01_Order a_1831 b_1832 = some r) : Con B 30 [i64 a_1831, i64 b_1832] [] (fun r' σ' => r' = i64 r ∧ σ' = []) := by
  refine con_walk (N := 11) (rs := [.tmp 4]) ok Try.func30 rfl (by decide +kernel) rfl rfl (Nat.le_of_ble_eq_true rfl) (fun F => ?_)
  have hE := ok.env F
  unfold r01_Order at h
  show Run (B.env F) 0 _ ⟨asFr 11 [(0, i64 a_1831), (1, i64 b_1832)], []⟩ _
  refine run_textE hE [0, 1] (fr' := [(0, i64 a_1831), (1, i64 b_1832)]) (σ' := []) ⟨_, orcs_nil, ?_⟩ ?_
  · simp only [go_sem, reduceIte, Nat.reduceLT, Nat.reduceEqDiff, Nat.reduceAdd, Nat.reduceBEq, Nat.reduceMul, Nat.reduceSub, Nat.reduceGT, Nat.reducePow, Nat.reduceLeDiff, Int.reduceToNat]
  refine run_seq ?_
  refine run_textE hE [0, 1, 7] (fr' := [(0, i64 a_1831), (1, i64 b_1832), (7, .bool ((decide (a_1831 < b_1832))))]) (σ' := []) ⟨_, orcs_nil, ?_⟩ ?_
  · simp only [go_sem, reduceIte, Nat.reduceLT, Nat.reduceEqDiff, Nat.reduceAdd, Nat.reduceBEq, Nat.reduceMul, Nat.reduceSub, Nat.reduceGT, Nat.reducePow, Nat.reduceLeDiff, Int.reduceToNat]
  refine run_condL (b := (decide (a_1831 < b_1832))) rfl (by decide) (fun hb => ?_) (fun hb => ?_)
  · replace h := ite_t h hb
    refine run_textE hE [4] (fr' := [(4, i64 ((-1)))]) (σ' := []) ⟨_, orcs_nil, ?_⟩ ?_
    · simp only [go_sem, reduceIte, Nat.reduceLT, Nat.reduceEqDiff, Nat.reduceAdd, Nat.reduceBEq, Nat.reduceMul, Nat.reduceSub, Nat.reduceGT, Nat.reducePow, Nat.reduceLeDiff, Int.reduceToNat]
    refine run_ret ?_
    refine thenK_r ?_
    obtain rfl := Option.some.inj h
    refine ret_ok (.inr rfl) ?_
    simp only [go_sem, reduceIte, Nat.reduceLT, Nat.reduceEqDiff, Nat.reduceAdd, Nat.reduceBEq, Nat.reduceMul, Nat.reduceSub, Nat.reduceGT, Nat.reducePow, Nat.reduceLeDiff, Int.reduceToNat]
  · replace h := ite_f h hb
    refine run_skip ?_
    refine thenK_n ?_
    refine run_seq ?_
    refine run_textE hE [10] (fr' := [(10, .bool ((decide (a_1831 > b_1832))))]) (σ' := []) ⟨_, orcs_nil, ?_⟩ ?_
    · simp only [go_sem, reduceIte, Nat.reduceLT, Nat.reduceEqDiff, Nat.reduceAdd, Nat.reduceBEq, Nat.reduceMul, Nat.reduceSub, Nat.reduceGT, Nat.reducePow, Nat.reduceLeDiff, Int.reduceToNat]
    refine run_condL (b := (decide (a_1831 > b_1832))) rfl (by decide) (fun hb => ?_) (fun hb => ?_)
    · replace h := ite_t h hb
      refine run_textE hE [4] (fr' := [(4, i64 1)]) (σ' := []) ⟨_, orcs_nil, ?_⟩ ?_
      · simp only [go_sem, reduceIte, Nat.reduceLT, Nat.reduceEqDiff, Nat.reduceAdd, Nat.reduceBEq, Nat.reduceMul, Nat.reduceSub, Nat.reduceGT, Nat.reducePow, Nat.reduceLeDiff, Int.reduceToNat]
      refine run_ret ?_
      refine thenK_r ?_
      obtain rfl := Option.some.inj h
      refine ret_ok (.inr rfl) ?_
      simp only [go_sem, reduceIte, Nat.reduceLT, Nat.reduceEqDiff, Nat.reduceAdd, Nat.reduceBEq, Nat.reduceMul, Nat.reduceSub, Nat.reduceGT, Nat.reducePow, Nat.reduceLeDiff, Int.reduceToNat]
    · replace h := ite_f h hb
      refine run_skip ?_
      refine thenK_n ?_
      refine run_textE hE [4] (fr' := [(4, i64 0)]) (σ' := []) ⟨_, orcs_nil, ?_⟩ ?_
      · simp only [go_sem, reduceIte, Nat.reduceLT, Nat.reduceEqDiff, Nat.reduceAdd, Nat.reduceBEq, Nat.reduceMul, Nat.reduceSub, Nat.reduceGT, Nat.reducePow, Nat.reduceLeDiff, Int.reduceToNat]
      refine run_ret ?_
      obtain rfl := Option.some.inj h
      refine ret_ok (.inr rfl) ?_
      simp only [go_sem, reduceIte, Nat.reduceLT, Nat.reduceEqDiff, Nat.reduceAdd, Nat.reduceBEq, Nat.reduceMul, Nat.reduceSub, Nat.reduceGT, Nat.reducePow, Nat.reduceLeDiff, Int.reduceToNat]

end Go.Proofs.Ytihncddenjbecaa
/-
  The functions compute just that.
-/
namespace Go.Proofs.Ytihncddenjbecaa
open Go.Rv
set_option linter.unusedVariables false
set_option linter.unusedSimpArgs false
set_option maxRecDepth 20000

theorem r01_OrderBytes_con {a_1833 : List UInt8} {b_1834 : List UInt8} {r : Int} (h : r01_OrderBytes a_1833 b_1834 = some r) : Con B 24 [.sl false (L cU8 a_1833), .sl false (L cU8 b_1834)] [] (fun r' σ' => r' = i64 r ∧ σ' = []) := by
  refine con_walk (N := 43) (rs := [.tmp 4]) ok Try.func24 rfl (by decide +kernel) rfl rfl (Nat.le_of_ble_eq_true rfl) (fun F => ?_)
  have hE := ok.env F
  unfold r01_OrderBytes at h
  show Run (B.env F) 0 _ ⟨asFr 43 [(0, .sl false (L cU8 a_1833)), (1, .sl false (L cU8 b_1834))], []⟩ _
  refine run_textE hE [0, 1] (fr' := [(0, .sl false (L cU8 a_1833)), (1, .sl false (L cU8 b_1834))]) (σ' := []) ⟨_, orcs_nil, ?_⟩ ?_
  · simp only [go_sem, reduceIte, Nat.reduceLT, Nat.reduceEqDiff, Nat.reduceAdd, Nat.reduceBEq, Nat.reduceMul, Nat.reduceSub, Nat.reduceGT, Nat.reducePow, Nat.reduceLeDiff, Int.reduceToNat]
  replace h := bind_some1 h; obtain ⟨j_1874, hA_1875, hj_1876⟩ := h
  refine run_join (fun (v : Unit) => (⟨asFr 43 [(0, .sl false (L cU8 a_1833)), (1, .sl false (L cU8 b_1834))], []⟩ : St)) (fun v => .inl v = j_1874) ?_ ?_
  · have h := hA_1875; clear hA_1875
    refine run_textE hE [0, 1, 5] (fr' := [(0, .sl false (L cU8 a_1833)), (1, .sl false (L cU8 b_1834)), (5, i64 0)]) (σ' := []) ⟨_, orcs_nil, ?_⟩ ?_
    · simp only [go_sem, reduceIte, Nat.reduceLT, Nat.reduceEqDiff, Nat.reduceAdd, Nat.reduceBEq, Nat.reduceMul, Nat.reduceSub, Nat.reduceGT, Nat.reducePow, Nat.reduceLeDiff, Int.reduceToNat]
    refine run_block ?_
    replace h := bind_some1 h; obtain ⟨x_1900, hx_1901, hj_1902⟩ := h
    refine run_loopO hx_1901 (fun (v : Int) => (⟨asFr 43 [(0, .sl false (L cU8 a_1833)), (1, .sl false (L cU8 b_1834)), (5, i64 v)], []⟩ : St)) (weak_sel [] (by decide) rfl (by simp only [go_sem, reduceIte, Nat.reduceLT, Nat.reduceEqDiff, Nat.reduceAdd, Nat.reduceBEq, Nat.reduceMul, Nat.reduceSub, Nat.reduceGT, Nat.reducePow, Nat.reduceLeDiff, Int.reduceToNat]) (by simp only [go_sem, reduceIte, Nat.reduceLT, Nat.reduceEqDiff, Nat.reduceAdd, Nat.reduceBEq, Nat.reduceMul, Nat.reduceSub, Nat.reduceGT, Nat.reducePow, Nat.reduceLeDiff, Int.reduceToNat])) ?_
    rintro i_1888 o_1903 h hxx_1904
    replace h : r01_OrderBytes_b1 a_1833 b_1834 i_1888 = some o_1903 := h
    unfold r01_OrderBytes_b1 at h
    refine run_seq ?_
    replace h := bind_some1 h; obtain ⟨t_1905, hv_1906, h⟩ := h
    refine run_textW hE [0, 1, 5, 15] (fr' := [(0, .sl false (L cU8 a_1833)), (1, .sl false (L cU8 b_1834)), (5, i64 i_1888), (15, .bool t_1905)]) (σ' := []) ?_ ?_
    · rcases Bool.eq_false_or_eq_true ((decide (i_1888 < (a_1833.length : Int)))) with hb_1907 | hb_1907
      · replace hv_1906 := ite_t hv_1906 hb_1907
        have e_hv_1906 := Option.some.inj hv_1906; subst e_hv_1906
        exact ⟨_, [(0, .sl false (L cU8 a_1833)), (1, .sl false (L cU8 b_1834)), (5, i64 i_1888), (15, .bool ((decide (i_1888 < (b_1834.length : Int)))))], [], orcs_nil, by simp only [go_sem, reduceIte, Nat.reduceLT, Nat.reduceEqDiff, Nat.reduceAdd, Nat.reduceBEq, Nat.reduceMul, Nat.reduceSub, Nat.reduceGT, Nat.reducePow, Nat.reduceLeDiff, Int.reduceToNat, hb_1907], (weak_sel [] (by decide) rfl (by simp only [go_sem, reduceIte, Nat.reduceLT, Nat.reduceEqDiff, Nat.reduceAdd, Nat.reduceBEq, Nat.reduceMul, Nat.reduceSub, Nat.reduceGT, Nat.reducePow, Nat.reduceLeDiff, Int.reduceToNat]) (by simp only [go_sem, reduceIte, Nat.reduceLT, Nat.reduceEqDiff, Nat.reduceAdd, Nat.reduceBEq, Nat.reduceMul, Nat.reduceSub, Nat.reduceGT, Nat.reducePow, Nat.reduceLeDiff, Int.reduceToNat]))⟩
      · replace hv_1906 := ite_f hv_1906 hb_1907
        have e_hv_1906 := Option.some.inj hv_1906; subst e_hv_1906
        exact ⟨_, [(0, .sl false (L cU8 a_1833)), (1, .sl false (L cU8 b_1834)), (5, i64 i_1888), (15, .bool false)], [], orcs_nil, by simp only [go_sem, reduceIte, Nat.reduceLT, Nat.reduceEqDiff, Nat.reduceAdd, Nat.reduceBEq, Nat.reduceMul, Nat.reduceSub, Nat.reduceGT, Nat.reducePow, Nat.reduceLeDiff, Int.reduceToNat, hb_1907], (weak_sel [] (by decide) rfl (by simp only [go_sem, reduceIte, Nat.reduceLT, Nat.reduceEqDiff, Nat.reduceAdd, Nat.reduceBEq, Nat.reduceMul, Nat.reduceSub, Nat.reduceGT, Nat.reducePow, Nat.reduceLeDiff, Int.reduceToNat]) (by simp only [go_sem, reduceIte, Nat.reduceLT, Nat.reduceEqDiff, Nat.reduceAdd, Nat.reduceBEq, Nat.reduceMul, Nat.reduceSub, Nat.reduceGT, Nat.reducePow, Nat.reduceLeDiff, Int.reduceToNat]))⟩
    refine run_condL (b := t_1905) rfl (by decide) (fun hb => ?_) (fun hb => ?_)
    · replace h := ite_t h hb
      refine run_skip ?_
      refine thenK_n ?_
      refine run_seq ?_
      refine run_block ?_
      replace h := chk_some h; obtain ⟨hc_1908, h⟩ := h
      replace h := chk_some h; obtain ⟨hc_1909, h⟩ := h
      refine run_drawE hE mixed [[], [], [0, 1], [0, 1, 2], [], [], [4, 5], [4, 5, 6], [0, 1, 2, 3, 4, 5, 6, 7]] (by kernel_rfl) (by kernel_rfl) [0, 1, 5, 26] (fr' := [(0, .sl false (L cU8 a_1833)), (1, .sl false (L cU8 b_1834)), (5, i64 i_1888), (26, .bool ((nth a_1833 i_1888.toNat != nth b_1834 i_1888.toNat)))]) (σ' := []) ⟨_, orcs_nil, ?_⟩ ?_
      · simp only [go_sem, reduceIte, Nat.reduceLT, Nat.reduceEqDiff, Nat.reduceAdd, Nat.reduceBEq, Nat.reduceMul, Nat.reduceSub, Nat.reduceGT, Nat.reducePow, Nat.reduceLeDiff, Int.reduceToNat, hc_1908, hc_1908.2, lt_le hc_1908.2, hc_1909, hc_1909.2, lt_le hc_1909.2]
      refine run_condL (b := (nth a_1833 i_1888.toNat != nth b_1834 i_1888.toNat)) rfl (by decide) (fun hb => ?_) (fun hb => ?_)
      · replace h := ite_t h hb
        replace h := chk_some h; obtain ⟨hc_1911, h⟩ := h
        replace h := chk_some h; obtain ⟨hc_1912, h⟩ := h
        replace h := bind_some1 h; obtain ⟨y_1910, hy_1913, h⟩ := h
        refine run_drawE hE mixed [[], [], [0, 1], [0, 1, 2], [0, 1, 2, 3], [], [], [5, 6], [5, 6, 7], [5, 6, 7, 8], [0, 1, 2, 3, 4, 5, 6, 7, 8, 9], [0, 1, 2, 3, 4, 5, 6, 7, 8, 9, 10]] (by kernel_rfl) (by kernel_rfl) [4] (fr' := [(4, i64 y_1910)]) (σ' := []) ⟨_, orcs_ok (l := [(37, 30, [i64 (((nth a_1833 i_1888.toNat).toNat : Int)), i64 (((nth b_1834 i_1888.toNat).toNat : Int))], i64 y_1910)]) ⟨r01_Order_con  hy_1913, trivial⟩, ?_⟩ ?_
        · simp only [go_sem, reduceIte, Nat.reduceLT, Nat.reduceEqDiff, Nat.reduceAdd, Nat.reduceBEq, Nat.reduceMul, Nat.reduceSub, Nat.reduceGT, Nat.reducePow, Nat.reduceLeDiff, Int.reduceToNat, hc_1911, hc_1911.2, lt_le hc_1911.2, hc_1912, hc_1912.2, lt_le hc_1912.2]
        refine run_ret ?_
        refine blockK_r ?_
        refine thenK_r ?_
        refine lpK_r ?_
        replace h := bind_some1 h; obtain ⟨z_1915, h, e_z_1915⟩ := h
        obtain rfl := Option.some.inj e_z_1915
        have ex_z_1915 := hxx_1904 _ rfl
        subst ex_z_1915
        obtain rfl := Option.some.inj hj_1902
        refine blockK_r ?_
        refine joinK_r ?_
        replace h := bind_some1 h; obtain ⟨z_1914, h, e_z_1914⟩ := h
        obtain rfl := Option.some.inj e_z_1914
        obtain rfl := Option.some.inj hj_1876
        obtain rfl := Option.some.inj h
        refine ret_ok (.inr rfl) ?_
        simp only [go_sem, reduceIte, Nat.reduceLT, Nat.reduceEqDiff, Nat.reduceAdd, Nat.reduceBEq, Nat.reduceMul, Nat.reduceSub, Nat.reduceGT, Nat.reducePow, Nat.reduceLeDiff, Int.reduceToNat]
      · replace h := ite_f h hb
        refine run_skip ?_
        refine blockK_n ?_
        refine thenK_n ?_
        refine run_textE0 hE wk_lp [0, 1, 5] (fr' := [(0, .sl false (L cU8 a_1833)), (1, .sl false (L cU8 b_1834)), (5, i64 ((w64 (i_1888 + 1))))]) (σ' := []) ⟨_, orcs_nil, ?_⟩ ?_
        · simp only [go_sem, reduceIte, Nat.reduceLT, Nat.reduceEqDiff, Nat.reduceAdd, Nat.reduceBEq, Nat.reduceMul, Nat.reduceSub, Nat.reduceGT, Nat.reducePow, Nat.reduceLeDiff, Int.reduceToNat]
        obtain rfl := Option.some.inj h
        exact lpK_n ((w64 (i_1888 + 1))) rfl (weak_sel [] (by decide) rfl (by simp only [go_sem, reduceIte, Nat.reduceLT, Nat.reduceEqDiff, Nat.reduceAdd, Nat.reduceBEq, Nat.reduceMul, Nat.reduceSub, Nat.reduceGT, Nat.reducePow, Nat.reduceLeDiff, Int.reduceToNat]) (by simp only [go_sem, reduceIte, Nat.reduceLT, Nat.reduceEqDiff, Nat.reduceAdd, Nat.reduceBEq, Nat.reduceMul, Nat.reduceSub, Nat.reduceGT, Nat.reducePow, Nat.reduceLeDiff, Int.reduceToNat]))
    · replace h := ite_f h hb
      refine run_exit ?_
      refine thenK_x ?_
      obtain rfl := Option.some.inj h
      have ex_x_1900 := hxx_1904 _ rfl
      subst ex_x_1900
      have h := hj_1902; clear hj_1902
      refine lpK_x ?_
      refine blockK_x ?_
      obtain rfl := Option.some.inj h
      exact joinK_n (()) rfl ((weak_sel (l' := [(0, .sl false (L cU8 a_1833)), (1, .sl false (L cU8 b_1834))]) (σ' := []) [] (by decide) rfl (by simp only [go_sem, reduceIte, Nat.reduceLT, Nat.reduceEqDiff, Nat.reduceAdd, Nat.reduceBEq, Nat.reduceMul, Nat.reduceSub, Nat.reduceGT, Nat.reducePow, Nat.reduceLeDiff, Int.reduceToNat]) (by simp only [go_sem, reduceIte, Nat.reduceLT, Nat.reduceEqDiff, Nat.reduceAdd, Nat.reduceBEq, Nat.reduceMul, Nat.reduceSub, Nat.reduceGT, Nat.reducePow, Nat.reduceLeDiff, Int.reduceToNat])).trans (weak_sel [] (by decide) rfl (by simp only [go_sem, reduceIte, Nat.reduceLT, Nat.reduceEqDiff, Nat.reduceAdd, Nat.reduceBEq, Nat.reduceMul, Nat.reduceSub, Nat.reduceGT, Nat.reducePow, Nat.reduceLeDiff, Int.reduceToNat]) (by simp only [go_sem, reduceIte, Nat.reduceLT, Nat.reduceEqDiff, Nat.reduceAdd, Nat.reduceBEq, Nat.reduceMul, Nat.reduceSub, Nat.reduceGT, Nat.reducePow, Nat.reduceLeDiff, Int.reduceToNat])))
  rintro ⟨⟩ rfl
  have h := hj_1876; clear hj_1876
  replace h := bind_some1 h; obtain ⟨y_1916, hy_1917, h⟩ := h
  refine run_textE hE [4] (fr' := [(4, i64 y_1916)]) (σ' := []) ⟨_, orcs_ok (l := [(42, 30, [i64 ((a_1833.length : Int)), i64 ((b_1834.length : Int))], i64 y_1916)]) ⟨r01_Order_con  hy_1917, trivial⟩, ?_⟩ ?_
  · simp only [go_sem, reduceIte, Nat.reduceLT, Nat.reduceEqDiff, Nat.reduceAdd, Nat.reduceBEq, Nat.reduceMul, Nat.reduceSub, Nat.reduceGT, Nat.reducePow, Nat.reduceLeDiff, Int.reduceToNat]
  refine run_ret ?_
  obtain rfl := Option.some.inj h
  refine ret_ok (.inr rfl) ?_
  simp only [go_sem, reduceIte, Nat.reduceLT, Nat.reduceEqDiff, Nat.reduceAdd, Nat.reduceBEq, Nat.reduceMul, Nat.reduceSub, Nat.reduceGT, Nat.reducePow, Nat.reduceLeDiff, Int.reduceToNat]

theorem r01_SameBytes_con {a_1918 : List UInt8} {b_1919 : List UInt8} {r : Bool} (h : r01_SameBytes a_1918 b_1919 = some r) : Con B 18 [.sl false (L cU8 a_1918), .sl false (L cU8 b_1919)] [] (fun r' σ' => r' = .bool r ∧ σ' = []) := by
  refine con_walk (N := 9) (rs := [.tmp 4]) ok Try.func18 rfl (by decide +kernel) rfl rfl (Nat.le_of_ble_eq_true rfl) (fun F => ?_)
  have hE := ok.env F
  unfold r01_SameBytes at h
  show Run (B.env F) 0 _ ⟨asFr 9 [(0, .sl false (L cU8 a_1918)), (1, .sl false (L cU8 b_1919))], []⟩ _
  refine run_textE hE [0, 1] (fr' := [(0, .sl false (L cU8 a_1918)), (1, .sl false (L cU8 b_1919))]) (σ' := []) ⟨_, orcs_nil, ?_⟩ ?_
  · simp only [go_sem, reduceIte, Nat.reduceLT, Nat.reduceEqDiff, Nat.reduceAdd, Nat.reduceBEq, Nat.reduceMul, Nat.reduceSub, Nat.reduceGT, Nat.reducePow, Nat.reduceLeDiff, Int.reduceToNat]
  replace h := bind_some1 h; obtain ⟨y_1920, hy_1921, h⟩ := h
  refine run_textE hE [4] (fr' := [(4, .bool ((y_1920 == 0)))]) (σ' := []) ⟨_, orcs_ok (l := [(7, 24, [.sl false (L cU8 a_1918), .sl false (L cU8 b_1919)], i64 y_1920)]) ⟨r01_OrderBytes_con  hy_1921, trivial⟩, ?_⟩ ?_
  · simp only [go_sem, reduceIte, Nat.reduceLT, Nat.reduceEqDiff, Nat.reduceAdd, Nat.reduceBEq, Nat.reduceMul, Nat.reduceSub, Nat.reduceGT, Nat.reducePow, Nat.reduceLeDiff, Int.reduceToNat]
  refine run_ret ?_
  obtain rfl := Option.some.inj h
  refine ret_ok (.inr rfl) ?_
  simp only [go_sem, reduceIte, Nat.reduceLT, Nat.reduceEqDiff, Nat.reduceAdd, Nat.reduceBEq, Nat.reduceMul, Nat.reduceSub, Nat.reduceGT, Nat.reducePow, Nat.reduceLeDiff, Int.reduceToNat]

end Go.Proofs.Ytihncddenjbecaa
/-
  The functions compute just that.
-/
namespace Go.Proofs.Ytihncddenjbecaa
open Go.Rv
set_option linter.unusedVariables false
set_option linter.unusedSimpArgs false
set_option maxRecDepth 20000

theorem r01_Same_F_con {rec_ : Api_Value → Api_Value → Option (Bool)} (hrec : ∀ {a_2097 : Api_Value} {b_2098 : Api_Value} {r : Bool}, rec_ a_2097 b_2098 = some r → Con B 23 [.agg [i64 a_2097.Kind, i64 a_2097.N, .sl false (L cU8 a_2097.B), .sl false (L cApi_Value a_2097.L)], .agg [i64 b_2098.Kind, i64 b_2098.N, .sl false (L cU8 b_2098.B), .sl false (L cApi_Value b_2098.L)]] [] (fun r' σ' => r' = .bool r ∧ σ' = [])) {a_2097 : Api_Value} {b_2098 : Api_Value} {r : Bool} (h : r01_Same_F rec_ a_2097 b_2098 = some r) : Con B 23 [.agg [i64 a_2097.Kind, i64 a_2097.N, .sl false (L cU8 a_2097.B), .sl false (L cApi_Value a_2097.L)], .agg [i64 b_2098.Kind, i64 b_2098.N, .sl false (L cU8 b_2098.B), .sl false (L cApi_Value b_2098.L)]] [] (fun r' σ' => r' = .bool r ∧ σ' = []) := by
  refine con_walk (N := 54) (rs := [.tmp 4]) ok Try.func23 rfl (by decide +kernel) rfl rfl (Nat.le_of_ble_eq_true rfl) (fun F => ?_)
  have hE := ok.env F
  unfold r01_Same_F at h
  show Run (B.env F) 0 _ ⟨asFr 54 [(0, .agg [i64 a_2097.Kind, i64 a_2097.N, .sl false (L cU8 a_2097.B), .sl false (L cApi_Value a_2097.L)]), (1, .agg [i64 b_2098.Kind, i64 b_2098.N, .sl false (L cU8 b_2098.B), .sl false (L cApi_Value b_2098.L)])], []⟩ _
  refine run_textE hE [2, 3] (fr' := [(2, .ref 0 0), (3, .ref 1 0)]) (σ' := [.box [i64 a_2097.Kind, i64 a_2097.N, .sl false (L cU8 a_2097.B), .sl false (L cApi_Value a_2097.L)] false, .box [i64 b_2098.Kind, i64 b_2098.N, .sl false (L cU8 b_2098.B), .sl false (L cApi_Value b_2098.L)] false]) ⟨_, orcs_nil, ?_⟩ ?_
  · simp only [go_sem, reduceIte, Nat.reduceLT, Nat.reduceEqDiff, Nat.reduceAdd, Nat.reduceBEq, Nat.reduceMul, Nat.reduceSub, Nat.reduceGT, Nat.reducePow, Nat.reduceLeDiff, Int.reduceToNat]
  refine run_seq ?_
  replace h := bind_some1 h; obtain ⟨t_2100, hv_2101, h⟩ := h
  refine run_textW hE [2, 3, 34] (fr' := [(2, .ref 0 0), (3, .ref 1 0), (34, .bool t_2100)]) (σ' := [.box [i64 a_2097.Kind, i64 a_2097.N, .sl false (L cU8 a_2097.B), .sl false (L cApi_Value a_2097.L)] false, .box [i64 b_2098.Kind, i64 b_2098.N, .sl false (L cU8 b_2098.B), .sl false (L cApi_Value b_2098.L)] false]) ?_ ?_
  · rcases Bool.eq_false_or_eq_true ((a_2097.Kind != b_2098.Kind)) with hb_2102 | hb_2102
    · replace hv_2101 := ite_t hv_2101 hb_2102
      have e_hv_2101 := Option.some.inj hv_2101; subst e_hv_2101
      exact ⟨_, [(2, .ref 0 0), (3, .ref 1 0), (34, .bool true)], [.box [i64 a_2097.Kind, i64 a_2097.N, .sl false (L cU8 a_2097.B), .sl false (L cApi_Value a_2097.L)] false, .box [i64 b_2098.Kind, i64 b_2098.N, .sl false (L cU8 b_2098.B), .sl false (L cApi_Value b_2098.L)] false], orcs_nil, by simp only [go_sem, reduceIte, Nat.reduceLT, Nat.reduceEqDiff, Nat.reduceAdd, Nat.reduceBEq, Nat.reduceMul, Nat.reduceSub, Nat.reduceGT, Nat.reducePow, Nat.reduceLeDiff, Int.reduceToNat, hb_2102], (weak_sel [0, 1] (by decide) rfl (by simp only [go_sem, reduceIte, Nat.reduceLT, Nat.reduceEqDiff, Nat.reduceAdd, Nat.reduceBEq, Nat.reduceMul, Nat.reduceSub, Nat.reduceGT, Nat.reducePow, Nat.reduceLeDiff, Int.reduceToNat]) (by simp only [go_sem, reduceIte, Nat.reduceLT, Nat.reduceEqDiff, Nat.reduceAdd, Nat.reduceBEq, Nat.reduceMul, Nat.reduceSub, Nat.reduceGT, Nat.reducePow, Nat.reduceLeDiff, Int.reduceToNat]))⟩
    · replace hv_2101 := ite_f hv_2101 hb_2102
      rcases Bool.eq_false_or_eq_true ((a_2097.N != b_2098.N)) with hb_2103 | hb_2103
      · replace hv_2101 := ite_t hv_2101 hb_2103
        have e_hv_2101 := Option.some.inj hv_2101; subst e_hv_2101
        exact ⟨_, [(2, .ref 0 0), (3, .ref 1 0), (34, .bool true)], [.box [i64 a_2097.Kind, i64 a_2097.N, .sl false (L cU8 a_2097.B), .sl false (L cApi_Value a_2097.L)] false, .box [i64 b_2098.Kind, i64 b_2098.N, .sl false (L cU8 b_2098.B), .sl false (L cApi_Value b_2098.L)] false], orcs_nil, by simp only [go_sem, reduceIte, Nat.reduceLT, Nat.reduceEqDiff, Nat.reduceAdd, Nat.reduceBEq, Nat.reduceMul, Nat.reduceSub, Nat.reduceGT, Nat.reducePow, Nat.reduceLeDiff, Int.reduceToNat, hb_2102, hb_2103], (weak_sel [0, 1] (by decide) rfl (by simp only [go_sem, reduceIte, Nat.reduceLT, Nat.reduceEqDiff, Nat.reduceAdd, Nat.reduceBEq, Nat.reduceMul, Nat.reduceSub, Nat.reduceGT, Nat.reducePow, Nat.reduceLeDiff, Int.reduceToNat]) (by simp only [go_sem, reduceIte, Nat.reduceLT, Nat.reduceEqDiff, Nat.reduceAdd, Nat.reduceBEq, Nat.reduceMul, Nat.reduceSub, Nat.reduceGT, Nat.reducePow, Nat.reduceLeDiff, Int.reduceToNat]))⟩
      · replace hv_2101 := ite_f hv_2101 hb_2103
        replace hv_2101 := bind_some1 hv_2101; obtain ⟨y_2099, hy_2104, hv_2101⟩ := hv_2101
        rcases Bool.eq_false_or_eq_true ((y_2099 != 0)) with hb_2105 | hb_2105
        · replace hv_2101 := ite_t hv_2101 hb_2105
          have e_hv_2101 := Option.some.inj hv_2101; subst e_hv_2101
          exact ⟨_, [(2, .ref 0 0), (3, .ref 1 0), (34, .bool true)], [.box [i64 a_2097.Kind, i64 a_2097.N, .sl false (L cU8 a_2097.B), .sl false (L cApi_Value a_2097.L)] false, .box [i64 b_2098.Kind, i64 b_2098.N, .sl false (L cU8 b_2098.B), .sl false (L cApi_Value b_2098.L)] false], orcs_ok (l := [(23, 24, [.sl false (L cU8 a_2097.B), .sl false (L cU8 b_2098.B)], i64 y_2099)]) ⟨r01_OrderBytes_con  hy_2104, trivial⟩, by simp only [go_sem, reduceIte, Nat.reduceLT, Nat.reduceEqDiff, Nat.reduceAdd, Nat.reduceBEq, Nat.reduceMul, Nat.reduceSub, Nat.reduceGT, Nat.reducePow, Nat.reduceLeDiff, Int.reduceToNat, hb_2102, hb_2103, hb_2105], (weak_sel [0, 1] (by decide) rfl (by simp only [go_sem, reduceIte, Nat.reduceLT, Nat.reduceEqDiff, Nat.reduceAdd, Nat.reduceBEq, Nat.reduceMul, Nat.reduceSub, Nat.reduceGT, Nat.reducePow, Nat.reduceLeDiff, Int.reduceToNat]) (by simp only [go_sem, reduceIte, Nat.reduceLT, Nat.reduceEqDiff, Nat.reduceAdd, Nat.reduceBEq, Nat.reduceMul, Nat.reduceSub, Nat.reduceGT, Nat.reducePow, Nat.reduceLeDiff, Int.reduceToNat]))⟩
        · replace hv_2101 := ite_f hv_2101 hb_2105
          have e_hv_2101 := Option.some.inj hv_2101; subst e_hv_2101
          exact ⟨_, [(2, .ref 0 0), (3, .ref 1 0), (34, .bool (((a_2097.L.length : Int) != (b_2098.L.length : Int))))], [.box [i64 a_2097.Kind, i64 a_2097.N, .sl false (L cU8 a_2097.B), .sl false (L cApi_Value a_2097.L)] false, .box [i64 b_2098.Kind, i64 b_2098.N, .sl false (L cU8 b_2098.B), .sl false (L cApi_Value b_2098.L)] false], orcs_ok (l := [(23, 24, [.sl false (L cU8 a_2097.B), .sl false (L cU8 b_2098.B)], i64 y_2099)]) ⟨r01_OrderBytes_con  hy_2104, trivial⟩, by simp only [go_sem, reduceIte, Nat.reduceLT, Nat.reduceEqDiff, Nat.reduceAdd, Nat.reduceBEq, Nat.reduceMul, Nat.reduceSub, Nat.reduceGT, Nat.reducePow, Nat.reduceLeDiff, Int.reduceToNat, hb_2102, hb_2103, hb_2105], (weak_sel [0, 1] (by decide) rfl (by simp only [go_sem, reduceIte, Nat.reduceLT, Nat.reduceEqDiff, Nat.reduceAdd, Nat.reduceBEq, Nat.reduceMul, Nat.reduceSub, Nat.reduceGT, Nat.reducePow, Nat.reduceLeDiff, Int.reduceToNat]) (by simp only [go_sem, reduceIte, Nat.reduceLT, Nat.reduceEqDiff, Nat.reduceAdd, Nat.reduceBEq, Nat.reduceMul, Nat.reduceSub, Nat.reduceGT, Nat.reducePow, Nat.reduceLeDiff, Int.reduceToNat]))⟩
  refine run_condL (b := t_2100) rfl (by decide) (fun hb => ?_) (fun hb => ?_)
  · replace h := ite_t h hb
    refine run_textE hE [4] (fr' := [(4, .bool false)]) (σ' := [.box [i64 a_2097.Kind, i64 a_2097.N, .sl false (L cU8 a_2097.B), .sl false (L cApi_Value a_2097.L)] false, .box [i64 b_2098.Kind, i64 b_2098.N, .sl false (L cU8 b_2098.B), .sl false (L cApi_Value b_2098.L)] false]) ⟨_, orcs_nil, ?_⟩ ?_
    · simp only [go_sem, reduceIte, Nat.reduceLT, Nat.reduceEqDiff, Nat.reduceAdd, Nat.reduceBEq, Nat.reduceMul, Nat.reduceSub, Nat.reduceGT, Nat.reducePow, Nat.reduceLeDiff, Int.reduceToNat]
    refine run_ret ?_
    refine thenK_r ?_
    obtain rfl := Option.some.inj h
    refine ret_ok (.inr rfl) ?_
    simp only [go_sem, reduceIte, Nat.reduceLT, Nat.reduceEqDiff, Nat.reduceAdd, Nat.reduceBEq, Nat.reduceMul, Nat.reduceSub, Nat.reduceGT, Nat.reducePow, Nat.reduceLeDiff, Int.reduceToNat]
  · replace h := ite_f h hb
    refine run_skip ?_
    refine thenK_n ?_
    replace h := bind_some1 h; obtain ⟨j_2130, hA_2131, hj_2132⟩ := h
    refine run_join (fun (v : Unit) => (⟨asFr 54 [], []⟩ : St)) (fun v => .inl v = j_2130) ?_ ?_
    · have h := hA_2131; clear hA_2131
      refine run_textE hE [2, 3, 5] (fr' := [(2, .ref 0 0), (3, .ref 1 0), (5, i64 0)]) (σ' := [.box [i64 a_2097.Kind, i64 a_2097.N, .sl false (L cU8 a_2097.B), .sl false (L cApi_Value a_2097.L)] false, .box [i64 b_2098.Kind, i64 b_2098.N, .sl false (L cU8 b_2098.B), .sl false (L cApi_Value b_2098.L)] false]) ⟨_, orcs_nil, ?_⟩ ?_
      · simp only [go_sem, reduceIte, Nat.reduceLT, Nat.reduceEqDiff, Nat.reduceAdd, Nat.reduceBEq, Nat.reduceMul, Nat.reduceSub, Nat.reduceGT, Nat.reducePow, Nat.reduceLeDiff, Int.reduceToNat]
      refine run_block ?_
      replace h := bind_some1 h; obtain ⟨x_2146, hx_2147, hj_2148⟩ := h
      refine run_loopO hx_2147 (fun (v : Int) => (⟨asFr 54 [(2, .ref 0 0), (3, .ref 1 0), (5, i64 v)], [.box [i64 a_2097.Kind, i64 a_2097.N, .sl false (L cU8 a_2097.B), .sl false (L cApi_Value a_2097.L)] false, .box [i64 b_2098.Kind, i64 b_2098.N, .sl false (L cU8 b_2098.B), .sl false (L cApi_Value b_2098.L)] false]⟩ : St)) (weak_sel [0, 1] (by decide) rfl (by simp only [go_sem, reduceIte, Nat.reduceLT, Nat.reduceEqDiff, Nat.reduceAdd, Nat.reduceBEq, Nat.reduceMul, Nat.reduceSub, Nat.reduceGT, Nat.reducePow, Nat.reduceLeDiff, Int.reduceToNat]) (by simp only [go_sem, reduceIte, Nat.reduceLT, Nat.reduceEqDiff, Nat.reduceAdd, Nat.reduceBEq, Nat.reduceMul, Nat.reduceSub, Nat.reduceGT, Nat.reducePow, Nat.reduceLeDiff, Int.reduceToNat])) ?_
      rintro i_2139 o_2149 h hxx_2150
      replace h : r01_Same_b1 a_2097 b_2098 rec_ i_2139 = some o_2149 := h
      unfold r01_Same_b1 at h
      refine run_seq ?_
      refine run_textE hE [2, 3, 5, 39] (fr' := [(2, .ref 0 0), (3, .ref 1 0), (5, i64 i_2139), (39, .bool ((decide (i_2139 < (a_2097.L.length : Int)))))]) (σ' := [.box [i64 a_2097.Kind, i64 a_2097.N, .sl false (L cU8 a_2097.B), .sl false (L cApi_Value a_2097.L)] false, .box [i64 b_2098.Kind, i64 b_2098.N, .sl false (L cU8 b_2098.B), .sl false (L cApi_Value b_2098.L)] false]) ⟨_, orcs_nil, ?_⟩ ?_
      · simp only [go_sem, reduceIte, Nat.reduceLT, Nat.reduceEqDiff, Nat.reduceAdd, Nat.reduceBEq, Nat.reduceMul, Nat.reduceSub, Nat.reduceGT, Nat.reducePow, Nat.reduceLeDiff, Int.reduceToNat]
      refine run_condL (b := (decide (i_2139 < (a_2097.L.length : Int)))) rfl (by decide) (fun hb => ?_) (fun hb => ?_)
      · replace h := ite_t h hb
        refine run_skip ?_
        refine thenK_n ?_
        refine run_seq ?_
        refine run_block ?_
        replace h := chk_some h; obtain ⟨hc_2152, h⟩ := h
        replace h := chk_some h; obtain ⟨hc_2153, h⟩ := h
        replace h := bind_some1 h; obtain ⟨y_2151, hy_2154, h⟩ := h
        refine run_drawE hE mixed [[], [0], [], [0, 1, 2], [0, 1, 2, 3], [], [5], [], [5, 6, 7], [5, 6, 7, 8], [0, 1, 2, 3, 4, 5, 6, 7, 8, 9], [0, 1, 2, 3, 4, 5, 6, 7, 8, 9, 10]] (by kernel_rfl) (by kernel_rfl) [2, 3, 5, 53] (fr' := [(2, .ref 0 0), (3, .ref 1 0), (5, i64 i_2139), (53, .bool ((!y_2151)))]) (σ' := [.box [i64 a_2097.Kind, i64 a_2097.N, .sl false (L cU8 a_2097.B), .sl false (L cApi_Value a_2097.L)] false, .box [i64 b_2098.Kind, i64 b_2098.N, .sl false (L cU8 b_2098.B), .sl false (L cApi_Value b_2098.L)] false]) ⟨_, orcs_ok (l := [(52, 23, [.agg [i64 ((nth a_2097.L i_2139.toNat).Kind), i64 ((nth a_2097.L i_2139.toNat).N), .sl false (L cU8 ((nth a_2097.L i_2139.toNat).B)), .sl false (L cApi_Value ((nth a_2097.L i_2139.toNat).L))], .agg [i64 ((nth b_2098.L i_2139.toNat).Kind), i64 ((nth b_2098.L i_2139.toNat).N), .sl false (L cU8 ((nth b_2098.L i_2139.toNat).B)), .sl false (L cApi_Value ((nth b_2098.L i_2139.toNat).L))]], .bool y_2151)]) ⟨hrec  hy_2154, trivial⟩, ?_⟩ ?_
        · simp only [go_sem, reduceIte, Nat.reduceLT, Nat.reduceEqDiff, Nat.reduceAdd, Nat.reduceBEq, Nat.reduceMul, Nat.reduceSub, Nat.reduceGT, Nat.reducePow, Nat.reduceLeDiff, Int.reduceToNat, hc_2152, hc_2152.2, lt_le hc_2152.2, hc_2153, hc_2153.2, lt_le hc_2153.2]
        refine run_condL (b := (!y_2151)) rfl (by decide) (fun hb => ?_) (fun hb => ?_)
        · replace h := ite_t h hb
          refine run_textE hE [4] (fr' := [(4, .bool false)]) (σ' := [.box [i64 a_2097.Kind, i64 a_2097.N, .sl false (L cU8 a_2097.B), .sl false (L cApi_Value a_2097.L)] false, .box [i64 b_2098.Kind, i64 b_2098.N, .sl false (L cU8 b_2098.B), .sl false (L cApi_Value b_2098.L)] false]) ⟨_, orcs_nil, ?_⟩ ?_
          · simp only [go_sem, reduceIte, Nat.reduceLT, Nat.reduceEqDiff, Nat.reduceAdd, Nat.reduceBEq, Nat.reduceMul, Nat.reduceSub, Nat.reduceGT, Nat.reducePow, Nat.reduceLeDiff, Int.reduceToNat]
          refine run_ret ?_
          refine blockK_r ?_
          refine thenK_r ?_
          refine lpK_r ?_
          replace h := bind_some1 h; obtain ⟨z_2156, h, e_z_2156⟩ := h
          obtain rfl := Option.some.inj e_z_2156
          have ex_z_2156 := hxx_2150 _ rfl
          subst ex_z_2156
          obtain rfl := Option.some.inj hj_2148
          refine blockK_r ?_
          refine joinK_r ?_
          replace h := bind_some1 h; obtain ⟨z_2155, h, e_z_2155⟩ := h
          obtain rfl := Option.some.inj e_z_2155
          obtain rfl := Option.some.inj hj_2132
          obtain rfl := Option.some.inj h
          refine ret_ok (.inr rfl) ?_
          simp only [go_sem, reduceIte, Nat.reduceLT, Nat.reduceEqDiff, Nat.reduceAdd, Nat.reduceBEq, Nat.reduceMul, Nat.reduceSub, Nat.reduceGT, Nat.reducePow, Nat.reduceLeDiff, Int.reduceToNat]
        · replace h := ite_f h hb
          refine run_skip ?_
          refine blockK_n ?_
          refine thenK_n ?_
          refine run_textE0 hE wk_lp [2, 3, 5] (fr' := [(2, .ref 0 0), (3, .ref 1 0), (5, i64 ((w64 (i_2139 + 1))))]) (σ' := [.box [i64 a_2097.Kind, i64 a_2097.N, .sl false (L cU8 a_2097.B), .sl false (L cApi_Value a_2097.L)] false, .box [i64 b_2098.Kind, i64 b_2098.N, .sl false (L cU8 b_2098.B), .sl false (L cApi_Value b_2098.L)] false]) ⟨_, orcs_nil, ?_⟩ ?_
          · simp only [go_sem, reduceIte, Nat.reduceLT, Nat.reduceEqDiff, Nat.reduceAdd, Nat.reduceBEq, Nat.reduceMul, Nat.reduceSub, Nat.reduceGT, Nat.reducePow, Nat.reduceLeDiff, Int.reduceToNat]
          obtain rfl := Option.some.inj h
          exact lpK_n ((w64 (i_2139 + 1))) rfl (weak_sel [0, 1] (by decide) rfl (by simp only [go_sem, reduceIte, Nat.reduceLT, Nat.reduceEqDiff, Nat.reduceAdd, Nat.reduceBEq, Nat.reduceMul, Nat.reduceSub, Nat.reduceGT, Nat.reducePow, Nat.reduceLeDiff, Int.reduceToNat]) (by simp only [go_sem, reduceIte, Nat.reduceLT, Nat.reduceEqDiff, Nat.reduceAdd, Nat.reduceBEq, Nat.reduceMul, Nat.reduceSub, Nat.reduceGT, Nat.reducePow, Nat.reduceLeDiff, Int.reduceToNat]))
      · replace h := ite_f h hb
        refine run_exit ?_
        refine thenK_x ?_
        obtain rfl := Option.some.inj h
        have ex_x_2146 := hxx_2150 _ rfl
        subst ex_x_2146
        have h := hj_2148; clear hj_2148
        refine lpK_x ?_
        refine blockK_x ?_
        obtain rfl := Option.some.inj h
        exact joinK_n (()) rfl ((weak_sel (l' := []) (σ' := []) [] (by decide) rfl (by simp only [go_sem, reduceIte, Nat.reduceLT, Nat.reduceEqDiff, Nat.reduceAdd, Nat.reduceBEq, Nat.reduceMul, Nat.reduceSub, Nat.reduceGT, Nat.reducePow, Nat.reduceLeDiff, Int.reduceToNat]) (by simp only [go_sem, reduceIte, Nat.reduceLT, Nat.reduceEqDiff, Nat.reduceAdd, Nat.reduceBEq, Nat.reduceMul, Nat.reduceSub, Nat.reduceGT, Nat.reducePow, Nat.reduceLeDiff, Int.reduceToNat])).trans (weak_sel [] (by decide) rfl (by simp only [go_sem, reduceIte, Nat.reduceLT, Nat.reduceEqDiff, Nat.reduceAdd, Nat.reduceBEq, Nat.reduceMul, Nat.reduceSub, Nat.reduceGT, Nat.reducePow, Nat.reduceLeDiff, Int.reduceToNat]) (by simp only [go_sem, reduceIte, Nat.reduceLT, Nat.reduceEqDiff, Nat.reduceAdd, Nat.reduceBEq, Nat.reduceMul, Nat.reduceSub, Nat.reduceGT, Nat.reducePow, Nat.reduceLeDiff, Int.reduceToNat])))
    rintro ⟨⟩ rfl
    have h := hj_2132; clear hj_2132
    refine run_textE hE [4] (fr' := [(4, .bool true)]) (σ' := []) ⟨_, orcs_nil, ?_⟩ ?_
    · simp only [go_sem, reduceIte, Nat.reduceLT, Nat.reduceEqDiff, Nat.reduceAdd, Nat.reduceBEq, Nat.reduceMul, Nat.reduceSub, Nat.reduceGT, Nat.reducePow, Nat.reduceLeDiff, Int.reduceToNat]
    refine run_ret ?_
    obtain rfl := Option.some.inj h
    refine ret_ok (.inr rfl) ?_
    simp only [go_sem, reduceIte, Nat.reduceLT, Nat.reduceEqDiff, Nat.reduceAdd, Nat.reduceBEq, Nat.reduceMul, Nat.reduceSub, Nat.reduceGT, Nat.reducePow, Nat.reduceLeDiff, Int.reduceToNat]
theorem r01_Same_n_con (n : Nat) : ∀ {a_2097 : Api_Value} {b_2098 : Api_Value} {r : Bool}, r01_Same_n n a_2097 b_2098 = some r → Con B 23 [.agg [i64 a_2097.Kind, i64 a_2097.N, .sl false (L cU8 a_2097.B), .sl false (L cApi_Value a_2097.L)], .agg [i64 b_2098.Kind, i64 b_2098.N, .sl false (L cU8 b_2098.B), .sl false (L cApi_Value b_2098.L)]] [] (fun r' σ' => r' = .bool r ∧ σ' = []) := by
  induction n with
  | zero => intro a_2097 b_2098 r h; cases h
  | succ n ih => intro a_2097 b_2098 r h; exact r01_Same_F_con ih h
theorem r01_Same_con {a_2097 : Api_Value} {b_2098 : Api_Value} {r : Bool} (h : r01_Same a_2097 b_2098 = some r) : Con B 23 [.agg [i64 a_2097.Kind, i64 a_2097.N, .sl false (L cU8 a_2097.B), .sl false (L cApi_Value a_2097.L)], .agg [i64 b_2098.Kind, i64 b_2098.N, .sl false (L cU8 b_2098.B), .sl false (L cApi_Value b_2098.L)]] [] (fun r' σ' => r' = .bool r ∧ σ' = []) := r01_Same_n_con _ h

theorem r01_Around_con {x_2157 : Int} {n_2158 : Int} {r : Int} (h : r01_Around x_2157 n_2158 = some r) : Con B 25 [i64 x_2157, i64 n_2158] [] (fun r' σ' => r' = i64 r ∧ σ' = []) := by
  refine con_walk (N := 14) (rs := [.tmp 4]) ok Try.func25 rfl (by decide +kernel) rfl rfl (Nat.le_of_ble_eq_true rfl) (fun F => ?_)
  have hE := ok.env F
  unfold r01_Around at h
  show Run (B.env F) 0 _ ⟨asFr 14 [(0, i64 x_2157), (1, i64 n_2158)], []⟩ _
  refine run_textE hE [0, 1] (fr' := [(0, i64 x_2157), (1, i64 n_2158)]) (σ' := []) ⟨_, orcs_nil, ?_⟩ ?_
  · simp only [go_sem, reduceIte, Nat.reduceLT, Nat.reduceEqDiff, Nat.reduceAdd, Nat.reduceBEq, Nat.reduceMul, Nat.reduceSub, Nat.reduceGT, Nat.reducePow, Nat.reduceLeDiff, Int.reduceToNat]
  replace h := chk_some h; obtain ⟨hc_2159, h⟩ := h
  replace h := lt1_some h; obtain ⟨x_2160, hz_2161, h⟩ := h
  refine run_textE hE [0, 1] (fr' := [(0, i64 x_2160), (1, i64 n_2158)]) (σ' := []) ⟨_, orcs_nil, ?_⟩ ?_
  · subst hz_2161; simp only [go_sem, reduceIte, Nat.reduceLT, Nat.reduceEqDiff, Nat.reduceAdd, Nat.reduceBEq, Nat.reduceMul, Nat.reduceSub, Nat.reduceGT, Nat.reducePow, Nat.reduceLeDiff, Int.reduceToNat, hc_2159]
  replace h := bind_some1 h; obtain ⟨j_2163, hA_2164, hj_2165⟩ := h
  refine run_join (fun (v : Int) => (⟨asFr 14 [(0, i64 v)], []⟩ : St)) (fun v => v = j_2163) ?_ ?_
  · have h := hA_2164; clear hA_2164
    refine run_textE hE [0, 1, 9] (fr' := [(0, i64 x_2160), (1, i64 n_2158), (9, .bool ((decide (x_2160 < 0))))]) (σ' := []) ⟨_, orcs_nil, ?_⟩ ?_
    · simp only [go_sem, reduceIte, Nat.reduceLT, Nat.reduceEqDiff, Nat.reduceAdd, Nat.reduceBEq, Nat.reduceMul, Nat.reduceSub, Nat.reduceGT, Nat.reducePow, Nat.reduceLeDiff, Int.reduceToNat]
    refine run_condL (b := (decide (x_2160 < 0))) rfl (by decide) (fun hb => ?_) (fun hb => ?_)
    · replace h := ite_t h hb
      refine run_textE0 hE wk_join [0] (fr' := [(0, i64 ((w64 (x_2160 + n_2158))))]) (σ' := []) ⟨_, orcs_nil, ?_⟩ ?_
      · simp only [go_sem, reduceIte, Nat.reduceLT, Nat.reduceEqDiff, Nat.reduceAdd, Nat.reduceBEq, Nat.reduceMul, Nat.reduceSub, Nat.reduceGT, Nat.reducePow, Nat.reduceLeDiff, Int.reduceToNat]
      obtain rfl := Option.some.inj h
      exact joinK_n ((w64 (x_2160 + n_2158))) rfl (weak_sel [] (by decide) rfl (by simp only [go_sem, reduceIte, Nat.reduceLT, Nat.reduceEqDiff, Nat.reduceAdd, Nat.reduceBEq, Nat.reduceMul, Nat.reduceSub, Nat.reduceGT, Nat.reducePow, Nat.reduceLeDiff, Int.reduceToNat]) (by simp only [go_sem, reduceIte, Nat.reduceLT, Nat.reduceEqDiff, Nat.reduceAdd, Nat.reduceBEq, Nat.reduceMul, Nat.reduceSub, Nat.reduceGT, Nat.reducePow, Nat.reduceLeDiff, Int.reduceToNat]))
    · replace h := ite_f h hb
      refine run_skip ?_
      obtain rfl := Option.some.inj h
      exact joinK_n x_2160 rfl (weak_sel [] (by decide) rfl (by simp only [go_sem, reduceIte, Nat.reduceLT, Nat.reduceEqDiff, Nat.reduceAdd, Nat.reduceBEq, Nat.reduceMul, Nat.reduceSub, Nat.reduceGT, Nat.reducePow, Nat.reduceLeDiff, Int.reduceToNat]) (by simp only [go_sem, reduceIte, Nat.reduceLT, Nat.reduceEqDiff, Nat.reduceAdd, Nat.reduceBEq, Nat.reduceMul, Nat.reduceSub, Nat.reduceGT, Nat.reducePow, Nat.reduceLeDiff, Int.reduceToNat]))
  rintro x_2162 rfl
  have h := hj_2165; clear hj_2165
  refine run_textE hE [4] (fr' := [(4, i64 x_2162)]) (σ' := []) ⟨_, orcs_nil, ?_⟩ ?_
  · simp only [go_sem, reduceIte, Nat.reduceLT, Nat.reduceEqDiff, Nat.reduceAdd, Nat.reduceBEq, Nat.reduceMul, Nat.reduceSub, Nat.reduceGT, Nat.reducePow, Nat.reduceLeDiff, Int.reduceToNat]
  refine run_ret ?_
  obtain rfl := Option.some.inj h
  refine ret_ok (.inr rfl) ?_
  simp only [go_sem, reduceIte, Nat.reduceLT, Nat.reduceEqDiff, Nat.reduceAdd, Nat.reduceBEq, Nat.reduceMul, Nat.reduceSub, Nat.reduceGT, Nat.reducePow, Nat.reduceLeDiff, Int.reduceToNat]

end Go.Proofs.Ytihncddenjbecaa
/-
  The functions compute just that.
-/
namespace Go.Proofs.Ytihncddenjbecaa
open Go.Rv
set_option linter.unusedVariables false
set_option linter.unusedSimpArgs false
set_option maxRecDepth 20000

theorem codec_decoder_next_con {d_2557 : Codec_decoder} {r : (UInt8 × Codec_decoder) ⊕ (Int × Codec_decoder)} (h : codec_decoder_next d_2557 = some r) : PCon B 43 [.ref 0 0] [.box [.sl false (L cU8 d_2557.b)] false] (codec_decoder_next_out r) := by
  refine con_walk_pan (N := 26) (rs := [.tmp 2]) 1 rfl ok Try.func43 rfl (by decide +kernel) rfl rfl (Nat.le_of_ble_eq_true rfl) (fun F => ?_)
  have hE := ok.env F
  unfold codec_decoder_next at h
  show Run (B.env F) 1 _ ⟨asFr 26 [(0, .ref 0 0)], [.box [.sl false (L cU8 d_2557.b)] false]⟩ _
  refine run_textE hE [0] (fr' := [(0, .ref 0 0)]) (σ' := [.box [.sl false (L cU8 d_2557.b)] false]) ⟨_, orcs_nil, ?_⟩ ?_
  · simp only [go_sem, reduceIte, Nat.reduceLT, Nat.reduceEqDiff, Nat.reduceAdd, Nat.reduceBEq, Nat.reduceMul, Nat.reduceSub, Nat.reduceGT, Nat.reducePow, Nat.reduceLeDiff, Int.reduceToNat]
  refine run_seq ?_
  refine run_textE hE [0, 9] (fr' := [(0, .ref 0 0), (9, .bool (((d_2557.b.length : Int) == 0)))]) (σ' := [.box [.sl false (L cU8 d_2557.b)] false]) ⟨_, orcs_nil, ?_⟩ ?_
  · simp only [go_sem, reduceIte, Nat.reduceLT, Nat.reduceEqDiff, Nat.reduceAdd, Nat.reduceBEq, Nat.reduceMul, Nat.reduceSub, Nat.reduceGT, Nat.reducePow, Nat.reduceLeDiff, Int.reduceToNat]
  refine run_condL (b := ((d_2557.b.length : Int) == 0)) rfl (by decide) (fun hb => ?_) (fun hb => ?_)
  · replace h := ite_t h hb
    refine run_panT0 hE [] 1 _ (v := .iface 57 (.int .i64 5)) (σ2 := [.box [.sl false (L cU8 d_2557.b)] false]) (vals := []) rfl rfl ⟨_, [], orcs_nil, trivial, ?_⟩ (fun fr_ hlen_ hfr_ => ?_)
    · simp only [go_sem, reduceIte, Nat.reduceLT, Nat.reduceEqDiff, Nat.reduceAdd, Nat.reduceBEq, Nat.reduceMul, Nat.reduceSub, Nat.reduceGT, Nat.reducePow, Nat.reduceLeDiff, Int.reduceToNat]
    refine thenK_p ?_
    obtain rfl := Option.some.inj h
    refine retP_pan rfl [0] (by decide) rfl ?_
    simp only [go_sem, reduceIte, Nat.reduceLT, Nat.reduceEqDiff, Nat.reduceAdd, Nat.reduceBEq, Nat.reduceMul, Nat.reduceSub, Nat.reduceGT, Nat.reducePow, Nat.reduceLeDiff, Int.reduceToNat]
  · replace h := ite_f h hb
    refine run_skip ?_
    refine thenK_n ?_
    replace h := chk_some h; obtain ⟨hc_2558, h⟩ := h
    refine run_textE hE [0, 3] (fr' := [(0, .ref 0 0), (3, u8 (nth d_2557.b 0))]) (σ' := [.box [.sl false (L cU8 d_2557.b)] false]) ⟨_, orcs_nil, ?_⟩ ?_
    · simp only [go_sem, reduceIte, Nat.reduceLT, Nat.reduceEqDiff, Nat.reduceAdd, Nat.reduceBEq, Nat.reduceMul, Nat.reduceSub, Nat.reduceGT, Nat.reducePow, Nat.reduceLeDiff, Int.reduceToNat, hc_2558, (show 0 < d_2557.b.length from hc_2558.2)]
    replace h := chk_some h; obtain ⟨hc_2559, h⟩ := h
    replace h := lt1_some h; obtain ⟨f_2560, hz_2561, h⟩ := h
    refine run_textE hE [3] (fr' := [(3, u8 (nth d_2557.b 0))]) (σ' := [.box [.sl false (L cU8 f_2560)] false]) ⟨_, orcs_nil, ?_⟩ ?_
    · subst hz_2561; simp only [go_sem, reduceIte, Nat.reduceLT, Nat.reduceEqDiff, Nat.reduceAdd, Nat.reduceBEq, Nat.reduceMul, Nat.reduceSub, Nat.reduceGT, Nat.reducePow, Nat.reduceLeDiff, Int.reduceToNat, hc_2559]
    refine run_textE hE [2] (fr' := [(2, u8 (nth d_2557.b 0))]) (σ' := [.box [.sl false (L cU8 f_2560)] false]) ⟨_, orcs_nil, ?_⟩ ?_
    · simp only [go_sem, reduceIte, Nat.reduceLT, Nat.reduceEqDiff, Nat.reduceAdd, Nat.reduceBEq, Nat.reduceMul, Nat.reduceSub, Nat.reduceGT, Nat.reducePow, Nat.reduceLeDiff, Int.reduceToNat]
    refine run_ret ?_
    obtain rfl := Option.some.inj h
    refine retP_fz rfl (ret_fz (.inr rfl) ?_ rfl ?_)
    · simp only [go_sem, reduceIte, Nat.reduceLT, Nat.reduceEqDiff, Nat.reduceAdd, Nat.reduceBEq, Nat.reduceMul, Nat.reduceSub, Nat.reduceGT, Nat.reducePow, Nat.reduceLeDiff, Int.reduceToNat]
    · show stUp [0] _ [0] _; simp only [go_sem, reduceIte, Nat.reduceLT, Nat.reduceEqDiff, Nat.reduceAdd, Nat.reduceBEq, Nat.reduceMul, Nat.reduceSub, Nat.reduceGT, Nat.reducePow, Nat.reduceLeDiff, Int.reduceToNat]

end Go.Proofs.Ytihncddenjbecaa
/-
  The functions compute just that.
-/
namespace Go.Proofs.Ytihncddenjbecaa
open Go.Rv
set_option linter.unusedVariables false
set_option linter.unusedSimpArgs false
set_option maxRecDepth 20000

theorem codec_decoder_integer_con {d_2562 : Codec_decoder} {k_2563 : Int} {flip_2564 : UInt8} {r : (Api_Value × Codec_decoder) ⊕ (Int × Codec_decoder)} (h : codec_decoder_integer d_2562 k_2563 flip_2564 = some r) : PCon B 49 [.ref 0 0, i64 k_2563, u8 flip_2564] [.box [.sl false (L cU8 d_2562.b)] false] (codec_decoder_integer_out r) := by
  refine con_walk_pan (N := 46) (rs := [.cell 6 25]) 1 rfl ok Try.func49 rfl (by decide +kernel) rfl rfl (Nat.le_of_ble_eq_true rfl) (fun F => ?_)
  have hE := ok.env F
  unfold codec_decoder_integer at h
  show Run (B.env F) 1 _ ⟨asFr 46 [(0, .ref 0 0), (1, i64 k_2563), (2, u8 flip_2564)], [.box [.sl false (L cU8 d_2562.b)] false]⟩ _
  refine run_textE hE [0, 1, 2, 6] (fr' := [(0, .ref 0 0), (1, i64 k_2563), (2, u8 flip_2564), (6, .ref 1 0)]) (σ' := [.box [.sl false (L cU8 d_2562.b)] false, .box [i64 0, i64 0, .sl true (L cU8 ([])), .sl true (L cApi_Value ([]))] false]) ⟨_, orcs_nil, ?_⟩ ?_
  · simp only [go_sem, reduceIte, Nat.reduceLT, Nat.reduceEqDiff, Nat.reduceAdd, Nat.reduceBEq, Nat.reduceMul, Nat.reduceSub, Nat.reduceGT, Nat.reducePow, Nat.reduceLeDiff, Int.reduceToNat]
  refine run_textE hE [0, 1, 2, 6, 7] (fr' := [(0, .ref 0 0), (1, i64 k_2563), (2, u8 flip_2564), (6, .ref 1 0), (7, u64 ((0 : UInt64)))]) (σ' := [.box [.sl false (L cU8 d_2562.b)] false, .box [i64 0, i64 0, .sl true (L cU8 ([])), .sl true (L cApi_Value ([]))] false]) ⟨_, orcs_nil, ?_⟩ ?_
  · simp only [go_sem, reduceIte, Nat.reduceLT, Nat.reduceEqDiff, Nat.reduceAdd, Nat.reduceBEq, Nat.reduceMul, Nat.reduceSub, Nat.reduceGT, Nat.reducePow, Nat.reduceLeDiff, Int.reduceToNat]
  replace h := bind_some1 h; obtain ⟨j_2622, hA_2623, hj_2624⟩ := h
  refine run_join (fun (v : UInt64 × List UInt8) => (⟨asFr 46 [(2, u8 flip_2564), (6, .ref 1 0), (7, u64 v.1)], [.box [.sl false (L cU8 v.2)] false, .box [i64 0, i64 0, .sl true (L cU8 ([])), .sl true (L cApi_Value ([]))] false]⟩ : St)) (fun v => .inl v = j_2622) ?_ ?_
  · have h := hA_2623; clear hA_2623
    refine run_textE hE [0, 1, 2, 6, 7, 10, 11] (fr' := [(0, .ref 0 0), (1, i64 k_2563), (2, u8 flip_2564), (6, .ref 1 0), (7, u64 ((0 : UInt64))), (10, i64 k_2563), (11, i64 0)]) (σ' := [.box [.sl false (L cU8 d_2562.b)] false, .box [i64 0, i64 0, .sl true (L cU8 ([])), .sl true (L cApi_Value ([]))] false]) ⟨_, orcs_nil, ?_⟩ ?_
    · simp only [go_sem, reduceIte, Nat.reduceLT, Nat.reduceEqDiff, Nat.reduceAdd, Nat.reduceBEq, Nat.reduceMul, Nat.reduceSub, Nat.reduceGT, Nat.reducePow, Nat.reduceLeDiff, Int.reduceToNat]
    refine run_block ?_
    replace h := bind_some1 h; obtain ⟨x_2660, hx_2661, hj_2662⟩ := h
    refine run_loopO hx_2661 (fun (v : UInt64 × Int × List UInt8) => (⟨asFr 46 [(0, .ref 0 0), (1, i64 k_2563), (2, u8 flip_2564), (6, .ref 1 0), (7, u64 v.1), (10, i64 k_2563), (11, i64 v.2.1)], [.box [.sl false (L cU8 v.2.2)] false, .box [i64 0, i64 0, .sl true (L cU8 ([])), .sl true (L cApi_Value ([]))] false]⟩ : St)) (weak_sel [0, 1] (by decide) rfl (by simp only [go_sem, reduceIte, Nat.reduceLT, Nat.reduceEqDiff, Nat.reduceAdd, Nat.reduceBEq, Nat.reduceMul, Nat.reduceSub, Nat.reduceGT, Nat.reducePow, Nat.reduceLeDiff, Int.reduceToNat]) (by simp only [go_sem, reduceIte, Nat.reduceLT, Nat.reduceEqDiff, Nat.reduceAdd, Nat.reduceBEq, Nat.reduceMul, Nat.reduceSub, Nat.reduceGT, Nat.reducePow, Nat.reduceLeDiff, Int.reduceToNat])) ?_
    rintro ⟨u_2640, t_2641, f_2642⟩ o_2663 h hxx_2664
    replace h : codec_decoder_integer_b1 k_2563 flip_2564 u_2640 t_2641 f_2642 = some o_2663 := h
    unfold codec_decoder_integer_b1 at h
    refine run_textE hE [0, 1, 2, 6, 7, 10, 11, 12] (fr' := [(0, .ref 0 0), (1, i64 k_2563), (2, u8 flip_2564), (6, .ref 1 0), (7, u64 u_2640), (10, i64 k_2563), (11, i64 t_2641), (12, .bool ((decide (t_2641 < k_2563))))]) (σ' := [.box [.sl false (L cU8 f_2642)] false, .box [i64 0, i64 0, .sl true (L cU8 ([])), .sl true (L cApi_Value ([]))] false]) ⟨_, orcs_nil, ?_⟩ ?_
    · simp only [go_sem, reduceIte, Nat.reduceLT, Nat.reduceEqDiff, Nat.reduceAdd, Nat.reduceBEq, Nat.reduceMul, Nat.reduceSub, Nat.reduceGT, Nat.reducePow, Nat.reduceLeDiff, Int.reduceToNat]
    refine run_seq ?_
    refine run_condL (b := (decide (t_2641 < k_2563))) rfl (by decide) (fun hb => ?_) (fun hb => ?_)
    · replace h := ite_t h hb
      refine run_skip ?_
      refine thenK_n ?_
      refine run_seq ?_
      refine run_block ?_
      refine run_textE hE [0, 1, 2, 6, 7, 8, 10, 11] (fr' := [(0, .ref 0 0), (1, i64 k_2563), (2, u8 flip_2564), (6, .ref 1 0), (7, u64 u_2640), (8, i64 t_2641), (10, i64 k_2563), (11, i64 t_2641)]) (σ' := [.box [.sl false (L cU8 f_2642)] false, .box [i64 0, i64 0, .sl true (L cU8 ([])), .sl true (L cApi_Value ([]))] false]) ⟨_, orcs_nil, ?_⟩ ?_
      · simp only [go_sem, reduceIte, Nat.reduceLT, Nat.reduceEqDiff, Nat.reduceAdd, Nat.reduceBEq, Nat.reduceMul, Nat.reduceSub, Nat.reduceGT, Nat.reducePow, Nat.reduceLeDiff, Int.reduceToNat]
      replace h := bind_some1 h; obtain ⟨y_2665, hy_2668, h⟩ := h
      rcases y_2665 with v_2666 | v_2667
      rotate_left
      · dsimp only at h
        refine run_panT hE [] 1 _ (v := .iface 57 (.int .i64 v_2667.1)) (σ2 := [.box [.sl false (L cU8 v_2667.2.b)] false, .box [i64 0, i64 0, .sl true (L cU8 ([])), .sl true (L cApi_Value ([]))] false]) (vals := []) rfl rfl ⟨_, [(15, 43, [.ref 0 0], [.box [.sl false (L cU8 f_2642)] false, .box [i64 0, i64 0, .sl true (L cU8 ([])), .sl true (L cApi_Value ([]))] false], .val (.iface 57 (.int .i64 v_2667.1)), [.box [.sl false (L cU8 v_2667.2.b)] false, .box [i64 0, i64 0, .sl true (L cU8 ([])), .sl true (L cApi_Value ([]))] false])], orcs_nil, ⟨fun v hv => by cases hv; exact wpan_call (PCon.pan (codec_decoder_next_con hy_2668) rfl) [0] (by decide) (by simp only [go_sem, reduceIte, Nat.reduceLT, Nat.reduceEqDiff, Nat.reduceAdd, Nat.reduceBEq, Nat.reduceMul, Nat.reduceSub, Nat.reduceGT, Nat.reducePow, Nat.reduceLeDiff, Int.reduceToNat]) (by simp only [go_sem, reduceIte, Nat.reduceLT, Nat.reduceEqDiff, Nat.reduceAdd, Nat.reduceBEq, Nat.reduceMul, Nat.reduceSub, Nat.reduceGT, Nat.reducePow, Nat.reduceLeDiff, Int.reduceToNat]) (by simp only [go_sem, reduceIte, Nat.reduceLT, Nat.reduceEqDiff, Nat.reduceAdd, Nat.reduceBEq, Nat.reduceMul, Nat.reduceSub, Nat.reduceGT, Nat.reducePow, Nat.reduceLeDiff, Int.reduceToNat]) (by simp only [go_sem, reduceIte, Nat.reduceLT, Nat.reduceEqDiff, Nat.reduceAdd, Nat.reduceBEq, Nat.reduceMul, Nat.reduceSub, Nat.reduceGT, Nat.reducePow, Nat.reduceLeDiff, Int.reduceToNat]), trivial⟩, ?_⟩ (fun fr_ hlen_ hfr_ => ?_)
        · simp only [go_sem, reduceIte, Nat.reduceLT, Nat.reduceEqDiff, Nat.reduceAdd, Nat.reduceBEq, Nat.reduceMul, Nat.reduceSub, Nat.reduceGT, Nat.reducePow, Nat.reduceLeDiff, Int.reduceToNat]
        refine blockK_p ?_
        refine thenK_p ?_
        refine lpK_p ?_
        replace h := bind_some1 h; obtain ⟨z_2670, h, e_z_2670⟩ := h
        obtain rfl := Option.some.inj e_z_2670
        have ex_z_2670 := hxx_2664 _ rfl
        subst ex_z_2670
        obtain rfl := Option.some.inj hj_2662
        refine blockK_p ?_
        refine joinK_p ?_
        replace h := bind_some1 h; obtain ⟨z_2669, h, e_z_2669⟩ := h
        obtain rfl := Option.some.inj e_z_2669
        obtain rfl := Option.some.inj hj_2624
        obtain rfl := Option.some.inj h
        refine retP_pan rfl [0] (by decide) rfl ?_
        simp only [go_sem, reduceIte, Nat.reduceLT, Nat.reduceEqDiff, Nat.reduceAdd, Nat.reduceBEq, Nat.reduceMul, Nat.reduceSub, Nat.reduceGT, Nat.reducePow, Nat.reduceLeDiff, Int.reduceToNat]
      dsimp only at h
      refine run_textE hE [0, 1, 2, 6, 7, 8, 9, 10, 11] (fr' := [(0, .ref 0 0), (1, i64 k_2563), (2, u8 flip_2564), (6, .ref 1 0), (7, u64 u_2640), (8, i64 t_2641), (9, u8 ((v_2666.1 ^^^ flip_2564))), (10, i64 k_2563), (11, i64 t_2641)]) (σ' := [.box [.sl false (L cU8 v_2666.2.b)] false, .box [i64 0, i64 0, .sl true (L cU8 ([])), .sl true (L cApi_Value ([]))] false]) ⟨_, orcs_ok2 (l := []) (m := [(15, 43, [.ref 0 0], [.box [.sl false (L cU8 f_2642)] false, .box [i64 0, i64 0, .sl true (L cU8 ([])), .sl true (L cApi_Value ([]))] false], u8 v_2666.1, [.box [.sl false (L cU8 v_2666.2.b)] false, .box [i64 0, i64 0, .sl true (L cU8 ([])), .sl true (L cApi_Value ([]))] false])]) trivial ⟨(wcon_call (PCon.to (codec_decoder_next_con hy_2668) rfl) [0] (by decide) (by simp only [go_sem, reduceIte, Nat.reduceLT, Nat.reduceEqDiff, Nat.reduceAdd, Nat.reduceBEq, Nat.reduceMul, Nat.reduceSub, Nat.reduceGT, Nat.reducePow, Nat.reduceLeDiff, Int.reduceToNat]) (by simp only [go_sem, reduceIte, Nat.reduceLT, Nat.reduceEqDiff, Nat.reduceAdd, Nat.reduceBEq, Nat.reduceMul, Nat.reduceSub, Nat.reduceGT, Nat.reducePow, Nat.reduceLeDiff, Int.reduceToNat]) (by simp only [go_sem, reduceIte, Nat.reduceLT, Nat.reduceEqDiff, Nat.reduceAdd, Nat.reduceBEq, Nat.reduceMul, Nat.reduceSub, Nat.reduceGT, Nat.reducePow, Nat.reduceLeDiff, Int.reduceToNat]) (by simp only [go_sem, reduceIte, Nat.reduceLT, Nat.reduceEqDiff, Nat.reduceAdd, Nat.reduceBEq, Nat.reduceMul, Nat.reduceSub, Nat.reduceGT, Nat.reducePow, Nat.reduceLeDiff, Int.reduceToNat]) (by simp only [go_sem, reduceIte, Nat.reduceLT, Nat.reduceEqDiff, Nat.reduceAdd, Nat.reduceBEq, Nat.reduceMul, Nat.reduceSub, Nat.reduceGT, Nat.reducePow, Nat.reduceLeDiff, Int.reduceToNat])), trivial⟩, ?_⟩ ?_
      · simp only [go_sem, reduceIte, Nat.reduceLT, Nat.reduceEqDiff, Nat.reduceAdd, Nat.reduceBEq, Nat.reduceMul, Nat.reduceSub, Nat.reduceGT, Nat.reducePow, Nat.reduceLeDiff, Int.reduceToNat]
      refine run_seq ?_
      replace h := bind_some1 h; obtain ⟨t_2671, hv_2672, h⟩ := h
      refine run_textW hE [0, 1, 2, 6, 7, 9, 10, 11, 31] (fr' := [(0, .ref 0 0), (1, i64 k_2563), (2, u8 flip_2564), (6, .ref 1 0), (7, u64 u_2640), (9, u8 ((v_2666.1 ^^^ flip_2564))), (10, i64 k_2563), (11, i64 t_2641), (31, .bool t_2671)]) (σ' := [.box [.sl false (L cU8 v_2666.2.b)] false, .box [i64 0, i64 0, .sl true (L cU8 ([])), .sl true (L cApi_Value ([]))] false]) ?_ ?_
      · rcases Bool.eq_false_or_eq_true ((t_2641 == 0)) with hb_2673 | hb_2673
        · replace hv_2672 := ite_t hv_2672 hb_2673
          rcases Bool.eq_false_or_eq_true (((v_2666.1 ^^^ flip_2564) == (0 : UInt8))) with hb_2674 | hb_2674
          · replace hv_2672 := ite_t hv_2672 hb_2674
            have e_hv_2672 := Option.some.inj hv_2672; subst e_hv_2672
            exact ⟨_, [(0, .ref 0 0), (1, i64 k_2563), (2, u8 flip_2564), (6, .ref 1 0), (7, u64 u_2640), (9, u8 ((v_2666.1 ^^^ flip_2564))), (10, i64 k_2563), (11, i64 t_2641), (31, .bool true)], [.box [.sl false (L cU8 v_2666.2.b)] false, .box [i64 0, i64 0, .sl true (L cU8 ([])), .sl true (L cApi_Value ([]))] false], orcs_nil, by simp only [go_sem, reduceIte, Nat.reduceLT, Nat.reduceEqDiff, Nat.reduceAdd, Nat.reduceBEq, Nat.reduceMul, Nat.reduceSub, Nat.reduceGT, Nat.reducePow, Nat.reduceLeDiff, Int.reduceToNat, hb_2673, hb_2674], (weak_sel [0, 1] (by decide) rfl (by simp only [go_sem, reduceIte, Nat.reduceLT, Nat.reduceEqDiff, Nat.reduceAdd, Nat.reduceBEq, Nat.reduceMul, Nat.reduceSub, Nat.reduceGT, Nat.reducePow, Nat.reduceLeDiff, Int.reduceToNat]) (by simp only [go_sem, reduceIte, Nat.reduceLT, Nat.reduceEqDiff, Nat.reduceAdd, Nat.reduceBEq, Nat.reduceMul, Nat.reduceSub, Nat.reduceGT, Nat.reducePow, Nat.reduceLeDiff, Int.reduceToNat]))⟩
          · replace hv_2672 := ite_f hv_2672 hb_2674
            rcases Bool.eq_false_or_eq_true ((k_2563 == 8)) with hb_2675 | hb_2675
            · replace hv_2672 := ite_t hv_2672 hb_2675
              have e_hv_2672 := Option.some.inj hv_2672; subst e_hv_2672
              exact ⟨_, [(0, .ref 0 0), (1, i64 k_2563), (2, u8 flip_2564), (6, .ref 1 0), (7, u64 u_2640), (9, u8 ((v_2666.1 ^^^ flip_2564))), (10, i64 k_2563), (11, i64 t_2641), (31, .bool ((decide ((v_2666.1 ^^^ flip_2564) > (127 : UInt8)))))], [.box [.sl false (L cU8 v_2666.2.b)] false, .box [i64 0, i64 0, .sl true (L cU8 ([])), .sl true (L cApi_Value ([]))] false], orcs_nil, by simp only [go_sem, reduceIte, Nat.reduceLT, Nat.reduceEqDiff, Nat.reduceAdd, Nat.reduceBEq, Nat.reduceMul, Nat.reduceSub, Nat.reduceGT, Nat.reducePow, Nat.reduceLeDiff, Int.reduceToNat, hb_2673, hb_2674, hb_2675], (weak_sel [0, 1] (by decide) rfl (by simp only [go_sem, reduceIte, Nat.reduceLT, Nat.reduceEqDiff, Nat.reduceAdd, Nat.reduceBEq, Nat.reduceMul, Nat.reduceSub, Nat.reduceGT, Nat.reducePow, Nat.reduceLeDiff, Int.reduceToNat]) (by simp only [go_sem, reduceIte, Nat.reduceLT, Nat.reduceEqDiff, Nat.reduceAdd, Nat.reduceBEq, Nat.reduceMul, Nat.reduceSub, Nat.reduceGT, Nat.reducePow, Nat.reduceLeDiff, Int.reduceToNat]))⟩
            · replace hv_2672 := ite_f hv_2672 hb_2675
              have e_hv_2672 := Option.some.inj hv_2672; subst e_hv_2672
              exact ⟨_, [(0, .ref 0 0), (1, i64 k_2563), (2, u8 flip_2564), (6, .ref 1 0), (7, u64 u_2640), (9, u8 ((v_2666.1 ^^^ flip_2564))), (10, i64 k_2563), (11, i64 t_2641), (31, .bool false)], [.box [.sl false (L cU8 v_2666.2.b)] false, .box [i64 0, i64 0, .sl true (L cU8 ([])), .sl true (L cApi_Value ([]))] false], orcs_nil, by simp only [go_sem, reduceIte, Nat.reduceLT, Nat.reduceEqDiff, Nat.reduceAdd, Nat.reduceBEq, Nat.reduceMul, Nat.reduceSub, Nat.reduceGT, Nat.reducePow, Nat.reduceLeDiff, Int.reduceToNat, hb_2673, hb_2674, hb_2675], (weak_sel [0, 1] (by decide) rfl (by simp only [go_sem, reduceIte, Nat.reduceLT, Nat.reduceEqDiff, Nat.reduceAdd, Nat.reduceBEq, Nat.reduceMul, Nat.reduceSub, Nat.reduceGT, Nat.reducePow, Nat.reduceLeDiff, Int.reduceToNat]) (by simp only [go_sem, reduceIte, Nat.reduceLT, Nat.reduceEqDiff, Nat.reduceAdd, Nat.reduceBEq, Nat.reduceMul, Nat.reduceSub, Nat.reduceGT, Nat.reducePow, Nat.reduceLeDiff, Int.reduceToNat]))⟩
        · replace hv_2672 := ite_f hv_2672 hb_2673
          have e_hv_2672 := Option.some.inj hv_2672; subst e_hv_2672
          exact ⟨_, [(0, .ref 0 0), (1, i64 k_2563), (2, u8 flip_2564), (6, .ref 1 0), (7, u64 u_2640), (9, u8 ((v_2666.1 ^^^ flip_2564))), (10, i64 k_2563), (11, i64 t_2641), (31, .bool false)], [.box [.sl false (L cU8 v_2666.2.b)] false, .box [i64 0, i64 0, .sl true (L cU8 ([])), .sl true (L cApi_Value ([]))] false], orcs_nil, by simp only [go_sem, reduceIte, Nat.reduceLT, Nat.reduceEqDiff, Nat.reduceAdd, Nat.reduceBEq, Nat.reduceMul, Nat.reduceSub, Nat.reduceGT, Nat.reducePow, Nat.reduceLeDiff, Int.reduceToNat, hb_2673], (weak_sel [0, 1] (by decide) rfl (by simp only [go_sem, reduceIte, Nat.reduceLT, Nat.reduceEqDiff, Nat.reduceAdd, Nat.reduceBEq, Nat.reduceMul, Nat.reduceSub, Nat.reduceGT, Nat.reducePow, Nat.reduceLeDiff, Int.reduceToNat]) (by simp only [go_sem, reduceIte, Nat.reduceLT, Nat.reduceEqDiff, Nat.reduceAdd, Nat.reduceBEq, Nat.reduceMul, Nat.reduceSub, Nat.reduceGT, Nat.reducePow, Nat.reduceLeDiff, Int.reduceToNat]))⟩
      refine run_condL (b := t_2671) rfl (by decide) (fun hb => ?_) (fun hb => ?_)
      · replace h := ite_t h hb
        refine run_panT0 hE [] 1 _ (v := .iface 57 (.int .i64 4)) (σ2 := [.box [.sl false (L cU8 v_2666.2.b)] false, .box [i64 0, i64 0, .sl true (L cU8 ([])), .sl true (L cApi_Value ([]))] false]) (vals := []) rfl rfl ⟨_, [], orcs_nil, trivial, ?_⟩ (fun fr_ hlen_ hfr_ => ?_)
        · simp only [go_sem, reduceIte, Nat.reduceLT, Nat.reduceEqDiff, Nat.reduceAdd, Nat.reduceBEq, Nat.reduceMul, Nat.reduceSub, Nat.reduceGT, Nat.reducePow, Nat.reduceLeDiff, Int.reduceToNat]
        refine thenK_p ?_
        refine blockK_p ?_
        refine thenK_p ?_
        refine lpK_p ?_
        replace h := bind_some1 h; obtain ⟨z_2677, h, e_z_2677⟩ := h
        obtain rfl := Option.some.inj e_z_2677
        have ex_z_2677 := hxx_2664 _ rfl
        subst ex_z_2677
        obtain rfl := Option.some.inj hj_2662
        refine blockK_p ?_
        refine joinK_p ?_
        replace h := bind_some1 h; obtain ⟨z_2676, h, e_z_2676⟩ := h
        obtain rfl := Option.some.inj e_z_2676
        obtain rfl := Option.some.inj hj_2624
        obtain rfl := Option.some.inj h
        refine retP_pan rfl [0] (by decide) rfl ?_
        simp only [go_sem, reduceIte, Nat.reduceLT, Nat.reduceEqDiff, Nat.reduceAdd, Nat.reduceBEq, Nat.reduceMul, Nat.reduceSub, Nat.reduceGT, Nat.reducePow, Nat.reduceLeDiff, Int.reduceToNat]
      · replace h := ite_f h hb
        refine run_skip ?_
        refine thenK_n ?_
        replace h := lt1_some h; obtain ⟨u_2678, hz_2679, h⟩ := h
        refine run_textE0 hE (wk_block wk_then) [0, 1, 2, 6, 7, 10, 11] (fr' := [(0, .ref 0 0), (1, i64 k_2563), (2, u8 flip_2564), (6, .ref 1 0), (7, u64 u_2678), (10, i64 k_2563), (11, i64 t_2641)]) (σ' := [.box [.sl false (L cU8 v_2666.2.b)] false, .box [i64 0, i64 0, .sl true (L cU8 ([])), .sl true (L cApi_Value ([]))] false]) ⟨_, orcs_nil, ?_⟩ ?_
        · subst hz_2679; simp only [go_sem, reduceIte, Nat.reduceLT, Nat.reduceEqDiff, Nat.reduceAdd, Nat.reduceBEq, Nat.reduceMul, Nat.reduceSub, Nat.reduceGT, Nat.reducePow, Nat.reduceLeDiff, Int.reduceToNat]
        refine blockK_n ?_
        refine thenK_n ?_
        refine run_textE0 hE wk_lp [0, 1, 2, 6, 7, 10, 11] (fr' := [(0, .ref 0 0), (1, i64 k_2563), (2, u8 flip_2564), (6, .ref 1 0), (7, u64 u_2678), (10, i64 k_2563), (11, i64 ((w64 (t_2641 + 1))))]) (σ' := [.box [.sl false (L cU8 v_2666.2.b)] false, .box [i64 0, i64 0, .sl true (L cU8 ([])), .sl true (L cApi_Value ([]))] false]) ⟨_, orcs_nil, ?_⟩ ?_
        · simp only [go_sem, reduceIte, Nat.reduceLT, Nat.reduceEqDiff, Nat.reduceAdd, Nat.reduceBEq, Nat.reduceMul, Nat.reduceSub, Nat.reduceGT, Nat.reducePow, Nat.reduceLeDiff, Int.reduceToNat]
        obtain rfl := Option.some.inj h
        exact lpK_n ((u_2678, (w64 (t_2641 + 1)), v_2666.2.b)) rfl (weak_sel [0, 1] (by decide) rfl (by simp only [go_sem, reduceIte, Nat.reduceLT, Nat.reduceEqDiff, Nat.reduceAdd, Nat.reduceBEq, Nat.reduceMul, Nat.reduceSub, Nat.reduceGT, Nat.reducePow, Nat.reduceLeDiff, Int.reduceToNat]) (by simp only [go_sem, reduceIte, Nat.reduceLT, Nat.reduceEqDiff, Nat.reduceAdd, Nat.reduceBEq, Nat.reduceMul, Nat.reduceSub, Nat.reduceGT, Nat.reducePow, Nat.reduceLeDiff, Int.reduceToNat]))
    · replace h := ite_f h hb
      refine run_exit ?_
      refine thenK_x ?_
      obtain rfl := Option.some.inj h
      have ex_x_2660 := hxx_2664 _ rfl
      subst ex_x_2660
      have h := hj_2662; clear hj_2662
      refine lpK_x ?_
      refine blockK_x ?_
      obtain rfl := Option.some.inj h
      exact joinK_n ((u_2640, f_2642)) rfl ((weak_sel (l' := [(2, u8 flip_2564), (6, .ref 1 0), (7, u64 u_2640)]) (σ' := [.box [.sl false (L cU8 f_2642)] false, .box [i64 0, i64 0, .sl true (L cU8 ([])), .sl true (L cApi_Value ([]))] false]) [0, 1] (by decide) rfl (by simp only [go_sem, reduceIte, Nat.reduceLT, Nat.reduceEqDiff, Nat.reduceAdd, Nat.reduceBEq, Nat.reduceMul, Nat.reduceSub, Nat.reduceGT, Nat.reducePow, Nat.reduceLeDiff, Int.reduceToNat]) (by simp only [go_sem, reduceIte, Nat.reduceLT, Nat.reduceEqDiff, Nat.reduceAdd, Nat.reduceBEq, Nat.reduceMul, Nat.reduceSub, Nat.reduceGT, Nat.reducePow, Nat.reduceLeDiff, Int.reduceToNat])).trans (weak_sel [0, 1] (by decide) rfl (by simp only [go_sem, reduceIte, Nat.reduceLT, Nat.reduceEqDiff, Nat.reduceAdd, Nat.reduceBEq, Nat.reduceMul, Nat.reduceSub, Nat.reduceGT, Nat.reducePow, Nat.reduceLeDiff, Int.reduceToNat]) (by simp only [go_sem, reduceIte, Nat.reduceLT, Nat.reduceEqDiff, Nat.reduceAdd, Nat.reduceBEq, Nat.reduceMul, Nat.reduceSub, Nat.reduceGT, Nat.reducePow, Nat.reduceLeDiff, Int.reduceToNat])))
  rintro ⟨u_2620, f_2621⟩ rfl
  have h := hj_2624; clear hj_2624
  replace h := bind_some1 h; obtain ⟨j_2681, hA_2682, hj_2683⟩ := h
  refine run_join (fun (v : UInt64) => (⟨asFr 46 [(6, .ref 1 0), (7, u64 v)], [.box [.sl false (L cU8 f_2621)] false, .box [i64 0, i64 0, .sl true (L cU8 ([])), .sl true (L cApi_Value ([]))] false]⟩ : St)) (fun v => v = j_2681) ?_ ?_
  · have h := hA_2682; clear hA_2682
    refine run_textE hE [6, 7, 40] (fr' := [(6, .ref 1 0), (7, u64 u_2620), (40, .bool ((flip_2564 != (0 : UInt8))))]) (σ' := [.box [.sl false (L cU8 f_2621)] false, .box [i64 0, i64 0, .sl true (L cU8 ([])), .sl true (L cApi_Value ([]))] false]) ⟨_, orcs_nil, ?_⟩ ?_
    · simp only [go_sem, reduceIte, Nat.reduceLT, Nat.reduceEqDiff, Nat.reduceAdd, Nat.reduceBEq, Nat.reduceMul, Nat.reduceSub, Nat.reduceGT, Nat.reducePow, Nat.reduceLeDiff, Int.reduceToNat]
    refine run_condL (b := (flip_2564 != (0 : UInt8))) rfl (by decide) (fun hb => ?_) (fun hb => ?_)
    · replace h := ite_t h hb
      refine run_textE0 hE wk_join [6, 7] (fr' := [(6, .ref 1 0), (7, u64 ((~~~u_2620)))]) (σ' := [.box [.sl false (L cU8 f_2621)] false, .box [i64 0, i64 0, .sl true (L cU8 ([])), .sl true (L cApi_Value ([]))] false]) ⟨_, orcs_nil, ?_⟩ ?_
      · simp only [go_sem, reduceIte, Nat.reduceLT, Nat.reduceEqDiff, Nat.reduceAdd, Nat.reduceBEq, Nat.reduceMul, Nat.reduceSub, Nat.reduceGT, Nat.reducePow, Nat.reduceLeDiff, Int.reduceToNat]
      obtain rfl := Option.some.inj h
      exact joinK_n ((~~~u_2620)) rfl (weak_sel [0, 1] (by decide) rfl (by simp only [go_sem, reduceIte, Nat.reduceLT, Nat.reduceEqDiff, Nat.reduceAdd, Nat.reduceBEq, Nat.reduceMul, Nat.reduceSub, Nat.reduceGT, Nat.reducePow, Nat.reduceLeDiff, Int.reduceToNat]) (by simp only [go_sem, reduceIte, Nat.reduceLT, Nat.reduceEqDiff, Nat.reduceAdd, Nat.reduceBEq, Nat.reduceMul, Nat.reduceSub, Nat.reduceGT, Nat.reducePow, Nat.reduceLeDiff, Int.reduceToNat]))
    · replace h := ite_f h hb
      refine run_skip ?_
      obtain rfl := Option.some.inj h
      exact joinK_n u_2620 rfl (weak_sel [0, 1] (by decide) rfl (by simp only [go_sem, reduceIte, Nat.reduceLT, Nat.reduceEqDiff, Nat.reduceAdd, Nat.reduceBEq, Nat.reduceMul, Nat.reduceSub, Nat.reduceGT, Nat.reducePow, Nat.reduceLeDiff, Int.reduceToNat]) (by simp only [go_sem, reduceIte, Nat.reduceLT, Nat.reduceEqDiff, Nat.reduceAdd, Nat.reduceBEq, Nat.reduceMul, Nat.reduceSub, Nat.reduceGT, Nat.reducePow, Nat.reduceLeDiff, Int.reduceToNat]))
  rintro u_2680 rfl
  have h := hj_2683; clear hj_2683
  refine run_textE hE [6] (fr' := [(6, .ref 1 0)]) (σ' := [.box [.sl false (L cU8 f_2621)] false, .box [i64 1, i64 ((w64 (u_2680.toNat : Int))), .sl true (L cU8 ([])), .sl true (L cApi_Value ([]))] false]) ⟨_, orcs_nil, ?_⟩ ?_
  · simp only [go_sem, reduceIte, Nat.reduceLT, Nat.reduceEqDiff, Nat.reduceAdd, Nat.reduceBEq, Nat.reduceMul, Nat.reduceSub, Nat.reduceGT, Nat.reducePow, Nat.reduceLeDiff, Int.reduceToNat]
  refine run_ret ?_
  obtain rfl := Option.some.inj h
  refine retP_fz rfl (ret_fz (.inr rfl) ?_ rfl ?_)
  · simp only [go_sem, reduceIte, Nat.reduceLT, Nat.reduceEqDiff, Nat.reduceAdd, Nat.reduceBEq, Nat.reduceMul, Nat.reduceSub, Nat.reduceGT, Nat.reducePow, Nat.reduceLeDiff, Int.reduceToNat]
  · show stUp [0] _ [0] _; simp only [go_sem, reduceIte, Nat.reduceLT, Nat.reduceEqDiff, Nat.reduceAdd, Nat.reduceBEq, Nat.reduceMul, Nat.reduceSub, Nat.reduceGT, Nat.reducePow, Nat.reduceLeDiff, Int.reduceToNat]

end Go.Proofs.Ytihncddenjbecaa
/-
  The functions compute just that.
-/
namespace Go.Proofs.Ytihncddenjbecaa
open Go.Rv
set_option linter.unusedVariables false
set_option linter.unusedSimpArgs false
set_option maxRecDepth 20000

theorem codec_decoder_text_con {d_2684 : Codec_decoder} {r : (Api_Value × Codec_decoder) ⊕ (Int × Codec_decoder)} (h : codec_decoder_text d_2684 = some r) : PCon B 50 [.ref 0 0] [.box [.sl false (L cU8 d_2684.b)] false] (codec_decoder_text_out r) := by
  refine con_walk_pan (N := 29) (rs := [.cell 2 25]) 1 rfl ok Try.func50 rfl (by decide +kernel) rfl rfl (Nat.le_of_ble_eq_true rfl) (fun F => ?_)
  have hE := ok.env F
  unfold codec_decoder_text at h
  show Run (B.env F) 1 _ ⟨asFr 29 [(0, .ref 0 0)], [.box [.sl false (L cU8 d_2684.b)] false]⟩ _
  refine run_textE hE [0, 2] (fr' := [(0, .ref 0 0), (2, .ref 1 0)]) (σ' := [.box [.sl false (L cU8 d_2684.b)] false, .box [i64 0, i64 0, .sl true (L cU8 ([])), .sl true (L cApi_Value ([]))] false]) ⟨_, orcs_nil, ?_⟩ ?_
  · simp only [go_sem, reduceIte, Nat.reduceLT, Nat.reduceEqDiff, Nat.reduceAdd, Nat.reduceBEq, Nat.reduceMul, Nat.reduceSub, Nat.reduceGT, Nat.reducePow, Nat.reduceLeDiff, Int.reduceToNat]
  refine run_textE hE [0, 2, 3] (fr' := [(0, .ref 0 0), (2, .ref 1 0), (3, .ref 2 0)]) (σ' := [.box [.sl false (L cU8 d_2684.b)] false, .box [i64 0, i64 0, .sl true (L cU8 ([])), .sl true (L cApi_Value ([]))] false, .box [i64 2, i64 0, .sl true (L cU8 ([])), .sl true (L cApi_Value ([]))] false]) ⟨_, orcs_nil, ?_⟩ ?_
  · simp only [go_sem, reduceIte, Nat.reduceLT, Nat.reduceEqDiff, Nat.reduceAdd, Nat.reduceBEq, Nat.reduceMul, Nat.reduceSub, Nat.reduceGT, Nat.reducePow, Nat.reduceLeDiff, Int.reduceToNat]
  refine run_block ?_
  replace h := bind_some1 h; obtain ⟨x_2723, hx_2724, hj_2725⟩ := h
  refine run_loopO hx_2724 (fun (v : List UInt8 × List UInt8) => (⟨asFr 29 [(0, .ref 0 0), (2, .ref 1 0), (3, .ref 2 0)], [.box [.sl false (L cU8 v.1)] false, .box [i64 0, i64 0, .sl true (L cU8 ([])), .sl true (L cApi_Value ([]))] false, .box [i64 2, i64 0, .bs false 3 (v.2.length) 0 (v.2.length), .sl true (L cApi_Value ([]))] false, .buf 1 (L cU8 v.2) false]⟩ : St)) ((weak_nil_box 2 2 1 rfl rfl).trans (weak_sel [0, 1, 2, 3] (by decide) rfl (by simp only [go_sem, reduceIte, Nat.reduceLT, Nat.reduceEqDiff, Nat.reduceAdd, Nat.reduceBEq, Nat.reduceMul, Nat.reduceSub, Nat.reduceGT, Nat.reducePow, Nat.reduceLeDiff, Int.reduceToNat]) (by simp only [go_sem, reduceIte, Nat.reduceLT, Nat.reduceEqDiff, Nat.reduceAdd, Nat.reduceBEq, Nat.reduceMul, Nat.reduceSub, Nat.reduceGT, Nat.reducePow, Nat.reduceLeDiff, Int.reduceToNat]))) ?_
  rintro ⟨f_2703, l_2704⟩ o_2726 h hxx_2727
  replace h : codec_decoder_text_b1 f_2703 l_2704 = some o_2726 := h
  unfold codec_decoder_text_b1 at h
  refine run_block ?_
  replace h := bind_some1 h; obtain ⟨y_2728, hy_2731, h⟩ := h
  rcases y_2728 with v_2729 | v_2730
  rotate_left
  · dsimp only at h
    refine run_panT hE [] 1 _ (v := .iface 57 (.int .i64 v_2730.1)) (σ2 := [.box [.sl false (L cU8 v_2730.2.b)] false, .box [i64 0, i64 0, .sl true (L cU8 ([])), .sl true (L cApi_Value ([]))] false, .box [i64 2, i64 0, .bs false 3 (l_2704.length) 0 (l_2704.length), .sl true (L cApi_Value ([]))] false, .buf 1 (L cU8 l_2704) false]) (vals := []) rfl rfl ⟨_, [(7, 43, [.ref 0 0], [.box [.sl false (L cU8 f_2703)] false, .box [i64 0, i64 0, .sl true (L cU8 ([])), .sl true (L cApi_Value ([]))] false, .box [i64 2, i64 0, .bs false 3 (l_2704.length) 0 (l_2704.length), .sl true (L cApi_Value ([]))] false, .buf 1 (L cU8 l_2704) false], .val (.iface 57 (.int .i64 v_2730.1)), [.box [.sl false (L cU8 v_2730.2.b)] false, .box [i64 0, i64 0, .sl true (L cU8 ([])), .sl true (L cApi_Value ([]))] false, .box [i64 2, i64 0, .bs false 3 (l_2704.length) 0 (l_2704.length), .sl true (L cApi_Value ([]))] false, .buf 1 (L cU8 l_2704) false])], orcs_nil, ⟨fun v hv => by cases hv; exact wpan_call (PCon.pan (codec_decoder_next_con hy_2731) rfl) [0] (by decide) (by simp only [go_sem, reduceIte, Nat.reduceLT, Nat.reduceEqDiff, Nat.reduceAdd, Nat.reduceBEq, Nat.reduceMul, Nat.reduceSub, Nat.reduceGT, Nat.reducePow, Nat.reduceLeDiff, Int.reduceToNat]) (by simp only [go_sem, reduceIte, Nat.reduceLT, Nat.reduceEqDiff, Nat.reduceAdd, Nat.reduceBEq, Nat.reduceMul, Nat.reduceSub, Nat.reduceGT, Nat.reducePow, Nat.reduceLeDiff, Int.reduceToNat]) (by simp only [go_sem, reduceIte, Nat.reduceLT, Nat.reduceEqDiff, Nat.reduceAdd, Nat.reduceBEq, Nat.reduceMul, Nat.reduceSub, Nat.reduceGT, Nat.reducePow, Nat.reduceLeDiff, Int.reduceToNat]) (by simp only [go_sem, reduceIte, Nat.reduceLT, Nat.reduceEqDiff, Nat.reduceAdd, Nat.reduceBEq, Nat.reduceMul, Nat.reduceSub, Nat.reduceGT, Nat.reducePow, Nat.reduceLeDiff, Int.reduceToNat]), trivial⟩, ?_⟩ (fun fr_ hlen_ hfr_ => ?_)
    · simp only [go_sem, reduceIte, Nat.reduceLT, Nat.reduceEqDiff, Nat.reduceAdd, Nat.reduceBEq, Nat.reduceMul, Nat.reduceSub, Nat.reduceGT, Nat.reducePow, Nat.reduceLeDiff, Int.reduceToNat]
    refine blockK_p ?_
    refine lpK_p ?_
    replace h := bind_some1 h; obtain ⟨z_2732, h, e_z_2732⟩ := h
    obtain rfl := Option.some.inj e_z_2732
    have ex_z_2732 := hxx_2727 _ rfl
    subst ex_z_2732
    obtain rfl := Option.some.inj hj_2725
    refine blockK_p ?_
    obtain rfl := Option.some.inj h
    refine retP_pan rfl [0] (by decide) rfl ?_
    simp only [go_sem, reduceIte, Nat.reduceLT, Nat.reduceEqDiff, Nat.reduceAdd, Nat.reduceBEq, Nat.reduceMul, Nat.reduceSub, Nat.reduceGT, Nat.reducePow, Nat.reduceLeDiff, Int.reduceToNat]
  dsimp only at h
  refine run_textE hE [0, 2, 3, 4] (fr' := [(0, .ref 0 0), (2, .ref 1 0), (3, .ref 2 0), (4, u8 v_2729.1)]) (σ' := [.box [.sl false (L cU8 v_2729.2.b)] false, .box [i64 0, i64 0, .sl true (L cU8 ([])), .sl true (L cApi_Value ([]))] false, .box [i64 2, i64 0, .bs false 3 (l_2704.length) 0 (l_2704.length), .sl true (L cApi_Value ([]))] false, .buf 1 (L cU8 l_2704) false]) ⟨_, orcs_ok2 (l := []) (m := [(7, 43, [.ref 0 0], [.box [.sl false (L cU8 f_2703)] false, .box [i64 0, i64 0, .sl true (L cU8 ([])), .sl true (L cApi_Value ([]))] false, .box [i64 2, i64 0, .bs false 3 (l_2704.length) 0 (l_2704.length), .sl true (L cApi_Value ([]))] false, .buf 1 (L cU8 l_2704) false], u8 v_2729.1, [.box [.sl false (L cU8 v_2729.2.b)] false, .box [i64 0, i64 0, .sl true (L cU8 ([])), .sl true (L cApi_Value ([]))] false, .box [i64 2, i64 0, .bs false 3 (l_2704.length) 0 (l_2704.length), .sl true (L cApi_Value ([]))] false, .buf 1 (L cU8 l_2704) false])]) trivial ⟨(wcon_call (PCon.to (codec_decoder_next_con hy_2731) rfl) [0] (by decide) (by simp only [go_sem, reduceIte, Nat.reduceLT, Nat.reduceEqDiff, Nat.reduceAdd, Nat.reduceBEq, Nat.reduceMul, Nat.reduceSub, Nat.reduceGT, Nat.reducePow, Nat.reduceLeDiff, Int.reduceToNat]) (by simp only [go_sem, reduceIte, Nat.reduceLT, Nat.reduceEqDiff, Nat.reduceAdd, Nat.reduceBEq, Nat.reduceMul, Nat.reduceSub, Nat.reduceGT, Nat.reducePow, Nat.reduceLeDiff, Int.reduceToNat]) (by simp only [go_sem, reduceIte, Nat.reduceLT, Nat.reduceEqDiff, Nat.reduceAdd, Nat.reduceBEq, Nat.reduceMul, Nat.reduceSub, Nat.reduceGT, Nat.reducePow, Nat.reduceLeDiff, Int.reduceToNat]) (by simp only [go_sem, reduceIte, Nat.reduceLT, Nat.reduceEqDiff, Nat.reduceAdd, Nat.reduceBEq, Nat.reduceMul, Nat.reduceSub, Nat.reduceGT, Nat.reducePow, Nat.reduceLeDiff, Int.reduceToNat]) (by simp only [go_sem, reduceIte, Nat.reduceLT, Nat.reduceEqDiff, Nat.reduceAdd, Nat.reduceBEq, Nat.reduceMul, Nat.reduceSub, Nat.reduceGT, Nat.reducePow, Nat.reduceLeDiff, Int.reduceToNat])), trivial⟩, ?_⟩ ?_
  · simp only [go_sem, reduceIte, Nat.reduceLT, Nat.reduceEqDiff, Nat.reduceAdd, Nat.reduceBEq, Nat.reduceMul, Nat.reduceSub, Nat.reduceGT, Nat.reducePow, Nat.reduceLeDiff, Int.reduceToNat]
  refine run_seq ?_
  refine run_textE hE [0, 2, 3, 4, 9] (fr' := [(0, .ref 0 0), (2, .ref 1 0), (3, .ref 2 0), (4, u8 v_2729.1), (9, .bool ((v_2729.1 != (0 : UInt8))))]) (σ' := [.box [.sl false (L cU8 v_2729.2.b)] false, .box [i64 0, i64 0, .sl true (L cU8 ([])), .sl true (L cApi_Value ([]))] false, .box [i64 2, i64 0, .bs false 3 (l_2704.length) 0 (l_2704.length), .sl true (L cApi_Value ([]))] false, .buf 1 (L cU8 l_2704) false]) ⟨_, orcs_nil, ?_⟩ ?_
  · simp only [go_sem, reduceIte, Nat.reduceLT, Nat.reduceEqDiff, Nat.reduceAdd, Nat.reduceBEq, Nat.reduceMul, Nat.reduceSub, Nat.reduceGT, Nat.reducePow, Nat.reduceLeDiff, Int.reduceToNat]
  refine run_condL (b := (v_2729.1 != (0 : UInt8))) rfl (by decide) (fun hb => ?_) (fun hb => ?_)
  · replace h := ite_t h hb
    replace h := chk_some h; obtain ⟨hc_2733, h⟩ := h
    replace h := lt1_some h; obtain ⟨l_2734, hz_2735, h⟩ := h
    refine run_textE hE [0, 2, 3] (fr' := [(0, .ref 0 0), (2, .ref 1 0), (3, .ref 2 0)]) (σ' := [.box [.sl false (L cU8 v_2729.2.b)] false, .box [i64 0, i64 0, .sl true (L cU8 ([])), .sl true (L cApi_Value ([]))] false, .box [i64 2, i64 0, .bs false 3 (l_2734.length) 0 (l_2734.length), .sl true (L cApi_Value ([]))] false, .buf 1 (L cU8 l_2734) false, .buf 1 (L cU8 (([v_2729.1] : List UInt8))) false]) ⟨_, orcs_nil, ?_⟩ ?_
    · subst hz_2735; simp only [go_sem, reduceIte, Nat.reduceLT, Nat.reduceEqDiff, Nat.reduceAdd, Nat.reduceBEq, Nat.reduceMul, Nat.reduceSub, Nat.reduceGT, Nat.reducePow, Nat.reduceLeDiff, Int.reduceToNat, hc_2733]
    refine run_exit ?_
    refine thenK_x ?_
    refine blockK_x ?_
    obtain rfl := Option.some.inj h
    exact lpK_n ((v_2729.2.b, l_2734)) rfl (weak_sel [0, 1, 2, 3] (by decide) rfl (by simp only [go_sem, reduceIte, Nat.reduceLT, Nat.reduceEqDiff, Nat.reduceAdd, Nat.reduceBEq, Nat.reduceMul, Nat.reduceSub, Nat.reduceGT, Nat.reducePow, Nat.reduceLeDiff, Int.reduceToNat]) (by simp only [go_sem, reduceIte, Nat.reduceLT, Nat.reduceEqDiff, Nat.reduceAdd, Nat.reduceBEq, Nat.reduceMul, Nat.reduceSub, Nat.reduceGT, Nat.reducePow, Nat.reduceLeDiff, Int.reduceToNat]))
  · replace h := ite_f h hb
    refine run_skip ?_
    refine thenK_n ?_
    replace h := bind_some1 h; obtain ⟨y_2736, hy_2739, h⟩ := h
    rcases y_2736 with v_2737 | v_2738
    rotate_left
    · dsimp only at h
      refine run_panT hE [] 1 _ (v := .iface 57 (.int .i64 v_2738.1)) (σ2 := [.box [.sl false (L cU8 v_2738.2.b)] false, .box [i64 0, i64 0, .sl true (L cU8 ([])), .sl true (L cApi_Value ([]))] false, .box [i64 2, i64 0, .bs false 3 (l_2704.length) 0 (l_2704.length), .sl true (L cApi_Value ([]))] false, .buf 1 (L cU8 l_2704) false]) (vals := []) rfl rfl ⟨_, [(17, 43, [.ref 0 0], [.box [.sl false (L cU8 v_2729.2.b)] false, .box [i64 0, i64 0, .sl true (L cU8 ([])), .sl true (L cApi_Value ([]))] false, .box [i64 2, i64 0, .bs false 3 (l_2704.length) 0 (l_2704.length), .sl true (L cApi_Value ([]))] false, .buf 1 (L cU8 l_2704) false], .val (.iface 57 (.int .i64 v_2738.1)), [.box [.sl false (L cU8 v_2738.2.b)] false, .box [i64 0, i64 0, .sl true (L cU8 ([])), .sl true (L cApi_Value ([]))] false, .box [i64 2, i64 0, .bs false 3 (l_2704.length) 0 (l_2704.length), .sl true (L cApi_Value ([]))] false, .buf 1 (L cU8 l_2704) false])], orcs_nil, ⟨fun v hv => by cases hv; exact wpan_call (PCon.pan (codec_decoder_next_con hy_2739) rfl) [0] (by decide) (by simp only [go_sem, reduceIte, Nat.reduceLT, Nat.reduceEqDiff, Nat.reduceAdd, Nat.reduceBEq, Nat.reduceMul, Nat.reduceSub, Nat.reduceGT, Nat.reducePow, Nat.reduceLeDiff, Int.reduceToNat]) (by simp only [go_sem, reduceIte, Nat.reduceLT, Nat.reduceEqDiff, Nat.reduceAdd, Nat.reduceBEq, Nat.reduceMul, Nat.reduceSub, Nat.reduceGT, Nat.reducePow, Nat.reduceLeDiff, Int.reduceToNat]) (by simp only [go_sem, reduceIte, Nat.reduceLT, Nat.reduceEqDiff, Nat.reduceAdd, Nat.reduceBEq, Nat.reduceMul, Nat.reduceSub, Nat.reduceGT, Nat.reducePow, Nat.reduceLeDiff, Int.reduceToNat]) (by simp only [go_sem, reduceIte, Nat.reduceLT, Nat.reduceEqDiff, Nat.reduceAdd, Nat.reduceBEq, Nat.reduceMul, Nat.reduceSub, Nat.reduceGT, Nat.reducePow, Nat.reduceLeDiff, Int.reduceToNat]), trivial⟩, ?_⟩ (fun fr_ hlen_ hfr_ => ?_)
      · simp only [go_sem, reduceIte, Nat.reduceLT, Nat.reduceEqDiff, Nat.reduceAdd, Nat.reduceBEq, Nat.reduceMul, Nat.reduceSub, Nat.reduceGT, Nat.reducePow, Nat.reduceLeDiff, Int.reduceToNat]
      refine blockK_p ?_
      refine lpK_p ?_
      replace h := bind_some1 h; obtain ⟨z_2740, h, e_z_2740⟩ := h
      obtain rfl := Option.some.inj e_z_2740
      have ex_z_2740 := hxx_2727 _ rfl
      subst ex_z_2740
      obtain rfl := Option.some.inj hj_2725
      refine blockK_p ?_
      obtain rfl := Option.some.inj h
      refine retP_pan rfl [0] (by decide) rfl ?_
      simp only [go_sem, reduceIte, Nat.reduceLT, Nat.reduceEqDiff, Nat.reduceAdd, Nat.reduceBEq, Nat.reduceMul, Nat.reduceSub, Nat.reduceGT, Nat.reducePow, Nat.reduceLeDiff, Int.reduceToNat]
    dsimp only at h
    refine run_textE hE [0, 2, 3, 17] (fr' := [(0, .ref 0 0), (2, .ref 1 0), (3, .ref 2 0), (17, u8 v_2737.1)]) (σ' := [.box [.sl false (L cU8 v_2737.2.b)] false, .box [i64 0, i64 0, .sl true (L cU8 ([])), .sl true (L cApi_Value ([]))] false, .box [i64 2, i64 0, .bs false 3 (l_2704.length) 0 (l_2704.length), .sl true (L cApi_Value ([]))] false, .buf 1 (L cU8 l_2704) false]) ⟨_, orcs_ok2 (l := []) (m := [(17, 43, [.ref 0 0], [.box [.sl false (L cU8 v_2729.2.b)] false, .box [i64 0, i64 0, .sl true (L cU8 ([])), .sl true (L cApi_Value ([]))] false, .box [i64 2, i64 0, .bs false 3 (l_2704.length) 0 (l_2704.length), .sl true (L cApi_Value ([]))] false, .buf 1 (L cU8 l_2704) false], u8 v_2737.1, [.box [.sl false (L cU8 v_2737.2.b)] false, .box [i64 0, i64 0, .sl true (L cU8 ([])), .sl true (L cApi_Value ([]))] false, .box [i64 2, i64 0, .bs false 3 (l_2704.length) 0 (l_2704.length), .sl true (L cApi_Value ([]))] false, .buf 1 (L cU8 l_2704) false])]) trivial ⟨(wcon_call (PCon.to (codec_decoder_next_con hy_2739) rfl) [0] (by decide) (by simp only [go_sem, reduceIte, Nat.reduceLT, Nat.reduceEqDiff, Nat.reduceAdd, Nat.reduceBEq, Nat.reduceMul, Nat.reduceSub, Nat.reduceGT, Nat.reducePow, Nat.reduceLeDiff, Int.reduceToNat]) (by simp only [go_sem, reduceIte, Nat.reduceLT, Nat.reduceEqDiff, Nat.reduceAdd, Nat.reduceBEq, Nat.reduceMul, Nat.reduceSub, Nat.reduceGT, Nat.reducePow, Nat.reduceLeDiff, Int.reduceToNat]) (by simp only [go_sem, reduceIte, Nat.reduceLT, Nat.reduceEqDiff, Nat.reduceAdd, Nat.reduceBEq, Nat.reduceMul, Nat.reduceSub, Nat.reduceGT, Nat.reducePow, Nat.reduceLeDiff, Int.reduceToNat]) (by simp only [go_sem, reduceIte, Nat.reduceLT, Nat.reduceEqDiff, Nat.reduceAdd, Nat.reduceBEq, Nat.reduceMul, Nat.reduceSub, Nat.reduceGT, Nat.reducePow, Nat.reduceLeDiff, Int.reduceToNat]) (by simp only [go_sem, reduceIte, Nat.reduceLT, Nat.reduceEqDiff, Nat.reduceAdd, Nat.reduceBEq, Nat.reduceMul, Nat.reduceSub, Nat.reduceGT, Nat.reducePow, Nat.reduceLeDiff, Int.reduceToNat])), trivial⟩, ?_⟩ ?_
    · simp only [go_sem, reduceIte, Nat.reduceLT, Nat.reduceEqDiff, Nat.reduceAdd, Nat.reduceBEq, Nat.reduceMul, Nat.reduceSub, Nat.reduceGT, Nat.reducePow, Nat.reduceLeDiff, Int.reduceToNat]
    refine run_block ?_
    refine run_textE hE [0, 2, 3, 17, 19] (fr' := [(0, .ref 0 0), (2, .ref 1 0), (3, .ref 2 0), (17, u8 v_2737.1), (19, .bool ((v_2737.1 == (0 : UInt8))))]) (σ' := [.box [.sl false (L cU8 v_2737.2.b)] false, .box [i64 0, i64 0, .sl true (L cU8 ([])), .sl true (L cApi_Value ([]))] false, .box [i64 2, i64 0, .bs false 3 (l_2704.length) 0 (l_2704.length), .sl true (L cApi_Value ([]))] false, .buf 1 (L cU8 l_2704) false]) ⟨_, orcs_nil, ?_⟩ ?_
    · simp only [go_sem, reduceIte, Nat.reduceLT, Nat.reduceEqDiff, Nat.reduceAdd, Nat.reduceBEq, Nat.reduceMul, Nat.reduceSub, Nat.reduceGT, Nat.reducePow, Nat.reduceLeDiff, Int.reduceToNat]
    refine run_condL (b := (v_2737.1 == (0 : UInt8))) rfl (by decide) (fun hb => ?_) (fun hb => ?_)
    · replace h := ite_t h hb
      refine run_textE hE [2] (fr' := [(2, .ref 1 0)]) (σ' := [.box [.sl false (L cU8 v_2737.2.b)] false, .box [i64 2, i64 0, .bs false 3 (l_2704.length) 0 (l_2704.length), .sl true (L cApi_Value ([]))] false, .box [i64 2, i64 0, .bs false 3 (l_2704.length) 0 (l_2704.length), .sl true (L cApi_Value ([]))] false, .buf 1 (L cU8 l_2704) false]) ⟨_, orcs_nil, ?_⟩ ?_
      · simp only [go_sem, reduceIte, Nat.reduceLT, Nat.reduceEqDiff, Nat.reduceAdd, Nat.reduceBEq, Nat.reduceMul, Nat.reduceSub, Nat.reduceGT, Nat.reducePow, Nat.reduceLeDiff, Int.reduceToNat]
      refine run_ret ?_
      refine blockK_r ?_
      refine blockK_r ?_
      refine lpK_r ?_
      replace h := bind_some1 h; obtain ⟨z_2741, h, e_z_2741⟩ := h
      obtain rfl := Option.some.inj e_z_2741
      have ex_z_2741 := hxx_2727 _ rfl
      subst ex_z_2741
      obtain rfl := Option.some.inj hj_2725
      refine blockK_r ?_
      obtain rfl := Option.some.inj h
      refine retP_fz rfl (ret_fz (.inr rfl) ?_ rfl ?_)
      · simp only [go_sem, reduceIte, Nat.reduceLT, Nat.reduceEqDiff, Nat.reduceAdd, Nat.reduceBEq, Nat.reduceMul, Nat.reduceSub, Nat.reduceGT, Nat.reducePow, Nat.reduceLeDiff, Int.reduceToNat]
      · show stUp [0] _ [0] _; simp only [go_sem, reduceIte, Nat.reduceLT, Nat.reduceEqDiff, Nat.reduceAdd, Nat.reduceBEq, Nat.reduceMul, Nat.reduceSub, Nat.reduceGT, Nat.reducePow, Nat.reduceLeDiff, Int.reduceToNat]
    · replace h := ite_f h hb
      refine run_textE hE [0, 2, 3, 22] (fr' := [(0, .ref 0 0), (2, .ref 1 0), (3, .ref 2 0), (22, .bool ((v_2737.1 == (255 : UInt8))))]) (σ' := [.box [.sl false (L cU8 v_2737.2.b)] false, .box [i64 0, i64 0, .sl true (L cU8 ([])), .sl true (L cApi_Value ([]))] false, .box [i64 2, i64 0, .bs false 3 (l_2704.length) 0 (l_2704.length), .sl true (L cApi_Value ([]))] false, .buf 1 (L cU8 l_2704) false]) ⟨_, orcs_nil, ?_⟩ ?_
      · simp only [go_sem, reduceIte, Nat.reduceLT, Nat.reduceEqDiff, Nat.reduceAdd, Nat.reduceBEq, Nat.reduceMul, Nat.reduceSub, Nat.reduceGT, Nat.reducePow, Nat.reduceLeDiff, Int.reduceToNat]
      refine run_condL (b := (v_2737.1 == (255 : UInt8))) rfl (by decide) (fun hb => ?_) (fun hb => ?_)
      · replace h := ite_t h hb
        replace h := chk_some h; obtain ⟨hc_2742, h⟩ := h
        replace h := lt1_some h; obtain ⟨l_2743, hz_2744, h⟩ := h
        refine run_textE0 hE (wk_block (wk_block wk_lp)) [0, 2, 3] (fr' := [(0, .ref 0 0), (2, .ref 1 0), (3, .ref 2 0)]) (σ' := [.box [.sl false (L cU8 v_2737.2.b)] false, .box [i64 0, i64 0, .sl true (L cU8 ([])), .sl true (L cApi_Value ([]))] false, .box [i64 2, i64 0, .bs false 3 (l_2743.length) 0 (l_2743.length), .sl true (L cApi_Value ([]))] false, .buf 1 (L cU8 l_2743) false, .buf 1 (L cU8 (([(0 : UInt8)] : List UInt8))) false]) ⟨_, orcs_nil, ?_⟩ ?_
        · subst hz_2744; simp only [go_sem, reduceIte, Nat.reduceLT, Nat.reduceEqDiff, Nat.reduceAdd, Nat.reduceBEq, Nat.reduceMul, Nat.reduceSub, Nat.reduceGT, Nat.reducePow, Nat.reduceLeDiff, Int.reduceToNat, hc_2742]
        refine blockK_n ?_
        refine blockK_n ?_
        obtain rfl := Option.some.inj h
        exact lpK_n ((v_2737.2.b, l_2743)) rfl (weak_sel [0, 1, 2, 3] (by decide) rfl (by simp only [go_sem, reduceIte, Nat.reduceLT, Nat.reduceEqDiff, Nat.reduceAdd, Nat.reduceBEq, Nat.reduceMul, Nat.reduceSub, Nat.reduceGT, Nat.reducePow, Nat.reduceLeDiff, Int.reduceToNat]) (by simp only [go_sem, reduceIte, Nat.reduceLT, Nat.reduceEqDiff, Nat.reduceAdd, Nat.reduceBEq, Nat.reduceMul, Nat.reduceSub, Nat.reduceGT, Nat.reducePow, Nat.reduceLeDiff, Int.reduceToNat]))
      · replace h := ite_f h hb
        refine run_panT0 hE [] 1 _ (v := .iface 57 (.int .i64 4)) (σ2 := [.box [.sl false (L cU8 v_2737.2.b)] false, .box [i64 0, i64 0, .sl true (L cU8 ([])), .sl true (L cApi_Value ([]))] false, .box [i64 2, i64 0, .bs false 3 (l_2704.length) 0 (l_2704.length), .sl true (L cApi_Value ([]))] false, .buf 1 (L cU8 l_2704) false]) (vals := []) rfl rfl ⟨_, [], orcs_nil, trivial, ?_⟩ (fun fr_ hlen_ hfr_ => ?_)
        · simp only [go_sem, reduceIte, Nat.reduceLT, Nat.reduceEqDiff, Nat.reduceAdd, Nat.reduceBEq, Nat.reduceMul, Nat.reduceSub, Nat.reduceGT, Nat.reducePow, Nat.reduceLeDiff, Int.reduceToNat]
        refine blockK_p ?_
        refine blockK_p ?_
        refine lpK_p ?_
        replace h := bind_some1 h; obtain ⟨z_2745, h, e_z_2745⟩ := h
        obtain rfl := Option.some.inj e_z_2745
        have ex_z_2745 := hxx_2727 _ rfl
        subst ex_z_2745
        obtain rfl := Option.some.inj hj_2725
        refine blockK_p ?_
        obtain rfl := Option.some.inj h
        refine retP_pan rfl [0] (by decide) rfl ?_
        simp only [go_sem, reduceIte, Nat.reduceLT, Nat.reduceEqDiff, Nat.reduceAdd, Nat.reduceBEq, Nat.reduceMul, Nat.reduceSub, Nat.reduceGT, Nat.reducePow, Nat.reduceLeDiff, Int.reduceToNat]

end Go.Proofs.Ytihncddenjbecaa
/-
  The functions compute just that.
-/
namespace Go.Proofs.Ytihncddenjbecaa
open Go.Rv
set_option linter.unusedVariables false
set_option linter.unusedSimpArgs false
set_option maxRecDepth 20000

theorem codec_decoder_value_F_con {rec_ : Codec_decoder → UInt8 → Option ((Api_Value × Codec_decoder) ⊕ (Int × Codec_decoder))} (hrec : ∀ {d_2746 : Codec_decoder} {t_2747 : UInt8} {r : (Api_Value × Codec_decoder) ⊕ (Int × Codec_decoder)}, rec_ d_2746 t_2747 = some r → PCon B 42 [.ref 0 0, u8 t_2747] [.box [.sl false (L cU8 d_2746.b)] false] (codec_decoder_value_out r)) {d_2746 : Codec_decoder} {t_2747 : UInt8} {r : (Api_Value × Codec_decoder) ⊕ (Int × Codec_decoder)} (h : codec_decoder_value_F rec_ d_2746 t_2747 = some r) : PCon B 42 [.ref 0 0, u8 t_2747] [.box [.sl false (L cU8 d_2746.b)] false] (codec_decoder_value_out r) := by
  refine con_walk_pan (N := 56) (rs := [.cell 4 25]) 1 rfl ok Try.func42 rfl (by decide +kernel) rfl rfl (Nat.le_of_ble_eq_true rfl) (fun F => ?_)
  have hE := ok.env F
  unfold codec_decoder_value_F at h
  show Run (B.env F) 1 _ ⟨asFr 56 [(0, .ref 0 0), (1, u8 t_2747)], [.box [.sl false (L cU8 d_2746.b)] false]⟩ _
  refine run_textE hE [0, 1, 4] (fr' := [(0, .ref 0 0), (1, u8 t_2747), (4, .ref 1 0)]) (σ' := [.box [.sl false (L cU8 d_2746.b)] false, .box [i64 0, i64 0, .sl true (L cU8 ([])), .sl true (L cApi_Value ([]))] false]) ⟨_, orcs_nil, ?_⟩ ?_
  · simp only [go_sem, reduceIte, Nat.reduceLT, Nat.reduceEqDiff, Nat.reduceAdd, Nat.reduceBEq, Nat.reduceMul, Nat.reduceSub, Nat.reduceGT, Nat.reducePow, Nat.reduceLeDiff, Int.reduceToNat]
  replace h := bind_some1 h; obtain ⟨j_2912, hA_2913, hj_2914⟩ := h
  refine run_join (fun (v : Unit) => (⟨asFr 56 [(4, .ref 1 0)], [.box [.sl false (L cU8 d_2746.b)] false, .box [i64 0, i64 0, .sl true (L cU8 ([])), .sl true (L cApi_Value ([]))] false]⟩ : St)) (fun v => .inl v = j_2912) ?_ ?_
  · have h := hA_2913; clear hA_2913
    refine run_block ?_
    replace h := bind_some1 h; obtain ⟨t_2915, hv_2916, h⟩ := h
    refine run_textW hE [0, 1, 4, 7] (fr' := [(0, .ref 0 0), (1, u8 t_2747), (4, .ref 1 0), (7, .bool t_2915)]) (σ' := [.box [.sl false (L cU8 d_2746.b)] false, .box [i64 0, i64 0, .sl true (L cU8 ([])), .sl true (L cApi_Value ([]))] false]) ?_ ?_
    · rcases Bool.eq_false_or_eq_true ((decide (t_2747 ≥ (32 : UInt8)))) with hb_2917 | hb_2917
      · replace hv_2916 := ite_t hv_2916 hb_2917
        have e_hv_2916 := Option.some.inj hv_2916; subst e_hv_2916
        exact ⟨_, [(0, .ref 0 0), (1, u8 t_2747), (4, .ref 1 0), (7, .bool ((decide (t_2747 ≤ (40 : UInt8)))))], [.box [.sl false (L cU8 d_2746.b)] false, .box [i64 0, i64 0, .sl true (L cU8 ([])), .sl true (L cApi_Value ([]))] false], orcs_nil, by simp only [go_sem, reduceIte, Nat.reduceLT, Nat.reduceEqDiff, Nat.reduceAdd, Nat.reduceBEq, Nat.reduceMul, Nat.reduceSub, Nat.reduceGT, Nat.reducePow, Nat.reduceLeDiff, Int.reduceToNat, hb_2917], (weak_sel [0, 1] (by decide) rfl (by simp only [go_sem, reduceIte, Nat.reduceLT, Nat.reduceEqDiff, Nat.reduceAdd, Nat.reduceBEq, Nat.reduceMul, Nat.reduceSub, Nat.reduceGT, Nat.reducePow, Nat.reduceLeDiff, Int.reduceToNat]) (by simp only [go_sem, reduceIte, Nat.reduceLT, Nat.reduceEqDiff, Nat.reduceAdd, Nat.reduceBEq, Nat.reduceMul, Nat.reduceSub, Nat.reduceGT, Nat.reducePow, Nat.reduceLeDiff, Int.reduceToNat]))⟩
      · replace hv_2916 := ite_f hv_2916 hb_2917
        have e_hv_2916 := Option.some.inj hv_2916; subst e_hv_2916
        exact ⟨_, [(0, .ref 0 0), (1, u8 t_2747), (4, .ref 1 0), (7, .bool false)], [.box [.sl false (L cU8 d_2746.b)] false, .box [i64 0, i64 0, .sl true (L cU8 ([])), .sl true (L cApi_Value ([]))] false], orcs_nil, by simp only [go_sem, reduceIte, Nat.reduceLT, Nat.reduceEqDiff, Nat.reduceAdd, Nat.reduceBEq, Nat.reduceMul, Nat.reduceSub, Nat.reduceGT, Nat.reducePow, Nat.reduceLeDiff, Int.reduceToNat, hb_2917], (weak_sel [0, 1] (by decide) rfl (by simp only [go_sem, reduceIte, Nat.reduceLT, Nat.reduceEqDiff, Nat.reduceAdd, Nat.reduceBEq, Nat.reduceMul, Nat.reduceSub, Nat.reduceGT, Nat.reducePow, Nat.reduceLeDiff, Int.reduceToNat]) (by simp only [go_sem, reduceIte, Nat.reduceLT, Nat.reduceEqDiff, Nat.reduceAdd, Nat.reduceBEq, Nat.reduceMul, Nat.reduceSub, Nat.reduceGT, Nat.reducePow, Nat.reduceLeDiff, Int.reduceToNat]))⟩
    refine run_condL (b := t_2915) rfl (by decide) (fun hb => ?_) (fun hb => ?_)
    · replace h := ite_t h hb
      replace h := bind_some1 h; obtain ⟨y_2918, hy_2921, h⟩ := h
      rcases y_2918 with v_2919 | v_2920
      rotate_left
      · dsimp only at h
        refine run_panT hE [] 4 _ (v := .iface 57 (.int .i64 v_2920.1)) (σ2 := [.box [.sl false (L cU8 v_2920.2.b)] false, .box [i64 0, i64 0, .sl true (L cU8 ([])), .sl true (L cApi_Value ([]))] false]) (vals := []) rfl rfl ⟨_, [(18, 49, [.ref 0 0, i64 ((((t_2747 - (32 : UInt8))).toNat : Int)), u8 ((0 : UInt8))], [.box [.sl false (L cU8 d_2746.b)] false, .box [i64 0, i64 0, .sl true (L cU8 ([])), .sl true (L cApi_Value ([]))] false], .val (.iface 57 (.int .i64 v_2920.1)), [.box [.sl false (L cU8 v_2920.2.b)] false, .box [i64 0, i64 0, .sl true (L cU8 ([])), .sl true (L cApi_Value ([]))] false])], orcs_nil, ⟨fun v hv => by cases hv; exact wpan_call (PCon.pan (codec_decoder_integer_con hy_2921) rfl) [0] (by decide) (by simp only [go_sem, reduceIte, Nat.reduceLT, Nat.reduceEqDiff, Nat.reduceAdd, Nat.reduceBEq, Nat.reduceMul, Nat.reduceSub, Nat.reduceGT, Nat.reducePow, Nat.reduceLeDiff, Int.reduceToNat]) (by simp only [go_sem, reduceIte, Nat.reduceLT, Nat.reduceEqDiff, Nat.reduceAdd, Nat.reduceBEq, Nat.reduceMul, Nat.reduceSub, Nat.reduceGT, Nat.reducePow, Nat.reduceLeDiff, Int.reduceToNat]) (by simp only [go_sem, reduceIte, Nat.reduceLT, Nat.reduceEqDiff, Nat.reduceAdd, Nat.reduceBEq, Nat.reduceMul, Nat.reduceSub, Nat.reduceGT, Nat.reducePow, Nat.reduceLeDiff, Int.reduceToNat]) (by simp only [go_sem, reduceIte, Nat.reduceLT, Nat.reduceEqDiff, Nat.reduceAdd, Nat.reduceBEq, Nat.reduceMul, Nat.reduceSub, Nat.reduceGT, Nat.reducePow, Nat.reduceLeDiff, Int.reduceToNat]), trivial⟩, ?_⟩ (fun fr_ hlen_ hfr_ => ?_)
        · simp only [go_sem, reduceIte, Nat.reduceLT, Nat.reduceEqDiff, Nat.reduceAdd, Nat.reduceBEq, Nat.reduceMul, Nat.reduceSub, Nat.reduceGT, Nat.reducePow, Nat.reduceLeDiff, Int.reduceToNat]
        refine blockK_p ?_
        refine joinK_p ?_
        replace h := bind_some1 h; obtain ⟨z_2922, h, e_z_2922⟩ := h
        obtain rfl := Option.some.inj e_z_2922
        obtain rfl := Option.some.inj hj_2914
        obtain rfl := Option.some.inj h
        refine retP_pan rfl [0] (by decide) rfl ?_
        simp only [go_sem, reduceIte, Nat.reduceLT, Nat.reduceEqDiff, Nat.reduceAdd, Nat.reduceBEq, Nat.reduceMul, Nat.reduceSub, Nat.reduceGT, Nat.reducePow, Nat.reduceLeDiff, Int.reduceToNat]
      dsimp only at h
      refine run_textE hE [4] (fr' := [(4, .ref 1 0)]) (σ' := [.box [.sl false (L cU8 v_2919.2.b)] false, .box [i64 v_2919.1.Kind, i64 v_2919.1.N, .sl false (L cU8 v_2919.1.B), .sl false (L cApi_Value v_2919.1.L)] false]) ⟨_, orcs_ok2 (l := []) (m := [(18, 49, [.ref 0 0, i64 ((((t_2747 - (32 : UInt8))).toNat : Int)), u8 ((0 : UInt8))], [.box [.sl false (L cU8 d_2746.b)] false, .box [i64 0, i64 0, .sl true (L cU8 ([])), .sl true (L cApi_Value ([]))] false], .agg [i64 v_2919.1.Kind, i64 v_2919.1.N, .sl false (L cU8 v_2919.1.B), .sl false (L cApi_Value v_2919.1.L)], [.box [.sl false (L cU8 v_2919.2.b)] false, .box [i64 0, i64 0, .sl true (L cU8 ([])), .sl true (L cApi_Value ([]))] false])]) trivial ⟨(wcon_call (PCon.to (codec_decoder_integer_con hy_2921) rfl) [0] (by decide) (by simp only [go_sem, reduceIte, Nat.reduceLT, Nat.reduceEqDiff, Nat.reduceAdd, Nat.reduceBEq, Nat.reduceMul, Nat.reduceSub, Nat.reduceGT, Nat.reducePow, Nat.reduceLeDiff, Int.reduceToNat]) (by simp only [go_sem, reduceIte, Nat.reduceLT, Nat.reduceEqDiff, Nat.reduceAdd, Nat.reduceBEq, Nat.reduceMul, Nat.reduceSub, Nat.reduceGT, Nat.reducePow, Nat.reduceLeDiff, Int.reduceToNat]) (by simp only [go_sem, reduceIte, Nat.reduceLT, Nat.reduceEqDiff, Nat.reduceAdd, Nat.reduceBEq, Nat.reduceMul, Nat.reduceSub, Nat.reduceGT, Nat.reducePow, Nat.reduceLeDiff, Int.reduceToNat]) (by simp only [go_sem, reduceIte, Nat.reduceLT, Nat.reduceEqDiff, Nat.reduceAdd, Nat.reduceBEq, Nat.reduceMul, Nat.reduceSub, Nat.reduceGT, Nat.reducePow, Nat.reduceLeDiff, Int.reduceToNat]) (by simp only [go_sem, reduceIte, Nat.reduceLT, Nat.reduceEqDiff, Nat.reduceAdd, Nat.reduceBEq, Nat.reduceMul, Nat.reduceSub, Nat.reduceGT, Nat.reducePow, Nat.reduceLeDiff, Int.reduceToNat])), trivial⟩, ?_⟩ ?_
      · simp only [go_sem, reduceIte, Nat.reduceLT, Nat.reduceEqDiff, Nat.reduceAdd, Nat.reduceBEq, Nat.reduceMul, Nat.reduceSub, Nat.reduceGT, Nat.reducePow, Nat.reduceLeDiff, Int.reduceToNat]
      refine run_ret ?_
      refine blockK_r ?_
      refine joinK_r ?_
      replace h := bind_some1 h; obtain ⟨z_2923, h, e_z_2923⟩ := h
      obtain rfl := Option.some.inj e_z_2923
      obtain rfl := Option.some.inj hj_2914
      obtain rfl := Option.some.inj h
      refine retP_fz rfl (ret_fz (.inr rfl) ?_ rfl ?_)
      · simp only [go_sem, reduceIte, Nat.reduceLT, Nat.reduceEqDiff, Nat.reduceAdd, Nat.reduceBEq, Nat.reduceMul, Nat.reduceSub, Nat.reduceGT, Nat.reducePow, Nat.reduceLeDiff, Int.reduceToNat]
      · show stUp [0] _ [0] _; simp only [go_sem, reduceIte, Nat.reduceLT, Nat.reduceEqDiff, Nat.reduceAdd, Nat.reduceBEq, Nat.reduceMul, Nat.reduceSub, Nat.reduceGT, Nat.reducePow, Nat.reduceLeDiff, Int.reduceToNat]
    · replace h := ite_f h hb
      replace h := bind_some1 h; obtain ⟨t_2924, hv_2925, h⟩ := h
      refine run_textW hE [0, 1, 4, 19] (fr' := [(0, .ref 0 0), (1, u8 t_2747), (4, .ref 1 0), (19, .bool t_2924)]) (σ' := [.box [.sl false (L cU8 d_2746.b)] false, .box [i64 0, i64 0, .sl true (L cU8 ([])), .sl true (L cApi_Value ([]))] false]) ?_ ?_
      · rcases Bool.eq_false_or_eq_true ((decide (t_2747 < (32 : UInt8)))) with hb_2926 | hb_2926
        · replace hv_2925 := ite_t hv_2925 hb_2926
          have e_hv_2925 := Option.some.inj hv_2925; subst e_hv_2925
          exact ⟨_, [(0, .ref 0 0), (1, u8 t_2747), (4, .ref 1 0), (19, .bool ((decide (t_2747 ≥ (23 : UInt8)))))], [.box [.sl false (L cU8 d_2746.b)] false, .box [i64 0, i64 0, .sl true (L cU8 ([])), .sl true (L cApi_Value ([]))] false], orcs_nil, by simp only [go_sem, reduceIte, Nat.reduceLT, Nat.reduceEqDiff, Nat.reduceAdd, Nat.reduceBEq, Nat.reduceMul, Nat.reduceSub, Nat.reduceGT, Nat.reducePow, Nat.reduceLeDiff, Int.reduceToNat, hb_2926], (weak_sel [0, 1] (by decide) rfl (by simp only [go_sem, reduceIte, Nat.reduceLT, Nat.reduceEqDiff, Nat.reduceAdd, Nat.reduceBEq, Nat.reduceMul, Nat.reduceSub, Nat.reduceGT, Nat.reducePow, Nat.reduceLeDiff, Int.reduceToNat]) (by simp only [go_sem, reduceIte, Nat.reduceLT, Nat.reduceEqDiff, Nat.reduceAdd, Nat.reduceBEq, Nat.reduceMul, Nat.reduceSub, Nat.reduceGT, Nat.reducePow, Nat.reduceLeDiff, Int.reduceToNat]))⟩
        · replace hv_2925 := ite_f hv_2925 hb_2926
          have e_hv_2925 := Option.some.inj hv_2925; subst e_hv_2925
          exact ⟨_, [(0, .ref 0 0), (1, u8 t_2747), (4, .ref 1 0), (19, .bool false)], [.box [.sl false (L cU8 d_2746.b)] false, .box [i64 0, i64 0, .sl true (L cU8 ([])), .sl true (L cApi_Value ([]))] false], orcs_nil, by simp only [go_sem, reduceIte, Nat.reduceLT, Nat.reduceEqDiff, Nat.reduceAdd, Nat.reduceBEq, Nat.reduceMul, Nat.reduceSub, Nat.reduceGT, Nat.reducePow, Nat.reduceLeDiff, Int.reduceToNat, hb_2926], (weak_sel [0, 1] (by decide) rfl (by simp only [go_sem, reduceIte, Nat.reduceLT, Nat.reduceEqDiff, Nat.reduceAdd, Nat.reduceBEq, Nat.reduceMul, Nat.reduceSub, Nat.reduceGT, Nat.reducePow, Nat.reduceLeDiff, Int.reduceToNat]) (by simp only [go_sem, reduceIte, Nat.reduceLT, Nat.reduceEqDiff, Nat.reduceAdd, Nat.reduceBEq, Nat.reduceMul, Nat.reduceSub, Nat.reduceGT, Nat.reducePow, Nat.reduceLeDiff, Int.reduceToNat]))⟩
      refine run_condL (b := t_2924) rfl (by decide) (fun hb => ?_) (fun hb => ?_)
      · replace h := ite_t h hb
        replace h := bind_some1 h; obtain ⟨y_2927, hy_2930, h⟩ := h
        rcases y_2927 with v_2928 | v_2929
        rotate_left
        · dsimp only at h
          refine run_panT hE [] 4 _ (v := .iface 57 (.int .i64 v_2929.1)) (σ2 := [.box [.sl false (L cU8 v_2929.2.b)] false, .box [i64 0, i64 0, .sl true (L cU8 ([])), .sl true (L cApi_Value ([]))] false]) (vals := []) rfl rfl ⟨_, [(30, 49, [.ref 0 0, i64 (((((31 : UInt8) - t_2747)).toNat : Int)), u8 ((255 : UInt8))], [.box [.sl false (L cU8 d_2746.b)] false, .box [i64 0, i64 0, .sl true (L cU8 ([])), .sl true (L cApi_Value ([]))] false], .val (.iface 57 (.int .i64 v_2929.1)), [.box [.sl false (L cU8 v_2929.2.b)] false, .box [i64 0, i64 0, .sl true (L cU8 ([])), .sl true (L cApi_Value ([]))] false])], orcs_nil, ⟨fun v hv => by cases hv; exact wpan_call (PCon.pan (codec_decoder_integer_con hy_2930) rfl) [0] (by decide) (by simp only [go_sem, reduceIte, Nat.reduceLT, Nat.reduceEqDiff, Nat.reduceAdd, Nat.reduceBEq, Nat.reduceMul, Nat.reduceSub, Nat.reduceGT, Nat.reducePow, Nat.reduceLeDiff, Int.reduceToNat]) (by simp only [go_sem, reduceIte, Nat.reduceLT, Nat.reduceEqDiff, Nat.reduceAdd, Nat.reduceBEq, Nat.reduceMul, Nat.reduceSub, Nat.reduceGT, Nat.reducePow, Nat.reduceLeDiff, Int.reduceToNat]) (by simp only [go_sem, reduceIte, Nat.reduceLT, Nat.reduceEqDiff, Nat.reduceAdd, Nat.reduceBEq, Nat.reduceMul, Nat.reduceSub, Nat.reduceGT, Nat.reducePow, Nat.reduceLeDiff, Int.reduceToNat]) (by simp only [go_sem, reduceIte, Nat.reduceLT, Nat.reduceEqDiff, Nat.reduceAdd, Nat.reduceBEq, Nat.reduceMul, Nat.reduceSub, Nat.reduceGT, Nat.reducePow, Nat.reduceLeDiff, Int.reduceToNat]), trivial⟩, ?_⟩ (fun fr_ hlen_ hfr_ => ?_)
          · simp only [go_sem, reduceIte, Nat.reduceLT, Nat.reduceEqDiff, Nat.reduceAdd, Nat.reduceBEq, Nat.reduceMul, Nat.reduceSub, Nat.reduceGT, Nat.reducePow, Nat.reduceLeDiff, Int.reduceToNat]
          refine blockK_p ?_
          refine joinK_p ?_
          replace h := bind_some1 h; obtain ⟨z_2931, h, e_z_2931⟩ := h
          obtain rfl := Option.some.inj e_z_2931
          obtain rfl := Option.some.inj hj_2914
          obtain rfl := Option.some.inj h
          refine retP_pan rfl [0] (by decide) rfl ?_
          simp only [go_sem, reduceIte, Nat.reduceLT, Nat.reduceEqDiff, Nat.reduceAdd, Nat.reduceBEq, Nat.reduceMul, Nat.reduceSub, Nat.reduceGT, Nat.reducePow, Nat.reduceLeDiff, Int.reduceToNat]
        dsimp only at h
        refine run_textE hE [4] (fr' := [(4, .ref 1 0)]) (σ' := [.box [.sl false (L cU8 v_2928.2.b)] false, .box [i64 v_2928.1.Kind, i64 v_2928.1.N, .sl false (L cU8 v_2928.1.B), .sl false (L cApi_Value v_2928.1.L)] false]) ⟨_, orcs_ok2 (l := []) (m := [(30, 49, [.ref 0 0, i64 (((((31 : UInt8) - t_2747)).toNat : Int)), u8 ((255 : UInt8))], [.box [.sl false (L cU8 d_2746.b)] false, .box [i64 0, i64 0, .sl true (L cU8 ([])), .sl true (L cApi_Value ([]))] false], .agg [i64 v_2928.1.Kind, i64 v_2928.1.N, .sl false (L cU8 v_2928.1.B), .sl false (L cApi_Value v_2928.1.L)], [.box [.sl false (L cU8 v_2928.2.b)] false, .box [i64 0, i64 0, .sl true (L cU8 ([])), .sl true (L cApi_Value ([]))] false])]) trivial ⟨(wcon_call (PCon.to (codec_decoder_integer_con hy_2930) rfl) [0] (by decide) (by simp only [go_sem, reduceIte, Nat.reduceLT, Nat.reduceEqDiff, Nat.reduceAdd, Nat.reduceBEq, Nat.reduceMul, Nat.reduceSub, Nat.reduceGT, Nat.reducePow, Nat.reduceLeDiff, Int.reduceToNat]) (by simp only [go_sem, reduceIte, Nat.reduceLT, Nat.reduceEqDiff, Nat.reduceAdd, Nat.reduceBEq, Nat.reduceMul, Nat.reduceSub, Nat.reduceGT, Nat.reducePow, Nat.reduceLeDiff, Int.reduceToNat]) (by simp only [go_sem, reduceIte, Nat.reduceLT, Nat.reduceEqDiff, Nat.reduceAdd, Nat.reduceBEq, Nat.reduceMul, Nat.reduceSub, Nat.reduceGT, Nat.reducePow, Nat.reduceLeDiff, Int.reduceToNat]) (by simp only [go_sem, reduceIte, Nat.reduceLT, Nat.reduceEqDiff, Nat.reduceAdd, Nat.reduceBEq, Nat.reduceMul, Nat.reduceSub, Nat.reduceGT, Nat.reducePow, Nat.reduceLeDiff, Int.reduceToNat]) (by simp only [go_sem, reduceIte, Nat.reduceLT, Nat.reduceEqDiff, Nat.reduceAdd, Nat.reduceBEq, Nat.reduceMul, Nat.reduceSub, Nat.reduceGT, Nat.reducePow, Nat.reduceLeDiff, Int.reduceToNat])), trivial⟩, ?_⟩ ?_
        · simp only [go_sem, reduceIte, Nat.reduceLT, Nat.reduceEqDiff, Nat.reduceAdd, Nat.reduceBEq, Nat.reduceMul, Nat.reduceSub, Nat.reduceGT, Nat.reducePow, Nat.reduceLeDiff, Int.reduceToNat]
        refine run_ret ?_
        refine blockK_r ?_
        refine joinK_r ?_
        replace h := bind_some1 h; obtain ⟨z_2932, h, e_z_2932⟩ := h
        obtain rfl := Option.some.inj e_z_2932
        obtain rfl := Option.some.inj hj_2914
        obtain rfl := Option.some.inj h
        refine retP_fz rfl (ret_fz (.inr rfl) ?_ rfl ?_)
        · simp only [go_sem, reduceIte, Nat.reduceLT, Nat.reduceEqDiff, Nat.reduceAdd, Nat.reduceBEq, Nat.reduceMul, Nat.reduceSub, Nat.reduceGT, Nat.reducePow, Nat.reduceLeDiff, Int.reduceToNat]
        · show stUp [0] _ [0] _; simp only [go_sem, reduceIte, Nat.reduceLT, Nat.reduceEqDiff, Nat.reduceAdd, Nat.reduceBEq, Nat.reduceMul, Nat.reduceSub, Nat.reduceGT, Nat.reducePow, Nat.reduceLeDiff, Int.reduceToNat]
      · replace h := ite_f h hb
        refine run_textE hE [0, 1, 4, 31] (fr' := [(0, .ref 0 0), (1, u8 t_2747), (4, .ref 1 0), (31, .bool ((t_2747 == (48 : UInt8))))]) (σ' := [.box [.sl false (L cU8 d_2746.b)] false, .box [i64 0, i64 0, .sl true (L cU8 ([])), .sl true (L cApi_Value ([]))] false]) ⟨_, orcs_nil, ?_⟩ ?_
        · simp only [go_sem, reduceIte, Nat.reduceLT, Nat.reduceEqDiff, Nat.reduceAdd, Nat.reduceBEq, Nat.reduceMul, Nat.reduceSub, Nat.reduceGT, Nat.reducePow, Nat.reduceLeDiff, Int.reduceToNat]
        refine run_condL (b := (t_2747 == (48 : UInt8))) rfl (by decide) (fun hb => ?_) (fun hb => ?_)
        · replace h := ite_t h hb
          replace h := bind_some1 h; obtain ⟨y_2933, hy_2936, h⟩ := h
          rcases y_2933 with v_2934 | v_2935
          rotate_left
          · dsimp only at h
            refine run_panT hE [] 1 _ (v := .iface 57 (.int .i64 v_2935.1)) (σ2 := [.box [.sl false (L cU8 v_2935.2.b)] false, .box [i64 0, i64 0, .sl true (L cU8 ([])), .sl true (L cApi_Value ([]))] false]) (vals := []) rfl rfl ⟨_, [(35, 50, [.ref 0 0], [.box [.sl false (L cU8 d_2746.b)] false, .box [i64 0, i64 0, .sl true (L cU8 ([])), .sl true (L cApi_Value ([]))] false], .val (.iface 57 (.int .i64 v_2935.1)), [.box [.sl false (L cU8 v_2935.2.b)] false, .box [i64 0, i64 0, .sl true (L cU8 ([])), .sl true (L cApi_Value ([]))] false])], orcs_nil, ⟨fun v hv => by cases hv; exact wpan_call (PCon.pan (codec_decoder_text_con hy_2936) rfl) [0] (by decide) (by simp only [go_sem, reduceIte, Nat.reduceLT, Nat.reduceEqDiff, Nat.reduceAdd, Nat.reduceBEq, Nat.reduceMul, Nat.reduceSub, Nat.reduceGT, Nat.reducePow, Nat.reduceLeDiff, Int.reduceToNat]) (by simp only [go_sem, reduceIte, Nat.reduceLT, Nat.reduceEqDiff, Nat.reduceAdd, Nat.reduceBEq, Nat.reduceMul, Nat.reduceSub, Nat.reduceGT, Nat.reducePow, Nat.reduceLeDiff, Int.reduceToNat]) (by simp only [go_sem, reduceIte, Nat.reduceLT, Nat.reduceEqDiff, Nat.reduceAdd, Nat.reduceBEq, Nat.reduceMul, Nat.reduceSub, Nat.reduceGT, Nat.reducePow, Nat.reduceLeDiff, Int.reduceToNat]) (by simp only [go_sem, reduceIte, Nat.reduceLT, Nat.reduceEqDiff, Nat.reduceAdd, Nat.reduceBEq, Nat.reduceMul, Nat.reduceSub, Nat.reduceGT, Nat.reducePow, Nat.reduceLeDiff, Int.reduceToNat]), trivial⟩, ?_⟩ (fun fr_ hlen_ hfr_ => ?_)
            · simp only [go_sem, reduceIte, Nat.reduceLT, Nat.reduceEqDiff, Nat.reduceAdd, Nat.reduceBEq, Nat.reduceMul, Nat.reduceSub, Nat.reduceGT, Nat.reducePow, Nat.reduceLeDiff, Int.reduceToNat]
            refine blockK_p ?_
            refine joinK_p ?_
            replace h := bind_some1 h; obtain ⟨z_2937, h, e_z_2937⟩ := h
            obtain rfl := Option.some.inj e_z_2937
            obtain rfl := Option.some.inj hj_2914
            obtain rfl := Option.some.inj h
            refine retP_pan rfl [0] (by decide) rfl ?_
            simp only [go_sem, reduceIte, Nat.reduceLT, Nat.reduceEqDiff, Nat.reduceAdd, Nat.reduceBEq, Nat.reduceMul, Nat.reduceSub, Nat.reduceGT, Nat.reducePow, Nat.reduceLeDiff, Int.reduceToNat]
          dsimp only at h
          refine run_textE hE [4] (fr' := [(4, .ref 1 0)]) (σ' := [.box [.sl false (L cU8 v_2934.2.b)] false, .box [i64 v_2934.1.Kind, i64 v_2934.1.N, .sl false (L cU8 v_2934.1.B), .sl false (L cApi_Value v_2934.1.L)] false]) ⟨_, orcs_ok2 (l := []) (m := [(35, 50, [.ref 0 0], [.box [.sl false (L cU8 d_2746.b)] false, .box [i64 0, i64 0, .sl true (L cU8 ([])), .sl true (L cApi_Value ([]))] false], .agg [i64 v_2934.1.Kind, i64 v_2934.1.N, .sl false (L cU8 v_2934.1.B), .sl false (L cApi_Value v_2934.1.L)], [.box [.sl false (L cU8 v_2934.2.b)] false, .box [i64 0, i64 0, .sl true (L cU8 ([])), .sl true (L cApi_Value ([]))] false])]) trivial ⟨(wcon_call (PCon.to (codec_decoder_text_con hy_2936) rfl) [0] (by decide) (by simp only [go_sem, reduceIte, Nat.reduceLT, Nat.reduceEqDiff, Nat.reduceAdd, Nat.reduceBEq, Nat.reduceMul, Nat.reduceSub, Nat.reduceGT, Nat.reducePow, Nat.reduceLeDiff, Int.reduceToNat]) (by simp only [go_sem, reduceIte, Nat.reduceLT, Nat.reduceEqDiff, Nat.reduceAdd, Nat.reduceBEq, Nat.reduceMul, Nat.reduceSub, Nat.reduceGT, Nat.reducePow, Nat.reduceLeDiff, Int.reduceToNat]) (by simp only [go_sem, reduceIte, Nat.reduceLT, Nat.reduceEqDiff, Nat.reduceAdd, Nat.reduceBEq, Nat.reduceMul, Nat.reduceSub, Nat.reduceGT, Nat.reducePow, Nat.reduceLeDiff, Int.reduceToNat]) (by simp only [go_sem, reduceIte, Nat.reduceLT, Nat.reduceEqDiff, Nat.reduceAdd, Nat.reduceBEq, Nat.reduceMul, Nat.reduceSub, Nat.reduceGT, Nat.reducePow, Nat.reduceLeDiff, Int.reduceToNat]) (by simp only [go_sem, reduceIte, Nat.reduceLT, Nat.reduceEqDiff, Nat.reduceAdd, Nat.reduceBEq, Nat.reduceMul, Nat.reduceSub, Nat.reduceGT, Nat.reducePow, Nat.reduceLeDiff, Int.reduceToNat])), trivial⟩, ?_⟩ ?_
          · simp only [go_sem, reduceIte, Nat.reduceLT, Nat.reduceEqDiff, Nat.reduceAdd, Nat.reduceBEq, Nat.reduceMul, Nat.reduceSub, Nat.reduceGT, Nat.reducePow, Nat.reduceLeDiff, Int.reduceToNat]
          refine run_ret ?_
          refine blockK_r ?_
          refine joinK_r ?_
          replace h := bind_some1 h; obtain ⟨z_2938, h, e_z_2938⟩ := h
          obtain rfl := Option.some.inj e_z_2938
          obtain rfl := Option.some.inj hj_2914
          obtain rfl := Option.some.inj h
          refine retP_fz rfl (ret_fz (.inr rfl) ?_ rfl ?_)
          · simp only [go_sem, reduceIte, Nat.reduceLT, Nat.reduceEqDiff, Nat.reduceAdd, Nat.reduceBEq, Nat.reduceMul, Nat.reduceSub, Nat.reduceGT, Nat.reducePow, Nat.reduceLeDiff, Int.reduceToNat]
          · show stUp [0] _ [0] _; simp only [go_sem, reduceIte, Nat.reduceLT, Nat.reduceEqDiff, Nat.reduceAdd, Nat.reduceBEq, Nat.reduceMul, Nat.reduceSub, Nat.reduceGT, Nat.reducePow, Nat.reduceLeDiff, Int.reduceToNat]
        · replace h := ite_f h hb
          refine run_textE hE [0, 4, 36] (fr' := [(0, .ref 0 0), (4, .ref 1 0), (36, .bool ((t_2747 == (64 : UInt8))))]) (σ' := [.box [.sl false (L cU8 d_2746.b)] false, .box [i64 0, i64 0, .sl true (L cU8 ([])), .sl true (L cApi_Value ([]))] false]) ⟨_, orcs_nil, ?_⟩ ?_
          · simp only [go_sem, reduceIte, Nat.reduceLT, Nat.reduceEqDiff, Nat.reduceAdd, Nat.reduceBEq, Nat.reduceMul, Nat.reduceSub, Nat.reduceGT, Nat.reducePow, Nat.reduceLeDiff, Int.reduceToNat]
          refine run_condL (b := (t_2747 == (64 : UInt8))) rfl (by decide) (fun hb => ?_) (fun hb => ?_)
          · replace h := ite_t h hb
            refine run_textE hE [0, 4, 5] (fr' := [(0, .ref 0 0), (4, .ref 1 0), (5, .ref 2 0)]) (σ' := [.box [.sl false (L cU8 d_2746.b)] false, .box [i64 0, i64 0, .sl true (L cU8 ([])), .sl true (L cApi_Value ([]))] false, .box [i64 3, i64 0, .sl true (L cU8 ([])), .sl true (L cApi_Value ([]))] false]) ⟨_, orcs_nil, ?_⟩ ?_
            · simp only [go_sem, reduceIte, Nat.reduceLT, Nat.reduceEqDiff, Nat.reduceAdd, Nat.reduceBEq, Nat.reduceMul, Nat.reduceSub, Nat.reduceGT, Nat.reducePow, Nat.reduceLeDiff, Int.reduceToNat]
            replace h := bind_some1 h; obtain ⟨j_3008, hA_3009, hj_3010⟩ := h
            refine run_join (fun (v : List UInt8 × List Api_Value) => (⟨asFr 56 [(4, .ref 1 0), (5, .ref 2 0)], [.box [.sl false (L cU8 v.1)] false, .box [i64 0, i64 0, .sl true (L cU8 ([])), .sl true (L cApi_Value ([]))] false, .box [i64 3, i64 0, .sl true (L cU8 ([])), .bs false 3 (v.2.length) 0 (v.2.length)] false, .buf 4 (L cApi_Value v.2) false]⟩ : St)) (fun v => .inl v = j_3008) ?_ ?_
            · have h := hA_3009; clear hA_3009
              replace h := bind_some1 h; obtain ⟨y_3011, hy_3014, h⟩ := h
              rcases y_3011 with v_3012 | v_3013
              rotate_left
              · dsimp only at h
                refine run_panT hE [] 1 _ (v := .iface 57 (.int .i64 v_3013.1)) (σ2 := [.box [.sl false (L cU8 v_3013.2.b)] false, .box [i64 0, i64 0, .sl true (L cU8 ([])), .sl true (L cApi_Value ([]))] false, .box [i64 3, i64 0, .sl true (L cU8 ([])), .sl true (L cApi_Value ([]))] false]) (vals := []) rfl rfl ⟨_, [(41, 43, [.ref 0 0], [.box [.sl false (L cU8 d_2746.b)] false, .box [i64 0, i64 0, .sl true (L cU8 ([])), .sl true (L cApi_Value ([]))] false, .box [i64 3, i64 0, .sl true (L cU8 ([])), .sl true (L cApi_Value ([]))] false], .val (.iface 57 (.int .i64 v_3013.1)), [.box [.sl false (L cU8 v_3013.2.b)] false, .box [i64 0, i64 0, .sl true (L cU8 ([])), .sl true (L cApi_Value ([]))] false, .box [i64 3, i64 0, .sl true (L cU8 ([])), .sl true (L cApi_Value ([]))] false])], orcs_nil, ⟨fun v hv => by cases hv; exact wpan_call (PCon.pan (codec_decoder_next_con hy_3014) rfl) [0] (by decide) (by simp only [go_sem, reduceIte, Nat.reduceLT, Nat.reduceEqDiff, Nat.reduceAdd, Nat.reduceBEq, Nat.reduceMul, Nat.reduceSub, Nat.reduceGT, Nat.reducePow, Nat.reduceLeDiff, Int.reduceToNat]) (by simp only [go_sem, reduceIte, Nat.reduceLT, Nat.reduceEqDiff, Nat.reduceAdd, Nat.reduceBEq, Nat.reduceMul, Nat.reduceSub, Nat.reduceGT, Nat.reducePow, Nat.reduceLeDiff, Int.reduceToNat]) (by simp only [go_sem, reduceIte, Nat.reduceLT, Nat.reduceEqDiff, Nat.reduceAdd, Nat.reduceBEq, Nat.reduceMul, Nat.reduceSub, Nat.reduceGT, Nat.reducePow, Nat.reduceLeDiff, Int.reduceToNat]) (by simp only [go_sem, reduceIte, Nat.reduceLT, Nat.reduceEqDiff, Nat.reduceAdd, Nat.reduceBEq, Nat.reduceMul, Nat.reduceSub, Nat.reduceGT, Nat.reducePow, Nat.reduceLeDiff, Int.reduceToNat]), trivial⟩, ?_⟩ (fun fr_ hlen_ hfr_ => ?_)
                · simp only [go_sem, reduceIte, Nat.reduceLT, Nat.reduceEqDiff, Nat.reduceAdd, Nat.reduceBEq, Nat.reduceMul, Nat.reduceSub, Nat.reduceGT, Nat.reducePow, Nat.reduceLeDiff, Int.reduceToNat]
                refine joinK_p ?_
                replace h := bind_some1 h; obtain ⟨z_3016, h, e_z_3016⟩ := h
                obtain rfl := Option.some.inj e_z_3016
                obtain rfl := Option.some.inj hj_3010
                refine blockK_p ?_
                refine joinK_p ?_
                replace h := bind_some1 h; obtain ⟨z_3015, h, e_z_3015⟩ := h
                obtain rfl := Option.some.inj e_z_3015
                obtain rfl := Option.some.inj hj_2914
                obtain rfl := Option.some.inj h
                refine retP_pan rfl [0] (by decide) rfl ?_
                simp only [go_sem, reduceIte, Nat.reduceLT, Nat.reduceEqDiff, Nat.reduceAdd, Nat.reduceBEq, Nat.reduceMul, Nat.reduceSub, Nat.reduceGT, Nat.reducePow, Nat.reduceLeDiff, Int.reduceToNat]
              dsimp only at h
              refine run_textE hE [0, 4, 5, 6] (fr' := [(0, .ref 0 0), (4, .ref 1 0), (5, .ref 2 0), (6, u8 v_3012.1)]) (σ' := [.box [.sl false (L cU8 v_3012.2.b)] false, .box [i64 0, i64 0, .sl true (L cU8 ([])), .sl true (L cApi_Value ([]))] false, .box [i64 3, i64 0, .sl true (L cU8 ([])), .sl true (L cApi_Value ([]))] false]) ⟨_, orcs_ok2 (l := []) (m := [(41, 43, [.ref 0 0], [.box [.sl false (L cU8 d_2746.b)] false, .box [i64 0, i64 0, .sl true (L cU8 ([])), .sl true (L cApi_Value ([]))] false, .box [i64 3, i64 0, .sl true (L cU8 ([])), .sl true (L cApi_Value ([]))] false], u8 v_3012.1, [.box [.sl false (L cU8 v_3012.2.b)] false, .box [i64 0, i64 0, .sl true (L cU8 ([])), .sl true (L cApi_Value ([]))] false, .box [i64 3, i64 0, .sl true (L cU8 ([])), .sl true (L cApi_Value ([]))] false])]) trivial ⟨(wcon_call (PCon.to (codec_decoder_next_con hy_3014) rfl) [0] (by decide) (by simp only [go_sem, reduceIte, Nat.reduceLT, Nat.reduceEqDiff, Nat.reduceAdd, Nat.reduceBEq, Nat.reduceMul, Nat.reduceSub, Nat.reduceGT, Nat.reducePow, Nat.reduceLeDiff, Int.reduceToNat]) (by simp only [go_sem, reduceIte, Nat.reduceLT, Nat.reduceEqDiff, Nat.reduceAdd, Nat.reduceBEq, Nat.reduceMul, Nat.reduceSub, Nat.reduceGT, Nat.reducePow, Nat.reduceLeDiff, Int.reduceToNat]) (by simp only [go_sem, reduceIte, Nat.reduceLT, Nat.reduceEqDiff, Nat.reduceAdd, Nat.reduceBEq, Nat.reduceMul, Nat.reduceSub, Nat.reduceGT, Nat.reducePow, Nat.reduceLeDiff, Int.reduceToNat]) (by simp only [go_sem, reduceIte, Nat.reduceLT, Nat.reduceEqDiff, Nat.reduceAdd, Nat.reduceBEq, Nat.reduceMul, Nat.reduceSub, Nat.reduceGT, Nat.reducePow, Nat.reduceLeDiff, Int.reduceToNat]) (by simp only [go_sem, reduceIte, Nat.reduceLT, Nat.reduceEqDiff, Nat.reduceAdd, Nat.reduceBEq, Nat.reduceMul, Nat.reduceSub, Nat.reduceGT, Nat.reducePow, Nat.reduceLeDiff, Int.reduceToNat])), trivial⟩, ?_⟩ ?_
              · simp only [go_sem, reduceIte, Nat.reduceLT, Nat.reduceEqDiff, Nat.reduceAdd, Nat.reduceBEq, Nat.reduceMul, Nat.reduceSub, Nat.reduceGT, Nat.reducePow, Nat.reduceLeDiff, Int.reduceToNat]
              refine run_block ?_
              replace h := bind_some1 h; obtain ⟨x_3056, hx_3057, hj_3058⟩ := h
              refine run_loopO hx_3057 (fun (v : UInt8 × List UInt8 × List Api_Value) => (⟨asFr 56 [(0, .ref 0 0), (4, .ref 1 0), (5, .ref 2 0), (6, u8 v.1)], [.box [.sl false (L cU8 v.2.1)] false, .box [i64 0, i64 0, .sl true (L cU8 ([])), .sl true (L cApi_Value ([]))] false, .box [i64 3, i64 0, .sl true (L cU8 ([])), .bs false 3 (v.2.2.length) 0 (v.2.2.length)] false, .buf 4 (L cApi_Value v.2.2) false]⟩ : St)) ((weak_nil_box 2 3 4 rfl rfl).trans (weak_sel [0, 1, 2, 3] (by decide) rfl (by simp only [go_sem, reduceIte, Nat.reduceLT, Nat.reduceEqDiff, Nat.reduceAdd, Nat.reduceBEq, Nat.reduceMul, Nat.reduceSub, Nat.reduceGT, Nat.reducePow, Nat.reduceLeDiff, Int.reduceToNat]) (by simp only [go_sem, reduceIte, Nat.reduceLT, Nat.reduceEqDiff, Nat.reduceAdd, Nat.reduceBEq, Nat.reduceMul, Nat.reduceSub, Nat.reduceGT, Nat.reducePow, Nat.reduceLeDiff, Int.reduceToNat]))) ?_
              rintro ⟨c_3034, f_3035, l_3036⟩ o_3059 h hxx_3060
              replace h : codec_decoder_value_b1 rec_ c_3034 f_3035 l_3036 = some o_3059 := h
              unfold codec_decoder_value_b1 at h
              refine run_seq ?_
              refine run_textE hE [0, 4, 5, 6, 43] (fr' := [(0, .ref 0 0), (4, .ref 1 0), (5, .ref 2 0), (6, u8 c_3034), (43, .bool ((c_3034 != (0 : UInt8))))]) (σ' := [.box [.sl false (L cU8 f_3035)] false, .box [i64 0, i64 0, .sl true (L cU8 ([])), .sl true (L cApi_Value ([]))] false, .box [i64 3, i64 0, .sl true (L cU8 ([])), .bs false 3 (l_3036.length) 0 (l_3036.length)] false, .buf 4 (L cApi_Value l_3036) false]) ⟨_, orcs_nil, ?_⟩ ?_
              · simp only [go_sem, reduceIte, Nat.reduceLT, Nat.reduceEqDiff, Nat.reduceAdd, Nat.reduceBEq, Nat.reduceMul, Nat.reduceSub, Nat.reduceGT, Nat.reducePow, Nat.reduceLeDiff, Int.reduceToNat]
              refine run_condL (b := (c_3034 != (0 : UInt8))) rfl (by decide) (fun hb => ?_) (fun hb => ?_)
              · replace h := ite_t h hb
                refine run_skip ?_
                refine thenK_n ?_
                refine run_seq ?_
                refine run_block ?_
                replace h := bind_some1 h; obtain ⟨y_3061, hy_3064, h⟩ := h
                rcases y_3061 with v_3062 | v_3063
                rotate_left
                · dsimp only at h
                  refine run_panD0 hE mixed [] rfl [[], [0], [], [], [2, 3], [2, 3, 4], [0, 1, 2, 3, 4, 5], [0, 1, 2, 3, 4, 5, 6], [0, 1, 2, 3, 4, 5, 6, 7]] (by kernel_rfl) 4 (by kernel_rfl) (by kernel_rfl) _ (v := .iface 57 (.int .i64 v_3063.1)) (σ2 := [.box [.sl false (L cU8 v_3063.2.b)] false, .box [i64 0, i64 0, .sl true (L cU8 ([])), .sl true (L cApi_Value ([]))] false, .box [i64 3, i64 0, .sl true (L cU8 ([])), .bs false 3 (l_3036.length) 0 (l_3036.length)] false, .buf 4 (L cApi_Value l_3036) false]) (vals := []) rfl rfl ⟨_, [(50, 42, [.ref 0 0, u8 c_3034], [.box [.sl false (L cU8 f_3035)] false, .box [i64 0, i64 0, .sl true (L cU8 ([])), .sl true (L cApi_Value ([]))] false, .box [i64 3, i64 0, .sl true (L cU8 ([])), .bs false 3 (l_3036.length) 0 (l_3036.length)] false, .buf 4 (L cApi_Value l_3036) false], .val (.iface 57 (.int .i64 v_3063.1)), [.box [.sl false (L cU8 v_3063.2.b)] false, .box [i64 0, i64 0, .sl true (L cU8 ([])), .sl true (L cApi_Value ([]))] false, .box [i64 3, i64 0, .sl true (L cU8 ([])), .bs false 3 (l_3036.length) 0 (l_3036.length)] false, .buf 4 (L cApi_Value l_3036) false])], orcs_nil, ⟨fun v hv => by cases hv; exact wpan_call (PCon.pan (hrec hy_3064) rfl) [0] (by decide) (by simp only [go_sem, reduceIte, Nat.reduceLT, Nat.reduceEqDiff, Nat.reduceAdd, Nat.reduceBEq, Nat.reduceMul, Nat.reduceSub, Nat.reduceGT, Nat.reducePow, Nat.reduceLeDiff, Int.reduceToNat]) (by simp only [go_sem, reduceIte, Nat.reduceLT, Nat.reduceEqDiff, Nat.reduceAdd, Nat.reduceBEq, Nat.reduceMul, Nat.reduceSub, Nat.reduceGT, Nat.reducePow, Nat.reduceLeDiff, Int.reduceToNat]) (by simp only [go_sem, reduceIte, Nat.reduceLT, Nat.reduceEqDiff, Nat.reduceAdd, Nat.reduceBEq, Nat.reduceMul, Nat.reduceSub, Nat.reduceGT, Nat.reducePow, Nat.reduceLeDiff, Int.reduceToNat]) (by simp only [go_sem, reduceIte, Nat.reduceLT, Nat.reduceEqDiff, Nat.reduceAdd, Nat.reduceBEq, Nat.reduceMul, Nat.reduceSub, Nat.reduceGT, Nat.reducePow, Nat.reduceLeDiff, Int.reduceToNat]), trivial⟩, ?_⟩ (fun fr_ hlen_ hfr_ => ?_)
                  · simp only [go_sem, reduceIte, Nat.reduceLT, Nat.reduceEqDiff, Nat.reduceAdd, Nat.reduceBEq, Nat.reduceMul, Nat.reduceSub, Nat.reduceGT, Nat.reducePow, Nat.reduceLeDiff, Int.reduceToNat]
                  refine blockK_p ?_
                  refine thenK_p ?_
                  refine lpK_p ?_
                  replace h := bind_some1 h; obtain ⟨z_3067, h, e_z_3067⟩ := h
                  obtain rfl := Option.some.inj e_z_3067
                  have ex_z_3067 := hxx_3060 _ rfl
                  subst ex_z_3067
                  obtain rfl := Option.some.inj hj_3058
                  refine blockK_p ?_
                  refine joinK_p ?_
                  replace h := bind_some1 h; obtain ⟨z_3066, h, e_z_3066⟩ := h
                  obtain rfl := Option.some.inj e_z_3066
                  obtain rfl := Option.some.inj hj_3010
                  refine blockK_p ?_
                  refine joinK_p ?_
                  replace h := bind_some1 h; obtain ⟨z_3065, h, e_z_3065⟩ := h
                  obtain rfl := Option.some.inj e_z_3065
                  obtain rfl := Option.some.inj hj_2914
                  obtain rfl := Option.some.inj h
                  refine retP_pan rfl [0] (by decide) rfl ?_
                  simp only [go_sem, reduceIte, Nat.reduceLT, Nat.reduceEqDiff, Nat.reduceAdd, Nat.reduceBEq, Nat.reduceMul, Nat.reduceSub, Nat.reduceGT, Nat.reducePow, Nat.reduceLeDiff, Int.reduceToNat]
                dsimp only at h
                replace h := chk_some h; obtain ⟨hc_3068, h⟩ := h
                replace h := lt1_some h; obtain ⟨l_3069, hz_3070, h⟩ := h
                refine run_drawY0 hE mixed [[], [0], [], [], [2, 3], [2, 3, 4], [0, 1, 2, 3, 4, 5], [0, 1, 2, 3, 4, 5, 6], [0, 1, 2, 3, 4, 5, 6, 7]] (by kernel_rfl) 4 [0, 1] [0, 4, 5, 46] (by kernel_rfl) (wk_block wk_then) (fr' := [(0, .ref 0 0), (4, .ref 1 0), (5, .ref 2 0), (46, .ref 2 3)]) (σ' := [.box [.sl false (L cU8 v_3062.2.b)] false, .box [i64 0, i64 0, .sl true (L cU8 ([])), .sl true (L cApi_Value ([]))] false, .box [i64 3, i64 0, .sl true (L cU8 ([])), .bs false 3 (l_3069.length) 0 (l_3069.length)] false, .buf 4 (L cApi_Value l_3069) false, .buf 4 (L cApi_Value (([v_3062.1] : List Api_Value))) false]) ⟨_, _, _, _, _, _, _, rfl, ?_, orcs_ok2 (l := []) (m := [(50, 42, [.ref 0 0, u8 c_3034], [.box [.sl false (L cU8 f_3035)] false, .box [i64 0, i64 0, .sl true (L cU8 ([])), .sl true (L cApi_Value ([]))] false, .box [i64 3, i64 0, .sl true (L cU8 ([])), .bs false 3 (l_3036.length) 0 (l_3036.length)] false, .buf 4 (L cApi_Value l_3036) false], .agg [i64 v_3062.1.Kind, i64 v_3062.1.N, .sl false (L cU8 v_3062.1.B), .sl false (L cApi_Value v_3062.1.L)], [.box [.sl false (L cU8 v_3062.2.b)] false, .box [i64 0, i64 0, .sl true (L cU8 ([])), .sl true (L cApi_Value ([]))] false, .box [i64 3, i64 0, .sl true (L cU8 ([])), .bs false 3 (l_3036.length) 0 (l_3036.length)] false, .buf 4 (L cApi_Value l_3036) false])]) trivial ⟨(wcon_call (PCon.to (hrec hy_3064) rfl) [0] (by decide) (by simp only [go_sem, reduceIte, Nat.reduceLT, Nat.reduceEqDiff, Nat.reduceAdd, Nat.reduceBEq, Nat.reduceMul, Nat.reduceSub, Nat.reduceGT, Nat.reducePow, Nat.reduceLeDiff, Int.reduceToNat]) (by simp only [go_sem, reduceIte, Nat.reduceLT, Nat.reduceEqDiff, Nat.reduceAdd, Nat.reduceBEq, Nat.reduceMul, Nat.reduceSub, Nat.reduceGT, Nat.reducePow, Nat.reduceLeDiff, Int.reduceToNat]) (by simp only [go_sem, reduceIte, Nat.reduceLT, Nat.reduceEqDiff, Nat.reduceAdd, Nat.reduceBEq, Nat.reduceMul, Nat.reduceSub, Nat.reduceGT, Nat.reducePow, Nat.reduceLeDiff, Int.reduceToNat]) (by simp only [go_sem, reduceIte, Nat.reduceLT, Nat.reduceEqDiff, Nat.reduceAdd, Nat.reduceBEq, Nat.reduceMul, Nat.reduceSub, Nat.reduceGT, Nat.reducePow, Nat.reduceLeDiff, Int.reduceToNat]) (by simp only [go_sem, reduceIte, Nat.reduceLT, Nat.reduceEqDiff, Nat.reduceAdd, Nat.reduceBEq, Nat.reduceMul, Nat.reduceSub, Nat.reduceGT, Nat.reducePow, Nat.reduceLeDiff, Int.reduceToNat])), trivial⟩, ?_⟩ ?_
                · subst hz_3070; simp only [go_sem, reduceIte, Nat.reduceLT, Nat.reduceEqDiff, Nat.reduceAdd, Nat.reduceBEq, Nat.reduceMul, Nat.reduceSub, Nat.reduceGT, Nat.reducePow, Nat.reduceLeDiff, Int.reduceToNat, hc_3068]
                · subst hz_3070; simp only [go_sem, reduceIte, Nat.reduceLT, Nat.reduceEqDiff, Nat.reduceAdd, Nat.reduceBEq, Nat.reduceMul, Nat.reduceSub, Nat.reduceGT, Nat.reducePow, Nat.reduceLeDiff, Int.reduceToNat, hc_3068]
                refine blockK_n ?_
                refine thenK_n ?_
                replace h := bind_some1 h; obtain ⟨y_3071, hy_3074, h⟩ := h
                rcases y_3071 with v_3072 | v_3073
                rotate_left
                · dsimp only at h
                  refine run_panT0 hE [] 1 _ (v := .iface 57 (.int .i64 v_3073.1)) (σ2 := [.box [.sl false (L cU8 v_3073.2.b)] false, .box [i64 0, i64 0, .sl true (L cU8 ([])), .sl true (L cApi_Value ([]))] false, .box [i64 3, i64 0, .sl true (L cU8 ([])), .bs false 3 (l_3069.length) 0 (l_3069.length)] false, .buf 4 (L cApi_Value l_3069) false, .buf 4 (L cApi_Value (([v_3062.1] : List Api_Value))) false]) (vals := []) rfl rfl ⟨_, [(45, 43, [.ref 0 0], [.box [.sl false (L cU8 v_3062.2.b)] false, .box [i64 0, i64 0, .sl true (L cU8 ([])), .sl true (L cApi_Value ([]))] false, .box [i64 3, i64 0, .sl true (L cU8 ([])), .bs false 3 (l_3069.length) 0 (l_3069.length)] false, .buf 4 (L cApi_Value l_3069) false, .buf 4 (L cApi_Value (([v_3062.1] : List Api_Value))) false], .val (.iface 57 (.int .i64 v_3073.1)), [.box [.sl false (L cU8 v_3073.2.b)] false, .box [i64 0, i64 0, .sl true (L cU8 ([])), .sl true (L cApi_Value ([]))] false, .box [i64 3, i64 0, .sl true (L cU8 ([])), .bs false 3 (l_3069.length) 0 (l_3069.length)] false, .buf 4 (L cApi_Value l_3069) false, .buf 4 (L cApi_Value (([v_3062.1] : List Api_Value))) false])], orcs_nil, ⟨fun v hv => by cases hv; exact wpan_call (PCon.pan (codec_decoder_next_con hy_3074) rfl) [0] (by decide) (by simp only [go_sem, reduceIte, Nat.reduceLT, Nat.reduceEqDiff, Nat.reduceAdd, Nat.reduceBEq, Nat.reduceMul, Nat.reduceSub, Nat.reduceGT, Nat.reducePow, Nat.reduceLeDiff, Int.reduceToNat]) (by simp only [go_sem, reduceIte, Nat.reduceLT, Nat.reduceEqDiff, Nat.reduceAdd, Nat.reduceBEq, Nat.reduceMul, Nat.reduceSub, Nat.reduceGT, Nat.reducePow, Nat.reduceLeDiff, Int.reduceToNat]) (by simp only [go_sem, reduceIte, Nat.reduceLT, Nat.reduceEqDiff, Nat.reduceAdd, Nat.reduceBEq, Nat.reduceMul, Nat.reduceSub, Nat.reduceGT, Nat.reducePow, Nat.reduceLeDiff, Int.reduceToNat]) (by simp only [go_sem, reduceIte, Nat.reduceLT, Nat.reduceEqDiff, Nat.reduceAdd, Nat.reduceBEq, Nat.reduceMul, Nat.reduceSub, Nat.reduceGT, Nat.reducePow, Nat.reduceLeDiff, Int.reduceToNat]), trivial⟩, ?_⟩ (fun fr_ hlen_ hfr_ => ?_)
                  · simp only [go_sem, reduceIte, Nat.reduceLT, Nat.reduceEqDiff, Nat.reduceAdd, Nat.reduceBEq, Nat.reduceMul, Nat.reduceSub, Nat.reduceGT, Nat.reducePow, Nat.reduceLeDiff, Int.reduceToNat]
                  refine lpK_p ?_
                  replace h := bind_some1 h; obtain ⟨z_3077, h, e_z_3077⟩ := h
                  obtain rfl := Option.some.inj e_z_3077
                  have ex_z_3077 := hxx_3060 _ rfl
                  subst ex_z_3077
                  obtain rfl := Option.some.inj hj_3058
                  refine blockK_p ?_
                  refine joinK_p ?_
                  replace h := bind_some1 h; obtain ⟨z_3076, h, e_z_3076⟩ := h
                  obtain rfl := Option.some.inj e_z_3076
                  obtain rfl := Option.some.inj hj_3010
                  refine blockK_p ?_
                  refine joinK_p ?_
                  replace h := bind_some1 h; obtain ⟨z_3075, h, e_z_3075⟩ := h
                  obtain rfl := Option.some.inj e_z_3075
                  obtain rfl := Option.some.inj hj_2914
                  obtain rfl := Option.some.inj h
                  refine retP_pan rfl [0] (by decide) rfl ?_
                  simp only [go_sem, reduceIte, Nat.reduceLT, Nat.reduceEqDiff, Nat.reduceAdd, Nat.reduceBEq, Nat.reduceMul, Nat.reduceSub, Nat.reduceGT, Nat.reducePow, Nat.reduceLeDiff, Int.reduceToNat]
                dsimp only at h
                refine run_textE0 hE wk_lp [0, 4, 5, 6] (fr' := [(0, .ref 0 0), (4, .ref 1 0), (5, .ref 2 0), (6, u8 v_3072.1)]) (σ' := [.box [.sl false (L cU8 v_3072.2.b)] false, .box [i64 0, i64 0, .sl true (L cU8 ([])), .sl true (L cApi_Value ([]))] false, .box [i64 3, i64 0, .sl true (L cU8 ([])), .bs false 3 (l_3069.length) 0 (l_3069.length)] false, .buf 4 (L cApi_Value l_3069) false, .buf 4 (L cApi_Value (([v_3062.1] : List Api_Value))) false]) ⟨_, orcs_ok2 (l := []) (m := [(45, 43, [.ref 0 0], [.box [.sl false (L cU8 v_3062.2.b)] false, .box [i64 0, i64 0, .sl true (L cU8 ([])), .sl true (L cApi_Value ([]))] false, .box [i64 3, i64 0, .sl true (L cU8 ([])), .bs false 3 (l_3069.length) 0 (l_3069.length)] false, .buf 4 (L cApi_Value l_3069) false, .buf 4 (L cApi_Value (([v_3062.1] : List Api_Value))) false], u8 v_3072.1, [.box [.sl false (L cU8 v_3072.2.b)] false, .box [i64 0, i64 0, .sl true (L cU8 ([])), .sl true (L cApi_Value ([]))] false, .box [i64 3, i64 0, .sl true (L cU8 ([])), .bs false 3 (l_3069.length) 0 (l_3069.length)] false, .buf 4 (L cApi_Value l_3069) false, .buf 4 (L cApi_Value (([v_3062.1] : List Api_Value))) false])]) trivial ⟨(wcon_call (PCon.to (codec_decoder_next_con hy_3074) rfl) [0] (by decide) (by simp only [go_sem, reduceIte, Nat.reduceLT, Nat.reduceEqDiff, Nat.reduceAdd, Nat.reduceBEq, Nat.reduceMul, Nat.reduceSub, Nat.reduceGT, Nat.reducePow, Nat.reduceLeDiff, Int.reduceToNat]) (by simp only [go_sem, reduceIte, Nat.reduceLT, Nat.reduceEqDiff, Nat.reduceAdd, Nat.reduceBEq, Nat.reduceMul, Nat.reduceSub, Nat.reduceGT, Nat.reducePow, Nat.reduceLeDiff, Int.reduceToNat]) (by simp only [go_sem, reduceIte, Nat.reduceLT, Nat.reduceEqDiff, Nat.reduceAdd, Nat.reduceBEq, Nat.reduceMul, Nat.reduceSub, Nat.reduceGT, Nat.reducePow, Nat.reduceLeDiff, Int.reduceToNat]) (by simp only [go_sem, reduceIte, Nat.reduceLT, Nat.reduceEqDiff, Nat.reduceAdd, Nat.reduceBEq, Nat.reduceMul, Nat.reduceSub, Nat.reduceGT, Nat.reducePow, Nat.reduceLeDiff, Int.reduceToNat]) (by simp only [go_sem, reduceIte, Nat.reduceLT, Nat.reduceEqDiff, Nat.reduceAdd, Nat.reduceBEq, Nat.reduceMul, Nat.reduceSub, Nat.reduceGT, Nat.reducePow, Nat.reduceLeDiff, Int.reduceToNat])), trivial⟩, ?_⟩ ?_
                · simp only [go_sem, reduceIte, Nat.reduceLT, Nat.reduceEqDiff, Nat.reduceAdd, Nat.reduceBEq, Nat.reduceMul, Nat.reduceSub, Nat.reduceGT, Nat.reducePow, Nat.reduceLeDiff, Int.reduceToNat]
                obtain rfl := Option.some.inj h
                exact lpK_n ((v_3072.1, v_3072.2.b, l_3069)) rfl (weak_sel [0, 1, 2, 3] (by decide) rfl (by simp only [go_sem, reduceIte, Nat.reduceLT, Nat.reduceEqDiff, Nat.reduceAdd, Nat.reduceBEq, Nat.reduceMul, Nat.reduceSub, Nat.reduceGT, Nat.reducePow, Nat.reduceLeDiff, Int.reduceToNat]) (by simp only [go_sem, reduceIte, Nat.reduceLT, Nat.reduceEqDiff, Nat.reduceAdd, Nat.reduceBEq, Nat.reduceMul, Nat.reduceSub, Nat.reduceGT, Nat.reducePow, Nat.reduceLeDiff, Int.reduceToNat]))
              · replace h := ite_f h hb
                refine run_exit ?_
                refine thenK_x ?_
                obtain rfl := Option.some.inj h
                have ex_x_3056 := hxx_3060 _ rfl
                subst ex_x_3056
                have h := hj_3058; clear hj_3058
                refine lpK_x ?_
                refine blockK_x ?_
                obtain rfl := Option.some.inj h
                exact joinK_n ((f_3035, l_3036)) rfl ((weak_sel (l' := [(4, .ref 1 0), (5, .ref 2 0)]) (σ' := [.box [.sl false (L cU8 f_3035)] false, .box [i64 0, i64 0, .sl true (L cU8 ([])), .sl true (L cApi_Value ([]))] false, .box [i64 3, i64 0, .sl true (L cU8 ([])), .bs false 3 (l_3036.length) 0 (l_3036.length)] false, .buf 4 (L cApi_Value l_3036) false]) [0, 1, 2, 3] (by decide) rfl (by simp only [go_sem, reduceIte, Nat.reduceLT, Nat.reduceEqDiff, Nat.reduceAdd, Nat.reduceBEq, Nat.reduceMul, Nat.reduceSub, Nat.reduceGT, Nat.reducePow, Nat.reduceLeDiff, Int.reduceToNat]) (by simp only [go_sem, reduceIte, Nat.reduceLT, Nat.reduceEqDiff, Nat.reduceAdd, Nat.reduceBEq, Nat.reduceMul, Nat.reduceSub, Nat.reduceGT, Nat.reducePow, Nat.reduceLeDiff, Int.reduceToNat])).trans (weak_sel [0, 1, 2, 3] (by decide) rfl (by simp only [go_sem, reduceIte, Nat.reduceLT, Nat.reduceEqDiff, Nat.reduceAdd, Nat.reduceBEq, Nat.reduceMul, Nat.reduceSub, Nat.reduceGT, Nat.reducePow, Nat.reduceLeDiff, Int.reduceToNat]) (by simp only [go_sem, reduceIte, Nat.reduceLT, Nat.reduceEqDiff, Nat.reduceAdd, Nat.reduceBEq, Nat.reduceMul, Nat.reduceSub, Nat.reduceGT, Nat.reducePow, Nat.reduceLeDiff, Int.reduceToNat])))
            rintro ⟨f_3006, l_3007⟩ rfl
            have h := hj_3010; clear hj_3010
            refine run_textE hE [4] (fr' := [(4, .ref 1 0)]) (σ' := [.box [.sl false (L cU8 f_3006)] false, .box [i64 3, i64 0, .sl true (L cU8 ([])), .bs false 3 (l_3007.length) 0 (l_3007.length)] false, .box [i64 3, i64 0, .sl true (L cU8 ([])), .bs false 3 (l_3007.length) 0 (l_3007.length)] false, .buf 4 (L cApi_Value l_3007) false]) ⟨_, orcs_nil, ?_⟩ ?_
            · simp only [go_sem, reduceIte, Nat.reduceLT, Nat.reduceEqDiff, Nat.reduceAdd, Nat.reduceBEq, Nat.reduceMul, Nat.reduceSub, Nat.reduceGT, Nat.reducePow, Nat.reduceLeDiff, Int.reduceToNat]
            refine run_ret ?_
            refine blockK_r ?_
            refine joinK_r ?_
            replace h := bind_some1 h; obtain ⟨z_3078, h, e_z_3078⟩ := h
            obtain rfl := Option.some.inj e_z_3078
            obtain rfl := Option.some.inj hj_2914
            obtain rfl := Option.some.inj h
            refine retP_fz rfl (ret_fz (.inr rfl) ?_ rfl ?_)
            · simp only [go_sem, reduceIte, Nat.reduceLT, Nat.reduceEqDiff, Nat.reduceAdd, Nat.reduceBEq, Nat.reduceMul, Nat.reduceSub, Nat.reduceGT, Nat.reducePow, Nat.reduceLeDiff, Int.reduceToNat]
            · show stUp [0] _ [0] _; simp only [go_sem, reduceIte, Nat.reduceLT, Nat.reduceEqDiff, Nat.reduceAdd, Nat.reduceBEq, Nat.reduceMul, Nat.reduceSub, Nat.reduceGT, Nat.reducePow, Nat.reduceLeDiff, Int.reduceToNat]
          · replace h := ite_f h hb
            refine run_skip ?_
            refine blockK_n ?_
            obtain rfl := Option.some.inj h
            exact joinK_n (()) rfl (weak_sel [0, 1] (by decide) rfl (by simp only [go_sem, reduceIte, Nat.reduceLT, Nat.reduceEqDiff, Nat.reduceAdd, Nat.reduceBEq, Nat.reduceMul, Nat.reduceSub, Nat.reduceGT, Nat.reducePow, Nat.reduceLeDiff, Int.reduceToNat]) (by simp only [go_sem, reduceIte, Nat.reduceLT, Nat.reduceEqDiff, Nat.reduceAdd, Nat.reduceBEq, Nat.reduceMul, Nat.reduceSub, Nat.reduceGT, Nat.reducePow, Nat.reduceLeDiff, Int.reduceToNat]))
  rintro ⟨⟩ rfl
  have h := hj_2914; clear hj_2914
  refine run_panT0 hE [] 1 _ (v := .iface 57 (.int .i64 4)) (σ2 := [.box [.sl false (L cU8 d_2746.b)] false, .box [i64 0, i64 0, .sl true (L cU8 ([])), .sl true (L cApi_Value ([]))] false]) (vals := []) rfl rfl ⟨_, [], orcs_nil, trivial, ?_⟩ (fun fr_ hlen_ hfr_ => ?_)
  · simp only [go_sem, reduceIte, Nat.reduceLT, Nat.reduceEqDiff, Nat.reduceAdd, Nat.reduceBEq, Nat.reduceMul, Nat.reduceSub, Nat.reduceGT, Nat.reducePow, Nat.reduceLeDiff, Int.reduceToNat]
  obtain rfl := Option.some.inj h
  refine retP_pan rfl [0] (by decide) rfl ?_
  simp only [go_sem, reduceIte, Nat.reduceLT, Nat.reduceEqDiff, Nat.reduceAdd, Nat.reduceBEq, Nat.reduceMul, Nat.reduceSub, Nat.reduceGT, Nat.reducePow, Nat.reduceLeDiff, Int.reduceToNat]
theorem codec_decoder_value_n_con (n : Nat) : ∀ {d_2746 : Codec_decoder} {t_2747 : UInt8} {r : (Api_Value × Codec_decoder) ⊕ (Int × Codec_decoder)}, codec_decoder_value_n n d_2746 t_2747 = some r → PCon B 42 [.ref 0 0, u8 t_2747] [.box [.sl false (L cU8 d_2746.b)] false] (codec_decoder_value_out r) := by
  induction n with
  | zero => intro d_2746 t_2747 r h; cases h
  | succ n ih => intro d_2746 t_2747 r h; exact codec_decoder_value_F_con ih h
theorem codec_decoder_value_con {d_2746 : Codec_decoder} {t_2747 : UInt8} {r : (Api_Value × Codec_decoder) ⊕ (Int × Codec_decoder)} (h : codec_decoder_value d_2746 t_2747 = some r) : PCon B 42 [.ref 0 0, u8 t_2747] [.box [.sl false (L cU8 d_2746.b)] false] (codec_decoder_value_out r) := codec_decoder_value_n_con _ h

end Go.Proofs.Ytihncddenjbecaa
/-
  The functions compute just that.
-/
namespace Go.Proofs.Ytihncddenjbecaa
open Go.Rv
set_option linter.unusedVariables false
set_option linter.unusedSimpArgs false
set_option maxRecDepth 20000

theorem codec_Decode_1_pan {a0 : AV} {a1 : AV} {a2 : AV} {a3 : AV} {b0 : AV} {x_ : Int} : DCon B 41 (refsTo 2) [.box [a0, a1, a2, a3] false, .box [b0] false] (.panicking (one1 (.iface 57 (.int .i64 x_)))) (.panicking [{ v := (.iface 57 (.int .i64 x_)), recovered := true }]) [.box [i64 0, i64 0, .sl true (L cU8 ([])), .sl true (L cApi_Value ([]))] false, .box [i64 x_] false] := by
  intro F w g vs hm ha
  have hE := ok.env F
  obtain ⟨vs⟩ := vs
  match vs, ha with
  | [p_, q_], ⟨hp, hq, _⟩ =>
    refine callsD_of_wpS Try.func41 rfl fun c₀ cs hu => ?_
    refine wpS_seq (wpS_region ?_)
    show wpOpsS B.P _ _ [0, 1, 2, 3, 4, 5, 6] _ _ _
    refine opsS_caught _ (.iface 57 (.int .i64 x_)) [] ⟨#[p_, q_, undef, undef, undef, (.iface 57 (.int .i64 x_)), undef, undef, undef, undef, undef, undef], []⟩ rfl rfl rfl hu rfl ?_
    refine opsS_val (w' := w) _ (.tuple #[.int .i64 x_, .bool true]) ⟨#[p_, q_, undef, undef, undef, (.iface 57 (.int .i64 x_)), (.tuple #[.int .i64 x_, .bool true]), undef, undef, undef, undef, undef], []⟩ rfl rfl ?_ rfl ?_
    · show ((Instr.typeAssert (.iface 57 (.int .i64 x_)) 20 57 true).run B.P w).andThen (fun v w => Result.ok (Next.value v) w) = _
      have h2 : (Instr.typeAssert (.iface 57 (.int .i64 x_)) 20 57 true).run B.P w = _ := run_assert_hit hE (tb57 F) (.int .i64 x_) 20 w
      rw [h2]; rfl
    refine opsS_val (w' := w) _ (.tuple #[.int .i64 x_, .bool true]) ⟨#[p_, q_, undef, undef, (.tuple #[.int .i64 x_, .bool true]), (.iface 57 (.int .i64 x_)), (.tuple #[.int .i64 x_, .bool true]), undef, undef, undef, undef, undef], []⟩ rfl rfl rfl rfl ?_
    refine opsS_val (w' := w) _ (.int .i64 x_) ⟨#[p_, q_, undef, undef, (.tuple #[.int .i64 x_, .bool true]), (.iface 57 (.int .i64 x_)), (.tuple #[.int .i64 x_, .bool true]), (.int .i64 x_), undef, undef, undef, undef], []⟩ rfl rfl rfl rfl ?_
    refine opsS_val (w' := w) _ (.bool true) ⟨#[p_, q_, undef, undef, (.tuple #[.int .i64 x_, .bool true]), (.iface 57 (.int .i64 x_)), (.tuple #[.int .i64 x_, .bool true]), (.int .i64 x_), (.bool true), undef, undef, undef], []⟩ rfl rfl rfl rfl ?_
    refine opsS_val (w' := w) _ (.int .i64 x_) ⟨#[p_, q_, (.int .i64 x_), undef, (.tuple #[.int .i64 x_, .bool true]), (.iface 57 (.int .i64 x_)), (.tuple #[.int .i64 x_, .bool true]), (.int .i64 x_), (.bool true), undef, undef, undef], []⟩ rfl rfl rfl rfl ?_
    refine opsS_val (w' := w) _ (.bool true) ⟨#[p_, q_, (.int .i64 x_), (.bool true), (.tuple #[.int .i64 x_, .bool true]), (.iface 57 (.int .i64 x_)), (.tuple #[.int .i64 x_, .bool true]), (.int .i64 x_), (.bool true), undef, undef, undef], []⟩ rfl rfl rfl rfl ?_
    refine opsS_nil ?_
    refine dcon_rest (B := B) (F := F) (g := g) (w := w) (fn := Try.f41) (c₀ := c₀) (a := ⟨#[p_, q_, (.int .i64 x_), (.bool true), (.tuple #[.int .i64 x_, .bool true]), (.iface 57 (.int .i64 x_)), (.tuple #[.int .i64 x_, .bool true]), (.int .i64 x_), (.bool true), undef, undef, undef], []⟩) (n := 2) (N := 12) (l := [(0, .ref 0 0), (1, .ref 1 0), (2, i64 x_), (3, .bool true)]) rfl rfl rfl rfl hm ?_ ?_
    · intro p h
      simp only [List.mem_cons, List.not_mem_nil, or_false] at h
      rcases h with rfl | rfl | rfl | rfl
      · exact hp
      · exact hq
      · exact .int _ _ _
      · exact .bool _ _
    · refine run_textE hE [0, 1, 2, 3, 9] (fr' := [(0, .ref 0 0), (1, .ref 1 0), (2, i64 x_), (3, .bool true), (9, .bool true)]) (σ' := [.box [a0, a1, a2, a3] false, .box [b0] false]) ⟨_, orcs_nil, by simp only [go_sem, reduceIte, Nat.reduceLT, Nat.reduceEqDiff, Nat.reduceAdd, Nat.reduceBEq, Nat.reduceMul, Nat.reduceSub, Nat.reduceGT, Nat.reducePow, Nat.reduceLeDiff, Int.reduceToNat]⟩ ?_
      refine run_condL (b := true) rfl (by decide) (fun hb => ?_) (fun hb => ?_)
      · refine run_textK hE [] (fr' := []) (σ' := [.box [i64 0, i64 0, .sl true (L cU8 ([])), .sl true (L cApi_Value ([]))] false, .box [i64 x_] false]) ⟨_, orcs_nil, by simp only [go_sem, reduceIte, Nat.reduceLT, Nat.reduceEqDiff, Nat.reduceAdd, Nat.reduceBEq, Nat.reduceMul, Nat.reduceSub, Nat.reduceGT, Nat.reducePow, Nat.reduceLeDiff, Int.reduceToNat]⟩ (fun _ => ⟨rfl, rfl⟩)
      · cases hb
theorem codec_Decode_1_idle {a0 : AV} {a1 : AV} {a2 : AV} {a3 : AV} {b0 : AV} : DCon B 41 (refsTo 2) [.box [a0, a1, a2, a3] false, .box [b0] false] .returning .returning [.box [a0, a1, a2, a3] false, .box [b0] false] := by
  intro F w g vs hm ha
  have hE := ok.env F
  obtain ⟨vs⟩ := vs
  match vs, ha with
  | [p_, q_], ⟨hp, hq, _⟩ =>
    refine callsD_of_wpS Try.func41 rfl fun c₀ cs hu => ?_
    refine wpS_seq (wpS_region ?_)
    show wpOpsS B.P _ _ [0, 1, 2, 3, 4, 5, 6] _ _ _
    obtain ⟨u_, hu_⟩ := run_assert_nil hE (tb57 F) 20 w
    refine opsS_idle _ ⟨#[p_, q_, undef, undef, undef, .nilIface, undef, undef, undef, undef, undef, undef], []⟩ rfl rfl rfl hu rfl ?_
    refine opsS_val (w' := w) _ (.tuple #[u_, .bool false]) ⟨#[p_, q_, undef, undef, undef, .nilIface, (.tuple #[u_, .bool false]), undef, undef, undef, undef, undef], []⟩ rfl rfl ?_ rfl ?_
    · show ((Instr.typeAssert .nilIface 20 57 true).run B.P w).andThen (fun v w => Result.ok (Next.value v) w) = _
      have h2 : (Instr.typeAssert .nilIface 20 57 true).run B.P w = _ := hu_
      rw [h2]; rfl
    refine opsS_val (w' := w) _ (.tuple #[u_, .bool false]) ⟨#[p_, q_, undef, undef, (.tuple #[u_, .bool false]), .nilIface, (.tuple #[u_, .bool false]), undef, undef, undef, undef, undef], []⟩ rfl rfl rfl rfl ?_
    refine opsS_val (w' := w) _ u_ ⟨#[p_, q_, undef, undef, (.tuple #[u_, .bool false]), .nilIface, (.tuple #[u_, .bool false]), u_, undef, undef, undef, undef], []⟩ rfl rfl rfl rfl ?_
    refine opsS_val (w' := w) _ (.bool false) ⟨#[p_, q_, undef, undef, (.tuple #[u_, .bool false]), .nilIface, (.tuple #[u_, .bool false]), u_, (.bool false), undef, undef, undef], []⟩ rfl rfl rfl rfl ?_
    refine opsS_val (w' := w) _ u_ ⟨#[p_, q_, u_, undef, (.tuple #[u_, .bool false]), .nilIface, (.tuple #[u_, .bool false]), u_, (.bool false), undef, undef, undef], []⟩ rfl rfl rfl rfl ?_
    refine opsS_val (w' := w) _ (.bool false) ⟨#[p_, q_, u_, (.bool false), (.tuple #[u_, .bool false]), .nilIface, (.tuple #[u_, .bool false]), u_, (.bool false), undef, undef, undef], []⟩ rfl rfl rfl rfl ?_
    refine opsS_nil ?_
    refine dcon_rest (B := B) (F := F) (g := g) (w := w) (fn := Try.f41) (c₀ := c₀) (a := ⟨#[p_, q_, u_, (.bool false), (.tuple #[u_, .bool false]), .nilIface, (.tuple #[u_, .bool false]), u_, (.bool false), undef, undef, undef], []⟩) (n := 2) (N := 12) (l := [(0, .ref 0 0), (1, .ref 1 0), (3, .bool false)]) rfl rfl rfl rfl hm ?_ ?_
    · intro p h
      simp only [List.mem_cons, List.not_mem_nil, or_false] at h
      rcases h with rfl | rfl | rfl
      · exact hp
      · exact hq
      · exact .bool _ _
    · refine run_textE hE [0, 1, 3, 9] (fr' := [(0, .ref 0 0), (1, .ref 1 0), (3, .bool false), (9, .bool false)]) (σ' := [.box [a0, a1, a2, a3] false, .box [b0] false]) ⟨_, orcs_nil, by simp only [go_sem, reduceIte, Nat.reduceLT, Nat.reduceEqDiff, Nat.reduceAdd, Nat.reduceBEq, Nat.reduceMul, Nat.reduceSub, Nat.reduceGT, Nat.reducePow, Nat.reduceLeDiff, Int.reduceToNat]⟩ ?_
      refine run_condL (b := false) rfl (by decide) (fun hb => ?_) (fun hb => ?_)
      · cases hb
      · exact run_skip ⟨rfl, rfl⟩
theorem codec_Decode_con {b_3079 : List UInt8} {r : Api_Value × Int} (h : codec_Decode b_3079 = some r) : Con B 21 [.sl false (L cU8 b_3079)] [] (fun r' σ' => r' = .tup [.agg [i64 r.1.Kind, i64 r.1.N, .sl false (L cU8 r.1.B), .sl false (L cApi_Value r.1.L)], i64 r.2] ∧ σ' = []) := by
  refine con_defer (cf := 41) (rs := [.cell 2 25, .cell 3 27]) (N := 35) (t7 := 7) (m := 2) (rfr := [(2, .ref 0 0), (3, .ref 1 0)]) (fr1 := [(3, .ref 1 0), (2, .ref 0 0), (0, .sl false (L cU8 b_3079))]) (σ1 := [.box [i64 0, i64 0, .sl true (L cU8 ([])), .sl true (L cApi_Value ([]))] false, .box [i64 0] false]) ok Try.func21 rfl (by decide +kernel) rfl rfl (Nat.le_of_ble_eq_true rfl) rfl rfl rfl rfl rfl rfl (by decide) (fun F => ?_) rfl ?_ rfl Try.func41 rfl (by decide +kernel) (fun F D => ?_)
  · have hE := ok.env F; refine (stepsO_eq _ _).symm.trans ?_; simp only [go_sem, reduceIte, Nat.reduceLT, Nat.reduceEqDiff, Nat.reduceAdd, Nat.reduceBEq, Nat.reduceMul, Nat.reduceSub, Nat.reduceGT, Nat.reducePow, Nat.reduceLeDiff, Int.reduceToNat]; rfl
  · simp only [go_sem, reduceIte, Nat.reduceLT, Nat.reduceEqDiff, Nat.reduceAdd, Nat.reduceBEq, Nat.reduceMul, Nat.reduceSub, Nat.reduceGT, Nat.reducePow, Nat.reduceLeDiff, Int.reduceToNat]; rfl
  have hE : ({ B.env F with D := D } : Env).Ok := ⟨(ok.env F).desc, (ok.env F).info⟩
  unfold codec_Decode at h
  refine run_weak (weak_keep _ _ [0, 2, 3] _ _) ?_
  show Run _ 2 _ ⟨asFr 35 [(0, .sl false (L cU8 b_3079)), (2, .ref 0 0), (3, .ref 1 0)], [.box [i64 0, i64 0, .sl true (L cU8 ([])), .sl true (L cApi_Value ([]))] false, .box [i64 0] false]⟩ _
  refine run_seq ?_
  refine run_textE hE [0, 2, 3, 10] (fr' := [(0, .sl false (L cU8 b_3079)), (2, .ref 0 0), (3, .ref 1 0), (10, .bool ((decide ((b_3079.length : Int) > 65536))))]) (σ' := [.box [i64 0, i64 0, .sl true (L cU8 ([])), .sl true (L cApi_Value ([]))] false, .box [i64 0] false]) ⟨_, orcs_nil, ?_⟩ ?_
  · simp only [go_sem, reduceIte, Nat.reduceLT, Nat.reduceEqDiff, Nat.reduceAdd, Nat.reduceBEq, Nat.reduceMul, Nat.reduceSub, Nat.reduceGT, Nat.reducePow, Nat.reduceLeDiff, Int.reduceToNat]
  refine run_condL (b := (decide ((b_3079.length : Int) > 65536))) rfl (by decide) (fun hb => ?_) (fun hb => ?_)
  · replace h := ite_t h hb
    refine run_textE hE [2, 3] (fr' := [(2, .ref 0 0), (3, .ref 1 0)]) (σ' := [.box [i64 0, i64 0, .sl true (L cU8 ([])), .sl true (L cApi_Value ([]))] false, .box [i64 2] false]) ⟨_, orcs_nil, ?_⟩ ?_
    · simp only [go_sem, reduceIte, Nat.reduceLT, Nat.reduceEqDiff, Nat.reduceAdd, Nat.reduceBEq, Nat.reduceMul, Nat.reduceSub, Nat.reduceGT, Nat.reducePow, Nat.reduceLeDiff, Int.reduceToNat]
    refine run_ret ?_
    refine thenK_r ?_
    obtain rfl := Option.some.inj h
    refine ⟨_, [.box [i64 0, i64 0, .sl false (L cU8 ([])), .sl false (L cApi_Value ([]))] false, .box [i64 2] false], _, [.box [i64 0, i64 0, .sl false (L cU8 ([])), .sl false (L cApi_Value ([]))] false, .box [i64 2] false], [.agg [i64 0, i64 0, .sl false (L cU8 ([])), .sl false (L cApi_Value ([]))], i64 2], asFr_len _ _, .inl ⟨.inr rfl, rfl⟩, ?_, codec_Decode_1_idle, rfl, ?_, resD ?_, ?_⟩
    · show stUp [0, 1] _ [0, 1] _; simp only [go_sem, reduceIte, Nat.reduceLT, Nat.reduceEqDiff, Nat.reduceAdd, Nat.reduceBEq, Nat.reduceMul, Nat.reduceSub, Nat.reduceGT, Nat.reducePow, Nat.reduceLeDiff, Int.reduceToNat]
    · simp only [go_sem, reduceIte, Nat.reduceLT, Nat.reduceEqDiff, Nat.reduceAdd, Nat.reduceBEq, Nat.reduceMul, Nat.reduceSub, Nat.reduceGT, Nat.reducePow, Nat.reduceLeDiff, Int.reduceToNat]
    · simp only [go_sem, reduceIte, Nat.reduceLT, Nat.reduceEqDiff, Nat.reduceAdd, Nat.reduceBEq, Nat.reduceMul, Nat.reduceSub, Nat.reduceGT, Nat.reducePow, Nat.reduceLeDiff, Int.reduceToNat]
    · simp only [go_sem, reduceIte, Nat.reduceLT, Nat.reduceEqDiff, Nat.reduceAdd, Nat.reduceBEq, Nat.reduceMul, Nat.reduceSub, Nat.reduceGT, Nat.reducePow, Nat.reduceLeDiff, Int.reduceToNat]
  · replace h := ite_f h hb
    refine run_skip ?_
    refine thenK_n ?_
    refine run_textE hE [2, 3, 4] (fr' := [(2, .ref 0 0), (3, .ref 1 0), (4, .ref 2 0)]) (σ' := [.box [i64 0, i64 0, .sl true (L cU8 ([])), .sl true (L cApi_Value ([]))] false, .box [i64 0] false, .box [.sl false (L cU8 b_3079)] false]) ⟨_, orcs_nil, ?_⟩ ?_
    · simp only [go_sem, reduceIte, Nat.reduceLT, Nat.reduceEqDiff, Nat.reduceAdd, Nat.reduceBEq, Nat.reduceMul, Nat.reduceSub, Nat.reduceGT, Nat.reducePow, Nat.reduceLeDiff, Int.reduceToNat]
    replace h := bind_some1 h; obtain ⟨y_3080, hy_3086, h⟩ := h
    rcases y_3080 with v_3081 | v_3085
    rotate_left
    · dsimp only at h
      refine run_panT hE [2, 3] 2 _ (v := .iface 57 (.int .i64 v_3085.1)) (σ2 := [.box [i64 0, i64 0, .sl true (L cU8 ([])), .sl true (L cApi_Value ([]))] false, .box [i64 0] false, .box [.sl false (L cU8 v_3085.2.b)] false]) (vals := [.ref 0 0, .ref 1 0]) rfl rfl ⟨_, [(17, 43, [.ref 2 0], [.box [i64 0, i64 0, .sl true (L cU8 ([])), .sl true (L cApi_Value ([]))] false, .box [i64 0] false, .box [.sl false (L cU8 b_3079)] false], .val (.iface 57 (.int .i64 v_3085.1)), [.box [i64 0, i64 0, .sl true (L cU8 ([])), .sl true (L cApi_Value ([]))] false, .box [i64 0] false, .box [.sl false (L cU8 v_3085.2.b)] false])], orcs_nil, ⟨fun v hv => by cases hv; exact wpan_call (PCon.pan (codec_decoder_next_con hy_3086) rfl) [2] (by decide) (by simp only [go_sem, reduceIte, Nat.reduceLT, Nat.reduceEqDiff, Nat.reduceAdd, Nat.reduceBEq, Nat.reduceMul, Nat.reduceSub, Nat.reduceGT, Nat.reducePow, Nat.reduceLeDiff, Int.reduceToNat]) (by simp only [go_sem, reduceIte, Nat.reduceLT, Nat.reduceEqDiff, Nat.reduceAdd, Nat.reduceBEq, Nat.reduceMul, Nat.reduceSub, Nat.reduceGT, Nat.reducePow, Nat.reduceLeDiff, Int.reduceToNat]) (by simp only [go_sem, reduceIte, Nat.reduceLT, Nat.reduceEqDiff, Nat.reduceAdd, Nat.reduceBEq, Nat.reduceMul, Nat.reduceSub, Nat.reduceGT, Nat.reducePow, Nat.reduceLeDiff, Int.reduceToNat]) (by simp only [go_sem, reduceIte, Nat.reduceLT, Nat.reduceEqDiff, Nat.reduceAdd, Nat.reduceBEq, Nat.reduceMul, Nat.reduceSub, Nat.reduceGT, Nat.reducePow, Nat.reduceLeDiff, Int.reduceToNat]), trivial⟩, ?_⟩ (fun fr_ hlen_ hfr_ => ?_)
      · simp only [go_sem, reduceIte, Nat.reduceLT, Nat.reduceEqDiff, Nat.reduceAdd, Nat.reduceBEq, Nat.reduceMul, Nat.reduceSub, Nat.reduceGT, Nat.reducePow, Nat.reduceLeDiff, Int.reduceToNat]
      obtain rfl := Option.some.inj h
      refine ⟨_, [.box [i64 0, i64 0, .sl false (L cU8 ([])), .sl false (L cApi_Value ([]))] false, .box [i64 0] false], _, [.box [i64 0, i64 0, .sl true (L cU8 ([])), .sl true (L cApi_Value ([]))] false, .box [i64 v_3085.1] false], [.agg [i64 0, i64 0, .sl true (L cU8 ([])), .sl true (L cApi_Value ([]))], i64 v_3085.1], hlen_, .inr ⟨_, rfl, rfl⟩, ?_, codec_Decode_1_pan, rfl, ?_, resD ?_, ?_⟩
      · show stUp [0, 1] _ [0, 1] _; simp only [go_sem, reduceIte, Nat.reduceLT, Nat.reduceEqDiff, Nat.reduceAdd, Nat.reduceBEq, Nat.reduceMul, Nat.reduceSub, Nat.reduceGT, Nat.reducePow, Nat.reduceLeDiff, Int.reduceToNat]
      · simp only [List.map_cons, List.map_nil, List.cons.injEq] at hfr_; exact ⟨hfr_.1, hfr_.2.1, trivial⟩
      · simp only [go_sem, reduceIte, Nat.reduceLT, Nat.reduceEqDiff, Nat.reduceAdd, Nat.reduceBEq, Nat.reduceMul, Nat.reduceSub, Nat.reduceGT, Nat.reducePow, Nat.reduceLeDiff, Int.reduceToNat]
      · simp only [go_sem, reduceIte, Nat.reduceLT, Nat.reduceEqDiff, Nat.reduceAdd, Nat.reduceBEq, Nat.reduceMul, Nat.reduceSub, Nat.reduceGT, Nat.reducePow, Nat.reduceLeDiff, Int.reduceToNat]
    dsimp only at h
    replace h := bind_some1 h; obtain ⟨y_3082, hy_3087, h⟩ := h
    rcases y_3082 with v_3083 | v_3084
    rotate_left
    · dsimp only at h
      refine run_panT hE [2, 3] 3 _ (v := .iface 57 (.int .i64 v_3084.1)) (σ2 := [.box [i64 0, i64 0, .sl true (L cU8 ([])), .sl true (L cApi_Value ([]))] false, .box [i64 0] false, .box [.sl false (L cU8 v_3084.2.b)] false]) (vals := [.ref 0 0, .ref 1 0]) rfl rfl ⟨_, [(18, 42, [.ref 2 0, u8 v_3081.1], [.box [i64 0, i64 0, .sl true (L cU8 ([])), .sl true (L cApi_Value ([]))] false, .box [i64 0] false, .box [.sl false (L cU8 v_3081.2.b)] false], .val (.iface 57 (.int .i64 v_3084.1)), [.box [i64 0, i64 0, .sl true (L cU8 ([])), .sl true (L cApi_Value ([]))] false, .box [i64 0] false, .box [.sl false (L cU8 v_3084.2.b)] false])], orcs_ok2 (l := []) (m := [(17, 43, [.ref 2 0], [.box [i64 0, i64 0, .sl true (L cU8 ([])), .sl true (L cApi_Value ([]))] false, .box [i64 0] false, .box [.sl false (L cU8 b_3079)] false], u8 v_3081.1, [.box [i64 0, i64 0, .sl true (L cU8 ([])), .sl true (L cApi_Value ([]))] false, .box [i64 0] false, .box [.sl false (L cU8 v_3081.2.b)] false])]) trivial ⟨(wcon_call (PCon.to (codec_decoder_next_con hy_3086) rfl) [2] (by decide) (by simp only [go_sem, reduceIte, Nat.reduceLT, Nat.reduceEqDiff, Nat.reduceAdd, Nat.reduceBEq, Nat.reduceMul, Nat.reduceSub, Nat.reduceGT, Nat.reducePow, Nat.reduceLeDiff, Int.reduceToNat]) (by simp only [go_sem, reduceIte, Nat.reduceLT, Nat.reduceEqDiff, Nat.reduceAdd, Nat.reduceBEq, Nat.reduceMul, Nat.reduceSub, Nat.reduceGT, Nat.reducePow, Nat.reduceLeDiff, Int.reduceToNat]) (by simp only [go_sem, reduceIte, Nat.reduceLT, Nat.reduceEqDiff, Nat.reduceAdd, Nat.reduceBEq, Nat.reduceMul, Nat.reduceSub, Nat.reduceGT, Nat.reducePow, Nat.reduceLeDiff, Int.reduceToNat]) (by simp only [go_sem, reduceIte, Nat.reduceLT, Nat.reduceEqDiff, Nat.reduceAdd, Nat.reduceBEq, Nat.reduceMul, Nat.reduceSub, Nat.reduceGT, Nat.reducePow, Nat.reduceLeDiff, Int.reduceToNat]) (by simp only [go_sem, reduceIte, Nat.reduceLT, Nat.reduceEqDiff, Nat.reduceAdd, Nat.reduceBEq, Nat.reduceMul, Nat.reduceSub, Nat.reduceGT, Nat.reducePow, Nat.reduceLeDiff, Int.reduceToNat])), trivial⟩, ⟨fun v hv => by cases hv; exact wpan_call (PCon.pan (codec_decoder_value_con hy_3087) rfl) [2] (by decide) (by simp only [go_sem, reduceIte, Nat.reduceLT, Nat.reduceEqDiff, Nat.reduceAdd, Nat.reduceBEq, Nat.reduceMul, Nat.reduceSub, Nat.reduceGT, Nat.reducePow, Nat.reduceLeDiff, Int.reduceToNat]) (by simp only [go_sem, reduceIte, Nat.reduceLT, Nat.reduceEqDiff, Nat.reduceAdd, Nat.reduceBEq, Nat.reduceMul, Nat.reduceSub, Nat.reduceGT, Nat.reducePow, Nat.reduceLeDiff, Int.reduceToNat]) (by simp only [go_sem, reduceIte, Nat.reduceLT, Nat.reduceEqDiff, Nat.reduceAdd, Nat.reduceBEq, Nat.reduceMul, Nat.reduceSub, Nat.reduceGT, Nat.reducePow, Nat.reduceLeDiff, Int.reduceToNat]) (by simp only [go_sem, reduceIte, Nat.reduceLT, Nat.reduceEqDiff, Nat.reduceAdd, Nat.reduceBEq, Nat.reduceMul, Nat.reduceSub, Nat.reduceGT, Nat.reducePow, Nat.reduceLeDiff, Int.reduceToNat]), trivial⟩, ?_⟩ (fun fr_ hlen_ hfr_ => ?_)
      · simp only [go_sem, reduceIte, Nat.reduceLT, Nat.reduceEqDiff, Nat.reduceAdd, Nat.reduceBEq, Nat.reduceMul, Nat.reduceSub, Nat.reduceGT, Nat.reducePow, Nat.reduceLeDiff, Int.reduceToNat]
      obtain rfl := Option.some.inj h
      refine ⟨_, [.box [i64 0, i64 0, .sl false (L cU8 ([])), .sl false (L cApi_Value ([]))] false, .box [i64 0] false], _, [.box [i64 0, i64 0, .sl true (L cU8 ([])), .sl true (L cApi_Value ([]))] false, .box [i64 v_3084.1] false], [.agg [i64 0, i64 0, .sl true (L cU8 ([])), .sl true (L cApi_Value ([]))], i64 v_3084.1], hlen_, .inr ⟨_, rfl, rfl⟩, ?_, codec_Decode_1_pan, rfl, ?_, resD ?_, ?_⟩
      · show stUp [0, 1] _ [0, 1] _; simp only [go_sem, reduceIte, Nat.reduceLT, Nat.reduceEqDiff, Nat.reduceAdd, Nat.reduceBEq, Nat.reduceMul, Nat.reduceSub, Nat.reduceGT, Nat.reducePow, Nat.reduceLeDiff, Int.reduceToNat]
      · simp only [List.map_cons, List.map_nil, List.cons.injEq] at hfr_; exact ⟨hfr_.1, hfr_.2.1, trivial⟩
      · simp only [go_sem, reduceIte, Nat.reduceLT, Nat.reduceEqDiff, Nat.reduceAdd, Nat.reduceBEq, Nat.reduceMul, Nat.reduceSub, Nat.reduceGT, Nat.reducePow, Nat.reduceLeDiff, Int.reduceToNat]
      · simp only [go_sem, reduceIte, Nat.reduceLT, Nat.reduceEqDiff, Nat.reduceAdd, Nat.reduceBEq, Nat.reduceMul, Nat.reduceSub, Nat.reduceGT, Nat.reducePow, Nat.reduceLeDiff, Int.reduceToNat]
    dsimp only at h
    refine run_textE hE [2, 3, 4] (fr' := [(2, .ref 0 0), (3, .ref 1 0), (4, .ref 2 0)]) (σ' := [.box [i64 v_3083.1.Kind, i64 v_3083.1.N, .sl false (L cU8 v_3083.1.B), .sl false (L cApi_Value v_3083.1.L)] false, .box [i64 0] false, .box [.sl false (L cU8 v_3083.2.b)] false]) ⟨_, orcs_ok2 (l := []) (m := [(17, 43, [.ref 2 0], [.box [i64 0, i64 0, .sl true (L cU8 ([])), .sl true (L cApi_Value ([]))] false, .box [i64 0] false, .box [.sl false (L cU8 b_3079)] false], u8 v_3081.1, [.box [i64 0, i64 0, .sl true (L cU8 ([])), .sl true (L cApi_Value ([]))] false, .box [i64 0] false, .box [.sl false (L cU8 v_3081.2.b)] false]), (18, 42, [.ref 2 0, u8 v_3081.1], [.box [i64 0, i64 0, .sl true (L cU8 ([])), .sl true (L cApi_Value ([]))] false, .box [i64 0] false, .box [.sl false (L cU8 v_3081.2.b)] false], .agg [i64 v_3083.1.Kind, i64 v_3083.1.N, .sl false (L cU8 v_3083.1.B), .sl false (L cApi_Value v_3083.1.L)], [.box [i64 0, i64 0, .sl true (L cU8 ([])), .sl true (L cApi_Value ([]))] false, .box [i64 0] false, .box [.sl false (L cU8 v_3083.2.b)] false])]) trivial ⟨(wcon_call (PCon.to (codec_decoder_next_con hy_3086) rfl) [2] (by decide) (by simp only [go_sem, reduceIte, Nat.reduceLT, Nat.reduceEqDiff, Nat.reduceAdd, Nat.reduceBEq, Nat.reduceMul, Nat.reduceSub, Nat.reduceGT, Nat.reducePow, Nat.reduceLeDiff, Int.reduceToNat]) (by simp only [go_sem, reduceIte, Nat.reduceLT, Nat.reduceEqDiff, Nat.reduceAdd, Nat.reduceBEq, Nat.reduceMul, Nat.reduceSub, Nat.reduceGT, Nat.reducePow, Nat.reduceLeDiff, Int.reduceToNat]) (by simp only [go_sem, reduceIte, Nat.reduceLT, Nat.reduceEqDiff, Nat.reduceAdd, Nat.reduceBEq, Nat.reduceMul, Nat.reduceSub, Nat.reduceGT, Nat.reducePow, Nat.reduceLeDiff, Int.reduceToNat]) (by simp only [go_sem, reduceIte, Nat.reduceLT, Nat.reduceEqDiff, Nat.reduceAdd, Nat.reduceBEq, Nat.reduceMul, Nat.reduceSub, Nat.reduceGT, Nat.reducePow, Nat.reduceLeDiff, Int.reduceToNat]) (by simp only [go_sem, reduceIte, Nat.reduceLT, Nat.reduceEqDiff, Nat.reduceAdd, Nat.reduceBEq, Nat.reduceMul, Nat.reduceSub, Nat.reduceGT, Nat.reducePow, Nat.reduceLeDiff, Int.reduceToNat])), (wcon_call (PCon.to (codec_decoder_value_con hy_3087) rfl) [2] (by decide) (by simp only [go_sem, reduceIte, Nat.reduceLT, Nat.reduceEqDiff, Nat.reduceAdd, Nat.reduceBEq, Nat.reduceMul, Nat.reduceSub, Nat.reduceGT, Nat.reducePow, Nat.reduceLeDiff, Int.reduceToNat]) (by simp only [go_sem, reduceIte, Nat.reduceLT, Nat.reduceEqDiff, Nat.reduceAdd, Nat.reduceBEq, Nat.reduceMul, Nat.reduceSub, Nat.reduceGT, Nat.reducePow, Nat.reduceLeDiff, Int.reduceToNat]) (by simp only [go_sem, reduceIte, Nat.reduceLT, Nat.reduceEqDiff, Nat.reduceAdd, Nat.reduceBEq, Nat.reduceMul, Nat.reduceSub, Nat.reduceGT, Nat.reducePow, Nat.reduceLeDiff, Int.reduceToNat]) (by simp only [go_sem, reduceIte, Nat.reduceLT, Nat.reduceEqDiff, Nat.reduceAdd, Nat.reduceBEq, Nat.reduceMul, Nat.reduceSub, Nat.reduceGT, Nat.reducePow, Nat.reduceLeDiff, Int.reduceToNat]) (by simp only [go_sem, reduceIte, Nat.reduceLT, Nat.reduceEqDiff, Nat.reduceAdd, Nat.reduceBEq, Nat.reduceMul, Nat.reduceSub, Nat.reduceGT, Nat.reducePow, Nat.reduceLeDiff, Int.reduceToNat])), trivial⟩, ?_⟩ ?_
    · simp only [go_sem, reduceIte, Nat.reduceLT, Nat.reduceEqDiff, Nat.reduceAdd, Nat.reduceBEq, Nat.reduceMul, Nat.reduceSub, Nat.reduceGT, Nat.reducePow, Nat.reduceLeDiff, Int.reduceToNat]
    refine run_seq ?_
    refine run_textE hE [2, 3, 24] (fr' := [(2, .ref 0 0), (3, .ref 1 0), (24, .bool ((decide ((v_3083.2.b.length : Int) > 0))))]) (σ' := [.box [i64 v_3083.1.Kind, i64 v_3083.1.N, .sl false (L cU8 v_3083.1.B), .sl false (L cApi_Value v_3083.1.L)] false, .box [i64 0] false, .box [.sl false (L cU8 v_3083.2.b)] false]) ⟨_, orcs_nil, ?_⟩ ?_
    · simp only [go_sem, reduceIte, Nat.reduceLT, Nat.reduceEqDiff, Nat.reduceAdd, Nat.reduceBEq, Nat.reduceMul, Nat.reduceSub, Nat.reduceGT, Nat.reducePow, Nat.reduceLeDiff, Int.reduceToNat]
    refine run_condL (b := (decide ((v_3083.2.b.length : Int) > 0))) rfl (by decide) (fun hb => ?_) (fun hb => ?_)
    · replace h := ite_t h hb
      refine run_textE hE [2, 3] (fr' := [(2, .ref 0 0), (3, .ref 1 0)]) (σ' := [.box [i64 0, i64 0, .sl true (L cU8 ([])), .sl true (L cApi_Value ([]))] false, .box [i64 4] false, .box [.sl false (L cU8 v_3083.2.b)] false]) ⟨_, orcs_nil, ?_⟩ ?_
      · simp only [go_sem, reduceIte, Nat.reduceLT, Nat.reduceEqDiff, Nat.reduceAdd, Nat.reduceBEq, Nat.reduceMul, Nat.reduceSub, Nat.reduceGT, Nat.reducePow, Nat.reduceLeDiff, Int.reduceToNat]
      refine run_ret ?_
      refine thenK_r ?_
      obtain rfl := Option.some.inj h
      refine ⟨_, [.box [i64 0, i64 0, .sl false (L cU8 ([])), .sl false (L cApi_Value ([]))] false, .box [i64 4] false], _, [.box [i64 0, i64 0, .sl false (L cU8 ([])), .sl false (L cApi_Value ([]))] false, .box [i64 4] false], [.agg [i64 0, i64 0, .sl false (L cU8 ([])), .sl false (L cApi_Value ([]))], i64 4], asFr_len _ _, .inl ⟨.inr rfl, rfl⟩, ?_, codec_Decode_1_idle, rfl, ?_, resD ?_, ?_⟩
      · show stUp [0, 1] _ [0, 1] _; simp only [go_sem, reduceIte, Nat.reduceLT, Nat.reduceEqDiff, Nat.reduceAdd, Nat.reduceBEq, Nat.reduceMul, Nat.reduceSub, Nat.reduceGT, Nat.reducePow, Nat.reduceLeDiff, Int.reduceToNat]
      · simp only [go_sem, reduceIte, Nat.reduceLT, Nat.reduceEqDiff, Nat.reduceAdd, Nat.reduceBEq, Nat.reduceMul, Nat.reduceSub, Nat.reduceGT, Nat.reducePow, Nat.reduceLeDiff, Int.reduceToNat]
      · simp only [go_sem, reduceIte, Nat.reduceLT, Nat.reduceEqDiff, Nat.reduceAdd, Nat.reduceBEq, Nat.reduceMul, Nat.reduceSub, Nat.reduceGT, Nat.reducePow, Nat.reduceLeDiff, Int.reduceToNat]
      · simp only [go_sem, reduceIte, Nat.reduceLT, Nat.reduceEqDiff, Nat.reduceAdd, Nat.reduceBEq, Nat.reduceMul, Nat.reduceSub, Nat.reduceGT, Nat.reducePow, Nat.reduceLeDiff, Int.reduceToNat]
    · replace h := ite_f h hb
      refine run_skip ?_
      refine thenK_n ?_
      refine run_seq ?_
      replace h := bind_some1 h; obtain ⟨y_3088, hy_3089, h⟩ := h
      refine run_textE hE [2, 3, 5] (fr' := [(2, .ref 0 0), (3, .ref 1 0), (5, i64 y_3088.1)]) (σ' := [.box [i64 v_3083.1.Kind, i64 v_3083.1.N, .sl false (L cU8 v_3083.1.B), .sl false (L cApi_Value v_3083.1.L)] false, .box [i64 0] false, .box [.sl false (L cU8 v_3083.2.b)] false]) ⟨_, orcs_ok (l := [(28, 34, [.agg [i64 v_3083.1.Kind, i64 v_3083.1.N, .sl false (L cU8 v_3083.1.B), .sl false (L cApi_Value v_3083.1.L)]], .tup [i64 y_3088.1, .bool y_3088.2])]) ⟨codec_shape_con  hy_3089, trivial⟩, ?_⟩ ?_
      · simp only [go_sem, reduceIte, Nat.reduceLT, Nat.reduceEqDiff, Nat.reduceAdd, Nat.reduceBEq, Nat.reduceMul, Nat.reduceSub, Nat.reduceGT, Nat.reducePow, Nat.reduceLeDiff, Int.reduceToNat]
      refine run_textE hE [2, 3, 32] (fr' := [(2, .ref 0 0), (3, .ref 1 0), (32, .bool ((decide (y_3088.1 > 16))))]) (σ' := [.box [i64 v_3083.1.Kind, i64 v_3083.1.N, .sl false (L cU8 v_3083.1.B), .sl false (L cApi_Value v_3083.1.L)] false, .box [i64 0] false, .box [.sl false (L cU8 v_3083.2.b)] false]) ⟨_, orcs_nil, ?_⟩ ?_
      · simp only [go_sem, reduceIte, Nat.reduceLT, Nat.reduceEqDiff, Nat.reduceAdd, Nat.reduceBEq, Nat.reduceMul, Nat.reduceSub, Nat.reduceGT, Nat.reducePow, Nat.reduceLeDiff, Int.reduceToNat]
      refine run_condL (b := (decide (y_3088.1 > 16))) rfl (by decide) (fun hb => ?_) (fun hb => ?_)
      · replace h := ite_t h hb
        refine run_textE hE [2, 3] (fr' := [(2, .ref 0 0), (3, .ref 1 0)]) (σ' := [.box [i64 0, i64 0, .sl true (L cU8 ([])), .sl true (L cApi_Value ([]))] false, .box [i64 2] false, .box [.sl false (L cU8 v_3083.2.b)] false]) ⟨_, orcs_nil, ?_⟩ ?_
        · simp only [go_sem, reduceIte, Nat.reduceLT, Nat.reduceEqDiff, Nat.reduceAdd, Nat.reduceBEq, Nat.reduceMul, Nat.reduceSub, Nat.reduceGT, Nat.reducePow, Nat.reduceLeDiff, Int.reduceToNat]
        refine run_ret ?_
        refine thenK_r ?_
        obtain rfl := Option.some.inj h
        refine ⟨_, [.box [i64 0, i64 0, .sl false (L cU8 ([])), .sl false (L cApi_Value ([]))] false, .box [i64 2] false], _, [.box [i64 0, i64 0, .sl false (L cU8 ([])), .sl false (L cApi_Value ([]))] false, .box [i64 2] false], [.agg [i64 0, i64 0, .sl false (L cU8 ([])), .sl false (L cApi_Value ([]))], i64 2], asFr_len _ _, .inl ⟨.inr rfl, rfl⟩, ?_, codec_Decode_1_idle, rfl, ?_, resD ?_, ?_⟩
        · show stUp [0, 1] _ [0, 1] _; simp only [go_sem, reduceIte, Nat.reduceLT, Nat.reduceEqDiff, Nat.reduceAdd, Nat.reduceBEq, Nat.reduceMul, Nat.reduceSub, Nat.reduceGT, Nat.reducePow, Nat.reduceLeDiff, Int.reduceToNat]
        · simp only [go_sem, reduceIte, Nat.reduceLT, Nat.reduceEqDiff, Nat.reduceAdd, Nat.reduceBEq, Nat.reduceMul, Nat.reduceSub, Nat.reduceGT, Nat.reducePow, Nat.reduceLeDiff, Int.reduceToNat]
        · simp only [go_sem, reduceIte, Nat.reduceLT, Nat.reduceEqDiff, Nat.reduceAdd, Nat.reduceBEq, Nat.reduceMul, Nat.reduceSub, Nat.reduceGT, Nat.reducePow, Nat.reduceLeDiff, Int.reduceToNat]
        · simp only [go_sem, reduceIte, Nat.reduceLT, Nat.reduceEqDiff, Nat.reduceAdd, Nat.reduceBEq, Nat.reduceMul, Nat.reduceSub, Nat.reduceGT, Nat.reducePow, Nat.reduceLeDiff, Int.reduceToNat]
      · replace h := ite_f h hb
        refine run_skip ?_
        refine thenK_n ?_
        refine run_textE hE [2, 3] (fr' := [(2, .ref 0 0), (3, .ref 1 0)]) (σ' := [.box [i64 v_3083.1.Kind, i64 v_3083.1.N, .sl false (L cU8 v_3083.1.B), .sl false (L cApi_Value v_3083.1.L)] false, .box [i64 0] false, .box [.sl false (L cU8 v_3083.2.b)] false]) ⟨_, orcs_nil, ?_⟩ ?_
        · simp only [go_sem, reduceIte, Nat.reduceLT, Nat.reduceEqDiff, Nat.reduceAdd, Nat.reduceBEq, Nat.reduceMul, Nat.reduceSub, Nat.reduceGT, Nat.reducePow, Nat.reduceLeDiff, Int.reduceToNat]
        refine run_ret ?_
        obtain rfl := Option.some.inj h
        refine ⟨_, [.box [i64 v_3083.1.Kind, i64 v_3083.1.N, .sl false (L cU8 v_3083.1.B), .sl false (L cApi_Value v_3083.1.L)] false, .box [i64 0] false], _, [.box [i64 v_3083.1.Kind, i64 v_3083.1.N, .sl false (L cU8 v_3083.1.B), .sl false (L cApi_Value v_3083.1.L)] false, .box [i64 0] false], [.agg [i64 v_3083.1.Kind, i64 v_3083.1.N, .sl false (L cU8 v_3083.1.B), .sl false (L cApi_Value v_3083.1.L)], i64 0], asFr_len _ _, .inl ⟨.inr rfl, rfl⟩, ?_, codec_Decode_1_idle, rfl, ?_, resD ?_, ?_⟩
        · show stUp [0, 1] _ [0, 1] _; simp only [go_sem, reduceIte, Nat.reduceLT, Nat.reduceEqDiff, Nat.reduceAdd, Nat.reduceBEq, Nat.reduceMul, Nat.reduceSub, Nat.reduceGT, Nat.reducePow, Nat.reduceLeDiff, Int.reduceToNat]
        · simp only [go_sem, reduceIte, Nat.reduceLT, Nat.reduceEqDiff, Nat.reduceAdd, Nat.reduceBEq, Nat.reduceMul, Nat.reduceSub, Nat.reduceGT, Nat.reducePow, Nat.reduceLeDiff, Int.reduceToNat]
        · simp only [go_sem, reduceIte, Nat.reduceLT, Nat.reduceEqDiff, Nat.reduceAdd, Nat.reduceBEq, Nat.reduceMul, Nat.reduceSub, Nat.reduceGT, Nat.reducePow, Nat.reduceLeDiff, Int.reduceToNat]
        · simp only [go_sem, reduceIte, Nat.reduceLT, Nat.reduceEqDiff, Nat.reduceAdd, Nat.reduceBEq, Nat.reduceMul, Nat.reduceSub, Nat.reduceGT, Nat.reducePow, Nat.reduceLeDiff, Int.reduceToNat]

end Go.Proofs.Ytihncddenjbecaa
/-
  The functions compute just that.
-/
namespace Go.Proofs.Ytihncddenjbecaa
open Go.Rv
set_option linter.unusedVariables false
set_option linter.unusedSimpArgs false
set_option maxRecDepth 20000

theorem law01_encodes_con {v_3090 : Api_Value} {want_3091 : List UInt8} {r : Bool} (h : law01_encodes v_3090 want_3091 = some r) : Con B 32 [.agg [i64 v_3090.Kind, i64 v_3090.N, .sl false (L cU8 v_3090.B), .sl false (L cApi_Value v_3090.L)], .str want_3091] [] (fun r' σ' => r' = .bool r ∧ σ' = []) := by
  refine con_walk (N := 37) (rs := [.tmp 4]) ok Try.func32 rfl (by decide +kernel) rfl rfl (Nat.le_of_ble_eq_true rfl) (fun F => ?_)
  have hE := ok.env F
  unfold law01_encodes at h
  show Run (B.env F) 0 _ ⟨asFr 37 [(0, .agg [i64 v_3090.Kind, i64 v_3090.N, .sl false (L cU8 v_3090.B), .sl false (L cApi_Value v_3090.L)]), (1, .str want_3091)], []⟩ _
  refine run_textE hE [1, 2] (fr' := [(1, .str want_3091), (2, .ref 0 0)]) (σ' := [.box [i64 v_3090.Kind, i64 v_3090.N, .sl false (L cU8 v_3090.B), .sl false (L cApi_Value v_3090.L)] false]) ⟨_, orcs_nil, ?_⟩ ?_
  · simp only [go_sem, reduceIte, Nat.reduceLT, Nat.reduceEqDiff, Nat.reduceAdd, Nat.reduceBEq, Nat.reduceMul, Nat.reduceSub, Nat.reduceGT, Nat.reducePow, Nat.reduceLeDiff, Int.reduceToNat]
  replace h := bind_some1 h; obtain ⟨y_3092, hy_3093, h⟩ := h
  refine run_textE hE [1, 2, 5, 6] (fr' := [(1, .str want_3091), (2, .ref 0 0), (5, .sl false (L cU8 y_3092.1)), (6, i64 y_3092.2)]) (σ' := [.box [i64 v_3090.Kind, i64 v_3090.N, .sl false (L cU8 v_3090.B), .sl false (L cApi_Value v_3090.L)] false]) ⟨_, orcs_ok (l := [(11, 14, [.agg [i64 v_3090.Kind, i64 v_3090.N, .sl false (L cU8 v_3090.B), .sl false (L cApi_Value v_3090.L)]], .tup [.sl false (L cU8 y_3092.1), i64 y_3092.2])]) ⟨codec_Encode_con  hy_3093, trivial⟩, ?_⟩ ?_
  · simp only [go_sem, reduceIte, Nat.reduceLT, Nat.reduceEqDiff, Nat.reduceAdd, Nat.reduceBEq, Nat.reduceMul, Nat.reduceSub, Nat.reduceGT, Nat.reducePow, Nat.reduceLeDiff, Int.reduceToNat]
  replace h := bind_some1 h; obtain ⟨y_3094, hy_3095, h⟩ := h
  refine run_textE hE [1, 2, 5, 6, 7, 8] (fr' := [(1, .str want_3091), (2, .ref 0 0), (5, .sl false (L cU8 y_3092.1)), (6, i64 y_3092.2), (7, .ref 2 0), (8, i64 y_3094.2)]) (σ' := [.box [i64 v_3090.Kind, i64 v_3090.N, .sl false (L cU8 v_3090.B), .sl false (L cApi_Value v_3090.L)] false, .buf 1 (L cU8 want_3091) true, .box [i64 y_3094.1.Kind, i64 y_3094.1.N, .sl false (L cU8 y_3094.1.B), .sl false (L cApi_Value y_3094.1.L)] false]) ⟨_, orcs_ok (l := [(17, 21, [.sl false (L cU8 want_3091)], .tup [.agg [i64 y_3094.1.Kind, i64 y_3094.1.N, .sl false (L cU8 y_3094.1.B), .sl false (L cApi_Value y_3094.1.L)], i64 y_3094.2])]) ⟨codec_Decode_con  hy_3095, trivial⟩, ?_⟩ ?_
  · simp only [go_sem, reduceIte, Nat.reduceLT, Nat.reduceEqDiff, Nat.reduceAdd, Nat.reduceBEq, Nat.reduceMul, Nat.reduceSub, Nat.reduceGT, Nat.reducePow, Nat.reduceLeDiff, Int.reduceToNat]
  replace h := bind_some1 h; obtain ⟨t_3097, hv_3098, h⟩ := h
  refine run_textW hE [4] (fr' := [(4, .bool t_3097)]) (σ' := []) ?_ ?_
  · rcases Bool.eq_false_or_eq_true ((y_3092.2 == 0)) with hb_3099 | hb_3099
    · replace hv_3098 := ite_t hv_3098 hb_3099
      rcases Bool.eq_false_or_eq_true ((y_3092.1 == want_3091)) with hb_3100 | hb_3100
      · replace hv_3098 := ite_t hv_3098 hb_3100
        rcases Bool.eq_false_or_eq_true ((y_3094.2 == 0)) with hb_3101 | hb_3101
        · replace hv_3098 := ite_t hv_3098 hb_3101
          replace hv_3098 := bind_some1 hv_3098; obtain ⟨y_3096, hy_3102, hv_3098⟩ := hv_3098
          have e_hv_3098 := Option.some.inj hv_3098; subst e_hv_3098
          exact ⟨_, [(4, .bool y_3096)], [.box [i64 v_3090.Kind, i64 v_3090.N, .sl false (L cU8 v_3090.B), .sl false (L cApi_Value v_3090.L)] false, .buf 1 (L cU8 want_3091) true, .box [i64 y_3094.1.Kind, i64 y_3094.1.N, .sl false (L cU8 y_3094.1.B), .sl false (L cApi_Value y_3094.1.L)] false], orcs_ok (l := [(35, 23, [.agg [i64 v_3090.Kind, i64 v_3090.N, .sl false (L cU8 v_3090.B), .sl false (L cApi_Value v_3090.L)], .agg [i64 y_3094.1.Kind, i64 y_3094.1.N, .sl false (L cU8 y_3094.1.B), .sl false (L cApi_Value y_3094.1.L)]], .bool y_3096)]) ⟨r01_Same_con  hy_3102, trivial⟩, by simp only [go_sem, reduceIte, Nat.reduceLT, Nat.reduceEqDiff, Nat.reduceAdd, Nat.reduceBEq, Nat.reduceMul, Nat.reduceSub, Nat.reduceGT, Nat.reducePow, Nat.reduceLeDiff, Int.reduceToNat, hb_3099, hb_3100, hb_3101], (weak_sel [] (by decide) rfl (by simp only [go_sem, reduceIte, Nat.reduceLT, Nat.reduceEqDiff, Nat.reduceAdd, Nat.reduceBEq, Nat.reduceMul, Nat.reduceSub, Nat.reduceGT, Nat.reducePow, Nat.reduceLeDiff, Int.reduceToNat]) (by simp only [go_sem, reduceIte, Nat.reduceLT, Nat.reduceEqDiff, Nat.reduceAdd, Nat.reduceBEq, Nat.reduceMul, Nat.reduceSub, Nat.reduceGT, Nat.reducePow, Nat.reduceLeDiff, Int.reduceToNat]))⟩
        · replace hv_3098 := ite_f hv_3098 hb_3101
          have e_hv_3098 := Option.some.inj hv_3098; subst e_hv_3098
          exact ⟨_, [(4, .bool false)], [.box [i64 v_3090.Kind, i64 v_3090.N, .sl false (L cU8 v_3090.B), .sl false (L cApi_Value v_3090.L)] false, .buf 1 (L cU8 want_3091) true, .box [i64 y_3094.1.Kind, i64 y_3094.1.N, .sl false (L cU8 y_3094.1.B), .sl false (L cApi_Value y_3094.1.L)] false], orcs_nil, by simp only [go_sem, reduceIte, Nat.reduceLT, Nat.reduceEqDiff, Nat.reduceAdd, Nat.reduceBEq, Nat.reduceMul, Nat.reduceSub, Nat.reduceGT, Nat.reducePow, Nat.reduceLeDiff, Int.reduceToNat, hb_3099, hb_3100, hb_3101], (weak_sel [] (by decide) rfl (by simp only [go_sem, reduceIte, Nat.reduceLT, Nat.reduceEqDiff, Nat.reduceAdd, Nat.reduceBEq, Nat.reduceMul, Nat.reduceSub, Nat.reduceGT, Nat.reducePow, Nat.reduceLeDiff, Int.reduceToNat]) (by simp only [go_sem, reduceIte, Nat.reduceLT, Nat.reduceEqDiff, Nat.reduceAdd, Nat.reduceBEq, Nat.reduceMul, Nat.reduceSub, Nat.reduceGT, Nat.reducePow, Nat.reduceLeDiff, Int.reduceToNat]))⟩
      · replace hv_3098 := ite_f hv_3098 hb_3100
        have e_hv_3098 := Option.some.inj hv_3098; subst e_hv_3098
        exact ⟨_, [(4, .bool false)], [.box [i64 v_3090.Kind, i64 v_3090.N, .sl false (L cU8 v_3090.B), .sl false (L cApi_Value v_3090.L)] false, .buf 1 (L cU8 want_3091) true, .box [i64 y_3094.1.Kind, i64 y_3094.1.N, .sl false (L cU8 y_3094.1.B), .sl false (L cApi_Value y_3094.1.L)] false], orcs_nil, by simp only [go_sem, reduceIte, Nat.reduceLT, Nat.reduceEqDiff, Nat.reduceAdd, Nat.reduceBEq, Nat.reduceMul, Nat.reduceSub, Nat.reduceGT, Nat.reducePow, Nat.reduceLeDiff, Int.reduceToNat, hb_3099, hb_3100], (weak_sel [] (by decide) rfl (by simp only [go_sem, reduceIte, Nat.reduceLT, Nat.reduceEqDiff, Nat.reduceAdd, Nat.reduceBEq, Nat.reduceMul, Nat.reduceSub, Nat.reduceGT, Nat.reducePow, Nat.reduceLeDiff, Int.reduceToNat]) (by simp only [go_sem, reduceIte, Nat.reduceLT, Nat.reduceEqDiff, Nat.reduceAdd, Nat.reduceBEq, Nat.reduceMul, Nat.reduceSub, Nat.reduceGT, Nat.reducePow, Nat.reduceLeDiff, Int.reduceToNat]))⟩
    · replace hv_3098 := ite_f hv_3098 hb_3099
      have e_hv_3098 := Option.some.inj hv_3098; subst e_hv_3098
      exact ⟨_, [(4, .bool false)], [.box [i64 v_3090.Kind, i64 v_3090.N, .sl false (L cU8 v_3090.B), .sl false (L cApi_Value v_3090.L)] false, .buf 1 (L cU8 want_3091) true, .box [i64 y_3094.1.Kind, i64 y_3094.1.N, .sl false (L cU8 y_3094.1.B), .sl false (L cApi_Value y_3094.1.L)] false], orcs_nil, by simp only [go_sem, reduceIte, Nat.reduceLT, Nat.reduceEqDiff, Nat.reduceAdd, Nat.reduceBEq, Nat.reduceMul, Nat.reduceSub, Nat.reduceGT, Nat.reducePow, Nat.reduceLeDiff, Int.reduceToNat, hb_3099], (weak_sel [] (by decide) rfl (by simp only [go_sem, reduceIte, Nat.reduceLT, Nat.reduceEqDiff, Nat.reduceAdd, Nat.reduceBEq, Nat.reduceMul, Nat.reduceSub, Nat.reduceGT, Nat.reducePow, Nat.reduceLeDiff, Int.reduceToNat]) (by simp only [go_sem, reduceIte, Nat.reduceLT, Nat.reduceEqDiff, Nat.reduceAdd, Nat.reduceBEq, Nat.reduceMul, Nat.reduceSub, Nat.reduceGT, Nat.reducePow, Nat.reduceLeDiff, Int.reduceToNat]))⟩
  refine run_ret ?_
  obtain rfl := Option.some.inj h
  refine ret_ok (.inr rfl) ?_
  simp only [go_sem, reduceIte, Nat.reduceLT, Nat.reduceEqDiff, Nat.reduceAdd, Nat.reduceBEq, Nat.reduceMul, Nat.reduceSub, Nat.reduceGT, Nat.reducePow, Nat.reduceLeDiff, Int.reduceToNat]

theorem law01_fails_con {s_3103 : List UInt8} {want_3104 : Int} {r : Bool} (h : law01_fails s_3103 want_3104 = some r) : Con B 33 [.str s_3103, i64 want_3104] [] (fun r' σ' => r' = .bool r ∧ σ' = []) := by
  refine con_walk (N := 21) (rs := [.tmp 4]) ok Try.func33 rfl (by decide +kernel) rfl rfl (Nat.le_of_ble_eq_true rfl) (fun F => ?_)
  have hE := ok.env F
  unfold law01_fails at h
  show Run (B.env F) 0 _ ⟨asFr 21 [(0, .str s_3103), (1, i64 want_3104)], []⟩ _
  refine run_textE hE [0, 1] (fr' := [(0, .str s_3103), (1, i64 want_3104)]) (σ' := []) ⟨_, orcs_nil, ?_⟩ ?_
  · simp only [go_sem, reduceIte, Nat.reduceLT, Nat.reduceEqDiff, Nat.reduceAdd, Nat.reduceBEq, Nat.reduceMul, Nat.reduceSub, Nat.reduceGT, Nat.reducePow, Nat.reduceLeDiff, Int.reduceToNat]
  replace h := bind_some1 h; obtain ⟨y_3105, hy_3106, h⟩ := h
  refine run_textE hE [1, 5, 6] (fr' := [(1, i64 want_3104), (5, .ref 1 0), (6, i64 y_3105.2)]) (σ' := [.buf 1 (L cU8 s_3103) true, .box [i64 y_3105.1.Kind, i64 y_3105.1.N, .sl false (L cU8 y_3105.1.B), .sl false (L cApi_Value y_3105.1.L)] false]) ⟨_, orcs_ok (l := [(10, 21, [.sl false (L cU8 s_3103)], .tup [.agg [i64 y_3105.1.Kind, i64 y_3105.1.N, .sl false (L cU8 y_3105.1.B), .sl false (L cApi_Value y_3105.1.L)], i64 y_3105.2])]) ⟨codec_Decode_con  hy_3106, trivial⟩, ?_⟩ ?_
  · simp only [go_sem, reduceIte, Nat.reduceLT, Nat.reduceEqDiff, Nat.reduceAdd, Nat.reduceBEq, Nat.reduceMul, Nat.reduceSub, Nat.reduceGT, Nat.reducePow, Nat.reduceLeDiff, Int.reduceToNat]
  replace h := bind_some1 h; obtain ⟨t_3108, hv_3109, h⟩ := h
  refine run_textW hE [4] (fr' := [(4, .bool t_3108)]) (σ' := []) ?_ ?_
  · rcases Bool.eq_false_or_eq_true ((y_3105.2 == want_3104)) with hb_3110 | hb_3110
    · replace hv_3109 := ite_t hv_3109 hb_3110
      replace hv_3109 := bind_some1 hv_3109; obtain ⟨y_3107, hy_3111, hv_3109⟩ := hv_3109
      have e_hv_3109 := Option.some.inj hv_3109; subst e_hv_3109
      exact ⟨_, [(4, .bool y_3107)], [.buf 1 (L cU8 s_3103) true, .box [i64 y_3105.1.Kind, i64 y_3105.1.N, .sl false (L cU8 y_3105.1.B), .sl false (L cApi_Value y_3105.1.L)] false], orcs_ok (l := [(19, 23, [.agg [i64 y_3105.1.Kind, i64 y_3105.1.N, .sl false (L cU8 y_3105.1.B), .sl false (L cApi_Value y_3105.1.L)], .agg [i64 0, i64 0, .sl false (L cU8 ([])), .sl false (L cApi_Value ([]))]], .bool y_3107)]) ⟨r01_Same_con  hy_3111, trivial⟩, by simp only [go_sem, reduceIte, Nat.reduceLT, Nat.reduceEqDiff, Nat.reduceAdd, Nat.reduceBEq, Nat.reduceMul, Nat.reduceSub, Nat.reduceGT, Nat.reducePow, Nat.reduceLeDiff, Int.reduceToNat, hb_3110], (weak_sel [] (by decide) rfl (by simp only [go_sem, reduceIte, Nat.reduceLT, Nat.reduceEqDiff, Nat.reduceAdd, Nat.reduceBEq, Nat.reduceMul, Nat.reduceSub, Nat.reduceGT, Nat.reducePow, Nat.reduceLeDiff, Int.reduceToNat]) (by simp only [go_sem, reduceIte, Nat.reduceLT, Nat.reduceEqDiff, Nat.reduceAdd, Nat.reduceBEq, Nat.reduceMul, Nat.reduceSub, Nat.reduceGT, Nat.reducePow, Nat.reduceLeDiff, Int.reduceToNat]))⟩
    · replace hv_3109 := ite_f hv_3109 hb_3110
      have e_hv_3109 := Option.some.inj hv_3109; subst e_hv_3109
      exact ⟨_, [(4, .bool false)], [.buf 1 (L cU8 s_3103) true, .box [i64 y_3105.1.Kind, i64 y_3105.1.N, .sl false (L cU8 y_3105.1.B), .sl false (L cApi_Value y_3105.1.L)] false], orcs_nil, by simp only [go_sem, reduceIte, Nat.reduceLT, Nat.reduceEqDiff, Nat.reduceAdd, Nat.reduceBEq, Nat.reduceMul, Nat.reduceSub, Nat.reduceGT, Nat.reducePow, Nat.reduceLeDiff, Int.reduceToNat, hb_3110], (weak_sel [] (by decide) rfl (by simp only [go_sem, reduceIte, Nat.reduceLT, Nat.reduceEqDiff, Nat.reduceAdd, Nat.reduceBEq, Nat.reduceMul, Nat.reduceSub, Nat.reduceGT, Nat.reducePow, Nat.reduceLeDiff, Int.reduceToNat]) (by simp only [go_sem, reduceIte, Nat.reduceLT, Nat.reduceEqDiff, Nat.reduceAdd, Nat.reduceBEq, Nat.reduceMul, Nat.reduceSub, Nat.reduceGT, Nat.reducePow, Nat.reduceLeDiff, Int.reduceToNat]))⟩
  refine run_ret ?_
  obtain rfl := Option.some.inj h
  refine ret_ok (.inr rfl) ?_
  simp only [go_sem, reduceIte, Nat.reduceLT, Nat.reduceEqDiff, Nat.reduceAdd, Nat.reduceBEq, Nat.reduceMul, Nat.reduceSub, Nat.reduceGT, Nat.reducePow, Nat.reduceLeDiff, Int.reduceToNat]

end Go.Proofs.Ytihncddenjbecaa
