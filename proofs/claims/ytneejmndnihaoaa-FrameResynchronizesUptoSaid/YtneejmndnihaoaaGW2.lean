/-
  The functions compute just that.
-/
import Derived.Test.YtneejmndnihaoaaGW1
import Derived.KernelRfl
namespace Go.Proofs.Ytneejmndnihaoaa
open Go.Rv
set_option linter.unusedVariables false
set_option linter.unusedSimpArgs false

theorem r10_Joined_con {a_1298 : List UInt8} {b_1299 : List UInt8} {r : List UInt8} (h : r10_Joined a_1298 b_1299 = some r) : Con B 20 [.sl false (L cU8 a_1298), .sl false (L cU8 b_1299)] [] (fun r' σ' => r' = .sl false (L cU8 r) ∧ σ' = []) := by
  refine con_walk (N := 13) (rs := [.tmp 4]) ok Try.func20 rfl (by decide +kernel) rfl rfl (Nat.le_of_ble_eq_true rfl) (fun F => ?_)
  have hE := ok.env F
  unfold r10_Joined at h
  show Run (B.env F) 0 _ ⟨asFr 13 [(0, .sl false (L cU8 a_1298)), (1, .sl false (L cU8 b_1299))], []⟩ _
  refine run_textE hE [0, 1] (fr' := [(0, .sl false (L cU8 a_1298)), (1, .sl false (L cU8 b_1299))]) (σ' := []) ⟨_, orcs_nil, ?_⟩ ?_
  · simp only [go_sem, reduceIte, Nat.reduceLT, Nat.reduceEqDiff, Nat.reduceAdd, Nat.reduceBEq, Nat.reduceMul, Nat.reduceSub, Nat.reduceGT, Nat.reducePow, Nat.reduceLeDiff, Int.reduceToNat]
  replace h := lt1_some h; obtain ⟨l_1300, hz_1301, h⟩ := h
  refine run_textE hE [0, 1, 5] (fr' := [(0, .sl false (L cU8 a_1298)), (1, .sl false (L cU8 b_1299)), (5, .bs true 0 (l_1300.length) 0 (l_1300.length))]) (σ' := [.buf 1 (L cU8 l_1300) false]) ⟨_, orcs_nil, ?_⟩ ?_
  · subst hz_1301; simp only [go_sem, reduceIte, Nat.reduceLT, Nat.reduceEqDiff, Nat.reduceAdd, Nat.reduceBEq, Nat.reduceMul, Nat.reduceSub, Nat.reduceGT, Nat.reducePow, Nat.reduceLeDiff, Int.reduceToNat]
  replace h := chk_some h; obtain ⟨hc_1302, h⟩ := h
  replace h := lt1_some h; obtain ⟨l_1303, hz_1304, h⟩ := h
  refine run_textE hE [1, 5] (fr' := [(1, .sl false (L cU8 b_1299)), (5, .bs false 0 (l_1303.length) 0 (l_1303.length))]) (σ' := [.buf 1 (L cU8 l_1303) false]) ⟨_, orcs_nil, ?_⟩ ?_
  · subst hz_1304; simp only [go_sem, reduceIte, Nat.reduceLT, Nat.reduceEqDiff, Nat.reduceAdd, Nat.reduceBEq, Nat.reduceMul, Nat.reduceSub, Nat.reduceGT, Nat.reducePow, Nat.reduceLeDiff, Int.reduceToNat, hc_1302]
  replace h := chk_some h; obtain ⟨hc_1305, h⟩ := h
  replace h := lt1_some h; obtain ⟨l_1306, hz_1307, h⟩ := h
  refine run_textE hE [4] (fr' := [(4, .bs false 0 (l_1306.length) 0 (l_1306.length))]) (σ' := [.buf 1 (L cU8 l_1306) false]) ⟨_, orcs_nil, ?_⟩ ?_
  · subst hz_1307; simp only [go_sem, reduceIte, Nat.reduceLT, Nat.reduceEqDiff, Nat.reduceAdd, Nat.reduceBEq, Nat.reduceMul, Nat.reduceSub, Nat.reduceGT, Nat.reducePow, Nat.reduceLeDiff, Int.reduceToNat, hc_1305]
  refine run_ret ?_
  obtain rfl := Option.some.inj h
  refine ret_ok (.inr rfl) ?_
  simp only [go_sem, reduceIte, Nat.reduceLT, Nat.reduceEqDiff, Nat.reduceAdd, Nat.reduceBEq, Nat.reduceMul, Nat.reduceSub, Nat.reduceGT, Nat.reducePow, Nat.reduceLeDiff, Int.reduceToNat]

theorem r10_Wrapped_con {b_1308 : List UInt8} {r : List UInt8} (h : r10_Wrapped b_1308 = some r) : Con B 21 [.sl false (L cU8 b_1308)] [] (fun r' σ' => r' = .sl false (L cU8 r) ∧ σ' = []) := by
  refine con_walk (N := 42) (rs := [.tmp 2]) ok Try.func21 rfl (by decide +kernel) rfl rfl (Nat.le_of_ble_eq_true rfl) (fun F => ?_)
  have hE := ok.env F
  unfold r10_Wrapped at h
  show Run (B.env F) 0 _ ⟨asFr 42 [(0, .sl false (L cU8 b_1308))], []⟩ _
  refine run_textE hE [0] (fr' := [(0, .sl false (L cU8 b_1308))]) (σ' := []) ⟨_, orcs_nil, ?_⟩ ?_
  · simp only [go_sem, reduceIte, Nat.reduceLT, Nat.reduceEqDiff, Nat.reduceAdd, Nat.reduceBEq, Nat.reduceMul, Nat.reduceSub, Nat.reduceGT, Nat.reducePow, Nat.reduceLeDiff, Int.reduceToNat]
  replace h := lt1_some h; obtain ⟨l_1309, hz_1310, h⟩ := h
  refine run_textE hE [0, 3] (fr' := [(0, .sl false (L cU8 b_1308)), (3, .bs true 0 (l_1309.length) 0 (l_1309.length))]) (σ' := [.buf 1 (L cU8 l_1309) false]) ⟨_, orcs_nil, ?_⟩ ?_
  · subst hz_1310; simp only [go_sem, reduceIte, Nat.reduceLT, Nat.reduceEqDiff, Nat.reduceAdd, Nat.reduceBEq, Nat.reduceMul, Nat.reduceSub, Nat.reduceGT, Nat.reducePow, Nat.reduceLeDiff, Int.reduceToNat]
  replace h := bind_some1 h; obtain ⟨j_1410, hA_1411, hj_1412⟩ := h
  refine run_join (fun (v : List UInt8) => (⟨asFr 42 [(3, .bs false 0 (v.length) 0 (v.length))], [.buf 1 (L cU8 v) false]⟩ : St)) (fun v => v = j_1410) ?_ ?_
  · have h := hA_1411; clear hA_1411
    refine run_textE hE [0, 3, 4] (fr' := [(0, .sl false (L cU8 b_1308)), (3, .bs true 0 (l_1309.length) 0 (l_1309.length)), (4, i64 0)]) (σ' := [.buf 1 (L cU8 l_1309) false]) ⟨_, orcs_nil, ?_⟩ ?_
    · simp only [go_sem, reduceIte, Nat.reduceLT, Nat.reduceEqDiff, Nat.reduceAdd, Nat.reduceBEq, Nat.reduceMul, Nat.reduceSub, Nat.reduceGT, Nat.reducePow, Nat.reduceLeDiff, Int.reduceToNat]
    refine run_block ?_
    replace h := bind_some1 h; obtain ⟨x_1476, hx_1477, hj_1478⟩ := h
    refine run_loopO hx_1477 (fun (v : Int × List UInt8) => (⟨asFr 42 [(0, .sl false (L cU8 b_1308)), (3, .bs false 0 (v.2.length) 0 (v.2.length)), (4, i64 v.1)], [.buf 1 (L cU8 v.2) false]⟩ : St)) (weak_sel [0] (by decide) rfl (by simp only [go_sem, reduceIte, Nat.reduceLT, Nat.reduceEqDiff, Nat.reduceAdd, Nat.reduceBEq, Nat.reduceMul, Nat.reduceSub, Nat.reduceGT, Nat.reducePow, Nat.reduceLeDiff, Int.reduceToNat]) (by simp only [go_sem, reduceIte, Nat.reduceLT, Nat.reduceEqDiff, Nat.reduceAdd, Nat.reduceBEq, Nat.reduceMul, Nat.reduceSub, Nat.reduceGT, Nat.reducePow, Nat.reduceLeDiff, Int.reduceToNat])) ?_
    rintro ⟨i_1443, l_1444⟩ o_1479 h hxx_1480
    replace h : r10_Wrapped_b1 b_1308 i_1443 l_1444 = some o_1479 := h
    unfold r10_Wrapped_b1 at h
    refine run_seq ?_
    refine run_textE hE [0, 3, 4, 9] (fr' := [(0, .sl false (L cU8 b_1308)), (3, .bs false 0 (l_1444.length) 0 (l_1444.length)), (4, i64 i_1443), (9, .bool ((decide (i_1443 < (b_1308.length : Int)))))]) (σ' := [.buf 1 (L cU8 l_1444) false]) ⟨_, orcs_nil, ?_⟩ ?_
    · simp only [go_sem, reduceIte, Nat.reduceLT, Nat.reduceEqDiff, Nat.reduceAdd, Nat.reduceBEq, Nat.reduceMul, Nat.reduceSub, Nat.reduceGT, Nat.reducePow, Nat.reduceLeDiff, Int.reduceToNat]
    refine run_condL (b := (decide (i_1443 < (b_1308.length : Int)))) rfl (by decide) (fun hb => ?_) (fun hb => ?_)
    · replace h := ite_t h hb
      refine run_skip ?_
      refine thenK_n ?_
      replace h := bind_some1 h; obtain ⟨j_1495, hA_1496, hj_1497⟩ := h
      refine run_join (fun (v : List UInt8) => (⟨asFr 42 [(0, .sl false (L cU8 b_1308)), (3, .bs false 0 (v.length) 0 (v.length)), (4, i64 i_1443)], [.buf 1 (L cU8 v) false]⟩ : St)) (fun v => v = j_1495) ?_ ?_
      · have h := hA_1496; clear hA_1496
        refine run_block ?_
        replace h := bind_some1 h; obtain ⟨t_1498, hv_1499, h⟩ := h
        refine run_textW hE [0, 3, 4, 23] (fr' := [(0, .sl false (L cU8 b_1308)), (3, .bs false 0 (l_1444.length) 0 (l_1444.length)), (4, i64 i_1443), (23, .bool t_1498)]) (σ' := [.buf 1 (L cU8 l_1444) false]) ?_ ?_
        · replace hv_1499 := chk_some hv_1499; obtain ⟨hc_1500, hv_1499⟩ := hv_1499
          rcases Bool.eq_false_or_eq_true ((nth b_1308 i_1443.toNat == (126 : UInt8))) with hb_1501 | hb_1501
          · replace hv_1499 := ite_t hv_1499 hb_1501
            have e_hv_1499 := Option.some.inj hv_1499; subst e_hv_1499
            exact ⟨_, [(0, .sl false (L cU8 b_1308)), (3, .bs false 0 (l_1444.length) 0 (l_1444.length)), (4, i64 i_1443), (23, .bool true)], [.buf 1 (L cU8 l_1444) false], orcs_nil, by simp only [go_sem, reduceIte, Nat.reduceLT, Nat.reduceEqDiff, Nat.reduceAdd, Nat.reduceBEq, Nat.reduceMul, Nat.reduceSub, Nat.reduceGT, Nat.reducePow, Nat.reduceLeDiff, Int.reduceToNat, hc_1500, hc_1500.2, lt_le hc_1500.2, hb_1501], (weak_sel [0] (by decide) rfl (by simp only [go_sem, reduceIte, Nat.reduceLT, Nat.reduceEqDiff, Nat.reduceAdd, Nat.reduceBEq, Nat.reduceMul, Nat.reduceSub, Nat.reduceGT, Nat.reducePow, Nat.reduceLeDiff, Int.reduceToNat]) (by simp only [go_sem, reduceIte, Nat.reduceLT, Nat.reduceEqDiff, Nat.reduceAdd, Nat.reduceBEq, Nat.reduceMul, Nat.reduceSub, Nat.reduceGT, Nat.reducePow, Nat.reduceLeDiff, Int.reduceToNat]))⟩
          · replace hv_1499 := ite_f hv_1499 hb_1501
            replace hv_1499 := chk_some hv_1499; obtain ⟨hc_1502, hv_1499⟩ := hv_1499
            have e_hv_1499 := Option.some.inj hv_1499; subst e_hv_1499
            exact ⟨_, [(0, .sl false (L cU8 b_1308)), (3, .bs false 0 (l_1444.length) 0 (l_1444.length)), (4, i64 i_1443), (23, .bool ((nth b_1308 i_1443.toNat == (125 : UInt8))))], [.buf 1 (L cU8 l_1444) false], orcs_nil, by simp only [go_sem, reduceIte, Nat.reduceLT, Nat.reduceEqDiff, Nat.reduceAdd, Nat.reduceBEq, Nat.reduceMul, Nat.reduceSub, Nat.reduceGT, Nat.reducePow, Nat.reduceLeDiff, Int.reduceToNat, hc_1500, hc_1500.2, lt_le hc_1500.2, hb_1501, hc_1502, hc_1502.2, lt_le hc_1502.2], (weak_sel [0] (by decide) rfl (by simp only [go_sem, reduceIte, Nat.reduceLT, Nat.reduceEqDiff, Nat.reduceAdd, Nat.reduceBEq, Nat.reduceMul, Nat.reduceSub, Nat.reduceGT, Nat.reducePow, Nat.reduceLeDiff, Int.reduceToNat]) (by simp only [go_sem, reduceIte, Nat.reduceLT, Nat.reduceEqDiff, Nat.reduceAdd, Nat.reduceBEq, Nat.reduceMul, Nat.reduceSub, Nat.reduceGT, Nat.reducePow, Nat.reduceLeDiff, Int.reduceToNat]))⟩
        refine run_condL (b := t_1498) rfl (by decide) (fun hb => ?_) (fun hb => ?_)
        · replace h := ite_t h hb
          replace h := chk_some h; obtain ⟨hc_1503, h⟩ := h
          replace h := chk_some h; obtain ⟨hc_1504, h⟩ := h
          replace h := lt1_some h; obtain ⟨l_1505, hz_1506, h⟩ := h
          refine run_textE0 hE (wk_block wk_join) [0, 3, 4] (fr' := [(0, .sl false (L cU8 b_1308)), (3, .bs false 0 (l_1505.length) 0 (l_1505.length)), (4, i64 i_1443)]) (σ' := [.buf 1 (L cU8 l_1505) false, .buf 1 (L cU8 (([(125 : UInt8), (nth b_1308 i_1443.toNat ^^^ (32 : UInt8))] : List UInt8))) false]) ⟨_, orcs_nil, ?_⟩ ?_
          · subst hz_1506; simp only [go_sem, reduceIte, Nat.reduceLT, Nat.reduceEqDiff, Nat.reduceAdd, Nat.reduceBEq, Nat.reduceMul, Nat.reduceSub, Nat.reduceGT, Nat.reducePow, Nat.reduceLeDiff, Int.reduceToNat, hc_1503, hc_1503.2, lt_le hc_1503.2, hc_1504]
          refine blockK_n ?_
          obtain rfl := Option.some.inj h
          exact joinK_n l_1505 rfl (weak_sel [0] (by decide) rfl (by simp only [go_sem, reduceIte, Nat.reduceLT, Nat.reduceEqDiff, Nat.reduceAdd, Nat.reduceBEq, Nat.reduceMul, Nat.reduceSub, Nat.reduceGT, Nat.reducePow, Nat.reduceLeDiff, Int.reduceToNat]) (by simp only [go_sem, reduceIte, Nat.reduceLT, Nat.reduceEqDiff, Nat.reduceAdd, Nat.reduceBEq, Nat.reduceMul, Nat.reduceSub, Nat.reduceGT, Nat.reducePow, Nat.reduceLeDiff, Int.reduceToNat]))
        · replace h := ite_f h hb
          replace h := chk_some h; obtain ⟨hc_1507, h⟩ := h
          replace h := chk_some h; obtain ⟨hc_1508, h⟩ := h
          replace h := lt1_some h; obtain ⟨l_1509, hz_1510, h⟩ := h
          refine run_textE0 hE (wk_block wk_join) [0, 3, 4] (fr' := [(0, .sl false (L cU8 b_1308)), (3, .bs false 0 (l_1509.length) 0 (l_1509.length)), (4, i64 i_1443)]) (σ' := [.buf 1 (L cU8 l_1509) false, .buf 1 (L cU8 (([nth b_1308 i_1443.toNat] : List UInt8))) false]) ⟨_, orcs_nil, ?_⟩ ?_
          · subst hz_1510; simp only [go_sem, reduceIte, Nat.reduceLT, Nat.reduceEqDiff, Nat.reduceAdd, Nat.reduceBEq, Nat.reduceMul, Nat.reduceSub, Nat.reduceGT, Nat.reducePow, Nat.reduceLeDiff, Int.reduceToNat, hc_1507, hc_1507.2, lt_le hc_1507.2, hc_1508]
          refine blockK_n ?_
          obtain rfl := Option.some.inj h
          exact joinK_n l_1509 rfl (weak_sel [0] (by decide) rfl (by simp only [go_sem, reduceIte, Nat.reduceLT, Nat.reduceEqDiff, Nat.reduceAdd, Nat.reduceBEq, Nat.reduceMul, Nat.reduceSub, Nat.reduceGT, Nat.reducePow, Nat.reduceLeDiff, Int.reduceToNat]) (by simp only [go_sem, reduceIte, Nat.reduceLT, Nat.reduceEqDiff, Nat.reduceAdd, Nat.reduceBEq, Nat.reduceMul, Nat.reduceSub, Nat.reduceGT, Nat.reducePow, Nat.reduceLeDiff, Int.reduceToNat]))
      rintro l_1494 rfl
      have h := hj_1497; clear hj_1497
      refine run_textE0 hE wk_lp [0, 3, 4] (fr' := [(0, .sl false (L cU8 b_1308)), (3, .bs false 0 (l_1494.length) 0 (l_1494.length)), (4, i64 ((w64 (i_1443 + 1))))]) (σ' := [.buf 1 (L cU8 l_1494) false]) ⟨_, orcs_nil, ?_⟩ ?_
      · simp only [go_sem, reduceIte, Nat.reduceLT, Nat.reduceEqDiff, Nat.reduceAdd, Nat.reduceBEq, Nat.reduceMul, Nat.reduceSub, Nat.reduceGT, Nat.reducePow, Nat.reduceLeDiff, Int.reduceToNat]
      obtain rfl := Option.some.inj h
      exact lpK_n (((w64 (i_1443 + 1)), l_1494)) rfl (weak_sel [0] (by decide) rfl (by simp only [go_sem, reduceIte, Nat.reduceLT, Nat.reduceEqDiff, Nat.reduceAdd, Nat.reduceBEq, Nat.reduceMul, Nat.reduceSub, Nat.reduceGT, Nat.reducePow, Nat.reduceLeDiff, Int.reduceToNat]) (by simp only [go_sem, reduceIte, Nat.reduceLT, Nat.reduceEqDiff, Nat.reduceAdd, Nat.reduceBEq, Nat.reduceMul, Nat.reduceSub, Nat.reduceGT, Nat.reducePow, Nat.reduceLeDiff, Int.reduceToNat]))
    · replace h := ite_f h hb
      refine run_exit ?_
      refine thenK_x ?_
      obtain rfl := Option.some.inj h
      have ex_x_1476 := hxx_1480 _ rfl
      subst ex_x_1476
      have h := hj_1478; clear hj_1478
      refine lpK_x ?_
      refine blockK_x ?_
      obtain rfl := Option.some.inj h
      exact joinK_n l_1444 rfl ((weak_sel (l' := [(3, .bs false 0 (l_1444.length) 0 (l_1444.length))]) (σ' := [.buf 1 (L cU8 l_1444) false]) [0] (by decide) rfl (by simp only [go_sem, reduceIte, Nat.reduceLT, Nat.reduceEqDiff, Nat.reduceAdd, Nat.reduceBEq, Nat.reduceMul, Nat.reduceSub, Nat.reduceGT, Nat.reducePow, Nat.reduceLeDiff, Int.reduceToNat]) (by simp only [go_sem, reduceIte, Nat.reduceLT, Nat.reduceEqDiff, Nat.reduceAdd, Nat.reduceBEq, Nat.reduceMul, Nat.reduceSub, Nat.reduceGT, Nat.reducePow, Nat.reduceLeDiff, Int.reduceToNat])).trans (weak_sel [0] (by decide) rfl (by simp only [go_sem, reduceIte, Nat.reduceLT, Nat.reduceEqDiff, Nat.reduceAdd, Nat.reduceBEq, Nat.reduceMul, Nat.reduceSub, Nat.reduceGT, Nat.reducePow, Nat.reduceLeDiff, Int.reduceToNat]) (by simp only [go_sem, reduceIte, Nat.reduceLT, Nat.reduceEqDiff, Nat.reduceAdd, Nat.reduceBEq, Nat.reduceMul, Nat.reduceSub, Nat.reduceGT, Nat.reducePow, Nat.reduceLeDiff, Int.reduceToNat])))
  rintro l_1409 rfl
  have h := hj_1412; clear hj_1412
  replace h := chk_some h; obtain ⟨hc_1511, h⟩ := h
  replace h := lt1_some h; obtain ⟨l_1512, hz_1513, h⟩ := h
  refine run_textE hE [2] (fr' := [(2, .bs false 0 (l_1512.length) 0 (l_1512.length))]) (σ' := [.buf 1 (L cU8 l_1512) false, .buf 1 (L cU8 (([(126 : UInt8)] : List UInt8))) false]) ⟨_, orcs_nil, ?_⟩ ?_
  · subst hz_1513; simp only [go_sem, reduceIte, Nat.reduceLT, Nat.reduceEqDiff, Nat.reduceAdd, Nat.reduceBEq, Nat.reduceMul, Nat.reduceSub, Nat.reduceGT, Nat.reducePow, Nat.reduceLeDiff, Int.reduceToNat, hc_1511]
  refine run_ret ?_
  obtain rfl := Option.some.inj h
  refine ret_ok (.inr rfl) ?_
  simp only [go_sem, reduceIte, Nat.reduceLT, Nat.reduceEqDiff, Nat.reduceAdd, Nat.reduceBEq, Nat.reduceMul, Nat.reduceSub, Nat.reduceGT, Nat.reducePow, Nat.reduceLeDiff, Int.reduceToNat]

theorem r10_Sealed_con {b_1514 : List UInt8} {c_1515 : UInt32} {r : List UInt8} (h : r10_Sealed b_1514 c_1515 = some r) : Con B 22 [.sl false (L cU8 b_1514), u32 c_1515] [] (fun r' σ' => r' = .sl false (L cU8 r) ∧ σ' = []) := by
  refine con_walk (N := 24) (rs := [.tmp 4]) ok Try.func22 rfl (by decide +kernel) rfl rfl (Nat.le_of_ble_eq_true rfl) (fun F => ?_)
  have hE := ok.env F
  unfold r10_Sealed at h
  show Run (B.env F) 0 _ ⟨asFr 24 [(0, .sl false (L cU8 b_1514)), (1, u32 c_1515)], []⟩ _
  refine run_textE hE [0, 1] (fr' := [(0, .sl false (L cU8 b_1514)), (1, u32 c_1515)]) (σ' := []) ⟨_, orcs_nil, ?_⟩ ?_
  · simp only [go_sem, reduceIte, Nat.reduceLT, Nat.reduceEqDiff, Nat.reduceAdd, Nat.reduceBEq, Nat.reduceMul, Nat.reduceSub, Nat.reduceGT, Nat.reducePow, Nat.reduceLeDiff, Int.reduceToNat]
  replace h := lt1_some h; obtain ⟨l_1516, hz_1517, h⟩ := h
  refine run_textE hE [0, 1, 5] (fr' := [(0, .sl false (L cU8 b_1514)), (1, u32 c_1515), (5, .bs true 0 (l_1516.length) 0 (l_1516.length))]) (σ' := [.buf 1 (L cU8 l_1516) false]) ⟨_, orcs_nil, ?_⟩ ?_
  · subst hz_1517; simp only [go_sem, reduceIte, Nat.reduceLT, Nat.reduceEqDiff, Nat.reduceAdd, Nat.reduceBEq, Nat.reduceMul, Nat.reduceSub, Nat.reduceGT, Nat.reducePow, Nat.reduceLeDiff, Int.reduceToNat]
  replace h := chk_some h; obtain ⟨hc_1518, h⟩ := h
  replace h := lt1_some h; obtain ⟨l_1519, hz_1520, h⟩ := h
  refine run_textE hE [1, 5] (fr' := [(1, u32 c_1515), (5, .bs false 0 (l_1519.length) 0 (l_1519.length))]) (σ' := [.buf 1 (L cU8 l_1519) false]) ⟨_, orcs_nil, ?_⟩ ?_
  · subst hz_1520; simp only [go_sem, reduceIte, Nat.reduceLT, Nat.reduceEqDiff, Nat.reduceAdd, Nat.reduceBEq, Nat.reduceMul, Nat.reduceSub, Nat.reduceGT, Nat.reducePow, Nat.reduceLeDiff, Int.reduceToNat, hc_1518]
  replace h := chk_some h; obtain ⟨hc_1521, h⟩ := h
  replace h := lt1_some h; obtain ⟨l_1522, hz_1523, h⟩ := h
  refine run_textE hE [4] (fr' := [(4, .bs false 0 (l_1522.length) 0 (l_1522.length))]) (σ' := [.buf 1 (L cU8 l_1522) false, .buf 1 (L cU8 (([((shr32 c_1515 ((24 : UInt64)).toNat)).toUInt8, ((shr32 c_1515 ((16 : UInt64)).toNat)).toUInt8, ((shr32 c_1515 ((8 : UInt64)).toNat)).toUInt8, c_1515.toUInt8] : List UInt8))) false]) ⟨_, orcs_nil, ?_⟩ ?_
  · subst hz_1523; simp only [go_sem, reduceIte, Nat.reduceLT, Nat.reduceEqDiff, Nat.reduceAdd, Nat.reduceBEq, Nat.reduceMul, Nat.reduceSub, Nat.reduceGT, Nat.reducePow, Nat.reduceLeDiff, Int.reduceToNat, hc_1521]
  refine run_ret ?_
  obtain rfl := Option.some.inj h
  refine ret_ok (.inr rfl) ?_
  simp only [go_sem, reduceIte, Nat.reduceLT, Nat.reduceEqDiff, Nat.reduceAdd, Nat.reduceBEq, Nat.reduceMul, Nat.reduceSub, Nat.reduceGT, Nat.reducePow, Nat.reduceLeDiff, Int.reduceToNat]

end Go.Proofs.Ytneejmndnihaoaa
