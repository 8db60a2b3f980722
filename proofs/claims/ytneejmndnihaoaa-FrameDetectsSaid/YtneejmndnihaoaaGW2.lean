/-
  The functions compute just that.
-/
import Derived.Test.YtneejmndnihaoaaGW1
import Derived.KernelRfl
namespace Go.Proofs.Ytneejmndnihaoaa
open Go.Rv
set_option linter.unusedVariables false
set_option linter.unusedSimpArgs false

theorem r10_Joined_con {a_1298 : List UInt8} {b_1299 : List UInt8} {r : List UInt8} (h : r10_Joined a_1298 b_1299 = some r) : Con B 20 [.sl false (L cU8 a_1298), .sl false (L cU8 b_1299)] [] (fun r' σ' => r' = .bs false 0 (r.length) 0 (r.length) ∧ σ' = [.buf 1 (L cU8 r) false]) := by
  refine con_walk_own (N := 13) (rs := [.tmp 4]) 0 rfl ok Try.func20 rfl (by decide +kernel) rfl rfl (Nat.le_of_ble_eq_true rfl) (fun F => ?_)
  have hE := ok.env F
  unfold r10_Joined at h
  show Run (B.env F) 0 _ ⟨asFr 13 [(0, .sl false (L cU8 a_1298)), (1, .sl false (L cU8 b_1299))], []⟩ _
  refine run_textE hE [0, 1] (fr' := [(0, .sl false (L cU8 a_1298)), (1, .sl false (L cU8 b_1299))]) (σ' := []) ⟨_, orcs_nil, ?_⟩ ?_
  · simp only [go_sem, reduceIte, Nat.reduceLT, Nat.reduceEqDiff, Nat.reduceAdd, Nat.reduceBEq, Nat.reduceMul, Nat.reduceSub, Nat.reduceGT, Nat.reducePow, Nat.reduceLeDiff, Int.reduceToNat]
  replace h := lt1_some h; obtain ⟨l_1308, hz_1309, h⟩ := h
  refine run_textE hE [0, 1, 5] (fr' := [(0, .sl false (L cU8 a_1298)), (1, .sl false (L cU8 b_1299)), (5, .bs true 0 (l_1308.length) 0 (l_1308.length))]) (σ' := [.buf 1 (L cU8 l_1308) false]) ⟨_, orcs_nil, ?_⟩ ?_
  · subst hz_1309; simp only [go_sem, reduceIte, Nat.reduceLT, Nat.reduceEqDiff, Nat.reduceAdd, Nat.reduceBEq, Nat.reduceMul, Nat.reduceSub, Nat.reduceGT, Nat.reducePow, Nat.reduceLeDiff, Int.reduceToNat]
  replace h := chk_some h; obtain ⟨hc_1310, h⟩ := h
  replace h := lt1_some h; obtain ⟨l_1311, hz_1312, h⟩ := h
  refine run_textE hE [1, 5] (fr' := [(1, .sl false (L cU8 b_1299)), (5, .bs false 0 (l_1311.length) 0 (l_1311.length))]) (σ' := [.buf 1 (L cU8 l_1311) false]) ⟨_, orcs_nil, ?_⟩ ?_
  · subst hz_1312; simp only [go_sem, reduceIte, Nat.reduceLT, Nat.reduceEqDiff, Nat.reduceAdd, Nat.reduceBEq, Nat.reduceMul, Nat.reduceSub, Nat.reduceGT, Nat.reducePow, Nat.reduceLeDiff, Int.reduceToNat, hc_1310]
  replace h := chk_some h; obtain ⟨hc_1313, h⟩ := h
  replace h := lt1_some h; obtain ⟨l_1314, hz_1315, h⟩ := h
  refine run_textE hE [4] (fr' := [(4, .bs false 0 (l_1314.length) 0 (l_1314.length))]) (σ' := [.buf 1 (L cU8 l_1314) false]) ⟨_, orcs_nil, ?_⟩ ?_
  · subst hz_1315; simp only [go_sem, reduceIte, Nat.reduceLT, Nat.reduceEqDiff, Nat.reduceAdd, Nat.reduceBEq, Nat.reduceMul, Nat.reduceSub, Nat.reduceGT, Nat.reducePow, Nat.reduceLeDiff, Int.reduceToNat, hc_1313]
  refine run_ret ?_
  obtain rfl := Option.some.inj h
  refine ret_own (.inr rfl) [0] (by decide) rfl ?_ ?_
  · simp only [go_sem, reduceIte, Nat.reduceLT, Nat.reduceEqDiff, Nat.reduceAdd, Nat.reduceBEq, Nat.reduceMul, Nat.reduceSub, Nat.reduceGT, Nat.reducePow, Nat.reduceLeDiff, Int.reduceToNat]
  · simp only [go_sem, reduceIte, Nat.reduceLT, Nat.reduceEqDiff, Nat.reduceAdd, Nat.reduceBEq, Nat.reduceMul, Nat.reduceSub, Nat.reduceGT, Nat.reducePow, Nat.reduceLeDiff, Int.reduceToNat]

theorem r10_Wrapped_con {b_1316 : List UInt8} {r : List UInt8} (h : r10_Wrapped b_1316 = some r) : Con B 21 [.sl false (L cU8 b_1316)] [] (fun r' σ' => r' = .sl false (L cU8 r) ∧ σ' = []) := by
  refine con_walk (N := 42) (rs := [.tmp 2]) ok Try.func21 rfl (by decide +kernel) rfl rfl (Nat.le_of_ble_eq_true rfl) (fun F => ?_)
  have hE := ok.env F
  unfold r10_Wrapped at h
  show Run (B.env F) 0 _ ⟨asFr 42 [(0, .sl false (L cU8 b_1316))], []⟩ _
  refine run_textE hE [0] (fr' := [(0, .sl false (L cU8 b_1316))]) (σ' := []) ⟨_, orcs_nil, ?_⟩ ?_
  · simp only [go_sem, reduceIte, Nat.reduceLT, Nat.reduceEqDiff, Nat.reduceAdd, Nat.reduceBEq, Nat.reduceMul, Nat.reduceSub, Nat.reduceGT, Nat.reducePow, Nat.reduceLeDiff, Int.reduceToNat]
  replace h := lt1_some h; obtain ⟨l_1317, hz_1318, h⟩ := h
  refine run_textE hE [0, 3] (fr' := [(0, .sl false (L cU8 b_1316)), (3, .bs true 0 (l_1317.length) 0 (l_1317.length))]) (σ' := [.buf 1 (L cU8 l_1317) false]) ⟨_, orcs_nil, ?_⟩ ?_
  · subst hz_1318; simp only [go_sem, reduceIte, Nat.reduceLT, Nat.reduceEqDiff, Nat.reduceAdd, Nat.reduceBEq, Nat.reduceMul, Nat.reduceSub, Nat.reduceGT, Nat.reducePow, Nat.reduceLeDiff, Int.reduceToNat]
  replace h := bind_some1 h; obtain ⟨j_1418, hA_1419, hj_1420⟩ := h
  refine run_join (fun (v : List UInt8) => (⟨asFr 42 [(3, .bs false 0 (v.length) 0 (v.length))], [.buf 1 (L cU8 v) false]⟩ : St)) (fun v => v = j_1418) ?_ ?_
  · have h := hA_1419; clear hA_1419
    refine run_textE hE [0, 3, 4] (fr' := [(0, .sl false (L cU8 b_1316)), (3, .bs true 0 (l_1317.length) 0 (l_1317.length)), (4, i64 0)]) (σ' := [.buf 1 (L cU8 l_1317) false]) ⟨_, orcs_nil, ?_⟩ ?_
    · simp only [go_sem, reduceIte, Nat.reduceLT, Nat.reduceEqDiff, Nat.reduceAdd, Nat.reduceBEq, Nat.reduceMul, Nat.reduceSub, Nat.reduceGT, Nat.reducePow, Nat.reduceLeDiff, Int.reduceToNat]
    refine run_block ?_
    replace h := bind_some1 h; obtain ⟨x_1484, hx_1485, hj_1486⟩ := h
    refine run_loopO hx_1485 (fun (v : Int × List UInt8) => (⟨asFr 42 [(0, .sl false (L cU8 b_1316)), (3, .bs false 0 (v.2.length) 0 (v.2.length)), (4, i64 v.1)], [.buf 1 (L cU8 v.2) false]⟩ : St)) (weak_sel [0] (by decide) rfl (by simp only [go_sem, reduceIte, Nat.reduceLT, Nat.reduceEqDiff, Nat.reduceAdd, Nat.reduceBEq, Nat.reduceMul, Nat.reduceSub, Nat.reduceGT, Nat.reducePow, Nat.reduceLeDiff, Int.reduceToNat]) (by simp only [go_sem, reduceIte, Nat.reduceLT, Nat.reduceEqDiff, Nat.reduceAdd, Nat.reduceBEq, Nat.reduceMul, Nat.reduceSub, Nat.reduceGT, Nat.reducePow, Nat.reduceLeDiff, Int.reduceToNat])) ?_
    rintro ⟨i_1451, l_1452⟩ o_1487 h hxx_1488
    replace h : r10_Wrapped_b1 b_1316 i_1451 l_1452 = some o_1487 := h
    unfold r10_Wrapped_b1 at h
    refine run_seq ?_
    refine run_textE hE [0, 3, 4, 9] (fr' := [(0, .sl false (L cU8 b_1316)), (3, .bs false 0 (l_1452.length) 0 (l_1452.length)), (4, i64 i_1451), (9, .bool ((decide (i_1451 < (b_1316.length : Int)))))]) (σ' := [.buf 1 (L cU8 l_1452) false]) ⟨_, orcs_nil, ?_⟩ ?_
    · simp only [go_sem, reduceIte, Nat.reduceLT, Nat.reduceEqDiff, Nat.reduceAdd, Nat.reduceBEq, Nat.reduceMul, Nat.reduceSub, Nat.reduceGT, Nat.reducePow, Nat.reduceLeDiff, Int.reduceToNat]
    refine run_condL (b := (decide (i_1451 < (b_1316.length : Int)))) rfl (by decide) (fun hb => ?_) (fun hb => ?_)
    · replace h := ite_t h hb
      refine run_skip ?_
      refine thenK_n ?_
      replace h := bind_some1 h; obtain ⟨j_1503, hA_1504, hj_1505⟩ := h
      refine run_join (fun (v : List UInt8) => (⟨asFr 42 [(0, .sl false (L cU8 b_1316)), (3, .bs false 0 (v.length) 0 (v.length)), (4, i64 i_1451)], [.buf 1 (L cU8 v) false]⟩ : St)) (fun v => v = j_1503) ?_ ?_
      · have h := hA_1504; clear hA_1504
        refine run_block ?_
        replace h := bind_some1 h; obtain ⟨t_1506, hv_1507, h⟩ := h
        refine run_textW hE [0, 3, 4, 23] (fr' := [(0, .sl false (L cU8 b_1316)), (3, .bs false 0 (l_1452.length) 0 (l_1452.length)), (4, i64 i_1451), (23, .bool t_1506)]) (σ' := [.buf 1 (L cU8 l_1452) false]) ?_ ?_
        · replace hv_1507 := chk_some hv_1507; obtain ⟨hc_1508, hv_1507⟩ := hv_1507
          rcases Bool.eq_false_or_eq_true ((nth b_1316 i_1451.toNat == (126 : UInt8))) with hb_1509 | hb_1509
          · replace hv_1507 := ite_t hv_1507 hb_1509
            have e_hv_1507 := Option.some.inj hv_1507; subst e_hv_1507
            exact ⟨_, [(0, .sl false (L cU8 b_1316)), (3, .bs false 0 (l_1452.length) 0 (l_1452.length)), (4, i64 i_1451), (23, .bool true)], [.buf 1 (L cU8 l_1452) false], orcs_nil, by simp only [go_sem, reduceIte, Nat.reduceLT, Nat.reduceEqDiff, Nat.reduceAdd, Nat.reduceBEq, Nat.reduceMul, Nat.reduceSub, Nat.reduceGT, Nat.reducePow, Nat.reduceLeDiff, Int.reduceToNat, hc_1508, hc_1508.2, lt_le hc_1508.2, hb_1509], (weak_sel [0] (by decide) rfl (by simp only [go_sem, reduceIte, Nat.reduceLT, Nat.reduceEqDiff, Nat.reduceAdd, Nat.reduceBEq, Nat.reduceMul, Nat.reduceSub, Nat.reduceGT, Nat.reducePow, Nat.reduceLeDiff, Int.reduceToNat]) (by simp only [go_sem, reduceIte, Nat.reduceLT, Nat.reduceEqDiff, Nat.reduceAdd, Nat.reduceBEq, Nat.reduceMul, Nat.reduceSub, Nat.reduceGT, Nat.reducePow, Nat.reduceLeDiff, Int.reduceToNat]))⟩
          · replace hv_1507 := ite_f hv_1507 hb_1509
            replace hv_1507 := chk_some hv_1507; obtain ⟨hc_1510, hv_1507⟩ := hv_1507
            have e_hv_1507 := Option.some.inj hv_1507; subst e_hv_1507
            exact ⟨_, [(0, .sl false (L cU8 b_1316)), (3, .bs false 0 (l_1452.length) 0 (l_1452.length)), (4, i64 i_1451), (23, .bool ((nth b_1316 i_1451.toNat == (125 : UInt8))))], [.buf 1 (L cU8 l_1452) false], orcs_nil, by simp only [go_sem, reduceIte, Nat.reduceLT, Nat.reduceEqDiff, Nat.reduceAdd, Nat.reduceBEq, Nat.reduceMul, Nat.reduceSub, Nat.reduceGT, Nat.reducePow, Nat.reduceLeDiff, Int.reduceToNat, hc_1508, hc_1508.2, lt_le hc_1508.2, hb_1509, hc_1510, hc_1510.2, lt_le hc_1510.2], (weak_sel [0] (by decide) rfl (by simp only [go_sem, reduceIte, Nat.reduceLT, Nat.reduceEqDiff, Nat.reduceAdd, Nat.reduceBEq, Nat.reduceMul, Nat.reduceSub, Nat.reduceGT, Nat.reducePow, Nat.reduceLeDiff, Int.reduceToNat]) (by simp only [go_sem, reduceIte, Nat.reduceLT, Nat.reduceEqDiff, Nat.reduceAdd, Nat.reduceBEq, Nat.reduceMul, Nat.reduceSub, Nat.reduceGT, Nat.reducePow, Nat.reduceLeDiff, Int.reduceToNat]))⟩
        refine run_condL (b := t_1506) rfl (by decide) (fun hb => ?_) (fun hb => ?_)
        · replace h := ite_t h hb
          replace h := chk_some h; obtain ⟨hc_1511, h⟩ := h
          replace h := chk_some h; obtain ⟨hc_1512, h⟩ := h
          replace h := lt1_some h; obtain ⟨l_1513, hz_1514, h⟩ := h
          refine run_textE0 hE (wk_block wk_join) [0, 3, 4] (fr' := [(0, .sl false (L cU8 b_1316)), (3, .bs false 0 (l_1513.length) 0 (l_1513.length)), (4, i64 i_1451)]) (σ' := [.buf 1 (L cU8 l_1513) false, .buf 1 (L cU8 (([(125 : UInt8), (nth b_1316 i_1451.toNat ^^^ (32 : UInt8))] : List UInt8))) false]) ⟨_, orcs_nil, ?_⟩ ?_
          · subst hz_1514; simp only [go_sem, reduceIte, Nat.reduceLT, Nat.reduceEqDiff, Nat.reduceAdd, Nat.reduceBEq, Nat.reduceMul, Nat.reduceSub, Nat.reduceGT, Nat.reducePow, Nat.reduceLeDiff, Int.reduceToNat, hc_1511, hc_1511.2, lt_le hc_1511.2, hc_1512]
          refine blockK_n ?_
          obtain rfl := Option.some.inj h
          exact joinK_n l_1513 rfl (weak_sel [0] (by decide) rfl (by simp only [go_sem, reduceIte, Nat.reduceLT, Nat.reduceEqDiff, Nat.reduceAdd, Nat.reduceBEq, Nat.reduceMul, Nat.reduceSub, Nat.reduceGT, Nat.reducePow, Nat.reduceLeDiff, Int.reduceToNat]) (by simp only [go_sem, reduceIte, Nat.reduceLT, Nat.reduceEqDiff, Nat.reduceAdd, Nat.reduceBEq, Nat.reduceMul, Nat.reduceSub, Nat.reduceGT, Nat.reducePow, Nat.reduceLeDiff, Int.reduceToNat]))
        · replace h := ite_f h hb
          replace h := chk_some h; obtain ⟨hc_1515, h⟩ := h
          replace h := chk_some h; obtain ⟨hc_1516, h⟩ := h
          replace h := lt1_some h; obtain ⟨l_1517, hz_1518, h⟩ := h
          refine run_textE0 hE (wk_block wk_join) [0, 3, 4] (fr' := [(0, .sl false (L cU8 b_1316)), (3, .bs false 0 (l_1517.length) 0 (l_1517.length)), (4, i64 i_1451)]) (σ' := [.buf 1 (L cU8 l_1517) false, .buf 1 (L cU8 (([nth b_1316 i_1451.toNat] : List UInt8))) false]) ⟨_, orcs_nil, ?_⟩ ?_
          · subst hz_1518; simp only [go_sem, reduceIte, Nat.reduceLT, Nat.reduceEqDiff, Nat.reduceAdd, Nat.reduceBEq, Nat.reduceMul, Nat.reduceSub, Nat.reduceGT, Nat.reducePow, Nat.reduceLeDiff, Int.reduceToNat, hc_1515, hc_1515.2, lt_le hc_1515.2, hc_1516]
          refine blockK_n ?_
          obtain rfl := Option.some.inj h
          exact joinK_n l_1517 rfl (weak_sel [0] (by decide) rfl (by simp only [go_sem, reduceIte, Nat.reduceLT, Nat.reduceEqDiff, Nat.reduceAdd, Nat.reduceBEq, Nat.reduceMul, Nat.reduceSub, Nat.reduceGT, Nat.reducePow, Nat.reduceLeDiff, Int.reduceToNat]) (by simp only [go_sem, reduceIte, Nat.reduceLT, Nat.reduceEqDiff, Nat.reduceAdd, Nat.reduceBEq, Nat.reduceMul, Nat.reduceSub, Nat.reduceGT, Nat.reducePow, Nat.reduceLeDiff, Int.reduceToNat]))
      rintro l_1502 rfl
      have h := hj_1505; clear hj_1505
      refine run_textE0 hE wk_lp [0, 3, 4] (fr' := [(0, .sl false (L cU8 b_1316)), (3, .bs false 0 (l_1502.length) 0 (l_1502.length)), (4, i64 ((w64 (i_1451 + 1))))]) (σ' := [.buf 1 (L cU8 l_1502) false]) ⟨_, orcs_nil, ?_⟩ ?_
      · simp only [go_sem, reduceIte, Nat.reduceLT, Nat.reduceEqDiff, Nat.reduceAdd, Nat.reduceBEq, Nat.reduceMul, Nat.reduceSub, Nat.reduceGT, Nat.reducePow, Nat.reduceLeDiff, Int.reduceToNat]
      obtain rfl := Option.some.inj h
      exact lpK_n (((w64 (i_1451 + 1)), l_1502)) rfl (weak_sel [0] (by decide) rfl (by simp only [go_sem, reduceIte, Nat.reduceLT, Nat.reduceEqDiff, Nat.reduceAdd, Nat.reduceBEq, Nat.reduceMul, Nat.reduceSub, Nat.reduceGT, Nat.reducePow, Nat.reduceLeDiff, Int.reduceToNat]) (by simp only [go_sem, reduceIte, Nat.reduceLT, Nat.reduceEqDiff, Nat.reduceAdd, Nat.reduceBEq, Nat.reduceMul, Nat.reduceSub, Nat.reduceGT, Nat.reducePow, Nat.reduceLeDiff, Int.reduceToNat]))
    · replace h := ite_f h hb
      refine run_exit ?_
      refine thenK_x ?_
      obtain rfl := Option.some.inj h
      have ex_x_1484 := hxx_1488 _ rfl
      subst ex_x_1484
      have h := hj_1486; clear hj_1486
      refine lpK_x ?_
      refine blockK_x ?_
      obtain rfl := Option.some.inj h
      exact joinK_n l_1452 rfl ((weak_sel (l' := [(3, .bs false 0 (l_1452.length) 0 (l_1452.length))]) (σ' := [.buf 1 (L cU8 l_1452) false]) [0] (by decide) rfl (by simp only [go_sem, reduceIte, Nat.reduceLT, Nat.reduceEqDiff, Nat.reduceAdd, Nat.reduceBEq, Nat.reduceMul, Nat.reduceSub, Nat.reduceGT, Nat.reducePow, Nat.reduceLeDiff, Int.reduceToNat]) (by simp only [go_sem, reduceIte, Nat.reduceLT, Nat.reduceEqDiff, Nat.reduceAdd, Nat.reduceBEq, Nat.reduceMul, Nat.reduceSub, Nat.reduceGT, Nat.reducePow, Nat.reduceLeDiff, Int.reduceToNat])).trans (weak_sel [0] (by decide) rfl (by simp only [go_sem, reduceIte, Nat.reduceLT, Nat.reduceEqDiff, Nat.reduceAdd, Nat.reduceBEq, Nat.reduceMul, Nat.reduceSub, Nat.reduceGT, Nat.reducePow, Nat.reduceLeDiff, Int.reduceToNat]) (by simp only [go_sem, reduceIte, Nat.reduceLT, Nat.reduceEqDiff, Nat.reduceAdd, Nat.reduceBEq, Nat.reduceMul, Nat.reduceSub, Nat.reduceGT, Nat.reducePow, Nat.reduceLeDiff, Int.reduceToNat])))
  rintro l_1417 rfl
  have h := hj_1420; clear hj_1420
  replace h := chk_some h; obtain ⟨hc_1519, h⟩ := h
  replace h := lt1_some h; obtain ⟨l_1520, hz_1521, h⟩ := h
  refine run_textE hE [2] (fr' := [(2, .bs false 0 (l_1520.length) 0 (l_1520.length))]) (σ' := [.buf 1 (L cU8 l_1520) false, .buf 1 (L cU8 (([(126 : UInt8)] : List UInt8))) false]) ⟨_, orcs_nil, ?_⟩ ?_
  · subst hz_1521; simp only [go_sem, reduceIte, Nat.reduceLT, Nat.reduceEqDiff, Nat.reduceAdd, Nat.reduceBEq, Nat.reduceMul, Nat.reduceSub, Nat.reduceGT, Nat.reducePow, Nat.reduceLeDiff, Int.reduceToNat, hc_1519]
  refine run_ret ?_
  obtain rfl := Option.some.inj h
  refine ret_ok (.inr rfl) ?_
  simp only [go_sem, reduceIte, Nat.reduceLT, Nat.reduceEqDiff, Nat.reduceAdd, Nat.reduceBEq, Nat.reduceMul, Nat.reduceSub, Nat.reduceGT, Nat.reducePow, Nat.reduceLeDiff, Int.reduceToNat]

theorem r10_Sealed_con {b_1522 : List UInt8} {c_1523 : UInt32} {r : List UInt8} (h : r10_Sealed b_1522 c_1523 = some r) : Con B 22 [.sl false (L cU8 b_1522), u32 c_1523] [] (fun r' σ' => r' = .sl false (L cU8 r) ∧ σ' = []) := by
  refine con_walk (N := 24) (rs := [.tmp 4]) ok Try.func22 rfl (by decide +kernel) rfl rfl (Nat.le_of_ble_eq_true rfl) (fun F => ?_)
  have hE := ok.env F
  unfold r10_Sealed at h
  show Run (B.env F) 0 _ ⟨asFr 24 [(0, .sl false (L cU8 b_1522)), (1, u32 c_1523)], []⟩ _
  refine run_textE hE [0, 1] (fr' := [(0, .sl false (L cU8 b_1522)), (1, u32 c_1523)]) (σ' := []) ⟨_, orcs_nil, ?_⟩ ?_
  · simp only [go_sem, reduceIte, Nat.reduceLT, Nat.reduceEqDiff, Nat.reduceAdd, Nat.reduceBEq, Nat.reduceMul, Nat.reduceSub, Nat.reduceGT, Nat.reducePow, Nat.reduceLeDiff, Int.reduceToNat]
  replace h := lt1_some h; obtain ⟨l_1524, hz_1525, h⟩ := h
  refine run_textE hE [0, 1, 5] (fr' := [(0, .sl false (L cU8 b_1522)), (1, u32 c_1523), (5, .bs true 0 (l_1524.length) 0 (l_1524.length))]) (σ' := [.buf 1 (L cU8 l_1524) false]) ⟨_, orcs_nil, ?_⟩ ?_
  · subst hz_1525; simp only [go_sem, reduceIte, Nat.reduceLT, Nat.reduceEqDiff, Nat.reduceAdd, Nat.reduceBEq, Nat.reduceMul, Nat.reduceSub, Nat.reduceGT, Nat.reducePow, Nat.reduceLeDiff, Int.reduceToNat]
  replace h := chk_some h; obtain ⟨hc_1526, h⟩ := h
  replace h := lt1_some h; obtain ⟨l_1527, hz_1528, h⟩ := h
  refine run_textE hE [1, 5] (fr' := [(1, u32 c_1523), (5, .bs false 0 (l_1527.length) 0 (l_1527.length))]) (σ' := [.buf 1 (L cU8 l_1527) false]) ⟨_, orcs_nil, ?_⟩ ?_
  · subst hz_1528; simp only [go_sem, reduceIte, Nat.reduceLT, Nat.reduceEqDiff, Nat.reduceAdd, Nat.reduceBEq, Nat.reduceMul, Nat.reduceSub, Nat.reduceGT, Nat.reducePow, Nat.reduceLeDiff, Int.reduceToNat, hc_1526]
  replace h := chk_some h; obtain ⟨hc_1529, h⟩ := h
  replace h := lt1_some h; obtain ⟨l_1530, hz_1531, h⟩ := h
  refine run_textE hE [4] (fr' := [(4, .bs false 0 (l_1530.length) 0 (l_1530.length))]) (σ' := [.buf 1 (L cU8 l_1530) false, .buf 1 (L cU8 (([((shr32 c_1523 ((24 : UInt64)).toNat)).toUInt8, ((shr32 c_1523 ((16 : UInt64)).toNat)).toUInt8, ((shr32 c_1523 ((8 : UInt64)).toNat)).toUInt8, c_1523.toUInt8] : List UInt8))) false]) ⟨_, orcs_nil, ?_⟩ ?_
  · subst hz_1531; simp only [go_sem, reduceIte, Nat.reduceLT, Nat.reduceEqDiff, Nat.reduceAdd, Nat.reduceBEq, Nat.reduceMul, Nat.reduceSub, Nat.reduceGT, Nat.reducePow, Nat.reduceLeDiff, Int.reduceToNat, hc_1529]
  refine run_ret ?_
  obtain rfl := Option.some.inj h
  refine ret_ok (.inr rfl) ?_
  simp only [go_sem, reduceIte, Nat.reduceLT, Nat.reduceEqDiff, Nat.reduceAdd, Nat.reduceBEq, Nat.reduceMul, Nat.reduceSub, Nat.reduceGT, Nat.reducePow, Nat.reduceLeDiff, Int.reduceToNat]

end Go.Proofs.Ytneejmndnihaoaa
