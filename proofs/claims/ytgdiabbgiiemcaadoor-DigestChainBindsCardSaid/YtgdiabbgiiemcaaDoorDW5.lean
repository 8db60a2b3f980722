/-
  The functions compute just that.
-/
import Derived.Test.YtgdiabbgiiemcaaDoorDW4
import Derived.KernelRfl
namespace Go.Proofs.YtgdiabbgiiemcaaDoor
open Go.Rv
set_option linter.unusedVariables false
set_option linter.unusedSimpArgs false
set_option maxRecDepth 20000

theorem r02_padded_con {b_1932 : List UInt8} {r : List UInt8} (h : r02_padded b_1932 = some r) : Con B 29 [.sl false (L cU8 b_1932)] [] (fun r' σ' => r' = .sl false (L cU8 r) ∧ σ' = []) := by
  refine con_walk (N := 38) (rs := [.tmp 2]) ok Tryd.func29 rfl (by decide +kernel) rfl rfl (Nat.le_of_ble_eq_true rfl) (fun F => ?_)
  have hE := ok.env F
  unfold r02_padded at h
  show Run (B.env F) 0 _ ⟨asFr 38 [(0, .sl false (L cU8 b_1932))], []⟩ _
  refine run_textE hE [0] (fr' := [(0, .sl false (L cU8 b_1932))]) (σ' := []) ⟨_, orcs_nil, ?_⟩ ?_
  · simp only [go_sem, reduceIte, Nat.reduceLT, Nat.reduceEqDiff, Nat.reduceAdd, Nat.reduceBEq, Nat.reduceMul, Nat.reduceSub, Nat.reduceGT, Nat.reducePow, Nat.reduceLeDiff, Int.reduceToNat]
  replace h := lt1_some h; obtain ⟨l_1933, hz_1934, h⟩ := h
  refine run_textE hE [0, 3] (fr' := [(0, .sl false (L cU8 b_1932)), (3, .bs true 0 (l_1933.length) 0 (l_1933.length))]) (σ' := [.buf 1 (L cU8 l_1933) false]) ⟨_, orcs_nil, ?_⟩ ?_
  · subst hz_1934; simp only [go_sem, reduceIte, Nat.reduceLT, Nat.reduceEqDiff, Nat.reduceAdd, Nat.reduceBEq, Nat.reduceMul, Nat.reduceSub, Nat.reduceGT, Nat.reducePow, Nat.reduceLeDiff, Int.reduceToNat]
  replace h := chk_some h; obtain ⟨hc_1935, h⟩ := h
  replace h := lt1_some h; obtain ⟨l_1936, hz_1937, h⟩ := h
  refine run_textE hE [0, 3] (fr' := [(0, .sl false (L cU8 b_1932)), (3, .bs false 0 (l_1936.length) 0 (l_1936.length))]) (σ' := [.buf 1 (L cU8 l_1936) false]) ⟨_, orcs_nil, ?_⟩ ?_
  · subst hz_1937; simp only [go_sem, reduceIte, Nat.reduceLT, Nat.reduceEqDiff, Nat.reduceAdd, Nat.reduceBEq, Nat.reduceMul, Nat.reduceSub, Nat.reduceGT, Nat.reducePow, Nat.reduceLeDiff, Int.reduceToNat, hc_1935]
  replace h := chk_some h; obtain ⟨hc_1938, h⟩ := h
  replace h := lt1_some h; obtain ⟨l_1939, hz_1940, h⟩ := h
  refine run_textE hE [0, 3] (fr' := [(0, .sl false (L cU8 b_1932)), (3, .bs false 0 (l_1939.length) 0 (l_1939.length))]) (σ' := [.buf 1 (L cU8 l_1939) false, .buf 1 (L cU8 (([(128 : UInt8)] : List UInt8))) false]) ⟨_, orcs_nil, ?_⟩ ?_
  · subst hz_1940; simp only [go_sem, reduceIte, Nat.reduceLT, Nat.reduceEqDiff, Nat.reduceAdd, Nat.reduceBEq, Nat.reduceMul, Nat.reduceSub, Nat.reduceGT, Nat.reducePow, Nat.reduceLeDiff, Int.reduceToNat, hc_1938]
  replace h := bind_some1 h; obtain ⟨j_1961, hA_1962, hj_1963⟩ := h
  refine run_join (fun (v : List UInt8) => (⟨asFr 38 [(0, .sl false (L cU8 b_1932)), (3, .bs false 0 (v.length) 0 (v.length))], [.buf 1 (L cU8 v) false]⟩ : St)) (fun v => v = j_1961) ?_ ?_
  · have h := hA_1962; clear hA_1962
    refine run_block ?_
    replace h := bind_some1 h; obtain ⟨x_1974, hx_1975, hj_1976⟩ := h
    refine run_loopO hx_1975 (fun (v : List UInt8) => (⟨asFr 38 [(0, .sl false (L cU8 b_1932)), (3, .bs false 0 (v.length) 0 (v.length))], [.buf 1 (L cU8 v) false]⟩ : St)) (weak_sel [0] (by decide) rfl (by simp only [go_sem, reduceIte, Nat.reduceLT, Nat.reduceEqDiff, Nat.reduceAdd, Nat.reduceBEq, Nat.reduceMul, Nat.reduceSub, Nat.reduceGT, Nat.reducePow, Nat.reduceLeDiff, Int.reduceToNat]) (by simp only [go_sem, reduceIte, Nat.reduceLT, Nat.reduceEqDiff, Nat.reduceAdd, Nat.reduceBEq, Nat.reduceMul, Nat.reduceSub, Nat.reduceGT, Nat.reducePow, Nat.reduceLeDiff, Int.reduceToNat])) ?_
    rintro l_1968 o_1977 h hxx_1978
    replace h : r02_padded_b1 l_1968 = some o_1977 := h
    unfold r02_padded_b1 at h
    refine run_seq ?_
    have hk_1979 : ¬(64 : Int) = 0 := by decide
    refine run_textE hE [0, 3, 16] (fr' := [(0, .sl false (L cU8 b_1932)), (3, .bs false 0 (l_1968.length) 0 (l_1968.length)), (16, .bool (((((l_1968.length : Int) : Int).tmod 64) != 56)))]) (σ' := [.buf 1 (L cU8 l_1968) false]) ⟨_, orcs_nil, ?_⟩ ?_
    · simp only [go_sem, reduceIte, Nat.reduceLT, Nat.reduceEqDiff, Nat.reduceAdd, Nat.reduceBEq, Nat.reduceMul, Nat.reduceSub, Nat.reduceGT, Nat.reducePow, Nat.reduceLeDiff, Int.reduceToNat, hk_1979]
    refine run_condL (b := ((((l_1968.length : Int) : Int).tmod 64) != 56)) rfl (by decide) (fun hb => ?_) (fun hb => ?_)
    · replace h := ite_t h hb
      refine run_skip ?_
      refine thenK_n ?_
      refine run_block ?_
      replace h := chk_some h; obtain ⟨hc_1980, h⟩ := h
      replace h := lt1_some h; obtain ⟨l_1981, hz_1982, h⟩ := h
      refine run_textE0 hE (wk_block wk_lp) [0, 3] (fr' := [(0, .sl false (L cU8 b_1932)), (3, .bs false 0 (l_1981.length) 0 (l_1981.length))]) (σ' := [.buf 1 (L cU8 l_1981) false, .buf 1 (L cU8 (([(0 : UInt8)] : List UInt8))) false]) ⟨_, orcs_nil, ?_⟩ ?_
      · subst hz_1982; simp only [go_sem, reduceIte, Nat.reduceLT, Nat.reduceEqDiff, Nat.reduceAdd, Nat.reduceBEq, Nat.reduceMul, Nat.reduceSub, Nat.reduceGT, Nat.reducePow, Nat.reduceLeDiff, Int.reduceToNat, hc_1980]
      refine blockK_n ?_
      obtain rfl := Option.some.inj h
      exact lpK_n l_1981 rfl (weak_sel [0] (by decide) rfl (by simp only [go_sem, reduceIte, Nat.reduceLT, Nat.reduceEqDiff, Nat.reduceAdd, Nat.reduceBEq, Nat.reduceMul, Nat.reduceSub, Nat.reduceGT, Nat.reducePow, Nat.reduceLeDiff, Int.reduceToNat]) (by simp only [go_sem, reduceIte, Nat.reduceLT, Nat.reduceEqDiff, Nat.reduceAdd, Nat.reduceBEq, Nat.reduceMul, Nat.reduceSub, Nat.reduceGT, Nat.reducePow, Nat.reduceLeDiff, Int.reduceToNat]))
    · replace h := ite_f h hb
      refine run_exit ?_
      refine thenK_x ?_
      obtain rfl := Option.some.inj h
      have ex_x_1974 := hxx_1978 _ rfl
      subst ex_x_1974
      have h := hj_1976; clear hj_1976
      refine lpK_x ?_
      refine blockK_x ?_
      obtain rfl := Option.some.inj h
      exact joinK_n l_1968 rfl ((weak_sel (l' := [(0, .sl false (L cU8 b_1932)), (3, .bs false 0 (l_1968.length) 0 (l_1968.length))]) (σ' := [.buf 1 (L cU8 l_1968) false]) [0] (by decide) rfl (by simp only [go_sem, reduceIte, Nat.reduceLT, Nat.reduceEqDiff, Nat.reduceAdd, Nat.reduceBEq, Nat.reduceMul, Nat.reduceSub, Nat.reduceGT, Nat.reducePow, Nat.reduceLeDiff, Int.reduceToNat]) (by simp only [go_sem, reduceIte, Nat.reduceLT, Nat.reduceEqDiff, Nat.reduceAdd, Nat.reduceBEq, Nat.reduceMul, Nat.reduceSub, Nat.reduceGT, Nat.reducePow, Nat.reduceLeDiff, Int.reduceToNat])).trans (weak_sel [0] (by decide) rfl (by simp only [go_sem, reduceIte, Nat.reduceLT, Nat.reduceEqDiff, Nat.reduceAdd, Nat.reduceBEq, Nat.reduceMul, Nat.reduceSub, Nat.reduceGT, Nat.reducePow, Nat.reduceLeDiff, Int.reduceToNat]) (by simp only [go_sem, reduceIte, Nat.reduceLT, Nat.reduceEqDiff, Nat.reduceAdd, Nat.reduceBEq, Nat.reduceMul, Nat.reduceSub, Nat.reduceGT, Nat.reducePow, Nat.reduceLeDiff, Int.reduceToNat])))
  rintro l_1960 rfl
  have h := hj_1963; clear hj_1963
  replace h := lt1_some h; obtain ⟨n_1983, hz_1984, h⟩ := h
  refine run_textE hE [3, 4] (fr' := [(3, .bs false 0 (l_1960.length) 0 (l_1960.length)), (4, u64 n_1983)]) (σ' := [.buf 1 (L cU8 l_1960) false]) ⟨_, orcs_nil, ?_⟩ ?_
  · subst hz_1984; simp only [go_sem, reduceIte, Nat.reduceLT, Nat.reduceEqDiff, Nat.reduceAdd, Nat.reduceBEq, Nat.reduceMul, Nat.reduceSub, Nat.reduceGT, Nat.reducePow, Nat.reduceLeDiff, Int.reduceToNat]
  replace h := bind_some1 h; obtain ⟨j_2006, hA_2007, hj_2008⟩ := h
  refine run_join (fun (v : List UInt8) => (⟨asFr 38 [(3, .bs false 0 (v.length) 0 (v.length))], [.buf 1 (L cU8 v) false]⟩ : St)) (fun v => v = j_2006) ?_ ?_
  · have h := hA_2007; clear hA_2007
    refine run_textE hE [3, 4, 5] (fr' := [(3, .bs false 0 (l_1960.length) 0 (l_1960.length)), (4, u64 n_1983), (5, i64 0)]) (σ' := [.buf 1 (L cU8 l_1960) false]) ⟨_, orcs_nil, ?_⟩ ?_
    · simp only [go_sem, reduceIte, Nat.reduceLT, Nat.reduceEqDiff, Nat.reduceAdd, Nat.reduceBEq, Nat.reduceMul, Nat.reduceSub, Nat.reduceGT, Nat.reducePow, Nat.reduceLeDiff, Int.reduceToNat]
    refine run_block ?_
    replace h := bind_some1 h; obtain ⟨x_2020, hx_2021, hj_2022⟩ := h
    refine run_loopO hx_2021 (fun (v : Int × List UInt8) => (⟨asFr 38 [(3, .bs false 0 (v.2.length) 0 (v.2.length)), (4, u64 n_1983), (5, i64 v.1)], [.buf 1 (L cU8 v.2) false]⟩ : St)) (weak_sel [0] (by decide) rfl (by simp only [go_sem, reduceIte, Nat.reduceLT, Nat.reduceEqDiff, Nat.reduceAdd, Nat.reduceBEq, Nat.reduceMul, Nat.reduceSub, Nat.reduceGT, Nat.reducePow, Nat.reduceLeDiff, Int.reduceToNat]) (by simp only [go_sem, reduceIte, Nat.reduceLT, Nat.reduceEqDiff, Nat.reduceAdd, Nat.reduceBEq, Nat.reduceMul, Nat.reduceSub, Nat.reduceGT, Nat.reducePow, Nat.reduceLeDiff, Int.reduceToNat])) ?_
    rintro ⟨i_2013, l_2014⟩ o_2023 h hxx_2024
    replace h : r02_padded_b2 n_1983 i_2013 l_2014 = some o_2023 := h
    unfold r02_padded_b2 at h
    refine run_seq ?_
    refine run_textE hE [3, 4, 5, 25] (fr' := [(3, .bs false 0 (l_2014.length) 0 (l_2014.length)), (4, u64 n_1983), (5, i64 i_2013), (25, .bool ((decide (i_2013 < 8))))]) (σ' := [.buf 1 (L cU8 l_2014) false]) ⟨_, orcs_nil, ?_⟩ ?_
    · simp only [go_sem, reduceIte, Nat.reduceLT, Nat.reduceEqDiff, Nat.reduceAdd, Nat.reduceBEq, Nat.reduceMul, Nat.reduceSub, Nat.reduceGT, Nat.reducePow, Nat.reduceLeDiff, Int.reduceToNat]
    refine run_condL (b := (decide (i_2013 < 8))) rfl (by decide) (fun hb => ?_) (fun hb => ?_)
    · replace h := ite_t h hb
      refine run_skip ?_
      refine thenK_n ?_
      refine run_seq ?_
      refine run_block ?_
      replace h := chk_some h; obtain ⟨hc_2025, h⟩ := h
      replace h := chk_some h; obtain ⟨hc_2026, h⟩ := h
      replace h := lt1_some h; obtain ⟨l_2027, hz_2028, h⟩ := h
      refine run_textE0 hE (wk_block wk_then) [3, 4, 5] (fr' := [(3, .bs false 0 (l_2027.length) 0 (l_2027.length)), (4, u64 n_1983), (5, i64 i_2013)]) (σ' := [.buf 1 (L cU8 l_2027) false, .buf 1 (L cU8 (([((shr64 n_1983 (((w64 (56 - (w64 (8 * i_2013))))).toNat))).toUInt8] : List UInt8))) false]) ⟨_, orcs_nil, ?_⟩ ?_
      · subst hz_2028; simp only [go_sem, reduceIte, Nat.reduceLT, Nat.reduceEqDiff, Nat.reduceAdd, Nat.reduceBEq, Nat.reduceMul, Nat.reduceSub, Nat.reduceGT, Nat.reducePow, Nat.reduceLeDiff, Int.reduceToNat, hc_2025, hc_2026]
      refine blockK_n ?_
      refine thenK_n ?_
      refine run_textE0 hE wk_lp [3, 4, 5] (fr' := [(3, .bs false 0 (l_2027.length) 0 (l_2027.length)), (4, u64 n_1983), (5, i64 ((w64 (i_2013 + 1))))]) (σ' := [.buf 1 (L cU8 l_2027) false, .buf 1 (L cU8 (([((shr64 n_1983 (((w64 (56 - (w64 (8 * i_2013))))).toNat))).toUInt8] : List UInt8))) false]) ⟨_, orcs_nil, ?_⟩ ?_
      · simp only [go_sem, reduceIte, Nat.reduceLT, Nat.reduceEqDiff, Nat.reduceAdd, Nat.reduceBEq, Nat.reduceMul, Nat.reduceSub, Nat.reduceGT, Nat.reducePow, Nat.reduceLeDiff, Int.reduceToNat]
      obtain rfl := Option.some.inj h
      exact lpK_n (((w64 (i_2013 + 1)), l_2027)) rfl (weak_sel [0] (by decide) rfl (by simp only [go_sem, reduceIte, Nat.reduceLT, Nat.reduceEqDiff, Nat.reduceAdd, Nat.reduceBEq, Nat.reduceMul, Nat.reduceSub, Nat.reduceGT, Nat.reducePow, Nat.reduceLeDiff, Int.reduceToNat]) (by simp only [go_sem, reduceIte, Nat.reduceLT, Nat.reduceEqDiff, Nat.reduceAdd, Nat.reduceBEq, Nat.reduceMul, Nat.reduceSub, Nat.reduceGT, Nat.reducePow, Nat.reduceLeDiff, Int.reduceToNat]))
    · replace h := ite_f h hb
      refine run_exit ?_
      refine thenK_x ?_
      obtain rfl := Option.some.inj h
      have ex_x_2020 := hxx_2024 _ rfl
      subst ex_x_2020
      have h := hj_2022; clear hj_2022
      refine lpK_x ?_
      refine blockK_x ?_
      obtain rfl := Option.some.inj h
      exact joinK_n l_2014 rfl ((weak_sel (l' := [(3, .bs false 0 (l_2014.length) 0 (l_2014.length))]) (σ' := [.buf 1 (L cU8 l_2014) false]) [0] (by decide) rfl (by simp only [go_sem, reduceIte, Nat.reduceLT, Nat.reduceEqDiff, Nat.reduceAdd, Nat.reduceBEq, Nat.reduceMul, Nat.reduceSub, Nat.reduceGT, Nat.reducePow, Nat.reduceLeDiff, Int.reduceToNat]) (by simp only [go_sem, reduceIte, Nat.reduceLT, Nat.reduceEqDiff, Nat.reduceAdd, Nat.reduceBEq, Nat.reduceMul, Nat.reduceSub, Nat.reduceGT, Nat.reducePow, Nat.reduceLeDiff, Int.reduceToNat])).trans (weak_sel [0] (by decide) rfl (by simp only [go_sem, reduceIte, Nat.reduceLT, Nat.reduceEqDiff, Nat.reduceAdd, Nat.reduceBEq, Nat.reduceMul, Nat.reduceSub, Nat.reduceGT, Nat.reducePow, Nat.reduceLeDiff, Int.reduceToNat]) (by simp only [go_sem, reduceIte, Nat.reduceLT, Nat.reduceEqDiff, Nat.reduceAdd, Nat.reduceBEq, Nat.reduceMul, Nat.reduceSub, Nat.reduceGT, Nat.reducePow, Nat.reduceLeDiff, Int.reduceToNat])))
  rintro l_2005 rfl
  have h := hj_2008; clear hj_2008
  refine run_textE hE [2] (fr' := [(2, .bs false 0 (l_2005.length) 0 (l_2005.length))]) (σ' := [.buf 1 (L cU8 l_2005) false]) ⟨_, orcs_nil, ?_⟩ ?_
  · simp only [go_sem, reduceIte, Nat.reduceLT, Nat.reduceEqDiff, Nat.reduceAdd, Nat.reduceBEq, Nat.reduceMul, Nat.reduceSub, Nat.reduceGT, Nat.reducePow, Nat.reduceLeDiff, Int.reduceToNat]
  refine run_ret ?_
  obtain rfl := Option.some.inj h
  refine ret_ok (.inr rfl) ?_
  simp only [go_sem, reduceIte, Nat.reduceLT, Nat.reduceEqDiff, Nat.reduceAdd, Nat.reduceBEq, Nat.reduceMul, Nat.reduceSub, Nat.reduceGT, Nat.reducePow, Nat.reduceLeDiff, Int.reduceToNat]

end Go.Proofs.YtgdiabbgiiemcaaDoor
