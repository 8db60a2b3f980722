/-
  The functions compute just that.
-/
import Derived.Test.YtgdiabbgiiemcaaDoorDW5
import Derived.KernelRfl
namespace Go.Proofs.YtgdiabbgiiemcaaDoor
open Go.Rv
set_option linter.unusedVariables false
set_option linter.unusedSimpArgs false
set_option maxRecDepth 20000

theorem digest_sum_con {parts_2029 : List (List UInt8)} {r : Arr UInt8 32} (h : digest_sum parts_2029 = some r) : Con B 28 [.sl false (L (cSl cU8) parts_2029)] [] (fun r' σ' => r' = .agg (C1 u8 r.l) ∧ σ' = []) := by
  refine con_walk (N := 72) (rs := [.cell 2 25]) ok Tryd.func28 rfl (by decide +kernel) rfl rfl (Nat.le_of_ble_eq_true rfl) (fun F => ?_)
  have hE := ok.env F
  unfold digest_sum at h
  show Run (B.env F) 0 _ ⟨asFr 72 [(0, .sl false (L (cSl cU8) parts_2029))], []⟩ _
  refine run_textE hE [0, 2] (fr' := [(0, .sl false (L (cSl cU8) parts_2029)), (2, .ref 0 0)]) (σ' := [.box (C1 u8 ((Arr.rep 32 (0 : UInt8))).l) false]) ⟨_, orcs_nil, ?_⟩ ?_
  · simp only [go_sem, reduceIte, Nat.reduceLT, Nat.reduceEqDiff, Nat.reduceAdd, Nat.reduceBEq, Nat.reduceMul, Nat.reduceSub, Nat.reduceGT, Nat.reducePow, Nat.reduceLeDiff, Int.reduceToNat]
  refine run_textE hE [0, 2, 3] (fr' := [(0, .sl false (L (cSl cU8) parts_2029)), (2, .ref 0 0), (3, .sl true (L cU8 ([])))]) (σ' := [.box (C1 u8 ((Arr.rep 32 (0 : UInt8))).l) false]) ⟨_, orcs_nil, ?_⟩ ?_
  · simp only [go_sem, reduceIte, Nat.reduceLT, Nat.reduceEqDiff, Nat.reduceAdd, Nat.reduceBEq, Nat.reduceMul, Nat.reduceSub, Nat.reduceGT, Nat.reducePow, Nat.reduceLeDiff, Int.reduceToNat]
  replace h := bind_some1 h; obtain ⟨j_2055, hA_2056, hj_2057⟩ := h
  refine run_join (fun (v : List UInt8) => (⟨asFr 72 [(2, .ref 0 0), (3, .bs false 1 (v.length) 0 (v.length))], [.box (C1 u8 ((Arr.rep 32 (0 : UInt8))).l) false, .buf 1 (L cU8 v) false]⟩ : St)) (fun v => v = j_2055) ?_ ?_
  · have h := hA_2056; clear hA_2056
    refine run_textE hE [2, 3, 10, 11, 12] (fr' := [(2, .ref 0 0), (3, .sl true (L cU8 ([]))), (10, .sl false (L (cSl cU8) parts_2029)), (11, i64 ((parts_2029.length : Int))), (12, i64 0)]) (σ' := [.box (C1 u8 ((Arr.rep 32 (0 : UInt8))).l) false]) ⟨_, orcs_nil, ?_⟩ ?_
    · simp only [go_sem, reduceIte, Nat.reduceLT, Nat.reduceEqDiff, Nat.reduceAdd, Nat.reduceBEq, Nat.reduceMul, Nat.reduceSub, Nat.reduceGT, Nat.reducePow, Nat.reduceLeDiff, Int.reduceToNat]
    refine run_block ?_
    replace h := bind_some1 h; obtain ⟨x_2071, hx_2072, hj_2073⟩ := h
    refine run_loopO hx_2072 (fun (v : Int × List UInt8) => (⟨asFr 72 [(2, .ref 0 0), (3, .bs false 1 (v.2.length) 0 (v.2.length)), (10, .sl false (L (cSl cU8) parts_2029)), (11, i64 ((parts_2029.length : Int))), (12, i64 v.1)], [.box (C1 u8 ((Arr.rep 32 (0 : UInt8))).l) false, .buf 1 (L cU8 v.2) false]⟩ : St)) ((weak_nil 3 1 rfl).trans (weak_sel [0, 1] (by decide) rfl (by simp only [go_sem, reduceIte, Nat.reduceLT, Nat.reduceEqDiff, Nat.reduceAdd, Nat.reduceBEq, Nat.reduceMul, Nat.reduceSub, Nat.reduceGT, Nat.reducePow, Nat.reduceLeDiff, Int.reduceToNat]) (by simp only [go_sem, reduceIte, Nat.reduceLT, Nat.reduceEqDiff, Nat.reduceAdd, Nat.reduceBEq, Nat.reduceMul, Nat.reduceSub, Nat.reduceGT, Nat.reducePow, Nat.reduceLeDiff, Int.reduceToNat]))) ?_
    rintro ⟨t_2062, l_2063⟩ o_2074 h hxx_2075
    replace h : digest_sum_b1 parts_2029 t_2062 l_2063 = some o_2074 := h
    unfold digest_sum_b1 at h
    refine run_textE hE [2, 3, 10, 11, 12, 13] (fr' := [(2, .ref 0 0), (3, .bs false 1 (l_2063.length) 0 (l_2063.length)), (10, .sl false (L (cSl cU8) parts_2029)), (11, i64 ((parts_2029.length : Int))), (12, i64 t_2062), (13, .bool ((decide (t_2062 < (parts_2029.length : Int)))))]) (σ' := [.box (C1 u8 ((Arr.rep 32 (0 : UInt8))).l) false, .buf 1 (L cU8 l_2063) false]) ⟨_, orcs_nil, ?_⟩ ?_
    · simp only [go_sem, reduceIte, Nat.reduceLT, Nat.reduceEqDiff, Nat.reduceAdd, Nat.reduceBEq, Nat.reduceMul, Nat.reduceSub, Nat.reduceGT, Nat.reducePow, Nat.reduceLeDiff, Int.reduceToNat]
    refine run_seq ?_
    refine run_condL (b := (decide (t_2062 < (parts_2029.length : Int)))) rfl (by decide) (fun hb => ?_) (fun hb => ?_)
    · replace h := ite_t h hb
      refine run_skip ?_
      refine thenK_n ?_
      refine run_seq ?_
      refine run_block ?_
      replace h := chk_some h; obtain ⟨hc_2076, h⟩ := h
      replace h := lt1_some h; obtain ⟨p_2077, hz_2078, h⟩ := h
      refine run_textE hE [2, 3, 5, 10, 11, 12] (fr' := [(2, .ref 0 0), (3, .bs false 1 (l_2063.length) 0 (l_2063.length)), (5, .sl false (L cU8 p_2077)), (10, .sl false (L (cSl cU8) parts_2029)), (11, i64 ((parts_2029.length : Int))), (12, i64 t_2062)]) (σ' := [.box (C1 u8 ((Arr.rep 32 (0 : UInt8))).l) false, .buf 1 (L cU8 l_2063) false]) ⟨_, orcs_nil, ?_⟩ ?_
      · subst hz_2078; simp only [go_sem, reduceIte, Nat.reduceLT, Nat.reduceEqDiff, Nat.reduceAdd, Nat.reduceBEq, Nat.reduceMul, Nat.reduceSub, Nat.reduceGT, Nat.reducePow, Nat.reduceLeDiff, Int.reduceToNat, hc_2076, hc_2076.2, lt_le hc_2076.2]
      replace h := chk_some h; obtain ⟨hc_2079, h⟩ := h
      replace h := lt1_some h; obtain ⟨l_2080, hz_2081, h⟩ := h
      refine run_textE0 hE (wk_block wk_then) [2, 3, 10, 11, 12] (fr' := [(2, .ref 0 0), (3, .bs false 1 (l_2080.length) 0 (l_2080.length)), (10, .sl false (L (cSl cU8) parts_2029)), (11, i64 ((parts_2029.length : Int))), (12, i64 t_2062)]) (σ' := [.box (C1 u8 ((Arr.rep 32 (0 : UInt8))).l) false, .buf 1 (L cU8 l_2080) false]) ⟨_, orcs_nil, ?_⟩ ?_
      · subst hz_2081; simp only [go_sem, reduceIte, Nat.reduceLT, Nat.reduceEqDiff, Nat.reduceAdd, Nat.reduceBEq, Nat.reduceMul, Nat.reduceSub, Nat.reduceGT, Nat.reducePow, Nat.reduceLeDiff, Int.reduceToNat, hc_2079]
      refine blockK_n ?_
      refine thenK_n ?_
      refine run_textE0 hE wk_lp [2, 3, 10, 11, 12] (fr' := [(2, .ref 0 0), (3, .bs false 1 (l_2080.length) 0 (l_2080.length)), (10, .sl false (L (cSl cU8) parts_2029)), (11, i64 ((parts_2029.length : Int))), (12, i64 ((w64 (t_2062 + 1))))]) (σ' := [.box (C1 u8 ((Arr.rep 32 (0 : UInt8))).l) false, .buf 1 (L cU8 l_2080) false]) ⟨_, orcs_nil, ?_⟩ ?_
      · simp only [go_sem, reduceIte, Nat.reduceLT, Nat.reduceEqDiff, Nat.reduceAdd, Nat.reduceBEq, Nat.reduceMul, Nat.reduceSub, Nat.reduceGT, Nat.reducePow, Nat.reduceLeDiff, Int.reduceToNat]
      obtain rfl := Option.some.inj h
      exact lpK_n (((w64 (t_2062 + 1)), l_2080)) rfl (weak_sel [0, 1] (by decide) rfl (by simp only [go_sem, reduceIte, Nat.reduceLT, Nat.reduceEqDiff, Nat.reduceAdd, Nat.reduceBEq, Nat.reduceMul, Nat.reduceSub, Nat.reduceGT, Nat.reducePow, Nat.reduceLeDiff, Int.reduceToNat]) (by simp only [go_sem, reduceIte, Nat.reduceLT, Nat.reduceEqDiff, Nat.reduceAdd, Nat.reduceBEq, Nat.reduceMul, Nat.reduceSub, Nat.reduceGT, Nat.reducePow, Nat.reduceLeDiff, Int.reduceToNat]))
    · replace h := ite_f h hb
      refine run_exit ?_
      refine thenK_x ?_
      obtain rfl := Option.some.inj h
      have ex_x_2071 := hxx_2075 _ rfl
      subst ex_x_2071
      have h := hj_2073; clear hj_2073
      refine lpK_x ?_
      refine blockK_x ?_
      obtain rfl := Option.some.inj h
      exact joinK_n l_2063 rfl ((weak_sel (l' := [(2, .ref 0 0), (3, .bs false 1 (l_2063.length) 0 (l_2063.length))]) (σ' := [.box (C1 u8 ((Arr.rep 32 (0 : UInt8))).l) false, .buf 1 (L cU8 l_2063) false]) [0, 1] (by decide) rfl (by simp only [go_sem, reduceIte, Nat.reduceLT, Nat.reduceEqDiff, Nat.reduceAdd, Nat.reduceBEq, Nat.reduceMul, Nat.reduceSub, Nat.reduceGT, Nat.reducePow, Nat.reduceLeDiff, Int.reduceToNat]) (by simp only [go_sem, reduceIte, Nat.reduceLT, Nat.reduceEqDiff, Nat.reduceAdd, Nat.reduceBEq, Nat.reduceMul, Nat.reduceSub, Nat.reduceGT, Nat.reducePow, Nat.reduceLeDiff, Int.reduceToNat])).trans (weak_sel [0, 1] (by decide) rfl (by simp only [go_sem, reduceIte, Nat.reduceLT, Nat.reduceEqDiff, Nat.reduceAdd, Nat.reduceBEq, Nat.reduceMul, Nat.reduceSub, Nat.reduceGT, Nat.reducePow, Nat.reduceLeDiff, Int.reduceToNat]) (by simp only [go_sem, reduceIte, Nat.reduceLT, Nat.reduceEqDiff, Nat.reduceAdd, Nat.reduceBEq, Nat.reduceMul, Nat.reduceSub, Nat.reduceGT, Nat.reducePow, Nat.reduceLeDiff, Int.reduceToNat])))
  rintro l_2054 rfl
  have h := hj_2057; clear hj_2057
  replace h := lt1_some h; obtain ⟨n_2082, hz_2083, h⟩ := h
  refine run_textE hE [2, 3, 6] (fr' := [(2, .ref 0 0), (3, .bs false 1 (l_2054.length) 0 (l_2054.length)), (6, u64 n_2082)]) (σ' := [.box (C1 u8 ((Arr.rep 32 (0 : UInt8))).l) false, .buf 1 (L cU8 l_2054) false]) ⟨_, orcs_nil, ?_⟩ ?_
  · subst hz_2083; simp only [go_sem, reduceIte, Nat.reduceLT, Nat.reduceEqDiff, Nat.reduceAdd, Nat.reduceBEq, Nat.reduceMul, Nat.reduceSub, Nat.reduceGT, Nat.reducePow, Nat.reduceLeDiff, Int.reduceToNat]
  replace h := chk_some h; obtain ⟨hc_2084, h⟩ := h
  replace h := lt1_some h; obtain ⟨l_2085, hz_2086, h⟩ := h
  refine run_textE hE [2, 3, 6] (fr' := [(2, .ref 0 0), (3, .bs false 1 (l_2085.length) 0 (l_2085.length)), (6, u64 n_2082)]) (σ' := [.box (C1 u8 ((Arr.rep 32 (0 : UInt8))).l) false, .buf 1 (L cU8 l_2085) false, .buf 1 (L cU8 (([(128 : UInt8)] : List UInt8))) false]) ⟨_, orcs_nil, ?_⟩ ?_
  · subst hz_2086; simp only [go_sem, reduceIte, Nat.reduceLT, Nat.reduceEqDiff, Nat.reduceAdd, Nat.reduceBEq, Nat.reduceMul, Nat.reduceSub, Nat.reduceGT, Nat.reducePow, Nat.reduceLeDiff, Int.reduceToNat, hc_2084]
  replace h := bind_some1 h; obtain ⟨j_2107, hA_2108, hj_2109⟩ := h
  refine run_join (fun (v : List UInt8) => (⟨asFr 72 [(2, .ref 0 0), (3, .bs false 1 (v.length) 0 (v.length)), (6, u64 n_2082)], [.box (C1 u8 ((Arr.rep 32 (0 : UInt8))).l) false, .buf 1 (L cU8 v) false]⟩ : St)) (fun v => v = j_2107) ?_ ?_
  · have h := hA_2108; clear hA_2108
    refine run_block ?_
    replace h := bind_some1 h; obtain ⟨x_2120, hx_2121, hj_2122⟩ := h
    refine run_loopO hx_2121 (fun (v : List UInt8) => (⟨asFr 72 [(2, .ref 0 0), (3, .bs false 1 (v.length) 0 (v.length)), (6, u64 n_2082)], [.box (C1 u8 ((Arr.rep 32 (0 : UInt8))).l) false, .buf 1 (L cU8 v) false]⟩ : St)) (weak_sel [0, 1] (by decide) rfl (by simp only [go_sem, reduceIte, Nat.reduceLT, Nat.reduceEqDiff, Nat.reduceAdd, Nat.reduceBEq, Nat.reduceMul, Nat.reduceSub, Nat.reduceGT, Nat.reducePow, Nat.reduceLeDiff, Int.reduceToNat]) (by simp only [go_sem, reduceIte, Nat.reduceLT, Nat.reduceEqDiff, Nat.reduceAdd, Nat.reduceBEq, Nat.reduceMul, Nat.reduceSub, Nat.reduceGT, Nat.reducePow, Nat.reduceLeDiff, Int.reduceToNat])) ?_
    rintro l_2114 o_2123 h hxx_2124
    replace h : digest_sum_b2 l_2114 = some o_2123 := h
    unfold digest_sum_b2 at h
    refine run_seq ?_
    have hk_2125 : ¬(64 : Int) = 0 := by decide
    refine run_textE hE [2, 3, 6, 30] (fr' := [(2, .ref 0 0), (3, .bs false 1 (l_2114.length) 0 (l_2114.length)), (6, u64 n_2082), (30, .bool (((((l_2114.length : Int) : Int).tmod 64) != 56)))]) (σ' := [.box (C1 u8 ((Arr.rep 32 (0 : UInt8))).l) false, .buf 1 (L cU8 l_2114) false]) ⟨_, orcs_nil, ?_⟩ ?_
    · simp only [go_sem, reduceIte, Nat.reduceLT, Nat.reduceEqDiff, Nat.reduceAdd, Nat.reduceBEq, Nat.reduceMul, Nat.reduceSub, Nat.reduceGT, Nat.reducePow, Nat.reduceLeDiff, Int.reduceToNat, hk_2125]
    refine run_condL (b := ((((l_2114.length : Int) : Int).tmod 64) != 56)) rfl (by decide) (fun hb => ?_) (fun hb => ?_)
    · replace h := ite_t h hb
      refine run_skip ?_
      refine thenK_n ?_
      refine run_block ?_
      replace h := chk_some h; obtain ⟨hc_2126, h⟩ := h
      replace h := lt1_some h; obtain ⟨l_2127, hz_2128, h⟩ := h
      refine run_textE0 hE (wk_block wk_lp) [2, 3, 6] (fr' := [(2, .ref 0 0), (3, .bs false 1 (l_2127.length) 0 (l_2127.length)), (6, u64 n_2082)]) (σ' := [.box (C1 u8 ((Arr.rep 32 (0 : UInt8))).l) false, .buf 1 (L cU8 l_2127) false, .buf 1 (L cU8 (([(0 : UInt8)] : List UInt8))) false]) ⟨_, orcs_nil, ?_⟩ ?_
      · subst hz_2128; simp only [go_sem, reduceIte, Nat.reduceLT, Nat.reduceEqDiff, Nat.reduceAdd, Nat.reduceBEq, Nat.reduceMul, Nat.reduceSub, Nat.reduceGT, Nat.reducePow, Nat.reduceLeDiff, Int.reduceToNat, hc_2126]
      refine blockK_n ?_
      obtain rfl := Option.some.inj h
      exact lpK_n l_2127 rfl (weak_sel [0, 1] (by decide) rfl (by simp only [go_sem, reduceIte, Nat.reduceLT, Nat.reduceEqDiff, Nat.reduceAdd, Nat.reduceBEq, Nat.reduceMul, Nat.reduceSub, Nat.reduceGT, Nat.reducePow, Nat.reduceLeDiff, Int.reduceToNat]) (by simp only [go_sem, reduceIte, Nat.reduceLT, Nat.reduceEqDiff, Nat.reduceAdd, Nat.reduceBEq, Nat.reduceMul, Nat.reduceSub, Nat.reduceGT, Nat.reducePow, Nat.reduceLeDiff, Int.reduceToNat]))
    · replace h := ite_f h hb
      refine run_exit ?_
      refine thenK_x ?_
      obtain rfl := Option.some.inj h
      have ex_x_2120 := hxx_2124 _ rfl
      subst ex_x_2120
      have h := hj_2122; clear hj_2122
      refine lpK_x ?_
      refine blockK_x ?_
      obtain rfl := Option.some.inj h
      exact joinK_n l_2114 rfl ((weak_sel (l' := [(2, .ref 0 0), (3, .bs false 1 (l_2114.length) 0 (l_2114.length)), (6, u64 n_2082)]) (σ' := [.box (C1 u8 ((Arr.rep 32 (0 : UInt8))).l) false, .buf 1 (L cU8 l_2114) false]) [0, 1] (by decide) rfl (by simp only [go_sem, reduceIte, Nat.reduceLT, Nat.reduceEqDiff, Nat.reduceAdd, Nat.reduceBEq, Nat.reduceMul, Nat.reduceSub, Nat.reduceGT, Nat.reducePow, Nat.reduceLeDiff, Int.reduceToNat]) (by simp only [go_sem, reduceIte, Nat.reduceLT, Nat.reduceEqDiff, Nat.reduceAdd, Nat.reduceBEq, Nat.reduceMul, Nat.reduceSub, Nat.reduceGT, Nat.reducePow, Nat.reduceLeDiff, Int.reduceToNat])).trans (weak_sel [0, 1] (by decide) rfl (by simp only [go_sem, reduceIte, Nat.reduceLT, Nat.reduceEqDiff, Nat.reduceAdd, Nat.reduceBEq, Nat.reduceMul, Nat.reduceSub, Nat.reduceGT, Nat.reducePow, Nat.reduceLeDiff, Int.reduceToNat]) (by simp only [go_sem, reduceIte, Nat.reduceLT, Nat.reduceEqDiff, Nat.reduceAdd, Nat.reduceBEq, Nat.reduceMul, Nat.reduceSub, Nat.reduceGT, Nat.reducePow, Nat.reduceLeDiff, Int.reduceToNat])))
  rintro l_2106 rfl
  have h := hj_2109; clear hj_2109
  replace h := bind_some1 h; obtain ⟨j_2150, hA_2151, hj_2152⟩ := h
  refine run_join (fun (v : List UInt8) => (⟨asFr 72 [(2, .ref 0 0), (3, .bs false 1 (v.length) 0 (v.length))], [.box (C1 u8 ((Arr.rep 32 (0 : UInt8))).l) false, .buf 1 (L cU8 v) false]⟩ : St)) (fun v => v = j_2150) ?_ ?_
  · have h := hA_2151; clear hA_2151
    refine run_textE hE [2, 3, 6, 7] (fr' := [(2, .ref 0 0), (3, .bs false 1 (l_2106.length) 0 (l_2106.length)), (6, u64 n_2082), (7, i64 56)]) (σ' := [.box (C1 u8 ((Arr.rep 32 (0 : UInt8))).l) false, .buf 1 (L cU8 l_2106) false]) ⟨_, orcs_nil, ?_⟩ ?_
    · simp only [go_sem, reduceIte, Nat.reduceLT, Nat.reduceEqDiff, Nat.reduceAdd, Nat.reduceBEq, Nat.reduceMul, Nat.reduceSub, Nat.reduceGT, Nat.reducePow, Nat.reduceLeDiff, Int.reduceToNat]
    refine run_block ?_
    replace h := bind_some1 h; obtain ⟨x_2164, hx_2165, hj_2166⟩ := h
    refine run_loopO hx_2165 (fun (v : Int × List UInt8) => (⟨asFr 72 [(2, .ref 0 0), (3, .bs false 1 (v.2.length) 0 (v.2.length)), (6, u64 n_2082), (7, i64 v.1)], [.box (C1 u8 ((Arr.rep 32 (0 : UInt8))).l) false, .buf 1 (L cU8 v.2) false]⟩ : St)) (weak_sel [0, 1] (by decide) rfl (by simp only [go_sem, reduceIte, Nat.reduceLT, Nat.reduceEqDiff, Nat.reduceAdd, Nat.reduceBEq, Nat.reduceMul, Nat.reduceSub, Nat.reduceGT, Nat.reducePow, Nat.reduceLeDiff, Int.reduceToNat]) (by simp only [go_sem, reduceIte, Nat.reduceLT, Nat.reduceEqDiff, Nat.reduceAdd, Nat.reduceBEq, Nat.reduceMul, Nat.reduceSub, Nat.reduceGT, Nat.reducePow, Nat.reduceLeDiff, Int.reduceToNat])) ?_
    rintro ⟨i_2157, l_2158⟩ o_2167 h hxx_2168
    replace h : digest_sum_b3 n_2082 i_2157 l_2158 = some o_2167 := h
    unfold digest_sum_b3 at h
    refine run_seq ?_
    refine run_textE hE [2, 3, 6, 7, 35] (fr' := [(2, .ref 0 0), (3, .bs false 1 (l_2158.length) 0 (l_2158.length)), (6, u64 n_2082), (7, i64 i_2157), (35, .bool ((decide (i_2157 ≥ 0))))]) (σ' := [.box (C1 u8 ((Arr.rep 32 (0 : UInt8))).l) false, .buf 1 (L cU8 l_2158) false]) ⟨_, orcs_nil, ?_⟩ ?_
    · simp only [go_sem, reduceIte, Nat.reduceLT, Nat.reduceEqDiff, Nat.reduceAdd, Nat.reduceBEq, Nat.reduceMul, Nat.reduceSub, Nat.reduceGT, Nat.reducePow, Nat.reduceLeDiff, Int.reduceToNat]
    refine run_condL (b := (decide (i_2157 ≥ 0))) rfl (by decide) (fun hb => ?_) (fun hb => ?_)
    · replace h := ite_t h hb
      refine run_skip ?_
      refine thenK_n ?_
      refine run_seq ?_
      refine run_block ?_
      replace h := chk_some h; obtain ⟨hc_2169, h⟩ := h
      replace h := chk_some h; obtain ⟨hc_2170, h⟩ := h
      replace h := lt1_some h; obtain ⟨l_2171, hz_2172, h⟩ := h
      refine run_textE0 hE (wk_block wk_then) [2, 3, 6, 7] (fr' := [(2, .ref 0 0), (3, .bs false 1 (l_2171.length) 0 (l_2171.length)), (6, u64 n_2082), (7, i64 i_2157)]) (σ' := [.box (C1 u8 ((Arr.rep 32 (0 : UInt8))).l) false, .buf 1 (L cU8 l_2171) false, .buf 1 (L cU8 (([((shr64 n_2082 i_2157.toNat)).toUInt8] : List UInt8))) false]) ⟨_, orcs_nil, ?_⟩ ?_
      · subst hz_2172; simp only [go_sem, reduceIte, Nat.reduceLT, Nat.reduceEqDiff, Nat.reduceAdd, Nat.reduceBEq, Nat.reduceMul, Nat.reduceSub, Nat.reduceGT, Nat.reducePow, Nat.reduceLeDiff, Int.reduceToNat, hc_2169, hc_2170]
      refine blockK_n ?_
      refine thenK_n ?_
      refine run_textE0 hE wk_lp [2, 3, 6, 7] (fr' := [(2, .ref 0 0), (3, .bs false 1 (l_2171.length) 0 (l_2171.length)), (6, u64 n_2082), (7, i64 ((w64 (i_2157 - 8))))]) (σ' := [.box (C1 u8 ((Arr.rep 32 (0 : UInt8))).l) false, .buf 1 (L cU8 l_2171) false, .buf 1 (L cU8 (([((shr64 n_2082 i_2157.toNat)).toUInt8] : List UInt8))) false]) ⟨_, orcs_nil, ?_⟩ ?_
      · simp only [go_sem, reduceIte, Nat.reduceLT, Nat.reduceEqDiff, Nat.reduceAdd, Nat.reduceBEq, Nat.reduceMul, Nat.reduceSub, Nat.reduceGT, Nat.reducePow, Nat.reduceLeDiff, Int.reduceToNat]
      obtain rfl := Option.some.inj h
      exact lpK_n (((w64 (i_2157 - 8)), l_2171)) rfl (weak_sel [0, 1] (by decide) rfl (by simp only [go_sem, reduceIte, Nat.reduceLT, Nat.reduceEqDiff, Nat.reduceAdd, Nat.reduceBEq, Nat.reduceMul, Nat.reduceSub, Nat.reduceGT, Nat.reducePow, Nat.reduceLeDiff, Int.reduceToNat]) (by simp only [go_sem, reduceIte, Nat.reduceLT, Nat.reduceEqDiff, Nat.reduceAdd, Nat.reduceBEq, Nat.reduceMul, Nat.reduceSub, Nat.reduceGT, Nat.reducePow, Nat.reduceLeDiff, Int.reduceToNat]))
    · replace h := ite_f h hb
      refine run_exit ?_
      refine thenK_x ?_
      obtain rfl := Option.some.inj h
      have ex_x_2164 := hxx_2168 _ rfl
      subst ex_x_2164
      have h := hj_2166; clear hj_2166
      refine lpK_x ?_
      refine blockK_x ?_
      obtain rfl := Option.some.inj h
      exact joinK_n l_2158 rfl ((weak_sel (l' := [(2, .ref 0 0), (3, .bs false 1 (l_2158.length) 0 (l_2158.length))]) (σ' := [.box (C1 u8 ((Arr.rep 32 (0 : UInt8))).l) false, .buf 1 (L cU8 l_2158) false]) [0, 1] (by decide) rfl (by simp only [go_sem, reduceIte, Nat.reduceLT, Nat.reduceEqDiff, Nat.reduceAdd, Nat.reduceBEq, Nat.reduceMul, Nat.reduceSub, Nat.reduceGT, Nat.reducePow, Nat.reduceLeDiff, Int.reduceToNat]) (by simp only [go_sem, reduceIte, Nat.reduceLT, Nat.reduceEqDiff, Nat.reduceAdd, Nat.reduceBEq, Nat.reduceMul, Nat.reduceSub, Nat.reduceGT, Nat.reducePow, Nat.reduceLeDiff, Int.reduceToNat])).trans (weak_sel [0, 1] (by decide) rfl (by simp only [go_sem, reduceIte, Nat.reduceLT, Nat.reduceEqDiff, Nat.reduceAdd, Nat.reduceBEq, Nat.reduceMul, Nat.reduceSub, Nat.reduceGT, Nat.reducePow, Nat.reduceLeDiff, Int.reduceToNat]) (by simp only [go_sem, reduceIte, Nat.reduceLT, Nat.reduceEqDiff, Nat.reduceAdd, Nat.reduceBEq, Nat.reduceMul, Nat.reduceSub, Nat.reduceGT, Nat.reducePow, Nat.reduceLeDiff, Int.reduceToNat])))
  rintro l_2149 rfl
  have h := hj_2152; clear hj_2152
  replace h := lt1_some h; obtain ⟨f_2173, hz_2174, h⟩ := h
  refine run_textE hE [2, 3, 8] (fr' := [(2, .ref 0 0), (3, .bs false 1 (l_2149.length) 0 (l_2149.length)), (8, .ref 2 0)]) (σ' := [.box (C1 u8 ((Arr.rep 32 (0 : UInt8))).l) false, .buf 1 (L cU8 l_2149) false, .box (C1 u32 f_2173.l) false]) ⟨_, orcs_nil, ?_⟩ ?_
  · subst hz_2174; simp only [go_sem, reduceIte, Nat.reduceLT, Nat.reduceEqDiff, Nat.reduceAdd, Nat.reduceBEq, Nat.reduceMul, Nat.reduceSub, Nat.reduceGT, Nat.reducePow, Nat.reduceLeDiff, Int.reduceToNat, C1_rep, C1_nil, C1_cons]
  replace h := bind_some1 h; obtain ⟨j_2197, hA_2198, hj_2199⟩ := h
  refine run_join (fun (v : Arr UInt32 8) => (⟨asFr 72 [(2, .ref 0 0), (8, .ref 1 0)], [.box (C1 u8 ((Arr.rep 32 (0 : UInt8))).l) false, .box (C1 u32 v.l) false]⟩ : St)) (fun v => v = j_2197) ?_ ?_
  · have h := hA_2198; clear hA_2198
    refine run_block ?_
    replace h := bind_some1 h; obtain ⟨x_2212, hx_2213, hj_2214⟩ := h
    refine run_loopO hx_2213 (fun (v : Nat × Nat × Arr UInt32 8) => (⟨asFr 72 [(2, .ref 0 0), (3, .bs false 1 (l_2149.length) v.1 v.2.1), (8, .ref 2 0)], [.box (C1 u8 ((Arr.rep 32 (0 : UInt8))).l) false, .buf 1 (L cU8 l_2149) false, .box (C1 u32 v.2.2.l) false]⟩ : St)) (weak_sel [0, 1, 2] (by decide) rfl (by simp only [go_sem, reduceIte, Nat.reduceLT, Nat.reduceEqDiff, Nat.reduceAdd, Nat.reduceBEq, Nat.reduceMul, Nat.reduceSub, Nat.reduceGT, Nat.reducePow, Nat.reduceLeDiff, Int.reduceToNat]) (by simp only [go_sem, reduceIte, Nat.reduceLT, Nat.reduceEqDiff, Nat.reduceAdd, Nat.reduceBEq, Nat.reduceMul, Nat.reduceSub, Nat.reduceGT, Nat.reducePow, Nat.reduceLeDiff, Int.reduceToNat])) ?_
    rintro ⟨m_2204, m_2205, f_2206⟩ o_2215 h hxx_2216
    replace h : digest_sum_b4 l_2149 m_2204 m_2205 f_2206 = some o_2215 := h
    unfold digest_sum_b4 at h
    refine run_seq ?_
    refine run_textE hE [2, 3, 8, 48] (fr' := [(2, .ref 0 0), (3, .bs false 1 (l_2149.length) m_2204 m_2205), (8, .ref 2 0), (48, .bool ((decide ((m_2205 : Int) > 0))))]) (σ' := [.box (C1 u8 ((Arr.rep 32 (0 : UInt8))).l) false, .buf 1 (L cU8 l_2149) false, .box (C1 u32 f_2206.l) false]) ⟨_, orcs_nil, ?_⟩ ?_
    · simp only [go_sem, reduceIte, Nat.reduceLT, Nat.reduceEqDiff, Nat.reduceAdd, Nat.reduceBEq, Nat.reduceMul, Nat.reduceSub, Nat.reduceGT, Nat.reducePow, Nat.reduceLeDiff, Int.reduceToNat]
    refine run_condL (b := (decide ((m_2205 : Int) > 0))) rfl (by decide) (fun hb => ?_) (fun hb => ?_)
    · replace h := ite_t h hb
      refine run_skip ?_
      refine thenK_n ?_
      refine run_seq ?_
      refine run_block ?_
      replace h := chk_some h; obtain ⟨hc_2218, h⟩ := h
      replace h := bind_some1 h; obtain ⟨y_2217, hy_2219, h⟩ := h
      refine run_drawE0 hE mixed [[], [], [1], [0, 1, 2], [0, 1, 2, 3]] (by kernel_rfl) (by kernel_rfl) (wk_block wk_then) [2, 3, 8] (fr' := [(2, .ref 0 0), (3, .bs false 1 (l_2149.length) m_2204 m_2205), (8, .ref 2 0)]) (σ' := [.box (C1 u8 ((Arr.rep 32 (0 : UInt8))).l) false, .buf 1 (L cU8 l_2149) false, .box (C1 u32 y_2217.l) false]) ⟨_, orcs_ok (l := [(54, 36, [.agg (C1 u32 f_2206.l), .sl false (L cU8 (((l_2149.drop m_2204).take 64)))], .agg (C1 u32 y_2217.l))]) ⟨digest_block_con hy_2219, trivial⟩, ?_⟩ ?_
      · simp only [go_sem, reduceIte, Nat.reduceLT, Nat.reduceEqDiff, Nat.reduceAdd, Nat.reduceBEq, Nat.reduceMul, Nat.reduceSub, Nat.reduceGT, Nat.reducePow, Nat.reduceLeDiff, Int.reduceToNat, hc_2218]
      refine blockK_n ?_
      refine thenK_n ?_
      replace h := chk_some h; obtain ⟨hc_2220, h⟩ := h
      refine run_textE0 hE wk_lp [2, 3, 8] (fr' := [(2, .ref 0 0), (3, .bs false 1 (l_2149.length) ((m_2204 + 64)) ((m_2205 - 64))), (8, .ref 2 0)]) (σ' := [.box (C1 u8 ((Arr.rep 32 (0 : UInt8))).l) false, .buf 1 (L cU8 l_2149) false, .box (C1 u32 y_2217.l) false]) ⟨_, orcs_nil, ?_⟩ ?_
      · simp only [go_sem, reduceIte, Nat.reduceLT, Nat.reduceEqDiff, Nat.reduceAdd, Nat.reduceBEq, Nat.reduceMul, Nat.reduceSub, Nat.reduceGT, Nat.reducePow, Nat.reduceLeDiff, Int.reduceToNat, hc_2220]
      obtain rfl := Option.some.inj h
      exact lpK_n (((m_2204 + 64), (m_2205 - 64), y_2217)) rfl (weak_sel [0, 1, 2] (by decide) rfl (by simp only [go_sem, reduceIte, Nat.reduceLT, Nat.reduceEqDiff, Nat.reduceAdd, Nat.reduceBEq, Nat.reduceMul, Nat.reduceSub, Nat.reduceGT, Nat.reducePow, Nat.reduceLeDiff, Int.reduceToNat]) (by simp only [go_sem, reduceIte, Nat.reduceLT, Nat.reduceEqDiff, Nat.reduceAdd, Nat.reduceBEq, Nat.reduceMul, Nat.reduceSub, Nat.reduceGT, Nat.reducePow, Nat.reduceLeDiff, Int.reduceToNat]))
    · replace h := ite_f h hb
      refine run_exit ?_
      refine thenK_x ?_
      obtain rfl := Option.some.inj h
      have ex_x_2212 := hxx_2216 _ rfl
      subst ex_x_2212
      have h := hj_2214; clear hj_2214
      refine lpK_x ?_
      refine blockK_x ?_
      obtain rfl := Option.some.inj h
      exact joinK_n f_2206 rfl ((weak_sel (l' := [(2, .ref 0 0), (8, .ref 1 0)]) (σ' := [.box (C1 u8 ((Arr.rep 32 (0 : UInt8))).l) false, .box (C1 u32 f_2206.l) false]) [0, 2] (by decide) rfl (by simp only [go_sem, reduceIte, Nat.reduceLT, Nat.reduceEqDiff, Nat.reduceAdd, Nat.reduceBEq, Nat.reduceMul, Nat.reduceSub, Nat.reduceGT, Nat.reducePow, Nat.reduceLeDiff, Int.reduceToNat]) (by simp only [go_sem, reduceIte, Nat.reduceLT, Nat.reduceEqDiff, Nat.reduceAdd, Nat.reduceBEq, Nat.reduceMul, Nat.reduceSub, Nat.reduceGT, Nat.reducePow, Nat.reduceLeDiff, Int.reduceToNat])).trans (weak_sel [0, 1] (by decide) rfl (by simp only [go_sem, reduceIte, Nat.reduceLT, Nat.reduceEqDiff, Nat.reduceAdd, Nat.reduceBEq, Nat.reduceMul, Nat.reduceSub, Nat.reduceGT, Nat.reducePow, Nat.reduceLeDiff, Int.reduceToNat]) (by simp only [go_sem, reduceIte, Nat.reduceLT, Nat.reduceEqDiff, Nat.reduceAdd, Nat.reduceBEq, Nat.reduceMul, Nat.reduceSub, Nat.reduceGT, Nat.reducePow, Nat.reduceLeDiff, Int.reduceToNat])))
  rintro f_2196 rfl
  have h := hj_2199; clear hj_2199
  replace h := bind_some1 h; obtain ⟨j_2251, hA_2252, hj_2253⟩ := h
  refine run_join (fun (v : Arr UInt8 32) => (⟨asFr 72 [(2, .ref 0 0)], [.box (C1 u8 v.l) false]⟩ : St)) (fun v => v = j_2251) ?_ ?_
  · have h := hA_2252; clear hA_2252
    refine run_textE hE [2, 8, 55] (fr' := [(2, .ref 0 0), (8, .ref 1 0), (55, i64 0)]) (σ' := [.box (C1 u8 ((Arr.rep 32 (0 : UInt8))).l) false, .box (C1 u32 f_2196.l) false]) ⟨_, orcs_nil, ?_⟩ ?_
    · simp only [go_sem, reduceIte, Nat.reduceLT, Nat.reduceEqDiff, Nat.reduceAdd, Nat.reduceBEq, Nat.reduceMul, Nat.reduceSub, Nat.reduceGT, Nat.reducePow, Nat.reduceLeDiff, Int.reduceToNat]
    refine run_block ?_
    replace h := bind_some1 h; obtain ⟨x_2271, hx_2272, hj_2273⟩ := h
    refine run_loopO hx_2272 (fun (v : Int × Arr UInt8 32) => (⟨asFr 72 [(2, .ref 0 0), (8, .ref 1 0), (55, i64 v.1)], [.box (C1 u8 v.2.l) false, .box (C1 u32 f_2196.l) false]⟩ : St)) (weak_sel [0, 1] (by decide) rfl (by simp only [go_sem, reduceIte, Nat.reduceLT, Nat.reduceEqDiff, Nat.reduceAdd, Nat.reduceBEq, Nat.reduceMul, Nat.reduceSub, Nat.reduceGT, Nat.reducePow, Nat.reduceLeDiff, Int.reduceToNat]) (by simp only [go_sem, reduceIte, Nat.reduceLT, Nat.reduceEqDiff, Nat.reduceAdd, Nat.reduceBEq, Nat.reduceMul, Nat.reduceSub, Nat.reduceGT, Nat.reducePow, Nat.reduceLeDiff, Int.reduceToNat])) ?_
    rintro ⟨t_2261, f_2262⟩ o_2274 h hxx_2275
    replace h : digest_sum_b5 f_2196 t_2261 f_2262 = some o_2274 := h
    unfold digest_sum_b5 at h
    refine run_textE hE [2, 8, 55, 56] (fr' := [(2, .ref 0 0), (8, .ref 1 0), (55, i64 t_2261), (56, .bool ((decide (t_2261 < 32))))]) (σ' := [.box (C1 u8 f_2262.l) false, .box (C1 u32 f_2196.l) false]) ⟨_, orcs_nil, ?_⟩ ?_
    · simp only [go_sem, reduceIte, Nat.reduceLT, Nat.reduceEqDiff, Nat.reduceAdd, Nat.reduceBEq, Nat.reduceMul, Nat.reduceSub, Nat.reduceGT, Nat.reducePow, Nat.reduceLeDiff, Int.reduceToNat]
    refine run_seq ?_
    refine run_condL (b := (decide (t_2261 < 32))) rfl (by decide) (fun hb => ?_) (fun hb => ?_)
    · replace h := ite_t h hb
      refine run_skip ?_
      refine thenK_n ?_
      refine run_seq ?_
      refine run_block ?_
      refine run_textE hE [2, 8, 9, 55] (fr' := [(2, .ref 0 0), (8, .ref 1 0), (9, i64 t_2261), (55, i64 t_2261)]) (σ' := [.box (C1 u8 f_2262.l) false, .box (C1 u32 f_2196.l) false]) ⟨_, orcs_nil, ?_⟩ ?_
      · simp only [go_sem, reduceIte, Nat.reduceLT, Nat.reduceEqDiff, Nat.reduceAdd, Nat.reduceBEq, Nat.reduceMul, Nat.reduceSub, Nat.reduceGT, Nat.reducePow, Nat.reduceLeDiff, Int.reduceToNat]
      have hk_2276 : ¬(4 : Int) = 0 := by decide
      replace h := chk_some h; obtain ⟨hc_2277, h⟩ := h
      have hk_2278 : ¬(4 : Int) = 0 := by decide
      replace h := chk_some h; obtain ⟨hc_2279, h⟩ := h
      replace h := chk_some h; obtain ⟨hc_2280, h⟩ := h
      replace h := lt1_some h; obtain ⟨f_2281, hz_2282, h⟩ := h
      refine run_textE0 hE (wk_block wk_then) [2, 8, 55] (fr' := [(2, .ref 0 0), (8, .ref 1 0), (55, i64 t_2261)]) (σ' := [.box (C1 u8 f_2281.l) false, .box (C1 u32 f_2196.l) false]) ⟨_, orcs_nil, ?_⟩ ?_
      · subst hz_2282; simp only [go_sem, reduceIte, Nat.reduceLT, Nat.reduceEqDiff, Nat.reduceAdd, Nat.reduceBEq, Nat.reduceMul, Nat.reduceSub, Nat.reduceGT, Nat.reducePow, Nat.reduceLeDiff, Int.reduceToNat, hk_2276, hc_2277, hc_2277.2, lt_le hc_2277.2, hk_2278, hc_2279, hc_2280, hc_2280.2, lt_le hc_2280.2]
      refine blockK_n ?_
      refine thenK_n ?_
      refine run_textE0 hE wk_lp [2, 8, 55] (fr' := [(2, .ref 0 0), (8, .ref 1 0), (55, i64 ((w64 (t_2261 + 1))))]) (σ' := [.box (C1 u8 f_2281.l) false, .box (C1 u32 f_2196.l) false]) ⟨_, orcs_nil, ?_⟩ ?_
      · simp only [go_sem, reduceIte, Nat.reduceLT, Nat.reduceEqDiff, Nat.reduceAdd, Nat.reduceBEq, Nat.reduceMul, Nat.reduceSub, Nat.reduceGT, Nat.reducePow, Nat.reduceLeDiff, Int.reduceToNat]
      obtain rfl := Option.some.inj h
      exact lpK_n (((w64 (t_2261 + 1)), f_2281)) rfl (weak_sel [0, 1] (by decide) rfl (by simp only [go_sem, reduceIte, Nat.reduceLT, Nat.reduceEqDiff, Nat.reduceAdd, Nat.reduceBEq, Nat.reduceMul, Nat.reduceSub, Nat.reduceGT, Nat.reducePow, Nat.reduceLeDiff, Int.reduceToNat]) (by simp only [go_sem, reduceIte, Nat.reduceLT, Nat.reduceEqDiff, Nat.reduceAdd, Nat.reduceBEq, Nat.reduceMul, Nat.reduceSub, Nat.reduceGT, Nat.reducePow, Nat.reduceLeDiff, Int.reduceToNat]))
    · replace h := ite_f h hb
      refine run_exit ?_
      refine thenK_x ?_
      obtain rfl := Option.some.inj h
      have ex_x_2271 := hxx_2275 _ rfl
      subst ex_x_2271
      have h := hj_2273; clear hj_2273
      refine lpK_x ?_
      refine blockK_x ?_
      obtain rfl := Option.some.inj h
      exact joinK_n f_2262 rfl ((weak_sel (l' := [(2, .ref 0 0)]) (σ' := [.box (C1 u8 f_2262.l) false]) [0] (by decide) rfl (by simp only [go_sem, reduceIte, Nat.reduceLT, Nat.reduceEqDiff, Nat.reduceAdd, Nat.reduceBEq, Nat.reduceMul, Nat.reduceSub, Nat.reduceGT, Nat.reducePow, Nat.reduceLeDiff, Int.reduceToNat]) (by simp only [go_sem, reduceIte, Nat.reduceLT, Nat.reduceEqDiff, Nat.reduceAdd, Nat.reduceBEq, Nat.reduceMul, Nat.reduceSub, Nat.reduceGT, Nat.reducePow, Nat.reduceLeDiff, Int.reduceToNat])).trans (weak_sel [0] (by decide) rfl (by simp only [go_sem, reduceIte, Nat.reduceLT, Nat.reduceEqDiff, Nat.reduceAdd, Nat.reduceBEq, Nat.reduceMul, Nat.reduceSub, Nat.reduceGT, Nat.reducePow, Nat.reduceLeDiff, Int.reduceToNat]) (by simp only [go_sem, reduceIte, Nat.reduceLT, Nat.reduceEqDiff, Nat.reduceAdd, Nat.reduceBEq, Nat.reduceMul, Nat.reduceSub, Nat.reduceGT, Nat.reducePow, Nat.reduceLeDiff, Int.reduceToNat])))
  rintro f_2250 rfl
  have h := hj_2253; clear hj_2253
  refine run_textE hE [2] (fr' := [(2, .ref 0 0)]) (σ' := [.box (C1 u8 f_2250.l) false]) ⟨_, orcs_nil, ?_⟩ ?_
  · simp only [go_sem, reduceIte, Nat.reduceLT, Nat.reduceEqDiff, Nat.reduceAdd, Nat.reduceBEq, Nat.reduceMul, Nat.reduceSub, Nat.reduceGT, Nat.reducePow, Nat.reduceLeDiff, Int.reduceToNat]
  refine run_ret ?_
  obtain rfl := Option.some.inj h
  refine ret_ok (.inr rfl) ?_
  simp only [go_sem, reduceIte, Nat.reduceLT, Nat.reduceEqDiff, Nat.reduceAdd, Nat.reduceBEq, Nat.reduceMul, Nat.reduceSub, Nat.reduceGT, Nat.reducePow, Nat.reduceLeDiff, Int.reduceToNat]

theorem digest_Sum_con {b_2283 : List UInt8} {r : Arr UInt8 32} (h : digest_Sum b_2283 = some r) : Con B 12 [.sl false (L cU8 b_2283)] [] (fun r' σ' => r' = .agg (C1 u8 r.l) ∧ σ' = []) := by
  refine con_walk (N := 6) (rs := [.cell 2 25]) ok Tryd.func12 rfl (by decide +kernel) rfl rfl (Nat.le_of_ble_eq_true rfl) (fun F => ?_)
  have hE := ok.env F
  unfold digest_Sum at h
  show Run (B.env F) 0 _ ⟨asFr 6 [(0, .sl false (L cU8 b_2283))], []⟩ _
  refine run_textE hE [0, 2] (fr' := [(0, .sl false (L cU8 b_2283)), (2, .ref 0 0)]) (σ' := [.box (C1 u8 ((Arr.rep 32 (0 : UInt8))).l) false]) ⟨_, orcs_nil, ?_⟩ ?_
  · simp only [go_sem, reduceIte, Nat.reduceLT, Nat.reduceEqDiff, Nat.reduceAdd, Nat.reduceBEq, Nat.reduceMul, Nat.reduceSub, Nat.reduceGT, Nat.reducePow, Nat.reduceLeDiff, Int.reduceToNat]
  replace h := bind_some1 h; obtain ⟨y_2284, hy_2285, h⟩ := h
  refine run_textE hE [2] (fr' := [(2, .ref 0 0)]) (σ' := [.box (C1 u8 y_2284.l) false, .buf 1 (L (cSl cU8) (([b_2283] : List (List UInt8)))) false]) ⟨_, orcs_ok (l := [(5, 28, [.sl false (L (cSl cU8) (([b_2283] : List (List UInt8))))], .agg (C1 u8 y_2284.l))]) ⟨digest_sum_con hy_2285, trivial⟩, ?_⟩ ?_
  · simp only [go_sem, reduceIte, Nat.reduceLT, Nat.reduceEqDiff, Nat.reduceAdd, Nat.reduceBEq, Nat.reduceMul, Nat.reduceSub, Nat.reduceGT, Nat.reducePow, Nat.reduceLeDiff, Int.reduceToNat]
  refine run_ret ?_
  obtain rfl := Option.some.inj h
  refine ret_ok (.inr rfl) ?_
  simp only [go_sem, reduceIte, Nat.reduceLT, Nat.reduceEqDiff, Nat.reduceAdd, Nat.reduceBEq, Nat.reduceMul, Nat.reduceSub, Nat.reduceGT, Nat.reducePow, Nat.reduceLeDiff, Int.reduceToNat]

end Go.Proofs.YtgdiabbgiiemcaaDoor
