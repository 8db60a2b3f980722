/-
  The functions compute just that.
-/
import Derived.Test.YtgdiabbgiiemcaaDoorDW5
import Derived.KernelRfl
namespace Go.Proofs.YtgdiabbgiiemcaaDoor
open Go.Rv
set_option linter.unusedVariables false
set_option linter.unusedSimpArgs false
set_option maxRecDepth 20000

theorem r02_padded_con {b_2143 : List UInt8} {r : List UInt8} (h : r02_padded b_2143 = some r) : Con B 29 [.sl false (L cU8 b_2143)] [] (fun r' σ' => r' = .sl false (L cU8 r) ∧ σ' = []) := by
  refine con_walk (N := 38) (rs := [.tmp 2]) ok Tryd.func29 rfl (by decide +kernel) rfl rfl (Nat.le_of_ble_eq_true rfl) (fun F => ?_)
  have hE := ok.env F
  unfold r02_padded at h
  show Run (B.env F) 0 _ ⟨asFr 38 [(0, .sl false (L cU8 b_2143))], []⟩ _
  refine run_textE hE [0] (fr' := [(0, .sl false (L cU8 b_2143))]) (σ' := []) ⟨_, orcs_nil, ?_⟩ ?_
  · simp only [go_sem, reduceIte, Nat.reduceLT, Nat.reduceEqDiff, Nat.reduceAdd, Nat.reduceBEq, Nat.reduceMul, Nat.reduceSub, Nat.reduceGT, Nat.reducePow, Nat.reduceLeDiff, Int.reduceToNat]
  replace h := lt1_some h; obtain ⟨l_2144, hz_2145, h⟩ := h
  refine run_textE hE [0, 3] (fr' := [(0, .sl false (L cU8 b_2143)), (3, .bs true 0 (l_2144.length) 0 (l_2144.length))]) (σ' := [.buf 1 (L cU8 l_2144) false]) ⟨_, orcs_nil, ?_⟩ ?_
  · subst hz_2145; simp only [go_sem, reduceIte, Nat.reduceLT, Nat.reduceEqDiff, Nat.reduceAdd, Nat.reduceBEq, Nat.reduceMul, Nat.reduceSub, Nat.reduceGT, Nat.reducePow, Nat.reduceLeDiff, Int.reduceToNat]
  replace h := chk_some h; obtain ⟨hc_2146, h⟩ := h
  replace h := lt1_some h; obtain ⟨l_2147, hz_2148, h⟩ := h
  refine run_textE hE [0, 3] (fr' := [(0, .sl false (L cU8 b_2143)), (3, .bs false 0 (l_2147.length) 0 (l_2147.length))]) (σ' := [.buf 1 (L cU8 l_2147) false]) ⟨_, orcs_nil, ?_⟩ ?_
  · subst hz_2148; simp only [go_sem, reduceIte, Nat.reduceLT, Nat.reduceEqDiff, Nat.reduceAdd, Nat.reduceBEq, Nat.reduceMul, Nat.reduceSub, Nat.reduceGT, Nat.reducePow, Nat.reduceLeDiff, Int.reduceToNat, hc_2146]
  replace h := chk_some h; obtain ⟨hc_2149, h⟩ := h
  replace h := lt1_some h; obtain ⟨l_2150, hz_2151, h⟩ := h
  refine run_textE hE [0, 3] (fr' := [(0, .sl false (L cU8 b_2143)), (3, .bs false 0 (l_2150.length) 0 (l_2150.length))]) (σ' := [.buf 1 (L cU8 l_2150) false, .buf 1 (L cU8 (([(128 : UInt8)] : List UInt8))) false]) ⟨_, orcs_nil, ?_⟩ ?_
  · subst hz_2151; simp only [go_sem, reduceIte, Nat.reduceLT, Nat.reduceEqDiff, Nat.reduceAdd, Nat.reduceBEq, Nat.reduceMul, Nat.reduceSub, Nat.reduceGT, Nat.reducePow, Nat.reduceLeDiff, Int.reduceToNat, hc_2149]
  replace h := bind_some1 h; obtain ⟨j_2172, hA_2173, hj_2174⟩ := h
  refine run_join (fun (v : List UInt8) => (⟨asFr 38 [(0, .sl false (L cU8 b_2143)), (3, .bs false 0 (v.length) 0 (v.length))], [.buf 1 (L cU8 v) false]⟩ : St)) (fun v => v = j_2172) ?_ ?_
  · have h := hA_2173; clear hA_2173
    refine run_block ?_
    replace h := bind_some1 h; obtain ⟨x_2185, hx_2186, hj_2187⟩ := h
    refine run_loopO hx_2186 (fun (v : List UInt8) => (⟨asFr 38 [(0, .sl false (L cU8 b_2143)), (3, .bs false 0 (v.length) 0 (v.length))], [.buf 1 (L cU8 v) false]⟩ : St)) (weak_sel [0] (by decide) rfl (by simp only [go_sem, reduceIte, Nat.reduceLT, Nat.reduceEqDiff, Nat.reduceAdd, Nat.reduceBEq, Nat.reduceMul, Nat.reduceSub, Nat.reduceGT, Nat.reducePow, Nat.reduceLeDiff, Int.reduceToNat]) (by simp only [go_sem, reduceIte, Nat.reduceLT, Nat.reduceEqDiff, Nat.reduceAdd, Nat.reduceBEq, Nat.reduceMul, Nat.reduceSub, Nat.reduceGT, Nat.reducePow, Nat.reduceLeDiff, Int.reduceToNat])) ?_
    rintro l_2179 o_2188 h hxx_2189
    replace h : r02_padded_b1 l_2179 = some o_2188 := h
    unfold r02_padded_b1 at h
    refine run_seq ?_
    have hk_2190 : ¬(64 : Int) = 0 := by decide
    refine run_textE hE [0, 3, 16] (fr' := [(0, .sl false (L cU8 b_2143)), (3, .bs false 0 (l_2179.length) 0 (l_2179.length)), (16, .bool (((((l_2179.length : Int) : Int).tmod 64) != 56)))]) (σ' := [.buf 1 (L cU8 l_2179) false]) ⟨_, orcs_nil, ?_⟩ ?_
    · simp only [go_sem, reduceIte, Nat.reduceLT, Nat.reduceEqDiff, Nat.reduceAdd, Nat.reduceBEq, Nat.reduceMul, Nat.reduceSub, Nat.reduceGT, Nat.reducePow, Nat.reduceLeDiff, Int.reduceToNat, hk_2190]
    refine run_condL (b := ((((l_2179.length : Int) : Int).tmod 64) != 56)) rfl (by decide) (fun hb => ?_) (fun hb => ?_)
    · replace h := ite_t h hb
      refine run_skip ?_
      refine thenK_n ?_
      refine run_block ?_
      replace h := chk_some h; obtain ⟨hc_2191, h⟩ := h
      replace h := lt1_some h; obtain ⟨l_2192, hz_2193, h⟩ := h
      refine run_textE0 hE (wk_block wk_lp) [0, 3] (fr' := [(0, .sl false (L cU8 b_2143)), (3, .bs false 0 (l_2192.length) 0 (l_2192.length))]) (σ' := [.buf 1 (L cU8 l_2192) false, .buf 1 (L cU8 (([(0 : UInt8)] : List UInt8))) false]) ⟨_, orcs_nil, ?_⟩ ?_
      · subst hz_2193; simp only [go_sem, reduceIte, Nat.reduceLT, Nat.reduceEqDiff, Nat.reduceAdd, Nat.reduceBEq, Nat.reduceMul, Nat.reduceSub, Nat.reduceGT, Nat.reducePow, Nat.reduceLeDiff, Int.reduceToNat, hc_2191]
      refine blockK_n ?_
      obtain rfl := Option.some.inj h
      exact lpK_n l_2192 rfl (weak_sel [0] (by decide) rfl (by simp only [go_sem, reduceIte, Nat.reduceLT, Nat.reduceEqDiff, Nat.reduceAdd, Nat.reduceBEq, Nat.reduceMul, Nat.reduceSub, Nat.reduceGT, Nat.reducePow, Nat.reduceLeDiff, Int.reduceToNat]) (by simp only [go_sem, reduceIte, Nat.reduceLT, Nat.reduceEqDiff, Nat.reduceAdd, Nat.reduceBEq, Nat.reduceMul, Nat.reduceSub, Nat.reduceGT, Nat.reducePow, Nat.reduceLeDiff, Int.reduceToNat]))
    · replace h := ite_f h hb
      refine run_exit ?_
      refine thenK_x ?_
      obtain rfl := Option.some.inj h
      have ex_x_2185 := hxx_2189 _ rfl
      subst ex_x_2185
      have h := hj_2187; clear hj_2187
      refine lpK_x ?_
      refine blockK_x ?_
      obtain rfl := Option.some.inj h
      exact joinK_n l_2179 rfl ((weak_sel (l' := [(0, .sl false (L cU8 b_2143)), (3, .bs false 0 (l_2179.length) 0 (l_2179.length))]) (σ' := [.buf 1 (L cU8 l_2179) false]) [0] (by decide) rfl (by simp only [go_sem, reduceIte, Nat.reduceLT, Nat.reduceEqDiff, Nat.reduceAdd, Nat.reduceBEq, Nat.reduceMul, Nat.reduceSub, Nat.reduceGT, Nat.reducePow, Nat.reduceLeDiff, Int.reduceToNat]) (by simp only [go_sem, reduceIte, Nat.reduceLT, Nat.reduceEqDiff, Nat.reduceAdd, Nat.reduceBEq, Nat.reduceMul, Nat.reduceSub, Nat.reduceGT, Nat.reducePow, Nat.reduceLeDiff, Int.reduceToNat])).trans (weak_sel [0] (by decide) rfl (by simp only [go_sem, reduceIte, Nat.reduceLT, Nat.reduceEqDiff, Nat.reduceAdd, Nat.reduceBEq, Nat.reduceMul, Nat.reduceSub, Nat.reduceGT, Nat.reducePow, Nat.reduceLeDiff, Int.reduceToNat]) (by simp only [go_sem, reduceIte, Nat.reduceLT, Nat.reduceEqDiff, Nat.reduceAdd, Nat.reduceBEq, Nat.reduceMul, Nat.reduceSub, Nat.reduceGT, Nat.reducePow, Nat.reduceLeDiff, Int.reduceToNat])))
  rintro l_2171 rfl
  have h := hj_2174; clear hj_2174
  replace h := lt1_some h; obtain ⟨n_2194, hz_2195, h⟩ := h
  refine run_textE hE [3, 4] (fr' := [(3, .bs false 0 (l_2171.length) 0 (l_2171.length)), (4, u64 n_2194)]) (σ' := [.buf 1 (L cU8 l_2171) false]) ⟨_, orcs_nil, ?_⟩ ?_
  · subst hz_2195; simp only [go_sem, reduceIte, Nat.reduceLT, Nat.reduceEqDiff, Nat.reduceAdd, Nat.reduceBEq, Nat.reduceMul, Nat.reduceSub, Nat.reduceGT, Nat.reducePow, Nat.reduceLeDiff, Int.reduceToNat]
  replace h := bind_some1 h; obtain ⟨j_2217, hA_2218, hj_2219⟩ := h
  refine run_join (fun (v : List UInt8) => (⟨asFr 38 [(3, .bs false 0 (v.length) 0 (v.length))], [.buf 1 (L cU8 v) false]⟩ : St)) (fun v => v = j_2217) ?_ ?_
  · have h := hA_2218; clear hA_2218
    refine run_textE hE [3, 4, 5] (fr' := [(3, .bs false 0 (l_2171.length) 0 (l_2171.length)), (4, u64 n_2194), (5, i64 0)]) (σ' := [.buf 1 (L cU8 l_2171) false]) ⟨_, orcs_nil, ?_⟩ ?_
    · simp only [go_sem, reduceIte, Nat.reduceLT, Nat.reduceEqDiff, Nat.reduceAdd, Nat.reduceBEq, Nat.reduceMul, Nat.reduceSub, Nat.reduceGT, Nat.reducePow, Nat.reduceLeDiff, Int.reduceToNat]
    refine run_block ?_
    replace h := bind_some1 h; obtain ⟨x_2231, hx_2232, hj_2233⟩ := h
    refine run_loopO hx_2232 (fun (v : Int × List UInt8) => (⟨asFr 38 [(3, .bs false 0 (v.2.length) 0 (v.2.length)), (4, u64 n_2194), (5, i64 v.1)], [.buf 1 (L cU8 v.2) false]⟩ : St)) (weak_sel [0] (by decide) rfl (by simp only [go_sem, reduceIte, Nat.reduceLT, Nat.reduceEqDiff, Nat.reduceAdd, Nat.reduceBEq, Nat.reduceMul, Nat.reduceSub, Nat.reduceGT, Nat.reducePow, Nat.reduceLeDiff, Int.reduceToNat]) (by simp only [go_sem, reduceIte, Nat.reduceLT, Nat.reduceEqDiff, Nat.reduceAdd, Nat.reduceBEq, Nat.reduceMul, Nat.reduceSub, Nat.reduceGT, Nat.reducePow, Nat.reduceLeDiff, Int.reduceToNat])) ?_
    rintro ⟨i_2224, l_2225⟩ o_2234 h hxx_2235
    replace h : r02_padded_b2 n_2194 i_2224 l_2225 = some o_2234 := h
    unfold r02_padded_b2 at h
    refine run_seq ?_
    refine run_textE hE [3, 4, 5, 25] (fr' := [(3, .bs false 0 (l_2225.length) 0 (l_2225.length)), (4, u64 n_2194), (5, i64 i_2224), (25, .bool ((decide (i_2224 < 8))))]) (σ' := [.buf 1 (L cU8 l_2225) false]) ⟨_, orcs_nil, ?_⟩ ?_
    · simp only [go_sem, reduceIte, Nat.reduceLT, Nat.reduceEqDiff, Nat.reduceAdd, Nat.reduceBEq, Nat.reduceMul, Nat.reduceSub, Nat.reduceGT, Nat.reducePow, Nat.reduceLeDiff, Int.reduceToNat]
    refine run_condL (b := (decide (i_2224 < 8))) rfl (by decide) (fun hb => ?_) (fun hb => ?_)
    · replace h := ite_t h hb
      refine run_skip ?_
      refine thenK_n ?_
      refine run_seq ?_
      refine run_block ?_
      replace h := chk_some h; obtain ⟨hc_2236, h⟩ := h
      replace h := chk_some h; obtain ⟨hc_2237, h⟩ := h
      replace h := lt1_some h; obtain ⟨l_2238, hz_2239, h⟩ := h
      refine run_textE0 hE (wk_block wk_then) [3, 4, 5] (fr' := [(3, .bs false 0 (l_2238.length) 0 (l_2238.length)), (4, u64 n_2194), (5, i64 i_2224)]) (σ' := [.buf 1 (L cU8 l_2238) false, .buf 1 (L cU8 (([((shr64 n_2194 (((w64 (56 - (w64 (8 * i_2224))))).toNat))).toUInt8] : List UInt8))) false]) ⟨_, orcs_nil, ?_⟩ ?_
      · subst hz_2239; simp only [go_sem, reduceIte, Nat.reduceLT, Nat.reduceEqDiff, Nat.reduceAdd, Nat.reduceBEq, Nat.reduceMul, Nat.reduceSub, Nat.reduceGT, Nat.reducePow, Nat.reduceLeDiff, Int.reduceToNat, hc_2236, hc_2237]
      refine blockK_n ?_
      refine thenK_n ?_
      refine run_textE0 hE wk_lp [3, 4, 5] (fr' := [(3, .bs false 0 (l_2238.length) 0 (l_2238.length)), (4, u64 n_2194), (5, i64 ((w64 (i_2224 + 1))))]) (σ' := [.buf 1 (L cU8 l_2238) false, .buf 1 (L cU8 (([((shr64 n_2194 (((w64 (56 - (w64 (8 * i_2224))))).toNat))).toUInt8] : List UInt8))) false]) ⟨_, orcs_nil, ?_⟩ ?_
      · simp only [go_sem, reduceIte, Nat.reduceLT, Nat.reduceEqDiff, Nat.reduceAdd, Nat.reduceBEq, Nat.reduceMul, Nat.reduceSub, Nat.reduceGT, Nat.reducePow, Nat.reduceLeDiff, Int.reduceToNat]
      obtain rfl := Option.some.inj h
      exact lpK_n (((w64 (i_2224 + 1)), l_2238)) rfl (weak_sel [0] (by decide) rfl (by simp only [go_sem, reduceIte, Nat.reduceLT, Nat.reduceEqDiff, Nat.reduceAdd, Nat.reduceBEq, Nat.reduceMul, Nat.reduceSub, Nat.reduceGT, Nat.reducePow, Nat.reduceLeDiff, Int.reduceToNat]) (by simp only [go_sem, reduceIte, Nat.reduceLT, Nat.reduceEqDiff, Nat.reduceAdd, Nat.reduceBEq, Nat.reduceMul, Nat.reduceSub, Nat.reduceGT, Nat.reducePow, Nat.reduceLeDiff, Int.reduceToNat]))
    · replace h := ite_f h hb
      refine run_exit ?_
      refine thenK_x ?_
      obtain rfl := Option.some.inj h
      have ex_x_2231 := hxx_2235 _ rfl
      subst ex_x_2231
      have h := hj_2233; clear hj_2233
      refine lpK_x ?_
      refine blockK_x ?_
      obtain rfl := Option.some.inj h
      exact joinK_n l_2225 rfl ((weak_sel (l' := [(3, .bs false 0 (l_2225.length) 0 (l_2225.length))]) (σ' := [.buf 1 (L cU8 l_2225) false]) [0] (by decide) rfl (by simp only [go_sem, reduceIte, Nat.reduceLT, Nat.reduceEqDiff, Nat.reduceAdd, Nat.reduceBEq, Nat.reduceMul, Nat.reduceSub, Nat.reduceGT, Nat.reducePow, Nat.reduceLeDiff, Int.reduceToNat]) (by simp only [go_sem, reduceIte, Nat.reduceLT, Nat.reduceEqDiff, Nat.reduceAdd, Nat.reduceBEq, Nat.reduceMul, Nat.reduceSub, Nat.reduceGT, Nat.reducePow, Nat.reduceLeDiff, Int.reduceToNat])).trans (weak_sel [0] (by decide) rfl (by simp only [go_sem, reduceIte, Nat.reduceLT, Nat.reduceEqDiff, Nat.reduceAdd, Nat.reduceBEq, Nat.reduceMul, Nat.reduceSub, Nat.reduceGT, Nat.reducePow, Nat.reduceLeDiff, Int.reduceToNat]) (by simp only [go_sem, reduceIte, Nat.reduceLT, Nat.reduceEqDiff, Nat.reduceAdd, Nat.reduceBEq, Nat.reduceMul, Nat.reduceSub, Nat.reduceGT, Nat.reducePow, Nat.reduceLeDiff, Int.reduceToNat])))
  rintro l_2216 rfl
  have h := hj_2219; clear hj_2219
  refine run_textE hE [2] (fr' := [(2, .bs false 0 (l_2216.length) 0 (l_2216.length))]) (σ' := [.buf 1 (L cU8 l_2216) false]) ⟨_, orcs_nil, ?_⟩ ?_
  · simp only [go_sem, reduceIte, Nat.reduceLT, Nat.reduceEqDiff, Nat.reduceAdd, Nat.reduceBEq, Nat.reduceMul, Nat.reduceSub, Nat.reduceGT, Nat.reducePow, Nat.reduceLeDiff, Int.reduceToNat]
  refine run_ret ?_
  obtain rfl := Option.some.inj h
  refine ret_ok (.inr rfl) ?_
  simp only [go_sem, reduceIte, Nat.reduceLT, Nat.reduceEqDiff, Nat.reduceAdd, Nat.reduceBEq, Nat.reduceMul, Nat.reduceSub, Nat.reduceGT, Nat.reducePow, Nat.reduceLeDiff, Int.reduceToNat]

end Go.Proofs.YtgdiabbgiiemcaaDoor
