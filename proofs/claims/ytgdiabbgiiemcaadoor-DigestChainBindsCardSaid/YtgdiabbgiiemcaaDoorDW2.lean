/-
  The functions compute just that.
-/
import Derived.Test.YtgdiabbgiiemcaaDoorDW1
import Derived.KernelRfl
namespace Go.Proofs.YtgdiabbgiiemcaaDoor
open Go.Rv
set_option linter.unusedVariables false
set_option linter.unusedSimpArgs false
set_option maxRecDepth 20000

theorem codec_appendValue_con {b_232 : List UInt8} {v_233 : Api_Value} {r : List UInt8} (h : codec_appendValue b_232 v_233 = some r) : Con B 32 [.bs false 0 (b_232.length) 0 (b_232.length), .agg [i64 v_233.Kind, i64 v_233.N, .sl false (L cU8 v_233.B), .sl false (L cRaw v_233.L)]] [.buf 1 (L cU8 b_232) false] (fun r' σ' => r' = .bs false 0 (r.length) 0 (r.length) ∧ σ' = [.buf 1 (L cU8 r) false]) := by
  refine con_walk_own (N := 59) (rs := [.tmp 4]) 1 rfl ok Tryd.func32 rfl (by decide +kernel) rfl rfl (Nat.le_of_ble_eq_true rfl) (fun F => ?_)
  have hE := ok.env F
  unfold codec_appendValue at h
  show Run (B.env F) 1 _ ⟨asFr 59 [(0, .bs false 0 (b_232.length) 0 (b_232.length)), (1, .agg [i64 v_233.Kind, i64 v_233.N, .sl false (L cU8 v_233.B), .sl false (L cRaw v_233.L)])], [.buf 1 (L cU8 b_232) false]⟩ _
  refine run_textE hE [0, 3] (fr' := [(0, .bs false 0 (b_232.length) 0 (b_232.length)), (3, .ref 1 0)]) (σ' := [.buf 1 (L cU8 b_232) false, .box [i64 v_233.Kind, i64 v_233.N, .sl false (L cU8 v_233.B), .sl false (L cRaw v_233.L)] false]) ⟨_, orcs_nil, ?_⟩ ?_
  · simp only [go_sem, reduceIte, Nat.reduceLT, Nat.reduceEqDiff, Nat.reduceAdd, Nat.reduceBEq, Nat.reduceMul, Nat.reduceSub, Nat.reduceGT, Nat.reducePow, Nat.reduceLeDiff, Int.reduceToNat]
  replace h := bind_some1 h; obtain ⟨j_670, hA_671, hj_672⟩ := h
  refine run_join (fun (v : Unit) => (⟨asFr 59 [(0, .bs false 0 (b_232.length) 0 (b_232.length)), (3, .ref 1 0)], [.buf 1 (L cU8 b_232) false, .box [i64 v_233.Kind, i64 v_233.N, .sl false (L cU8 v_233.B), .sl false (L cRaw v_233.L)] false]⟩ : St)) (fun v => .inl v = j_670) ?_ ?_
  · have h := hA_671; clear hA_671
    refine run_textE hE [0, 3, 10] (fr' := [(0, .bs false 0 (b_232.length) 0 (b_232.length)), (3, .ref 1 0), (10, i64 v_233.Kind)]) (σ' := [.buf 1 (L cU8 b_232) false, .box [i64 v_233.Kind, i64 v_233.N, .sl false (L cU8 v_233.B), .sl false (L cRaw v_233.L)] false]) ⟨_, orcs_nil, ?_⟩ ?_
    · simp only [go_sem, reduceIte, Nat.reduceLT, Nat.reduceEqDiff, Nat.reduceAdd, Nat.reduceBEq, Nat.reduceMul, Nat.reduceSub, Nat.reduceGT, Nat.reducePow, Nat.reduceLeDiff, Int.reduceToNat]
    refine run_block ?_
    refine run_textE hE [0, 3, 10, 11] (fr' := [(0, .bs false 0 (b_232.length) 0 (b_232.length)), (3, .ref 1 0), (10, i64 v_233.Kind), (11, .bool ((v_233.Kind == 1)))]) (σ' := [.buf 1 (L cU8 b_232) false, .box [i64 v_233.Kind, i64 v_233.N, .sl false (L cU8 v_233.B), .sl false (L cRaw v_233.L)] false]) ⟨_, orcs_nil, ?_⟩ ?_
    · simp only [go_sem, reduceIte, Nat.reduceLT, Nat.reduceEqDiff, Nat.reduceAdd, Nat.reduceBEq, Nat.reduceMul, Nat.reduceSub, Nat.reduceGT, Nat.reducePow, Nat.reduceLeDiff, Int.reduceToNat]
    refine run_condL (b := (v_233.Kind == 1)) rfl (by decide) (fun hb => ?_) (fun hb => ?_)
    · replace h := ite_t h hb
      replace h := bind_some1 h; obtain ⟨y_673, hy_674, h⟩ := h
      refine run_textE hE [4] (fr' := [(4, .bs false 0 (y_673.length) 0 (y_673.length))]) (σ' := [.buf 1 (L cU8 y_673) false, .box [i64 v_233.Kind, i64 v_233.N, .sl false (L cU8 v_233.B), .sl false (L cRaw v_233.L)] false]) ⟨_, orcs_ok2 (l := []) (m := [(16, 40, [.bs false 0 (b_232.length) 0 (b_232.length), i64 v_233.N], [.buf 1 (L cU8 b_232) false, .box [i64 v_233.Kind, i64 v_233.N, .sl false (L cU8 v_233.B), .sl false (L cRaw v_233.L)] false], .bs false 0 (y_673.length) 0 (y_673.length), [.buf 1 (L cU8 y_673) false, .box [i64 v_233.Kind, i64 v_233.N, .sl false (L cU8 v_233.B), .sl false (L cRaw v_233.L)] false])]) trivial ⟨(wcon_call (codec_appendInt_con hy_674) [0] (by decide) (by simp only [go_sem, reduceIte, Nat.reduceLT, Nat.reduceEqDiff, Nat.reduceAdd, Nat.reduceBEq, Nat.reduceMul, Nat.reduceSub, Nat.reduceGT, Nat.reducePow, Nat.reduceLeDiff, Int.reduceToNat]) (by simp only [go_sem, reduceIte, Nat.reduceLT, Nat.reduceEqDiff, Nat.reduceAdd, Nat.reduceBEq, Nat.reduceMul, Nat.reduceSub, Nat.reduceGT, Nat.reducePow, Nat.reduceLeDiff, Int.reduceToNat]) (by simp only [go_sem, reduceIte, Nat.reduceLT, Nat.reduceEqDiff, Nat.reduceAdd, Nat.reduceBEq, Nat.reduceMul, Nat.reduceSub, Nat.reduceGT, Nat.reducePow, Nat.reduceLeDiff, Int.reduceToNat]) (by simp only [go_sem, reduceIte, Nat.reduceLT, Nat.reduceEqDiff, Nat.reduceAdd, Nat.reduceBEq, Nat.reduceMul, Nat.reduceSub, Nat.reduceGT, Nat.reducePow, Nat.reduceLeDiff, Int.reduceToNat]) (by simp only [go_sem, reduceIte, Nat.reduceLT, Nat.reduceEqDiff, Nat.reduceAdd, Nat.reduceBEq, Nat.reduceMul, Nat.reduceSub, Nat.reduceGT, Nat.reducePow, Nat.reduceLeDiff, Int.reduceToNat])), trivial⟩, ?_⟩ ?_
      · simp only [go_sem, reduceIte, Nat.reduceLT, Nat.reduceEqDiff, Nat.reduceAdd, Nat.reduceBEq, Nat.reduceMul, Nat.reduceSub, Nat.reduceGT, Nat.reducePow, Nat.reduceLeDiff, Int.reduceToNat]
      refine run_ret ?_
      refine blockK_r ?_
      refine joinK_r ?_
      replace h := bind_some1 h; obtain ⟨z_675, h, e_z_675⟩ := h
      obtain rfl := Option.some.inj e_z_675
      obtain rfl := Option.some.inj hj_672
      obtain rfl := Option.some.inj h
      refine ret_own (.inr rfl) [0] (by decide) rfl ?_ ?_
      · simp only [go_sem, reduceIte, Nat.reduceLT, Nat.reduceEqDiff, Nat.reduceAdd, Nat.reduceBEq, Nat.reduceMul, Nat.reduceSub, Nat.reduceGT, Nat.reducePow, Nat.reduceLeDiff, Int.reduceToNat]
      · simp only [go_sem, reduceIte, Nat.reduceLT, Nat.reduceEqDiff, Nat.reduceAdd, Nat.reduceBEq, Nat.reduceMul, Nat.reduceSub, Nat.reduceGT, Nat.reducePow, Nat.reduceLeDiff, Int.reduceToNat]
    · replace h := ite_f h hb
      refine run_textE hE [0, 3, 17] (fr' := [(0, .bs false 0 (b_232.length) 0 (b_232.length)), (3, .ref 1 0), (17, .bool ((v_233.Kind == 2)))]) (σ' := [.buf 1 (L cU8 b_232) false, .box [i64 v_233.Kind, i64 v_233.N, .sl false (L cU8 v_233.B), .sl false (L cRaw v_233.L)] false]) ⟨_, orcs_nil, ?_⟩ ?_
      · simp only [go_sem, reduceIte, Nat.reduceLT, Nat.reduceEqDiff, Nat.reduceAdd, Nat.reduceBEq, Nat.reduceMul, Nat.reduceSub, Nat.reduceGT, Nat.reducePow, Nat.reduceLeDiff, Int.reduceToNat]
      refine run_condL (b := (v_233.Kind == 2)) rfl (by decide) (fun hb => ?_) (fun hb => ?_)
      · replace h := ite_t h hb
        replace h := chk_some h; obtain ⟨hc_676, h⟩ := h
        replace h := lt1_some h; obtain ⟨l_677, hz_678, h⟩ := h
        refine run_textE hE [0, 3] (fr' := [(0, .bs false 0 (l_677.length) 0 (l_677.length)), (3, .ref 1 0)]) (σ' := [.buf 1 (L cU8 l_677) false, .box [i64 v_233.Kind, i64 v_233.N, .sl false (L cU8 v_233.B), .sl false (L cRaw v_233.L)] false, .buf 1 (L cU8 (([(48 : UInt8)] : List UInt8))) false]) ⟨_, orcs_nil, ?_⟩ ?_
        · subst hz_678; simp only [go_sem, reduceIte, Nat.reduceLT, Nat.reduceEqDiff, Nat.reduceAdd, Nat.reduceBEq, Nat.reduceMul, Nat.reduceSub, Nat.reduceGT, Nat.reducePow, Nat.reduceLeDiff, Int.reduceToNat, hc_676]
        replace h := bind_some1 h; obtain ⟨j_742, hA_743, hj_744⟩ := h
        refine run_join (fun (v : List UInt8) => (⟨asFr 59 [(0, .bs false 0 (v.length) 0 (v.length))], [.buf 1 (L cU8 v) false]⟩ : St)) (fun v => v = j_742) ?_ ?_
        · have h := hA_743; clear hA_743
          refine run_textE hE [0, 23, 24, 25] (fr' := [(0, .bs false 0 (l_677.length) 0 (l_677.length)), (23, .sl false (L cU8 v_233.B)), (24, i64 ((v_233.B.length : Int))), (25, i64 0)]) (σ' := [.buf 1 (L cU8 l_677) false, .box [i64 v_233.Kind, i64 v_233.N, .sl false (L cU8 v_233.B), .sl false (L cRaw v_233.L)] false, .buf 1 (L cU8 (([(48 : UInt8)] : List UInt8))) false]) ⟨_, orcs_nil, ?_⟩ ?_
          · simp only [go_sem, reduceIte, Nat.reduceLT, Nat.reduceEqDiff, Nat.reduceAdd, Nat.reduceBEq, Nat.reduceMul, Nat.reduceSub, Nat.reduceGT, Nat.reducePow, Nat.reduceLeDiff, Int.reduceToNat]
          refine run_block ?_
          replace h := bind_some1 h; obtain ⟨x_784, hx_785, hj_786⟩ := h
          refine run_loopO hx_785 (fun (v : Int × List UInt8) => (⟨asFr 59 [(0, .bs false 0 (v.2.length) 0 (v.2.length)), (23, .sl false (L cU8 v_233.B)), (24, i64 ((v_233.B.length : Int))), (25, i64 v.1)], [.buf 1 (L cU8 v.2) false]⟩ : St)) (weak_sel [0] (by decide) rfl (by simp only [go_sem, reduceIte, Nat.reduceLT, Nat.reduceEqDiff, Nat.reduceAdd, Nat.reduceBEq, Nat.reduceMul, Nat.reduceSub, Nat.reduceGT, Nat.reducePow, Nat.reduceLeDiff, Int.reduceToNat]) (by simp only [go_sem, reduceIte, Nat.reduceLT, Nat.reduceEqDiff, Nat.reduceAdd, Nat.reduceBEq, Nat.reduceMul, Nat.reduceSub, Nat.reduceGT, Nat.reducePow, Nat.reduceLeDiff, Int.reduceToNat])) ?_
          rintro ⟨t_763, l_764⟩ o_787 h hxx_788
          replace h : codec_appendValue_b1 v_233 t_763 l_764 = some o_787 := h
          unfold codec_appendValue_b1 at h
          refine run_textE hE [0, 23, 24, 25, 26] (fr' := [(0, .bs false 0 (l_764.length) 0 (l_764.length)), (23, .sl false (L cU8 v_233.B)), (24, i64 ((v_233.B.length : Int))), (25, i64 t_763), (26, .bool ((decide (t_763 < (v_233.B.length : Int)))))]) (σ' := [.buf 1 (L cU8 l_764) false]) ⟨_, orcs_nil, ?_⟩ ?_
          · simp only [go_sem, reduceIte, Nat.reduceLT, Nat.reduceEqDiff, Nat.reduceAdd, Nat.reduceBEq, Nat.reduceMul, Nat.reduceSub, Nat.reduceGT, Nat.reducePow, Nat.reduceLeDiff, Int.reduceToNat]
          refine run_seq ?_
          refine run_condL (b := (decide (t_763 < (v_233.B.length : Int)))) rfl (by decide) (fun hb => ?_) (fun hb => ?_)
          · replace h := ite_t h hb
            refine run_skip ?_
            refine thenK_n ?_
            replace h := bind_some1 h; obtain ⟨j_797, hA_798, hj_799⟩ := h
            refine run_join (fun (v : List UInt8) => (⟨asFr 59 [(0, .bs false 0 (v.length) 0 (v.length)), (23, .sl false (L cU8 v_233.B)), (24, i64 ((v_233.B.length : Int))), (25, i64 t_763)], [.buf 1 (L cU8 v) false]⟩ : St)) (fun v => v = j_797) ?_ ?_
            · have h := hA_798; clear hA_798
              refine run_block ?_
              replace h := chk_some h; obtain ⟨hc_800, h⟩ := h
              refine run_textE hE [0, 6, 23, 24, 25] (fr' := [(0, .bs false 0 (l_764.length) 0 (l_764.length)), (6, u8 (nth v_233.B t_763.toNat)), (23, .sl false (L cU8 v_233.B)), (24, i64 ((v_233.B.length : Int))), (25, i64 t_763)]) (σ' := [.buf 1 (L cU8 l_764) false]) ⟨_, orcs_nil, ?_⟩ ?_
              · simp only [go_sem, reduceIte, Nat.reduceLT, Nat.reduceEqDiff, Nat.reduceAdd, Nat.reduceBEq, Nat.reduceMul, Nat.reduceSub, Nat.reduceGT, Nat.reducePow, Nat.reduceLeDiff, Int.reduceToNat, hc_800, hc_800.2, lt_le hc_800.2]
              replace h := chk_some h; obtain ⟨hc_801, h⟩ := h
              replace h := lt1_some h; obtain ⟨l_802, hz_803, h⟩ := h
              refine run_textE hE [0, 6, 23, 24, 25] (fr' := [(0, .bs false 0 (l_802.length) 0 (l_802.length)), (6, u8 (nth v_233.B t_763.toNat)), (23, .sl false (L cU8 v_233.B)), (24, i64 ((v_233.B.length : Int))), (25, i64 t_763)]) (σ' := [.buf 1 (L cU8 l_802) false, .buf 1 (L cU8 (([nth v_233.B t_763.toNat] : List UInt8))) false]) ⟨_, orcs_nil, ?_⟩ ?_
              · subst hz_803; simp only [go_sem, reduceIte, Nat.reduceLT, Nat.reduceEqDiff, Nat.reduceAdd, Nat.reduceBEq, Nat.reduceMul, Nat.reduceSub, Nat.reduceGT, Nat.reducePow, Nat.reduceLeDiff, Int.reduceToNat, hc_801]
              refine run_textE hE [0, 23, 24, 25, 34] (fr' := [(0, .bs false 0 (l_802.length) 0 (l_802.length)), (23, .sl false (L cU8 v_233.B)), (24, i64 ((v_233.B.length : Int))), (25, i64 t_763), (34, .bool ((nth v_233.B t_763.toNat == (0 : UInt8))))]) (σ' := [.buf 1 (L cU8 l_802) false, .buf 1 (L cU8 (([nth v_233.B t_763.toNat] : List UInt8))) false]) ⟨_, orcs_nil, ?_⟩ ?_
              · simp only [go_sem, reduceIte, Nat.reduceLT, Nat.reduceEqDiff, Nat.reduceAdd, Nat.reduceBEq, Nat.reduceMul, Nat.reduceSub, Nat.reduceGT, Nat.reducePow, Nat.reduceLeDiff, Int.reduceToNat]
              refine run_condL (b := (nth v_233.B t_763.toNat == (0 : UInt8))) rfl (by decide) (fun hb => ?_) (fun hb => ?_)
              · replace h := ite_t h hb
                replace h := chk_some h; obtain ⟨hc_804, h⟩ := h
                replace h := lt1_some h; obtain ⟨l_805, hz_806, h⟩ := h
                refine run_textE0 hE (wk_block wk_join) [0, 23, 24, 25] (fr' := [(0, .bs false 0 (l_805.length) 0 (l_805.length)), (23, .sl false (L cU8 v_233.B)), (24, i64 ((v_233.B.length : Int))), (25, i64 t_763)]) (σ' := [.buf 1 (L cU8 l_805) false, .buf 1 (L cU8 (([nth v_233.B t_763.toNat] : List UInt8))) false, .buf 1 (L cU8 (([(255 : UInt8)] : List UInt8))) false]) ⟨_, orcs_nil, ?_⟩ ?_
                · subst hz_806; simp only [go_sem, reduceIte, Nat.reduceLT, Nat.reduceEqDiff, Nat.reduceAdd, Nat.reduceBEq, Nat.reduceMul, Nat.reduceSub, Nat.reduceGT, Nat.reducePow, Nat.reduceLeDiff, Int.reduceToNat, hc_804]
                refine blockK_n ?_
                obtain rfl := Option.some.inj h
                exact joinK_n l_805 rfl (weak_sel [0] (by decide) rfl (by simp only [go_sem, reduceIte, Nat.reduceLT, Nat.reduceEqDiff, Nat.reduceAdd, Nat.reduceBEq, Nat.reduceMul, Nat.reduceSub, Nat.reduceGT, Nat.reducePow, Nat.reduceLeDiff, Int.reduceToNat]) (by simp only [go_sem, reduceIte, Nat.reduceLT, Nat.reduceEqDiff, Nat.reduceAdd, Nat.reduceBEq, Nat.reduceMul, Nat.reduceSub, Nat.reduceGT, Nat.reducePow, Nat.reduceLeDiff, Int.reduceToNat]))
              · replace h := ite_f h hb
                refine run_skip ?_
                refine blockK_n ?_
                obtain rfl := Option.some.inj h
                exact joinK_n l_802 rfl (weak_sel [0] (by decide) rfl (by simp only [go_sem, reduceIte, Nat.reduceLT, Nat.reduceEqDiff, Nat.reduceAdd, Nat.reduceBEq, Nat.reduceMul, Nat.reduceSub, Nat.reduceGT, Nat.reducePow, Nat.reduceLeDiff, Int.reduceToNat]) (by simp only [go_sem, reduceIte, Nat.reduceLT, Nat.reduceEqDiff, Nat.reduceAdd, Nat.reduceBEq, Nat.reduceMul, Nat.reduceSub, Nat.reduceGT, Nat.reducePow, Nat.reduceLeDiff, Int.reduceToNat]))
            rintro l_796 rfl
            have h := hj_799; clear hj_799
            refine run_textE0 hE wk_lp [0, 23, 24, 25] (fr' := [(0, .bs false 0 (l_796.length) 0 (l_796.length)), (23, .sl false (L cU8 v_233.B)), (24, i64 ((v_233.B.length : Int))), (25, i64 ((w64 (t_763 + 1))))]) (σ' := [.buf 1 (L cU8 l_796) false]) ⟨_, orcs_nil, ?_⟩ ?_
            · simp only [go_sem, reduceIte, Nat.reduceLT, Nat.reduceEqDiff, Nat.reduceAdd, Nat.reduceBEq, Nat.reduceMul, Nat.reduceSub, Nat.reduceGT, Nat.reducePow, Nat.reduceLeDiff, Int.reduceToNat]
            obtain rfl := Option.some.inj h
            exact lpK_n (((w64 (t_763 + 1)), l_796)) rfl (weak_sel [0] (by decide) rfl (by simp only [go_sem, reduceIte, Nat.reduceLT, Nat.reduceEqDiff, Nat.reduceAdd, Nat.reduceBEq, Nat.reduceMul, Nat.reduceSub, Nat.reduceGT, Nat.reducePow, Nat.reduceLeDiff, Int.reduceToNat]) (by simp only [go_sem, reduceIte, Nat.reduceLT, Nat.reduceEqDiff, Nat.reduceAdd, Nat.reduceBEq, Nat.reduceMul, Nat.reduceSub, Nat.reduceGT, Nat.reducePow, Nat.reduceLeDiff, Int.reduceToNat]))
          · replace h := ite_f h hb
            refine run_exit ?_
            refine thenK_x ?_
            obtain rfl := Option.some.inj h
            have ex_x_784 := hxx_788 _ rfl
            subst ex_x_784
            have h := hj_786; clear hj_786
            refine lpK_x ?_
            refine blockK_x ?_
            obtain rfl := Option.some.inj h
            exact joinK_n l_764 rfl ((weak_sel (l' := [(0, .bs false 0 (l_764.length) 0 (l_764.length))]) (σ' := [.buf 1 (L cU8 l_764) false]) [0] (by decide) rfl (by simp only [go_sem, reduceIte, Nat.reduceLT, Nat.reduceEqDiff, Nat.reduceAdd, Nat.reduceBEq, Nat.reduceMul, Nat.reduceSub, Nat.reduceGT, Nat.reducePow, Nat.reduceLeDiff, Int.reduceToNat]) (by simp only [go_sem, reduceIte, Nat.reduceLT, Nat.reduceEqDiff, Nat.reduceAdd, Nat.reduceBEq, Nat.reduceMul, Nat.reduceSub, Nat.reduceGT, Nat.reducePow, Nat.reduceLeDiff, Int.reduceToNat])).trans (weak_sel [0] (by decide) rfl (by simp only [go_sem, reduceIte, Nat.reduceLT, Nat.reduceEqDiff, Nat.reduceAdd, Nat.reduceBEq, Nat.reduceMul, Nat.reduceSub, Nat.reduceGT, Nat.reducePow, Nat.reduceLeDiff, Int.reduceToNat]) (by simp only [go_sem, reduceIte, Nat.reduceLT, Nat.reduceEqDiff, Nat.reduceAdd, Nat.reduceBEq, Nat.reduceMul, Nat.reduceSub, Nat.reduceGT, Nat.reducePow, Nat.reduceLeDiff, Int.reduceToNat])))
        rintro l_741 rfl
        have h := hj_744; clear hj_744
        replace h := chk_some h; obtain ⟨hc_807, h⟩ := h
        replace h := lt1_some h; obtain ⟨l_808, hz_809, h⟩ := h
        refine run_textE hE [4] (fr' := [(4, .bs false 0 (l_808.length) 0 (l_808.length))]) (σ' := [.buf 1 (L cU8 l_808) false, .buf 1 (L cU8 (([(0 : UInt8), (0 : UInt8)] : List UInt8))) false]) ⟨_, orcs_nil, ?_⟩ ?_
        · subst hz_809; simp only [go_sem, reduceIte, Nat.reduceLT, Nat.reduceEqDiff, Nat.reduceAdd, Nat.reduceBEq, Nat.reduceMul, Nat.reduceSub, Nat.reduceGT, Nat.reducePow, Nat.reduceLeDiff, Int.reduceToNat, hc_807]
        refine run_ret ?_
        refine blockK_r ?_
        refine joinK_r ?_
        replace h := bind_some1 h; obtain ⟨z_810, h, e_z_810⟩ := h
        obtain rfl := Option.some.inj e_z_810
        obtain rfl := Option.some.inj hj_672
        obtain rfl := Option.some.inj h
        refine ret_own (.inr rfl) [0] (by decide) rfl ?_ ?_
        · simp only [go_sem, reduceIte, Nat.reduceLT, Nat.reduceEqDiff, Nat.reduceAdd, Nat.reduceBEq, Nat.reduceMul, Nat.reduceSub, Nat.reduceGT, Nat.reducePow, Nat.reduceLeDiff, Int.reduceToNat]
        · simp only [go_sem, reduceIte, Nat.reduceLT, Nat.reduceEqDiff, Nat.reduceAdd, Nat.reduceBEq, Nat.reduceMul, Nat.reduceSub, Nat.reduceGT, Nat.reducePow, Nat.reduceLeDiff, Int.reduceToNat]
      · replace h := ite_f h hb
        refine run_skip ?_
        refine blockK_n ?_
        obtain rfl := Option.some.inj h
        exact joinK_n (()) rfl (weak_sel [0, 1] (by decide) rfl (by simp only [go_sem, reduceIte, Nat.reduceLT, Nat.reduceEqDiff, Nat.reduceAdd, Nat.reduceBEq, Nat.reduceMul, Nat.reduceSub, Nat.reduceGT, Nat.reducePow, Nat.reduceLeDiff, Int.reduceToNat]) (by simp only [go_sem, reduceIte, Nat.reduceLT, Nat.reduceEqDiff, Nat.reduceAdd, Nat.reduceBEq, Nat.reduceMul, Nat.reduceSub, Nat.reduceGT, Nat.reducePow, Nat.reduceLeDiff, Int.reduceToNat]))
  rintro ⟨⟩ rfl
  have h := hj_672; clear hj_672
  replace h := chk_some h; obtain ⟨hc_811, h⟩ := h
  replace h := lt1_some h; obtain ⟨l_812, hz_813, h⟩ := h
  refine run_textE hE [0, 3] (fr' := [(0, .bs false 0 (l_812.length) 0 (l_812.length)), (3, .ref 1 0)]) (σ' := [.buf 1 (L cU8 l_812) false, .box [i64 v_233.Kind, i64 v_233.N, .sl false (L cU8 v_233.B), .sl false (L cRaw v_233.L)] false, .buf 1 (L cU8 (([(64 : UInt8)] : List UInt8))) false]) ⟨_, orcs_nil, ?_⟩ ?_
  · subst hz_813; simp only [go_sem, reduceIte, Nat.reduceLT, Nat.reduceEqDiff, Nat.reduceAdd, Nat.reduceBEq, Nat.reduceMul, Nat.reduceSub, Nat.reduceGT, Nat.reducePow, Nat.reduceLeDiff, Int.reduceToNat, hc_811]
  replace h := bind_some1 h; obtain ⟨j_819, hA_820, hj_821⟩ := h
  refine run_join (fun (v : Unit) => (⟨asFr 59 [(0, .bs false 0 (l_812.length) 0 (l_812.length))], [.buf 1 (L cU8 l_812) false]⟩ : St)) (fun v => v = j_819) ?_ ?_
  · have h := hA_820; clear hA_820
    refine run_textE hE [0, 46, 47, 48] (fr' := [(0, .bs false 0 (l_812.length) 0 (l_812.length)), (46, .sl false (L cRaw v_233.L)), (47, i64 ((v_233.L.length : Int))), (48, i64 0)]) (σ' := [.buf 1 (L cU8 l_812) false, .box [i64 v_233.Kind, i64 v_233.N, .sl false (L cU8 v_233.B), .sl false (L cRaw v_233.L)] false, .buf 1 (L cU8 (([(64 : UInt8)] : List UInt8))) false]) ⟨_, orcs_nil, ?_⟩ ?_
    · simp only [go_sem, reduceIte, Nat.reduceLT, Nat.reduceEqDiff, Nat.reduceAdd, Nat.reduceBEq, Nat.reduceMul, Nat.reduceSub, Nat.reduceGT, Nat.reducePow, Nat.reduceLeDiff, Int.reduceToNat]
    refine run_block ?_
    replace h := bind_some1 h; obtain ⟨x_822, hx_823, hj_824⟩ := h
    refine run_loopO hx_823 (fun (v : Unit) => (⟨asFr 59 [(0, .bs false 0 (l_812.length) 0 (l_812.length)), (46, .sl false (L cRaw v_233.L)), (47, i64 ((v_233.L.length : Int))), (48, i64 0)], [.buf 1 (L cU8 l_812) false]⟩ : St)) (weak_sel [0] (by decide) rfl (by simp only [go_sem, reduceIte, Nat.reduceLT, Nat.reduceEqDiff, Nat.reduceAdd, Nat.reduceBEq, Nat.reduceMul, Nat.reduceSub, Nat.reduceGT, Nat.reducePow, Nat.reduceLeDiff, Int.reduceToNat]) (by simp only [go_sem, reduceIte, Nat.reduceLT, Nat.reduceEqDiff, Nat.reduceAdd, Nat.reduceBEq, Nat.reduceMul, Nat.reduceSub, Nat.reduceGT, Nat.reducePow, Nat.reduceLeDiff, Int.reduceToNat])) ?_
    rintro ⟨⟩ o_825 h hxx_826
    replace h : codec_appendValue_b2 v_233  = some o_825 := h
    unfold codec_appendValue_b2 at h
    refine run_textE hE [0, 46, 47, 48, 49] (fr' := [(0, .bs false 0 (l_812.length) 0 (l_812.length)), (46, .sl false (L cRaw v_233.L)), (47, i64 ((v_233.L.length : Int))), (48, i64 0), (49, .bool ((decide (0 < (v_233.L.length : Int)))))]) (σ' := [.buf 1 (L cU8 l_812) false]) ⟨_, orcs_nil, ?_⟩ ?_
    · simp only [go_sem, reduceIte, Nat.reduceLT, Nat.reduceEqDiff, Nat.reduceAdd, Nat.reduceBEq, Nat.reduceMul, Nat.reduceSub, Nat.reduceGT, Nat.reducePow, Nat.reduceLeDiff, Int.reduceToNat]
    refine run_seq ?_
    refine run_condL (b := (decide (0 < (v_233.L.length : Int)))) rfl (by decide) (fun hb => ?_) (fun hb => ?_)
    · replace h := ite_t h hb
      refine run_skip ?_
      refine thenK_n ?_
      refine run_seq ?_
      refine run_block ?_
      cases h
    · replace h := ite_f h hb
      refine run_exit ?_
      refine thenK_x ?_
      obtain rfl := Option.some.inj h
      have ex_x_822 := hxx_826 _ rfl
      subst ex_x_822
      have h := hj_824; clear hj_824
      refine lpK_x ?_
      refine blockK_x ?_
      obtain rfl := Option.some.inj h
      exact joinK_n (()) rfl ((weak_sel (l' := [(0, .bs false 0 (l_812.length) 0 (l_812.length))]) (σ' := [.buf 1 (L cU8 l_812) false]) [0] (by decide) rfl (by simp only [go_sem, reduceIte, Nat.reduceLT, Nat.reduceEqDiff, Nat.reduceAdd, Nat.reduceBEq, Nat.reduceMul, Nat.reduceSub, Nat.reduceGT, Nat.reducePow, Nat.reduceLeDiff, Int.reduceToNat]) (by simp only [go_sem, reduceIte, Nat.reduceLT, Nat.reduceEqDiff, Nat.reduceAdd, Nat.reduceBEq, Nat.reduceMul, Nat.reduceSub, Nat.reduceGT, Nat.reducePow, Nat.reduceLeDiff, Int.reduceToNat])).trans (weak_sel [0] (by decide) rfl (by simp only [go_sem, reduceIte, Nat.reduceLT, Nat.reduceEqDiff, Nat.reduceAdd, Nat.reduceBEq, Nat.reduceMul, Nat.reduceSub, Nat.reduceGT, Nat.reducePow, Nat.reduceLeDiff, Int.reduceToNat]) (by simp only [go_sem, reduceIte, Nat.reduceLT, Nat.reduceEqDiff, Nat.reduceAdd, Nat.reduceBEq, Nat.reduceMul, Nat.reduceSub, Nat.reduceGT, Nat.reducePow, Nat.reduceLeDiff, Int.reduceToNat])))
  rintro ⟨⟩ rfl
  have h := hj_821; clear hj_821
  replace h := chk_some h; obtain ⟨hc_827, h⟩ := h
  replace h := lt1_some h; obtain ⟨l_828, hz_829, h⟩ := h
  refine run_textE hE [4] (fr' := [(4, .bs false 0 (l_828.length) 0 (l_828.length))]) (σ' := [.buf 1 (L cU8 l_828) false, .buf 1 (L cU8 (([(0 : UInt8)] : List UInt8))) false]) ⟨_, orcs_nil, ?_⟩ ?_
  · subst hz_829; simp only [go_sem, reduceIte, Nat.reduceLT, Nat.reduceEqDiff, Nat.reduceAdd, Nat.reduceBEq, Nat.reduceMul, Nat.reduceSub, Nat.reduceGT, Nat.reducePow, Nat.reduceLeDiff, Int.reduceToNat, hc_827]
  refine run_ret ?_
  obtain rfl := Option.some.inj h
  refine ret_own (.inr rfl) [0] (by decide) rfl ?_ ?_
  · simp only [go_sem, reduceIte, Nat.reduceLT, Nat.reduceEqDiff, Nat.reduceAdd, Nat.reduceBEq, Nat.reduceMul, Nat.reduceSub, Nat.reduceGT, Nat.reducePow, Nat.reduceLeDiff, Int.reduceToNat]
  · simp only [go_sem, reduceIte, Nat.reduceLT, Nat.reduceEqDiff, Nat.reduceAdd, Nat.reduceBEq, Nat.reduceMul, Nat.reduceSub, Nat.reduceGT, Nat.reducePow, Nat.reduceLeDiff, Int.reduceToNat]

theorem codec_Encode_con {v_830 : Api_Value} {r : List UInt8 × Int} (h : codec_Encode v_830 = some r) : Con B 22 [.agg [i64 v_830.Kind, i64 v_830.N, .sl false (L cU8 v_830.B), .sl false (L cRaw v_830.L)]] [] (fun r' σ' => r' = .tup [.sl false (L cU8 r.1), i64 r.2] ∧ σ' = []) := by
  refine con_walk (N := 22) (rs := [.tmp 2, .tmp 3]) ok Tryd.func22 rfl (by decide +kernel) rfl rfl (Nat.le_of_ble_eq_true rfl) (fun F => ?_)
  have hE := ok.env F
  unfold codec_Encode at h
  show Run (B.env F) 0 _ ⟨asFr 22 [(0, .agg [i64 v_830.Kind, i64 v_830.N, .sl false (L cU8 v_830.B), .sl false (L cRaw v_830.L)])], []⟩ _
  refine run_textE hE [1] (fr' := [(1, .ref 0 0)]) (σ' := [.box [i64 v_830.Kind, i64 v_830.N, .sl false (L cU8 v_830.B), .sl false (L cRaw v_830.L)] false]) ⟨_, orcs_nil, ?_⟩ ?_
  · simp only [go_sem, reduceIte, Nat.reduceLT, Nat.reduceEqDiff, Nat.reduceAdd, Nat.reduceBEq, Nat.reduceMul, Nat.reduceSub, Nat.reduceGT, Nat.reducePow, Nat.reduceLeDiff, Int.reduceToNat]
  replace h := bind_some1 h; obtain ⟨y_831, hy_832, h⟩ := h
  refine run_textE hE [1, 4, 5] (fr' := [(1, .ref 0 0), (4, i64 y_831.1), (5, .bool y_831.2)]) (σ' := [.box [i64 v_830.Kind, i64 v_830.N, .sl false (L cU8 v_830.B), .sl false (L cRaw v_830.L)] false]) ⟨_, orcs_ok (l := [(9, 31, [.agg [i64 v_830.Kind, i64 v_830.N, .sl false (L cU8 v_830.B), .sl false (L cRaw v_830.L)]], .tup [i64 y_831.1, .bool y_831.2])]) ⟨codec_shape_con hy_832, trivial⟩, ?_⟩ ?_
  · simp only [go_sem, reduceIte, Nat.reduceLT, Nat.reduceEqDiff, Nat.reduceAdd, Nat.reduceBEq, Nat.reduceMul, Nat.reduceSub, Nat.reduceGT, Nat.reducePow, Nat.reduceLeDiff, Int.reduceToNat]
  refine run_seq ?_
  refine run_textE hE [1, 4, 13] (fr' := [(1, .ref 0 0), (4, i64 y_831.1), (13, .bool ((!y_831.2)))]) (σ' := [.box [i64 v_830.Kind, i64 v_830.N, .sl false (L cU8 v_830.B), .sl false (L cRaw v_830.L)] false]) ⟨_, orcs_nil, ?_⟩ ?_
  · simp only [go_sem, reduceIte, Nat.reduceLT, Nat.reduceEqDiff, Nat.reduceAdd, Nat.reduceBEq, Nat.reduceMul, Nat.reduceSub, Nat.reduceGT, Nat.reducePow, Nat.reduceLeDiff, Int.reduceToNat]
  refine run_condL (b := (!y_831.2)) rfl (by decide) (fun hb => ?_) (fun hb => ?_)
  · replace h := ite_t h hb
    refine run_textE hE [2, 3] (fr' := [(2, .sl true (L cU8 ([]))), (3, i64 10)]) (σ' := [.box [i64 v_830.Kind, i64 v_830.N, .sl false (L cU8 v_830.B), .sl false (L cRaw v_830.L)] false]) ⟨_, orcs_nil, ?_⟩ ?_
    · simp only [go_sem, reduceIte, Nat.reduceLT, Nat.reduceEqDiff, Nat.reduceAdd, Nat.reduceBEq, Nat.reduceMul, Nat.reduceSub, Nat.reduceGT, Nat.reducePow, Nat.reduceLeDiff, Int.reduceToNat]
    refine run_ret ?_
    refine thenK_r ?_
    obtain rfl := Option.some.inj h
    refine ret_ok (.inr rfl) ?_
    simp only [go_sem, reduceIte, Nat.reduceLT, Nat.reduceEqDiff, Nat.reduceAdd, Nat.reduceBEq, Nat.reduceMul, Nat.reduceSub, Nat.reduceGT, Nat.reducePow, Nat.reduceLeDiff, Int.reduceToNat]
  · replace h := ite_f h hb
    refine run_skip ?_
    refine thenK_n ?_
    refine run_seq ?_
    refine run_textE hE [1, 15] (fr' := [(1, .ref 0 0), (15, .bool ((decide (y_831.1 > 16))))]) (σ' := [.box [i64 v_830.Kind, i64 v_830.N, .sl false (L cU8 v_830.B), .sl false (L cRaw v_830.L)] false]) ⟨_, orcs_nil, ?_⟩ ?_
    · simp only [go_sem, reduceIte, Nat.reduceLT, Nat.reduceEqDiff, Nat.reduceAdd, Nat.reduceBEq, Nat.reduceMul, Nat.reduceSub, Nat.reduceGT, Nat.reducePow, Nat.reduceLeDiff, Int.reduceToNat]
    refine run_condL (b := (decide (y_831.1 > 16))) rfl (by decide) (fun hb => ?_) (fun hb => ?_)
    · replace h := ite_t h hb
      refine run_textE hE [2, 3] (fr' := [(2, .sl true (L cU8 ([]))), (3, i64 2)]) (σ' := [.box [i64 v_830.Kind, i64 v_830.N, .sl false (L cU8 v_830.B), .sl false (L cRaw v_830.L)] false]) ⟨_, orcs_nil, ?_⟩ ?_
      · simp only [go_sem, reduceIte, Nat.reduceLT, Nat.reduceEqDiff, Nat.reduceAdd, Nat.reduceBEq, Nat.reduceMul, Nat.reduceSub, Nat.reduceGT, Nat.reducePow, Nat.reduceLeDiff, Int.reduceToNat]
      refine run_ret ?_
      refine thenK_r ?_
      obtain rfl := Option.some.inj h
      refine ret_ok (.inr rfl) ?_
      simp only [go_sem, reduceIte, Nat.reduceLT, Nat.reduceEqDiff, Nat.reduceAdd, Nat.reduceBEq, Nat.reduceMul, Nat.reduceSub, Nat.reduceGT, Nat.reducePow, Nat.reduceLeDiff, Int.reduceToNat]
    · replace h := ite_f h hb
      refine run_skip ?_
      refine thenK_n ?_
      replace h := bind_some1 h; obtain ⟨y_833, hy_834, h⟩ := h
      refine run_textE hE [6] (fr' := [(6, .bs false 1 (y_833.length) 0 (y_833.length))]) (σ' := [.box [i64 v_830.Kind, i64 v_830.N, .sl false (L cU8 v_830.B), .sl false (L cRaw v_830.L)] false, .buf 1 (L cU8 y_833) false]) ⟨_, orcs_ok2 (l := []) (m := [(17, 32, [.sl true (L cU8 ([])), .agg [i64 v_830.Kind, i64 v_830.N, .sl false (L cU8 v_830.B), .sl false (L cRaw v_830.L)]], [.box [i64 v_830.Kind, i64 v_830.N, .sl false (L cU8 v_830.B), .sl false (L cRaw v_830.L)] false], .bs false 1 (y_833.length) 0 (y_833.length), [.box [i64 v_830.Kind, i64 v_830.N, .sl false (L cU8 v_830.B), .sl false (L cRaw v_830.L)] false, .buf 1 (L cU8 y_833) false])]) trivial ⟨(wcon_nil 1 (args' := [.bs true 1 0 0 0, .agg [i64 v_830.Kind, i64 v_830.N, .sl false (L cU8 v_830.B), .sl false (L cRaw v_830.L)]]) (by simp only [go_sem, reduceIte, Nat.reduceLT, Nat.reduceEqDiff, Nat.reduceAdd, Nat.reduceBEq, Nat.reduceMul, Nat.reduceSub, Nat.reduceGT, Nat.reducePow, Nat.reduceLeDiff, Int.reduceToNat]) (wcon_call (codec_appendValue_con hy_834) [1] (by decide) (by simp only [go_sem, reduceIte, Nat.reduceLT, Nat.reduceEqDiff, Nat.reduceAdd, Nat.reduceBEq, Nat.reduceMul, Nat.reduceSub, Nat.reduceGT, Nat.reducePow, Nat.reduceLeDiff, Int.reduceToNat]) (by simp only [go_sem, reduceIte, Nat.reduceLT, Nat.reduceEqDiff, Nat.reduceAdd, Nat.reduceBEq, Nat.reduceMul, Nat.reduceSub, Nat.reduceGT, Nat.reducePow, Nat.reduceLeDiff, Int.reduceToNat]) (by simp only [go_sem, reduceIte, Nat.reduceLT, Nat.reduceEqDiff, Nat.reduceAdd, Nat.reduceBEq, Nat.reduceMul, Nat.reduceSub, Nat.reduceGT, Nat.reducePow, Nat.reduceLeDiff, Int.reduceToNat]) (by simp only [go_sem, reduceIte, Nat.reduceLT, Nat.reduceEqDiff, Nat.reduceAdd, Nat.reduceBEq, Nat.reduceMul, Nat.reduceSub, Nat.reduceGT, Nat.reducePow, Nat.reduceLeDiff, Int.reduceToNat]) (by simp only [go_sem, reduceIte, Nat.reduceLT, Nat.reduceEqDiff, Nat.reduceAdd, Nat.reduceBEq, Nat.reduceMul, Nat.reduceSub, Nat.reduceGT, Nat.reducePow, Nat.reduceLeDiff, Int.reduceToNat]))), trivial⟩, ?_⟩ ?_
      · simp only [go_sem, reduceIte, Nat.reduceLT, Nat.reduceEqDiff, Nat.reduceAdd, Nat.reduceBEq, Nat.reduceMul, Nat.reduceSub, Nat.reduceGT, Nat.reducePow, Nat.reduceLeDiff, Int.reduceToNat]
      refine run_seq ?_
      refine run_textE hE [6, 20] (fr' := [(6, .bs false 1 (y_833.length) 0 (y_833.length)), (20, .bool ((decide ((y_833.length : Int) > 65536))))]) (σ' := [.box [i64 v_830.Kind, i64 v_830.N, .sl false (L cU8 v_830.B), .sl false (L cRaw v_830.L)] false, .buf 1 (L cU8 y_833) false]) ⟨_, orcs_nil, ?_⟩ ?_
      · simp only [go_sem, reduceIte, Nat.reduceLT, Nat.reduceEqDiff, Nat.reduceAdd, Nat.reduceBEq, Nat.reduceMul, Nat.reduceSub, Nat.reduceGT, Nat.reducePow, Nat.reduceLeDiff, Int.reduceToNat]
      refine run_condL (b := (decide ((y_833.length : Int) > 65536))) rfl (by decide) (fun hb => ?_) (fun hb => ?_)
      · replace h := ite_t h hb
        refine run_textE hE [2, 3] (fr' := [(2, .sl true (L cU8 ([]))), (3, i64 2)]) (σ' := [.box [i64 v_830.Kind, i64 v_830.N, .sl false (L cU8 v_830.B), .sl false (L cRaw v_830.L)] false, .buf 1 (L cU8 y_833) false]) ⟨_, orcs_nil, ?_⟩ ?_
        · simp only [go_sem, reduceIte, Nat.reduceLT, Nat.reduceEqDiff, Nat.reduceAdd, Nat.reduceBEq, Nat.reduceMul, Nat.reduceSub, Nat.reduceGT, Nat.reducePow, Nat.reduceLeDiff, Int.reduceToNat]
        refine run_ret ?_
        refine thenK_r ?_
        obtain rfl := Option.some.inj h
        refine ret_ok (.inr rfl) ?_
        simp only [go_sem, reduceIte, Nat.reduceLT, Nat.reduceEqDiff, Nat.reduceAdd, Nat.reduceBEq, Nat.reduceMul, Nat.reduceSub, Nat.reduceGT, Nat.reducePow, Nat.reduceLeDiff, Int.reduceToNat]
      · replace h := ite_f h hb
        refine run_skip ?_
        refine thenK_n ?_
        refine run_textE hE [2, 3] (fr' := [(2, .bs false 1 (y_833.length) 0 (y_833.length)), (3, i64 0)]) (σ' := [.box [i64 v_830.Kind, i64 v_830.N, .sl false (L cU8 v_830.B), .sl false (L cRaw v_830.L)] false, .buf 1 (L cU8 y_833) false]) ⟨_, orcs_nil, ?_⟩ ?_
        · simp only [go_sem, reduceIte, Nat.reduceLT, Nat.reduceEqDiff, Nat.reduceAdd, Nat.reduceBEq, Nat.reduceMul, Nat.reduceSub, Nat.reduceGT, Nat.reducePow, Nat.reduceLeDiff, Int.reduceToNat]
        refine run_ret ?_
        obtain rfl := Option.some.inj h
        refine ret_ok (.inr rfl) ?_
        simp only [go_sem, reduceIte, Nat.reduceLT, Nat.reduceEqDiff, Nat.reduceAdd, Nat.reduceBEq, Nat.reduceMul, Nat.reduceSub, Nat.reduceGT, Nat.reducePow, Nat.reduceLeDiff, Int.reduceToNat]

theorem r02_constants_con  {r : Arr UInt32 64} (h : r02_constants  = some r) : Con B 38 [] [] (fun r' σ' => r' = .agg (C1 u32 r.l) ∧ σ' = []) := by
  refine con_walk (N := 2) (rs := [.cell 0 66]) ok Tryd.func38 rfl (by decide +kernel) rfl rfl (Nat.le_of_ble_eq_true rfl) (fun F => ?_)
  have hE := ok.env F
  unfold r02_constants at h
  show Run (B.env F) 0 _ ⟨asFr 2 [], []⟩ _
  refine run_textE hE [0] (fr' := [(0, .ref 0 0)]) (σ' := [.box (C1 u32 ((Arr.rep 64 (0 : UInt32))).l) false]) ⟨_, orcs_nil, ?_⟩ ?_
  · simp only [go_sem, reduceIte, Nat.reduceLT, Nat.reduceEqDiff, Nat.reduceAdd, Nat.reduceBEq, Nat.reduceMul, Nat.reduceSub, Nat.reduceGT, Nat.reducePow, Nat.reduceLeDiff, Int.reduceToNat]
  replace h := lt1_some h; obtain ⟨f_835, hz_836, h⟩ := h
  refine run_textE hE [0] (fr' := [(0, .ref 0 0)]) (σ' := [.box (C1 u32 f_835.l) false]) ⟨_, orcs_nil, ?_⟩ ?_
  · subst hz_836; simp only [go_sem, reduceIte, Nat.reduceLT, Nat.reduceEqDiff, Nat.reduceAdd, Nat.reduceBEq, Nat.reduceMul, Nat.reduceSub, Nat.reduceGT, Nat.reducePow, Nat.reduceLeDiff, Int.reduceToNat, C1_rep, C1_nil, C1_cons]
  refine run_ret ?_
  obtain rfl := Option.some.inj h
  refine ret_ok (.inr rfl) ?_
  simp only [go_sem, reduceIte, Nat.reduceLT, Nat.reduceEqDiff, Nat.reduceAdd, Nat.reduceBEq, Nat.reduceMul, Nat.reduceSub, Nat.reduceGT, Nat.reducePow, Nat.reduceLeDiff, Int.reduceToNat]

end Go.Proofs.YtgdiabbgiiemcaaDoor
