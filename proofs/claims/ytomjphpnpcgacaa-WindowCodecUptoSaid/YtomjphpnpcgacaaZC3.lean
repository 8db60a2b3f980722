/-
  The library and the walks, part 3.
-/
import Derived.Test.YtomjphpnpcgacaaZC2
import Derived.KernelRfl
import Derived.Test.YtomjphpnpcgacaaR29
import Derived.Test.YtomjphpnpcgacaaRows
import Derived.Test.YtomjphpnpcgacaaR30
import Derived.WalkKit
import Derived.ProofKit
import Derived.OpenShut
import Derived.JoinedCond
/-
  The functions compute just that.
-/
namespace Go.Proofs.Ytomjphpnpcgacaa
open Go.Rv
set_option linter.unusedVariables false
set_option linter.unusedSimpArgs false
set_option maxRecDepth 20000
set_option maxHeartbeats 4000000
theorem take_app1 {α : Type} (c : α → List AV) (l : List α) (x : List AV) : List.take (l.length + 1) (L c l ++ [x]) = L c l ++ [x] := List.take_of_length_le (by simp [L_len])

theorem r12_Decode_con {b_2760 : List UInt8} {r : Api_Packet × Int} (h : r12_Decode b_2760 = some r) : Con B 34 [.sl false (L cU8 b_2760)] [] (fun r' σ' => r' = .tup [.agg [i64 r.1.Epoch, i64 r.1.To, i64 r.1.Seq, i64 r.1.Ack, .sl false (L cU8 r.1.Data)], i64 r.2] ∧ σ' = []) := by
  refine con_walk (N := 79) (rs := [.cell 2 39, .tmp 3]) ok Try.func34 rfl (by decide +kernel) rfl rfl (Nat.le_of_ble_eq_true rfl) (fun F => ?_)
  have hE := ok.env F
  unfold r12_Decode at h
  show Run (B.env F) 0 _ ⟨asFr 79 [(0, .sl false (L cU8 b_2760))], []⟩ _
  refine run_wkP ?_
  refine run_textE hE [0, 2] (fr' := [(0, .sl false (L cU8 b_2760)), (2, .ref 0 0)]) (σ' := [.box [i64 0, i64 0, i64 0, i64 0, .sl true (L cU8 ([]))] false]) ⟨_, orcs_nil, ?_⟩ ?_
  · simp only [go_sem]
  replace h := bind_some1 h; obtain ⟨y_2761, hy_2762, h⟩ := h
  refine run_textE hE [2, 4, 5] (fr' := [(2, .ref 0 0), (4, .ref 1 0), (5, i64 y_2761.2)]) (σ' := [.box [i64 0, i64 0, i64 0, i64 0, .sl true (L cU8 ([]))] false, .box [i64 y_2761.1.Kind, i64 y_2761.1.N, .sl false (L cU8 y_2761.1.B), .sl false (L cApi_Value y_2761.1.L)] false]) ⟨_, orcs_ok (l := [(9, 54, [.sl false (L cU8 b_2760)], .tup [.agg [i64 y_2761.1.Kind, i64 y_2761.1.N, .sl false (L cU8 y_2761.1.B), .sl false (L cApi_Value y_2761.1.L)], i64 y_2761.2])]) ⟨r01_Decode_con  hy_2762, trivial⟩, ?_⟩ ?_
  · simp only [go_sem, Nat.reduceLeDiff]
  refine run_seq ?_
  refine run_textE hE [2, 4, 5, 13] (fr' := [(2, .ref 0 0), (4, .ref 1 0), (5, i64 y_2761.2), (13, .bool ((y_2761.2 != 0)))]) (σ' := [.box [i64 0, i64 0, i64 0, i64 0, .sl true (L cU8 ([]))] false, .box [i64 y_2761.1.Kind, i64 y_2761.1.N, .sl false (L cU8 y_2761.1.B), .sl false (L cApi_Value y_2761.1.L)] false]) ⟨_, orcs_nil, ?_⟩ ?_
  · simp only [go_sem]
  refine run_condL (b := (y_2761.2 != 0)) rfl (by decide) (fun hb => ?_) (fun hb => ?_)
  · replace h := ite_t h hb
    refine run_textE hE [2, 3] (fr' := [(2, .ref 0 0), (3, i64 y_2761.2)]) (σ' := [.box [i64 0, i64 0, i64 0, i64 0, .sl true (L cU8 ([]))] false, .box [i64 y_2761.1.Kind, i64 y_2761.1.N, .sl false (L cU8 y_2761.1.B), .sl false (L cApi_Value y_2761.1.L)] false]) ⟨_, orcs_nil, ?_⟩ ?_
    · simp only [go_sem, Nat.reduceGT, Nat.reduceLeDiff]
    refine run_ret ?_
    refine thenK_r ?_
    obtain rfl := Option.some.inj h
    refine wkP_of (Weak.refl _ _) ?_
    refine ret_ok (.inr rfl) ?_
    simp only [go_sem]
  · replace h := ite_f h hb
    refine run_skip ?_
    refine thenK_n ?_
    refine run_seq ?_
    replace h := bind_some1 h; obtain ⟨t_2763, hv_2764, h⟩ := h
    refine run_textW hE [2, 4, 24] (fr' := [(2, .ref 0 0), (4, .ref 1 0), (24, .bool t_2763)]) (σ' := [.box [i64 0, i64 0, i64 0, i64 0, .sl true (L cU8 ([]))] false, .box [i64 y_2761.1.Kind, i64 y_2761.1.N, .sl false (L cU8 y_2761.1.B), .sl false (L cApi_Value y_2761.1.L)] false]) ?_ ?_
    · rcases Bool.eq_false_or_eq_true ((y_2761.1.Kind != 3)) with hb_2765 | hb_2765
      · replace hv_2764 := ite_t hv_2764 hb_2765
        have e_hv_2764 := Option.some.inj hv_2764; subst e_hv_2764
        exact ⟨_, [(2, .ref 0 0), (4, .ref 1 0), (24, .bool true)], [.box [i64 0, i64 0, i64 0, i64 0, .sl true (L cU8 ([]))] false, .box [i64 y_2761.1.Kind, i64 y_2761.1.N, .sl false (L cU8 y_2761.1.B), .sl false (L cApi_Value y_2761.1.L)] false], orcs_nil, by simp only [go_sem, hb_2765], (weak_sel [0, 1] (by decide) rfl (by simp only [go_sem]) (by simp only [go_sem]))⟩
      · replace hv_2764 := ite_f hv_2764 hb_2765
        have e_hv_2764 := Option.some.inj hv_2764; subst e_hv_2764
        exact ⟨_, [(2, .ref 0 0), (4, .ref 1 0), (24, .bool (((y_2761.1.L.length : Int) != 5)))], [.box [i64 0, i64 0, i64 0, i64 0, .sl true (L cU8 ([]))] false, .box [i64 y_2761.1.Kind, i64 y_2761.1.N, .sl false (L cU8 y_2761.1.B), .sl false (L cApi_Value y_2761.1.L)] false], orcs_nil, by simp only [go_sem, hb_2765], (weak_sel [0, 1] (by decide) rfl (by simp only [go_sem]) (by simp only [go_sem]))⟩
    refine run_condL (b := t_2763) rfl (by decide) (fun hb => ?_) (fun hb => ?_)
    · replace h := ite_t h hb
      refine run_textE hE [2, 3] (fr' := [(2, .ref 0 0), (3, i64 10)]) (σ' := [.box [i64 0, i64 0, i64 0, i64 0, .sl true (L cU8 ([]))] false, .box [i64 y_2761.1.Kind, i64 y_2761.1.N, .sl false (L cU8 y_2761.1.B), .sl false (L cApi_Value y_2761.1.L)] false]) ⟨_, orcs_nil, ?_⟩ ?_
      · simp only [go_sem, Nat.reduceGT, Nat.reduceLeDiff]
      refine run_ret ?_
      refine thenK_r ?_
      obtain rfl := Option.some.inj h
      refine wkP_of (Weak.refl _ _) ?_
      refine ret_ok (.inr rfl) ?_
      simp only [go_sem]
    · replace h := ite_f h hb
      refine run_skip ?_
      refine thenK_n ?_
      replace h := bind_some1 h; obtain ⟨j_2793, hA_2794, hj_2795⟩ := h
      refine run_join (fun (v : Unit) => (⟨asFr 79 [(2, .ref 0 0), (4, .ref 1 0)], [.box [i64 0, i64 0, i64 0, i64 0, .sl true (L cU8 ([]))] false, .box [i64 y_2761.1.Kind, i64 y_2761.1.N, .sl false (L cU8 y_2761.1.B), .sl false (L cApi_Value y_2761.1.L)] false]⟩ : St)) (fun v => .inl v = j_2793) ?_ ?_
      · have h := hA_2794; clear hA_2794
        refine run_textE hE [2, 4, 6] (fr' := [(2, .ref 0 0), (4, .ref 1 0), (6, i64 0)]) (σ' := [.box [i64 0, i64 0, i64 0, i64 0, .sl true (L cU8 ([]))] false, .box [i64 y_2761.1.Kind, i64 y_2761.1.N, .sl false (L cU8 y_2761.1.B), .sl false (L cApi_Value y_2761.1.L)] false]) ⟨_, orcs_nil, ?_⟩ ?_
        · simp only [go_sem]
        refine run_block ?_
        replace h := bind_some1 h; obtain ⟨x_2811, hx_2812, hj_2813⟩ := h
        refine run_loopO hx_2812 (fun (v : Int) => (⟨asFr 79 [(2, .ref 0 0), (4, .ref 1 0), (6, i64 v)], [.box [i64 0, i64 0, i64 0, i64 0, .sl true (L cU8 ([]))] false, .box [i64 y_2761.1.Kind, i64 y_2761.1.N, .sl false (L cU8 y_2761.1.B), .sl false (L cApi_Value y_2761.1.L)] false]⟩ : St)) (weak_sel [0, 1] (by decide) rfl (by simp only [go_sem]) (by simp only [go_sem])) ?_
        rintro i_2803 o_2814 h hxx_2815
        replace h : r12_Decode_b1 y_2761 i_2803 = some o_2814 := h
        unfold r12_Decode_b1 at h
        refine run_seq ?_
        refine run_textE hE [2, 4, 6, 27] (fr' := [(2, .ref 0 0), (4, .ref 1 0), (6, i64 i_2803), (27, .bool ((decide (i_2803 < 5))))]) (σ' := [.box [i64 0, i64 0, i64 0, i64 0, .sl true (L cU8 ([]))] false, .box [i64 y_2761.1.Kind, i64 y_2761.1.N, .sl false (L cU8 y_2761.1.B), .sl false (L cApi_Value y_2761.1.L)] false]) ⟨_, orcs_nil, ?_⟩ ?_
        · simp only [go_sem]
        refine run_condL (b := (decide (i_2803 < 5))) rfl (by decide) (fun hb => ?_) (fun hb => ?_)
        · replace h := ite_t h hb
          refine run_skip ?_
          refine thenK_n ?_
          refine run_seq ?_
          refine run_block ?_
          replace h := bind_some1 h; obtain ⟨t_2816, hv_2817, h⟩ := h
          refine run_textW hE [2, 4, 6, 51] (fr' := [(2, .ref 0 0), (4, .ref 1 0), (6, i64 i_2803), (51, .bool t_2816)]) (σ' := [.box [i64 0, i64 0, i64 0, i64 0, .sl true (L cU8 ([]))] false, .box [i64 y_2761.1.Kind, i64 y_2761.1.N, .sl false (L cU8 y_2761.1.B), .sl false (L cApi_Value y_2761.1.L)] false]) ?_ ?_
          · replace hv_2817 := chk_some hv_2817; obtain ⟨hc_2818, hv_2817⟩ := hv_2817
            rcases Bool.eq_false_or_eq_true ((!(((nth y_2761.1.L i_2803.toNat).Kind == 1) == (decide (i_2803 < 4))))) with hb_2819 | hb_2819
            · replace hv_2817 := ite_t hv_2817 hb_2819
              have e_hv_2817 := Option.some.inj hv_2817; subst e_hv_2817
              exact ⟨_, [(2, .ref 0 0), (4, .ref 1 0), (6, i64 i_2803), (51, .bool true)], [.box [i64 0, i64 0, i64 0, i64 0, .sl true (L cU8 ([]))] false, .box [i64 y_2761.1.Kind, i64 y_2761.1.N, .sl false (L cU8 y_2761.1.B), .sl false (L cApi_Value y_2761.1.L)] false], orcs_nil, by simp only [go_sem, Int.reduceToNat, hc_2818, hc_2818.2, lt_le hc_2818.2, hb_2819], (weak_sel [0, 1] (by decide) rfl (by simp only [go_sem]) (by simp only [go_sem]))⟩
            · replace hv_2817 := ite_f hv_2817 hb_2819
              replace hv_2817 := chk_some hv_2817; obtain ⟨hc_2820, hv_2817⟩ := hv_2817
              have e_hv_2817 := Option.some.inj hv_2817; subst e_hv_2817
              exact ⟨_, [(2, .ref 0 0), (4, .ref 1 0), (6, i64 i_2803), (51, .bool ((!(((nth y_2761.1.L i_2803.toNat).Kind == 2) == (i_2803 == 4)))))], [.box [i64 0, i64 0, i64 0, i64 0, .sl true (L cU8 ([]))] false, .box [i64 y_2761.1.Kind, i64 y_2761.1.N, .sl false (L cU8 y_2761.1.B), .sl false (L cApi_Value y_2761.1.L)] false], orcs_nil, by simp only [go_sem, Int.reduceToNat, hc_2818, hc_2818.2, lt_le hc_2818.2, hb_2819, hc_2820, hc_2820.2, lt_le hc_2820.2], (weak_sel [0, 1] (by decide) rfl (by simp only [go_sem]) (by simp only [go_sem]))⟩
          refine run_condL (b := t_2816) rfl (by decide) (fun hb => ?_) (fun hb => ?_)
          · replace h := ite_t h hb
            refine run_textE hE [2, 3] (fr' := [(2, .ref 0 0), (3, i64 10)]) (σ' := [.box [i64 0, i64 0, i64 0, i64 0, .sl true (L cU8 ([]))] false, .box [i64 y_2761.1.Kind, i64 y_2761.1.N, .sl false (L cU8 y_2761.1.B), .sl false (L cApi_Value y_2761.1.L)] false]) ⟨_, orcs_nil, ?_⟩ ?_
            · simp only [go_sem, Nat.reduceGT, Nat.reduceLeDiff]
            refine run_ret ?_
            refine blockK_r ?_
            refine thenK_r ?_
            refine lpK_r ?_
            replace h := bind_some1 h; obtain ⟨z_2822, h, e_z_2822⟩ := h
            obtain rfl := Option.some.inj e_z_2822
            have ex_z_2822 := hxx_2815 _ rfl
            subst ex_z_2822
            obtain rfl := Option.some.inj hj_2813
            refine blockK_r ?_
            refine joinK_r ?_
            replace h := bind_some1 h; obtain ⟨z_2821, h, e_z_2821⟩ := h
            obtain rfl := Option.some.inj e_z_2821
            obtain rfl := Option.some.inj hj_2795
            obtain rfl := Option.some.inj h
            refine wkP_of (Weak.refl _ _) ?_
            refine ret_ok (.inr rfl) ?_
            simp only [go_sem]
          · replace h := ite_f h hb
            refine run_skip ?_
            refine blockK_n ?_
            refine thenK_n ?_
            refine run_textE0 hE wk_lp [2, 4, 6] (fr' := [(2, .ref 0 0), (4, .ref 1 0), (6, i64 ((w64 (i_2803 + 1))))]) (σ' := [.box [i64 0, i64 0, i64 0, i64 0, .sl true (L cU8 ([]))] false, .box [i64 y_2761.1.Kind, i64 y_2761.1.N, .sl false (L cU8 y_2761.1.B), .sl false (L cApi_Value y_2761.1.L)] false]) ⟨_, orcs_nil, ?_⟩ ?_
            · simp only [go_sem]
            obtain rfl := Option.some.inj h
            exact lpK_n ((w64 (i_2803 + 1))) rfl (weak_sel [0, 1] (by decide) rfl (by simp only [go_sem]) (by simp only [go_sem]))
        · replace h := ite_f h hb
          refine run_exit ?_
          refine thenK_x ?_
          obtain rfl := Option.some.inj h
          have ex_x_2811 := hxx_2815 _ rfl
          subst ex_x_2811
          have h := hj_2813; clear hj_2813
          refine lpK_x ?_
          refine blockK_x ?_
          obtain rfl := Option.some.inj h
          exact joinK_n (()) rfl ((weak_sel (l' := [(2, .ref 0 0), (4, .ref 1 0)]) (σ' := [.box [i64 0, i64 0, i64 0, i64 0, .sl true (L cU8 ([]))] false, .box [i64 y_2761.1.Kind, i64 y_2761.1.N, .sl false (L cU8 y_2761.1.B), .sl false (L cApi_Value y_2761.1.L)] false]) [0, 1] (by decide) rfl (by simp only [go_sem]) (by simp only [go_sem])).trans (weak_sel [0, 1] (by decide) rfl (by simp only [go_sem]) (by simp only [go_sem])))
      rintro ⟨⟩ rfl
      have h := hj_2795; clear hj_2795
      replace h := chk_some h; obtain ⟨hc_2823, h⟩ := h
      replace h := chk_some h; obtain ⟨hc_2824, h⟩ := h
      replace h := chk_some h; obtain ⟨hc_2825, h⟩ := h
      replace h := chk_some h; obtain ⟨hc_2826, h⟩ := h
      replace h := chk_some h; obtain ⟨hc_2827, h⟩ := h
      refine run_drawE hE mixed [[], [0], [0, 1], [0, 1, 2], [0, 1, 2, 3], [], [5], [5, 6], [5, 6, 7], [5, 6, 7, 8], [], [10], [10, 11], [10, 11, 12], [10, 11, 12, 13], [], [15], [15, 16], [15, 16, 17], [15, 16, 17, 18], [], [20], [20, 21], [20, 21, 22], [20, 21, 22, 23], [0, 1, 2, 3, 4, 5, 6, 7, 8, 9, 10, 11, 12, 13, 14, 15, 16, 17, 18, 19, 20, 21, 22, 23, 24], [0, 1, 2, 3, 4, 5, 6, 7, 8, 9, 10, 11, 12, 13, 14, 15, 16, 17, 18, 19, 20, 21, 22, 23, 24, 25], [0, 1, 2, 3, 4, 5, 6, 7, 8, 9, 10, 11, 12, 13, 14, 15, 16, 17, 18, 19, 20, 21, 22, 23, 24, 25, 26]] (by kernel_rfl) (by kernel_rfl) [2, 3] (fr' := [(2, .ref 0 0), (3, i64 0)]) (σ' := [.box [i64 ((nth y_2761.1.L 0).N), i64 ((nth y_2761.1.L 1).N), i64 ((nth y_2761.1.L 2).N), i64 ((nth y_2761.1.L 3).N), .sl false (L cU8 ((nth y_2761.1.L 4).B))] false, .box [i64 y_2761.1.Kind, i64 y_2761.1.N, .sl false (L cU8 y_2761.1.B), .sl false (L cApi_Value y_2761.1.L)] false]) ⟨_, orcs_nil, ?_⟩ ?_
      · simp only [go_sem, Nat.reduceGT, Int.reduceToNat, Nat.reduceLeDiff, hc_2823, (show 0 < y_2761.1.L.length from hc_2823.2), hc_2824, (show 1 < y_2761.1.L.length from hc_2824.2), hc_2825, (show 2 < y_2761.1.L.length from hc_2825.2), hc_2826, (show 3 < y_2761.1.L.length from hc_2826.2), hc_2827, (show 4 < y_2761.1.L.length from hc_2827.2)]
      refine run_ret ?_
      obtain rfl := Option.some.inj h
      refine wkP_of (Weak.refl _ _) ?_
      refine ret_ok (.inr rfl) ?_
      simp only [go_sem]

theorem window_Encode_con {k_2828 : Api_Packet} {r : List UInt8 × Int} (h : window_Encode k_2828 = some r) : Con B 28 [.agg [i64 k_2828.Epoch, i64 k_2828.To, i64 k_2828.Seq, i64 k_2828.Ack, .sl false (L cU8 k_2828.Data)]] [] (fun r' σ' => r' = .tup [.sl false (L cU8 r.1), i64 r.2] ∧ σ' = []) := by
  refine con_walk (N := 37) (rs := [.tmp 2, .tmp 3]) ok Try.func28 rfl (by decide +kernel) rfl rfl (Nat.le_of_ble_eq_true rfl) (fun F => ?_)
  have hE := ok.env F
  unfold window_Encode at h
  show Run (B.env F) 0 _ ⟨asFr 37 [(0, .agg [i64 k_2828.Epoch, i64 k_2828.To, i64 k_2828.Seq, i64 k_2828.Ack, .sl false (L cU8 k_2828.Data)])], []⟩ _
  refine run_wkP ?_
  refine run_textE hE [1] (fr' := [(1, .ref 0 0)]) (σ' := [.box [i64 k_2828.Epoch, i64 k_2828.To, i64 k_2828.Seq, i64 k_2828.Ack, .sl false (L cU8 k_2828.Data)] false]) ⟨_, orcs_nil, ?_⟩ ?_
  · simp only [go_sem, take_app1]
  refine run_textE hE [1, 4] (fr' := [(1, .ref 0 0), (4, .sl true (L cApi_Value ([])))]) (σ' := [.box [i64 k_2828.Epoch, i64 k_2828.To, i64 k_2828.Seq, i64 k_2828.Ack, .sl false (L cU8 k_2828.Data)] false]) ⟨_, orcs_nil, ?_⟩ ?_
  · simp only [go_sem, take_app1]
  replace h := bind_some1 h; obtain ⟨j_2854, hA_2855, hj_2856⟩ := h
  refine run_join (fun (v : List Api_Value) => (⟨asFr 37 [(1, .ref 0 0), (4, .bs false 1 (v.length) 0 (v.length))], [.box [i64 k_2828.Epoch, i64 k_2828.To, i64 k_2828.Seq, i64 k_2828.Ack, .sl false (L cU8 k_2828.Data)] false, .buf 4 (L cApi_Value v) false]⟩ : St)) (fun v => v = j_2854) ?_ ?_
  · have h := hA_2855; clear hA_2855
    replace h := lt1_some h; obtain ⟨t_2857, hz_2859, h⟩ := h
    replace h := lt1_some h; obtain ⟨l_2858, hz_2860, h⟩ := h
    refine run_textE hE [1, 4, 15, 16, 17] (fr' := [(1, .ref 0 0), (4, .sl true (L cApi_Value ([]))), (15, .bs true 1 (l_2858.length) 0 (l_2858.length)), (16, i64 t_2857), (17, i64 0)]) (σ' := [.box [i64 k_2828.Epoch, i64 k_2828.To, i64 k_2828.Seq, i64 k_2828.Ack, .sl false (L cU8 k_2828.Data)] false, .buf 1 (L cI64 l_2858) false]) ⟨_, orcs_nil, ?_⟩ ?_
    · subst hz_2860; subst hz_2859; simp only [go_sem, take_app1, Nat.reduceBEq, Nat.reduceMul, Nat.reduceSub, Nat.reduceGT, Nat.reducePow, Nat.reduceLeDiff, Int.reduceToNat]
    refine run_block ?_
    replace h := bind_some1 h; obtain ⟨x_2872, hx_2873, hj_2874⟩ := h
    refine run_loopO hx_2873 (fun (v : Int × List Api_Value) => (⟨asFr 37 [(1, .ref 0 0), (4, .bs false 1 (v.2.length) 0 (v.2.length)), (15, .bs true 2 (l_2858.length) 0 (l_2858.length)), (16, i64 t_2857), (17, i64 v.1)], [.box [i64 k_2828.Epoch, i64 k_2828.To, i64 k_2828.Seq, i64 k_2828.Ack, .sl false (L cU8 k_2828.Data)] false, .buf 4 (L cApi_Value v.2) false, .buf 1 (L cI64 l_2858) false]⟩ : St)) ((weak_nil 4 4 rfl).trans (weak_sel [0, 2, 1] (by decide) rfl (by simp only [go_sem, take_app1]) (by simp only [go_sem, take_app1]))) ?_
    rintro ⟨t_2865, l_2866⟩ o_2875 h hxx_2876
    replace h : window_Encode_b1 t_2857 l_2858 t_2865 l_2866 = some o_2875 := h
    unfold window_Encode_b1 at h
    refine run_textE hE [1, 4, 15, 16, 17, 18] (fr' := [(1, .ref 0 0), (4, .bs false 1 (l_2866.length) 0 (l_2866.length)), (15, .bs true 2 (l_2858.length) 0 (l_2858.length)), (16, i64 t_2857), (17, i64 t_2865), (18, .bool ((decide (t_2865 < t_2857))))]) (σ' := [.box [i64 k_2828.Epoch, i64 k_2828.To, i64 k_2828.Seq, i64 k_2828.Ack, .sl false (L cU8 k_2828.Data)] false, .buf 4 (L cApi_Value l_2866) false, .buf 1 (L cI64 l_2858) false]) ⟨_, orcs_nil, ?_⟩ ?_
    · simp only [go_sem, take_app1]
    refine run_seq ?_
    refine run_condL (b := (decide (t_2865 < t_2857))) rfl (by decide) (fun hb => ?_) (fun hb => ?_)
    · replace h := ite_t h hb
      refine run_skip ?_
      refine thenK_n ?_
      refine run_seq ?_
      refine run_block ?_
      replace h := chk_some h; obtain ⟨hc_2877, h⟩ := h
      refine run_textE hE [1, 4, 6, 15, 16, 17] (fr' := [(1, .ref 0 0), (4, .bs false 1 (l_2866.length) 0 (l_2866.length)), (6, i64 (nth l_2858 t_2865.toNat)), (15, .bs true 2 (l_2858.length) 0 (l_2858.length)), (16, i64 t_2857), (17, i64 t_2865)]) (σ' := [.box [i64 k_2828.Epoch, i64 k_2828.To, i64 k_2828.Seq, i64 k_2828.Ack, .sl false (L cU8 k_2828.Data)] false, .buf 4 (L cApi_Value l_2866) false, .buf 1 (L cI64 l_2858) false]) ⟨_, orcs_nil, ?_⟩ ?_
      · simp only [go_sem, take_app1, Int.reduceToNat, hc_2877, hc_2877.2, lt_le hc_2877.2]
      replace h := chk_some h; obtain ⟨hc_2878, h⟩ := h
      replace h := lt1_some h; obtain ⟨l_2879, hz_2880, h⟩ := h
      refine run_textE0 hE (wk_block wk_then) [1, 4, 15, 16, 17] (fr' := [(1, .ref 0 0), (4, .bs false 1 (l_2879.length) 0 (l_2879.length)), (15, .bs true 2 (l_2858.length) 0 (l_2858.length)), (16, i64 t_2857), (17, i64 t_2865)]) (σ' := [.box [i64 k_2828.Epoch, i64 k_2828.To, i64 k_2828.Seq, i64 k_2828.Ack, .sl false (L cU8 k_2828.Data)] false, .buf 4 (L cApi_Value l_2879) false, .buf 1 (L cI64 l_2858) false, .buf 4 (L cApi_Value (([(Api_Value.mk 1 (nth l_2858 t_2865.toNat) ([]) ([]))] : List Api_Value))) false]) ⟨_, orcs_nil, ?_⟩ ?_
      · subst hz_2880; simp only [go_sem, take_app1, Nat.reduceBEq, Nat.reduceMul, Nat.reduceSub, Nat.reduceGT, Nat.reducePow, Nat.reduceLeDiff, Int.reduceToNat, hc_2878]
      refine blockK_n ?_
      refine thenK_n ?_
      refine run_textE0 hE wk_lp [1, 4, 15, 16, 17] (fr' := [(1, .ref 0 0), (4, .bs false 1 (l_2879.length) 0 (l_2879.length)), (15, .bs true 2 (l_2858.length) 0 (l_2858.length)), (16, i64 t_2857), (17, i64 ((w64 (t_2865 + 1))))]) (σ' := [.box [i64 k_2828.Epoch, i64 k_2828.To, i64 k_2828.Seq, i64 k_2828.Ack, .sl false (L cU8 k_2828.Data)] false, .buf 4 (L cApi_Value l_2879) false, .buf 1 (L cI64 l_2858) false, .buf 4 (L cApi_Value (([(Api_Value.mk 1 (nth l_2858 t_2865.toNat) ([]) ([]))] : List Api_Value))) false]) ⟨_, orcs_nil, ?_⟩ ?_
      · simp only [go_sem, take_app1]
      obtain rfl := Option.some.inj h
      exact lpK_n (((w64 (t_2865 + 1)), l_2879)) rfl (weak_sel [0, 1, 2] (by decide) rfl (by simp only [go_sem, take_app1]) (by simp only [go_sem, take_app1]))
    · replace h := ite_f h hb
      refine run_exit ?_
      refine thenK_x ?_
      obtain rfl := Option.some.inj h
      have ex_x_2872 := hxx_2876 _ rfl
      subst ex_x_2872
      have h := hj_2874; clear hj_2874
      refine lpK_x ?_
      refine blockK_x ?_
      obtain rfl := Option.some.inj h
      exact joinK_n l_2866 rfl ((weak_sel (l' := [(1, .ref 0 0), (4, .bs false 1 (l_2866.length) 0 (l_2866.length))]) (σ' := [.box [i64 k_2828.Epoch, i64 k_2828.To, i64 k_2828.Seq, i64 k_2828.Ack, .sl false (L cU8 k_2828.Data)] false, .buf 4 (L cApi_Value l_2866) false]) [0, 1] (by decide) rfl (by simp only [go_sem, take_app1]) (by simp only [go_sem, take_app1])).trans (weak_sel [0, 1] (by decide) rfl (by simp only [go_sem, take_app1]) (by simp only [go_sem, take_app1])))
  rintro l_2853 rfl
  have h := hj_2856; clear hj_2856
  replace h := chk_some h; obtain ⟨hc_2882, h⟩ := h
  replace h := bind_some1 h; obtain ⟨y_2881, hy_2883, h⟩ := h
  refine run_textE hE [2, 3] (fr' := [(2, .sl false (L cU8 y_2881.1)), (3, i64 y_2881.2)]) (σ' := [.box [i64 k_2828.Epoch, i64 k_2828.To, i64 k_2828.Seq, i64 k_2828.Ack, .sl false (L cU8 k_2828.Data)] false, .buf 4 (L cApi_Value ((l_2853 ++ (([(Api_Value.mk 2 0 k_2828.Data ([]))] : List Api_Value))))) true, .buf 4 (L cApi_Value (([(Api_Value.mk 2 0 k_2828.Data ([]))] : List Api_Value))) false]) ⟨_, orcs_ok (l := [(34, 33, [.agg [i64 3, i64 0, .sl false (L cU8 ([])), .sl false (L cApi_Value ((l_2853 ++ (([(Api_Value.mk 2 0 k_2828.Data ([]))] : List Api_Value)))))]], .tup [.sl false (L cU8 y_2881.1), i64 y_2881.2])]) ⟨codec_Encode_con  hy_2883, trivial⟩, ?_⟩ ?_
  · simp only [go_sem, take_app1, Nat.reduceBEq, Nat.reduceMul, Nat.reduceSub, Nat.reduceGT, Nat.reducePow, Nat.reduceLeDiff, Int.reduceToNat, hc_2882]
  refine run_ret ?_
  obtain rfl := Option.some.inj h
  refine wkP_of (Weak.refl _ _) ?_
  refine ret_ok (.inr rfl) ?_
  simp only [go_sem, take_app1]

end Go.Proofs.Ytomjphpnpcgacaa
/-
  The functions compute just that.
-/
namespace Go.Proofs.Ytomjphpnpcgacaa
open Go.Rv
set_option linter.unusedVariables false
set_option linter.unusedSimpArgs false
set_option maxRecDepth 20000
set_option maxHeartbeats 4000000

theorem window_Decode_con {b_2884 : List UInt8} {r : Api_Packet × Int} (h : window_Decode b_2884 = some r) : Con B 29 [.sl false (L cU8 b_2884)] [] (fun r' σ' => r' = .tup [.agg [i64 r.1.Epoch, i64 r.1.To, i64 r.1.Seq, i64 r.1.Ack, .sl false (L cU8 r.1.Data)], i64 r.2] ∧ σ' = []) := by
  refine con_walk (N := 74) (rs := [.cell 2 39, .tmp 3]) ok Try.func29 rfl (by decide +kernel) rfl rfl (Nat.le_of_ble_eq_true rfl) (fun F => ?_)
  have hE := ok.env F
  unfold window_Decode at h
  show Run (B.env F) 0 _ ⟨asFr 74 [(0, .sl false (L cU8 b_2884))], []⟩ _
  refine run_wkP ?_
  refine run_textE hE [0, 2] (fr' := [(0, .sl false (L cU8 b_2884)), (2, .ref 0 0)]) (σ' := [.box [i64 0, i64 0, i64 0, i64 0, .sl true (L cU8 ([]))] false]) ⟨_, orcs_nil, ?_⟩ ?_
  · simp only [go_sem]
  replace h := bind_some1 h; obtain ⟨y_2885, hy_2886, h⟩ := h
  refine run_textE hE [2, 4, 5] (fr' := [(2, .ref 0 0), (4, .ref 1 0), (5, i64 y_2885.2)]) (σ' := [.box [i64 0, i64 0, i64 0, i64 0, .sl true (L cU8 ([]))] false, .box [i64 y_2885.1.Kind, i64 y_2885.1.N, .sl false (L cU8 y_2885.1.B), .sl false (L cApi_Value y_2885.1.L)] false]) ⟨_, orcs_ok (l := [(10, 31, [.sl false (L cU8 b_2884)], .tup [.agg [i64 y_2885.1.Kind, i64 y_2885.1.N, .sl false (L cU8 y_2885.1.B), .sl false (L cApi_Value y_2885.1.L)], i64 y_2885.2])]) ⟨codec_Decode_con  hy_2886, trivial⟩, ?_⟩ ?_
  · simp only [go_sem, Nat.reduceLeDiff]
  refine run_seq ?_
  refine run_textE hE [2, 4, 5, 14] (fr' := [(2, .ref 0 0), (4, .ref 1 0), (5, i64 y_2885.2), (14, .bool ((y_2885.2 != 0)))]) (σ' := [.box [i64 0, i64 0, i64 0, i64 0, .sl true (L cU8 ([]))] false, .box [i64 y_2885.1.Kind, i64 y_2885.1.N, .sl false (L cU8 y_2885.1.B), .sl false (L cApi_Value y_2885.1.L)] false]) ⟨_, orcs_nil, ?_⟩ ?_
  · simp only [go_sem]
  refine run_condL (b := (y_2885.2 != 0)) rfl (by decide) (fun hb => ?_) (fun hb => ?_)
  · replace h := ite_t h hb
    refine run_textE hE [2, 3] (fr' := [(2, .ref 0 0), (3, i64 y_2885.2)]) (σ' := [.box [i64 0, i64 0, i64 0, i64 0, .sl true (L cU8 ([]))] false, .box [i64 y_2885.1.Kind, i64 y_2885.1.N, .sl false (L cU8 y_2885.1.B), .sl false (L cApi_Value y_2885.1.L)] false]) ⟨_, orcs_nil, ?_⟩ ?_
    · simp only [go_sem, Nat.reduceGT, Nat.reduceLeDiff]
    refine run_ret ?_
    refine thenK_r ?_
    obtain rfl := Option.some.inj h
    refine wkP_of (Weak.refl _ _) ?_
    refine ret_ok (.inr rfl) ?_
    simp only [go_sem]
  · replace h := ite_f h hb
    refine run_skip ?_
    refine thenK_n ?_
    refine run_seq ?_
    replace h := bind_some1 h; obtain ⟨t_2887, hv_2888, h⟩ := h
    refine run_textW hE [2, 4, 33] (fr' := [(2, .ref 0 0), (4, .ref 1 0), (33, .bool t_2887)]) (σ' := [.box [i64 0, i64 0, i64 0, i64 0, .sl true (L cU8 ([]))] false, .box [i64 y_2885.1.Kind, i64 y_2885.1.N, .sl false (L cU8 y_2885.1.B), .sl false (L cApi_Value y_2885.1.L)] false]) ?_ ?_
    · rcases Bool.eq_false_or_eq_true ((y_2885.1.Kind != 3)) with hb_2889 | hb_2889
      · replace hv_2888 := ite_t hv_2888 hb_2889
        have e_hv_2888 := Option.some.inj hv_2888; subst e_hv_2888
        exact ⟨_, [(2, .ref 0 0), (4, .ref 1 0), (33, .bool true)], [.box [i64 0, i64 0, i64 0, i64 0, .sl true (L cU8 ([]))] false, .box [i64 y_2885.1.Kind, i64 y_2885.1.N, .sl false (L cU8 y_2885.1.B), .sl false (L cApi_Value y_2885.1.L)] false], orcs_nil, by simp only [go_sem, Int.reduceToNat, hb_2889], (weak_sel [0, 1] (by decide) rfl (by simp only [go_sem]) (by simp only [go_sem]))⟩
      · replace hv_2888 := ite_f hv_2888 hb_2889
        rcases Bool.eq_false_or_eq_true (((y_2885.1.L.length : Int) != 5)) with hb_2890 | hb_2890
        · replace hv_2888 := ite_t hv_2888 hb_2890
          have e_hv_2888 := Option.some.inj hv_2888; subst e_hv_2888
          exact ⟨_, [(2, .ref 0 0), (4, .ref 1 0), (33, .bool true)], [.box [i64 0, i64 0, i64 0, i64 0, .sl true (L cU8 ([]))] false, .box [i64 y_2885.1.Kind, i64 y_2885.1.N, .sl false (L cU8 y_2885.1.B), .sl false (L cApi_Value y_2885.1.L)] false], orcs_nil, by simp only [go_sem, Int.reduceToNat, hb_2889, hb_2890], (weak_sel [0, 1] (by decide) rfl (by simp only [go_sem]) (by simp only [go_sem]))⟩
        · replace hv_2888 := ite_f hv_2888 hb_2890
          replace hv_2888 := chk_some hv_2888; obtain ⟨hc_2891, hv_2888⟩ := hv_2888
          have e_hv_2888 := Option.some.inj hv_2888; subst e_hv_2888
          exact ⟨_, [(2, .ref 0 0), (4, .ref 1 0), (33, .bool (((nth y_2885.1.L 4).Kind != 2)))], [.box [i64 0, i64 0, i64 0, i64 0, .sl true (L cU8 ([]))] false, .box [i64 y_2885.1.Kind, i64 y_2885.1.N, .sl false (L cU8 y_2885.1.B), .sl false (L cApi_Value y_2885.1.L)] false], orcs_nil, by simp only [go_sem, Int.reduceToNat, hb_2889, hb_2890, hc_2891, (show 4 < y_2885.1.L.length from hc_2891.2)], (weak_sel [0, 1] (by decide) rfl (by simp only [go_sem]) (by simp only [go_sem]))⟩
    refine run_condL (b := t_2887) rfl (by decide) (fun hb => ?_) (fun hb => ?_)
    · replace h := ite_t h hb
      refine run_textE hE [2, 3] (fr' := [(2, .ref 0 0), (3, i64 10)]) (σ' := [.box [i64 0, i64 0, i64 0, i64 0, .sl true (L cU8 ([]))] false, .box [i64 y_2885.1.Kind, i64 y_2885.1.N, .sl false (L cU8 y_2885.1.B), .sl false (L cApi_Value y_2885.1.L)] false]) ⟨_, orcs_nil, ?_⟩ ?_
      · simp only [go_sem, Nat.reduceGT, Nat.reduceLeDiff]
      refine run_ret ?_
      refine thenK_r ?_
      obtain rfl := Option.some.inj h
      refine wkP_of (Weak.refl _ _) ?_
      refine ret_ok (.inr rfl) ?_
      simp only [go_sem]
    · replace h := ite_f h hb
      refine run_skip ?_
      refine thenK_n ?_
      replace h := bind_some1 h; obtain ⟨j_2932, hA_2933, hj_2934⟩ := h
      refine run_join (fun (v : Unit) => (⟨asFr 74 [(2, .ref 0 0), (4, .ref 1 0)], [.box [i64 0, i64 0, i64 0, i64 0, .sl true (L cU8 ([]))] false, .box [i64 y_2885.1.Kind, i64 y_2885.1.N, .sl false (L cU8 y_2885.1.B), .sl false (L cApi_Value y_2885.1.L)] false]⟩ : St)) (fun v => .inl v = j_2932) ?_ ?_
      · have h := hA_2933; clear hA_2933
        replace h := chk_some h; obtain ⟨hc_2935, h⟩ := h
        refine run_textE hE [2, 4, 37, 38, 39] (fr' := [(2, .ref 0 0), (4, .ref 1 0), (37, .sl false (L cApi_Value ((y_2885.1.L.take 4)))), (38, i64 ((((y_2885.1.L.take 4)).length : Int))), (39, i64 0)]) (σ' := [.box [i64 0, i64 0, i64 0, i64 0, .sl true (L cU8 ([]))] false, .box [i64 y_2885.1.Kind, i64 y_2885.1.N, .sl false (L cU8 y_2885.1.B), .sl false (L cApi_Value y_2885.1.L)] false]) ⟨_, orcs_nil, ?_⟩ ?_
        · simp only [go_sem, Int.reduceToNat, hc_2935]
        refine run_block ?_
        replace h := bind_some1 h; obtain ⟨x_2959, hx_2960, hj_2961⟩ := h
        refine run_loopO hx_2960 (fun (v : Int) => (⟨asFr 74 [(2, .ref 0 0), (4, .ref 1 0), (37, .sl false (L cApi_Value ((y_2885.1.L.take 4)))), (38, i64 ((((y_2885.1.L.take 4)).length : Int))), (39, i64 v)], [.box [i64 0, i64 0, i64 0, i64 0, .sl true (L cU8 ([]))] false, .box [i64 y_2885.1.Kind, i64 y_2885.1.N, .sl false (L cU8 y_2885.1.B), .sl false (L cApi_Value y_2885.1.L)] false]⟩ : St)) (weak_sel [0, 1] (by decide) rfl (by simp only [go_sem]) (by simp only [go_sem])) ?_
        rintro t_2947 o_2962 h hxx_2963
        replace h : window_Decode_b1 y_2885 t_2947 = some o_2962 := h
        unfold window_Decode_b1 at h
        refine run_textE hE [2, 4, 37, 38, 39, 40] (fr' := [(2, .ref 0 0), (4, .ref 1 0), (37, .sl false (L cApi_Value ((y_2885.1.L.take 4)))), (38, i64 ((((y_2885.1.L.take 4)).length : Int))), (39, i64 t_2947), (40, .bool ((decide (t_2947 < (((y_2885.1.L.take 4)).length : Int)))))]) (σ' := [.box [i64 0, i64 0, i64 0, i64 0, .sl true (L cU8 ([]))] false, .box [i64 y_2885.1.Kind, i64 y_2885.1.N, .sl false (L cU8 y_2885.1.B), .sl false (L cApi_Value y_2885.1.L)] false]) ⟨_, orcs_nil, ?_⟩ ?_
        · simp only [go_sem]
        refine run_seq ?_
        refine run_condL (b := (decide (t_2947 < (((y_2885.1.L.take 4)).length : Int)))) rfl (by decide) (fun hb => ?_) (fun hb => ?_)
        · replace h := ite_t h hb
          refine run_skip ?_
          refine thenK_n ?_
          refine run_seq ?_
          refine run_block ?_
          replace h := chk_some h; obtain ⟨hc_2964, h⟩ := h
          replace h := lt1_some h; obtain ⟨f_2965, hz_2969, h⟩ := h
          replace h := lt1_some h; obtain ⟨f_2966, hz_2970, h⟩ := h
          replace h := lt1_some h; obtain ⟨f_2967, hz_2971, h⟩ := h
          replace h := lt1_some h; obtain ⟨f_2968, hz_2972, h⟩ := h
          refine run_textE hE [2, 4, 7, 37, 38, 39] (fr' := [(2, .ref 0 0), (4, .ref 1 0), (7, .ref 2 0), (37, .sl false (L cApi_Value ((y_2885.1.L.take 4)))), (38, i64 ((((y_2885.1.L.take 4)).length : Int))), (39, i64 t_2947)]) (σ' := [.box [i64 0, i64 0, i64 0, i64 0, .sl true (L cU8 ([]))] false, .box [i64 y_2885.1.Kind, i64 y_2885.1.N, .sl false (L cU8 y_2885.1.B), .sl false (L cApi_Value y_2885.1.L)] false, .box [i64 f_2965, i64 f_2966, .sl false (L cU8 f_2967), .sl false (L cApi_Value f_2968)] false]) ⟨_, orcs_nil, ?_⟩ ?_
          · subst hz_2972; subst hz_2971; subst hz_2970; subst hz_2969; simp only [go_sem, Int.reduceToNat, Nat.reduceLeDiff, hc_2964, hc_2964.2, lt_le hc_2964.2]
          refine run_textE hE [2, 4, 37, 38, 39, 45] (fr' := [(2, .ref 0 0), (4, .ref 1 0), (37, .sl false (L cApi_Value ((y_2885.1.L.take 4)))), (38, i64 ((((y_2885.1.L.take 4)).length : Int))), (39, i64 t_2947), (45, .bool ((f_2965 != 1)))]) (σ' := [.box [i64 0, i64 0, i64 0, i64 0, .sl true (L cU8 ([]))] false, .box [i64 y_2885.1.Kind, i64 y_2885.1.N, .sl false (L cU8 y_2885.1.B), .sl false (L cApi_Value y_2885.1.L)] false, .box [i64 f_2965, i64 f_2966, .sl false (L cU8 f_2967), .sl false (L cApi_Value f_2968)] false]) ⟨_, orcs_nil, ?_⟩ ?_
          · simp only [go_sem]
          refine run_condL (b := (f_2965 != 1)) rfl (by decide) (fun hb => ?_) (fun hb => ?_)
          · replace h := ite_t h hb
            refine run_textE hE [2, 3] (fr' := [(2, .ref 0 0), (3, i64 10)]) (σ' := [.box [i64 0, i64 0, i64 0, i64 0, .sl true (L cU8 ([]))] false, .box [i64 y_2885.1.Kind, i64 y_2885.1.N, .sl false (L cU8 y_2885.1.B), .sl false (L cApi_Value y_2885.1.L)] false, .box [i64 f_2965, i64 f_2966, .sl false (L cU8 f_2967), .sl false (L cApi_Value f_2968)] false]) ⟨_, orcs_nil, ?_⟩ ?_
            · simp only [go_sem, Nat.reduceGT, Nat.reduceLeDiff]
            refine run_ret ?_
            refine blockK_r ?_
            refine thenK_r ?_
            refine lpK_r ?_
            replace h := bind_some1 h; obtain ⟨z_2974, h, e_z_2974⟩ := h
            obtain rfl := Option.some.inj e_z_2974
            have ex_z_2974 := hxx_2963 _ rfl
            subst ex_z_2974
            obtain rfl := Option.some.inj hj_2961
            refine blockK_r ?_
            refine joinK_r ?_
            replace h := bind_some1 h; obtain ⟨z_2973, h, e_z_2973⟩ := h
            obtain rfl := Option.some.inj e_z_2973
            obtain rfl := Option.some.inj hj_2934
            obtain rfl := Option.some.inj h
            refine wkP_of (Weak.refl _ _) ?_
            refine ret_ok (.inr rfl) ?_
            simp only [go_sem]
          · replace h := ite_f h hb
            refine run_skip ?_
            refine blockK_n ?_
            refine thenK_n ?_
            refine run_textE0 hE wk_lp [2, 4, 37, 38, 39] (fr' := [(2, .ref 0 0), (4, .ref 1 0), (37, .sl false (L cApi_Value ((y_2885.1.L.take 4)))), (38, i64 ((((y_2885.1.L.take 4)).length : Int))), (39, i64 ((w64 (t_2947 + 1))))]) (σ' := [.box [i64 0, i64 0, i64 0, i64 0, .sl true (L cU8 ([]))] false, .box [i64 y_2885.1.Kind, i64 y_2885.1.N, .sl false (L cU8 y_2885.1.B), .sl false (L cApi_Value y_2885.1.L)] false, .box [i64 f_2965, i64 f_2966, .sl false (L cU8 f_2967), .sl false (L cApi_Value f_2968)] false]) ⟨_, orcs_nil, ?_⟩ ?_
            · simp only [go_sem]
            obtain rfl := Option.some.inj h
            exact lpK_n ((w64 (t_2947 + 1))) rfl (weak_sel [0, 1] (by decide) rfl (by simp only [go_sem]) (by simp only [go_sem]))
        · replace h := ite_f h hb
          refine run_exit ?_
          refine thenK_x ?_
          obtain rfl := Option.some.inj h
          have ex_x_2959 := hxx_2963 _ rfl
          subst ex_x_2959
          have h := hj_2961; clear hj_2961
          refine lpK_x ?_
          refine blockK_x ?_
          obtain rfl := Option.some.inj h
          exact joinK_n (()) rfl ((weak_sel (l' := [(2, .ref 0 0), (4, .ref 1 0)]) (σ' := [.box [i64 0, i64 0, i64 0, i64 0, .sl true (L cU8 ([]))] false, .box [i64 y_2885.1.Kind, i64 y_2885.1.N, .sl false (L cU8 y_2885.1.B), .sl false (L cApi_Value y_2885.1.L)] false]) [0, 1] (by decide) rfl (by simp only [go_sem]) (by simp only [go_sem])).trans (weak_sel [0, 1] (by decide) rfl (by simp only [go_sem]) (by simp only [go_sem])))
      rintro ⟨⟩ rfl
      have h := hj_2934; clear hj_2934
      replace h := chk_some h; obtain ⟨hc_2975, h⟩ := h
      replace h := chk_some h; obtain ⟨hc_2976, h⟩ := h
      replace h := chk_some h; obtain ⟨hc_2977, h⟩ := h
      replace h := chk_some h; obtain ⟨hc_2978, h⟩ := h
      replace h := chk_some h; obtain ⟨hc_2979, h⟩ := h
      refine run_drawE hE mixed [[], [0], [0, 1], [0, 1, 2], [0, 1, 2, 3], [], [5], [5, 6], [5, 6, 7], [5, 6, 7, 8], [], [10], [10, 11], [10, 11, 12], [10, 11, 12, 13], [], [15], [15, 16], [15, 16, 17], [15, 16, 17, 18], [], [20], [20, 21], [20, 21, 22], [20, 21, 22, 23], [0, 1, 2, 3, 4, 5, 6, 7, 8, 9, 10, 11, 12, 13, 14, 15, 16, 17, 18, 19, 20, 21, 22, 23, 24], [0, 1, 2, 3, 4, 5, 6, 7, 8, 9, 10, 11, 12, 13, 14, 15, 16, 17, 18, 19, 20, 21, 22, 23, 24, 25], [0, 1, 2, 3, 4, 5, 6, 7, 8, 9, 10, 11, 12, 13, 14, 15, 16, 17, 18, 19, 20, 21, 22, 23, 24, 25, 26]] (by kernel_rfl) (by kernel_rfl) [2, 3] (fr' := [(2, .ref 0 0), (3, i64 0)]) (σ' := [.box [i64 ((nth y_2885.1.L 0).N), i64 ((nth y_2885.1.L 1).N), i64 ((nth y_2885.1.L 2).N), i64 ((nth y_2885.1.L 3).N), .sl false (L cU8 ((nth y_2885.1.L 4).B))] false, .box [i64 y_2885.1.Kind, i64 y_2885.1.N, .sl false (L cU8 y_2885.1.B), .sl false (L cApi_Value y_2885.1.L)] false]) ⟨_, orcs_nil, ?_⟩ ?_
      · simp only [go_sem, Nat.reduceGT, Int.reduceToNat, Nat.reduceLeDiff, hc_2975, (show 0 < y_2885.1.L.length from hc_2975.2), hc_2976, (show 1 < y_2885.1.L.length from hc_2976.2), hc_2977, (show 2 < y_2885.1.L.length from hc_2977.2), hc_2978, (show 3 < y_2885.1.L.length from hc_2978.2), hc_2979, (show 4 < y_2885.1.L.length from hc_2979.2)]
      refine run_ret ?_
      obtain rfl := Option.some.inj h
      refine wkP_of (Weak.refl _ _) ?_
      refine ret_ok (.inr rfl) ?_
      simp only [go_sem]

end Go.Proofs.Ytomjphpnpcgacaa
/-
  The functions compute just that.
-/
namespace Go.Proofs.Ytomjphpnpcgacaa
open Go.Rv
set_option linter.unusedVariables false
set_option linter.unusedSimpArgs false
set_option maxRecDepth 20000
set_option maxHeartbeats 4000000

theorem law12_WindowCodec_con {k_2980 : Api_Packet} {v_2981 : Api_Value} {b_2982 : List UInt8} {r : Bool} (h : law12_WindowCodec k_2980 v_2981 b_2982 = some r) : Con B 9 [.agg [i64 k_2980.Epoch, i64 k_2980.To, i64 k_2980.Seq, i64 k_2980.Ack, .sl false (L cU8 k_2980.Data)], .agg [i64 v_2981.Kind, i64 v_2981.N, .sl false (L cU8 v_2981.B), .sl false (L cApi_Value v_2981.L)], .sl false (L cU8 b_2982)] [] (fun r' σ' => r' = .bool r ∧ σ' = []) := by
  refine con_walk (N := 142) (rs := [.tmp 6]) ok Try.func9 rfl (by decide +kernel) rfl rfl (Nat.le_of_ble_eq_true rfl) (fun F => ?_)
  have hE := ok.env F
  unfold law12_WindowCodec at h
  show Run (B.env F) 0 _ ⟨asFr 142 [(0, .agg [i64 k_2980.Epoch, i64 k_2980.To, i64 k_2980.Seq, i64 k_2980.Ack, .sl false (L cU8 k_2980.Data)]), (1, .agg [i64 v_2981.Kind, i64 v_2981.N, .sl false (L cU8 v_2981.B), .sl false (L cApi_Value v_2981.L)]), (2, .sl false (L cU8 b_2982))], []⟩ _
  refine run_wkP ?_
  refine run_textE hE [2, 3, 4] (fr' := [(2, .sl false (L cU8 b_2982)), (3, .ref 0 0), (4, .ref 1 0)]) (σ' := [.box [i64 k_2980.Epoch, i64 k_2980.To, i64 k_2980.Seq, i64 k_2980.Ack, .sl false (L cU8 k_2980.Data)] false, .box [i64 v_2981.Kind, i64 v_2981.N, .sl false (L cU8 v_2981.B), .sl false (L cApi_Value v_2981.L)] false]) ⟨_, orcs_nil, ?_⟩ ?_
  · simp only [go_sem]
  refine run_seq ?_
  replace h := bind_some1 h; obtain ⟨y_2983, hy_2984, h⟩ := h
  refine run_textE hE [2, 3, 4, 24] (fr' := [(2, .sl false (L cU8 b_2982)), (3, .ref 0 0), (4, .ref 1 0), (24, .bool ((!y_2983)))]) (σ' := [.box [i64 k_2980.Epoch, i64 k_2980.To, i64 k_2980.Seq, i64 k_2980.Ack, .sl false (L cU8 k_2980.Data)] false, .box [i64 v_2981.Kind, i64 v_2981.N, .sl false (L cU8 v_2981.B), .sl false (L cApi_Value v_2981.L)] false]) ⟨_, orcs_ok (l := [(23, 10, [], .bool y_2983)]) ⟨law12_sane_con  hy_2984, trivial⟩, ?_⟩ ?_
  · simp only [go_sem]
  refine run_condL (b := (!y_2983)) rfl (by decide) (fun hb => ?_) (fun hb => ?_)
  · replace h := ite_t h hb
    refine run_textE hE [6] (fr' := [(6, .bool false)]) (σ' := [.box [i64 k_2980.Epoch, i64 k_2980.To, i64 k_2980.Seq, i64 k_2980.Ack, .sl false (L cU8 k_2980.Data)] false, .box [i64 v_2981.Kind, i64 v_2981.N, .sl false (L cU8 v_2981.B), .sl false (L cApi_Value v_2981.L)] false]) ⟨_, orcs_nil, ?_⟩ ?_
    · simp only [go_sem]
    refine run_ret ?_
    refine thenK_r ?_
    obtain rfl := Option.some.inj h
    refine wkP_of (Weak.refl _ _) ?_
    refine ret_ok (.inr rfl) ?_
    simp only [go_sem]
  · replace h := ite_f h hb
    refine run_skip ?_
    refine thenK_n ?_
    refine run_seq ?_
    replace h := bind_some1 h; obtain ⟨t_2985, hv_2986, h⟩ := h
    refine run_textW hE [2, 3, 4, 33] (fr' := [(2, .sl false (L cU8 b_2982)), (3, .ref 0 0), (4, .ref 1 0), (33, .bool t_2985)]) (σ' := [.box [i64 k_2980.Epoch, i64 k_2980.To, i64 k_2980.Seq, i64 k_2980.Ack, .sl false (L cU8 k_2980.Data)] false, .box [i64 v_2981.Kind, i64 v_2981.N, .sl false (L cU8 v_2981.B), .sl false (L cApi_Value v_2981.L)] false]) ?_ ?_
    · rcases Bool.eq_false_or_eq_true ((decide ((k_2980.Data.length : Int) > 20000))) with hb_2987 | hb_2987
      · replace hv_2986 := ite_t hv_2986 hb_2987
        have e_hv_2986 := Option.some.inj hv_2986; subst e_hv_2986
        exact ⟨_, [(2, .sl false (L cU8 b_2982)), (3, .ref 0 0), (4, .ref 1 0), (33, .bool true)], [.box [i64 k_2980.Epoch, i64 k_2980.To, i64 k_2980.Seq, i64 k_2980.Ack, .sl false (L cU8 k_2980.Data)] false, .box [i64 v_2981.Kind, i64 v_2981.N, .sl false (L cU8 v_2981.B), .sl false (L cApi_Value v_2981.L)] false], orcs_nil, by simp only [go_sem, hb_2987], (weak_sel [0, 1] (by decide) rfl (by simp only [go_sem]) (by simp only [go_sem]))⟩
      · replace hv_2986 := ite_f hv_2986 hb_2987
        have e_hv_2986 := Option.some.inj hv_2986; subst e_hv_2986
        exact ⟨_, [(2, .sl false (L cU8 b_2982)), (3, .ref 0 0), (4, .ref 1 0), (33, .bool ((decide ((b_2982.length : Int) > 20000))))], [.box [i64 k_2980.Epoch, i64 k_2980.To, i64 k_2980.Seq, i64 k_2980.Ack, .sl false (L cU8 k_2980.Data)] false, .box [i64 v_2981.Kind, i64 v_2981.N, .sl false (L cU8 v_2981.B), .sl false (L cApi_Value v_2981.L)] false], orcs_nil, by simp only [go_sem, hb_2987], (weak_sel [0, 1] (by decide) rfl (by simp only [go_sem]) (by simp only [go_sem]))⟩
    refine run_condL (b := t_2985) rfl (by decide) (fun hb => ?_) (fun hb => ?_)
    · replace h := ite_t h hb
      refine run_textE hE [6] (fr' := [(6, .bool true)]) (σ' := [.box [i64 k_2980.Epoch, i64 k_2980.To, i64 k_2980.Seq, i64 k_2980.Ack, .sl false (L cU8 k_2980.Data)] false, .box [i64 v_2981.Kind, i64 v_2981.N, .sl false (L cU8 v_2981.B), .sl false (L cApi_Value v_2981.L)] false]) ⟨_, orcs_nil, ?_⟩ ?_
      · simp only [go_sem]
      refine run_ret ?_
      refine thenK_r ?_
      obtain rfl := Option.some.inj h
      refine wkP_of (Weak.refl _ _) ?_
      refine ret_ok (.inr rfl) ?_
      simp only [go_sem]
    · replace h := ite_f h hb
      refine run_skip ?_
      refine thenK_n ?_
      replace h := bind_some1 h; obtain ⟨y_2988, hy_2989, h⟩ := h
      refine run_textE hE [2, 3, 4, 7, 8] (fr' := [(2, .sl false (L cU8 b_2982)), (3, .ref 0 0), (4, .ref 1 0), (7, .sl false (L cU8 y_2988.1)), (8, i64 y_2988.2)]) (σ' := [.box [i64 k_2980.Epoch, i64 k_2980.To, i64 k_2980.Seq, i64 k_2980.Ack, .sl false (L cU8 k_2980.Data)] false, .box [i64 v_2981.Kind, i64 v_2981.N, .sl false (L cU8 v_2981.B), .sl false (L cApi_Value v_2981.L)] false]) ⟨_, orcs_ok (l := [(36, 28, [.agg [i64 k_2980.Epoch, i64 k_2980.To, i64 k_2980.Seq, i64 k_2980.Ack, .sl false (L cU8 k_2980.Data)]], .tup [.sl false (L cU8 y_2988.1), i64 y_2988.2])]) ⟨window_Encode_con  hy_2989, trivial⟩, ?_⟩ ?_
      · simp only [go_sem]
      replace h := bind_some1 h; obtain ⟨y_2990, hy_2991, h⟩ := h
      refine run_textE hE [2, 3, 4, 8, 9, 10] (fr' := [(2, .sl false (L cU8 b_2982)), (3, .ref 0 0), (4, .ref 1 0), (8, i64 y_2988.2), (9, .ref 2 0), (10, i64 y_2990.2)]) (σ' := [.box [i64 k_2980.Epoch, i64 k_2980.To, i64 k_2980.Seq, i64 k_2980.Ack, .sl false (L cU8 k_2980.Data)] false, .box [i64 v_2981.Kind, i64 v_2981.N, .sl false (L cU8 v_2981.B), .sl false (L cApi_Value v_2981.L)] false, .box [i64 y_2990.1.Epoch, i64 y_2990.1.To, i64 y_2990.1.Seq, i64 y_2990.1.Ack, .sl false (L cU8 y_2990.1.Data)] false]) ⟨_, orcs_ok (l := [(41, 29, [.sl false (L cU8 y_2988.1)], .tup [.agg [i64 y_2990.1.Epoch, i64 y_2990.1.To, i64 y_2990.1.Seq, i64 y_2990.1.Ack, .sl false (L cU8 y_2990.1.Data)], i64 y_2990.2])]) ⟨window_Decode_con  hy_2991, trivial⟩, ?_⟩ ?_
      · simp only [go_sem, Nat.reduceLeDiff]
      refine run_seq ?_
      replace h := bind_some1 h; obtain ⟨t_2993, hv_2994, h⟩ := h
      refine run_textW hE [2, 4, 55] (fr' := [(2, .sl false (L cU8 b_2982)), (4, .ref 0 0), (55, .bool t_2993)]) (σ' := [.box [i64 v_2981.Kind, i64 v_2981.N, .sl false (L cU8 v_2981.B), .sl false (L cApi_Value v_2981.L)] false]) ?_ ?_
      · rcases Bool.eq_false_or_eq_true ((y_2988.2 != 0)) with hb_2995 | hb_2995
        · replace hv_2994 := ite_t hv_2994 hb_2995
          have e_hv_2994 := Option.some.inj hv_2994; subst e_hv_2994
          exact ⟨_, [(2, .sl false (L cU8 b_2982)), (4, .ref 1 0), (55, .bool true)], [.box [i64 k_2980.Epoch, i64 k_2980.To, i64 k_2980.Seq, i64 k_2980.Ack, .sl false (L cU8 k_2980.Data)] false, .box [i64 v_2981.Kind, i64 v_2981.N, .sl false (L cU8 v_2981.B), .sl false (L cApi_Value v_2981.L)] false, .box [i64 y_2990.1.Epoch, i64 y_2990.1.To, i64 y_2990.1.Seq, i64 y_2990.1.Ack, .sl false (L cU8 y_2990.1.Data)] false], orcs_nil, by simp only [go_sem, hb_2995], (weak_sel [1] (by decide) rfl (by simp only [go_sem]) (by simp only [go_sem]))⟩
        · replace hv_2994 := ite_f hv_2994 hb_2995
          rcases Bool.eq_false_or_eq_true ((y_2990.2 != 0)) with hb_2996 | hb_2996
          · replace hv_2994 := ite_t hv_2994 hb_2996
            have e_hv_2994 := Option.some.inj hv_2994; subst e_hv_2994
            exact ⟨_, [(2, .sl false (L cU8 b_2982)), (4, .ref 1 0), (55, .bool true)], [.box [i64 k_2980.Epoch, i64 k_2980.To, i64 k_2980.Seq, i64 k_2980.Ack, .sl false (L cU8 k_2980.Data)] false, .box [i64 v_2981.Kind, i64 v_2981.N, .sl false (L cU8 v_2981.B), .sl false (L cApi_Value v_2981.L)] false, .box [i64 y_2990.1.Epoch, i64 y_2990.1.To, i64 y_2990.1.Seq, i64 y_2990.1.Ack, .sl false (L cU8 y_2990.1.Data)] false], orcs_nil, by simp only [go_sem, hb_2995, hb_2996], (weak_sel [1] (by decide) rfl (by simp only [go_sem]) (by simp only [go_sem]))⟩
          · replace hv_2994 := ite_f hv_2994 hb_2996
            replace hv_2994 := bind_some1 hv_2994; obtain ⟨y_2992, hy_2997, hv_2994⟩ := hv_2994
            have e_hv_2994 := Option.some.inj hv_2994; subst e_hv_2994
            exact ⟨_, [(2, .sl false (L cU8 b_2982)), (4, .ref 1 0), (55, .bool ((!y_2992)))], [.box [i64 k_2980.Epoch, i64 k_2980.To, i64 k_2980.Seq, i64 k_2980.Ack, .sl false (L cU8 k_2980.Data)] false, .box [i64 v_2981.Kind, i64 v_2981.N, .sl false (L cU8 v_2981.B), .sl false (L cApi_Value v_2981.L)] false, .box [i64 y_2990.1.Epoch, i64 y_2990.1.To, i64 y_2990.1.Seq, i64 y_2990.1.Ack, .sl false (L cU8 y_2990.1.Data)] false], orcs_ok (l := [(53, 30, [.agg [i64 y_2990.1.Epoch, i64 y_2990.1.To, i64 y_2990.1.Seq, i64 y_2990.1.Ack, .sl false (L cU8 y_2990.1.Data)], .agg [i64 k_2980.Epoch, i64 k_2980.To, i64 k_2980.Seq, i64 k_2980.Ack, .sl false (L cU8 k_2980.Data)]], .bool y_2992)]) ⟨r12_SamePacket_con  hy_2997, trivial⟩, by simp only [go_sem, hb_2995, hb_2996], (weak_sel [1] (by decide) rfl (by simp only [go_sem]) (by simp only [go_sem]))⟩
      refine run_condL (b := t_2993) rfl (by decide) (fun hb => ?_) (fun hb => ?_)
      · replace h := ite_t h hb
        refine run_textE hE [6] (fr' := [(6, .bool false)]) (σ' := [.box [i64 v_2981.Kind, i64 v_2981.N, .sl false (L cU8 v_2981.B), .sl false (L cApi_Value v_2981.L)] false]) ⟨_, orcs_nil, ?_⟩ ?_
        · simp only [go_sem]
        refine run_ret ?_
        refine thenK_r ?_
        obtain rfl := Option.some.inj h
        refine wkP_of (Weak.refl _ _) ?_
        refine ret_ok (.inr rfl) ?_
        simp only [go_sem]
      · replace h := ite_f h hb
        refine run_skip ?_
        refine thenK_n ?_
        replace h := bind_some1 h; obtain ⟨y_2998, hy_2999, h⟩ := h
        refine run_textE hE [2, 4, 11, 12] (fr' := [(2, .sl false (L cU8 b_2982)), (4, .ref 0 0), (11, .ref 1 0), (12, i64 y_2998.2)]) (σ' := [.box [i64 v_2981.Kind, i64 v_2981.N, .sl false (L cU8 v_2981.B), .sl false (L cApi_Value v_2981.L)] false, .box [i64 y_2998.1.Epoch, i64 y_2998.1.To, i64 y_2998.1.Seq, i64 y_2998.1.Ack, .sl false (L cU8 y_2998.1.Data)] false]) ⟨_, orcs_ok (l := [(58, 29, [.sl false (L cU8 b_2982)], .tup [.agg [i64 y_2998.1.Epoch, i64 y_2998.1.To, i64 y_2998.1.Seq, i64 y_2998.1.Ack, .sl false (L cU8 y_2998.1.Data)], i64 y_2998.2])]) ⟨window_Decode_con  hy_2999, trivial⟩, ?_⟩ ?_
        · simp only [go_sem, Nat.reduceLeDiff]
        replace h := bind_some1 h; obtain ⟨y_3000, hy_3001, h⟩ := h
        refine run_textE hE [2, 4, 11, 12, 13, 14] (fr' := [(2, .sl false (L cU8 b_2982)), (4, .ref 0 0), (11, .ref 1 0), (12, i64 y_2998.2), (13, .ref 2 0), (14, i64 y_3000.2)]) (σ' := [.box [i64 v_2981.Kind, i64 v_2981.N, .sl false (L cU8 v_2981.B), .sl false (L cApi_Value v_2981.L)] false, .box [i64 y_2998.1.Epoch, i64 y_2998.1.To, i64 y_2998.1.Seq, i64 y_2998.1.Ack, .sl false (L cU8 y_2998.1.Data)] false, .box [i64 y_3000.1.Kind, i64 y_3000.1.N, .sl false (L cU8 y_3000.1.B), .sl false (L cApi_Value y_3000.1.L)] false]) ⟨_, orcs_ok (l := [(63, 31, [.sl false (L cU8 b_2982)], .tup [.agg [i64 y_3000.1.Kind, i64 y_3000.1.N, .sl false (L cU8 y_3000.1.B), .sl false (L cApi_Value y_3000.1.L)], i64 y_3000.2])]) ⟨codec_Decode_con  hy_3001, trivial⟩, ?_⟩ ?_
        · simp only [go_sem, Nat.reduceLeDiff]
        refine run_seq ?_
        replace h := bind_some1 h; obtain ⟨t_3003, hv_3004, h⟩ := h
        refine run_textW hE [2, 4, 11, 12, 13, 90] (fr' := [(2, .sl false (L cU8 b_2982)), (4, .ref 0 0), (11, .ref 1 0), (12, i64 y_2998.2), (13, .ref 2 0), (90, .bool t_3003)]) (σ' := [.box [i64 v_2981.Kind, i64 v_2981.N, .sl false (L cU8 v_2981.B), .sl false (L cApi_Value v_2981.L)] false, .box [i64 y_2998.1.Epoch, i64 y_2998.1.To, i64 y_2998.1.Seq, i64 y_2998.1.Ack, .sl false (L cU8 y_2998.1.Data)] false, .box [i64 y_3000.1.Kind, i64 y_3000.1.N, .sl false (L cU8 y_3000.1.B), .sl false (L cApi_Value y_3000.1.L)] false]) ?_ ?_
        · rcases Bool.eq_false_or_eq_true ((y_3000.2 != 0)) with hb_3005 | hb_3005
          · replace hv_3004 := ite_t hv_3004 hb_3005
            rcases Bool.eq_false_or_eq_true ((y_2998.2 != y_3000.2)) with hb_3006 | hb_3006
            · replace hv_3004 := ite_t hv_3004 hb_3006
              have e_hv_3004 := Option.some.inj hv_3004; subst e_hv_3004
              exact ⟨_, [(2, .sl false (L cU8 b_2982)), (4, .ref 0 0), (11, .ref 1 0), (12, i64 y_2998.2), (13, .ref 2 0), (90, .bool true)], [.box [i64 v_2981.Kind, i64 v_2981.N, .sl false (L cU8 v_2981.B), .sl false (L cApi_Value v_2981.L)] false, .box [i64 y_2998.1.Epoch, i64 y_2998.1.To, i64 y_2998.1.Seq, i64 y_2998.1.Ack, .sl false (L cU8 y_2998.1.Data)] false, .box [i64 y_3000.1.Kind, i64 y_3000.1.N, .sl false (L cU8 y_3000.1.B), .sl false (L cApi_Value y_3000.1.L)] false], orcs_nil, by simp only [go_sem, Nat.reduceGT, hb_3005, hb_3006], (weak_sel [0, 1, 2] (by decide) rfl (by simp only [go_sem]) (by simp only [go_sem]))⟩
            · replace hv_3004 := ite_f hv_3004 hb_3006
              replace hv_3004 := bind_some1 hv_3004; obtain ⟨y_3002, hy_3007, hv_3004⟩ := hv_3004
              rcases Bool.eq_false_or_eq_true ((!y_3002)) with hb_3008 | hb_3008
              · replace hv_3004 := ite_t hv_3004 hb_3008
                have e_hv_3004 := Option.some.inj hv_3004; subst e_hv_3004
                exact ⟨_, [(2, .sl false (L cU8 b_2982)), (4, .ref 0 0), (11, .ref 1 0), (12, i64 y_2998.2), (13, .ref 2 0), (90, .bool true)], [.box [i64 v_2981.Kind, i64 v_2981.N, .sl false (L cU8 v_2981.B), .sl false (L cApi_Value v_2981.L)] false, .box [i64 y_2998.1.Epoch, i64 y_2998.1.To, i64 y_2998.1.Seq, i64 y_2998.1.Ack, .sl false (L cU8 y_2998.1.Data)] false, .box [i64 y_3000.1.Kind, i64 y_3000.1.N, .sl false (L cU8 y_3000.1.B), .sl false (L cApi_Value y_3000.1.L)] false], orcs_ok (l := [(75, 30, [.agg [i64 y_2998.1.Epoch, i64 y_2998.1.To, i64 y_2998.1.Seq, i64 y_2998.1.Ack, .sl false (L cU8 y_2998.1.Data)], .agg [i64 0, i64 0, i64 0, i64 0, .sl false (L cU8 ([]))]], .bool y_3002)]) ⟨r12_SamePacket_con  hy_3007, trivial⟩, by simp only [go_sem, Nat.reduceGT, hb_3005, hb_3006, hb_3008], (weak_sel [0, 1, 2] (by decide) rfl (by simp only [go_sem]) (by simp only [go_sem]))⟩
              · replace hv_3004 := ite_f hv_3004 hb_3008
                rcases Bool.eq_false_or_eq_true ((y_3000.2 == 0)) with hb_3009 | hb_3009
                · replace hv_3004 := ite_t hv_3004 hb_3009
                  rcases Bool.eq_false_or_eq_true ((y_2998.2 != 0)) with hb_3010 | hb_3010
                  · replace hv_3004 := ite_t hv_3004 hb_3010
                    have e_hv_3004 := Option.some.inj hv_3004; subst e_hv_3004
                    exact ⟨_, [(2, .sl false (L cU8 b_2982)), (4, .ref 0 0), (11, .ref 1 0), (12, i64 y_2998.2), (13, .ref 2 0), (90, .bool ((y_2998.2 != 10)))], [.box [i64 v_2981.Kind, i64 v_2981.N, .sl false (L cU8 v_2981.B), .sl false (L cApi_Value v_2981.L)] false, .box [i64 y_2998.1.Epoch, i64 y_2998.1.To, i64 y_2998.1.Seq, i64 y_2998.1.Ack, .sl false (L cU8 y_2998.1.Data)] false, .box [i64 y_3000.1.Kind, i64 y_3000.1.N, .sl false (L cU8 y_3000.1.B), .sl false (L cApi_Value y_3000.1.L)] false], orcs_ok (l := [(75, 30, [.agg [i64 y_2998.1.Epoch, i64 y_2998.1.To, i64 y_2998.1.Seq, i64 y_2998.1.Ack, .sl false (L cU8 y_2998.1.Data)], .agg [i64 0, i64 0, i64 0, i64 0, .sl false (L cU8 ([]))]], .bool y_3002)]) ⟨r12_SamePacket_con  hy_3007, trivial⟩, by simp only [go_sem, Nat.reduceGT, hb_3005, hb_3006, hb_3008, hb_3009, hb_3010], (weak_sel [0, 1, 2] (by decide) rfl (by simp only [go_sem]) (by simp only [go_sem]))⟩
                  · replace hv_3004 := ite_f hv_3004 hb_3010
                    have e_hv_3004 := Option.some.inj hv_3004; subst e_hv_3004
                    exact ⟨_, [(2, .sl false (L cU8 b_2982)), (4, .ref 0 0), (11, .ref 1 0), (12, i64 y_2998.2), (13, .ref 2 0), (90, .bool false)], [.box [i64 v_2981.Kind, i64 v_2981.N, .sl false (L cU8 v_2981.B), .sl false (L cApi_Value v_2981.L)] false, .box [i64 y_2998.1.Epoch, i64 y_2998.1.To, i64 y_2998.1.Seq, i64 y_2998.1.Ack, .sl false (L cU8 y_2998.1.Data)] false, .box [i64 y_3000.1.Kind, i64 y_3000.1.N, .sl false (L cU8 y_3000.1.B), .sl false (L cApi_Value y_3000.1.L)] false], orcs_ok (l := [(75, 30, [.agg [i64 y_2998.1.Epoch, i64 y_2998.1.To, i64 y_2998.1.Seq, i64 y_2998.1.Ack, .sl false (L cU8 y_2998.1.Data)], .agg [i64 0, i64 0, i64 0, i64 0, .sl false (L cU8 ([]))]], .bool y_3002)]) ⟨r12_SamePacket_con  hy_3007, trivial⟩, by simp only [go_sem, Nat.reduceGT, hb_3005, hb_3006, hb_3008, hb_3009, hb_3010], (weak_sel [0, 1, 2] (by decide) rfl (by simp only [go_sem]) (by simp only [go_sem]))⟩
                · replace hv_3004 := ite_f hv_3004 hb_3009
                  have e_hv_3004 := Option.some.inj hv_3004; subst e_hv_3004
                  exact ⟨_, [(2, .sl false (L cU8 b_2982)), (4, .ref 0 0), (11, .ref 1 0), (12, i64 y_2998.2), (13, .ref 2 0), (90, .bool false)], [.box [i64 v_2981.Kind, i64 v_2981.N, .sl false (L cU8 v_2981.B), .sl false (L cApi_Value v_2981.L)] false, .box [i64 y_2998.1.Epoch, i64 y_2998.1.To, i64 y_2998.1.Seq, i64 y_2998.1.Ack, .sl false (L cU8 y_2998.1.Data)] false, .box [i64 y_3000.1.Kind, i64 y_3000.1.N, .sl false (L cU8 y_3000.1.B), .sl false (L cApi_Value y_3000.1.L)] false], orcs_ok (l := [(75, 30, [.agg [i64 y_2998.1.Epoch, i64 y_2998.1.To, i64 y_2998.1.Seq, i64 y_2998.1.Ack, .sl false (L cU8 y_2998.1.Data)], .agg [i64 0, i64 0, i64 0, i64 0, .sl false (L cU8 ([]))]], .bool y_3002)]) ⟨r12_SamePacket_con  hy_3007, trivial⟩, by simp only [go_sem, Nat.reduceGT, hb_3005, hb_3006, hb_3008, hb_3009], (weak_sel [0, 1, 2] (by decide) rfl (by simp only [go_sem]) (by simp only [go_sem]))⟩
          · replace hv_3004 := ite_f hv_3004 hb_3005
            rcases Bool.eq_false_or_eq_true ((y_3000.2 == 0)) with hb_3011 | hb_3011
            · replace hv_3004 := ite_t hv_3004 hb_3011
              rcases Bool.eq_false_or_eq_true ((y_2998.2 != 0)) with hb_3012 | hb_3012
              · replace hv_3004 := ite_t hv_3004 hb_3012
                have e_hv_3004 := Option.some.inj hv_3004; subst e_hv_3004
                exact ⟨_, [(2, .sl false (L cU8 b_2982)), (4, .ref 0 0), (11, .ref 1 0), (12, i64 y_2998.2), (13, .ref 2 0), (90, .bool ((y_2998.2 != 10)))], [.box [i64 v_2981.Kind, i64 v_2981.N, .sl false (L cU8 v_2981.B), .sl false (L cApi_Value v_2981.L)] false, .box [i64 y_2998.1.Epoch, i64 y_2998.1.To, i64 y_2998.1.Seq, i64 y_2998.1.Ack, .sl false (L cU8 y_2998.1.Data)] false, .box [i64 y_3000.1.Kind, i64 y_3000.1.N, .sl false (L cU8 y_3000.1.B), .sl false (L cApi_Value y_3000.1.L)] false], orcs_nil, by simp only [go_sem, Nat.reduceGT, hb_3005, hb_3011, hb_3012], (weak_sel [0, 1, 2] (by decide) rfl (by simp only [go_sem]) (by simp only [go_sem]))⟩
              · replace hv_3004 := ite_f hv_3004 hb_3012
                have e_hv_3004 := Option.some.inj hv_3004; subst e_hv_3004
                exact ⟨_, [(2, .sl false (L cU8 b_2982)), (4, .ref 0 0), (11, .ref 1 0), (12, i64 y_2998.2), (13, .ref 2 0), (90, .bool false)], [.box [i64 v_2981.Kind, i64 v_2981.N, .sl false (L cU8 v_2981.B), .sl false (L cApi_Value v_2981.L)] false, .box [i64 y_2998.1.Epoch, i64 y_2998.1.To, i64 y_2998.1.Seq, i64 y_2998.1.Ack, .sl false (L cU8 y_2998.1.Data)] false, .box [i64 y_3000.1.Kind, i64 y_3000.1.N, .sl false (L cU8 y_3000.1.B), .sl false (L cApi_Value y_3000.1.L)] false], orcs_nil, by simp only [go_sem, Nat.reduceGT, hb_3005, hb_3011, hb_3012], (weak_sel [0, 1, 2] (by decide) rfl (by simp only [go_sem]) (by simp only [go_sem]))⟩
            · replace hv_3004 := ite_f hv_3004 hb_3011
              have e_hv_3004 := Option.some.inj hv_3004; subst e_hv_3004
              exact ⟨_, [(2, .sl false (L cU8 b_2982)), (4, .ref 0 0), (11, .ref 1 0), (12, i64 y_2998.2), (13, .ref 2 0), (90, .bool false)], [.box [i64 v_2981.Kind, i64 v_2981.N, .sl false (L cU8 v_2981.B), .sl false (L cApi_Value v_2981.L)] false, .box [i64 y_2998.1.Epoch, i64 y_2998.1.To, i64 y_2998.1.Seq, i64 y_2998.1.Ack, .sl false (L cU8 y_2998.1.Data)] false, .box [i64 y_3000.1.Kind, i64 y_3000.1.N, .sl false (L cU8 y_3000.1.B), .sl false (L cApi_Value y_3000.1.L)] false], orcs_nil, by simp only [go_sem, Nat.reduceGT, hb_3005, hb_3011], (weak_sel [0, 1, 2] (by decide) rfl (by simp only [go_sem]) (by simp only [go_sem]))⟩
        refine run_condL (b := t_3003) rfl (by decide) (fun hb => ?_) (fun hb => ?_)
        · replace h := ite_t h hb
          refine run_textE hE [6] (fr' := [(6, .bool false)]) (σ' := [.box [i64 v_2981.Kind, i64 v_2981.N, .sl false (L cU8 v_2981.B), .sl false (L cApi_Value v_2981.L)] false, .box [i64 y_2998.1.Epoch, i64 y_2998.1.To, i64 y_2998.1.Seq, i64 y_2998.1.Ack, .sl false (L cU8 y_2998.1.Data)] false, .box [i64 y_3000.1.Kind, i64 y_3000.1.N, .sl false (L cU8 y_3000.1.B), .sl false (L cApi_Value y_3000.1.L)] false]) ⟨_, orcs_nil, ?_⟩ ?_
          · simp only [go_sem]
          refine run_ret ?_
          refine thenK_r ?_
          obtain rfl := Option.some.inj h
          refine wkP_of (Weak.refl _ _) ?_
          refine ret_ok (.inr rfl) ?_
          simp only [go_sem]
        · replace h := ite_f h hb
          refine run_skip ?_
          refine thenK_n ?_
          replace h := bind_some1 h; obtain ⟨j_3023, hA_3024, hj_3025⟩ := h
          refine run_join (fun (v : Unit) => (⟨asFr 142 [(4, .ref 0 0)], [.box [i64 v_2981.Kind, i64 v_2981.N, .sl false (L cU8 v_2981.B), .sl false (L cApi_Value v_2981.L)] false]⟩ : St)) (fun v => .inl v = j_3023) ?_ ?_
          · have h := hA_3024; clear hA_3024
            refine run_textE hE [2, 4, 11, 13, 92] (fr' := [(2, .sl false (L cU8 b_2982)), (4, .ref 0 0), (11, .ref 1 0), (13, .ref 2 0), (92, .bool ((y_2998.2 == 0)))]) (σ' := [.box [i64 v_2981.Kind, i64 v_2981.N, .sl false (L cU8 v_2981.B), .sl false (L cApi_Value v_2981.L)] false, .box [i64 y_2998.1.Epoch, i64 y_2998.1.To, i64 y_2998.1.Seq, i64 y_2998.1.Ack, .sl false (L cU8 y_2998.1.Data)] false, .box [i64 y_3000.1.Kind, i64 y_3000.1.N, .sl false (L cU8 y_3000.1.B), .sl false (L cApi_Value y_3000.1.L)] false]) ⟨_, orcs_nil, ?_⟩ ?_
            · simp only [go_sem]
            refine run_condL (b := (y_2998.2 == 0)) rfl (by decide) (fun hb => ?_) (fun hb => ?_)
            · replace h := ite_t h hb
              replace h := bind_some1 h; obtain ⟨y_3026, hy_3027, h⟩ := h
              refine run_textE hE [2, 4, 13, 15, 16] (fr' := [(2, .sl false (L cU8 b_2982)), (4, .ref 0 0), (13, .ref 2 0), (15, .sl false (L cU8 y_3026.1)), (16, i64 y_3026.2)]) (σ' := [.box [i64 v_2981.Kind, i64 v_2981.N, .sl false (L cU8 v_2981.B), .sl false (L cApi_Value v_2981.L)] false, .box [i64 y_2998.1.Epoch, i64 y_2998.1.To, i64 y_2998.1.Seq, i64 y_2998.1.Ack, .sl false (L cU8 y_2998.1.Data)] false, .box [i64 y_3000.1.Kind, i64 y_3000.1.N, .sl false (L cU8 y_3000.1.B), .sl false (L cApi_Value y_3000.1.L)] false]) ⟨_, orcs_ok (l := [(95, 28, [.agg [i64 y_2998.1.Epoch, i64 y_2998.1.To, i64 y_2998.1.Seq, i64 y_2998.1.Ack, .sl false (L cU8 y_2998.1.Data)]], .tup [.sl false (L cU8 y_3026.1), i64 y_3026.2])]) ⟨window_Encode_con  hy_3027, trivial⟩, ?_⟩ ?_
              · simp only [go_sem]
              replace h := bind_some1 h; obtain ⟨t_3029, hv_3030, h⟩ := h
              refine run_textW hE [4, 116] (fr' := [(4, .ref 0 0), (116, .bool t_3029)]) (σ' := [.box [i64 v_2981.Kind, i64 v_2981.N, .sl false (L cU8 v_2981.B), .sl false (L cApi_Value v_2981.L)] false]) ?_ ?_
              · rcases Bool.eq_false_or_eq_true ((y_3026.2 != 0)) with hb_3031 | hb_3031
                · replace hv_3030 := ite_t hv_3030 hb_3031
                  have e_hv_3030 := Option.some.inj hv_3030; subst e_hv_3030
                  exact ⟨_, [(4, .ref 0 0), (116, .bool true)], [.box [i64 v_2981.Kind, i64 v_2981.N, .sl false (L cU8 v_2981.B), .sl false (L cApi_Value v_2981.L)] false, .box [i64 y_2998.1.Epoch, i64 y_2998.1.To, i64 y_2998.1.Seq, i64 y_2998.1.Ack, .sl false (L cU8 y_2998.1.Data)] false, .box [i64 y_3000.1.Kind, i64 y_3000.1.N, .sl false (L cU8 y_3000.1.B), .sl false (L cApi_Value y_3000.1.L)] false], orcs_nil, by simp only [go_sem, hb_3031], (weak_sel [0] (by decide) rfl (by simp only [go_sem]) (by simp only [go_sem]))⟩
                · replace hv_3030 := ite_f hv_3030 hb_3031
                  replace hv_3030 := bind_some1 hv_3030; obtain ⟨y_3028, hy_3032, hv_3030⟩ := hv_3030
                  rcases Bool.eq_false_or_eq_true ((!y_3028)) with hb_3033 | hb_3033
                  · replace hv_3030 := ite_t hv_3030 hb_3033
                    have e_hv_3030 := Option.some.inj hv_3030; subst e_hv_3030
                    exact ⟨_, [(4, .ref 0 0), (116, .bool true)], [.box [i64 v_2981.Kind, i64 v_2981.N, .sl false (L cU8 v_2981.B), .sl false (L cApi_Value v_2981.L)] false, .box [i64 y_2998.1.Epoch, i64 y_2998.1.To, i64 y_2998.1.Seq, i64 y_2998.1.Ack, .sl false (L cU8 y_2998.1.Data)] false, .box [i64 y_3000.1.Kind, i64 y_3000.1.N, .sl false (L cU8 y_3000.1.B), .sl false (L cApi_Value y_3000.1.L)] false], orcs_ok (l := [(103, 32, [.sl false (L cU8 y_3026.1), .sl false (L cU8 b_2982)], .bool y_3028)]) ⟨r01_SameBytes_con  hy_3032, trivial⟩, by simp only [go_sem, hb_3031, hb_3033], (weak_sel [0] (by decide) rfl (by simp only [go_sem]) (by simp only [go_sem]))⟩
                  · replace hv_3030 := ite_f hv_3030 hb_3033
                    rcases Bool.eq_false_or_eq_true ((y_3000.1.Kind != 3)) with hb_3034 | hb_3034
                    · replace hv_3030 := ite_t hv_3030 hb_3034
                      have e_hv_3030 := Option.some.inj hv_3030; subst e_hv_3030
                      exact ⟨_, [(4, .ref 0 0), (116, .bool true)], [.box [i64 v_2981.Kind, i64 v_2981.N, .sl false (L cU8 v_2981.B), .sl false (L cApi_Value v_2981.L)] false, .box [i64 y_2998.1.Epoch, i64 y_2998.1.To, i64 y_2998.1.Seq, i64 y_2998.1.Ack, .sl false (L cU8 y_2998.1.Data)] false, .box [i64 y_3000.1.Kind, i64 y_3000.1.N, .sl false (L cU8 y_3000.1.B), .sl false (L cApi_Value y_3000.1.L)] false], orcs_ok (l := [(103, 32, [.sl false (L cU8 y_3026.1), .sl false (L cU8 b_2982)], .bool y_3028)]) ⟨r01_SameBytes_con  hy_3032, trivial⟩, by simp only [go_sem, hb_3031, hb_3033, hb_3034], (weak_sel [0] (by decide) rfl (by simp only [go_sem]) (by simp only [go_sem]))⟩
                    · replace hv_3030 := ite_f hv_3030 hb_3034
                      have e_hv_3030 := Option.some.inj hv_3030; subst e_hv_3030
                      exact ⟨_, [(4, .ref 0 0), (116, .bool (((y_3000.1.L.length : Int) != 5)))], [.box [i64 v_2981.Kind, i64 v_2981.N, .sl false (L cU8 v_2981.B), .sl false (L cApi_Value v_2981.L)] false, .box [i64 y_2998.1.Epoch, i64 y_2998.1.To, i64 y_2998.1.Seq, i64 y_2998.1.Ack, .sl false (L cU8 y_2998.1.Data)] false, .box [i64 y_3000.1.Kind, i64 y_3000.1.N, .sl false (L cU8 y_3000.1.B), .sl false (L cApi_Value y_3000.1.L)] false], orcs_ok (l := [(103, 32, [.sl false (L cU8 y_3026.1), .sl false (L cU8 b_2982)], .bool y_3028)]) ⟨r01_SameBytes_con  hy_3032, trivial⟩, by simp only [go_sem, hb_3031, hb_3033, hb_3034], (weak_sel [0] (by decide) rfl (by simp only [go_sem]) (by simp only [go_sem]))⟩
              refine run_condL (b := t_3029) rfl (by decide) (fun hb => ?_) (fun hb => ?_)
              · replace h := ite_t h hb
                refine run_textE hE [6] (fr' := [(6, .bool false)]) (σ' := [.box [i64 v_2981.Kind, i64 v_2981.N, .sl false (L cU8 v_2981.B), .sl false (L cApi_Value v_2981.L)] false]) ⟨_, orcs_nil, ?_⟩ ?_
                · simp only [go_sem]
                refine run_ret ?_
                refine joinK_r ?_
                replace h := bind_some1 h; obtain ⟨z_3035, h, e_z_3035⟩ := h
                obtain rfl := Option.some.inj e_z_3035
                obtain rfl := Option.some.inj hj_3025
                obtain rfl := Option.some.inj h
                refine wkP_of (Weak.refl _ _) ?_
                refine ret_ok (.inr rfl) ?_
                simp only [go_sem]
              · replace h := ite_f h hb
                refine run_skip ?_
                obtain rfl := Option.some.inj h
                exact joinK_n (()) rfl (weak_sel [0] (by decide) rfl (by simp only [go_sem]) (by simp only [go_sem]))
            · replace h := ite_f h hb
              refine run_skip ?_
              obtain rfl := Option.some.inj h
              exact joinK_n (()) rfl (weak_sel [0] (by decide) rfl (by simp only [go_sem]) (by simp only [go_sem]))
          rintro ⟨⟩ rfl
          have h := hj_3025; clear hj_3025
          replace h := bind_some1 h; obtain ⟨y_3036, hy_3037, h⟩ := h
          refine run_textE hE [17, 18] (fr' := [(17, .sl false (L cU8 y_3036.1)), (18, i64 y_3036.2)]) (σ' := [.box [i64 v_2981.Kind, i64 v_2981.N, .sl false (L cU8 v_2981.B), .sl false (L cApi_Value v_2981.L)] false]) ⟨_, orcs_ok (l := [(119, 33, [.agg [i64 v_2981.Kind, i64 v_2981.N, .sl false (L cU8 v_2981.B), .sl false (L cApi_Value v_2981.L)]], .tup [.sl false (L cU8 y_3036.1), i64 y_3036.2])]) ⟨codec_Encode_con  hy_3037, trivial⟩, ?_⟩ ?_
          · simp only [go_sem]
          refine run_seq ?_
          refine run_textE hE [17, 123] (fr' := [(17, .sl false (L cU8 y_3036.1)), (123, .bool ((y_3036.2 != 0)))]) (σ' := [.box [i64 v_2981.Kind, i64 v_2981.N, .sl false (L cU8 v_2981.B), .sl false (L cApi_Value v_2981.L)] false]) ⟨_, orcs_nil, ?_⟩ ?_
          · simp only [go_sem]
          refine run_condL (b := (y_3036.2 != 0)) rfl (by decide) (fun hb => ?_) (fun hb => ?_)
          · replace h := ite_t h hb
            refine run_textE hE [6] (fr' := [(6, .bool true)]) (σ' := [.box [i64 v_2981.Kind, i64 v_2981.N, .sl false (L cU8 v_2981.B), .sl false (L cApi_Value v_2981.L)] false]) ⟨_, orcs_nil, ?_⟩ ?_
            · simp only [go_sem]
            refine run_ret ?_
            refine thenK_r ?_
            obtain rfl := Option.some.inj h
            refine wkP_of (Weak.refl _ _) ?_
            refine ret_ok (.inr rfl) ?_
            simp only [go_sem]
          · replace h := ite_f h hb
            refine run_skip ?_
            refine thenK_n ?_
            replace h := bind_some1 h; obtain ⟨y_3038, hy_3039, h⟩ := h
            refine run_textE hE [17, 19, 20] (fr' := [(17, .sl false (L cU8 y_3036.1)), (19, .ref 1 0), (20, i64 y_3038.2)]) (σ' := [.box [i64 v_2981.Kind, i64 v_2981.N, .sl false (L cU8 v_2981.B), .sl false (L cApi_Value v_2981.L)] false, .box [i64 y_3038.1.Epoch, i64 y_3038.1.To, i64 y_3038.1.Seq, i64 y_3038.1.Ack, .sl false (L cU8 y_3038.1.Data)] false]) ⟨_, orcs_ok (l := [(126, 29, [.sl false (L cU8 y_3036.1)], .tup [.agg [i64 y_3038.1.Epoch, i64 y_3038.1.To, i64 y_3038.1.Seq, i64 y_3038.1.Ack, .sl false (L cU8 y_3038.1.Data)], i64 y_3038.2])]) ⟨window_Decode_con  hy_3039, trivial⟩, ?_⟩ ?_
            · simp only [go_sem, Nat.reduceLeDiff]
            replace h := bind_some1 h; obtain ⟨y_3040, hy_3041, h⟩ := h
            refine run_textE hE [19, 20, 21, 22] (fr' := [(19, .ref 1 0), (20, i64 y_3038.2), (21, .ref 2 0), (22, i64 y_3040.2)]) (σ' := [.box [i64 v_2981.Kind, i64 v_2981.N, .sl false (L cU8 v_2981.B), .sl false (L cApi_Value v_2981.L)] false, .box [i64 y_3038.1.Epoch, i64 y_3038.1.To, i64 y_3038.1.Seq, i64 y_3038.1.Ack, .sl false (L cU8 y_3038.1.Data)] false, .box [i64 y_3040.1.Epoch, i64 y_3040.1.To, i64 y_3040.1.Seq, i64 y_3040.1.Ack, .sl false (L cU8 y_3040.1.Data)] false]) ⟨_, orcs_ok (l := [(131, 34, [.sl false (L cU8 y_3036.1)], .tup [.agg [i64 y_3040.1.Epoch, i64 y_3040.1.To, i64 y_3040.1.Seq, i64 y_3040.1.Ack, .sl false (L cU8 y_3040.1.Data)], i64 y_3040.2])]) ⟨r12_Decode_con  hy_3041, trivial⟩, ?_⟩ ?_
            · simp only [go_sem, Nat.reduceLeDiff]
            replace h := bind_some1 h; obtain ⟨t_3043, hv_3044, h⟩ := h
            refine run_textW hE [6] (fr' := [(6, .bool t_3043)]) (σ' := []) ?_ ?_
            · rcases Bool.eq_false_or_eq_true ((y_3038.2 == y_3040.2)) with hb_3045 | hb_3045
              · replace hv_3044 := ite_t hv_3044 hb_3045
                replace hv_3044 := bind_some1 hv_3044; obtain ⟨y_3042, hy_3046, hv_3044⟩ := hv_3044
                have e_hv_3044 := Option.some.inj hv_3044; subst e_hv_3044
                exact ⟨_, [(6, .bool y_3042)], [.box [i64 v_2981.Kind, i64 v_2981.N, .sl false (L cU8 v_2981.B), .sl false (L cApi_Value v_2981.L)] false, .box [i64 y_3038.1.Epoch, i64 y_3038.1.To, i64 y_3038.1.Seq, i64 y_3038.1.Ack, .sl false (L cU8 y_3038.1.Data)] false, .box [i64 y_3040.1.Epoch, i64 y_3040.1.To, i64 y_3040.1.Seq, i64 y_3040.1.Ack, .sl false (L cU8 y_3040.1.Data)] false], orcs_ok (l := [(140, 30, [.agg [i64 y_3038.1.Epoch, i64 y_3038.1.To, i64 y_3038.1.Seq, i64 y_3038.1.Ack, .sl false (L cU8 y_3038.1.Data)], .agg [i64 y_3040.1.Epoch, i64 y_3040.1.To, i64 y_3040.1.Seq, i64 y_3040.1.Ack, .sl false (L cU8 y_3040.1.Data)]], .bool y_3042)]) ⟨r12_SamePacket_con  hy_3046, trivial⟩, by simp only [go_sem, hb_3045], (weak_sel [] (by decide) rfl (by simp only [go_sem]) (by simp only [go_sem]))⟩
              · replace hv_3044 := ite_f hv_3044 hb_3045
                have e_hv_3044 := Option.some.inj hv_3044; subst e_hv_3044
                exact ⟨_, [(6, .bool false)], [.box [i64 v_2981.Kind, i64 v_2981.N, .sl false (L cU8 v_2981.B), .sl false (L cApi_Value v_2981.L)] false, .box [i64 y_3038.1.Epoch, i64 y_3038.1.To, i64 y_3038.1.Seq, i64 y_3038.1.Ack, .sl false (L cU8 y_3038.1.Data)] false, .box [i64 y_3040.1.Epoch, i64 y_3040.1.To, i64 y_3040.1.Seq, i64 y_3040.1.Ack, .sl false (L cU8 y_3040.1.Data)] false], orcs_nil, by simp only [go_sem, hb_3045], (weak_sel [] (by decide) rfl (by simp only [go_sem]) (by simp only [go_sem]))⟩
            refine run_ret ?_
            obtain rfl := Option.some.inj h
            refine wkP_of (Weak.refl _ _) ?_
            refine ret_ok (.inr rfl) ?_
            simp only [go_sem]

end Go.Proofs.Ytomjphpnpcgacaa
/-
  All walks.
-/

/-
  The examples of the documentation: computed.
-/
namespace Go.Proofs.Ytomjphpnpcgacaa
open Go.Rv
theorem sane_ok : law12_sane = some true := by decide +kernel
end Go.Proofs.Ytomjphpnpcgacaa
/-
  The encoder: what codec's shape, appendInt, appendValue and Encode compute.
-/
namespace Go.Proofs.Ytomjphpnpcgacaa
open Go.Rv
set_option linter.unusedVariables false
set_option linter.unusedSimpArgs false

theorem e_bindS {α β : Type} {o : Option α} {a : α} {f : α → Option β} (h : o = some a) : (o.bind fun x => some x).bind f = f a := by rw [h]; rfl
theorem e_bindT {α β : Type} {o : Option α} {a : α} {f : α → Option β} (h : o = some a) : o.bind f = f a := by rw [h]; rfl
theorem e_lt1 {α β : Type} (x y : α) (f : α → Option β) (h : x = y) : lt1 x f = f y := by rw [h]; rfl
theorem e_shr64 (x : UInt64) (n : Nat) : (shr64 x n).toNat = x.toNat / 2 ^ n := by
  show (x.toBitVec >>> n).toNat = _
  rw [BitVec.toNat_ushiftRight, Nat.shiftRight_eq_div_pow]; rfl
theorem e_succ {k : Nat} (h : k < 9223372036854775807) : w64 ((k : Int) + 1) = ((k + 1 : Nat) : Int) := by
  rw [w64_id (by omega)]; rfl

/-! ### Values and their size -/
theorem value_eta (x : Api_Value) : Api_Value.mk x.Kind x.N x.B x.L = x := by cases x; rfl

mutual
def szV : Api_Value → Nat
  | .mk _ _ b l => b.length + 1 + szVs l
def szVs : List Api_Value → Nat
  | [] => 0
  | x :: l => szV x + szVs l
end

theorem szV_pos (x : Api_Value) : 0 < szV x := by
  cases x with
  | mk k n b l => simp only [szV]; omega
theorem szVs_mem {l : List Api_Value} {x : Api_Value} (h : x ∈ l) : szV x ≤ szVs l := by
  induction l with
  | nil => cases h
  | cons y l ih =>
    simp only [szVs]
    rcases List.mem_cons.1 h with rfl | h
    · omega
    · have := ih h; omega
theorem szVs_len (l : List Api_Value) : l.length ≤ szVs l := by
  induction l with
  | nil => simp [szVs]
  | cons y l ih =>
    have := szV_pos y
    simp only [szVs, List.length_cons]; omega
theorem szVs_drop (l : List Api_Value) (k : Nat) : szVs (l.drop k) ≤ szVs l := by
  induction l generalizing k with
  | nil => simp
  | cons y l ih =>
    cases k with
    | zero => simp
    | succ k => have := ih k; simp only [List.drop_succ_cons, szVs]; omega
theorem szV_eq (x : Api_Value) : szV x = x.B.length + 1 + szVs x.L := by
  cases x with
  | mk k n b l => rfl

/-! ### Integers -/
def nbF : Nat → Nat → Nat
  | 0, _ => 0
  | f + 1, u => if u = 0 then 0 else nbF f (u / 256) + 1
/-- The number of bytes that u needs. -/
def nb (u : Nat) : Nat := nbF 8 u

theorem nbF_le (f u : Nat) : nbF f u ≤ f := by
  induction f generalizing u with
  | zero => exact Nat.le_refl _
  | succ f ih =>
    unfold nbF
    split
    · omega
    · have := ih (u / 256); omega
theorem nbF_up (f u : Nat) (h : u < 256 ^ f) (m : Nat) : nbF (f + m) u = nbF f u := by
  induction f generalizing u with
  | zero =>
    have : u = 0 := by simpa using h
    subst this
    cases m with
    | zero => rfl
    | succ m => rw [Nat.zero_add]; unfold nbF; simp
  | succ f ih =>
    rw [show f + 1 + m = (f + m) + 1 by omega]
    unfold nbF
    split
    · rfl
    · rw [ih (u / 256) (by rw [Nat.pow_succ] at h; omega)]
theorem nb_le (u : Nat) : nb u ≤ 8 := nbF_le 8 u
theorem nb_zero : nb 0 = 0 := rfl
theorem nb_step (u : Nat) (h : u ≠ 0) (hu : u < 256 ^ 8) : nb u = nb (u / 256) + 1 := by
  unfold nb
  rw [show (8 : Nat) = 7 + 1 from rfl]
  rw [nbF_up 7 (u / 256) (by have : (256 : Nat) ^ 8 = 256 ^ 7 * 256 := rfl; omega) 1]
  conv => lhs; unfold nbF
  rw [if_neg h]

theorem size_eq (u : UInt64) : codec_appendInt_1 u = some ((nb u.toNat : Nat) : Int) := by
  obtain ⟨x, hx, hq⟩ := loopO_rule (f := fun (v : UInt64 × Int) => codec_appendInt_1_b1 v.1 v.2)
    (fun v => ∃ k : Nat, v.2 = (k : Int) ∧ k + nb v.1.toNat = nb u.toNat) (fun v => v.1.toNat) (fun x => x = ((nb u.toNat : Nat) : Int))
    (by
      rintro ⟨u', k'⟩ ⟨k, hk, hkn⟩
      simp only at hk hkn
      subst hk
      have hlt : u'.toNat < 256 ^ 8 := by have := u'.toNat_lt; exact this
      by_cases h0 : u'.toNat = 0
      · right
        refine ⟨(k : Int), ?_, ?_⟩
        · show codec_appendInt_1_b1 u' (k : Int) = _
          unfold codec_appendInt_1_b1
          rw [if_neg]
          simp only [decide_eq_true_eq, gt_iff_lt, UInt64.lt_iff_toNat_lt]
          show ¬ 0 < u'.toNat
          omega
        · rw [h0, nb_zero] at hkn; rw [← hkn]; rfl
      · left
        have hs : (shr64 u' ((8 : UInt64)).toNat).toNat = u'.toNat / 256 := by rw [e_shr64]; rfl
        refine ⟨(shr64 u' ((8 : UInt64)).toNat, ((k + 1 : Nat) : Int)), ?_, ⟨k + 1, rfl, ?_⟩, ?_⟩
        · show codec_appendInt_1_b1 u' (k : Int) = _
          unfold codec_appendInt_1_b1
          have := nb_le u.toNat
          rw [if_pos, e_succ (by omega)]
          · rfl
          · simp only [decide_eq_true_eq, gt_iff_lt, UInt64.lt_iff_toNat_lt]
            show 0 < u'.toNat
            omega
        · simp only [hs]
          have := nb_step _ h0 hlt
          omega
        · simp only [hs]
          omega) (v0 := (u, 0)) ⟨0, rfl, by simp⟩ (by have := u.toNat_lt; omega)
  subst hq
  unfold codec_appendInt_1
  exact (e_bindT (e_bindT hx)).trans rfl

/-- How many bytes the magnitude of n needs. -/
def nbI (n : Int) : Nat := if n < 0 then nb (~~~(UInt64.ofInt n)).toNat else nb (UInt64.ofInt n).toNat
def tagI (n : Int) : UInt8 := if n < 0 then UInt8.ofInt (31 - (nbI n : Int)) else UInt8.ofInt (32 + (nbI n : Int))
def byteI (n : Int) (k i : Nat) : UInt8 := (shr64 (UInt64.ofInt n) (8 * (k - 1 - i))).toUInt8
def encI (n : Int) : List UInt8 := tagI n :: (List.range (nbI n)).map (byteI n (nbI n))
theorem nbI_le (n : Int) : nbI n ≤ 8 := by unfold nbI; split <;> exact nb_le _
theorem encI_len (n : Int) : (encI n).length = nbI n + 1 := by simp [encI]

theorem appendInt_eq (b : List UInt8) (n : Int) (hb : b.length ≤ 1099511627776) : codec_appendInt b n = some (b ++ encI n) := by
  have h8 := nbI_le n
  have key : ∃ x, loopO (fun (v : Int × List UInt8) => codec_appendInt_b1 n ((nbI n : Nat) : Int) v.1 v.2) (0, b ++ [tagI n]) = some x ∧ x = b ++ encI n :=
    loopO_for (f := fun (v : Int × List UInt8) => codec_appendInt_b1 n ((nbI n : Nat) : Int) v.1 v.2) (nbI n)
      (fun k v => v = ((k : Int), b ++ tagI n :: (List.range k).map (byteI n (nbI n)))) (fun x => x = b ++ encI n) (by omega)
      (fun k v hk hv => by
        subst hv
        refine ⟨_, ?_, rfl⟩
        show codec_appendInt_b1 n ((nbI n : Nat) : Int) (k : Int) _ = _
        unfold codec_appendInt_b1
        have e1 : w64 (((nbI n : Nat) : Int) - 1) = ((nbI n - 1 : Nat) : Int) := by rw [w64_id (by omega)]; omega
        have e2 : w64 (((nbI n - 1 : Nat) : Int) - (k : Int)) = ((nbI n - 1 - k : Nat) : Int) := by rw [w64_id (by omega)]; omega
        have e3 : w64 (8 * ((nbI n - 1 - k : Nat) : Int)) = ((8 * (nbI n - 1 - k) : Nat) : Int) := by rw [w64_id (by omega)]; omega
        rw [if_pos (by simp; omega), e1, e2, e3, if_pos (by unfold NotNeg; omega), if_pos (fits1 (by simp; omega)), e_succ (by omega)]
        simp only [lt1, List.range_succ, List.map_append, List.map_cons, List.map_nil, List.append_assoc, List.cons_append]
        rfl)
      (fun v hv => by
        subst hv
        refine ⟨_, ?_, rfl⟩
        show codec_appendInt_b1 n ((nbI n : Nat) : Int) ((nbI n : Nat) : Int) _ = _
        unfold codec_appendInt_b1
        rw [if_neg (by simp)]
        rfl) (v0 := (0, b ++ [tagI n])) rfl
  obtain ⟨x, hx, rfl⟩ := key
  have hp : (if decide (n < 0) = true then
      (codec_appendInt_1 (~~~UInt64.ofInt n)).bind fun y => lt1 (UInt8.ofInt (w64 (31 - y))) fun (tag : UInt8) => some (y, tag)
    else some (((nb (UInt64.ofInt n).toNat : Nat) : Int), UInt8.ofInt (w64 (32 + ((nb (UInt64.ofInt n).toNat : Nat) : Int)))) : Option (Int × UInt8)) = some (((nbI n : Nat) : Int), tagI n) := by
    by_cases h : n < 0
    · rw [if_pos (by simpa using h), size_eq]
      have e : nbI n = nb (~~~(UInt64.ofInt n)).toNat := if_pos h
      rw [← e]
      show some (((nbI n : Nat) : Int), UInt8.ofInt (w64 (31 - ((nbI n : Nat) : Int)))) = _
      rw [w64_id (by omega)]
      unfold tagI
      rw [if_pos h]
    · rw [if_neg (by simpa using h)]
      have e : nbI n = nb (UInt64.ofInt n).toNat := if_neg h
      rw [← e, w64_id (by omega)]
      unfold tagI
      rw [if_neg h]
  unfold codec_appendInt
  refine (e_bindT (size_eq _)).trans ?_
  refine (e_lt1 _ _ _ rfl).trans ?_
  refine (e_bindT hp).trans ?_
  refine (if_pos (fits1 (by omega))).trans ?_
  refine (e_lt1 _ _ _ rfl).trans ?_
  exact (e_bindT (e_bindT hx)).trans rfl

/-! ### Shape -/
mutual
def shpV : Api_Value → Int × Bool
  | .mk k n b l =>
    if k = 1 then (0, b.length == 0 && l.length == 0)
    else if k = 2 then (0, n == 0 && l.length == 0)
    else if k = 3 then (if n = 0 ∧ b.length = 0 then shpL 0 l else (0, false))
    else (0, false)
def shpL (d : Int) : List Api_Value → Int × Bool
  | [] => (d + 1, true)
  | x :: l => if (shpV x).2 = true then shpL (mx64 d (shpV x).1) l else (0, false)
end

mutual
theorem shpV_le : ∀ v : Api_Value, 0 ≤ (shpV v).1 ∧ (shpV v).1 ≤ szV v
  | .mk k n b l => by
    have h := shpL_le 0 l
    unfold shpV szV
    split
    · simp; omega
    · split
      · simp; omega
      · split
        · split
          · omega
          · simp; omega
        · simp; omega
theorem shpL_le : ∀ (d : Int) (l : List Api_Value), 0 ≤ d → 0 ≤ (shpL d l).1 ∧ (shpL d l).1 ≤ max d (szVs l) + 1
  | d, [] => by intro h; simp [shpL, szVs]; omega
  | d, x :: l => by
    intro h
    have h1 := shpV_le x
    have hm : 0 ≤ mx64 d (shpV x).1 ∧ mx64 d (shpV x).1 ≤ max d (szV x) := by unfold mx64; split <;> omega
    have h2 := shpL_le (mx64 d (shpV x).1) l hm.1
    unfold shpL szVs
    split
    · omega
    · simp; omega
end
end Go.Proofs.Ytomjphpnpcgacaa
/-
  The encoder, the recursive functions: shape, appendValue, Encode.
-/
namespace Go.Proofs.Ytomjphpnpcgacaa
open Go.Rv
set_option linter.unusedVariables false
set_option linter.unusedSimpArgs false

theorem nth_mem {l : List Api_Value} {k : Nat} (h : k < l.length) : nth l k = l[k] := by simp [nth, List.getD_eq_getElem?_getD, h]

theorem len0 {α : Type} (l : List α) : ((l.length : Int) == 0) = (l.length == 0) := by
  cases l with
  | nil => rfl
  | cons a l => simp; omega
theorem shpL_nil (d : Int) : shpL d [] = (d + 1, true) := by unfold shpL; rfl
theorem shpL_cons (d : Int) (x : Api_Value) (l : List Api_Value) : shpL d (x :: l) = if (shpV x).2 = true then shpL (mx64 d (shpV x).1) l else (0, false) := by
  conv => lhs; unfold shpL

/-! ### Shape -/
theorem shape_loop (v : Api_Value) (rec_ : Api_Value → Option (Int × Bool)) (hr : ∀ x ∈ v.L, rec_ x = some (shpV x)) (hs : szV v ≤ 1099511627776) :
    ∃ x, loopO (fun (s : Int × Int) => codec_shape_b1 v rec_ s.1 s.2) (0, 0) = some x ∧
      ((∃ d : Int, shpL 0 v.L = (d + 1, true) ∧ 0 ≤ d ∧ d ≤ 1099511627776 ∧ x = .inl d) ∨ (shpL 0 v.L = (0, false) ∧ x = .inr (.inr (.inr (0, false))))) := by
  have hsz := szV_eq v
  have hlen := szVs_len v.L
  refine loopO_rule (f := fun (s : Int × Int) => codec_shape_b1 v rec_ s.1 s.2)
    (fun s => ∃ k : Nat, s.2 = (k : Int) ∧ k ≤ v.L.length ∧ 0 ≤ s.1 ∧ s.1 ≤ 1099511627776 ∧ shpL 0 v.L = shpL s.1 (v.L.drop k)) (fun s => v.L.length - s.2.toNat) _ ?_ ⟨0, rfl, Nat.zero_le _, by simp, by simp, rfl⟩ (by omega)
  rintro ⟨d, t⟩ ⟨k, ht, hk, hd0, hd1, hsp⟩
  simp only at ht hd0 hd1 hsp
  subst ht
  by_cases hkl : k < v.L.length
  · have hx : v.L.drop k = v.L[k] :: v.L.drop (k + 1) := List.drop_eq_getElem_cons hkl
    have hm : v.L[k] ∈ v.L := List.getElem_mem hkl
    have hsx := szVs_mem hm
    have hle := shpV_le v.L[k]
    rw [hx, shpL_cons] at hsp
    have hb : codec_shape_b1 v rec_ d (k : Int) = if (!(shpV v.L[k]).2) = true then some (.inr (.inr (.inr (.inr (0, false))))) else some (.inl (mx64 d (shpV v.L[k]).1, ((k + 1 : Nat) : Int))) := by
      unfold codec_shape_b1
      rw [if_pos (by simp; omega), if_pos (inR_of hkl)]
      simp only [Int.toNat_natCast, nth_mem hkl, lt1, value_eta]
      refine (e_bindT (hr _ hm)).trans ?_
      rw [e_succ (by omega)]
      rfl
    by_cases hg : (shpV v.L[k]).2 = true
    · left
      rw [if_pos hg] at hsp
      rw [if_neg (by simp [hg])] at hb
      refine ⟨_, hb, ⟨k + 1, rfl, hkl, ?_, ?_, hsp⟩, ?_⟩
      · simp only [mx64]; split <;> omega
      · simp only [mx64]; split <;> omega
      · simp only [Int.toNat_natCast]; omega
    · right
      rw [if_neg hg] at hsp
      rw [if_pos (by simp [hg])] at hb
      exact ⟨_, hb, .inr ⟨hsp, rfl⟩⟩
  · right
    have hkk : k = v.L.length := by omega
    subst hkk
    rw [List.drop_length, shpL_nil] at hsp
    refine ⟨.inl d, ?_, .inl ⟨d, hsp, hd0, hd1, rfl⟩⟩
    show codec_shape_b1 v rec_ d ((v.L.length : Nat) : Int) = _
    unfold codec_shape_b1
    rw [if_neg (by simp)]

theorem shape_n : ∀ (n : Nat) (v : Api_Value), szV v < n → szV v ≤ 1099511627776 → codec_shape_n n v = some (shpV v)
  | 0, v, h, _ => absurd h (Nat.not_lt_zero _)
  | n + 1, v, h, hs => by
    show codec_shape_F (codec_shape_n n) v = _
    have hsz := szV_eq v
    obtain ⟨x, hx, hq⟩ := shape_loop v (codec_shape_n n) (fun y hy => shape_n n y (by have := szVs_mem hy; omega) (by have := szVs_mem hy; omega)) hs
    have hv : shpV v = if v.Kind = 1 then (0, v.B.length == 0 && v.L.length == 0) else if v.Kind = 2 then (0, v.N == 0 && v.L.length == 0) else if v.Kind = 3 then (if v.N = 0 ∧ v.B.length = 0 then shpL 0 v.L else (0, false)) else (0, false) := by
      cases v with
      | mk k n b l => unfold shpV; rfl
    rw [hv]
    unfold codec_shape_F
    by_cases h1 : v.Kind = 1
    · rw [if_pos (by simp [h1]), if_pos h1]
      rw [len0, len0]
      by_cases hb : v.B.length = 0
      · simp [hb]
      · have : (v.B.length == 0) = false := by simpa using hb
        simp [this]
    · rw [if_neg (by simp [h1]), if_neg h1]
      by_cases h2 : v.Kind = 2
      · rw [if_pos (by simp [h2]), if_pos h2, len0]
        by_cases hn : v.N = 0
        · simp [hn]
        · simp [hn]
      · rw [if_neg (by simp [h2]), if_neg h2]
        by_cases h3 : v.Kind = 3
        · rw [if_pos (by simp [h3]), if_pos h3]
          by_cases hn : v.N = 0
          · by_cases hb : v.B.length = 0
            · rw [if_pos (show v.N = 0 ∧ v.B.length = 0 from ⟨hn, hb⟩)]
              have e1 : (if (v.N != 0) = true then some true else some ((v.B.length : Int) != 0) : Option Bool) = some false := by simp [hn, hb]
              refine (e_bindT (a := (.inr (shpL 0 v.L) : Unit ⊕ (Int × Bool))) ?_).trans rfl
              refine (e_bindT e1).trans ?_
              rw [if_neg (by simp)]
              rcases hq with ⟨d, e, h0, hd, rfl⟩ | ⟨e, rfl⟩
              · rw [hx, e]
                show some (Sum.inr (w64 (d + 1), true)) = _
                rw [w64_id (by omega)]
              · rw [hx, e]
                rfl
            · rw [if_neg (show ¬ (v.N = 0 ∧ v.B.length = 0) from fun h => hb h.2)]
              have e1 : (if (v.N != 0) = true then some true else some ((v.B.length : Int) != 0) : Option Bool) = some true := by
                rw [if_neg (by simp [hn])]; simp; intro e; apply hb; simp [e]
              refine (e_bindT (a := (.inr (0, false) : Unit ⊕ (Int × Bool))) ?_).trans rfl
              exact (e_bindT e1).trans rfl
          · rw [if_neg (show ¬ (v.N = 0 ∧ v.B.length = 0) from fun h => hn h.1)]
            have e1 : (if (v.N != 0) = true then some true else some ((v.B.length : Int) != 0) : Option Bool) = some true := by simp [hn]
            refine (e_bindT (a := (.inr (0, false) : Unit ⊕ (Int × Bool))) ?_).trans rfl
            exact (e_bindT e1).trans rfl
        · rw [if_neg (by simp [h3]), if_neg h3]
          rfl

/-! ### Encodings -/
def escB : List UInt8 → List UInt8
  | [] => []
  | c :: l => if c = 0 then 0 :: 255 :: escB l else c :: escB l
theorem escB_app (a b : List UInt8) : escB (a ++ b) = escB a ++ escB b := by
  induction a with
  | nil => rfl
  | cons c a ih => simp only [List.cons_append, escB]; split <;> simp [ih]
theorem escB_len (a : List UInt8) : (escB a).length ≤ 2 * a.length := by
  induction a with
  | nil => simp [escB]
  | cons c a ih => simp only [escB]; split <;> simp only [List.length_cons] <;> omega

mutual
def encV : Api_Value → List UInt8
  | .mk k n b l => if k = 1 then encI n else if k = 2 then 48 :: (escB b ++ [0, 0]) else 64 :: (encL l ++ [0])
def encL : List Api_Value → List UInt8
  | [] => []
  | x :: l => encV x ++ encL l
end
theorem encV_eq (v : Api_Value) : encV v = if v.Kind = 1 then encI v.N else if v.Kind = 2 then 48 :: (escB v.B ++ [0, 0]) else 64 :: (encL v.L ++ [0]) := by
  cases v with
  | mk k n b l => unfold encV; rfl
theorem encL_app (a b : List Api_Value) : encL (a ++ b) = encL a ++ encL b := by
  induction a with
  | nil => rfl
  | cons c a ih => simp only [List.cons_append, encL, ih, List.append_assoc]
mutual
theorem encV_len : ∀ v : Api_Value, (encV v).length ≤ 9 * szV v
  | .mk k n b l => by
    have h := encL_len l
    have h1 := encI_len n
    have h2 := nbI_le n
    have h3 := escB_len b
    unfold encV szV
    split
    · omega
    · split
      · simp only [List.length_cons, List.length_append, List.length_nil]; omega
      · simp only [List.length_cons, List.length_append, List.length_nil]; omega
theorem encL_len : ∀ l : List Api_Value, (encL l).length ≤ 9 * szVs l
  | [] => by simp [encL]
  | x :: l => by
    have h1 := encV_len x
    have h2 := encL_len l
    unfold encL szVs
    simp only [List.length_append]; omega
end
theorem encL_take (l : List Api_Value) (k : Nat) : (encL (l.take k)).length ≤ 9 * szVs l := by
  have h := encL_len l
  have : encL l = encL (l.take k) ++ encL (l.drop k) := by rw [← encL_app, List.take_append_drop]
  rw [this, List.length_append] at h
  omega

theorem bytes_loop (v : Api_Value) (a : List UInt8) (ha : a.length + 2 * v.B.length ≤ 100000000000000) :
    ∃ x, loopO (fun (s : Int × List UInt8) => codec_appendValue_b1 v s.1 s.2) (0, a) = some x ∧ x = a ++ escB v.B := by
  refine loopO_for (f := fun (s : Int × List UInt8) => codec_appendValue_b1 v s.1 s.2) v.B.length (fun k s => s = ((k : Int), a ++ escB (v.B.take k))) _ (by omega) ?_ ?_ (by simp [escB])
  · intro k s hk hs
    subst hs
    have hx : v.B.take (k + 1) = v.B.take k ++ [v.B[k]] := by rw [List.take_add_one, List.getElem?_eq_getElem hk]; rfl
    have hn : nth v.B k = v.B[k] := by simp [nth, List.getD_eq_getElem?_getD, hk]
    have hl := escB_len (v.B.take k)
    rw [List.length_take] at hl
    refine ⟨_, ?_, rfl⟩
    show codec_appendValue_b1 v (k : Int) _ = _
    unfold codec_appendValue_b1
    rw [if_pos (by simp; omega), if_pos (inR_of hk), if_pos (fits1 (by simp only [List.length_append]; omega)), e_succ (by omega)]
    simp only [Int.toNat_natCast, hn, lt1, hx, escB_app]
    by_cases h0 : v.B[k] = 0
    · rw [if_pos (by simp [h0]), if_pos (fits1 (by simp only [List.length_append, List.length_cons, List.length_nil]; omega))]
      simp [escB, h0]
    · rw [if_neg (by simp [h0])]
      simp [escB, h0]
  · intro s hs
    subst hs
    refine ⟨_, ?_, rfl⟩
    show codec_appendValue_b1 v ((v.B.length : Nat) : Int) _ = _
    unfold codec_appendValue_b1
    rw [if_neg (by simp), List.take_length]

theorem list_loop (v : Api_Value) (a : List UInt8) (rec_ : List UInt8 → Api_Value → Option (List UInt8)) (hr : ∀ x ∈ v.L, ∀ b, b.length + 9 * szV x ≤ a.length + 9 * szVs v.L → rec_ b x = some (b ++ encV x)) (hs : szV v ≤ 1099511627776) :
    ∃ x, loopO (fun (s : Int × List UInt8) => codec_appendValue_b2 v rec_ s.1 s.2) (0, a) = some x ∧ x = a ++ encL v.L := by
  have hsz := szV_eq v
  have hlen := szVs_len v.L
  refine loopO_for (f := fun (s : Int × List UInt8) => codec_appendValue_b2 v rec_ s.1 s.2) v.L.length (fun k s => s = ((k : Int), a ++ encL (v.L.take k))) _ (by omega) ?_ ?_ (by simp [encL])
  · intro k s hk hs'
    subst hs'
    have hx : v.L.take (k + 1) = v.L.take k ++ [v.L[k]] := by rw [List.take_add_one, List.getElem?_eq_getElem hk]; rfl
    have hm : v.L[k] ∈ v.L := List.getElem_mem hk
    have hsp : szVs v.L = szVs (v.L.take k) + szVs (v.L.drop k) := by
      have key : ∀ a b : List Api_Value, szVs (a ++ b) = szVs a + szVs b := by
        intro a b
        induction a with
        | nil => simp [szVs]
        | cons y a ih => simp only [List.cons_append, szVs, ih]; omega
      rw [← key, List.take_append_drop]
    rw [List.drop_eq_getElem_cons hk] at hsp
    simp only [szVs] at hsp
    have hl := encL_len (v.L.take k)
    refine ⟨_, ?_, rfl⟩
    show codec_appendValue_b2 v rec_ (k : Int) _ = _
    unfold codec_appendValue_b2
    rw [if_pos (by simp; omega), if_pos (inR_of hk), e_succ (by omega)]
    simp only [Int.toNat_natCast, nth_mem hk, lt1, value_eta]
    refine (e_bindT (hr _ hm _ (by simp only [List.length_append]; omega))).trans ?_
    rw [hx, encL_app]
    simp [encL]
  · intro s hs'
    subst hs'
    refine ⟨_, ?_, rfl⟩
    show codec_appendValue_b2 v rec_ ((v.L.length : Nat) : Int) _ = _
    unfold codec_appendValue_b2
    rw [if_neg (by simp), List.take_length]

theorem append_n : ∀ (n : Nat) (b : List UInt8) (v : Api_Value), szV v < n → b.length + 9 * szV v ≤ 1099511627776 → codec_appendValue_n n b v = some (b ++ encV v)
  | 0, b, v, h, _ => absurd h (Nat.not_lt_zero _)
  | n + 1, b, v, h, hs => by
    show codec_appendValue_F (codec_appendValue_n n) b v = _
    have hsz := szV_eq v
    rw [encV_eq]
    unfold codec_appendValue_F
    by_cases h1 : v.Kind = 1
    · rw [if_pos (by simp [h1]), if_pos h1]
      rw [appendInt_eq b v.N (by omega)]
      rfl
    · rw [if_neg (by simp [h1]), if_neg h1]
      by_cases h2 : v.Kind = 2
      · rw [if_pos (by simp [h2]), if_pos h2]
        obtain ⟨x, hx, rfl⟩ := bytes_loop v (b ++ [48]) (by simp only [List.length_append, List.length_cons, List.length_nil]; omega)
        have hl := escB_len v.B
        refine (e_bindT (a := (.inr (b ++ 48 :: (escB v.B ++ [0, 0])) : Unit ⊕ List UInt8)) ?_).trans rfl
        refine (if_pos (fits1 (by omega))).trans ?_
        refine (e_lt1 _ _ _ rfl).trans ?_
        refine (e_bindT (e_bindT hx)).trans ?_
        refine (if_pos (fits1 (by simp only [List.length_append, List.length_cons, List.length_nil]; omega))).trans ?_
        simp [lt1]
      · rw [if_neg (by simp [h2]), if_neg h2]
        obtain ⟨x, hx, rfl⟩ := list_loop v (b ++ [64]) (codec_appendValue_n n) (fun y hy c hc => append_n n c y (by have := szVs_mem hy; omega) (by simp only [List.length_append, List.length_cons, List.length_nil] at hc; omega)) (by omega)
        have hl := encL_len v.L
        refine (e_bindT (a := (.inl () : Unit ⊕ List UInt8)) rfl).trans ?_
        refine (if_pos (fits1 (by omega))).trans ?_
        refine (e_lt1 _ _ _ rfl).trans ?_
        refine (e_bindT (e_bindT hx)).trans ?_
        refine (if_pos (fits1 (by simp only [List.length_append, List.length_cons, List.length_nil]; omega))).trans ?_
        simp [lt1]

/-- What Encode answers. -/
def Enc (v : Api_Value) : List UInt8 × Int :=
  if (shpV v).2 = true then (if (shpV v).1 > 16 then ([], 2) else if (encV v).length > 65536 then ([], 2) else (encV v, 0)) else ([], 10)

theorem encode_eq (v : Api_Value) (h : szV v ≤ 100000000000) : codec_Encode v = some (Enc v) := by
  unfold codec_Encode codec_shape codec_appendValue Enc
  refine (e_bindT (shape_n 18446744073709551616 v (by omega) (by omega))).trans ?_
  by_cases h1 : (shpV v).2 = true
  · rw [if_neg (by simp [h1]), if_pos h1]
    by_cases h2 : (shpV v).1 > 16
    · rw [if_pos (by simpa using h2), if_pos h2]
    · rw [if_neg (by simpa using h2), if_neg h2]
      refine (e_bindT (append_n 18446744073709551616 [] v (by omega) (by simp; omega))).trans ?_
      by_cases h3 : (encV v).length > 65536
      · rw [if_pos (by simp; omega), if_pos h3]
      · rw [if_neg (by simp; omega), if_neg h3]
        rfl
  · rw [if_pos (by simp [h1]), if_neg h1]
end Go.Proofs.Ytomjphpnpcgacaa
/-
  Readings of values (api.Value, a type that holds slices of itself).
-/
namespace Go.Proofs.Ytomjphpnpcgacaa
open Go.Rv
set_option linter.unusedVariables false

def rangeI (x : Int) : Prop := -9223372036854775808 ≤ x ∧ x ≤ 9223372036854775807
mutual
def okV : Api_Value → Prop
  | .mk k n b l => rangeI k ∧ rangeI n ∧ okVs l
def okVs : List Api_Value → Prop
  | [] => True
  | x :: l => okV x ∧ okVs l
end
theorem okVs_all (l : List Api_Value) : okVs l ↔ ∀ x ∈ l, okV x := by
  induction l with
  | nil => simp [okVs]
  | cons x l ih => simp [okVs, ih]
theorem okV_eq (v : Api_Value) : okV v ↔ rangeI v.Kind ∧ rangeI v.N ∧ ∀ x ∈ v.L, okV x := by
  rw [← okVs_all]
  cases v with
  | mk k n b l => simp only [okV]; rfl

theorem szL_one (b : List UInt8) : b.length ≤ szL (fun _ => 1) b := by
  unfold szL
  induction b with
  | nil => simp
  | cons x b ih => simp only [List.map_cons, List.sum_cons, List.length_cons] at ih ⊢; omega
theorem szL_szV (l : List Api_Value) : szVs l + 1 ≤ szL szV l := by
  unfold szL
  induction l with
  | nil => simp [szVs]
  | cons x b ih => simp only [List.map_cons, List.sum_cons, szVs] at ih ⊢; omega

theorem opensAt_value {P : Program} {BB : ∀ H : Type, DataW H → Nat} {t tI tB tL : TypeId} {fs : Array Field} (hB : BulkOk BB) (ht : P.underlying t = some (.struct fs))
    (hfs : fs.toList = [⟨"Kind", tI, 0, false, "", "", 0⟩, ⟨"N", tI, 1, false, "", "", 8⟩, ⟨"B", tB, 2, false, "", "", 16⟩, ⟨"L", tL, 3, false, "", "", 40⟩])
    (hn : P.cellsOf t = 4) (cI : P.cellsOf tI = 1) (cB : P.cellsOf tB = 1) (cL : P.cellsOf tL = 1)
    (oI : Opens P BB tI cI64 (fun _ => 1) (fun x => -9223372036854775808 ≤ x ∧ x ≤ 9223372036854775807))
    (oB : Opens P BB tB (cSl cU8) (szL fun _ => 1) (fun l => l.length ≤ maxLen ∧ ∀ x ∈ l, True))
    (hL : P.underlying tL = some (.slice t)) : ∀ fuel, OpensAt P BB fuel t cApi_Value szV okV
  | 0 => opensAt_zero
  | fuel + 1 => by
    have hl : OpensAt P BB fuel tL (cSl cApi_Value) (szL szV) (fun l => l.length ≤ maxLen ∧ ∀ x ∈ l, okV x) := by
      cases fuel with
      | zero => exact opensAt_zero
      | succ n => exact opensAt_slice hB hL hn (fun x => by rw [cApi_Value_eq]; rfl) (opensAt_value hB ht hfs hn cI cB cL oI oB hL n)
    refine opensAt_struct hB ht hn (c := fun x : Int × Int × List UInt8 × List Api_Value × Unit => cI64 x.1 ++ (cI64 x.2.1 ++ (cSl cU8 x.2.2.1 ++ (cSl cApi_Value x.2.2.2.1 ++ []))))
      (by
        rw [hfs]
        exact opensFsAt_cons (k := 1) rfl cI (fun _ => rfl) (oI.at fuel) (opensFsAt_cons (k := 1) rfl cI (fun _ => rfl) (oI.at fuel) (opensFsAt_cons (k := 1) rfl cB (fun _ => rfl) (oB.at fuel) (opensFsAt_cons (k := 1) rfl cL (fun _ => rfl) hl opensFsAt_nil))))
      (fun x => (Api_Value.mk x.1 x.2.1 x.2.2.1 x.2.2.2.1)) (fun x => by rw [cApi_Value_eq]; rfl) (fun x => by rw [cApi_Value_eq]; rfl) (fun x => ?_) (fun x h => ?_)
    · have h1 := szL_one x.2.2.1
      have h2 := szL_szV x.2.2.2.1
      simp only [szV]
      omega
    · exact (okV_eq _).2 ⟨h.1, h.2.1, h.2.2.2.1.2⟩
  termination_by fuel => fuel
end Go.Proofs.Ytomjphpnpcgacaa
/-
  Of chapter 01: what needs neither the reference nor the decoder.
-/
namespace Go.Proofs.Ytomjphpnpcgacaa
open Go.Rv
set_option linter.unusedVariables false
set_option linter.unusedSimpArgs false

def cmpI (a b : Int) : Int := if a < b then -1 else if b < a then 1 else 0
def cmpB : List UInt8 → List UInt8 → Int
  | [], [] => 0
  | [], _ :: _ => -1
  | _ :: _, [] => 1
  | x :: l, y :: m => if x = y then cmpB l m else if x < y then -1 else 1
theorem order_eq (a b : Int) : r01_Order a b = some (cmpI a b) := by
  unfold r01_Order cmpI
  by_cases h : a < b
  · rw [if_pos (by simpa using h), if_pos h]
  · rw [if_neg (by simpa using h), if_neg h]
    by_cases h2 : b < a
    · rw [if_pos (by simpa using h2), if_pos h2]
    · rw [if_neg (by simpa using h2), if_neg h2]
theorem nth_lt {α : Type} [Inhabited α] {l : List α} {k : Nat} (h : k < l.length) : nth l k = l[k] := by simp [nth, List.getD_eq_getElem?_getD, h]

theorem cmpB_drop {a b : List UInt8} {k : Nat} (ha : k < a.length) (hb : k < b.length) : cmpB (a.drop k) (b.drop k) = if nth a k = nth b k then cmpB (a.drop (k + 1)) (b.drop (k + 1)) else if nth a k < nth b k then -1 else 1 := by
  rw [List.drop_eq_getElem_cons ha, List.drop_eq_getElem_cons hb, nth_lt ha, nth_lt hb, cmpB]

theorem u8_lt_int (x y : UInt8) : ((x.toNat : Int) < (y.toNat : Int)) = (x < y) := by
  apply propext
  rw [UInt8.lt_iff_toNat_lt]; omega

theorem cmpB_end {a b : List UInt8} {k : Nat} (hk : k ≤ a.length) (hk' : k ≤ b.length) (h : ¬ (k < a.length ∧ k < b.length)) : cmpB (a.drop k) (b.drop k) = cmpI (a.length : Int) (b.length : Int) := by
  unfold cmpI
  rcases Nat.lt_trichotomy a.length b.length with hl | hl | hl
  · have hka : k = a.length := by omega
    rw [if_pos (by omega), hka, List.drop_length, List.drop_eq_getElem_cons (by omega)]
    rfl
  · have hka : k = a.length := by omega
    rw [if_neg (by omega), if_neg (by omega), hka, List.drop_length, hl, List.drop_length]
    rfl
  · have hkb : k = b.length := by omega
    rw [if_neg (by omega), if_pos (by omega), hkb, List.drop_length, List.drop_eq_getElem_cons (by omega)]
    rfl

theorem orderBytes_eq (a b : List UInt8) (ha : a.length ≤ 1099511627776) : r01_OrderBytes a b = some (cmpB a b) := by
  have key : ∃ x, loopO (fun (v : Int) => r01_OrderBytes_b1 a b v) 0 = some x ∧ ((x = .inl () ∧ cmpB a b = cmpI (a.length : Int) (b.length : Int)) ∨ (x = .inr (.inr (cmpB a b)))) := by
    refine loopO_rule (f := fun (v : Int) => r01_OrderBytes_b1 a b v) (fun i => ∃ k : Nat, i = (k : Int) ∧ k ≤ a.length ∧ k ≤ b.length ∧ cmpB a b = cmpB (a.drop k) (b.drop k)) (fun i => a.length - i.toNat) _ ?_ ⟨0, rfl, by simp, by simp, rfl⟩ (by omega)
    rintro _ ⟨k, rfl, hka, hkb, he⟩
    show _ ∨ _
    unfold r01_OrderBytes_b1
    by_cases h : k < a.length ∧ k < b.length
    · have hc : (if decide ((k : Int) < (a.length : Int)) = true then some (decide ((k : Int) < (b.length : Int))) else some false : Option Bool) = some true := by
        rw [if_pos (by simp; omega)]; simp; omega
      have r1 : InR (k : Int) a.length := ⟨by omega, by omega⟩
      have r2 : InR (k : Int) b.length := ⟨by omega, by omega⟩
      rw [cmpB_drop h.1 h.2] at he
      by_cases hxy : nth a k = nth b k
      · left
        rw [if_pos hxy] at he
        refine ⟨_, (e_bindT hc).trans ?_, ⟨k + 1, rfl, by omega, by omega, he⟩, ?_⟩
        · rw [if_pos rfl, if_pos r1, if_pos r2, if_neg (by simp [hxy]), e_succ (by omega)]
        · simp only [Int.toNat_natCast]; omega
      · right
        rw [if_neg hxy] at he
        refine ⟨_, (e_bindT hc).trans ?_, .inr rfl⟩
        rw [if_pos rfl, if_pos r1, if_pos r2, if_pos (by simpa using hxy), if_pos r1, if_pos r2, Int.toNat_natCast, order_eq]
        have hne : nth b k ≠ nth a k := fun e => hxy e.symm
        have : cmpI ((nth a k).toNat : Int) ((nth b k).toNat : Int) = cmpB a b := by
          rw [he]
          unfold cmpI
          by_cases hlt : nth a k < nth b k
          · rw [if_pos hlt, if_pos (by rw [u8_lt_int]; exact hlt)]
          · have : nth b k < nth a k := by
              rw [UInt8.lt_iff_toNat_lt] at hlt ⊢
              have : (nth a k).toNat ≠ (nth b k).toNat := fun e => hxy (UInt8.toNat_inj.1 e)
              omega
            rw [if_neg hlt, if_neg (by rw [u8_lt_int]; exact hlt), if_pos (by rw [u8_lt_int]; exact this)]
        rw [this]; rfl
    · right
      have hc : (if decide ((k : Int) < (a.length : Int)) = true then some (decide ((k : Int) < (b.length : Int))) else some false : Option Bool) = some false := by
        by_cases hk : k < a.length
        · rw [if_pos (by simp; omega)]; simp; omega
        · rw [if_neg (by simp; omega)]
      refine ⟨_, (e_bindT hc).trans ?_, .inl ⟨rfl, ?_⟩⟩
      · rw [if_neg (by simp)]
      · rw [he]; exact cmpB_end hka hkb h
  obtain ⟨x, hx, hq⟩ := key
  unfold r01_OrderBytes
  rcases hq with ⟨rfl, he⟩ | rfl
  · refine (e_bindT (a := .inl ()) ((e_bindT hx).trans rfl)).trans ?_
    rw [he]
    exact e_bindT (order_eq _ _)
  · exact (e_bindT (a := .inr (cmpB a b)) ((e_bindT hx).trans rfl)).trans rfl

theorem cmpI_refl (a : Int) : cmpI a a = 0 := by simp [cmpI]
theorem cmpI_anti (a b : Int) : cmpI b a = - cmpI a b := by
  unfold cmpI
  rcases Int.lt_trichotomy a b with h | h | h
  · rw [if_neg (by omega), if_pos h, if_pos h]; rfl
  · subst h; simp
  · rw [if_pos h, if_neg (by omega), if_pos h]
def cmpU (x y : UInt8) : Int := cmpI (x.toNat : Int) (y.toNat : Int)
theorem cmpB_cons (x y : UInt8) (l m : List UInt8) : cmpB (x :: l) (y :: m) = if cmpU x y ≠ 0 then cmpU x y else cmpB l m := by
  rw [cmpB]
  by_cases h : x = y
  · subst h
    have : cmpU x x = 0 := cmpI_refl _
    rw [this, if_pos rfl, if_neg (by simp)]
  · by_cases h2 : x < y
    · have : cmpU x y = -1 := if_pos (by rw [u8_lt_int]; exact h2)
      rw [this, if_neg h, if_pos h2, if_pos (by decide)]
    · have h3 : y < x := by
        rw [UInt8.lt_iff_toNat_lt] at h2 ⊢
        have : x.toNat ≠ y.toNat := fun e => h (UInt8.toNat_inj.1 e)
        omega
      have : cmpU x y = 1 := (if_neg (by rw [u8_lt_int]; exact h2)).trans (if_pos (by rw [u8_lt_int]; exact h3))
      rw [this, if_neg h, if_neg h2, if_pos (by decide)]


theorem cmpB_anti : ∀ a b : List UInt8, cmpB b a = - cmpB a b
  | [], [] => rfl
  | [], _ :: _ => rfl
  | _ :: _, [] => rfl
  | x :: l, y :: m => by
    rw [cmpB_cons, cmpB_cons, show cmpU y x = - cmpU x y from cmpI_anti _ _, cmpB_anti l m]
    by_cases h : cmpU x y = 0
    · simp [h]
    · have : - cmpU x y ≠ 0 := by omega
      rw [if_pos this, if_pos h]
theorem revInd {α : Type} {p : List α → Prop} (h0 : p []) (hs : ∀ l c, p l → p (l ++ [c])) (l : List α) : p l := by
  have : ∀ l : List α, p l.reverse := by
    intro l
    induction l with
    | nil => exact h0
    | cons c l ih => rw [List.reverse_cons]; exact hs _ _ ih
  simpa using this l.reverse

/-- k digits, the greatest first. -/
def dig : Nat → Nat → List UInt8
  | 0, _ => []
  | k + 1, u => dig k (u / 256) ++ [UInt8.ofNat u]
def valD (l : List UInt8) : Nat := l.foldl (fun a c => a * 256 + c.toNat) 0

theorem dig_len : ∀ k u, (dig k u).length = k
  | 0, _ => rfl
  | k + 1, u => by simp [dig, dig_len k]
theorem valD_app (l : List UInt8) (c : UInt8) : valD (l ++ [c]) = valD l * 256 + c.toNat := by simp [valD]
theorem toNat_ofNat8 (u : Nat) : (UInt8.ofNat u).toNat = u % 256 := by simp
theorem valD_dig : ∀ k u, u < 256 ^ k → valD (dig k u) = u
  | 0, u, h => by have : u = 0 := by simpa using h
                  subst this; rfl
  | k + 1, u, h => by
    rw [dig, valD_app, valD_dig k (u / 256) (by rw [Nat.pow_succ] at h; exact Nat.div_lt_of_lt_mul (by rw [Nat.mul_comm]; exact h)), toNat_ofNat8]
    omega
theorem valD_lt (l : List UInt8) : valD l < 256 ^ l.length := by
  refine revInd (p := fun l => valD l < 256 ^ l.length) (by simp [valD]) (fun l c ih => ?_) l
  · rw [valD_app, List.length_append, List.length_singleton, Nat.pow_succ]
    have := c.toNat_lt
    omega
theorem dig_valD (l : List UInt8) : dig l.length (valD l) = l := by
  refine revInd (p := fun l => dig l.length (valD l) = l) rfl (fun l c ih => ?_) l
  · rw [valD_app, List.length_append, List.length_singleton, dig]
    have hc := c.toNat_lt
    have e1 : (valD l * 256 + c.toNat) / 256 = valD l := by omega
    have e2 : UInt8.ofNat (valD l * 256 + c.toNat) = c := by
      apply UInt8.toNat_inj.1
      rw [toNat_ofNat8]; omega
    rw [e1, e2, ih]

def magI (n : Int) : Nat := if n < 0 then (-(n + 1)).toNat else n.toNat
theorem magI_lt {n : Int} (h : rangeI n) : magI n < 9223372036854775808 := by
  unfold magI; obtain ⟨h1, h2⟩ := h; split <;> omega
theorem u64_of (n : Int) : ((UInt64.ofInt n).toNat : Int) = n % 18446744073709551616 := by rw [UInt64.ofInt, UInt64.toNat_ofNat']; omega
theorem u64_not (x : UInt64) : (~~~x).toNat = 18446744073709551615 - x.toNat := by rw [UInt64.toNat_not]; rfl
theorem magU {n : Int} (h : rangeI n) : (if n < 0 then (~~~(UInt64.ofInt n)).toNat else (UInt64.ofInt n).toNat) = magI n := by
  obtain ⟨h1, h2⟩ := h
  unfold magI
  by_cases hn : n < 0
  · rw [if_pos hn, if_pos hn, u64_not]
    have := u64_of n
    omega
  · rw [if_neg hn, if_neg hn]
    have := u64_of n
    omega
theorem nbI_mag {n : Int} (h : rangeI n) : nbI n = nb (magI n) := by
  have := magU h
  unfold nbI
  by_cases hn : n < 0
  · rw [if_pos hn] at this ⊢; rw [this]
  · rw [if_neg hn] at this ⊢; rw [this]

theorem dig_get : ∀ (k u i : Nat), i < k → (dig k u)[i]? = some (UInt8.ofNat (u / 256 ^ (k - 1 - i)))
  | 0, _, _, h => absurd h (Nat.not_lt_zero _)
  | k + 1, u, i, h => by
    rw [dig]
    by_cases hi : i < k
    · rw [List.getElem?_append_left (by rw [dig_len]; exact hi), dig_get k (u / 256) i hi, Nat.div_div_eq_div_mul]
      have : k + 1 - 1 - i = (k - 1 - i) + 1 := by omega
      rw [this, Nat.pow_succ, Nat.mul_comm]
    · have : i = k := by omega
      subst this
      rw [List.getElem?_append_right (by rw [dig_len]; exact Nat.le_refl _), dig_len]
      simp

theorem pow2_256 (j : Nat) : 2 ^ (8 * j) = 256 ^ j := by rw [Nat.pow_mul]

def flip8 (n : Int) (c : UInt8) : UInt8 := if n < 0 then ~~~c else c
theorem not8 (c : UInt8) : (~~~c).toNat = 255 - c.toNat := by rw [UInt8.toNat_not]; rfl

theorem byteI_eq {n : Int} (h : rangeI n) {k i : Nat} (hk : k ≤ 8) (hi : i < k) : byteI n k i = flip8 n (UInt8.ofNat (magI n / 256 ^ (k - 1 - i))) := by
  have hm := magI_lt h
  have hu := magU h
  apply UInt8.toNat_inj.1
  unfold byteI flip8
  rw [UInt64.toNat_toUInt8, e_shr64, pow2_256]
  generalize hj : k - 1 - i = j
  have hj8 : j < 8 := by omega
  by_cases hn : n < 0
  · rw [if_pos hn] at hu ⊢
    rw [u64_not] at hu
    rw [not8, toNat_ofNat8]
    have hlt := (UInt64.ofInt n).toNat_lt
    generalize (UInt64.ofInt n).toNat = U at *
    generalize magI n = m at *
    match j, hj8 with
    | 0, _ => simp; omega
    | 1, _ => simp; omega
    | 2, _ => simp; omega
    | 3, _ => simp; omega
    | 4, _ => simp; omega
    | 5, _ => simp; omega
    | 6, _ => simp; omega
    | 7, _ => simp; omega
  · rw [if_neg hn] at hu ⊢
    rw [toNat_ofNat8, hu]

theorem encI_eq {n : Int} (h : rangeI n) : encI n = tagI n :: (dig (nb (magI n)) (magI n)).map (flip8 n) := by
  unfold encI
  rw [nbI_mag h]
  congr 1
  refine List.ext_getElem? fun i => ?_
  by_cases hi : i < nb (magI n)
  · rw [List.getElem?_map, List.getElem?_map, List.getElem?_range hi, dig_get _ _ _ hi]
    simp only [Option.map_some]
    rw [byteI_eq h (nb_le _) hi]
  · rw [List.getElem?_eq_none (by simp; omega), List.getElem?_eq_none (by simp [dig_len]; omega)]

theorem nb_lt (u : Nat) (h : u < 256 ^ 8) : u < 256 ^ nb u := by
  unfold nb
  have key : ∀ f u, u < 256 ^ f → u < 256 ^ nbF f u := by
    intro f
    induction f with
    | zero => intro u h; simpa [nbF] using h
    | succ f ih =>
      intro u h
      unfold nbF
      split
      · rename_i e; subst e; simp
      · rename_i e
        have := ih (u / 256) (by rw [Nat.pow_succ] at h; exact Nat.div_lt_of_lt_mul (by rw [Nat.mul_comm]; exact h))
        rw [Nat.pow_succ]
        omega
  exact key 8 u h
theorem nb_ge (u : Nat) (h : u < 256 ^ 8) (h0 : u ≠ 0) : 256 ^ (nb u - 1) ≤ u := by
  unfold nb
  have key : ∀ f u, u < 256 ^ f → u ≠ 0 → 256 ^ (nbF f u - 1) ≤ u ∧ 0 < nbF f u := by
    intro f
    induction f with
    | zero => intro u h h0; exact absurd (by simpa using h) h0
    | succ f ih =>
      intro u h h0
      unfold nbF
      rw [if_neg h0]
      by_cases h1 : u / 256 = 0
      · have : nbF f (u / 256) = 0 := by
          rw [h1]
          cases f with
          | zero => rfl
          | succ f => simp [nbF]
        rw [this]
        simp; omega
      · obtain ⟨i1, i2⟩ := ih (u / 256) (by rw [Nat.pow_succ] at h; exact Nat.div_lt_of_lt_mul (by rw [Nat.mul_comm]; exact h)) h1
        obtain ⟨m, hm⟩ : ∃ m, nbF f (u / 256) = m + 1 := ⟨nbF f (u / 256) - 1, by omega⟩
        rw [hm] at i1 ⊢
        simp only [Nat.add_sub_cancel] at i1 ⊢
        refine ⟨?_, by omega⟩
        rw [Nat.pow_succ]; omega
  exact (key 8 u h h0).1
theorem tagI_eq {n : Int} (h : rangeI n) : tagI n = if n < 0 then UInt8.ofInt (31 - (nb (magI n) : Int)) else UInt8.ofInt (32 + (nb (magI n) : Int)) := by
  unfold tagI
  rw [nbI_mag h]

theorem shpV_eq (v : Api_Value) : shpV v = if v.Kind = 1 then (0, v.B.length == 0 && v.L.length == 0) else if v.Kind = 2 then (0, v.N == 0 && v.L.length == 0) else if v.Kind = 3 then (if v.N = 0 ∧ v.B.length = 0 then shpL 0 v.L else (0, false)) else (0, false) := by
  cases v with
  | mk k n b l => unfold shpV; rfl
theorem shpL_all : ∀ (l : List Api_Value) (d : Int), (shpL d l).2 = l.all fun x => (shpV x).2
  | [], d => by rw [shpL_nil]; rfl
  | x :: l, d => by
    rw [shpL_cons, List.all_cons]
    cases h : (shpV x).2
    · rw [if_neg (by simp)]; rfl
    · rw [if_pos rfl, shpL_all l]; rfl

mutual
def nestV : Api_Value → Int
  | .mk k n b l => if k = 3 then nestL 0 l + 1 else nestL 0 l
def nestL (d : Int) : List Api_Value → Int
  | [] => d
  | x :: l => nestL (mx64 d (nestV x)) l
end
theorem nestV_eq (v : Api_Value) : nestV v = if v.Kind = 3 then nestL 0 v.L + 1 else nestL 0 v.L := by
  cases v with
  | mk k n b l => rw [nestV]; rfl
mutual
theorem nestV_le : ∀ v : Api_Value, 0 ≤ nestV v ∧ nestV v ≤ szV v
  | .mk k n b l => by
    have h := nestL_le 0 l
    rw [nestV, szV]
    split <;> omega
theorem nestL_le : ∀ (d : Int) (l : List Api_Value), 0 ≤ d → 0 ≤ nestL d l ∧ nestL d l ≤ max d (szVs l)
  | d, [] => by intro h; rw [nestL]; omega
  | d, x :: l => by
    intro h
    have h1 := nestV_le x
    have hm : 0 ≤ mx64 d (nestV x) ∧ mx64 d (nestV x) ≤ max d (szV x) := by unfold mx64; split <;> omega
    have h2 := nestL_le (mx64 d (nestV x)) l hm.1
    rw [nestL, szVs]
    omega
end
theorem nestL_drop {d : Int} {l : List Api_Value} {k : Nat} (h : k < l.length) : nestL d (l.drop k) = nestL (mx64 d (nestV (nth l k))) (l.drop (k + 1)) := by
  rw [List.drop_eq_getElem_cons h, nestL, nth_lt h]

theorem nestR_n : ∀ (n : Nat) (v : Api_Value), szV v < n → szV v ≤ 1099511627776 → r01_Nesting_n n v = some (nestV v)
  | 0, v, h, _ => absurd h (Nat.not_lt_zero _)
  | n + 1, v, h, hs => by
    show r01_Nesting_F (r01_Nesting_n n) v = _
    have hsz := szV_eq v
    have hlen := szVs_len v.L
    have hr : ∀ x ∈ v.L, r01_Nesting_n n x = some (nestV x) := fun y hy => nestR_n n y (by have := szVs_mem hy; omega) (by have := szVs_mem hy; omega)
    have key : ∃ x, loopO (fun (s : Int × Int) => r01_Nesting_b1 v (r01_Nesting_n n) s.1 s.2) (0, 0) = some x ∧ x = nestL 0 v.L := by
      refine loopO_rule (f := fun (s : Int × Int) => r01_Nesting_b1 v (r01_Nesting_n n) s.1 s.2) (fun s => ∃ k : Nat, s.2 = (k : Int) ∧ k ≤ v.L.length ∧ nestL 0 v.L = nestL s.1 (v.L.drop k)) (fun s => v.L.length - s.2.toNat) _ ?_ ⟨0, rfl, Nat.zero_le _, rfl⟩ (by omega)
      rintro ⟨d, t⟩ ⟨k, ht, hk, he⟩
      simp only at ht he
      subst ht
      show _ ∨ _
      simp only
      unfold r01_Nesting_b1
      by_cases h : k < v.L.length
      · left
        rw [if_pos (by simp; omega), if_pos (show InR (k : Int) v.L.length from ⟨by omega, by omega⟩), Int.toNat_natCast, hr _ (by rw [nth_lt h]; exact List.getElem_mem h), e_succ (by omega)]
        rw [nestL_drop h] at he
        refine ⟨_, rfl, ⟨k + 1, rfl, h, he⟩, ?_⟩
        simp only [Int.toNat_natCast]; omega
      · right
        rw [if_neg (by simp; omega)]
        have : k = v.L.length := by omega
        subst this
        refine ⟨_, rfl, ?_⟩
        rw [he, List.drop_length, nestL]
    obtain ⟨x, hx, rfl⟩ := key
    unfold r01_Nesting_F
    refine (e_bindT (e_bindT hx)).trans ?_
    have hn := nestL_le 0 v.L (by omega)
    rw [nestV_eq]
    by_cases k3 : v.Kind = 3
    · rw [if_pos (show (v.Kind == 3) = true by simp [k3]), if_pos k3, w64_id (by omega)]
    · rw [if_neg (show ¬ (v.Kind == 3) = true by simp [k3]), if_neg k3]
theorem nestR_eq (v : Api_Value) (h : szV v ≤ 100000000000) : r01_Nesting v = some (nestV v) := nestR_n _ v (by omega) (by omega)

mutual
theorem nest_shp : ∀ v : Api_Value, (shpV v).2 = true → nestV v = (shpV v).1
  | .mk k n b l => by
    intro h
    rw [shpV] at h ⊢
    rw [nestV]
    by_cases k1 : k = 1
    · rw [if_pos k1] at h ⊢
      have hl : l.length = 0 := by simp at h; simp [h.2]
      have : l = [] := List.length_eq_zero_iff.1 hl
      subst this
      rw [if_neg (by omega), nestL]
    · rw [if_neg k1] at h ⊢
      by_cases k2 : k = 2
      · rw [if_pos k2] at h ⊢
        have hl : l.length = 0 := by simp at h; simp [h.2]
        have : l = [] := List.length_eq_zero_iff.1 hl
        subst this
        rw [if_neg (by omega), nestL]
      · rw [if_neg k2] at h ⊢
        by_cases k3 : k = 3
        · rw [if_pos k3] at h ⊢
          rw [if_pos k3]
          by_cases hc : n = 0 ∧ b.length = 0
          · rw [if_pos hc] at h ⊢
            exact nest_shpL l 0 h
          · rw [if_neg hc] at h; cases h
        · rw [if_neg k3] at h; cases h
theorem nest_shpL : ∀ (l : List Api_Value) (d : Int), (shpL d l).2 = true → nestL d l + 1 = (shpL d l).1
  | [], d => by intro _; rw [shpL_nil, nestL]
  | x :: l, d => by
    intro h
    rw [shpL_cons] at h ⊢
    by_cases hx : (shpV x).2 = true
    · rw [if_pos hx] at h ⊢
      rw [nestL, nest_shp x hx]
      exact nest_shpL l _ h
    · rw [if_neg hx] at h; cases h
end
theorem cmpB_zero (a b : List UInt8) : cmpB a b = 0 ↔ a = b := by
  constructor
  · intro h
    induction a generalizing b with
    | nil => cases b with
      | nil => rfl
      | cons y m => cases h
    | cons x l ih => cases b with
      | nil => cases h
      | cons y m =>
        rw [cmpB] at h
        by_cases hxy : x = y
        · rw [if_pos hxy] at h
          rw [hxy, ih m h]
        · rw [if_neg hxy] at h
          split at h <;> cases h
  · rintro rfl
    have := cmpB_anti a a
    omega
abbrev DRes := (Api_Value × List UInt8) ⊕ Int
def vInt (n : Int) : Api_Value := .mk 1 n [] []
def vText (b : List UInt8) : Api_Value := .mk 2 0 b []
def vList (l : List Api_Value) : Api_Value := .mk 3 0 [] l
def vZero : Api_Value := .mk 0 0 [] []

def rdT : List UInt8 → List UInt8 → DRes
  | acc, [] => .inr 5
  | acc, [c] => .inr 5
  | acc, c :: d :: b => if c ≠ 0 then rdT (acc ++ [c]) (d :: b) else if d = 0 then .inl (vText acc, b) else if d = 255 then rdT (acc ++ [0]) b else .inr 4

def rdN (k : Nat) (fl : Bool) : Nat → Nat → List UInt8 → (Nat × List UInt8) ⊕ Int
  | 0, u, b => .inl (u, b)
  | m + 1, u, [] => .inr 5
  | m + 1, u, c :: b => if k = m + 1 ∧ ((if fl then ~~~c else c) = 0 ∨ (k = 8 ∧ (if fl then ~~~c else c) > 127)) then .inr 4 else rdN k fl m (u * 256 + (if fl then ~~~c else c).toNat) b

def isInt (t : UInt8) : Prop := 23 ≤ t.toNat ∧ t.toNat ≤ 40
def kOf (t : UInt8) : Nat := if t.toNat < 32 then 31 - t.toNat else t.toNat - 32
def negOf (t : UInt8) : Bool := decide (t.toNat < 32)
def rdI (t : UInt8) (b : List UInt8) : DRes := match rdN (kOf t) (negOf t) (kOf t) 0 b with
  | .inl (u, r) => .inl (vInt (if negOf t = true then -(u : Int) - 1 else (u : Int)), r)
  | .inr e => .inr e

inductive Rd : UInt8 ⊕ List Api_Value → List UInt8 → DRes → Prop
  | int (t b) (h : isInt t) : Rd (.inl t) b (rdI t b)
  | text (b) : Rd (.inl 48) b (rdT [] b)
  | lst (b o) (h : Rd (.inr []) b o) : Rd (.inl 64) b o
  | bad (t b) (h : ¬ isInt t) (h1 : t ≠ 48) (h2 : t ≠ 64) : Rd (.inl t) b (.inr 4)
  | lend (acc) : Rd (.inr acc) [] (.inr 5)
  | lfin (acc b) : Rd (.inr acc) (0 :: b) (.inl (vList acc, b))
  | lerr (acc c b e) (hc : c ≠ 0) (h : Rd (.inl c) b (.inr e)) : Rd (.inr acc) (c :: b) (.inr e)
  | lstep (acc c b v b' o) (hc : c ≠ 0) (h : Rd (.inl c) b (.inl (v, b'))) (h2 : Rd (.inr (acc ++ [v])) b' o) : Rd (.inr acc) (c :: b) o

theorem rd_det {s : UInt8 ⊕ List Api_Value} {b : List UInt8} {o : DRes} (h : Rd s b o) : ∀ {o' : DRes}, Rd s b o' → o = o' := by
  induction h with
  | int t b h =>
    intro o' h'
    cases h' with
    | int => rfl
    | text => exact absurd h.2 (by decide)
    | lst => exact absurd h.2 (by decide)
    | bad _ _ h1 => exact (h1 h).elim
  | text b =>
    intro o' h'
    cases h' with
    | int _ _ h => exact absurd h.2 (by decide)
    | text => rfl
    | bad _ _ _ h1 => exact (h1 rfl).elim
  | lst b o h ih =>
    intro o' h'
    cases h' with
    | int _ _ h => exact absurd h.2 (by decide)
    | lst _ _ h2 => exact ih h2
    | bad _ _ _ _ h2 => exact (h2 rfl).elim
  | bad t b h h1 h2 =>
    intro o' h'
    cases h' with
    | int _ _ h' => exact (h h').elim
    | text => exact (h1 rfl).elim
    | lst => exact (h2 rfl).elim
    | bad => rfl
  | lend acc => intro o' h'; cases h'; rfl
  | lfin acc b =>
    intro o' h'
    cases h' with
    | lfin => rfl
    | lerr _ _ _ _ hc => exact (hc rfl).elim
    | lstep _ _ _ _ _ _ hc => exact (hc rfl).elim
  | lerr acc c b e hc h ih =>
    intro o' h'
    cases h' with
    | lfin => exact (hc rfl).elim
    | lerr _ _ _ _ _ h2 => exact congrArg _ (Sum.inr.inj (ih h2))
    | lstep _ _ _ _ _ _ _ h2 => cases ih h2
  | lstep acc c b v b' o hc h h2 ih ih2 =>
    intro o' h'
    cases h' with
    | lfin => exact (hc rfl).elim
    | lerr _ _ _ _ _ h3 => cases ih h3
    | lstep _ _ _ _ _ _ _ h3 h4 => cases ih h3; exact ih2 h4

theorem rdT_cons {acc : List UInt8} {c : UInt8} {b : List UInt8} (hc : c ≠ 0) : rdT acc (c :: b) = rdT (acc ++ [c]) b := by
  cases b with
  | nil => simp [rdT]
  | cons d b => rw [rdT, if_pos hc]
theorem rdT_esc : ∀ (a acc r : List UInt8), rdT acc (escB a ++ 0 :: 0 :: r) = .inl (vText (acc ++ a), r)
  | [], acc, r => by simp [escB, rdT]
  | c :: a, acc, r => by
    by_cases hc : c = 0
    · subst hc
      rw [escB, if_pos rfl]
      show rdT acc (0 :: 255 :: (escB a ++ 0 :: 0 :: r)) = _
      rw [rdT, if_neg (by simp), if_neg (by decide), if_pos rfl, rdT_esc a (acc ++ [0]) r]
      simp
    · rw [escB, if_neg hc]
      show rdT acc (c :: (escB a ++ 0 :: 0 :: r)) = _
      rw [rdT_cons hc, rdT_esc a (acc ++ [c]) r]
      simp
theorem rdT_inv : ∀ (acc b : List UInt8) {v : Api_Value} {r : List UInt8}, rdT acc b = .inl (v, r) → ∃ a, v = vText (acc ++ a) ∧ b = escB a ++ 0 :: 0 :: r
  | acc, [], v, r, h => by simp [rdT] at h
  | acc, [c], v, r, h => by simp [rdT] at h
  | acc, c :: d :: b, v, r, h => by
    rw [rdT] at h
    by_cases hc : c = 0
    · rw [if_neg (by simp [hc])] at h
      by_cases hd : d = 0
      · rw [if_pos hd] at h
        cases h
        exact ⟨[], by simp, by simp [escB, hc, hd]⟩
      · rw [if_neg hd] at h
        by_cases hd2 : d = 255
        · rw [if_pos hd2] at h
          obtain ⟨a, e1, e2⟩ := rdT_inv _ b h
          exact ⟨0 :: a, by rw [e1]; simp, by simp [escB, hc, hd2, e2]⟩
        · rw [if_neg hd2] at h; cases h
    · rw [if_pos hc] at h
      obtain ⟨a, e1, e2⟩ := rdT_inv _ (d :: b) h
      exact ⟨c :: a, by rw [e1]; simp, by simp [escB, hc, e2]⟩
theorem rdT_pre : ∀ (a acc p : List UInt8), p.length < (escB a).length + 2 → p <+: escB a ++ [0, 0] → rdT acc p = .inr 5
  | a, acc, [], _, _ => by simp [rdT]
  | a, acc, [c], _, _ => by simp [rdT]
  | [], acc, c :: d :: p, hl, _ => by
    simp only [escB, List.length_cons, List.length_nil] at hl
    omega
  | x :: a, acc, c :: d :: p, hl, hp => by
    by_cases hx : x = 0
    · subst hx
      rw [escB, if_pos rfl] at hl hp
      simp only [List.cons_append, List.cons_prefix_cons] at hp
      obtain ⟨rfl, rfl, hp⟩ := hp
      rw [rdT, if_neg (by simp), if_neg (by decide), if_pos rfl]
      exact rdT_pre a _ p (by simp at hl; omega) hp
    · rw [escB, if_neg hx] at hl hp
      simp only [List.cons_append, List.cons_prefix_cons] at hp
      obtain ⟨rfl, hp⟩ := hp
      rw [rdT, if_pos hx]
      exact rdT_pre a _ (d :: p) (by simp at hl ⊢; omega) hp

def fl8 (fl : Bool) (c : UInt8) : UInt8 := if fl then ~~~c else c
theorem fl8_fl8 (fl : Bool) (c : UInt8) : fl8 fl (fl8 fl c) = c := by cases fl <;> simp [fl8]
theorem rdN_cons {k : Nat} {fl : Bool} {m u : Nat} {c : UInt8} {b : List UInt8} : rdN k fl (m + 1) u (c :: b) = if k = m + 1 ∧ (fl8 fl c = 0 ∨ (k = 8 ∧ fl8 fl c > 127)) then .inr 4 else rdN k fl m (u * 256 + (fl8 fl c).toNat) b := rfl
theorem valF (u : Nat) : ∀ d : List UInt8, d.foldl (fun a c => a * 256 + c.toNat) u = u * 256 ^ d.length + valD d := by
  intro d
  refine revInd (p := fun d => d.foldl (fun a c => a * 256 + c.toNat) u = u * 256 ^ d.length + valD d) (by simp [valD]) (fun l c ih => ?_) d
  rw [List.foldl_append, List.foldl_cons, List.foldl_nil, ih, valD_app, List.length_append, List.length_singleton, Nat.pow_succ]
  have : u * (256 ^ l.length * 256) = u * 256 ^ l.length * 256 := by rw [Nat.mul_assoc]
  omega
/-- The digits read. -/
theorem rdN_run {k : Nat} {fl : Bool} : ∀ (d : List UInt8) (u : Nat) (r : List UInt8), (d.length = k → ∀ c t, d = c :: t → ¬ (c = 0 ∨ (k = 8 ∧ c > 127))) → d.length ≤ k →
    rdN k fl d.length u (d.map (fl8 fl) ++ r) = .inl (d.foldl (fun a c => a * 256 + c.toNat) u, r)
  | [], u, r, _, _ => rfl
  | c :: d, u, r, h, hk => by
    show rdN k fl (d.length + 1) u (fl8 fl c :: (d.map (fl8 fl) ++ r)) = _
    rw [rdN_cons, fl8_fl8, if_neg (fun hh => h (by simpa using hh.1.symm) c d rfl hh.2), rdN_run d _ r (fun e => by simp at hk; omega) (by simp at hk; omega)]
    rfl
theorem rdN_inv {k : Nat} {fl : Bool} : ∀ (m u : Nat) (b : List UInt8) {x : Nat} {r : List UInt8}, rdN k fl m u b = .inl (x, r) →
    ∃ d : List UInt8, d.length = m ∧ b = d.map (fl8 fl) ++ r ∧ x = d.foldl (fun a c => a * 256 + c.toNat) u ∧ (k = m → ∀ c t, d = c :: t → ¬ (c = 0 ∨ (k = 8 ∧ c > 127)))
  | 0, u, b, x, r, h => by
    cases h
    exact ⟨[], rfl, rfl, rfl, fun _ c t e => by cases e⟩
  | m + 1, u, [], x, r, h => by cases h
  | m + 1, u, c :: b, x, r, h => by
    rw [rdN_cons] at h
    split at h
    · cases h
    · rename_i hc
      obtain ⟨d, e1, e2, e3, e4⟩ := rdN_inv m _ b h
      refine ⟨fl8 fl c :: d, by simp [e1], by simp [e2, fl8_fl8], by simp [e3], fun hk c' t e => ?_⟩
      cases e
      exact fun hh => hc ⟨hk, hh⟩
theorem rdN_pre {k : Nat} {fl : Bool} : ∀ (d : List UInt8) (u : Nat) (p : List UInt8), (d.length = k → ∀ c t, d = c :: t → ¬ (c = 0 ∨ (k = 8 ∧ c > 127))) → d.length ≤ k → p.length < d.length → p <+: d.map (fl8 fl) → rdN k fl d.length u p = .inr 5
  | [], u, p, _, _, hl, _ => by simp at hl
  | c :: d, u, [], _, _, _, _ => rfl
  | c :: d, u, x :: p, h, hk, hl, hp => by
    simp only [List.map_cons, List.cons_prefix_cons] at hp
    obtain ⟨rfl, hp⟩ := hp
    show rdN k fl (d.length + 1) u (fl8 fl c :: p) = _
    rw [rdN_cons, fl8_fl8, if_neg (fun hh => h (by simpa using hh.1.symm) c d rfl hh.2)]
    exact rdN_pre d _ p (fun e => by simp at hk; omega) (by simp at hk; omega) (by simpa using hl) hp
theorem tag_nat {n : Int} (h : rangeI n) : (tagI n).toNat = if n < 0 then 31 - nb (magI n) else 32 + nb (magI n) := by
  have h8 := nb_le (magI n)
  rw [tagI_eq h]
  by_cases hn : n < 0
  · rw [if_pos hn, if_pos hn, UInt8.ofInt, UInt8.toNat_ofNat']; omega
  · rw [if_neg hn, if_neg hn, UInt8.ofInt, UInt8.toNat_ofNat']; omega
theorem tag_int {n : Int} (h : rangeI n) : isInt (tagI n) ∧ kOf (tagI n) = nb (magI n) ∧ negOf (tagI n) = decide (n < 0) := by
  have h8 := nb_le (magI n)
  have ht := tag_nat h
  unfold isInt kOf negOf
  by_cases hn : n < 0
  · rw [if_pos hn] at ht
    rw [ht]
    refine ⟨by omega, ?_, ?_⟩
    · rw [if_pos (by omega)]; omega
    · simp [hn]; omega
  · rw [if_neg hn] at ht
    rw [ht]
    refine ⟨by omega, ?_, ?_⟩
    · rw [if_neg (by omega)]; omega
    · simp [hn]
theorem magI_back {n : Int} : (if n < 0 then -((magI n : Nat) : Int) - 1 else ((magI n : Nat) : Int)) = n := by
  unfold magI
  by_cases hn : n < 0
  · rw [if_pos hn, if_pos hn]; omega
  · rw [if_neg hn, if_neg hn]; omega
theorem flip_fl (n : Int) : flip8 n = fl8 (decide (n < 0)) := by
  funext c
  unfold flip8 fl8
  by_cases hn : n < 0 <;> simp [hn]

/-- The first digit of a number of so many digits is not 0, and below 128 if there are eight. -/
theorem dig_head {u : Nat} (hu : u < 9223372036854775808) {c : UInt8} {t : List UInt8} (h : dig (nb u) u = c :: t) : ¬ (c = 0 ∨ (nb u = 8 ∧ c > 127)) := by
  have hu8 : u < 256 ^ 8 := Nat.lt_trans hu (by decide)
  have hl := dig_len (nb u) u
  rw [h, List.length_cons] at hl
  have hv := valD_dig (nb u) u (nb_lt u hu8)
  rw [h] at hv
  have e : valD (c :: t) = c.toNat * 256 ^ t.length + valD t := by
    unfold valD
    rw [List.foldl_cons, valF]
    simp [valD]
  rw [e] at hv
  have hvt := valD_lt t
  have h0 : u ≠ 0 := fun e => by rw [e, nb_zero] at hl; omega
  have hge := nb_ge u hu8 h0
  rw [show nb u - 1 = t.length by omega] at hge
  rintro (rfl | ⟨h8, hc⟩)
  · simp at hv; omega
  · rw [h8] at hl
    have ht : t.length = 7 := by omega
    rw [ht] at hv
    have : c.toNat > 127 := by rw [gt_iff_lt, UInt8.lt_iff_toNat_lt] at hc; exact hc
    have h7 : (256 : Nat) ^ 7 = 72057594037927936 := by decide
    rw [h7] at hv
    omega

theorem rdI_enc {n : Int} (h : rangeI n) (r : List UInt8) : rdI (tagI n) ((dig (nb (magI n)) (magI n)).map (flip8 n) ++ r) = .inl (vInt n, r) := by
  obtain ⟨_, hk, hn⟩ := tag_int h
  have hm := magI_lt h
  unfold rdI
  rw [hk, hn, flip_fl]
  have := rdN_run (k := nb (magI n)) (fl := decide (n < 0)) (dig (nb (magI n)) (magI n)) 0 r (fun _ c t e => dig_head hm e) (by rw [dig_len]; exact Nat.le_refl _)
  rw [dig_len] at this
  rw [this]
  simp only
  rw [valF, Nat.zero_mul, Nat.zero_add, valD_dig _ _ (nb_lt _ (Nat.lt_trans hm (by decide)))]
  have hb := magI_back (n := n)
  by_cases hn0 : n < 0
  · rw [if_pos hn0] at hb; simp [hn0, hb]
  · rw [if_neg hn0] at hb; simp [hn0, hb]

theorem rdI_pre {n : Int} (h : rangeI n) {p : List UInt8} (hl : p.length < nb (magI n)) (hp : p <+: (dig (nb (magI n)) (magI n)).map (flip8 n)) : rdI (tagI n) p = .inr 5 := by
  obtain ⟨_, hk, hn⟩ := tag_int h
  have hm := magI_lt h
  unfold rdI
  rw [hk, hn]
  rw [flip_fl] at hp
  have := rdN_pre (k := nb (magI n)) (fl := decide (n < 0)) (dig (nb (magI n)) (magI n)) 0 p (fun _ c t e => dig_head hm e) (by rw [dig_len]; exact Nat.le_refl _) (by rw [dig_len]; exact hl) hp
  rw [dig_len] at this
  rw [this]

theorem nb_val {d : List UInt8} (hd : d.length ≤ 8) (h0 : ∀ c t, d = c :: t → c ≠ 0) : nb (valD d) = d.length := by
  have hlt := valD_lt d
  have h8 : valD d < 256 ^ 8 := Nat.lt_of_lt_of_le hlt (Nat.pow_le_pow_right (by decide) hd)
  cases d with
  | nil => rfl
  | cons c t =>
    have hc := h0 c t rfl
    have hc' : c.toNat ≠ 0 := fun e => hc (UInt8.toNat_inj.1 (by rw [e]; rfl))
    have e : valD (c :: t) = c.toNat * 256 ^ t.length + valD t := by
      show List.foldl _ _ _ = _
      rw [List.foldl_cons, valF]
      simp [valD]
    have hge : 256 ^ t.length ≤ valD (c :: t) := by
      rw [e]
      have : 1 * 256 ^ t.length ≤ c.toNat * 256 ^ t.length := Nat.mul_le_mul_right _ (by omega)
      omega
    have h1 := nb_lt _ h8
    have hnz : valD (c :: t) ≠ 0 := by
      have : 0 < 256 ^ t.length := Nat.pow_pos (by decide)
      omega
    have h2 := nb_ge _ h8 hnz
    rw [List.length_cons] at hlt ⊢
    have a1 : t.length < nb (valD (c :: t)) := (Nat.pow_lt_pow_iff_right (by decide : 1 < 256)).1 (Nat.lt_of_le_of_lt hge h1)
    have a2 : nb (valD (c :: t)) - 1 < t.length + 1 := (Nat.pow_lt_pow_iff_right (by decide : 1 < 256)).1 (Nat.lt_of_le_of_lt h2 hlt)
    omega

theorem rdI_inv {t : UInt8} {b r : List UInt8} {v : Api_Value} (ht : isInt t) (h : rdI t b = .inl (v, r)) : ∃ n, rangeI n ∧ v = vInt n ∧ t :: b = encI n ++ r := by
  unfold rdI at h
  have hk : kOf t ≤ 8 := by unfold kOf; obtain ⟨h1, h2⟩ := ht; split <;> omega
  split at h
  case h_2 => cases h
  rename_i u r' hr
  cases h
  obtain ⟨d, hd, hb, hu, hc⟩ := rdN_inv _ _ _ hr
  rw [valF, Nat.zero_mul, Nat.zero_add] at hu
  have hcc := hc rfl
  have hnb : nb (valD d) = d.length := nb_val (by omega) (fun c t e => fun e0 => hcc c t e (.inl e0))
  have hlt := valD_lt d
  have hlt63 : valD d < 9223372036854775808 := by
    rcases Nat.lt_or_ge d.length 8 with h7 | h8
    · have : (256 : Nat) ^ d.length ≤ 256 ^ 7 := Nat.pow_le_pow_right (by decide) (by omega)
      have h7' : (256 : Nat) ^ 7 = 72057594037927936 := by decide
      omega
    · cases d with
      | nil => simp at h8
      | cons c t =>
        have h3 := hcc c t rfl
        have hl : t.length = 7 := by simp at hd h8; omega
        have hcv : ¬ c > 127 := fun hh => h3 (.inr ⟨by simp at hd; omega, hh⟩)
        have hcn : c.toNat ≤ 127 := by
          rw [gt_iff_lt, UInt8.lt_iff_toNat_lt] at hcv
          have : (127 : UInt8).toNat = 127 := rfl
          omega
        have e : valD (c :: t) = c.toNat * 256 ^ t.length + valD t := by
          show List.foldl _ _ _ = _
          rw [List.foldl_cons, valF]
          simp [valD]
        have hvt := valD_lt t
        have h7' : (256 : Nat) ^ 7 = 72057594037927936 := by decide
        rw [hl, h7'] at hvt
        rw [e, hl, h7']
        omega
  subst hu
  have hdd := dig_valD d
  rw [← hnb] at hdd
  by_cases hneg : negOf t = true
  · rw [if_pos hneg] at *
    have h32 : t.toNat < 32 := by simpa [negOf] using hneg
    refine ⟨-(valD d : Int) - 1, ⟨by omega, by omega⟩, rfl, ?_⟩
    have hm : magI (-(valD d : Int) - 1) = valD d := by unfold magI; rw [if_pos (by omega)]; omega
    rw [encI_eq ⟨by omega, by omega⟩, hm, hdd, hb, flip_fl, hneg, List.cons_append]
    have e1 : decide (-(valD d : Int) - 1 < 0) = true := by simp; omega
    rw [e1]
    congr 1
    apply UInt8.toNat_inj.1
    rw [tag_nat ⟨by omega, by omega⟩, if_pos (by omega), hm, hnb, hd]
    unfold kOf
    rw [if_pos h32]
    obtain ⟨q1, q2⟩ := ht
    omega
  · have hneg' : negOf t = false := by simpa using hneg
    rw [if_neg hneg] at *
    have h32 : ¬ t.toNat < 32 := by simpa [negOf] using hneg
    refine ⟨(valD d : Int), ⟨by omega, by omega⟩, rfl, ?_⟩
    have hm : magI (valD d : Int) = valD d := by unfold magI; rw [if_neg (by omega)]; omega
    rw [encI_eq ⟨by omega, by omega⟩, hm, hdd, hb, flip_fl, hneg', List.cons_append]
    have e1 : decide ((valD d : Int) < 0) = false := by simp
    rw [e1]
    congr 1
    apply UInt8.toNat_inj.1
    rw [tag_nat ⟨by omega, by omega⟩, if_neg (by omega), hm, hnb, hd]
    unfold kOf
    rw [if_neg h32]
    obtain ⟨q1, q2⟩ := ht
    omega

def wfV (v : Api_Value) : Prop := (shpV v).2 = true
theorem wf_list {l : List Api_Value} : wfV (vList l) ↔ ∀ x ∈ l, wfV x := by
  unfold wfV vList
  rw [shpV_eq]
  show ((if (3 : Int) = 1 then _ else if (3 : Int) = 2 then _ else if (3 : Int) = 3 then (if (0 : Int) = 0 ∧ ([] : List UInt8).length = 0 then shpL 0 l else (0, false)) else (0, false) : Int × Bool).2 = true) ↔ _
  rw [if_neg (by decide), if_neg (by decide), if_pos rfl, if_pos ⟨rfl, rfl⟩, shpL_all, List.all_eq_true]
theorem wf_cases {v : Api_Value} (h : wfV v) : v = vInt v.N ∨ v = vText v.B ∨ (v = vList v.L ∧ ∀ x ∈ v.L, wfV x) := by
  unfold wfV at h
  rw [shpV_eq] at h
  cases v with
  | mk k n b l =>
    change (if k = 1 then ((0 : Int), b.length == 0 && l.length == 0) else if k = 2 then (0, n == 0 && l.length == 0) else if k = 3 then (if n = 0 ∧ b.length = 0 then shpL 0 l else (0, false)) else (0, false)).2 = true at h
    by_cases h1 : k = 1
    · rw [if_pos h1] at h
      simp at h
      left; rw [h1, h.1, h.2]; rfl
    · rw [if_neg h1] at h
      by_cases h2 : k = 2
      · rw [if_pos h2] at h
        simp at h
        right; left; rw [h2, h.1, h.2]; rfl
      · rw [if_neg h2] at h
        by_cases h3 : k = 3
        · rw [if_pos h3] at h
          by_cases hc : n = 0 ∧ b.length = 0
          · rw [if_pos hc, shpL_all, List.all_eq_true] at h
            right; right
            have hb : b = [] := List.length_eq_zero_iff.1 hc.2
            subst h3
            obtain ⟨rfl, _⟩ := hc
            subst hb
            exact ⟨rfl, h⟩
          · rw [if_neg hc] at h; cases h
        · rw [if_neg h3] at h; cases h
theorem wf_int (n : Int) : wfV (vInt n) := by unfold wfV vInt; rw [shpV_eq]; rfl
theorem wf_text (b : List UInt8) : wfV (vText b) := by unfold wfV vText; rw [shpV_eq]; rfl
theorem enc_int (n : Int) : encV (vInt n) = encI n := by rw [encV_eq]; rfl
theorem enc_text (b : List UInt8) : encV (vText b) = 48 :: (escB b ++ [0, 0]) := by rw [encV_eq]; rfl
theorem enc_list (l : List Api_Value) : encV (vList l) = 64 :: (encL l ++ [0]) := by rw [encV_eq]; rfl
theorem ok_list {l : List Api_Value} (h : okV (vList l)) : ∀ x ∈ l, okV x := ((okV_eq _).1 h).2.2
theorem rng (n : Nat) (h : n ≤ 10) : rangeI (n : Int) := ⟨by omega, by omega⟩
theorem ok_listI {l : List Api_Value} (h : ∀ x ∈ l, okV x) : okV (vList l) := (okV_eq _).2 ⟨rng 3 (by decide), rng 0 (by decide), h⟩
theorem ok_intI {n : Int} (h : rangeI n) : okV (vInt n) := (okV_eq _).2 ⟨rng 1 (by decide), h, fun x hx => by cases hx⟩
theorem ok_textI (b : List UInt8) : okV (vText b) := (okV_eq _).2 ⟨rng 2 (by decide), rng 0 (by decide), fun x hx => by cases hx⟩
theorem ok_int {n : Int} (h : okV (vInt n)) : rangeI n := ((okV_eq _).1 h).2.1

/-- The encoding's first byte, and the rest; the decoder reads it whole, and no proper beginning of it. -/
def Good (v : Api_Value) : Prop := ∃ t tl, encV v = t :: tl ∧ t ≠ 0 ∧ (∀ r, Rd (.inl t) (tl ++ r) (.inl (v, r))) ∧ ∀ p, p.length < tl.length → p <+: tl → Rd (.inl t) p (.inr 5)

theorem good_int {n : Int} (h : rangeI n) : Good (vInt n) := by
  obtain ⟨hi, _, _⟩ := tag_int h
  refine ⟨tagI n, (dig (nb (magI n)) (magI n)).map (flip8 n), by rw [enc_int, encI_eq h], ?_, fun r => ?_, fun p hl hp => ?_⟩
  · intro e
    rw [e] at hi
    exact absurd hi.1 (by decide)
  · have := Rd.int (tagI n) ((dig (nb (magI n)) (magI n)).map (flip8 n) ++ r) hi
    rwa [rdI_enc h r] at this
  · have := Rd.int (tagI n) p hi
    rwa [rdI_pre h (by simpa [dig_len] using hl) hp] at this
theorem good_text (b : List UInt8) : Good (vText b) := by
  refine ⟨48, escB b ++ [0, 0], enc_text b, by decide, fun r => ?_, fun p hl hp => ?_⟩
  · have := Rd.text ((escB b ++ [0, 0]) ++ r)
    have e := rdT_esc b [] r
    have e2 : (escB b ++ [0, 0]) ++ r = escB b ++ 0 :: 0 :: r := by simp
    rw [e2] at this ⊢
    rw [e] at this
    exact this
  · have := Rd.text p
    rwa [rdT_pre b [] p (by simpa using hl) hp] at this
theorem good_elems : ∀ (l : List Api_Value), (∀ x ∈ l, Good x) → (∀ acc r, Rd (.inr acc) (encL l ++ 0 :: r) (.inl (vList (acc ++ l), r))) ∧
    ∀ acc p, p.length < (encL l).length + 1 → p <+: encL l ++ [0] → Rd (.inr acc) p (.inr 5)
  | [], _ => ⟨fun acc r => by simpa [encL] using Rd.lfin acc r, fun acc p hl hp => by
      have : p = [] := List.length_eq_zero_iff.1 (by simp [encL] at hl; exact hl ▸ rfl)
      subst this
      exact Rd.lend acc⟩
  | x :: l, h => by
    obtain ⟨h1, h2⟩ := good_elems l (fun y hy => h y (List.mem_cons_of_mem _ hy))
    obtain ⟨t, tl, e, ht, g1, g2⟩ := h x List.mem_cons_self
    constructor
    · intro acc r
      have e2 : encL (x :: l) ++ 0 :: r = t :: (tl ++ (encL l ++ 0 :: r)) := by rw [encL, e]; simp
      rw [e2]
      refine Rd.lstep acc t _ x _ _ ht (g1 _) ?_
      have := h1 (acc ++ [x]) r
      simpa using this
    · intro acc p hl hp
      cases p with
      | nil => exact Rd.lend acc
      | cons c p =>
        have e2 : encL (x :: l) ++ [0] = t :: (tl ++ (encL l ++ [0])) := by rw [encL, e]; simp
        rw [e2, List.cons_prefix_cons] at hp
        obtain ⟨rfl, hp⟩ := hp
        have hl2 : p.length < tl.length + (encL l).length + 1 := by
          rw [encL, e] at hl
          simp at hl; omega
        by_cases hlt : p.length < tl.length
        · refine Rd.lerr acc c p 5 ht (g2 p hlt ?_)
          exact List.prefix_of_prefix_length_le hp (List.prefix_append _ _) (by omega)
        · have htp : tl <+: p := List.prefix_of_prefix_length_le (List.prefix_append _ _) hp (by omega)
          obtain ⟨q, rfl⟩ := htp
          have hq : q <+: encL l ++ [0] := (List.prefix_append_right_inj tl).1 hp
          refine Rd.lstep acc c _ x q _ ht (g1 q) ?_
          exact h2 _ q (by simp at hl2; omega) hq
theorem good_list {l : List Api_Value} (h : ∀ x ∈ l, Good x) : Good (vList l) := by
  obtain ⟨h1, h2⟩ := good_elems l h
  refine ⟨64, encL l ++ [0], enc_list l, by decide, fun r => ?_, fun p hl hp => ?_⟩
  · refine Rd.lst _ _ ?_
    have := h1 [] r
    simpa using this
  · exact Rd.lst _ _ (h2 [] p (by simpa using hl) hp)

mutual
theorem good_wf : ∀ v : Api_Value, wfV v → okV v → Good v
  | .mk k n b l => by
    intro h ok
    rcases wf_cases h with e | e | ⟨e, hl⟩
    · rw [e] at ok ⊢
      exact good_int (ok_int ok)
    · rw [e]
      exact good_text _
    · rw [e] at ok ⊢
      exact good_list (good_wfs l hl (ok_list ok))
theorem good_wfs : ∀ l : List Api_Value, (∀ x ∈ l, wfV x) → (∀ x ∈ l, okV x) → ∀ x ∈ l, Good x
  | [] => fun _ _ x hx => by cases hx
  | y :: l => fun h ok x hx => by
    rcases List.mem_cons.1 hx with hx | hx
    · rw [hx]
      exact good_wf y (h y List.mem_cons_self) (ok y List.mem_cons_self)
    · exact good_wfs l (fun z hz => h z (List.mem_cons_of_mem _ hz)) (fun z hz => ok z (List.mem_cons_of_mem _ hz)) x hx
end

/-- What is read is well-formed, and is encoded so. -/
def InvR : UInt8 ⊕ List Api_Value → List UInt8 → DRes → Prop
  | .inl t, b, .inl (v, r) => wfV v ∧ okV v ∧ t :: b = encV v ++ r
  | .inr acc, b, .inl (v, r) => ∃ l, v = vList (acc ++ l) ∧ (∀ x ∈ l, wfV x ∧ okV x) ∧ b = encL l ++ 0 :: r
  | _, _, .inr e => e = 4 ∨ e = 5
theorem rdN_err {k : Nat} {fl : Bool} : ∀ (m u : Nat) (b : List UInt8) {e : Int}, rdN k fl m u b = .inr e → e = 4 ∨ e = 5
  | 0, u, b, e, h => by cases h
  | m + 1, u, [], e, h => by cases h; exact .inr rfl
  | m + 1, u, c :: b, e, h => by
    rw [rdN_cons] at h
    split at h
    · cases h; exact .inl rfl
    · exact rdN_err m _ b h
theorem rdT_err : ∀ (acc b : List UInt8) {e : Int}, rdT acc b = .inr e → e = 4 ∨ e = 5
  | acc, [], e, h => by simp [rdT] at h; exact .inr h.symm
  | acc, [c], e, h => by simp [rdT] at h; exact .inr h.symm
  | acc, c :: d :: b, e, h => by
    rw [rdT] at h
    split at h
    · exact rdT_err _ (d :: b) h
    · split at h
      · cases h
      · split at h
        · exact rdT_err _ b h
        · cases h; exact .inl rfl
theorem rd_inv {s : UInt8 ⊕ List Api_Value} {b : List UInt8} {o : DRes} (h : Rd s b o) : InvR s b o := by
  induction h with
  | int t b h =>
    cases hr : rdI t b with
    | inl x =>
      obtain ⟨v, r⟩ := x
      obtain ⟨n, hn, rfl, e⟩ := rdI_inv h hr
      exact ⟨wf_int n, ok_intI hn, by rw [enc_int]; exact e⟩
    | inr e =>
      unfold rdI at hr
      split at hr
      · cases hr
      · rename_i e' he; cases hr; exact rdN_err _ _ _ he
  | text b =>
    cases hr : rdT [] b with
    | inl x =>
      obtain ⟨v, r⟩ := x
      obtain ⟨a, rfl, e⟩ := rdT_inv _ _ hr
      refine ⟨wf_text _, ok_textI _, ?_⟩
      rw [enc_text, e]; simp
    | inr e => exact rdT_err _ _ hr
  | lst b o h ih =>
    cases o with
    | inl x =>
      obtain ⟨v, r⟩ := x
      obtain ⟨l, rfl, hl, e⟩ := ih
      refine ⟨?_, ?_, ?_⟩
      · exact wf_list.2 (fun x hx => (hl x (by simpa using hx)).1)
      · exact ok_listI (fun x hx => (hl x (by simpa using hx)).2)
      · rw [List.nil_append, enc_list, e]; simp
    | inr e => exact ih
  | bad => exact .inl rfl
  | lend => exact .inr rfl
  | lfin acc b => exact ⟨[], by simp, fun x hx => (by cases hx), by simp [encL]⟩
  | lerr acc c b e hc h ih => exact ih
  | lstep acc c b v b' o hc h h2 ih ih2 =>
    cases o with
    | inl x =>
      obtain ⟨w, r⟩ := x
      obtain ⟨l, rfl, hl, e⟩ := ih2
      obtain ⟨w1, w2, w3⟩ := ih
      refine ⟨v :: l, by simp, fun x hx => ?_, ?_⟩
      · rcases List.mem_cons.1 hx with rfl | hx
        · exact ⟨w1, w2⟩
        · exact hl x hx
      · rw [w3, encL, e]; simp
    | inr e => exact ih2
theorem enc_pos (v : Api_Value) : 0 < (encV v).length := by
  rw [encV_eq]
  split
  · rw [encI_len]; omega
  · split <;> simp
theorem rd_total : ∀ (n : Nat) (s : UInt8 ⊕ List Api_Value) (b : List UInt8), 2 * b.length + (match s with | .inl _ => 1 | .inr _ => 0) < n → ∃ o, Rd s b o
  | 0, s, b, h => absurd h (Nat.not_lt_zero _)
  | n + 1, .inl t, b, h => by
    by_cases hi : isInt t
    · exact ⟨_, Rd.int t b hi⟩
    · by_cases h1 : t = 48
      · subst h1; exact ⟨_, Rd.text b⟩
      · by_cases h2 : t = 64
        · subst h2
          obtain ⟨o, ho⟩ := rd_total n (.inr []) b (by simp at h ⊢; omega)
          exact ⟨o, Rd.lst b o ho⟩
        · exact ⟨_, Rd.bad t b hi h1 h2⟩
  | n + 1, .inr acc, [], h => ⟨_, Rd.lend acc⟩
  | n + 1, .inr acc, c :: b, h => by
    by_cases hc : c = 0
    · subst hc; exact ⟨_, Rd.lfin acc b⟩
    · obtain ⟨o, ho⟩ := rd_total n (.inl c) b (by simp at h ⊢; omega)
      cases o with
      | inr e => exact ⟨_, Rd.lerr acc c b e hc ho⟩
      | inl x =>
        obtain ⟨v, b'⟩ := x
        have hi : c :: b = encV v ++ b' := (rd_inv ho).2.2
        have hl : b.length + 1 = (encV v).length + b'.length := by
          have := congrArg List.length hi
          simpa using this
        have hp := enc_pos v
        obtain ⟨o2, ho2⟩ := rd_total n (.inr (acc ++ [v])) b' (by simp at h ⊢; omega)
        exact ⟨o2, Rd.lstep acc c b v b' o2 hc ho ho2⟩
abbrev CR := (Api_Value × Codec_decoder) ⊕ (Int × Codec_decoder)
def oc : DRes → CR → Prop
  | .inl (v, r), x => x = .inl (v, ⟨r⟩)
  | .inr e, x => ∃ d, x = .inr (e, d)

theorem next_nil : codec_decoder_next ⟨[]⟩ = some (.inr (5, ⟨[]⟩)) := rfl
theorem next_cons (c : UInt8) (b : List UInt8) : codec_decoder_next ⟨c :: b⟩ = some (.inl (c, ⟨b⟩)) := by
  unfold codec_decoder_next
  rw [if_neg (by simp; omega), if_pos (show InR 0 (c :: b).length from ⟨by decide, by simp⟩), if_pos (show InB 1 (c :: b).length from ⟨by decide, by simp⟩)]
  simp [lt1, nth]
theorem loopF_go {V X : Type} {f : V → Option (V ⊕ X)} {m : Nat} {v v' : V} (h : f v = some (.inl v')) : loopF f (m + 1) v = loopF f m v' := by
  rw [loopF, h]
theorem loopF_end {V X : Type} {f : V → Option (V ⊕ X)} {m : Nat} {v : V} {x : X} (h : f v = some (.inr x)) : loopF f (m + 1) v = some x := by
  rw [loopF, h]

theorem text_loop : ∀ (b acc : List UInt8) (m : Nat), b.length < m → b.length + acc.length ≤ 1000000000 → ∃ x, loopF (fun (v : List UInt8 × List UInt8) => codec_decoder_text_b1 v.1 v.2) m (b, acc) = some x ∧ oc (rdT acc b) x
  | b, acc, 0, h, _ => absurd h (Nat.not_lt_zero _)
  | [], acc, m + 1, _, _ => ⟨_, loopF_end (show codec_decoder_text_b1 [] acc = some (.inr (.inr (5, ⟨[]⟩))) from rfl), by simp [rdT, oc]⟩
  | [c], acc, m + 1, h, hs => by
    by_cases hc : c = 0
    · subst hc
      refine ⟨.inr (5, ⟨[]⟩), loopF_end ?_, by simp [rdT, oc]⟩
      show codec_decoder_text_b1 [0] acc = _
      unfold codec_decoder_text_b1
      rw [next_cons]
      refine (e_bindT rfl).trans ?_
      simp only
      rw [if_neg (by decide), next_nil]
      rfl
    · obtain ⟨x, hx, hq⟩ := text_loop [] (acc ++ [c]) m (by simp at h ⊢; omega) (by simp at hs ⊢; omega)
      refine ⟨x, (loopF_go ?_).trans hx, by simpa [rdT] using hq⟩
      show codec_decoder_text_b1 [c] acc = _
      unfold codec_decoder_text_b1
      rw [next_cons]
      refine (e_bindT rfl).trans ?_
      simp only
      rw [if_pos (by simpa using hc), if_pos (fits1 (by simp at hs; omega))]
      rfl
  | c :: d :: b, acc, m + 1, h, hs => by
    by_cases hc : c = 0
    · have e0 : codec_decoder_text_b1 (c :: d :: b) acc = if (d == 0) = true then some (.inr (.inl (vText acc, ⟨b⟩))) else if (d == 255) = true then some (.inl (b, acc ++ [0])) else some (.inr (.inr (4, ⟨b⟩))) := by
        subst hc
        unfold codec_decoder_text_b1
        rw [next_cons]
        refine (e_bindT rfl).trans ?_
        simp only
        rw [if_neg (by decide), next_cons]
        refine (e_bindT rfl).trans ?_
        simp only
        by_cases hd : d = 0
        · have p : (d == 0) = true := by simp [hd]
          rw [if_pos p, if_pos p]; rfl
        · have p : ¬ (d == 0) = true := by simpa using hd
          rw [if_neg p, if_neg p]
          by_cases hd2 : d = 255
          · have q : (d == 255) = true := by simp [hd2]
            rw [if_pos q, if_pos q, if_pos (fits1 (by simp at hs; omega))]; rfl
          · have q : ¬ (d == 255) = true := by simpa using hd2
            rw [if_neg q, if_neg q]; rfl
      rw [rdT, if_neg (by simp [hc])]
      by_cases hd : d = 0
      · rw [if_pos (by simp [hd])] at e0
        rw [if_pos hd]
        exact ⟨_, loopF_end e0, rfl⟩
      · rw [if_neg (by simpa using hd)] at e0
        rw [if_neg hd]
        by_cases hd2 : d = 255
        · rw [if_pos (by simp [hd2])] at e0
          rw [if_pos hd2]
          obtain ⟨x, hx, hq⟩ := text_loop b (acc ++ [0]) m (by simp at h ⊢; omega) (by simp at hs ⊢; omega)
          exact ⟨x, (loopF_go e0).trans hx, hq⟩
        · rw [if_neg (by simpa using hd2)] at e0
          rw [if_neg hd2]
          exact ⟨_, loopF_end e0, ⟨_, rfl⟩⟩
    · rw [rdT, if_pos hc]
      obtain ⟨x, hx, hq⟩ := text_loop (d :: b) (acc ++ [c]) m (by simp at h ⊢; omega) (by simp at hs ⊢; omega)
      refine ⟨x, (loopF_go ?_).trans hx, hq⟩
      show codec_decoder_text_b1 (c :: d :: b) acc = _
      unfold codec_decoder_text_b1
      rw [next_cons]
      refine (e_bindT rfl).trans ?_
      simp only
      rw [if_pos (by simpa using hc), if_pos (fits1 (by simp at hs; omega))]
      rfl

def flB (fl : Bool) : UInt8 := if fl then 255 else 0
theorem xor_fl (fl : Bool) (c : UInt8) : c ^^^ flB fl = fl8 fl c := by
  cases fl
  · simp [flB, fl8]
  · unfold flB fl8
    rw [if_pos rfl, if_pos rfl]
    apply UInt8.toBitVec_inj.1
    show c.toBitVec ^^^ BitVec.allOnes 8 = ~~~c.toBitVec
    exact BitVec.xor_allOnes
theorem shl_or (u : UInt64) (x : UInt8) (h : u.toNat < 256 ^ 7) : (shl64 u (8 : UInt64).toNat ||| x.toUInt64).toNat = u.toNat * 256 + x.toNat := by
  have hx := x.toNat_lt
  have e1 : (shl64 u (8 : UInt64).toNat).toNat = 2 ^ 8 * u.toNat := by
    show (u.toBitVec <<< (8 : Nat)).toNat = _
    rw [BitVec.toNat_shiftLeft, Nat.shiftLeft_eq, Nat.mod_eq_of_lt]
    · show u.toNat * 2 ^ 8 = _; omega
    · have : (256 : Nat) ^ 7 = 72057594037927936 := by decide
      show u.toNat * 2 ^ 8 < 2 ^ 64
      omega
  rw [UInt64.toNat_or, e1, UInt8.toNat_toUInt64, ← Nat.two_pow_add_eq_or_of_lt (by omega)]
  omega

abbrev IX := (UInt64 × List UInt8) ⊕ ((UInt64 × List UInt8) ⊕ CR)
def ic : (Nat × List UInt8) ⊕ Int → IX → Prop
  | .inl (n, r), x => ∃ u : UInt64, u.toNat = n ∧ x = .inl (u, r)
  | .inr e, x => ∃ d, x = .inr (.inr (.inr (e, d)))

theorem int_loop {k : Nat} (hk : k ≤ 8) (fl : Bool) : ∀ (j : Nat) (u : UInt64) (b : List UInt8) (m : Nat), j ≤ k → j < m → u.toNat < 256 ^ (k - j) →
    ∃ x, loopF (fun (v : UInt64 × Int × List UInt8) => codec_decoder_integer_b1 (k : Int) (flB fl) v.1 v.2.1 v.2.2) m (u, ((k - j : Nat) : Int), b) = some x ∧ ic (rdN k fl j u.toNat b) x
  | j, u, b, 0, _, h, _ => absurd h (Nat.not_lt_zero _)
  | 0, u, b, m + 1, _, _, _ => by
    refine ⟨.inl (u, b), loopF_end ?_, ⟨u, rfl, rfl⟩⟩
    show codec_decoder_integer_b1 (k : Int) (flB fl) u ((k - 0 : Nat) : Int) b = _
    unfold codec_decoder_integer_b1
    rw [if_neg (by simp)]
  | j + 1, u, [], m + 1, hj, _, _ => by
    refine ⟨.inr (.inr (.inr (5, ⟨[]⟩))), loopF_end ?_, ⟨_, rfl⟩⟩
    show codec_decoder_integer_b1 (k : Int) (flB fl) u ((k - (j + 1) : Nat) : Int) [] = _
    unfold codec_decoder_integer_b1
    rw [if_pos (by simp; omega), next_nil]
    rfl
  | j + 1, u, c :: b, m + 1, hj, hm, hu => by
    have e0 : codec_decoder_integer_b1 (k : Int) (flB fl) u ((k - (j + 1) : Nat) : Int) (c :: b) =
        if k = j + 1 ∧ (fl8 fl c = 0 ∨ (k = 8 ∧ fl8 fl c > 127)) then some (.inr (.inr (.inr (.inr (4, ⟨b⟩))))) else some (.inl (shl64 u (8 : UInt64).toNat ||| (fl8 fl c).toUInt64, ((k - j : Nat) : Int), b)) := by
      unfold codec_decoder_integer_b1
      rw [if_pos (by simp; omega), next_cons]
      refine (e_bindT rfl).trans ?_
      simp only
      rw [xor_fl]
      have hc : (if (((k - (j + 1) : Nat) : Int) == 0) = true then if (fl8 fl c == 0) = true then some true else if ((k : Int) == 8) = true then some (decide (fl8 fl c > 127)) else some false else some false : Option Bool) =
          some (decide (k = j + 1 ∧ (fl8 fl c = 0 ∨ (k = 8 ∧ fl8 fl c > 127)))) := by
        by_cases h1 : k = j + 1
        · rw [if_pos (by simp; omega)]
          by_cases h2 : fl8 fl c = 0
          · rw [if_pos (by simpa using h2)]; simp [h1, h2]
          · rw [if_neg (by simpa using h2)]
            by_cases h3 : k = 8
            · rw [if_pos (by simp; omega)]; simp [h1, h2]; omega
            · rw [if_neg (by simp; omega)]; simp [h2, h3]
        · rw [if_neg (by simp; omega)]; simp [h1]
      refine (e_bindT hc).trans ?_
      have ei : w64 (((k - (j + 1) : Nat) : Int) + 1) = ((k - j : Nat) : Int) := by rw [w64_id (by omega)]; omega
      by_cases hcond : k = j + 1 ∧ (fl8 fl c = 0 ∨ (k = 8 ∧ fl8 fl c > 127))
      · rw [if_pos (by simpa using hcond), if_pos hcond]; rfl
      · rw [if_neg (by simpa using hcond), if_neg hcond, ei]; rfl
    rw [rdN_cons]
    by_cases hcond : k = j + 1 ∧ (fl8 fl c = 0 ∨ (k = 8 ∧ fl8 fl c > 127))
    · rw [if_pos hcond] at e0 ⊢
      exact ⟨_, loopF_end e0, ⟨_, rfl⟩⟩
    · rw [if_neg hcond] at e0 ⊢
      have hu7 : u.toNat < 256 ^ 7 := Nat.lt_of_lt_of_le hu (Nat.pow_le_pow_right (by decide) (by omega))
      have hs := shl_or u (fl8 fl c) hu7
      have hx := (fl8 fl c).toNat_lt
      obtain ⟨x, hx2, hq⟩ := int_loop hk fl j (shl64 u (8 : UInt64).toNat ||| (fl8 fl c).toUInt64) b m (by omega) (by omega) (by
        rw [hs, show k - j = (k - (j + 1)) + 1 by omega, Nat.pow_succ]; omega)
      rw [hs] at hq
      exact ⟨x, (loopF_go e0).trans hx2, hq⟩

theorem integer_rd {t : UInt8} (ht : isInt t) (b : List UInt8) : ∃ x, codec_decoder_integer ⟨b⟩ (kOf t : Int) (flB (negOf t)) = some x ∧ oc (rdI t b) x := by
  have hk : kOf t ≤ 8 := by unfold kOf; obtain ⟨h1, h2⟩ := ht; split <;> omega
  obtain ⟨x, hx, hq⟩ := int_loop hk (negOf t) (kOf t) 0 b 18446744073709551616 (Nat.le_refl _) (by omega) (by simp)
  rw [Nat.sub_self] at hx
  have hx' : loopO (fun (v : UInt64 × Int × List UInt8) => codec_decoder_integer_b1 (kOf t : Int) (flB (negOf t)) v.1 v.2.1 v.2.2) (0, 0, b) = some x := hx
  have hz : (0 : UInt64).toNat = 0 := rfl
  rw [hz] at hq
  unfold codec_decoder_integer rdI
  cases hr : rdN (kOf t) (negOf t) (kOf t) 0 b with
  | inr e =>
    rw [hr] at hq
    obtain ⟨d, rfl⟩ := hq
    refine ⟨.inr (e, d), ?_, ⟨d, rfl⟩⟩
    refine (e_bindT (a := .inr (.inr (e, d))) ((e_bindT hx').trans rfl)).trans rfl
  | inl y =>
    obtain ⟨n, r⟩ := y
    rw [hr] at hq
    obtain ⟨u, hu, rfl⟩ := hq
    have hinv : rdI t b = .inl (vInt (if negOf t = true then -(n : Int) - 1 else (n : Int)), r) := by unfold rdI; rw [hr]
    obtain ⟨n', hn', e1, _⟩ := rdI_inv ht hinv
    have e1' : (if negOf t = true then -(n : Int) - 1 else (n : Int)) = n' := congrArg Api_Value.N e1
    obtain ⟨r1, r2⟩ := hn'
    refine ⟨.inl (vInt (if negOf t = true then -(n : Int) - 1 else (n : Int)), ⟨r⟩), ?_, rfl⟩
    refine (e_bindT (a := .inl (u, r)) ((e_bindT hx').trans rfl)).trans ?_
    cases hng : negOf t
    · rw [hng] at e1'
      simp only [Bool.false_eq_true, if_false] at e1'
      have : flB false = 0 := rfl
      rw [this]
      simp only [bne_self_eq_false, Bool.false_eq_true, if_false]
      refine (e_bindT rfl).trans ?_
      rw [hu, w64_id (by omega)]; rfl
    · rw [hng] at e1'
      simp only [if_true] at e1'
      have : flB true = 255 := rfl
      rw [this, if_pos (by decide)]
      refine (e_bindT rfl).trans ?_
      have e2 : w64 ((~~~u).toNat : Int) = -(n : Int) - 1 := by
        rw [u64_not, hu]
        have hlt := u.toNat_lt
        unfold w64 IntKind.wrap
        simp [IntKind.signed, IntKind.bits]
        split <;> omega
      rw [e2]; rfl
abbrev LX := (List UInt8 × List Api_Value) ⊕ ((List UInt8 × List Api_Value) ⊕ (Unit ⊕ CR))
def lc : DRes → LX → Prop
  | .inl (v, r), x => ∃ l, v = vList l ∧ x = .inl (r, l)
  | .inr e, x => ∃ d, x = .inr (.inr (.inr (.inr (e, d))))

def PC (o : DRes) : UInt8 ⊕ List Api_Value → List UInt8 → Prop
  | .inl t, b => ∀ n, b.length < n → ∃ x, codec_decoder_value_n n ⟨b⟩ t = some x ∧ oc o x
  | .inr acc, [] => o = .inr 5
  | .inr acc, c :: b => ∀ n, b.length < n → acc.length + b.length ≤ 1000000 → ∀ m, b.length < m → ∃ x, loopF (fun (v : UInt8 × List UInt8 × List Api_Value) => codec_decoder_value_b1 (codec_decoder_value_n n) v.1 v.2.1 v.2.2) m (c, b, acc) = some x ∧ lc o x

theorem fits64 {n : Nat} (h : n ≤ 2000000) : Fits n 64 := by unfold Fits maxLen roomB; omega

theorem rd_codec {s : UInt8 ⊕ List Api_Value} {b : List UInt8} {o : DRes} (h : Rd s b o) : b.length ≤ 65536 → PC o s b := by
  induction h with
  | int t b h =>
    intro hb n hn
    obtain ⟨n, rfl⟩ : ∃ m, n = m + 1 := ⟨n - 1, by omega⟩
    show ∃ x, codec_decoder_value_F (codec_decoder_value_n n) ⟨b⟩ t = some x ∧ _
    obtain ⟨x, hx, hq⟩ := integer_rd h b
    refine ⟨x, ?_, hq⟩
    obtain ⟨h1, h2⟩ := id h
    unfold codec_decoder_value_F
    have hn32 : (negOf t = true) = (t.toNat < 32) := by unfold negOf; simp
    by_cases h32 : t.toNat < 32
    · have hc : (if decide (t ≥ (32 : UInt8)) = true then some (decide (t ≤ (40 : UInt8))) else some false : Option Bool) = some false := by
        rw [if_neg (by simp [UInt8.le_iff_toNat_le]; omega)]
      have hc2 : (if decide (t < (32 : UInt8)) = true then some (decide (t ≥ (23 : UInt8))) else some false : Option Bool) = some true := by
        rw [if_pos (by simp [UInt8.lt_iff_toNat_lt]; omega)]; simp [UInt8.le_iff_toNat_le]; omega
      have hng : negOf t = true := by rw [hn32]; exact h32
      have hk : (((31 : UInt8) - t).toNat : Int) = (kOf t : Int) := by
        unfold kOf
        rw [if_pos h32, UInt8.toNat_sub]
        have : (31 : UInt8).toNat = 31 := rfl
        omega
      rw [hng] at hx
      have hfl : flB true = 255 := rfl
      rw [hfl, ← hk] at hx
      refine (e_bindT (a := .inr x) ?_).trans rfl
      refine (e_bindT hc).trans ?_
      rw [if_neg (by simp)]
      refine (e_bindT hc2).trans ?_
      rw [if_pos rfl]
      refine (e_bindT hx).trans ?_
      cases x <;> rfl
    · have hc : (if decide (t ≥ (32 : UInt8)) = true then some (decide (t ≤ (40 : UInt8))) else some false : Option Bool) = some true := by
        rw [if_pos (by simp [UInt8.le_iff_toNat_le]; omega)]; simp [UInt8.le_iff_toNat_le]; omega
      have hng : negOf t = false := by cases hh : negOf t; rfl; exact (h32 (hn32 ▸ hh)).elim
      have hk : ((t - (32 : UInt8)).toNat : Int) = (kOf t : Int) := by
        unfold kOf
        rw [if_neg h32, UInt8.toNat_sub]
        have : (32 : UInt8).toNat = 32 := rfl
        omega
      rw [hng] at hx
      have hfl : flB false = 0 := rfl
      rw [hfl, ← hk] at hx
      refine (e_bindT (a := .inr x) ?_).trans rfl
      refine (e_bindT hc).trans ?_
      rw [if_pos rfl]
      refine (e_bindT hx).trans ?_
      cases x <;> rfl
  | text b =>
    intro hb n hn
    obtain ⟨n, rfl⟩ : ∃ m, n = m + 1 := ⟨n - 1, by omega⟩
    show ∃ x, codec_decoder_value_F (codec_decoder_value_n n) ⟨b⟩ 48 = some x ∧ _
    obtain ⟨x, hx, hq⟩ := text_loop b [] 18446744073709551616 (by omega) (by simp; omega)
    have hx' : loopO (fun (v : List UInt8 × List UInt8) => codec_decoder_text_b1 v.1 v.2) (b, []) = some x := hx
    refine ⟨x, ?_, hq⟩
    unfold codec_decoder_value_F codec_decoder_text
    rw [hx']
    cases x <;> rfl
  | lst b o h ih =>
    intro hb n hn
    obtain ⟨n, rfl⟩ : ∃ m, n = m + 1 := ⟨n - 1, by omega⟩
    show ∃ x, codec_decoder_value_F (codec_decoder_value_n n) ⟨b⟩ 64 = some x ∧ _
    have hi := ih hb
    cases b with
    | nil =>
      have : o = .inr 5 := hi
      subst this
      exact ⟨.inr (5, ⟨[]⟩), rfl, ⟨_, rfl⟩⟩
    | cons c b =>
      obtain ⟨x, hx, hq⟩ := hi n (by simp at hn; omega) (by simp at hb ⊢; omega) 18446744073709551616 (by simp at hb; omega)
      have hx' : loopO (fun (v : UInt8 × List UInt8 × List Api_Value) => codec_decoder_value_b1 (codec_decoder_value_n n) v.1 v.2.1 v.2.2) (c, b, []) = some x := hx
      unfold codec_decoder_value_F
      cases o with
      | inl y =>
        obtain ⟨v, r⟩ := y
        obtain ⟨l, rfl, rfl⟩ := hq
        refine ⟨.inl (vList l, ⟨r⟩), ?_, rfl⟩
        refine (e_bindT (a := .inr (.inl (vList l, ⟨r⟩))) ?_).trans rfl
        show (((codec_decoder_next ⟨c :: b⟩).bind _).bind _) = _
        rw [next_cons]
        refine (e_bindT (a := .inl (r, l)) ((e_bindT rfl).trans ?_)).trans rfl
        exact (e_bindT hx').trans rfl
      | inr e =>
        obtain ⟨d, rfl⟩ := hq
        refine ⟨.inr (e, d), ?_, ⟨d, rfl⟩⟩
        refine (e_bindT (a := .inr (.inr (e, d))) ?_).trans rfl
        show (((codec_decoder_next ⟨c :: b⟩).bind _).bind _) = _
        rw [next_cons]
        refine (e_bindT (a := .inr (.inr (.inr (e, d)))) ((e_bindT rfl).trans ?_)).trans rfl
        exact (e_bindT hx').trans rfl
  | bad t b h h1 h2 =>
    intro hb n hn
    obtain ⟨n, rfl⟩ : ∃ m, n = m + 1 := ⟨n - 1, by omega⟩
    refine ⟨.inr (4, ⟨b⟩), ?_, ⟨_, rfl⟩⟩
    show codec_decoder_value_F (codec_decoder_value_n n) ⟨b⟩ t = _
    unfold codec_decoder_value_F
    unfold isInt at h
    have hc : (if decide (t ≥ (32 : UInt8)) = true then some (decide (t ≤ (40 : UInt8))) else some false : Option Bool) = some false := by
      by_cases h32 : t.toNat < 32
      · rw [if_neg (by simp [UInt8.le_iff_toNat_le]; omega)]
      · rw [if_pos (by simp [UInt8.le_iff_toNat_le]; omega)]; simp [UInt8.le_iff_toNat_le]; omega
    have hc2 : (if decide (t < (32 : UInt8)) = true then some (decide (t ≥ (23 : UInt8))) else some false : Option Bool) = some false := by
      by_cases h32 : t.toNat < 32
      · rw [if_pos (by simp [UInt8.lt_iff_toNat_lt]; omega)]; simp [UInt8.le_iff_toNat_le]; omega
      · rw [if_neg (by simp [UInt8.lt_iff_toNat_lt]; omega)]
    refine (e_bindT (a := (.inl () : Unit ⊕ CR)) ?_).trans rfl
    refine (e_bindT hc).trans ?_
    rw [if_neg (by simp)]
    refine (e_bindT hc2).trans ?_
    rw [if_neg (by simp), if_neg (by simpa using h1), if_neg (by simpa using h2)]
  | lend acc => intro _; rfl
  | lfin acc b =>
    intro hb n hn ha m hm
    obtain ⟨m, rfl⟩ : ∃ k, m = k + 1 := ⟨m - 1, by omega⟩
    exact ⟨.inl (b, acc), loopF_end rfl, ⟨acc, rfl, rfl⟩⟩
  | lerr acc c b e hc h ih =>
    intro hb n hn ha m hm
    obtain ⟨m, rfl⟩ : ∃ k, m = k + 1 := ⟨m - 1, by omega⟩
    obtain ⟨x, hx, d, rfl⟩ := ih (by simp at hb; omega) n hn
    refine ⟨.inr (.inr (.inr (.inr (e, d)))), loopF_end ?_, ⟨d, rfl⟩⟩
    show codec_decoder_value_b1 (codec_decoder_value_n n) c b acc = _
    unfold codec_decoder_value_b1
    rw [if_pos (by simpa using hc), hx]
    rfl
  | lstep acc c b v b' o hc h h2 ih ih2 =>
    intro hb n hn ha m hm
    obtain ⟨m, rfl⟩ : ∃ k, m = k + 1 := ⟨m - 1, by omega⟩
    have hb0 : b.length ≤ 65536 := by simp at hb; omega
    obtain ⟨x, hx, hxe⟩ := ih hb0 n hn
    have hxe' : x = .inl (v, ⟨b'⟩) := hxe
    subst hxe'
    have hinv : c :: b = encV v ++ b' := (rd_inv h).2.2
    have hl : b.length + 1 = (encV v).length + b'.length := by
      have := congrArg List.length hinv
      simpa using this
    have hp := enc_pos v
    have hi2 := ih2 (by omega)
    have e0 : ∀ o' , (codec_decoder_next ⟨b'⟩ = o') → codec_decoder_value_b1 (codec_decoder_value_n n) c b acc = o'.bind fun y => match y with
        | .inl w => some (.inl (w.1, w.2.b, acc ++ [v]))
        | .inr w => some (.inr (.inr (.inr (.inr (.inr (w.1, w.2)))))) := by
      intro o' ho
      unfold codec_decoder_value_b1
      rw [if_pos (by simpa using hc), hx]
      refine (e_bindT rfl).trans ?_
      simp only
      rw [if_pos (fits64 (by omega)), ho]
      rfl
    cases b' with
    | nil =>
      have : o = .inr 5 := hi2
      subst this
      refine ⟨.inr (.inr (.inr (.inr (5, ⟨[]⟩)))), loopF_end ?_, ⟨_, rfl⟩⟩
      exact (e0 _ next_nil).trans rfl
    | cons c2 b2 =>
      obtain ⟨x, hx2, hq⟩ := hi2 n (by simp at hl; omega) (by simp at hl ⊢; omega) m (by simp at hl; omega)
      exact ⟨x, (loopF_go ((e0 _ (next_cons c2 b2)).trans rfl)).trans hx2, hq⟩

/-- What Decode answers. -/
def DecS (b : List UInt8) (r : Api_Value × Int) : Prop :=
  (b.length > 65536 ∧ r = (vZero, 2)) ∨ (b.length ≤ 65536 ∧ ((b = [] ∧ r = (vZero, 5)) ∨ ∃ t b' o, b = t :: b' ∧ Rd (.inl t) b' o ∧
    ((∃ e, o = .inr e ∧ r = (vZero, e)) ∨ ∃ v rest, o = .inl (v, rest) ∧ ((rest ≠ [] ∧ r = (vZero, 4)) ∨ (rest = [] ∧ ((nestV v > 16 ∧ r = (vZero, 2)) ∨ (nestV v ≤ 16 ∧ r = (v, 0))))))))

mutual
theorem sz_enc : ∀ v : Api_Value, wfV v → szV v ≤ (encV v).length
  | .mk k n b l => by
    intro h
    rcases wf_cases h with e | e | ⟨e, hl⟩
    · rw [e, enc_int, encI_len]
      simp [vInt, szV, szVs]
    · rw [e, enc_text]
      have he : ∀ b : List UInt8, b.length ≤ (escB b).length := by
        intro b
        induction b with
        | nil => simp
        | cons c b ih => simp only [escB]; split <;> simp <;> omega
      have := he (Api_Value.mk k n b l).B
      simp only [vText, szV, szVs, List.length_cons, List.length_append, List.length_nil]
      omega
    · rw [e, enc_list]
      have := sz_encs l hl
      simp only [vList, szV, List.length_cons, List.length_append, List.length_nil]
      show ([] : List UInt8).length + 1 + szVs l ≤ (encL l).length + 1 + 1
      simp; omega
theorem sz_encs : ∀ l : List Api_Value, (∀ x ∈ l, wfV x) → szVs l ≤ (encL l).length
  | [] => fun _ => by simp [szVs]
  | x :: l => fun h => by
    have h1 := sz_enc x (h x List.mem_cons_self)
    have h2 := sz_encs l (fun y hy => h y (List.mem_cons_of_mem _ hy))
    rw [szVs, encL, List.length_append]
    omega
end

theorem shape_eq (v : Api_Value) (h : szV v ≤ 100000000000) : codec_shape v = some (shpV v) := shape_n 18446744073709551616 v (by omega) (by omega)

theorem decode_ex (b : List UInt8) : ∃ r, DecS b r ∧ codec_Decode b = some r := by
  by_cases hb : b.length > 65536
  · refine ⟨_, .inl ⟨hb, rfl⟩, ?_⟩
    unfold codec_Decode
    rw [if_pos (by simp; omega)]; rfl
  · have hb' : b.length ≤ 65536 := by omega
    have e1 : ∀ o, codec_decoder_next ⟨b⟩ = o → codec_Decode b = o.bind fun y => match y with
        | .inl v => (codec_decoder_value v.2 v.1).bind fun y => match y with
          | .inl v => if (decide ((v.2.b.length : Int) > 0)) = true then some (vZero, 4) else
              (codec_shape v.1).bind fun y => if (decide (y.1 > 16)) = true then some (vZero, 2) else some (v.1, 0)
          | .inr v => some (vZero, v.1)
        | .inr v => some (vZero, v.1) := by
      intro o ho
      subst ho
      unfold codec_Decode
      rw [if_neg (by simp; omega)]
      rfl
    cases b with
    | nil => exact ⟨_, .inr ⟨hb', .inl ⟨rfl, rfl⟩⟩, (e1 _ next_nil).trans rfl⟩
    | cons t b =>
      obtain ⟨o, ho⟩ := rd_total _ (.inl t) b (Nat.lt_succ_self _)
      have hbl : b.length ≤ 65536 := by simp at hb'; omega
      obtain ⟨x, hx, hq⟩ := (rd_codec ho hbl : ∀ n, b.length < n → ∃ x, codec_decoder_value_n n ⟨b⟩ t = some x ∧ oc o x) 18446744073709551616 (by omega)
      have hx' : codec_decoder_value ⟨b⟩ t = some x := hx
      have e1 := e1 _ (next_cons t b)
      cases o with
      | inr e =>
        obtain ⟨d, rfl⟩ := hq
        refine ⟨(vZero, e), .inr ⟨hb', .inr ⟨t, b, _, rfl, ho, .inl ⟨e, rfl, rfl⟩⟩⟩, ?_⟩
        refine e1.trans ((e_bindT rfl).trans ?_)
        exact (e_bindT hx').trans rfl
      | inl y =>
        obtain ⟨v, rest⟩ := y
        have hq' : x = .inl (v, ⟨rest⟩) := hq
        subst hq'
        obtain ⟨w1, w2, w3⟩ := rd_inv ho
        have hlen : b.length + 1 = (encV v).length + rest.length := by
          have := congrArg List.length w3
          simpa using this
        have hsz := sz_enc v w1
        by_cases hr : rest = []
        · subst hr
          have hsh := shape_eq v (by simp at hlen; omega)
          have hn := nest_shp v w1
          by_cases hd : nestV v > 16
          · refine ⟨(vZero, 2), .inr ⟨hb', .inr ⟨t, b, _, rfl, ho, .inr ⟨v, [], rfl, .inr ⟨rfl, .inl ⟨hd, rfl⟩⟩⟩⟩⟩, ?_⟩
            refine e1.trans ((e_bindT rfl).trans ?_)
            refine (e_bindT hx').trans ?_
            simp only
            rw [if_neg (by simp), hsh]
            refine (e_bindT rfl).trans ?_
            rw [if_pos (by simp; omega)]
          · refine ⟨(v, 0), .inr ⟨hb', .inr ⟨t, b, _, rfl, ho, .inr ⟨v, [], rfl, .inr ⟨rfl, .inr ⟨by omega, rfl⟩⟩⟩⟩⟩, ?_⟩
            refine e1.trans ((e_bindT rfl).trans ?_)
            refine (e_bindT hx').trans ?_
            simp only
            rw [if_neg (by simp), hsh]
            refine (e_bindT rfl).trans ?_
            rw [if_neg (by simp; omega)]
        · refine ⟨(vZero, 4), .inr ⟨hb', .inr ⟨t, b, _, rfl, ho, .inr ⟨v, rest, rfl, .inl ⟨hr, rfl⟩⟩⟩⟩, ?_⟩
          refine e1.trans ((e_bindT rfl).trans ?_)
          refine (e_bindT hx').trans ?_
          simp only
          have : rest.length ≠ 0 := fun e => hr (List.length_eq_zero_iff.1 e)
          rw [if_pos (by simp; omega)]

theorem decS_det {b : List UInt8} {r r' : Api_Value × Int} (h : DecS b r) (h' : DecS b r') : r = r' := by
  rcases h with ⟨h1, rfl⟩ | ⟨h1, h⟩ <;> rcases h' with ⟨h1', rfl⟩ | ⟨h1', h'⟩
  · rfl
  · omega
  · omega
  · rcases h with ⟨h2, rfl⟩ | ⟨t, b1, o, h2, h3, h4⟩ <;> rcases h' with ⟨h2', rfl⟩ | ⟨t', b1', o', h2', h3', h4'⟩
    · rfl
    · rw [h2] at h2'; cases h2'
    · rw [h2'] at h2; cases h2
    · rw [h2] at h2'
      cases h2'
      have := rd_det h3 h3'
      subst this
      rcases h4 with ⟨e, rfl, rfl⟩ | ⟨v, rest, rfl, h4⟩
      · rcases h4' with ⟨e', he, rfl⟩ | ⟨v', rest', he, _⟩
        · cases he; rfl
        · cases he
      · rcases h4' with ⟨e', he, rfl⟩ | ⟨v', rest', he, h4'⟩
        · cases he
        · cases he
          rcases h4 with ⟨h5, rfl⟩ | ⟨h5, h4⟩ <;> rcases h4' with ⟨h5', rfl⟩ | ⟨h5', h4'⟩
          · rfl
          · exact (h5 h5').elim
          · exact (h5' h5).elim
          · rcases h4 with ⟨h6, rfl⟩ | ⟨h6, rfl⟩ <;> rcases h4' with ⟨h6', rfl⟩ | ⟨h6', rfl⟩
            · rfl
            · omega
            · omega
            · rfl
theorem decode_eq {b : List UInt8} {r : Api_Value × Int} (h : DecS b r) : codec_Decode b = some r := by
  obtain ⟨r', h', e⟩ := decode_ex b
  rw [e, decS_det h h']
theorem enc_cases (v : Api_Value) : (∃ e, (e = 10 ∨ e = 2) ∧ Enc v = ([], e)) ∨ (wfV v ∧ (shpV v).1 ≤ 16 ∧ (encV v).length ≤ 65536 ∧ Enc v = (encV v, 0)) := by
  unfold Enc
  by_cases h : (shpV v).2 = true
  · rw [if_pos h]
    by_cases h2 : (shpV v).1 > 16
    · rw [if_pos h2]; exact .inl ⟨2, .inr rfl, rfl⟩
    · rw [if_neg h2]
      by_cases h3 : (encV v).length > 65536
      · rw [if_pos h3]; exact .inl ⟨2, .inr rfl, rfl⟩
      · rw [if_neg h3]; exact .inr ⟨h, by omega, by omega, rfl⟩
  · rw [if_neg h]; exact .inl ⟨10, .inl rfl, rfl⟩

theorem decode_enc {v : Api_Value} (h : wfV v) (ok : okV v) (hd : (shpV v).1 ≤ 16) (hl : (encV v).length ≤ 65536) : codec_Decode (encV v) = some (v, 0) := by
  obtain ⟨t, tl, e, _, g1, _⟩ := good_wf v h ok
  have := g1 []
  rw [List.append_nil] at this
  refine decode_eq (.inr ⟨hl, .inr ⟨t, tl, _, e, this, .inr ⟨v, [], rfl, .inr ⟨rfl, .inr ⟨?_, rfl⟩⟩⟩⟩⟩)
  rw [nest_shp v h]; exact hd
theorem dec_inv {b : List UInt8} {r : Api_Value × Int} (h : DecS b r) : (r.1 = vZero ∧ (r.2 = 2 ∨ r.2 = 5 ∨ r.2 = 4)) ∨ (r.2 = 0 ∧ wfV r.1 ∧ okV r.1 ∧ b = encV r.1 ∧ (shpV r.1).1 ≤ 16 ∧ b.length ≤ 65536) := by
  rcases h with ⟨_, rfl⟩ | ⟨h1, ⟨_, rfl⟩ | ⟨t, b', o, rfl, h2, h3⟩⟩
  · exact .inl ⟨rfl, .inl rfl⟩
  · exact .inl ⟨rfl, .inr (.inl rfl)⟩
  · rcases h3 with ⟨e, rfl, rfl⟩ | ⟨v, rest, rfl, h3⟩
    · have : e = 4 ∨ e = 5 := rd_inv h2
      rcases this with rfl | rfl
      · exact .inl ⟨rfl, .inr (.inr rfl)⟩
      · exact .inl ⟨rfl, .inr (.inl rfl)⟩
    · rcases h3 with ⟨_, rfl⟩ | ⟨rfl, ⟨_, rfl⟩ | ⟨h4, rfl⟩⟩
      · exact .inl ⟨rfl, .inr (.inr rfl)⟩
      · exact .inl ⟨rfl, .inl rfl⟩
      · obtain ⟨w1, w2, w3⟩ := rd_inv h2
        rw [List.append_nil] at w3
        exact .inr ⟨rfl, w1, w2, w3, by rw [← nest_shp v w1]; exact h4, h1⟩

theorem drop_cons {B b : List UInt8} {c : UInt8} {k : Nat} (h : B.drop k = c :: b) : k < B.length ∧ nth B k = c ∧ B.drop (k + 1) = b ∧ B.length = k + 1 + b.length := by
  have hk : k < B.length := by
    have := congrArg List.length h
    simp at this; omega
  have hl := congrArg List.length h
  rw [List.drop_eq_getElem_cons hk] at h
  obtain ⟨h1, h2⟩ := List.cons.inj h
  refine ⟨hk, by rw [nth_lt hk]; exact h1, h2, ?_⟩
  simp at hl; omega
theorem drop_nil {B : List UInt8} {k : Nat} (h : B.drop k = []) (hk : k ≤ B.length) : k = B.length := by
  have := congrArg List.length h
  simp at this; omega

abbrev TX := Int ⊕ (Int ⊕ (Api_Value × Int × Int))
def tcR (B : List UInt8) : DRes → TX → Prop
  | .inl (v, r), x => ∃ k : Nat, k ≤ B.length ∧ B.drop k = r ∧ x = .inr (.inr (v, (k : Int), 0))
  | .inr e, x => (e = 5 ∧ ∃ a, x = .inl a) ∨ ∃ a, x = .inr (.inr (vZero, a, e))

theorem textR_loop {B : List UInt8} (hB : B.length ≤ 1000000) : ∀ (b acc : List UInt8) (k m : Nat), B.drop k = b → k ≤ B.length → b.length < m → acc.length + b.length ≤ 2000000 →
    ∃ x, loopF (fun (v : Int × List UInt8) => r01_readBytes_b1 B v.1 v.2) m ((k : Int), acc) = some x ∧ tcR B (rdT acc b) x
  | b, acc, k, 0, _, _, h, _ => absurd h (Nat.not_lt_zero _)
  | [], acc, k, m + 1, hd, hk, _, _ => by
    have := drop_nil hd hk
    refine ⟨.inl (k : Int), loopF_end ?_, .inl ⟨rfl, _, rfl⟩⟩
    show r01_readBytes_b1 B (k : Int) acc = _
    unfold r01_readBytes_b1
    rw [if_neg (by simp; omega)]
  | [c], acc, k, m + 1, hd, hk, h, hs => by
    obtain ⟨h1, h2, h3, h4⟩ := drop_cons hd
    have hr : InR (k : Int) B.length := ⟨by omega, by omega⟩
    have ew : w64 ((k : Int) + 1) = ((k + 1 : Nat) : Int) := e_succ (by omega)
    by_cases hc : c = 0
    · subst hc
      refine ⟨.inr (.inr (vZero, (k : Int), 5)), loopF_end ?_, .inr ⟨_, rfl⟩⟩
      show r01_readBytes_b1 B (k : Int) acc = _
      unfold r01_readBytes_b1
      rw [if_pos (by simp; omega), if_pos hr, Int.toNat_natCast, h2, if_neg (by decide), ew, if_pos (by simp at h4 ⊢; omega)]
      rfl
    · obtain ⟨x, hx, hq⟩ := textR_loop hB [] (acc ++ [c]) (k + 1) m h3 h1 (by simp at h ⊢; omega) (by simp at hs ⊢; omega)
      refine ⟨x, (loopF_go ?_).trans hx, by simpa [rdT] using hq⟩
      show r01_readBytes_b1 B (k : Int) acc = _
      unfold r01_readBytes_b1
      rw [if_pos (by simp; omega), if_pos hr, Int.toNat_natCast, h2, if_pos (by simpa using hc), if_pos hr, if_pos (fits1 (by simp at hs; omega)), ew]
      rfl
  | c :: d :: b, acc, k, m + 1, hd, hk, h, hs => by
    obtain ⟨h1, h2, h3, h4⟩ := drop_cons hd
    obtain ⟨g1, g2, g3, g4⟩ := drop_cons h3
    have hr : InR (k : Int) B.length := ⟨by omega, by omega⟩
    have hr2 : InR ((k + 1 : Nat) : Int) B.length := ⟨by omega, by omega⟩
    have ew : w64 ((k : Int) + 1) = ((k + 1 : Nat) : Int) := e_succ (by omega)
    have ew2 : w64 ((k : Int) + 2) = ((k + 2 : Nat) : Int) := by rw [w64_id (by omega)]; rfl
    by_cases hc : c = 0
    · have e0 : r01_readBytes_b1 B (k : Int) acc = if d = 0 then some (.inr (.inr (.inr (vText acc, ((k + 2 : Nat) : Int), 0)))) else if d = 255 then some (.inl (((k + 2 : Nat) : Int), acc ++ [0])) else some (.inr (.inr (.inr (vZero, (k : Int), 4)))) := by
        subst hc
        unfold r01_readBytes_b1
        rw [if_pos (by simp; omega), if_pos hr, Int.toNat_natCast, h2, if_neg (by decide), ew, if_neg (by simp; omega), if_pos hr2, Int.toNat_natCast, g2, ew2]
        by_cases hd : d = 0
        · rw [if_pos (by simp [hd]), if_pos hd]; rfl
        · rw [if_neg (by simpa using hd), if_neg hd, if_pos hr2]
          by_cases hd2 : d = 255
          · rw [if_neg (by simp [hd2]), if_pos hd2, if_pos (fits1 (by simp at hs; omega))]; rfl
          · rw [if_pos (by simpa using hd2), if_neg hd2]; rfl
      rw [rdT, if_neg (by simp [hc])]
      by_cases hd : d = 0
      · rw [if_pos hd] at e0 ⊢
        exact ⟨_, loopF_end e0, k + 2, g1, g3, rfl⟩
      · rw [if_neg hd] at e0 ⊢
        by_cases hd2 : d = 255
        · rw [if_pos hd2] at e0 ⊢
          obtain ⟨x, hx, hq⟩ := textR_loop hB b (acc ++ [0]) (k + 2) m g3 g1 (by simp at h ⊢; omega) (by simp at hs ⊢; omega)
          exact ⟨x, (loopF_go e0).trans hx, hq⟩
        · rw [if_neg hd2] at e0 ⊢
          exact ⟨_, loopF_end e0, .inr ⟨_, rfl⟩⟩
    · rw [rdT, if_pos hc]
      obtain ⟨x, hx, hq⟩ := textR_loop hB (d :: b) (acc ++ [c]) (k + 1) m h3 h1 (by simp at h ⊢; omega) (by simp at hs ⊢; omega)
      refine ⟨x, (loopF_go ?_).trans hx, hq⟩
      show r01_readBytes_b1 B (k : Int) acc = _
      unfold r01_readBytes_b1
      rw [if_pos (by simp; omega), if_pos hr, Int.toNat_natCast, h2, if_pos (by simpa using hc), if_pos hr, if_pos (fits1 (by simp at hs; omega)), ew]
      rfl

def ocR (B : List UInt8) : DRes → Api_Value × Int × Int → Prop
  | .inl (v, r), x => ∃ k : Nat, k ≤ B.length ∧ B.drop k = r ∧ x = (v, (k : Int), 0)
  | .inr e, x => ∃ a, x = (vZero, a, e)

theorem readBytes_rd {B b : List UInt8} (hB : B.length ≤ 1000000) {k : Nat} (hd : B.drop k = b) (hk : k ≤ B.length) : ∃ x, r01_readBytes B (k : Int) = some x ∧ ocR B (rdT [] b) x := by
  have hbl : b.length ≤ B.length := by rw [← hd]; simp
  obtain ⟨x, hx, hq⟩ := textR_loop hB b [] k 18446744073709551616 hd hk (by omega) (by simp; omega)
  have hx' : loopO (fun (v : Int × List UInt8) => r01_readBytes_b1 B v.1 v.2) ((k : Int), []) = some x := hx
  unfold r01_readBytes
  refine (show ∃ y, _ = some y ∧ _ from ?_)
  cases hr : rdT [] b with
  | inl y =>
    obtain ⟨v, r⟩ := y
    rw [hr] at hq
    obtain ⟨k', h1, h2, rfl⟩ := hq
    exact ⟨(v, (k' : Int), 0), (e_lt1 _ [] _ rfl).trans ((e_bindT (a := .inr (v, (k' : Int), 0)) ((e_bindT hx').trans rfl)).trans rfl), k', h1, h2, rfl⟩
  | inr e =>
    rw [hr] at hq
    rcases hq with ⟨rfl, a, rfl⟩ | ⟨a, rfl⟩
    · exact ⟨(vZero, a, 5), (e_lt1 _ [] _ rfl).trans ((e_bindT (a := .inl a) ((e_bindT hx').trans rfl)).trans rfl), a, rfl⟩
    · exact ⟨(vZero, a, e), (e_lt1 _ [] _ rfl).trans ((e_bindT (a := .inr (vZero, a, e)) ((e_bindT hx').trans rfl)).trans rfl), a, rfl⟩

abbrev JX := (Int × Int) ⊕ ((Int × Int) ⊕ (Api_Value × Int × Int))
def jc (B : List UInt8) : (Nat × List UInt8) ⊕ Int → JX → Prop
  | .inl (n, r), x => ∃ k : Nat, k ≤ B.length ∧ B.drop k = r ∧ x = .inl ((k : Int), (n : Int))
  | .inr e, x => ∃ a, x = .inr (.inr (vZero, a, e))

theorem intR_loop {B : List UInt8} (hB : B.length ≤ 1000000) {k : Nat} (hk : k ≤ 8) (t : UInt8) : ∀ (j u : Nat) (b : List UInt8) (p m : Nat), B.drop p = b → p ≤ B.length → j ≤ k → j < m → u < 256 ^ (k - j) → (k = 8 → j < k → u < 128 * 256 ^ (7 - j)) →
    ∃ x, loopF (fun (v : Int × Int × Int) => r01_readInt_b1 B (t.toNat : Int) (k : Int) v.1 v.2.1 v.2.2) m ((p : Int), (u : Int), ((k - j : Nat) : Int)) = some x ∧ jc B (rdN k (negOf t) j u b) x
  | j, u, b, p, 0, _, _, _, h, _, _ => absurd h (Nat.not_lt_zero _)
  | 0, u, b, p, m + 1, hd, hp, _, _, _, _ => by
    refine ⟨.inl ((p : Int), (u : Int)), loopF_end ?_, p, hp, hd, rfl⟩
    show r01_readInt_b1 B (t.toNat : Int) (k : Int) (p : Int) (u : Int) ((k - 0 : Nat) : Int) = _
    unfold r01_readInt_b1
    rw [if_neg (by simp)]
  | j + 1, u, [], p, m + 1, hd, hp, hj, _, _, _ => by
    have := drop_nil hd hp
    refine ⟨.inr (.inr (vZero, (p : Int), 5)), loopF_end ?_, ⟨_, rfl⟩⟩
    show r01_readInt_b1 B (t.toNat : Int) (k : Int) (p : Int) (u : Int) ((k - (j + 1) : Nat) : Int) = _
    unfold r01_readInt_b1
    rw [if_pos (by simp; omega), if_pos (by simp; omega)]
    rfl
  | j + 1, u, c :: b, p, m + 1, hd, hp, hj, hm, hu, hu8 => by
    obtain ⟨h1, h2, h3, h4⟩ := drop_cons hd
    have hr : InR (p : Int) B.length := ⟨by omega, by omega⟩
    have hx := (fl8 (negOf t) c).toNat_lt
    have ew : w64 ((p : Int) + 1) = ((p + 1 : Nat) : Int) := e_succ (by omega)
    have ei : w64 (((k - (j + 1) : Nat) : Int) + 1) = ((k - j : Nat) : Int) := by rw [w64_id (by omega)]; omega
    have hxv : (if decide ((t.toNat : Int) < 32) = true then some (w64 (255 - ((c.toNat : Nat) : Int))) else some ((c.toNat : Nat) : Int) : Option Int) = some (((fl8 (negOf t) c).toNat : Nat) : Int) := by
      have hc := c.toNat_lt
      by_cases h32 : t.toNat < 32
      · rw [if_pos (by simp; omega), w64_id (by omega)]
        have : negOf t = true := by unfold negOf; simpa using h32
        rw [this]
        show _ = some (((~~~c).toNat : Nat) : Int)
        rw [not8]; congr 1; omega
      · rw [if_neg (by simp; omega)]
        have : negOf t = false := by unfold negOf; simpa using h32
        rw [this]; rfl
    have hc : (if (((k - (j + 1) : Nat) : Int) == 0) = true then if ((((fl8 (negOf t) c).toNat : Nat) : Int) == 0) = true then some true else if ((k : Int) == 8) = true then some (decide ((((fl8 (negOf t) c).toNat : Nat) : Int) > 127)) else some false else some false : Option Bool) =
        some (decide (k = j + 1 ∧ (fl8 (negOf t) c = 0 ∨ (k = 8 ∧ fl8 (negOf t) c > 127)))) := by
      have hz : fl8 (negOf t) c = 0 ↔ (fl8 (negOf t) c).toNat = 0 := by
        rw [← UInt8.toNat_inj]; rfl
      have hg : fl8 (negOf t) c > 127 ↔ (fl8 (negOf t) c).toNat > 127 := by
        show (127 : UInt8) < _ ↔ _
        rw [UInt8.lt_iff_toNat_lt]; rfl
      by_cases e1 : k = j + 1
      · rw [if_pos (by simp; omega)]
        by_cases e2 : (fl8 (negOf t) c).toNat = 0
        · rw [if_pos (by simp; exact e2)]; simp [e1, hz, e2]
        · rw [if_neg (by simp; exact e2)]
          by_cases e3 : k = 8
          · rw [if_pos (by simp; omega)]; simp only [hz, hg, e2, e1, false_or, true_and]
            congr 1
            rw [decide_eq_decide]
            omega
          · rw [if_neg (by simp; omega)]; simp [hz, e2, e3]
      · rw [if_neg (by simp; omega)]; simp [e1]
    have hbig : k = j + 1 ∨ u * 256 + (fl8 (negOf t) c).toNat < 9223372036854775808 := by
      by_cases e1 : k = j + 1
      · exact .inl e1
      · right
        by_cases e3 : k = 8
        · have := hu8 e3 (by omega)
          have h7 : (256 : Nat) ^ (7 - (j + 1)) ≤ 256 ^ 6 := Nat.pow_le_pow_right (by decide) (by omega)
          have : (256 : Nat) ^ 6 = 281474976710656 := by decide
          omega
        · have h7 : (256 : Nat) ^ (k - (j + 1)) ≤ 256 ^ 6 := Nat.pow_le_pow_right (by decide) (by omega)
          have : (256 : Nat) ^ 6 = 281474976710656 := by decide
          omega
    have hu0 : k = j + 1 → u = 0 := fun e => by subst e; simp at hu; exact hu
    have hfit : u * 256 + (fl8 (negOf t) c).toNat < 9223372036854775808 := by
      rcases hbig with e | e
      · rw [hu0 e, Nat.zero_mul, Nat.zero_add]
        exact Nat.lt_of_lt_of_le hx (by decide)
      · exact e
    have e0 : r01_readInt_b1 B (t.toNat : Int) (k : Int) (p : Int) (u : Int) ((k - (j + 1) : Nat) : Int) =
        if k = j + 1 ∧ (fl8 (negOf t) c = 0 ∨ (k = 8 ∧ fl8 (negOf t) c > 127)) then some (.inr (.inr (.inr (vZero, (p : Int), 4)))) else some (.inl (((p + 1 : Nat) : Int), ((u * 256 + (fl8 (negOf t) c).toNat : Nat) : Int), ((k - j : Nat) : Int))) := by
      unfold r01_readInt_b1
      rw [if_pos (by simp; omega), if_neg (by simp; omega), if_pos hr, Int.toNat_natCast, h2]
      refine (e_lt1 _ _ _ rfl).trans ?_
      refine (e_bindT hxv).trans ((e_bindT hc).trans ?_)
      by_cases hcond : k = j + 1 ∧ (fl8 (negOf t) c = 0 ∨ (k = 8 ∧ fl8 (negOf t) c > 127))
      · rw [if_pos (by simpa using hcond), if_pos hcond]; rfl
      · rw [if_neg (by simpa using hcond), if_neg hcond, ei, ew, w64_id (x := (u : Int) * 256) (by omega), w64_id (by omega)]
        refine (e_lt1 _ _ _ rfl).trans ?_
        simp
    rw [rdN_cons]
    by_cases hcond : k = j + 1 ∧ (fl8 (negOf t) c = 0 ∨ (k = 8 ∧ fl8 (negOf t) c > 127))
    · rw [if_pos hcond] at e0 ⊢
      exact ⟨_, loopF_end e0, ⟨_, rfl⟩⟩
    · rw [if_neg hcond] at e0 ⊢
      obtain ⟨x, hx2, hq⟩ := intR_loop hB hk t j (u * 256 + (fl8 (negOf t) c).toNat) b (p + 1) m h3 h1 (by omega) (by omega) (by
        rw [show k - j = (k - (j + 1)) + 1 by omega, Nat.pow_succ]; omega) (by
        intro e8 hjk
        by_cases e1 : k = j + 1
        · have hj7 : j = 7 := by omega
          have hu' := hu0 e1
          have : ¬ fl8 (negOf t) c > 127 := fun hg => hcond ⟨e1, .inr ⟨e8, hg⟩⟩
          have hg : ¬ (127 : UInt8).toNat < (fl8 (negOf t) c).toNat := fun hg => this (UInt8.lt_iff_toNat_lt.2 hg)
          have h127 : (127 : UInt8).toNat = 127 := rfl
          subst hj7
          rw [hu']
          simp; omega
        · have := hu8 e8 (by omega)
          rw [show 7 - j = (7 - (j + 1)) + 1 by omega, Nat.pow_succ]
          omega)
      exact ⟨x, (loopF_go e0).trans hx2, hq⟩

theorem readInt_rd {B b : List UInt8} (hB : B.length ≤ 1000000) {t : UInt8} (ht : isInt t) {p : Nat} (hd : B.drop p = b) (hp : p ≤ B.length) : ∃ x, r01_readInt B (p : Int) (t.toNat : Int) = some x ∧ ocR B (rdI t b) x := by
  have hk : kOf t ≤ 8 := by unfold kOf; obtain ⟨h1, h2⟩ := ht; split <;> omega
  obtain ⟨x, hx, hq⟩ := intR_loop hB hk t (kOf t) 0 b p 18446744073709551616 hd hp (Nat.le_refl _) (by omega) (by simp) (fun _ h => absurd h (Nat.lt_irrefl _))
  rw [Nat.sub_self] at hx
  have hx' : loopO (fun (v : Int × Int × Int) => r01_readInt_b1 B (t.toNat : Int) (kOf t : Int) v.1 v.2.1 v.2.2) ((p : Int), 0, 0) = some x := hx
  have hkk : (if decide ((t.toNat : Int) < 32) = true then some (w64 (31 - (t.toNat : Int))) else some (w64 ((t.toNat : Int) - 32)) : Option Int) = some (kOf t : Int) := by
    obtain ⟨h1, h2⟩ := ht
    unfold kOf
    by_cases h32 : t.toNat < 32
    · rw [if_pos (by simp; omega), if_pos h32, w64_id (by omega)]; congr 1; omega
    · rw [if_neg (by simp; omega), if_neg h32, w64_id (by omega)]; congr 1; omega
  unfold r01_readInt
  cases hr : rdN (kOf t) (negOf t) (kOf t) 0 b with
  | inr e =>
    rw [hr] at hq
    obtain ⟨a, rfl⟩ := hq
    have e1 : rdI t b = .inr e := by unfold rdI; rw [hr]
    rw [e1]
    refine ⟨(vZero, a, e), (e_bindT hkk).trans ?_, ⟨a, rfl⟩⟩
    exact (e_bindT (a := .inr (vZero, a, e)) ((e_bindT hx').trans rfl)).trans rfl
  | inl y =>
    obtain ⟨n, r⟩ := y
    rw [hr] at hq
    obtain ⟨k', h1, h2, rfl⟩ := hq
    have hinv : rdI t b = .inl (vInt (if negOf t = true then -(n : Int) - 1 else (n : Int)), r) := by unfold rdI; rw [hr]
    rw [hinv]
    obtain ⟨n', hn', e1, _⟩ := rdI_inv ht hinv
    have e1' : (if negOf t = true then -(n : Int) - 1 else (n : Int)) = n' := congrArg Api_Value.N e1
    obtain ⟨r1, r2⟩ := hn'
    refine ⟨(vInt (if negOf t = true then -(n : Int) - 1 else (n : Int)), (k' : Int), 0), (e_bindT hkk).trans ?_, k', h1, h2, rfl⟩
    refine (e_bindT (a := .inl ((k' : Int), (n : Int))) ((e_bindT hx').trans rfl)).trans ?_
    refine (e_bindT (a := if negOf t = true then -(n : Int) - 1 else (n : Int)) ?_).trans rfl
    by_cases h32 : t.toNat < 32
    · have hng : negOf t = true := by unfold negOf; simpa using h32
      rw [hng] at e1' ⊢
      simp only [if_true] at e1' ⊢
      rw [if_pos (by simp; omega), w64_id (x := 0 - (n : Int)) (by omega)]
      refine (e_lt1 _ (-(n : Int) - 1) _ ?_).trans rfl
      rw [w64_id (by omega)]; omega
    · have hng : negOf t = false := by unfold negOf; simpa using h32
      rw [hng, if_neg (by simp; omega)]; rfl

instance (t : UInt8) : Decidable (isInt t) := inferInstanceAs (Decidable (_ ∧ _))
def PR (B : List UInt8) (o : DRes) : UInt8 ⊕ List Api_Value → List UInt8 → Prop
  | .inl t, b => ∀ k, B.drop k = t :: b → ∀ n, b.length < n → ∃ x, r01_read_n n B (k : Int) = some x ∧ ocR B o x
  | .inr acc, b => ∀ k, B.drop k = b → k ≤ B.length → acc.length + b.length ≤ 1000000 → ∀ n, b.length ≤ n → ∀ m, b.length < m → ∃ x, loopF (fun (v : Int × List Api_Value) => r01_readList_b1 (r01_read_n n) B v.1 v.2) m ((k : Int), acc) = some x ∧ tcR B o x

theorem ne0_of_rd {s : UInt8 ⊕ List Api_Value} {b : List UInt8} {e : Int} (h : Rd s b (.inr e)) : e ≠ 0 := by
  have : InvR s b (.inr e) := rd_inv h
  have h2 : e = 4 ∨ e = 5 := by cases s <;> exact this
  omega

theorem read_head {B b : List UInt8} {t : UInt8} {k : Nat} (hB : B.length ≤ 1000000) (hd : B.drop k = t :: b) (rec_ : List UInt8 → Int → Option (Api_Value × Int × Int)) :
    r01_read_F rec_ B (k : Int) = if isInt t then r01_readInt B ((k + 1 : Nat) : Int) (t.toNat : Int) else if t = 48 then r01_readBytes B ((k + 1 : Nat) : Int) else if t = 64 then r01_readList rec_ B ((k + 1 : Nat) : Int) else some (vZero, (k : Int), 4) := by
  obtain ⟨h1, h2, h3, h4⟩ := drop_cons hd
  have hr : InR (k : Int) B.length := ⟨by omega, by omega⟩
  have ew : w64 ((k : Int) + 1) = ((k + 1 : Nat) : Int) := e_succ (by omega)
  have hb : ∀ o : Option (Api_Value × Int × Int), (o.bind fun y => some (y.1, y.2.1, y.2.2)) = o := fun o => by cases o <;> rfl
  unfold r01_read_F
  rw [if_neg (by simp; omega), if_pos hr, Int.toNat_natCast, h2, ew, hb, hb, hb]
  have hc : (if decide ((t.toNat : Int) ≥ 23) = true then some (decide ((t.toNat : Int) ≤ 40)) else some false : Option Bool) = some (decide (isInt t)) := by
    by_cases h23 : 23 ≤ t.toNat
    · rw [if_pos (by simp; omega)]; exact congrArg some (decide_eq_decide.2 (by unfold isInt; omega))
    · rw [if_neg (by simp; omega)]; exact congrArg some (decide_eq_false (fun h => h23 h.1)).symm
  refine (e_bindT hc).trans ?_
  by_cases hi : isInt t
  · rw [if_pos (by simpa using hi), if_pos hi]
  · rw [if_neg (by simpa using hi), if_neg hi]
    have e48 : (((t.toNat : Int) == 48) = true) = (t = 48) := by
      apply propext; rw [beq_iff_eq, ← UInt8.toNat_inj]
      have : (48 : UInt8).toNat = 48 := rfl
      omega
    have e64 : (((t.toNat : Int) == 64) = true) = (t = 64) := by
      apply propext; rw [beq_iff_eq, ← UInt8.toNat_inj]
      have : (64 : UInt8).toNat = 64 := rfl
      omega
    simp only [e48, e64]
    rfl

theorem rd_ref {B : List UInt8} (hB : B.length ≤ 1000000) {s : UInt8 ⊕ List Api_Value} {b : List UInt8} {o : DRes} (h : Rd s b o) : PR B o s b := by
  induction h with
  | int t b h =>
    intro k hd n hn
    obtain ⟨n, rfl⟩ : ∃ m, n = m + 1 := ⟨n - 1, by omega⟩
    obtain ⟨h1, h2, h3, h4⟩ := drop_cons hd
    show ∃ x, r01_read_F (r01_read_n n) B (k : Int) = some x ∧ _
    rw [read_head hB hd, if_pos h]
    exact readInt_rd hB h h3 h1
  | text b =>
    intro k hd n hn
    obtain ⟨n, rfl⟩ : ∃ m, n = m + 1 := ⟨n - 1, by omega⟩
    obtain ⟨h1, h2, h3, h4⟩ := drop_cons hd
    show ∃ x, r01_read_F (r01_read_n n) B (k : Int) = some x ∧ _
    rw [read_head hB hd, if_neg (show ¬ isInt _ from fun h => absurd h.2 (by decide)), if_pos rfl]
    exact readBytes_rd hB h3 h1
  | lst b o h ih =>
    intro k hd n hn
    obtain ⟨n, rfl⟩ : ∃ m, n = m + 1 := ⟨n - 1, by omega⟩
    obtain ⟨h1, h2, h3, h4⟩ := drop_cons hd
    show ∃ x, r01_read_F (r01_read_n n) B (k : Int) = some x ∧ _
    rw [read_head hB hd, if_neg (show ¬ isInt _ from fun h => absurd h.2 (by decide)), if_neg (by decide), if_pos rfl]
    obtain ⟨x, hx, hq⟩ := ih (k + 1) h3 h1 (by simp; omega) n (by omega) 18446744073709551616 (by omega)
    have hx' : loopO (fun (v : Int × List Api_Value) => r01_readList_b1 (r01_read_n n) B v.1 v.2) (((k + 1 : Nat) : Int), []) = some x := hx
    unfold r01_readList
    cases o with
    | inl y =>
      obtain ⟨v, r⟩ := y
      obtain ⟨k', h1, h2, rfl⟩ := hq
      exact ⟨(v, (k' : Int), 0), (e_lt1 _ [] _ rfl).trans ((e_bindT (a := .inr (v, (k' : Int), 0)) ((e_bindT hx').trans rfl)).trans rfl), k', h1, h2, rfl⟩
    | inr e =>
      rcases hq with ⟨rfl, a, rfl⟩ | ⟨a, rfl⟩
      · exact ⟨(vZero, a, 5), (e_lt1 _ [] _ rfl).trans ((e_bindT (a := .inl a) ((e_bindT hx').trans rfl)).trans rfl), a, rfl⟩
      · exact ⟨(vZero, a, e), (e_lt1 _ [] _ rfl).trans ((e_bindT (a := .inr (vZero, a, e)) ((e_bindT hx').trans rfl)).trans rfl), a, rfl⟩
  | bad t b h h1 h2 =>
    intro k hd n hn
    obtain ⟨n, rfl⟩ : ∃ m, n = m + 1 := ⟨n - 1, by omega⟩
    refine ⟨(vZero, (k : Int), 4), ?_, ⟨_, rfl⟩⟩
    show r01_read_F (r01_read_n n) B (k : Int) = some _
    rw [read_head hB hd, if_neg h, if_neg h1, if_neg h2]
  | lend acc =>
    intro k hd hk ha n hn m hm
    obtain ⟨m, rfl⟩ : ∃ k, m = k + 1 := ⟨m - 1, by omega⟩
    have := drop_nil hd hk
    refine ⟨.inl (k : Int), loopF_end ?_, .inl ⟨rfl, _, rfl⟩⟩
    show r01_readList_b1 (r01_read_n n) B (k : Int) acc = _
    unfold r01_readList_b1
    rw [if_neg (by simp; omega)]
  | lfin acc b =>
    intro k hd hk ha n hn m hm
    obtain ⟨m, rfl⟩ : ∃ k, m = k + 1 := ⟨m - 1, by omega⟩
    obtain ⟨h1, h2, h3, h4⟩ := drop_cons hd
    refine ⟨.inr (.inr (vList acc, ((k + 1 : Nat) : Int), 0)), loopF_end ?_, k + 1, h1, h3, rfl⟩
    show r01_readList_b1 (r01_read_n n) B (k : Int) acc = _
    unfold r01_readList_b1
    rw [if_pos (by simp; omega), if_pos (show InR (k : Int) B.length from ⟨by omega, by omega⟩), Int.toNat_natCast, h2, if_pos (by decide), e_succ (by omega)]
    rfl
  | lerr acc c b e hc h ih =>
    intro k hd hk ha n hn m hm
    obtain ⟨m, rfl⟩ : ∃ k, m = k + 1 := ⟨m - 1, by omega⟩
    obtain ⟨h1, h2, h3, h4⟩ := drop_cons hd
    obtain ⟨x, hx, a, rfl⟩ := ih k hd n (by simp at hn; omega)
    refine ⟨.inr (.inr (vZero, (k : Int), e)), loopF_end ?_, .inr ⟨_, rfl⟩⟩
    show r01_readList_b1 (r01_read_n n) B (k : Int) acc = _
    unfold r01_readList_b1
    rw [if_pos (by simp; omega), if_pos (show InR (k : Int) B.length from ⟨by omega, by omega⟩), Int.toNat_natCast, h2, if_neg (by simpa using hc), hx]
    refine (e_bindT rfl).trans ?_
    rw [if_pos (by simpa using ne0_of_rd h)]
    rfl
  | lstep acc c b v b' o hc h h2 ih ih2 =>
    intro k hd hk ha n hn m hm
    obtain ⟨m, rfl⟩ : ∃ k, m = k + 1 := ⟨m - 1, by omega⟩
    obtain ⟨h1, h2', h3, h4⟩ := drop_cons hd
    obtain ⟨x, hx, k', g1, g2, rfl⟩ := ih k hd n (by simp at hn; omega)
    have hinv : c :: b = encV v ++ b' := (rd_inv h).2.2
    have hl : b.length + 1 = (encV v).length + b'.length := by
      have := congrArg List.length hinv
      simpa using this
    have hp := enc_pos v
    simp only [List.length_cons] at ha hn hm
    obtain ⟨x, hx2, hq⟩ := ih2 k' g2 g1 (by simp; omega) n (by omega) m (by omega)
    refine ⟨x, (loopF_go ?_).trans hx2, hq⟩
    show r01_readList_b1 (r01_read_n n) B (k : Int) acc = _
    unfold r01_readList_b1
    rw [if_pos (by simp; omega), if_pos (show InR (k : Int) B.length from ⟨by omega, by omega⟩), Int.toNat_natCast, h2', if_neg (by simpa using hc), hx]
    refine (e_bindT rfl).trans ?_
    rw [if_neg (by simp), if_pos (fits64 (by omega))]
    rfl

theorem nestR_ok (v : Api_Value) (h : szV v ≤ 100000000000) : r01_Nesting v = some (nestV v) := nestR_eq v h

theorem decodeR_eq {b : List UInt8} {r : Api_Value × Int} (h : DecS b r) : r01_Decode b = some r := by
  unfold r01_Decode
  rcases h with ⟨h1, rfl⟩ | ⟨h1, h⟩
  · rw [if_pos (by simp; omega)]; rfl
  · rw [if_neg (by simp; omega)]
    rcases h with ⟨rfl, rfl⟩ | ⟨t, b', o, rfl, h2, h3⟩
    · rfl
    · obtain ⟨x, hx, hq⟩ := rd_ref (B := t :: b') (by omega) h2 0 rfl 18446744073709551616 (by simp at h1; omega)
      have hx' : r01_read (t :: b') 0 = some x := hx
      refine (e_bindT hx').trans ?_
      rcases h3 with ⟨e, rfl, rfl⟩ | ⟨v, rest, rfl, h3⟩
      · obtain ⟨a, rfl⟩ := hq
        rw [if_pos (by simpa using ne0_of_rd h2)]; rfl
      · obtain ⟨k, g1, g2, rfl⟩ := hq
        rw [if_neg (by simp)]
        have hlen := congrArg List.length g2
        rw [List.length_drop] at hlen
        rcases h3 with ⟨h4, rfl⟩ | ⟨h4, h5⟩
        · have : rest.length ≠ 0 := fun e => h4 (List.length_eq_zero_iff.1 e)
          refine (if_pos (decide_eq_true (show ((k : Nat) : Int) < ((t :: b').length : Int) by omega))).trans rfl
        · subst h4
          refine (if_neg (fun hh => absurd (of_decide_eq_true hh) (show ¬ ((k : Nat) : Int) < ((t :: b').length : Int) by simp at hlen ⊢; omega))).trans ?_
          obtain ⟨w1, w2, w3⟩ := rd_inv h2
          have hl2 : b'.length + 1 = (encV v).length := by
            have := congrArg List.length w3
            simpa using this
          have hsz := sz_enc v w1
          refine (e_bindT (nestR_ok v (by simp at h1; omega))).trans ?_
          rcases h5 with ⟨h6, rfl⟩ | ⟨h6, rfl⟩
          · rw [if_pos (by simpa using h6)]; rfl
          · rw [if_neg (by simp; omega)]

end Go.Proofs.Ytomjphpnpcgacaa
/-
  WindowCodec, in plain Lean.
-/
namespace Go.Proofs.Ytomjphpnpcgacaa
open Go.Rv
set_option linter.unusedVariables false
set_option linter.unusedSimpArgs false

theorem c_one {k : Nat} (h : k + 1 < 9223372036854775807) : w64 ((k : Int) + 1) = ((k + 1 : Nat) : Int) := by rw [w64_id (by omega)]; omega

theorem c_all {β : Type} {v : β} {f : Int → Option (Int ⊕ (Unit ⊕ (Unit ⊕ β)))} (n : Nat) (p : Nat → Bool) (hn : n < 1000000000000000000) (hf : ∀ k, k < n → f (k : Int) = some (if p k = true then .inl ((k + 1 : Nat) : Int) else .inr (.inr (.inr v))))
    (he : f (n : Int) = some (.inr (.inl ()))) : loopO (fun i : Int => f i) 0 = some (if (List.range n).all p = true then .inl () else .inr (.inr v)) := by
  obtain ⟨x, hx, rfl⟩ := loopO_rule (f := fun i : Int => f i) (fun v => ∃ k : Nat, v = (k : Int) ∧ k ≤ n ∧ ∀ j, j < k → p j = true) (fun v => n - v.toNat)
    (fun x => x = if (List.range n).all p = true then .inl () else .inr (.inr v)) (by
      rintro w ⟨k, rfl, hk, hp⟩
      by_cases h : k < n
      · cases hpk : p k with
        | true =>
          left
          refine ⟨((k + 1 : Nat) : Int), by show f (k : Int) = _; rw [hf k h, hpk]; rfl, ⟨k + 1, rfl, by omega, fun j hj => ?_⟩, by simp; omega⟩
          by_cases e : j = k
          · rw [e]; exact hpk
          · exact hp j (by omega)
        | false =>
          right
          refine ⟨.inr (.inr v), by show f (k : Int) = _; rw [hf k h, hpk]; rfl, ?_⟩
          rw [if_neg]
          intro h2
          rw [List.all_eq_true] at h2
          rw [h2 k (List.mem_range.2 h)] at hpk
          cases hpk
      · right
        have : k = n := by omega
        subst this
        refine ⟨.inl (), he, ?_⟩
        rw [if_pos]
        rw [List.all_eq_true]
        intro j hj
        exact hp j (List.mem_range.1 hj)) (v0 := 0) ⟨0, rfl, Nat.zero_le _, fun j hj => absurd hj (Nat.not_lt_zero _)⟩ (by simp; omega)
  exact hx

theorem c_take {α : Type} [Inhabited α] (l : List α) (n k : Nat) (h : k < n) : nth (l.take n) k = nth l k := by
  unfold nth
  simp [List.getD, List.getElem?_take, h]

/-! ### Encode -/
theorem encode_loop (l : List Int) (h : l.length ≤ 1000) : loopO (fun v : Int × List Api_Value => window_Encode_b1 (l.length : Int) l v.1 v.2) (0, []) = some (l.map vInt) := by
  obtain ⟨x, hx, rfl⟩ := loopO_for (f := fun v : Int × List Api_Value => window_Encode_b1 (l.length : Int) l v.1 v.2) l.length (fun k v => v = ((k : Int), (l.take k).map vInt)) (fun x => x = l.map vInt) (by omega) (by
    rintro k v hk rfl
    refine ⟨(((k + 1 : Nat) : Int), (l.take k).map vInt ++ [vInt (nth l k)]), ?_, ?_⟩
    · show window_Encode_b1 (l.length : Int) l (k : Int) _ = _
      unfold window_Encode_b1
      rw [if_pos (by simp; omega), if_pos (inR_of hk), if_pos (fits64 (by simp; omega)), c_one (by omega), Int.toNat_natCast]
      rfl
    · have : nth l k = l[k] := by simp [nth, List.getD_eq_getElem?_getD, hk]
      rw [this, List.take_add_one, List.getElem?_eq_getElem hk, List.map_append]
      rfl) (by
    rintro v rfl
    refine ⟨l.map vInt, ?_, rfl⟩
    show window_Encode_b1 (l.length : Int) l (l.length : Int) _ = _
    unfold window_Encode_b1
    rw [if_neg (by simp), List.take_length]) (v0 := (0, [])) rfl
  exact hx

def pkV (k : Api_Packet) : Api_Value := vList [vInt k.Epoch, vInt k.To, vInt k.Seq, vInt k.Ack, vText k.Data]

theorem wenc (k : Api_Packet) (h : szV (pkV k) ≤ 100000000000) : window_Encode k = some (Enc (pkV k)) := by
  unfold window_Encode
  simp only [lt1]
  rw [encode_loop _ (by simp), Option.bind_some, Option.bind_some, if_pos (fits64 (by simp))]
  show (codec_Encode (pkV k)).bind _ = _
  rw [encode_eq _ h]
  rfl

/-! ### Decode -/
def zP : Api_Packet := { Epoch := 0, To := 0, Seq := 0, Ack := 0, Data := [] }
def shB (v : Api_Value) : Bool := v.Kind == 3 && v.L.length == 5 && (nth v.L 4).Kind == 2 && (List.range 4).all fun k => (nth v.L k).Kind == 1
def pkt (v : Api_Value) : Api_Packet := { Epoch := (nth v.L 0).N, To := (nth v.L 1).N, Seq := (nth v.L 2).N, Ack := (nth v.L 3).N, Data := (nth v.L 4).B }
def decP (r : Api_Value × Int) : Api_Packet × Int := if r.2 = 0 then (if shB r.1 = true then (pkt r.1, 0) else (zP, 10)) else (zP, r.2)

theorem c_in {n k : Nat} (h : k < n) : InR (k : Int) n := inR_of h

theorem wdec {b : List UInt8} {r : Api_Value × Int} (h : codec_Decode b = some r) : window_Decode b = some (decP r) := by
  unfold window_Decode decP
  rw [h, Option.bind_some]
  by_cases h0 : r.2 = 0
  case neg => rw [if_pos (show (r.2 != 0) = true by simpa using h0), if_neg h0]; rfl
  rw [if_neg (show ¬ (r.2 != 0) = true by simp [h0]), if_pos h0]
  by_cases h3 : r.1.Kind = 3
  case neg =>
    rw [if_pos (show (r.1.Kind != 3) = true by simp [h3]), show shB r.1 = false by simp [shB, h3]]
    rfl
  rw [if_neg (show ¬ (r.1.Kind != 3) = true by simp [h3])]
  by_cases h5 : r.1.L.length = 5
  case neg =>
    rw [if_pos (show ((r.1.L.length : Int) != 5) = true by simp; omega), show shB r.1 = false by simp [shB, h5]]
    rfl
  rw [if_neg (show ¬ ((r.1.L.length : Int) != 5) = true by simp [h5]), if_pos (show InR 4 r.1.L.length from c_in (k := 4) (by omega))]
  by_cases h4 : (nth r.1.L 4).Kind = 2
  case neg =>
    rw [show ((nth r.1.L 4).Kind != 2) = true by simp [h4], show shB r.1 = false by simp [shB, h4]]
    rfl
  rw [show ((nth r.1.L 4).Kind != 2) = false by simp [h4]]
  simp only [Option.bind_some, Bool.false_eq_true, if_false]
  rw [if_pos (show InB 4 r.1.L.length by unfold InB; omega), c_all (v := ((zP, 10) : Api_Packet × Int)) (f := fun i => window_Decode_b1 r i) 4 (fun k => (nth r.1.L k).Kind == 1) (by omega) (fun k hk => by
    show window_Decode_b1 r (k : Int) = _
    unfold window_Decode_b1
    have hl : (r.1.L.take 4).length = 4 := by simp; omega
    rw [hl, if_pos (by simp; omega), if_pos (inR_of hk), c_one (by omega), Int.toNat_natCast, c_take _ _ _ hk]
    simp only [lt1]
    cases hK : ((nth r.1.L k).Kind == 1) <;> simp [bne, hK, zP]) (by
    show window_Decode_b1 r 4 = _
    unfold window_Decode_b1
    have hl : (r.1.L.take 4).length = 4 := by simp; omega
    rw [hl, if_neg (by simp)])]
  cases hall : (List.range 4).all fun k => (nth r.1.L k).Kind == 1
  · have : shB r.1 = false := by unfold shB; rw [hall]; simp
    rw [this]
    rfl
  · have : shB r.1 = true := by unfold shB; rw [hall, h3, h5, h4]; rfl
    rw [this]
    simp only [if_true, Option.bind_some]
    rw [if_pos (show InR 0 r.1.L.length from c_in (k := 0) (by omega)), if_pos (show InR 1 r.1.L.length from c_in (k := 1) (by omega)), if_pos (show InR 2 r.1.L.length from c_in (k := 2) (by omega)), if_pos (show InR 3 r.1.L.length from c_in (k := 3) (by omega)), if_pos (show InR 4 r.1.L.length from c_in (k := 4) (by omega))]
    rfl

theorem rdec {b : List UInt8} {r : Api_Value × Int} (h : r01_Decode b = some r) : r12_Decode b = some (decP r) := by
  unfold r12_Decode decP
  rw [h, Option.bind_some]
  by_cases h0 : r.2 = 0
  case neg => rw [if_pos (show (r.2 != 0) = true by simpa using h0), if_neg h0]; rfl
  rw [if_neg (show ¬ (r.2 != 0) = true by simp [h0]), if_pos h0]
  by_cases h3 : r.1.Kind = 3
  case neg =>
    rw [if_pos (show (r.1.Kind != 3) = true by simp [h3]), show shB r.1 = false by simp [shB, h3]]
    rfl
  rw [if_neg (show ¬ (r.1.Kind != 3) = true by simp [h3])]
  by_cases h5 : r.1.L.length = 5
  case neg =>
    rw [show ((r.1.L.length : Int) != 5) = true by simp; omega, show shB r.1 = false by simp [shB, h5]]
    rfl
  rw [show ((r.1.L.length : Int) != 5) = false by simp [h5]]
  simp only [Option.bind_some, Bool.false_eq_true, if_false]
  rw [c_all (v := ((zP, 10) : Api_Packet × Int)) (f := fun i => r12_Decode_b1 r i) 5 (fun k => (((nth r.1.L k).Kind == 1) == decide ((k : Int) < 4)) && (((nth r.1.L k).Kind == 2) == ((k : Int) == 4))) (by omega) (fun k hk => by
    show r12_Decode_b1 r (k : Int) = _
    unfold r12_Decode_b1
    rw [if_pos (by simp; omega), if_pos (inR_of (by omega)), if_pos (inR_of (by omega)), c_one (by omega), Int.toNat_natCast]
    generalize (((nth r.1.L k).Kind == 1) == decide ((k : Int) < 4)) = b1
    generalize (((nth r.1.L k).Kind == 2) == ((k : Int) == 4)) = b2
    cases b1 <;> cases b2 <;> rfl) (by
    show r12_Decode_b1 r 5 = _
    unfold r12_Decode_b1
    rw [if_neg (by decide)])]
  have hsh : shB r.1 = (List.range 5).all fun k => (((nth r.1.L k).Kind == 1) == decide ((k : Int) < 4)) && (((nth r.1.L k).Kind == 2) == ((k : Int) == 4)) := by
    unfold shB
    rw [h3, h5]
    have e5 : List.range 5 = [0, 1, 2, 3, 4] := by decide
    have e4 : List.range 4 = [0, 1, 2, 3] := by decide
    have hx : ∀ x : Int, (((x == 1) == true) && ((x == 2) == false)) = (x == 1) := by
      intro x
      by_cases h : x = 1
      · subst h; rfl
      · simp [h]
    have hy : ∀ x : Int, (((x == 1) == false) && ((x == 2) == true)) = (x == 2) := by
      intro x
      by_cases h : x = 2
      · subst h; rfl
      · simp [h]
    rw [e5, e4]
    show (true && true && (nth r.1.L 4).Kind == 2 && _) = ((((nth r.1.L 0).Kind == 1) == true) && (((nth r.1.L 0).Kind == 2) == false) && (((((nth r.1.L 1).Kind == 1) == true) && (((nth r.1.L 1).Kind == 2) == false)) && (((((nth r.1.L 2).Kind == 1) == true) && (((nth r.1.L 2).Kind == 2) == false)) && (((((nth r.1.L 3).Kind == 1) == true) && (((nth r.1.L 3).Kind == 2) == false)) && (((((nth r.1.L 4).Kind == 1) == false) && (((nth r.1.L 4).Kind == 2) == true)) && true)))))
    rw [hx, hx, hx, hx, hy]
    simp only [List.all_cons, List.all_nil]
    generalize ((nth r.1.L 0).Kind == 1) = a0
    generalize ((nth r.1.L 1).Kind == 1) = a1
    generalize ((nth r.1.L 2).Kind == 1) = a2
    generalize ((nth r.1.L 3).Kind == 1) = a3
    generalize ((nth r.1.L 4).Kind == 2) = a4
    cases a0 <;> cases a1 <;> cases a2 <;> cases a3 <;> cases a4 <;> rfl
  rw [← hsh]
  cases hs : shB r.1
  · rfl
  · simp only [if_true, Option.bind_some]
    rw [if_pos (show InR 0 r.1.L.length from c_in (k := 0) (by omega)), if_pos (show InR 1 r.1.L.length from c_in (k := 1) (by omega)), if_pos (show InR 2 r.1.L.length from c_in (k := 2) (by omega)), if_pos (show InR 3 r.1.L.length from c_in (k := 3) (by omega)), if_pos (show InR 4 r.1.L.length from c_in (k := 4) (by omega))]
    rfl

/-! ### The law -/
def okK (k : Api_Packet) : Prop := rangeI k.Epoch ∧ rangeI k.To ∧ rangeI k.Seq ∧ rangeI k.Ack

theorem pk_wf (k : Api_Packet) : wfV (pkV k) := wf_list.2 fun x hx => by
  simp only [List.mem_cons, List.not_mem_nil, or_false] at hx
  rcases hx with rfl | rfl | rfl | rfl | rfl
  · exact wf_int _
  · exact wf_int _
  · exact wf_int _
  · exact wf_int _
  · exact wf_text _
theorem pk_ok {k : Api_Packet} (h : okK k) : okV (pkV k) := ok_listI fun x hx => by
  simp only [List.mem_cons, List.not_mem_nil, or_false] at hx
  rcases hx with rfl | rfl | rfl | rfl | rfl
  · exact ok_intI h.1
  · exact ok_intI h.2.1
  · exact ok_intI h.2.2.1
  · exact ok_intI h.2.2.2
  · exact ok_textI _
theorem pk_sz (k : Api_Packet) : szV (pkV k) = k.Data.length + 6 := by
  simp only [pkV, vList, vInt, vText, szV, szVs, List.length_nil]
  omega

theorem same_pk (k : Api_Packet) : r12_SamePacket k k = some true := by
  unfold r12_SamePacket
  simp

theorem pk_of {v : Api_Value} (hw : wfV v) (hs : shB v = true) : v = pkV (pkt v) := by
  unfold shB at hs
  simp only [Bool.and_eq_true, beq_iff_eq] at hs
  obtain ⟨⟨⟨h3, h5⟩, h4⟩, hall⟩ := hs
  have e4 : List.range 4 = [0, 1, 2, 3] := by decide
  rw [e4] at hall
  simp only [List.all_cons, List.all_nil, Bool.and_eq_true, beq_iff_eq] at hall
  obtain ⟨k0, k1, k2, k3, _⟩ := hall
  have key : ∀ x : Api_Value, wfV x → (x.Kind = 1 → x = vInt x.N) ∧ (x.Kind = 2 → x = vText x.B) ∧ (x.Kind = 3 → x = vList x.L ∧ ∀ y ∈ x.L, wfV y) := by
    intro x hx
    rcases wf_cases hx with e | e | ⟨e, h⟩
    · refine ⟨fun _ => e, fun h => ?_, fun h => ?_⟩ <;> rw [e] at h <;> cases h
    · refine ⟨fun h => ?_, fun _ => e, fun h => ?_⟩ <;> rw [e] at h <;> cases h
    · refine ⟨fun h => ?_, fun h => ?_, fun _ => ⟨e, h⟩⟩ <;> rw [e] at h <;> cases h
  obtain ⟨e, hl⟩ := (key v hw).2.2 h3
  match hL : v.L, h5 with
  | [a, b, c, d, f], _ =>
    rw [hL] at e hl k0 k1 k2 k3 h4
    have w := fun x hx => key x (hl x hx)
    have ea := (w a (by simp)).1 k0
    have eb := (w b (by simp)).1 k1
    have ec := (w c (by simp)).1 k2
    have ed := (w d (by simp)).1 k3
    have ef := (w f (by simp)).2.1 h4
    rw [e]
    show vList [a, b, c, d, f] = vList [vInt a.N, vInt b.N, vInt c.N, vInt d.N, vText f.B]
    rw [← ea, ← eb, ← ec, ← ed, ← ef]

theorem law_windowCodec (k : Api_Packet) (v : Api_Value) (b : List UInt8) (hk : okK k) (hv : szV v ≤ 1048576) : law12_WindowCodec k v b = some true := by
  unfold law12_WindowCodec
  rw [sane_ok, Option.bind_some, if_neg (by simp)]
  by_cases hd : k.Data.length ≤ 20000
  case neg => rw [if_pos (show decide ((k.Data.length : Int) > 20000) = true by simp; omega)]; rfl
  rw [if_neg (show ¬ decide ((k.Data.length : Int) > 20000) = true by simp; omega)]
  by_cases hb : b.length ≤ 20000
  case neg => rw [show decide ((b.length : Int) > 20000) = true by simp; omega]; rfl
  rw [show decide ((b.length : Int) > 20000) = false by simp; omega]
  simp only [Option.bind_some, Bool.false_eq_true, if_false]
  -- Decode inverts Encode
  have hE : Enc (pkV k) = (encV (pkV k), 0) := by
    have hl : (encV (pkV k)).length ≤ 65536 := by
      have h1 : (encV (pkV k)).length = (encL [vInt k.Epoch, vInt k.To, vInt k.Seq, vInt k.Ack]).length + ((escB k.Data).length + 3) + 2 := by
        unfold pkV
        rw [enc_list, show [vInt k.Epoch, vInt k.To, vInt k.Seq, vInt k.Ack, vText k.Data] = [vInt k.Epoch, vInt k.To, vInt k.Seq, vInt k.Ack] ++ [vText k.Data] from rfl, encL_app]
        have : encL [vText k.Data] = encV (vText k.Data) ++ [] := by unfold encL; unfold encL; rfl
        rw [this, enc_text]
        simp
        omega
      have h2 := encL_len [vInt k.Epoch, vInt k.To, vInt k.Seq, vInt k.Ack]
      have h3 : szVs [vInt k.Epoch, vInt k.To, vInt k.Seq, vInt k.Ack] = 4 := by simp [szVs, szV, vInt]
      have h4 := escB_len k.Data
      omega
    unfold Enc
    rw [if_pos (show (shpV (pkV k)).2 = true from pk_wf k)]
    have hs : (shpV (pkV k)).1 = 1 := by simp [pkV, vList, vInt, vText, shpV, shpL, mx64]
    rw [if_neg (by rw [hs]; omega), if_neg (by omega)]
  have hdep : (shpV (pkV k)).1 ≤ 16 ∧ (encV (pkV k)).length ≤ 65536 := by
    rcases enc_cases (pkV k) with ⟨e, he, h⟩ | ⟨_, h1, h2, _⟩
    · rw [hE] at h
      have := congrArg Prod.snd h
      simp only at this
      omega
    · exact ⟨h1, h2⟩
  have hD := decode_enc (pk_wf k) (pk_ok hk) hdep.1 hdep.2
  have hshk : shB (pkV k) = true := rfl
  have hdk : decP (pkV k, 0) = (k, 0) := by unfold decP; rw [if_pos rfl, hshk]; rfl
  rw [wenc k (by rw [pk_sz]; omega), Option.bind_some, hE, wdec hD, Option.bind_some, hdk]
  simp only [same_pk, Option.bind_some]
  rw [show ((0 : Int) != 0) = false from rfl]
  simp only [Bool.false_eq_true, if_false, Bool.not_true, Option.bind_some]
  -- what Decode accepts
  obtain ⟨r, hr, hc⟩ := decode_ex b
  rw [wdec hc, hc, Option.bind_some, Option.bind_some]
  -- the last part
  have hlast : ((codec_Encode v).bind fun y => if (y.2 != 0) = true then some true else (window_Decode y.1).bind fun q => (r12_Decode y.1).bind fun s => (if (q.2 == s.2) = true then (r12_SamePacket q.1 s.1).bind fun z => some z else some false : Option Bool).bind fun t => some t) = some true := by
    rw [encode_eq v (by omega), Option.bind_some]
    rcases enc_cases v with ⟨e, he, h⟩ | ⟨_, _, _, h⟩
    · rw [h]
      rcases he with rfl | rfl <;> rfl
    · rw [h]
      obtain ⟨r2, hr2, hc2⟩ := decode_ex (encV v)
      simp only
      rw [wdec hc2, rdec (decodeR_eq hr2)]
      simp [same_pk]
  by_cases h0 : r.2 = 0
  case neg =>
    have e : decP r = (zP, r.2) := by unfold decP; rw [if_neg h0]
    rw [e]
    have n1 : (r.2 != 0) = true := by simpa using h0
    have n2 : (r.2 != r.2) = false := by simp
    have n3 : (r.2 == 0) = false := by simpa using h0
    have n4 : r12_SamePacket zP { Epoch := 0, To := 0, Seq := 0, Ack := 0, Data := [] } = some true := same_pk zP
    simp only [n1, n2, n3, n4, if_true, Bool.false_eq_true, if_false, Option.bind_some, Bool.not_true]
    exact hlast
  rcases dec_inv hr with ⟨_, he⟩ | ⟨_, hw, hok, hbe, hdp, hbl⟩
  · omega
  have z1 : (r.2 != 0) = false := by simp [h0]
  have z2 : (r.2 == 0) = true := by simp [h0]
  cases hs : shB r.1
  · have e : decP r = (zP, 10) := by unfold decP; rw [if_pos h0, hs]; rfl
    rw [e]
    simp only [z1, z2, Bool.false_eq_true, if_true, if_false, Option.bind_some]
    exact hlast
  · have e : decP r = (pkt r.1, 0) := by unfold decP; rw [if_pos h0, hs]; rfl
    have hp := pk_of hw hs
    have hEr : Enc r.1 = (b, 0) := by
      unfold Enc
      rw [if_pos (show (shpV r.1).2 = true from hw), if_neg (by omega), if_neg (by rw [← hbe]; omega), ← hbe]
    have hsz : szV (pkV (pkt r.1)) ≤ 100000000000 := by
      rw [← hp]
      have := sz_enc r.1 hw
      rw [← hbe] at this
      omega
    have hwe : window_Encode (pkt r.1) = some (b, 0) := by rw [wenc _ hsz, ← hp, hEr]
    have hsb : r01_SameBytes b b = some true := by
      unfold r01_SameBytes
      rw [orderBytes_eq b b (by omega), (cmpB_zero b b).2 rfl]
      rfl
    have hsh := hs
    unfold shB at hsh
    simp only [Bool.and_eq_true, beq_iff_eq] at hsh
    have q3 : (r.1.Kind != 3) = false := by simp [hsh.1.1.1]
    have q5 : ((r.1.L.length : Int) != 5) = false := by simp [hsh.1.1.2]
    rw [e]
    simp only [z1, z2, Bool.false_eq_true, if_true, if_false, Option.bind_some, hwe, hsb, q3, q5, Bool.not_true, show ((0 : Int) != 0) = false from rfl, show ((0 : Int) == 0) = true from rfl]
    exact hlast
end Go.Proofs.Ytomjphpnpcgacaa
/-
  Readings of arguments of chapter 12.
-/
namespace Go.Proofs.Ytomjphpnpcgacaa
open Go.Rv Go.ChangeShapes Go.WideShapes Go.ChangeAt Go.RowKit
set_option linter.unusedVariables false

theorem bulk_all (H : Type) (l : List (DataW H)) : (l.map (Rows.uptoBulk (H := H))).sum = Rows.uptoBulkAll l := by
  induction l with
  | nil => rfl
  | cons x l ih => simp only [List.map_cons, List.sum_cons, ih, Rows.uptoBulkAll]

theorem bulk_ok : BulkOk (fun H => Rows.uptoBulk (H := H)) where
  one := fun H d => by
    cases d with
    | lit l => cases l <;> simp [Rows.uptoBulk]
    | _ => simp [Rows.uptoBulk]
  str := fun H l => by simp [Rows.uptoBulk]
  slice := fun H e s => by rw [bulk_all]; simp only [Rows.uptoBulk]; omega
  agg := fun H p => by rw [bulk_all]; simp only [Rows.uptoBulk]; omega

theorem cells_of_3 : Try.prog.cellsOf 3 = 1 := by kernel_rfl
theorem cells_of_5 : Try.prog.cellsOf 5 = 1 := by kernel_rfl
theorem cells_of_26 : Try.prog.cellsOf 26 = 1 := by kernel_rfl
theorem cells_of_22 : Try.prog.cellsOf 22 = 1 := by kernel_rfl
theorem cells_of_23 : Try.prog.cellsOf 23 = 1 := by kernel_rfl
theorem cells_of_39 : Try.prog.cellsOf 39 = 5 := by kernel_rfl
theorem cells_of_25 : Try.prog.cellsOf 25 = 7 := by kernel_rfl
theorem opens3 : Opens Try.prog (fun H => Rows.uptoBulk (H := H)) 3 cI64 (fun _ => 1) (fun x => -9223372036854775808 ≤ x ∧ x ≤ 9223372036854775807) := opens_i64 bulk_ok Try.underlying3
theorem opens26 : Opens Try.prog (fun H => Rows.uptoBulk (H := H)) 26 (cSl cU8) (fun _ => 0) (fun _ => True) :=
  fun H enc W pr hpr fuel cs d ps h => by
    obtain ⟨x, h1, _, _, h4⟩ := opens_slice bulk_ok Try.underlying26 cells_of_5 (fun _ => rfl) (opens_u8 bulk_ok Try.underlying5) H enc W pr hpr fuel cs d ps h
    exact ⟨x, h1, Nat.zero_le _, trivial, h4⟩
theorem opens39 : Opens Try.prog (fun H => Rows.uptoBulk (H := H)) 39 cApi_Packet (fun _ => 0) okK :=
  opens_struct bulk_ok Try.underlying39 (n := 5) cells_of_39
    (opensFs_cons (k := 1) rfl cells_of_3 (fun _ => rfl) opens3 (opensFs_cons (k := 1) rfl cells_of_3 (fun _ => rfl) opens3 (opensFs_cons (k := 1) rfl cells_of_3 (fun _ => rfl) opens3 (opensFs_cons (k := 1) rfl cells_of_3 (fun _ => rfl) opens3 (opensFs_cons (k := 1) rfl cells_of_26 (fun _ => rfl) opens26 opensFs_nil)))))
    (fun x => (⟨x.1, x.2.1, x.2.2.1, x.2.2.2.1, x.2.2.2.2.1⟩ : Api_Packet)) (fun _ => rfl) (fun _ => rfl) (fun _ => Nat.zero_le _) (fun _ h => ⟨h.1, h.2.1, h.2.2.1, h.2.2.2.1⟩)
theorem cells_of_61 : Try.prog.cellsOf 61 = 1 := by kernel_rfl
theorem cells_of_63 : Try.prog.cellsOf 63 = 4 := by kernel_rfl
theorem opens26b : Opens Try.prog (fun H => Rows.uptoBulk (H := H)) 26 (cSl cU8) (szL fun _ => 1) (fun l => l.length ≤ maxLen ∧ ∀ x ∈ l, True) :=
  opens_slice bulk_ok Try.underlying26 cells_of_5 (fun _ => rfl) (opens_u8 bulk_ok Try.underlying5)
theorem opens63 : Opens Try.prog (fun H => Rows.uptoBulk (H := H)) 63 cApi_Value szV okV :=
  opens_of_at (opensAt_value bulk_ok Try.underlying63 rfl cells_of_63 cells_of_3 cells_of_26 cells_of_61 (opens_i64 bulk_ok Try.underlying3) opens26b Try.underlying61)

theorem own : ownKnob Try.prog.godebug = none := by kernel_rfl
theorem laid_ok : laidOutB Try.prog = true := by kernel_rfl
theorem G_none : ∀ i, B.G i = none := fun _ => rfl
end Go.Proofs.Ytomjphpnpcgacaa
