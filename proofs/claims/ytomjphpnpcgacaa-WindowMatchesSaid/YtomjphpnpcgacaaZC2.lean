/-
  The library and the walks, part 2.
-/
import Derived.Test.YtomjphpnpcgacaaZC1
import Derived.KernelRfl
import Derived.Test.YtomjphpnpcgacaaR24
import Derived.Test.YtomjphpnpcgacaaRows
import Derived.Test.YtomjphpnpcgacaaR30
import Derived.WalkKit
import Derived.ProofKit
import Derived.OpenShut
import Derived.JoinedCond
/-
  The functions compute just that.
-/
namespace Go.Proofs.Ytomjphpnpcgacaa
open Go.Rv
set_option linter.unusedVariables false
set_option linter.unusedSimpArgs false
set_option maxRecDepth 20000
set_option maxHeartbeats 4000000

theorem window_side_acknowledge_con {s_804 : Window_side} {k_805 : Api_Packet} {r : Window_side} (h : window_side_acknowledge s_804 k_805 = some r) : Con B 41 [.ref 0 0, .agg [i64 k_805.Epoch, i64 k_805.To, i64 k_805.Seq, i64 k_805.Ack, .sl false (L cU8 k_805.Data)]] [.box [i64 s_804.Peer.Epoch, i64 s_804.Peer.Other, i64 s_804.Peer.First, .sl false (L (cSl cU8) s_804.Peer.Queue), i64 s_804.Peer.Next, .sl false (L cApi_Packet s_804.Peer.Early), i64 s_804.Peer.SentAt, .bs false 1 (s_804.delivered.length) 0 (s_804.delivered.length)] false, .buf 1 (L (cSl cU8) s_804.delivered) false] (fun r' σ' => r' = .tup [] ∧ σ' = [.box [i64 r.Peer.Epoch, i64 r.Peer.Other, i64 r.Peer.First, .sl false (L (cSl cU8) r.Peer.Queue), i64 r.Peer.Next, .sl false (L cApi_Packet r.Peer.Early), i64 r.Peer.SentAt, .bs false 1 (r.delivered.length) 0 (r.delivered.length)] false, .buf 1 (L (cSl cU8) r.delivered) false]) := by
  refine con_walk_own (N := 46) (rs := []) 2 rfl ok Try.func41 rfl (by decide +kernel) rfl rfl (Nat.le_of_ble_eq_true rfl) (fun F => ?_)
  have hE := ok.env F
  unfold window_side_acknowledge at h
  show Run (B.env F) 2 _ ⟨asFr 46 [(0, .ref 0 0), (1, .agg [i64 k_805.Epoch, i64 k_805.To, i64 k_805.Seq, i64 k_805.Ack, .sl false (L cU8 k_805.Data)])], [.box [i64 s_804.Peer.Epoch, i64 s_804.Peer.Other, i64 s_804.Peer.First, .sl false (L (cSl cU8) s_804.Peer.Queue), i64 s_804.Peer.Next, .sl false (L cApi_Packet s_804.Peer.Early), i64 s_804.Peer.SentAt, .bs false 1 (s_804.delivered.length) 0 (s_804.delivered.length)] false, .buf 1 (L (cSl cU8) s_804.delivered) false]⟩ _
  refine run_wkP ?_
  refine run_textE hE [0, 3] (fr' := [(0, .ref 0 0), (3, .ref 2 0)]) (σ' := [.box [i64 s_804.Peer.Epoch, i64 s_804.Peer.Other, i64 s_804.Peer.First, .sl false (L (cSl cU8) s_804.Peer.Queue), i64 s_804.Peer.Next, .sl false (L cApi_Packet s_804.Peer.Early), i64 s_804.Peer.SentAt, .bs false 1 (s_804.delivered.length) 0 (s_804.delivered.length)] false, .buf 1 (L (cSl cU8) s_804.delivered) false, .box [i64 k_805.Epoch, i64 k_805.To, i64 k_805.Seq, i64 k_805.Ack, .sl false (L cU8 k_805.Data)] false]) ⟨_, orcs_nil, ?_⟩ ?_
  · simp only [go_sem, reduceIte, Nat.reduceLT, Nat.reduceEqDiff, Nat.reduceAdd]
  replace h := lt1_some h; obtain ⟨n_814, hz_815, h⟩ := h
  refine run_drawE hE mixed [[], [0], [], [2], [2, 3], [2, 3, 4], [2, 3, 4, 5], [0, 1, 2, 3, 4, 5, 6], [0, 1, 2, 3, 4, 5, 6, 7]] (by kernel_rfl) (by kernel_rfl) [0, 3, 4] (fr' := [(0, .ref 0 0), (3, .ref 2 0), (4, i64 n_814)]) (σ' := [.box [i64 s_804.Peer.Epoch, i64 s_804.Peer.Other, i64 s_804.Peer.First, .sl false (L (cSl cU8) s_804.Peer.Queue), i64 s_804.Peer.Next, .sl false (L cApi_Packet s_804.Peer.Early), i64 s_804.Peer.SentAt, .bs false 1 (s_804.delivered.length) 0 (s_804.delivered.length)] false, .buf 1 (L (cSl cU8) s_804.delivered) false, .box [i64 k_805.Epoch, i64 k_805.To, i64 k_805.Seq, i64 k_805.Ack, .sl false (L cU8 k_805.Data)] false]) ⟨_, orcs_nil, ?_⟩ ?_
  · subst hz_815; simp only [go_sem, reduceIte, Nat.reduceLT, Nat.reduceEqDiff, Nat.reduceAdd]
  replace h := bind_some1 h; obtain ⟨t_816, hv_817, h⟩ := h
  refine run_textW hE [0, 3, 4, 24] (fr' := [(0, .ref 0 0), (3, .ref 2 0), (4, i64 n_814), (24, .bool t_816)]) (σ' := [.box [i64 s_804.Peer.Epoch, i64 s_804.Peer.Other, i64 s_804.Peer.First, .sl false (L (cSl cU8) s_804.Peer.Queue), i64 s_804.Peer.Next, .sl false (L cApi_Packet s_804.Peer.Early), i64 s_804.Peer.SentAt, .bs false 1 (s_804.delivered.length) 0 (s_804.delivered.length)] false, .buf 1 (L (cSl cU8) s_804.delivered) false, .box [i64 k_805.Epoch, i64 k_805.To, i64 k_805.Seq, i64 k_805.Ack, .sl false (L cU8 k_805.Data)] false]) ?_ ?_
  · rcases Bool.eq_false_or_eq_true ((decide (n_814 > 0))) with hb_818 | hb_818
    · replace hv_817 := ite_t hv_817 hb_818
      have e_hv_817 := Option.some.inj hv_817; subst e_hv_817
      exact ⟨_, [(0, .ref 0 0), (3, .ref 2 0), (4, i64 n_814), (24, .bool ((decide (n_814 ≤ (s_804.Peer.Queue.length : Int)))))], [.box [i64 s_804.Peer.Epoch, i64 s_804.Peer.Other, i64 s_804.Peer.First, .sl false (L (cSl cU8) s_804.Peer.Queue), i64 s_804.Peer.Next, .sl false (L cApi_Packet s_804.Peer.Early), i64 s_804.Peer.SentAt, .bs false 1 (s_804.delivered.length) 0 (s_804.delivered.length)] false, .buf 1 (L (cSl cU8) s_804.delivered) false, .box [i64 k_805.Epoch, i64 k_805.To, i64 k_805.Seq, i64 k_805.Ack, .sl false (L cU8 k_805.Data)] false], orcs_nil, by simp only [go_sem, reduceIte, Nat.reduceLT, Nat.reduceEqDiff, Nat.reduceAdd, hb_818], (weak_sel [0, 1, 2] (by decide) rfl (by simp only [go_sem, reduceIte, Nat.reduceLT, Nat.reduceEqDiff, Nat.reduceAdd]) (by simp only [go_sem, reduceIte, Nat.reduceLT, Nat.reduceEqDiff, Nat.reduceAdd]))⟩
    · replace hv_817 := ite_f hv_817 hb_818
      have e_hv_817 := Option.some.inj hv_817; subst e_hv_817
      exact ⟨_, [(0, .ref 0 0), (3, .ref 2 0), (4, i64 n_814), (24, .bool false)], [.box [i64 s_804.Peer.Epoch, i64 s_804.Peer.Other, i64 s_804.Peer.First, .sl false (L (cSl cU8) s_804.Peer.Queue), i64 s_804.Peer.Next, .sl false (L cApi_Packet s_804.Peer.Early), i64 s_804.Peer.SentAt, .bs false 1 (s_804.delivered.length) 0 (s_804.delivered.length)] false, .buf 1 (L (cSl cU8) s_804.delivered) false, .box [i64 k_805.Epoch, i64 k_805.To, i64 k_805.Seq, i64 k_805.Ack, .sl false (L cU8 k_805.Data)] false], orcs_nil, by simp only [go_sem, reduceIte, Nat.reduceLT, Nat.reduceEqDiff, Nat.reduceAdd, hb_818], (weak_sel [0, 1, 2] (by decide) rfl (by simp only [go_sem, reduceIte, Nat.reduceLT, Nat.reduceEqDiff, Nat.reduceAdd]) (by simp only [go_sem, reduceIte, Nat.reduceLT, Nat.reduceEqDiff, Nat.reduceAdd]))⟩
  refine run_condL (b := t_816) rfl (by decide) (fun hb => ?_) (fun hb => ?_)
  · replace h := ite_t h hb
    replace h := chk_some h; obtain ⟨hc_819, h⟩ := h
    replace h := lt1_some h; obtain ⟨f_820, hz_821, h⟩ := h
    refine run_drawS0 hE mixed [[], [], [], [], [3], [3, 4], [3, 4, 5], [3, 4, 5, 6], [], [3, 4, 5, 6, 7, 8], [], [10], [0, 3, 4, 5, 6, 7, 8, 9], [0, 3, 4, 5, 6, 7, 8, 9, 12], [0, 3, 4, 5, 6, 7, 8, 9, 12, 13], [0, 3, 4, 5, 6, 7, 8, 9, 12, 13, 14], [0, 1, 3, 4, 5, 6, 7, 8, 9, 10, 11, 12, 13, 14, 15], [0, 1, 3, 4, 5, 6, 7, 8, 9, 10, 11, 12, 13, 14, 15, 16], [0, 1, 3, 4, 5, 6, 7, 8, 9, 10, 11, 12, 13, 14, 15, 16, 17], [0, 1, 3, 4, 5, 6, 7, 8, 9, 10, 11, 12, 13, 14, 15, 16, 17, 18], [0, 1, 2, 3, 4, 5, 6, 7, 8, 9, 10, 11, 12, 13, 14, 15, 16, 17, 18, 19], [0, 1, 2, 3, 4, 5, 6, 7, 8, 9, 10, 11, 12, 13, 14, 15, 16, 17, 18, 19, 20], [0, 1, 2, 3, 4, 5, 6, 7, 8, 9, 10, 11, 12, 13, 14, 15, 16, 17, 18, 19, 20, 21], [0, 1, 2, 3, 4, 5, 6, 7, 8, 9, 10, 11, 12, 13, 14, 15, 16, 17, 18, 19, 20, 21, 22]] (by kernel_rfl) [(3, 2), (35, 2), (39, 0)] [] [3, 35, 39] (by kernel_rfl) wk_wkP (fr' := [(3, .ref 2 0), (35, .ref 2 3), (39, .ref 0 3)]) (σ' := [.box [i64 s_804.Peer.Epoch, i64 s_804.Peer.Other, i64 k_805.Ack, .sl false (L (cSl cU8) f_820), i64 s_804.Peer.Next, .sl false (L cApi_Packet s_804.Peer.Early), i64 ((-1)), .bs false 1 (s_804.delivered.length) 0 (s_804.delivered.length)] false, .buf 1 (L (cSl cU8) s_804.delivered) false, .box [i64 k_805.Epoch, i64 k_805.To, i64 k_805.Seq, i64 k_805.Ack, .sl false (L cU8 k_805.Data)] false]) ⟨rfl, rfl, rfl, trivial⟩ ⟨_, _, orcs_nil, (by simp only [XOk]), ?_⟩ ?_
    · subst hz_821; simp only [go_sem, reduceIte, Nat.reduceLT, Nat.reduceEqDiff, Nat.reduceAdd, Int.reduceToNat, Nat.reduceLeDiff, hc_819]
    obtain rfl := Option.some.inj h
    refine wkP_of (Weak.refl _ _) ?_
    refine ret_own (.inl rfl) [0, 1] (by decide) rfl ?_ ?_
    · simp only [go_sem, reduceIte, Nat.reduceLT, Nat.reduceEqDiff, Nat.reduceAdd]
    · simp only [go_sem, reduceIte, Nat.reduceLT, Nat.reduceEqDiff, Nat.reduceAdd]
  · replace h := ite_f h hb
    refine run_skip ?_
    obtain rfl := Option.some.inj h
    refine wkP_of (Weak.refl _ _) ?_
    refine ret_own (.inl rfl) [0, 1] (by decide) rfl ?_ ?_
    · simp only [go_sem, reduceIte, Nat.reduceLT, Nat.reduceEqDiff, Nat.reduceAdd]
    · simp only [go_sem, reduceIte, Nat.reduceLT, Nat.reduceEqDiff, Nat.reduceAdd]

theorem window_side_deliver_con {s_822 : Window_side} {k_823 : Api_Packet} {r : Window_side} (h : window_side_deliver s_822 k_823 = some r) : Con B 43 [.ref 0 0, .agg [i64 k_823.Epoch, i64 k_823.To, i64 k_823.Seq, i64 k_823.Ack, .sl false (L cU8 k_823.Data)]] [.box [i64 s_822.Peer.Epoch, i64 s_822.Peer.Other, i64 s_822.Peer.First, .sl false (L (cSl cU8) s_822.Peer.Queue), i64 s_822.Peer.Next, .sl false (L cApi_Packet s_822.Peer.Early), i64 s_822.Peer.SentAt, .bs false 1 (s_822.delivered.length) 0 (s_822.delivered.length)] false, .buf 1 (L (cSl cU8) s_822.delivered) false] (fun r' σ' => r' = .tup [] ∧ σ' = [.box [i64 r.Peer.Epoch, i64 r.Peer.Other, i64 r.Peer.First, .sl false (L (cSl cU8) r.Peer.Queue), i64 r.Peer.Next, .sl false (L cApi_Packet r.Peer.Early), i64 r.Peer.SentAt, .bs false 1 (r.delivered.length) 0 (r.delivered.length)] false, .buf 1 (L (cSl cU8) r.delivered) false]) := by
  refine con_walk_own (N := 59) (rs := []) 2 rfl ok Try.func43 rfl (by decide +kernel) rfl rfl (Nat.le_of_ble_eq_true rfl) (fun F => ?_)
  have hE := ok.env F
  unfold window_side_deliver at h
  show Run (B.env F) 2 _ ⟨asFr 59 [(0, .ref 0 0), (1, .agg [i64 k_823.Epoch, i64 k_823.To, i64 k_823.Seq, i64 k_823.Ack, .sl false (L cU8 k_823.Data)])], [.box [i64 s_822.Peer.Epoch, i64 s_822.Peer.Other, i64 s_822.Peer.First, .sl false (L (cSl cU8) s_822.Peer.Queue), i64 s_822.Peer.Next, .sl false (L cApi_Packet s_822.Peer.Early), i64 s_822.Peer.SentAt, .bs false 1 (s_822.delivered.length) 0 (s_822.delivered.length)] false, .buf 1 (L (cSl cU8) s_822.delivered) false]⟩ _
  refine run_wkP ?_
  refine run_textE hE [0, 3] (fr' := [(0, .ref 0 0), (3, .ref 2 0)]) (σ' := [.box [i64 s_822.Peer.Epoch, i64 s_822.Peer.Other, i64 s_822.Peer.First, .sl false (L (cSl cU8) s_822.Peer.Queue), i64 s_822.Peer.Next, .sl false (L cApi_Packet s_822.Peer.Early), i64 s_822.Peer.SentAt, .bs false 1 (s_822.delivered.length) 0 (s_822.delivered.length)] false, .buf 1 (L (cSl cU8) s_822.delivered) false, .box [i64 k_823.Epoch, i64 k_823.To, i64 k_823.Seq, i64 k_823.Ack, .sl false (L cU8 k_823.Data)] false]) ⟨_, orcs_nil, ?_⟩ ?_
  · simp only [go_sem, reduceIte, Nat.reduceLT, Nat.reduceEqDiff, Nat.reduceAdd]
  refine run_seq ?_
  refine run_drawE hE mixed [[], [0], [], [2], [2, 3], [2, 3, 4], [2, 3, 4, 5], [0, 1, 2, 3, 4, 5, 6]] (by kernel_rfl) (by kernel_rfl) [0, 3, 11] (fr' := [(0, .ref 0 0), (3, .ref 2 0), (11, .bool ((k_823.Seq != s_822.Peer.Next)))]) (σ' := [.box [i64 s_822.Peer.Epoch, i64 s_822.Peer.Other, i64 s_822.Peer.First, .sl false (L (cSl cU8) s_822.Peer.Queue), i64 s_822.Peer.Next, .sl false (L cApi_Packet s_822.Peer.Early), i64 s_822.Peer.SentAt, .bs false 1 (s_822.delivered.length) 0 (s_822.delivered.length)] false, .buf 1 (L (cSl cU8) s_822.delivered) false, .box [i64 k_823.Epoch, i64 k_823.To, i64 k_823.Seq, i64 k_823.Ack, .sl false (L cU8 k_823.Data)] false]) ⟨_, orcs_nil, ?_⟩ ?_
  · simp only [go_sem, reduceIte, Nat.reduceLT, Nat.reduceEqDiff, Nat.reduceAdd]
  refine run_condL (b := (k_823.Seq != s_822.Peer.Next)) rfl (by decide) (fun hb => ?_) (fun hb => ?_)
  · replace h := ite_t h hb
    refine run_ret ?_
    refine thenK_r ?_
    obtain rfl := Option.some.inj h
    refine wkP_of (Weak.refl _ _) ?_
    refine ret_own (.inr rfl) [0, 1] (by decide) rfl ?_ ?_
    · simp only [go_sem, reduceIte, Nat.reduceLT, Nat.reduceEqDiff, Nat.reduceAdd]
    · simp only [go_sem, reduceIte, Nat.reduceLT, Nat.reduceEqDiff, Nat.reduceAdd]
  · replace h := ite_f h hb
    refine run_skip ?_
    refine thenK_n ?_
    replace h := bind_some1 h; obtain ⟨y_885, hy_886, h⟩ := h
    replace h := lt1_some h; obtain ⟨l_887, hz_888, h⟩ := h
    refine run_textE hE [0] (fr' := [(0, .ref 0 0)]) (σ' := [.box [i64 y_885.Peer.Epoch, i64 y_885.Peer.Other, i64 y_885.Peer.First, .sl false (L (cSl cU8) y_885.Peer.Queue), i64 y_885.Peer.Next, .sl false (L cApi_Packet y_885.Peer.Early), i64 y_885.Peer.SentAt, .bs false 1 (l_887.length) 0 (l_887.length)] false, .buf 1 (L (cSl cU8) l_887) false, .box [i64 k_823.Epoch, i64 k_823.To, i64 k_823.Seq, i64 k_823.Ack, .sl false (L cU8 k_823.Data)] false]) ⟨_, orcs_ok2 (l := []) (m := [(15, 60, [.ref 0 0, .sl false (L cU8 k_823.Data)], [.box [i64 s_822.Peer.Epoch, i64 s_822.Peer.Other, i64 s_822.Peer.First, .sl false (L (cSl cU8) s_822.Peer.Queue), i64 s_822.Peer.Next, .sl false (L cApi_Packet s_822.Peer.Early), i64 s_822.Peer.SentAt, .bs false 1 (s_822.delivered.length) 0 (s_822.delivered.length)] false, .buf 1 (L (cSl cU8) s_822.delivered) false, .box [i64 k_823.Epoch, i64 k_823.To, i64 k_823.Seq, i64 k_823.Ack, .sl false (L cU8 k_823.Data)] false], .tup [], [.box [i64 y_885.Peer.Epoch, i64 y_885.Peer.Other, i64 y_885.Peer.First, .sl false (L (cSl cU8) y_885.Peer.Queue), i64 y_885.Peer.Next, .sl false (L cApi_Packet y_885.Peer.Early), i64 y_885.Peer.SentAt, .bs false 1 (y_885.delivered.length) 0 (y_885.delivered.length)] false, .buf 1 (L (cSl cU8) y_885.delivered) false, .box [i64 k_823.Epoch, i64 k_823.To, i64 k_823.Seq, i64 k_823.Ack, .sl false (L cU8 k_823.Data)] false])]) trivial ⟨(wcon_call (window_side_take_con hy_886) [0, 1] (by decide) (by simp only [go_sem, reduceIte, Nat.reduceLT, Nat.reduceEqDiff, Nat.reduceAdd]) (by simp only [go_sem, reduceIte, Nat.reduceLT, Nat.reduceEqDiff, Nat.reduceAdd]) (by simp only [go_sem, reduceIte, Nat.reduceLT, Nat.reduceEqDiff, Nat.reduceAdd]) (by simp only [go_sem, reduceIte, Nat.reduceLT, Nat.reduceEqDiff, Nat.reduceAdd]) (by simp only [go_sem, reduceIte, Nat.reduceLT, Nat.reduceEqDiff, Nat.reduceAdd])), trivial⟩, ?_⟩ ?_
    · subst hz_888; simp only [go_sem, reduceIte, Nat.reduceLT, Nat.reduceEqDiff, Nat.reduceAdd]
    refine run_block ?_
    replace h := bind_some1 h; obtain ⟨x_929, hx_930, hj_931⟩ := h
    refine run_loopO hx_930 (fun (v : Int × Int × Int × List (List UInt8) × Int × List Api_Packet × Int × List (List UInt8)) => (⟨asFr 59 [(0, .ref 0 0)], [.box [i64 v.1, i64 v.2.1, i64 v.2.2.1, .sl false (L (cSl cU8) v.2.2.2.1), i64 v.2.2.2.2.1, .sl false (L cApi_Packet v.2.2.2.2.2.1), i64 v.2.2.2.2.2.2.1, .bs false 1 (v.2.2.2.2.2.2.2.length) 0 (v.2.2.2.2.2.2.2.length)] false, .buf 1 (L (cSl cU8) v.2.2.2.2.2.2.2) false]⟩ : St)) (weak_sel [0, 1] (by decide) rfl (by simp only [go_sem, reduceIte, Nat.reduceLT, Nat.reduceEqDiff, Nat.reduceAdd]) (by simp only [go_sem, reduceIte, Nat.reduceLT, Nat.reduceEqDiff, Nat.reduceAdd])) ?_
    rintro ⟨f_901, f_902, f_903, f_904, f_905, f_906, f_907, l_908⟩ o_932 h hxx_933
    replace h : window_side_deliver_b1 f_901 f_902 f_903 f_904 f_905 f_906 f_907 l_908 = some o_932 := h
    unfold window_side_deliver_b1 at h
    refine run_seq ?_
    replace h := bind_some1 h; obtain ⟨t_934, hv_935, h⟩ := h
    refine run_drawW hE mixed [[], [0], [0, 1], [0, 1, 2], [0, 1, 2, 3], [0, 1, 2, 3, 4], [0, 1, 2, 3, 4, 5], [0, 1, 2, 3, 4, 5, 6], [0, 1, 2, 3, 4, 5, 6, 7], [0, 1, 2, 3, 4, 5, 6, 7, 8], [0, 1, 2, 3, 4, 5, 6, 7, 8, 9], [0, 1, 2, 3, 4, 5, 6, 7, 8, 9, 10], [0, 1, 2, 3, 4, 5, 6, 7, 8, 9, 10, 11], [0, 1, 2, 3, 4, 5, 6, 7, 8, 9, 10, 11, 12], [0, 1, 2, 3, 4, 5, 6, 7, 8, 9, 10, 11, 12, 13], [0, 1, 2, 3, 4, 5, 6, 7, 8, 9, 10, 11, 12, 13, 14], [0, 1, 2, 3, 4, 5, 6, 7], [0, 1, 2, 3, 4, 5, 6, 7, 16], [0, 1, 2, 3, 4, 5, 6, 7, 16, 17], [0, 1, 2, 3, 4, 5, 6, 7, 16, 17, 18], [0, 1, 2, 3, 4, 5, 6, 7, 16, 17, 18, 19], [0, 1, 2, 3, 4, 5, 6, 7, 8, 9, 10, 11, 12, 13, 14, 15, 16, 17, 18, 19, 20], [0, 1, 2, 3, 4, 5, 6, 7, 8, 9, 10, 11, 12, 13, 14, 15, 16, 17, 18, 19, 20, 21]] (by kernel_rfl) (by kernel_rfl) [0, 38] (fr' := [(0, .ref 0 0), (38, .bool t_934)]) (σ' := [.box [i64 f_901, i64 f_902, i64 f_903, .sl false (L (cSl cU8) f_904), i64 f_905, .sl false (L cApi_Packet f_906), i64 f_907, .bs false 1 (l_908.length) 0 (l_908.length)] false, .buf 1 (L (cSl cU8) l_908) false]) ?_ ?_
    · rcases Bool.eq_false_or_eq_true ((decide ((f_906.length : Int) > 0))) with hb_936 | hb_936
      · replace hv_935 := ite_t hv_935 hb_936
        replace hv_935 := chk_some hv_935; obtain ⟨hc_937, hv_935⟩ := hv_935
        have e_hv_935 := Option.some.inj hv_935; subst e_hv_935
        exact ⟨_, [(0, .ref 0 0), (38, .bool (((nth f_906 0).Seq == f_905)))], [.box [i64 f_901, i64 f_902, i64 f_903, .sl false (L (cSl cU8) f_904), i64 f_905, .sl false (L cApi_Packet f_906), i64 f_907, .bs false 1 (l_908.length) 0 (l_908.length)] false, .buf 1 (L (cSl cU8) l_908) false], orcs_nil, by simp only [go_sem, reduceIte, Nat.reduceLT, Nat.reduceEqDiff, Nat.reduceAdd, Int.reduceToNat, hb_936, hc_937, (show 0 < f_906.length from hc_937.2)], (weak_sel [0, 1] (by decide) rfl (by simp only [go_sem, reduceIte, Nat.reduceLT, Nat.reduceEqDiff, Nat.reduceAdd]) (by simp only [go_sem, reduceIte, Nat.reduceLT, Nat.reduceEqDiff, Nat.reduceAdd]))⟩
      · replace hv_935 := ite_f hv_935 hb_936
        have e_hv_935 := Option.some.inj hv_935; subst e_hv_935
        exact ⟨_, [(0, .ref 0 0), (38, .bool false)], [.box [i64 f_901, i64 f_902, i64 f_903, .sl false (L (cSl cU8) f_904), i64 f_905, .sl false (L cApi_Packet f_906), i64 f_907, .bs false 1 (l_908.length) 0 (l_908.length)] false, .buf 1 (L (cSl cU8) l_908) false], orcs_nil, by simp only [go_sem, reduceIte, Nat.reduceLT, Nat.reduceEqDiff, Nat.reduceAdd, Int.reduceToNat, hb_936], (weak_sel [0, 1] (by decide) rfl (by simp only [go_sem, reduceIte, Nat.reduceLT, Nat.reduceEqDiff, Nat.reduceAdd]) (by simp only [go_sem, reduceIte, Nat.reduceLT, Nat.reduceEqDiff, Nat.reduceAdd]))⟩
    refine run_condL (b := t_934) rfl (by decide) (fun hb => ?_) (fun hb => ?_)
    · replace h := ite_t h hb
      refine run_skip ?_
      refine thenK_n ?_
      refine run_block ?_
      replace h := chk_some h; obtain ⟨hc_939, h⟩ := h
      replace h := bind_some1 h; obtain ⟨y_938, hy_940, h⟩ := h
      replace h := lt1_some h; obtain ⟨l_941, hz_942, h⟩ := h
      refine run_textE hE [0] (fr' := [(0, .ref 0 0)]) (σ' := [.box [i64 y_938.Peer.Epoch, i64 y_938.Peer.Other, i64 y_938.Peer.First, .sl false (L (cSl cU8) y_938.Peer.Queue), i64 y_938.Peer.Next, .sl false (L cApi_Packet y_938.Peer.Early), i64 y_938.Peer.SentAt, .bs false 1 (l_941.length) 0 (l_941.length)] false, .buf 1 (L (cSl cU8) l_941) false]) ⟨_, orcs_ok2 (l := []) (m := [(48, 60, [.ref 0 0, .sl false (L cU8 ((nth f_906 0).Data))], [.box [i64 f_901, i64 f_902, i64 f_903, .sl false (L (cSl cU8) f_904), i64 f_905, .sl false (L cApi_Packet f_906), i64 f_907, .bs false 1 (l_908.length) 0 (l_908.length)] false, .buf 1 (L (cSl cU8) l_908) false], .tup [], [.box [i64 y_938.Peer.Epoch, i64 y_938.Peer.Other, i64 y_938.Peer.First, .sl false (L (cSl cU8) y_938.Peer.Queue), i64 y_938.Peer.Next, .sl false (L cApi_Packet y_938.Peer.Early), i64 y_938.Peer.SentAt, .bs false 1 (y_938.delivered.length) 0 (y_938.delivered.length)] false, .buf 1 (L (cSl cU8) y_938.delivered) false])]) trivial ⟨(wcon_call (window_side_take_con hy_940) [0, 1] (by decide) (by simp only [go_sem, reduceIte, Nat.reduceLT, Nat.reduceEqDiff, Nat.reduceAdd]) (by simp only [go_sem, reduceIte, Nat.reduceLT, Nat.reduceEqDiff, Nat.reduceAdd]) (by simp only [go_sem, reduceIte, Nat.reduceLT, Nat.reduceEqDiff, Nat.reduceAdd]) (by simp only [go_sem, reduceIte, Nat.reduceLT, Nat.reduceEqDiff, Nat.reduceAdd]) (by simp only [go_sem, reduceIte, Nat.reduceLT, Nat.reduceEqDiff, Nat.reduceAdd])), trivial⟩, ?_⟩ ?_
      · subst hz_942; simp only [go_sem, reduceIte, Nat.reduceLT, Nat.reduceEqDiff, Nat.reduceAdd, Int.reduceToNat, hc_939, (show 0 < f_906.length from hc_939.2)]
      replace h := chk_some h; obtain ⟨hc_943, h⟩ := h
      replace h := lt1_some h; obtain ⟨f_944, hz_945, h⟩ := h
      refine run_textE0 hE (wk_block wk_lp) [0] (fr' := [(0, .ref 0 0)]) (σ' := [.box [i64 y_938.Peer.Epoch, i64 y_938.Peer.Other, i64 y_938.Peer.First, .sl false (L (cSl cU8) y_938.Peer.Queue), i64 y_938.Peer.Next, .sl false (L cApi_Packet f_944), i64 y_938.Peer.SentAt, .bs false 1 (l_941.length) 0 (l_941.length)] false, .buf 1 (L (cSl cU8) l_941) false]) ⟨_, orcs_nil, ?_⟩ ?_
      · subst hz_945; simp only [go_sem, reduceIte, Nat.reduceLT, Nat.reduceEqDiff, Nat.reduceAdd, Int.reduceToNat, Nat.reduceLeDiff, hc_943]
      refine blockK_n ?_
      obtain rfl := Option.some.inj h
      exact lpK_n ((y_938.Peer.Epoch, y_938.Peer.Other, y_938.Peer.First, y_938.Peer.Queue, y_938.Peer.Next, f_944, y_938.Peer.SentAt, l_941)) rfl (weak_sel [0, 1] (by decide) rfl (by simp only [go_sem, reduceIte, Nat.reduceLT, Nat.reduceEqDiff, Nat.reduceAdd]) (by simp only [go_sem, reduceIte, Nat.reduceLT, Nat.reduceEqDiff, Nat.reduceAdd]))
    · replace h := ite_f h hb
      refine run_exit ?_
      refine thenK_x ?_
      obtain rfl := Option.some.inj h
      have ex_x_929 := hxx_933 _ rfl
      subst ex_x_929
      have h := hj_931; clear hj_931
      refine lpK_x ?_
      refine blockK_x ?_
      obtain rfl := Option.some.inj h
      refine wkP_of (Weak.refl _ _) ?_
      refine ret_own (.inl rfl) [0, 1] (by decide) rfl ?_ ?_
      · simp only [go_sem, reduceIte, Nat.reduceLT, Nat.reduceEqDiff, Nat.reduceAdd]
      · simp only [go_sem, reduceIte, Nat.reduceLT, Nat.reduceEqDiff, Nat.reduceAdd]

end Go.Proofs.Ytomjphpnpcgacaa
/-
  The functions compute just that.
-/
namespace Go.Proofs.Ytomjphpnpcgacaa
open Go.Rv
set_option linter.unusedVariables false
set_option linter.unusedSimpArgs false
set_option maxRecDepth 20000
set_option maxHeartbeats 4000000

theorem window_side_keep_con {s_946 : Window_side} {k_947 : Api_Packet} {r : Window_side} (h : window_side_keep s_946 k_947 = some r) : Con B 42 [.ref 0 0, .agg [i64 k_947.Epoch, i64 k_947.To, i64 k_947.Seq, i64 k_947.Ack, .sl false (L cU8 k_947.Data)]] [.box [i64 s_946.Peer.Epoch, i64 s_946.Peer.Other, i64 s_946.Peer.First, .sl false (L (cSl cU8) s_946.Peer.Queue), i64 s_946.Peer.Next, .sl false (L cApi_Packet s_946.Peer.Early), i64 s_946.Peer.SentAt, .bs false 1 (s_946.delivered.length) 0 (s_946.delivered.length)] false, .buf 1 (L (cSl cU8) s_946.delivered) false] (fun r' σ' => r' = .tup [] ∧ σ' = [.box [i64 r.Peer.Epoch, i64 r.Peer.Other, i64 r.Peer.First, .sl false (L (cSl cU8) r.Peer.Queue), i64 r.Peer.Next, .sl false (L cApi_Packet r.Peer.Early), i64 r.Peer.SentAt, .bs false 1 (r.delivered.length) 0 (r.delivered.length)] false, .buf 1 (L (cSl cU8) r.delivered) false]) := by
  refine con_walk_own (N := 57) (rs := []) 2 rfl ok Try.func42 rfl (by decide +kernel) rfl rfl (Nat.le_of_ble_eq_true rfl) (fun F => ?_)
  have hE := ok.env F
  unfold window_side_keep at h
  show Run (B.env F) 2 _ ⟨asFr 57 [(0, .ref 0 0), (1, .agg [i64 k_947.Epoch, i64 k_947.To, i64 k_947.Seq, i64 k_947.Ack, .sl false (L cU8 k_947.Data)])], [.box [i64 s_946.Peer.Epoch, i64 s_946.Peer.Other, i64 s_946.Peer.First, .sl false (L (cSl cU8) s_946.Peer.Queue), i64 s_946.Peer.Next, .sl false (L cApi_Packet s_946.Peer.Early), i64 s_946.Peer.SentAt, .bs false 1 (s_946.delivered.length) 0 (s_946.delivered.length)] false, .buf 1 (L (cSl cU8) s_946.delivered) false]⟩ _
  refine run_wkP ?_
  refine run_textE hE [0, 3] (fr' := [(0, .ref 0 0), (3, .ref 2 0)]) (σ' := [.box [i64 s_946.Peer.Epoch, i64 s_946.Peer.Other, i64 s_946.Peer.First, .sl false (L (cSl cU8) s_946.Peer.Queue), i64 s_946.Peer.Next, .sl false (L cApi_Packet s_946.Peer.Early), i64 s_946.Peer.SentAt, .bs false 1 (s_946.delivered.length) 0 (s_946.delivered.length)] false, .buf 1 (L (cSl cU8) s_946.delivered) false, .box [i64 k_947.Epoch, i64 k_947.To, i64 k_947.Seq, i64 k_947.Ack, .sl false (L cU8 k_947.Data)] false]) ⟨_, orcs_nil, ?_⟩ ?_
  · simp only [go_sem, reduceIte, Nat.reduceLT, Nat.reduceEqDiff, Nat.reduceAdd]
  refine run_seq ?_
  replace h := bind_some1 h; obtain ⟨t_955, hv_956, h⟩ := h
  refine run_drawW hE mixed [[], [0], [], [2], [2, 3], [2, 3, 4], [2, 3, 4, 5], [0, 1, 2, 3, 4, 5, 6], [0, 1, 2, 3, 4, 5, 6, 7], [0, 1, 2, 3, 4, 5, 6, 7, 8], [0, 1, 2, 3, 4, 5, 6, 7, 8, 9], [0, 1, 2, 3, 4, 5, 6, 7, 8], [0, 1, 2, 3, 4, 5, 6, 7, 8, 11], [0, 1, 2, 3, 4, 5, 6, 7, 8, 11, 12], [0, 1, 2, 3, 4, 5, 6, 7, 8, 11, 12, 13], [0, 1, 2, 3, 4, 5, 6, 7, 8, 11, 12, 13, 14], [0, 1, 2, 3, 4, 5, 6, 7, 8, 11, 12, 13, 14, 15], [0, 1, 2, 3, 4, 5, 6, 7, 8, 9, 10, 11, 12, 13, 14, 15, 16], [0, 1, 2, 3, 4, 5, 6, 7, 8, 9, 10, 11, 12, 13, 14, 15, 16, 17]] (by kernel_rfl) (by kernel_rfl) [0, 3, 24] (fr' := [(0, .ref 0 0), (3, .ref 2 0), (24, .bool t_955)]) (σ' := [.box [i64 s_946.Peer.Epoch, i64 s_946.Peer.Other, i64 s_946.Peer.First, .sl false (L (cSl cU8) s_946.Peer.Queue), i64 s_946.Peer.Next, .sl false (L cApi_Packet s_946.Peer.Early), i64 s_946.Peer.SentAt, .bs false 1 (s_946.delivered.length) 0 (s_946.delivered.length)] false, .buf 1 (L (cSl cU8) s_946.delivered) false, .box [i64 k_947.Epoch, i64 k_947.To, i64 k_947.Seq, i64 k_947.Ack, .sl false (L cU8 k_947.Data)] false]) ?_ ?_
  · rcases Bool.eq_false_or_eq_true ((decide (k_947.Seq ≤ s_946.Peer.Next))) with hb_957 | hb_957
    · replace hv_956 := ite_t hv_956 hb_957
      have e_hv_956 := Option.some.inj hv_956; subst e_hv_956
      exact ⟨_, [(0, .ref 0 0), (3, .ref 2 0), (24, .bool true)], [.box [i64 s_946.Peer.Epoch, i64 s_946.Peer.Other, i64 s_946.Peer.First, .sl false (L (cSl cU8) s_946.Peer.Queue), i64 s_946.Peer.Next, .sl false (L cApi_Packet s_946.Peer.Early), i64 s_946.Peer.SentAt, .bs false 1 (s_946.delivered.length) 0 (s_946.delivered.length)] false, .buf 1 (L (cSl cU8) s_946.delivered) false, .box [i64 k_947.Epoch, i64 k_947.To, i64 k_947.Seq, i64 k_947.Ack, .sl false (L cU8 k_947.Data)] false], orcs_nil, by simp only [go_sem, reduceIte, Nat.reduceLT, Nat.reduceEqDiff, Nat.reduceAdd, hb_957], (weak_sel [0, 1, 2] (by decide) rfl (by simp only [go_sem, reduceIte, Nat.reduceLT, Nat.reduceEqDiff, Nat.reduceAdd]) (by simp only [go_sem, reduceIte, Nat.reduceLT, Nat.reduceEqDiff, Nat.reduceAdd]))⟩
    · replace hv_956 := ite_f hv_956 hb_957
      have e_hv_956 := Option.some.inj hv_956; subst e_hv_956
      exact ⟨_, [(0, .ref 0 0), (3, .ref 2 0), (24, .bool ((decide (k_947.Seq ≥ (w64 (s_946.Peer.Next + 64))))))], [.box [i64 s_946.Peer.Epoch, i64 s_946.Peer.Other, i64 s_946.Peer.First, .sl false (L (cSl cU8) s_946.Peer.Queue), i64 s_946.Peer.Next, .sl false (L cApi_Packet s_946.Peer.Early), i64 s_946.Peer.SentAt, .bs false 1 (s_946.delivered.length) 0 (s_946.delivered.length)] false, .buf 1 (L (cSl cU8) s_946.delivered) false, .box [i64 k_947.Epoch, i64 k_947.To, i64 k_947.Seq, i64 k_947.Ack, .sl false (L cU8 k_947.Data)] false], orcs_nil, by simp only [go_sem, reduceIte, Nat.reduceLT, Nat.reduceEqDiff, Nat.reduceAdd, hb_957], (weak_sel [0, 1, 2] (by decide) rfl (by simp only [go_sem, reduceIte, Nat.reduceLT, Nat.reduceEqDiff, Nat.reduceAdd]) (by simp only [go_sem, reduceIte, Nat.reduceLT, Nat.reduceEqDiff, Nat.reduceAdd]))⟩
  refine run_condL (b := t_955) rfl (by decide) (fun hb => ?_) (fun hb => ?_)
  · replace h := ite_t h hb
    refine run_ret ?_
    refine thenK_r ?_
    obtain rfl := Option.some.inj h
    refine wkP_of (Weak.refl _ _) ?_
    refine ret_own (.inr rfl) [0, 1] (by decide) rfl ?_ ?_
    · simp only [go_sem, reduceIte, Nat.reduceLT, Nat.reduceEqDiff, Nat.reduceAdd]
    · simp only [go_sem, reduceIte, Nat.reduceLT, Nat.reduceEqDiff, Nat.reduceAdd]
  · replace h := ite_f h hb
    refine run_skip ?_
    refine thenK_n ?_
    replace h := bind_some1 h; obtain ⟨y_958, hy_959, h⟩ := h
    refine run_drawE hE mixed [[], [0], [0, 1], [0, 1, 2], [0, 1, 2, 3], [], [5], [0, 1, 2, 3, 4, 5, 6], [0, 1, 2, 3, 4, 5, 6, 7], [0, 1, 2, 3, 4, 5, 6, 7, 8], [0, 1, 2, 3, 4, 5, 6, 7, 8], [0, 1, 2, 3, 4, 5, 6, 7, 8, 9], [0, 1, 2, 3, 4, 5, 6, 7, 8, 9, 10, 11]] (by kernel_rfl) (by kernel_rfl) [0, 3, 4, 5] (fr' := [(0, .ref 0 0), (3, .ref 2 0), (4, i64 y_958.1), (5, .bool y_958.2)]) (σ' := [.box [i64 s_946.Peer.Epoch, i64 s_946.Peer.Other, i64 s_946.Peer.First, .sl false (L (cSl cU8) s_946.Peer.Queue), i64 s_946.Peer.Next, .sl false (L cApi_Packet s_946.Peer.Early), i64 s_946.Peer.SentAt, .bs false 1 (s_946.delivered.length) 0 (s_946.delivered.length)] false, .buf 1 (L (cSl cU8) s_946.delivered) false, .box [i64 k_947.Epoch, i64 k_947.To, i64 k_947.Seq, i64 k_947.Ack, .sl false (L cU8 k_947.Data)] false]) ⟨_, orcs_ok (l := [(33, 56, [.sl false (L cApi_Packet s_946.Peer.Early), i64 k_947.Seq, .fn 57 []], .tup [i64 y_958.1, .bool y_958.2])]) ⟨slices_BinarySearchFunc_56_con (fun h => window_side_keep_1_con h) hy_959, trivial⟩, ?_⟩ ?_
    · simp only [go_sem, reduceIte, Nat.reduceLT, Nat.reduceEqDiff, Nat.reduceAdd]
    refine run_textE hE [0, 3, 4, 37] (fr' := [(0, .ref 0 0), (3, .ref 2 0), (4, i64 y_958.1), (37, .bool ((!y_958.2)))]) (σ' := [.box [i64 s_946.Peer.Epoch, i64 s_946.Peer.Other, i64 s_946.Peer.First, .sl false (L (cSl cU8) s_946.Peer.Queue), i64 s_946.Peer.Next, .sl false (L cApi_Packet s_946.Peer.Early), i64 s_946.Peer.SentAt, .bs false 1 (s_946.delivered.length) 0 (s_946.delivered.length)] false, .buf 1 (L (cSl cU8) s_946.delivered) false, .box [i64 k_947.Epoch, i64 k_947.To, i64 k_947.Seq, i64 k_947.Ack, .sl false (L cU8 k_947.Data)] false]) ⟨_, orcs_nil, ?_⟩ ?_
    · simp only [go_sem, reduceIte, Nat.reduceLT, Nat.reduceEqDiff, Nat.reduceAdd]
    refine run_condL (b := (!y_958.2)) rfl (by decide) (fun hb => ?_) (fun hb => ?_)
    · replace h := ite_t h hb
      cases h
    · replace h := ite_f h hb
      refine run_skip ?_
      obtain rfl := Option.some.inj h
      refine wkP_of (Weak.refl _ _) ?_
      refine ret_own (.inl rfl) [0, 1] (by decide) rfl ?_ ?_
      · simp only [go_sem, reduceIte, Nat.reduceLT, Nat.reduceEqDiff, Nat.reduceAdd]
      · simp only [go_sem, reduceIte, Nat.reduceLT, Nat.reduceEqDiff, Nat.reduceAdd]

end Go.Proofs.Ytomjphpnpcgacaa
/-
  The functions compute just that.
-/
namespace Go.Proofs.Ytomjphpnpcgacaa
open Go.Rv
set_option linter.unusedVariables false
set_option linter.unusedSimpArgs false
set_option maxRecDepth 20000
set_option maxHeartbeats 4000000

theorem window_Accept_con {p_962 : Api_Peer} {k_963 : Api_Packet} {r : Api_Peer × List (List UInt8) × Bool} (h : window_Accept p_962 k_963 = some r) : Con B 20 [.agg [i64 p_962.Epoch, i64 p_962.Other, i64 p_962.First, .sl false (L (cSl cU8) p_962.Queue), i64 p_962.Next, .sl false (L cApi_Packet p_962.Early), i64 p_962.SentAt], .agg [i64 k_963.Epoch, i64 k_963.To, i64 k_963.Seq, i64 k_963.Ack, .sl false (L cU8 k_963.Data)]] [] (fun r' σ' => r' = .tup [.agg [i64 r.1.Epoch, i64 r.1.Other, i64 r.1.First, .sl false (L (cSl cU8) r.1.Queue), i64 r.1.Next, .sl false (L cApi_Packet r.1.Early), i64 r.1.SentAt], .sl false (L (cSl cU8) r.2.1), .bool r.2.2] ∧ σ' = []) := by
  refine con_walk (N := 102) (rs := [.cell 4 25, .tmp 5, .tmp 6]) ok Try.func20 rfl (by decide +kernel) rfl rfl (Nat.le_of_ble_eq_true rfl) (fun F => ?_)
  have hE := ok.env F
  unfold window_Accept at h
  show Run (B.env F) 0 _ ⟨asFr 102 [(0, .agg [i64 p_962.Epoch, i64 p_962.Other, i64 p_962.First, .sl false (L (cSl cU8) p_962.Queue), i64 p_962.Next, .sl false (L cApi_Packet p_962.Early), i64 p_962.SentAt]), (1, .agg [i64 k_963.Epoch, i64 k_963.To, i64 k_963.Seq, i64 k_963.Ack, .sl false (L cU8 k_963.Data)])], []⟩ _
  refine run_wkP ?_
  refine run_textE hE [2, 3, 4] (fr' := [(2, .ref 0 0), (3, .ref 1 0), (4, .ref 2 0)]) (σ' := [.box [i64 p_962.Epoch, i64 p_962.Other, i64 p_962.First, .sl false (L (cSl cU8) p_962.Queue), i64 p_962.Next, .sl false (L cApi_Packet p_962.Early), i64 p_962.SentAt] false, .box [i64 k_963.Epoch, i64 k_963.To, i64 k_963.Seq, i64 k_963.Ack, .sl false (L cU8 k_963.Data)] false, .box [i64 0, i64 0, i64 0, .sl true (L (cSl cU8) ([])), i64 0, .sl true (L cApi_Packet ([])), i64 0] false]) ⟨_, orcs_nil, ?_⟩ ?_
  · simp only [go_sem, reduceIte, Nat.reduceLT, Nat.reduceEqDiff, Nat.reduceAdd, castL, Int.reduceLT, Int.reduceAdd, decide_true, decide_false, Bool.false_eq_true]
  replace h := bind_some1 h; obtain ⟨fine_967, hv_968, h⟩ := h
  refine run_textW hE [2, 3, 4, 7] (fr' := [(2, .ref 0 0), (3, .ref 1 0), (4, .ref 2 0), (7, .bool fine_967)]) (σ' := [.box [i64 p_962.Epoch, i64 p_962.Other, i64 p_962.First, .sl false (L (cSl cU8) p_962.Queue), i64 p_962.Next, .sl false (L cApi_Packet p_962.Early), i64 p_962.SentAt] false, .box [i64 k_963.Epoch, i64 k_963.To, i64 k_963.Seq, i64 k_963.Ack, .sl false (L cU8 k_963.Data)] false, .box [i64 0, i64 0, i64 0, .sl true (L (cSl cU8) ([])), i64 0, .sl true (L cApi_Packet ([])), i64 0] false]) ?_ ?_
  · replace hv_968 := bind_some1 hv_968; obtain ⟨y_964, hy_969, hv_968⟩ := hv_968
    rcases Bool.eq_false_or_eq_true y_964 with hb_970 | hb_970
    · replace hv_968 := ite_t hv_968 hb_970
      replace hv_968 := bind_some1 hv_968; obtain ⟨y_965, hy_971, hv_968⟩ := hv_968
      rcases Bool.eq_false_or_eq_true y_965 with hb_972 | hb_972
      · replace hv_968 := ite_t hv_968 hb_972
        replace hv_968 := bind_some1 hv_968; obtain ⟨y_966, hy_973, hv_968⟩ := hv_968
        rcases Bool.eq_false_or_eq_true y_966 with hb_974 | hb_974
        · replace hv_968 := ite_t hv_968 hb_974
          have e_hv_968 := Option.some.inj hv_968; subst e_hv_968
          exact ⟨_, [(2, .ref 0 0), (3, .ref 1 0), (4, .ref 2 0), (7, .bool ((decide ((k_963.Data.length : Int) ≤ 8000))))], [.box [i64 p_962.Epoch, i64 p_962.Other, i64 p_962.First, .sl false (L (cSl cU8) p_962.Queue), i64 p_962.Next, .sl false (L cApi_Packet p_962.Early), i64 p_962.SentAt] false, .box [i64 k_963.Epoch, i64 k_963.To, i64 k_963.Seq, i64 k_963.Ack, .sl false (L cU8 k_963.Data)] false, .box [i64 0, i64 0, i64 0, .sl true (L (cSl cU8) ([])), i64 0, .sl true (L cApi_Packet ([])), i64 0] false], orcs_ok (l := [(14, 35, [i64 k_963.Epoch, i64 0, i64 1073741824], .bool y_964), (18, 35, [i64 k_963.Seq, i64 ((-1)), i64 1099511627775], .bool y_965), (23, 35, [i64 k_963.Ack, i64 0, i64 1099511627776], .bool y_966)]) ⟨window_between_con  hy_969, window_between_con  hy_971, window_between_con  hy_973, trivial⟩, by simp only [go_sem, reduceIte, Nat.reduceLT, Nat.reduceEqDiff, Nat.reduceAdd, castL, Int.reduceLT, Int.reduceAdd, decide_true, decide_false, Bool.false_eq_true, hb_970, hb_972, hb_974], (weak_sel [0, 1, 2] (by decide) rfl (by simp only [go_sem, reduceIte, Nat.reduceLT, Nat.reduceEqDiff, Nat.reduceAdd]) (by simp only [go_sem, reduceIte, Nat.reduceLT, Nat.reduceEqDiff, Nat.reduceAdd]))⟩
        · replace hv_968 := ite_f hv_968 hb_974
          have e_hv_968 := Option.some.inj hv_968; subst e_hv_968
          exact ⟨_, [(2, .ref 0 0), (3, .ref 1 0), (4, .ref 2 0), (7, .bool false)], [.box [i64 p_962.Epoch, i64 p_962.Other, i64 p_962.First, .sl false (L (cSl cU8) p_962.Queue), i64 p_962.Next, .sl false (L cApi_Packet p_962.Early), i64 p_962.SentAt] false, .box [i64 k_963.Epoch, i64 k_963.To, i64 k_963.Seq, i64 k_963.Ack, .sl false (L cU8 k_963.Data)] false, .box [i64 0, i64 0, i64 0, .sl true (L (cSl cU8) ([])), i64 0, .sl true (L cApi_Packet ([])), i64 0] false], orcs_ok (l := [(14, 35, [i64 k_963.Epoch, i64 0, i64 1073741824], .bool y_964), (18, 35, [i64 k_963.Seq, i64 ((-1)), i64 1099511627775], .bool y_965), (23, 35, [i64 k_963.Ack, i64 0, i64 1099511627776], .bool y_966)]) ⟨window_between_con  hy_969, window_between_con  hy_971, window_between_con  hy_973, trivial⟩, by simp only [go_sem, reduceIte, Nat.reduceLT, Nat.reduceEqDiff, Nat.reduceAdd, castL, Int.reduceLT, Int.reduceAdd, decide_true, decide_false, Bool.false_eq_true, hb_970, hb_972, hb_974], (weak_sel [0, 1, 2] (by decide) rfl (by simp only [go_sem, reduceIte, Nat.reduceLT, Nat.reduceEqDiff, Nat.reduceAdd]) (by simp only [go_sem, reduceIte, Nat.reduceLT, Nat.reduceEqDiff, Nat.reduceAdd]))⟩
      · replace hv_968 := ite_f hv_968 hb_972
        have e_hv_968 := Option.some.inj hv_968; subst e_hv_968
        exact ⟨_, [(2, .ref 0 0), (3, .ref 1 0), (4, .ref 2 0), (7, .bool false)], [.box [i64 p_962.Epoch, i64 p_962.Other, i64 p_962.First, .sl false (L (cSl cU8) p_962.Queue), i64 p_962.Next, .sl false (L cApi_Packet p_962.Early), i64 p_962.SentAt] false, .box [i64 k_963.Epoch, i64 k_963.To, i64 k_963.Seq, i64 k_963.Ack, .sl false (L cU8 k_963.Data)] false, .box [i64 0, i64 0, i64 0, .sl true (L (cSl cU8) ([])), i64 0, .sl true (L cApi_Packet ([])), i64 0] false], orcs_ok (l := [(14, 35, [i64 k_963.Epoch, i64 0, i64 1073741824], .bool y_964), (18, 35, [i64 k_963.Seq, i64 ((-1)), i64 1099511627775], .bool y_965)]) ⟨window_between_con  hy_969, window_between_con  hy_971, trivial⟩, by simp only [go_sem, reduceIte, Nat.reduceLT, Nat.reduceEqDiff, Nat.reduceAdd, castL, Int.reduceLT, Int.reduceAdd, decide_true, decide_false, Bool.false_eq_true, hb_970, hb_972], (weak_sel [0, 1, 2] (by decide) rfl (by simp only [go_sem, reduceIte, Nat.reduceLT, Nat.reduceEqDiff, Nat.reduceAdd]) (by simp only [go_sem, reduceIte, Nat.reduceLT, Nat.reduceEqDiff, Nat.reduceAdd]))⟩
    · replace hv_968 := ite_f hv_968 hb_970
      have e_hv_968 := Option.some.inj hv_968; subst e_hv_968
      exact ⟨_, [(2, .ref 0 0), (3, .ref 1 0), (4, .ref 2 0), (7, .bool false)], [.box [i64 p_962.Epoch, i64 p_962.Other, i64 p_962.First, .sl false (L (cSl cU8) p_962.Queue), i64 p_962.Next, .sl false (L cApi_Packet p_962.Early), i64 p_962.SentAt] false, .box [i64 k_963.Epoch, i64 k_963.To, i64 k_963.Seq, i64 k_963.Ack, .sl false (L cU8 k_963.Data)] false, .box [i64 0, i64 0, i64 0, .sl true (L (cSl cU8) ([])), i64 0, .sl true (L cApi_Packet ([])), i64 0] false], orcs_ok (l := [(14, 35, [i64 k_963.Epoch, i64 0, i64 1073741824], .bool y_964)]) ⟨window_between_con  hy_969, trivial⟩, by simp only [go_sem, reduceIte, Nat.reduceLT, Nat.reduceEqDiff, Nat.reduceAdd, castL, Int.reduceLT, Int.reduceAdd, decide_true, decide_false, Bool.false_eq_true, hb_970], (weak_sel [0, 1, 2] (by decide) rfl (by simp only [go_sem, reduceIte, Nat.reduceLT, Nat.reduceEqDiff, Nat.reduceAdd]) (by simp only [go_sem, reduceIte, Nat.reduceLT, Nat.reduceEqDiff, Nat.reduceAdd]))⟩
  refine run_seq ?_
  replace h := bind_some1 h; obtain ⟨t_976, hv_977, h⟩ := h
  refine run_textW hE [2, 3, 4, 44] (fr' := [(2, .ref 0 0), (3, .ref 1 0), (4, .ref 2 0), (44, .bool t_976)]) (σ' := [.box [i64 p_962.Epoch, i64 p_962.Other, i64 p_962.First, .sl false (L (cSl cU8) p_962.Queue), i64 p_962.Next, .sl false (L cApi_Packet p_962.Early), i64 p_962.SentAt] false, .box [i64 k_963.Epoch, i64 k_963.To, i64 k_963.Seq, i64 k_963.Ack, .sl false (L cU8 k_963.Data)] false, .box [i64 0, i64 0, i64 0, .sl true (L (cSl cU8) ([])), i64 0, .sl true (L cApi_Packet ([])), i64 0] false]) ?_ ?_
  · rcases Bool.eq_false_or_eq_true ((!fine_967)) with hb_978 | hb_978
    · replace hv_977 := ite_t hv_977 hb_978
      have e_hv_977 := Option.some.inj hv_977; subst e_hv_977
      exact ⟨_, [(2, .ref 0 0), (3, .ref 1 0), (4, .ref 2 0), (44, .bool true)], [.box [i64 p_962.Epoch, i64 p_962.Other, i64 p_962.First, .sl false (L (cSl cU8) p_962.Queue), i64 p_962.Next, .sl false (L cApi_Packet p_962.Early), i64 p_962.SentAt] false, .box [i64 k_963.Epoch, i64 k_963.To, i64 k_963.Seq, i64 k_963.Ack, .sl false (L cU8 k_963.Data)] false, .box [i64 0, i64 0, i64 0, .sl true (L (cSl cU8) ([])), i64 0, .sl true (L cApi_Packet ([])), i64 0] false], orcs_nil, by simp only [go_sem, reduceIte, Nat.reduceLT, Nat.reduceEqDiff, Nat.reduceAdd, castL, Int.reduceLT, Int.reduceAdd, decide_true, decide_false, Bool.false_eq_true, hb_978], (weak_sel [0, 1, 2] (by decide) rfl (by simp only [go_sem, reduceIte, Nat.reduceLT, Nat.reduceEqDiff, Nat.reduceAdd]) (by simp only [go_sem, reduceIte, Nat.reduceLT, Nat.reduceEqDiff, Nat.reduceAdd]))⟩
    · replace hv_977 := ite_f hv_977 hb_978
      replace hv_977 := bind_some1 hv_977; obtain ⟨y_975, hy_979, hv_977⟩ := hv_977
      rcases Bool.eq_false_or_eq_true ((!y_975)) with hb_980 | hb_980
      · replace hv_977 := ite_t hv_977 hb_980
        have e_hv_977 := Option.some.inj hv_977; subst e_hv_977
        exact ⟨_, [(2, .ref 0 0), (3, .ref 1 0), (4, .ref 2 0), (44, .bool true)], [.box [i64 p_962.Epoch, i64 p_962.Other, i64 p_962.First, .sl false (L (cSl cU8) p_962.Queue), i64 p_962.Next, .sl false (L cApi_Packet p_962.Early), i64 p_962.SentAt] false, .box [i64 k_963.Epoch, i64 k_963.To, i64 k_963.Seq, i64 k_963.Ack, .sl false (L cU8 k_963.Data)] false, .box [i64 0, i64 0, i64 0, .sl true (L (cSl cU8) ([])), i64 0, .sl true (L cApi_Packet ([])), i64 0] false], orcs_ok (l := [(35, 37, [.agg [i64 p_962.Epoch, i64 p_962.Other, i64 p_962.First, .sl false (L (cSl cU8) p_962.Queue), i64 p_962.Next, .sl false (L cApi_Packet p_962.Early), i64 p_962.SentAt]], .bool y_975)]) ⟨window_valid_con  hy_979, trivial⟩, by simp only [go_sem, reduceIte, Nat.reduceLT, Nat.reduceEqDiff, Nat.reduceAdd, castL, Int.reduceLT, Int.reduceAdd, decide_true, decide_false, Bool.false_eq_true, hb_978, hb_980], (weak_sel [0, 1, 2] (by decide) rfl (by simp only [go_sem, reduceIte, Nat.reduceLT, Nat.reduceEqDiff, Nat.reduceAdd]) (by simp only [go_sem, reduceIte, Nat.reduceLT, Nat.reduceEqDiff, Nat.reduceAdd]))⟩
      · replace hv_977 := ite_f hv_977 hb_980
        have e_hv_977 := Option.some.inj hv_977; subst e_hv_977
        exact ⟨_, [(2, .ref 0 0), (3, .ref 1 0), (4, .ref 2 0), (44, .bool ((decide (k_963.Epoch < p_962.Other))))], [.box [i64 p_962.Epoch, i64 p_962.Other, i64 p_962.First, .sl false (L (cSl cU8) p_962.Queue), i64 p_962.Next, .sl false (L cApi_Packet p_962.Early), i64 p_962.SentAt] false, .box [i64 k_963.Epoch, i64 k_963.To, i64 k_963.Seq, i64 k_963.Ack, .sl false (L cU8 k_963.Data)] false, .box [i64 0, i64 0, i64 0, .sl true (L (cSl cU8) ([])), i64 0, .sl true (L cApi_Packet ([])), i64 0] false], orcs_ok (l := [(35, 37, [.agg [i64 p_962.Epoch, i64 p_962.Other, i64 p_962.First, .sl false (L (cSl cU8) p_962.Queue), i64 p_962.Next, .sl false (L cApi_Packet p_962.Early), i64 p_962.SentAt]], .bool y_975)]) ⟨window_valid_con  hy_979, trivial⟩, by simp only [go_sem, reduceIte, Nat.reduceLT, Nat.reduceEqDiff, Nat.reduceAdd, castL, Int.reduceLT, Int.reduceAdd, decide_true, decide_false, Bool.false_eq_true, hb_978, hb_980], (weak_sel [0, 1, 2] (by decide) rfl (by simp only [go_sem, reduceIte, Nat.reduceLT, Nat.reduceEqDiff, Nat.reduceAdd]) (by simp only [go_sem, reduceIte, Nat.reduceLT, Nat.reduceEqDiff, Nat.reduceAdd]))⟩
  refine run_condL (b := t_976) rfl (by decide) (fun hb => ?_) (fun hb => ?_)
  · replace h := ite_t h hb
    refine run_textE hE [4, 5, 6] (fr' := [(4, .ref 2 0), (5, .sl true (L (cSl cU8) ([]))), (6, .bool false)]) (σ' := [.box [i64 p_962.Epoch, i64 p_962.Other, i64 p_962.First, .sl false (L (cSl cU8) p_962.Queue), i64 p_962.Next, .sl false (L cApi_Packet p_962.Early), i64 p_962.SentAt] false, .box [i64 k_963.Epoch, i64 k_963.To, i64 k_963.Seq, i64 k_963.Ack, .sl false (L cU8 k_963.Data)] false, .box [i64 p_962.Epoch, i64 p_962.Other, i64 p_962.First, .sl false (L (cSl cU8) p_962.Queue), i64 p_962.Next, .sl false (L cApi_Packet p_962.Early), i64 p_962.SentAt] false]) ⟨_, orcs_nil, ?_⟩ ?_
    · simp only [go_sem, reduceIte, Nat.reduceLT, Nat.reduceEqDiff, Nat.reduceAdd, Nat.reduceLeDiff, castL, Int.reduceLT, Int.reduceAdd, decide_true, decide_false, Bool.false_eq_true]
    refine run_ret ?_
    refine thenK_r ?_
    obtain rfl := Option.some.inj h
    refine wkP_of (Weak.refl _ _) ?_
    refine ret_ok (.inr rfl) ?_
    simp only [go_sem, reduceIte, Nat.reduceLT, Nat.reduceEqDiff, Nat.reduceAdd]
  · replace h := ite_f h hb
    refine run_skip ?_
    refine thenK_n ?_
    refine run_textE hE [3, 4, 8] (fr' := [(3, .ref 1 0), (4, .ref 2 0), (8, .ref 3 0)]) (σ' := [.box [i64 p_962.Epoch, i64 p_962.Other, i64 p_962.First, .sl false (L (cSl cU8) p_962.Queue), i64 p_962.Next, .sl false (L cApi_Packet p_962.Early), i64 p_962.SentAt] false, .box [i64 k_963.Epoch, i64 k_963.To, i64 k_963.Seq, i64 k_963.Ack, .sl false (L cU8 k_963.Data)] false, .box [i64 0, i64 0, i64 0, .sl true (L (cSl cU8) ([])), i64 0, .sl true (L cApi_Packet ([])), i64 0] false, .box [i64 p_962.Epoch, i64 p_962.Other, i64 p_962.First, .sl false (L (cSl cU8) p_962.Queue), i64 p_962.Next, .sl false (L cApi_Packet p_962.Early), i64 p_962.SentAt, .sl true (L (cSl cU8) ([]))] false]) ⟨_, orcs_nil, ?_⟩ ?_
    · simp only [go_sem, reduceIte, Nat.reduceLT, Nat.reduceEqDiff, Nat.reduceAdd, Nat.reduceGT, castL, Int.reduceLT, Int.reduceAdd, decide_true, decide_false, Bool.false_eq_true]
    replace h := lt1_some h; obtain ⟨reset_981, hz_982, h⟩ := h
    refine run_drawE hE mixed [[], [0], [], [2], [2, 3], [2, 3, 4], [2, 3, 4, 5], [0, 1, 2, 3, 4, 5, 6], [0, 1, 2, 3, 4, 5, 6, 7]] (by kernel_rfl) (by kernel_rfl) [3, 4, 8, 9] (fr' := [(3, .ref 1 0), (4, .ref 2 0), (8, .ref 3 0), (9, .bool reset_981)]) (σ' := [.box [i64 p_962.Epoch, i64 p_962.Other, i64 p_962.First, .sl false (L (cSl cU8) p_962.Queue), i64 p_962.Next, .sl false (L cApi_Packet p_962.Early), i64 p_962.SentAt] false, .box [i64 k_963.Epoch, i64 k_963.To, i64 k_963.Seq, i64 k_963.Ack, .sl false (L cU8 k_963.Data)] false, .box [i64 0, i64 0, i64 0, .sl true (L (cSl cU8) ([])), i64 0, .sl true (L cApi_Packet ([])), i64 0] false, .box [i64 p_962.Epoch, i64 p_962.Other, i64 p_962.First, .sl false (L (cSl cU8) p_962.Queue), i64 p_962.Next, .sl false (L cApi_Packet p_962.Early), i64 p_962.SentAt, .sl true (L (cSl cU8) ([]))] false]) ⟨_, orcs_nil, ?_⟩ ?_
    · subst hz_982; simp only [go_sem, reduceIte, Nat.reduceLT, Nat.reduceEqDiff, Nat.reduceAdd, castL, Int.reduceLT, Int.reduceAdd, decide_true, decide_false, Bool.false_eq_true]
    replace h := bind_some1 h; obtain ⟨j_989, hA_990, hj_991⟩ := h
    refine run_join (fun (v : Int × Int × List (List UInt8) × Int × List Api_Packet × Int) => (⟨asFr 102 [(3, .ref 0 0), (4, .ref 1 0), (8, .ref 2 0), (9, .bool reset_981)], [.box [i64 k_963.Epoch, i64 k_963.To, i64 k_963.Seq, i64 k_963.Ack, .sl false (L cU8 k_963.Data)] false, .box [i64 0, i64 0, i64 0, .sl true (L (cSl cU8) ([])), i64 0, .sl true (L cApi_Packet ([])), i64 0] false, .box [i64 p_962.Epoch, i64 v.1, i64 v.2.1, .sl false (L (cSl cU8) v.2.2.1), i64 v.2.2.2.1, .sl false (L cApi_Packet v.2.2.2.2.1), i64 v.2.2.2.2.2, .sl true (L (cSl cU8) ([]))] false]⟩ : St)) (fun v => v = j_989) ?_ ?_
    · have h := hA_990; clear hA_990
      refine run_textE hE [3, 4, 8, 9, 57] (fr' := [(3, .ref 1 0), (4, .ref 2 0), (8, .ref 3 0), (9, .bool reset_981), (57, .bool reset_981)]) (σ' := [.box [i64 p_962.Epoch, i64 p_962.Other, i64 p_962.First, .sl false (L (cSl cU8) p_962.Queue), i64 p_962.Next, .sl false (L cApi_Packet p_962.Early), i64 p_962.SentAt] false, .box [i64 k_963.Epoch, i64 k_963.To, i64 k_963.Seq, i64 k_963.Ack, .sl false (L cU8 k_963.Data)] false, .box [i64 0, i64 0, i64 0, .sl true (L (cSl cU8) ([])), i64 0, .sl true (L cApi_Packet ([])), i64 0] false, .box [i64 p_962.Epoch, i64 p_962.Other, i64 p_962.First, .sl false (L (cSl cU8) p_962.Queue), i64 p_962.Next, .sl false (L cApi_Packet p_962.Early), i64 p_962.SentAt, .sl true (L (cSl cU8) ([]))] false]) ⟨_, orcs_nil, ?_⟩ ?_
      · simp only [go_sem, reduceIte, Nat.reduceLT, Nat.reduceEqDiff, Nat.reduceAdd, castL, Int.reduceLT, Int.reduceAdd, decide_true, decide_false, Bool.false_eq_true]
      refine run_condL (b := reset_981) rfl (by decide) (fun hb => ?_) (fun hb => ?_)
      · replace h := ite_t h hb
        refine run_drawE0 hE mixed [[], [], [1], [1, 2], [1, 2, 3], [1, 2, 3, 4], [], [6], [1, 2, 3, 4, 5, 6, 7], [0, 1, 2, 3, 4, 5, 6, 7, 8], [0, 1, 2, 3, 4, 5, 6, 7, 8, 9], [0, 1, 2, 3, 4, 5, 6, 7, 8, 9, 10]] (by kernel_rfl) (by kernel_rfl) wk_join [3, 4, 8, 9] (fr' := [(3, .ref 1 0), (4, .ref 2 0), (8, .ref 3 0), (9, .bool reset_981)]) (σ' := [.box [i64 p_962.Epoch, i64 p_962.Other, i64 p_962.First, .sl false (L (cSl cU8) p_962.Queue), i64 p_962.Next, .sl false (L cApi_Packet p_962.Early), i64 p_962.SentAt] false, .box [i64 k_963.Epoch, i64 k_963.To, i64 k_963.Seq, i64 k_963.Ack, .sl false (L cU8 k_963.Data)] false, .box [i64 0, i64 0, i64 0, .sl true (L (cSl cU8) ([])), i64 0, .sl true (L cApi_Packet ([])), i64 0] false, .box [i64 p_962.Epoch, i64 k_963.Epoch, i64 0, .sl true (L (cSl cU8) ([])), i64 0, .sl true (L cApi_Packet ([])), i64 ((-1)), .sl true (L (cSl cU8) ([]))] false]) ⟨_, orcs_nil, ?_⟩ ?_
        · simp only [go_sem, reduceIte, Nat.reduceLT, Nat.reduceEqDiff, Nat.reduceAdd, Nat.reduceGT, Nat.reduceLeDiff, castL, Int.reduceLT, Int.reduceAdd, decide_true, decide_false, Bool.false_eq_true]
        obtain rfl := Option.some.inj h
        exact joinK_n ((k_963.Epoch, 0, [], 0, [], (-1))) rfl (weak_sel [1, 2, 3] (by decide) rfl (by simp only [go_sem, reduceIte, Nat.reduceLT, Nat.reduceEqDiff, Nat.reduceAdd]) (by simp only [go_sem, reduceIte, Nat.reduceLT, Nat.reduceEqDiff, Nat.reduceAdd]))
      · replace h := ite_f h hb
        refine run_skip ?_
        obtain rfl := Option.some.inj h
        exact joinK_n ((p_962.Other, p_962.First, p_962.Queue, p_962.Next, p_962.Early, p_962.SentAt)) rfl (weak_sel [1, 2, 3] (by decide) rfl (by simp only [go_sem, reduceIte, Nat.reduceLT, Nat.reduceEqDiff, Nat.reduceAdd]) (by simp only [go_sem, reduceIte, Nat.reduceLT, Nat.reduceEqDiff, Nat.reduceAdd]))
    rintro ⟨f_983, f_984, f_985, f_986, f_987, f_988⟩ rfl
    have h := hj_991; clear hj_991
    replace h := bind_some1 h; obtain ⟨j_1018, hA_1019, hj_1020⟩ := h
    refine run_join (fun (v : Int × Int × Int × List (List UInt8) × Int × List Api_Packet × Int × List (List UInt8)) => (⟨asFr 102 [(4, .ref 0 0), (8, .ref 1 0), (9, .bool reset_981)], [.box [i64 0, i64 0, i64 0, .sl true (L (cSl cU8) ([])), i64 0, .sl true (L cApi_Packet ([])), i64 0] false, .box [i64 v.1, i64 v.2.1, i64 v.2.2.1, .sl false (L (cSl cU8) v.2.2.2.1), i64 v.2.2.2.2.1, .sl false (L cApi_Packet v.2.2.2.2.2.1), i64 v.2.2.2.2.2.2.1, .bs false 2 (v.2.2.2.2.2.2.2.length) 0 (v.2.2.2.2.2.2.2.length)] false, .buf 1 (L (cSl cU8) v.2.2.2.2.2.2.2) false]⟩ : St)) (fun v => v = j_1018) ?_ ?_
    · have h := hA_1019; clear hA_1019
      refine run_drawE hE mixed [[], [0], [], [2], [2, 3], [2, 3, 4], [2, 3, 4, 5], [0, 1, 2, 3, 4, 5, 6]] (by kernel_rfl) (by kernel_rfl) [3, 4, 8, 9, 76] (fr' := [(3, .ref 0 0), (4, .ref 1 0), (8, .ref 2 0), (9, .bool reset_981), (76, .bool ((k_963.To == p_962.Epoch)))]) (σ' := [.box [i64 k_963.Epoch, i64 k_963.To, i64 k_963.Seq, i64 k_963.Ack, .sl false (L cU8 k_963.Data)] false, .box [i64 0, i64 0, i64 0, .sl true (L (cSl cU8) ([])), i64 0, .sl true (L cApi_Packet ([])), i64 0] false, .box [i64 p_962.Epoch, i64 f_983, i64 f_984, .sl false (L (cSl cU8) f_985), i64 f_986, .sl false (L cApi_Packet f_987), i64 f_988, .sl true (L (cSl cU8) ([]))] false]) ⟨_, orcs_nil, ?_⟩ ?_
      · simp only [go_sem, reduceIte, Nat.reduceLT, Nat.reduceEqDiff, Nat.reduceAdd, castL, Int.reduceLT, Int.reduceAdd, decide_true, decide_false, Bool.false_eq_true]
      refine run_condL (b := (k_963.To == p_962.Epoch)) rfl (by decide) (fun hb => ?_) (fun hb => ?_)
      · replace h := ite_t h hb
        refine run_textE hE [3, 4, 8, 9, 83, 84, 85] (fr' := [(3, .ref 0 0), (4, .ref 1 0), (8, .ref 2 0), (9, .bool reset_981), (83, .bs true 3 3 0 3), (84, i64 3), (85, i64 0)]) (σ' := [.box [i64 k_963.Epoch, i64 k_963.To, i64 k_963.Seq, i64 k_963.Ack, .sl false (L cU8 k_963.Data)] false, .box [i64 0, i64 0, i64 0, .sl true (L (cSl cU8) ([])), i64 0, .sl true (L cApi_Packet ([])), i64 0] false, .box [i64 p_962.Epoch, i64 f_983, i64 f_984, .sl false (L (cSl cU8) f_985), i64 f_986, .sl false (L cApi_Packet f_987), i64 f_988, .sl true (L (cSl cU8) ([]))] false, .buf 1 [[.fn 41 [.tup [.ref 2 0]]], [.fn 42 [.tup [.ref 2 0]]], [.fn 43 [.tup [.ref 2 0]]]] false]) ⟨_, orcs_nil, ?_⟩ ?_
        · simp only [go_sem, reduceIte, Nat.reduceLT, Nat.reduceEqDiff, Nat.reduceAdd, Nat.reduceBEq, Nat.reduceMul, Nat.reduceSub, Nat.reduceGT, Nat.reducePow, Nat.reduceLeDiff, Int.reduceToNat, castL, Int.reduceLT, Int.reduceAdd, decide_true, decide_false, Bool.false_eq_true]
        refine run_block ?_
        refine run_loop 9 ?_
        refine loopN_go (m := 8) ?_
        refine run_textE hE [3, 4, 8, 9, 83, 84, 85, 86] (fr' := [(3, .ref 0 0), (4, .ref 1 0), (8, .ref 2 0), (9, .bool reset_981), (83, .bs true 3 3 0 3), (84, i64 3), (85, i64 0), (86, .bool true)]) (σ' := [.box [i64 k_963.Epoch, i64 k_963.To, i64 k_963.Seq, i64 k_963.Ack, .sl false (L cU8 k_963.Data)] false, .box [i64 0, i64 0, i64 0, .sl true (L (cSl cU8) ([])), i64 0, .sl true (L cApi_Packet ([])), i64 0] false, .box [i64 p_962.Epoch, i64 f_983, i64 f_984, .sl false (L (cSl cU8) f_985), i64 f_986, .sl false (L cApi_Packet f_987), i64 f_988, .sl true (L (cSl cU8) ([]))] false, .buf 1 [[.fn 41 [.tup [.ref 2 0]]], [.fn 42 [.tup [.ref 2 0]]], [.fn 43 [.tup [.ref 2 0]]]] false]) ⟨_, orcs_nil, ?_⟩ ?_
        · simp only [go_sem, reduceIte, Nat.reduceLT, Nat.reduceEqDiff, Nat.reduceAdd, castL, Int.reduceLT, Int.reduceAdd, decide_true, decide_false, Bool.false_eq_true]
        refine run_seq ?_
        refine run_condL (b := true) rfl (by decide) (fun hb => ?_) (fun hb => ?_)
        · refine run_skip ?_
          refine thenK_n ?_
          refine run_seq ?_
          refine run_block ?_
          have hk_1021 : InR 0 3 := by decide
          refine run_textE hE [3, 4, 8, 9, 11, 83, 84, 85] (fr' := [(3, .ref 0 0), (4, .ref 1 0), (8, .ref 2 0), (9, .bool reset_981), (11, .fn 41 [.tup [.ref 2 0]]), (83, .bs true 3 3 0 3), (84, i64 3), (85, i64 0)]) (σ' := [.box [i64 k_963.Epoch, i64 k_963.To, i64 k_963.Seq, i64 k_963.Ack, .sl false (L cU8 k_963.Data)] false, .box [i64 0, i64 0, i64 0, .sl true (L (cSl cU8) ([])), i64 0, .sl true (L cApi_Packet ([])), i64 0] false, .box [i64 p_962.Epoch, i64 f_983, i64 f_984, .sl false (L (cSl cU8) f_985), i64 f_986, .sl false (L cApi_Packet f_987), i64 f_988, .sl true (L (cSl cU8) ([]))] false, .buf 1 [[.fn 41 [.tup [.ref 2 0]]], [.fn 42 [.tup [.ref 2 0]]], [.fn 43 [.tup [.ref 2 0]]]] false]) ⟨_, orcs_nil, ?_⟩ ?_
          · simp only [go_sem, reduceIte, Nat.reduceLT, Nat.reduceEqDiff, Nat.reduceAdd, Int.reduceToNat, castL, Int.reduceLT, Int.reduceAdd, decide_true, decide_false, Bool.false_eq_true, hk_1021, hk_1021.2]
          refine run_weak (weak_nil_box 2 7 1 rfl rfl) ?_
          replace h := bind_some1 h; obtain ⟨y_1022, hy_1023, h⟩ := h
          replace h := lt1_some h; obtain ⟨l_1024, hz_1025, h⟩ := h
          refine run_textE0 hE (wk_block wk_then) [3, 4, 8, 9, 83, 84, 85] (fr' := [(3, .ref 0 0), (4, .ref 1 0), (8, .ref 2 0), (9, .bool reset_981), (83, .bs true 3 3 0 3), (84, i64 3), (85, i64 0)]) (σ' := [.box [i64 k_963.Epoch, i64 k_963.To, i64 k_963.Seq, i64 k_963.Ack, .sl false (L cU8 k_963.Data)] false, .box [i64 0, i64 0, i64 0, .sl true (L (cSl cU8) ([])), i64 0, .sl true (L cApi_Packet ([])), i64 0] false, .box [i64 y_1022.Peer.Epoch, i64 y_1022.Peer.Other, i64 y_1022.Peer.First, .sl false (L (cSl cU8) y_1022.Peer.Queue), i64 y_1022.Peer.Next, .sl false (L cApi_Packet y_1022.Peer.Early), i64 y_1022.Peer.SentAt, .bs false 4 (l_1024.length) 0 (l_1024.length)] false, .buf 1 [[.fn 41 [.tup [.ref 2 0]]], [.fn 42 [.tup [.ref 2 0]]], [.fn 43 [.tup [.ref 2 0]]]] false, .buf 1 (L (cSl cU8) l_1024) false]) ⟨_, orcs_ok2 (l := []) (m := [(91, 41, [.ref 2 0, .agg [i64 k_963.Epoch, i64 k_963.To, i64 k_963.Seq, i64 k_963.Ack, .sl false (L cU8 k_963.Data)]], [.box [i64 k_963.Epoch, i64 k_963.To, i64 k_963.Seq, i64 k_963.Ack, .sl false (L cU8 k_963.Data)] false, .box [i64 0, i64 0, i64 0, .sl true (L (cSl cU8) ([])), i64 0, .sl true (L cApi_Packet ([])), i64 0] false, .box [i64 p_962.Epoch, i64 f_983, i64 f_984, .sl false (L (cSl cU8) f_985), i64 f_986, .sl false (L cApi_Packet f_987), i64 f_988, .bs true 4 0 0 0] false, .buf 1 [[.fn 41 [.tup [.ref 2 0]]], [.fn 42 [.tup [.ref 2 0]]], [.fn 43 [.tup [.ref 2 0]]]] false, .buf 1 (L (cSl cU8) ([])) false], .tup [], [.box [i64 k_963.Epoch, i64 k_963.To, i64 k_963.Seq, i64 k_963.Ack, .sl false (L cU8 k_963.Data)] false, .box [i64 0, i64 0, i64 0, .sl true (L (cSl cU8) ([])), i64 0, .sl true (L cApi_Packet ([])), i64 0] false, .box [i64 y_1022.Peer.Epoch, i64 y_1022.Peer.Other, i64 y_1022.Peer.First, .sl false (L (cSl cU8) y_1022.Peer.Queue), i64 y_1022.Peer.Next, .sl false (L cApi_Packet y_1022.Peer.Early), i64 y_1022.Peer.SentAt, .bs false 4 (y_1022.delivered.length) 0 (y_1022.delivered.length)] false, .buf 1 [[.fn 41 [.tup [.ref 2 0]]], [.fn 42 [.tup [.ref 2 0]]], [.fn 43 [.tup [.ref 2 0]]]] false, .buf 1 (L (cSl cU8) y_1022.delivered) false])]) trivial ⟨(wcon_call (window_side_acknowledge_con hy_1023) [2, 4] (by decide) (by simp only [go_sem, reduceIte, Nat.reduceLT, Nat.reduceEqDiff, Nat.reduceAdd]) (by simp only [go_sem, reduceIte, Nat.reduceLT, Nat.reduceEqDiff, Nat.reduceAdd]) (by simp only [go_sem, reduceIte, Nat.reduceLT, Nat.reduceEqDiff, Nat.reduceAdd]) (by simp only [go_sem, reduceIte, Nat.reduceLT, Nat.reduceEqDiff, Nat.reduceAdd]) (by simp only [go_sem, reduceIte, Nat.reduceLT, Nat.reduceEqDiff, Nat.reduceAdd])), trivial⟩, ?_⟩ ?_
          · subst hz_1025; simp only [go_sem, reduceIte, Nat.reduceLT, Nat.reduceEqDiff, Nat.reduceAdd, castL, Int.reduceLT, Int.reduceAdd, decide_true, decide_false, Bool.false_eq_true]
          refine blockK_n ?_
          refine thenK_n ?_
          have hk_1026 : w64 1 = 1 := by decide
          refine run_textE0 hE wk_un [3, 4, 8, 9, 83, 84, 85] (fr' := [(3, .ref 0 0), (4, .ref 1 0), (8, .ref 2 0), (9, .bool reset_981), (83, .bs true 3 3 0 3), (84, i64 3), (85, i64 1)]) (σ' := [.box [i64 k_963.Epoch, i64 k_963.To, i64 k_963.Seq, i64 k_963.Ack, .sl false (L cU8 k_963.Data)] false, .box [i64 0, i64 0, i64 0, .sl true (L (cSl cU8) ([])), i64 0, .sl true (L cApi_Packet ([])), i64 0] false, .box [i64 y_1022.Peer.Epoch, i64 y_1022.Peer.Other, i64 y_1022.Peer.First, .sl false (L (cSl cU8) y_1022.Peer.Queue), i64 y_1022.Peer.Next, .sl false (L cApi_Packet y_1022.Peer.Early), i64 y_1022.Peer.SentAt, .bs false 4 (l_1024.length) 0 (l_1024.length)] false, .buf 1 [[.fn 41 [.tup [.ref 2 0]]], [.fn 42 [.tup [.ref 2 0]]], [.fn 43 [.tup [.ref 2 0]]]] false, .buf 1 (L (cSl cU8) l_1024) false]) ⟨_, orcs_nil, ?_⟩ ?_
          · simp only [go_sem, reduceIte, Nat.reduceLT, Nat.reduceEqDiff, Nat.reduceAdd, castL, Int.reduceLT, Int.reduceAdd, decide_true, decide_false, Bool.false_eq_true, hk_1026]
          refine unK_n ?_
          refine loopN_go (m := 7) ?_
          refine run_textE hE [3, 4, 8, 9, 83, 84, 85, 86] (fr' := [(3, .ref 0 0), (4, .ref 1 0), (8, .ref 2 0), (9, .bool reset_981), (83, .bs true 3 3 0 3), (84, i64 3), (85, i64 1), (86, .bool true)]) (σ' := [.box [i64 k_963.Epoch, i64 k_963.To, i64 k_963.Seq, i64 k_963.Ack, .sl false (L cU8 k_963.Data)] false, .box [i64 0, i64 0, i64 0, .sl true (L (cSl cU8) ([])), i64 0, .sl true (L cApi_Packet ([])), i64 0] false, .box [i64 y_1022.Peer.Epoch, i64 y_1022.Peer.Other, i64 y_1022.Peer.First, .sl false (L (cSl cU8) y_1022.Peer.Queue), i64 y_1022.Peer.Next, .sl false (L cApi_Packet y_1022.Peer.Early), i64 y_1022.Peer.SentAt, .bs false 4 (l_1024.length) 0 (l_1024.length)] false, .buf 1 [[.fn 41 [.tup [.ref 2 0]]], [.fn 42 [.tup [.ref 2 0]]], [.fn 43 [.tup [.ref 2 0]]]] false, .buf 1 (L (cSl cU8) l_1024) false]) ⟨_, orcs_nil, ?_⟩ ?_
          · simp only [go_sem, reduceIte, Nat.reduceLT, Nat.reduceEqDiff, Nat.reduceAdd, castL, Int.reduceLT, Int.reduceAdd, decide_true, decide_false, Bool.false_eq_true]
          refine run_seq ?_
          refine run_condL (b := true) rfl (by decide) (fun hb => ?_) (fun hb => ?_)
          · refine run_skip ?_
            refine thenK_n ?_
            refine run_seq ?_
            refine run_block ?_
            have hk_1027 : InR 1 3 := by decide
            refine run_textE hE [3, 4, 8, 9, 11, 83, 84, 85] (fr' := [(3, .ref 0 0), (4, .ref 1 0), (8, .ref 2 0), (9, .bool reset_981), (11, .fn 42 [.tup [.ref 2 0]]), (83, .bs true 3 3 0 3), (84, i64 3), (85, i64 1)]) (σ' := [.box [i64 k_963.Epoch, i64 k_963.To, i64 k_963.Seq, i64 k_963.Ack, .sl false (L cU8 k_963.Data)] false, .box [i64 0, i64 0, i64 0, .sl true (L (cSl cU8) ([])), i64 0, .sl true (L cApi_Packet ([])), i64 0] false, .box [i64 y_1022.Peer.Epoch, i64 y_1022.Peer.Other, i64 y_1022.Peer.First, .sl false (L (cSl cU8) y_1022.Peer.Queue), i64 y_1022.Peer.Next, .sl false (L cApi_Packet y_1022.Peer.Early), i64 y_1022.Peer.SentAt, .bs false 4 (l_1024.length) 0 (l_1024.length)] false, .buf 1 [[.fn 41 [.tup [.ref 2 0]]], [.fn 42 [.tup [.ref 2 0]]], [.fn 43 [.tup [.ref 2 0]]]] false, .buf 1 (L (cSl cU8) l_1024) false]) ⟨_, orcs_nil, ?_⟩ ?_
            · simp only [go_sem, reduceIte, Nat.reduceLT, Nat.reduceEqDiff, Nat.reduceAdd, Int.reduceToNat, castL, Int.reduceLT, Int.reduceAdd, decide_true, decide_false, Bool.false_eq_true, hk_1027, hk_1027.2]
            replace h := bind_some1 h; obtain ⟨y_1028, hy_1029, h⟩ := h
            replace h := lt1_some h; obtain ⟨l_1030, hz_1031, h⟩ := h
            refine run_textE0 hE (wk_block wk_then) [3, 4, 8, 9, 83, 84, 85] (fr' := [(3, .ref 0 0), (4, .ref 1 0), (8, .ref 2 0), (9, .bool reset_981), (83, .bs true 3 3 0 3), (84, i64 3), (85, i64 1)]) (σ' := [.box [i64 k_963.Epoch, i64 k_963.To, i64 k_963.Seq, i64 k_963.Ack, .sl false (L cU8 k_963.Data)] false, .box [i64 0, i64 0, i64 0, .sl true (L (cSl cU8) ([])), i64 0, .sl true (L cApi_Packet ([])), i64 0] false, .box [i64 y_1028.Peer.Epoch, i64 y_1028.Peer.Other, i64 y_1028.Peer.First, .sl false (L (cSl cU8) y_1028.Peer.Queue), i64 y_1028.Peer.Next, .sl false (L cApi_Packet y_1028.Peer.Early), i64 y_1028.Peer.SentAt, .bs false 4 (l_1030.length) 0 (l_1030.length)] false, .buf 1 [[.fn 41 [.tup [.ref 2 0]]], [.fn 42 [.tup [.ref 2 0]]], [.fn 43 [.tup [.ref 2 0]]]] false, .buf 1 (L (cSl cU8) l_1030) false]) ⟨_, orcs_ok2 (l := []) (m := [(91, 42, [.ref 2 0, .agg [i64 k_963.Epoch, i64 k_963.To, i64 k_963.Seq, i64 k_963.Ack, .sl false (L cU8 k_963.Data)]], [.box [i64 k_963.Epoch, i64 k_963.To, i64 k_963.Seq, i64 k_963.Ack, .sl false (L cU8 k_963.Data)] false, .box [i64 0, i64 0, i64 0, .sl true (L (cSl cU8) ([])), i64 0, .sl true (L cApi_Packet ([])), i64 0] false, .box [i64 y_1022.Peer.Epoch, i64 y_1022.Peer.Other, i64 y_1022.Peer.First, .sl false (L (cSl cU8) y_1022.Peer.Queue), i64 y_1022.Peer.Next, .sl false (L cApi_Packet y_1022.Peer.Early), i64 y_1022.Peer.SentAt, .bs false 4 (l_1024.length) 0 (l_1024.length)] false, .buf 1 [[.fn 41 [.tup [.ref 2 0]]], [.fn 42 [.tup [.ref 2 0]]], [.fn 43 [.tup [.ref 2 0]]]] false, .buf 1 (L (cSl cU8) l_1024) false], .tup [], [.box [i64 k_963.Epoch, i64 k_963.To, i64 k_963.Seq, i64 k_963.Ack, .sl false (L cU8 k_963.Data)] false, .box [i64 0, i64 0, i64 0, .sl true (L (cSl cU8) ([])), i64 0, .sl true (L cApi_Packet ([])), i64 0] false, .box [i64 y_1028.Peer.Epoch, i64 y_1028.Peer.Other, i64 y_1028.Peer.First, .sl false (L (cSl cU8) y_1028.Peer.Queue), i64 y_1028.Peer.Next, .sl false (L cApi_Packet y_1028.Peer.Early), i64 y_1028.Peer.SentAt, .bs false 4 (y_1028.delivered.length) 0 (y_1028.delivered.length)] false, .buf 1 [[.fn 41 [.tup [.ref 2 0]]], [.fn 42 [.tup [.ref 2 0]]], [.fn 43 [.tup [.ref 2 0]]]] false, .buf 1 (L (cSl cU8) y_1028.delivered) false])]) trivial ⟨(wcon_call (window_side_keep_con hy_1029) [2, 4] (by decide) (by simp only [go_sem, reduceIte, Nat.reduceLT, Nat.reduceEqDiff, Nat.reduceAdd]) (by simp only [go_sem, reduceIte, Nat.reduceLT, Nat.reduceEqDiff, Nat.reduceAdd]) (by simp only [go_sem, reduceIte, Nat.reduceLT, Nat.reduceEqDiff, Nat.reduceAdd]) (by simp only [go_sem, reduceIte, Nat.reduceLT, Nat.reduceEqDiff, Nat.reduceAdd]) (by simp only [go_sem, reduceIte, Nat.reduceLT, Nat.reduceEqDiff, Nat.reduceAdd])), trivial⟩, ?_⟩ ?_
            · subst hz_1031; simp only [go_sem, reduceIte, Nat.reduceLT, Nat.reduceEqDiff, Nat.reduceAdd, castL, Int.reduceLT, Int.reduceAdd, decide_true, decide_false, Bool.false_eq_true]
            refine blockK_n ?_
            refine thenK_n ?_
            have hk_1032 : w64 2 = 2 := by decide
            refine run_textE0 hE wk_un [3, 4, 8, 9, 83, 84, 85] (fr' := [(3, .ref 0 0), (4, .ref 1 0), (8, .ref 2 0), (9, .bool reset_981), (83, .bs true 3 3 0 3), (84, i64 3), (85, i64 2)]) (σ' := [.box [i64 k_963.Epoch, i64 k_963.To, i64 k_963.Seq, i64 k_963.Ack, .sl false (L cU8 k_963.Data)] false, .box [i64 0, i64 0, i64 0, .sl true (L (cSl cU8) ([])), i64 0, .sl true (L cApi_Packet ([])), i64 0] false, .box [i64 y_1028.Peer.Epoch, i64 y_1028.Peer.Other, i64 y_1028.Peer.First, .sl false (L (cSl cU8) y_1028.Peer.Queue), i64 y_1028.Peer.Next, .sl false (L cApi_Packet y_1028.Peer.Early), i64 y_1028.Peer.SentAt, .bs false 4 (l_1030.length) 0 (l_1030.length)] false, .buf 1 [[.fn 41 [.tup [.ref 2 0]]], [.fn 42 [.tup [.ref 2 0]]], [.fn 43 [.tup [.ref 2 0]]]] false, .buf 1 (L (cSl cU8) l_1030) false]) ⟨_, orcs_nil, ?_⟩ ?_
            · simp only [go_sem, reduceIte, Nat.reduceLT, Nat.reduceEqDiff, Nat.reduceAdd, castL, Int.reduceLT, Int.reduceAdd, decide_true, decide_false, Bool.false_eq_true, hk_1032]
            refine unK_n ?_
            refine loopN_go (m := 6) ?_
            refine run_textE hE [3, 4, 8, 9, 83, 84, 85, 86] (fr' := [(3, .ref 0 0), (4, .ref 1 0), (8, .ref 2 0), (9, .bool reset_981), (83, .bs true 3 3 0 3), (84, i64 3), (85, i64 2), (86, .bool true)]) (σ' := [.box [i64 k_963.Epoch, i64 k_963.To, i64 k_963.Seq, i64 k_963.Ack, .sl false (L cU8 k_963.Data)] false, .box [i64 0, i64 0, i64 0, .sl true (L (cSl cU8) ([])), i64 0, .sl true (L cApi_Packet ([])), i64 0] false, .box [i64 y_1028.Peer.Epoch, i64 y_1028.Peer.Other, i64 y_1028.Peer.First, .sl false (L (cSl cU8) y_1028.Peer.Queue), i64 y_1028.Peer.Next, .sl false (L cApi_Packet y_1028.Peer.Early), i64 y_1028.Peer.SentAt, .bs false 4 (l_1030.length) 0 (l_1030.length)] false, .buf 1 [[.fn 41 [.tup [.ref 2 0]]], [.fn 42 [.tup [.ref 2 0]]], [.fn 43 [.tup [.ref 2 0]]]] false, .buf 1 (L (cSl cU8) l_1030) false]) ⟨_, orcs_nil, ?_⟩ ?_
            · simp only [go_sem, reduceIte, Nat.reduceLT, Nat.reduceEqDiff, Nat.reduceAdd, castL, Int.reduceLT, Int.reduceAdd, decide_true, decide_false, Bool.false_eq_true]
            refine run_seq ?_
            refine run_condL (b := true) rfl (by decide) (fun hb => ?_) (fun hb => ?_)
            · refine run_skip ?_
              refine thenK_n ?_
              refine run_seq ?_
              refine run_block ?_
              have hk_1033 : InR 2 3 := by decide
              refine run_textE hE [3, 4, 8, 9, 11, 83, 84, 85] (fr' := [(3, .ref 0 0), (4, .ref 1 0), (8, .ref 2 0), (9, .bool reset_981), (11, .fn 43 [.tup [.ref 2 0]]), (83, .bs true 3 3 0 3), (84, i64 3), (85, i64 2)]) (σ' := [.box [i64 k_963.Epoch, i64 k_963.To, i64 k_963.Seq, i64 k_963.Ack, .sl false (L cU8 k_963.Data)] false, .box [i64 0, i64 0, i64 0, .sl true (L (cSl cU8) ([])), i64 0, .sl true (L cApi_Packet ([])), i64 0] false, .box [i64 y_1028.Peer.Epoch, i64 y_1028.Peer.Other, i64 y_1028.Peer.First, .sl false (L (cSl cU8) y_1028.Peer.Queue), i64 y_1028.Peer.Next, .sl false (L cApi_Packet y_1028.Peer.Early), i64 y_1028.Peer.SentAt, .bs false 4 (l_1030.length) 0 (l_1030.length)] false, .buf 1 [[.fn 41 [.tup [.ref 2 0]]], [.fn 42 [.tup [.ref 2 0]]], [.fn 43 [.tup [.ref 2 0]]]] false, .buf 1 (L (cSl cU8) l_1030) false]) ⟨_, orcs_nil, ?_⟩ ?_
              · simp only [go_sem, reduceIte, Nat.reduceLT, Nat.reduceEqDiff, Nat.reduceAdd, Int.reduceToNat, castL, Int.reduceLT, Int.reduceAdd, decide_true, decide_false, Bool.false_eq_true, hk_1033, hk_1033.2]
              replace h := bind_some1 h; obtain ⟨y_1034, hy_1035, h⟩ := h
              replace h := lt1_some h; obtain ⟨l_1036, hz_1037, h⟩ := h
              refine run_textE0 hE (wk_block wk_then) [3, 4, 8, 9, 83, 84, 85] (fr' := [(3, .ref 0 0), (4, .ref 1 0), (8, .ref 2 0), (9, .bool reset_981), (83, .bs true 3 3 0 3), (84, i64 3), (85, i64 2)]) (σ' := [.box [i64 k_963.Epoch, i64 k_963.To, i64 k_963.Seq, i64 k_963.Ack, .sl false (L cU8 k_963.Data)] false, .box [i64 0, i64 0, i64 0, .sl true (L (cSl cU8) ([])), i64 0, .sl true (L cApi_Packet ([])), i64 0] false, .box [i64 y_1034.Peer.Epoch, i64 y_1034.Peer.Other, i64 y_1034.Peer.First, .sl false (L (cSl cU8) y_1034.Peer.Queue), i64 y_1034.Peer.Next, .sl false (L cApi_Packet y_1034.Peer.Early), i64 y_1034.Peer.SentAt, .bs false 4 (l_1036.length) 0 (l_1036.length)] false, .buf 1 [[.fn 41 [.tup [.ref 2 0]]], [.fn 42 [.tup [.ref 2 0]]], [.fn 43 [.tup [.ref 2 0]]]] false, .buf 1 (L (cSl cU8) l_1036) false]) ⟨_, orcs_ok2 (l := []) (m := [(91, 43, [.ref 2 0, .agg [i64 k_963.Epoch, i64 k_963.To, i64 k_963.Seq, i64 k_963.Ack, .sl false (L cU8 k_963.Data)]], [.box [i64 k_963.Epoch, i64 k_963.To, i64 k_963.Seq, i64 k_963.Ack, .sl false (L cU8 k_963.Data)] false, .box [i64 0, i64 0, i64 0, .sl true (L (cSl cU8) ([])), i64 0, .sl true (L cApi_Packet ([])), i64 0] false, .box [i64 y_1028.Peer.Epoch, i64 y_1028.Peer.Other, i64 y_1028.Peer.First, .sl false (L (cSl cU8) y_1028.Peer.Queue), i64 y_1028.Peer.Next, .sl false (L cApi_Packet y_1028.Peer.Early), i64 y_1028.Peer.SentAt, .bs false 4 (l_1030.length) 0 (l_1030.length)] false, .buf 1 [[.fn 41 [.tup [.ref 2 0]]], [.fn 42 [.tup [.ref 2 0]]], [.fn 43 [.tup [.ref 2 0]]]] false, .buf 1 (L (cSl cU8) l_1030) false], .tup [], [.box [i64 k_963.Epoch, i64 k_963.To, i64 k_963.Seq, i64 k_963.Ack, .sl false (L cU8 k_963.Data)] false, .box [i64 0, i64 0, i64 0, .sl true (L (cSl cU8) ([])), i64 0, .sl true (L cApi_Packet ([])), i64 0] false, .box [i64 y_1034.Peer.Epoch, i64 y_1034.Peer.Other, i64 y_1034.Peer.First, .sl false (L (cSl cU8) y_1034.Peer.Queue), i64 y_1034.Peer.Next, .sl false (L cApi_Packet y_1034.Peer.Early), i64 y_1034.Peer.SentAt, .bs false 4 (y_1034.delivered.length) 0 (y_1034.delivered.length)] false, .buf 1 [[.fn 41 [.tup [.ref 2 0]]], [.fn 42 [.tup [.ref 2 0]]], [.fn 43 [.tup [.ref 2 0]]]] false, .buf 1 (L (cSl cU8) y_1034.delivered) false])]) trivial ⟨(wcon_call (window_side_deliver_con hy_1035) [2, 4] (by decide) (by simp only [go_sem, reduceIte, Nat.reduceLT, Nat.reduceEqDiff, Nat.reduceAdd]) (by simp only [go_sem, reduceIte, Nat.reduceLT, Nat.reduceEqDiff, Nat.reduceAdd]) (by simp only [go_sem, reduceIte, Nat.reduceLT, Nat.reduceEqDiff, Nat.reduceAdd]) (by simp only [go_sem, reduceIte, Nat.reduceLT, Nat.reduceEqDiff, Nat.reduceAdd]) (by simp only [go_sem, reduceIte, Nat.reduceLT, Nat.reduceEqDiff, Nat.reduceAdd])), trivial⟩, ?_⟩ ?_
              · subst hz_1037; simp only [go_sem, reduceIte, Nat.reduceLT, Nat.reduceEqDiff, Nat.reduceAdd, castL, Int.reduceLT, Int.reduceAdd, decide_true, decide_false, Bool.false_eq_true]
              refine blockK_n ?_
              refine thenK_n ?_
              have hk_1038 : w64 3 = 3 := by decide
              refine run_textE0 hE wk_un [3, 4, 8, 9, 83, 84, 85] (fr' := [(3, .ref 0 0), (4, .ref 1 0), (8, .ref 2 0), (9, .bool reset_981), (83, .bs true 3 3 0 3), (84, i64 3), (85, i64 3)]) (σ' := [.box [i64 k_963.Epoch, i64 k_963.To, i64 k_963.Seq, i64 k_963.Ack, .sl false (L cU8 k_963.Data)] false, .box [i64 0, i64 0, i64 0, .sl true (L (cSl cU8) ([])), i64 0, .sl true (L cApi_Packet ([])), i64 0] false, .box [i64 y_1034.Peer.Epoch, i64 y_1034.Peer.Other, i64 y_1034.Peer.First, .sl false (L (cSl cU8) y_1034.Peer.Queue), i64 y_1034.Peer.Next, .sl false (L cApi_Packet y_1034.Peer.Early), i64 y_1034.Peer.SentAt, .bs false 4 (l_1036.length) 0 (l_1036.length)] false, .buf 1 [[.fn 41 [.tup [.ref 2 0]]], [.fn 42 [.tup [.ref 2 0]]], [.fn 43 [.tup [.ref 2 0]]]] false, .buf 1 (L (cSl cU8) l_1036) false]) ⟨_, orcs_nil, ?_⟩ ?_
              · simp only [go_sem, reduceIte, Nat.reduceLT, Nat.reduceEqDiff, Nat.reduceAdd, castL, Int.reduceLT, Int.reduceAdd, decide_true, decide_false, Bool.false_eq_true, hk_1038]
              refine unK_n ?_
              refine loopN_go (m := 5) ?_
              refine run_textE hE [3, 4, 8, 9, 83, 84, 85, 86] (fr' := [(3, .ref 0 0), (4, .ref 1 0), (8, .ref 2 0), (9, .bool reset_981), (83, .bs true 3 3 0 3), (84, i64 3), (85, i64 3), (86, .bool false)]) (σ' := [.box [i64 k_963.Epoch, i64 k_963.To, i64 k_963.Seq, i64 k_963.Ack, .sl false (L cU8 k_963.Data)] false, .box [i64 0, i64 0, i64 0, .sl true (L (cSl cU8) ([])), i64 0, .sl true (L cApi_Packet ([])), i64 0] false, .box [i64 y_1034.Peer.Epoch, i64 y_1034.Peer.Other, i64 y_1034.Peer.First, .sl false (L (cSl cU8) y_1034.Peer.Queue), i64 y_1034.Peer.Next, .sl false (L cApi_Packet y_1034.Peer.Early), i64 y_1034.Peer.SentAt, .bs false 4 (l_1036.length) 0 (l_1036.length)] false, .buf 1 [[.fn 41 [.tup [.ref 2 0]]], [.fn 42 [.tup [.ref 2 0]]], [.fn 43 [.tup [.ref 2 0]]]] false, .buf 1 (L (cSl cU8) l_1036) false]) ⟨_, orcs_nil, ?_⟩ ?_
              · simp only [go_sem, reduceIte, Nat.reduceLT, Nat.reduceEqDiff, Nat.reduceAdd, castL, Int.reduceLT, Int.reduceAdd, decide_true, decide_false, Bool.false_eq_true]
              refine run_seq ?_
              refine run_condL (b := false) rfl (by decide) (fun hb => ?_) (fun hb => ?_)
              · cases hb
              · refine run_exit ?_
                refine thenK_x ?_
                refine unK_x ?_
                refine blockK_x ?_
                obtain rfl := Option.some.inj h
                exact joinK_n ((y_1034.Peer.Epoch, y_1034.Peer.Other, y_1034.Peer.First, y_1034.Peer.Queue, y_1034.Peer.Next, y_1034.Peer.Early, y_1034.Peer.SentAt, l_1036)) rfl (weak_sel [1, 2, 4] (by decide) rfl (by simp only [go_sem, reduceIte, Nat.reduceLT, Nat.reduceEqDiff, Nat.reduceAdd]) (by simp only [go_sem, reduceIte, Nat.reduceLT, Nat.reduceEqDiff, Nat.reduceAdd]))
            · cases hb
          · cases hb
        · cases hb
      · replace h := ite_f h hb
        refine run_skip ?_
        obtain rfl := Option.some.inj h
        exact joinK_n ((p_962.Epoch, f_983, f_984, f_985, f_986, f_987, f_988, [])) rfl ((weak_nil_box 2 7 1 rfl rfl).trans (weak_sel [1, 2, 3] (by decide) rfl (by simp only [go_sem, reduceIte, Nat.reduceLT, Nat.reduceEqDiff, Nat.reduceAdd]) (by simp only [go_sem, reduceIte, Nat.reduceLT, Nat.reduceEqDiff, Nat.reduceAdd])))
    rintro ⟨f_1010, f_1011, f_1012, f_1013, f_1014, f_1015, f_1016, l_1017⟩ rfl
    have h := hj_1020; clear hj_1020
    refine run_drawS hE mixed [[], [0], [0, 1], [0, 1, 2], [], [4], [4, 5], [4, 5, 6], [], [0, 1, 2, 3], [0, 1, 2, 3, 4, 5, 6, 7, 9], [0, 1, 2, 3, 4, 5, 6, 7, 8, 9, 10]] (by kernel_rfl) [(4, 0), (98, 1), (99, 1)] [] [4, 5, 6, 98, 99] (by kernel_rfl) (fr' := [(4, .ref 0 0), (5, .bs false 2 (l_1017.length) 0 (l_1017.length)), (6, .bool reset_981), (98, .ref 1 0), (99, .ref 1 7)]) (σ' := [.box [i64 f_1010, i64 f_1011, i64 f_1012, .sl false (L (cSl cU8) f_1013), i64 f_1014, .sl false (L cApi_Packet f_1015), i64 f_1016] false, .box [i64 f_1010, i64 f_1011, i64 f_1012, .sl false (L (cSl cU8) f_1013), i64 f_1014, .sl false (L cApi_Packet f_1015), i64 f_1016, .bs false 2 (l_1017.length) 0 (l_1017.length)] false, .buf 1 (L (cSl cU8) l_1017) false]) ⟨rfl, rfl, rfl, trivial⟩ ⟨_, _, orcs_nil, (by simp only [XOk]), ?_⟩ ?_
    · simp only [go_sem, reduceIte, Nat.reduceLT, Nat.reduceEqDiff, Nat.reduceAdd, Nat.reduceLeDiff, castL, Int.reduceLT, Int.reduceAdd, decide_true, decide_false, Bool.false_eq_true]
    refine run_ret ?_
    obtain rfl := Option.some.inj h
    refine wkP_of (Weak.refl _ _) ?_
    refine ret_ok (.inr rfl) ?_
    simp only [go_sem, reduceIte, Nat.reduceLT, Nat.reduceEqDiff, Nat.reduceAdd]

end Go.Proofs.Ytomjphpnpcgacaa
/-
  The functions compute just that.
-/
namespace Go.Proofs.Ytomjphpnpcgacaa
open Go.Rv
set_option linter.unusedVariables false
set_option linter.unusedSimpArgs false
set_option maxRecDepth 20000
set_option maxHeartbeats 4000000

theorem law12_few_con {p_1039 : Api_Peer} {r : Bool} (h : law12_few p_1039 = some r) : Con B 11 [.agg [i64 p_1039.Epoch, i64 p_1039.Other, i64 p_1039.First, .sl false (L (cSl cU8) p_1039.Queue), i64 p_1039.Next, .sl false (L cApi_Packet p_1039.Early), i64 p_1039.SentAt]] [] (fun r' σ' => r' = .bool r ∧ σ' = []) := by
  refine con_walk (N := 49) (rs := [.tmp 2]) ok Try.func11 rfl (by decide +kernel) rfl rfl (Nat.le_of_ble_eq_true rfl) (fun F => ?_)
  have hE := ok.env F
  unfold law12_few at h
  show Run (B.env F) 0 _ ⟨asFr 49 [(0, .agg [i64 p_1039.Epoch, i64 p_1039.Other, i64 p_1039.First, .sl false (L (cSl cU8) p_1039.Queue), i64 p_1039.Next, .sl false (L cApi_Packet p_1039.Early), i64 p_1039.SentAt])], []⟩ _
  refine run_wkP ?_
  refine run_textE hE [1] (fr' := [(1, .ref 0 0)]) (σ' := [.box [i64 p_1039.Epoch, i64 p_1039.Other, i64 p_1039.First, .sl false (L (cSl cU8) p_1039.Queue), i64 p_1039.Next, .sl false (L cApi_Packet p_1039.Early), i64 p_1039.SentAt] false]) ⟨_, orcs_nil, ?_⟩ ?_
  · simp only [go_sem, reduceIte, Nat.reduceLT, Nat.reduceEqDiff, Nat.reduceAdd]
  refine run_seq ?_
  replace h := bind_some1 h; obtain ⟨t_1040, hv_1041, h⟩ := h
  refine run_textW hE [1, 15] (fr' := [(1, .ref 0 0), (15, .bool t_1040)]) (σ' := [.box [i64 p_1039.Epoch, i64 p_1039.Other, i64 p_1039.First, .sl false (L (cSl cU8) p_1039.Queue), i64 p_1039.Next, .sl false (L cApi_Packet p_1039.Early), i64 p_1039.SentAt] false]) ?_ ?_
  · rcases Bool.eq_false_or_eq_true ((decide ((p_1039.Queue.length : Int) > 257))) with hb_1042 | hb_1042
    · replace hv_1041 := ite_t hv_1041 hb_1042
      have e_hv_1041 := Option.some.inj hv_1041; subst e_hv_1041
      exact ⟨_, [(1, .ref 0 0), (15, .bool true)], [.box [i64 p_1039.Epoch, i64 p_1039.Other, i64 p_1039.First, .sl false (L (cSl cU8) p_1039.Queue), i64 p_1039.Next, .sl false (L cApi_Packet p_1039.Early), i64 p_1039.SentAt] false], orcs_nil, by simp only [go_sem, reduceIte, Nat.reduceLT, Nat.reduceEqDiff, Nat.reduceAdd, hb_1042], (weak_sel [0] (by decide) rfl (by simp only [go_sem, reduceIte, Nat.reduceLT, Nat.reduceEqDiff, Nat.reduceAdd]) (by simp only [go_sem, reduceIte, Nat.reduceLT, Nat.reduceEqDiff, Nat.reduceAdd]))⟩
    · replace hv_1041 := ite_f hv_1041 hb_1042
      have e_hv_1041 := Option.some.inj hv_1041; subst e_hv_1041
      exact ⟨_, [(1, .ref 0 0), (15, .bool ((decide ((p_1039.Early.length : Int) > 70))))], [.box [i64 p_1039.Epoch, i64 p_1039.Other, i64 p_1039.First, .sl false (L (cSl cU8) p_1039.Queue), i64 p_1039.Next, .sl false (L cApi_Packet p_1039.Early), i64 p_1039.SentAt] false], orcs_nil, by simp only [go_sem, reduceIte, Nat.reduceLT, Nat.reduceEqDiff, Nat.reduceAdd, hb_1042], (weak_sel [0] (by decide) rfl (by simp only [go_sem, reduceIte, Nat.reduceLT, Nat.reduceEqDiff, Nat.reduceAdd]) (by simp only [go_sem, reduceIte, Nat.reduceLT, Nat.reduceEqDiff, Nat.reduceAdd]))⟩
  refine run_condL (b := t_1040) rfl (by decide) (fun hb => ?_) (fun hb => ?_)
  · replace h := ite_t h hb
    refine run_textE hE [2] (fr' := [(2, .bool false)]) (σ' := [.box [i64 p_1039.Epoch, i64 p_1039.Other, i64 p_1039.First, .sl false (L (cSl cU8) p_1039.Queue), i64 p_1039.Next, .sl false (L cApi_Packet p_1039.Early), i64 p_1039.SentAt] false]) ⟨_, orcs_nil, ?_⟩ ?_
    · simp only [go_sem, reduceIte, Nat.reduceLT, Nat.reduceEqDiff, Nat.reduceAdd]
    refine run_ret ?_
    refine thenK_r ?_
    obtain rfl := Option.some.inj h
    refine wkP_of (Weak.refl _ _) ?_
    refine ret_ok (.inr rfl) ?_
    simp only [go_sem, reduceIte, Nat.reduceLT, Nat.reduceEqDiff, Nat.reduceAdd]
  · replace h := ite_f h hb
    refine run_skip ?_
    refine thenK_n ?_
    refine run_textE hE [1, 3] (fr' := [(1, .ref 0 0), (3, i64 0)]) (σ' := [.box [i64 p_1039.Epoch, i64 p_1039.Other, i64 p_1039.First, .sl false (L (cSl cU8) p_1039.Queue), i64 p_1039.Next, .sl false (L cApi_Packet p_1039.Early), i64 p_1039.SentAt] false]) ⟨_, orcs_nil, ?_⟩ ?_
    · simp only [go_sem, reduceIte, Nat.reduceLT, Nat.reduceEqDiff, Nat.reduceAdd]
    replace h := bind_some1 h; obtain ⟨j_1061, hA_1062, hj_1063⟩ := h
    refine run_join (fun (v : Int) => (⟨asFr 49 [(1, .ref 0 0), (3, i64 v)], [.box [i64 p_1039.Epoch, i64 p_1039.Other, i64 p_1039.First, .sl false (L (cSl cU8) p_1039.Queue), i64 p_1039.Next, .sl false (L cApi_Packet p_1039.Early), i64 p_1039.SentAt] false]⟩ : St)) (fun v => v = j_1061) ?_ ?_
    · have h := hA_1062; clear hA_1062
      refine run_textE hE [1, 3, 4] (fr' := [(1, .ref 0 0), (3, i64 0), (4, i64 0)]) (σ' := [.box [i64 p_1039.Epoch, i64 p_1039.Other, i64 p_1039.First, .sl false (L (cSl cU8) p_1039.Queue), i64 p_1039.Next, .sl false (L cApi_Packet p_1039.Early), i64 p_1039.SentAt] false]) ⟨_, orcs_nil, ?_⟩ ?_
      · simp only [go_sem, reduceIte, Nat.reduceLT, Nat.reduceEqDiff, Nat.reduceAdd]
      refine run_block ?_
      replace h := bind_some1 h; obtain ⟨x_1073, hx_1074, hj_1075⟩ := h
      refine run_loopO hx_1074 (fun (v : Int × Int) => (⟨asFr 49 [(1, .ref 0 0), (3, i64 v.1), (4, i64 v.2)], [.box [i64 p_1039.Epoch, i64 p_1039.Other, i64 p_1039.First, .sl false (L (cSl cU8) p_1039.Queue), i64 p_1039.Next, .sl false (L cApi_Packet p_1039.Early), i64 p_1039.SentAt] false]⟩ : St)) (weak_sel [0] (by decide) rfl (by simp only [go_sem, reduceIte, Nat.reduceLT, Nat.reduceEqDiff, Nat.reduceAdd]) (by simp only [go_sem, reduceIte, Nat.reduceLT, Nat.reduceEqDiff, Nat.reduceAdd])) ?_
      rintro ⟨n_1067, i_1068⟩ o_1076 h hxx_1077
      replace h : law12_few_b1 p_1039 n_1067 i_1068 = some o_1076 := h
      unfold law12_few_b1 at h
      refine run_seq ?_
      refine run_textE hE [1, 3, 4, 20] (fr' := [(1, .ref 0 0), (3, i64 n_1067), (4, i64 i_1068), (20, .bool ((decide (i_1068 < (p_1039.Queue.length : Int)))))]) (σ' := [.box [i64 p_1039.Epoch, i64 p_1039.Other, i64 p_1039.First, .sl false (L (cSl cU8) p_1039.Queue), i64 p_1039.Next, .sl false (L cApi_Packet p_1039.Early), i64 p_1039.SentAt] false]) ⟨_, orcs_nil, ?_⟩ ?_
      · simp only [go_sem, reduceIte, Nat.reduceLT, Nat.reduceEqDiff, Nat.reduceAdd]
      refine run_condL (b := (decide (i_1068 < (p_1039.Queue.length : Int)))) rfl (by decide) (fun hb => ?_) (fun hb => ?_)
      · replace h := ite_t h hb
        refine run_skip ?_
        refine thenK_n ?_
        refine run_seq ?_
        refine run_block ?_
        replace h := chk_some h; obtain ⟨hc_1078, h⟩ := h
        replace h := lt1_some h; obtain ⟨n_1079, hz_1080, h⟩ := h
        refine run_textE0 hE (wk_block wk_then) [1, 3, 4] (fr' := [(1, .ref 0 0), (3, i64 n_1079), (4, i64 i_1068)]) (σ' := [.box [i64 p_1039.Epoch, i64 p_1039.Other, i64 p_1039.First, .sl false (L (cSl cU8) p_1039.Queue), i64 p_1039.Next, .sl false (L cApi_Packet p_1039.Early), i64 p_1039.SentAt] false]) ⟨_, orcs_nil, ?_⟩ ?_
        · subst hz_1080; simp only [go_sem, reduceIte, Nat.reduceLT, Nat.reduceEqDiff, Nat.reduceAdd, Int.reduceToNat, hc_1078, hc_1078.2, lt_le hc_1078.2]
        refine blockK_n ?_
        refine thenK_n ?_
        refine run_textE0 hE wk_lp [1, 3, 4] (fr' := [(1, .ref 0 0), (3, i64 n_1079), (4, i64 ((w64 (i_1068 + 1))))]) (σ' := [.box [i64 p_1039.Epoch, i64 p_1039.Other, i64 p_1039.First, .sl false (L (cSl cU8) p_1039.Queue), i64 p_1039.Next, .sl false (L cApi_Packet p_1039.Early), i64 p_1039.SentAt] false]) ⟨_, orcs_nil, ?_⟩ ?_
        · simp only [go_sem, reduceIte, Nat.reduceLT, Nat.reduceEqDiff, Nat.reduceAdd]
        obtain rfl := Option.some.inj h
        exact lpK_n ((n_1079, (w64 (i_1068 + 1)))) rfl (weak_sel [0] (by decide) rfl (by simp only [go_sem, reduceIte, Nat.reduceLT, Nat.reduceEqDiff, Nat.reduceAdd]) (by simp only [go_sem, reduceIte, Nat.reduceLT, Nat.reduceEqDiff, Nat.reduceAdd]))
      · replace h := ite_f h hb
        refine run_exit ?_
        refine thenK_x ?_
        obtain rfl := Option.some.inj h
        have ex_x_1073 := hxx_1077 _ rfl
        subst ex_x_1073
        have h := hj_1075; clear hj_1075
        refine lpK_x ?_
        refine blockK_x ?_
        obtain rfl := Option.some.inj h
        exact joinK_n n_1067 rfl ((weak_sel (l' := [(1, .ref 0 0), (3, i64 n_1067)]) (σ' := [.box [i64 p_1039.Epoch, i64 p_1039.Other, i64 p_1039.First, .sl false (L (cSl cU8) p_1039.Queue), i64 p_1039.Next, .sl false (L cApi_Packet p_1039.Early), i64 p_1039.SentAt] false]) [0] (by decide) rfl (by simp only [go_sem, reduceIte, Nat.reduceLT, Nat.reduceEqDiff, Nat.reduceAdd]) (by simp only [go_sem, reduceIte, Nat.reduceLT, Nat.reduceEqDiff, Nat.reduceAdd])).trans (weak_sel [0] (by decide) rfl (by simp only [go_sem, reduceIte, Nat.reduceLT, Nat.reduceEqDiff, Nat.reduceAdd]) (by simp only [go_sem, reduceIte, Nat.reduceLT, Nat.reduceEqDiff, Nat.reduceAdd])))
    rintro n_1060 rfl
    have h := hj_1063; clear hj_1063
    replace h := bind_some1 h; obtain ⟨j_1099, hA_1100, hj_1101⟩ := h
    refine run_join (fun (v : Int) => (⟨asFr 49 [(3, i64 v)], []⟩ : St)) (fun v => v = j_1099) ?_ ?_
    · have h := hA_1100; clear hA_1100
      refine run_textE hE [1, 3, 5] (fr' := [(1, .ref 0 0), (3, i64 n_1060), (5, i64 0)]) (σ' := [.box [i64 p_1039.Epoch, i64 p_1039.Other, i64 p_1039.First, .sl false (L (cSl cU8) p_1039.Queue), i64 p_1039.Next, .sl false (L cApi_Packet p_1039.Early), i64 p_1039.SentAt] false]) ⟨_, orcs_nil, ?_⟩ ?_
      · simp only [go_sem, reduceIte, Nat.reduceLT, Nat.reduceEqDiff, Nat.reduceAdd]
      refine run_block ?_
      replace h := bind_some1 h; obtain ⟨x_1111, hx_1112, hj_1113⟩ := h
      refine run_loopO hx_1112 (fun (v : Int × Int) => (⟨asFr 49 [(1, .ref 0 0), (3, i64 v.1), (5, i64 v.2)], [.box [i64 p_1039.Epoch, i64 p_1039.Other, i64 p_1039.First, .sl false (L (cSl cU8) p_1039.Queue), i64 p_1039.Next, .sl false (L cApi_Packet p_1039.Early), i64 p_1039.SentAt] false]⟩ : St)) (weak_sel [0] (by decide) rfl (by simp only [go_sem, reduceIte, Nat.reduceLT, Nat.reduceEqDiff, Nat.reduceAdd]) (by simp only [go_sem, reduceIte, Nat.reduceLT, Nat.reduceEqDiff, Nat.reduceAdd])) ?_
      rintro ⟨n_1105, i_1106⟩ o_1114 h hxx_1115
      replace h : law12_few_b2 p_1039 n_1105 i_1106 = some o_1114 := h
      unfold law12_few_b2 at h
      refine run_seq ?_
      refine run_textE hE [1, 3, 5, 35] (fr' := [(1, .ref 0 0), (3, i64 n_1105), (5, i64 i_1106), (35, .bool ((decide (i_1106 < (p_1039.Early.length : Int)))))]) (σ' := [.box [i64 p_1039.Epoch, i64 p_1039.Other, i64 p_1039.First, .sl false (L (cSl cU8) p_1039.Queue), i64 p_1039.Next, .sl false (L cApi_Packet p_1039.Early), i64 p_1039.SentAt] false]) ⟨_, orcs_nil, ?_⟩ ?_
      · simp only [go_sem, reduceIte, Nat.reduceLT, Nat.reduceEqDiff, Nat.reduceAdd]
      refine run_condL (b := (decide (i_1106 < (p_1039.Early.length : Int)))) rfl (by decide) (fun hb => ?_) (fun hb => ?_)
      · replace h := ite_t h hb
        refine run_skip ?_
        refine thenK_n ?_
        refine run_seq ?_
        refine run_block ?_
        replace h := chk_some h; obtain ⟨hc_1116, h⟩ := h
        replace h := lt1_some h; obtain ⟨n_1117, hz_1118, h⟩ := h
        refine run_textE0 hE (wk_block wk_then) [1, 3, 5] (fr' := [(1, .ref 0 0), (3, i64 n_1117), (5, i64 i_1106)]) (σ' := [.box [i64 p_1039.Epoch, i64 p_1039.Other, i64 p_1039.First, .sl false (L (cSl cU8) p_1039.Queue), i64 p_1039.Next, .sl false (L cApi_Packet p_1039.Early), i64 p_1039.SentAt] false]) ⟨_, orcs_nil, ?_⟩ ?_
        · subst hz_1118; simp only [go_sem, reduceIte, Nat.reduceLT, Nat.reduceEqDiff, Nat.reduceAdd, Int.reduceToNat, hc_1116, hc_1116.2, lt_le hc_1116.2]
        refine blockK_n ?_
        refine thenK_n ?_
        refine run_textE0 hE wk_lp [1, 3, 5] (fr' := [(1, .ref 0 0), (3, i64 n_1117), (5, i64 ((w64 (i_1106 + 1))))]) (σ' := [.box [i64 p_1039.Epoch, i64 p_1039.Other, i64 p_1039.First, .sl false (L (cSl cU8) p_1039.Queue), i64 p_1039.Next, .sl false (L cApi_Packet p_1039.Early), i64 p_1039.SentAt] false]) ⟨_, orcs_nil, ?_⟩ ?_
        · simp only [go_sem, reduceIte, Nat.reduceLT, Nat.reduceEqDiff, Nat.reduceAdd]
        obtain rfl := Option.some.inj h
        exact lpK_n ((n_1117, (w64 (i_1106 + 1)))) rfl (weak_sel [0] (by decide) rfl (by simp only [go_sem, reduceIte, Nat.reduceLT, Nat.reduceEqDiff, Nat.reduceAdd]) (by simp only [go_sem, reduceIte, Nat.reduceLT, Nat.reduceEqDiff, Nat.reduceAdd]))
      · replace h := ite_f h hb
        refine run_exit ?_
        refine thenK_x ?_
        obtain rfl := Option.some.inj h
        have ex_x_1111 := hxx_1115 _ rfl
        subst ex_x_1111
        have h := hj_1113; clear hj_1113
        refine lpK_x ?_
        refine blockK_x ?_
        obtain rfl := Option.some.inj h
        exact joinK_n n_1105 rfl ((weak_sel (l' := [(3, i64 n_1105)]) (σ' := []) [] (by decide) rfl (by simp only [go_sem, reduceIte, Nat.reduceLT, Nat.reduceEqDiff, Nat.reduceAdd]) (by simp only [go_sem, reduceIte, Nat.reduceLT, Nat.reduceEqDiff, Nat.reduceAdd])).trans (weak_sel [] (by decide) rfl (by simp only [go_sem, reduceIte, Nat.reduceLT, Nat.reduceEqDiff, Nat.reduceAdd]) (by simp only [go_sem, reduceIte, Nat.reduceLT, Nat.reduceEqDiff, Nat.reduceAdd])))
    rintro n_1098 rfl
    have h := hj_1101; clear hj_1101
    refine run_textE hE [2] (fr' := [(2, .bool ((decide (n_1098 ≤ 20000))))]) (σ' := []) ⟨_, orcs_nil, ?_⟩ ?_
    · simp only [go_sem, reduceIte, Nat.reduceLT, Nat.reduceEqDiff, Nat.reduceAdd]
    refine run_ret ?_
    obtain rfl := Option.some.inj h
    refine wkP_of (Weak.refl _ _) ?_
    refine ret_ok (.inr rfl) ?_
    simp only [go_sem, reduceIte, Nat.reduceLT, Nat.reduceEqDiff, Nat.reduceAdd]

end Go.Proofs.Ytomjphpnpcgacaa
/-
  The functions compute just that.
-/
namespace Go.Proofs.Ytomjphpnpcgacaa
open Go.Rv
set_option linter.unusedVariables false
set_option linter.unusedSimpArgs false
set_option maxRecDepth 20000
set_option maxHeartbeats 4000000

theorem law12_sane_con  {r : Bool} (h : law12_sane  = some r) : Con B 10 [] [] (fun r' σ' => r' = .bool r ∧ σ' = []) := by
  refine con_walk (N := 206) (rs := [.tmp 0]) ok Try.func10 rfl (by decide +kernel) rfl rfl (Nat.le_of_ble_eq_true rfl) (fun F => ?_)
  have hE := ok.env F
  unfold law12_sane at h
  show Run (B.env F) 0 _ ⟨asFr 206 [], []⟩ _
  refine run_wkP ?_
  refine run_textE hE [] (fr' := []) (σ' := []) ⟨_, orcs_nil, ?_⟩ ?_
  · simp only [go_sem, reduceIte, Nat.reduceLT, Nat.reduceEqDiff, Nat.reduceAdd]
  replace h := bind_some1 h; obtain ⟨y_1119, hy_1120, h⟩ := h
  refine run_textE hE [1, 2] (fr' := [(1, .ref 0 0), (2, i64 y_1119.2)]) (σ' := [.box [i64 y_1119.1.Epoch, i64 y_1119.1.Other, i64 y_1119.1.First, .sl false (L (cSl cU8) y_1119.1.Queue), i64 y_1119.1.Next, .sl false (L cApi_Packet y_1119.1.Early), i64 y_1119.1.SentAt] false]) ⟨_, orcs_ok (l := [(22, 12, [i64 3], .tup [.agg [i64 y_1119.1.Epoch, i64 y_1119.1.Other, i64 y_1119.1.First, .sl false (L (cSl cU8) y_1119.1.Queue), i64 y_1119.1.Next, .sl false (L cApi_Packet y_1119.1.Early), i64 y_1119.1.SentAt], i64 y_1119.2])]) ⟨window_New_con  hy_1120, trivial⟩, ?_⟩ ?_
  · simp only [go_sem, reduceIte, Nat.reduceLT, Nat.reduceEqDiff, Nat.reduceAdd, Nat.reduceLeDiff]
  replace h := bind_some1 h; obtain ⟨y_1121, hy_1122, h⟩ := h
  refine run_textE hE [1, 2, 3, 4] (fr' := [(1, .ref 0 0), (2, i64 y_1119.2), (3, .ref 1 0), (4, i64 y_1121.2)]) (σ' := [.box [i64 y_1119.1.Epoch, i64 y_1119.1.Other, i64 y_1119.1.First, .sl false (L (cSl cU8) y_1119.1.Queue), i64 y_1119.1.Next, .sl false (L cApi_Packet y_1119.1.Early), i64 y_1119.1.SentAt] false, .box [i64 y_1121.1.Epoch, i64 y_1121.1.Other, i64 y_1121.1.First, .sl false (L (cSl cU8) y_1121.1.Queue), i64 y_1121.1.Next, .sl false (L cApi_Packet y_1121.1.Early), i64 y_1121.1.SentAt] false]) ⟨_, orcs_ok (l := [(26, 12, [i64 5], .tup [.agg [i64 y_1121.1.Epoch, i64 y_1121.1.Other, i64 y_1121.1.First, .sl false (L (cSl cU8) y_1121.1.Queue), i64 y_1121.1.Next, .sl false (L cApi_Packet y_1121.1.Early), i64 y_1121.1.SentAt], i64 y_1121.2])]) ⟨window_New_con  hy_1122, trivial⟩, ?_⟩ ?_
  · simp only [go_sem, reduceIte, Nat.reduceLT, Nat.reduceEqDiff, Nat.reduceAdd, Nat.reduceLeDiff]
  replace h := bind_some1 h; obtain ⟨y_1123, hy_1124, h⟩ := h
  refine run_textE hE [1, 2, 3, 4, 6] (fr' := [(1, .ref 0 0), (2, i64 y_1119.2), (3, .ref 1 0), (4, i64 y_1121.2), (6, i64 y_1123.2)]) (σ' := [.box [i64 y_1119.1.Epoch, i64 y_1119.1.Other, i64 y_1119.1.First, .sl false (L (cSl cU8) y_1119.1.Queue), i64 y_1119.1.Next, .sl false (L cApi_Packet y_1119.1.Early), i64 y_1119.1.SentAt] false, .box [i64 y_1121.1.Epoch, i64 y_1121.1.Other, i64 y_1121.1.First, .sl false (L (cSl cU8) y_1121.1.Queue), i64 y_1121.1.Next, .sl false (L cApi_Packet y_1121.1.Early), i64 y_1121.1.SentAt] false, .box [i64 y_1123.1.Epoch, i64 y_1123.1.Other, i64 y_1123.1.First, .sl false (L (cSl cU8) y_1123.1.Queue), i64 y_1123.1.Next, .sl false (L cApi_Packet y_1123.1.Early), i64 y_1123.1.SentAt] false]) ⟨_, orcs_ok (l := [(30, 12, [i64 ((-1))], .tup [.agg [i64 y_1123.1.Epoch, i64 y_1123.1.Other, i64 y_1123.1.First, .sl false (L (cSl cU8) y_1123.1.Queue), i64 y_1123.1.Next, .sl false (L cApi_Packet y_1123.1.Early), i64 y_1123.1.SentAt], i64 y_1123.2])]) ⟨window_New_con  hy_1124, trivial⟩, ?_⟩ ?_
  · simp only [go_sem, reduceIte, Nat.reduceLT, Nat.reduceEqDiff, Nat.reduceAdd, Nat.reduceLeDiff]
  replace h := bind_some1 h; obtain ⟨y_1125, hy_1126, h⟩ := h
  refine run_textE hE [1, 2, 3, 4, 6, 7] (fr' := [(1, .ref 0 0), (2, i64 y_1119.2), (3, .ref 1 0), (4, i64 y_1121.2), (6, i64 y_1123.2), (7, .sl false (L cApi_Packet y_1125.2))]) (σ' := [.box [i64 y_1125.1.Epoch, i64 y_1125.1.Other, i64 y_1125.1.First, .sl false (L (cSl cU8) y_1125.1.Queue), i64 y_1125.1.Next, .sl false (L cApi_Packet y_1125.1.Early), i64 y_1125.1.SentAt] false, .box [i64 y_1121.1.Epoch, i64 y_1121.1.Other, i64 y_1121.1.First, .sl false (L (cSl cU8) y_1121.1.Queue), i64 y_1121.1.Next, .sl false (L cApi_Packet y_1121.1.Early), i64 y_1121.1.SentAt] false, .box [i64 y_1123.1.Epoch, i64 y_1123.1.Other, i64 y_1123.1.First, .sl false (L (cSl cU8) y_1123.1.Queue), i64 y_1123.1.Next, .sl false (L cApi_Packet y_1123.1.Early), i64 y_1123.1.SentAt] false]) ⟨_, orcs_ok (l := [(35, 16, [.agg [i64 y_1119.1.Epoch, i64 y_1119.1.Other, i64 y_1119.1.First, .sl false (L (cSl cU8) y_1119.1.Queue), i64 y_1119.1.Next, .sl false (L cApi_Packet y_1119.1.Early), i64 y_1119.1.SentAt], i64 0], .tup [.agg [i64 y_1125.1.Epoch, i64 y_1125.1.Other, i64 y_1125.1.First, .sl false (L (cSl cU8) y_1125.1.Queue), i64 y_1125.1.Next, .sl false (L cApi_Packet y_1125.1.Early), i64 y_1125.1.SentAt], .sl false (L cApi_Packet y_1125.2)])]) ⟨window_Emit_con  hy_1126, trivial⟩, ?_⟩ ?_
  · simp only [go_sem, reduceIte, Nat.reduceLT, Nat.reduceEqDiff, Nat.reduceAdd, Nat.reduceLeDiff]
  refine run_seq ?_
  replace h := bind_some1 h; obtain ⟨t_1128, hv_1129, h⟩ := h
  refine run_textW hE [1, 3, 7, 60] (fr' := [(1, .ref 0 0), (3, .ref 1 0), (7, .sl false (L cApi_Packet y_1125.2)), (60, .bool t_1128)]) (σ' := [.box [i64 y_1125.1.Epoch, i64 y_1125.1.Other, i64 y_1125.1.First, .sl false (L (cSl cU8) y_1125.1.Queue), i64 y_1125.1.Next, .sl false (L cApi_Packet y_1125.1.Early), i64 y_1125.1.SentAt] false, .box [i64 y_1121.1.Epoch, i64 y_1121.1.Other, i64 y_1121.1.First, .sl false (L (cSl cU8) y_1121.1.Queue), i64 y_1121.1.Next, .sl false (L cApi_Packet y_1121.1.Early), i64 y_1121.1.SentAt] false]) ?_ ?_
  · rcases Bool.eq_false_or_eq_true ((y_1119.2 != 0)) with hb_1130 | hb_1130
    · replace hv_1129 := ite_t hv_1129 hb_1130
      have e_hv_1129 := Option.some.inj hv_1129; subst e_hv_1129
      exact ⟨_, [(1, .ref 0 0), (3, .ref 1 0), (7, .sl false (L cApi_Packet y_1125.2)), (60, .bool true)], [.box [i64 y_1125.1.Epoch, i64 y_1125.1.Other, i64 y_1125.1.First, .sl false (L (cSl cU8) y_1125.1.Queue), i64 y_1125.1.Next, .sl false (L cApi_Packet y_1125.1.Early), i64 y_1125.1.SentAt] false, .box [i64 y_1121.1.Epoch, i64 y_1121.1.Other, i64 y_1121.1.First, .sl false (L (cSl cU8) y_1121.1.Queue), i64 y_1121.1.Next, .sl false (L cApi_Packet y_1121.1.Early), i64 y_1121.1.SentAt] false, .box [i64 y_1123.1.Epoch, i64 y_1123.1.Other, i64 y_1123.1.First, .sl false (L (cSl cU8) y_1123.1.Queue), i64 y_1123.1.Next, .sl false (L cApi_Packet y_1123.1.Early), i64 y_1123.1.SentAt] false], orcs_nil, by simp only [go_sem, reduceIte, Nat.reduceLT, Nat.reduceEqDiff, Nat.reduceAdd, Nat.reduceGT, Int.reduceToNat, hb_1130], (weak_sel [0, 1] (by decide) rfl (by simp only [go_sem, reduceIte, Nat.reduceLT, Nat.reduceEqDiff, Nat.reduceAdd]) (by simp only [go_sem, reduceIte, Nat.reduceLT, Nat.reduceEqDiff, Nat.reduceAdd]))⟩
    · replace hv_1129 := ite_f hv_1129 hb_1130
      rcases Bool.eq_false_or_eq_true ((y_1121.2 != 0)) with hb_1131 | hb_1131
      · replace hv_1129 := ite_t hv_1129 hb_1131
        have e_hv_1129 := Option.some.inj hv_1129; subst e_hv_1129
        exact ⟨_, [(1, .ref 0 0), (3, .ref 1 0), (7, .sl false (L cApi_Packet y_1125.2)), (60, .bool true)], [.box [i64 y_1125.1.Epoch, i64 y_1125.1.Other, i64 y_1125.1.First, .sl false (L (cSl cU8) y_1125.1.Queue), i64 y_1125.1.Next, .sl false (L cApi_Packet y_1125.1.Early), i64 y_1125.1.SentAt] false, .box [i64 y_1121.1.Epoch, i64 y_1121.1.Other, i64 y_1121.1.First, .sl false (L (cSl cU8) y_1121.1.Queue), i64 y_1121.1.Next, .sl false (L cApi_Packet y_1121.1.Early), i64 y_1121.1.SentAt] false, .box [i64 y_1123.1.Epoch, i64 y_1123.1.Other, i64 y_1123.1.First, .sl false (L (cSl cU8) y_1123.1.Queue), i64 y_1123.1.Next, .sl false (L cApi_Packet y_1123.1.Early), i64 y_1123.1.SentAt] false], orcs_nil, by simp only [go_sem, reduceIte, Nat.reduceLT, Nat.reduceEqDiff, Nat.reduceAdd, Nat.reduceGT, Int.reduceToNat, hb_1130, hb_1131], (weak_sel [0, 1] (by decide) rfl (by simp only [go_sem, reduceIte, Nat.reduceLT, Nat.reduceEqDiff, Nat.reduceAdd]) (by simp only [go_sem, reduceIte, Nat.reduceLT, Nat.reduceEqDiff, Nat.reduceAdd]))⟩
      · replace hv_1129 := ite_f hv_1129 hb_1131
        rcases Bool.eq_false_or_eq_true ((y_1123.2 != 1)) with hb_1132 | hb_1132
        · replace hv_1129 := ite_t hv_1129 hb_1132
          have e_hv_1129 := Option.some.inj hv_1129; subst e_hv_1129
          exact ⟨_, [(1, .ref 0 0), (3, .ref 1 0), (7, .sl false (L cApi_Packet y_1125.2)), (60, .bool true)], [.box [i64 y_1125.1.Epoch, i64 y_1125.1.Other, i64 y_1125.1.First, .sl false (L (cSl cU8) y_1125.1.Queue), i64 y_1125.1.Next, .sl false (L cApi_Packet y_1125.1.Early), i64 y_1125.1.SentAt] false, .box [i64 y_1121.1.Epoch, i64 y_1121.1.Other, i64 y_1121.1.First, .sl false (L (cSl cU8) y_1121.1.Queue), i64 y_1121.1.Next, .sl false (L cApi_Packet y_1121.1.Early), i64 y_1121.1.SentAt] false, .box [i64 y_1123.1.Epoch, i64 y_1123.1.Other, i64 y_1123.1.First, .sl false (L (cSl cU8) y_1123.1.Queue), i64 y_1123.1.Next, .sl false (L cApi_Packet y_1123.1.Early), i64 y_1123.1.SentAt] false], orcs_nil, by simp only [go_sem, reduceIte, Nat.reduceLT, Nat.reduceEqDiff, Nat.reduceAdd, Nat.reduceGT, Int.reduceToNat, hb_1130, hb_1131, hb_1132], (weak_sel [0, 1] (by decide) rfl (by simp only [go_sem, reduceIte, Nat.reduceLT, Nat.reduceEqDiff, Nat.reduceAdd]) (by simp only [go_sem, reduceIte, Nat.reduceLT, Nat.reduceEqDiff, Nat.reduceAdd]))⟩
        · replace hv_1129 := ite_f hv_1129 hb_1132
          rcases Bool.eq_false_or_eq_true (((y_1125.2.length : Int) != 1)) with hb_1133 | hb_1133
          · replace hv_1129 := ite_t hv_1129 hb_1133
            have e_hv_1129 := Option.some.inj hv_1129; subst e_hv_1129
            exact ⟨_, [(1, .ref 0 0), (3, .ref 1 0), (7, .sl false (L cApi_Packet y_1125.2)), (60, .bool true)], [.box [i64 y_1125.1.Epoch, i64 y_1125.1.Other, i64 y_1125.1.First, .sl false (L (cSl cU8) y_1125.1.Queue), i64 y_1125.1.Next, .sl false (L cApi_Packet y_1125.1.Early), i64 y_1125.1.SentAt] false, .box [i64 y_1121.1.Epoch, i64 y_1121.1.Other, i64 y_1121.1.First, .sl false (L (cSl cU8) y_1121.1.Queue), i64 y_1121.1.Next, .sl false (L cApi_Packet y_1121.1.Early), i64 y_1121.1.SentAt] false, .box [i64 y_1123.1.Epoch, i64 y_1123.1.Other, i64 y_1123.1.First, .sl false (L (cSl cU8) y_1123.1.Queue), i64 y_1123.1.Next, .sl false (L cApi_Packet y_1123.1.Early), i64 y_1123.1.SentAt] false], orcs_nil, by simp only [go_sem, reduceIte, Nat.reduceLT, Nat.reduceEqDiff, Nat.reduceAdd, Nat.reduceGT, Int.reduceToNat, hb_1130, hb_1131, hb_1132, hb_1133], (weak_sel [0, 1] (by decide) rfl (by simp only [go_sem, reduceIte, Nat.reduceLT, Nat.reduceEqDiff, Nat.reduceAdd]) (by simp only [go_sem, reduceIte, Nat.reduceLT, Nat.reduceEqDiff, Nat.reduceAdd]))⟩
          · replace hv_1129 := ite_f hv_1129 hb_1133
            replace hv_1129 := chk_some hv_1129; obtain ⟨hc_1134, hv_1129⟩ := hv_1129
            replace hv_1129 := bind_some1 hv_1129; obtain ⟨y_1127, hy_1135, hv_1129⟩ := hv_1129
            have e_hv_1129 := Option.some.inj hv_1129; subst e_hv_1129
            exact ⟨_, [(1, .ref 0 0), (3, .ref 1 0), (7, .sl false (L cApi_Packet y_1125.2)), (60, .bool ((!y_1127)))], [.box [i64 y_1125.1.Epoch, i64 y_1125.1.Other, i64 y_1125.1.First, .sl false (L (cSl cU8) y_1125.1.Queue), i64 y_1125.1.Next, .sl false (L cApi_Packet y_1125.1.Early), i64 y_1125.1.SentAt] false, .box [i64 y_1121.1.Epoch, i64 y_1121.1.Other, i64 y_1121.1.First, .sl false (L (cSl cU8) y_1121.1.Queue), i64 y_1121.1.Next, .sl false (L cApi_Packet y_1121.1.Early), i64 y_1121.1.SentAt] false, .box [i64 y_1123.1.Epoch, i64 y_1123.1.Other, i64 y_1123.1.First, .sl false (L (cSl cU8) y_1123.1.Queue), i64 y_1123.1.Next, .sl false (L cApi_Packet y_1123.1.Early), i64 y_1123.1.SentAt] false], orcs_ok (l := [(58, 30, [.agg [i64 ((nth y_1125.2 0).Epoch), i64 ((nth y_1125.2 0).To), i64 ((nth y_1125.2 0).Seq), i64 ((nth y_1125.2 0).Ack), .sl false (L cU8 ((nth y_1125.2 0).Data))], .agg [i64 3, i64 ((-1)), i64 ((-1)), i64 0, .sl false (L cU8 ([]))]], .bool y_1127)]) ⟨r12_SamePacket_con  hy_1135, trivial⟩, by simp only [go_sem, reduceIte, Nat.reduceLT, Nat.reduceEqDiff, Nat.reduceAdd, Nat.reduceGT, Int.reduceToNat, hb_1130, hb_1131, hb_1132, hb_1133, hc_1134, (show 0 < y_1125.2.length from hc_1134.2)], (weak_sel [0, 1] (by decide) rfl (by simp only [go_sem, reduceIte, Nat.reduceLT, Nat.reduceEqDiff, Nat.reduceAdd]) (by simp only [go_sem, reduceIte, Nat.reduceLT, Nat.reduceEqDiff, Nat.reduceAdd]))⟩
  refine run_condL (b := t_1128) rfl (by decide) (fun hb => ?_) (fun hb => ?_)
  · replace h := ite_t h hb
    refine run_textE hE [0] (fr' := [(0, .bool false)]) (σ' := [.box [i64 y_1125.1.Epoch, i64 y_1125.1.Other, i64 y_1125.1.First, .sl false (L (cSl cU8) y_1125.1.Queue), i64 y_1125.1.Next, .sl false (L cApi_Packet y_1125.1.Early), i64 y_1125.1.SentAt] false, .box [i64 y_1121.1.Epoch, i64 y_1121.1.Other, i64 y_1121.1.First, .sl false (L (cSl cU8) y_1121.1.Queue), i64 y_1121.1.Next, .sl false (L cApi_Packet y_1121.1.Early), i64 y_1121.1.SentAt] false]) ⟨_, orcs_nil, ?_⟩ ?_
    · simp only [go_sem, reduceIte, Nat.reduceLT, Nat.reduceEqDiff, Nat.reduceAdd]
    refine run_ret ?_
    refine thenK_r ?_
    obtain rfl := Option.some.inj h
    refine wkP_of (Weak.refl _ _) ?_
    refine ret_ok (.inr rfl) ?_
    simp only [go_sem, reduceIte, Nat.reduceLT, Nat.reduceEqDiff, Nat.reduceAdd]
  · replace h := ite_f h hb
    refine run_skip ?_
    refine thenK_n ?_
    replace h := chk_some h; obtain ⟨hc_1137, h⟩ := h
    replace h := bind_some1 h; obtain ⟨y_1136, hy_1138, h⟩ := h
    refine run_drawE hE mixed [[], [], [1], [1, 2], [0, 1, 2, 3], [0, 1, 2, 3, 4], [0, 1, 2, 3, 4, 5], [0, 1, 2, 3, 4, 5], [0, 1, 2, 3, 4, 5], [0, 1, 2, 3, 4, 5, 6], [0, 1, 2, 3, 4, 5, 6, 7, 9], [0, 1, 2, 3, 4, 5, 6, 7, 8, 9, 10]] (by kernel_rfl) (by kernel_rfl) [1, 3, 8, 9] (fr' := [(1, .ref 0 0), (3, .ref 1 0), (8, .sl false (L (cSl cU8) y_1136.2.1)), (9, .bool y_1136.2.2)]) (σ' := [.box [i64 y_1125.1.Epoch, i64 y_1125.1.Other, i64 y_1125.1.First, .sl false (L (cSl cU8) y_1125.1.Queue), i64 y_1125.1.Next, .sl false (L cApi_Packet y_1125.1.Early), i64 y_1125.1.SentAt] false, .box [i64 y_1136.1.Epoch, i64 y_1136.1.Other, i64 y_1136.1.First, .sl false (L (cSl cU8) y_1136.1.Queue), i64 y_1136.1.Next, .sl false (L cApi_Packet y_1136.1.Early), i64 y_1136.1.SentAt] false]) ⟨_, orcs_ok (l := [(66, 20, [.agg [i64 y_1121.1.Epoch, i64 y_1121.1.Other, i64 y_1121.1.First, .sl false (L (cSl cU8) y_1121.1.Queue), i64 y_1121.1.Next, .sl false (L cApi_Packet y_1121.1.Early), i64 y_1121.1.SentAt], .agg [i64 ((nth y_1125.2 0).Epoch), i64 ((nth y_1125.2 0).To), i64 ((nth y_1125.2 0).Seq), i64 ((nth y_1125.2 0).Ack), .sl false (L cU8 ((nth y_1125.2 0).Data))]], .tup [.agg [i64 y_1136.1.Epoch, i64 y_1136.1.Other, i64 y_1136.1.First, .sl false (L (cSl cU8) y_1136.1.Queue), i64 y_1136.1.Next, .sl false (L cApi_Packet y_1136.1.Early), i64 y_1136.1.SentAt], .sl false (L (cSl cU8) y_1136.2.1), .bool y_1136.2.2])]) ⟨window_Accept_con  hy_1138, trivial⟩, ?_⟩ ?_
    · simp only [go_sem, reduceIte, Nat.reduceLT, Nat.reduceEqDiff, Nat.reduceAdd, Int.reduceToNat, Nat.reduceLeDiff, hc_1137, (show 0 < y_1125.2.length from hc_1137.2)]
    replace h := bind_some1 h; obtain ⟨y_1139, hy_1140, h⟩ := h
    refine run_textE hE [1, 3, 8, 9, 10] (fr' := [(1, .ref 0 0), (3, .ref 1 0), (8, .sl false (L (cSl cU8) y_1136.2.1)), (9, .bool y_1136.2.2), (10, .sl false (L cApi_Packet y_1139.2))]) (σ' := [.box [i64 y_1125.1.Epoch, i64 y_1125.1.Other, i64 y_1125.1.First, .sl false (L (cSl cU8) y_1125.1.Queue), i64 y_1125.1.Next, .sl false (L cApi_Packet y_1125.1.Early), i64 y_1125.1.SentAt] false, .box [i64 y_1139.1.Epoch, i64 y_1139.1.Other, i64 y_1139.1.First, .sl false (L (cSl cU8) y_1139.1.Queue), i64 y_1139.1.Next, .sl false (L cApi_Packet y_1139.1.Early), i64 y_1139.1.SentAt] false]) ⟨_, orcs_ok (l := [(72, 16, [.agg [i64 y_1136.1.Epoch, i64 y_1136.1.Other, i64 y_1136.1.First, .sl false (L (cSl cU8) y_1136.1.Queue), i64 y_1136.1.Next, .sl false (L cApi_Packet y_1136.1.Early), i64 y_1136.1.SentAt], i64 1], .tup [.agg [i64 y_1139.1.Epoch, i64 y_1139.1.Other, i64 y_1139.1.First, .sl false (L (cSl cU8) y_1139.1.Queue), i64 y_1139.1.Next, .sl false (L cApi_Packet y_1139.1.Early), i64 y_1139.1.SentAt], .sl false (L cApi_Packet y_1139.2)])]) ⟨window_Emit_con  hy_1140, trivial⟩, ?_⟩ ?_
    · simp only [go_sem, reduceIte, Nat.reduceLT, Nat.reduceEqDiff, Nat.reduceAdd, Nat.reduceLeDiff]
    refine run_seq ?_
    replace h := bind_some1 h; obtain ⟨t_1141, hv_1142, h⟩ := h
    refine run_textW hE [1, 3, 10, 91] (fr' := [(1, .ref 0 0), (3, .ref 1 0), (10, .sl false (L cApi_Packet y_1139.2)), (91, .bool t_1141)]) (σ' := [.box [i64 y_1125.1.Epoch, i64 y_1125.1.Other, i64 y_1125.1.First, .sl false (L (cSl cU8) y_1125.1.Queue), i64 y_1125.1.Next, .sl false (L cApi_Packet y_1125.1.Early), i64 y_1125.1.SentAt] false, .box [i64 y_1139.1.Epoch, i64 y_1139.1.Other, i64 y_1139.1.First, .sl false (L (cSl cU8) y_1139.1.Queue), i64 y_1139.1.Next, .sl false (L cApi_Packet y_1139.1.Early), i64 y_1139.1.SentAt] false]) ?_ ?_
    · rcases Bool.eq_false_or_eq_true (((y_1136.2.1.length : Int) != 0)) with hb_1143 | hb_1143
      · replace hv_1142 := ite_t hv_1142 hb_1143
        have e_hv_1142 := Option.some.inj hv_1142; subst e_hv_1142
        exact ⟨_, [(1, .ref 0 0), (3, .ref 1 0), (10, .sl false (L cApi_Packet y_1139.2)), (91, .bool true)], [.box [i64 y_1125.1.Epoch, i64 y_1125.1.Other, i64 y_1125.1.First, .sl false (L (cSl cU8) y_1125.1.Queue), i64 y_1125.1.Next, .sl false (L cApi_Packet y_1125.1.Early), i64 y_1125.1.SentAt] false, .box [i64 y_1139.1.Epoch, i64 y_1139.1.Other, i64 y_1139.1.First, .sl false (L (cSl cU8) y_1139.1.Queue), i64 y_1139.1.Next, .sl false (L cApi_Packet y_1139.1.Early), i64 y_1139.1.SentAt] false], orcs_nil, by simp only [go_sem, reduceIte, Nat.reduceLT, Nat.reduceEqDiff, Nat.reduceAdd, hb_1143], (weak_sel [0, 1] (by decide) rfl (by simp only [go_sem, reduceIte, Nat.reduceLT, Nat.reduceEqDiff, Nat.reduceAdd]) (by simp only [go_sem, reduceIte, Nat.reduceLT, Nat.reduceEqDiff, Nat.reduceAdd]))⟩
      · replace hv_1142 := ite_f hv_1142 hb_1143
        rcases Bool.eq_false_or_eq_true ((!y_1136.2.2)) with hb_1144 | hb_1144
        · replace hv_1142 := ite_t hv_1142 hb_1144
          have e_hv_1142 := Option.some.inj hv_1142; subst e_hv_1142
          exact ⟨_, [(1, .ref 0 0), (3, .ref 1 0), (10, .sl false (L cApi_Packet y_1139.2)), (91, .bool true)], [.box [i64 y_1125.1.Epoch, i64 y_1125.1.Other, i64 y_1125.1.First, .sl false (L (cSl cU8) y_1125.1.Queue), i64 y_1125.1.Next, .sl false (L cApi_Packet y_1125.1.Early), i64 y_1125.1.SentAt] false, .box [i64 y_1139.1.Epoch, i64 y_1139.1.Other, i64 y_1139.1.First, .sl false (L (cSl cU8) y_1139.1.Queue), i64 y_1139.1.Next, .sl false (L cApi_Packet y_1139.1.Early), i64 y_1139.1.SentAt] false], orcs_nil, by simp only [go_sem, reduceIte, Nat.reduceLT, Nat.reduceEqDiff, Nat.reduceAdd, hb_1143, hb_1144], (weak_sel [0, 1] (by decide) rfl (by simp only [go_sem, reduceIte, Nat.reduceLT, Nat.reduceEqDiff, Nat.reduceAdd]) (by simp only [go_sem, reduceIte, Nat.reduceLT, Nat.reduceEqDiff, Nat.reduceAdd]))⟩
        · replace hv_1142 := ite_f hv_1142 hb_1144
          rcases Bool.eq_false_or_eq_true ((y_1139.1.Other != 3)) with hb_1145 | hb_1145
          · replace hv_1142 := ite_t hv_1142 hb_1145
            have e_hv_1142 := Option.some.inj hv_1142; subst e_hv_1142
            exact ⟨_, [(1, .ref 0 0), (3, .ref 1 0), (10, .sl false (L cApi_Packet y_1139.2)), (91, .bool true)], [.box [i64 y_1125.1.Epoch, i64 y_1125.1.Other, i64 y_1125.1.First, .sl false (L (cSl cU8) y_1125.1.Queue), i64 y_1125.1.Next, .sl false (L cApi_Packet y_1125.1.Early), i64 y_1125.1.SentAt] false, .box [i64 y_1139.1.Epoch, i64 y_1139.1.Other, i64 y_1139.1.First, .sl false (L (cSl cU8) y_1139.1.Queue), i64 y_1139.1.Next, .sl false (L cApi_Packet y_1139.1.Early), i64 y_1139.1.SentAt] false], orcs_nil, by simp only [go_sem, reduceIte, Nat.reduceLT, Nat.reduceEqDiff, Nat.reduceAdd, hb_1143, hb_1144, hb_1145], (weak_sel [0, 1] (by decide) rfl (by simp only [go_sem, reduceIte, Nat.reduceLT, Nat.reduceEqDiff, Nat.reduceAdd]) (by simp only [go_sem, reduceIte, Nat.reduceLT, Nat.reduceEqDiff, Nat.reduceAdd]))⟩
          · replace hv_1142 := ite_f hv_1142 hb_1145
            have e_hv_1142 := Option.some.inj hv_1142; subst e_hv_1142
            exact ⟨_, [(1, .ref 0 0), (3, .ref 1 0), (10, .sl false (L cApi_Packet y_1139.2)), (91, .bool (((y_1139.2.length : Int) != 1)))], [.box [i64 y_1125.1.Epoch, i64 y_1125.1.Other, i64 y_1125.1.First, .sl false (L (cSl cU8) y_1125.1.Queue), i64 y_1125.1.Next, .sl false (L cApi_Packet y_1125.1.Early), i64 y_1125.1.SentAt] false, .box [i64 y_1139.1.Epoch, i64 y_1139.1.Other, i64 y_1139.1.First, .sl false (L (cSl cU8) y_1139.1.Queue), i64 y_1139.1.Next, .sl false (L cApi_Packet y_1139.1.Early), i64 y_1139.1.SentAt] false], orcs_nil, by simp only [go_sem, reduceIte, Nat.reduceLT, Nat.reduceEqDiff, Nat.reduceAdd, hb_1143, hb_1144, hb_1145], (weak_sel [0, 1] (by decide) rfl (by simp only [go_sem, reduceIte, Nat.reduceLT, Nat.reduceEqDiff, Nat.reduceAdd]) (by simp only [go_sem, reduceIte, Nat.reduceLT, Nat.reduceEqDiff, Nat.reduceAdd]))⟩
    refine run_condL (b := t_1141) rfl (by decide) (fun hb => ?_) (fun hb => ?_)
    · replace h := ite_t h hb
      refine run_textE hE [0] (fr' := [(0, .bool false)]) (σ' := [.box [i64 y_1125.1.Epoch, i64 y_1125.1.Other, i64 y_1125.1.First, .sl false (L (cSl cU8) y_1125.1.Queue), i64 y_1125.1.Next, .sl false (L cApi_Packet y_1125.1.Early), i64 y_1125.1.SentAt] false, .box [i64 y_1139.1.Epoch, i64 y_1139.1.Other, i64 y_1139.1.First, .sl false (L (cSl cU8) y_1139.1.Queue), i64 y_1139.1.Next, .sl false (L cApi_Packet y_1139.1.Early), i64 y_1139.1.SentAt] false]) ⟨_, orcs_nil, ?_⟩ ?_
      · simp only [go_sem, reduceIte, Nat.reduceLT, Nat.reduceEqDiff, Nat.reduceAdd]
      refine run_ret ?_
      refine thenK_r ?_
      obtain rfl := Option.some.inj h
      refine wkP_of (Weak.refl _ _) ?_
      refine ret_ok (.inr rfl) ?_
      simp only [go_sem, reduceIte, Nat.reduceLT, Nat.reduceEqDiff, Nat.reduceAdd]
    · replace h := ite_f h hb
      refine run_skip ?_
      refine thenK_n ?_
      replace h := chk_some h; obtain ⟨hc_1147, h⟩ := h
      replace h := bind_some1 h; obtain ⟨y_1146, hy_1148, h⟩ := h
      refine run_drawE hE mixed [[], [], [1], [1, 2], [0, 1, 2, 3], [0, 1, 2, 3, 4], [0, 1, 2, 3, 4, 5], [0, 1, 2, 3, 4, 5], [0, 1, 2, 3, 4, 5], [0, 1, 2, 3, 4, 5, 6], [0, 1, 2, 3, 4, 5, 6, 7, 8, 9]] (by kernel_rfl) (by kernel_rfl) [1, 3, 9] (fr' := [(1, .ref 0 0), (3, .ref 1 0), (9, .bool y_1146.2.2)]) (σ' := [.box [i64 y_1146.1.Epoch, i64 y_1146.1.Other, i64 y_1146.1.First, .sl false (L (cSl cU8) y_1146.1.Queue), i64 y_1146.1.Next, .sl false (L cApi_Packet y_1146.1.Early), i64 y_1146.1.SentAt] false, .box [i64 y_1139.1.Epoch, i64 y_1139.1.Other, i64 y_1139.1.First, .sl false (L (cSl cU8) y_1139.1.Queue), i64 y_1139.1.Next, .sl false (L cApi_Packet y_1139.1.Early), i64 y_1139.1.SentAt] false]) ⟨_, orcs_ok (l := [(97, 20, [.agg [i64 y_1125.1.Epoch, i64 y_1125.1.Other, i64 y_1125.1.First, .sl false (L (cSl cU8) y_1125.1.Queue), i64 y_1125.1.Next, .sl false (L cApi_Packet y_1125.1.Early), i64 y_1125.1.SentAt], .agg [i64 ((nth y_1139.2 0).Epoch), i64 ((nth y_1139.2 0).To), i64 ((nth y_1139.2 0).Seq), i64 ((nth y_1139.2 0).Ack), .sl false (L cU8 ((nth y_1139.2 0).Data))]], .tup [.agg [i64 y_1146.1.Epoch, i64 y_1146.1.Other, i64 y_1146.1.First, .sl false (L (cSl cU8) y_1146.1.Queue), i64 y_1146.1.Next, .sl false (L cApi_Packet y_1146.1.Early), i64 y_1146.1.SentAt], .sl false (L (cSl cU8) y_1146.2.1), .bool y_1146.2.2])]) ⟨window_Accept_con  hy_1148, trivial⟩, ?_⟩ ?_
      · simp only [go_sem, reduceIte, Nat.reduceLT, Nat.reduceEqDiff, Nat.reduceAdd, Int.reduceToNat, Nat.reduceLeDiff, hc_1147, (show 0 < y_1139.2.length from hc_1147.2)]
      replace h := bind_some1 h; obtain ⟨y_1149, hy_1150, h⟩ := h
      refine run_textE hE [1, 3, 9, 11] (fr' := [(1, .ref 0 0), (3, .ref 1 0), (9, .bool y_1146.2.2), (11, i64 y_1149.2)]) (σ' := [.box [i64 y_1149.1.Epoch, i64 y_1149.1.Other, i64 y_1149.1.First, .sl false (L (cSl cU8) y_1149.1.Queue), i64 y_1149.1.Next, .sl false (L cApi_Packet y_1149.1.Early), i64 y_1149.1.SentAt] false, .box [i64 y_1139.1.Epoch, i64 y_1139.1.Other, i64 y_1139.1.First, .sl false (L (cSl cU8) y_1139.1.Queue), i64 y_1139.1.Next, .sl false (L cApi_Packet y_1139.1.Early), i64 y_1139.1.SentAt] false, .buf 1 (L cU8 (([(120 : UInt8)] : List UInt8))) true]) ⟨_, orcs_ok (l := [(105, 14, [.agg [i64 y_1146.1.Epoch, i64 y_1146.1.Other, i64 y_1146.1.First, .sl false (L (cSl cU8) y_1146.1.Queue), i64 y_1146.1.Next, .sl false (L cApi_Packet y_1146.1.Early), i64 y_1146.1.SentAt], .sl false (L cU8 (([(120 : UInt8)] : List UInt8)))], .tup [.agg [i64 y_1149.1.Epoch, i64 y_1149.1.Other, i64 y_1149.1.First, .sl false (L (cSl cU8) y_1149.1.Queue), i64 y_1149.1.Next, .sl false (L cApi_Packet y_1149.1.Early), i64 y_1149.1.SentAt], i64 y_1149.2])]) ⟨window_Offer_con  hy_1150, trivial⟩, ?_⟩ ?_
      · simp only [go_sem, reduceIte, Nat.reduceLT, Nat.reduceEqDiff, Nat.reduceAdd, Nat.reduceBEq, Nat.reduceMul, Nat.reduceSub, Nat.reduceGT, Nat.reducePow, Nat.reduceLeDiff, Int.reduceToNat]
      replace h := bind_some1 h; obtain ⟨y_1151, hy_1152, h⟩ := h
      refine run_textE hE [1, 3, 7, 9, 11] (fr' := [(1, .ref 0 0), (3, .ref 1 0), (7, .sl false (L cApi_Packet y_1151.2)), (9, .bool y_1146.2.2), (11, i64 y_1149.2)]) (σ' := [.box [i64 y_1151.1.Epoch, i64 y_1151.1.Other, i64 y_1151.1.First, .sl false (L (cSl cU8) y_1151.1.Queue), i64 y_1151.1.Next, .sl false (L cApi_Packet y_1151.1.Early), i64 y_1151.1.SentAt] false, .box [i64 y_1139.1.Epoch, i64 y_1139.1.Other, i64 y_1139.1.First, .sl false (L (cSl cU8) y_1139.1.Queue), i64 y_1139.1.Next, .sl false (L cApi_Packet y_1139.1.Early), i64 y_1139.1.SentAt] false, .buf 1 (L cU8 (([(120 : UInt8)] : List UInt8))) true]) ⟨_, orcs_ok (l := [(110, 16, [.agg [i64 y_1149.1.Epoch, i64 y_1149.1.Other, i64 y_1149.1.First, .sl false (L (cSl cU8) y_1149.1.Queue), i64 y_1149.1.Next, .sl false (L cApi_Packet y_1149.1.Early), i64 y_1149.1.SentAt], i64 7], .tup [.agg [i64 y_1151.1.Epoch, i64 y_1151.1.Other, i64 y_1151.1.First, .sl false (L (cSl cU8) y_1151.1.Queue), i64 y_1151.1.Next, .sl false (L cApi_Packet y_1151.1.Early), i64 y_1151.1.SentAt], .sl false (L cApi_Packet y_1151.2)])]) ⟨window_Emit_con  hy_1152, trivial⟩, ?_⟩ ?_
      · simp only [go_sem, reduceIte, Nat.reduceLT, Nat.reduceEqDiff, Nat.reduceAdd, Nat.reduceLeDiff]
      refine run_seq ?_
      replace h := bind_some1 h; obtain ⟨t_1154, hv_1155, h⟩ := h
      refine run_textW hE [1, 3, 7, 133] (fr' := [(1, .ref 0 0), (3, .ref 1 0), (7, .sl false (L cApi_Packet y_1151.2)), (133, .bool t_1154)]) (σ' := [.box [i64 y_1151.1.Epoch, i64 y_1151.1.Other, i64 y_1151.1.First, .sl false (L (cSl cU8) y_1151.1.Queue), i64 y_1151.1.Next, .sl false (L cApi_Packet y_1151.1.Early), i64 y_1151.1.SentAt] false, .box [i64 y_1139.1.Epoch, i64 y_1139.1.Other, i64 y_1139.1.First, .sl false (L (cSl cU8) y_1139.1.Queue), i64 y_1139.1.Next, .sl false (L cApi_Packet y_1139.1.Early), i64 y_1139.1.SentAt] false]) ?_ ?_
      · rcases Bool.eq_false_or_eq_true ((!y_1146.2.2)) with hb_1156 | hb_1156
        · replace hv_1155 := ite_t hv_1155 hb_1156
          have e_hv_1155 := Option.some.inj hv_1155; subst e_hv_1155
          exact ⟨_, [(1, .ref 0 0), (3, .ref 1 0), (7, .sl false (L cApi_Packet y_1151.2)), (133, .bool true)], [.box [i64 y_1151.1.Epoch, i64 y_1151.1.Other, i64 y_1151.1.First, .sl false (L (cSl cU8) y_1151.1.Queue), i64 y_1151.1.Next, .sl false (L cApi_Packet y_1151.1.Early), i64 y_1151.1.SentAt] false, .box [i64 y_1139.1.Epoch, i64 y_1139.1.Other, i64 y_1139.1.First, .sl false (L (cSl cU8) y_1139.1.Queue), i64 y_1139.1.Next, .sl false (L cApi_Packet y_1139.1.Early), i64 y_1139.1.SentAt] false, .buf 1 (L cU8 (([(120 : UInt8)] : List UInt8))) true], orcs_nil, by simp only [go_sem, reduceIte, Nat.reduceLT, Nat.reduceEqDiff, Nat.reduceAdd, Nat.reduceBEq, Nat.reduceMul, Nat.reduceSub, Nat.reduceGT, Nat.reducePow, Nat.reduceLeDiff, Int.reduceToNat, hb_1156], (weak_sel [0, 1] (by decide) rfl (by simp only [go_sem, reduceIte, Nat.reduceLT, Nat.reduceEqDiff, Nat.reduceAdd]) (by simp only [go_sem, reduceIte, Nat.reduceLT, Nat.reduceEqDiff, Nat.reduceAdd]))⟩
        · replace hv_1155 := ite_f hv_1155 hb_1156
          rcases Bool.eq_false_or_eq_true ((y_1149.2 != 0)) with hb_1157 | hb_1157
          · replace hv_1155 := ite_t hv_1155 hb_1157
            have e_hv_1155 := Option.some.inj hv_1155; subst e_hv_1155
            exact ⟨_, [(1, .ref 0 0), (3, .ref 1 0), (7, .sl false (L cApi_Packet y_1151.2)), (133, .bool true)], [.box [i64 y_1151.1.Epoch, i64 y_1151.1.Other, i64 y_1151.1.First, .sl false (L (cSl cU8) y_1151.1.Queue), i64 y_1151.1.Next, .sl false (L cApi_Packet y_1151.1.Early), i64 y_1151.1.SentAt] false, .box [i64 y_1139.1.Epoch, i64 y_1139.1.Other, i64 y_1139.1.First, .sl false (L (cSl cU8) y_1139.1.Queue), i64 y_1139.1.Next, .sl false (L cApi_Packet y_1139.1.Early), i64 y_1139.1.SentAt] false, .buf 1 (L cU8 (([(120 : UInt8)] : List UInt8))) true], orcs_nil, by simp only [go_sem, reduceIte, Nat.reduceLT, Nat.reduceEqDiff, Nat.reduceAdd, Nat.reduceBEq, Nat.reduceMul, Nat.reduceSub, Nat.reduceGT, Nat.reducePow, Nat.reduceLeDiff, Int.reduceToNat, hb_1156, hb_1157], (weak_sel [0, 1] (by decide) rfl (by simp only [go_sem, reduceIte, Nat.reduceLT, Nat.reduceEqDiff, Nat.reduceAdd]) (by simp only [go_sem, reduceIte, Nat.reduceLT, Nat.reduceEqDiff, Nat.reduceAdd]))⟩
          · replace hv_1155 := ite_f hv_1155 hb_1157
            rcases Bool.eq_false_or_eq_true (((y_1151.2.length : Int) != 1)) with hb_1158 | hb_1158
            · replace hv_1155 := ite_t hv_1155 hb_1158
              have e_hv_1155 := Option.some.inj hv_1155; subst e_hv_1155
              exact ⟨_, [(1, .ref 0 0), (3, .ref 1 0), (7, .sl false (L cApi_Packet y_1151.2)), (133, .bool true)], [.box [i64 y_1151.1.Epoch, i64 y_1151.1.Other, i64 y_1151.1.First, .sl false (L (cSl cU8) y_1151.1.Queue), i64 y_1151.1.Next, .sl false (L cApi_Packet y_1151.1.Early), i64 y_1151.1.SentAt] false, .box [i64 y_1139.1.Epoch, i64 y_1139.1.Other, i64 y_1139.1.First, .sl false (L (cSl cU8) y_1139.1.Queue), i64 y_1139.1.Next, .sl false (L cApi_Packet y_1139.1.Early), i64 y_1139.1.SentAt] false, .buf 1 (L cU8 (([(120 : UInt8)] : List UInt8))) true], orcs_nil, by simp only [go_sem, reduceIte, Nat.reduceLT, Nat.reduceEqDiff, Nat.reduceAdd, Nat.reduceBEq, Nat.reduceMul, Nat.reduceSub, Nat.reduceGT, Nat.reducePow, Nat.reduceLeDiff, Int.reduceToNat, hb_1156, hb_1157, hb_1158], (weak_sel [0, 1] (by decide) rfl (by simp only [go_sem, reduceIte, Nat.reduceLT, Nat.reduceEqDiff, Nat.reduceAdd]) (by simp only [go_sem, reduceIte, Nat.reduceLT, Nat.reduceEqDiff, Nat.reduceAdd]))⟩
            · replace hv_1155 := ite_f hv_1155 hb_1158
              replace hv_1155 := chk_some hv_1155; obtain ⟨hc_1159, hv_1155⟩ := hv_1155
              replace hv_1155 := bind_some1 hv_1155; obtain ⟨y_1153, hy_1160, hv_1155⟩ := hv_1155
              have e_hv_1155 := Option.some.inj hv_1155; subst e_hv_1155
              exact ⟨_, [(1, .ref 0 0), (3, .ref 1 0), (7, .sl false (L cApi_Packet y_1151.2)), (133, .bool ((!y_1153)))], [.box [i64 y_1151.1.Epoch, i64 y_1151.1.Other, i64 y_1151.1.First, .sl false (L (cSl cU8) y_1151.1.Queue), i64 y_1151.1.Next, .sl false (L cApi_Packet y_1151.1.Early), i64 y_1151.1.SentAt] false, .box [i64 y_1139.1.Epoch, i64 y_1139.1.Other, i64 y_1139.1.First, .sl false (L (cSl cU8) y_1139.1.Queue), i64 y_1139.1.Next, .sl false (L cApi_Packet y_1139.1.Early), i64 y_1139.1.SentAt] false, .buf 1 (L cU8 (([(120 : UInt8)] : List UInt8))) true, .buf 1 (L cU8 (([(120 : UInt8)] : List UInt8))) false], orcs_ok (l := [(131, 30, [.agg [i64 ((nth y_1151.2 0).Epoch), i64 ((nth y_1151.2 0).To), i64 ((nth y_1151.2 0).Seq), i64 ((nth y_1151.2 0).Ack), .sl false (L cU8 ((nth y_1151.2 0).Data))], .agg [i64 3, i64 5, i64 0, i64 0, .sl false (L cU8 (([(120 : UInt8)] : List UInt8)))]], .bool y_1153)]) ⟨r12_SamePacket_con  hy_1160, trivial⟩, by simp only [go_sem, reduceIte, Nat.reduceLT, Nat.reduceEqDiff, Nat.reduceAdd, Nat.reduceBEq, Nat.reduceMul, Nat.reduceSub, Nat.reduceGT, Nat.reducePow, Nat.reduceLeDiff, Int.reduceToNat, hb_1156, hb_1157, hb_1158, hc_1159, (show 0 < y_1151.2.length from hc_1159.2)], (weak_sel [0, 1] (by decide) rfl (by simp only [go_sem, reduceIte, Nat.reduceLT, Nat.reduceEqDiff, Nat.reduceAdd]) (by simp only [go_sem, reduceIte, Nat.reduceLT, Nat.reduceEqDiff, Nat.reduceAdd]))⟩
      refine run_condL (b := t_1154) rfl (by decide) (fun hb => ?_) (fun hb => ?_)
      · replace h := ite_t h hb
        refine run_textE hE [0] (fr' := [(0, .bool false)]) (σ' := [.box [i64 y_1151.1.Epoch, i64 y_1151.1.Other, i64 y_1151.1.First, .sl false (L (cSl cU8) y_1151.1.Queue), i64 y_1151.1.Next, .sl false (L cApi_Packet y_1151.1.Early), i64 y_1151.1.SentAt] false, .box [i64 y_1139.1.Epoch, i64 y_1139.1.Other, i64 y_1139.1.First, .sl false (L (cSl cU8) y_1139.1.Queue), i64 y_1139.1.Next, .sl false (L cApi_Packet y_1139.1.Early), i64 y_1139.1.SentAt] false]) ⟨_, orcs_nil, ?_⟩ ?_
        · simp only [go_sem, reduceIte, Nat.reduceLT, Nat.reduceEqDiff, Nat.reduceAdd]
        refine run_ret ?_
        refine thenK_r ?_
        obtain rfl := Option.some.inj h
        refine wkP_of (Weak.refl _ _) ?_
        refine ret_ok (.inr rfl) ?_
        simp only [go_sem, reduceIte, Nat.reduceLT, Nat.reduceEqDiff, Nat.reduceAdd]
      · replace h := ite_f h hb
        refine run_skip ?_
        refine thenK_n ?_
        replace h := bind_some1 h; obtain ⟨y_1161, hy_1162, h⟩ := h
        refine run_textE hE [1, 3, 7, 13] (fr' := [(1, .ref 0 0), (3, .ref 1 0), (7, .sl false (L cApi_Packet y_1151.2)), (13, .sl false (L cApi_Packet y_1161.2))]) (σ' := [.box [i64 y_1151.1.Epoch, i64 y_1151.1.Other, i64 y_1151.1.First, .sl false (L (cSl cU8) y_1151.1.Queue), i64 y_1151.1.Next, .sl false (L cApi_Packet y_1151.1.Early), i64 y_1151.1.SentAt] false, .box [i64 y_1139.1.Epoch, i64 y_1139.1.Other, i64 y_1139.1.First, .sl false (L (cSl cU8) y_1139.1.Queue), i64 y_1139.1.Next, .sl false (L cApi_Packet y_1139.1.Early), i64 y_1139.1.SentAt] false, .box [i64 y_1161.1.Epoch, i64 y_1161.1.Other, i64 y_1161.1.First, .sl false (L (cSl cU8) y_1161.1.Queue), i64 y_1161.1.Next, .sl false (L cApi_Packet y_1161.1.Early), i64 y_1161.1.SentAt] false]) ⟨_, orcs_ok (l := [(136, 16, [.agg [i64 y_1151.1.Epoch, i64 y_1151.1.Other, i64 y_1151.1.First, .sl false (L (cSl cU8) y_1151.1.Queue), i64 y_1151.1.Next, .sl false (L cApi_Packet y_1151.1.Early), i64 y_1151.1.SentAt], i64 8], .tup [.agg [i64 y_1161.1.Epoch, i64 y_1161.1.Other, i64 y_1161.1.First, .sl false (L (cSl cU8) y_1161.1.Queue), i64 y_1161.1.Next, .sl false (L cApi_Packet y_1161.1.Early), i64 y_1161.1.SentAt], .sl false (L cApi_Packet y_1161.2)])]) ⟨window_Emit_con  hy_1162, trivial⟩, ?_⟩ ?_
        · simp only [go_sem, reduceIte, Nat.reduceLT, Nat.reduceEqDiff, Nat.reduceAdd, Nat.reduceLeDiff]
        replace h := bind_some1 h; obtain ⟨y_1163, hy_1164, h⟩ := h
        refine run_textE hE [3, 7, 13, 15] (fr' := [(3, .ref 1 0), (7, .sl false (L cApi_Packet y_1151.2)), (13, .sl false (L cApi_Packet y_1161.2)), (15, .sl false (L cApi_Packet y_1163.2))]) (σ' := [.box [i64 y_1151.1.Epoch, i64 y_1151.1.Other, i64 y_1151.1.First, .sl false (L (cSl cU8) y_1151.1.Queue), i64 y_1151.1.Next, .sl false (L cApi_Packet y_1151.1.Early), i64 y_1151.1.SentAt] false, .box [i64 y_1139.1.Epoch, i64 y_1139.1.Other, i64 y_1139.1.First, .sl false (L (cSl cU8) y_1139.1.Queue), i64 y_1139.1.Next, .sl false (L cApi_Packet y_1139.1.Early), i64 y_1139.1.SentAt] false, .box [i64 y_1161.1.Epoch, i64 y_1161.1.Other, i64 y_1161.1.First, .sl false (L (cSl cU8) y_1161.1.Queue), i64 y_1161.1.Next, .sl false (L cApi_Packet y_1161.1.Early), i64 y_1161.1.SentAt] false, .box [i64 y_1163.1.Epoch, i64 y_1163.1.Other, i64 y_1163.1.First, .sl false (L (cSl cU8) y_1163.1.Queue), i64 y_1163.1.Next, .sl false (L cApi_Packet y_1163.1.Early), i64 y_1163.1.SentAt] false]) ⟨_, orcs_ok (l := [(141, 16, [.agg [i64 y_1151.1.Epoch, i64 y_1151.1.Other, i64 y_1151.1.First, .sl false (L (cSl cU8) y_1151.1.Queue), i64 y_1151.1.Next, .sl false (L cApi_Packet y_1151.1.Early), i64 y_1151.1.SentAt], i64 17], .tup [.agg [i64 y_1163.1.Epoch, i64 y_1163.1.Other, i64 y_1163.1.First, .sl false (L (cSl cU8) y_1163.1.Queue), i64 y_1163.1.Next, .sl false (L cApi_Packet y_1163.1.Early), i64 y_1163.1.SentAt], .sl false (L cApi_Packet y_1163.2)])]) ⟨window_Emit_con  hy_1164, trivial⟩, ?_⟩ ?_
        · simp only [go_sem, reduceIte, Nat.reduceLT, Nat.reduceEqDiff, Nat.reduceAdd, Nat.reduceLeDiff]
        replace h := chk_some h; obtain ⟨hc_1166, h⟩ := h
        replace h := bind_some1 h; obtain ⟨y_1165, hy_1167, h⟩ := h
        refine run_drawE hE mixed [[], [], [1], [1, 2], [0, 1, 2, 3], [0, 1, 2, 3, 4], [0, 1, 2, 3, 4, 5], [0, 1, 2, 3, 4, 5], [0, 1, 2, 3, 4, 5], [0, 1, 2, 3, 4, 5, 6], [0, 1, 2, 3, 4, 5, 6, 7, 9], [0, 1, 2, 3, 4, 5, 6, 7, 8, 9, 10]] (by kernel_rfl) (by kernel_rfl) [3, 7, 13, 15, 16] (fr' := [(3, .ref 1 0), (7, .sl false (L cApi_Packet y_1151.2)), (13, .sl false (L cApi_Packet y_1161.2)), (15, .sl false (L cApi_Packet y_1163.2)), (16, .sl false (L (cSl cU8) y_1165.2.1))]) (σ' := [.box [i64 y_1151.1.Epoch, i64 y_1151.1.Other, i64 y_1151.1.First, .sl false (L (cSl cU8) y_1151.1.Queue), i64 y_1151.1.Next, .sl false (L cApi_Packet y_1151.1.Early), i64 y_1151.1.SentAt] false, .box [i64 y_1165.1.Epoch, i64 y_1165.1.Other, i64 y_1165.1.First, .sl false (L (cSl cU8) y_1165.1.Queue), i64 y_1165.1.Next, .sl false (L cApi_Packet y_1165.1.Early), i64 y_1165.1.SentAt] false, .box [i64 y_1161.1.Epoch, i64 y_1161.1.Other, i64 y_1161.1.First, .sl false (L (cSl cU8) y_1161.1.Queue), i64 y_1161.1.Next, .sl false (L cApi_Packet y_1161.1.Early), i64 y_1161.1.SentAt] false, .box [i64 y_1163.1.Epoch, i64 y_1163.1.Other, i64 y_1163.1.First, .sl false (L (cSl cU8) y_1163.1.Queue), i64 y_1163.1.Next, .sl false (L cApi_Packet y_1163.1.Early), i64 y_1163.1.SentAt] false]) ⟨_, orcs_ok (l := [(149, 20, [.agg [i64 y_1139.1.Epoch, i64 y_1139.1.Other, i64 y_1139.1.First, .sl false (L (cSl cU8) y_1139.1.Queue), i64 y_1139.1.Next, .sl false (L cApi_Packet y_1139.1.Early), i64 y_1139.1.SentAt], .agg [i64 ((nth y_1151.2 0).Epoch), i64 ((nth y_1151.2 0).To), i64 ((nth y_1151.2 0).Seq), i64 ((nth y_1151.2 0).Ack), .sl false (L cU8 ((nth y_1151.2 0).Data))]], .tup [.agg [i64 y_1165.1.Epoch, i64 y_1165.1.Other, i64 y_1165.1.First, .sl false (L (cSl cU8) y_1165.1.Queue), i64 y_1165.1.Next, .sl false (L cApi_Packet y_1165.1.Early), i64 y_1165.1.SentAt], .sl false (L (cSl cU8) y_1165.2.1), .bool y_1165.2.2])]) ⟨window_Accept_con  hy_1167, trivial⟩, ?_⟩ ?_
        · simp only [go_sem, reduceIte, Nat.reduceLT, Nat.reduceEqDiff, Nat.reduceAdd, Int.reduceToNat, Nat.reduceLeDiff, hc_1166, (show 0 < y_1151.2.length from hc_1166.2)]
        replace h := chk_some h; obtain ⟨hc_1169, h⟩ := h
        replace h := bind_some1 h; obtain ⟨y_1168, hy_1170, h⟩ := h
        refine run_drawE hE mixed [[], [], [1], [1, 2], [0, 1, 2, 3], [0, 1, 2, 3, 4], [0, 1, 2, 3, 4, 5], [0, 1, 2, 3, 4, 5], [0, 1, 2, 3, 4, 5], [], [0, 1, 2, 3, 4, 5, 6, 9], [0, 1, 2, 3, 4, 5, 6, 7, 9, 10], [0, 1, 2, 3, 4, 5, 6, 7, 8, 9, 10, 11]] (by kernel_rfl) (by kernel_rfl) [3, 13, 15, 16, 19] (fr' := [(3, .ref 1 0), (13, .sl false (L cApi_Packet y_1161.2)), (15, .sl false (L cApi_Packet y_1163.2)), (16, .sl false (L (cSl cU8) y_1165.2.1)), (19, .sl false (L (cSl cU8) y_1168.2.1))]) (σ' := [.box [i64 y_1151.1.Epoch, i64 y_1151.1.Other, i64 y_1151.1.First, .sl false (L (cSl cU8) y_1151.1.Queue), i64 y_1151.1.Next, .sl false (L cApi_Packet y_1151.1.Early), i64 y_1151.1.SentAt] false, .box [i64 y_1165.1.Epoch, i64 y_1165.1.Other, i64 y_1165.1.First, .sl false (L (cSl cU8) y_1165.1.Queue), i64 y_1165.1.Next, .sl false (L cApi_Packet y_1165.1.Early), i64 y_1165.1.SentAt] false, .box [i64 y_1161.1.Epoch, i64 y_1161.1.Other, i64 y_1161.1.First, .sl false (L (cSl cU8) y_1161.1.Queue), i64 y_1161.1.Next, .sl false (L cApi_Packet y_1161.1.Early), i64 y_1161.1.SentAt] false, .box [i64 y_1163.1.Epoch, i64 y_1163.1.Other, i64 y_1163.1.First, .sl false (L (cSl cU8) y_1163.1.Queue), i64 y_1163.1.Next, .sl false (L cApi_Packet y_1163.1.Early), i64 y_1163.1.SentAt] false, .box [i64 y_1168.1.Epoch, i64 y_1168.1.Other, i64 y_1168.1.First, .sl false (L (cSl cU8) y_1168.1.Queue), i64 y_1168.1.Next, .sl false (L cApi_Packet y_1168.1.Early), i64 y_1168.1.SentAt] false]) ⟨_, orcs_ok (l := [(158, 20, [.agg [i64 y_1165.1.Epoch, i64 y_1165.1.Other, i64 y_1165.1.First, .sl false (L (cSl cU8) y_1165.1.Queue), i64 y_1165.1.Next, .sl false (L cApi_Packet y_1165.1.Early), i64 y_1165.1.SentAt], .agg [i64 ((nth y_1151.2 0).Epoch), i64 ((nth y_1151.2 0).To), i64 ((nth y_1151.2 0).Seq), i64 ((nth y_1151.2 0).Ack), .sl false (L cU8 ((nth y_1151.2 0).Data))]], .tup [.agg [i64 y_1168.1.Epoch, i64 y_1168.1.Other, i64 y_1168.1.First, .sl false (L (cSl cU8) y_1168.1.Queue), i64 y_1168.1.Next, .sl false (L cApi_Packet y_1168.1.Early), i64 y_1168.1.SentAt], .sl false (L (cSl cU8) y_1168.2.1), .bool y_1168.2.2])]) ⟨window_Accept_con  hy_1170, trivial⟩, ?_⟩ ?_
        · simp only [go_sem, reduceIte, Nat.reduceLT, Nat.reduceEqDiff, Nat.reduceAdd, Int.reduceToNat, Nat.reduceLeDiff, hc_1169, (show 0 < y_1151.2.length from hc_1169.2)]
        replace h := bind_some1 h; obtain ⟨t_1171, hv_1172, h⟩ := h
        refine run_textW hE [0] (fr' := [(0, .bool t_1171)]) (σ' := []) ?_ ?_
        · rcases Bool.eq_false_or_eq_true (((y_1161.2.length : Int) == 1)) with hb_1173 | hb_1173
          · replace hv_1172 := ite_t hv_1172 hb_1173
            replace hv_1172 := chk_some hv_1172; obtain ⟨hc_1174, hv_1172⟩ := hv_1172
            rcases Bool.eq_false_or_eq_true (((nth y_1161.2 0).Seq == (-1))) with hb_1175 | hb_1175
            · replace hv_1172 := ite_t hv_1172 hb_1175
              rcases Bool.eq_false_or_eq_true (((y_1163.2.length : Int) == 1)) with hb_1176 | hb_1176
              · replace hv_1172 := ite_t hv_1172 hb_1176
                replace hv_1172 := chk_some hv_1172; obtain ⟨hc_1177, hv_1172⟩ := hv_1172
                rcases Bool.eq_false_or_eq_true (((nth y_1163.2 0).Seq == 0)) with hb_1178 | hb_1178
                · replace hv_1172 := ite_t hv_1172 hb_1178
                  rcases Bool.eq_false_or_eq_true (((y_1165.2.1.length : Int) == 1)) with hb_1179 | hb_1179
                  · replace hv_1172 := ite_t hv_1172 hb_1179
                    replace hv_1172 := chk_some hv_1172; obtain ⟨hc_1180, hv_1172⟩ := hv_1172
                    rcases Bool.eq_false_or_eq_true (((nth y_1165.2.1 0) == (([120] : List UInt8)))) with hb_1181 | hb_1181
                    · replace hv_1172 := ite_t hv_1172 hb_1181
                      rcases Bool.eq_false_or_eq_true ((y_1165.1.Next == 1)) with hb_1182 | hb_1182
                      · replace hv_1172 := ite_t hv_1172 hb_1182
                        have e_hv_1172 := Option.some.inj hv_1172; subst e_hv_1172
                        exact ⟨_, [(0, .bool (((y_1168.2.1.length : Int) == 0)))], [.box [i64 y_1151.1.Epoch, i64 y_1151.1.Other, i64 y_1151.1.First, .sl false (L (cSl cU8) y_1151.1.Queue), i64 y_1151.1.Next, .sl false (L cApi_Packet y_1151.1.Early), i64 y_1151.1.SentAt] false, .box [i64 y_1165.1.Epoch, i64 y_1165.1.Other, i64 y_1165.1.First, .sl false (L (cSl cU8) y_1165.1.Queue), i64 y_1165.1.Next, .sl false (L cApi_Packet y_1165.1.Early), i64 y_1165.1.SentAt] false, .box [i64 y_1161.1.Epoch, i64 y_1161.1.Other, i64 y_1161.1.First, .sl false (L (cSl cU8) y_1161.1.Queue), i64 y_1161.1.Next, .sl false (L cApi_Packet y_1161.1.Early), i64 y_1161.1.SentAt] false, .box [i64 y_1163.1.Epoch, i64 y_1163.1.Other, i64 y_1163.1.First, .sl false (L (cSl cU8) y_1163.1.Queue), i64 y_1163.1.Next, .sl false (L cApi_Packet y_1163.1.Early), i64 y_1163.1.SentAt] false, .box [i64 y_1168.1.Epoch, i64 y_1168.1.Other, i64 y_1168.1.First, .sl false (L (cSl cU8) y_1168.1.Queue), i64 y_1168.1.Next, .sl false (L cApi_Packet y_1168.1.Early), i64 y_1168.1.SentAt] false], orcs_nil, by simp only [go_sem, reduceIte, Nat.reduceLT, Nat.reduceEqDiff, Nat.reduceAdd, Int.reduceToNat, hb_1173, hc_1174, (show 0 < y_1161.2.length from hc_1174.2), hb_1175, hb_1176, hc_1177, (show 0 < y_1163.2.length from hc_1177.2), hb_1178, hb_1179, hc_1180, (show 0 < y_1165.2.1.length from hc_1180.2), hb_1181, hb_1182], (weak_sel [] (by decide) rfl (by simp only [go_sem, reduceIte, Nat.reduceLT, Nat.reduceEqDiff, Nat.reduceAdd]) (by simp only [go_sem, reduceIte, Nat.reduceLT, Nat.reduceEqDiff, Nat.reduceAdd]))⟩
                      · replace hv_1172 := ite_f hv_1172 hb_1182
                        have e_hv_1172 := Option.some.inj hv_1172; subst e_hv_1172
                        exact ⟨_, [(0, .bool false)], [.box [i64 y_1151.1.Epoch, i64 y_1151.1.Other, i64 y_1151.1.First, .sl false (L (cSl cU8) y_1151.1.Queue), i64 y_1151.1.Next, .sl false (L cApi_Packet y_1151.1.Early), i64 y_1151.1.SentAt] false, .box [i64 y_1165.1.Epoch, i64 y_1165.1.Other, i64 y_1165.1.First, .sl false (L (cSl cU8) y_1165.1.Queue), i64 y_1165.1.Next, .sl false (L cApi_Packet y_1165.1.Early), i64 y_1165.1.SentAt] false, .box [i64 y_1161.1.Epoch, i64 y_1161.1.Other, i64 y_1161.1.First, .sl false (L (cSl cU8) y_1161.1.Queue), i64 y_1161.1.Next, .sl false (L cApi_Packet y_1161.1.Early), i64 y_1161.1.SentAt] false, .box [i64 y_1163.1.Epoch, i64 y_1163.1.Other, i64 y_1163.1.First, .sl false (L (cSl cU8) y_1163.1.Queue), i64 y_1163.1.Next, .sl false (L cApi_Packet y_1163.1.Early), i64 y_1163.1.SentAt] false, .box [i64 y_1168.1.Epoch, i64 y_1168.1.Other, i64 y_1168.1.First, .sl false (L (cSl cU8) y_1168.1.Queue), i64 y_1168.1.Next, .sl false (L cApi_Packet y_1168.1.Early), i64 y_1168.1.SentAt] false], orcs_nil, by simp only [go_sem, reduceIte, Nat.reduceLT, Nat.reduceEqDiff, Nat.reduceAdd, Int.reduceToNat, hb_1173, hc_1174, (show 0 < y_1161.2.length from hc_1174.2), hb_1175, hb_1176, hc_1177, (show 0 < y_1163.2.length from hc_1177.2), hb_1178, hb_1179, hc_1180, (show 0 < y_1165.2.1.length from hc_1180.2), hb_1181, hb_1182], (weak_sel [] (by decide) rfl (by simp only [go_sem, reduceIte, Nat.reduceLT, Nat.reduceEqDiff, Nat.reduceAdd]) (by simp only [go_sem, reduceIte, Nat.reduceLT, Nat.reduceEqDiff, Nat.reduceAdd]))⟩
                    · replace hv_1172 := ite_f hv_1172 hb_1181
                      have e_hv_1172 := Option.some.inj hv_1172; subst e_hv_1172
                      exact ⟨_, [(0, .bool false)], [.box [i64 y_1151.1.Epoch, i64 y_1151.1.Other, i64 y_1151.1.First, .sl false (L (cSl cU8) y_1151.1.Queue), i64 y_1151.1.Next, .sl false (L cApi_Packet y_1151.1.Early), i64 y_1151.1.SentAt] false, .box [i64 y_1165.1.Epoch, i64 y_1165.1.Other, i64 y_1165.1.First, .sl false (L (cSl cU8) y_1165.1.Queue), i64 y_1165.1.Next, .sl false (L cApi_Packet y_1165.1.Early), i64 y_1165.1.SentAt] false, .box [i64 y_1161.1.Epoch, i64 y_1161.1.Other, i64 y_1161.1.First, .sl false (L (cSl cU8) y_1161.1.Queue), i64 y_1161.1.Next, .sl false (L cApi_Packet y_1161.1.Early), i64 y_1161.1.SentAt] false, .box [i64 y_1163.1.Epoch, i64 y_1163.1.Other, i64 y_1163.1.First, .sl false (L (cSl cU8) y_1163.1.Queue), i64 y_1163.1.Next, .sl false (L cApi_Packet y_1163.1.Early), i64 y_1163.1.SentAt] false, .box [i64 y_1168.1.Epoch, i64 y_1168.1.Other, i64 y_1168.1.First, .sl false (L (cSl cU8) y_1168.1.Queue), i64 y_1168.1.Next, .sl false (L cApi_Packet y_1168.1.Early), i64 y_1168.1.SentAt] false], orcs_nil, by simp only [go_sem, reduceIte, Nat.reduceLT, Nat.reduceEqDiff, Nat.reduceAdd, Int.reduceToNat, hb_1173, hc_1174, (show 0 < y_1161.2.length from hc_1174.2), hb_1175, hb_1176, hc_1177, (show 0 < y_1163.2.length from hc_1177.2), hb_1178, hb_1179, hc_1180, (show 0 < y_1165.2.1.length from hc_1180.2), hb_1181], (weak_sel [] (by decide) rfl (by simp only [go_sem, reduceIte, Nat.reduceLT, Nat.reduceEqDiff, Nat.reduceAdd]) (by simp only [go_sem, reduceIte, Nat.reduceLT, Nat.reduceEqDiff, Nat.reduceAdd]))⟩
                  · replace hv_1172 := ite_f hv_1172 hb_1179
                    have e_hv_1172 := Option.some.inj hv_1172; subst e_hv_1172
                    exact ⟨_, [(0, .bool false)], [.box [i64 y_1151.1.Epoch, i64 y_1151.1.Other, i64 y_1151.1.First, .sl false (L (cSl cU8) y_1151.1.Queue), i64 y_1151.1.Next, .sl false (L cApi_Packet y_1151.1.Early), i64 y_1151.1.SentAt] false, .box [i64 y_1165.1.Epoch, i64 y_1165.1.Other, i64 y_1165.1.First, .sl false (L (cSl cU8) y_1165.1.Queue), i64 y_1165.1.Next, .sl false (L cApi_Packet y_1165.1.Early), i64 y_1165.1.SentAt] false, .box [i64 y_1161.1.Epoch, i64 y_1161.1.Other, i64 y_1161.1.First, .sl false (L (cSl cU8) y_1161.1.Queue), i64 y_1161.1.Next, .sl false (L cApi_Packet y_1161.1.Early), i64 y_1161.1.SentAt] false, .box [i64 y_1163.1.Epoch, i64 y_1163.1.Other, i64 y_1163.1.First, .sl false (L (cSl cU8) y_1163.1.Queue), i64 y_1163.1.Next, .sl false (L cApi_Packet y_1163.1.Early), i64 y_1163.1.SentAt] false, .box [i64 y_1168.1.Epoch, i64 y_1168.1.Other, i64 y_1168.1.First, .sl false (L (cSl cU8) y_1168.1.Queue), i64 y_1168.1.Next, .sl false (L cApi_Packet y_1168.1.Early), i64 y_1168.1.SentAt] false], orcs_nil, by simp only [go_sem, reduceIte, Nat.reduceLT, Nat.reduceEqDiff, Nat.reduceAdd, Int.reduceToNat, hb_1173, hc_1174, (show 0 < y_1161.2.length from hc_1174.2), hb_1175, hb_1176, hc_1177, (show 0 < y_1163.2.length from hc_1177.2), hb_1178, hb_1179], (weak_sel [] (by decide) rfl (by simp only [go_sem, reduceIte, Nat.reduceLT, Nat.reduceEqDiff, Nat.reduceAdd]) (by simp only [go_sem, reduceIte, Nat.reduceLT, Nat.reduceEqDiff, Nat.reduceAdd]))⟩
                · replace hv_1172 := ite_f hv_1172 hb_1178
                  have e_hv_1172 := Option.some.inj hv_1172; subst e_hv_1172
                  exact ⟨_, [(0, .bool false)], [.box [i64 y_1151.1.Epoch, i64 y_1151.1.Other, i64 y_1151.1.First, .sl false (L (cSl cU8) y_1151.1.Queue), i64 y_1151.1.Next, .sl false (L cApi_Packet y_1151.1.Early), i64 y_1151.1.SentAt] false, .box [i64 y_1165.1.Epoch, i64 y_1165.1.Other, i64 y_1165.1.First, .sl false (L (cSl cU8) y_1165.1.Queue), i64 y_1165.1.Next, .sl false (L cApi_Packet y_1165.1.Early), i64 y_1165.1.SentAt] false, .box [i64 y_1161.1.Epoch, i64 y_1161.1.Other, i64 y_1161.1.First, .sl false (L (cSl cU8) y_1161.1.Queue), i64 y_1161.1.Next, .sl false (L cApi_Packet y_1161.1.Early), i64 y_1161.1.SentAt] false, .box [i64 y_1163.1.Epoch, i64 y_1163.1.Other, i64 y_1163.1.First, .sl false (L (cSl cU8) y_1163.1.Queue), i64 y_1163.1.Next, .sl false (L cApi_Packet y_1163.1.Early), i64 y_1163.1.SentAt] false, .box [i64 y_1168.1.Epoch, i64 y_1168.1.Other, i64 y_1168.1.First, .sl false (L (cSl cU8) y_1168.1.Queue), i64 y_1168.1.Next, .sl false (L cApi_Packet y_1168.1.Early), i64 y_1168.1.SentAt] false], orcs_nil, by simp only [go_sem, reduceIte, Nat.reduceLT, Nat.reduceEqDiff, Nat.reduceAdd, Int.reduceToNat, hb_1173, hc_1174, (show 0 < y_1161.2.length from hc_1174.2), hb_1175, hb_1176, hc_1177, (show 0 < y_1163.2.length from hc_1177.2), hb_1178], (weak_sel [] (by decide) rfl (by simp only [go_sem, reduceIte, Nat.reduceLT, Nat.reduceEqDiff, Nat.reduceAdd]) (by simp only [go_sem, reduceIte, Nat.reduceLT, Nat.reduceEqDiff, Nat.reduceAdd]))⟩
              · replace hv_1172 := ite_f hv_1172 hb_1176
                have e_hv_1172 := Option.some.inj hv_1172; subst e_hv_1172
                exact ⟨_, [(0, .bool false)], [.box [i64 y_1151.1.Epoch, i64 y_1151.1.Other, i64 y_1151.1.First, .sl false (L (cSl cU8) y_1151.1.Queue), i64 y_1151.1.Next, .sl false (L cApi_Packet y_1151.1.Early), i64 y_1151.1.SentAt] false, .box [i64 y_1165.1.Epoch, i64 y_1165.1.Other, i64 y_1165.1.First, .sl false (L (cSl cU8) y_1165.1.Queue), i64 y_1165.1.Next, .sl false (L cApi_Packet y_1165.1.Early), i64 y_1165.1.SentAt] false, .box [i64 y_1161.1.Epoch, i64 y_1161.1.Other, i64 y_1161.1.First, .sl false (L (cSl cU8) y_1161.1.Queue), i64 y_1161.1.Next, .sl false (L cApi_Packet y_1161.1.Early), i64 y_1161.1.SentAt] false, .box [i64 y_1163.1.Epoch, i64 y_1163.1.Other, i64 y_1163.1.First, .sl false (L (cSl cU8) y_1163.1.Queue), i64 y_1163.1.Next, .sl false (L cApi_Packet y_1163.1.Early), i64 y_1163.1.SentAt] false, .box [i64 y_1168.1.Epoch, i64 y_1168.1.Other, i64 y_1168.1.First, .sl false (L (cSl cU8) y_1168.1.Queue), i64 y_1168.1.Next, .sl false (L cApi_Packet y_1168.1.Early), i64 y_1168.1.SentAt] false], orcs_nil, by simp only [go_sem, reduceIte, Nat.reduceLT, Nat.reduceEqDiff, Nat.reduceAdd, Int.reduceToNat, hb_1173, hc_1174, (show 0 < y_1161.2.length from hc_1174.2), hb_1175, hb_1176], (weak_sel [] (by decide) rfl (by simp only [go_sem, reduceIte, Nat.reduceLT, Nat.reduceEqDiff, Nat.reduceAdd]) (by simp only [go_sem, reduceIte, Nat.reduceLT, Nat.reduceEqDiff, Nat.reduceAdd]))⟩
            · replace hv_1172 := ite_f hv_1172 hb_1175
              have e_hv_1172 := Option.some.inj hv_1172; subst e_hv_1172
              exact ⟨_, [(0, .bool false)], [.box [i64 y_1151.1.Epoch, i64 y_1151.1.Other, i64 y_1151.1.First, .sl false (L (cSl cU8) y_1151.1.Queue), i64 y_1151.1.Next, .sl false (L cApi_Packet y_1151.1.Early), i64 y_1151.1.SentAt] false, .box [i64 y_1165.1.Epoch, i64 y_1165.1.Other, i64 y_1165.1.First, .sl false (L (cSl cU8) y_1165.1.Queue), i64 y_1165.1.Next, .sl false (L cApi_Packet y_1165.1.Early), i64 y_1165.1.SentAt] false, .box [i64 y_1161.1.Epoch, i64 y_1161.1.Other, i64 y_1161.1.First, .sl false (L (cSl cU8) y_1161.1.Queue), i64 y_1161.1.Next, .sl false (L cApi_Packet y_1161.1.Early), i64 y_1161.1.SentAt] false, .box [i64 y_1163.1.Epoch, i64 y_1163.1.Other, i64 y_1163.1.First, .sl false (L (cSl cU8) y_1163.1.Queue), i64 y_1163.1.Next, .sl false (L cApi_Packet y_1163.1.Early), i64 y_1163.1.SentAt] false, .box [i64 y_1168.1.Epoch, i64 y_1168.1.Other, i64 y_1168.1.First, .sl false (L (cSl cU8) y_1168.1.Queue), i64 y_1168.1.Next, .sl false (L cApi_Packet y_1168.1.Early), i64 y_1168.1.SentAt] false], orcs_nil, by simp only [go_sem, reduceIte, Nat.reduceLT, Nat.reduceEqDiff, Nat.reduceAdd, Int.reduceToNat, hb_1173, hc_1174, (show 0 < y_1161.2.length from hc_1174.2), hb_1175], (weak_sel [] (by decide) rfl (by simp only [go_sem, reduceIte, Nat.reduceLT, Nat.reduceEqDiff, Nat.reduceAdd]) (by simp only [go_sem, reduceIte, Nat.reduceLT, Nat.reduceEqDiff, Nat.reduceAdd]))⟩
          · replace hv_1172 := ite_f hv_1172 hb_1173
            have e_hv_1172 := Option.some.inj hv_1172; subst e_hv_1172
            exact ⟨_, [(0, .bool false)], [.box [i64 y_1151.1.Epoch, i64 y_1151.1.Other, i64 y_1151.1.First, .sl false (L (cSl cU8) y_1151.1.Queue), i64 y_1151.1.Next, .sl false (L cApi_Packet y_1151.1.Early), i64 y_1151.1.SentAt] false, .box [i64 y_1165.1.Epoch, i64 y_1165.1.Other, i64 y_1165.1.First, .sl false (L (cSl cU8) y_1165.1.Queue), i64 y_1165.1.Next, .sl false (L cApi_Packet y_1165.1.Early), i64 y_1165.1.SentAt] false, .box [i64 y_1161.1.Epoch, i64 y_1161.1.Other, i64 y_1161.1.First, .sl false (L (cSl cU8) y_1161.1.Queue), i64 y_1161.1.Next, .sl false (L cApi_Packet y_1161.1.Early), i64 y_1161.1.SentAt] false, .box [i64 y_1163.1.Epoch, i64 y_1163.1.Other, i64 y_1163.1.First, .sl false (L (cSl cU8) y_1163.1.Queue), i64 y_1163.1.Next, .sl false (L cApi_Packet y_1163.1.Early), i64 y_1163.1.SentAt] false, .box [i64 y_1168.1.Epoch, i64 y_1168.1.Other, i64 y_1168.1.First, .sl false (L (cSl cU8) y_1168.1.Queue), i64 y_1168.1.Next, .sl false (L cApi_Packet y_1168.1.Early), i64 y_1168.1.SentAt] false], orcs_nil, by simp only [go_sem, reduceIte, Nat.reduceLT, Nat.reduceEqDiff, Nat.reduceAdd, Int.reduceToNat, hb_1173], (weak_sel [] (by decide) rfl (by simp only [go_sem, reduceIte, Nat.reduceLT, Nat.reduceEqDiff, Nat.reduceAdd]) (by simp only [go_sem, reduceIte, Nat.reduceLT, Nat.reduceEqDiff, Nat.reduceAdd]))⟩
        refine run_ret ?_
        obtain rfl := Option.some.inj h
        refine wkP_of (Weak.refl _ _) ?_
        refine ret_ok (.inr rfl) ?_
        simp only [go_sem, reduceIte, Nat.reduceLT, Nat.reduceEqDiff, Nat.reduceAdd]

end Go.Proofs.Ytomjphpnpcgacaa
/-
  The functions compute just that.
-/
namespace Go.Proofs.Ytomjphpnpcgacaa
open Go.Rv
set_option linter.unusedVariables false
set_option linter.unusedSimpArgs false
set_option maxRecDepth 20000
set_option maxHeartbeats 4000000

theorem law12_WindowMatches_con {p_1183 : Api_Peer} {data_1184 : List UInt8} {now_1185 : Int} {epoch_1186 : Int} {r : Bool} (h : law12_WindowMatches p_1183 data_1184 now_1185 epoch_1186 = some r) : Con B 3 [.agg [i64 p_1183.Epoch, i64 p_1183.Other, i64 p_1183.First, .sl false (L (cSl cU8) p_1183.Queue), i64 p_1183.Next, .sl false (L cApi_Packet p_1183.Early), i64 p_1183.SentAt], .sl false (L cU8 data_1184), i64 now_1185, i64 epoch_1186] [] (fun r' σ' => r' = .bool r ∧ σ' = []) := by
  refine con_walk (N := 93) (rs := [.tmp 8]) ok Try.func3 rfl (by decide +kernel) rfl rfl (Nat.le_of_ble_eq_true rfl) (fun F => ?_)
  have hE := ok.env F
  unfold law12_WindowMatches at h
  show Run (B.env F) 0 _ ⟨asFr 93 [(0, .agg [i64 p_1183.Epoch, i64 p_1183.Other, i64 p_1183.First, .sl false (L (cSl cU8) p_1183.Queue), i64 p_1183.Next, .sl false (L cApi_Packet p_1183.Early), i64 p_1183.SentAt]), (1, .sl false (L cU8 data_1184)), (2, i64 now_1185), (3, i64 epoch_1186)], []⟩ _
  refine run_wkP ?_
  refine run_textE hE [1, 2, 3, 4] (fr' := [(1, .sl false (L cU8 data_1184)), (2, i64 now_1185), (3, i64 epoch_1186), (4, .ref 0 0)]) (σ' := [.box [i64 p_1183.Epoch, i64 p_1183.Other, i64 p_1183.First, .sl false (L (cSl cU8) p_1183.Queue), i64 p_1183.Next, .sl false (L cApi_Packet p_1183.Early), i64 p_1183.SentAt] false]) ⟨_, orcs_nil, ?_⟩ ?_
  · simp only [go_sem, reduceIte, Nat.reduceLT, Nat.reduceEqDiff, Nat.reduceAdd]
  refine run_seq ?_
  replace h := bind_some1 h; obtain ⟨y_1187, hy_1188, h⟩ := h
  refine run_textE hE [1, 2, 3, 4, 22] (fr' := [(1, .sl false (L cU8 data_1184)), (2, i64 now_1185), (3, i64 epoch_1186), (4, .ref 0 0), (22, .bool ((!y_1187)))]) (σ' := [.box [i64 p_1183.Epoch, i64 p_1183.Other, i64 p_1183.First, .sl false (L (cSl cU8) p_1183.Queue), i64 p_1183.Next, .sl false (L cApi_Packet p_1183.Early), i64 p_1183.SentAt] false]) ⟨_, orcs_ok (l := [(21, 10, [], .bool y_1187)]) ⟨law12_sane_con  hy_1188, trivial⟩, ?_⟩ ?_
  · simp only [go_sem, reduceIte, Nat.reduceLT, Nat.reduceEqDiff, Nat.reduceAdd]
  refine run_condL (b := (!y_1187)) rfl (by decide) (fun hb => ?_) (fun hb => ?_)
  · replace h := ite_t h hb
    refine run_textE hE [8] (fr' := [(8, .bool false)]) (σ' := [.box [i64 p_1183.Epoch, i64 p_1183.Other, i64 p_1183.First, .sl false (L (cSl cU8) p_1183.Queue), i64 p_1183.Next, .sl false (L cApi_Packet p_1183.Early), i64 p_1183.SentAt] false]) ⟨_, orcs_nil, ?_⟩ ?_
    · simp only [go_sem, reduceIte, Nat.reduceLT, Nat.reduceEqDiff, Nat.reduceAdd]
    refine run_ret ?_
    refine thenK_r ?_
    obtain rfl := Option.some.inj h
    refine wkP_of (Weak.refl _ _) ?_
    refine ret_ok (.inr rfl) ?_
    simp only [go_sem, reduceIte, Nat.reduceLT, Nat.reduceEqDiff, Nat.reduceAdd]
  · replace h := ite_f h hb
    refine run_skip ?_
    refine thenK_n ?_
    refine run_seq ?_
    replace h := bind_some1 h; obtain ⟨t_1190, hv_1191, h⟩ := h
    refine run_textW hE [1, 2, 3, 4, 30] (fr' := [(1, .sl false (L cU8 data_1184)), (2, i64 now_1185), (3, i64 epoch_1186), (4, .ref 0 0), (30, .bool t_1190)]) (σ' := [.box [i64 p_1183.Epoch, i64 p_1183.Other, i64 p_1183.First, .sl false (L (cSl cU8) p_1183.Queue), i64 p_1183.Next, .sl false (L cApi_Packet p_1183.Early), i64 p_1183.SentAt] false]) ?_ ?_
    · replace hv_1191 := bind_some1 hv_1191; obtain ⟨y_1189, hy_1192, hv_1191⟩ := hv_1191
      rcases Bool.eq_false_or_eq_true ((!y_1189)) with hb_1193 | hb_1193
      · replace hv_1191 := ite_t hv_1191 hb_1193
        have e_hv_1191 := Option.some.inj hv_1191; subst e_hv_1191
        exact ⟨_, [(1, .sl false (L cU8 data_1184)), (2, i64 now_1185), (3, i64 epoch_1186), (4, .ref 0 0), (30, .bool true)], [.box [i64 p_1183.Epoch, i64 p_1183.Other, i64 p_1183.First, .sl false (L (cSl cU8) p_1183.Queue), i64 p_1183.Next, .sl false (L cApi_Packet p_1183.Early), i64 p_1183.SentAt] false], orcs_ok (l := [(24, 11, [.agg [i64 p_1183.Epoch, i64 p_1183.Other, i64 p_1183.First, .sl false (L (cSl cU8) p_1183.Queue), i64 p_1183.Next, .sl false (L cApi_Packet p_1183.Early), i64 p_1183.SentAt]], .bool y_1189)]) ⟨law12_few_con  hy_1192, trivial⟩, by simp only [go_sem, reduceIte, Nat.reduceLT, Nat.reduceEqDiff, Nat.reduceAdd, hb_1193], (weak_sel [0] (by decide) rfl (by simp only [go_sem, reduceIte, Nat.reduceLT, Nat.reduceEqDiff, Nat.reduceAdd]) (by simp only [go_sem, reduceIte, Nat.reduceLT, Nat.reduceEqDiff, Nat.reduceAdd]))⟩
      · replace hv_1191 := ite_f hv_1191 hb_1193
        have e_hv_1191 := Option.some.inj hv_1191; subst e_hv_1191
        exact ⟨_, [(1, .sl false (L cU8 data_1184)), (2, i64 now_1185), (3, i64 epoch_1186), (4, .ref 0 0), (30, .bool ((decide ((data_1184.length : Int) > 20000))))], [.box [i64 p_1183.Epoch, i64 p_1183.Other, i64 p_1183.First, .sl false (L (cSl cU8) p_1183.Queue), i64 p_1183.Next, .sl false (L cApi_Packet p_1183.Early), i64 p_1183.SentAt] false], orcs_ok (l := [(24, 11, [.agg [i64 p_1183.Epoch, i64 p_1183.Other, i64 p_1183.First, .sl false (L (cSl cU8) p_1183.Queue), i64 p_1183.Next, .sl false (L cApi_Packet p_1183.Early), i64 p_1183.SentAt]], .bool y_1189)]) ⟨law12_few_con  hy_1192, trivial⟩, by simp only [go_sem, reduceIte, Nat.reduceLT, Nat.reduceEqDiff, Nat.reduceAdd, hb_1193], (weak_sel [0] (by decide) rfl (by simp only [go_sem, reduceIte, Nat.reduceLT, Nat.reduceEqDiff, Nat.reduceAdd]) (by simp only [go_sem, reduceIte, Nat.reduceLT, Nat.reduceEqDiff, Nat.reduceAdd]))⟩
    refine run_condL (b := t_1190) rfl (by decide) (fun hb => ?_) (fun hb => ?_)
    · replace h := ite_t h hb
      refine run_textE hE [8] (fr' := [(8, .bool true)]) (σ' := [.box [i64 p_1183.Epoch, i64 p_1183.Other, i64 p_1183.First, .sl false (L (cSl cU8) p_1183.Queue), i64 p_1183.Next, .sl false (L cApi_Packet p_1183.Early), i64 p_1183.SentAt] false]) ⟨_, orcs_nil, ?_⟩ ?_
      · simp only [go_sem, reduceIte, Nat.reduceLT, Nat.reduceEqDiff, Nat.reduceAdd]
      refine run_ret ?_
      refine thenK_r ?_
      obtain rfl := Option.some.inj h
      refine wkP_of (Weak.refl _ _) ?_
      refine ret_ok (.inr rfl) ?_
      simp only [go_sem, reduceIte, Nat.reduceLT, Nat.reduceEqDiff, Nat.reduceAdd]
    · replace h := ite_f h hb
      refine run_skip ?_
      refine thenK_n ?_
      replace h := bind_some1 h; obtain ⟨y_1194, hy_1195, h⟩ := h
      refine run_textE hE [1, 2, 3, 4, 9, 10] (fr' := [(1, .sl false (L cU8 data_1184)), (2, i64 now_1185), (3, i64 epoch_1186), (4, .ref 0 0), (9, .ref 1 0), (10, i64 y_1194.2)]) (σ' := [.box [i64 p_1183.Epoch, i64 p_1183.Other, i64 p_1183.First, .sl false (L (cSl cU8) p_1183.Queue), i64 p_1183.Next, .sl false (L cApi_Packet p_1183.Early), i64 p_1183.SentAt] false, .box [i64 y_1194.1.Epoch, i64 y_1194.1.Other, i64 y_1194.1.First, .sl false (L (cSl cU8) y_1194.1.Queue), i64 y_1194.1.Next, .sl false (L cApi_Packet y_1194.1.Early), i64 y_1194.1.SentAt] false]) ⟨_, orcs_ok (l := [(33, 12, [i64 epoch_1186], .tup [.agg [i64 y_1194.1.Epoch, i64 y_1194.1.Other, i64 y_1194.1.First, .sl false (L (cSl cU8) y_1194.1.Queue), i64 y_1194.1.Next, .sl false (L cApi_Packet y_1194.1.Early), i64 y_1194.1.SentAt], i64 y_1194.2])]) ⟨window_New_con  hy_1195, trivial⟩, ?_⟩ ?_
      · simp only [go_sem, reduceIte, Nat.reduceLT, Nat.reduceEqDiff, Nat.reduceAdd, Nat.reduceLeDiff]
      replace h := bind_some1 h; obtain ⟨y_1196, hy_1197, h⟩ := h
      refine run_textE hE [1, 2, 4, 9, 10, 11, 12] (fr' := [(1, .sl false (L cU8 data_1184)), (2, i64 now_1185), (4, .ref 0 0), (9, .ref 1 0), (10, i64 y_1194.2), (11, .ref 2 0), (12, i64 y_1196.2)]) (σ' := [.box [i64 p_1183.Epoch, i64 p_1183.Other, i64 p_1183.First, .sl false (L (cSl cU8) p_1183.Queue), i64 p_1183.Next, .sl false (L cApi_Packet p_1183.Early), i64 p_1183.SentAt] false, .box [i64 y_1194.1.Epoch, i64 y_1194.1.Other, i64 y_1194.1.First, .sl false (L (cSl cU8) y_1194.1.Queue), i64 y_1194.1.Next, .sl false (L cApi_Packet y_1194.1.Early), i64 y_1194.1.SentAt] false, .box [i64 y_1196.1.Epoch, i64 y_1196.1.Other, i64 y_1196.1.First, .sl false (L (cSl cU8) y_1196.1.Queue), i64 y_1196.1.Next, .sl false (L cApi_Packet y_1196.1.Early), i64 y_1196.1.SentAt] false]) ⟨_, orcs_ok (l := [(38, 13, [i64 epoch_1186], .tup [.agg [i64 y_1196.1.Epoch, i64 y_1196.1.Other, i64 y_1196.1.First, .sl false (L (cSl cU8) y_1196.1.Queue), i64 y_1196.1.Next, .sl false (L cApi_Packet y_1196.1.Early), i64 y_1196.1.SentAt], i64 y_1196.2])]) ⟨r12_New_con  hy_1197, trivial⟩, ?_⟩ ?_
      · simp only [go_sem, reduceIte, Nat.reduceLT, Nat.reduceEqDiff, Nat.reduceAdd, Nat.reduceLeDiff]
      replace h := bind_some1 h; obtain ⟨y_1198, hy_1199, h⟩ := h
      refine run_textE hE [1, 2, 4, 9, 10, 11, 12, 13, 14] (fr' := [(1, .sl false (L cU8 data_1184)), (2, i64 now_1185), (4, .ref 0 0), (9, .ref 1 0), (10, i64 y_1194.2), (11, .ref 2 0), (12, i64 y_1196.2), (13, .ref 3 0), (14, i64 y_1198.2)]) (σ' := [.box [i64 p_1183.Epoch, i64 p_1183.Other, i64 p_1183.First, .sl false (L (cSl cU8) p_1183.Queue), i64 p_1183.Next, .sl false (L cApi_Packet p_1183.Early), i64 p_1183.SentAt] false, .box [i64 y_1194.1.Epoch, i64 y_1194.1.Other, i64 y_1194.1.First, .sl false (L (cSl cU8) y_1194.1.Queue), i64 y_1194.1.Next, .sl false (L cApi_Packet y_1194.1.Early), i64 y_1194.1.SentAt] false, .box [i64 y_1196.1.Epoch, i64 y_1196.1.Other, i64 y_1196.1.First, .sl false (L (cSl cU8) y_1196.1.Queue), i64 y_1196.1.Next, .sl false (L cApi_Packet y_1196.1.Early), i64 y_1196.1.SentAt] false, .box [i64 y_1198.1.Epoch, i64 y_1198.1.Other, i64 y_1198.1.First, .sl false (L (cSl cU8) y_1198.1.Queue), i64 y_1198.1.Next, .sl false (L cApi_Packet y_1198.1.Early), i64 y_1198.1.SentAt] false]) ⟨_, orcs_ok (l := [(44, 14, [.agg [i64 p_1183.Epoch, i64 p_1183.Other, i64 p_1183.First, .sl false (L (cSl cU8) p_1183.Queue), i64 p_1183.Next, .sl false (L cApi_Packet p_1183.Early), i64 p_1183.SentAt], .sl false (L cU8 data_1184)], .tup [.agg [i64 y_1198.1.Epoch, i64 y_1198.1.Other, i64 y_1198.1.First, .sl false (L (cSl cU8) y_1198.1.Queue), i64 y_1198.1.Next, .sl false (L cApi_Packet y_1198.1.Early), i64 y_1198.1.SentAt], i64 y_1198.2])]) ⟨window_Offer_con  hy_1199, trivial⟩, ?_⟩ ?_
      · simp only [go_sem, reduceIte, Nat.reduceLT, Nat.reduceEqDiff, Nat.reduceAdd, Nat.reduceLeDiff]
      replace h := bind_some1 h; obtain ⟨y_1200, hy_1201, h⟩ := h
      refine run_textE hE [2, 4, 9, 10, 11, 12, 13, 14, 15, 16] (fr' := [(2, i64 now_1185), (4, .ref 0 0), (9, .ref 1 0), (10, i64 y_1194.2), (11, .ref 2 0), (12, i64 y_1196.2), (13, .ref 3 0), (14, i64 y_1198.2), (15, .ref 4 0), (16, i64 y_1200.2)]) (σ' := [.box [i64 p_1183.Epoch, i64 p_1183.Other, i64 p_1183.First, .sl false (L (cSl cU8) p_1183.Queue), i64 p_1183.Next, .sl false (L cApi_Packet p_1183.Early), i64 p_1183.SentAt] false, .box [i64 y_1194.1.Epoch, i64 y_1194.1.Other, i64 y_1194.1.First, .sl false (L (cSl cU8) y_1194.1.Queue), i64 y_1194.1.Next, .sl false (L cApi_Packet y_1194.1.Early), i64 y_1194.1.SentAt] false, .box [i64 y_1196.1.Epoch, i64 y_1196.1.Other, i64 y_1196.1.First, .sl false (L (cSl cU8) y_1196.1.Queue), i64 y_1196.1.Next, .sl false (L cApi_Packet y_1196.1.Early), i64 y_1196.1.SentAt] false, .box [i64 y_1198.1.Epoch, i64 y_1198.1.Other, i64 y_1198.1.First, .sl false (L (cSl cU8) y_1198.1.Queue), i64 y_1198.1.Next, .sl false (L cApi_Packet y_1198.1.Early), i64 y_1198.1.SentAt] false, .box [i64 y_1200.1.Epoch, i64 y_1200.1.Other, i64 y_1200.1.First, .sl false (L (cSl cU8) y_1200.1.Queue), i64 y_1200.1.Next, .sl false (L cApi_Packet y_1200.1.Early), i64 y_1200.1.SentAt] false]) ⟨_, orcs_ok (l := [(50, 15, [.agg [i64 p_1183.Epoch, i64 p_1183.Other, i64 p_1183.First, .sl false (L (cSl cU8) p_1183.Queue), i64 p_1183.Next, .sl false (L cApi_Packet p_1183.Early), i64 p_1183.SentAt], .sl false (L cU8 data_1184)], .tup [.agg [i64 y_1200.1.Epoch, i64 y_1200.1.Other, i64 y_1200.1.First, .sl false (L (cSl cU8) y_1200.1.Queue), i64 y_1200.1.Next, .sl false (L cApi_Packet y_1200.1.Early), i64 y_1200.1.SentAt], i64 y_1200.2])]) ⟨r12_Offer_con  hy_1201, trivial⟩, ?_⟩ ?_
      · simp only [go_sem, reduceIte, Nat.reduceLT, Nat.reduceEqDiff, Nat.reduceAdd, Nat.reduceLeDiff]
      replace h := bind_some1 h; obtain ⟨y_1202, hy_1203, h⟩ := h
      refine run_textE hE [2, 4, 9, 10, 11, 12, 13, 14, 15, 16, 17, 18] (fr' := [(2, i64 now_1185), (4, .ref 0 0), (9, .ref 1 0), (10, i64 y_1194.2), (11, .ref 2 0), (12, i64 y_1196.2), (13, .ref 3 0), (14, i64 y_1198.2), (15, .ref 4 0), (16, i64 y_1200.2), (17, .ref 5 0), (18, .sl false (L cApi_Packet y_1202.2))]) (σ' := [.box [i64 p_1183.Epoch, i64 p_1183.Other, i64 p_1183.First, .sl false (L (cSl cU8) p_1183.Queue), i64 p_1183.Next, .sl false (L cApi_Packet p_1183.Early), i64 p_1183.SentAt] false, .box [i64 y_1194.1.Epoch, i64 y_1194.1.Other, i64 y_1194.1.First, .sl false (L (cSl cU8) y_1194.1.Queue), i64 y_1194.1.Next, .sl false (L cApi_Packet y_1194.1.Early), i64 y_1194.1.SentAt] false, .box [i64 y_1196.1.Epoch, i64 y_1196.1.Other, i64 y_1196.1.First, .sl false (L (cSl cU8) y_1196.1.Queue), i64 y_1196.1.Next, .sl false (L cApi_Packet y_1196.1.Early), i64 y_1196.1.SentAt] false, .box [i64 y_1198.1.Epoch, i64 y_1198.1.Other, i64 y_1198.1.First, .sl false (L (cSl cU8) y_1198.1.Queue), i64 y_1198.1.Next, .sl false (L cApi_Packet y_1198.1.Early), i64 y_1198.1.SentAt] false, .box [i64 y_1200.1.Epoch, i64 y_1200.1.Other, i64 y_1200.1.First, .sl false (L (cSl cU8) y_1200.1.Queue), i64 y_1200.1.Next, .sl false (L cApi_Packet y_1200.1.Early), i64 y_1200.1.SentAt] false, .box [i64 y_1202.1.Epoch, i64 y_1202.1.Other, i64 y_1202.1.First, .sl false (L (cSl cU8) y_1202.1.Queue), i64 y_1202.1.Next, .sl false (L cApi_Packet y_1202.1.Early), i64 y_1202.1.SentAt] false]) ⟨_, orcs_ok (l := [(56, 16, [.agg [i64 p_1183.Epoch, i64 p_1183.Other, i64 p_1183.First, .sl false (L (cSl cU8) p_1183.Queue), i64 p_1183.Next, .sl false (L cApi_Packet p_1183.Early), i64 p_1183.SentAt], i64 now_1185], .tup [.agg [i64 y_1202.1.Epoch, i64 y_1202.1.Other, i64 y_1202.1.First, .sl false (L (cSl cU8) y_1202.1.Queue), i64 y_1202.1.Next, .sl false (L cApi_Packet y_1202.1.Early), i64 y_1202.1.SentAt], .sl false (L cApi_Packet y_1202.2)])]) ⟨window_Emit_con  hy_1203, trivial⟩, ?_⟩ ?_
      · simp only [go_sem, reduceIte, Nat.reduceLT, Nat.reduceEqDiff, Nat.reduceAdd, Nat.reduceLeDiff]
      replace h := bind_some1 h; obtain ⟨y_1204, hy_1205, h⟩ := h
      refine run_textE hE [9, 10, 11, 12, 13, 14, 15, 16, 17, 18, 19, 20] (fr' := [(9, .ref 1 0), (10, i64 y_1194.2), (11, .ref 2 0), (12, i64 y_1196.2), (13, .ref 3 0), (14, i64 y_1198.2), (15, .ref 4 0), (16, i64 y_1200.2), (17, .ref 5 0), (18, .sl false (L cApi_Packet y_1202.2)), (19, .ref 6 0), (20, .sl false (L cApi_Packet y_1204.2))]) (σ' := [.box [i64 p_1183.Epoch, i64 p_1183.Other, i64 p_1183.First, .sl false (L (cSl cU8) p_1183.Queue), i64 p_1183.Next, .sl false (L cApi_Packet p_1183.Early), i64 p_1183.SentAt] false, .box [i64 y_1194.1.Epoch, i64 y_1194.1.Other, i64 y_1194.1.First, .sl false (L (cSl cU8) y_1194.1.Queue), i64 y_1194.1.Next, .sl false (L cApi_Packet y_1194.1.Early), i64 y_1194.1.SentAt] false, .box [i64 y_1196.1.Epoch, i64 y_1196.1.Other, i64 y_1196.1.First, .sl false (L (cSl cU8) y_1196.1.Queue), i64 y_1196.1.Next, .sl false (L cApi_Packet y_1196.1.Early), i64 y_1196.1.SentAt] false, .box [i64 y_1198.1.Epoch, i64 y_1198.1.Other, i64 y_1198.1.First, .sl false (L (cSl cU8) y_1198.1.Queue), i64 y_1198.1.Next, .sl false (L cApi_Packet y_1198.1.Early), i64 y_1198.1.SentAt] false, .box [i64 y_1200.1.Epoch, i64 y_1200.1.Other, i64 y_1200.1.First, .sl false (L (cSl cU8) y_1200.1.Queue), i64 y_1200.1.Next, .sl false (L cApi_Packet y_1200.1.Early), i64 y_1200.1.SentAt] false, .box [i64 y_1202.1.Epoch, i64 y_1202.1.Other, i64 y_1202.1.First, .sl false (L (cSl cU8) y_1202.1.Queue), i64 y_1202.1.Next, .sl false (L cApi_Packet y_1202.1.Early), i64 y_1202.1.SentAt] false, .box [i64 y_1204.1.Epoch, i64 y_1204.1.Other, i64 y_1204.1.First, .sl false (L (cSl cU8) y_1204.1.Queue), i64 y_1204.1.Next, .sl false (L cApi_Packet y_1204.1.Early), i64 y_1204.1.SentAt] false]) ⟨_, orcs_ok (l := [(62, 17, [.agg [i64 p_1183.Epoch, i64 p_1183.Other, i64 p_1183.First, .sl false (L (cSl cU8) p_1183.Queue), i64 p_1183.Next, .sl false (L cApi_Packet p_1183.Early), i64 p_1183.SentAt], i64 now_1185], .tup [.agg [i64 y_1204.1.Epoch, i64 y_1204.1.Other, i64 y_1204.1.First, .sl false (L (cSl cU8) y_1204.1.Queue), i64 y_1204.1.Next, .sl false (L cApi_Packet y_1204.1.Early), i64 y_1204.1.SentAt], .sl false (L cApi_Packet y_1204.2)])]) ⟨r12_Emit_con  hy_1205, trivial⟩, ?_⟩ ?_
      · simp only [go_sem, reduceIte, Nat.reduceLT, Nat.reduceEqDiff, Nat.reduceAdd, Nat.reduceLeDiff]
      replace h := bind_some1 h; obtain ⟨t_1210, hv_1211, h⟩ := h
      refine run_textW hE [8] (fr' := [(8, .bool t_1210)]) (σ' := []) ?_ ?_
      · replace hv_1211 := bind_some1 hv_1211; obtain ⟨y_1206, hy_1212, hv_1211⟩ := hv_1211
        rcases Bool.eq_false_or_eq_true y_1206 with hb_1213 | hb_1213
        · replace hv_1211 := ite_t hv_1211 hb_1213
          rcases Bool.eq_false_or_eq_true ((y_1194.2 == y_1196.2)) with hb_1214 | hb_1214
          · replace hv_1211 := ite_t hv_1211 hb_1214
            replace hv_1211 := bind_some1 hv_1211; obtain ⟨y_1207, hy_1215, hv_1211⟩ := hv_1211
            rcases Bool.eq_false_or_eq_true y_1207 with hb_1216 | hb_1216
            · replace hv_1211 := ite_t hv_1211 hb_1216
              rcases Bool.eq_false_or_eq_true ((y_1198.2 == y_1200.2)) with hb_1217 | hb_1217
              · replace hv_1211 := ite_t hv_1211 hb_1217
                replace hv_1211 := bind_some1 hv_1211; obtain ⟨y_1208, hy_1218, hv_1211⟩ := hv_1211
                rcases Bool.eq_false_or_eq_true y_1208 with hb_1219 | hb_1219
                · replace hv_1211 := ite_t hv_1211 hb_1219
                  replace hv_1211 := bind_some1 hv_1211; obtain ⟨y_1209, hy_1220, hv_1211⟩ := hv_1211
                  have e_hv_1211 := Option.some.inj hv_1211; subst e_hv_1211
                  exact ⟨_, [(8, .bool y_1209)], [.box [i64 p_1183.Epoch, i64 p_1183.Other, i64 p_1183.First, .sl false (L (cSl cU8) p_1183.Queue), i64 p_1183.Next, .sl false (L cApi_Packet p_1183.Early), i64 p_1183.SentAt] false, .box [i64 y_1194.1.Epoch, i64 y_1194.1.Other, i64 y_1194.1.First, .sl false (L (cSl cU8) y_1194.1.Queue), i64 y_1194.1.Next, .sl false (L cApi_Packet y_1194.1.Early), i64 y_1194.1.SentAt] false, .box [i64 y_1196.1.Epoch, i64 y_1196.1.Other, i64 y_1196.1.First, .sl false (L (cSl cU8) y_1196.1.Queue), i64 y_1196.1.Next, .sl false (L cApi_Packet y_1196.1.Early), i64 y_1196.1.SentAt] false, .box [i64 y_1198.1.Epoch, i64 y_1198.1.Other, i64 y_1198.1.First, .sl false (L (cSl cU8) y_1198.1.Queue), i64 y_1198.1.Next, .sl false (L cApi_Packet y_1198.1.Early), i64 y_1198.1.SentAt] false, .box [i64 y_1200.1.Epoch, i64 y_1200.1.Other, i64 y_1200.1.First, .sl false (L (cSl cU8) y_1200.1.Queue), i64 y_1200.1.Next, .sl false (L cApi_Packet y_1200.1.Early), i64 y_1200.1.SentAt] false, .box [i64 y_1202.1.Epoch, i64 y_1202.1.Other, i64 y_1202.1.First, .sl false (L (cSl cU8) y_1202.1.Queue), i64 y_1202.1.Next, .sl false (L cApi_Packet y_1202.1.Early), i64 y_1202.1.SentAt] false, .box [i64 y_1204.1.Epoch, i64 y_1204.1.Other, i64 y_1204.1.First, .sl false (L (cSl cU8) y_1204.1.Queue), i64 y_1204.1.Next, .sl false (L cApi_Packet y_1204.1.Early), i64 y_1204.1.SentAt] false], orcs_ok (l := [(67, 18, [.agg [i64 y_1194.1.Epoch, i64 y_1194.1.Other, i64 y_1194.1.First, .sl false (L (cSl cU8) y_1194.1.Queue), i64 y_1194.1.Next, .sl false (L cApi_Packet y_1194.1.Early), i64 y_1194.1.SentAt], .agg [i64 y_1196.1.Epoch, i64 y_1196.1.Other, i64 y_1196.1.First, .sl false (L (cSl cU8) y_1196.1.Queue), i64 y_1196.1.Next, .sl false (L cApi_Packet y_1196.1.Early), i64 y_1196.1.SentAt]], .bool y_1206), (76, 18, [.agg [i64 y_1198.1.Epoch, i64 y_1198.1.Other, i64 y_1198.1.First, .sl false (L (cSl cU8) y_1198.1.Queue), i64 y_1198.1.Next, .sl false (L cApi_Packet y_1198.1.Early), i64 y_1198.1.SentAt], .agg [i64 y_1200.1.Epoch, i64 y_1200.1.Other, i64 y_1200.1.First, .sl false (L (cSl cU8) y_1200.1.Queue), i64 y_1200.1.Next, .sl false (L cApi_Packet y_1200.1.Early), i64 y_1200.1.SentAt]], .bool y_1207), (86, 18, [.agg [i64 y_1202.1.Epoch, i64 y_1202.1.Other, i64 y_1202.1.First, .sl false (L (cSl cU8) y_1202.1.Queue), i64 y_1202.1.Next, .sl false (L cApi_Packet y_1202.1.Early), i64 y_1202.1.SentAt], .agg [i64 y_1204.1.Epoch, i64 y_1204.1.Other, i64 y_1204.1.First, .sl false (L (cSl cU8) y_1204.1.Queue), i64 y_1204.1.Next, .sl false (L cApi_Packet y_1204.1.Early), i64 y_1204.1.SentAt]], .bool y_1208), (91, 19, [.sl false (L cApi_Packet y_1202.2), .sl false (L cApi_Packet y_1204.2)], .bool y_1209)]) ⟨r12_Same_con  hy_1212, r12_Same_con  hy_1215, r12_Same_con  hy_1218, r12_SamePackets_con  hy_1220, trivial⟩, by simp only [go_sem, reduceIte, Nat.reduceLT, Nat.reduceEqDiff, Nat.reduceAdd, hb_1213, hb_1214, hb_1216, hb_1217, hb_1219], (weak_sel [] (by decide) rfl (by simp only [go_sem, reduceIte, Nat.reduceLT, Nat.reduceEqDiff, Nat.reduceAdd]) (by simp only [go_sem, reduceIte, Nat.reduceLT, Nat.reduceEqDiff, Nat.reduceAdd]))⟩
                · replace hv_1211 := ite_f hv_1211 hb_1219
                  have e_hv_1211 := Option.some.inj hv_1211; subst e_hv_1211
                  exact ⟨_, [(8, .bool false)], [.box [i64 p_1183.Epoch, i64 p_1183.Other, i64 p_1183.First, .sl false (L (cSl cU8) p_1183.Queue), i64 p_1183.Next, .sl false (L cApi_Packet p_1183.Early), i64 p_1183.SentAt] false, .box [i64 y_1194.1.Epoch, i64 y_1194.1.Other, i64 y_1194.1.First, .sl false (L (cSl cU8) y_1194.1.Queue), i64 y_1194.1.Next, .sl false (L cApi_Packet y_1194.1.Early), i64 y_1194.1.SentAt] false, .box [i64 y_1196.1.Epoch, i64 y_1196.1.Other, i64 y_1196.1.First, .sl false (L (cSl cU8) y_1196.1.Queue), i64 y_1196.1.Next, .sl false (L cApi_Packet y_1196.1.Early), i64 y_1196.1.SentAt] false, .box [i64 y_1198.1.Epoch, i64 y_1198.1.Other, i64 y_1198.1.First, .sl false (L (cSl cU8) y_1198.1.Queue), i64 y_1198.1.Next, .sl false (L cApi_Packet y_1198.1.Early), i64 y_1198.1.SentAt] false, .box [i64 y_1200.1.Epoch, i64 y_1200.1.Other, i64 y_1200.1.First, .sl false (L (cSl cU8) y_1200.1.Queue), i64 y_1200.1.Next, .sl false (L cApi_Packet y_1200.1.Early), i64 y_1200.1.SentAt] false, .box [i64 y_1202.1.Epoch, i64 y_1202.1.Other, i64 y_1202.1.First, .sl false (L (cSl cU8) y_1202.1.Queue), i64 y_1202.1.Next, .sl false (L cApi_Packet y_1202.1.Early), i64 y_1202.1.SentAt] false, .box [i64 y_1204.1.Epoch, i64 y_1204.1.Other, i64 y_1204.1.First, .sl false (L (cSl cU8) y_1204.1.Queue), i64 y_1204.1.Next, .sl false (L cApi_Packet y_1204.1.Early), i64 y_1204.1.SentAt] false], orcs_ok (l := [(67, 18, [.agg [i64 y_1194.1.Epoch, i64 y_1194.1.Other, i64 y_1194.1.First, .sl false (L (cSl cU8) y_1194.1.Queue), i64 y_1194.1.Next, .sl false (L cApi_Packet y_1194.1.Early), i64 y_1194.1.SentAt], .agg [i64 y_1196.1.Epoch, i64 y_1196.1.Other, i64 y_1196.1.First, .sl false (L (cSl cU8) y_1196.1.Queue), i64 y_1196.1.Next, .sl false (L cApi_Packet y_1196.1.Early), i64 y_1196.1.SentAt]], .bool y_1206), (76, 18, [.agg [i64 y_1198.1.Epoch, i64 y_1198.1.Other, i64 y_1198.1.First, .sl false (L (cSl cU8) y_1198.1.Queue), i64 y_1198.1.Next, .sl false (L cApi_Packet y_1198.1.Early), i64 y_1198.1.SentAt], .agg [i64 y_1200.1.Epoch, i64 y_1200.1.Other, i64 y_1200.1.First, .sl false (L (cSl cU8) y_1200.1.Queue), i64 y_1200.1.Next, .sl false (L cApi_Packet y_1200.1.Early), i64 y_1200.1.SentAt]], .bool y_1207), (86, 18, [.agg [i64 y_1202.1.Epoch, i64 y_1202.1.Other, i64 y_1202.1.First, .sl false (L (cSl cU8) y_1202.1.Queue), i64 y_1202.1.Next, .sl false (L cApi_Packet y_1202.1.Early), i64 y_1202.1.SentAt], .agg [i64 y_1204.1.Epoch, i64 y_1204.1.Other, i64 y_1204.1.First, .sl false (L (cSl cU8) y_1204.1.Queue), i64 y_1204.1.Next, .sl false (L cApi_Packet y_1204.1.Early), i64 y_1204.1.SentAt]], .bool y_1208)]) ⟨r12_Same_con  hy_1212, r12_Same_con  hy_1215, r12_Same_con  hy_1218, trivial⟩, by simp only [go_sem, reduceIte, Nat.reduceLT, Nat.reduceEqDiff, Nat.reduceAdd, hb_1213, hb_1214, hb_1216, hb_1217, hb_1219], (weak_sel [] (by decide) rfl (by simp only [go_sem, reduceIte, Nat.reduceLT, Nat.reduceEqDiff, Nat.reduceAdd]) (by simp only [go_sem, reduceIte, Nat.reduceLT, Nat.reduceEqDiff, Nat.reduceAdd]))⟩
              · replace hv_1211 := ite_f hv_1211 hb_1217
                have e_hv_1211 := Option.some.inj hv_1211; subst e_hv_1211
                exact ⟨_, [(8, .bool false)], [.box [i64 p_1183.Epoch, i64 p_1183.Other, i64 p_1183.First, .sl false (L (cSl cU8) p_1183.Queue), i64 p_1183.Next, .sl false (L cApi_Packet p_1183.Early), i64 p_1183.SentAt] false, .box [i64 y_1194.1.Epoch, i64 y_1194.1.Other, i64 y_1194.1.First, .sl false (L (cSl cU8) y_1194.1.Queue), i64 y_1194.1.Next, .sl false (L cApi_Packet y_1194.1.Early), i64 y_1194.1.SentAt] false, .box [i64 y_1196.1.Epoch, i64 y_1196.1.Other, i64 y_1196.1.First, .sl false (L (cSl cU8) y_1196.1.Queue), i64 y_1196.1.Next, .sl false (L cApi_Packet y_1196.1.Early), i64 y_1196.1.SentAt] false, .box [i64 y_1198.1.Epoch, i64 y_1198.1.Other, i64 y_1198.1.First, .sl false (L (cSl cU8) y_1198.1.Queue), i64 y_1198.1.Next, .sl false (L cApi_Packet y_1198.1.Early), i64 y_1198.1.SentAt] false, .box [i64 y_1200.1.Epoch, i64 y_1200.1.Other, i64 y_1200.1.First, .sl false (L (cSl cU8) y_1200.1.Queue), i64 y_1200.1.Next, .sl false (L cApi_Packet y_1200.1.Early), i64 y_1200.1.SentAt] false, .box [i64 y_1202.1.Epoch, i64 y_1202.1.Other, i64 y_1202.1.First, .sl false (L (cSl cU8) y_1202.1.Queue), i64 y_1202.1.Next, .sl false (L cApi_Packet y_1202.1.Early), i64 y_1202.1.SentAt] false, .box [i64 y_1204.1.Epoch, i64 y_1204.1.Other, i64 y_1204.1.First, .sl false (L (cSl cU8) y_1204.1.Queue), i64 y_1204.1.Next, .sl false (L cApi_Packet y_1204.1.Early), i64 y_1204.1.SentAt] false], orcs_ok (l := [(67, 18, [.agg [i64 y_1194.1.Epoch, i64 y_1194.1.Other, i64 y_1194.1.First, .sl false (L (cSl cU8) y_1194.1.Queue), i64 y_1194.1.Next, .sl false (L cApi_Packet y_1194.1.Early), i64 y_1194.1.SentAt], .agg [i64 y_1196.1.Epoch, i64 y_1196.1.Other, i64 y_1196.1.First, .sl false (L (cSl cU8) y_1196.1.Queue), i64 y_1196.1.Next, .sl false (L cApi_Packet y_1196.1.Early), i64 y_1196.1.SentAt]], .bool y_1206), (76, 18, [.agg [i64 y_1198.1.Epoch, i64 y_1198.1.Other, i64 y_1198.1.First, .sl false (L (cSl cU8) y_1198.1.Queue), i64 y_1198.1.Next, .sl false (L cApi_Packet y_1198.1.Early), i64 y_1198.1.SentAt], .agg [i64 y_1200.1.Epoch, i64 y_1200.1.Other, i64 y_1200.1.First, .sl false (L (cSl cU8) y_1200.1.Queue), i64 y_1200.1.Next, .sl false (L cApi_Packet y_1200.1.Early), i64 y_1200.1.SentAt]], .bool y_1207)]) ⟨r12_Same_con  hy_1212, r12_Same_con  hy_1215, trivial⟩, by simp only [go_sem, reduceIte, Nat.reduceLT, Nat.reduceEqDiff, Nat.reduceAdd, hb_1213, hb_1214, hb_1216, hb_1217], (weak_sel [] (by decide) rfl (by simp only [go_sem, reduceIte, Nat.reduceLT, Nat.reduceEqDiff, Nat.reduceAdd]) (by simp only [go_sem, reduceIte, Nat.reduceLT, Nat.reduceEqDiff, Nat.reduceAdd]))⟩
            · replace hv_1211 := ite_f hv_1211 hb_1216
              have e_hv_1211 := Option.some.inj hv_1211; subst e_hv_1211
              exact ⟨_, [(8, .bool false)], [.box [i64 p_1183.Epoch, i64 p_1183.Other, i64 p_1183.First, .sl false (L (cSl cU8) p_1183.Queue), i64 p_1183.Next, .sl false (L cApi_Packet p_1183.Early), i64 p_1183.SentAt] false, .box [i64 y_1194.1.Epoch, i64 y_1194.1.Other, i64 y_1194.1.First, .sl false (L (cSl cU8) y_1194.1.Queue), i64 y_1194.1.Next, .sl false (L cApi_Packet y_1194.1.Early), i64 y_1194.1.SentAt] false, .box [i64 y_1196.1.Epoch, i64 y_1196.1.Other, i64 y_1196.1.First, .sl false (L (cSl cU8) y_1196.1.Queue), i64 y_1196.1.Next, .sl false (L cApi_Packet y_1196.1.Early), i64 y_1196.1.SentAt] false, .box [i64 y_1198.1.Epoch, i64 y_1198.1.Other, i64 y_1198.1.First, .sl false (L (cSl cU8) y_1198.1.Queue), i64 y_1198.1.Next, .sl false (L cApi_Packet y_1198.1.Early), i64 y_1198.1.SentAt] false, .box [i64 y_1200.1.Epoch, i64 y_1200.1.Other, i64 y_1200.1.First, .sl false (L (cSl cU8) y_1200.1.Queue), i64 y_1200.1.Next, .sl false (L cApi_Packet y_1200.1.Early), i64 y_1200.1.SentAt] false, .box [i64 y_1202.1.Epoch, i64 y_1202.1.Other, i64 y_1202.1.First, .sl false (L (cSl cU8) y_1202.1.Queue), i64 y_1202.1.Next, .sl false (L cApi_Packet y_1202.1.Early), i64 y_1202.1.SentAt] false, .box [i64 y_1204.1.Epoch, i64 y_1204.1.Other, i64 y_1204.1.First, .sl false (L (cSl cU8) y_1204.1.Queue), i64 y_1204.1.Next, .sl false (L cApi_Packet y_1204.1.Early), i64 y_1204.1.SentAt] false], orcs_ok (l := [(67, 18, [.agg [i64 y_1194.1.Epoch, i64 y_1194.1.Other, i64 y_1194.1.First, .sl false (L (cSl cU8) y_1194.1.Queue), i64 y_1194.1.Next, .sl false (L cApi_Packet y_1194.1.Early), i64 y_1194.1.SentAt], .agg [i64 y_1196.1.Epoch, i64 y_1196.1.Other, i64 y_1196.1.First, .sl false (L (cSl cU8) y_1196.1.Queue), i64 y_1196.1.Next, .sl false (L cApi_Packet y_1196.1.Early), i64 y_1196.1.SentAt]], .bool y_1206), (76, 18, [.agg [i64 y_1198.1.Epoch, i64 y_1198.1.Other, i64 y_1198.1.First, .sl false (L (cSl cU8) y_1198.1.Queue), i64 y_1198.1.Next, .sl false (L cApi_Packet y_1198.1.Early), i64 y_1198.1.SentAt], .agg [i64 y_1200.1.Epoch, i64 y_1200.1.Other, i64 y_1200.1.First, .sl false (L (cSl cU8) y_1200.1.Queue), i64 y_1200.1.Next, .sl false (L cApi_Packet y_1200.1.Early), i64 y_1200.1.SentAt]], .bool y_1207)]) ⟨r12_Same_con  hy_1212, r12_Same_con  hy_1215, trivial⟩, by simp only [go_sem, reduceIte, Nat.reduceLT, Nat.reduceEqDiff, Nat.reduceAdd, hb_1213, hb_1214, hb_1216], (weak_sel [] (by decide) rfl (by simp only [go_sem, reduceIte, Nat.reduceLT, Nat.reduceEqDiff, Nat.reduceAdd]) (by simp only [go_sem, reduceIte, Nat.reduceLT, Nat.reduceEqDiff, Nat.reduceAdd]))⟩
          · replace hv_1211 := ite_f hv_1211 hb_1214
            have e_hv_1211 := Option.some.inj hv_1211; subst e_hv_1211
            exact ⟨_, [(8, .bool false)], [.box [i64 p_1183.Epoch, i64 p_1183.Other, i64 p_1183.First, .sl false (L (cSl cU8) p_1183.Queue), i64 p_1183.Next, .sl false (L cApi_Packet p_1183.Early), i64 p_1183.SentAt] false, .box [i64 y_1194.1.Epoch, i64 y_1194.1.Other, i64 y_1194.1.First, .sl false (L (cSl cU8) y_1194.1.Queue), i64 y_1194.1.Next, .sl false (L cApi_Packet y_1194.1.Early), i64 y_1194.1.SentAt] false, .box [i64 y_1196.1.Epoch, i64 y_1196.1.Other, i64 y_1196.1.First, .sl false (L (cSl cU8) y_1196.1.Queue), i64 y_1196.1.Next, .sl false (L cApi_Packet y_1196.1.Early), i64 y_1196.1.SentAt] false, .box [i64 y_1198.1.Epoch, i64 y_1198.1.Other, i64 y_1198.1.First, .sl false (L (cSl cU8) y_1198.1.Queue), i64 y_1198.1.Next, .sl false (L cApi_Packet y_1198.1.Early), i64 y_1198.1.SentAt] false, .box [i64 y_1200.1.Epoch, i64 y_1200.1.Other, i64 y_1200.1.First, .sl false (L (cSl cU8) y_1200.1.Queue), i64 y_1200.1.Next, .sl false (L cApi_Packet y_1200.1.Early), i64 y_1200.1.SentAt] false, .box [i64 y_1202.1.Epoch, i64 y_1202.1.Other, i64 y_1202.1.First, .sl false (L (cSl cU8) y_1202.1.Queue), i64 y_1202.1.Next, .sl false (L cApi_Packet y_1202.1.Early), i64 y_1202.1.SentAt] false, .box [i64 y_1204.1.Epoch, i64 y_1204.1.Other, i64 y_1204.1.First, .sl false (L (cSl cU8) y_1204.1.Queue), i64 y_1204.1.Next, .sl false (L cApi_Packet y_1204.1.Early), i64 y_1204.1.SentAt] false], orcs_ok (l := [(67, 18, [.agg [i64 y_1194.1.Epoch, i64 y_1194.1.Other, i64 y_1194.1.First, .sl false (L (cSl cU8) y_1194.1.Queue), i64 y_1194.1.Next, .sl false (L cApi_Packet y_1194.1.Early), i64 y_1194.1.SentAt], .agg [i64 y_1196.1.Epoch, i64 y_1196.1.Other, i64 y_1196.1.First, .sl false (L (cSl cU8) y_1196.1.Queue), i64 y_1196.1.Next, .sl false (L cApi_Packet y_1196.1.Early), i64 y_1196.1.SentAt]], .bool y_1206)]) ⟨r12_Same_con  hy_1212, trivial⟩, by simp only [go_sem, reduceIte, Nat.reduceLT, Nat.reduceEqDiff, Nat.reduceAdd, hb_1213, hb_1214], (weak_sel [] (by decide) rfl (by simp only [go_sem, reduceIte, Nat.reduceLT, Nat.reduceEqDiff, Nat.reduceAdd]) (by simp only [go_sem, reduceIte, Nat.reduceLT, Nat.reduceEqDiff, Nat.reduceAdd]))⟩
        · replace hv_1211 := ite_f hv_1211 hb_1213
          have e_hv_1211 := Option.some.inj hv_1211; subst e_hv_1211
          exact ⟨_, [(8, .bool false)], [.box [i64 p_1183.Epoch, i64 p_1183.Other, i64 p_1183.First, .sl false (L (cSl cU8) p_1183.Queue), i64 p_1183.Next, .sl false (L cApi_Packet p_1183.Early), i64 p_1183.SentAt] false, .box [i64 y_1194.1.Epoch, i64 y_1194.1.Other, i64 y_1194.1.First, .sl false (L (cSl cU8) y_1194.1.Queue), i64 y_1194.1.Next, .sl false (L cApi_Packet y_1194.1.Early), i64 y_1194.1.SentAt] false, .box [i64 y_1196.1.Epoch, i64 y_1196.1.Other, i64 y_1196.1.First, .sl false (L (cSl cU8) y_1196.1.Queue), i64 y_1196.1.Next, .sl false (L cApi_Packet y_1196.1.Early), i64 y_1196.1.SentAt] false, .box [i64 y_1198.1.Epoch, i64 y_1198.1.Other, i64 y_1198.1.First, .sl false (L (cSl cU8) y_1198.1.Queue), i64 y_1198.1.Next, .sl false (L cApi_Packet y_1198.1.Early), i64 y_1198.1.SentAt] false, .box [i64 y_1200.1.Epoch, i64 y_1200.1.Other, i64 y_1200.1.First, .sl false (L (cSl cU8) y_1200.1.Queue), i64 y_1200.1.Next, .sl false (L cApi_Packet y_1200.1.Early), i64 y_1200.1.SentAt] false, .box [i64 y_1202.1.Epoch, i64 y_1202.1.Other, i64 y_1202.1.First, .sl false (L (cSl cU8) y_1202.1.Queue), i64 y_1202.1.Next, .sl false (L cApi_Packet y_1202.1.Early), i64 y_1202.1.SentAt] false, .box [i64 y_1204.1.Epoch, i64 y_1204.1.Other, i64 y_1204.1.First, .sl false (L (cSl cU8) y_1204.1.Queue), i64 y_1204.1.Next, .sl false (L cApi_Packet y_1204.1.Early), i64 y_1204.1.SentAt] false], orcs_ok (l := [(67, 18, [.agg [i64 y_1194.1.Epoch, i64 y_1194.1.Other, i64 y_1194.1.First, .sl false (L (cSl cU8) y_1194.1.Queue), i64 y_1194.1.Next, .sl false (L cApi_Packet y_1194.1.Early), i64 y_1194.1.SentAt], .agg [i64 y_1196.1.Epoch, i64 y_1196.1.Other, i64 y_1196.1.First, .sl false (L (cSl cU8) y_1196.1.Queue), i64 y_1196.1.Next, .sl false (L cApi_Packet y_1196.1.Early), i64 y_1196.1.SentAt]], .bool y_1206)]) ⟨r12_Same_con  hy_1212, trivial⟩, by simp only [go_sem, reduceIte, Nat.reduceLT, Nat.reduceEqDiff, Nat.reduceAdd, hb_1213], (weak_sel [] (by decide) rfl (by simp only [go_sem, reduceIte, Nat.reduceLT, Nat.reduceEqDiff, Nat.reduceAdd]) (by simp only [go_sem, reduceIte, Nat.reduceLT, Nat.reduceEqDiff, Nat.reduceAdd]))⟩
      refine run_ret ?_
      obtain rfl := Option.some.inj h
      refine wkP_of (Weak.refl _ _) ?_
      refine ret_ok (.inr rfl) ?_
      simp only [go_sem, reduceIte, Nat.reduceLT, Nat.reduceEqDiff, Nat.reduceAdd]

end Go.Proofs.Ytomjphpnpcgacaa
/-
  All walks.
-/

/-
  The examples of the documentation: computed.
-/
namespace Go.Proofs.Ytomjphpnpcgacaa
open Go.Rv
theorem sane_ok : law12_sane = some true := by decide +kernel
end Go.Proofs.Ytomjphpnpcgacaa
/-
  Both sides' checks, New, Offer and Emit.
-/
namespace Go.Proofs.Ytomjphpnpcgacaa
open Go.Rv
set_option linter.unusedVariables false
set_option linter.unusedSimpArgs false

theorem w64_one {k : Nat} (h : k + 1 < 9223372036854775807) : w64 ((k : Int) + 1) = ((k + 1 : Nat) : Int) := by rw [w64_id (by omega)]; omega
theorem bindT {α β : Type} {o : Option α} {a : α} {f : α → Option β} (h : o = some a) : o.bind f = f a := by rw [h]; rfl
theorem fits24 {n : Nat} (h : n ≤ 100000) : Fits n 24 := by unfold Fits maxLen roomB; omega
theorem fits56 {n : Nat} (h : n ≤ 100000) : Fits n 56 := by unfold Fits maxLen roomB; omega

theorem all_loop {β : Type} {v : β} {f : Int → Option (Int ⊕ (Unit ⊕ (Unit ⊕ β)))} (n : Nat) (p : Nat → Bool) (hn : n < 1000000000000000000) (hf : ∀ k, k < n → f (k : Int) = some (if p k = true then .inl ((k + 1 : Nat) : Int) else .inr (.inr (.inr v))))
    (he : f (n : Int) = some (.inr (.inl ()))) : loopO (fun i : Int => f i) 0 = some (if (List.range n).all p = true then .inl () else .inr (.inr v)) := by
  obtain ⟨x, hx, rfl⟩ := loopO_rule (f := fun i : Int => f i) (fun v => ∃ k : Nat, v = (k : Int) ∧ k ≤ n ∧ ∀ j, j < k → p j = true) (fun v => n - v.toNat)
    (fun x => x = if (List.range n).all p = true then .inl () else .inr (.inr v)) (by
      rintro w ⟨k, rfl, hk, hp⟩
      by_cases h : k < n
      · cases hpk : p k with
        | true =>
          left
          refine ⟨((k + 1 : Nat) : Int), by show f (k : Int) = _; rw [hf k h, hpk]; rfl, ⟨k + 1, rfl, by omega, fun j hj => ?_⟩, by simp; omega⟩
          by_cases e : j = k
          · rw [e]; exact hpk
          · exact hp j (by omega)
        | false =>
          right
          refine ⟨.inr (.inr v), by show f (k : Int) = _; rw [hf k h, hpk]; rfl, ?_⟩
          rw [if_neg]
          intro h2
          rw [List.all_eq_true] at h2
          rw [h2 k (List.mem_range.2 h)] at hpk
          cases hpk
      · right
        have : k = n := by omega
        subst this
        refine ⟨.inl (), he, ?_⟩
        rw [if_pos]
        rw [List.all_eq_true]
        intro j hj
        exact hp j (List.mem_range.1 hj)) (v0 := 0) ⟨0, rfl, Nat.zero_le _, fun j hj => absurd hj (Nat.not_lt_zero _)⟩ (by simp; omega)
  exact hx

/-! ### Is it a side? -/
def bt (n lo hi : Int) : Bool := decide (lo ≤ n ∧ n ≤ hi)

theorem between_eq (n lo hi : Int) : window_between n lo hi = some (bt n lo hi) := by
  unfold window_between bt
  by_cases h : lo ≤ n <;> by_cases h2 : n ≤ hi <;> simp [h, h2]
theorem within_eq (n lo hi : Int) : r12_within n lo hi = some (bt n lo hi) := by
  unfold r12_within bt
  by_cases h : lo ≤ n <;> by_cases h2 : n ≤ hi <;> simp [h, h2]

def okQ (p : Api_Peer) (k : Nat) : Bool := decide ((nth p.Queue k).length ≤ 8000)

theorem queue_eq (p : Api_Peer) (h : p.Queue.length ≤ 256) : loopO (fun v : Int => window_valid_b1 p v) 0 = some (if (List.range p.Queue.length).all (okQ p) = true then .inl () else .inr (.inr false)) :=
  all_loop (v := false) (f := fun i => window_valid_b1 p i) p.Queue.length (okQ p) (by omega) (fun k hk => by
    show window_valid_b1 p (k : Int) = _
    unfold window_valid_b1 okQ
    rw [if_pos (by simp; omega), if_pos (inR_of hk), w64_one (by omega), Int.toNat_natCast]
    by_cases h : (nth p.Queue k).length ≤ 8000
    · rw [if_neg (by simp; omega)]; simp [h]
    · rw [if_pos (by simp; omega)]; simp [h]) (by
    show window_valid_b1 p (p.Queue.length : Int) = _
    unfold window_valid_b1
    rw [if_neg (by simp)])

theorem queue_same (p : Api_Peer) : (fun v : Int => r12_Valid_b1 p v) = fun v : Int => window_valid_b1 p v := rfl

/-- The packet k is not right, if the one before it has the number last. -/
def badE (p : Api_Peer) (last : Int) (k : Nat) : Bool :=
  decide ((nth p.Early k).Seq ≤ last) || decide ((nth p.Early k).Seq ≥ w64 (p.Next + 64)) || decide ((nth p.Early k).Seq ≥ 1099511627776) || decide (((nth p.Early k).Data.length : Int) > 8000) || (nth p.Early k).Epoch != 0 || (nth p.Early k).To != 0 || (nth p.Early k).Ack != 0

theorem early_step (p : Api_Peer) (last : Int) (k : Nat) (h : k < p.Early.length) (hs : p.Early.length ≤ 100000) : window_valid_b2 p last (k : Int) = some (if badE p last k = true then .inr (.inr (.inr false)) else .inl ((nth p.Early k).Seq, ((k + 1 : Nat) : Int))) := by
  unfold window_valid_b2 badE
  rw [if_pos (by simp; omega), if_pos (inR_of h), w64_one (by omega), Int.toNat_natCast]
  simp only [lt1]
  generalize nth p.Early k = e
  have hm : (decide (e.Seq ≥ mn64 (w64 (p.Next + 64)) 1099511627776)) = (decide (e.Seq ≥ w64 (p.Next + 64)) || decide (e.Seq ≥ 1099511627776)) := by
    unfold mn64
    by_cases h1 : (1099511627776 : Int) < w64 (p.Next + 64) <;> by_cases h2 : e.Seq ≥ w64 (p.Next + 64) <;> by_cases h3 : e.Seq ≥ 1099511627776 <;> simp [h1, h2, h3] <;> omega
  rw [hm]
  cases h1 : decide (e.Seq ≤ last) <;> cases h2 : decide (e.Seq ≥ w64 (p.Next + 64)) <;> cases h3 : decide (e.Seq ≥ 1099511627776) <;> cases h4 : decide ((e.Data.length : Int) > 8000) <;> cases h5 : (e.Epoch != 0) <;> cases h6 : (e.To != 0) <;> cases h7 : (e.Ack != 0) <;> rfl

theorem early_step_r (p : Api_Peer) (last : Int) (k : Nat) (h : k < p.Early.length) (hs : p.Early.length ≤ 100000) : r12_early_b1 p last (k : Int) = some (if badE p last k = true then .inr (.inr (.inr false)) else .inl ((nth p.Early k).Seq, ((k + 1 : Nat) : Int))) := by
  unfold r12_early_b1 badE
  rw [if_pos (by simp; omega), if_pos (inR_of h), w64_one (by omega), Int.toNat_natCast]
  simp only [lt1]
  generalize nth p.Early k = e
  cases h1 : decide (e.Seq ≤ last) <;> cases h2 : decide (e.Seq ≥ w64 (p.Next + 64)) <;> cases h3 : decide (e.Seq ≥ 1099511627776) <;> cases h4 : decide ((e.Data.length : Int) > 8000) <;> cases h5 : (e.Epoch != 0) <;> cases h6 : (e.To != 0) <;> cases h7 : (e.Ack != 0) <;> rfl

/-- The number before packet k. -/
def lastE (p : Api_Peer) : Nat → Int
  | 0 => p.Next
  | k + 1 => (nth p.Early k).Seq

theorem pair_loop {f : Int × Int → Option ((Int × Int) ⊕ (Unit ⊕ (Unit ⊕ Bool)))} (p : Api_Peer) (hs : p.Early.length ≤ 100000)
    (hf : ∀ k, k < p.Early.length → f (lastE p k, (k : Int)) = some (if badE p (lastE p k) k = true then .inr (.inr (.inr false)) else .inl ((nth p.Early k).Seq, ((k + 1 : Nat) : Int))))
    (he : ∀ last, f (last, (p.Early.length : Int)) = some (.inr (.inl ()))) : loopO f (p.Next, 0) = some (if (List.range p.Early.length).all (fun k => !badE p (lastE p k) k) = true then .inl () else .inr (.inr false)) := by
  obtain ⟨x, hx, rfl⟩ := loopO_rule (f := f) (fun v => ∃ k : Nat, v = (lastE p k, (k : Int)) ∧ k ≤ p.Early.length ∧ ∀ j, j < k → badE p (lastE p j) j = false) (fun v => p.Early.length - v.2.toNat)
    (fun x => x = if (List.range p.Early.length).all (fun k => !badE p (lastE p k) k) = true then .inl () else .inr (.inr false)) (by
      rintro w ⟨k, rfl, hk, hp⟩
      by_cases h : k < p.Early.length
      · cases hpk : badE p (lastE p k) k with
        | false =>
          left
          refine ⟨((nth p.Early k).Seq, ((k + 1 : Nat) : Int)), by rw [hf k h, hpk]; rfl, ⟨k + 1, rfl, by omega, fun j hj => ?_⟩, by simp; omega⟩
          by_cases e : j = k
          · rw [e]; exact hpk
          · exact hp j (by omega)
        | true =>
          right
          refine ⟨.inr (.inr false), by rw [hf k h, hpk]; rfl, ?_⟩
          rw [if_neg]
          intro h2
          rw [List.all_eq_true] at h2
          have := h2 k (List.mem_range.2 h)
          rw [hpk] at this
          cases this
      · right
        have : k = p.Early.length := by omega
        subst this
        refine ⟨.inl (), he _, ?_⟩
        rw [if_pos]
        rw [List.all_eq_true]
        intro j hj
        rw [hp j (List.mem_range.1 hj)]; rfl) (v0 := (p.Next, 0)) ⟨0, rfl, Nat.zero_le _, fun j hj => absurd hj (Nat.not_lt_zero _)⟩ (by simp; omega)
  exact hx

def okEs (p : Api_Peer) : Bool := (List.range p.Early.length).all fun k => !badE p (lastE p k) k

theorem early_eq (p : Api_Peer) (hs : p.Early.length ≤ 100000) : loopO (fun v : Int × Int => window_valid_b2 p v.1 v.2) (p.Next, 0) = some (if okEs p = true then .inl () else .inr (.inr false)) :=
  pair_loop (f := fun v => window_valid_b2 p v.1 v.2) p hs (fun k hk => early_step p _ k hk hs) (fun last => by
    show window_valid_b2 p last (p.Early.length : Int) = _
    unfold window_valid_b2
    rw [if_neg (by simp)])
theorem early_eq_r (p : Api_Peer) (hs : p.Early.length ≤ 100000) : loopO (fun v : Int × Int => r12_early_b1 p v.1 v.2) (p.Next, 0) = some (if okEs p = true then .inl () else .inr (.inr false)) :=
  pair_loop (f := fun v => r12_early_b1 p v.1 v.2) p hs (fun k hk => early_step_r p _ k hk hs) (fun last => by
    show r12_early_b1 p last (p.Early.length : Int) = _
    unfold r12_early_b1
    rw [if_neg (by simp)])

def okH (p : Api_Peer) : Bool := bt p.Epoch 0 1073741824 && bt p.Other (-1) 1073741824 && bt p.SentAt (-1) 1073741824 && bt p.First 0 1099511627776 && bt p.Next 0 1099511627776 && decide (p.Queue.length ≤ 256) && !decide (w64 (p.First + (p.Queue.length : Int)) > 1099511627776)

def validS (p : Api_Peer) : Bool := okH p && (List.range p.Queue.length).all (okQ p) && okEs p

theorem valid_eq (p : Api_Peer) (hs : p.Early.length ≤ 100000) : window_valid p = some (validS p) := by
  have hq : decide ((p.Queue.length : Int) > 256) = !decide (p.Queue.length ≤ 256) := by
    by_cases h : p.Queue.length ≤ 256
    · simp [h]; omega
    · simp [h]; omega
  unfold window_valid validS okH
  simp only [between_eq, Option.bind_some]
  rw [hq]
  by_cases h6 : p.Queue.length ≤ 256
  · simp only [queue_eq p h6, early_eq p hs]
    rw [decide_eq_true h6]
    generalize bt p.Epoch 0 1073741824 = b1
    generalize bt p.Other (-1) 1073741824 = b2
    generalize bt p.SentAt (-1) 1073741824 = b3
    generalize bt p.First 0 1099511627776 = b4
    generalize bt p.Next 0 1099511627776 = b5
    generalize decide (w64 (p.First + (p.Queue.length : Int)) > 1099511627776) = b7
    generalize (List.range p.Queue.length).all (okQ p) = b8
    generalize okEs p = b9
    cases b1 <;> cases b2 <;> cases b3 <;> cases b4 <;> cases b5 <;> cases b7 <;> cases b8 <;> cases b9 <;> rfl
  · rw [decide_eq_false h6]
    generalize bt p.Epoch 0 1073741824 = b1
    generalize bt p.Other (-1) 1073741824 = b2
    generalize bt p.SentAt (-1) 1073741824 = b3
    generalize bt p.First 0 1099511627776 = b4
    generalize bt p.Next 0 1099511627776 = b5
    cases b1 <;> cases b2 <;> cases b3 <;> cases b4 <;> cases b5 <;> rfl

theorem valid_eq_r (p : Api_Peer) (hs : p.Early.length ≤ 100000) : r12_Valid p = some (validS p) := by
  have hq : decide ((p.Queue.length : Int) > 256) = !decide (p.Queue.length ≤ 256) := by
    by_cases h : p.Queue.length ≤ 256
    · simp [h]; omega
    · simp [h]; omega
  unfold r12_Valid r12_early validS okH
  simp only [within_eq, Option.bind_some, queue_same]
  rw [hq]
  by_cases h6 : p.Queue.length ≤ 256
  · simp only [queue_eq p h6, early_eq_r p hs]
    rw [decide_eq_true h6]
    generalize bt p.Epoch 0 1073741824 = b1
    generalize bt p.Other (-1) 1073741824 = b2
    generalize bt p.SentAt (-1) 1073741824 = b3
    generalize bt p.First 0 1099511627776 = b4
    generalize bt p.Next 0 1099511627776 = b5
    generalize decide (w64 (p.First + (p.Queue.length : Int)) > 1099511627776) = b7
    generalize (List.range p.Queue.length).all (okQ p) = b8
    generalize okEs p = b9
    cases b1 <;> cases b2 <;> cases b3 <;> cases b4 <;> cases b5 <;> cases b7 <;> cases b8 <;> cases b9 <;> rfl
  · rw [decide_eq_false h6]
    generalize bt p.Epoch 0 1073741824 = b1
    generalize bt p.Other (-1) 1073741824 = b2
    generalize bt p.SentAt (-1) 1073741824 = b3
    generalize bt p.First 0 1099511627776 = b4
    generalize bt p.Next 0 1099511627776 = b5
    cases b1 <;> cases b2 <;> cases b3 <;> cases b4 <;> cases b5 <;> rfl

theorem valid_q {p : Api_Peer} (h : validS p = true) : p.Queue.length ≤ 256 ∧ ∀ k, k < p.Queue.length → (nth p.Queue k).length ≤ 8000 := by
  unfold validS okH at h
  simp only [Bool.and_eq_true, decide_eq_true_eq, List.all_eq_true] at h
  exact ⟨h.1.1.1.2, fun k hk => by have := h.1.2 k (List.mem_range.2 hk); simpa [okQ] using this⟩
theorem valid_t {p : Api_Peer} (h : validS p = true) : -1 ≤ p.SentAt ∧ p.SentAt ≤ 1073741824 := by
  unfold validS okH bt at h
  simp only [Bool.and_eq_true, decide_eq_true_eq] at h
  exact h.1.1.1.1.1.1.2

/-! ### New, Offer, Emit -/
theorem new_eq (e : Int) : ∃ r, window_New e = some r ∧ r12_New e = some r ∧ r.1.Queue.length ≤ 300 ∧ r.1.Early.length ≤ 300 := by
  unfold window_New r12_New
  simp only [between_eq, within_eq, Option.bind_some]
  cases bt e 0 1073741824
  · exact ⟨_, rfl, rfl, by decide, by decide⟩
  · exact ⟨_, rfl, rfl, by simp, by simp⟩

theorem own_eq {b : List UInt8} (h : b.length ≤ 100000) : window_own b = some b := by
  unfold window_own
  rw [if_pos (by unfold Mk maxLen roomB; omega)]
  simp [lt1, ovl]

def zeroPeer : Api_Peer := { Epoch := 0, Other := 0, First := 0, Queue := [], Next := 0, Early := [], SentAt := 0 }

theorem offer_eq (p : Api_Peer) (d : List UInt8) (hs : p.Early.length ≤ 100) (hd : d.length ≤ 20000) : ∃ r, window_Offer p d = some r ∧ r12_Offer p d = some r ∧ r.1.Queue.length ≤ 300 ∧ r.1.Early.length ≤ 300 := by
  unfold window_Offer r12_Offer
  rw [valid_eq p (by omega), valid_eq_r p (by omega), Option.bind_some, Option.bind_some]
  cases hv : validS p
  · exact ⟨_, rfl, rfl, by decide, by decide⟩
  simp only [Bool.not_true, Bool.not_false, Bool.false_eq_true, if_false, if_true, Option.bind_some]
  obtain ⟨hq, _⟩ := valid_q hv
  cases h1 : decide ((d.length : Int) > 8000)
  case true => exact ⟨_, rfl, rfl, by decide, by decide⟩
  simp only [Bool.not_true, Bool.not_false, Bool.false_eq_true, if_false, if_true, Option.bind_some]
  have hE : (if ((p.Queue.length : Int) == 256) = true then some true else some (w64 (p.First + (p.Queue.length : Int)) == 1099511627776)) = some ((p.Queue.length : Int) == 256 || w64 (p.First + (p.Queue.length : Int)) == 1099511627776) := by
    cases ((p.Queue.length : Int) == 256) <;> rfl
  simp only [hE, Option.bind_some]
  cases h2 : ((p.Queue.length : Int) == 256 || w64 (p.First + (p.Queue.length : Int)) == 1099511627776)
  case true => exact ⟨_, rfl, rfl, by decide, by decide⟩
  simp only [Bool.not_true, Bool.not_false, Bool.false_eq_true, if_false, if_true, Option.bind_some]
  unfold slices_Clone_38
  rw [if_pos (fits24 (by omega)), own_eq (by omega), if_pos (fits24 (by omega)), if_pos (fits1 (by omega)), if_pos (fits24 (by simp; omega))]
  simp only [lt1, Option.bind_some, List.nil_append]
  rw [if_pos (fits24 (by omega))]
  exact ⟨_, rfl, rfl, by simp; omega, by simp; omega⟩

/-- The packet with the k-th message. -/
def pk (p : Api_Peer) (k : Nat) : Api_Packet := { Epoch := p.Epoch, To := p.Other, Seq := w64 (p.First + (k : Int)), Ack := p.Next, Data := nth p.Queue k }

theorem nth_take {α : Type} [Inhabited α] (l : List α) (n k : Nat) (h : k < n) : nth (l.take n) k = nth l k := by
  unfold nth
  simp [List.getD, List.getElem?_take, h]

theorem emit_loop (p : Api_Peer) (hq : p.Queue.length ≤ 256) (hd : ∀ k, k < p.Queue.length → (nth p.Queue k).length ≤ 8000) (m : Nat) (hm : m = min 16 p.Queue.length) : loopO (fun v : Int × List Api_Packet => window_Emit_b1 p (p.Queue.take m) (m : Int) v.1 v.2) (0, []) = some ((List.range m).map (pk p)) := by
  obtain ⟨x, hx, rfl⟩ := loopO_for (f := fun v : Int × List Api_Packet => window_Emit_b1 p (p.Queue.take m) (m : Int) v.1 v.2) m (fun k v => v = ((k : Int), (List.range k).map (pk p))) (fun x => x = (List.range m).map (pk p)) (by omega) (by
    rintro k v hk rfl
    refine ⟨_, ?_, rfl⟩
    show window_Emit_b1 p (p.Queue.take m) (m : Int) (k : Int) _ = _
    unfold window_Emit_b1
    rw [if_pos (by simp; omega), if_pos (inR_of (by simp; omega)), Int.toNat_natCast, nth_take _ _ _ hk, own_eq (by have := hd k (by omega); omega)]
    simp only [lt1, Option.bind_some]
    rw [if_pos (fits56 (by simp; omega)), w64_one (by omega), List.range_succ, List.map_append]
    rfl) (by
    rintro v rfl
    refine ⟨_, ?_, rfl⟩
    show window_Emit_b1 p (p.Queue.take m) (m : Int) (m : Int) _ = _
    unfold window_Emit_b1
    rw [if_neg (by simp)]) (v0 := (0, [])) rfl
  exact hx

theorem emit_loop_r (p : Api_Peer) (hq : p.Queue.length ≤ 256) (m : Nat) (hm : m = min 16 p.Queue.length) : loopO (fun v : Int × List Api_Packet => r12_Emit_b1 p v.1 v.2) (0, []) = some ((List.range m).map (pk p)) := by
  obtain ⟨x, hx, rfl⟩ := loopO_for (f := fun v : Int × List Api_Packet => r12_Emit_b1 p v.1 v.2) m (fun k v => v = ((k : Int), (List.range k).map (pk p))) (fun x => x = (List.range m).map (pk p)) (by omega) (by
    rintro k v hk rfl
    refine ⟨_, ?_, rfl⟩
    show r12_Emit_b1 p (k : Int) _ = _
    unfold r12_Emit_b1
    rw [if_pos (by simp; omega), Option.bind_some, if_pos (by simp; omega), if_pos (inR_of (by omega)), Int.toNat_natCast, if_pos (fits56 (by simp; omega)), w64_one (by omega), List.range_succ, List.map_append]
    rfl) (by
    rintro v rfl
    refine ⟨_, ?_, rfl⟩
    show r12_Emit_b1 p (m : Int) _ = _
    unfold r12_Emit_b1
    by_cases h : m < p.Queue.length
    · rw [if_pos (by simp; omega), Option.bind_some, if_neg (by simp; omega)]
    · rw [if_neg (by simp; omega), Option.bind_some, if_neg (by simp)]) (v0 := (0, [])) rfl
  exact hx

theorem emit_eq (p : Api_Peer) (now : Int) (hs : p.Early.length ≤ 100) (hq0 : p.Queue.length ≤ 300) : ∃ r, window_Emit p now = some r ∧ r12_Emit p now = some r ∧ r.1.Queue.length ≤ 300 ∧ r.1.Early.length ≤ 300 ∧ r.2.length ≤ 300 := by
  unfold window_Emit r12_Emit
  rw [valid_eq p (by omega), valid_eq_r p (by omega), Option.bind_some, Option.bind_some]
  simp only [between_eq, within_eq, Option.bind_some]
  cases hv : validS p
  · exact ⟨_, rfl, rfl, hq0, by simp; omega, by simp⟩
  obtain ⟨hq, hd⟩ := valid_q hv
  obtain ⟨t1, t2⟩ := valid_t hv
  simp only [Bool.not_true, Bool.not_false, Bool.false_eq_true, if_false, if_true, Option.bind_some]
  cases hn : bt now 0 1073741824
  · exact ⟨_, rfl, rfl, hq0, by simp; omega, by simp⟩
  simp only [Bool.not_true, Bool.not_false, Bool.false_eq_true, if_false, if_true, Option.bind_some]
  have hn' : 0 ≤ now ∧ now ≤ 1073741824 := by simpa [bt] using hn
  have hdue : (if decide (p.SentAt < 0) = true then some true else if decide (p.SentAt > now) = true then some true else some (decide (w64 (now - p.SentAt) ≥ 10))) = some (decide (p.SentAt < 0 ∨ p.SentAt > now ∨ now - p.SentAt ≥ 10)) := by
    rw [w64_id (by omega)]
    by_cases h1 : p.SentAt < 0 <;> by_cases h2 : p.SentAt > now <;> by_cases h3 : now - p.SentAt ≥ 10 <;> simp [h1, h2, h3]
  have hdue2 : (if decide (p.SentAt ≥ 0) = true then if decide (p.SentAt ≤ now) = true then some (decide (p.SentAt > w64 (now - 10))) else some false else some false) = some (!decide (p.SentAt < 0 ∨ p.SentAt > now ∨ now - p.SentAt ≥ 10)) := by
    rw [w64_id (by omega)]
    by_cases h1 : p.SentAt < 0
    · rw [if_neg (by simp; omega)]; simp [h1]
    · rw [if_pos (by simp; omega)]
      by_cases h2 : p.SentAt > now
      · rw [if_neg (by simp; omega)]; simp [h2]
      · rw [if_pos (by simp; omega)]
        by_cases h3 : now - p.SentAt ≥ 10
        · simp [h3]; omega
        · simp [h1, h2, h3]; omega
  simp only [hdue, hdue2, Option.bind_some]
  generalize decide (p.SentAt < 0 ∨ p.SentAt > now ∨ now - p.SentAt ≥ 10) = due
  cases h0 : ((p.Queue.length : Int) == 0)
  case true => exact ⟨_, rfl, rfl, hq0, by simp; omega, by simp⟩
  simp only [Bool.not_true, Bool.not_false, Bool.false_eq_true, if_false, if_true, Option.bind_some]
  cases due
  case false => exact ⟨_, rfl, rfl, hq0, by simp; omega, by simp⟩
  have hmn : mn64 16 (p.Queue.length : Int) = ((min 16 p.Queue.length : Nat) : Int) := by unfold mn64; split <;> omega
  simp only [Bool.not_true, Bool.not_false, Bool.false_eq_true, if_false, if_true, Option.bind_some]
  rw [hmn, if_pos (by unfold InB; omega), Int.toNat_natCast]
  simp only [lt1]
  have hl : (p.Queue.take (min 16 p.Queue.length)).length = min 16 p.Queue.length := by simp
  rw [hl, emit_loop p hq hd _ rfl, emit_loop_r p hq _ rfl]
  exact ⟨_, rfl, rfl, hq0, by simp; omega, by simp; omega⟩

/-! ### The same -/
theorem msgs_same (l : List (List UInt8)) (h : l.length ≤ 300) : r12_SameMessages l l = some true := by
  unfold r12_SameMessages
  rw [if_neg (by simp), all_loop (v := false) (f := fun i => r12_SameMessages_b1 l l i) l.length (fun _ => true) (by omega) (fun k hk => by
    show r12_SameMessages_b1 l l (k : Int) = _
    unfold r12_SameMessages_b1
    rw [if_pos (by simp; omega), if_pos (inR_of hk), if_pos (inR_of hk), if_neg (by simp), w64_one (by omega)]
    rfl) (by
    show r12_SameMessages_b1 l l (l.length : Int) = _
    unfold r12_SameMessages_b1
    rw [if_neg (by simp)])]
  rw [if_pos (by simp)]
  rfl

theorem pks_same (l : List Api_Packet) (h : l.length ≤ 300) : r12_SamePackets l l = some true := by
  unfold r12_SamePackets
  rw [if_neg (by simp), all_loop (v := false) (f := fun i => r12_SamePackets_b1 l l i) l.length (fun _ => true) (by omega) (fun k hk => by
    show r12_SamePackets_b1 l l (k : Int) = _
    unfold r12_SamePackets_b1 r12_SamePacket
    rw [if_pos (by simp; omega), if_pos (inR_of hk), if_pos (inR_of hk), w64_one (by omega)]
    simp) (by
    show r12_SamePackets_b1 l l (l.length : Int) = _
    unfold r12_SamePackets_b1
    rw [if_neg (by simp)])]
  rw [if_pos (by simp)]
  rfl

theorem same_same (p : Api_Peer) (h1 : p.Queue.length ≤ 300) (h2 : p.Early.length ≤ 300) : r12_Same p p = some true := by
  unfold r12_Same
  rw [msgs_same _ h1, pks_same _ h2]
  simp

theorem few_eq (p : Api_Peer) : ∃ b, law12_few p = some b ∧ (b = true → p.Queue.length ≤ 257 ∧ p.Early.length ≤ 70) := by
  unfold law12_few
  by_cases h1 : p.Queue.length ≤ 257
  case neg => exact ⟨false, by rw [if_pos (by simp; omega)]; rfl, fun h => by cases h⟩
  by_cases h2 : p.Early.length ≤ 70
  case neg => exact ⟨false, by rw [if_neg (by simp; omega), Option.bind_some, if_pos (by simp; omega)], fun h => by cases h⟩
  rw [if_neg (by simp; omega), Option.bind_some, if_neg (by simp; omega)]
  obtain ⟨n, hn, _⟩ := loopO_for (f := fun v : Int × Int => law12_few_b1 p v.1 v.2) p.Queue.length (fun k v => v.2 = (k : Int)) (fun _ => True) (by omega) (by
    rintro k ⟨n, i⟩ hk hi
    simp only at hi
    subst hi
    refine ⟨(w64 (n + ((nth p.Queue k).length : Int)), ((k + 1 : Nat) : Int)), ?_, rfl⟩
    show law12_few_b1 p n (k : Int) = _
    unfold law12_few_b1
    rw [if_pos (by simp; omega), if_pos (inR_of hk), w64_one (by omega)]
    rfl) (by
    rintro ⟨n, i⟩ hi
    simp only at hi
    subst hi
    refine ⟨n, ?_, trivial⟩
    show law12_few_b1 p n (p.Queue.length : Int) = _
    unfold law12_few_b1
    rw [if_neg (by simp)]) (v0 := (0, 0)) rfl
  rw [hn]
  simp only [Option.bind_some]
  obtain ⟨n2, hn2, _⟩ := loopO_for (f := fun v : Int × Int => law12_few_b2 p v.1 v.2) p.Early.length (fun k v => v.2 = (k : Int)) (fun _ => True) (by omega) (by
    rintro k ⟨n, i⟩ hk hi
    simp only at hi
    subst hi
    refine ⟨(w64 (n + ((nth p.Early k).Data.length : Int)), ((k + 1 : Nat) : Int)), ?_, rfl⟩
    show law12_few_b2 p n (k : Int) = _
    unfold law12_few_b2
    rw [if_pos (by simp; omega), if_pos (inR_of hk), w64_one (by omega)]
    rfl) (by
    rintro ⟨n, i⟩ hi
    simp only at hi
    subst hi
    refine ⟨n, ?_, trivial⟩
    show law12_few_b2 p n (p.Early.length : Int) = _
    unfold law12_few_b2
    rw [if_neg (by simp)]) (v0 := (n, 0)) rfl
  rw [hn2]
  exact ⟨_, rfl, fun _ => ⟨h1, h2⟩⟩
end Go.Proofs.Ytomjphpnpcgacaa
/-
  The law WindowMatches, in plain Lean.
-/
namespace Go.Proofs.Ytomjphpnpcgacaa
open Go.Rv
set_option linter.unusedVariables false

theorem law_windowMatches (p : Api_Peer) (d : List UInt8) (now epoch : Int) : law12_WindowMatches p d now epoch = some true := by
  unfold law12_WindowMatches
  rw [sane_ok, Option.bind_some, if_neg (by simp)]
  obtain ⟨b, hb, hf⟩ := few_eq p
  rw [hb, Option.bind_some]
  cases b
  case false => rfl
  obtain ⟨h1, h2⟩ := hf rfl
  rw [if_neg (by simp), Option.bind_some]
  by_cases hd : d.length ≤ 20000
  case neg => rw [if_pos (by simp; omega)]
  rw [if_neg (by simp; omega)]
  obtain ⟨r1, a1, b1, c1, e1⟩ := new_eq epoch
  obtain ⟨r2, a2, b2, c2, e2⟩ := offer_eq p d (by omega) hd
  obtain ⟨r3, a3, b3, c3, e3, f3⟩ := emit_eq p now (by omega) (by omega)
  rw [a1, b1, a2, b2, a3, b3]
  simp only [Option.bind_some]
  rw [same_same _ c1 e1, same_same _ c2 e2, same_same _ c3 e3, pks_same _ f3]
  simp
end Go.Proofs.Ytomjphpnpcgacaa
/-
  Readings of arguments of chapter 12.
-/
namespace Go.Proofs.Ytomjphpnpcgacaa
open Go.Rv Go.ChangeShapes Go.WideShapes Go.ChangeAt Go.RowKit
set_option linter.unusedVariables false

theorem bulk_all (H : Type) (l : List (DataW H)) : (l.map (Rows.uptoBulk (H := H))).sum = Rows.uptoBulkAll l := by
  induction l with
  | nil => rfl
  | cons x l ih => simp only [List.map_cons, List.sum_cons, ih, Rows.uptoBulkAll]

theorem bulk_ok : BulkOk (fun H => Rows.uptoBulk (H := H)) where
  one := fun H d => by
    cases d with
    | lit l => cases l <;> simp [Rows.uptoBulk]
    | _ => simp [Rows.uptoBulk]
  str := fun H l => by simp [Rows.uptoBulk]
  slice := fun H e s => by rw [bulk_all]; simp only [Rows.uptoBulk]; omega
  agg := fun H p => by rw [bulk_all]; simp only [Rows.uptoBulk]; omega

theorem cells_of_3 : Try.prog.cellsOf 3 = 1 := by kernel_rfl
theorem cells_of_5 : Try.prog.cellsOf 5 = 1 := by kernel_rfl
theorem cells_of_26 : Try.prog.cellsOf 26 = 1 := by kernel_rfl
theorem cells_of_22 : Try.prog.cellsOf 22 = 1 := by kernel_rfl
theorem cells_of_23 : Try.prog.cellsOf 23 = 1 := by kernel_rfl
theorem cells_of_39 : Try.prog.cellsOf 39 = 5 := by kernel_rfl
theorem cells_of_25 : Try.prog.cellsOf 25 = 7 := by kernel_rfl
theorem opens3 : Opens Try.prog (fun H => Rows.uptoBulk (H := H)) 3 cI64 (fun _ => 1) (fun x => -9223372036854775808 ≤ x ∧ x ≤ 9223372036854775807) := opens_i64 bulk_ok Try.underlying3
theorem opens26 : Opens Try.prog (fun H => Rows.uptoBulk (H := H)) 26 (cSl cU8) (fun _ => 0) (fun _ => True) :=
  fun H enc W pr hpr fuel cs d ps h => by
    obtain ⟨x, h1, _, _, h4⟩ := opens_slice bulk_ok Try.underlying26 cells_of_5 (fun _ => rfl) (opens_u8 bulk_ok Try.underlying5) H enc W pr hpr fuel cs d ps h
    exact ⟨x, h1, Nat.zero_le _, trivial, h4⟩
theorem opens22 : Opens Try.prog (fun H => Rows.uptoBulk (H := H)) 22 (cSl (cSl cU8)) (fun _ => 0) (fun _ => True) :=
  fun H enc W pr hpr fuel cs d ps h => by
    obtain ⟨x, h1, _, _, h4⟩ := opens_slice bulk_ok Try.underlying22 cells_of_26 (fun _ => rfl) opens26 H enc W pr hpr fuel cs d ps h
    exact ⟨x, h1, Nat.zero_le _, trivial, h4⟩
theorem opens39 : Opens Try.prog (fun H => Rows.uptoBulk (H := H)) 39 cApi_Packet (fun _ => 0) (fun _ => True) :=
  opens_struct bulk_ok Try.underlying39 (n := 5) cells_of_39
    (opensFs_cons (k := 1) rfl cells_of_3 (fun _ => rfl) opens3 (opensFs_cons (k := 1) rfl cells_of_3 (fun _ => rfl) opens3 (opensFs_cons (k := 1) rfl cells_of_3 (fun _ => rfl) opens3 (opensFs_cons (k := 1) rfl cells_of_3 (fun _ => rfl) opens3 (opensFs_cons (k := 1) rfl cells_of_26 (fun _ => rfl) opens26 opensFs_nil)))))
    (fun x => (⟨x.1, x.2.1, x.2.2.1, x.2.2.2.1, x.2.2.2.2.1⟩ : Api_Packet)) (fun _ => rfl) (fun _ => rfl) (fun _ => Nat.zero_le _) (fun _ _ => trivial)
theorem opens23 : Opens Try.prog (fun H => Rows.uptoBulk (H := H)) 23 (cSl cApi_Packet) (fun _ => 0) (fun _ => True) :=
  fun H enc W pr hpr fuel cs d ps h => by
    obtain ⟨x, h1, _, _, h4⟩ := opens_slice bulk_ok Try.underlying23 cells_of_39 (fun _ => rfl) opens39 H enc W pr hpr fuel cs d ps h
    exact ⟨x, h1, Nat.zero_le _, trivial, h4⟩
theorem opens25 : Opens Try.prog (fun H => Rows.uptoBulk (H := H)) 25 cApi_Peer (fun _ => 0) (fun _ => True) :=
  opens_struct bulk_ok Try.underlying25 (n := 7) cells_of_25
    (opensFs_cons (k := 1) rfl cells_of_3 (fun _ => rfl) opens3 (opensFs_cons (k := 1) rfl cells_of_3 (fun _ => rfl) opens3 (opensFs_cons (k := 1) rfl cells_of_3 (fun _ => rfl) opens3 (opensFs_cons (k := 1) rfl cells_of_22 (fun _ => rfl) opens22 (opensFs_cons (k := 1) rfl cells_of_3 (fun _ => rfl) opens3 (opensFs_cons (k := 1) rfl cells_of_23 (fun _ => rfl) opens23 (opensFs_cons (k := 1) rfl cells_of_3 (fun _ => rfl) opens3 opensFs_nil)))))))
    (fun x => (⟨x.1, x.2.1, x.2.2.1, x.2.2.2.1, x.2.2.2.2.1, x.2.2.2.2.2.1, x.2.2.2.2.2.2.1⟩ : Api_Peer)) (fun _ => rfl) (fun _ => rfl) (fun _ => Nat.zero_le _) (fun _ _ => trivial)

theorem own : ownKnob Try.prog.godebug = none := by kernel_rfl
theorem laid_ok : laidOutB Try.prog = true := by kernel_rfl
theorem G_none : ∀ i, B.G i = none := fun _ => rfl
end Go.Proofs.Ytomjphpnpcgacaa
