/-
  The library and the walks, part 3.
-/
import Derived.Test.YtomjphpnpcgacaaZC2
import Derived.KernelRfl
import Derived.Test.YtomjphpnpcgacaaR24
import Derived.Test.YtomjphpnpcgacaaRows
import Derived.Test.YtomjphpnpcgacaaR30
import Derived.WalkKit
import Derived.ProofKit
import Derived.OpenShut
import Derived.JoinedCond
/-
  The functions compute just that.
-/
namespace Go.Proofs.Ytomjphpnpcgacaa
open Go.Rv
set_option linter.unusedVariables false
set_option linter.unusedSimpArgs false
set_option maxRecDepth 20000
set_option maxHeartbeats 4000000

theorem law12_WindowTwice_con {p_1618 : Api_Peer} {k_1619 : Api_Packet} {r : Bool} (h : law12_WindowTwice p_1618 k_1619 = some r) : Con B 7 [.agg [i64 p_1618.Epoch, i64 p_1618.Other, i64 p_1618.First, .sl false (L (cSl cU8) p_1618.Queue), i64 p_1618.Next, .sl false (L cApi_Packet p_1618.Early), i64 p_1618.SentAt], .agg [i64 k_1619.Epoch, i64 k_1619.To, i64 k_1619.Seq, i64 k_1619.Ack, .sl false (L cU8 k_1619.Data)]] [] (fun r' σ' => r' = .bool r ∧ σ' = []) := by
  refine con_walk (N := 48) (rs := [.tmp 4]) ok Try.func7 rfl (by decide +kernel) rfl rfl (Nat.le_of_ble_eq_true rfl) (fun F => ?_)
  have hE := ok.env F
  unfold law12_WindowTwice at h
  show Run (B.env F) 0 _ ⟨asFr 48 [(0, .agg [i64 p_1618.Epoch, i64 p_1618.Other, i64 p_1618.First, .sl false (L (cSl cU8) p_1618.Queue), i64 p_1618.Next, .sl false (L cApi_Packet p_1618.Early), i64 p_1618.SentAt]), (1, .agg [i64 k_1619.Epoch, i64 k_1619.To, i64 k_1619.Seq, i64 k_1619.Ack, .sl false (L cU8 k_1619.Data)])], []⟩ _
  refine run_wkP ?_
  refine run_textE hE [2, 3] (fr' := [(2, .ref 0 0), (3, .ref 1 0)]) (σ' := [.box [i64 p_1618.Epoch, i64 p_1618.Other, i64 p_1618.First, .sl false (L (cSl cU8) p_1618.Queue), i64 p_1618.Next, .sl false (L cApi_Packet p_1618.Early), i64 p_1618.SentAt] false, .box [i64 k_1619.Epoch, i64 k_1619.To, i64 k_1619.Seq, i64 k_1619.Ack, .sl false (L cU8 k_1619.Data)] false]) ⟨_, orcs_nil, ?_⟩ ?_
  · simp only [go_sem]
  refine run_seq ?_
  replace h := bind_some1 h; obtain ⟨y_1620, hy_1621, h⟩ := h
  refine run_textE hE [2, 3, 12] (fr' := [(2, .ref 0 0), (3, .ref 1 0), (12, .bool ((!y_1620)))]) (σ' := [.box [i64 p_1618.Epoch, i64 p_1618.Other, i64 p_1618.First, .sl false (L (cSl cU8) p_1618.Queue), i64 p_1618.Next, .sl false (L cApi_Packet p_1618.Early), i64 p_1618.SentAt] false, .box [i64 k_1619.Epoch, i64 k_1619.To, i64 k_1619.Seq, i64 k_1619.Ack, .sl false (L cU8 k_1619.Data)] false]) ⟨_, orcs_ok (l := [(11, 10, [], .bool y_1620)]) ⟨law12_sane_con  hy_1621, trivial⟩, ?_⟩ ?_
  · simp only [go_sem]
  refine run_condL (b := (!y_1620)) rfl (by decide) (fun hb => ?_) (fun hb => ?_)
  · replace h := ite_t h hb
    refine run_textE hE [4] (fr' := [(4, .bool false)]) (σ' := [.box [i64 p_1618.Epoch, i64 p_1618.Other, i64 p_1618.First, .sl false (L (cSl cU8) p_1618.Queue), i64 p_1618.Next, .sl false (L cApi_Packet p_1618.Early), i64 p_1618.SentAt] false, .box [i64 k_1619.Epoch, i64 k_1619.To, i64 k_1619.Seq, i64 k_1619.Ack, .sl false (L cU8 k_1619.Data)] false]) ⟨_, orcs_nil, ?_⟩ ?_
    · simp only [go_sem]
    refine run_ret ?_
    refine thenK_r ?_
    obtain rfl := Option.some.inj h
    refine wkP_of (Weak.refl _ _) ?_
    refine ret_ok (.inr rfl) ?_
    simp only [go_sem]
  · replace h := ite_f h hb
    refine run_skip ?_
    refine thenK_n ?_
    refine run_seq ?_
    replace h := bind_some1 h; obtain ⟨t_1623, hv_1624, h⟩ := h
    refine run_textW hE [2, 3, 21] (fr' := [(2, .ref 0 0), (3, .ref 1 0), (21, .bool t_1623)]) (σ' := [.box [i64 p_1618.Epoch, i64 p_1618.Other, i64 p_1618.First, .sl false (L (cSl cU8) p_1618.Queue), i64 p_1618.Next, .sl false (L cApi_Packet p_1618.Early), i64 p_1618.SentAt] false, .box [i64 k_1619.Epoch, i64 k_1619.To, i64 k_1619.Seq, i64 k_1619.Ack, .sl false (L cU8 k_1619.Data)] false]) ?_ ?_
    · replace hv_1624 := bind_some1 hv_1624; obtain ⟨y_1622, hy_1625, hv_1624⟩ := hv_1624
      rcases Bool.eq_false_or_eq_true ((!y_1622)) with hb_1626 | hb_1626
      · replace hv_1624 := ite_t hv_1624 hb_1626
        have e_hv_1624 := Option.some.inj hv_1624; subst e_hv_1624
        exact ⟨_, [(2, .ref 0 0), (3, .ref 1 0), (21, .bool true)], [.box [i64 p_1618.Epoch, i64 p_1618.Other, i64 p_1618.First, .sl false (L (cSl cU8) p_1618.Queue), i64 p_1618.Next, .sl false (L cApi_Packet p_1618.Early), i64 p_1618.SentAt] false, .box [i64 k_1619.Epoch, i64 k_1619.To, i64 k_1619.Seq, i64 k_1619.Ack, .sl false (L cU8 k_1619.Data)] false], orcs_ok (l := [(14, 11, [.agg [i64 p_1618.Epoch, i64 p_1618.Other, i64 p_1618.First, .sl false (L (cSl cU8) p_1618.Queue), i64 p_1618.Next, .sl false (L cApi_Packet p_1618.Early), i64 p_1618.SentAt]], .bool y_1622)]) ⟨law12_few_con  hy_1625, trivial⟩, by simp only [go_sem, hb_1626], (weak_sel [0, 1] (by decide) rfl (by simp only [go_sem]) (by simp only [go_sem]))⟩
      · replace hv_1624 := ite_f hv_1624 hb_1626
        have e_hv_1624 := Option.some.inj hv_1624; subst e_hv_1624
        exact ⟨_, [(2, .ref 0 0), (3, .ref 1 0), (21, .bool ((decide ((k_1619.Data.length : Int) > 20000))))], [.box [i64 p_1618.Epoch, i64 p_1618.Other, i64 p_1618.First, .sl false (L (cSl cU8) p_1618.Queue), i64 p_1618.Next, .sl false (L cApi_Packet p_1618.Early), i64 p_1618.SentAt] false, .box [i64 k_1619.Epoch, i64 k_1619.To, i64 k_1619.Seq, i64 k_1619.Ack, .sl false (L cU8 k_1619.Data)] false], orcs_ok (l := [(14, 11, [.agg [i64 p_1618.Epoch, i64 p_1618.Other, i64 p_1618.First, .sl false (L (cSl cU8) p_1618.Queue), i64 p_1618.Next, .sl false (L cApi_Packet p_1618.Early), i64 p_1618.SentAt]], .bool y_1622)]) ⟨law12_few_con  hy_1625, trivial⟩, by simp only [go_sem, hb_1626], (weak_sel [0, 1] (by decide) rfl (by simp only [go_sem]) (by simp only [go_sem]))⟩
    refine run_condL (b := t_1623) rfl (by decide) (fun hb => ?_) (fun hb => ?_)
    · replace h := ite_t h hb
      refine run_textE hE [4] (fr' := [(4, .bool true)]) (σ' := [.box [i64 p_1618.Epoch, i64 p_1618.Other, i64 p_1618.First, .sl false (L (cSl cU8) p_1618.Queue), i64 p_1618.Next, .sl false (L cApi_Packet p_1618.Early), i64 p_1618.SentAt] false, .box [i64 k_1619.Epoch, i64 k_1619.To, i64 k_1619.Seq, i64 k_1619.Ack, .sl false (L cU8 k_1619.Data)] false]) ⟨_, orcs_nil, ?_⟩ ?_
      · simp only [go_sem]
      refine run_ret ?_
      refine thenK_r ?_
      obtain rfl := Option.some.inj h
      refine wkP_of (Weak.refl _ _) ?_
      refine ret_ok (.inr rfl) ?_
      simp only [go_sem]
    · replace h := ite_f h hb
      refine run_skip ?_
      refine thenK_n ?_
      replace h := bind_some1 h; obtain ⟨y_1627, hy_1628, h⟩ := h
      refine run_textE hE [3, 5] (fr' := [(3, .ref 1 0), (5, .ref 2 0)]) (σ' := [.box [i64 p_1618.Epoch, i64 p_1618.Other, i64 p_1618.First, .sl false (L (cSl cU8) p_1618.Queue), i64 p_1618.Next, .sl false (L cApi_Packet p_1618.Early), i64 p_1618.SentAt] false, .box [i64 k_1619.Epoch, i64 k_1619.To, i64 k_1619.Seq, i64 k_1619.Ack, .sl false (L cU8 k_1619.Data)] false, .box [i64 y_1627.1.Epoch, i64 y_1627.1.Other, i64 y_1627.1.First, .sl false (L (cSl cU8) y_1627.1.Queue), i64 y_1627.1.Next, .sl false (L cApi_Packet y_1627.1.Early), i64 y_1627.1.SentAt] false]) ⟨_, orcs_ok (l := [(25, 20, [.agg [i64 p_1618.Epoch, i64 p_1618.Other, i64 p_1618.First, .sl false (L (cSl cU8) p_1618.Queue), i64 p_1618.Next, .sl false (L cApi_Packet p_1618.Early), i64 p_1618.SentAt], .agg [i64 k_1619.Epoch, i64 k_1619.To, i64 k_1619.Seq, i64 k_1619.Ack, .sl false (L cU8 k_1619.Data)]], .tup [.agg [i64 y_1627.1.Epoch, i64 y_1627.1.Other, i64 y_1627.1.First, .sl false (L (cSl cU8) y_1627.1.Queue), i64 y_1627.1.Next, .sl false (L cApi_Packet y_1627.1.Early), i64 y_1627.1.SentAt], .sl false (L (cSl cU8) y_1627.2.1), .bool y_1627.2.2])]) ⟨window_Accept_con  hy_1628, trivial⟩, ?_⟩ ?_
      · simp only [go_sem, Nat.reduceLeDiff]
      replace h := bind_some1 h; obtain ⟨y_1629, hy_1630, h⟩ := h
      refine run_textE hE [5, 8, 9, 10] (fr' := [(5, .ref 2 0), (8, .ref 3 0), (9, .sl false (L (cSl cU8) y_1629.2.1)), (10, .bool y_1629.2.2)]) (σ' := [.box [i64 p_1618.Epoch, i64 p_1618.Other, i64 p_1618.First, .sl false (L (cSl cU8) p_1618.Queue), i64 p_1618.Next, .sl false (L cApi_Packet p_1618.Early), i64 p_1618.SentAt] false, .box [i64 k_1619.Epoch, i64 k_1619.To, i64 k_1619.Seq, i64 k_1619.Ack, .sl false (L cU8 k_1619.Data)] false, .box [i64 y_1627.1.Epoch, i64 y_1627.1.Other, i64 y_1627.1.First, .sl false (L (cSl cU8) y_1627.1.Queue), i64 y_1627.1.Next, .sl false (L cApi_Packet y_1627.1.Early), i64 y_1627.1.SentAt] false, .box [i64 y_1629.1.Epoch, i64 y_1629.1.Other, i64 y_1629.1.First, .sl false (L (cSl cU8) y_1629.1.Queue), i64 y_1629.1.Next, .sl false (L cApi_Packet y_1629.1.Early), i64 y_1629.1.SentAt] false]) ⟨_, orcs_ok (l := [(32, 20, [.agg [i64 y_1627.1.Epoch, i64 y_1627.1.Other, i64 y_1627.1.First, .sl false (L (cSl cU8) y_1627.1.Queue), i64 y_1627.1.Next, .sl false (L cApi_Packet y_1627.1.Early), i64 y_1627.1.SentAt], .agg [i64 k_1619.Epoch, i64 k_1619.To, i64 k_1619.Seq, i64 k_1619.Ack, .sl false (L cU8 k_1619.Data)]], .tup [.agg [i64 y_1629.1.Epoch, i64 y_1629.1.Other, i64 y_1629.1.First, .sl false (L (cSl cU8) y_1629.1.Queue), i64 y_1629.1.Next, .sl false (L cApi_Packet y_1629.1.Early), i64 y_1629.1.SentAt], .sl false (L (cSl cU8) y_1629.2.1), .bool y_1629.2.2])]) ⟨window_Accept_con  hy_1630, trivial⟩, ?_⟩ ?_
      · simp only [go_sem, Nat.reduceLeDiff]
      replace h := bind_some1 h; obtain ⟨t_1632, hv_1633, h⟩ := h
      refine run_textW hE [4] (fr' := [(4, .bool t_1632)]) (σ' := []) ?_ ?_
      · replace hv_1633 := bind_some1 hv_1633; obtain ⟨y_1631, hy_1634, hv_1633⟩ := hv_1633
        rcases Bool.eq_false_or_eq_true y_1631 with hb_1635 | hb_1635
        · replace hv_1633 := ite_t hv_1633 hb_1635
          rcases Bool.eq_false_or_eq_true (((y_1629.2.1.length : Int) == 0)) with hb_1636 | hb_1636
          · replace hv_1633 := ite_t hv_1633 hb_1636
            have e_hv_1633 := Option.some.inj hv_1633; subst e_hv_1633
            exact ⟨_, [(4, .bool ((!y_1629.2.2)))], [.box [i64 p_1618.Epoch, i64 p_1618.Other, i64 p_1618.First, .sl false (L (cSl cU8) p_1618.Queue), i64 p_1618.Next, .sl false (L cApi_Packet p_1618.Early), i64 p_1618.SentAt] false, .box [i64 k_1619.Epoch, i64 k_1619.To, i64 k_1619.Seq, i64 k_1619.Ack, .sl false (L cU8 k_1619.Data)] false, .box [i64 y_1627.1.Epoch, i64 y_1627.1.Other, i64 y_1627.1.First, .sl false (L (cSl cU8) y_1627.1.Queue), i64 y_1627.1.Next, .sl false (L cApi_Packet y_1627.1.Early), i64 y_1627.1.SentAt] false, .box [i64 y_1629.1.Epoch, i64 y_1629.1.Other, i64 y_1629.1.First, .sl false (L (cSl cU8) y_1629.1.Queue), i64 y_1629.1.Next, .sl false (L cApi_Packet y_1629.1.Early), i64 y_1629.1.SentAt] false], orcs_ok (l := [(38, 18, [.agg [i64 y_1627.1.Epoch, i64 y_1627.1.Other, i64 y_1627.1.First, .sl false (L (cSl cU8) y_1627.1.Queue), i64 y_1627.1.Next, .sl false (L cApi_Packet y_1627.1.Early), i64 y_1627.1.SentAt], .agg [i64 y_1629.1.Epoch, i64 y_1629.1.Other, i64 y_1629.1.First, .sl false (L (cSl cU8) y_1629.1.Queue), i64 y_1629.1.Next, .sl false (L cApi_Packet y_1629.1.Early), i64 y_1629.1.SentAt]], .bool y_1631)]) ⟨r12_Same_con  hy_1634, trivial⟩, by simp only [go_sem, hb_1635, hb_1636], (weak_sel [] (by decide) rfl (by simp only [go_sem]) (by simp only [go_sem]))⟩
          · replace hv_1633 := ite_f hv_1633 hb_1636
            have e_hv_1633 := Option.some.inj hv_1633; subst e_hv_1633
            exact ⟨_, [(4, .bool false)], [.box [i64 p_1618.Epoch, i64 p_1618.Other, i64 p_1618.First, .sl false (L (cSl cU8) p_1618.Queue), i64 p_1618.Next, .sl false (L cApi_Packet p_1618.Early), i64 p_1618.SentAt] false, .box [i64 k_1619.Epoch, i64 k_1619.To, i64 k_1619.Seq, i64 k_1619.Ack, .sl false (L cU8 k_1619.Data)] false, .box [i64 y_1627.1.Epoch, i64 y_1627.1.Other, i64 y_1627.1.First, .sl false (L (cSl cU8) y_1627.1.Queue), i64 y_1627.1.Next, .sl false (L cApi_Packet y_1627.1.Early), i64 y_1627.1.SentAt] false, .box [i64 y_1629.1.Epoch, i64 y_1629.1.Other, i64 y_1629.1.First, .sl false (L (cSl cU8) y_1629.1.Queue), i64 y_1629.1.Next, .sl false (L cApi_Packet y_1629.1.Early), i64 y_1629.1.SentAt] false], orcs_ok (l := [(38, 18, [.agg [i64 y_1627.1.Epoch, i64 y_1627.1.Other, i64 y_1627.1.First, .sl false (L (cSl cU8) y_1627.1.Queue), i64 y_1627.1.Next, .sl false (L cApi_Packet y_1627.1.Early), i64 y_1627.1.SentAt], .agg [i64 y_1629.1.Epoch, i64 y_1629.1.Other, i64 y_1629.1.First, .sl false (L (cSl cU8) y_1629.1.Queue), i64 y_1629.1.Next, .sl false (L cApi_Packet y_1629.1.Early), i64 y_1629.1.SentAt]], .bool y_1631)]) ⟨r12_Same_con  hy_1634, trivial⟩, by simp only [go_sem, hb_1635, hb_1636], (weak_sel [] (by decide) rfl (by simp only [go_sem]) (by simp only [go_sem]))⟩
        · replace hv_1633 := ite_f hv_1633 hb_1635
          have e_hv_1633 := Option.some.inj hv_1633; subst e_hv_1633
          exact ⟨_, [(4, .bool false)], [.box [i64 p_1618.Epoch, i64 p_1618.Other, i64 p_1618.First, .sl false (L (cSl cU8) p_1618.Queue), i64 p_1618.Next, .sl false (L cApi_Packet p_1618.Early), i64 p_1618.SentAt] false, .box [i64 k_1619.Epoch, i64 k_1619.To, i64 k_1619.Seq, i64 k_1619.Ack, .sl false (L cU8 k_1619.Data)] false, .box [i64 y_1627.1.Epoch, i64 y_1627.1.Other, i64 y_1627.1.First, .sl false (L (cSl cU8) y_1627.1.Queue), i64 y_1627.1.Next, .sl false (L cApi_Packet y_1627.1.Early), i64 y_1627.1.SentAt] false, .box [i64 y_1629.1.Epoch, i64 y_1629.1.Other, i64 y_1629.1.First, .sl false (L (cSl cU8) y_1629.1.Queue), i64 y_1629.1.Next, .sl false (L cApi_Packet y_1629.1.Early), i64 y_1629.1.SentAt] false], orcs_ok (l := [(38, 18, [.agg [i64 y_1627.1.Epoch, i64 y_1627.1.Other, i64 y_1627.1.First, .sl false (L (cSl cU8) y_1627.1.Queue), i64 y_1627.1.Next, .sl false (L cApi_Packet y_1627.1.Early), i64 y_1627.1.SentAt], .agg [i64 y_1629.1.Epoch, i64 y_1629.1.Other, i64 y_1629.1.First, .sl false (L (cSl cU8) y_1629.1.Queue), i64 y_1629.1.Next, .sl false (L cApi_Packet y_1629.1.Early), i64 y_1629.1.SentAt]], .bool y_1631)]) ⟨r12_Same_con  hy_1634, trivial⟩, by simp only [go_sem, hb_1635], (weak_sel [] (by decide) rfl (by simp only [go_sem]) (by simp only [go_sem]))⟩
      refine run_ret ?_
      obtain rfl := Option.some.inj h
      refine wkP_of (Weak.refl _ _) ?_
      refine ret_ok (.inr rfl) ?_
      simp only [go_sem]

theorem law12_at_con {n_1637 : Int} {length_1638 : Int} {r : Int} (h : law12_at n_1637 length_1638 = some r) : Con B 27 [i64 n_1637, i64 length_1638] [] (fun r' σ' => r' = i64 r ∧ σ' = []) := by
  refine con_walk (N := 11) (rs := [.tmp 4]) ok Try.func27 rfl (by decide +kernel) rfl rfl (Nat.le_of_ble_eq_true rfl) (fun F => ?_)
  have hE := ok.env F
  unfold law12_at at h
  show Run (B.env F) 0 _ ⟨asFr 11 [(0, i64 n_1637), (1, i64 length_1638)], []⟩ _
  refine run_wkP ?_
  refine run_textE hE [0, 1] (fr' := [(0, i64 n_1637), (1, i64 length_1638)]) (σ' := []) ⟨_, orcs_nil, ?_⟩ ?_
  · simp only [go_sem]
  replace h := chk_some h; obtain ⟨hc_1639, h⟩ := h
  replace h := lt1_some h; obtain ⟨t_1640, hz_1641, h⟩ := h
  refine run_textE hE [4] (fr' := [(4, i64 t_1640)]) (σ' := []) ⟨_, orcs_nil, ?_⟩ ?_
  · subst hz_1641; simp only [go_sem, hc_1639]
  refine run_ret ?_
  obtain rfl := Option.some.inj h
  refine wkP_of (Weak.refl _ _) ?_
  refine ret_ok (.inr rfl) ?_
  simp only [go_sem]

end Go.Proofs.Ytomjphpnpcgacaa
/-
  The functions compute just that.
-/
namespace Go.Proofs.Ytomjphpnpcgacaa
open Go.Rv
set_option linter.unusedVariables false
set_option linter.unusedSimpArgs false
set_option maxRecDepth 20000
set_option maxHeartbeats 4000000

theorem law12_WindowReorders_con {messages_1642 : List (List UInt8)} {order_1643 : List Int} {r : Bool} (h : law12_WindowReorders messages_1642 order_1643 = some r) : Con B 8 [.sl false (L (cSl cU8) messages_1642), .sl false (L cI64 order_1643)] [] (fun r' σ' => r' = .bool r ∧ σ' = []) := by
  refine con_walk (N := 128) (rs := [.tmp 4]) ok Try.func8 rfl (by decide +kernel) rfl rfl (Nat.le_of_ble_eq_true rfl) (fun F => ?_)
  have hE := ok.env F
  unfold law12_WindowReorders at h
  show Run (B.env F) 0 _ ⟨asFr 128 [(0, .sl false (L (cSl cU8) messages_1642)), (1, .sl false (L cI64 order_1643))], []⟩ _
  refine run_wkP ?_
  refine run_textE hE [0, 1] (fr' := [(0, .sl false (L (cSl cU8) messages_1642)), (1, .sl false (L cI64 order_1643))]) (σ' := []) ⟨_, orcs_nil, ?_⟩ ?_
  · simp only [go_sem]
  refine run_seq ?_
  replace h := bind_some1 h; obtain ⟨y_1644, hy_1645, h⟩ := h
  refine run_textE hE [0, 1, 20] (fr' := [(0, .sl false (L (cSl cU8) messages_1642)), (1, .sl false (L cI64 order_1643)), (20, .bool ((!y_1644)))]) (σ' := []) ⟨_, orcs_ok (l := [(19, 10, [], .bool y_1644)]) ⟨law12_sane_con  hy_1645, trivial⟩, ?_⟩ ?_
  · simp only [go_sem]
  refine run_condL (b := (!y_1644)) rfl (by decide) (fun hb => ?_) (fun hb => ?_)
  · replace h := ite_t h hb
    refine run_textE hE [4] (fr' := [(4, .bool false)]) (σ' := []) ⟨_, orcs_nil, ?_⟩ ?_
    · simp only [go_sem]
    refine run_ret ?_
    refine thenK_r ?_
    obtain rfl := Option.some.inj h
    refine wkP_of (Weak.refl _ _) ?_
    refine ret_ok (.inr rfl) ?_
    simp only [go_sem]
  · replace h := ite_f h hb
    refine run_skip ?_
    refine thenK_n ?_
    refine run_textE hE [0, 1, 5] (fr' := [(0, .sl false (L (cSl cU8) messages_1642)), (1, .sl false (L cI64 order_1643)), (5, .ref 0 0)]) (σ' := [.box [i64 1, i64 2, i64 0, .sl true (L (cSl cU8) ([])), i64 7, .sl true (L cApi_Packet ([])), i64 ((-1))] false]) ⟨_, orcs_nil, ?_⟩ ?_
    · simp only [go_sem, Nat.reduceGT, Nat.reduceLeDiff]
    replace h := lt1_some h; obtain ⟨n_1646, hz_1647, h⟩ := h
    refine run_textE hE [0, 1, 5, 6] (fr' := [(0, .sl false (L (cSl cU8) messages_1642)), (1, .sl false (L cI64 order_1643)), (5, .ref 0 0), (6, i64 n_1646)]) (σ' := [.box [i64 1, i64 2, i64 0, .sl true (L (cSl cU8) ([])), i64 7, .sl true (L cApi_Packet ([])), i64 ((-1))] false]) ⟨_, orcs_nil, ?_⟩ ?_
    · subst hz_1647; simp only [go_sem]
    refine run_textE hE [0, 1, 5, 6, 7] (fr' := [(0, .sl false (L (cSl cU8) messages_1642)), (1, .sl false (L cI64 order_1643)), (5, .ref 0 0), (6, i64 n_1646), (7, .sl true (L cApi_Packet ([])))]) (σ' := [.box [i64 1, i64 2, i64 0, .sl true (L (cSl cU8) ([])), i64 7, .sl true (L cApi_Packet ([])), i64 ((-1))] false]) ⟨_, orcs_nil, ?_⟩ ?_
    · simp only [go_sem]
    replace h := bind_some1 h; obtain ⟨j_1682, hA_1683, hj_1684⟩ := h
    refine run_join (fun (v : List Api_Packet) => (⟨asFr 128 [(0, .sl false (L (cSl cU8) messages_1642)), (1, .sl false (L cI64 order_1643)), (5, .ref 0 0), (6, i64 n_1646), (7, .bs false 1 (v.length) 0 (v.length))], [.box [i64 1, i64 2, i64 0, .sl true (L (cSl cU8) ([])), i64 7, .sl true (L cApi_Packet ([])), i64 ((-1))] false, .buf 5 (L cApi_Packet v) false]⟩ : St)) (fun v => .inl v = j_1682) ?_ ?_
    · have h := hA_1683; clear hA_1683
      refine run_textE hE [0, 1, 5, 6, 7, 8] (fr' := [(0, .sl false (L (cSl cU8) messages_1642)), (1, .sl false (L cI64 order_1643)), (5, .ref 0 0), (6, i64 n_1646), (7, .sl true (L cApi_Packet ([]))), (8, i64 0)]) (σ' := [.box [i64 1, i64 2, i64 0, .sl true (L (cSl cU8) ([])), i64 7, .sl true (L cApi_Packet ([])), i64 ((-1))] false]) ⟨_, orcs_nil, ?_⟩ ?_
      · simp only [go_sem]
      refine run_block ?_
      replace h := bind_some1 h; obtain ⟨x_1704, hx_1705, hj_1706⟩ := h
      refine run_loopO hx_1705 (fun (v : Int × List Api_Packet) => (⟨asFr 128 [(0, .sl false (L (cSl cU8) messages_1642)), (1, .sl false (L cI64 order_1643)), (5, .ref 0 0), (6, i64 n_1646), (7, .bs false 1 (v.2.length) 0 (v.2.length)), (8, i64 v.1)], [.box [i64 1, i64 2, i64 0, .sl true (L (cSl cU8) ([])), i64 7, .sl true (L cApi_Packet ([])), i64 ((-1))] false, .buf 5 (L cApi_Packet v.2) false]⟩ : St)) ((weak_nil 7 5 rfl).trans (weak_sel [0, 1] (by decide) rfl (by simp only [go_sem]) (by simp only [go_sem]))) ?_
      rintro ⟨i_1692, l_1693⟩ o_1707 h hxx_1708
      replace h : law12_WindowReorders_b1 messages_1642 n_1646 i_1692 l_1693 = some o_1707 := h
      unfold law12_WindowReorders_b1 at h
      refine run_seq ?_
      refine run_textE hE [0, 1, 5, 6, 7, 8, 27] (fr' := [(0, .sl false (L (cSl cU8) messages_1642)), (1, .sl false (L cI64 order_1643)), (5, .ref 0 0), (6, i64 n_1646), (7, .bs false 1 (l_1693.length) 0 (l_1693.length)), (8, i64 i_1692), (27, .bool ((decide (i_1692 < n_1646))))]) (σ' := [.box [i64 1, i64 2, i64 0, .sl true (L (cSl cU8) ([])), i64 7, .sl true (L cApi_Packet ([])), i64 ((-1))] false, .buf 5 (L cApi_Packet l_1693) false]) ⟨_, orcs_nil, ?_⟩ ?_
      · simp only [go_sem]
      refine run_condL (b := (decide (i_1692 < n_1646))) rfl (by decide) (fun hb => ?_) (fun hb => ?_)
      · replace h := ite_t h hb
        refine run_skip ?_
        refine thenK_n ?_
        refine run_seq ?_
        refine run_block ?_
        refine run_seq ?_
        replace h := chk_some h; obtain ⟨hc_1709, h⟩ := h
        replace h := lt1_some h; obtain ⟨t_1710, hz_1711, h⟩ := h
        refine run_textE hE [0, 1, 5, 6, 7, 8, 35] (fr' := [(0, .sl false (L (cSl cU8) messages_1642)), (1, .sl false (L cI64 order_1643)), (5, .ref 0 0), (6, i64 n_1646), (7, .bs false 1 (l_1693.length) 0 (l_1693.length)), (8, i64 i_1692), (35, .bool t_1710)]) (σ' := [.box [i64 1, i64 2, i64 0, .sl true (L (cSl cU8) ([])), i64 7, .sl true (L cApi_Packet ([])), i64 ((-1))] false, .buf 5 (L cApi_Packet l_1693) false]) ⟨_, orcs_nil, ?_⟩ ?_
        · subst hz_1711; simp only [go_sem, Int.reduceToNat, hc_1709, hc_1709.2, lt_le hc_1709.2]
        refine run_condL (b := t_1710) rfl (by decide) (fun hb => ?_) (fun hb => ?_)
        · replace h := ite_t h hb
          refine run_textE hE [4] (fr' := [(4, .bool true)]) (σ' := [.box [i64 1, i64 2, i64 0, .sl true (L (cSl cU8) ([])), i64 7, .sl true (L cApi_Packet ([])), i64 ((-1))] false, .buf 5 (L cApi_Packet l_1693) false]) ⟨_, orcs_nil, ?_⟩ ?_
          · simp only [go_sem]
          refine run_ret ?_
          refine thenK_r ?_
          refine blockK_r ?_
          refine thenK_r ?_
          refine lpK_r ?_
          replace h := bind_some1 h; obtain ⟨z_1713, h, e_z_1713⟩ := h
          obtain rfl := Option.some.inj e_z_1713
          have ex_z_1713 := hxx_1708 _ rfl
          subst ex_z_1713
          obtain rfl := Option.some.inj hj_1706
          refine blockK_r ?_
          refine joinK_r ?_
          replace h := bind_some1 h; obtain ⟨z_1712, h, e_z_1712⟩ := h
          obtain rfl := Option.some.inj e_z_1712
          obtain rfl := Option.some.inj hj_1684
          obtain rfl := Option.some.inj h
          refine wkP_of (Weak.refl _ _) ?_
          refine ret_ok (.inr rfl) ?_
          simp only [go_sem]
        · replace h := ite_f h hb
          refine run_skip ?_
          refine thenK_n ?_
          replace h := chk_some h; obtain ⟨hc_1714, h⟩ := h
          replace h := chk_some h; obtain ⟨hc_1715, h⟩ := h
          replace h := lt1_some h; obtain ⟨l_1716, hz_1717, h⟩ := h
          refine run_textE0 hE (wk_block wk_then) [0, 1, 5, 6, 7, 8] (fr' := [(0, .sl false (L (cSl cU8) messages_1642)), (1, .sl false (L cI64 order_1643)), (5, .ref 0 0), (6, i64 n_1646), (7, .bs false 1 (l_1716.length) 0 (l_1716.length)), (8, i64 i_1692)]) (σ' := [.box [i64 1, i64 2, i64 0, .sl true (L (cSl cU8) ([])), i64 7, .sl true (L cApi_Packet ([])), i64 ((-1))] false, .buf 5 (L cApi_Packet l_1716) false, .buf 5 (L cApi_Packet (([({ Epoch := 2, To := 1, Seq := (w64 (7 + i_1692)), Ack := 0, Data := nth messages_1642 i_1692.toNat } : Api_Packet)] : List Api_Packet))) false]) ⟨_, orcs_nil, ?_⟩ ?_
          · subst hz_1717; simp only [go_sem, Nat.reduceBEq, Nat.reduceMul, Nat.reduceSub, Nat.reduceGT, Nat.reducePow, Nat.reduceLeDiff, Int.reduceToNat, hc_1714, hc_1714.2, lt_le hc_1714.2, hc_1715]
          refine blockK_n ?_
          refine thenK_n ?_
          refine run_textE0 hE wk_lp [0, 1, 5, 6, 7, 8] (fr' := [(0, .sl false (L (cSl cU8) messages_1642)), (1, .sl false (L cI64 order_1643)), (5, .ref 0 0), (6, i64 n_1646), (7, .bs false 1 (l_1716.length) 0 (l_1716.length)), (8, i64 ((w64 (i_1692 + 1))))]) (σ' := [.box [i64 1, i64 2, i64 0, .sl true (L (cSl cU8) ([])), i64 7, .sl true (L cApi_Packet ([])), i64 ((-1))] false, .buf 5 (L cApi_Packet l_1716) false, .buf 5 (L cApi_Packet (([({ Epoch := 2, To := 1, Seq := (w64 (7 + i_1692)), Ack := 0, Data := nth messages_1642 i_1692.toNat } : Api_Packet)] : List Api_Packet))) false]) ⟨_, orcs_nil, ?_⟩ ?_
          · simp only [go_sem]
          obtain rfl := Option.some.inj h
          exact lpK_n (((w64 (i_1692 + 1)), l_1716)) rfl (weak_sel [0, 1] (by decide) rfl (by simp only [go_sem]) (by simp only [go_sem]))
      · replace h := ite_f h hb
        refine run_exit ?_
        refine thenK_x ?_
        obtain rfl := Option.some.inj h
        have ex_x_1704 := hxx_1708 _ rfl
        subst ex_x_1704
        have h := hj_1706; clear hj_1706
        refine lpK_x ?_
        refine blockK_x ?_
        obtain rfl := Option.some.inj h
        exact joinK_n l_1693 rfl ((weak_sel (l' := [(0, .sl false (L (cSl cU8) messages_1642)), (1, .sl false (L cI64 order_1643)), (5, .ref 0 0), (6, i64 n_1646), (7, .bs false 1 (l_1693.length) 0 (l_1693.length))]) (σ' := [.box [i64 1, i64 2, i64 0, .sl true (L (cSl cU8) ([])), i64 7, .sl true (L cApi_Packet ([])), i64 ((-1))] false, .buf 5 (L cApi_Packet l_1693) false]) [0, 1] (by decide) rfl (by simp only [go_sem]) (by simp only [go_sem])).trans (weak_sel [0, 1] (by decide) rfl (by simp only [go_sem]) (by simp only [go_sem])))
    rintro l_1681 rfl
    have h := hj_1684; clear hj_1684
    refine run_textE hE [0, 1, 6, 7, 9] (fr' := [(0, .sl false (L (cSl cU8) messages_1642)), (1, .sl false (L cI64 order_1643)), (6, i64 n_1646), (7, .bs false 1 (l_1681.length) 0 (l_1681.length)), (9, .ref 2 0)]) (σ' := [.box [i64 1, i64 2, i64 0, .sl true (L (cSl cU8) ([])), i64 7, .sl true (L cApi_Packet ([])), i64 ((-1))] false, .buf 5 (L cApi_Packet l_1681) false, .box [i64 1, i64 2, i64 0, .sl true (L (cSl cU8) ([])), i64 7, .sl true (L cApi_Packet ([])), i64 ((-1))] false]) ⟨_, orcs_nil, ?_⟩ ?_
    · simp only [go_sem, Nat.reduceLeDiff]
    refine run_textE hE [0, 1, 6, 7, 9, 10] (fr' := [(0, .sl false (L (cSl cU8) messages_1642)), (1, .sl false (L cI64 order_1643)), (6, i64 n_1646), (7, .bs false 1 (l_1681.length) 0 (l_1681.length)), (9, .ref 2 0), (10, .sl true (L (cSl cU8) ([])))]) (σ' := [.box [i64 1, i64 2, i64 0, .sl true (L (cSl cU8) ([])), i64 7, .sl true (L cApi_Packet ([])), i64 ((-1))] false, .buf 5 (L cApi_Packet l_1681) false, .box [i64 1, i64 2, i64 0, .sl true (L (cSl cU8) ([])), i64 7, .sl true (L cApi_Packet ([])), i64 ((-1))] false]) ⟨_, orcs_nil, ?_⟩ ?_
    · simp only [go_sem]
    replace h := bind_some1 h; obtain ⟨j_1787, hA_1788, hj_1789⟩ := h
    refine run_join (fun (v : Int × Int × Int × List (List UInt8) × Int × List Api_Packet × Int × List (List UInt8)) => (⟨asFr 128 [(0, .sl false (L (cSl cU8) messages_1642)), (6, i64 n_1646), (7, .bs false 0 (l_1681.length) 0 (l_1681.length)), (9, .ref 1 0), (10, .bs false 2 (v.2.2.2.2.2.2.2.length) 0 (v.2.2.2.2.2.2.2.length))], [.buf 5 (L cApi_Packet l_1681) false, .box [i64 v.1, i64 v.2.1, i64 v.2.2.1, .sl false (L (cSl cU8) v.2.2.2.1), i64 v.2.2.2.2.1, .sl false (L cApi_Packet v.2.2.2.2.2.1), i64 v.2.2.2.2.2.2.1] false, .buf 1 (L (cSl cU8) v.2.2.2.2.2.2.2) false]⟩ : St)) (fun v => v = j_1787) ?_ ?_
    · have h := hA_1788; clear hA_1788
      refine run_textE hE [0, 1, 6, 7, 9, 10, 11] (fr' := [(0, .sl false (L (cSl cU8) messages_1642)), (1, .sl false (L cI64 order_1643)), (6, i64 n_1646), (7, .bs false 1 (l_1681.length) 0 (l_1681.length)), (9, .ref 2 0), (10, .sl true (L (cSl cU8) ([]))), (11, i64 0)]) (σ' := [.box [i64 1, i64 2, i64 0, .sl true (L (cSl cU8) ([])), i64 7, .sl true (L cApi_Packet ([])), i64 ((-1))] false, .buf 5 (L cApi_Packet l_1681) false, .box [i64 1, i64 2, i64 0, .sl true (L (cSl cU8) ([])), i64 7, .sl true (L cApi_Packet ([])), i64 ((-1))] false]) ⟨_, orcs_nil, ?_⟩ ?_
      · simp only [go_sem]
      refine run_block ?_
      replace h := bind_some1 h; obtain ⟨x_1833, hx_1834, hj_1835⟩ := h
      refine run_loopO hx_1834 (fun (v : Int × Int × Int × Int × List (List UInt8) × Int × List Api_Packet × Int × List (List UInt8)) => (⟨asFr 128 [(0, .sl false (L (cSl cU8) messages_1642)), (1, .sl false (L cI64 order_1643)), (6, i64 n_1646), (7, .bs false 0 (l_1681.length) 0 (l_1681.length)), (9, .ref 1 0), (10, .bs false 2 (v.2.2.2.2.2.2.2.2.length) 0 (v.2.2.2.2.2.2.2.2.length)), (11, i64 v.1)], [.buf 5 (L cApi_Packet l_1681) false, .box [i64 v.2.1, i64 v.2.2.1, i64 v.2.2.2.1, .sl false (L (cSl cU8) v.2.2.2.2.1), i64 v.2.2.2.2.2.1, .sl false (L cApi_Packet v.2.2.2.2.2.2.1), i64 v.2.2.2.2.2.2.2.1] false, .buf 1 (L (cSl cU8) v.2.2.2.2.2.2.2.2) false]⟩ : St)) ((weak_nil 10 1 rfl).trans (weak_sel [1, 2, 3] (by decide) rfl (by simp only [go_sem]) (by simp only [go_sem]))) ?_
      rintro ⟨i_1803, f_1804, f_1805, f_1806, f_1807, f_1808, f_1809, f_1810, l_1811⟩ o_1836 h hxx_1837
      replace h : law12_WindowReorders_b2 order_1643 n_1646 l_1681 i_1803 f_1804 f_1805 f_1806 f_1807 f_1808 f_1809 f_1810 l_1811 = some o_1836 := h
      unfold law12_WindowReorders_b2 at h
      refine run_seq ?_
      replace h := bind_some1 h; obtain ⟨t_1838, hv_1839, h⟩ := h
      refine run_textW hE [0, 1, 6, 7, 9, 10, 11, 58] (fr' := [(0, .sl false (L (cSl cU8) messages_1642)), (1, .sl false (L cI64 order_1643)), (6, i64 n_1646), (7, .bs false 0 (l_1681.length) 0 (l_1681.length)), (9, .ref 1 0), (10, .bs false 2 (l_1811.length) 0 (l_1811.length)), (11, i64 i_1803), (58, .bool t_1838)]) (σ' := [.buf 5 (L cApi_Packet l_1681) false, .box [i64 f_1804, i64 f_1805, i64 f_1806, .sl false (L (cSl cU8) f_1807), i64 f_1808, .sl false (L cApi_Packet f_1809), i64 f_1810] false, .buf 1 (L (cSl cU8) l_1811) false]) ?_ ?_
      · rcases Bool.eq_false_or_eq_true ((decide (i_1803 < (order_1643.length : Int)))) with hb_1840 | hb_1840
        · replace hv_1839 := ite_t hv_1839 hb_1840
          rcases Bool.eq_false_or_eq_true ((decide (i_1803 < 200))) with hb_1841 | hb_1841
          · replace hv_1839 := ite_t hv_1839 hb_1841
            have e_hv_1839 := Option.some.inj hv_1839; subst e_hv_1839
            exact ⟨_, [(0, .sl false (L (cSl cU8) messages_1642)), (1, .sl false (L cI64 order_1643)), (6, i64 n_1646), (7, .bs false 0 (l_1681.length) 0 (l_1681.length)), (9, .ref 1 0), (10, .bs false 2 (l_1811.length) 0 (l_1811.length)), (11, i64 i_1803), (58, .bool ((decide (n_1646 > 0))))], [.buf 5 (L cApi_Packet l_1681) false, .box [i64 f_1804, i64 f_1805, i64 f_1806, .sl false (L (cSl cU8) f_1807), i64 f_1808, .sl false (L cApi_Packet f_1809), i64 f_1810] false, .buf 1 (L (cSl cU8) l_1811) false], orcs_nil, by simp only [go_sem, hb_1840, hb_1841], (weak_sel [0, 1, 2] (by decide) rfl (by simp only [go_sem]) (by simp only [go_sem]))⟩
          · replace hv_1839 := ite_f hv_1839 hb_1841
            have e_hv_1839 := Option.some.inj hv_1839; subst e_hv_1839
            exact ⟨_, [(0, .sl false (L (cSl cU8) messages_1642)), (1, .sl false (L cI64 order_1643)), (6, i64 n_1646), (7, .bs false 0 (l_1681.length) 0 (l_1681.length)), (9, .ref 1 0), (10, .bs false 2 (l_1811.length) 0 (l_1811.length)), (11, i64 i_1803), (58, .bool false)], [.buf 5 (L cApi_Packet l_1681) false, .box [i64 f_1804, i64 f_1805, i64 f_1806, .sl false (L (cSl cU8) f_1807), i64 f_1808, .sl false (L cApi_Packet f_1809), i64 f_1810] false, .buf 1 (L (cSl cU8) l_1811) false], orcs_nil, by simp only [go_sem, hb_1840, hb_1841], (weak_sel [0, 1, 2] (by decide) rfl (by simp only [go_sem]) (by simp only [go_sem]))⟩
        · replace hv_1839 := ite_f hv_1839 hb_1840
          have e_hv_1839 := Option.some.inj hv_1839; subst e_hv_1839
          exact ⟨_, [(0, .sl false (L (cSl cU8) messages_1642)), (1, .sl false (L cI64 order_1643)), (6, i64 n_1646), (7, .bs false 0 (l_1681.length) 0 (l_1681.length)), (9, .ref 1 0), (10, .bs false 2 (l_1811.length) 0 (l_1811.length)), (11, i64 i_1803), (58, .bool false)], [.buf 5 (L cApi_Packet l_1681) false, .box [i64 f_1804, i64 f_1805, i64 f_1806, .sl false (L (cSl cU8) f_1807), i64 f_1808, .sl false (L cApi_Packet f_1809), i64 f_1810] false, .buf 1 (L (cSl cU8) l_1811) false], orcs_nil, by simp only [go_sem, hb_1840], (weak_sel [0, 1, 2] (by decide) rfl (by simp only [go_sem]) (by simp only [go_sem]))⟩
      refine run_condL (b := t_1838) rfl (by decide) (fun hb => ?_) (fun hb => ?_)
      · replace h := ite_t h hb
        refine run_skip ?_
        refine thenK_n ?_
        refine run_seq ?_
        refine run_block ?_
        replace h := chk_some h; obtain ⟨hc_1844, h⟩ := h
        replace h := bind_some1 h; obtain ⟨y_1842, hy_1845, h⟩ := h
        replace h := chk_some h; obtain ⟨hc_1846, h⟩ := h
        replace h := bind_some1 h; obtain ⟨y_1843, hy_1847, h⟩ := h
        refine run_drawE hE mixed [[], [], [], [], [2, 3], [2, 3, 4], [], [2, 3, 4, 5, 6], [1, 2, 3, 4, 5, 6, 7], [1, 2, 3, 4, 5, 6, 7, 8], [0, 1, 2, 3, 4, 5, 6, 7, 8, 9], [0, 1, 2, 3, 4, 5, 6, 7, 8, 9, 10], [0, 1, 2, 3, 4, 5, 6, 7, 8, 9, 10, 11], [0, 1, 2, 3, 4, 5, 6, 7, 8, 9, 10, 11], [0, 1, 2, 3, 4, 5, 6, 7, 8, 9, 10, 11], [], [0, 1, 2, 3, 4, 5, 6, 7, 8, 9, 10, 11, 12, 15], [0, 1, 2, 3, 4, 5, 6, 7, 8, 9, 10, 11, 12, 13, 15, 16], [0, 1, 2, 3, 4, 5, 6, 7, 8, 9, 10, 11, 12, 13, 14, 15, 16, 17]] (by kernel_rfl) (by kernel_rfl) [0, 1, 6, 7, 9, 10, 11, 12, 13] (fr' := [(0, .sl false (L (cSl cU8) messages_1642)), (1, .sl false (L cI64 order_1643)), (6, i64 n_1646), (7, .bs false 0 (l_1681.length) 0 (l_1681.length)), (9, .ref 1 0), (10, .bs false 2 (l_1811.length) 0 (l_1811.length)), (11, i64 i_1803), (12, .ref 3 0), (13, .sl false (L (cSl cU8) y_1843.2.1))]) (σ' := [.buf 5 (L cApi_Packet l_1681) false, .box [i64 f_1804, i64 f_1805, i64 f_1806, .sl false (L (cSl cU8) f_1807), i64 f_1808, .sl false (L cApi_Packet f_1809), i64 f_1810] false, .buf 1 (L (cSl cU8) l_1811) false, .box [i64 y_1843.1.Epoch, i64 y_1843.1.Other, i64 y_1843.1.First, .sl false (L (cSl cU8) y_1843.1.Queue), i64 y_1843.1.Next, .sl false (L cApi_Packet y_1843.1.Early), i64 y_1843.1.SentAt] false]) ⟨_, orcs_ok (l := [(69, 27, [i64 (nth order_1643 i_1803.toNat), i64 n_1646], i64 y_1842), (72, 20, [.agg [i64 f_1804, i64 f_1805, i64 f_1806, .sl false (L (cSl cU8) f_1807), i64 f_1808, .sl false (L cApi_Packet f_1809), i64 f_1810], .agg [i64 ((nth l_1681 y_1842.toNat).Epoch), i64 ((nth l_1681 y_1842.toNat).To), i64 ((nth l_1681 y_1842.toNat).Seq), i64 ((nth l_1681 y_1842.toNat).Ack), .sl false (L cU8 ((nth l_1681 y_1842.toNat).Data))]], .tup [.agg [i64 y_1843.1.Epoch, i64 y_1843.1.Other, i64 y_1843.1.First, .sl false (L (cSl cU8) y_1843.1.Queue), i64 y_1843.1.Next, .sl false (L cApi_Packet y_1843.1.Early), i64 y_1843.1.SentAt], .sl false (L (cSl cU8) y_1843.2.1), .bool y_1843.2.2])]) ⟨law12_at_con  hy_1845, window_Accept_con  hy_1847, trivial⟩, ?_⟩ ?_
        · simp only [go_sem, Int.reduceToNat, Nat.reduceLeDiff, hc_1844, hc_1844.2, lt_le hc_1844.2, hc_1846, hc_1846.2, lt_le hc_1846.2]
        refine run_textE hE [0, 1, 6, 7, 9, 10, 11, 13] (fr' := [(0, .sl false (L (cSl cU8) messages_1642)), (1, .sl false (L cI64 order_1643)), (6, i64 n_1646), (7, .bs false 0 (l_1681.length) 0 (l_1681.length)), (9, .ref 1 0), (10, .bs false 2 (l_1811.length) 0 (l_1811.length)), (11, i64 i_1803), (13, .sl false (L (cSl cU8) y_1843.2.1))]) (σ' := [.buf 5 (L cApi_Packet l_1681) false, .box [i64 y_1843.1.Epoch, i64 y_1843.1.Other, i64 y_1843.1.First, .sl false (L (cSl cU8) y_1843.1.Queue), i64 y_1843.1.Next, .sl false (L cApi_Packet y_1843.1.Early), i64 y_1843.1.SentAt] false, .buf 1 (L (cSl cU8) l_1811) false, .box [i64 y_1843.1.Epoch, i64 y_1843.1.Other, i64 y_1843.1.First, .sl false (L (cSl cU8) y_1843.1.Queue), i64 y_1843.1.Next, .sl false (L cApi_Packet y_1843.1.Early), i64 y_1843.1.SentAt] false]) ⟨_, orcs_nil, ?_⟩ ?_
        · simp only [go_sem, Nat.reduceLeDiff]
        replace h := chk_some h; obtain ⟨hc_1848, h⟩ := h
        replace h := lt1_some h; obtain ⟨l_1849, hz_1850, h⟩ := h
        refine run_textE0 hE (wk_block wk_then) [0, 1, 6, 7, 9, 10, 11] (fr' := [(0, .sl false (L (cSl cU8) messages_1642)), (1, .sl false (L cI64 order_1643)), (6, i64 n_1646), (7, .bs false 0 (l_1681.length) 0 (l_1681.length)), (9, .ref 1 0), (10, .bs false 2 (l_1849.length) 0 (l_1849.length)), (11, i64 i_1803)]) (σ' := [.buf 5 (L cApi_Packet l_1681) false, .box [i64 y_1843.1.Epoch, i64 y_1843.1.Other, i64 y_1843.1.First, .sl false (L (cSl cU8) y_1843.1.Queue), i64 y_1843.1.Next, .sl false (L cApi_Packet y_1843.1.Early), i64 y_1843.1.SentAt] false, .buf 1 (L (cSl cU8) l_1849) false, .box [i64 y_1843.1.Epoch, i64 y_1843.1.Other, i64 y_1843.1.First, .sl false (L (cSl cU8) y_1843.1.Queue), i64 y_1843.1.Next, .sl false (L cApi_Packet y_1843.1.Early), i64 y_1843.1.SentAt] false]) ⟨_, orcs_nil, ?_⟩ ?_
        · subst hz_1850; simp only [go_sem, hc_1848]
        refine blockK_n ?_
        refine thenK_n ?_
        refine run_textE0 hE wk_lp [0, 1, 6, 7, 9, 10, 11] (fr' := [(0, .sl false (L (cSl cU8) messages_1642)), (1, .sl false (L cI64 order_1643)), (6, i64 n_1646), (7, .bs false 0 (l_1681.length) 0 (l_1681.length)), (9, .ref 1 0), (10, .bs false 2 (l_1849.length) 0 (l_1849.length)), (11, i64 ((w64 (i_1803 + 1))))]) (σ' := [.buf 5 (L cApi_Packet l_1681) false, .box [i64 y_1843.1.Epoch, i64 y_1843.1.Other, i64 y_1843.1.First, .sl false (L (cSl cU8) y_1843.1.Queue), i64 y_1843.1.Next, .sl false (L cApi_Packet y_1843.1.Early), i64 y_1843.1.SentAt] false, .buf 1 (L (cSl cU8) l_1849) false, .box [i64 y_1843.1.Epoch, i64 y_1843.1.Other, i64 y_1843.1.First, .sl false (L (cSl cU8) y_1843.1.Queue), i64 y_1843.1.Next, .sl false (L cApi_Packet y_1843.1.Early), i64 y_1843.1.SentAt] false]) ⟨_, orcs_nil, ?_⟩ ?_
        · simp only [go_sem]
        obtain rfl := Option.some.inj h
        exact lpK_n (((w64 (i_1803 + 1)), y_1843.1.Epoch, y_1843.1.Other, y_1843.1.First, y_1843.1.Queue, y_1843.1.Next, y_1843.1.Early, y_1843.1.SentAt, l_1849)) rfl (weak_sel [0, 1, 2] (by decide) rfl (by simp only [go_sem]) (by simp only [go_sem]))
      · replace h := ite_f h hb
        refine run_exit ?_
        refine thenK_x ?_
        obtain rfl := Option.some.inj h
        have ex_x_1833 := hxx_1837 _ rfl
        subst ex_x_1833
        have h := hj_1835; clear hj_1835
        refine lpK_x ?_
        refine blockK_x ?_
        obtain rfl := Option.some.inj h
        exact joinK_n ((f_1804, f_1805, f_1806, f_1807, f_1808, f_1809, f_1810, l_1811)) rfl ((weak_sel (l' := [(0, .sl false (L (cSl cU8) messages_1642)), (6, i64 n_1646), (7, .bs false 0 (l_1681.length) 0 (l_1681.length)), (9, .ref 1 0), (10, .bs false 2 (l_1811.length) 0 (l_1811.length))]) (σ' := [.buf 5 (L cApi_Packet l_1681) false, .box [i64 f_1804, i64 f_1805, i64 f_1806, .sl false (L (cSl cU8) f_1807), i64 f_1808, .sl false (L cApi_Packet f_1809), i64 f_1810] false, .buf 1 (L (cSl cU8) l_1811) false]) [0, 1, 2] (by decide) rfl (by simp only [go_sem]) (by simp only [go_sem])).trans (weak_sel [0, 1, 2] (by decide) rfl (by simp only [go_sem]) (by simp only [go_sem])))
    rintro ⟨f_1779, f_1780, f_1781, f_1782, f_1783, f_1784, f_1785, l_1786⟩ rfl
    have h := hj_1789; clear hj_1789
    replace h := bind_some1 h; obtain ⟨j_1901, hA_1902, hj_1903⟩ := h
    refine run_join (fun (v : Int × Int × Int × List (List UInt8) × Int × List Api_Packet × Int × List (List UInt8)) => (⟨asFr 128 [(0, .sl false (L (cSl cU8) messages_1642)), (6, i64 n_1646), (9, .ref 0 0), (10, .bs false 1 (v.2.2.2.2.2.2.2.length) 0 (v.2.2.2.2.2.2.2.length))], [.box [i64 v.1, i64 v.2.1, i64 v.2.2.1, .sl false (L (cSl cU8) v.2.2.2.1), i64 v.2.2.2.2.1, .sl false (L cApi_Packet v.2.2.2.2.2.1), i64 v.2.2.2.2.2.2.1] false, .buf 1 (L (cSl cU8) v.2.2.2.2.2.2.2) false]⟩ : St)) (fun v => v = j_1901) ?_ ?_
    · have h := hA_1902; clear hA_1902
      refine run_textE hE [0, 6, 7, 9, 10, 15] (fr' := [(0, .sl false (L (cSl cU8) messages_1642)), (6, i64 n_1646), (7, .bs false 0 (l_1681.length) 0 (l_1681.length)), (9, .ref 1 0), (10, .bs false 2 (l_1786.length) 0 (l_1786.length)), (15, i64 ((w64 (n_1646 - 1))))]) (σ' := [.buf 5 (L cApi_Packet l_1681) false, .box [i64 f_1779, i64 f_1780, i64 f_1781, .sl false (L (cSl cU8) f_1782), i64 f_1783, .sl false (L cApi_Packet f_1784), i64 f_1785] false, .buf 1 (L (cSl cU8) l_1786) false]) ⟨_, orcs_nil, ?_⟩ ?_
      · simp only [go_sem]
      refine run_block ?_
      replace h := bind_some1 h; obtain ⟨x_1935, hx_1936, hj_1937⟩ := h
      refine run_loopO hx_1936 (fun (v : Int × Int × Int × Int × List (List UInt8) × Int × List Api_Packet × Int × List (List UInt8)) => (⟨asFr 128 [(0, .sl false (L (cSl cU8) messages_1642)), (6, i64 n_1646), (7, .bs false 0 (l_1681.length) 0 (l_1681.length)), (9, .ref 1 0), (10, .bs false 2 (v.2.2.2.2.2.2.2.2.length) 0 (v.2.2.2.2.2.2.2.2.length)), (15, i64 v.1)], [.buf 5 (L cApi_Packet l_1681) false, .box [i64 v.2.1, i64 v.2.2.1, i64 v.2.2.2.1, .sl false (L (cSl cU8) v.2.2.2.2.1), i64 v.2.2.2.2.2.1, .sl false (L cApi_Packet v.2.2.2.2.2.2.1), i64 v.2.2.2.2.2.2.2.1] false, .buf 1 (L (cSl cU8) v.2.2.2.2.2.2.2.2) false]⟩ : St)) (weak_sel [0, 1, 2] (by decide) rfl (by simp only [go_sem]) (by simp only [go_sem])) ?_
      rintro ⟨i_1912, f_1913, f_1914, f_1915, f_1916, f_1917, f_1918, f_1919, l_1920⟩ o_1938 h hxx_1939
      replace h : law12_WindowReorders_b3 l_1681 i_1912 f_1913 f_1914 f_1915 f_1916 f_1917 f_1918 f_1919 l_1920 = some o_1938 := h
      unfold law12_WindowReorders_b3 at h
      refine run_seq ?_
      refine run_textE hE [0, 6, 7, 9, 10, 15, 83] (fr' := [(0, .sl false (L (cSl cU8) messages_1642)), (6, i64 n_1646), (7, .bs false 0 (l_1681.length) 0 (l_1681.length)), (9, .ref 1 0), (10, .bs false 2 (l_1920.length) 0 (l_1920.length)), (15, i64 i_1912), (83, .bool ((decide (i_1912 ≥ 0))))]) (σ' := [.buf 5 (L cApi_Packet l_1681) false, .box [i64 f_1913, i64 f_1914, i64 f_1915, .sl false (L (cSl cU8) f_1916), i64 f_1917, .sl false (L cApi_Packet f_1918), i64 f_1919] false, .buf 1 (L (cSl cU8) l_1920) false]) ⟨_, orcs_nil, ?_⟩ ?_
      · simp only [go_sem]
      refine run_condL (b := (decide (i_1912 ≥ 0))) rfl (by decide) (fun hb => ?_) (fun hb => ?_)
      · replace h := ite_t h hb
        refine run_skip ?_
        refine thenK_n ?_
        refine run_seq ?_
        refine run_block ?_
        replace h := chk_some h; obtain ⟨hc_1941, h⟩ := h
        replace h := bind_some1 h; obtain ⟨y_1940, hy_1942, h⟩ := h
        refine run_drawE hE mixed [[], [], [], [1, 2], [1, 2, 3], [0, 1, 2, 3, 4], [0, 1, 2, 3, 4, 5], [0, 1, 2, 3, 4, 5, 6], [0, 1, 2, 3, 4, 5, 6], [0, 1, 2, 3, 4, 5, 6], [], [0, 1, 2, 3, 4, 5, 6, 7, 10], [0, 1, 2, 3, 4, 5, 6, 7, 8, 10, 11], [0, 1, 2, 3, 4, 5, 6, 7, 8, 9, 10, 11, 12]] (by kernel_rfl) (by kernel_rfl) [0, 6, 7, 9, 10, 15, 16, 17] (fr' := [(0, .sl false (L (cSl cU8) messages_1642)), (6, i64 n_1646), (7, .bs false 0 (l_1681.length) 0 (l_1681.length)), (9, .ref 1 0), (10, .bs false 2 (l_1920.length) 0 (l_1920.length)), (15, i64 i_1912), (16, .ref 3 0), (17, .sl false (L (cSl cU8) y_1940.2.1))]) (σ' := [.buf 5 (L cApi_Packet l_1681) false, .box [i64 f_1913, i64 f_1914, i64 f_1915, .sl false (L (cSl cU8) f_1916), i64 f_1917, .sl false (L cApi_Packet f_1918), i64 f_1919] false, .buf 1 (L (cSl cU8) l_1920) false, .box [i64 y_1940.1.Epoch, i64 y_1940.1.Other, i64 y_1940.1.First, .sl false (L (cSl cU8) y_1940.1.Queue), i64 y_1940.1.Next, .sl false (L cApi_Packet y_1940.1.Early), i64 y_1940.1.SentAt] false]) ⟨_, orcs_ok (l := [(92, 20, [.agg [i64 f_1913, i64 f_1914, i64 f_1915, .sl false (L (cSl cU8) f_1916), i64 f_1917, .sl false (L cApi_Packet f_1918), i64 f_1919], .agg [i64 ((nth l_1681 i_1912.toNat).Epoch), i64 ((nth l_1681 i_1912.toNat).To), i64 ((nth l_1681 i_1912.toNat).Seq), i64 ((nth l_1681 i_1912.toNat).Ack), .sl false (L cU8 ((nth l_1681 i_1912.toNat).Data))]], .tup [.agg [i64 y_1940.1.Epoch, i64 y_1940.1.Other, i64 y_1940.1.First, .sl false (L (cSl cU8) y_1940.1.Queue), i64 y_1940.1.Next, .sl false (L cApi_Packet y_1940.1.Early), i64 y_1940.1.SentAt], .sl false (L (cSl cU8) y_1940.2.1), .bool y_1940.2.2])]) ⟨window_Accept_con  hy_1942, trivial⟩, ?_⟩ ?_
        · simp only [go_sem, Int.reduceToNat, Nat.reduceLeDiff, hc_1941, hc_1941.2, lt_le hc_1941.2]
        refine run_textE hE [0, 6, 7, 9, 10, 15, 17] (fr' := [(0, .sl false (L (cSl cU8) messages_1642)), (6, i64 n_1646), (7, .bs false 0 (l_1681.length) 0 (l_1681.length)), (9, .ref 1 0), (10, .bs false 2 (l_1920.length) 0 (l_1920.length)), (15, i64 i_1912), (17, .sl false (L (cSl cU8) y_1940.2.1))]) (σ' := [.buf 5 (L cApi_Packet l_1681) false, .box [i64 y_1940.1.Epoch, i64 y_1940.1.Other, i64 y_1940.1.First, .sl false (L (cSl cU8) y_1940.1.Queue), i64 y_1940.1.Next, .sl false (L cApi_Packet y_1940.1.Early), i64 y_1940.1.SentAt] false, .buf 1 (L (cSl cU8) l_1920) false, .box [i64 y_1940.1.Epoch, i64 y_1940.1.Other, i64 y_1940.1.First, .sl false (L (cSl cU8) y_1940.1.Queue), i64 y_1940.1.Next, .sl false (L cApi_Packet y_1940.1.Early), i64 y_1940.1.SentAt] false]) ⟨_, orcs_nil, ?_⟩ ?_
        · simp only [go_sem, Nat.reduceLeDiff]
        replace h := chk_some h; obtain ⟨hc_1943, h⟩ := h
        replace h := lt1_some h; obtain ⟨l_1944, hz_1945, h⟩ := h
        refine run_textE0 hE (wk_block wk_then) [0, 6, 7, 9, 10, 15] (fr' := [(0, .sl false (L (cSl cU8) messages_1642)), (6, i64 n_1646), (7, .bs false 0 (l_1681.length) 0 (l_1681.length)), (9, .ref 1 0), (10, .bs false 2 (l_1944.length) 0 (l_1944.length)), (15, i64 i_1912)]) (σ' := [.buf 5 (L cApi_Packet l_1681) false, .box [i64 y_1940.1.Epoch, i64 y_1940.1.Other, i64 y_1940.1.First, .sl false (L (cSl cU8) y_1940.1.Queue), i64 y_1940.1.Next, .sl false (L cApi_Packet y_1940.1.Early), i64 y_1940.1.SentAt] false, .buf 1 (L (cSl cU8) l_1944) false, .box [i64 y_1940.1.Epoch, i64 y_1940.1.Other, i64 y_1940.1.First, .sl false (L (cSl cU8) y_1940.1.Queue), i64 y_1940.1.Next, .sl false (L cApi_Packet y_1940.1.Early), i64 y_1940.1.SentAt] false]) ⟨_, orcs_nil, ?_⟩ ?_
        · subst hz_1945; simp only [go_sem, hc_1943]
        refine blockK_n ?_
        refine thenK_n ?_
        refine run_textE0 hE wk_lp [0, 6, 7, 9, 10, 15] (fr' := [(0, .sl false (L (cSl cU8) messages_1642)), (6, i64 n_1646), (7, .bs false 0 (l_1681.length) 0 (l_1681.length)), (9, .ref 1 0), (10, .bs false 2 (l_1944.length) 0 (l_1944.length)), (15, i64 ((w64 (i_1912 - 1))))]) (σ' := [.buf 5 (L cApi_Packet l_1681) false, .box [i64 y_1940.1.Epoch, i64 y_1940.1.Other, i64 y_1940.1.First, .sl false (L (cSl cU8) y_1940.1.Queue), i64 y_1940.1.Next, .sl false (L cApi_Packet y_1940.1.Early), i64 y_1940.1.SentAt] false, .buf 1 (L (cSl cU8) l_1944) false, .box [i64 y_1940.1.Epoch, i64 y_1940.1.Other, i64 y_1940.1.First, .sl false (L (cSl cU8) y_1940.1.Queue), i64 y_1940.1.Next, .sl false (L cApi_Packet y_1940.1.Early), i64 y_1940.1.SentAt] false]) ⟨_, orcs_nil, ?_⟩ ?_
        · simp only [go_sem]
        obtain rfl := Option.some.inj h
        exact lpK_n (((w64 (i_1912 - 1)), y_1940.1.Epoch, y_1940.1.Other, y_1940.1.First, y_1940.1.Queue, y_1940.1.Next, y_1940.1.Early, y_1940.1.SentAt, l_1944)) rfl (weak_sel [0, 1, 2] (by decide) rfl (by simp only [go_sem]) (by simp only [go_sem]))
      · replace h := ite_f h hb
        refine run_exit ?_
        refine thenK_x ?_
        obtain rfl := Option.some.inj h
        have ex_x_1935 := hxx_1939 _ rfl
        subst ex_x_1935
        have h := hj_1937; clear hj_1937
        refine lpK_x ?_
        refine blockK_x ?_
        obtain rfl := Option.some.inj h
        exact joinK_n ((f_1913, f_1914, f_1915, f_1916, f_1917, f_1918, f_1919, l_1920)) rfl ((weak_sel (l' := [(0, .sl false (L (cSl cU8) messages_1642)), (6, i64 n_1646), (9, .ref 0 0), (10, .bs false 1 (l_1920.length) 0 (l_1920.length))]) (σ' := [.box [i64 f_1913, i64 f_1914, i64 f_1915, .sl false (L (cSl cU8) f_1916), i64 f_1917, .sl false (L cApi_Packet f_1918), i64 f_1919] false, .buf 1 (L (cSl cU8) l_1920) false]) [1, 2] (by decide) rfl (by simp only [go_sem]) (by simp only [go_sem])).trans (weak_sel [0, 1] (by decide) rfl (by simp only [go_sem]) (by simp only [go_sem])))
    rintro ⟨f_1893, f_1894, f_1895, f_1896, f_1897, f_1898, f_1899, l_1900⟩ rfl
    have h := hj_1903; clear hj_1903
    replace h := bind_some1 h; obtain ⟨t_1947, hv_1948, h⟩ := h
    refine run_textW hE [4] (fr' := [(4, .bool t_1947)]) (σ' := []) ?_ ?_
    · replace hv_1948 := chk_some hv_1948; obtain ⟨hc_1949, hv_1948⟩ := hv_1948
      replace hv_1948 := bind_some1 hv_1948; obtain ⟨y_1946, hy_1950, hv_1948⟩ := hv_1948
      rcases Bool.eq_false_or_eq_true y_1946 with hb_1951 | hb_1951
      · replace hv_1948 := ite_t hv_1948 hb_1951
        rcases Bool.eq_false_or_eq_true ((f_1897 == (w64 (7 + n_1646)))) with hb_1952 | hb_1952
        · replace hv_1948 := ite_t hv_1948 hb_1952
          rcases Bool.eq_false_or_eq_true (((f_1898.length : Int) == 0)) with hb_1953 | hb_1953
          · replace hv_1948 := ite_t hv_1948 hb_1953
            rcases Bool.eq_false_or_eq_true ((f_1894 == 2)) with hb_1954 | hb_1954
            · replace hv_1948 := ite_t hv_1948 hb_1954
              have e_hv_1948 := Option.some.inj hv_1948; subst e_hv_1948
              exact ⟨_, [(4, .bool ((f_1893 == 1)))], [.box [i64 f_1893, i64 f_1894, i64 f_1895, .sl false (L (cSl cU8) f_1896), i64 f_1897, .sl false (L cApi_Packet f_1898), i64 f_1899] false, .buf 1 (L (cSl cU8) l_1900) false], orcs_ok (l := [(104, 22, [.sl false (L (cSl cU8) l_1900), .sl false (L (cSl cU8) ((messages_1642.take n_1646.toNat)))], .bool y_1946)]) ⟨r12_SameMessages_con  hy_1950, trivial⟩, by simp only [go_sem, Int.reduceToNat, hc_1949, hb_1951, hb_1952, hb_1953, hb_1954], (weak_sel [] (by decide) rfl (by simp only [go_sem]) (by simp only [go_sem]))⟩
            · replace hv_1948 := ite_f hv_1948 hb_1954
              have e_hv_1948 := Option.some.inj hv_1948; subst e_hv_1948
              exact ⟨_, [(4, .bool false)], [.box [i64 f_1893, i64 f_1894, i64 f_1895, .sl false (L (cSl cU8) f_1896), i64 f_1897, .sl false (L cApi_Packet f_1898), i64 f_1899] false, .buf 1 (L (cSl cU8) l_1900) false], orcs_ok (l := [(104, 22, [.sl false (L (cSl cU8) l_1900), .sl false (L (cSl cU8) ((messages_1642.take n_1646.toNat)))], .bool y_1946)]) ⟨r12_SameMessages_con  hy_1950, trivial⟩, by simp only [go_sem, Int.reduceToNat, hc_1949, hb_1951, hb_1952, hb_1953, hb_1954], (weak_sel [] (by decide) rfl (by simp only [go_sem]) (by simp only [go_sem]))⟩
          · replace hv_1948 := ite_f hv_1948 hb_1953
            have e_hv_1948 := Option.some.inj hv_1948; subst e_hv_1948
            exact ⟨_, [(4, .bool false)], [.box [i64 f_1893, i64 f_1894, i64 f_1895, .sl false (L (cSl cU8) f_1896), i64 f_1897, .sl false (L cApi_Packet f_1898), i64 f_1899] false, .buf 1 (L (cSl cU8) l_1900) false], orcs_ok (l := [(104, 22, [.sl false (L (cSl cU8) l_1900), .sl false (L (cSl cU8) ((messages_1642.take n_1646.toNat)))], .bool y_1946)]) ⟨r12_SameMessages_con  hy_1950, trivial⟩, by simp only [go_sem, Int.reduceToNat, hc_1949, hb_1951, hb_1952, hb_1953], (weak_sel [] (by decide) rfl (by simp only [go_sem]) (by simp only [go_sem]))⟩
        · replace hv_1948 := ite_f hv_1948 hb_1952
          have e_hv_1948 := Option.some.inj hv_1948; subst e_hv_1948
          exact ⟨_, [(4, .bool false)], [.box [i64 f_1893, i64 f_1894, i64 f_1895, .sl false (L (cSl cU8) f_1896), i64 f_1897, .sl false (L cApi_Packet f_1898), i64 f_1899] false, .buf 1 (L (cSl cU8) l_1900) false], orcs_ok (l := [(104, 22, [.sl false (L (cSl cU8) l_1900), .sl false (L (cSl cU8) ((messages_1642.take n_1646.toNat)))], .bool y_1946)]) ⟨r12_SameMessages_con  hy_1950, trivial⟩, by simp only [go_sem, Int.reduceToNat, hc_1949, hb_1951, hb_1952], (weak_sel [] (by decide) rfl (by simp only [go_sem]) (by simp only [go_sem]))⟩
      · replace hv_1948 := ite_f hv_1948 hb_1951
        have e_hv_1948 := Option.some.inj hv_1948; subst e_hv_1948
        exact ⟨_, [(4, .bool false)], [.box [i64 f_1893, i64 f_1894, i64 f_1895, .sl false (L (cSl cU8) f_1896), i64 f_1897, .sl false (L cApi_Packet f_1898), i64 f_1899] false, .buf 1 (L (cSl cU8) l_1900) false], orcs_ok (l := [(104, 22, [.sl false (L (cSl cU8) l_1900), .sl false (L (cSl cU8) ((messages_1642.take n_1646.toNat)))], .bool y_1946)]) ⟨r12_SameMessages_con  hy_1950, trivial⟩, by simp only [go_sem, Int.reduceToNat, hc_1949, hb_1951], (weak_sel [] (by decide) rfl (by simp only [go_sem]) (by simp only [go_sem]))⟩
    refine run_ret ?_
    obtain rfl := Option.some.inj h
    refine wkP_of (Weak.refl _ _) ?_
    refine ret_ok (.inr rfl) ?_
    simp only [go_sem]

end Go.Proofs.Ytomjphpnpcgacaa
/-
  All walks.
-/

/-
  The examples of the documentation: computed.
-/
namespace Go.Proofs.Ytomjphpnpcgacaa
open Go.Rv
theorem sane_ok : law12_sane = some true := by decide +kernel
end Go.Proofs.Ytomjphpnpcgacaa
/-
  Both sides' checks, New, Offer and Emit.
-/
namespace Go.Proofs.Ytomjphpnpcgacaa
open Go.Rv
set_option linter.unusedVariables false
set_option linter.unusedSimpArgs false

theorem w64_one {k : Nat} (h : k + 1 < 9223372036854775807) : w64 ((k : Int) + 1) = ((k + 1 : Nat) : Int) := by rw [w64_id (by omega)]; omega
theorem bindT {α β : Type} {o : Option α} {a : α} {f : α → Option β} (h : o = some a) : o.bind f = f a := by rw [h]; rfl
theorem fits24 {n : Nat} (h : n ≤ 100000) : Fits n 24 := by unfold Fits maxLen roomB; omega
theorem fits56 {n : Nat} (h : n ≤ 100000) : Fits n 56 := by unfold Fits maxLen roomB; omega

theorem all_loop {β : Type} {v : β} {f : Int → Option (Int ⊕ (Unit ⊕ (Unit ⊕ β)))} (n : Nat) (p : Nat → Bool) (hn : n < 1000000000000000000) (hf : ∀ k, k < n → f (k : Int) = some (if p k = true then .inl ((k + 1 : Nat) : Int) else .inr (.inr (.inr v))))
    (he : f (n : Int) = some (.inr (.inl ()))) : loopO (fun i : Int => f i) 0 = some (if (List.range n).all p = true then .inl () else .inr (.inr v)) := by
  obtain ⟨x, hx, rfl⟩ := loopO_rule (f := fun i : Int => f i) (fun v => ∃ k : Nat, v = (k : Int) ∧ k ≤ n ∧ ∀ j, j < k → p j = true) (fun v => n - v.toNat)
    (fun x => x = if (List.range n).all p = true then .inl () else .inr (.inr v)) (by
      rintro w ⟨k, rfl, hk, hp⟩
      by_cases h : k < n
      · cases hpk : p k with
        | true =>
          left
          refine ⟨((k + 1 : Nat) : Int), by show f (k : Int) = _; rw [hf k h, hpk]; rfl, ⟨k + 1, rfl, by omega, fun j hj => ?_⟩, by simp; omega⟩
          by_cases e : j = k
          · rw [e]; exact hpk
          · exact hp j (by omega)
        | false =>
          right
          refine ⟨.inr (.inr v), by show f (k : Int) = _; rw [hf k h, hpk]; rfl, ?_⟩
          rw [if_neg]
          intro h2
          rw [List.all_eq_true] at h2
          rw [h2 k (List.mem_range.2 h)] at hpk
          cases hpk
      · right
        have : k = n := by omega
        subst this
        refine ⟨.inl (), he, ?_⟩
        rw [if_pos]
        rw [List.all_eq_true]
        intro j hj
        exact hp j (List.mem_range.1 hj)) (v0 := 0) ⟨0, rfl, Nat.zero_le _, fun j hj => absurd hj (Nat.not_lt_zero _)⟩ (by simp; omega)
  exact hx

/-! ### Is it a side? -/
def bt (n lo hi : Int) : Bool := decide (lo ≤ n ∧ n ≤ hi)

theorem between_eq (n lo hi : Int) : window_between n lo hi = some (bt n lo hi) := by
  unfold window_between bt
  by_cases h : lo ≤ n <;> by_cases h2 : n ≤ hi <;> simp [h, h2]
theorem within_eq (n lo hi : Int) : r12_within n lo hi = some (bt n lo hi) := by
  unfold r12_within bt
  by_cases h : lo ≤ n <;> by_cases h2 : n ≤ hi <;> simp [h, h2]

def okQ (p : Api_Peer) (k : Nat) : Bool := decide ((nth p.Queue k).length ≤ 8000)

theorem queue_eq (p : Api_Peer) (h : p.Queue.length ≤ 256) : loopO (fun v : Int => window_valid_b1 p v) 0 = some (if (List.range p.Queue.length).all (okQ p) = true then .inl () else .inr (.inr false)) :=
  all_loop (v := false) (f := fun i => window_valid_b1 p i) p.Queue.length (okQ p) (by omega) (fun k hk => by
    show window_valid_b1 p (k : Int) = _
    unfold window_valid_b1 okQ
    rw [if_pos (by simp; omega), if_pos (inR_of hk), w64_one (by omega), Int.toNat_natCast]
    by_cases h : (nth p.Queue k).length ≤ 8000
    · rw [if_neg (by simp; omega)]; simp [h]
    · rw [if_pos (by simp; omega)]; simp [h]) (by
    show window_valid_b1 p (p.Queue.length : Int) = _
    unfold window_valid_b1
    rw [if_neg (by simp)])

theorem queue_same (p : Api_Peer) : (fun v : Int => r12_Valid_b1 p v) = fun v : Int => window_valid_b1 p v := rfl

/-- The packet k is not right, if the one before it has the number last. -/
def badE (p : Api_Peer) (last : Int) (k : Nat) : Bool :=
  decide ((nth p.Early k).Seq ≤ last) || decide ((nth p.Early k).Seq ≥ w64 (p.Next + 64)) || decide ((nth p.Early k).Seq ≥ 1099511627776) || decide (((nth p.Early k).Data.length : Int) > 8000) || (nth p.Early k).Epoch != 0 || (nth p.Early k).To != 0 || (nth p.Early k).Ack != 0

theorem early_step (p : Api_Peer) (last : Int) (k : Nat) (h : k < p.Early.length) (hs : p.Early.length ≤ 100000) : window_valid_b2 p last (k : Int) = some (if badE p last k = true then .inr (.inr (.inr false)) else .inl ((nth p.Early k).Seq, ((k + 1 : Nat) : Int))) := by
  unfold window_valid_b2 badE
  rw [if_pos (by simp; omega), if_pos (inR_of h), w64_one (by omega), Int.toNat_natCast]
  simp only [lt1]
  generalize nth p.Early k = e
  have hm : (decide (e.Seq ≥ mn64 (w64 (p.Next + 64)) 1099511627776)) = (decide (e.Seq ≥ w64 (p.Next + 64)) || decide (e.Seq ≥ 1099511627776)) := by
    unfold mn64
    by_cases h1 : (1099511627776 : Int) < w64 (p.Next + 64) <;> by_cases h2 : e.Seq ≥ w64 (p.Next + 64) <;> by_cases h3 : e.Seq ≥ 1099511627776 <;> simp [h1, h2, h3] <;> omega
  rw [hm]
  cases h1 : decide (e.Seq ≤ last) <;> cases h2 : decide (e.Seq ≥ w64 (p.Next + 64)) <;> cases h3 : decide (e.Seq ≥ 1099511627776) <;> cases h4 : decide ((e.Data.length : Int) > 8000) <;> cases h5 : (e.Epoch != 0) <;> cases h6 : (e.To != 0) <;> cases h7 : (e.Ack != 0) <;> rfl

theorem early_step_r (p : Api_Peer) (last : Int) (k : Nat) (h : k < p.Early.length) (hs : p.Early.length ≤ 100000) : r12_early_b1 p last (k : Int) = some (if badE p last k = true then .inr (.inr (.inr false)) else .inl ((nth p.Early k).Seq, ((k + 1 : Nat) : Int))) := by
  unfold r12_early_b1 badE
  rw [if_pos (by simp; omega), if_pos (inR_of h), w64_one (by omega), Int.toNat_natCast]
  simp only [lt1]
  generalize nth p.Early k = e
  cases h1 : decide (e.Seq ≤ last) <;> cases h2 : decide (e.Seq ≥ w64 (p.Next + 64)) <;> cases h3 : decide (e.Seq ≥ 1099511627776) <;> cases h4 : decide ((e.Data.length : Int) > 8000) <;> cases h5 : (e.Epoch != 0) <;> cases h6 : (e.To != 0) <;> cases h7 : (e.Ack != 0) <;> rfl

/-- The number before packet k. -/
def lastE (p : Api_Peer) : Nat → Int
  | 0 => p.Next
  | k + 1 => (nth p.Early k).Seq

theorem pair_loop {f : Int × Int → Option ((Int × Int) ⊕ (Unit ⊕ (Unit ⊕ Bool)))} (p : Api_Peer) (hs : p.Early.length ≤ 100000)
    (hf : ∀ k, k < p.Early.length → f (lastE p k, (k : Int)) = some (if badE p (lastE p k) k = true then .inr (.inr (.inr false)) else .inl ((nth p.Early k).Seq, ((k + 1 : Nat) : Int))))
    (he : ∀ last, f (last, (p.Early.length : Int)) = some (.inr (.inl ()))) : loopO f (p.Next, 0) = some (if (List.range p.Early.length).all (fun k => !badE p (lastE p k) k) = true then .inl () else .inr (.inr false)) := by
  obtain ⟨x, hx, rfl⟩ := loopO_rule (f := f) (fun v => ∃ k : Nat, v = (lastE p k, (k : Int)) ∧ k ≤ p.Early.length ∧ ∀ j, j < k → badE p (lastE p j) j = false) (fun v => p.Early.length - v.2.toNat)
    (fun x => x = if (List.range p.Early.length).all (fun k => !badE p (lastE p k) k) = true then .inl () else .inr (.inr false)) (by
      rintro w ⟨k, rfl, hk, hp⟩
      by_cases h : k < p.Early.length
      · cases hpk : badE p (lastE p k) k with
        | false =>
          left
          refine ⟨((nth p.Early k).Seq, ((k + 1 : Nat) : Int)), by rw [hf k h, hpk]; rfl, ⟨k + 1, rfl, by omega, fun j hj => ?_⟩, by simp; omega⟩
          by_cases e : j = k
          · rw [e]; exact hpk
          · exact hp j (by omega)
        | true =>
          right
          refine ⟨.inr (.inr false), by rw [hf k h, hpk]; rfl, ?_⟩
          rw [if_neg]
          intro h2
          rw [List.all_eq_true] at h2
          have := h2 k (List.mem_range.2 h)
          rw [hpk] at this
          cases this
      · right
        have : k = p.Early.length := by omega
        subst this
        refine ⟨.inl (), he _, ?_⟩
        rw [if_pos]
        rw [List.all_eq_true]
        intro j hj
        rw [hp j (List.mem_range.1 hj)]; rfl) (v0 := (p.Next, 0)) ⟨0, rfl, Nat.zero_le _, fun j hj => absurd hj (Nat.not_lt_zero _)⟩ (by simp; omega)
  exact hx

def okEs (p : Api_Peer) : Bool := (List.range p.Early.length).all fun k => !badE p (lastE p k) k

theorem early_eq (p : Api_Peer) (hs : p.Early.length ≤ 100000) : loopO (fun v : Int × Int => window_valid_b2 p v.1 v.2) (p.Next, 0) = some (if okEs p = true then .inl () else .inr (.inr false)) :=
  pair_loop (f := fun v => window_valid_b2 p v.1 v.2) p hs (fun k hk => early_step p _ k hk hs) (fun last => by
    show window_valid_b2 p last (p.Early.length : Int) = _
    unfold window_valid_b2
    rw [if_neg (by simp)])
theorem early_eq_r (p : Api_Peer) (hs : p.Early.length ≤ 100000) : loopO (fun v : Int × Int => r12_early_b1 p v.1 v.2) (p.Next, 0) = some (if okEs p = true then .inl () else .inr (.inr false)) :=
  pair_loop (f := fun v => r12_early_b1 p v.1 v.2) p hs (fun k hk => early_step_r p _ k hk hs) (fun last => by
    show r12_early_b1 p last (p.Early.length : Int) = _
    unfold r12_early_b1
    rw [if_neg (by simp)])

def okH (p : Api_Peer) : Bool := bt p.Epoch 0 1073741824 && bt p.Other (-1) 1073741824 && bt p.SentAt (-1) 1073741824 && bt p.First 0 1099511627776 && bt p.Next 0 1099511627776 && decide (p.Queue.length ≤ 256) && !decide (w64 (p.First + (p.Queue.length : Int)) > 1099511627776)

def validS (p : Api_Peer) : Bool := okH p && (List.range p.Queue.length).all (okQ p) && okEs p

theorem valid_eq (p : Api_Peer) (hs : p.Early.length ≤ 100000) : window_valid p = some (validS p) := by
  have hq : decide ((p.Queue.length : Int) > 256) = !decide (p.Queue.length ≤ 256) := by
    by_cases h : p.Queue.length ≤ 256
    · simp [h]; omega
    · simp [h]; omega
  unfold window_valid validS okH
  simp only [between_eq, Option.bind_some]
  rw [hq]
  by_cases h6 : p.Queue.length ≤ 256
  · simp only [queue_eq p h6, early_eq p hs]
    rw [decide_eq_true h6]
    generalize bt p.Epoch 0 1073741824 = b1
    generalize bt p.Other (-1) 1073741824 = b2
    generalize bt p.SentAt (-1) 1073741824 = b3
    generalize bt p.First 0 1099511627776 = b4
    generalize bt p.Next 0 1099511627776 = b5
    generalize decide (w64 (p.First + (p.Queue.length : Int)) > 1099511627776) = b7
    generalize (List.range p.Queue.length).all (okQ p) = b8
    generalize okEs p = b9
    cases b1 <;> cases b2 <;> cases b3 <;> cases b4 <;> cases b5 <;> cases b7 <;> cases b8 <;> cases b9 <;> rfl
  · rw [decide_eq_false h6]
    generalize bt p.Epoch 0 1073741824 = b1
    generalize bt p.Other (-1) 1073741824 = b2
    generalize bt p.SentAt (-1) 1073741824 = b3
    generalize bt p.First 0 1099511627776 = b4
    generalize bt p.Next 0 1099511627776 = b5
    cases b1 <;> cases b2 <;> cases b3 <;> cases b4 <;> cases b5 <;> rfl

theorem valid_eq_r (p : Api_Peer) (hs : p.Early.length ≤ 100000) : r12_Valid p = some (validS p) := by
  have hq : decide ((p.Queue.length : Int) > 256) = !decide (p.Queue.length ≤ 256) := by
    by_cases h : p.Queue.length ≤ 256
    · simp [h]; omega
    · simp [h]; omega
  unfold r12_Valid r12_early validS okH
  simp only [within_eq, Option.bind_some, queue_same]
  rw [hq]
  by_cases h6 : p.Queue.length ≤ 256
  · simp only [queue_eq p h6, early_eq_r p hs]
    rw [decide_eq_true h6]
    generalize bt p.Epoch 0 1073741824 = b1
    generalize bt p.Other (-1) 1073741824 = b2
    generalize bt p.SentAt (-1) 1073741824 = b3
    generalize bt p.First 0 1099511627776 = b4
    generalize bt p.Next 0 1099511627776 = b5
    generalize decide (w64 (p.First + (p.Queue.length : Int)) > 1099511627776) = b7
    generalize (List.range p.Queue.length).all (okQ p) = b8
    generalize okEs p = b9
    cases b1 <;> cases b2 <;> cases b3 <;> cases b4 <;> cases b5 <;> cases b7 <;> cases b8 <;> cases b9 <;> rfl
  · rw [decide_eq_false h6]
    generalize bt p.Epoch 0 1073741824 = b1
    generalize bt p.Other (-1) 1073741824 = b2
    generalize bt p.SentAt (-1) 1073741824 = b3
    generalize bt p.First 0 1099511627776 = b4
    generalize bt p.Next 0 1099511627776 = b5
    cases b1 <;> cases b2 <;> cases b3 <;> cases b4 <;> cases b5 <;> rfl

theorem valid_q {p : Api_Peer} (h : validS p = true) : p.Queue.length ≤ 256 ∧ ∀ k, k < p.Queue.length → (nth p.Queue k).length ≤ 8000 := by
  unfold validS okH at h
  simp only [Bool.and_eq_true, decide_eq_true_eq, List.all_eq_true] at h
  exact ⟨h.1.1.1.2, fun k hk => by have := h.1.2 k (List.mem_range.2 hk); simpa [okQ] using this⟩
theorem valid_t {p : Api_Peer} (h : validS p = true) : -1 ≤ p.SentAt ∧ p.SentAt ≤ 1073741824 := by
  unfold validS okH bt at h
  simp only [Bool.and_eq_true, decide_eq_true_eq] at h
  exact h.1.1.1.1.1.1.2

/-! ### New, Offer, Emit -/
theorem new_eq (e : Int) : ∃ r, window_New e = some r ∧ r12_New e = some r ∧ r.1.Queue.length ≤ 300 ∧ r.1.Early.length ≤ 300 := by
  unfold window_New r12_New
  simp only [between_eq, within_eq, Option.bind_some]
  cases bt e 0 1073741824
  · exact ⟨_, rfl, rfl, by decide, by decide⟩
  · exact ⟨_, rfl, rfl, by simp, by simp⟩

theorem own_eq {b : List UInt8} (h : b.length ≤ 100000) : window_own b = some b := by
  unfold window_own
  rw [if_pos (by unfold Mk maxLen roomB; omega)]
  simp [lt1, ovl]

def zeroPeer : Api_Peer := { Epoch := 0, Other := 0, First := 0, Queue := [], Next := 0, Early := [], SentAt := 0 }

theorem offer_eq (p : Api_Peer) (d : List UInt8) (hs : p.Early.length ≤ 100) (hd : d.length ≤ 20000) : ∃ r, window_Offer p d = some r ∧ r12_Offer p d = some r ∧ r.1.Queue.length ≤ 300 ∧ r.1.Early.length ≤ 300 := by
  unfold window_Offer r12_Offer
  rw [valid_eq p (by omega), valid_eq_r p (by omega), Option.bind_some, Option.bind_some]
  cases hv : validS p
  · exact ⟨_, rfl, rfl, by decide, by decide⟩
  simp only [Bool.not_true, Bool.not_false, Bool.false_eq_true, if_false, if_true, Option.bind_some]
  obtain ⟨hq, _⟩ := valid_q hv
  cases h1 : decide ((d.length : Int) > 8000)
  case true => exact ⟨_, rfl, rfl, by decide, by decide⟩
  simp only [Bool.not_true, Bool.not_false, Bool.false_eq_true, if_false, if_true, Option.bind_some]
  have hE : (if ((p.Queue.length : Int) == 256) = true then some true else some (w64 (p.First + (p.Queue.length : Int)) == 1099511627776)) = some ((p.Queue.length : Int) == 256 || w64 (p.First + (p.Queue.length : Int)) == 1099511627776) := by
    cases ((p.Queue.length : Int) == 256) <;> rfl
  simp only [hE, Option.bind_some]
  cases h2 : ((p.Queue.length : Int) == 256 || w64 (p.First + (p.Queue.length : Int)) == 1099511627776)
  case true => exact ⟨_, rfl, rfl, by decide, by decide⟩
  simp only [Bool.not_true, Bool.not_false, Bool.false_eq_true, if_false, if_true, Option.bind_some]
  unfold slices_Clone_38
  rw [if_pos (fits24 (by omega)), own_eq (by omega), if_pos (fits24 (by omega)), if_pos (fits1 (by omega)), if_pos (fits24 (by simp; omega))]
  simp only [lt1, Option.bind_some, List.nil_append]
  rw [if_pos (fits24 (by omega))]
  exact ⟨_, rfl, rfl, by simp; omega, by simp; omega⟩

/-- The packet with the k-th message. -/
def pk (p : Api_Peer) (k : Nat) : Api_Packet := { Epoch := p.Epoch, To := p.Other, Seq := w64 (p.First + (k : Int)), Ack := p.Next, Data := nth p.Queue k }

theorem nth_take {α : Type} [Inhabited α] (l : List α) (n k : Nat) (h : k < n) : nth (l.take n) k = nth l k := by
  unfold nth
  simp [List.getD, List.getElem?_take, h]

theorem emit_loop (p : Api_Peer) (hq : p.Queue.length ≤ 256) (hd : ∀ k, k < p.Queue.length → (nth p.Queue k).length ≤ 8000) (m : Nat) (hm : m = min 16 p.Queue.length) : loopO (fun v : Int × List Api_Packet => window_Emit_b1 p (p.Queue.take m) (m : Int) v.1 v.2) (0, []) = some ((List.range m).map (pk p)) := by
  obtain ⟨x, hx, rfl⟩ := loopO_for (f := fun v : Int × List Api_Packet => window_Emit_b1 p (p.Queue.take m) (m : Int) v.1 v.2) m (fun k v => v = ((k : Int), (List.range k).map (pk p))) (fun x => x = (List.range m).map (pk p)) (by omega) (by
    rintro k v hk rfl
    refine ⟨_, ?_, rfl⟩
    show window_Emit_b1 p (p.Queue.take m) (m : Int) (k : Int) _ = _
    unfold window_Emit_b1
    rw [if_pos (by simp; omega), if_pos (inR_of (by simp; omega)), Int.toNat_natCast, nth_take _ _ _ hk, own_eq (by have := hd k (by omega); omega)]
    simp only [lt1, Option.bind_some]
    rw [if_pos (fits56 (by simp; omega)), w64_one (by omega), List.range_succ, List.map_append]
    rfl) (by
    rintro v rfl
    refine ⟨_, ?_, rfl⟩
    show window_Emit_b1 p (p.Queue.take m) (m : Int) (m : Int) _ = _
    unfold window_Emit_b1
    rw [if_neg (by simp)]) (v0 := (0, [])) rfl
  exact hx

theorem emit_loop_r (p : Api_Peer) (hq : p.Queue.length ≤ 256) (m : Nat) (hm : m = min 16 p.Queue.length) : loopO (fun v : Int × List Api_Packet => r12_Emit_b1 p v.1 v.2) (0, []) = some ((List.range m).map (pk p)) := by
  obtain ⟨x, hx, rfl⟩ := loopO_for (f := fun v : Int × List Api_Packet => r12_Emit_b1 p v.1 v.2) m (fun k v => v = ((k : Int), (List.range k).map (pk p))) (fun x => x = (List.range m).map (pk p)) (by omega) (by
    rintro k v hk rfl
    refine ⟨_, ?_, rfl⟩
    show r12_Emit_b1 p (k : Int) _ = _
    unfold r12_Emit_b1
    rw [if_pos (by simp; omega), Option.bind_some, if_pos (by simp; omega), if_pos (inR_of (by omega)), Int.toNat_natCast, if_pos (fits56 (by simp; omega)), w64_one (by omega), List.range_succ, List.map_append]
    rfl) (by
    rintro v rfl
    refine ⟨_, ?_, rfl⟩
    show r12_Emit_b1 p (m : Int) _ = _
    unfold r12_Emit_b1
    by_cases h : m < p.Queue.length
    · rw [if_pos (by simp; omega), Option.bind_some, if_neg (by simp; omega)]
    · rw [if_neg (by simp; omega), Option.bind_some, if_neg (by simp)]) (v0 := (0, [])) rfl
  exact hx

theorem emit_eq (p : Api_Peer) (now : Int) (hs : p.Early.length ≤ 100) (hq0 : p.Queue.length ≤ 300) : ∃ r, window_Emit p now = some r ∧ r12_Emit p now = some r ∧ r.1.Queue.length ≤ 300 ∧ r.1.Early.length ≤ 300 ∧ r.2.length ≤ 300 := by
  unfold window_Emit r12_Emit
  rw [valid_eq p (by omega), valid_eq_r p (by omega), Option.bind_some, Option.bind_some]
  simp only [between_eq, within_eq, Option.bind_some]
  cases hv : validS p
  · exact ⟨_, rfl, rfl, hq0, by simp; omega, by simp⟩
  obtain ⟨hq, hd⟩ := valid_q hv
  obtain ⟨t1, t2⟩ := valid_t hv
  simp only [Bool.not_true, Bool.not_false, Bool.false_eq_true, if_false, if_true, Option.bind_some]
  cases hn : bt now 0 1073741824
  · exact ⟨_, rfl, rfl, hq0, by simp; omega, by simp⟩
  simp only [Bool.not_true, Bool.not_false, Bool.false_eq_true, if_false, if_true, Option.bind_some]
  have hn' : 0 ≤ now ∧ now ≤ 1073741824 := by simpa [bt] using hn
  have hdue : (if decide (p.SentAt < 0) = true then some true else if decide (p.SentAt > now) = true then some true else some (decide (w64 (now - p.SentAt) ≥ 10))) = some (decide (p.SentAt < 0 ∨ p.SentAt > now ∨ now - p.SentAt ≥ 10)) := by
    rw [w64_id (by omega)]
    by_cases h1 : p.SentAt < 0 <;> by_cases h2 : p.SentAt > now <;> by_cases h3 : now - p.SentAt ≥ 10 <;> simp [h1, h2, h3]
  have hdue2 : (if decide (p.SentAt ≥ 0) = true then if decide (p.SentAt ≤ now) = true then some (decide (p.SentAt > w64 (now - 10))) else some false else some false) = some (!decide (p.SentAt < 0 ∨ p.SentAt > now ∨ now - p.SentAt ≥ 10)) := by
    rw [w64_id (by omega)]
    by_cases h1 : p.SentAt < 0
    · rw [if_neg (by simp; omega)]; simp [h1]
    · rw [if_pos (by simp; omega)]
      by_cases h2 : p.SentAt > now
      · rw [if_neg (by simp; omega)]; simp [h2]
      · rw [if_pos (by simp; omega)]
        by_cases h3 : now - p.SentAt ≥ 10
        · simp [h3]; omega
        · simp [h1, h2, h3]; omega
  simp only [hdue, hdue2, Option.bind_some]
  generalize decide (p.SentAt < 0 ∨ p.SentAt > now ∨ now - p.SentAt ≥ 10) = due
  cases h0 : ((p.Queue.length : Int) == 0)
  case true => exact ⟨_, rfl, rfl, hq0, by simp; omega, by simp⟩
  simp only [Bool.not_true, Bool.not_false, Bool.false_eq_true, if_false, if_true, Option.bind_some]
  cases due
  case false => exact ⟨_, rfl, rfl, hq0, by simp; omega, by simp⟩
  have hmn : mn64 16 (p.Queue.length : Int) = ((min 16 p.Queue.length : Nat) : Int) := by unfold mn64; split <;> omega
  simp only [Bool.not_true, Bool.not_false, Bool.false_eq_true, if_false, if_true, Option.bind_some]
  rw [hmn, if_pos (by unfold InB; omega), Int.toNat_natCast]
  simp only [lt1]
  have hl : (p.Queue.take (min 16 p.Queue.length)).length = min 16 p.Queue.length := by simp
  rw [hl, emit_loop p hq hd _ rfl, emit_loop_r p hq _ rfl]
  exact ⟨_, rfl, rfl, hq0, by simp; omega, by simp; omega⟩

/-! ### The same -/
theorem msgs_same (l : List (List UInt8)) (h : l.length ≤ 300) : r12_SameMessages l l = some true := by
  unfold r12_SameMessages
  rw [if_neg (by simp), all_loop (v := false) (f := fun i => r12_SameMessages_b1 l l i) l.length (fun _ => true) (by omega) (fun k hk => by
    show r12_SameMessages_b1 l l (k : Int) = _
    unfold r12_SameMessages_b1
    rw [if_pos (by simp; omega), if_pos (inR_of hk), if_pos (inR_of hk), if_neg (by simp), w64_one (by omega)]
    rfl) (by
    show r12_SameMessages_b1 l l (l.length : Int) = _
    unfold r12_SameMessages_b1
    rw [if_neg (by simp)])]
  rw [if_pos (by simp)]
  rfl

theorem pks_same (l : List Api_Packet) (h : l.length ≤ 300) : r12_SamePackets l l = some true := by
  unfold r12_SamePackets
  rw [if_neg (by simp), all_loop (v := false) (f := fun i => r12_SamePackets_b1 l l i) l.length (fun _ => true) (by omega) (fun k hk => by
    show r12_SamePackets_b1 l l (k : Int) = _
    unfold r12_SamePackets_b1 r12_SamePacket
    rw [if_pos (by simp; omega), if_pos (inR_of hk), if_pos (inR_of hk), w64_one (by omega)]
    simp) (by
    show r12_SamePackets_b1 l l (l.length : Int) = _
    unfold r12_SamePackets_b1
    rw [if_neg (by simp)])]
  rw [if_pos (by simp)]
  rfl

theorem same_same (p : Api_Peer) (h1 : p.Queue.length ≤ 300) (h2 : p.Early.length ≤ 300) : r12_Same p p = some true := by
  unfold r12_Same
  rw [msgs_same _ h1, pks_same _ h2]
  simp

theorem few_eq (p : Api_Peer) : ∃ b, law12_few p = some b ∧ (b = true → p.Queue.length ≤ 257 ∧ p.Early.length ≤ 70) := by
  unfold law12_few
  by_cases h1 : p.Queue.length ≤ 257
  case neg => exact ⟨false, by rw [if_pos (by simp; omega)]; rfl, fun h => by cases h⟩
  by_cases h2 : p.Early.length ≤ 70
  case neg => exact ⟨false, by rw [if_neg (by simp; omega), Option.bind_some, if_pos (by simp; omega)], fun h => by cases h⟩
  rw [if_neg (by simp; omega), Option.bind_some, if_neg (by simp; omega)]
  obtain ⟨n, hn, _⟩ := loopO_for (f := fun v : Int × Int => law12_few_b1 p v.1 v.2) p.Queue.length (fun k v => v.2 = (k : Int)) (fun _ => True) (by omega) (by
    rintro k ⟨n, i⟩ hk hi
    simp only at hi
    subst hi
    refine ⟨(w64 (n + ((nth p.Queue k).length : Int)), ((k + 1 : Nat) : Int)), ?_, rfl⟩
    show law12_few_b1 p n (k : Int) = _
    unfold law12_few_b1
    rw [if_pos (by simp; omega), if_pos (inR_of hk), w64_one (by omega)]
    rfl) (by
    rintro ⟨n, i⟩ hi
    simp only at hi
    subst hi
    refine ⟨n, ?_, trivial⟩
    show law12_few_b1 p n (p.Queue.length : Int) = _
    unfold law12_few_b1
    rw [if_neg (by simp)]) (v0 := (0, 0)) rfl
  rw [hn]
  simp only [Option.bind_some]
  obtain ⟨n2, hn2, _⟩ := loopO_for (f := fun v : Int × Int => law12_few_b2 p v.1 v.2) p.Early.length (fun k v => v.2 = (k : Int)) (fun _ => True) (by omega) (by
    rintro k ⟨n, i⟩ hk hi
    simp only at hi
    subst hi
    refine ⟨(w64 (n + ((nth p.Early k).Data.length : Int)), ((k + 1 : Nat) : Int)), ?_, rfl⟩
    show law12_few_b2 p n (k : Int) = _
    unfold law12_few_b2
    rw [if_pos (by simp; omega), if_pos (inR_of hk), w64_one (by omega)]
    rfl) (by
    rintro ⟨n, i⟩ hi
    simp only at hi
    subst hi
    refine ⟨n, ?_, trivial⟩
    show law12_few_b2 p n (p.Early.length : Int) = _
    unfold law12_few_b2
    rw [if_neg (by simp)]) (v0 := (n, 0)) rfl
  rw [hn2]
  exact ⟨_, rfl, fun _ => ⟨h1, h2⟩⟩
end Go.Proofs.Ytomjphpnpcgacaa
/-
  Accept, of both sides, is one function on peers and packets.
-/
namespace Go.Proofs.Ytomjphpnpcgacaa
open Go.Rv
set_option linter.unusedVariables false
set_option linter.unusedSimpArgs false

/-! ### Early packets -/
def EOk (next : Int) : Int → List Api_Packet → Prop
  | _, [] => True
  | last, e :: r => (last < e.Seq ∧ e.Seq < next + 64 ∧ e.Seq < 1099511627776 ∧ e.Data.length ≤ 8000 ∧ e.Epoch = 0 ∧ e.To = 0 ∧ e.Ack = 0) ∧ EOk next e.Seq r

def badL (next last : Int) (e : Api_Packet) : Bool :=
  decide (e.Seq ≤ last) || decide (e.Seq ≥ w64 (next + 64)) || decide (e.Seq ≥ 1099511627776) || decide ((e.Data.length : Int) > 8000) || e.Epoch != 0 || e.To != 0 || e.Ack != 0

def lastL (last : Int) (l : List Api_Packet) : Nat → Int
  | 0 => last
  | k + 1 => (nth l k).Seq

theorem badL_false {next last : Int} {e : Api_Packet} (hn : 0 ≤ next ∧ next ≤ 1099511627776) : badL next last e = false ↔ (last < e.Seq ∧ e.Seq < next + 64 ∧ e.Seq < 1099511627776 ∧ e.Data.length ≤ 8000 ∧ e.Epoch = 0 ∧ e.To = 0 ∧ e.Ack = 0) := by
  unfold badL
  rw [w64_id (by omega)]
  simp only [Bool.or_eq_false_iff, decide_eq_false_iff_not, bne_eq_false_iff_eq]
  constructor
  · rintro ⟨⟨⟨⟨⟨⟨h1, h2⟩, h3⟩, h4⟩, h5⟩, h6⟩, h7⟩
    exact ⟨by omega, by omega, by omega, by omega, h5, h6, h7⟩
  · rintro ⟨h1, h2, h3, h4, h5, h6, h7⟩
    exact ⟨⟨⟨⟨⟨⟨by omega, by omega⟩, by omega⟩, by omega⟩, h5⟩, h6⟩, h7⟩

theorem eok_of {next : Int} (hn : 0 ≤ next ∧ next ≤ 1099511627776) : ∀ (l : List Api_Packet) (last : Int), (∀ k, k < l.length → badL next (lastL last l k) (nth l k) = false) ↔ EOk next last l
  | [], last => by simp [EOk]
  | e :: r, last => by
    have ih := eok_of hn r e.Seq
    constructor
    · intro h
      refine ⟨(badL_false hn).1 (h 0 (by simp)), ih.1 fun k hk => ?_⟩
      have := h (k + 1) (by simpa using hk)
      cases k <;> exact this
    · rintro ⟨h1, h2⟩ k hk
      cases k with
      | zero => exact (badL_false hn).2 h1
      | succ k =>
        have := ih.2 h2 k (by simpa using hk)
        cases k <;> exact this

/-- What holds of a side that is valid, as far as it matters here. -/
structure Vd (p : Api_Peer) : Prop where
  f0 : 0 ≤ p.First
  f1 : p.First ≤ 1099511627776
  n0 : 0 ≤ p.Next
  n1 : p.Next ≤ 1099511627776
  q : p.Queue.length ≤ 256
  early : EOk p.Next p.Next p.Early
  es : p.Early.length ≤ 1000

theorem vd_of {p : Api_Peer} (h : validS p = true) (hs : p.Early.length ≤ 1000) : Vd p := by
  unfold validS okH bt okEs at h
  simp only [Bool.and_eq_true, decide_eq_true_eq, List.all_eq_true] at h
  obtain ⟨⟨⟨⟨⟨⟨⟨⟨a1, a2⟩, a3⟩, a4⟩, a5⟩, a6⟩, a7⟩, a8⟩, a9⟩ := h
  refine ⟨a4.1, a4.2, a5.1, a5.2, a6, (eok_of a5 _ _).1 fun k hk => ?_, hs⟩
  have := a9 k (List.mem_range.2 hk)
  rw [Bool.not_eq_true'] at this
  cases k <;> exact this

theorem eok_mem {next : Int} : ∀ {l : List Api_Packet} {last : Int}, EOk next last l → ∀ e ∈ l, last < e.Seq ∧ e.Seq < next + 64 ∧ e.Seq < 1099511627776 ∧ e.Data.length ≤ 8000
  | [], _, _, _, h => by cases h
  | a :: r, last, h, e, he => by
    rcases List.mem_cons.1 he with rfl | he
    · exact ⟨h.1.1, h.1.2.1, h.1.2.2.1, h.1.2.2.2.1⟩
    · have := eok_mem h.2 e he
      exact ⟨by have := h.1.1; omega, this.2⟩

/-- Put in where it belongs, unless there is one with its number. -/
def insS : List Api_Packet → Api_Packet → List Api_Packet
  | [], x => [x]
  | e :: r, x => if e.Seq < x.Seq then e :: insS r x else if e.Seq = x.Seq then e :: r else x :: e :: r

/-- How many have a smaller number. -/
def cnt (t : Int) : List Api_Packet → Nat
  | [] => 0
  | e :: r => if e.Seq < t then cnt t r + 1 else 0

theorem cnt_spec {next t : Int} : ∀ {l : List Api_Packet} {last : Int}, EOk next last l → cnt t l ≤ l.length ∧ (∀ x, x < cnt t l → (nth l x).Seq < t) ∧ (∀ x, cnt t l ≤ x → x < l.length → t ≤ (nth l x).Seq)
  | [], _, _ => ⟨Nat.le_refl _, fun x h => absurd h (Nat.not_lt_zero _), fun x _ h => absurd h (Nat.not_lt_zero _)⟩
  | e :: r, last, h => by
    obtain ⟨i1, i2, i3⟩ := cnt_spec (t := t) h.2
    unfold cnt
    by_cases hc : e.Seq < t
    · rw [if_pos hc]
      refine ⟨by simp; omega, fun x hx => ?_, fun x hx hl => ?_⟩
      · cases x with
        | zero => exact hc
        | succ x => exact i2 x (by omega)
      · cases x with
        | zero => omega
        | succ x => exact i3 x (by omega) (by simpa using hl)
    · rw [if_neg hc]
      refine ⟨Nat.zero_le _, fun x hx => absurd hx (Nat.not_lt_zero _), fun x _ hl => ?_⟩
      cases x with
      | zero => show t ≤ e.Seq; omega
      | succ x =>
        have hl' : x < r.length := by simpa using hl
        have hm : nth r x ∈ r := by
          unfold nth
          rw [List.getD_eq_getElem?_getD, List.getElem?_eq_getElem hl']
          exact List.getElem_mem hl'
        have := (eok_mem h.2 _ hm).1
        show t ≤ (nth r x).Seq
        omega

theorem insS_new {next : Int} {x : Api_Packet} : ∀ {l : List Api_Packet} {last : Int}, EOk next last l → ¬ (cnt x.Seq l < l.length ∧ (nth l (cnt x.Seq l)).Seq = x.Seq) → l.take (cnt x.Seq l) ++ [x] ++ l.drop (cnt x.Seq l) = insS l x
  | [], _, _, _ => rfl
  | e :: r, last, h, hf => by
    unfold insS
    by_cases hc : e.Seq < x.Seq
    · have e1 : cnt x.Seq (e :: r) = cnt x.Seq r + 1 := by rw [cnt, if_pos hc]
      rw [if_pos hc, ← insS_new h.2 (fun hh => hf (by rw [e1]; exact ⟨by simpa using hh.1, hh.2⟩)), e1]
      rfl
    · have e1 : cnt x.Seq (e :: r) = 0 := by rw [cnt, if_neg hc]
      rw [e1] at hf
      rw [if_neg hc, if_neg (show ¬ e.Seq = x.Seq from fun he => hf ⟨by simp, he⟩), e1]
      rfl

theorem insS_old {next : Int} {x : Api_Packet} : ∀ {l : List Api_Packet} {last : Int}, EOk next last l → (cnt x.Seq l < l.length ∧ (nth l (cnt x.Seq l)).Seq = x.Seq) → insS l x = l
  | [], _, _, hf => by simp at hf
  | e :: r, last, h, hf => by
    unfold insS
    by_cases hc : e.Seq < x.Seq
    · have e1 : cnt x.Seq (e :: r) = cnt x.Seq r + 1 := by rw [cnt, if_pos hc]
      rw [e1] at hf
      rw [if_pos hc, insS_old h.2 ⟨by simpa using hf.1, hf.2⟩]
    · have e1 : cnt x.Seq (e :: r) = 0 := by rw [cnt, if_neg hc]
      rw [e1] at hf
      rw [if_neg hc, if_pos (show e.Seq = x.Seq from hf.2)]

/-! ### The search -/
theorem half (n : Nat) (h : n < 9223372036854775807) : w64 (((shr64 (UInt64.ofInt (w64 (n : Int))) ((1 : UInt64)).toNat).toNat : Nat) : Int) = ((n / 2 : Nat) : Int) := by
  rw [w64_id (x := (n : Int)) (by omega)]
  have h1 : (UInt64.ofInt (n : Int)).toNat = n := by rw [UInt64.ofInt, UInt64.toNat_ofNat']; omega
  have h2 : (shr64 (UInt64.ofInt (n : Int)) ((1 : UInt64)).toNat).toNat = n / 2 := by
    show ((UInt64.ofInt (n : Int)).toBitVec >>> (1 : Nat)).toNat = n / 2
    rw [BitVec.toNat_ushiftRight, Nat.shiftRight_eq_div_pow]
    show (UInt64.ofInt (n : Int)).toNat / 2 ^ 1 = n / 2
    rw [h1]
  rw [h2, w64_id (by omega)]

theorem search_eq {next : Int} {l : List Api_Packet} {last t : Int} (he : EOk next last l) (hl : l.length ≤ 1000) (h0 : -1 ≤ last) (ht : -1 ≤ t ∧ t ≤ 1099511627776) :
    slices_BinarySearchFunc_56 l t window_side_keep_1 = some ((cnt t l : Int), decide (cnt t l < l.length ∧ (nth l (cnt t l)).Seq = t)) := by
  obtain ⟨c1, c2, c3⟩ := cnt_spec (t := t) he
  have hb : ∀ x, x < l.length → -1 ≤ (nth l x).Seq ∧ (nth l x).Seq ≤ 1099511627776 := fun x hx => by
    have hm : nth l x ∈ l := by
      unfold nth
      rw [List.getD_eq_getElem?_getD, List.getElem?_eq_getElem hx]
      exact List.getElem_mem hx
    have := eok_mem he _ hm
    omega
  obtain ⟨x, hx, rfl⟩ := loopO_rule (f := fun v : Int × Int => slices_BinarySearchFunc_56_b1 l t window_side_keep_1 v.1 v.2) (fun v => ∃ i j : Nat, v = ((i : Int), (j : Int)) ∧ i ≤ cnt t l ∧ cnt t l ≤ j ∧ j ≤ l.length) (fun v => (v.2 - v.1).toNat)
    (fun x => x = (cnt t l : Int)) (by
      rintro v ⟨i, j, rfl, h1, h2, h3⟩
      by_cases hij : i < j
      · left
        have hm1 : i ≤ (i + j) / 2 := by omega
        have hm2 : (i + j) / 2 < j := by omega
        have hs : window_side_keep_1 (nth l ((i + j) / 2)) t = some ((nth l ((i + j) / 2)).Seq - t) := by
          have := hb ((i + j) / 2) (by omega)
          unfold window_side_keep_1
          rw [w64_id (by omega)]
        have hstep : slices_BinarySearchFunc_56_b1 l t window_side_keep_1 (i : Int) (j : Int) = some (if (nth l ((i + j) / 2)).Seq < t then .inl ((((i + j) / 2 + 1 : Nat) : Int), (j : Int)) else .inl ((i : Int), (((i + j) / 2 : Nat) : Int))) := by
          unfold slices_BinarySearchFunc_56_b1
          rw [if_pos (by simp; omega), ← Int.natCast_add, half (i + j) (by omega)]
          simp only [lt1]
          rw [if_pos (inR_of (by omega)), Int.toNat_natCast, hs, Option.bind_some, w64_one (by omega)]
          by_cases hc : (nth l ((i + j) / 2)).Seq < t
          · rw [if_pos (by simp; omega), if_pos hc]
          · rw [if_neg (by simp; omega), if_neg hc]
        by_cases hc : (nth l ((i + j) / 2)).Seq < t
        · rw [if_pos hc] at hstep
          refine ⟨_, hstep, ⟨_, _, rfl, ?_, h2, h3⟩, by simp only; omega⟩
          rcases Nat.lt_or_ge ((i + j) / 2) (cnt t l) with hh | hh
          · exact hh
          · have := c3 _ hh (by omega)
            omega
        · rw [if_neg hc] at hstep
          refine ⟨_, hstep, ⟨_, _, rfl, h1, ?_, by omega⟩, by simp only; omega⟩
          rcases Nat.lt_or_ge ((i + j) / 2) (cnt t l) with hh | hh
          · exact absurd (c2 _ hh) hc
          · exact hh
      · right
        have : i = cnt t l := by omega
        subst this
        refine ⟨_, ?_, rfl⟩
        show slices_BinarySearchFunc_56_b1 l t window_side_keep_1 (cnt t l : Int) (j : Int) = _
        unfold slices_BinarySearchFunc_56_b1
        rw [if_neg (by simp; omega)]) (v0 := (0, (l.length : Int))) ⟨0, l.length, rfl, Nat.zero_le _, c1, Nat.le_refl _⟩ (by simp; omega)
  unfold slices_BinarySearchFunc_56
  rw [hx, Option.bind_some, Option.bind_some]
  by_cases hlt : cnt t l < l.length
  · have := hb _ hlt
    rw [if_pos (by simp; omega), if_pos (inR_of hlt), Int.toNat_natCast]
    unfold window_side_keep_1
    rw [w64_id (by omega), Option.bind_some, Option.bind_some]
    congr 2
    by_cases h : (nth l (cnt t l)).Seq = t
    · simp [h, hlt]
    · simp [h]; omega
  · rw [if_neg (by simp; omega), Option.bind_some]
    simp [hlt]

/-! ### The reference's insertion -/
theorem nth_drop {l : List Api_Packet} {k : Nat} (h : k < l.length) : l.drop k = nth l k :: l.drop (k + 1) := by
  rw [List.drop_eq_getElem_cons h]
  congr 1
  unfold nth
  rw [List.getD_eq_getElem?_getD, List.getElem?_eq_getElem h]; rfl

theorem insert_eq (l : List Api_Packet) (x : Api_Packet) (hl : l.length ≤ 1000) : r12_insert l x = some (insS l x) := by
  obtain ⟨r, hr, d, out, rfl, hd⟩ := loopO_for (f := fun v : Bool × Int × List Api_Packet => r12_insert_b1 l x v.1 v.2.1 v.2.2) l.length
    (fun k v => ∃ (d : Bool) (out : List Api_Packet), v = (d, (k : Int), out) ∧ out ++ (if d = true then l.drop k else insS (l.drop k) x) = insS l x ∧ out.length ≤ k + (if d = true then 1 else 0))
    (fun r => ∃ (d : Bool) (out : List Api_Packet), r = (d, out) ∧ out ++ (if d = true then [] else [x]) = insS l x ∧ out.length ≤ 1001) (by omega) (by
      rintro k v hk ⟨d, out, rfl, h1, h2'⟩
      have h2 : out.length ≤ k + 1 := by split at h2' <;> omega
      rw [nth_drop hk] at h1
      have hstep : r12_insert_b1 l x d (k : Int) out = some (.inl (if (nth l k).Seq = x.Seq then (true, ((k + 1 : Nat) : Int), out ++ [nth l k]) else if x.Seq < (nth l k).Seq ∧ d = false then (true, ((k + 1 : Nat) : Int), out ++ [x] ++ [nth l k]) else (d, ((k + 1 : Nat) : Int), out ++ [nth l k]))) := by
        have hin : InR (k : Int) l.length := inR_of hk
        unfold r12_insert_b1
        rw [if_pos (by simp; omega)]
        simp only [lt1, hin, if_true, Int.toNat_natCast, w64_one (show k + 1 < 9223372036854775807 by omega)]
        by_cases q1 : (nth l k).Seq = x.Seq
        · have q2 : decide ((nth l k).Seq > x.Seq) = false := by simp; omega
          have q3 : ((nth l k).Seq == x.Seq) = true := by simpa using q1
          simp only [q2, q3, if_true, Bool.false_eq_true, if_false, Option.bind_some]
          rw [if_pos (fits56 (by omega)), if_pos q1]
        · have q3 : ((nth l k).Seq == x.Seq) = false := by simpa using q1
          rw [if_neg q1]
          simp only [q3, Bool.false_eq_true, if_false, Option.bind_some]
          by_cases q2 : x.Seq < (nth l k).Seq
          · have q4 : decide ((nth l k).Seq > x.Seq) = true := by simpa using q2
            simp only [q4, if_true, Option.bind_some]
            cases d
            · simp only [Bool.not_false, if_true]
              rw [if_pos (fits56 (by omega)), Option.bind_some, if_pos (fits56 (by simp; omega)), if_pos ⟨q2, trivial⟩]
            · simp only [Bool.not_true, Bool.false_eq_true, if_false, Option.bind_some]
              rw [if_pos (fits56 (by omega)), if_neg (by simp)]
          · have q4 : decide ((nth l k).Seq > x.Seq) = false := by simp; omega
            simp only [q4, Bool.false_eq_true, if_false, Option.bind_some]
            rw [if_pos (fits56 (by omega)), if_neg (fun h => q2 h.1)]
      refine ⟨_, hstep, ?_⟩
      by_cases q1 : (nth l k).Seq = x.Seq
      · rw [if_pos q1]
        refine ⟨true, _, rfl, ?_, by simp; omega⟩
        rw [← h1, if_pos rfl]
        cases d
        · simp [insS, q1]
        · simp
      · rw [if_neg q1]
        by_cases q2 : x.Seq < (nth l k).Seq ∧ d = false
        · rw [if_pos q2]
          obtain ⟨q2, rfl⟩ := q2
          refine ⟨true, _, rfl, ?_, by simp at h2' ⊢; omega⟩
          rw [← h1]
          have : ¬ ((nth l k).Seq < x.Seq) := by omega
          simp [insS, q1, this]
        · rw [if_neg q2]
          refine ⟨d, _, rfl, ?_, by rw [List.length_append, List.length_singleton]; omega⟩
          rw [← h1]
          cases d
          · have : (nth l k).Seq < x.Seq := by
              have : ¬ (x.Seq < (nth l k).Seq) := fun h => q2 ⟨h, rfl⟩
              omega
            simp [insS, this]
          · simp) (by
      rintro v ⟨d, out, rfl, h1, h2'⟩
      have h2 : out.length ≤ l.length + 1 := by split at h2' <;> omega
      refine ⟨(d, out), ?_, d, out, rfl, ?_, by omega⟩
      · show r12_insert_b1 l x d (l.length : Int) out = _
        unfold r12_insert_b1
        rw [if_neg (by simp)]
      · rw [← h1, List.drop_length]
        rfl) (v0 := (false, 0, [])) ⟨false, [], rfl, rfl, by simp⟩
  unfold r12_insert
  rw [hr]
  simp only [Option.bind_some, lt1]
  cases d
  · simp only [Bool.not_false, if_true]
    rw [if_pos (fits56 (by omega)), Option.bind_some]
    rw [← hd.1]; rfl
  · simp only [Bool.not_true, Bool.false_eq_true, if_false, Option.bind_some]
    rw [← hd.1]; simp
end Go.Proofs.Ytomjphpnpcgacaa
/-
  Accept, of both sides, is one function on peers and packets (the second half).
-/
namespace Go.Proofs.Ytomjphpnpcgacaa
open Go.Rv
set_option linter.unusedVariables false
set_option linter.unusedSimpArgs false

/-- The packet that is kept early. -/
def newE (k : Api_Packet) : Api_Packet := { Epoch := 0, To := 0, Seq := k.Seq, Ack := 0, Data := k.Data }

/-- What is delivered from the early packets: the next number, the messages, the packets that stay. -/
def runS : Int → List Api_Packet → Int × List (List UInt8) × List Api_Packet
  | n, [] => (n, [], [])
  | n, e :: r => if e.Seq = n then ((runS (n + 1) r).1, e.Data :: (runS (n + 1) r).2.1, (runS (n + 1) r).2.2) else (n, [], e :: r)

def resetS (p : Api_Peer) (k : Api_Packet) : Api_Peer :=
  if k.Epoch > p.Other then { Epoch := p.Epoch, Other := k.Epoch, First := 0, Queue := [], Next := 0, Early := [], SentAt := -1 } else p
def ackS (p : Api_Peer) (k : Api_Packet) : Api_Peer :=
  if p.First < k.Ack ∧ k.Ack ≤ p.First + (p.Queue.length : Int) then { p with First := k.Ack, Queue := p.Queue.drop (k.Ack - p.First).toNat, SentAt := -1 } else p
def keepS (p : Api_Peer) (k : Api_Packet) : Api_Peer :=
  if p.Next < k.Seq ∧ k.Seq < p.Next + 64 then { p with Early := insS p.Early (newE k) } else p
def delS (p : Api_Peer) (k : Api_Packet) : Api_Peer × List (List UInt8) :=
  if k.Seq = p.Next then ({ p with Next := (runS (p.Next + 1) p.Early).1, Early := (runS (p.Next + 1) p.Early).2.2 }, k.Data :: (runS (p.Next + 1) p.Early).2.1) else (p, [])

def vPk (k : Api_Packet) : Bool := bt k.Epoch 0 1073741824 && bt k.Seq (-1) 1099511627775 && bt k.Ack 0 1099511627776 && decide ((k.Data.length : Int) ≤ 8000)
def okA (p : Api_Peer) (k : Api_Packet) : Bool := vPk k && validS p && !decide (k.Epoch < p.Other)
def stepS (q : Api_Peer) (k : Api_Packet) : Api_Peer × List (List UInt8) := if k.To = q.Epoch then delS (keepS (ackS q k) k) k else (q, [])
def accS (p : Api_Peer) (k : Api_Packet) : Api_Peer × List (List UInt8) × Bool :=
  if okA p k = true then ((stepS (resetS p k) k).1, (stepS (resetS p k) k).2, decide (k.Epoch > p.Other)) else (p, [], false)

structure VK (k : Api_Packet) : Prop where
  e0 : 0 ≤ k.Epoch
  s0 : -1 ≤ k.Seq
  s1 : k.Seq ≤ 1099511627775
  a0 : 0 ≤ k.Ack
  a1 : k.Ack ≤ 1099511627776
  d : k.Data.length ≤ 8000
theorem vk_of {k : Api_Packet} (h : vPk k = true) : VK k := by
  unfold vPk bt at h
  simp only [Bool.and_eq_true, decide_eq_true_eq] at h
  obtain ⟨⟨⟨⟨h1, _⟩, h2, h3⟩, h4, h5⟩, h6⟩ := h
  exact ⟨h1, h2, h3, h4, h5, by omega⟩

/-- Less than a valid side: enough for what is done with it. -/
structure Vm (p : Api_Peer) : Prop where
  f0 : 0 ≤ p.First
  f1 : p.First ≤ 1099511627776
  n0 : 0 ≤ p.Next
  n1 : p.Next ≤ 1099511627776
  q : p.Queue.length ≤ 256
  es : p.Early.length ≤ 1000
  el : ∀ e ∈ p.Early, e.Seq ≤ 1099511627775 ∧ e.Data.length ≤ 8000

theorem Vd.m {p : Api_Peer} (h : Vd p) : Vm p := ⟨h.f0, h.f1, h.n0, h.n1, h.q, h.es, fun e he => by have := eok_mem h.early e he; exact ⟨by omega, this.2.2.2⟩⟩

theorem reset_vd {p : Api_Peer} {k : Api_Packet} (h : Vd p) : Vd (resetS p k) := by
  unfold resetS
  split
  · exact ⟨by simp, by simp, by simp, by simp, by simp, trivial, by simp⟩
  · exact h
theorem ack_vd {p : Api_Peer} {k : Api_Packet} (h : Vd p) (hk : VK k) : Vd (ackS p k) := by
  unfold ackS
  split
  · exact ⟨hk.a0, hk.a1, h.n0, h.n1, by have := h.q; simp; omega, h.early, h.es⟩
  · exact h
theorem insS_len (l : List Api_Packet) (x : Api_Packet) : (insS l x).length ≤ l.length + 1 := by
  induction l with
  | nil => simp [insS]
  | cons e r ih => unfold insS; split <;> (try split) <;> simp <;> omega
theorem insS_mem (l : List Api_Packet) (x : Api_Packet) : ∀ e ∈ insS l x, e = x ∨ e ∈ l := by
  induction l with
  | nil => intro e he; simp [insS] at he; exact .inl he
  | cons a r ih =>
    intro e he
    unfold insS at he
    split at he
    · rcases List.mem_cons.1 he with rfl | he
      · exact .inr (by simp)
      · rcases ih e he with h | h
        · exact .inl h
        · exact .inr (by simp [h])
    · split at he
      · exact .inr he
      · rcases List.mem_cons.1 he with rfl | he
        · exact .inl rfl
        · exact .inr he

theorem keep_vm {p : Api_Peer} {k : Api_Packet} (h : Vd p) (hl : p.Early.length ≤ 999) (hk : VK k) : Vm (keepS p k) := by
  unfold keepS
  split
  · refine ⟨h.f0, h.f1, h.n0, h.n1, h.q, by have := insS_len p.Early (newE k); simp only; omega, fun e he => ?_⟩
    rcases insS_mem _ _ e he with rfl | he
    · exact ⟨hk.s1, hk.d⟩
    · exact h.m.el e he
  · exact h.m

/-! ### The window's steps -/
theorem ack_w {q : Api_Peer} {k : Api_Packet} (h : Vm q) (hk : VK k) (d : List (List UInt8)) : window_side_acknowledge ⟨q, d⟩ k = some ⟨ackS q k, d⟩ := by
  have := h.f0; have := h.f1; have := hk.a0; have := hk.a1; have := h.q
  unfold window_side_acknowledge ackS
  simp only [lt1]
  rw [w64_id (x := k.Ack - q.First) (by omega)]
  by_cases h1 : q.First < k.Ack
  · rw [if_pos (by simp; omega), Option.bind_some]
    by_cases h2 : k.Ack ≤ q.First + (q.Queue.length : Int)
    · rw [if_pos (by simp; omega), if_pos (by unfold InB; omega), if_pos ⟨h1, h2⟩, List.take_of_length_le (by simp)]
    · rw [if_neg (by simp; omega), if_neg (fun hh => h2 hh.2)]
  · rw [if_neg (by simp; omega), Option.bind_some, if_neg (by simp), if_neg (fun hh => h1 hh.1)]

theorem keep_w {q : Api_Peer} {k : Api_Packet} (h : Vd q) (hl : q.Early.length ≤ 999) (hk : VK k) (d : List (List UInt8)) : window_side_keep ⟨q, d⟩ k = some ⟨keepS q k, d⟩ := by
  have := h.n0; have := h.n1; have := hk.s0; have := hk.s1; have := hk.d
  unfold window_side_keep keepS
  simp only
  rw [w64_id (x := q.Next + 64) (by omega)]
  by_cases h1 : k.Seq ≤ q.Next
  · rw [if_pos (by simpa using h1), Option.bind_some, if_pos rfl, if_neg (by omega)]
  rw [if_neg (by simpa using h1), Option.bind_some]
  by_cases h2 : k.Seq ≥ q.Next + 64
  · rw [if_pos (by simpa using h2), if_neg (by omega)]
  rw [if_neg (by simpa using h2), if_pos (by omega), search_eq h.early h.es (by omega) (by omega), Option.bind_some]
  obtain ⟨c1, _, _⟩ := cnt_spec (t := k.Seq) h.early
  by_cases hf : cnt k.Seq q.Early < q.Early.length ∧ (nth q.Early (cnt k.Seq q.Early)).Seq = k.Seq
  · rw [if_neg (by simp [hf]), insS_old (x := newE k) h.early hf]
  · rw [if_pos (by simp only [hf]; rfl)]
    unfold slices_Clone_59 slices_Insert_58 insertO
    rw [if_pos (fits56 (by omega)), own_eq (by omega)]
    simp only [lt1, Option.bind_some, List.nil_append]
    rw [if_pos ⟨by unfold InB; omega, rfl, fits56 (by omega)⟩, Option.bind_some, Int.toNat_natCast]
    have := insS_new (x := newE k) h.early hf
    rw [← this]
    rfl

theorem take_w {q : Api_Peer} {d : List (List UInt8)} {b : List UInt8} (hb : b.length ≤ 100000) (hd : d.length ≤ 99999) (h0 : 0 ≤ q.Next ∧ q.Next ≤ 1099511627776) : window_side_take ⟨q, d⟩ b = some ⟨{ q with Next := q.Next + 1 }, d ++ [b]⟩ := by
  unfold window_side_take
  rw [own_eq hb, Option.bind_some, if_pos (fits24 (by show d.length + 1 ≤ _; omega))]
  simp only [lt1]
  rw [w64_id (by omega)]

theorem del_w {q : Api_Peer} {k : Api_Packet} (h : Vm q) (hk : VK k) {d : List (List UInt8)} (hd : d.length ≤ 1000) : window_side_deliver ⟨q, d⟩ k = some ⟨(delS q k).1, d ++ (delS q k).2⟩ := by
  unfold window_side_deliver delS
  simp only
  by_cases h1 : k.Seq = q.Next
  case neg =>
    rw [if_pos (by simpa using h1), if_neg h1]; simp
  rw [if_neg (by simpa using h1), if_pos h1, take_w (by have := hk.d; omega) (by omega) ⟨h.n0, h.n1⟩, Option.bind_some]
  simp only [lt1]
  have hn1 : q.Next ≤ 1099511627775 := by have := hk.s1; omega
  obtain ⟨x, hx, rfl⟩ := loopO_rule (f := fun v : Int × Int × Int × List (List UInt8) × Int × List Api_Packet × Int × List (List UInt8) => window_side_deliver_b1 v.1 v.2.1 v.2.2.1 v.2.2.2.1 v.2.2.2.2.1 v.2.2.2.2.2.1 v.2.2.2.2.2.2.1 v.2.2.2.2.2.2.2)
    (fun v => ∃ n l out, v = (q.Epoch, q.Other, q.First, q.Queue, n, l, q.SentAt, out) ∧ 0 ≤ n ∧ n ≤ 1099511627776 ∧ (∀ e ∈ l, e.Seq ≤ 1099511627775 ∧ e.Data.length ≤ 8000) ∧ out.length + l.length ≤ 3000 ∧ (runS n l).1 = (runS (q.Next + 1) q.Early).1 ∧ (runS n l).2.2 = (runS (q.Next + 1) q.Early).2.2 ∧ out ++ (runS n l).2.1 = d ++ [k.Data] ++ (runS (q.Next + 1) q.Early).2.1)
    (fun v => v.2.2.2.2.2.1.length)
    (fun x => x = (q.Epoch, q.Other, q.First, q.Queue, (runS (q.Next + 1) q.Early).1, (runS (q.Next + 1) q.Early).2.2, q.SentAt, d ++ [k.Data] ++ (runS (q.Next + 1) q.Early).2.1)) (by
      rintro v ⟨n, l, out, rfl, a1, a2, a3, a4, a5, a6, a7⟩
      show (∃ v', window_side_deliver_b1 q.Epoch q.Other q.First q.Queue n l q.SentAt out = some (.inl v') ∧ _) ∨ (∃ x, window_side_deliver_b1 q.Epoch q.Other q.First q.Queue n l q.SentAt out = some (.inr x) ∧ _)
      cases l with
      | nil =>
        right
        refine ⟨(q.Epoch, q.Other, q.First, q.Queue, n, [], q.SentAt, out), ?_, ?_⟩
        · rfl
        · rw [← a5, ← a6, ← a7]; simp [runS]
      | cons e r =>
        obtain ⟨b1, b2⟩ := a3 e (by simp)
        have hi0 : InR 0 (e :: r).length := by unfold InR; simp
        by_cases he : e.Seq = n
        · left
          have hs : window_side_deliver_b1 q.Epoch q.Other q.First q.Queue n (e :: r) q.SentAt out = some (.inl (q.Epoch, q.Other, q.First, q.Queue, n + 1, r, q.SentAt, out ++ [e.Data])) := by
            unfold window_side_deliver_b1
            rw [if_pos (by simp)]
            simp only [hi0, if_true, Option.bind_some]
            rw [if_pos (by show (e.Seq == n) = true; simpa using he), take_w (by show e.Data.length ≤ _; omega) (by simp at a4; omega) ⟨a1, a2⟩, Option.bind_some]
            simp only [lt1]
            rw [if_pos (by unfold InB; simp)]
            have : ((e :: r).drop 1).take ((e :: r).length - 1) = r := by simp
            simp only [this]
            rfl
          refine ⟨_, hs, ⟨n + 1, r, out ++ [e.Data], rfl, by omega, by omega, fun e' he' => a3 e' (by simp [he']), by simp at a4 ⊢; omega, ?_, ?_, ?_⟩, by simp⟩
          · rw [← a5, runS, if_pos he]
          · rw [← a6, runS, if_pos he]
          · rw [← a7]
            simp [runS, he]
        · right
          refine ⟨(q.Epoch, q.Other, q.First, q.Queue, n, e :: r, q.SentAt, out), ?_, ?_⟩
          · unfold window_side_deliver_b1
            rw [if_pos (by simp)]
            simp only [hi0, if_true, Option.bind_some]
            rw [if_neg (by show ¬ (e.Seq == n) = true; simpa using he)]
          · rw [← a5, ← a6, ← a7]; simp [runS, he]) (v0 := (q.Epoch, q.Other, q.First, q.Queue, q.Next + 1, q.Early, q.SentAt, d ++ [k.Data]))
      ⟨q.Next + 1, q.Early, d ++ [k.Data], rfl, by have := h.n0; omega, by omega, h.el, by have := h.es; simp; omega, rfl, rfl, rfl⟩ (by have := h.es; simp; omega)
  rw [hx, Option.bind_some]
  simp

theorem acc_w (p : Api_Peer) (k : Api_Packet) (hs : p.Early.length ≤ 900) : window_Accept p k = some (accS p k) := by
  unfold window_Accept accS
  simp only [between_eq, Option.bind_some]
  have hf : (if bt k.Epoch 0 1073741824 = true then if bt k.Seq (-1) 1099511627775 = true then if bt k.Ack 0 1099511627776 = true then some (decide ((k.Data.length : Int) ≤ 8000)) else some false else some false else some false) = some (vPk k) := by
    unfold vPk
    cases bt k.Epoch 0 1073741824 <;> cases bt k.Seq (-1) 1099511627775 <;> cases bt k.Ack 0 1099511627776 <;> simp
  rw [hf, Option.bind_some, valid_eq p (by omega)]
  have hg : (if (!vPk k) = true then some true else (some (validS p)).bind fun y => if (!y) = true then some true else some (decide (k.Epoch < p.Other))) = some (!okA p k) := by
    unfold okA
    cases vPk k <;> cases validS p <;> cases decide (k.Epoch < p.Other) <;> rfl
  rw [hg, Option.bind_some]
  cases ho : okA p k
  case false => rfl
  have ho' := ho
  unfold okA at ho'
  simp only [Bool.and_eq_true, Bool.not_eq_true'] at ho'
  have hk := vk_of ho'.1.1
  have hv := reset_vd (k := k) (vd_of ho'.1.2 (by omega))
  have hE : (resetS p k).Epoch = p.Epoch := by unfold resetS; split <;> rfl
  have hl : (resetS p k).Early.length ≤ 900 := by unfold resetS; split <;> first | (simp; done) | exact hs
  simp only [Bool.not_true, Bool.false_eq_true, if_false, if_true, lt1]
  have hq : (if decide (k.Epoch > p.Other) = true then some (k.Epoch, (0 : Int), ([] : List (List UInt8)), (0 : Int), ([] : List Api_Packet), (-1 : Int)) else some (p.Other, p.First, p.Queue, p.Next, p.Early, p.SentAt)) =
      some ((resetS p k).Other, (resetS p k).First, (resetS p k).Queue, (resetS p k).Next, (resetS p k).Early, (resetS p k).SentAt) := by
    unfold resetS
    by_cases h : k.Epoch > p.Other
    · rw [if_pos (by simpa using h), if_pos h]
    · rw [if_neg (by simpa using h), if_neg h]
  rw [hq, ← hE]
  generalize resetS p k = q at *
  simp only [Option.bind_some]
  unfold stepS
  by_cases ht : k.To = q.Epoch
  case neg => rw [if_neg (by simpa using ht), if_neg ht]; rfl
  rw [if_pos (by simpa using ht), if_pos ht]
  have ha := ack_vd hv hk
  have hal : (ackS q k).Early.length ≤ 900 := by unfold ackS; split <;> exact hl
  rw [show ({ Peer := { Epoch := q.Epoch, Other := q.Other, First := q.First, Queue := q.Queue, Next := q.Next, Early := q.Early, SentAt := q.SentAt }, delivered := [] } : Window_side) = ⟨q, []⟩ from rfl, ack_w hv.m hk, Option.bind_some]
  simp only []
  rw [keep_w ha (by omega) hk, Option.bind_some]
  simp only []
  rw [del_w (keep_vm ha (by omega) hk) hk (by simp), Option.bind_some]
  rfl

theorem acc_r (p : Api_Peer) (k : Api_Packet) (hs : p.Early.length ≤ 900) : r12_Accept p k = some (accS p k) := by
  unfold r12_Accept accS
  have hp : r12_ValidPacket k = some (vPk k) := by
    unfold r12_ValidPacket vPk
    simp only [within_eq, Option.bind_some]
    cases bt k.Epoch 0 1073741824 <;> cases bt k.Seq (-1) 1099511627775 <;> cases bt k.Ack 0 1099511627776 <;> simp
  rw [valid_eq_r p (by omega), hp]
  simp only [Option.bind_some]
  have hg : (if (!validS p) = true then some true else if (!vPk k) = true then some true else some (decide (k.Epoch < p.Other))) = some (!okA p k) := by
    unfold okA
    cases vPk k <;> cases validS p <;> cases decide (k.Epoch < p.Other) <;> rfl
  rw [hg, Option.bind_some]
  cases ho : okA p k
  case false => rfl
  have ho' := ho
  unfold okA at ho'
  simp only [Bool.and_eq_true, Bool.not_eq_true'] at ho'
  have hk := vk_of ho'.1.1
  have hv := reset_vd (k := k) (vd_of ho'.1.2 (by omega))
  have hE : (resetS p k).Epoch = p.Epoch := by unfold resetS; split <;> rfl
  have hl : (resetS p k).Early.length ≤ 900 := by unfold resetS; split <;> first | (simp; done) | exact hs
  simp only [Bool.not_true, Bool.false_eq_true, if_false, if_true, lt1]
  have hq : (if decide (k.Epoch > p.Other) = true then some (k.Epoch, (0 : Int), ([] : List (List UInt8)), (0 : Int), ([] : List Api_Packet), (-1 : Int)) else some (p.Other, p.First, p.Queue, p.Next, p.Early, p.SentAt)) =
      some ((resetS p k).Other, (resetS p k).First, (resetS p k).Queue, (resetS p k).Next, (resetS p k).Early, (resetS p k).SentAt) := by
    unfold resetS
    by_cases h : k.Epoch > p.Other
    · rw [if_pos (by simpa using h), if_pos h]
    · rw [if_neg (by simpa using h), if_neg h]
  rw [hq, ← hE]
  generalize resetS p k = q at *
  simp only [Option.bind_some]
  unfold stepS
  by_cases ht : k.To = q.Epoch
  case neg => rw [if_pos (by simpa using ht), if_neg ht]
  rw [if_neg (by simpa using ht), if_pos ht]
  have := hv.f0; have := hv.f1; have := hv.q; have := hk.a0; have := hk.a1; have := hv.n0; have := hv.n1
  have hak : (if decide (q.First < k.Ack) = true then some (decide (k.Ack ≤ w64 (q.First + (q.Queue.length : Int)))) else some false) = some (decide (q.First < k.Ack ∧ k.Ack ≤ q.First + (q.Queue.length : Int))) := by
    rw [w64_id (by omega)]
    by_cases h1 : q.First < k.Ack <;> simp [h1]
  have ha : (if decide (q.First < k.Ack ∧ k.Ack ≤ q.First + (q.Queue.length : Int)) = true then (if InB (w64 (k.Ack - q.First)) q.Queue.length then some (k.Ack, (q.Queue.drop (w64 (k.Ack - q.First)).toNat).take (q.Queue.length - (w64 (k.Ack - q.First)).toNat), (-1 : Int)) else none) else some (q.First, q.Queue, q.SentAt)) =
      some ((ackS q k).First, (ackS q k).Queue, (ackS q k).SentAt) := by
    unfold ackS
    rw [w64_id (x := k.Ack - q.First) (by omega)]
    by_cases h1 : q.First < k.Ack ∧ k.Ack ≤ q.First + (q.Queue.length : Int)
    · rw [if_pos (by simpa using h1), if_pos (by unfold InB; omega), if_pos h1, List.take_of_length_le (by simp)]
    · rw [if_neg (by simpa using h1), if_neg h1]
  rw [hak, Option.bind_some, ha, Option.bind_some]
  have hav := ack_vd hv hk
  have hal : (ackS q k).Early.length ≤ 900 := by unfold ackS; split <;> exact hl
  have e1 : q.Next = (ackS q k).Next := by unfold ackS; split <;> rfl
  have e2 : q.Early = (ackS q k).Early := by unfold ackS; split <;> rfl
  have e3 : q.Epoch = (ackS q k).Epoch := by unfold ackS; split <;> rfl
  have e4 : q.Other = (ackS q k).Other := by unfold ackS; split <;> rfl
  rw [e1, e2, e3, e4]
  generalize ackS q k = a at *
  have := hav.n0; have := hav.n1
  have hke : ((if decide (a.Next < k.Seq) = true then some (decide (k.Seq < w64 (a.Next + 64))) else some false).bind fun t => if t = true then (r12_insert a.Early ({ Epoch := 0, To := 0, Seq := k.Seq, Ack := 0, Data := k.Data } : Api_Packet)).bind fun y => some y else some a.Early) = some (keepS a k).Early := by
    rw [w64_id (by omega)]
    unfold keepS
    by_cases h1 : a.Next < k.Seq
    · rw [if_pos (by simpa using h1), Option.bind_some]
      by_cases h2 : k.Seq < a.Next + 64
      · rw [if_pos (by simpa using h2), if_pos ⟨h1, h2⟩, insert_eq _ _ (by omega)]; rfl
      · rw [if_neg (by simpa using h2), if_neg (fun h => h2 h.2)]
    · rw [if_neg (by simpa using h1), Option.bind_some, if_neg (by simp), if_neg (fun h => h1 h.1)]
  rw [hke, Option.bind_some]
  have hkv := keep_vm hav (by omega) hk
  have f1 : a.Next = (keepS a k).Next := by unfold keepS; split <;> rfl
  have f2 : a.First = (keepS a k).First := by unfold keepS; split <;> rfl
  have f3 : a.Epoch = (keepS a k).Epoch := by unfold keepS; split <;> rfl
  have f4 : a.Other = (keepS a k).Other := by unfold keepS; split <;> rfl
  have f5 : a.Queue = (keepS a k).Queue := by unfold keepS; split <;> rfl
  have f6 : a.SentAt = (keepS a k).SentAt := by unfold keepS; split <;> rfl
  rw [f1, f2, f3, f4, f5, f6]
  generalize keepS a k = b at *
  unfold delS
  by_cases h1 : k.Seq = b.Next
  case neg =>
    rw [if_neg (by simpa using h1), if_neg h1]; rfl
  rw [if_pos (by simpa using h1), if_pos h1]
  have hn1 : b.Next ≤ 1099511627775 := by have := hk.s1; omega
  have hn0 := hkv.n0
  rw [w64_id (x := b.Next + 1) (by omega)]
  obtain ⟨x, hx, rfl⟩ := loopO_rule (f := fun v : Int × List Api_Packet × List (List UInt8) => r12_Accept_b1 v.1 v.2.1 v.2.2)
    (fun v => ∃ n l out, v = (n, l, out) ∧ 0 ≤ n ∧ n ≤ 1099511627776 ∧ (∀ e ∈ l, e.Seq ≤ 1099511627775 ∧ e.Data.length ≤ 8000) ∧ out.length + l.length ≤ 3000 ∧ (runS n l).1 = (runS (b.Next + 1) b.Early).1 ∧ (runS n l).2.2 = (runS (b.Next + 1) b.Early).2.2 ∧ out ++ (runS n l).2.1 = [k.Data] ++ (runS (b.Next + 1) b.Early).2.1)
    (fun v => v.2.1.length)
    (fun x => x = ((runS (b.Next + 1) b.Early).1, (runS (b.Next + 1) b.Early).2.2, [k.Data] ++ (runS (b.Next + 1) b.Early).2.1)) (by
      rintro v ⟨n, l, out, rfl, a1, a2, a3, a4, a5, a6, a7⟩
      show (∃ v', r12_Accept_b1 n l out = some (.inl v') ∧ _) ∨ (∃ x, r12_Accept_b1 n l out = some (.inr x) ∧ _)
      cases l with
      | nil =>
        right
        refine ⟨(n, [], out), rfl, ?_⟩
        rw [← a5, ← a6, ← a7]; simp [runS]
      | cons e r =>
        obtain ⟨b1, b2⟩ := a3 e (by simp)
        have hi0 : InR 0 (e :: r).length := by unfold InR; simp
        by_cases he : e.Seq = n
        · left
          have hs : r12_Accept_b1 n (e :: r) out = some (.inl (n + 1, r, out ++ [e.Data])) := by
            unfold r12_Accept_b1
            rw [if_pos (by simp)]
            simp only [hi0, if_true, Option.bind_some, lt1]
            rw [if_pos (by show (e.Seq == n) = true; simpa using he), if_pos (fits24 (by simp at a4; omega)), if_pos (by unfold InB; simp), w64_id (by omega)]
            have : ((e :: r).drop 1).take ((e :: r).length - 1) = r := by simp
            simp only [this]
            rfl
          refine ⟨_, hs, ⟨n + 1, r, out ++ [e.Data], rfl, by omega, by omega, fun e' he' => a3 e' (by simp [he']), by simp at a4 ⊢; omega, ?_, ?_, ?_⟩, by simp⟩
          · rw [← a5, runS, if_pos he]
          · rw [← a6, runS, if_pos he]
          · rw [← a7]
            simp [runS, he]
        · right
          refine ⟨(n, e :: r, out), ?_, ?_⟩
          · unfold r12_Accept_b1
            rw [if_pos (by simp)]
            simp only [hi0, if_true, Option.bind_some]
            rw [if_neg (by show ¬ (e.Seq == n) = true; simpa using he)]
          · rw [← a5, ← a6, ← a7]; simp [runS, he]) (v0 := (b.Next + 1, b.Early, [k.Data]))
      ⟨b.Next + 1, b.Early, [k.Data], rfl, by omega, by omega, hkv.el, by have := hkv.es; simp; omega, rfl, rfl, rfl⟩ (by have := hkv.es; simp; omega)
  rw [hx]
  rfl
end Go.Proofs.Ytomjphpnpcgacaa
/-
  The laws WindowMatchesAccept and WindowTwice, in plain Lean.
-/
namespace Go.Proofs.Ytomjphpnpcgacaa
open Go.Rv
set_option linter.unusedVariables false
set_option linter.unusedSimpArgs false

theorem runS_len (l : List Api_Packet) : ∀ n, (runS n l).2.1.length + (runS n l).2.2.length = l.length := by
  induction l with
  | nil => intro n; rfl
  | cons e r ih =>
    intro n
    unfold runS
    split
    · have := ih (n + 1); simp; omega
    · simp
theorem runS_ge (l : List Api_Packet) : ∀ n, n ≤ (runS n l).1 := by
  induction l with
  | nil => intro n; exact Int.le_refl _
  | cons e r ih =>
    intro n
    unfold runS
    split
    · have := ih (n + 1); simp only; omega
    · exact Int.le_refl _

theorem reset_len (p : Api_Peer) (k : Api_Packet) : (resetS p k).Queue.length ≤ p.Queue.length ∧ (resetS p k).Early.length ≤ p.Early.length := by
  unfold resetS; split <;> simp
theorem ack_len (p : Api_Peer) (k : Api_Packet) : (ackS p k).Queue.length ≤ p.Queue.length ∧ (ackS p k).Early.length ≤ p.Early.length := by
  unfold ackS; split <;> simp
theorem keep_len (p : Api_Peer) (k : Api_Packet) : (keepS p k).Queue.length ≤ p.Queue.length ∧ (keepS p k).Early.length ≤ p.Early.length + 1 := by
  unfold keepS; split
  · exact ⟨Nat.le_refl _, insS_len _ _⟩
  · simp
theorem del_len (p : Api_Peer) (k : Api_Packet) : (delS p k).1.Queue.length ≤ p.Queue.length ∧ (delS p k).1.Early.length ≤ p.Early.length ∧ (delS p k).2.length ≤ p.Early.length + 1 := by
  unfold delS; split
  · have := runS_len p.Early (p.Next + 1)
    simp only [List.length_cons]; omega
  · simp
theorem acc_len (p : Api_Peer) (k : Api_Packet) : (accS p k).1.Queue.length ≤ p.Queue.length ∧ (accS p k).1.Early.length ≤ p.Early.length + 1 ∧ (accS p k).2.1.length ≤ p.Early.length + 2 := by
  unfold accS
  split
  · unfold stepS
    have h1 := reset_len p k
    split
    · have h2 := ack_len (resetS p k) k
      have h3 := keep_len (ackS (resetS p k) k) k
      have h4 := del_len (keepS (ackS (resetS p k) k) k) k
      simp only; omega
    · simp; omega
  · simp

theorem law_accept (p : Api_Peer) (k : Api_Packet) : law12_WindowMatchesAccept p k = some true := by
  unfold law12_WindowMatchesAccept
  rw [sane_ok, Option.bind_some, if_neg (by simp)]
  obtain ⟨b, hb, hf⟩ := few_eq p
  rw [hb, Option.bind_some]
  cases b
  case false => rfl
  obtain ⟨h1, h2⟩ := hf rfl
  rw [if_neg (by simp), Option.bind_some]
  by_cases hd : k.Data.length ≤ 20000
  case neg => rw [if_pos (by simp; omega)]
  rw [if_neg (by simp; omega), acc_w p k (by omega), acc_r p k (by omega)]
  obtain ⟨l1, l2, l3⟩ := acc_len p k
  simp only [Option.bind_some]
  rw [same_same _ (by omega) (by omega), Option.bind_some, if_pos rfl, msgs_same _ (by omega)]
  simp

theorem insS_twice (l : List Api_Packet) (x : Api_Packet) : insS (insS l x) x = insS l x := by
  induction l with
  | nil => simp [insS]
  | cons e r ih =>
    by_cases h1 : e.Seq < x.Seq
    · simp [insS, h1, ih]
    · by_cases h2 : e.Seq = x.Seq
      · simp [insS, h2]
      · simp [insS, h1, h2]

theorem acc_twice (p : Api_Peer) (k : Api_Packet) : accS (accS p k).1 k = ((accS p k).1, [], false) := by
  by_cases ho : okA p k = true
  case neg =>
    have : accS p k = (p, [], false) := by unfold accS; rw [if_neg ho]
    rw [this, this]
  have e1 : (accS p k).1 = (stepS (resetS p k) k).1 := by unfold accS; rw [if_pos ho]
  rw [e1]
  have hoth : (resetS p k).Other = k.Epoch := by
    have h2 : ¬ (k.Epoch < p.Other) := by
      unfold okA at ho
      simp only [Bool.and_eq_true, Bool.not_eq_true', decide_eq_false_iff_not] at ho
      exact ho.2
    unfold resetS
    split
    · rfl
    · omega
  generalize resetS p k = q at hoth
  by_cases hx : okA (stepS q k).1 k = true
  case neg => unfold accS; rw [if_neg hx]
  unfold accS
  rw [if_pos hx]
  by_cases ht : k.To = q.Epoch
  case neg =>
    have e2 : stepS q k = (q, []) := by unfold stepS; rw [if_neg ht]
    rw [e2]
    have e3 : resetS q k = q := by unfold resetS; rw [if_neg (by omega)]
    rw [e3, e2]
    have : decide (k.Epoch > q.Other) = false := by simp; omega
    rw [this]
  have e2 : stepS q k = delS (keepS (ackS q k) k) k := by unfold stepS; rw [if_pos ht]
  rw [e2]
  have key : ∀ a : Api_Peer, a.Epoch = q.Epoch → a.Other = q.Other → ackS a k = a → ∀ x, x = (delS (keepS a k) k).1 → resetS x k = x ∧ decide (k.Epoch > x.Other) = false ∧ x.Epoch = q.Epoch ∧ ackS x k = x ∧ keepS x k = x ∧ delS x k = (x, []) := by
    intro a h1 h2 h3 x hx
    have k1 : (keepS a k).Next = a.Next := by unfold keepS; split <;> rfl
    have k2 : (keepS a k).First = a.First := by unfold keepS; split <;> rfl
    have k3 : (keepS a k).Epoch = a.Epoch := by unfold keepS; split <;> rfl
    have k4 : (keepS a k).Other = a.Other := by unfold keepS; split <;> rfl
    have k5 : (keepS a k).Queue = a.Queue := by unfold keepS; split <;> rfl
    have hnack : ¬ (a.First < k.Ack ∧ k.Ack ≤ a.First + (a.Queue.length : Int)) := by
      intro hh
      unfold ackS at h3
      rw [if_pos hh] at h3
      have := congrArg Api_Peer.First h3
      simp only at this
      omega
    have d1 : x.First = a.First := by rw [hx]; unfold delS; split <;> exact k2
    have d2 : x.Queue = a.Queue := by rw [hx]; unfold delS; split <;> exact k5
    have d3 : x.Epoch = a.Epoch := by rw [hx]; unfold delS; split <;> exact k3
    have d4 : x.Other = a.Other := by rw [hx]; unfold delS; split <;> exact k4
    refine ⟨by unfold resetS; rw [if_neg (by omega)], by simp; omega, by rw [d3, h1], by unfold ackS; rw [d1, d2, if_neg hnack], ?_⟩
    by_cases hs : k.Seq = (keepS a k).Next
    · have d5 : x.Next = (runS ((keepS a k).Next + 1) (keepS a k).Early).1 := by rw [hx]; unfold delS; rw [if_pos hs]
      have := runS_ge (keepS a k).Early ((keepS a k).Next + 1)
      constructor
      · unfold keepS; rw [if_neg (by omega)]
      · unfold delS; rw [if_neg (by omega)]
    · have d5 : x = keepS a k := by rw [hx]; unfold delS; rw [if_neg hs]
      constructor
      · rw [d5]
        by_cases hc : a.Next < k.Seq ∧ k.Seq < a.Next + 64
        · have : keepS a k = { a with Early := insS a.Early (newE k) } := by unfold keepS; rw [if_pos hc]
          rw [this]
          unfold keepS
          rw [if_pos (by simpa using hc)]
          simp only [insS_twice]
        · have : keepS a k = a := by unfold keepS; rw [if_neg hc]
          rw [this, this]
      · rw [d5]; unfold delS; rw [if_neg hs]
  have ha1 : (ackS q k).Epoch = q.Epoch := by unfold ackS; split <;> rfl
  have ha2 : (ackS q k).Other = q.Other := by unfold ackS; split <;> rfl
  have ha3 : ackS (ackS q k) k = ackS q k := by
    by_cases hc : q.First < k.Ack ∧ k.Ack ≤ q.First + (q.Queue.length : Int)
    · have : ackS q k = { q with First := k.Ack, Queue := q.Queue.drop (k.Ack - q.First).toNat, SentAt := -1 } := by unfold ackS; rw [if_pos hc]
      rw [this]
      unfold ackS
      rw [if_neg (by simp)]
    · have : ackS q k = q := by unfold ackS; rw [if_neg hc]
      rw [this, this]
  obtain ⟨r1, r2, r3, r4, r5, r6⟩ := key (ackS q k) ha1 ha2 ha3 _ rfl
  rw [r1, r2]
  have : stepS (delS (keepS (ackS q k) k) k).1 k = ((delS (keepS (ackS q k) k) k).1, []) := by
    unfold stepS
    rw [if_pos (by rw [r3]; exact ht), r4, r5, r6]
  rw [this]

theorem law_twice (p : Api_Peer) (k : Api_Packet) : law12_WindowTwice p k = some true := by
  unfold law12_WindowTwice
  rw [sane_ok, Option.bind_some, if_neg (by simp)]
  obtain ⟨b, hb, hf⟩ := few_eq p
  rw [hb, Option.bind_some]
  cases b
  case false => rfl
  obtain ⟨h1, h2⟩ := hf rfl
  rw [if_neg (by simp), Option.bind_some]
  by_cases hd : k.Data.length ≤ 20000
  case neg => rw [if_pos (by simp; omega)]
  obtain ⟨l1, l2, l3⟩ := acc_len p k
  rw [if_neg (by simp; omega), acc_w p k (by omega), Option.bind_some, acc_w _ k (by omega), acc_twice]
  simp only [Option.bind_some]
  rw [same_same _ (by omega) (by omega), Option.bind_some, if_pos rfl]
  rfl
end Go.Proofs.Ytomjphpnpcgacaa
/-
  Readings of arguments of chapter 12.
-/
namespace Go.Proofs.Ytomjphpnpcgacaa
open Go.Rv Go.ChangeShapes Go.WideShapes Go.ChangeAt Go.RowKit
set_option linter.unusedVariables false

theorem bulk_all (H : Type) (l : List (DataW H)) : (l.map (Rows.uptoBulk (H := H))).sum = Rows.uptoBulkAll l := by
  induction l with
  | nil => rfl
  | cons x l ih => simp only [List.map_cons, List.sum_cons, ih, Rows.uptoBulkAll]

theorem bulk_ok : BulkOk (fun H => Rows.uptoBulk (H := H)) where
  one := fun H d => by
    cases d with
    | lit l => cases l <;> simp [Rows.uptoBulk]
    | _ => simp [Rows.uptoBulk]
  str := fun H l => by simp [Rows.uptoBulk]
  slice := fun H e s => by rw [bulk_all]; simp only [Rows.uptoBulk]; omega
  agg := fun H p => by rw [bulk_all]; simp only [Rows.uptoBulk]; omega

theorem cells_of_3 : Try.prog.cellsOf 3 = 1 := by kernel_rfl
theorem cells_of_5 : Try.prog.cellsOf 5 = 1 := by kernel_rfl
theorem cells_of_26 : Try.prog.cellsOf 26 = 1 := by kernel_rfl
theorem cells_of_22 : Try.prog.cellsOf 22 = 1 := by kernel_rfl
theorem cells_of_23 : Try.prog.cellsOf 23 = 1 := by kernel_rfl
theorem cells_of_39 : Try.prog.cellsOf 39 = 5 := by kernel_rfl
theorem cells_of_25 : Try.prog.cellsOf 25 = 7 := by kernel_rfl
theorem opens3 : Opens Try.prog (fun H => Rows.uptoBulk (H := H)) 3 cI64 (fun _ => 1) (fun x => -9223372036854775808 ≤ x ∧ x ≤ 9223372036854775807) := opens_i64 bulk_ok Try.underlying3
theorem opens26 : Opens Try.prog (fun H => Rows.uptoBulk (H := H)) 26 (cSl cU8) (fun _ => 0) (fun _ => True) :=
  fun H enc W pr hpr fuel cs d ps h => by
    obtain ⟨x, h1, _, _, h4⟩ := opens_slice bulk_ok Try.underlying26 cells_of_5 (fun _ => rfl) (opens_u8 bulk_ok Try.underlying5) H enc W pr hpr fuel cs d ps h
    exact ⟨x, h1, Nat.zero_le _, trivial, h4⟩
theorem opens22 : Opens Try.prog (fun H => Rows.uptoBulk (H := H)) 22 (cSl (cSl cU8)) (fun _ => 0) (fun _ => True) :=
  fun H enc W pr hpr fuel cs d ps h => by
    obtain ⟨x, h1, _, _, h4⟩ := opens_slice bulk_ok Try.underlying22 cells_of_26 (fun _ => rfl) opens26 H enc W pr hpr fuel cs d ps h
    exact ⟨x, h1, Nat.zero_le _, trivial, h4⟩
theorem opens39 : Opens Try.prog (fun H => Rows.uptoBulk (H := H)) 39 cApi_Packet (fun _ => 0) (fun _ => True) :=
  opens_struct bulk_ok Try.underlying39 (n := 5) cells_of_39
    (opensFs_cons (k := 1) rfl cells_of_3 (fun _ => rfl) opens3 (opensFs_cons (k := 1) rfl cells_of_3 (fun _ => rfl) opens3 (opensFs_cons (k := 1) rfl cells_of_3 (fun _ => rfl) opens3 (opensFs_cons (k := 1) rfl cells_of_3 (fun _ => rfl) opens3 (opensFs_cons (k := 1) rfl cells_of_26 (fun _ => rfl) opens26 opensFs_nil)))))
    (fun x => (⟨x.1, x.2.1, x.2.2.1, x.2.2.2.1, x.2.2.2.2.1⟩ : Api_Packet)) (fun _ => rfl) (fun _ => rfl) (fun _ => Nat.zero_le _) (fun _ _ => trivial)
theorem opens23 : Opens Try.prog (fun H => Rows.uptoBulk (H := H)) 23 (cSl cApi_Packet) (fun _ => 0) (fun _ => True) :=
  fun H enc W pr hpr fuel cs d ps h => by
    obtain ⟨x, h1, _, _, h4⟩ := opens_slice bulk_ok Try.underlying23 cells_of_39 (fun _ => rfl) opens39 H enc W pr hpr fuel cs d ps h
    exact ⟨x, h1, Nat.zero_le _, trivial, h4⟩
theorem opens25 : Opens Try.prog (fun H => Rows.uptoBulk (H := H)) 25 cApi_Peer (fun _ => 0) (fun _ => True) :=
  opens_struct bulk_ok Try.underlying25 (n := 7) cells_of_25
    (opensFs_cons (k := 1) rfl cells_of_3 (fun _ => rfl) opens3 (opensFs_cons (k := 1) rfl cells_of_3 (fun _ => rfl) opens3 (opensFs_cons (k := 1) rfl cells_of_3 (fun _ => rfl) opens3 (opensFs_cons (k := 1) rfl cells_of_22 (fun _ => rfl) opens22 (opensFs_cons (k := 1) rfl cells_of_3 (fun _ => rfl) opens3 (opensFs_cons (k := 1) rfl cells_of_23 (fun _ => rfl) opens23 (opensFs_cons (k := 1) rfl cells_of_3 (fun _ => rfl) opens3 opensFs_nil)))))))
    (fun x => (⟨x.1, x.2.1, x.2.2.1, x.2.2.2.1, x.2.2.2.2.1, x.2.2.2.2.2.1, x.2.2.2.2.2.2.1⟩ : Api_Peer)) (fun _ => rfl) (fun _ => rfl) (fun _ => Nat.zero_le _) (fun _ _ => trivial)

theorem opens58 : Opens Try.prog (fun H => Rows.uptoBulk (H := H)) 58 (cSl cI64) (fun _ => 0) (fun _ => True) :=
  fun H enc W pr hpr fuel cs d ps h => by
    obtain ⟨x, h1, _, _, h4⟩ := opens_slice bulk_ok Try.underlying58 cells_of_3 (fun _ => rfl) opens3 H enc W pr hpr fuel cs d ps h
    exact ⟨x, h1, Nat.zero_le _, trivial, h4⟩

theorem own : ownKnob Try.prog.godebug = none := by kernel_rfl
theorem laid_ok : laidOutB Try.prog = true := by kernel_rfl
theorem G_none : ∀ i, B.G i = none := fun _ => rfl
end Go.Proofs.Ytomjphpnpcgacaa
