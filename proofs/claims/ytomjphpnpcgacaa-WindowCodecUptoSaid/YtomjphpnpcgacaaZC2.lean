/-
  The library and the walks, part 2.
-/
import Derived.Test.YtomjphpnpcgacaaZC1
import Derived.KernelRfl
/-
  The functions compute just that.
-/
namespace Go.Proofs.Ytomjphpnpcgacaa
open Go.Rv
set_option linter.unusedVariables false
set_option linter.unusedSimpArgs false
set_option maxRecDepth 20000
set_option maxHeartbeats 4000000

theorem law12_sane_con  {r : Bool} (h : law12_sane  = some r) : Con B 10 [] [] (fun r' σ' => r' = .bool r ∧ σ' = []) := by
  refine con_walk (N := 206) (rs := [.tmp 0]) ok Try.func10 rfl (by decide +kernel) rfl rfl (Nat.le_of_ble_eq_true rfl) (fun F => ?_)
  have hE := ok.env F
  unfold law12_sane at h
  show Run (B.env F) 0 _ ⟨asFr 206 [], []⟩ _
  refine run_wkP ?_
  refine run_textE hE [] (fr' := []) (σ' := []) ⟨_, orcs_nil, ?_⟩ ?_
  · simp only [go_sem]
  replace h := bind_some1 h; obtain ⟨y_630, hy_631, h⟩ := h
  refine run_textE hE [1, 2] (fr' := [(1, .ref 0 0), (2, i64 y_630.2)]) (σ' := [.box [i64 y_630.1.Epoch, i64 y_630.1.Other, i64 y_630.1.First, .sl false (L (cSl cU8) y_630.1.Queue), i64 y_630.1.Next, .sl false (L cApi_Packet y_630.1.Early), i64 y_630.1.SentAt] false]) ⟨_, orcs_ok (l := [(22, 12, [i64 3], .tup [.agg [i64 y_630.1.Epoch, i64 y_630.1.Other, i64 y_630.1.First, .sl false (L (cSl cU8) y_630.1.Queue), i64 y_630.1.Next, .sl false (L cApi_Packet y_630.1.Early), i64 y_630.1.SentAt], i64 y_630.2])]) ⟨window_New_con  hy_631, trivial⟩, ?_⟩ ?_
  · simp only [go_sem, Nat.reduceLeDiff]
  replace h := bind_some1 h; obtain ⟨y_632, hy_633, h⟩ := h
  refine run_textE hE [1, 2, 3, 4] (fr' := [(1, .ref 0 0), (2, i64 y_630.2), (3, .ref 1 0), (4, i64 y_632.2)]) (σ' := [.box [i64 y_630.1.Epoch, i64 y_630.1.Other, i64 y_630.1.First, .sl false (L (cSl cU8) y_630.1.Queue), i64 y_630.1.Next, .sl false (L cApi_Packet y_630.1.Early), i64 y_630.1.SentAt] false, .box [i64 y_632.1.Epoch, i64 y_632.1.Other, i64 y_632.1.First, .sl false (L (cSl cU8) y_632.1.Queue), i64 y_632.1.Next, .sl false (L cApi_Packet y_632.1.Early), i64 y_632.1.SentAt] false]) ⟨_, orcs_ok (l := [(26, 12, [i64 5], .tup [.agg [i64 y_632.1.Epoch, i64 y_632.1.Other, i64 y_632.1.First, .sl false (L (cSl cU8) y_632.1.Queue), i64 y_632.1.Next, .sl false (L cApi_Packet y_632.1.Early), i64 y_632.1.SentAt], i64 y_632.2])]) ⟨window_New_con  hy_633, trivial⟩, ?_⟩ ?_
  · simp only [go_sem, Nat.reduceLeDiff]
  replace h := bind_some1 h; obtain ⟨y_634, hy_635, h⟩ := h
  refine run_textE hE [1, 2, 3, 4, 6] (fr' := [(1, .ref 0 0), (2, i64 y_630.2), (3, .ref 1 0), (4, i64 y_632.2), (6, i64 y_634.2)]) (σ' := [.box [i64 y_630.1.Epoch, i64 y_630.1.Other, i64 y_630.1.First, .sl false (L (cSl cU8) y_630.1.Queue), i64 y_630.1.Next, .sl false (L cApi_Packet y_630.1.Early), i64 y_630.1.SentAt] false, .box [i64 y_632.1.Epoch, i64 y_632.1.Other, i64 y_632.1.First, .sl false (L (cSl cU8) y_632.1.Queue), i64 y_632.1.Next, .sl false (L cApi_Packet y_632.1.Early), i64 y_632.1.SentAt] false, .box [i64 y_634.1.Epoch, i64 y_634.1.Other, i64 y_634.1.First, .sl false (L (cSl cU8) y_634.1.Queue), i64 y_634.1.Next, .sl false (L cApi_Packet y_634.1.Early), i64 y_634.1.SentAt] false]) ⟨_, orcs_ok (l := [(30, 12, [i64 ((-1))], .tup [.agg [i64 y_634.1.Epoch, i64 y_634.1.Other, i64 y_634.1.First, .sl false (L (cSl cU8) y_634.1.Queue), i64 y_634.1.Next, .sl false (L cApi_Packet y_634.1.Early), i64 y_634.1.SentAt], i64 y_634.2])]) ⟨window_New_con  hy_635, trivial⟩, ?_⟩ ?_
  · simp only [go_sem, Nat.reduceLeDiff]
  replace h := bind_some1 h; obtain ⟨y_636, hy_637, h⟩ := h
  refine run_textE hE [1, 2, 3, 4, 6, 7] (fr' := [(1, .ref 0 0), (2, i64 y_630.2), (3, .ref 1 0), (4, i64 y_632.2), (6, i64 y_634.2), (7, .sl false (L cApi_Packet y_636.2))]) (σ' := [.box [i64 y_636.1.Epoch, i64 y_636.1.Other, i64 y_636.1.First, .sl false (L (cSl cU8) y_636.1.Queue), i64 y_636.1.Next, .sl false (L cApi_Packet y_636.1.Early), i64 y_636.1.SentAt] false, .box [i64 y_632.1.Epoch, i64 y_632.1.Other, i64 y_632.1.First, .sl false (L (cSl cU8) y_632.1.Queue), i64 y_632.1.Next, .sl false (L cApi_Packet y_632.1.Early), i64 y_632.1.SentAt] false, .box [i64 y_634.1.Epoch, i64 y_634.1.Other, i64 y_634.1.First, .sl false (L (cSl cU8) y_634.1.Queue), i64 y_634.1.Next, .sl false (L cApi_Packet y_634.1.Early), i64 y_634.1.SentAt] false]) ⟨_, orcs_ok (l := [(35, 16, [.agg [i64 y_630.1.Epoch, i64 y_630.1.Other, i64 y_630.1.First, .sl false (L (cSl cU8) y_630.1.Queue), i64 y_630.1.Next, .sl false (L cApi_Packet y_630.1.Early), i64 y_630.1.SentAt], i64 0], .tup [.agg [i64 y_636.1.Epoch, i64 y_636.1.Other, i64 y_636.1.First, .sl false (L (cSl cU8) y_636.1.Queue), i64 y_636.1.Next, .sl false (L cApi_Packet y_636.1.Early), i64 y_636.1.SentAt], .sl false (L cApi_Packet y_636.2)])]) ⟨window_Emit_con  hy_637, trivial⟩, ?_⟩ ?_
  · simp only [go_sem, Nat.reduceLeDiff]
  refine run_seq ?_
  replace h := bind_some1 h; obtain ⟨t_639, hv_640, h⟩ := h
  refine run_textW hE [1, 3, 7, 60] (fr' := [(1, .ref 0 0), (3, .ref 1 0), (7, .sl false (L cApi_Packet y_636.2)), (60, .bool t_639)]) (σ' := [.box [i64 y_636.1.Epoch, i64 y_636.1.Other, i64 y_636.1.First, .sl false (L (cSl cU8) y_636.1.Queue), i64 y_636.1.Next, .sl false (L cApi_Packet y_636.1.Early), i64 y_636.1.SentAt] false, .box [i64 y_632.1.Epoch, i64 y_632.1.Other, i64 y_632.1.First, .sl false (L (cSl cU8) y_632.1.Queue), i64 y_632.1.Next, .sl false (L cApi_Packet y_632.1.Early), i64 y_632.1.SentAt] false]) ?_ ?_
  · rcases Bool.eq_false_or_eq_true ((y_630.2 != 0)) with hb_641 | hb_641
    · replace hv_640 := ite_t hv_640 hb_641
      have e_hv_640 := Option.some.inj hv_640; subst e_hv_640
      exact ⟨_, [(1, .ref 0 0), (3, .ref 1 0), (7, .sl false (L cApi_Packet y_636.2)), (60, .bool true)], [.box [i64 y_636.1.Epoch, i64 y_636.1.Other, i64 y_636.1.First, .sl false (L (cSl cU8) y_636.1.Queue), i64 y_636.1.Next, .sl false (L cApi_Packet y_636.1.Early), i64 y_636.1.SentAt] false, .box [i64 y_632.1.Epoch, i64 y_632.1.Other, i64 y_632.1.First, .sl false (L (cSl cU8) y_632.1.Queue), i64 y_632.1.Next, .sl false (L cApi_Packet y_632.1.Early), i64 y_632.1.SentAt] false, .box [i64 y_634.1.Epoch, i64 y_634.1.Other, i64 y_634.1.First, .sl false (L (cSl cU8) y_634.1.Queue), i64 y_634.1.Next, .sl false (L cApi_Packet y_634.1.Early), i64 y_634.1.SentAt] false], orcs_nil, by simp only [go_sem, Nat.reduceGT, Int.reduceToNat, hb_641], (weak_sel [0, 1] (by decide) rfl (by simp only [go_sem]) (by simp only [go_sem]))⟩
    · replace hv_640 := ite_f hv_640 hb_641
      rcases Bool.eq_false_or_eq_true ((y_632.2 != 0)) with hb_642 | hb_642
      · replace hv_640 := ite_t hv_640 hb_642
        have e_hv_640 := Option.some.inj hv_640; subst e_hv_640
        exact ⟨_, [(1, .ref 0 0), (3, .ref 1 0), (7, .sl false (L cApi_Packet y_636.2)), (60, .bool true)], [.box [i64 y_636.1.Epoch, i64 y_636.1.Other, i64 y_636.1.First, .sl false (L (cSl cU8) y_636.1.Queue), i64 y_636.1.Next, .sl false (L cApi_Packet y_636.1.Early), i64 y_636.1.SentAt] false, .box [i64 y_632.1.Epoch, i64 y_632.1.Other, i64 y_632.1.First, .sl false (L (cSl cU8) y_632.1.Queue), i64 y_632.1.Next, .sl false (L cApi_Packet y_632.1.Early), i64 y_632.1.SentAt] false, .box [i64 y_634.1.Epoch, i64 y_634.1.Other, i64 y_634.1.First, .sl false (L (cSl cU8) y_634.1.Queue), i64 y_634.1.Next, .sl false (L cApi_Packet y_634.1.Early), i64 y_634.1.SentAt] false], orcs_nil, by simp only [go_sem, Nat.reduceGT, Int.reduceToNat, hb_641, hb_642], (weak_sel [0, 1] (by decide) rfl (by simp only [go_sem]) (by simp only [go_sem]))⟩
      · replace hv_640 := ite_f hv_640 hb_642
        rcases Bool.eq_false_or_eq_true ((y_634.2 != 1)) with hb_643 | hb_643
        · replace hv_640 := ite_t hv_640 hb_643
          have e_hv_640 := Option.some.inj hv_640; subst e_hv_640
          exact ⟨_, [(1, .ref 0 0), (3, .ref 1 0), (7, .sl false (L cApi_Packet y_636.2)), (60, .bool true)], [.box [i64 y_636.1.Epoch, i64 y_636.1.Other, i64 y_636.1.First, .sl false (L (cSl cU8) y_636.1.Queue), i64 y_636.1.Next, .sl false (L cApi_Packet y_636.1.Early), i64 y_636.1.SentAt] false, .box [i64 y_632.1.Epoch, i64 y_632.1.Other, i64 y_632.1.First, .sl false (L (cSl cU8) y_632.1.Queue), i64 y_632.1.Next, .sl false (L cApi_Packet y_632.1.Early), i64 y_632.1.SentAt] false, .box [i64 y_634.1.Epoch, i64 y_634.1.Other, i64 y_634.1.First, .sl false (L (cSl cU8) y_634.1.Queue), i64 y_634.1.Next, .sl false (L cApi_Packet y_634.1.Early), i64 y_634.1.SentAt] false], orcs_nil, by simp only [go_sem, Nat.reduceGT, Int.reduceToNat, hb_641, hb_642, hb_643], (weak_sel [0, 1] (by decide) rfl (by simp only [go_sem]) (by simp only [go_sem]))⟩
        · replace hv_640 := ite_f hv_640 hb_643
          rcases Bool.eq_false_or_eq_true (((y_636.2.length : Int) != 1)) with hb_644 | hb_644
          · replace hv_640 := ite_t hv_640 hb_644
            have e_hv_640 := Option.some.inj hv_640; subst e_hv_640
            exact ⟨_, [(1, .ref 0 0), (3, .ref 1 0), (7, .sl false (L cApi_Packet y_636.2)), (60, .bool true)], [.box [i64 y_636.1.Epoch, i64 y_636.1.Other, i64 y_636.1.First, .sl false (L (cSl cU8) y_636.1.Queue), i64 y_636.1.Next, .sl false (L cApi_Packet y_636.1.Early), i64 y_636.1.SentAt] false, .box [i64 y_632.1.Epoch, i64 y_632.1.Other, i64 y_632.1.First, .sl false (L (cSl cU8) y_632.1.Queue), i64 y_632.1.Next, .sl false (L cApi_Packet y_632.1.Early), i64 y_632.1.SentAt] false, .box [i64 y_634.1.Epoch, i64 y_634.1.Other, i64 y_634.1.First, .sl false (L (cSl cU8) y_634.1.Queue), i64 y_634.1.Next, .sl false (L cApi_Packet y_634.1.Early), i64 y_634.1.SentAt] false], orcs_nil, by simp only [go_sem, Nat.reduceGT, Int.reduceToNat, hb_641, hb_642, hb_643, hb_644], (weak_sel [0, 1] (by decide) rfl (by simp only [go_sem]) (by simp only [go_sem]))⟩
          · replace hv_640 := ite_f hv_640 hb_644
            replace hv_640 := chk_some hv_640; obtain ⟨hc_645, hv_640⟩ := hv_640
            replace hv_640 := bind_some1 hv_640; obtain ⟨y_638, hy_646, hv_640⟩ := hv_640
            have e_hv_640 := Option.some.inj hv_640; subst e_hv_640
            exact ⟨_, [(1, .ref 0 0), (3, .ref 1 0), (7, .sl false (L cApi_Packet y_636.2)), (60, .bool ((!y_638)))], [.box [i64 y_636.1.Epoch, i64 y_636.1.Other, i64 y_636.1.First, .sl false (L (cSl cU8) y_636.1.Queue), i64 y_636.1.Next, .sl false (L cApi_Packet y_636.1.Early), i64 y_636.1.SentAt] false, .box [i64 y_632.1.Epoch, i64 y_632.1.Other, i64 y_632.1.First, .sl false (L (cSl cU8) y_632.1.Queue), i64 y_632.1.Next, .sl false (L cApi_Packet y_632.1.Early), i64 y_632.1.SentAt] false, .box [i64 y_634.1.Epoch, i64 y_634.1.Other, i64 y_634.1.First, .sl false (L (cSl cU8) y_634.1.Queue), i64 y_634.1.Next, .sl false (L cApi_Packet y_634.1.Early), i64 y_634.1.SentAt] false], orcs_ok (l := [(58, 30, [.agg [i64 ((nth y_636.2 0).Epoch), i64 ((nth y_636.2 0).To), i64 ((nth y_636.2 0).Seq), i64 ((nth y_636.2 0).Ack), .sl false (L cU8 ((nth y_636.2 0).Data))], .agg [i64 3, i64 ((-1)), i64 ((-1)), i64 0, .sl false (L cU8 ([]))]], .bool y_638)]) ⟨r12_SamePacket_con  hy_646, trivial⟩, by simp only [go_sem, Nat.reduceGT, Int.reduceToNat, hb_641, hb_642, hb_643, hb_644, hc_645, (show 0 < y_636.2.length from hc_645.2)], (weak_sel [0, 1] (by decide) rfl (by simp only [go_sem]) (by simp only [go_sem]))⟩
  refine run_condL (b := t_639) rfl (by decide) (fun hb => ?_) (fun hb => ?_)
  · replace h := ite_t h hb
    refine run_textE hE [0] (fr' := [(0, .bool false)]) (σ' := [.box [i64 y_636.1.Epoch, i64 y_636.1.Other, i64 y_636.1.First, .sl false (L (cSl cU8) y_636.1.Queue), i64 y_636.1.Next, .sl false (L cApi_Packet y_636.1.Early), i64 y_636.1.SentAt] false, .box [i64 y_632.1.Epoch, i64 y_632.1.Other, i64 y_632.1.First, .sl false (L (cSl cU8) y_632.1.Queue), i64 y_632.1.Next, .sl false (L cApi_Packet y_632.1.Early), i64 y_632.1.SentAt] false]) ⟨_, orcs_nil, ?_⟩ ?_
    · simp only [go_sem]
    refine run_ret ?_
    refine thenK_r ?_
    obtain rfl := Option.some.inj h
    refine wkP_of (Weak.refl _ _) ?_
    refine ret_ok (.inr rfl) ?_
    simp only [go_sem]
  · replace h := ite_f h hb
    refine run_skip ?_
    refine thenK_n ?_
    replace h := chk_some h; obtain ⟨hc_648, h⟩ := h
    replace h := bind_some1 h; obtain ⟨y_647, hy_649, h⟩ := h
    refine run_drawE hE mixed [[], [], [1], [1, 2], [0, 1, 2, 3], [0, 1, 2, 3, 4], [0, 1, 2, 3, 4, 5], [0, 1, 2, 3, 4, 5], [0, 1, 2, 3, 4, 5], [0, 1, 2, 3, 4, 5, 6], [0, 1, 2, 3, 4, 5, 6, 7, 9], [0, 1, 2, 3, 4, 5, 6, 7, 8, 9, 10]] (by kernel_rfl) (by kernel_rfl) [1, 3, 8, 9] (fr' := [(1, .ref 0 0), (3, .ref 1 0), (8, .sl false (L (cSl cU8) y_647.2.1)), (9, .bool y_647.2.2)]) (σ' := [.box [i64 y_636.1.Epoch, i64 y_636.1.Other, i64 y_636.1.First, .sl false (L (cSl cU8) y_636.1.Queue), i64 y_636.1.Next, .sl false (L cApi_Packet y_636.1.Early), i64 y_636.1.SentAt] false, .box [i64 y_647.1.Epoch, i64 y_647.1.Other, i64 y_647.1.First, .sl false (L (cSl cU8) y_647.1.Queue), i64 y_647.1.Next, .sl false (L cApi_Packet y_647.1.Early), i64 y_647.1.SentAt] false]) ⟨_, orcs_ok (l := [(66, 20, [.agg [i64 y_632.1.Epoch, i64 y_632.1.Other, i64 y_632.1.First, .sl false (L (cSl cU8) y_632.1.Queue), i64 y_632.1.Next, .sl false (L cApi_Packet y_632.1.Early), i64 y_632.1.SentAt], .agg [i64 ((nth y_636.2 0).Epoch), i64 ((nth y_636.2 0).To), i64 ((nth y_636.2 0).Seq), i64 ((nth y_636.2 0).Ack), .sl false (L cU8 ((nth y_636.2 0).Data))]], .tup [.agg [i64 y_647.1.Epoch, i64 y_647.1.Other, i64 y_647.1.First, .sl false (L (cSl cU8) y_647.1.Queue), i64 y_647.1.Next, .sl false (L cApi_Packet y_647.1.Early), i64 y_647.1.SentAt], .sl false (L (cSl cU8) y_647.2.1), .bool y_647.2.2])]) ⟨window_Accept_con  hy_649, trivial⟩, ?_⟩ ?_
    · simp only [go_sem, Int.reduceToNat, Nat.reduceLeDiff, hc_648, (show 0 < y_636.2.length from hc_648.2)]
    replace h := bind_some1 h; obtain ⟨y_650, hy_651, h⟩ := h
    refine run_textE hE [1, 3, 8, 9, 10] (fr' := [(1, .ref 0 0), (3, .ref 1 0), (8, .sl false (L (cSl cU8) y_647.2.1)), (9, .bool y_647.2.2), (10, .sl false (L cApi_Packet y_650.2))]) (σ' := [.box [i64 y_636.1.Epoch, i64 y_636.1.Other, i64 y_636.1.First, .sl false (L (cSl cU8) y_636.1.Queue), i64 y_636.1.Next, .sl false (L cApi_Packet y_636.1.Early), i64 y_636.1.SentAt] false, .box [i64 y_650.1.Epoch, i64 y_650.1.Other, i64 y_650.1.First, .sl false (L (cSl cU8) y_650.1.Queue), i64 y_650.1.Next, .sl false (L cApi_Packet y_650.1.Early), i64 y_650.1.SentAt] false]) ⟨_, orcs_ok (l := [(72, 16, [.agg [i64 y_647.1.Epoch, i64 y_647.1.Other, i64 y_647.1.First, .sl false (L (cSl cU8) y_647.1.Queue), i64 y_647.1.Next, .sl false (L cApi_Packet y_647.1.Early), i64 y_647.1.SentAt], i64 1], .tup [.agg [i64 y_650.1.Epoch, i64 y_650.1.Other, i64 y_650.1.First, .sl false (L (cSl cU8) y_650.1.Queue), i64 y_650.1.Next, .sl false (L cApi_Packet y_650.1.Early), i64 y_650.1.SentAt], .sl false (L cApi_Packet y_650.2)])]) ⟨window_Emit_con  hy_651, trivial⟩, ?_⟩ ?_
    · simp only [go_sem, Nat.reduceLeDiff]
    refine run_seq ?_
    replace h := bind_some1 h; obtain ⟨t_652, hv_653, h⟩ := h
    refine run_textW hE [1, 3, 10, 91] (fr' := [(1, .ref 0 0), (3, .ref 1 0), (10, .sl false (L cApi_Packet y_650.2)), (91, .bool t_652)]) (σ' := [.box [i64 y_636.1.Epoch, i64 y_636.1.Other, i64 y_636.1.First, .sl false (L (cSl cU8) y_636.1.Queue), i64 y_636.1.Next, .sl false (L cApi_Packet y_636.1.Early), i64 y_636.1.SentAt] false, .box [i64 y_650.1.Epoch, i64 y_650.1.Other, i64 y_650.1.First, .sl false (L (cSl cU8) y_650.1.Queue), i64 y_650.1.Next, .sl false (L cApi_Packet y_650.1.Early), i64 y_650.1.SentAt] false]) ?_ ?_
    · rcases Bool.eq_false_or_eq_true (((y_647.2.1.length : Int) != 0)) with hb_654 | hb_654
      · replace hv_653 := ite_t hv_653 hb_654
        have e_hv_653 := Option.some.inj hv_653; subst e_hv_653
        exact ⟨_, [(1, .ref 0 0), (3, .ref 1 0), (10, .sl false (L cApi_Packet y_650.2)), (91, .bool true)], [.box [i64 y_636.1.Epoch, i64 y_636.1.Other, i64 y_636.1.First, .sl false (L (cSl cU8) y_636.1.Queue), i64 y_636.1.Next, .sl false (L cApi_Packet y_636.1.Early), i64 y_636.1.SentAt] false, .box [i64 y_650.1.Epoch, i64 y_650.1.Other, i64 y_650.1.First, .sl false (L (cSl cU8) y_650.1.Queue), i64 y_650.1.Next, .sl false (L cApi_Packet y_650.1.Early), i64 y_650.1.SentAt] false], orcs_nil, by simp only [go_sem, hb_654], (weak_sel [0, 1] (by decide) rfl (by simp only [go_sem]) (by simp only [go_sem]))⟩
      · replace hv_653 := ite_f hv_653 hb_654
        rcases Bool.eq_false_or_eq_true ((!y_647.2.2)) with hb_655 | hb_655
        · replace hv_653 := ite_t hv_653 hb_655
          have e_hv_653 := Option.some.inj hv_653; subst e_hv_653
          exact ⟨_, [(1, .ref 0 0), (3, .ref 1 0), (10, .sl false (L cApi_Packet y_650.2)), (91, .bool true)], [.box [i64 y_636.1.Epoch, i64 y_636.1.Other, i64 y_636.1.First, .sl false (L (cSl cU8) y_636.1.Queue), i64 y_636.1.Next, .sl false (L cApi_Packet y_636.1.Early), i64 y_636.1.SentAt] false, .box [i64 y_650.1.Epoch, i64 y_650.1.Other, i64 y_650.1.First, .sl false (L (cSl cU8) y_650.1.Queue), i64 y_650.1.Next, .sl false (L cApi_Packet y_650.1.Early), i64 y_650.1.SentAt] false], orcs_nil, by simp only [go_sem, hb_654, hb_655], (weak_sel [0, 1] (by decide) rfl (by simp only [go_sem]) (by simp only [go_sem]))⟩
        · replace hv_653 := ite_f hv_653 hb_655
          rcases Bool.eq_false_or_eq_true ((y_650.1.Other != 3)) with hb_656 | hb_656
          · replace hv_653 := ite_t hv_653 hb_656
            have e_hv_653 := Option.some.inj hv_653; subst e_hv_653
            exact ⟨_, [(1, .ref 0 0), (3, .ref 1 0), (10, .sl false (L cApi_Packet y_650.2)), (91, .bool true)], [.box [i64 y_636.1.Epoch, i64 y_636.1.Other, i64 y_636.1.First, .sl false (L (cSl cU8) y_636.1.Queue), i64 y_636.1.Next, .sl false (L cApi_Packet y_636.1.Early), i64 y_636.1.SentAt] false, .box [i64 y_650.1.Epoch, i64 y_650.1.Other, i64 y_650.1.First, .sl false (L (cSl cU8) y_650.1.Queue), i64 y_650.1.Next, .sl false (L cApi_Packet y_650.1.Early), i64 y_650.1.SentAt] false], orcs_nil, by simp only [go_sem, hb_654, hb_655, hb_656], (weak_sel [0, 1] (by decide) rfl (by simp only [go_sem]) (by simp only [go_sem]))⟩
          · replace hv_653 := ite_f hv_653 hb_656
            have e_hv_653 := Option.some.inj hv_653; subst e_hv_653
            exact ⟨_, [(1, .ref 0 0), (3, .ref 1 0), (10, .sl false (L cApi_Packet y_650.2)), (91, .bool (((y_650.2.length : Int) != 1)))], [.box [i64 y_636.1.Epoch, i64 y_636.1.Other, i64 y_636.1.First, .sl false (L (cSl cU8) y_636.1.Queue), i64 y_636.1.Next, .sl false (L cApi_Packet y_636.1.Early), i64 y_636.1.SentAt] false, .box [i64 y_650.1.Epoch, i64 y_650.1.Other, i64 y_650.1.First, .sl false (L (cSl cU8) y_650.1.Queue), i64 y_650.1.Next, .sl false (L cApi_Packet y_650.1.Early), i64 y_650.1.SentAt] false], orcs_nil, by simp only [go_sem, hb_654, hb_655, hb_656], (weak_sel [0, 1] (by decide) rfl (by simp only [go_sem]) (by simp only [go_sem]))⟩
    refine run_condL (b := t_652) rfl (by decide) (fun hb => ?_) (fun hb => ?_)
    · replace h := ite_t h hb
      refine run_textE hE [0] (fr' := [(0, .bool false)]) (σ' := [.box [i64 y_636.1.Epoch, i64 y_636.1.Other, i64 y_636.1.First, .sl false (L (cSl cU8) y_636.1.Queue), i64 y_636.1.Next, .sl false (L cApi_Packet y_636.1.Early), i64 y_636.1.SentAt] false, .box [i64 y_650.1.Epoch, i64 y_650.1.Other, i64 y_650.1.First, .sl false (L (cSl cU8) y_650.1.Queue), i64 y_650.1.Next, .sl false (L cApi_Packet y_650.1.Early), i64 y_650.1.SentAt] false]) ⟨_, orcs_nil, ?_⟩ ?_
      · simp only [go_sem]
      refine run_ret ?_
      refine thenK_r ?_
      obtain rfl := Option.some.inj h
      refine wkP_of (Weak.refl _ _) ?_
      refine ret_ok (.inr rfl) ?_
      simp only [go_sem]
    · replace h := ite_f h hb
      refine run_skip ?_
      refine thenK_n ?_
      replace h := chk_some h; obtain ⟨hc_658, h⟩ := h
      replace h := bind_some1 h; obtain ⟨y_657, hy_659, h⟩ := h
      refine run_drawE hE mixed [[], [], [1], [1, 2], [0, 1, 2, 3], [0, 1, 2, 3, 4], [0, 1, 2, 3, 4, 5], [0, 1, 2, 3, 4, 5], [0, 1, 2, 3, 4, 5], [0, 1, 2, 3, 4, 5, 6], [0, 1, 2, 3, 4, 5, 6, 7, 8, 9]] (by kernel_rfl) (by kernel_rfl) [1, 3, 9] (fr' := [(1, .ref 0 0), (3, .ref 1 0), (9, .bool y_657.2.2)]) (σ' := [.box [i64 y_657.1.Epoch, i64 y_657.1.Other, i64 y_657.1.First, .sl false (L (cSl cU8) y_657.1.Queue), i64 y_657.1.Next, .sl false (L cApi_Packet y_657.1.Early), i64 y_657.1.SentAt] false, .box [i64 y_650.1.Epoch, i64 y_650.1.Other, i64 y_650.1.First, .sl false (L (cSl cU8) y_650.1.Queue), i64 y_650.1.Next, .sl false (L cApi_Packet y_650.1.Early), i64 y_650.1.SentAt] false]) ⟨_, orcs_ok (l := [(97, 20, [.agg [i64 y_636.1.Epoch, i64 y_636.1.Other, i64 y_636.1.First, .sl false (L (cSl cU8) y_636.1.Queue), i64 y_636.1.Next, .sl false (L cApi_Packet y_636.1.Early), i64 y_636.1.SentAt], .agg [i64 ((nth y_650.2 0).Epoch), i64 ((nth y_650.2 0).To), i64 ((nth y_650.2 0).Seq), i64 ((nth y_650.2 0).Ack), .sl false (L cU8 ((nth y_650.2 0).Data))]], .tup [.agg [i64 y_657.1.Epoch, i64 y_657.1.Other, i64 y_657.1.First, .sl false (L (cSl cU8) y_657.1.Queue), i64 y_657.1.Next, .sl false (L cApi_Packet y_657.1.Early), i64 y_657.1.SentAt], .sl false (L (cSl cU8) y_657.2.1), .bool y_657.2.2])]) ⟨window_Accept_con  hy_659, trivial⟩, ?_⟩ ?_
      · simp only [go_sem, Int.reduceToNat, Nat.reduceLeDiff, hc_658, (show 0 < y_650.2.length from hc_658.2)]
      replace h := bind_some1 h; obtain ⟨y_660, hy_661, h⟩ := h
      refine run_textE hE [1, 3, 9, 11] (fr' := [(1, .ref 0 0), (3, .ref 1 0), (9, .bool y_657.2.2), (11, i64 y_660.2)]) (σ' := [.box [i64 y_660.1.Epoch, i64 y_660.1.Other, i64 y_660.1.First, .sl false (L (cSl cU8) y_660.1.Queue), i64 y_660.1.Next, .sl false (L cApi_Packet y_660.1.Early), i64 y_660.1.SentAt] false, .box [i64 y_650.1.Epoch, i64 y_650.1.Other, i64 y_650.1.First, .sl false (L (cSl cU8) y_650.1.Queue), i64 y_650.1.Next, .sl false (L cApi_Packet y_650.1.Early), i64 y_650.1.SentAt] false, .buf 1 (L cU8 (([(120 : UInt8)] : List UInt8))) true]) ⟨_, orcs_ok (l := [(105, 14, [.agg [i64 y_657.1.Epoch, i64 y_657.1.Other, i64 y_657.1.First, .sl false (L (cSl cU8) y_657.1.Queue), i64 y_657.1.Next, .sl false (L cApi_Packet y_657.1.Early), i64 y_657.1.SentAt], .sl false (L cU8 (([(120 : UInt8)] : List UInt8)))], .tup [.agg [i64 y_660.1.Epoch, i64 y_660.1.Other, i64 y_660.1.First, .sl false (L (cSl cU8) y_660.1.Queue), i64 y_660.1.Next, .sl false (L cApi_Packet y_660.1.Early), i64 y_660.1.SentAt], i64 y_660.2])]) ⟨window_Offer_con  hy_661, trivial⟩, ?_⟩ ?_
      · simp only [go_sem, Nat.reduceBEq, Nat.reduceMul, Nat.reduceSub, Nat.reduceGT, Nat.reducePow, Nat.reduceLeDiff, Int.reduceToNat]
      replace h := bind_some1 h; obtain ⟨y_662, hy_663, h⟩ := h
      refine run_textE hE [1, 3, 7, 9, 11] (fr' := [(1, .ref 0 0), (3, .ref 1 0), (7, .sl false (L cApi_Packet y_662.2)), (9, .bool y_657.2.2), (11, i64 y_660.2)]) (σ' := [.box [i64 y_662.1.Epoch, i64 y_662.1.Other, i64 y_662.1.First, .sl false (L (cSl cU8) y_662.1.Queue), i64 y_662.1.Next, .sl false (L cApi_Packet y_662.1.Early), i64 y_662.1.SentAt] false, .box [i64 y_650.1.Epoch, i64 y_650.1.Other, i64 y_650.1.First, .sl false (L (cSl cU8) y_650.1.Queue), i64 y_650.1.Next, .sl false (L cApi_Packet y_650.1.Early), i64 y_650.1.SentAt] false, .buf 1 (L cU8 (([(120 : UInt8)] : List UInt8))) true]) ⟨_, orcs_ok (l := [(110, 16, [.agg [i64 y_660.1.Epoch, i64 y_660.1.Other, i64 y_660.1.First, .sl false (L (cSl cU8) y_660.1.Queue), i64 y_660.1.Next, .sl false (L cApi_Packet y_660.1.Early), i64 y_660.1.SentAt], i64 7], .tup [.agg [i64 y_662.1.Epoch, i64 y_662.1.Other, i64 y_662.1.First, .sl false (L (cSl cU8) y_662.1.Queue), i64 y_662.1.Next, .sl false (L cApi_Packet y_662.1.Early), i64 y_662.1.SentAt], .sl false (L cApi_Packet y_662.2)])]) ⟨window_Emit_con  hy_663, trivial⟩, ?_⟩ ?_
      · simp only [go_sem, Nat.reduceLeDiff]
      refine run_seq ?_
      replace h := bind_some1 h; obtain ⟨t_665, hv_666, h⟩ := h
      refine run_textW hE [1, 3, 7, 133] (fr' := [(1, .ref 0 0), (3, .ref 1 0), (7, .sl false (L cApi_Packet y_662.2)), (133, .bool t_665)]) (σ' := [.box [i64 y_662.1.Epoch, i64 y_662.1.Other, i64 y_662.1.First, .sl false (L (cSl cU8) y_662.1.Queue), i64 y_662.1.Next, .sl false (L cApi_Packet y_662.1.Early), i64 y_662.1.SentAt] false, .box [i64 y_650.1.Epoch, i64 y_650.1.Other, i64 y_650.1.First, .sl false (L (cSl cU8) y_650.1.Queue), i64 y_650.1.Next, .sl false (L cApi_Packet y_650.1.Early), i64 y_650.1.SentAt] false]) ?_ ?_
      · rcases Bool.eq_false_or_eq_true ((!y_657.2.2)) with hb_667 | hb_667
        · replace hv_666 := ite_t hv_666 hb_667
          have e_hv_666 := Option.some.inj hv_666; subst e_hv_666
          exact ⟨_, [(1, .ref 0 0), (3, .ref 1 0), (7, .sl false (L cApi_Packet y_662.2)), (133, .bool true)], [.box [i64 y_662.1.Epoch, i64 y_662.1.Other, i64 y_662.1.First, .sl false (L (cSl cU8) y_662.1.Queue), i64 y_662.1.Next, .sl false (L cApi_Packet y_662.1.Early), i64 y_662.1.SentAt] false, .box [i64 y_650.1.Epoch, i64 y_650.1.Other, i64 y_650.1.First, .sl false (L (cSl cU8) y_650.1.Queue), i64 y_650.1.Next, .sl false (L cApi_Packet y_650.1.Early), i64 y_650.1.SentAt] false, .buf 1 (L cU8 (([(120 : UInt8)] : List UInt8))) true], orcs_nil, by simp only [go_sem, Nat.reduceBEq, Nat.reduceMul, Nat.reduceSub, Nat.reduceGT, Nat.reducePow, Nat.reduceLeDiff, Int.reduceToNat, hb_667], (weak_sel [0, 1] (by decide) rfl (by simp only [go_sem]) (by simp only [go_sem]))⟩
        · replace hv_666 := ite_f hv_666 hb_667
          rcases Bool.eq_false_or_eq_true ((y_660.2 != 0)) with hb_668 | hb_668
          · replace hv_666 := ite_t hv_666 hb_668
            have e_hv_666 := Option.some.inj hv_666; subst e_hv_666
            exact ⟨_, [(1, .ref 0 0), (3, .ref 1 0), (7, .sl false (L cApi_Packet y_662.2)), (133, .bool true)], [.box [i64 y_662.1.Epoch, i64 y_662.1.Other, i64 y_662.1.First, .sl false (L (cSl cU8) y_662.1.Queue), i64 y_662.1.Next, .sl false (L cApi_Packet y_662.1.Early), i64 y_662.1.SentAt] false, .box [i64 y_650.1.Epoch, i64 y_650.1.Other, i64 y_650.1.First, .sl false (L (cSl cU8) y_650.1.Queue), i64 y_650.1.Next, .sl false (L cApi_Packet y_650.1.Early), i64 y_650.1.SentAt] false, .buf 1 (L cU8 (([(120 : UInt8)] : List UInt8))) true], orcs_nil, by simp only [go_sem, Nat.reduceBEq, Nat.reduceMul, Nat.reduceSub, Nat.reduceGT, Nat.reducePow, Nat.reduceLeDiff, Int.reduceToNat, hb_667, hb_668], (weak_sel [0, 1] (by decide) rfl (by simp only [go_sem]) (by simp only [go_sem]))⟩
          · replace hv_666 := ite_f hv_666 hb_668
            rcases Bool.eq_false_or_eq_true (((y_662.2.length : Int) != 1)) with hb_669 | hb_669
            · replace hv_666 := ite_t hv_666 hb_669
              have e_hv_666 := Option.some.inj hv_666; subst e_hv_666
              exact ⟨_, [(1, .ref 0 0), (3, .ref 1 0), (7, .sl false (L cApi_Packet y_662.2)), (133, .bool true)], [.box [i64 y_662.1.Epoch, i64 y_662.1.Other, i64 y_662.1.First, .sl false (L (cSl cU8) y_662.1.Queue), i64 y_662.1.Next, .sl false (L cApi_Packet y_662.1.Early), i64 y_662.1.SentAt] false, .box [i64 y_650.1.Epoch, i64 y_650.1.Other, i64 y_650.1.First, .sl false (L (cSl cU8) y_650.1.Queue), i64 y_650.1.Next, .sl false (L cApi_Packet y_650.1.Early), i64 y_650.1.SentAt] false, .buf 1 (L cU8 (([(120 : UInt8)] : List UInt8))) true], orcs_nil, by simp only [go_sem, Nat.reduceBEq, Nat.reduceMul, Nat.reduceSub, Nat.reduceGT, Nat.reducePow, Nat.reduceLeDiff, Int.reduceToNat, hb_667, hb_668, hb_669], (weak_sel [0, 1] (by decide) rfl (by simp only [go_sem]) (by simp only [go_sem]))⟩
            · replace hv_666 := ite_f hv_666 hb_669
              replace hv_666 := chk_some hv_666; obtain ⟨hc_670, hv_666⟩ := hv_666
              replace hv_666 := bind_some1 hv_666; obtain ⟨y_664, hy_671, hv_666⟩ := hv_666
              have e_hv_666 := Option.some.inj hv_666; subst e_hv_666
              exact ⟨_, [(1, .ref 0 0), (3, .ref 1 0), (7, .sl false (L cApi_Packet y_662.2)), (133, .bool ((!y_664)))], [.box [i64 y_662.1.Epoch, i64 y_662.1.Other, i64 y_662.1.First, .sl false (L (cSl cU8) y_662.1.Queue), i64 y_662.1.Next, .sl false (L cApi_Packet y_662.1.Early), i64 y_662.1.SentAt] false, .box [i64 y_650.1.Epoch, i64 y_650.1.Other, i64 y_650.1.First, .sl false (L (cSl cU8) y_650.1.Queue), i64 y_650.1.Next, .sl false (L cApi_Packet y_650.1.Early), i64 y_650.1.SentAt] false, .buf 1 (L cU8 (([(120 : UInt8)] : List UInt8))) true, .buf 1 (L cU8 (([(120 : UInt8)] : List UInt8))) false], orcs_ok (l := [(131, 30, [.agg [i64 ((nth y_662.2 0).Epoch), i64 ((nth y_662.2 0).To), i64 ((nth y_662.2 0).Seq), i64 ((nth y_662.2 0).Ack), .sl false (L cU8 ((nth y_662.2 0).Data))], .agg [i64 3, i64 5, i64 0, i64 0, .sl false (L cU8 (([(120 : UInt8)] : List UInt8)))]], .bool y_664)]) ⟨r12_SamePacket_con  hy_671, trivial⟩, by simp only [go_sem, Nat.reduceBEq, Nat.reduceMul, Nat.reduceSub, Nat.reduceGT, Nat.reducePow, Nat.reduceLeDiff, Int.reduceToNat, hb_667, hb_668, hb_669, hc_670, (show 0 < y_662.2.length from hc_670.2)], (weak_sel [0, 1] (by decide) rfl (by simp only [go_sem]) (by simp only [go_sem]))⟩
      refine run_condL (b := t_665) rfl (by decide) (fun hb => ?_) (fun hb => ?_)
      · replace h := ite_t h hb
        refine run_textE hE [0] (fr' := [(0, .bool false)]) (σ' := [.box [i64 y_662.1.Epoch, i64 y_662.1.Other, i64 y_662.1.First, .sl false (L (cSl cU8) y_662.1.Queue), i64 y_662.1.Next, .sl false (L cApi_Packet y_662.1.Early), i64 y_662.1.SentAt] false, .box [i64 y_650.1.Epoch, i64 y_650.1.Other, i64 y_650.1.First, .sl false (L (cSl cU8) y_650.1.Queue), i64 y_650.1.Next, .sl false (L cApi_Packet y_650.1.Early), i64 y_650.1.SentAt] false]) ⟨_, orcs_nil, ?_⟩ ?_
        · simp only [go_sem]
        refine run_ret ?_
        refine thenK_r ?_
        obtain rfl := Option.some.inj h
        refine wkP_of (Weak.refl _ _) ?_
        refine ret_ok (.inr rfl) ?_
        simp only [go_sem]
      · replace h := ite_f h hb
        refine run_skip ?_
        refine thenK_n ?_
        replace h := bind_some1 h; obtain ⟨y_672, hy_673, h⟩ := h
        refine run_textE hE [1, 3, 7, 13] (fr' := [(1, .ref 0 0), (3, .ref 1 0), (7, .sl false (L cApi_Packet y_662.2)), (13, .sl false (L cApi_Packet y_672.2))]) (σ' := [.box [i64 y_662.1.Epoch, i64 y_662.1.Other, i64 y_662.1.First, .sl false (L (cSl cU8) y_662.1.Queue), i64 y_662.1.Next, .sl false (L cApi_Packet y_662.1.Early), i64 y_662.1.SentAt] false, .box [i64 y_650.1.Epoch, i64 y_650.1.Other, i64 y_650.1.First, .sl false (L (cSl cU8) y_650.1.Queue), i64 y_650.1.Next, .sl false (L cApi_Packet y_650.1.Early), i64 y_650.1.SentAt] false, .box [i64 y_672.1.Epoch, i64 y_672.1.Other, i64 y_672.1.First, .sl false (L (cSl cU8) y_672.1.Queue), i64 y_672.1.Next, .sl false (L cApi_Packet y_672.1.Early), i64 y_672.1.SentAt] false]) ⟨_, orcs_ok (l := [(136, 16, [.agg [i64 y_662.1.Epoch, i64 y_662.1.Other, i64 y_662.1.First, .sl false (L (cSl cU8) y_662.1.Queue), i64 y_662.1.Next, .sl false (L cApi_Packet y_662.1.Early), i64 y_662.1.SentAt], i64 8], .tup [.agg [i64 y_672.1.Epoch, i64 y_672.1.Other, i64 y_672.1.First, .sl false (L (cSl cU8) y_672.1.Queue), i64 y_672.1.Next, .sl false (L cApi_Packet y_672.1.Early), i64 y_672.1.SentAt], .sl false (L cApi_Packet y_672.2)])]) ⟨window_Emit_con  hy_673, trivial⟩, ?_⟩ ?_
        · simp only [go_sem, Nat.reduceLeDiff]
        replace h := bind_some1 h; obtain ⟨y_674, hy_675, h⟩ := h
        refine run_textE hE [3, 7, 13, 15] (fr' := [(3, .ref 1 0), (7, .sl false (L cApi_Packet y_662.2)), (13, .sl false (L cApi_Packet y_672.2)), (15, .sl false (L cApi_Packet y_674.2))]) (σ' := [.box [i64 y_662.1.Epoch, i64 y_662.1.Other, i64 y_662.1.First, .sl false (L (cSl cU8) y_662.1.Queue), i64 y_662.1.Next, .sl false (L cApi_Packet y_662.1.Early), i64 y_662.1.SentAt] false, .box [i64 y_650.1.Epoch, i64 y_650.1.Other, i64 y_650.1.First, .sl false (L (cSl cU8) y_650.1.Queue), i64 y_650.1.Next, .sl false (L cApi_Packet y_650.1.Early), i64 y_650.1.SentAt] false, .box [i64 y_672.1.Epoch, i64 y_672.1.Other, i64 y_672.1.First, .sl false (L (cSl cU8) y_672.1.Queue), i64 y_672.1.Next, .sl false (L cApi_Packet y_672.1.Early), i64 y_672.1.SentAt] false, .box [i64 y_674.1.Epoch, i64 y_674.1.Other, i64 y_674.1.First, .sl false (L (cSl cU8) y_674.1.Queue), i64 y_674.1.Next, .sl false (L cApi_Packet y_674.1.Early), i64 y_674.1.SentAt] false]) ⟨_, orcs_ok (l := [(141, 16, [.agg [i64 y_662.1.Epoch, i64 y_662.1.Other, i64 y_662.1.First, .sl false (L (cSl cU8) y_662.1.Queue), i64 y_662.1.Next, .sl false (L cApi_Packet y_662.1.Early), i64 y_662.1.SentAt], i64 17], .tup [.agg [i64 y_674.1.Epoch, i64 y_674.1.Other, i64 y_674.1.First, .sl false (L (cSl cU8) y_674.1.Queue), i64 y_674.1.Next, .sl false (L cApi_Packet y_674.1.Early), i64 y_674.1.SentAt], .sl false (L cApi_Packet y_674.2)])]) ⟨window_Emit_con  hy_675, trivial⟩, ?_⟩ ?_
        · simp only [go_sem, Nat.reduceLeDiff]
        replace h := chk_some h; obtain ⟨hc_677, h⟩ := h
        replace h := bind_some1 h; obtain ⟨y_676, hy_678, h⟩ := h
        refine run_drawE hE mixed [[], [], [1], [1, 2], [0, 1, 2, 3], [0, 1, 2, 3, 4], [0, 1, 2, 3, 4, 5], [0, 1, 2, 3, 4, 5], [0, 1, 2, 3, 4, 5], [0, 1, 2, 3, 4, 5, 6], [0, 1, 2, 3, 4, 5, 6, 7, 9], [0, 1, 2, 3, 4, 5, 6, 7, 8, 9, 10]] (by kernel_rfl) (by kernel_rfl) [3, 7, 13, 15, 16] (fr' := [(3, .ref 1 0), (7, .sl false (L cApi_Packet y_662.2)), (13, .sl false (L cApi_Packet y_672.2)), (15, .sl false (L cApi_Packet y_674.2)), (16, .sl false (L (cSl cU8) y_676.2.1))]) (σ' := [.box [i64 y_662.1.Epoch, i64 y_662.1.Other, i64 y_662.1.First, .sl false (L (cSl cU8) y_662.1.Queue), i64 y_662.1.Next, .sl false (L cApi_Packet y_662.1.Early), i64 y_662.1.SentAt] false, .box [i64 y_676.1.Epoch, i64 y_676.1.Other, i64 y_676.1.First, .sl false (L (cSl cU8) y_676.1.Queue), i64 y_676.1.Next, .sl false (L cApi_Packet y_676.1.Early), i64 y_676.1.SentAt] false, .box [i64 y_672.1.Epoch, i64 y_672.1.Other, i64 y_672.1.First, .sl false (L (cSl cU8) y_672.1.Queue), i64 y_672.1.Next, .sl false (L cApi_Packet y_672.1.Early), i64 y_672.1.SentAt] false, .box [i64 y_674.1.Epoch, i64 y_674.1.Other, i64 y_674.1.First, .sl false (L (cSl cU8) y_674.1.Queue), i64 y_674.1.Next, .sl false (L cApi_Packet y_674.1.Early), i64 y_674.1.SentAt] false]) ⟨_, orcs_ok (l := [(149, 20, [.agg [i64 y_650.1.Epoch, i64 y_650.1.Other, i64 y_650.1.First, .sl false (L (cSl cU8) y_650.1.Queue), i64 y_650.1.Next, .sl false (L cApi_Packet y_650.1.Early), i64 y_650.1.SentAt], .agg [i64 ((nth y_662.2 0).Epoch), i64 ((nth y_662.2 0).To), i64 ((nth y_662.2 0).Seq), i64 ((nth y_662.2 0).Ack), .sl false (L cU8 ((nth y_662.2 0).Data))]], .tup [.agg [i64 y_676.1.Epoch, i64 y_676.1.Other, i64 y_676.1.First, .sl false (L (cSl cU8) y_676.1.Queue), i64 y_676.1.Next, .sl false (L cApi_Packet y_676.1.Early), i64 y_676.1.SentAt], .sl false (L (cSl cU8) y_676.2.1), .bool y_676.2.2])]) ⟨window_Accept_con  hy_678, trivial⟩, ?_⟩ ?_
        · simp only [go_sem, Int.reduceToNat, Nat.reduceLeDiff, hc_677, (show 0 < y_662.2.length from hc_677.2)]
        replace h := chk_some h; obtain ⟨hc_680, h⟩ := h
        replace h := bind_some1 h; obtain ⟨y_679, hy_681, h⟩ := h
        refine run_drawE hE mixed [[], [], [1], [1, 2], [0, 1, 2, 3], [0, 1, 2, 3, 4], [0, 1, 2, 3, 4, 5], [0, 1, 2, 3, 4, 5], [0, 1, 2, 3, 4, 5], [], [0, 1, 2, 3, 4, 5, 6, 9], [0, 1, 2, 3, 4, 5, 6, 7, 9, 10], [0, 1, 2, 3, 4, 5, 6, 7, 8, 9, 10, 11]] (by kernel_rfl) (by kernel_rfl) [3, 13, 15, 16, 19] (fr' := [(3, .ref 1 0), (13, .sl false (L cApi_Packet y_672.2)), (15, .sl false (L cApi_Packet y_674.2)), (16, .sl false (L (cSl cU8) y_676.2.1)), (19, .sl false (L (cSl cU8) y_679.2.1))]) (σ' := [.box [i64 y_662.1.Epoch, i64 y_662.1.Other, i64 y_662.1.First, .sl false (L (cSl cU8) y_662.1.Queue), i64 y_662.1.Next, .sl false (L cApi_Packet y_662.1.Early), i64 y_662.1.SentAt] false, .box [i64 y_676.1.Epoch, i64 y_676.1.Other, i64 y_676.1.First, .sl false (L (cSl cU8) y_676.1.Queue), i64 y_676.1.Next, .sl false (L cApi_Packet y_676.1.Early), i64 y_676.1.SentAt] false, .box [i64 y_672.1.Epoch, i64 y_672.1.Other, i64 y_672.1.First, .sl false (L (cSl cU8) y_672.1.Queue), i64 y_672.1.Next, .sl false (L cApi_Packet y_672.1.Early), i64 y_672.1.SentAt] false, .box [i64 y_674.1.Epoch, i64 y_674.1.Other, i64 y_674.1.First, .sl false (L (cSl cU8) y_674.1.Queue), i64 y_674.1.Next, .sl false (L cApi_Packet y_674.1.Early), i64 y_674.1.SentAt] false, .box [i64 y_679.1.Epoch, i64 y_679.1.Other, i64 y_679.1.First, .sl false (L (cSl cU8) y_679.1.Queue), i64 y_679.1.Next, .sl false (L cApi_Packet y_679.1.Early), i64 y_679.1.SentAt] false]) ⟨_, orcs_ok (l := [(158, 20, [.agg [i64 y_676.1.Epoch, i64 y_676.1.Other, i64 y_676.1.First, .sl false (L (cSl cU8) y_676.1.Queue), i64 y_676.1.Next, .sl false (L cApi_Packet y_676.1.Early), i64 y_676.1.SentAt], .agg [i64 ((nth y_662.2 0).Epoch), i64 ((nth y_662.2 0).To), i64 ((nth y_662.2 0).Seq), i64 ((nth y_662.2 0).Ack), .sl false (L cU8 ((nth y_662.2 0).Data))]], .tup [.agg [i64 y_679.1.Epoch, i64 y_679.1.Other, i64 y_679.1.First, .sl false (L (cSl cU8) y_679.1.Queue), i64 y_679.1.Next, .sl false (L cApi_Packet y_679.1.Early), i64 y_679.1.SentAt], .sl false (L (cSl cU8) y_679.2.1), .bool y_679.2.2])]) ⟨window_Accept_con  hy_681, trivial⟩, ?_⟩ ?_
        · simp only [go_sem, Int.reduceToNat, Nat.reduceLeDiff, hc_680, (show 0 < y_662.2.length from hc_680.2)]
        replace h := bind_some1 h; obtain ⟨t_682, hv_683, h⟩ := h
        refine run_textW hE [0] (fr' := [(0, .bool t_682)]) (σ' := []) ?_ ?_
        · rcases Bool.eq_false_or_eq_true (((y_672.2.length : Int) == 1)) with hb_684 | hb_684
          · replace hv_683 := ite_t hv_683 hb_684
            replace hv_683 := chk_some hv_683; obtain ⟨hc_685, hv_683⟩ := hv_683
            rcases Bool.eq_false_or_eq_true (((nth y_672.2 0).Seq == (-1))) with hb_686 | hb_686
            · replace hv_683 := ite_t hv_683 hb_686
              rcases Bool.eq_false_or_eq_true (((y_674.2.length : Int) == 1)) with hb_687 | hb_687
              · replace hv_683 := ite_t hv_683 hb_687
                replace hv_683 := chk_some hv_683; obtain ⟨hc_688, hv_683⟩ := hv_683
                rcases Bool.eq_false_or_eq_true (((nth y_674.2 0).Seq == 0)) with hb_689 | hb_689
                · replace hv_683 := ite_t hv_683 hb_689
                  rcases Bool.eq_false_or_eq_true (((y_676.2.1.length : Int) == 1)) with hb_690 | hb_690
                  · replace hv_683 := ite_t hv_683 hb_690
                    replace hv_683 := chk_some hv_683; obtain ⟨hc_691, hv_683⟩ := hv_683
                    rcases Bool.eq_false_or_eq_true (((nth y_676.2.1 0) == (([120] : List UInt8)))) with hb_692 | hb_692
                    · replace hv_683 := ite_t hv_683 hb_692
                      rcases Bool.eq_false_or_eq_true ((y_676.1.Next == 1)) with hb_693 | hb_693
                      · replace hv_683 := ite_t hv_683 hb_693
                        have e_hv_683 := Option.some.inj hv_683; subst e_hv_683
                        exact ⟨_, [(0, .bool (((y_679.2.1.length : Int) == 0)))], [.box [i64 y_662.1.Epoch, i64 y_662.1.Other, i64 y_662.1.First, .sl false (L (cSl cU8) y_662.1.Queue), i64 y_662.1.Next, .sl false (L cApi_Packet y_662.1.Early), i64 y_662.1.SentAt] false, .box [i64 y_676.1.Epoch, i64 y_676.1.Other, i64 y_676.1.First, .sl false (L (cSl cU8) y_676.1.Queue), i64 y_676.1.Next, .sl false (L cApi_Packet y_676.1.Early), i64 y_676.1.SentAt] false, .box [i64 y_672.1.Epoch, i64 y_672.1.Other, i64 y_672.1.First, .sl false (L (cSl cU8) y_672.1.Queue), i64 y_672.1.Next, .sl false (L cApi_Packet y_672.1.Early), i64 y_672.1.SentAt] false, .box [i64 y_674.1.Epoch, i64 y_674.1.Other, i64 y_674.1.First, .sl false (L (cSl cU8) y_674.1.Queue), i64 y_674.1.Next, .sl false (L cApi_Packet y_674.1.Early), i64 y_674.1.SentAt] false, .box [i64 y_679.1.Epoch, i64 y_679.1.Other, i64 y_679.1.First, .sl false (L (cSl cU8) y_679.1.Queue), i64 y_679.1.Next, .sl false (L cApi_Packet y_679.1.Early), i64 y_679.1.SentAt] false], orcs_nil, by simp only [go_sem, Int.reduceToNat, hb_684, hc_685, (show 0 < y_672.2.length from hc_685.2), hb_686, hb_687, hc_688, (show 0 < y_674.2.length from hc_688.2), hb_689, hb_690, hc_691, (show 0 < y_676.2.1.length from hc_691.2), hb_692, hb_693], (weak_sel [] (by decide) rfl (by simp only [go_sem]) (by simp only [go_sem]))⟩
                      · replace hv_683 := ite_f hv_683 hb_693
                        have e_hv_683 := Option.some.inj hv_683; subst e_hv_683
                        exact ⟨_, [(0, .bool false)], [.box [i64 y_662.1.Epoch, i64 y_662.1.Other, i64 y_662.1.First, .sl false (L (cSl cU8) y_662.1.Queue), i64 y_662.1.Next, .sl false (L cApi_Packet y_662.1.Early), i64 y_662.1.SentAt] false, .box [i64 y_676.1.Epoch, i64 y_676.1.Other, i64 y_676.1.First, .sl false (L (cSl cU8) y_676.1.Queue), i64 y_676.1.Next, .sl false (L cApi_Packet y_676.1.Early), i64 y_676.1.SentAt] false, .box [i64 y_672.1.Epoch, i64 y_672.1.Other, i64 y_672.1.First, .sl false (L (cSl cU8) y_672.1.Queue), i64 y_672.1.Next, .sl false (L cApi_Packet y_672.1.Early), i64 y_672.1.SentAt] false, .box [i64 y_674.1.Epoch, i64 y_674.1.Other, i64 y_674.1.First, .sl false (L (cSl cU8) y_674.1.Queue), i64 y_674.1.Next, .sl false (L cApi_Packet y_674.1.Early), i64 y_674.1.SentAt] false, .box [i64 y_679.1.Epoch, i64 y_679.1.Other, i64 y_679.1.First, .sl false (L (cSl cU8) y_679.1.Queue), i64 y_679.1.Next, .sl false (L cApi_Packet y_679.1.Early), i64 y_679.1.SentAt] false], orcs_nil, by simp only [go_sem, Int.reduceToNat, hb_684, hc_685, (show 0 < y_672.2.length from hc_685.2), hb_686, hb_687, hc_688, (show 0 < y_674.2.length from hc_688.2), hb_689, hb_690, hc_691, (show 0 < y_676.2.1.length from hc_691.2), hb_692, hb_693], (weak_sel [] (by decide) rfl (by simp only [go_sem]) (by simp only [go_sem]))⟩
                    · replace hv_683 := ite_f hv_683 hb_692
                      have e_hv_683 := Option.some.inj hv_683; subst e_hv_683
                      exact ⟨_, [(0, .bool false)], [.box [i64 y_662.1.Epoch, i64 y_662.1.Other, i64 y_662.1.First, .sl false (L (cSl cU8) y_662.1.Queue), i64 y_662.1.Next, .sl false (L cApi_Packet y_662.1.Early), i64 y_662.1.SentAt] false, .box [i64 y_676.1.Epoch, i64 y_676.1.Other, i64 y_676.1.First, .sl false (L (cSl cU8) y_676.1.Queue), i64 y_676.1.Next, .sl false (L cApi_Packet y_676.1.Early), i64 y_676.1.SentAt] false, .box [i64 y_672.1.Epoch, i64 y_672.1.Other, i64 y_672.1.First, .sl false (L (cSl cU8) y_672.1.Queue), i64 y_672.1.Next, .sl false (L cApi_Packet y_672.1.Early), i64 y_672.1.SentAt] false, .box [i64 y_674.1.Epoch, i64 y_674.1.Other, i64 y_674.1.First, .sl false (L (cSl cU8) y_674.1.Queue), i64 y_674.1.Next, .sl false (L cApi_Packet y_674.1.Early), i64 y_674.1.SentAt] false, .box [i64 y_679.1.Epoch, i64 y_679.1.Other, i64 y_679.1.First, .sl false (L (cSl cU8) y_679.1.Queue), i64 y_679.1.Next, .sl false (L cApi_Packet y_679.1.Early), i64 y_679.1.SentAt] false], orcs_nil, by simp only [go_sem, Int.reduceToNat, hb_684, hc_685, (show 0 < y_672.2.length from hc_685.2), hb_686, hb_687, hc_688, (show 0 < y_674.2.length from hc_688.2), hb_689, hb_690, hc_691, (show 0 < y_676.2.1.length from hc_691.2), hb_692], (weak_sel [] (by decide) rfl (by simp only [go_sem]) (by simp only [go_sem]))⟩
                  · replace hv_683 := ite_f hv_683 hb_690
                    have e_hv_683 := Option.some.inj hv_683; subst e_hv_683
                    exact ⟨_, [(0, .bool false)], [.box [i64 y_662.1.Epoch, i64 y_662.1.Other, i64 y_662.1.First, .sl false (L (cSl cU8) y_662.1.Queue), i64 y_662.1.Next, .sl false (L cApi_Packet y_662.1.Early), i64 y_662.1.SentAt] false, .box [i64 y_676.1.Epoch, i64 y_676.1.Other, i64 y_676.1.First, .sl false (L (cSl cU8) y_676.1.Queue), i64 y_676.1.Next, .sl false (L cApi_Packet y_676.1.Early), i64 y_676.1.SentAt] false, .box [i64 y_672.1.Epoch, i64 y_672.1.Other, i64 y_672.1.First, .sl false (L (cSl cU8) y_672.1.Queue), i64 y_672.1.Next, .sl false (L cApi_Packet y_672.1.Early), i64 y_672.1.SentAt] false, .box [i64 y_674.1.Epoch, i64 y_674.1.Other, i64 y_674.1.First, .sl false (L (cSl cU8) y_674.1.Queue), i64 y_674.1.Next, .sl false (L cApi_Packet y_674.1.Early), i64 y_674.1.SentAt] false, .box [i64 y_679.1.Epoch, i64 y_679.1.Other, i64 y_679.1.First, .sl false (L (cSl cU8) y_679.1.Queue), i64 y_679.1.Next, .sl false (L cApi_Packet y_679.1.Early), i64 y_679.1.SentAt] false], orcs_nil, by simp only [go_sem, Int.reduceToNat, hb_684, hc_685, (show 0 < y_672.2.length from hc_685.2), hb_686, hb_687, hc_688, (show 0 < y_674.2.length from hc_688.2), hb_689, hb_690], (weak_sel [] (by decide) rfl (by simp only [go_sem]) (by simp only [go_sem]))⟩
                · replace hv_683 := ite_f hv_683 hb_689
                  have e_hv_683 := Option.some.inj hv_683; subst e_hv_683
                  exact ⟨_, [(0, .bool false)], [.box [i64 y_662.1.Epoch, i64 y_662.1.Other, i64 y_662.1.First, .sl false (L (cSl cU8) y_662.1.Queue), i64 y_662.1.Next, .sl false (L cApi_Packet y_662.1.Early), i64 y_662.1.SentAt] false, .box [i64 y_676.1.Epoch, i64 y_676.1.Other, i64 y_676.1.First, .sl false (L (cSl cU8) y_676.1.Queue), i64 y_676.1.Next, .sl false (L cApi_Packet y_676.1.Early), i64 y_676.1.SentAt] false, .box [i64 y_672.1.Epoch, i64 y_672.1.Other, i64 y_672.1.First, .sl false (L (cSl cU8) y_672.1.Queue), i64 y_672.1.Next, .sl false (L cApi_Packet y_672.1.Early), i64 y_672.1.SentAt] false, .box [i64 y_674.1.Epoch, i64 y_674.1.Other, i64 y_674.1.First, .sl false (L (cSl cU8) y_674.1.Queue), i64 y_674.1.Next, .sl false (L cApi_Packet y_674.1.Early), i64 y_674.1.SentAt] false, .box [i64 y_679.1.Epoch, i64 y_679.1.Other, i64 y_679.1.First, .sl false (L (cSl cU8) y_679.1.Queue), i64 y_679.1.Next, .sl false (L cApi_Packet y_679.1.Early), i64 y_679.1.SentAt] false], orcs_nil, by simp only [go_sem, Int.reduceToNat, hb_684, hc_685, (show 0 < y_672.2.length from hc_685.2), hb_686, hb_687, hc_688, (show 0 < y_674.2.length from hc_688.2), hb_689], (weak_sel [] (by decide) rfl (by simp only [go_sem]) (by simp only [go_sem]))⟩
              · replace hv_683 := ite_f hv_683 hb_687
                have e_hv_683 := Option.some.inj hv_683; subst e_hv_683
                exact ⟨_, [(0, .bool false)], [.box [i64 y_662.1.Epoch, i64 y_662.1.Other, i64 y_662.1.First, .sl false (L (cSl cU8) y_662.1.Queue), i64 y_662.1.Next, .sl false (L cApi_Packet y_662.1.Early), i64 y_662.1.SentAt] false, .box [i64 y_676.1.Epoch, i64 y_676.1.Other, i64 y_676.1.First, .sl false (L (cSl cU8) y_676.1.Queue), i64 y_676.1.Next, .sl false (L cApi_Packet y_676.1.Early), i64 y_676.1.SentAt] false, .box [i64 y_672.1.Epoch, i64 y_672.1.Other, i64 y_672.1.First, .sl false (L (cSl cU8) y_672.1.Queue), i64 y_672.1.Next, .sl false (L cApi_Packet y_672.1.Early), i64 y_672.1.SentAt] false, .box [i64 y_674.1.Epoch, i64 y_674.1.Other, i64 y_674.1.First, .sl false (L (cSl cU8) y_674.1.Queue), i64 y_674.1.Next, .sl false (L cApi_Packet y_674.1.Early), i64 y_674.1.SentAt] false, .box [i64 y_679.1.Epoch, i64 y_679.1.Other, i64 y_679.1.First, .sl false (L (cSl cU8) y_679.1.Queue), i64 y_679.1.Next, .sl false (L cApi_Packet y_679.1.Early), i64 y_679.1.SentAt] false], orcs_nil, by simp only [go_sem, Int.reduceToNat, hb_684, hc_685, (show 0 < y_672.2.length from hc_685.2), hb_686, hb_687], (weak_sel [] (by decide) rfl (by simp only [go_sem]) (by simp only [go_sem]))⟩
            · replace hv_683 := ite_f hv_683 hb_686
              have e_hv_683 := Option.some.inj hv_683; subst e_hv_683
              exact ⟨_, [(0, .bool false)], [.box [i64 y_662.1.Epoch, i64 y_662.1.Other, i64 y_662.1.First, .sl false (L (cSl cU8) y_662.1.Queue), i64 y_662.1.Next, .sl false (L cApi_Packet y_662.1.Early), i64 y_662.1.SentAt] false, .box [i64 y_676.1.Epoch, i64 y_676.1.Other, i64 y_676.1.First, .sl false (L (cSl cU8) y_676.1.Queue), i64 y_676.1.Next, .sl false (L cApi_Packet y_676.1.Early), i64 y_676.1.SentAt] false, .box [i64 y_672.1.Epoch, i64 y_672.1.Other, i64 y_672.1.First, .sl false (L (cSl cU8) y_672.1.Queue), i64 y_672.1.Next, .sl false (L cApi_Packet y_672.1.Early), i64 y_672.1.SentAt] false, .box [i64 y_674.1.Epoch, i64 y_674.1.Other, i64 y_674.1.First, .sl false (L (cSl cU8) y_674.1.Queue), i64 y_674.1.Next, .sl false (L cApi_Packet y_674.1.Early), i64 y_674.1.SentAt] false, .box [i64 y_679.1.Epoch, i64 y_679.1.Other, i64 y_679.1.First, .sl false (L (cSl cU8) y_679.1.Queue), i64 y_679.1.Next, .sl false (L cApi_Packet y_679.1.Early), i64 y_679.1.SentAt] false], orcs_nil, by simp only [go_sem, Int.reduceToNat, hb_684, hc_685, (show 0 < y_672.2.length from hc_685.2), hb_686], (weak_sel [] (by decide) rfl (by simp only [go_sem]) (by simp only [go_sem]))⟩
          · replace hv_683 := ite_f hv_683 hb_684
            have e_hv_683 := Option.some.inj hv_683; subst e_hv_683
            exact ⟨_, [(0, .bool false)], [.box [i64 y_662.1.Epoch, i64 y_662.1.Other, i64 y_662.1.First, .sl false (L (cSl cU8) y_662.1.Queue), i64 y_662.1.Next, .sl false (L cApi_Packet y_662.1.Early), i64 y_662.1.SentAt] false, .box [i64 y_676.1.Epoch, i64 y_676.1.Other, i64 y_676.1.First, .sl false (L (cSl cU8) y_676.1.Queue), i64 y_676.1.Next, .sl false (L cApi_Packet y_676.1.Early), i64 y_676.1.SentAt] false, .box [i64 y_672.1.Epoch, i64 y_672.1.Other, i64 y_672.1.First, .sl false (L (cSl cU8) y_672.1.Queue), i64 y_672.1.Next, .sl false (L cApi_Packet y_672.1.Early), i64 y_672.1.SentAt] false, .box [i64 y_674.1.Epoch, i64 y_674.1.Other, i64 y_674.1.First, .sl false (L (cSl cU8) y_674.1.Queue), i64 y_674.1.Next, .sl false (L cApi_Packet y_674.1.Early), i64 y_674.1.SentAt] false, .box [i64 y_679.1.Epoch, i64 y_679.1.Other, i64 y_679.1.First, .sl false (L (cSl cU8) y_679.1.Queue), i64 y_679.1.Next, .sl false (L cApi_Packet y_679.1.Early), i64 y_679.1.SentAt] false], orcs_nil, by simp only [go_sem, Int.reduceToNat, hb_684], (weak_sel [] (by decide) rfl (by simp only [go_sem]) (by simp only [go_sem]))⟩
        refine run_ret ?_
        obtain rfl := Option.some.inj h
        refine wkP_of (Weak.refl _ _) ?_
        refine ret_ok (.inr rfl) ?_
        simp only [go_sem]

end Go.Proofs.Ytomjphpnpcgacaa
/-
  The functions compute just that.
-/
namespace Go.Proofs.Ytomjphpnpcgacaa
open Go.Rv
set_option linter.unusedVariables false
set_option linter.unusedSimpArgs false
set_option maxRecDepth 20000
set_option maxHeartbeats 4000000

theorem codec_appendInt_1_con {u_694 : UInt64} {r : Int} (h : codec_appendInt_1 u_694 = some r) : Con B 69 [u64 u_694] [] (fun r' σ' => r' = i64 r ∧ σ' = []) := by
  refine con_walk (N := 10) (rs := [.tmp 2]) ok Try.func69 rfl (by decide +kernel) rfl rfl (Nat.le_of_ble_eq_true rfl) (fun F => ?_)
  have hE := ok.env F
  unfold codec_appendInt_1 at h
  show Run (B.env F) 0 _ ⟨asFr 10 [(0, u64 u_694)], []⟩ _
  refine run_wkP ?_
  refine run_textE hE [0, 2] (fr' := [(0, u64 u_694), (2, i64 0)]) (σ' := []) ⟨_, orcs_nil, ?_⟩ ?_
  · simp only [go_sem]
  replace h := bind_some1 h; obtain ⟨j_710, hA_711, hj_712⟩ := h
  refine run_join (fun (v : Int) => (⟨asFr 10 [(2, i64 v)], []⟩ : St)) (fun v => v = j_710) ?_ ?_
  · have h := hA_711; clear hA_711
    refine run_block ?_
    replace h := bind_some1 h; obtain ⟨x_720, hx_721, hj_722⟩ := h
    refine run_loopO hx_721 (fun (v : UInt64 × Int) => (⟨asFr 10 [(0, u64 v.1), (2, i64 v.2)], []⟩ : St)) (weak_sel [] (by decide) rfl (by simp only [go_sem]) (by simp only [go_sem])) ?_
    rintro ⟨u_715, k_716⟩ o_723 h hxx_724
    replace h : codec_appendInt_1_b1 u_715 k_716 = some o_723 := h
    unfold codec_appendInt_1_b1 at h
    refine run_seq ?_
    refine run_textE hE [0, 2, 4] (fr' := [(0, u64 u_715), (2, i64 k_716), (4, .bool ((decide (u_715 > (0 : UInt64)))))]) (σ' := []) ⟨_, orcs_nil, ?_⟩ ?_
    · simp only [go_sem]
    refine run_condL (b := (decide (u_715 > (0 : UInt64)))) rfl (by decide) (fun hb => ?_) (fun hb => ?_)
    · replace h := ite_t h hb
      refine run_skip ?_
      refine thenK_n ?_
      refine run_seq ?_
      refine run_block ?_
      refine run_textE0 hE (wk_block wk_then) [0, 2] (fr' := [(0, u64 u_715), (2, i64 ((w64 (k_716 + 1))))]) (σ' := []) ⟨_, orcs_nil, ?_⟩ ?_
      · simp only [go_sem]
      refine blockK_n ?_
      refine thenK_n ?_
      replace h := lt1_some h; obtain ⟨u_725, hz_726, h⟩ := h
      refine run_textE0 hE wk_lp [0, 2] (fr' := [(0, u64 u_725), (2, i64 ((w64 (k_716 + 1))))]) (σ' := []) ⟨_, orcs_nil, ?_⟩ ?_
      · subst hz_726; simp only [go_sem]
      obtain rfl := Option.some.inj h
      exact lpK_n ((u_725, (w64 (k_716 + 1)))) rfl (weak_sel [] (by decide) rfl (by simp only [go_sem]) (by simp only [go_sem]))
    · replace h := ite_f h hb
      refine run_exit ?_
      refine thenK_x ?_
      obtain rfl := Option.some.inj h
      have ex_x_720 := hxx_724 _ rfl
      subst ex_x_720
      have h := hj_722; clear hj_722
      refine lpK_x ?_
      refine blockK_x ?_
      obtain rfl := Option.some.inj h
      exact joinK_n k_716 rfl ((weak_sel (l' := [(2, i64 k_716)]) (σ' := []) [] (by decide) rfl (by simp only [go_sem]) (by simp only [go_sem])).trans (weak_sel [] (by decide) rfl (by simp only [go_sem]) (by simp only [go_sem])))
  rintro k_709 rfl
  have h := hj_712; clear hj_712
  refine run_textE hE [2] (fr' := [(2, i64 k_709)]) (σ' := []) ⟨_, orcs_nil, ?_⟩ ?_
  · simp only [go_sem]
  refine run_ret ?_
  obtain rfl := Option.some.inj h
  refine wkP_of (Weak.refl _ _) ?_
  refine ret_ok (.inr rfl) ?_
  simp only [go_sem]

theorem codec_appendInt_con {b_727 : List UInt8} {n_728 : Int} {r : List UInt8} (h : codec_appendInt b_727 n_728 = some r) : Con B 64 [.bs false 0 (b_727.length) 0 (b_727.length), i64 n_728] [.buf 1 (L cU8 b_727) false] (fun r' σ' => r' = .bs false 0 (r.length) 0 (r.length) ∧ σ' = [.buf 1 (L cU8 r) false]) := by
  refine con_walk_own (N := 48) (rs := [.tmp 4]) 1 rfl ok Try.func64 rfl (by decide +kernel) rfl rfl (Nat.le_of_ble_eq_true rfl) (fun F => ?_)
  have hE := ok.env F
  unfold codec_appendInt at h
  show Run (B.env F) 1 _ ⟨asFr 48 [(0, .bs false 0 (b_727.length) 0 (b_727.length)), (1, i64 n_728)], [.buf 1 (L cU8 b_727) false]⟩ _
  refine run_wkP ?_
  refine run_textE hE [0, 1] (fr' := [(0, .bs false 0 (b_727.length) 0 (b_727.length)), (1, i64 n_728)]) (σ' := [.buf 1 (L cU8 b_727) false]) ⟨_, orcs_nil, ?_⟩ ?_
  · simp only [go_sem]
  refine run_textE hE [0, 1, 5] (fr' := [(0, .bs false 0 (b_727.length) 0 (b_727.length)), (1, i64 n_728), (5, .fn 69 [])]) (σ' := [.buf 1 (L cU8 b_727) false]) ⟨_, orcs_nil, ?_⟩ ?_
  · simp only [go_sem]
  replace h := bind_some1 h; obtain ⟨y_793, hy_794, h⟩ := h
  refine run_textE hE [0, 1, 5, 6] (fr' := [(0, .bs false 0 (b_727.length) 0 (b_727.length)), (1, i64 n_728), (5, .fn 69 []), (6, i64 y_793)]) (σ' := [.buf 1 (L cU8 b_727) false]) ⟨_, orcs_ok (l := [(12, 69, [u64 ((UInt64.ofInt n_728))], i64 y_793)]) ⟨codec_appendInt_1_con  hy_794, trivial⟩, ?_⟩ ?_
  · simp only [go_sem]
  replace h := lt1_some h; obtain ⟨tag_795, hz_796, h⟩ := h
  refine run_textE hE [0, 1, 5, 6, 7] (fr' := [(0, .bs false 0 (b_727.length) 0 (b_727.length)), (1, i64 n_728), (5, .fn 69 []), (6, i64 y_793), (7, u8 tag_795)]) (σ' := [.buf 1 (L cU8 b_727) false]) ⟨_, orcs_nil, ?_⟩ ?_
  · subst hz_796; simp only [go_sem]
  replace h := bind_some1 h; obtain ⟨j_803, hA_804, hj_805⟩ := h
  refine run_join (fun (v : Int × UInt8) => (⟨asFr 48 [(0, .bs false 0 (b_727.length) 0 (b_727.length)), (1, i64 n_728), (6, i64 v.1), (7, u8 v.2)], [.buf 1 (L cU8 b_727) false]⟩ : St)) (fun v => v = j_803) ?_ ?_
  · have h := hA_804; clear hA_804
    refine run_textE hE [0, 1, 5, 6, 7, 17] (fr' := [(0, .bs false 0 (b_727.length) 0 (b_727.length)), (1, i64 n_728), (5, .fn 69 []), (6, i64 y_793), (7, u8 tag_795), (17, .bool ((decide (n_728 < 0))))]) (σ' := [.buf 1 (L cU8 b_727) false]) ⟨_, orcs_nil, ?_⟩ ?_
    · simp only [go_sem]
    refine run_condL (b := (decide (n_728 < 0))) rfl (by decide) (fun hb => ?_) (fun hb => ?_)
    · replace h := ite_t h hb
      replace h := bind_some1 h; obtain ⟨y_806, hy_807, h⟩ := h
      refine run_textE hE [0, 1, 6] (fr' := [(0, .bs false 0 (b_727.length) 0 (b_727.length)), (1, i64 n_728), (6, i64 y_806)]) (σ' := [.buf 1 (L cU8 b_727) false]) ⟨_, orcs_ok (l := [(22, 69, [u64 ((~~~(UInt64.ofInt n_728)))], i64 y_806)]) ⟨codec_appendInt_1_con  hy_807, trivial⟩, ?_⟩ ?_
      · simp only [go_sem]
      replace h := lt1_some h; obtain ⟨tag_808, hz_809, h⟩ := h
      refine run_textE0 hE wk_join [0, 1, 6, 7] (fr' := [(0, .bs false 0 (b_727.length) 0 (b_727.length)), (1, i64 n_728), (6, i64 y_806), (7, u8 tag_808)]) (σ' := [.buf 1 (L cU8 b_727) false]) ⟨_, orcs_nil, ?_⟩ ?_
      · subst hz_809; simp only [go_sem]
      obtain rfl := Option.some.inj h
      exact joinK_n ((y_806, tag_808)) rfl (weak_sel [0] (by decide) rfl (by simp only [go_sem]) (by simp only [go_sem]))
    · replace h := ite_f h hb
      refine run_skip ?_
      obtain rfl := Option.some.inj h
      exact joinK_n ((y_793, tag_795)) rfl (weak_sel [0] (by decide) rfl (by simp only [go_sem]) (by simp only [go_sem]))
  rintro ⟨k_801, tag_802⟩ rfl
  have h := hj_805; clear hj_805
  replace h := chk_some h; obtain ⟨hc_810, h⟩ := h
  replace h := lt1_some h; obtain ⟨l_811, hz_812, h⟩ := h
  refine run_textE hE [0, 1, 6] (fr' := [(0, .bs false 0 (l_811.length) 0 (l_811.length)), (1, i64 n_728), (6, i64 k_801)]) (σ' := [.buf 1 (L cU8 l_811) false, .buf 1 (L cU8 (([tag_802] : List UInt8))) false]) ⟨_, orcs_nil, ?_⟩ ?_
  · subst hz_812; simp only [go_sem, Nat.reduceBEq, Nat.reduceMul, Nat.reduceSub, Nat.reduceGT, Nat.reducePow, Nat.reduceLeDiff, Int.reduceToNat, hc_810]
  replace h := bind_some1 h; obtain ⟨j_834, hA_835, hj_836⟩ := h
  refine run_join (fun (v : List UInt8) => (⟨asFr 48 [(0, .bs false 0 (v.length) 0 (v.length))], [.buf 1 (L cU8 v) false]⟩ : St)) (fun v => v = j_834) ?_ ?_
  · have h := hA_835; clear hA_835
    refine run_textE hE [0, 1, 6, 30, 31] (fr' := [(0, .bs false 0 (l_811.length) 0 (l_811.length)), (1, i64 n_728), (6, i64 k_801), (30, i64 k_801), (31, i64 0)]) (σ' := [.buf 1 (L cU8 l_811) false, .buf 1 (L cU8 (([tag_802] : List UInt8))) false]) ⟨_, orcs_nil, ?_⟩ ?_
    · simp only [go_sem]
    refine run_block ?_
    replace h := bind_some1 h; obtain ⟨x_848, hx_849, hj_850⟩ := h
    refine run_loopO hx_849 (fun (v : Int × List UInt8) => (⟨asFr 48 [(0, .bs false 0 (v.2.length) 0 (v.2.length)), (1, i64 n_728), (6, i64 k_801), (30, i64 k_801), (31, i64 v.1)], [.buf 1 (L cU8 v.2) false]⟩ : St)) (weak_sel [0] (by decide) rfl (by simp only [go_sem]) (by simp only [go_sem])) ?_
    rintro ⟨t_841, l_842⟩ o_851 h hxx_852
    replace h : codec_appendInt_b1 n_728 k_801 t_841 l_842 = some o_851 := h
    unfold codec_appendInt_b1 at h
    refine run_textE hE [0, 1, 6, 30, 31, 32] (fr' := [(0, .bs false 0 (l_842.length) 0 (l_842.length)), (1, i64 n_728), (6, i64 k_801), (30, i64 k_801), (31, i64 t_841), (32, .bool ((decide (t_841 < k_801))))]) (σ' := [.buf 1 (L cU8 l_842) false]) ⟨_, orcs_nil, ?_⟩ ?_
    · simp only [go_sem]
    refine run_seq ?_
    refine run_condL (b := (decide (t_841 < k_801))) rfl (by decide) (fun hb => ?_) (fun hb => ?_)
    · replace h := ite_t h hb
      refine run_skip ?_
      refine thenK_n ?_
      refine run_seq ?_
      refine run_block ?_
      refine run_textE hE [0, 1, 6, 8, 30, 31] (fr' := [(0, .bs false 0 (l_842.length) 0 (l_842.length)), (1, i64 n_728), (6, i64 k_801), (8, i64 t_841), (30, i64 k_801), (31, i64 t_841)]) (σ' := [.buf 1 (L cU8 l_842) false]) ⟨_, orcs_nil, ?_⟩ ?_
      · simp only [go_sem]
      replace h := chk_some h; obtain ⟨hc_853, h⟩ := h
      replace h := chk_some h; obtain ⟨hc_854, h⟩ := h
      replace h := lt1_some h; obtain ⟨l_855, hz_856, h⟩ := h
      refine run_textE0 hE (wk_block wk_then) [0, 1, 6, 30, 31] (fr' := [(0, .bs false 0 (l_855.length) 0 (l_855.length)), (1, i64 n_728), (6, i64 k_801), (30, i64 k_801), (31, i64 t_841)]) (σ' := [.buf 1 (L cU8 l_855) false, .buf 1 (L cU8 (([((shr64 ((UInt64.ofInt n_728)) (((w64 (8 * (w64 ((w64 (k_801 - 1)) - t_841))))).toNat))).toUInt8] : List UInt8))) false]) ⟨_, orcs_nil, ?_⟩ ?_
      · subst hz_856; simp only [go_sem, Nat.reduceBEq, Nat.reduceMul, Nat.reduceSub, Nat.reduceGT, Nat.reducePow, Nat.reduceLeDiff, Int.reduceToNat, hc_853, hc_854]
      refine blockK_n ?_
      refine thenK_n ?_
      refine run_textE0 hE wk_lp [0, 1, 6, 30, 31] (fr' := [(0, .bs false 0 (l_855.length) 0 (l_855.length)), (1, i64 n_728), (6, i64 k_801), (30, i64 k_801), (31, i64 ((w64 (t_841 + 1))))]) (σ' := [.buf 1 (L cU8 l_855) false, .buf 1 (L cU8 (([((shr64 ((UInt64.ofInt n_728)) (((w64 (8 * (w64 ((w64 (k_801 - 1)) - t_841))))).toNat))).toUInt8] : List UInt8))) false]) ⟨_, orcs_nil, ?_⟩ ?_
      · simp only [go_sem]
      obtain rfl := Option.some.inj h
      exact lpK_n (((w64 (t_841 + 1)), l_855)) rfl (weak_sel [0] (by decide) rfl (by simp only [go_sem]) (by simp only [go_sem]))
    · replace h := ite_f h hb
      refine run_exit ?_
      refine thenK_x ?_
      obtain rfl := Option.some.inj h
      have ex_x_848 := hxx_852 _ rfl
      subst ex_x_848
      have h := hj_850; clear hj_850
      refine lpK_x ?_
      refine blockK_x ?_
      obtain rfl := Option.some.inj h
      exact joinK_n l_842 rfl ((weak_sel (l' := [(0, .bs false 0 (l_842.length) 0 (l_842.length))]) (σ' := [.buf 1 (L cU8 l_842) false]) [0] (by decide) rfl (by simp only [go_sem]) (by simp only [go_sem])).trans (weak_sel [0] (by decide) rfl (by simp only [go_sem]) (by simp only [go_sem])))
  rintro l_833 rfl
  have h := hj_836; clear hj_836
  refine run_textE hE [4] (fr' := [(4, .bs false 0 (l_833.length) 0 (l_833.length))]) (σ' := [.buf 1 (L cU8 l_833) false]) ⟨_, orcs_nil, ?_⟩ ?_
  · simp only [go_sem]
  refine run_ret ?_
  obtain rfl := Option.some.inj h
  refine wkP_of (Weak.refl _ _) ?_
  refine ret_own (.inr rfl) [0] (by decide) rfl ?_ ?_
  · simp only [go_sem]
  · simp only [go_sem]

end Go.Proofs.Ytomjphpnpcgacaa
/-
  The functions compute just that.
-/
namespace Go.Proofs.Ytomjphpnpcgacaa
open Go.Rv
set_option linter.unusedVariables false
set_option linter.unusedSimpArgs false
set_option maxRecDepth 20000
set_option maxHeartbeats 4000000

theorem codec_shape_F_con {rec_ : Api_Value → Option (Int × Bool)} (hrec : ∀ {v_857 : Api_Value} {r : Int × Bool}, rec_ v_857 = some r → Con B 51 [.agg [i64 v_857.Kind, i64 v_857.N, .sl false (L cU8 v_857.B), .sl false (L cApi_Value v_857.L)]] [] (fun r' σ' => r' = .tup [i64 r.1, .bool r.2] ∧ σ' = [])) {v_857 : Api_Value} {r : Int × Bool} (h : codec_shape_F rec_ v_857 = some r) : Con B 51 [.agg [i64 v_857.Kind, i64 v_857.N, .sl false (L cU8 v_857.B), .sl false (L cApi_Value v_857.L)]] [] (fun r' σ' => r' = .tup [i64 r.1, .bool r.2] ∧ σ' = []) := by
  refine con_walk (N := 64) (rs := [.tmp 2, .tmp 3]) ok Try.func51 rfl (by decide +kernel) rfl rfl (Nat.le_of_ble_eq_true rfl) (fun F => ?_)
  have hE := ok.env F
  unfold codec_shape_F at h
  show Run (B.env F) 0 _ ⟨asFr 64 [(0, .agg [i64 v_857.Kind, i64 v_857.N, .sl false (L cU8 v_857.B), .sl false (L cApi_Value v_857.L)])], []⟩ _
  refine run_wkP ?_
  refine run_textE hE [1, 2] (fr' := [(1, .ref 0 0), (2, i64 0)]) (σ' := [.box [i64 v_857.Kind, i64 v_857.N, .sl false (L cU8 v_857.B), .sl false (L cApi_Value v_857.L)] false]) ⟨_, orcs_nil, ?_⟩ ?_
  · simp only [go_sem]
  replace h := bind_some1 h; obtain ⟨j_959, hA_960, hj_961⟩ := h
  refine run_join (fun (v : Unit) => (⟨asFr 64 [], []⟩ : St)) (fun v => .inl v = j_959) ?_ ?_
  · have h := hA_960; clear hA_960
    refine run_textE hE [1, 2, 9] (fr' := [(1, .ref 0 0), (2, i64 0), (9, i64 v_857.Kind)]) (σ' := [.box [i64 v_857.Kind, i64 v_857.N, .sl false (L cU8 v_857.B), .sl false (L cApi_Value v_857.L)] false]) ⟨_, orcs_nil, ?_⟩ ?_
    · simp only [go_sem]
    refine run_block ?_
    refine run_textE hE [1, 2, 9, 10] (fr' := [(1, .ref 0 0), (2, i64 0), (9, i64 v_857.Kind), (10, .bool ((v_857.Kind == 1)))]) (σ' := [.box [i64 v_857.Kind, i64 v_857.N, .sl false (L cU8 v_857.B), .sl false (L cApi_Value v_857.L)] false]) ⟨_, orcs_nil, ?_⟩ ?_
    · simp only [go_sem]
    refine run_condL (b := (v_857.Kind == 1)) rfl (by decide) (fun hb => ?_) (fun hb => ?_)
    · replace h := ite_t h hb
      replace h := bind_some1 h; obtain ⟨ok_962, hv_963, h⟩ := h
      refine run_drawW hE mixed [[], [0], [0, 1], [0, 1, 2], [0, 1, 2, 3], [0, 1, 2, 3, 4], [0, 1, 2, 3, 4, 5], [0, 1, 2, 3, 4, 5, 6], [0, 1, 2, 3, 4, 5, 6, 7], [0, 1, 2, 3, 4, 5, 6, 7, 8], [0, 1, 2, 3, 4], [0, 1, 2, 3, 4, 5, 6, 7, 8, 9, 10]] (by kernel_rfl) (by kernel_rfl) [2, 3] (fr' := [(2, i64 0), (3, .bool ok_962)]) (σ' := []) ?_ ?_
      · rcases Bool.eq_false_or_eq_true (((v_857.B.length : Int) == 0)) with hb_964 | hb_964
        · replace hv_963 := ite_t hv_963 hb_964
          have e_hv_963 := Option.some.inj hv_963; subst e_hv_963
          exact ⟨_, [(2, i64 0), (3, .bool (((v_857.L.length : Int) == 0)))], [.box [i64 v_857.Kind, i64 v_857.N, .sl false (L cU8 v_857.B), .sl false (L cApi_Value v_857.L)] false], orcs_nil, by simp only [go_sem, hb_964], (weak_sel [] (by decide) rfl (by simp only [go_sem]) (by simp only [go_sem]))⟩
        · replace hv_963 := ite_f hv_963 hb_964
          have e_hv_963 := Option.some.inj hv_963; subst e_hv_963
          exact ⟨_, [(2, i64 0), (3, .bool false)], [.box [i64 v_857.Kind, i64 v_857.N, .sl false (L cU8 v_857.B), .sl false (L cApi_Value v_857.L)] false], orcs_nil, by simp only [go_sem, hb_964], (weak_sel [] (by decide) rfl (by simp only [go_sem]) (by simp only [go_sem]))⟩
      refine run_ret ?_
      refine blockK_r ?_
      refine joinK_r ?_
      replace h := bind_some1 h; obtain ⟨z_965, h, e_z_965⟩ := h
      obtain rfl := Option.some.inj e_z_965
      obtain rfl := Option.some.inj hj_961
      obtain rfl := Option.some.inj h
      refine wkP_of (Weak.refl _ _) ?_
      refine ret_ok (.inr rfl) ?_
      simp only [go_sem]
    · replace h := ite_f h hb
      refine run_textE hE [1, 2, 9, 22] (fr' := [(1, .ref 0 0), (2, i64 0), (9, i64 v_857.Kind), (22, .bool ((v_857.Kind == 2)))]) (σ' := [.box [i64 v_857.Kind, i64 v_857.N, .sl false (L cU8 v_857.B), .sl false (L cApi_Value v_857.L)] false]) ⟨_, orcs_nil, ?_⟩ ?_
      · simp only [go_sem]
      refine run_condL (b := (v_857.Kind == 2)) rfl (by decide) (fun hb => ?_) (fun hb => ?_)
      · replace h := ite_t h hb
        replace h := bind_some1 h; obtain ⟨ok_966, hv_967, h⟩ := h
        refine run_drawW hE mixed [[], [0], [0, 1], [0, 1, 2], [0, 1, 2, 3], [0, 1, 2, 3, 4], [0, 1, 2, 3, 4, 5], [0, 1, 2, 3, 4, 5, 6], [0, 1, 2, 3, 4, 5, 6, 7], [0, 1, 2, 3], [0, 1, 2, 3, 4, 5, 6, 7, 8, 9]] (by kernel_rfl) (by kernel_rfl) [2, 3] (fr' := [(2, i64 0), (3, .bool ok_966)]) (σ' := []) ?_ ?_
        · rcases Bool.eq_false_or_eq_true ((v_857.N == 0)) with hb_968 | hb_968
          · replace hv_967 := ite_t hv_967 hb_968
            have e_hv_967 := Option.some.inj hv_967; subst e_hv_967
            exact ⟨_, [(2, i64 0), (3, .bool (((v_857.L.length : Int) == 0)))], [.box [i64 v_857.Kind, i64 v_857.N, .sl false (L cU8 v_857.B), .sl false (L cApi_Value v_857.L)] false], orcs_nil, by simp only [go_sem, hb_968], (weak_sel [] (by decide) rfl (by simp only [go_sem]) (by simp only [go_sem]))⟩
          · replace hv_967 := ite_f hv_967 hb_968
            have e_hv_967 := Option.some.inj hv_967; subst e_hv_967
            exact ⟨_, [(2, i64 0), (3, .bool false)], [.box [i64 v_857.Kind, i64 v_857.N, .sl false (L cU8 v_857.B), .sl false (L cApi_Value v_857.L)] false], orcs_nil, by simp only [go_sem, hb_968], (weak_sel [] (by decide) rfl (by simp only [go_sem]) (by simp only [go_sem]))⟩
        refine run_ret ?_
        refine blockK_r ?_
        refine joinK_r ?_
        replace h := bind_some1 h; obtain ⟨z_969, h, e_z_969⟩ := h
        obtain rfl := Option.some.inj e_z_969
        obtain rfl := Option.some.inj hj_961
        obtain rfl := Option.some.inj h
        refine wkP_of (Weak.refl _ _) ?_
        refine ret_ok (.inr rfl) ?_
        simp only [go_sem]
      · replace h := ite_f h hb
        refine run_textE hE [1, 2, 33] (fr' := [(1, .ref 0 0), (2, i64 0), (33, .bool ((v_857.Kind == 3)))]) (σ' := [.box [i64 v_857.Kind, i64 v_857.N, .sl false (L cU8 v_857.B), .sl false (L cApi_Value v_857.L)] false]) ⟨_, orcs_nil, ?_⟩ ?_
        · simp only [go_sem]
        refine run_condL (b := (v_857.Kind == 3)) rfl (by decide) (fun hb => ?_) (fun hb => ?_)
        · replace h := ite_t h hb
          refine run_seq ?_
          replace h := bind_some1 h; obtain ⟨t_970, hv_971, h⟩ := h
          refine run_textW hE [1, 2, 43] (fr' := [(1, .ref 0 0), (2, i64 0), (43, .bool t_970)]) (σ' := [.box [i64 v_857.Kind, i64 v_857.N, .sl false (L cU8 v_857.B), .sl false (L cApi_Value v_857.L)] false]) ?_ ?_
          · rcases Bool.eq_false_or_eq_true ((v_857.N != 0)) with hb_972 | hb_972
            · replace hv_971 := ite_t hv_971 hb_972
              have e_hv_971 := Option.some.inj hv_971; subst e_hv_971
              exact ⟨_, [(1, .ref 0 0), (2, i64 0), (43, .bool true)], [.box [i64 v_857.Kind, i64 v_857.N, .sl false (L cU8 v_857.B), .sl false (L cApi_Value v_857.L)] false], orcs_nil, by simp only [go_sem, hb_972], (weak_sel [0] (by decide) rfl (by simp only [go_sem]) (by simp only [go_sem]))⟩
            · replace hv_971 := ite_f hv_971 hb_972
              have e_hv_971 := Option.some.inj hv_971; subst e_hv_971
              exact ⟨_, [(1, .ref 0 0), (2, i64 0), (43, .bool (((v_857.B.length : Int) != 0)))], [.box [i64 v_857.Kind, i64 v_857.N, .sl false (L cU8 v_857.B), .sl false (L cApi_Value v_857.L)] false], orcs_nil, by simp only [go_sem, hb_972], (weak_sel [0] (by decide) rfl (by simp only [go_sem]) (by simp only [go_sem]))⟩
          refine run_condL (b := t_970) rfl (by decide) (fun hb => ?_) (fun hb => ?_)
          · replace h := ite_t h hb
            refine run_textE hE [2, 3] (fr' := [(2, i64 0), (3, .bool false)]) (σ' := [.box [i64 v_857.Kind, i64 v_857.N, .sl false (L cU8 v_857.B), .sl false (L cApi_Value v_857.L)] false]) ⟨_, orcs_nil, ?_⟩ ?_
            · simp only [go_sem]
            refine run_ret ?_
            refine thenK_r ?_
            refine blockK_r ?_
            refine joinK_r ?_
            replace h := bind_some1 h; obtain ⟨z_973, h, e_z_973⟩ := h
            obtain rfl := Option.some.inj e_z_973
            obtain rfl := Option.some.inj hj_961
            obtain rfl := Option.some.inj h
            refine wkP_of (Weak.refl _ _) ?_
            refine ret_ok (.inr rfl) ?_
            simp only [go_sem]
          · replace h := ite_f h hb
            refine run_skip ?_
            refine thenK_n ?_
            replace h := bind_some1 h; obtain ⟨j_1017, hA_1018, hj_1019⟩ := h
            refine run_join (fun (v : Int) => (⟨asFr 64 [(2, i64 v)], []⟩ : St)) (fun v => .inl v = j_1017) ?_ ?_
            · have h := hA_1018; clear hA_1018
              refine run_textE hE [2, 45, 46, 47] (fr' := [(2, i64 0), (45, .sl false (L cApi_Value v_857.L)), (46, i64 ((v_857.L.length : Int))), (47, i64 0)]) (σ' := [.box [i64 v_857.Kind, i64 v_857.N, .sl false (L cU8 v_857.B), .sl false (L cApi_Value v_857.L)] false]) ⟨_, orcs_nil, ?_⟩ ?_
              · simp only [go_sem]
              refine run_block ?_
              replace h := bind_some1 h; obtain ⟨x_1043, hx_1044, hj_1045⟩ := h
              refine run_loopO hx_1044 (fun (v : Int × Int) => (⟨asFr 64 [(2, i64 v.1), (45, .sl false (L cApi_Value v_857.L)), (46, i64 ((v_857.L.length : Int))), (47, i64 v.2)], []⟩ : St)) (weak_sel [] (by decide) rfl (by simp only [go_sem]) (by simp only [go_sem])) ?_
              rintro ⟨depth_1026, t_1027⟩ o_1046 h hxx_1047
              replace h : codec_shape_b1 v_857 rec_ depth_1026 t_1027 = some o_1046 := h
              unfold codec_shape_b1 at h
              refine run_textE hE [2, 45, 46, 47, 48] (fr' := [(2, i64 depth_1026), (45, .sl false (L cApi_Value v_857.L)), (46, i64 ((v_857.L.length : Int))), (47, i64 t_1027), (48, .bool ((decide (t_1027 < (v_857.L.length : Int)))))]) (σ' := []) ⟨_, orcs_nil, ?_⟩ ?_
              · simp only [go_sem]
              refine run_seq ?_
              refine run_condL (b := (decide (t_1027 < (v_857.L.length : Int)))) rfl (by decide) (fun hb => ?_) (fun hb => ?_)
              · replace h := ite_t h hb
                refine run_skip ?_
                refine thenK_n ?_
                refine run_seq ?_
                refine run_block ?_
                replace h := chk_some h; obtain ⟨hc_1048, h⟩ := h
                replace h := lt1_some h; obtain ⟨f_1049, hz_1053, h⟩ := h
                replace h := lt1_some h; obtain ⟨f_1050, hz_1054, h⟩ := h
                replace h := lt1_some h; obtain ⟨f_1051, hz_1055, h⟩ := h
                replace h := lt1_some h; obtain ⟨f_1052, hz_1056, h⟩ := h
                refine run_textE hE [2, 5, 45, 46, 47] (fr' := [(2, i64 depth_1026), (5, .ref 0 0), (45, .sl false (L cApi_Value v_857.L)), (46, i64 ((v_857.L.length : Int))), (47, i64 t_1027)]) (σ' := [.box [i64 f_1049, i64 f_1050, .sl false (L cU8 f_1051), .sl false (L cApi_Value f_1052)] false]) ⟨_, orcs_nil, ?_⟩ ?_
                · subst hz_1056; subst hz_1055; subst hz_1054; subst hz_1053; simp only [go_sem, Int.reduceToNat, Nat.reduceLeDiff, hc_1048, hc_1048.2, lt_le hc_1048.2]
                replace h := bind_some1 h; obtain ⟨y_1057, hy_1058, h⟩ := h
                refine run_textE hE [2, 6, 7, 45, 46, 47] (fr' := [(2, i64 depth_1026), (6, i64 y_1057.1), (7, .bool y_1057.2), (45, .sl false (L cApi_Value v_857.L)), (46, i64 ((v_857.L.length : Int))), (47, i64 t_1027)]) (σ' := [.box [i64 f_1049, i64 f_1050, .sl false (L cU8 f_1051), .sl false (L cApi_Value f_1052)] false]) ⟨_, orcs_ok (l := [(53, 51, [.agg [i64 f_1049, i64 f_1050, .sl false (L cU8 f_1051), .sl false (L cApi_Value f_1052)]], .tup [i64 y_1057.1, .bool y_1057.2])]) ⟨hrec  hy_1058, trivial⟩, ?_⟩ ?_
                · simp only [go_sem]
                refine run_seq ?_
                refine run_textE hE [2, 6, 45, 46, 47, 57] (fr' := [(2, i64 depth_1026), (6, i64 y_1057.1), (45, .sl false (L cApi_Value v_857.L)), (46, i64 ((v_857.L.length : Int))), (47, i64 t_1027), (57, .bool ((!y_1057.2)))]) (σ' := [.box [i64 f_1049, i64 f_1050, .sl false (L cU8 f_1051), .sl false (L cApi_Value f_1052)] false]) ⟨_, orcs_nil, ?_⟩ ?_
                · simp only [go_sem]
                refine run_condL (b := (!y_1057.2)) rfl (by decide) (fun hb => ?_) (fun hb => ?_)
                · replace h := ite_t h hb
                  refine run_textE hE [2, 3] (fr' := [(2, i64 0), (3, .bool false)]) (σ' := [.box [i64 f_1049, i64 f_1050, .sl false (L cU8 f_1051), .sl false (L cApi_Value f_1052)] false]) ⟨_, orcs_nil, ?_⟩ ?_
                  · simp only [go_sem]
                  refine run_ret ?_
                  refine thenK_r ?_
                  refine blockK_r ?_
                  refine thenK_r ?_
                  refine lpK_r ?_
                  replace h := bind_some1 h; obtain ⟨z_1061, h, e_z_1061⟩ := h
                  obtain rfl := Option.some.inj e_z_1061
                  have ex_z_1061 := hxx_1047 _ rfl
                  subst ex_z_1061
                  obtain rfl := Option.some.inj hj_1045
                  refine blockK_r ?_
                  refine joinK_r ?_
                  replace h := bind_some1 h; obtain ⟨z_1060, h, e_z_1060⟩ := h
                  obtain rfl := Option.some.inj e_z_1060
                  obtain rfl := Option.some.inj hj_1019
                  refine blockK_r ?_
                  refine joinK_r ?_
                  replace h := bind_some1 h; obtain ⟨z_1059, h, e_z_1059⟩ := h
                  obtain rfl := Option.some.inj e_z_1059
                  obtain rfl := Option.some.inj hj_961
                  obtain rfl := Option.some.inj h
                  refine wkP_of (Weak.refl _ _) ?_
                  refine ret_ok (.inr rfl) ?_
                  simp only [go_sem]
                · replace h := ite_f h hb
                  refine run_skip ?_
                  refine thenK_n ?_
                  refine run_textE0 hE (wk_block wk_then) [2, 45, 46, 47] (fr' := [(2, i64 ((mx64 depth_1026 y_1057.1))), (45, .sl false (L cApi_Value v_857.L)), (46, i64 ((v_857.L.length : Int))), (47, i64 t_1027)]) (σ' := [.box [i64 f_1049, i64 f_1050, .sl false (L cU8 f_1051), .sl false (L cApi_Value f_1052)] false]) ⟨_, orcs_nil, ?_⟩ ?_
                  · simp only [go_sem]
                  refine blockK_n ?_
                  refine thenK_n ?_
                  refine run_textE0 hE wk_lp [2, 45, 46, 47] (fr' := [(2, i64 ((mx64 depth_1026 y_1057.1))), (45, .sl false (L cApi_Value v_857.L)), (46, i64 ((v_857.L.length : Int))), (47, i64 ((w64 (t_1027 + 1))))]) (σ' := [.box [i64 f_1049, i64 f_1050, .sl false (L cU8 f_1051), .sl false (L cApi_Value f_1052)] false]) ⟨_, orcs_nil, ?_⟩ ?_
                  · simp only [go_sem]
                  obtain rfl := Option.some.inj h
                  exact lpK_n (((mx64 depth_1026 y_1057.1), (w64 (t_1027 + 1)))) rfl (weak_sel [] (by decide) rfl (by simp only [go_sem]) (by simp only [go_sem]))
              · replace h := ite_f h hb
                refine run_exit ?_
                refine thenK_x ?_
                obtain rfl := Option.some.inj h
                have ex_x_1043 := hxx_1047 _ rfl
                subst ex_x_1043
                have h := hj_1045; clear hj_1045
                refine lpK_x ?_
                refine blockK_x ?_
                obtain rfl := Option.some.inj h
                exact joinK_n depth_1026 rfl ((weak_sel (l' := [(2, i64 depth_1026)]) (σ' := []) [] (by decide) rfl (by simp only [go_sem]) (by simp only [go_sem])).trans (weak_sel [] (by decide) rfl (by simp only [go_sem]) (by simp only [go_sem])))
            rintro depth_1016 rfl
            have h := hj_1019; clear hj_1019
            refine run_textE hE [2, 3] (fr' := [(2, i64 ((w64 (depth_1016 + 1)))), (3, .bool true)]) (σ' := []) ⟨_, orcs_nil, ?_⟩ ?_
            · simp only [go_sem]
            refine run_ret ?_
            refine blockK_r ?_
            refine joinK_r ?_
            replace h := bind_some1 h; obtain ⟨z_1062, h, e_z_1062⟩ := h
            obtain rfl := Option.some.inj e_z_1062
            obtain rfl := Option.some.inj hj_961
            obtain rfl := Option.some.inj h
            refine wkP_of (Weak.refl _ _) ?_
            refine ret_ok (.inr rfl) ?_
            simp only [go_sem]
        · replace h := ite_f h hb
          refine run_skip ?_
          refine blockK_n ?_
          obtain rfl := Option.some.inj h
          exact joinK_n (()) rfl (weak_sel [] (by decide) rfl (by simp only [go_sem]) (by simp only [go_sem]))
  rintro ⟨⟩ rfl
  have h := hj_961; clear hj_961
  refine run_textE hE [2, 3] (fr' := [(2, i64 0), (3, .bool false)]) (σ' := []) ⟨_, orcs_nil, ?_⟩ ?_
  · simp only [go_sem]
  refine run_ret ?_
  obtain rfl := Option.some.inj h
  refine wkP_of (Weak.refl _ _) ?_
  refine ret_ok (.inr rfl) ?_
  simp only [go_sem]
theorem codec_shape_n_con (n : Nat) : ∀ {v_857 : Api_Value} {r : Int × Bool}, codec_shape_n n v_857 = some r → Con B 51 [.agg [i64 v_857.Kind, i64 v_857.N, .sl false (L cU8 v_857.B), .sl false (L cApi_Value v_857.L)]] [] (fun r' σ' => r' = .tup [i64 r.1, .bool r.2] ∧ σ' = []) := by
  induction n with
  | zero => intro v_857 r h; cases h
  | succ n ih => intro v_857 r h; exact codec_shape_F_con ih h
theorem codec_shape_con {v_857 : Api_Value} {r : Int × Bool} (h : codec_shape v_857 = some r) : Con B 51 [.agg [i64 v_857.Kind, i64 v_857.N, .sl false (L cU8 v_857.B), .sl false (L cApi_Value v_857.L)]] [] (fun r' σ' => r' = .tup [i64 r.1, .bool r.2] ∧ σ' = []) := codec_shape_n_con _ h

end Go.Proofs.Ytomjphpnpcgacaa
/-
  The functions compute just that.
-/
namespace Go.Proofs.Ytomjphpnpcgacaa
open Go.Rv
set_option linter.unusedVariables false
set_option linter.unusedSimpArgs false
set_option maxRecDepth 20000
set_option maxHeartbeats 4000000

theorem codec_appendValue_F_con {rec_ : (List UInt8) → Api_Value → Option (List UInt8)} (hrec : ∀ {b_1063 : List UInt8} {v_1064 : Api_Value} {r : List UInt8}, rec_ b_1063 v_1064 = some r → Con B 53 [.bs false 0 (b_1063.length) 0 (b_1063.length), .agg [i64 v_1064.Kind, i64 v_1064.N, .sl false (L cU8 v_1064.B), .sl false (L cApi_Value v_1064.L)]] [.buf 1 (L cU8 b_1063) false] (fun r' σ' => r' = .bs false 0 (r.length) 0 (r.length) ∧ σ' = [.buf 1 (L cU8 r) false])) {b_1063 : List UInt8} {v_1064 : Api_Value} {r : List UInt8} (h : codec_appendValue_F rec_ b_1063 v_1064 = some r) : Con B 53 [.bs false 0 (b_1063.length) 0 (b_1063.length), .agg [i64 v_1064.Kind, i64 v_1064.N, .sl false (L cU8 v_1064.B), .sl false (L cApi_Value v_1064.L)]] [.buf 1 (L cU8 b_1063) false] (fun r' σ' => r' = .bs false 0 (r.length) 0 (r.length) ∧ σ' = [.buf 1 (L cU8 r) false]) := by
  refine con_walk_own (N := 59) (rs := [.tmp 4]) 1 rfl ok Try.func53 rfl (by decide +kernel) rfl rfl (Nat.le_of_ble_eq_true rfl) (fun F => ?_)
  have hE := ok.env F
  unfold codec_appendValue_F at h
  show Run (B.env F) 1 _ ⟨asFr 59 [(0, .bs false 0 (b_1063.length) 0 (b_1063.length)), (1, .agg [i64 v_1064.Kind, i64 v_1064.N, .sl false (L cU8 v_1064.B), .sl false (L cApi_Value v_1064.L)])], [.buf 1 (L cU8 b_1063) false]⟩ _
  refine run_wkP ?_
  refine run_textE hE [0, 3] (fr' := [(0, .bs false 0 (b_1063.length) 0 (b_1063.length)), (3, .ref 1 0)]) (σ' := [.buf 1 (L cU8 b_1063) false, .box [i64 v_1064.Kind, i64 v_1064.N, .sl false (L cU8 v_1064.B), .sl false (L cApi_Value v_1064.L)] false]) ⟨_, orcs_nil, ?_⟩ ?_
  · simp only [go_sem]
  replace h := bind_some1 h; obtain ⟨j_1505, hA_1506, hj_1507⟩ := h
  refine run_join (fun (v : Unit) => (⟨asFr 59 [(0, .bs false 0 (b_1063.length) 0 (b_1063.length)), (3, .ref 1 0)], [.buf 1 (L cU8 b_1063) false, .box [i64 v_1064.Kind, i64 v_1064.N, .sl false (L cU8 v_1064.B), .sl false (L cApi_Value v_1064.L)] false]⟩ : St)) (fun v => .inl v = j_1505) ?_ ?_
  · have h := hA_1506; clear hA_1506
    refine run_textE hE [0, 3, 10] (fr' := [(0, .bs false 0 (b_1063.length) 0 (b_1063.length)), (3, .ref 1 0), (10, i64 v_1064.Kind)]) (σ' := [.buf 1 (L cU8 b_1063) false, .box [i64 v_1064.Kind, i64 v_1064.N, .sl false (L cU8 v_1064.B), .sl false (L cApi_Value v_1064.L)] false]) ⟨_, orcs_nil, ?_⟩ ?_
    · simp only [go_sem]
    refine run_block ?_
    refine run_textE hE [0, 3, 10, 11] (fr' := [(0, .bs false 0 (b_1063.length) 0 (b_1063.length)), (3, .ref 1 0), (10, i64 v_1064.Kind), (11, .bool ((v_1064.Kind == 1)))]) (σ' := [.buf 1 (L cU8 b_1063) false, .box [i64 v_1064.Kind, i64 v_1064.N, .sl false (L cU8 v_1064.B), .sl false (L cApi_Value v_1064.L)] false]) ⟨_, orcs_nil, ?_⟩ ?_
    · simp only [go_sem]
    refine run_condL (b := (v_1064.Kind == 1)) rfl (by decide) (fun hb => ?_) (fun hb => ?_)
    · replace h := ite_t h hb
      replace h := bind_some1 h; obtain ⟨y_1508, hy_1509, h⟩ := h
      refine run_textE hE [4] (fr' := [(4, .bs false 0 (y_1508.length) 0 (y_1508.length))]) (σ' := [.buf 1 (L cU8 y_1508) false, .box [i64 v_1064.Kind, i64 v_1064.N, .sl false (L cU8 v_1064.B), .sl false (L cApi_Value v_1064.L)] false]) ⟨_, orcs_ok2 (l := []) (m := [(16, 64, [.bs false 0 (b_1063.length) 0 (b_1063.length), i64 v_1064.N], [.buf 1 (L cU8 b_1063) false, .box [i64 v_1064.Kind, i64 v_1064.N, .sl false (L cU8 v_1064.B), .sl false (L cApi_Value v_1064.L)] false], .bs false 0 (y_1508.length) 0 (y_1508.length), [.buf 1 (L cU8 y_1508) false, .box [i64 v_1064.Kind, i64 v_1064.N, .sl false (L cU8 v_1064.B), .sl false (L cApi_Value v_1064.L)] false])]) trivial ⟨(wcon_call (codec_appendInt_con hy_1509) [0] (by decide) (by simp only [go_sem]) (by simp only [go_sem]) (by simp only [go_sem]) (by simp only [go_sem]) (by simp only [go_sem])), trivial⟩, ?_⟩ ?_
      · simp only [go_sem]
      refine run_ret ?_
      refine blockK_r ?_
      refine joinK_r ?_
      replace h := bind_some1 h; obtain ⟨z_1510, h, e_z_1510⟩ := h
      obtain rfl := Option.some.inj e_z_1510
      obtain rfl := Option.some.inj hj_1507
      obtain rfl := Option.some.inj h
      refine wkP_of (Weak.refl _ _) ?_
      refine ret_own (.inr rfl) [0] (by decide) rfl ?_ ?_
      · simp only [go_sem]
      · simp only [go_sem]
    · replace h := ite_f h hb
      refine run_textE hE [0, 3, 17] (fr' := [(0, .bs false 0 (b_1063.length) 0 (b_1063.length)), (3, .ref 1 0), (17, .bool ((v_1064.Kind == 2)))]) (σ' := [.buf 1 (L cU8 b_1063) false, .box [i64 v_1064.Kind, i64 v_1064.N, .sl false (L cU8 v_1064.B), .sl false (L cApi_Value v_1064.L)] false]) ⟨_, orcs_nil, ?_⟩ ?_
      · simp only [go_sem]
      refine run_condL (b := (v_1064.Kind == 2)) rfl (by decide) (fun hb => ?_) (fun hb => ?_)
      · replace h := ite_t h hb
        replace h := chk_some h; obtain ⟨hc_1511, h⟩ := h
        replace h := lt1_some h; obtain ⟨l_1512, hz_1513, h⟩ := h
        refine run_textE hE [0, 3] (fr' := [(0, .bs false 0 (l_1512.length) 0 (l_1512.length)), (3, .ref 1 0)]) (σ' := [.buf 1 (L cU8 l_1512) false, .box [i64 v_1064.Kind, i64 v_1064.N, .sl false (L cU8 v_1064.B), .sl false (L cApi_Value v_1064.L)] false, .buf 1 (L cU8 (([(48 : UInt8)] : List UInt8))) false]) ⟨_, orcs_nil, ?_⟩ ?_
        · subst hz_1513; simp only [go_sem, Nat.reduceBEq, Nat.reduceMul, Nat.reduceSub, Nat.reduceGT, Nat.reducePow, Nat.reduceLeDiff, Int.reduceToNat, hc_1511]
        replace h := bind_some1 h; obtain ⟨j_1577, hA_1578, hj_1579⟩ := h
        refine run_join (fun (v : List UInt8) => (⟨asFr 59 [(0, .bs false 0 (v.length) 0 (v.length))], [.buf 1 (L cU8 v) false]⟩ : St)) (fun v => v = j_1577) ?_ ?_
        · have h := hA_1578; clear hA_1578
          refine run_textE hE [0, 23, 24, 25] (fr' := [(0, .bs false 0 (l_1512.length) 0 (l_1512.length)), (23, .sl false (L cU8 v_1064.B)), (24, i64 ((v_1064.B.length : Int))), (25, i64 0)]) (σ' := [.buf 1 (L cU8 l_1512) false, .box [i64 v_1064.Kind, i64 v_1064.N, .sl false (L cU8 v_1064.B), .sl false (L cApi_Value v_1064.L)] false, .buf 1 (L cU8 (([(48 : UInt8)] : List UInt8))) false]) ⟨_, orcs_nil, ?_⟩ ?_
          · simp only [go_sem]
          refine run_block ?_
          replace h := bind_some1 h; obtain ⟨x_1619, hx_1620, hj_1621⟩ := h
          refine run_loopO hx_1620 (fun (v : Int × List UInt8) => (⟨asFr 59 [(0, .bs false 0 (v.2.length) 0 (v.2.length)), (23, .sl false (L cU8 v_1064.B)), (24, i64 ((v_1064.B.length : Int))), (25, i64 v.1)], [.buf 1 (L cU8 v.2) false]⟩ : St)) (weak_sel [0] (by decide) rfl (by simp only [go_sem]) (by simp only [go_sem])) ?_
          rintro ⟨t_1598, l_1599⟩ o_1622 h hxx_1623
          replace h : codec_appendValue_b1 v_1064 t_1598 l_1599 = some o_1622 := h
          unfold codec_appendValue_b1 at h
          refine run_textE hE [0, 23, 24, 25, 26] (fr' := [(0, .bs false 0 (l_1599.length) 0 (l_1599.length)), (23, .sl false (L cU8 v_1064.B)), (24, i64 ((v_1064.B.length : Int))), (25, i64 t_1598), (26, .bool ((decide (t_1598 < (v_1064.B.length : Int)))))]) (σ' := [.buf 1 (L cU8 l_1599) false]) ⟨_, orcs_nil, ?_⟩ ?_
          · simp only [go_sem]
          refine run_seq ?_
          refine run_condL (b := (decide (t_1598 < (v_1064.B.length : Int)))) rfl (by decide) (fun hb => ?_) (fun hb => ?_)
          · replace h := ite_t h hb
            refine run_skip ?_
            refine thenK_n ?_
            replace h := bind_some1 h; obtain ⟨j_1632, hA_1633, hj_1634⟩ := h
            refine run_join (fun (v : List UInt8) => (⟨asFr 59 [(0, .bs false 0 (v.length) 0 (v.length)), (23, .sl false (L cU8 v_1064.B)), (24, i64 ((v_1064.B.length : Int))), (25, i64 t_1598)], [.buf 1 (L cU8 v) false]⟩ : St)) (fun v => v = j_1632) ?_ ?_
            · have h := hA_1633; clear hA_1633
              refine run_block ?_
              replace h := chk_some h; obtain ⟨hc_1635, h⟩ := h
              refine run_textE hE [0, 6, 23, 24, 25] (fr' := [(0, .bs false 0 (l_1599.length) 0 (l_1599.length)), (6, u8 (nth v_1064.B t_1598.toNat)), (23, .sl false (L cU8 v_1064.B)), (24, i64 ((v_1064.B.length : Int))), (25, i64 t_1598)]) (σ' := [.buf 1 (L cU8 l_1599) false]) ⟨_, orcs_nil, ?_⟩ ?_
              · simp only [go_sem, Int.reduceToNat, hc_1635, hc_1635.2, lt_le hc_1635.2]
              replace h := chk_some h; obtain ⟨hc_1636, h⟩ := h
              replace h := lt1_some h; obtain ⟨l_1637, hz_1638, h⟩ := h
              refine run_textE hE [0, 6, 23, 24, 25] (fr' := [(0, .bs false 0 (l_1637.length) 0 (l_1637.length)), (6, u8 (nth v_1064.B t_1598.toNat)), (23, .sl false (L cU8 v_1064.B)), (24, i64 ((v_1064.B.length : Int))), (25, i64 t_1598)]) (σ' := [.buf 1 (L cU8 l_1637) false, .buf 1 (L cU8 (([nth v_1064.B t_1598.toNat] : List UInt8))) false]) ⟨_, orcs_nil, ?_⟩ ?_
              · subst hz_1638; simp only [go_sem, Nat.reduceBEq, Nat.reduceMul, Nat.reduceSub, Nat.reduceGT, Nat.reducePow, Nat.reduceLeDiff, Int.reduceToNat, hc_1636]
              refine run_textE hE [0, 23, 24, 25, 34] (fr' := [(0, .bs false 0 (l_1637.length) 0 (l_1637.length)), (23, .sl false (L cU8 v_1064.B)), (24, i64 ((v_1064.B.length : Int))), (25, i64 t_1598), (34, .bool ((nth v_1064.B t_1598.toNat == (0 : UInt8))))]) (σ' := [.buf 1 (L cU8 l_1637) false, .buf 1 (L cU8 (([nth v_1064.B t_1598.toNat] : List UInt8))) false]) ⟨_, orcs_nil, ?_⟩ ?_
              · simp only [go_sem]
              refine run_condL (b := (nth v_1064.B t_1598.toNat == (0 : UInt8))) rfl (by decide) (fun hb => ?_) (fun hb => ?_)
              · replace h := ite_t h hb
                replace h := chk_some h; obtain ⟨hc_1639, h⟩ := h
                replace h := lt1_some h; obtain ⟨l_1640, hz_1641, h⟩ := h
                refine run_textE0 hE (wk_block wk_join) [0, 23, 24, 25] (fr' := [(0, .bs false 0 (l_1640.length) 0 (l_1640.length)), (23, .sl false (L cU8 v_1064.B)), (24, i64 ((v_1064.B.length : Int))), (25, i64 t_1598)]) (σ' := [.buf 1 (L cU8 l_1640) false, .buf 1 (L cU8 (([nth v_1064.B t_1598.toNat] : List UInt8))) false, .buf 1 (L cU8 (([(255 : UInt8)] : List UInt8))) false]) ⟨_, orcs_nil, ?_⟩ ?_
                · subst hz_1641; simp only [go_sem, Nat.reduceBEq, Nat.reduceMul, Nat.reduceSub, Nat.reduceGT, Nat.reducePow, Nat.reduceLeDiff, Int.reduceToNat, hc_1639]
                refine blockK_n ?_
                obtain rfl := Option.some.inj h
                exact joinK_n l_1640 rfl (weak_sel [0] (by decide) rfl (by simp only [go_sem]) (by simp only [go_sem]))
              · replace h := ite_f h hb
                refine run_skip ?_
                refine blockK_n ?_
                obtain rfl := Option.some.inj h
                exact joinK_n l_1637 rfl (weak_sel [0] (by decide) rfl (by simp only [go_sem]) (by simp only [go_sem]))
            rintro l_1631 rfl
            have h := hj_1634; clear hj_1634
            refine run_textE0 hE wk_lp [0, 23, 24, 25] (fr' := [(0, .bs false 0 (l_1631.length) 0 (l_1631.length)), (23, .sl false (L cU8 v_1064.B)), (24, i64 ((v_1064.B.length : Int))), (25, i64 ((w64 (t_1598 + 1))))]) (σ' := [.buf 1 (L cU8 l_1631) false]) ⟨_, orcs_nil, ?_⟩ ?_
            · simp only [go_sem]
            obtain rfl := Option.some.inj h
            exact lpK_n (((w64 (t_1598 + 1)), l_1631)) rfl (weak_sel [0] (by decide) rfl (by simp only [go_sem]) (by simp only [go_sem]))
          · replace h := ite_f h hb
            refine run_exit ?_
            refine thenK_x ?_
            obtain rfl := Option.some.inj h
            have ex_x_1619 := hxx_1623 _ rfl
            subst ex_x_1619
            have h := hj_1621; clear hj_1621
            refine lpK_x ?_
            refine blockK_x ?_
            obtain rfl := Option.some.inj h
            exact joinK_n l_1599 rfl ((weak_sel (l' := [(0, .bs false 0 (l_1599.length) 0 (l_1599.length))]) (σ' := [.buf 1 (L cU8 l_1599) false]) [0] (by decide) rfl (by simp only [go_sem]) (by simp only [go_sem])).trans (weak_sel [0] (by decide) rfl (by simp only [go_sem]) (by simp only [go_sem])))
        rintro l_1576 rfl
        have h := hj_1579; clear hj_1579
        replace h := chk_some h; obtain ⟨hc_1642, h⟩ := h
        replace h := lt1_some h; obtain ⟨l_1643, hz_1644, h⟩ := h
        refine run_textE hE [4] (fr' := [(4, .bs false 0 (l_1643.length) 0 (l_1643.length))]) (σ' := [.buf 1 (L cU8 l_1643) false, .buf 1 (L cU8 (([(0 : UInt8), (0 : UInt8)] : List UInt8))) false]) ⟨_, orcs_nil, ?_⟩ ?_
        · subst hz_1644; simp only [go_sem, Nat.reduceBEq, Nat.reduceMul, Nat.reduceSub, Nat.reduceGT, Nat.reducePow, Nat.reduceLeDiff, Int.reduceToNat, hc_1642]
        refine run_ret ?_
        refine blockK_r ?_
        refine joinK_r ?_
        replace h := bind_some1 h; obtain ⟨z_1645, h, e_z_1645⟩ := h
        obtain rfl := Option.some.inj e_z_1645
        obtain rfl := Option.some.inj hj_1507
        obtain rfl := Option.some.inj h
        refine wkP_of (Weak.refl _ _) ?_
        refine ret_own (.inr rfl) [0] (by decide) rfl ?_ ?_
        · simp only [go_sem]
        · simp only [go_sem]
      · replace h := ite_f h hb
        refine run_skip ?_
        refine blockK_n ?_
        obtain rfl := Option.some.inj h
        exact joinK_n (()) rfl (weak_sel [0, 1] (by decide) rfl (by simp only [go_sem]) (by simp only [go_sem]))
  rintro ⟨⟩ rfl
  have h := hj_1507; clear hj_1507
  replace h := chk_some h; obtain ⟨hc_1646, h⟩ := h
  replace h := lt1_some h; obtain ⟨l_1647, hz_1648, h⟩ := h
  refine run_textE hE [0, 3] (fr' := [(0, .bs false 0 (l_1647.length) 0 (l_1647.length)), (3, .ref 1 0)]) (σ' := [.buf 1 (L cU8 l_1647) false, .box [i64 v_1064.Kind, i64 v_1064.N, .sl false (L cU8 v_1064.B), .sl false (L cApi_Value v_1064.L)] false, .buf 1 (L cU8 (([(64 : UInt8)] : List UInt8))) false]) ⟨_, orcs_nil, ?_⟩ ?_
  · subst hz_1648; simp only [go_sem, Nat.reduceBEq, Nat.reduceMul, Nat.reduceSub, Nat.reduceGT, Nat.reducePow, Nat.reduceLeDiff, Int.reduceToNat, hc_1646]
  replace h := bind_some1 h; obtain ⟨j_1683, hA_1684, hj_1685⟩ := h
  refine run_join (fun (v : List UInt8) => (⟨asFr 59 [(0, .bs false 0 (v.length) 0 (v.length))], [.buf 1 (L cU8 v) false]⟩ : St)) (fun v => v = j_1683) ?_ ?_
  · have h := hA_1684; clear hA_1684
    refine run_textE hE [0, 46, 47, 48] (fr' := [(0, .bs false 0 (l_1647.length) 0 (l_1647.length)), (46, .sl false (L cApi_Value v_1064.L)), (47, i64 ((v_1064.L.length : Int))), (48, i64 0)]) (σ' := [.buf 1 (L cU8 l_1647) false, .box [i64 v_1064.Kind, i64 v_1064.N, .sl false (L cU8 v_1064.B), .sl false (L cApi_Value v_1064.L)] false, .buf 1 (L cU8 (([(64 : UInt8)] : List UInt8))) false]) ⟨_, orcs_nil, ?_⟩ ?_
    · simp only [go_sem]
    refine run_block ?_
    replace h := bind_some1 h; obtain ⟨x_1703, hx_1704, hj_1705⟩ := h
    refine run_loopO hx_1704 (fun (v : Int × List UInt8) => (⟨asFr 59 [(0, .bs false 0 (v.2.length) 0 (v.2.length)), (46, .sl false (L cApi_Value v_1064.L)), (47, i64 ((v_1064.L.length : Int))), (48, i64 v.1)], [.buf 1 (L cU8 v.2) false]⟩ : St)) (weak_sel [0] (by decide) rfl (by simp only [go_sem]) (by simp only [go_sem])) ?_
    rintro ⟨t_1689, l_1690⟩ o_1706 h hxx_1707
    replace h : codec_appendValue_b2 v_1064 rec_ t_1689 l_1690 = some o_1706 := h
    unfold codec_appendValue_b2 at h
    refine run_textE hE [0, 46, 47, 48, 49] (fr' := [(0, .bs false 0 (l_1690.length) 0 (l_1690.length)), (46, .sl false (L cApi_Value v_1064.L)), (47, i64 ((v_1064.L.length : Int))), (48, i64 t_1689), (49, .bool ((decide (t_1689 < (v_1064.L.length : Int)))))]) (σ' := [.buf 1 (L cU8 l_1690) false]) ⟨_, orcs_nil, ?_⟩ ?_
    · simp only [go_sem]
    refine run_seq ?_
    refine run_condL (b := (decide (t_1689 < (v_1064.L.length : Int)))) rfl (by decide) (fun hb => ?_) (fun hb => ?_)
    · replace h := ite_t h hb
      refine run_skip ?_
      refine thenK_n ?_
      refine run_seq ?_
      refine run_block ?_
      replace h := chk_some h; obtain ⟨hc_1708, h⟩ := h
      replace h := lt1_some h; obtain ⟨f_1709, hz_1713, h⟩ := h
      replace h := lt1_some h; obtain ⟨f_1710, hz_1714, h⟩ := h
      replace h := lt1_some h; obtain ⟨f_1711, hz_1715, h⟩ := h
      replace h := lt1_some h; obtain ⟨f_1712, hz_1716, h⟩ := h
      refine run_textE hE [0, 8, 46, 47, 48] (fr' := [(0, .bs false 0 (l_1690.length) 0 (l_1690.length)), (8, .ref 1 0), (46, .sl false (L cApi_Value v_1064.L)), (47, i64 ((v_1064.L.length : Int))), (48, i64 t_1689)]) (σ' := [.buf 1 (L cU8 l_1690) false, .box [i64 f_1709, i64 f_1710, .sl false (L cU8 f_1711), .sl false (L cApi_Value f_1712)] false]) ⟨_, orcs_nil, ?_⟩ ?_
      · subst hz_1716; subst hz_1715; subst hz_1714; subst hz_1713; simp only [go_sem, Int.reduceToNat, Nat.reduceLeDiff, hc_1708, hc_1708.2, lt_le hc_1708.2]
      replace h := bind_some1 h; obtain ⟨y_1717, hy_1718, h⟩ := h
      refine run_textE0 hE (wk_block wk_then) [0, 46, 47, 48] (fr' := [(0, .bs false 0 (y_1717.length) 0 (y_1717.length)), (46, .sl false (L cApi_Value v_1064.L)), (47, i64 ((v_1064.L.length : Int))), (48, i64 t_1689)]) (σ' := [.buf 1 (L cU8 y_1717) false, .box [i64 f_1709, i64 f_1710, .sl false (L cU8 f_1711), .sl false (L cApi_Value f_1712)] false]) ⟨_, orcs_ok2 (l := []) (m := [(54, 53, [.bs false 0 (l_1690.length) 0 (l_1690.length), .agg [i64 f_1709, i64 f_1710, .sl false (L cU8 f_1711), .sl false (L cApi_Value f_1712)]], [.buf 1 (L cU8 l_1690) false, .box [i64 f_1709, i64 f_1710, .sl false (L cU8 f_1711), .sl false (L cApi_Value f_1712)] false], .bs false 0 (y_1717.length) 0 (y_1717.length), [.buf 1 (L cU8 y_1717) false, .box [i64 f_1709, i64 f_1710, .sl false (L cU8 f_1711), .sl false (L cApi_Value f_1712)] false])]) trivial ⟨(wcon_call (hrec hy_1718) [0] (by decide) (by simp only [go_sem]) (by simp only [go_sem]) (by simp only [go_sem]) (by simp only [go_sem]) (by simp only [go_sem])), trivial⟩, ?_⟩ ?_
      · simp only [go_sem]
      refine blockK_n ?_
      refine thenK_n ?_
      refine run_textE0 hE wk_lp [0, 46, 47, 48] (fr' := [(0, .bs false 0 (y_1717.length) 0 (y_1717.length)), (46, .sl false (L cApi_Value v_1064.L)), (47, i64 ((v_1064.L.length : Int))), (48, i64 ((w64 (t_1689 + 1))))]) (σ' := [.buf 1 (L cU8 y_1717) false, .box [i64 f_1709, i64 f_1710, .sl false (L cU8 f_1711), .sl false (L cApi_Value f_1712)] false]) ⟨_, orcs_nil, ?_⟩ ?_
      · simp only [go_sem]
      obtain rfl := Option.some.inj h
      exact lpK_n (((w64 (t_1689 + 1)), y_1717)) rfl (weak_sel [0] (by decide) rfl (by simp only [go_sem]) (by simp only [go_sem]))
    · replace h := ite_f h hb
      refine run_exit ?_
      refine thenK_x ?_
      obtain rfl := Option.some.inj h
      have ex_x_1703 := hxx_1707 _ rfl
      subst ex_x_1703
      have h := hj_1705; clear hj_1705
      refine lpK_x ?_
      refine blockK_x ?_
      obtain rfl := Option.some.inj h
      exact joinK_n l_1690 rfl ((weak_sel (l' := [(0, .bs false 0 (l_1690.length) 0 (l_1690.length))]) (σ' := [.buf 1 (L cU8 l_1690) false]) [0] (by decide) rfl (by simp only [go_sem]) (by simp only [go_sem])).trans (weak_sel [0] (by decide) rfl (by simp only [go_sem]) (by simp only [go_sem])))
  rintro l_1682 rfl
  have h := hj_1685; clear hj_1685
  replace h := chk_some h; obtain ⟨hc_1719, h⟩ := h
  replace h := lt1_some h; obtain ⟨l_1720, hz_1721, h⟩ := h
  refine run_textE hE [4] (fr' := [(4, .bs false 0 (l_1720.length) 0 (l_1720.length))]) (σ' := [.buf 1 (L cU8 l_1720) false, .buf 1 (L cU8 (([(0 : UInt8)] : List UInt8))) false]) ⟨_, orcs_nil, ?_⟩ ?_
  · subst hz_1721; simp only [go_sem, Nat.reduceBEq, Nat.reduceMul, Nat.reduceSub, Nat.reduceGT, Nat.reducePow, Nat.reduceLeDiff, Int.reduceToNat, hc_1719]
  refine run_ret ?_
  obtain rfl := Option.some.inj h
  refine wkP_of (Weak.refl _ _) ?_
  refine ret_own (.inr rfl) [0] (by decide) rfl ?_ ?_
  · simp only [go_sem]
  · simp only [go_sem]
theorem codec_appendValue_n_con (n : Nat) : ∀ {b_1063 : List UInt8} {v_1064 : Api_Value} {r : List UInt8}, codec_appendValue_n n b_1063 v_1064 = some r → Con B 53 [.bs false 0 (b_1063.length) 0 (b_1063.length), .agg [i64 v_1064.Kind, i64 v_1064.N, .sl false (L cU8 v_1064.B), .sl false (L cApi_Value v_1064.L)]] [.buf 1 (L cU8 b_1063) false] (fun r' σ' => r' = .bs false 0 (r.length) 0 (r.length) ∧ σ' = [.buf 1 (L cU8 r) false]) := by
  induction n with
  | zero => intro b_1063 v_1064 r h; cases h
  | succ n ih => intro b_1063 v_1064 r h; exact codec_appendValue_F_con ih h
theorem codec_appendValue_con {b_1063 : List UInt8} {v_1064 : Api_Value} {r : List UInt8} (h : codec_appendValue b_1063 v_1064 = some r) : Con B 53 [.bs false 0 (b_1063.length) 0 (b_1063.length), .agg [i64 v_1064.Kind, i64 v_1064.N, .sl false (L cU8 v_1064.B), .sl false (L cApi_Value v_1064.L)]] [.buf 1 (L cU8 b_1063) false] (fun r' σ' => r' = .bs false 0 (r.length) 0 (r.length) ∧ σ' = [.buf 1 (L cU8 r) false]) := codec_appendValue_n_con _ h

end Go.Proofs.Ytomjphpnpcgacaa
/-
  The functions compute just that.
-/
namespace Go.Proofs.Ytomjphpnpcgacaa
open Go.Rv
set_option linter.unusedVariables false
set_option linter.unusedSimpArgs false
set_option maxRecDepth 20000
set_option maxHeartbeats 4000000

theorem codec_Encode_con {v_1722 : Api_Value} {r : List UInt8 × Int} (h : codec_Encode v_1722 = some r) : Con B 33 [.agg [i64 v_1722.Kind, i64 v_1722.N, .sl false (L cU8 v_1722.B), .sl false (L cApi_Value v_1722.L)]] [] (fun r' σ' => r' = .tup [.sl false (L cU8 r.1), i64 r.2] ∧ σ' = []) := by
  refine con_walk (N := 22) (rs := [.tmp 2, .tmp 3]) ok Try.func33 rfl (by decide +kernel) rfl rfl (Nat.le_of_ble_eq_true rfl) (fun F => ?_)
  have hE := ok.env F
  unfold codec_Encode at h
  show Run (B.env F) 0 _ ⟨asFr 22 [(0, .agg [i64 v_1722.Kind, i64 v_1722.N, .sl false (L cU8 v_1722.B), .sl false (L cApi_Value v_1722.L)])], []⟩ _
  refine run_wkP ?_
  refine run_textE hE [1] (fr' := [(1, .ref 0 0)]) (σ' := [.box [i64 v_1722.Kind, i64 v_1722.N, .sl false (L cU8 v_1722.B), .sl false (L cApi_Value v_1722.L)] false]) ⟨_, orcs_nil, ?_⟩ ?_
  · simp only [go_sem]
  replace h := bind_some1 h; obtain ⟨y_1723, hy_1724, h⟩ := h
  refine run_textE hE [1, 4, 5] (fr' := [(1, .ref 0 0), (4, i64 y_1723.1), (5, .bool y_1723.2)]) (σ' := [.box [i64 v_1722.Kind, i64 v_1722.N, .sl false (L cU8 v_1722.B), .sl false (L cApi_Value v_1722.L)] false]) ⟨_, orcs_ok (l := [(9, 51, [.agg [i64 v_1722.Kind, i64 v_1722.N, .sl false (L cU8 v_1722.B), .sl false (L cApi_Value v_1722.L)]], .tup [i64 y_1723.1, .bool y_1723.2])]) ⟨codec_shape_con  hy_1724, trivial⟩, ?_⟩ ?_
  · simp only [go_sem]
  refine run_seq ?_
  refine run_textE hE [1, 4, 13] (fr' := [(1, .ref 0 0), (4, i64 y_1723.1), (13, .bool ((!y_1723.2)))]) (σ' := [.box [i64 v_1722.Kind, i64 v_1722.N, .sl false (L cU8 v_1722.B), .sl false (L cApi_Value v_1722.L)] false]) ⟨_, orcs_nil, ?_⟩ ?_
  · simp only [go_sem]
  refine run_condL (b := (!y_1723.2)) rfl (by decide) (fun hb => ?_) (fun hb => ?_)
  · replace h := ite_t h hb
    refine run_textE hE [2, 3] (fr' := [(2, .sl true (L cU8 ([]))), (3, i64 10)]) (σ' := [.box [i64 v_1722.Kind, i64 v_1722.N, .sl false (L cU8 v_1722.B), .sl false (L cApi_Value v_1722.L)] false]) ⟨_, orcs_nil, ?_⟩ ?_
    · simp only [go_sem]
    refine run_ret ?_
    refine thenK_r ?_
    obtain rfl := Option.some.inj h
    refine wkP_of (Weak.refl _ _) ?_
    refine ret_ok (.inr rfl) ?_
    simp only [go_sem]
  · replace h := ite_f h hb
    refine run_skip ?_
    refine thenK_n ?_
    refine run_seq ?_
    refine run_textE hE [1, 15] (fr' := [(1, .ref 0 0), (15, .bool ((decide (y_1723.1 > 16))))]) (σ' := [.box [i64 v_1722.Kind, i64 v_1722.N, .sl false (L cU8 v_1722.B), .sl false (L cApi_Value v_1722.L)] false]) ⟨_, orcs_nil, ?_⟩ ?_
    · simp only [go_sem]
    refine run_condL (b := (decide (y_1723.1 > 16))) rfl (by decide) (fun hb => ?_) (fun hb => ?_)
    · replace h := ite_t h hb
      refine run_textE hE [2, 3] (fr' := [(2, .sl true (L cU8 ([]))), (3, i64 2)]) (σ' := [.box [i64 v_1722.Kind, i64 v_1722.N, .sl false (L cU8 v_1722.B), .sl false (L cApi_Value v_1722.L)] false]) ⟨_, orcs_nil, ?_⟩ ?_
      · simp only [go_sem]
      refine run_ret ?_
      refine thenK_r ?_
      obtain rfl := Option.some.inj h
      refine wkP_of (Weak.refl _ _) ?_
      refine ret_ok (.inr rfl) ?_
      simp only [go_sem]
    · replace h := ite_f h hb
      refine run_skip ?_
      refine thenK_n ?_
      replace h := bind_some1 h; obtain ⟨y_1725, hy_1726, h⟩ := h
      refine run_textE hE [6] (fr' := [(6, .bs false 1 (y_1725.length) 0 (y_1725.length))]) (σ' := [.box [i64 v_1722.Kind, i64 v_1722.N, .sl false (L cU8 v_1722.B), .sl false (L cApi_Value v_1722.L)] false, .buf 1 (L cU8 y_1725) false]) ⟨_, orcs_ok2 (l := []) (m := [(17, 53, [.sl true (L cU8 ([])), .agg [i64 v_1722.Kind, i64 v_1722.N, .sl false (L cU8 v_1722.B), .sl false (L cApi_Value v_1722.L)]], [.box [i64 v_1722.Kind, i64 v_1722.N, .sl false (L cU8 v_1722.B), .sl false (L cApi_Value v_1722.L)] false], .bs false 1 (y_1725.length) 0 (y_1725.length), [.box [i64 v_1722.Kind, i64 v_1722.N, .sl false (L cU8 v_1722.B), .sl false (L cApi_Value v_1722.L)] false, .buf 1 (L cU8 y_1725) false])]) trivial ⟨(wcon_nil 1 (args' := [.bs true 1 0 0 0, .agg [i64 v_1722.Kind, i64 v_1722.N, .sl false (L cU8 v_1722.B), .sl false (L cApi_Value v_1722.L)]]) (by simp only [go_sem]) (wcon_call (codec_appendValue_con hy_1726) [1] (by decide) (by simp only [go_sem]) (by simp only [go_sem]) (by simp only [go_sem]) (by simp only [go_sem]) (by simp only [go_sem]))), trivial⟩, ?_⟩ ?_
      · simp only [go_sem]
      refine run_seq ?_
      refine run_textE hE [6, 20] (fr' := [(6, .bs false 1 (y_1725.length) 0 (y_1725.length)), (20, .bool ((decide ((y_1725.length : Int) > 65536))))]) (σ' := [.box [i64 v_1722.Kind, i64 v_1722.N, .sl false (L cU8 v_1722.B), .sl false (L cApi_Value v_1722.L)] false, .buf 1 (L cU8 y_1725) false]) ⟨_, orcs_nil, ?_⟩ ?_
      · simp only [go_sem]
      refine run_condL (b := (decide ((y_1725.length : Int) > 65536))) rfl (by decide) (fun hb => ?_) (fun hb => ?_)
      · replace h := ite_t h hb
        refine run_textE hE [2, 3] (fr' := [(2, .sl true (L cU8 ([]))), (3, i64 2)]) (σ' := [.box [i64 v_1722.Kind, i64 v_1722.N, .sl false (L cU8 v_1722.B), .sl false (L cApi_Value v_1722.L)] false, .buf 1 (L cU8 y_1725) false]) ⟨_, orcs_nil, ?_⟩ ?_
        · simp only [go_sem]
        refine run_ret ?_
        refine thenK_r ?_
        obtain rfl := Option.some.inj h
        refine wkP_of (Weak.refl _ _) ?_
        refine ret_ok (.inr rfl) ?_
        simp only [go_sem]
      · replace h := ite_f h hb
        refine run_skip ?_
        refine thenK_n ?_
        refine run_textE hE [2, 3] (fr' := [(2, .bs false 1 (y_1725.length) 0 (y_1725.length)), (3, i64 0)]) (σ' := [.box [i64 v_1722.Kind, i64 v_1722.N, .sl false (L cU8 v_1722.B), .sl false (L cApi_Value v_1722.L)] false, .buf 1 (L cU8 y_1725) false]) ⟨_, orcs_nil, ?_⟩ ?_
        · simp only [go_sem]
        refine run_ret ?_
        obtain rfl := Option.some.inj h
        refine wkP_of (Weak.refl _ _) ?_
        refine ret_ok (.inr rfl) ?_
        simp only [go_sem]

theorem codec_decoder_next_con {d_1727 : Codec_decoder} {r : (UInt8 × Codec_decoder) ⊕ (Int × Codec_decoder)} (h : codec_decoder_next d_1727 = some r) : PCon B 50 [.ref 0 0] [.box [.sl false (L cU8 d_1727.b)] false] (codec_decoder_next_out r) := by
  refine con_walk_pan (N := 26) (rs := [.tmp 2]) 1 rfl ok Try.func50 rfl (by decide +kernel) rfl rfl (Nat.le_of_ble_eq_true rfl) (fun F => ?_)
  have hE := ok.env F
  unfold codec_decoder_next at h
  show Run (B.env F) 1 _ ⟨asFr 26 [(0, .ref 0 0)], [.box [.sl false (L cU8 d_1727.b)] false]⟩ _
  refine run_textE hE [0] (fr' := [(0, .ref 0 0)]) (σ' := [.box [.sl false (L cU8 d_1727.b)] false]) ⟨_, orcs_nil, ?_⟩ ?_
  · simp only [go_sem]
  refine run_seq ?_
  refine run_textE hE [0, 9] (fr' := [(0, .ref 0 0), (9, .bool (((d_1727.b.length : Int) == 0)))]) (σ' := [.box [.sl false (L cU8 d_1727.b)] false]) ⟨_, orcs_nil, ?_⟩ ?_
  · simp only [go_sem]
  refine run_condL (b := ((d_1727.b.length : Int) == 0)) rfl (by decide) (fun hb => ?_) (fun hb => ?_)
  · replace h := ite_t h hb
    refine run_panT0 hE [] 1 _ (v := .iface 87 (.int .i64 5)) (σ2 := [.box [.sl false (L cU8 d_1727.b)] false]) (vals := []) rfl rfl ⟨_, [], orcs_nil, trivial, ?_⟩ (fun fr_ hlen_ hfr_ => ?_)
    · simp only [go_sem]
    refine thenK_p ?_
    obtain rfl := Option.some.inj h
    refine retP_pan rfl [0] (by decide) rfl ?_
    simp only [go_sem]
  · replace h := ite_f h hb
    refine run_skip ?_
    refine thenK_n ?_
    replace h := chk_some h; obtain ⟨hc_1728, h⟩ := h
    refine run_textE hE [0, 3] (fr' := [(0, .ref 0 0), (3, u8 (nth d_1727.b 0))]) (σ' := [.box [.sl false (L cU8 d_1727.b)] false]) ⟨_, orcs_nil, ?_⟩ ?_
    · simp only [go_sem, Int.reduceToNat, hc_1728, (show 0 < d_1727.b.length from hc_1728.2)]
    replace h := chk_some h; obtain ⟨hc_1729, h⟩ := h
    replace h := lt1_some h; obtain ⟨f_1730, hz_1731, h⟩ := h
    refine run_textE hE [3] (fr' := [(3, u8 (nth d_1727.b 0))]) (σ' := [.box [.sl false (L cU8 f_1730)] false]) ⟨_, orcs_nil, ?_⟩ ?_
    · subst hz_1731; simp only [go_sem, Int.reduceToNat, Nat.reduceLeDiff, hc_1729]
    refine run_textE hE [2] (fr' := [(2, u8 (nth d_1727.b 0))]) (σ' := [.box [.sl false (L cU8 f_1730)] false]) ⟨_, orcs_nil, ?_⟩ ?_
    · simp only [go_sem]
    refine run_ret ?_
    obtain rfl := Option.some.inj h
    refine retP_fz rfl (ret_fz (.inr rfl) ?_ rfl ?_)
    · simp only [go_sem]
    · show stUp [0] _ [0] _; simp only [go_sem]

end Go.Proofs.Ytomjphpnpcgacaa
/-
  The functions compute just that.
-/
namespace Go.Proofs.Ytomjphpnpcgacaa
open Go.Rv
set_option linter.unusedVariables false
set_option linter.unusedSimpArgs false
set_option maxRecDepth 20000
set_option maxHeartbeats 4000000

theorem codec_decoder_text_con {d_1732 : Codec_decoder} {r : (Api_Value × Codec_decoder) ⊕ (Int × Codec_decoder)} (h : codec_decoder_text d_1732 = some r) : PCon B 62 [.ref 0 0] [.box [.sl false (L cU8 d_1732.b)] false] (codec_decoder_text_out r) := by
  refine con_walk_pan (N := 29) (rs := [.cell 2 63]) 1 rfl ok Try.func62 rfl (by decide +kernel) rfl rfl (Nat.le_of_ble_eq_true rfl) (fun F => ?_)
  have hE := ok.env F
  unfold codec_decoder_text at h
  show Run (B.env F) 1 _ ⟨asFr 29 [(0, .ref 0 0)], [.box [.sl false (L cU8 d_1732.b)] false]⟩ _
  refine run_textE hE [0, 2] (fr' := [(0, .ref 0 0), (2, .ref 1 0)]) (σ' := [.box [.sl false (L cU8 d_1732.b)] false, .box [i64 0, i64 0, .sl true (L cU8 ([])), .sl true (L cApi_Value ([]))] false]) ⟨_, orcs_nil, ?_⟩ ?_
  · simp only [go_sem]
  refine run_textE hE [0, 2, 3] (fr' := [(0, .ref 0 0), (2, .ref 1 0), (3, .ref 2 0)]) (σ' := [.box [.sl false (L cU8 d_1732.b)] false, .box [i64 0, i64 0, .sl true (L cU8 ([])), .sl true (L cApi_Value ([]))] false, .box [i64 2, i64 0, .sl true (L cU8 ([])), .sl true (L cApi_Value ([]))] false]) ⟨_, orcs_nil, ?_⟩ ?_
  · simp only [go_sem, Nat.reduceGT, Nat.reduceLeDiff]
  refine run_block ?_
  replace h := bind_some1 h; obtain ⟨x_1771, hx_1772, hj_1773⟩ := h
  refine run_loopO hx_1772 (fun (v : List UInt8 × List UInt8) => (⟨asFr 29 [(0, .ref 0 0), (2, .ref 1 0), (3, .ref 2 0)], [.box [.sl false (L cU8 v.1)] false, .box [i64 0, i64 0, .sl true (L cU8 ([])), .sl true (L cApi_Value ([]))] false, .box [i64 2, i64 0, .bs false 3 (v.2.length) 0 (v.2.length), .sl true (L cApi_Value ([]))] false, .buf 1 (L cU8 v.2) false]⟩ : St)) ((weak_nil_box 2 2 1 rfl rfl).trans (weak_sel [0, 1, 2, 3] (by decide) rfl (by simp only [go_sem]) (by simp only [go_sem]))) ?_
  rintro ⟨f_1751, l_1752⟩ o_1774 h hxx_1775
  replace h : codec_decoder_text_b1 f_1751 l_1752 = some o_1774 := h
  unfold codec_decoder_text_b1 at h
  refine run_block ?_
  replace h := bind_some1 h; obtain ⟨y_1776, hy_1779, h⟩ := h
  rcases y_1776 with v_1777 | v_1778
  rotate_left
  · dsimp only at h
    refine run_panT hE [] 1 _ (v := .iface 87 (.int .i64 v_1778.1)) (σ2 := [.box [.sl false (L cU8 v_1778.2.b)] false, .box [i64 0, i64 0, .sl true (L cU8 ([])), .sl true (L cApi_Value ([]))] false, .box [i64 2, i64 0, .bs false 3 (l_1752.length) 0 (l_1752.length), .sl true (L cApi_Value ([]))] false, .buf 1 (L cU8 l_1752) false]) (vals := []) rfl rfl ⟨_, [(7, 50, [.ref 0 0], [.box [.sl false (L cU8 f_1751)] false, .box [i64 0, i64 0, .sl true (L cU8 ([])), .sl true (L cApi_Value ([]))] false, .box [i64 2, i64 0, .bs false 3 (l_1752.length) 0 (l_1752.length), .sl true (L cApi_Value ([]))] false, .buf 1 (L cU8 l_1752) false], .val (.iface 87 (.int .i64 v_1778.1)), [.box [.sl false (L cU8 v_1778.2.b)] false, .box [i64 0, i64 0, .sl true (L cU8 ([])), .sl true (L cApi_Value ([]))] false, .box [i64 2, i64 0, .bs false 3 (l_1752.length) 0 (l_1752.length), .sl true (L cApi_Value ([]))] false, .buf 1 (L cU8 l_1752) false])], orcs_nil, ⟨fun v hv => by cases hv; exact wpan_call (PCon.pan (codec_decoder_next_con hy_1779) rfl) [0] (by decide) (by simp only [go_sem]) (by simp only [go_sem]) (by simp only [go_sem]) (by simp only [go_sem]), trivial⟩, ?_⟩ (fun fr_ hlen_ hfr_ => ?_)
    · simp only [go_sem]
    refine blockK_p ?_
    refine lpK_p ?_
    replace h := bind_some1 h; obtain ⟨z_1780, h, e_z_1780⟩ := h
    obtain rfl := Option.some.inj e_z_1780
    have ex_z_1780 := hxx_1775 _ rfl
    subst ex_z_1780
    obtain rfl := Option.some.inj hj_1773
    refine blockK_p ?_
    obtain rfl := Option.some.inj h
    refine retP_pan rfl [0] (by decide) rfl ?_
    simp only [go_sem]
  dsimp only at h
  refine run_textE hE [0, 2, 3, 4] (fr' := [(0, .ref 0 0), (2, .ref 1 0), (3, .ref 2 0), (4, u8 v_1777.1)]) (σ' := [.box [.sl false (L cU8 v_1777.2.b)] false, .box [i64 0, i64 0, .sl true (L cU8 ([])), .sl true (L cApi_Value ([]))] false, .box [i64 2, i64 0, .bs false 3 (l_1752.length) 0 (l_1752.length), .sl true (L cApi_Value ([]))] false, .buf 1 (L cU8 l_1752) false]) ⟨_, orcs_ok2 (l := []) (m := [(7, 50, [.ref 0 0], [.box [.sl false (L cU8 f_1751)] false, .box [i64 0, i64 0, .sl true (L cU8 ([])), .sl true (L cApi_Value ([]))] false, .box [i64 2, i64 0, .bs false 3 (l_1752.length) 0 (l_1752.length), .sl true (L cApi_Value ([]))] false, .buf 1 (L cU8 l_1752) false], u8 v_1777.1, [.box [.sl false (L cU8 v_1777.2.b)] false, .box [i64 0, i64 0, .sl true (L cU8 ([])), .sl true (L cApi_Value ([]))] false, .box [i64 2, i64 0, .bs false 3 (l_1752.length) 0 (l_1752.length), .sl true (L cApi_Value ([]))] false, .buf 1 (L cU8 l_1752) false])]) trivial ⟨(wcon_call (PCon.to (codec_decoder_next_con hy_1779) rfl) [0] (by decide) (by simp only [go_sem]) (by simp only [go_sem]) (by simp only [go_sem]) (by simp only [go_sem]) (by simp only [go_sem])), trivial⟩, ?_⟩ ?_
  · simp only [go_sem]
  refine run_seq ?_
  refine run_textE hE [0, 2, 3, 4, 9] (fr' := [(0, .ref 0 0), (2, .ref 1 0), (3, .ref 2 0), (4, u8 v_1777.1), (9, .bool ((v_1777.1 != (0 : UInt8))))]) (σ' := [.box [.sl false (L cU8 v_1777.2.b)] false, .box [i64 0, i64 0, .sl true (L cU8 ([])), .sl true (L cApi_Value ([]))] false, .box [i64 2, i64 0, .bs false 3 (l_1752.length) 0 (l_1752.length), .sl true (L cApi_Value ([]))] false, .buf 1 (L cU8 l_1752) false]) ⟨_, orcs_nil, ?_⟩ ?_
  · simp only [go_sem]
  refine run_condL (b := (v_1777.1 != (0 : UInt8))) rfl (by decide) (fun hb => ?_) (fun hb => ?_)
  · replace h := ite_t h hb
    replace h := chk_some h; obtain ⟨hc_1781, h⟩ := h
    replace h := lt1_some h; obtain ⟨l_1782, hz_1783, h⟩ := h
    refine run_textE hE [0, 2, 3] (fr' := [(0, .ref 0 0), (2, .ref 1 0), (3, .ref 2 0)]) (σ' := [.box [.sl false (L cU8 v_1777.2.b)] false, .box [i64 0, i64 0, .sl true (L cU8 ([])), .sl true (L cApi_Value ([]))] false, .box [i64 2, i64 0, .bs false 3 (l_1782.length) 0 (l_1782.length), .sl true (L cApi_Value ([]))] false, .buf 1 (L cU8 l_1782) false, .buf 1 (L cU8 (([v_1777.1] : List UInt8))) false]) ⟨_, orcs_nil, ?_⟩ ?_
    · subst hz_1783; simp only [go_sem, Nat.reduceBEq, Nat.reduceMul, Nat.reduceSub, Nat.reduceGT, Nat.reducePow, Nat.reduceLeDiff, Int.reduceToNat, hc_1781]
    refine run_exit ?_
    refine thenK_x ?_
    refine blockK_x ?_
    obtain rfl := Option.some.inj h
    exact lpK_n ((v_1777.2.b, l_1782)) rfl (weak_sel [0, 1, 2, 3] (by decide) rfl (by simp only [go_sem]) (by simp only [go_sem]))
  · replace h := ite_f h hb
    refine run_skip ?_
    refine thenK_n ?_
    replace h := bind_some1 h; obtain ⟨y_1784, hy_1787, h⟩ := h
    rcases y_1784 with v_1785 | v_1786
    rotate_left
    · dsimp only at h
      refine run_panT hE [] 1 _ (v := .iface 87 (.int .i64 v_1786.1)) (σ2 := [.box [.sl false (L cU8 v_1786.2.b)] false, .box [i64 0, i64 0, .sl true (L cU8 ([])), .sl true (L cApi_Value ([]))] false, .box [i64 2, i64 0, .bs false 3 (l_1752.length) 0 (l_1752.length), .sl true (L cApi_Value ([]))] false, .buf 1 (L cU8 l_1752) false]) (vals := []) rfl rfl ⟨_, [(17, 50, [.ref 0 0], [.box [.sl false (L cU8 v_1777.2.b)] false, .box [i64 0, i64 0, .sl true (L cU8 ([])), .sl true (L cApi_Value ([]))] false, .box [i64 2, i64 0, .bs false 3 (l_1752.length) 0 (l_1752.length), .sl true (L cApi_Value ([]))] false, .buf 1 (L cU8 l_1752) false], .val (.iface 87 (.int .i64 v_1786.1)), [.box [.sl false (L cU8 v_1786.2.b)] false, .box [i64 0, i64 0, .sl true (L cU8 ([])), .sl true (L cApi_Value ([]))] false, .box [i64 2, i64 0, .bs false 3 (l_1752.length) 0 (l_1752.length), .sl true (L cApi_Value ([]))] false, .buf 1 (L cU8 l_1752) false])], orcs_nil, ⟨fun v hv => by cases hv; exact wpan_call (PCon.pan (codec_decoder_next_con hy_1787) rfl) [0] (by decide) (by simp only [go_sem]) (by simp only [go_sem]) (by simp only [go_sem]) (by simp only [go_sem]), trivial⟩, ?_⟩ (fun fr_ hlen_ hfr_ => ?_)
      · simp only [go_sem]
      refine blockK_p ?_
      refine lpK_p ?_
      replace h := bind_some1 h; obtain ⟨z_1788, h, e_z_1788⟩ := h
      obtain rfl := Option.some.inj e_z_1788
      have ex_z_1788 := hxx_1775 _ rfl
      subst ex_z_1788
      obtain rfl := Option.some.inj hj_1773
      refine blockK_p ?_
      obtain rfl := Option.some.inj h
      refine retP_pan rfl [0] (by decide) rfl ?_
      simp only [go_sem]
    dsimp only at h
    refine run_textE hE [0, 2, 3, 17] (fr' := [(0, .ref 0 0), (2, .ref 1 0), (3, .ref 2 0), (17, u8 v_1785.1)]) (σ' := [.box [.sl false (L cU8 v_1785.2.b)] false, .box [i64 0, i64 0, .sl true (L cU8 ([])), .sl true (L cApi_Value ([]))] false, .box [i64 2, i64 0, .bs false 3 (l_1752.length) 0 (l_1752.length), .sl true (L cApi_Value ([]))] false, .buf 1 (L cU8 l_1752) false]) ⟨_, orcs_ok2 (l := []) (m := [(17, 50, [.ref 0 0], [.box [.sl false (L cU8 v_1777.2.b)] false, .box [i64 0, i64 0, .sl true (L cU8 ([])), .sl true (L cApi_Value ([]))] false, .box [i64 2, i64 0, .bs false 3 (l_1752.length) 0 (l_1752.length), .sl true (L cApi_Value ([]))] false, .buf 1 (L cU8 l_1752) false], u8 v_1785.1, [.box [.sl false (L cU8 v_1785.2.b)] false, .box [i64 0, i64 0, .sl true (L cU8 ([])), .sl true (L cApi_Value ([]))] false, .box [i64 2, i64 0, .bs false 3 (l_1752.length) 0 (l_1752.length), .sl true (L cApi_Value ([]))] false, .buf 1 (L cU8 l_1752) false])]) trivial ⟨(wcon_call (PCon.to (codec_decoder_next_con hy_1787) rfl) [0] (by decide) (by simp only [go_sem]) (by simp only [go_sem]) (by simp only [go_sem]) (by simp only [go_sem]) (by simp only [go_sem])), trivial⟩, ?_⟩ ?_
    · simp only [go_sem]
    refine run_block ?_
    refine run_textE hE [0, 2, 3, 17, 19] (fr' := [(0, .ref 0 0), (2, .ref 1 0), (3, .ref 2 0), (17, u8 v_1785.1), (19, .bool ((v_1785.1 == (0 : UInt8))))]) (σ' := [.box [.sl false (L cU8 v_1785.2.b)] false, .box [i64 0, i64 0, .sl true (L cU8 ([])), .sl true (L cApi_Value ([]))] false, .box [i64 2, i64 0, .bs false 3 (l_1752.length) 0 (l_1752.length), .sl true (L cApi_Value ([]))] false, .buf 1 (L cU8 l_1752) false]) ⟨_, orcs_nil, ?_⟩ ?_
    · simp only [go_sem]
    refine run_condL (b := (v_1785.1 == (0 : UInt8))) rfl (by decide) (fun hb => ?_) (fun hb => ?_)
    · replace h := ite_t h hb
      refine run_textE hE [2] (fr' := [(2, .ref 1 0)]) (σ' := [.box [.sl false (L cU8 v_1785.2.b)] false, .box [i64 2, i64 0, .bs false 3 (l_1752.length) 0 (l_1752.length), .sl true (L cApi_Value ([]))] false, .box [i64 2, i64 0, .bs false 3 (l_1752.length) 0 (l_1752.length), .sl true (L cApi_Value ([]))] false, .buf 1 (L cU8 l_1752) false]) ⟨_, orcs_nil, ?_⟩ ?_
      · simp only [go_sem, Nat.reduceLeDiff]
      refine run_ret ?_
      refine blockK_r ?_
      refine blockK_r ?_
      refine lpK_r ?_
      replace h := bind_some1 h; obtain ⟨z_1789, h, e_z_1789⟩ := h
      obtain rfl := Option.some.inj e_z_1789
      have ex_z_1789 := hxx_1775 _ rfl
      subst ex_z_1789
      obtain rfl := Option.some.inj hj_1773
      refine blockK_r ?_
      obtain rfl := Option.some.inj h
      refine retP_fz rfl (ret_fz (.inr rfl) ?_ rfl ?_)
      · simp only [go_sem]
      · show stUp [0] _ [0] _; simp only [go_sem]
    · replace h := ite_f h hb
      refine run_textE hE [0, 2, 3, 22] (fr' := [(0, .ref 0 0), (2, .ref 1 0), (3, .ref 2 0), (22, .bool ((v_1785.1 == (255 : UInt8))))]) (σ' := [.box [.sl false (L cU8 v_1785.2.b)] false, .box [i64 0, i64 0, .sl true (L cU8 ([])), .sl true (L cApi_Value ([]))] false, .box [i64 2, i64 0, .bs false 3 (l_1752.length) 0 (l_1752.length), .sl true (L cApi_Value ([]))] false, .buf 1 (L cU8 l_1752) false]) ⟨_, orcs_nil, ?_⟩ ?_
      · simp only [go_sem]
      refine run_condL (b := (v_1785.1 == (255 : UInt8))) rfl (by decide) (fun hb => ?_) (fun hb => ?_)
      · replace h := ite_t h hb
        replace h := chk_some h; obtain ⟨hc_1790, h⟩ := h
        replace h := lt1_some h; obtain ⟨l_1791, hz_1792, h⟩ := h
        refine run_textE0 hE (wk_block (wk_block wk_lp)) [0, 2, 3] (fr' := [(0, .ref 0 0), (2, .ref 1 0), (3, .ref 2 0)]) (σ' := [.box [.sl false (L cU8 v_1785.2.b)] false, .box [i64 0, i64 0, .sl true (L cU8 ([])), .sl true (L cApi_Value ([]))] false, .box [i64 2, i64 0, .bs false 3 (l_1791.length) 0 (l_1791.length), .sl true (L cApi_Value ([]))] false, .buf 1 (L cU8 l_1791) false, .buf 1 (L cU8 (([(0 : UInt8)] : List UInt8))) false]) ⟨_, orcs_nil, ?_⟩ ?_
        · subst hz_1792; simp only [go_sem, Nat.reduceBEq, Nat.reduceMul, Nat.reduceSub, Nat.reduceGT, Nat.reducePow, Nat.reduceLeDiff, Int.reduceToNat, hc_1790]
        refine blockK_n ?_
        refine blockK_n ?_
        obtain rfl := Option.some.inj h
        exact lpK_n ((v_1785.2.b, l_1791)) rfl (weak_sel [0, 1, 2, 3] (by decide) rfl (by simp only [go_sem]) (by simp only [go_sem]))
      · replace h := ite_f h hb
        refine run_panT0 hE [] 1 _ (v := .iface 87 (.int .i64 4)) (σ2 := [.box [.sl false (L cU8 v_1785.2.b)] false, .box [i64 0, i64 0, .sl true (L cU8 ([])), .sl true (L cApi_Value ([]))] false, .box [i64 2, i64 0, .bs false 3 (l_1752.length) 0 (l_1752.length), .sl true (L cApi_Value ([]))] false, .buf 1 (L cU8 l_1752) false]) (vals := []) rfl rfl ⟨_, [], orcs_nil, trivial, ?_⟩ (fun fr_ hlen_ hfr_ => ?_)
        · simp only [go_sem]
        refine blockK_p ?_
        refine blockK_p ?_
        refine lpK_p ?_
        replace h := bind_some1 h; obtain ⟨z_1793, h, e_z_1793⟩ := h
        obtain rfl := Option.some.inj e_z_1793
        have ex_z_1793 := hxx_1775 _ rfl
        subst ex_z_1793
        obtain rfl := Option.some.inj hj_1773
        refine blockK_p ?_
        obtain rfl := Option.some.inj h
        refine retP_pan rfl [0] (by decide) rfl ?_
        simp only [go_sem]

end Go.Proofs.Ytomjphpnpcgacaa
/-
  The functions compute just that.
-/
namespace Go.Proofs.Ytomjphpnpcgacaa
open Go.Rv
set_option linter.unusedVariables false
set_option linter.unusedSimpArgs false
set_option maxRecDepth 20000
set_option maxHeartbeats 4000000

theorem codec_decoder_integer_con {d_1794 : Codec_decoder} {k_1795 : Int} {flip_1796 : UInt8} {r : (Api_Value × Codec_decoder) ⊕ (Int × Codec_decoder)} (h : codec_decoder_integer d_1794 k_1795 flip_1796 = some r) : PCon B 61 [.ref 0 0, i64 k_1795, u8 flip_1796] [.box [.sl false (L cU8 d_1794.b)] false] (codec_decoder_integer_out r) := by
  refine con_walk_pan (N := 46) (rs := [.cell 6 63]) 1 rfl ok Try.func61 rfl (by decide +kernel) rfl rfl (Nat.le_of_ble_eq_true rfl) (fun F => ?_)
  have hE := ok.env F
  unfold codec_decoder_integer at h
  show Run (B.env F) 1 _ ⟨asFr 46 [(0, .ref 0 0), (1, i64 k_1795), (2, u8 flip_1796)], [.box [.sl false (L cU8 d_1794.b)] false]⟩ _
  refine run_textE hE [0, 1, 2, 6] (fr' := [(0, .ref 0 0), (1, i64 k_1795), (2, u8 flip_1796), (6, .ref 1 0)]) (σ' := [.box [.sl false (L cU8 d_1794.b)] false, .box [i64 0, i64 0, .sl true (L cU8 ([])), .sl true (L cApi_Value ([]))] false]) ⟨_, orcs_nil, ?_⟩ ?_
  · simp only [go_sem]
  refine run_textE hE [0, 1, 2, 6, 7] (fr' := [(0, .ref 0 0), (1, i64 k_1795), (2, u8 flip_1796), (6, .ref 1 0), (7, u64 ((0 : UInt64)))]) (σ' := [.box [.sl false (L cU8 d_1794.b)] false, .box [i64 0, i64 0, .sl true (L cU8 ([])), .sl true (L cApi_Value ([]))] false]) ⟨_, orcs_nil, ?_⟩ ?_
  · simp only [go_sem]
  replace h := bind_some1 h; obtain ⟨j_1854, hA_1855, hj_1856⟩ := h
  refine run_join (fun (v : UInt64 × List UInt8) => (⟨asFr 46 [(2, u8 flip_1796), (6, .ref 1 0), (7, u64 v.1)], [.box [.sl false (L cU8 v.2)] false, .box [i64 0, i64 0, .sl true (L cU8 ([])), .sl true (L cApi_Value ([]))] false]⟩ : St)) (fun v => .inl v = j_1854) ?_ ?_
  · have h := hA_1855; clear hA_1855
    refine run_textE hE [0, 1, 2, 6, 7, 10, 11] (fr' := [(0, .ref 0 0), (1, i64 k_1795), (2, u8 flip_1796), (6, .ref 1 0), (7, u64 ((0 : UInt64))), (10, i64 k_1795), (11, i64 0)]) (σ' := [.box [.sl false (L cU8 d_1794.b)] false, .box [i64 0, i64 0, .sl true (L cU8 ([])), .sl true (L cApi_Value ([]))] false]) ⟨_, orcs_nil, ?_⟩ ?_
    · simp only [go_sem]
    refine run_block ?_
    replace h := bind_some1 h; obtain ⟨x_1892, hx_1893, hj_1894⟩ := h
    refine run_loopO hx_1893 (fun (v : UInt64 × Int × List UInt8) => (⟨asFr 46 [(0, .ref 0 0), (1, i64 k_1795), (2, u8 flip_1796), (6, .ref 1 0), (7, u64 v.1), (10, i64 k_1795), (11, i64 v.2.1)], [.box [.sl false (L cU8 v.2.2)] false, .box [i64 0, i64 0, .sl true (L cU8 ([])), .sl true (L cApi_Value ([]))] false]⟩ : St)) (weak_sel [0, 1] (by decide) rfl (by simp only [go_sem]) (by simp only [go_sem])) ?_
    rintro ⟨u_1872, t_1873, f_1874⟩ o_1895 h hxx_1896
    replace h : codec_decoder_integer_b1 k_1795 flip_1796 u_1872 t_1873 f_1874 = some o_1895 := h
    unfold codec_decoder_integer_b1 at h
    refine run_textE hE [0, 1, 2, 6, 7, 10, 11, 12] (fr' := [(0, .ref 0 0), (1, i64 k_1795), (2, u8 flip_1796), (6, .ref 1 0), (7, u64 u_1872), (10, i64 k_1795), (11, i64 t_1873), (12, .bool ((decide (t_1873 < k_1795))))]) (σ' := [.box [.sl false (L cU8 f_1874)] false, .box [i64 0, i64 0, .sl true (L cU8 ([])), .sl true (L cApi_Value ([]))] false]) ⟨_, orcs_nil, ?_⟩ ?_
    · simp only [go_sem]
    refine run_seq ?_
    refine run_condL (b := (decide (t_1873 < k_1795))) rfl (by decide) (fun hb => ?_) (fun hb => ?_)
    · replace h := ite_t h hb
      refine run_skip ?_
      refine thenK_n ?_
      refine run_seq ?_
      refine run_block ?_
      refine run_textE hE [0, 1, 2, 6, 7, 8, 10, 11] (fr' := [(0, .ref 0 0), (1, i64 k_1795), (2, u8 flip_1796), (6, .ref 1 0), (7, u64 u_1872), (8, i64 t_1873), (10, i64 k_1795), (11, i64 t_1873)]) (σ' := [.box [.sl false (L cU8 f_1874)] false, .box [i64 0, i64 0, .sl true (L cU8 ([])), .sl true (L cApi_Value ([]))] false]) ⟨_, orcs_nil, ?_⟩ ?_
      · simp only [go_sem]
      replace h := bind_some1 h; obtain ⟨y_1897, hy_1900, h⟩ := h
      rcases y_1897 with v_1898 | v_1899
      rotate_left
      · dsimp only at h
        refine run_panT hE [] 1 _ (v := .iface 87 (.int .i64 v_1899.1)) (σ2 := [.box [.sl false (L cU8 v_1899.2.b)] false, .box [i64 0, i64 0, .sl true (L cU8 ([])), .sl true (L cApi_Value ([]))] false]) (vals := []) rfl rfl ⟨_, [(15, 50, [.ref 0 0], [.box [.sl false (L cU8 f_1874)] false, .box [i64 0, i64 0, .sl true (L cU8 ([])), .sl true (L cApi_Value ([]))] false], .val (.iface 87 (.int .i64 v_1899.1)), [.box [.sl false (L cU8 v_1899.2.b)] false, .box [i64 0, i64 0, .sl true (L cU8 ([])), .sl true (L cApi_Value ([]))] false])], orcs_nil, ⟨fun v hv => by cases hv; exact wpan_call (PCon.pan (codec_decoder_next_con hy_1900) rfl) [0] (by decide) (by simp only [go_sem]) (by simp only [go_sem]) (by simp only [go_sem]) (by simp only [go_sem]), trivial⟩, ?_⟩ (fun fr_ hlen_ hfr_ => ?_)
        · simp only [go_sem]
        refine blockK_p ?_
        refine thenK_p ?_
        refine lpK_p ?_
        replace h := bind_some1 h; obtain ⟨z_1902, h, e_z_1902⟩ := h
        obtain rfl := Option.some.inj e_z_1902
        have ex_z_1902 := hxx_1896 _ rfl
        subst ex_z_1902
        obtain rfl := Option.some.inj hj_1894
        refine blockK_p ?_
        refine joinK_p ?_
        replace h := bind_some1 h; obtain ⟨z_1901, h, e_z_1901⟩ := h
        obtain rfl := Option.some.inj e_z_1901
        obtain rfl := Option.some.inj hj_1856
        obtain rfl := Option.some.inj h
        refine retP_pan rfl [0] (by decide) rfl ?_
        simp only [go_sem]
      dsimp only at h
      refine run_textE hE [0, 1, 2, 6, 7, 8, 9, 10, 11] (fr' := [(0, .ref 0 0), (1, i64 k_1795), (2, u8 flip_1796), (6, .ref 1 0), (7, u64 u_1872), (8, i64 t_1873), (9, u8 ((v_1898.1 ^^^ flip_1796))), (10, i64 k_1795), (11, i64 t_1873)]) (σ' := [.box [.sl false (L cU8 v_1898.2.b)] false, .box [i64 0, i64 0, .sl true (L cU8 ([])), .sl true (L cApi_Value ([]))] false]) ⟨_, orcs_ok2 (l := []) (m := [(15, 50, [.ref 0 0], [.box [.sl false (L cU8 f_1874)] false, .box [i64 0, i64 0, .sl true (L cU8 ([])), .sl true (L cApi_Value ([]))] false], u8 v_1898.1, [.box [.sl false (L cU8 v_1898.2.b)] false, .box [i64 0, i64 0, .sl true (L cU8 ([])), .sl true (L cApi_Value ([]))] false])]) trivial ⟨(wcon_call (PCon.to (codec_decoder_next_con hy_1900) rfl) [0] (by decide) (by simp only [go_sem]) (by simp only [go_sem]) (by simp only [go_sem]) (by simp only [go_sem]) (by simp only [go_sem])), trivial⟩, ?_⟩ ?_
      · simp only [go_sem]
      refine run_seq ?_
      replace h := bind_some1 h; obtain ⟨t_1903, hv_1904, h⟩ := h
      refine run_textW hE [0, 1, 2, 6, 7, 9, 10, 11, 31] (fr' := [(0, .ref 0 0), (1, i64 k_1795), (2, u8 flip_1796), (6, .ref 1 0), (7, u64 u_1872), (9, u8 ((v_1898.1 ^^^ flip_1796))), (10, i64 k_1795), (11, i64 t_1873), (31, .bool t_1903)]) (σ' := [.box [.sl false (L cU8 v_1898.2.b)] false, .box [i64 0, i64 0, .sl true (L cU8 ([])), .sl true (L cApi_Value ([]))] false]) ?_ ?_
      · rcases Bool.eq_false_or_eq_true ((t_1873 == 0)) with hb_1905 | hb_1905
        · replace hv_1904 := ite_t hv_1904 hb_1905
          rcases Bool.eq_false_or_eq_true (((v_1898.1 ^^^ flip_1796) == (0 : UInt8))) with hb_1906 | hb_1906
          · replace hv_1904 := ite_t hv_1904 hb_1906
            have e_hv_1904 := Option.some.inj hv_1904; subst e_hv_1904
            exact ⟨_, [(0, .ref 0 0), (1, i64 k_1795), (2, u8 flip_1796), (6, .ref 1 0), (7, u64 u_1872), (9, u8 ((v_1898.1 ^^^ flip_1796))), (10, i64 k_1795), (11, i64 t_1873), (31, .bool true)], [.box [.sl false (L cU8 v_1898.2.b)] false, .box [i64 0, i64 0, .sl true (L cU8 ([])), .sl true (L cApi_Value ([]))] false], orcs_nil, by simp only [go_sem, hb_1905, hb_1906], (weak_sel [0, 1] (by decide) rfl (by simp only [go_sem]) (by simp only [go_sem]))⟩
          · replace hv_1904 := ite_f hv_1904 hb_1906
            rcases Bool.eq_false_or_eq_true ((k_1795 == 8)) with hb_1907 | hb_1907
            · replace hv_1904 := ite_t hv_1904 hb_1907
              have e_hv_1904 := Option.some.inj hv_1904; subst e_hv_1904
              exact ⟨_, [(0, .ref 0 0), (1, i64 k_1795), (2, u8 flip_1796), (6, .ref 1 0), (7, u64 u_1872), (9, u8 ((v_1898.1 ^^^ flip_1796))), (10, i64 k_1795), (11, i64 t_1873), (31, .bool ((decide ((v_1898.1 ^^^ flip_1796) > (127 : UInt8)))))], [.box [.sl false (L cU8 v_1898.2.b)] false, .box [i64 0, i64 0, .sl true (L cU8 ([])), .sl true (L cApi_Value ([]))] false], orcs_nil, by simp only [go_sem, hb_1905, hb_1906, hb_1907], (weak_sel [0, 1] (by decide) rfl (by simp only [go_sem]) (by simp only [go_sem]))⟩
            · replace hv_1904 := ite_f hv_1904 hb_1907
              have e_hv_1904 := Option.some.inj hv_1904; subst e_hv_1904
              exact ⟨_, [(0, .ref 0 0), (1, i64 k_1795), (2, u8 flip_1796), (6, .ref 1 0), (7, u64 u_1872), (9, u8 ((v_1898.1 ^^^ flip_1796))), (10, i64 k_1795), (11, i64 t_1873), (31, .bool false)], [.box [.sl false (L cU8 v_1898.2.b)] false, .box [i64 0, i64 0, .sl true (L cU8 ([])), .sl true (L cApi_Value ([]))] false], orcs_nil, by simp only [go_sem, hb_1905, hb_1906, hb_1907], (weak_sel [0, 1] (by decide) rfl (by simp only [go_sem]) (by simp only [go_sem]))⟩
        · replace hv_1904 := ite_f hv_1904 hb_1905
          have e_hv_1904 := Option.some.inj hv_1904; subst e_hv_1904
          exact ⟨_, [(0, .ref 0 0), (1, i64 k_1795), (2, u8 flip_1796), (6, .ref 1 0), (7, u64 u_1872), (9, u8 ((v_1898.1 ^^^ flip_1796))), (10, i64 k_1795), (11, i64 t_1873), (31, .bool false)], [.box [.sl false (L cU8 v_1898.2.b)] false, .box [i64 0, i64 0, .sl true (L cU8 ([])), .sl true (L cApi_Value ([]))] false], orcs_nil, by simp only [go_sem, hb_1905], (weak_sel [0, 1] (by decide) rfl (by simp only [go_sem]) (by simp only [go_sem]))⟩
      refine run_condL (b := t_1903) rfl (by decide) (fun hb => ?_) (fun hb => ?_)
      · replace h := ite_t h hb
        refine run_panT0 hE [] 1 _ (v := .iface 87 (.int .i64 4)) (σ2 := [.box [.sl false (L cU8 v_1898.2.b)] false, .box [i64 0, i64 0, .sl true (L cU8 ([])), .sl true (L cApi_Value ([]))] false]) (vals := []) rfl rfl ⟨_, [], orcs_nil, trivial, ?_⟩ (fun fr_ hlen_ hfr_ => ?_)
        · simp only [go_sem]
        refine thenK_p ?_
        refine blockK_p ?_
        refine thenK_p ?_
        refine lpK_p ?_
        replace h := bind_some1 h; obtain ⟨z_1909, h, e_z_1909⟩ := h
        obtain rfl := Option.some.inj e_z_1909
        have ex_z_1909 := hxx_1896 _ rfl
        subst ex_z_1909
        obtain rfl := Option.some.inj hj_1894
        refine blockK_p ?_
        refine joinK_p ?_
        replace h := bind_some1 h; obtain ⟨z_1908, h, e_z_1908⟩ := h
        obtain rfl := Option.some.inj e_z_1908
        obtain rfl := Option.some.inj hj_1856
        obtain rfl := Option.some.inj h
        refine retP_pan rfl [0] (by decide) rfl ?_
        simp only [go_sem]
      · replace h := ite_f h hb
        refine run_skip ?_
        refine thenK_n ?_
        replace h := lt1_some h; obtain ⟨u_1910, hz_1911, h⟩ := h
        refine run_textE0 hE (wk_block wk_then) [0, 1, 2, 6, 7, 10, 11] (fr' := [(0, .ref 0 0), (1, i64 k_1795), (2, u8 flip_1796), (6, .ref 1 0), (7, u64 u_1910), (10, i64 k_1795), (11, i64 t_1873)]) (σ' := [.box [.sl false (L cU8 v_1898.2.b)] false, .box [i64 0, i64 0, .sl true (L cU8 ([])), .sl true (L cApi_Value ([]))] false]) ⟨_, orcs_nil, ?_⟩ ?_
        · subst hz_1911; simp only [go_sem]
        refine blockK_n ?_
        refine thenK_n ?_
        refine run_textE0 hE wk_lp [0, 1, 2, 6, 7, 10, 11] (fr' := [(0, .ref 0 0), (1, i64 k_1795), (2, u8 flip_1796), (6, .ref 1 0), (7, u64 u_1910), (10, i64 k_1795), (11, i64 ((w64 (t_1873 + 1))))]) (σ' := [.box [.sl false (L cU8 v_1898.2.b)] false, .box [i64 0, i64 0, .sl true (L cU8 ([])), .sl true (L cApi_Value ([]))] false]) ⟨_, orcs_nil, ?_⟩ ?_
        · simp only [go_sem]
        obtain rfl := Option.some.inj h
        exact lpK_n ((u_1910, (w64 (t_1873 + 1)), v_1898.2.b)) rfl (weak_sel [0, 1] (by decide) rfl (by simp only [go_sem]) (by simp only [go_sem]))
    · replace h := ite_f h hb
      refine run_exit ?_
      refine thenK_x ?_
      obtain rfl := Option.some.inj h
      have ex_x_1892 := hxx_1896 _ rfl
      subst ex_x_1892
      have h := hj_1894; clear hj_1894
      refine lpK_x ?_
      refine blockK_x ?_
      obtain rfl := Option.some.inj h
      exact joinK_n ((u_1872, f_1874)) rfl ((weak_sel (l' := [(2, u8 flip_1796), (6, .ref 1 0), (7, u64 u_1872)]) (σ' := [.box [.sl false (L cU8 f_1874)] false, .box [i64 0, i64 0, .sl true (L cU8 ([])), .sl true (L cApi_Value ([]))] false]) [0, 1] (by decide) rfl (by simp only [go_sem]) (by simp only [go_sem])).trans (weak_sel [0, 1] (by decide) rfl (by simp only [go_sem]) (by simp only [go_sem])))
  rintro ⟨u_1852, f_1853⟩ rfl
  have h := hj_1856; clear hj_1856
  replace h := bind_some1 h; obtain ⟨j_1913, hA_1914, hj_1915⟩ := h
  refine run_join (fun (v : UInt64) => (⟨asFr 46 [(6, .ref 1 0), (7, u64 v)], [.box [.sl false (L cU8 f_1853)] false, .box [i64 0, i64 0, .sl true (L cU8 ([])), .sl true (L cApi_Value ([]))] false]⟩ : St)) (fun v => v = j_1913) ?_ ?_
  · have h := hA_1914; clear hA_1914
    refine run_textE hE [6, 7, 40] (fr' := [(6, .ref 1 0), (7, u64 u_1852), (40, .bool ((flip_1796 != (0 : UInt8))))]) (σ' := [.box [.sl false (L cU8 f_1853)] false, .box [i64 0, i64 0, .sl true (L cU8 ([])), .sl true (L cApi_Value ([]))] false]) ⟨_, orcs_nil, ?_⟩ ?_
    · simp only [go_sem]
    refine run_condL (b := (flip_1796 != (0 : UInt8))) rfl (by decide) (fun hb => ?_) (fun hb => ?_)
    · replace h := ite_t h hb
      refine run_textE0 hE wk_join [6, 7] (fr' := [(6, .ref 1 0), (7, u64 ((~~~u_1852)))]) (σ' := [.box [.sl false (L cU8 f_1853)] false, .box [i64 0, i64 0, .sl true (L cU8 ([])), .sl true (L cApi_Value ([]))] false]) ⟨_, orcs_nil, ?_⟩ ?_
      · simp only [go_sem]
      obtain rfl := Option.some.inj h
      exact joinK_n ((~~~u_1852)) rfl (weak_sel [0, 1] (by decide) rfl (by simp only [go_sem]) (by simp only [go_sem]))
    · replace h := ite_f h hb
      refine run_skip ?_
      obtain rfl := Option.some.inj h
      exact joinK_n u_1852 rfl (weak_sel [0, 1] (by decide) rfl (by simp only [go_sem]) (by simp only [go_sem]))
  rintro u_1912 rfl
  have h := hj_1915; clear hj_1915
  refine run_textE hE [6] (fr' := [(6, .ref 1 0)]) (σ' := [.box [.sl false (L cU8 f_1853)] false, .box [i64 1, i64 ((w64 (u_1912.toNat : Int))), .sl true (L cU8 ([])), .sl true (L cApi_Value ([]))] false]) ⟨_, orcs_nil, ?_⟩ ?_
  · simp only [go_sem, Nat.reduceGT, Nat.reduceLeDiff]
  refine run_ret ?_
  obtain rfl := Option.some.inj h
  refine retP_fz rfl (ret_fz (.inr rfl) ?_ rfl ?_)
  · simp only [go_sem]
  · show stUp [0] _ [0] _; simp only [go_sem]

end Go.Proofs.Ytomjphpnpcgacaa
/-
  The functions compute just that.
-/
namespace Go.Proofs.Ytomjphpnpcgacaa
open Go.Rv
set_option linter.unusedVariables false
set_option linter.unusedSimpArgs false
set_option maxRecDepth 20000
set_option maxHeartbeats 4000000

theorem codec_decoder_value_F_con {rec_ : Codec_decoder → UInt8 → Option ((Api_Value × Codec_decoder) ⊕ (Int × Codec_decoder))} (hrec : ∀ {d_1916 : Codec_decoder} {t_1917 : UInt8} {r : (Api_Value × Codec_decoder) ⊕ (Int × Codec_decoder)}, rec_ d_1916 t_1917 = some r → PCon B 49 [.ref 0 0, u8 t_1917] [.box [.sl false (L cU8 d_1916.b)] false] (codec_decoder_value_out r)) {d_1916 : Codec_decoder} {t_1917 : UInt8} {r : (Api_Value × Codec_decoder) ⊕ (Int × Codec_decoder)} (h : codec_decoder_value_F rec_ d_1916 t_1917 = some r) : PCon B 49 [.ref 0 0, u8 t_1917] [.box [.sl false (L cU8 d_1916.b)] false] (codec_decoder_value_out r) := by
  refine con_walk_pan (N := 56) (rs := [.cell 4 63]) 1 rfl ok Try.func49 rfl (by decide +kernel) rfl rfl (Nat.le_of_ble_eq_true rfl) (fun F => ?_)
  have hE := ok.env F
  unfold codec_decoder_value_F at h
  show Run (B.env F) 1 _ ⟨asFr 56 [(0, .ref 0 0), (1, u8 t_1917)], [.box [.sl false (L cU8 d_1916.b)] false]⟩ _
  refine run_textE hE [0, 1, 4] (fr' := [(0, .ref 0 0), (1, u8 t_1917), (4, .ref 1 0)]) (σ' := [.box [.sl false (L cU8 d_1916.b)] false, .box [i64 0, i64 0, .sl true (L cU8 ([])), .sl true (L cApi_Value ([]))] false]) ⟨_, orcs_nil, ?_⟩ ?_
  · simp only [go_sem]
  replace h := bind_some1 h; obtain ⟨j_2082, hA_2083, hj_2084⟩ := h
  refine run_join (fun (v : Unit) => (⟨asFr 56 [(4, .ref 1 0)], [.box [.sl false (L cU8 d_1916.b)] false, .box [i64 0, i64 0, .sl true (L cU8 ([])), .sl true (L cApi_Value ([]))] false]⟩ : St)) (fun v => .inl v = j_2082) ?_ ?_
  · have h := hA_2083; clear hA_2083
    refine run_block ?_
    replace h := bind_some1 h; obtain ⟨t_2085, hv_2086, h⟩ := h
    refine run_textW hE [0, 1, 4, 7] (fr' := [(0, .ref 0 0), (1, u8 t_1917), (4, .ref 1 0), (7, .bool t_2085)]) (σ' := [.box [.sl false (L cU8 d_1916.b)] false, .box [i64 0, i64 0, .sl true (L cU8 ([])), .sl true (L cApi_Value ([]))] false]) ?_ ?_
    · rcases Bool.eq_false_or_eq_true ((decide (t_1917 ≥ (32 : UInt8)))) with hb_2087 | hb_2087
      · replace hv_2086 := ite_t hv_2086 hb_2087
        have e_hv_2086 := Option.some.inj hv_2086; subst e_hv_2086
        exact ⟨_, [(0, .ref 0 0), (1, u8 t_1917), (4, .ref 1 0), (7, .bool ((decide (t_1917 ≤ (40 : UInt8)))))], [.box [.sl false (L cU8 d_1916.b)] false, .box [i64 0, i64 0, .sl true (L cU8 ([])), .sl true (L cApi_Value ([]))] false], orcs_nil, by simp only [go_sem, hb_2087], (weak_sel [0, 1] (by decide) rfl (by simp only [go_sem]) (by simp only [go_sem]))⟩
      · replace hv_2086 := ite_f hv_2086 hb_2087
        have e_hv_2086 := Option.some.inj hv_2086; subst e_hv_2086
        exact ⟨_, [(0, .ref 0 0), (1, u8 t_1917), (4, .ref 1 0), (7, .bool false)], [.box [.sl false (L cU8 d_1916.b)] false, .box [i64 0, i64 0, .sl true (L cU8 ([])), .sl true (L cApi_Value ([]))] false], orcs_nil, by simp only [go_sem, hb_2087], (weak_sel [0, 1] (by decide) rfl (by simp only [go_sem]) (by simp only [go_sem]))⟩
    refine run_condL (b := t_2085) rfl (by decide) (fun hb => ?_) (fun hb => ?_)
    · replace h := ite_t h hb
      replace h := bind_some1 h; obtain ⟨y_2088, hy_2091, h⟩ := h
      rcases y_2088 with v_2089 | v_2090
      rotate_left
      · dsimp only at h
        refine run_panT hE [] 4 _ (v := .iface 87 (.int .i64 v_2090.1)) (σ2 := [.box [.sl false (L cU8 v_2090.2.b)] false, .box [i64 0, i64 0, .sl true (L cU8 ([])), .sl true (L cApi_Value ([]))] false]) (vals := []) rfl rfl ⟨_, [(18, 61, [.ref 0 0, i64 ((((t_1917 - (32 : UInt8))).toNat : Int)), u8 ((0 : UInt8))], [.box [.sl false (L cU8 d_1916.b)] false, .box [i64 0, i64 0, .sl true (L cU8 ([])), .sl true (L cApi_Value ([]))] false], .val (.iface 87 (.int .i64 v_2090.1)), [.box [.sl false (L cU8 v_2090.2.b)] false, .box [i64 0, i64 0, .sl true (L cU8 ([])), .sl true (L cApi_Value ([]))] false])], orcs_nil, ⟨fun v hv => by cases hv; exact wpan_call (PCon.pan (codec_decoder_integer_con hy_2091) rfl) [0] (by decide) (by simp only [go_sem]) (by simp only [go_sem]) (by simp only [go_sem]) (by simp only [go_sem]), trivial⟩, ?_⟩ (fun fr_ hlen_ hfr_ => ?_)
        · simp only [go_sem]
        refine blockK_p ?_
        refine joinK_p ?_
        replace h := bind_some1 h; obtain ⟨z_2092, h, e_z_2092⟩ := h
        obtain rfl := Option.some.inj e_z_2092
        obtain rfl := Option.some.inj hj_2084
        obtain rfl := Option.some.inj h
        refine retP_pan rfl [0] (by decide) rfl ?_
        simp only [go_sem]
      dsimp only at h
      refine run_textE hE [4] (fr' := [(4, .ref 1 0)]) (σ' := [.box [.sl false (L cU8 v_2089.2.b)] false, .box [i64 v_2089.1.Kind, i64 v_2089.1.N, .sl false (L cU8 v_2089.1.B), .sl false (L cApi_Value v_2089.1.L)] false]) ⟨_, orcs_ok2 (l := []) (m := [(18, 61, [.ref 0 0, i64 ((((t_1917 - (32 : UInt8))).toNat : Int)), u8 ((0 : UInt8))], [.box [.sl false (L cU8 d_1916.b)] false, .box [i64 0, i64 0, .sl true (L cU8 ([])), .sl true (L cApi_Value ([]))] false], .agg [i64 v_2089.1.Kind, i64 v_2089.1.N, .sl false (L cU8 v_2089.1.B), .sl false (L cApi_Value v_2089.1.L)], [.box [.sl false (L cU8 v_2089.2.b)] false, .box [i64 0, i64 0, .sl true (L cU8 ([])), .sl true (L cApi_Value ([]))] false])]) trivial ⟨(wcon_call (PCon.to (codec_decoder_integer_con hy_2091) rfl) [0] (by decide) (by simp only [go_sem]) (by simp only [go_sem]) (by simp only [go_sem]) (by simp only [go_sem]) (by simp only [go_sem])), trivial⟩, ?_⟩ ?_
      · simp only [go_sem, Nat.reduceLeDiff]
      refine run_ret ?_
      refine blockK_r ?_
      refine joinK_r ?_
      replace h := bind_some1 h; obtain ⟨z_2093, h, e_z_2093⟩ := h
      obtain rfl := Option.some.inj e_z_2093
      obtain rfl := Option.some.inj hj_2084
      obtain rfl := Option.some.inj h
      refine retP_fz rfl (ret_fz (.inr rfl) ?_ rfl ?_)
      · simp only [go_sem]
      · show stUp [0] _ [0] _; simp only [go_sem]
    · replace h := ite_f h hb
      replace h := bind_some1 h; obtain ⟨t_2094, hv_2095, h⟩ := h
      refine run_textW hE [0, 1, 4, 19] (fr' := [(0, .ref 0 0), (1, u8 t_1917), (4, .ref 1 0), (19, .bool t_2094)]) (σ' := [.box [.sl false (L cU8 d_1916.b)] false, .box [i64 0, i64 0, .sl true (L cU8 ([])), .sl true (L cApi_Value ([]))] false]) ?_ ?_
      · rcases Bool.eq_false_or_eq_true ((decide (t_1917 < (32 : UInt8)))) with hb_2096 | hb_2096
        · replace hv_2095 := ite_t hv_2095 hb_2096
          have e_hv_2095 := Option.some.inj hv_2095; subst e_hv_2095
          exact ⟨_, [(0, .ref 0 0), (1, u8 t_1917), (4, .ref 1 0), (19, .bool ((decide (t_1917 ≥ (23 : UInt8)))))], [.box [.sl false (L cU8 d_1916.b)] false, .box [i64 0, i64 0, .sl true (L cU8 ([])), .sl true (L cApi_Value ([]))] false], orcs_nil, by simp only [go_sem, hb_2096], (weak_sel [0, 1] (by decide) rfl (by simp only [go_sem]) (by simp only [go_sem]))⟩
        · replace hv_2095 := ite_f hv_2095 hb_2096
          have e_hv_2095 := Option.some.inj hv_2095; subst e_hv_2095
          exact ⟨_, [(0, .ref 0 0), (1, u8 t_1917), (4, .ref 1 0), (19, .bool false)], [.box [.sl false (L cU8 d_1916.b)] false, .box [i64 0, i64 0, .sl true (L cU8 ([])), .sl true (L cApi_Value ([]))] false], orcs_nil, by simp only [go_sem, hb_2096], (weak_sel [0, 1] (by decide) rfl (by simp only [go_sem]) (by simp only [go_sem]))⟩
      refine run_condL (b := t_2094) rfl (by decide) (fun hb => ?_) (fun hb => ?_)
      · replace h := ite_t h hb
        replace h := bind_some1 h; obtain ⟨y_2097, hy_2100, h⟩ := h
        rcases y_2097 with v_2098 | v_2099
        rotate_left
        · dsimp only at h
          refine run_panT hE [] 4 _ (v := .iface 87 (.int .i64 v_2099.1)) (σ2 := [.box [.sl false (L cU8 v_2099.2.b)] false, .box [i64 0, i64 0, .sl true (L cU8 ([])), .sl true (L cApi_Value ([]))] false]) (vals := []) rfl rfl ⟨_, [(30, 61, [.ref 0 0, i64 (((((31 : UInt8) - t_1917)).toNat : Int)), u8 ((255 : UInt8))], [.box [.sl false (L cU8 d_1916.b)] false, .box [i64 0, i64 0, .sl true (L cU8 ([])), .sl true (L cApi_Value ([]))] false], .val (.iface 87 (.int .i64 v_2099.1)), [.box [.sl false (L cU8 v_2099.2.b)] false, .box [i64 0, i64 0, .sl true (L cU8 ([])), .sl true (L cApi_Value ([]))] false])], orcs_nil, ⟨fun v hv => by cases hv; exact wpan_call (PCon.pan (codec_decoder_integer_con hy_2100) rfl) [0] (by decide) (by simp only [go_sem]) (by simp only [go_sem]) (by simp only [go_sem]) (by simp only [go_sem]), trivial⟩, ?_⟩ (fun fr_ hlen_ hfr_ => ?_)
          · simp only [go_sem]
          refine blockK_p ?_
          refine joinK_p ?_
          replace h := bind_some1 h; obtain ⟨z_2101, h, e_z_2101⟩ := h
          obtain rfl := Option.some.inj e_z_2101
          obtain rfl := Option.some.inj hj_2084
          obtain rfl := Option.some.inj h
          refine retP_pan rfl [0] (by decide) rfl ?_
          simp only [go_sem]
        dsimp only at h
        refine run_textE hE [4] (fr' := [(4, .ref 1 0)]) (σ' := [.box [.sl false (L cU8 v_2098.2.b)] false, .box [i64 v_2098.1.Kind, i64 v_2098.1.N, .sl false (L cU8 v_2098.1.B), .sl false (L cApi_Value v_2098.1.L)] false]) ⟨_, orcs_ok2 (l := []) (m := [(30, 61, [.ref 0 0, i64 (((((31 : UInt8) - t_1917)).toNat : Int)), u8 ((255 : UInt8))], [.box [.sl false (L cU8 d_1916.b)] false, .box [i64 0, i64 0, .sl true (L cU8 ([])), .sl true (L cApi_Value ([]))] false], .agg [i64 v_2098.1.Kind, i64 v_2098.1.N, .sl false (L cU8 v_2098.1.B), .sl false (L cApi_Value v_2098.1.L)], [.box [.sl false (L cU8 v_2098.2.b)] false, .box [i64 0, i64 0, .sl true (L cU8 ([])), .sl true (L cApi_Value ([]))] false])]) trivial ⟨(wcon_call (PCon.to (codec_decoder_integer_con hy_2100) rfl) [0] (by decide) (by simp only [go_sem]) (by simp only [go_sem]) (by simp only [go_sem]) (by simp only [go_sem]) (by simp only [go_sem])), trivial⟩, ?_⟩ ?_
        · simp only [go_sem, Nat.reduceLeDiff]
        refine run_ret ?_
        refine blockK_r ?_
        refine joinK_r ?_
        replace h := bind_some1 h; obtain ⟨z_2102, h, e_z_2102⟩ := h
        obtain rfl := Option.some.inj e_z_2102
        obtain rfl := Option.some.inj hj_2084
        obtain rfl := Option.some.inj h
        refine retP_fz rfl (ret_fz (.inr rfl) ?_ rfl ?_)
        · simp only [go_sem]
        · show stUp [0] _ [0] _; simp only [go_sem]
      · replace h := ite_f h hb
        refine run_textE hE [0, 1, 4, 31] (fr' := [(0, .ref 0 0), (1, u8 t_1917), (4, .ref 1 0), (31, .bool ((t_1917 == (48 : UInt8))))]) (σ' := [.box [.sl false (L cU8 d_1916.b)] false, .box [i64 0, i64 0, .sl true (L cU8 ([])), .sl true (L cApi_Value ([]))] false]) ⟨_, orcs_nil, ?_⟩ ?_
        · simp only [go_sem]
        refine run_condL (b := (t_1917 == (48 : UInt8))) rfl (by decide) (fun hb => ?_) (fun hb => ?_)
        · replace h := ite_t h hb
          replace h := bind_some1 h; obtain ⟨y_2103, hy_2106, h⟩ := h
          rcases y_2103 with v_2104 | v_2105
          rotate_left
          · dsimp only at h
            refine run_panT hE [] 1 _ (v := .iface 87 (.int .i64 v_2105.1)) (σ2 := [.box [.sl false (L cU8 v_2105.2.b)] false, .box [i64 0, i64 0, .sl true (L cU8 ([])), .sl true (L cApi_Value ([]))] false]) (vals := []) rfl rfl ⟨_, [(35, 62, [.ref 0 0], [.box [.sl false (L cU8 d_1916.b)] false, .box [i64 0, i64 0, .sl true (L cU8 ([])), .sl true (L cApi_Value ([]))] false], .val (.iface 87 (.int .i64 v_2105.1)), [.box [.sl false (L cU8 v_2105.2.b)] false, .box [i64 0, i64 0, .sl true (L cU8 ([])), .sl true (L cApi_Value ([]))] false])], orcs_nil, ⟨fun v hv => by cases hv; exact wpan_call (PCon.pan (codec_decoder_text_con hy_2106) rfl) [0] (by decide) (by simp only [go_sem]) (by simp only [go_sem]) (by simp only [go_sem]) (by simp only [go_sem]), trivial⟩, ?_⟩ (fun fr_ hlen_ hfr_ => ?_)
            · simp only [go_sem]
            refine blockK_p ?_
            refine joinK_p ?_
            replace h := bind_some1 h; obtain ⟨z_2107, h, e_z_2107⟩ := h
            obtain rfl := Option.some.inj e_z_2107
            obtain rfl := Option.some.inj hj_2084
            obtain rfl := Option.some.inj h
            refine retP_pan rfl [0] (by decide) rfl ?_
            simp only [go_sem]
          dsimp only at h
          refine run_textE hE [4] (fr' := [(4, .ref 1 0)]) (σ' := [.box [.sl false (L cU8 v_2104.2.b)] false, .box [i64 v_2104.1.Kind, i64 v_2104.1.N, .sl false (L cU8 v_2104.1.B), .sl false (L cApi_Value v_2104.1.L)] false]) ⟨_, orcs_ok2 (l := []) (m := [(35, 62, [.ref 0 0], [.box [.sl false (L cU8 d_1916.b)] false, .box [i64 0, i64 0, .sl true (L cU8 ([])), .sl true (L cApi_Value ([]))] false], .agg [i64 v_2104.1.Kind, i64 v_2104.1.N, .sl false (L cU8 v_2104.1.B), .sl false (L cApi_Value v_2104.1.L)], [.box [.sl false (L cU8 v_2104.2.b)] false, .box [i64 0, i64 0, .sl true (L cU8 ([])), .sl true (L cApi_Value ([]))] false])]) trivial ⟨(wcon_call (PCon.to (codec_decoder_text_con hy_2106) rfl) [0] (by decide) (by simp only [go_sem]) (by simp only [go_sem]) (by simp only [go_sem]) (by simp only [go_sem]) (by simp only [go_sem])), trivial⟩, ?_⟩ ?_
          · simp only [go_sem, Nat.reduceLeDiff]
          refine run_ret ?_
          refine blockK_r ?_
          refine joinK_r ?_
          replace h := bind_some1 h; obtain ⟨z_2108, h, e_z_2108⟩ := h
          obtain rfl := Option.some.inj e_z_2108
          obtain rfl := Option.some.inj hj_2084
          obtain rfl := Option.some.inj h
          refine retP_fz rfl (ret_fz (.inr rfl) ?_ rfl ?_)
          · simp only [go_sem]
          · show stUp [0] _ [0] _; simp only [go_sem]
        · replace h := ite_f h hb
          refine run_textE hE [0, 4, 36] (fr' := [(0, .ref 0 0), (4, .ref 1 0), (36, .bool ((t_1917 == (64 : UInt8))))]) (σ' := [.box [.sl false (L cU8 d_1916.b)] false, .box [i64 0, i64 0, .sl true (L cU8 ([])), .sl true (L cApi_Value ([]))] false]) ⟨_, orcs_nil, ?_⟩ ?_
          · simp only [go_sem]
          refine run_condL (b := (t_1917 == (64 : UInt8))) rfl (by decide) (fun hb => ?_) (fun hb => ?_)
          · replace h := ite_t h hb
            refine run_textE hE [0, 4, 5] (fr' := [(0, .ref 0 0), (4, .ref 1 0), (5, .ref 2 0)]) (σ' := [.box [.sl false (L cU8 d_1916.b)] false, .box [i64 0, i64 0, .sl true (L cU8 ([])), .sl true (L cApi_Value ([]))] false, .box [i64 3, i64 0, .sl true (L cU8 ([])), .sl true (L cApi_Value ([]))] false]) ⟨_, orcs_nil, ?_⟩ ?_
            · simp only [go_sem, Nat.reduceGT, Nat.reduceLeDiff]
            replace h := bind_some1 h; obtain ⟨j_2178, hA_2179, hj_2180⟩ := h
            refine run_join (fun (v : List UInt8 × List Api_Value) => (⟨asFr 56 [(4, .ref 1 0), (5, .ref 2 0)], [.box [.sl false (L cU8 v.1)] false, .box [i64 0, i64 0, .sl true (L cU8 ([])), .sl true (L cApi_Value ([]))] false, .box [i64 3, i64 0, .sl true (L cU8 ([])), .bs false 3 (v.2.length) 0 (v.2.length)] false, .buf 4 (L cApi_Value v.2) false]⟩ : St)) (fun v => .inl v = j_2178) ?_ ?_
            · have h := hA_2179; clear hA_2179
              replace h := bind_some1 h; obtain ⟨y_2181, hy_2184, h⟩ := h
              rcases y_2181 with v_2182 | v_2183
              rotate_left
              · dsimp only at h
                refine run_panT hE [] 1 _ (v := .iface 87 (.int .i64 v_2183.1)) (σ2 := [.box [.sl false (L cU8 v_2183.2.b)] false, .box [i64 0, i64 0, .sl true (L cU8 ([])), .sl true (L cApi_Value ([]))] false, .box [i64 3, i64 0, .sl true (L cU8 ([])), .sl true (L cApi_Value ([]))] false]) (vals := []) rfl rfl ⟨_, [(41, 50, [.ref 0 0], [.box [.sl false (L cU8 d_1916.b)] false, .box [i64 0, i64 0, .sl true (L cU8 ([])), .sl true (L cApi_Value ([]))] false, .box [i64 3, i64 0, .sl true (L cU8 ([])), .sl true (L cApi_Value ([]))] false], .val (.iface 87 (.int .i64 v_2183.1)), [.box [.sl false (L cU8 v_2183.2.b)] false, .box [i64 0, i64 0, .sl true (L cU8 ([])), .sl true (L cApi_Value ([]))] false, .box [i64 3, i64 0, .sl true (L cU8 ([])), .sl true (L cApi_Value ([]))] false])], orcs_nil, ⟨fun v hv => by cases hv; exact wpan_call (PCon.pan (codec_decoder_next_con hy_2184) rfl) [0] (by decide) (by simp only [go_sem]) (by simp only [go_sem]) (by simp only [go_sem]) (by simp only [go_sem]), trivial⟩, ?_⟩ (fun fr_ hlen_ hfr_ => ?_)
                · simp only [go_sem]
                refine joinK_p ?_
                replace h := bind_some1 h; obtain ⟨z_2186, h, e_z_2186⟩ := h
                obtain rfl := Option.some.inj e_z_2186
                obtain rfl := Option.some.inj hj_2180
                refine blockK_p ?_
                refine joinK_p ?_
                replace h := bind_some1 h; obtain ⟨z_2185, h, e_z_2185⟩ := h
                obtain rfl := Option.some.inj e_z_2185
                obtain rfl := Option.some.inj hj_2084
                obtain rfl := Option.some.inj h
                refine retP_pan rfl [0] (by decide) rfl ?_
                simp only [go_sem]
              dsimp only at h
              refine run_textE hE [0, 4, 5, 6] (fr' := [(0, .ref 0 0), (4, .ref 1 0), (5, .ref 2 0), (6, u8 v_2182.1)]) (σ' := [.box [.sl false (L cU8 v_2182.2.b)] false, .box [i64 0, i64 0, .sl true (L cU8 ([])), .sl true (L cApi_Value ([]))] false, .box [i64 3, i64 0, .sl true (L cU8 ([])), .sl true (L cApi_Value ([]))] false]) ⟨_, orcs_ok2 (l := []) (m := [(41, 50, [.ref 0 0], [.box [.sl false (L cU8 d_1916.b)] false, .box [i64 0, i64 0, .sl true (L cU8 ([])), .sl true (L cApi_Value ([]))] false, .box [i64 3, i64 0, .sl true (L cU8 ([])), .sl true (L cApi_Value ([]))] false], u8 v_2182.1, [.box [.sl false (L cU8 v_2182.2.b)] false, .box [i64 0, i64 0, .sl true (L cU8 ([])), .sl true (L cApi_Value ([]))] false, .box [i64 3, i64 0, .sl true (L cU8 ([])), .sl true (L cApi_Value ([]))] false])]) trivial ⟨(wcon_call (PCon.to (codec_decoder_next_con hy_2184) rfl) [0] (by decide) (by simp only [go_sem]) (by simp only [go_sem]) (by simp only [go_sem]) (by simp only [go_sem]) (by simp only [go_sem])), trivial⟩, ?_⟩ ?_
              · simp only [go_sem]
              refine run_block ?_
              replace h := bind_some1 h; obtain ⟨x_2226, hx_2227, hj_2228⟩ := h
              refine run_loopO hx_2227 (fun (v : UInt8 × List UInt8 × List Api_Value) => (⟨asFr 56 [(0, .ref 0 0), (4, .ref 1 0), (5, .ref 2 0), (6, u8 v.1)], [.box [.sl false (L cU8 v.2.1)] false, .box [i64 0, i64 0, .sl true (L cU8 ([])), .sl true (L cApi_Value ([]))] false, .box [i64 3, i64 0, .sl true (L cU8 ([])), .bs false 3 (v.2.2.length) 0 (v.2.2.length)] false, .buf 4 (L cApi_Value v.2.2) false]⟩ : St)) ((weak_nil_box 2 3 4 rfl rfl).trans (weak_sel [0, 1, 2, 3] (by decide) rfl (by simp only [go_sem]) (by simp only [go_sem]))) ?_
              rintro ⟨c_2204, f_2205, l_2206⟩ o_2229 h hxx_2230
              replace h : codec_decoder_value_b1 rec_ c_2204 f_2205 l_2206 = some o_2229 := h
              unfold codec_decoder_value_b1 at h
              refine run_seq ?_
              refine run_textE hE [0, 4, 5, 6, 43] (fr' := [(0, .ref 0 0), (4, .ref 1 0), (5, .ref 2 0), (6, u8 c_2204), (43, .bool ((c_2204 != (0 : UInt8))))]) (σ' := [.box [.sl false (L cU8 f_2205)] false, .box [i64 0, i64 0, .sl true (L cU8 ([])), .sl true (L cApi_Value ([]))] false, .box [i64 3, i64 0, .sl true (L cU8 ([])), .bs false 3 (l_2206.length) 0 (l_2206.length)] false, .buf 4 (L cApi_Value l_2206) false]) ⟨_, orcs_nil, ?_⟩ ?_
              · simp only [go_sem]
              refine run_condL (b := (c_2204 != (0 : UInt8))) rfl (by decide) (fun hb => ?_) (fun hb => ?_)
              · replace h := ite_t h hb
                refine run_skip ?_
                refine thenK_n ?_
                refine run_seq ?_
                refine run_block ?_
                replace h := bind_some1 h; obtain ⟨y_2231, hy_2234, h⟩ := h
                rcases y_2231 with v_2232 | v_2233
                rotate_left
                · dsimp only at h
                  refine run_panD0 hE mixed [] rfl [[], [0], [], [], [2, 3], [2, 3, 4], [0, 1, 2, 3, 4, 5], [0, 1, 2, 3, 4, 5, 6], [0, 1, 2, 3, 4, 5, 6, 7]] (by kernel_rfl) 4 (by kernel_rfl) (by kernel_rfl) _ (v := .iface 87 (.int .i64 v_2233.1)) (σ2 := [.box [.sl false (L cU8 v_2233.2.b)] false, .box [i64 0, i64 0, .sl true (L cU8 ([])), .sl true (L cApi_Value ([]))] false, .box [i64 3, i64 0, .sl true (L cU8 ([])), .bs false 3 (l_2206.length) 0 (l_2206.length)] false, .buf 4 (L cApi_Value l_2206) false]) (vals := []) rfl rfl ⟨_, [(50, 49, [.ref 0 0, u8 c_2204], [.box [.sl false (L cU8 f_2205)] false, .box [i64 0, i64 0, .sl true (L cU8 ([])), .sl true (L cApi_Value ([]))] false, .box [i64 3, i64 0, .sl true (L cU8 ([])), .bs false 3 (l_2206.length) 0 (l_2206.length)] false, .buf 4 (L cApi_Value l_2206) false], .val (.iface 87 (.int .i64 v_2233.1)), [.box [.sl false (L cU8 v_2233.2.b)] false, .box [i64 0, i64 0, .sl true (L cU8 ([])), .sl true (L cApi_Value ([]))] false, .box [i64 3, i64 0, .sl true (L cU8 ([])), .bs false 3 (l_2206.length) 0 (l_2206.length)] false, .buf 4 (L cApi_Value l_2206) false])], orcs_nil, ⟨fun v hv => by cases hv; exact wpan_call (PCon.pan (hrec hy_2234) rfl) [0] (by decide) (by simp only [go_sem]) (by simp only [go_sem]) (by simp only [go_sem]) (by simp only [go_sem]), trivial⟩, ?_⟩ (fun fr_ hlen_ hfr_ => ?_)
                  · simp only [go_sem]
                  refine blockK_p ?_
                  refine thenK_p ?_
                  refine lpK_p ?_
                  replace h := bind_some1 h; obtain ⟨z_2237, h, e_z_2237⟩ := h
                  obtain rfl := Option.some.inj e_z_2237
                  have ex_z_2237 := hxx_2230 _ rfl
                  subst ex_z_2237
                  obtain rfl := Option.some.inj hj_2228
                  refine blockK_p ?_
                  refine joinK_p ?_
                  replace h := bind_some1 h; obtain ⟨z_2236, h, e_z_2236⟩ := h
                  obtain rfl := Option.some.inj e_z_2236
                  obtain rfl := Option.some.inj hj_2180
                  refine blockK_p ?_
                  refine joinK_p ?_
                  replace h := bind_some1 h; obtain ⟨z_2235, h, e_z_2235⟩ := h
                  obtain rfl := Option.some.inj e_z_2235
                  obtain rfl := Option.some.inj hj_2084
                  obtain rfl := Option.some.inj h
                  refine retP_pan rfl [0] (by decide) rfl ?_
                  simp only [go_sem]
                dsimp only at h
                replace h := chk_some h; obtain ⟨hc_2238, h⟩ := h
                replace h := lt1_some h; obtain ⟨l_2239, hz_2240, h⟩ := h
                refine run_drawY0 hE mixed [[], [0], [], [], [2, 3], [2, 3, 4], [0, 1, 2, 3, 4, 5], [0, 1, 2, 3, 4, 5, 6], [0, 1, 2, 3, 4, 5, 6, 7]] (by kernel_rfl) 4 [0, 1] [0, 4, 5, 46] (by kernel_rfl) (wk_block wk_then) (fr' := [(0, .ref 0 0), (4, .ref 1 0), (5, .ref 2 0), (46, .ref 2 3)]) (σ' := [.box [.sl false (L cU8 v_2232.2.b)] false, .box [i64 0, i64 0, .sl true (L cU8 ([])), .sl true (L cApi_Value ([]))] false, .box [i64 3, i64 0, .sl true (L cU8 ([])), .bs false 3 (l_2239.length) 0 (l_2239.length)] false, .buf 4 (L cApi_Value l_2239) false, .buf 4 (L cApi_Value (([v_2232.1] : List Api_Value))) false]) ⟨_, _, _, _, _, _, _, rfl, ?_, orcs_ok2 (l := []) (m := [(50, 49, [.ref 0 0, u8 c_2204], [.box [.sl false (L cU8 f_2205)] false, .box [i64 0, i64 0, .sl true (L cU8 ([])), .sl true (L cApi_Value ([]))] false, .box [i64 3, i64 0, .sl true (L cU8 ([])), .bs false 3 (l_2206.length) 0 (l_2206.length)] false, .buf 4 (L cApi_Value l_2206) false], .agg [i64 v_2232.1.Kind, i64 v_2232.1.N, .sl false (L cU8 v_2232.1.B), .sl false (L cApi_Value v_2232.1.L)], [.box [.sl false (L cU8 v_2232.2.b)] false, .box [i64 0, i64 0, .sl true (L cU8 ([])), .sl true (L cApi_Value ([]))] false, .box [i64 3, i64 0, .sl true (L cU8 ([])), .bs false 3 (l_2206.length) 0 (l_2206.length)] false, .buf 4 (L cApi_Value l_2206) false])]) trivial ⟨(wcon_call (PCon.to (hrec hy_2234) rfl) [0] (by decide) (by simp only [go_sem]) (by simp only [go_sem]) (by simp only [go_sem]) (by simp only [go_sem]) (by simp only [go_sem])), trivial⟩, ?_⟩ ?_
                · subst hz_2240; simp only [go_sem, Nat.reduceBEq, Nat.reduceMul, Nat.reduceSub, Nat.reduceGT, Nat.reducePow, Nat.reduceLeDiff, Int.reduceToNat, hc_2238]
                · subst hz_2240; simp only [go_sem, Nat.reduceBEq, Nat.reduceMul, Nat.reduceSub, Nat.reduceGT, Nat.reducePow, Nat.reduceLeDiff, Int.reduceToNat, hc_2238]
                refine blockK_n ?_
                refine thenK_n ?_
                replace h := bind_some1 h; obtain ⟨y_2241, hy_2244, h⟩ := h
                rcases y_2241 with v_2242 | v_2243
                rotate_left
                · dsimp only at h
                  refine run_panT0 hE [] 1 _ (v := .iface 87 (.int .i64 v_2243.1)) (σ2 := [.box [.sl false (L cU8 v_2243.2.b)] false, .box [i64 0, i64 0, .sl true (L cU8 ([])), .sl true (L cApi_Value ([]))] false, .box [i64 3, i64 0, .sl true (L cU8 ([])), .bs false 3 (l_2239.length) 0 (l_2239.length)] false, .buf 4 (L cApi_Value l_2239) false, .buf 4 (L cApi_Value (([v_2232.1] : List Api_Value))) false]) (vals := []) rfl rfl ⟨_, [(45, 50, [.ref 0 0], [.box [.sl false (L cU8 v_2232.2.b)] false, .box [i64 0, i64 0, .sl true (L cU8 ([])), .sl true (L cApi_Value ([]))] false, .box [i64 3, i64 0, .sl true (L cU8 ([])), .bs false 3 (l_2239.length) 0 (l_2239.length)] false, .buf 4 (L cApi_Value l_2239) false, .buf 4 (L cApi_Value (([v_2232.1] : List Api_Value))) false], .val (.iface 87 (.int .i64 v_2243.1)), [.box [.sl false (L cU8 v_2243.2.b)] false, .box [i64 0, i64 0, .sl true (L cU8 ([])), .sl true (L cApi_Value ([]))] false, .box [i64 3, i64 0, .sl true (L cU8 ([])), .bs false 3 (l_2239.length) 0 (l_2239.length)] false, .buf 4 (L cApi_Value l_2239) false, .buf 4 (L cApi_Value (([v_2232.1] : List Api_Value))) false])], orcs_nil, ⟨fun v hv => by cases hv; exact wpan_call (PCon.pan (codec_decoder_next_con hy_2244) rfl) [0] (by decide) (by simp only [go_sem]) (by simp only [go_sem]) (by simp only [go_sem]) (by simp only [go_sem]), trivial⟩, ?_⟩ (fun fr_ hlen_ hfr_ => ?_)
                  · simp only [go_sem]
                  refine lpK_p ?_
                  replace h := bind_some1 h; obtain ⟨z_2247, h, e_z_2247⟩ := h
                  obtain rfl := Option.some.inj e_z_2247
                  have ex_z_2247 := hxx_2230 _ rfl
                  subst ex_z_2247
                  obtain rfl := Option.some.inj hj_2228
                  refine blockK_p ?_
                  refine joinK_p ?_
                  replace h := bind_some1 h; obtain ⟨z_2246, h, e_z_2246⟩ := h
                  obtain rfl := Option.some.inj e_z_2246
                  obtain rfl := Option.some.inj hj_2180
                  refine blockK_p ?_
                  refine joinK_p ?_
                  replace h := bind_some1 h; obtain ⟨z_2245, h, e_z_2245⟩ := h
                  obtain rfl := Option.some.inj e_z_2245
                  obtain rfl := Option.some.inj hj_2084
                  obtain rfl := Option.some.inj h
                  refine retP_pan rfl [0] (by decide) rfl ?_
                  simp only [go_sem]
                dsimp only at h
                refine run_textE0 hE wk_lp [0, 4, 5, 6] (fr' := [(0, .ref 0 0), (4, .ref 1 0), (5, .ref 2 0), (6, u8 v_2242.1)]) (σ' := [.box [.sl false (L cU8 v_2242.2.b)] false, .box [i64 0, i64 0, .sl true (L cU8 ([])), .sl true (L cApi_Value ([]))] false, .box [i64 3, i64 0, .sl true (L cU8 ([])), .bs false 3 (l_2239.length) 0 (l_2239.length)] false, .buf 4 (L cApi_Value l_2239) false, .buf 4 (L cApi_Value (([v_2232.1] : List Api_Value))) false]) ⟨_, orcs_ok2 (l := []) (m := [(45, 50, [.ref 0 0], [.box [.sl false (L cU8 v_2232.2.b)] false, .box [i64 0, i64 0, .sl true (L cU8 ([])), .sl true (L cApi_Value ([]))] false, .box [i64 3, i64 0, .sl true (L cU8 ([])), .bs false 3 (l_2239.length) 0 (l_2239.length)] false, .buf 4 (L cApi_Value l_2239) false, .buf 4 (L cApi_Value (([v_2232.1] : List Api_Value))) false], u8 v_2242.1, [.box [.sl false (L cU8 v_2242.2.b)] false, .box [i64 0, i64 0, .sl true (L cU8 ([])), .sl true (L cApi_Value ([]))] false, .box [i64 3, i64 0, .sl true (L cU8 ([])), .bs false 3 (l_2239.length) 0 (l_2239.length)] false, .buf 4 (L cApi_Value l_2239) false, .buf 4 (L cApi_Value (([v_2232.1] : List Api_Value))) false])]) trivial ⟨(wcon_call (PCon.to (codec_decoder_next_con hy_2244) rfl) [0] (by decide) (by simp only [go_sem]) (by simp only [go_sem]) (by simp only [go_sem]) (by simp only [go_sem]) (by simp only [go_sem])), trivial⟩, ?_⟩ ?_
                · simp only [go_sem]
                obtain rfl := Option.some.inj h
                exact lpK_n ((v_2242.1, v_2242.2.b, l_2239)) rfl (weak_sel [0, 1, 2, 3] (by decide) rfl (by simp only [go_sem]) (by simp only [go_sem]))
              · replace h := ite_f h hb
                refine run_exit ?_
                refine thenK_x ?_
                obtain rfl := Option.some.inj h
                have ex_x_2226 := hxx_2230 _ rfl
                subst ex_x_2226
                have h := hj_2228; clear hj_2228
                refine lpK_x ?_
                refine blockK_x ?_
                obtain rfl := Option.some.inj h
                exact joinK_n ((f_2205, l_2206)) rfl ((weak_sel (l' := [(4, .ref 1 0), (5, .ref 2 0)]) (σ' := [.box [.sl false (L cU8 f_2205)] false, .box [i64 0, i64 0, .sl true (L cU8 ([])), .sl true (L cApi_Value ([]))] false, .box [i64 3, i64 0, .sl true (L cU8 ([])), .bs false 3 (l_2206.length) 0 (l_2206.length)] false, .buf 4 (L cApi_Value l_2206) false]) [0, 1, 2, 3] (by decide) rfl (by simp only [go_sem]) (by simp only [go_sem])).trans (weak_sel [0, 1, 2, 3] (by decide) rfl (by simp only [go_sem]) (by simp only [go_sem])))
            rintro ⟨f_2176, l_2177⟩ rfl
            have h := hj_2180; clear hj_2180
            refine run_textE hE [4] (fr' := [(4, .ref 1 0)]) (σ' := [.box [.sl false (L cU8 f_2176)] false, .box [i64 3, i64 0, .sl true (L cU8 ([])), .bs false 3 (l_2177.length) 0 (l_2177.length)] false, .box [i64 3, i64 0, .sl true (L cU8 ([])), .bs false 3 (l_2177.length) 0 (l_2177.length)] false, .buf 4 (L cApi_Value l_2177) false]) ⟨_, orcs_nil, ?_⟩ ?_
            · simp only [go_sem, Nat.reduceLeDiff]
            refine run_ret ?_
            refine blockK_r ?_
            refine joinK_r ?_
            replace h := bind_some1 h; obtain ⟨z_2248, h, e_z_2248⟩ := h
            obtain rfl := Option.some.inj e_z_2248
            obtain rfl := Option.some.inj hj_2084
            obtain rfl := Option.some.inj h
            refine retP_fz rfl (ret_fz (.inr rfl) ?_ rfl ?_)
            · simp only [go_sem]
            · show stUp [0] _ [0] _; simp only [go_sem]
          · replace h := ite_f h hb
            refine run_skip ?_
            refine blockK_n ?_
            obtain rfl := Option.some.inj h
            exact joinK_n (()) rfl (weak_sel [0, 1] (by decide) rfl (by simp only [go_sem]) (by simp only [go_sem]))
  rintro ⟨⟩ rfl
  have h := hj_2084; clear hj_2084
  refine run_panT0 hE [] 1 _ (v := .iface 87 (.int .i64 4)) (σ2 := [.box [.sl false (L cU8 d_1916.b)] false, .box [i64 0, i64 0, .sl true (L cU8 ([])), .sl true (L cApi_Value ([]))] false]) (vals := []) rfl rfl ⟨_, [], orcs_nil, trivial, ?_⟩ (fun fr_ hlen_ hfr_ => ?_)
  · simp only [go_sem]
  obtain rfl := Option.some.inj h
  refine retP_pan rfl [0] (by decide) rfl ?_
  simp only [go_sem]
theorem codec_decoder_value_n_con (n : Nat) : ∀ {d_1916 : Codec_decoder} {t_1917 : UInt8} {r : (Api_Value × Codec_decoder) ⊕ (Int × Codec_decoder)}, codec_decoder_value_n n d_1916 t_1917 = some r → PCon B 49 [.ref 0 0, u8 t_1917] [.box [.sl false (L cU8 d_1916.b)] false] (codec_decoder_value_out r) := by
  induction n with
  | zero => intro d_1916 t_1917 r h; cases h
  | succ n ih => intro d_1916 t_1917 r h; exact codec_decoder_value_F_con ih h
theorem codec_decoder_value_con {d_1916 : Codec_decoder} {t_1917 : UInt8} {r : (Api_Value × Codec_decoder) ⊕ (Int × Codec_decoder)} (h : codec_decoder_value d_1916 t_1917 = some r) : PCon B 49 [.ref 0 0, u8 t_1917] [.box [.sl false (L cU8 d_1916.b)] false] (codec_decoder_value_out r) := codec_decoder_value_n_con _ h

end Go.Proofs.Ytomjphpnpcgacaa
/-
  The functions compute just that.
-/
namespace Go.Proofs.Ytomjphpnpcgacaa
open Go.Rv
set_option linter.unusedVariables false
set_option linter.unusedSimpArgs false
set_option maxRecDepth 20000
set_option maxHeartbeats 4000000

theorem codec_Decode_1_pan {a0 : AV} {a1 : AV} {a2 : AV} {a3 : AV} {b0 : AV} {x_ : Int} : DCon B 48 (refsTo 2) [.box [a0, a1, a2, a3] false, .box [b0] false] (.panicking (one1 (.iface 87 (.int .i64 x_)))) (.panicking [{ v := (.iface 87 (.int .i64 x_)), recovered := true }]) [.box [i64 0, i64 0, .sl true (L cU8 ([])), .sl true (L cApi_Value ([]))] false, .box [i64 x_] false] := by
  intro F w g vs hm ha
  have hE := ok.env F
  obtain ⟨vs⟩ := vs
  match vs, ha with
  | [p_, q_], ⟨hp, hq, _⟩ =>
    refine callsD_of_wpS Try.func48 rfl fun c₀ cs hu => ?_
    refine wpS_seq (wpS_region ?_)
    show wpOpsS B.P _ _ [0, 1, 2, 3, 4, 5, 6] _ _ _
    refine opsS_caught _ (.iface 87 (.int .i64 x_)) [] ⟨#[p_, q_, undef, undef, undef, (.iface 87 (.int .i64 x_)), undef, undef, undef, undef, undef, undef], []⟩ rfl rfl rfl hu rfl ?_
    refine opsS_val (w' := w) _ (.tuple #[.int .i64 x_, .bool true]) ⟨#[p_, q_, undef, undef, undef, (.iface 87 (.int .i64 x_)), (.tuple #[.int .i64 x_, .bool true]), undef, undef, undef, undef, undef], []⟩ rfl rfl ?_ rfl ?_
    · show ((Instr.typeAssert (.iface 87 (.int .i64 x_)) 20 87 true).run B.P w).andThen (fun v w => Result.ok (Next.value v) w) = _
      have h2 : (Instr.typeAssert (.iface 87 (.int .i64 x_)) 20 87 true).run B.P w = _ := run_assert_hit hE (tb87 F) (.int .i64 x_) 20 w
      rw [h2]; rfl
    refine opsS_val (w' := w) _ (.tuple #[.int .i64 x_, .bool true]) ⟨#[p_, q_, undef, undef, (.tuple #[.int .i64 x_, .bool true]), (.iface 87 (.int .i64 x_)), (.tuple #[.int .i64 x_, .bool true]), undef, undef, undef, undef, undef], []⟩ rfl rfl rfl rfl ?_
    refine opsS_val (w' := w) _ (.int .i64 x_) ⟨#[p_, q_, undef, undef, (.tuple #[.int .i64 x_, .bool true]), (.iface 87 (.int .i64 x_)), (.tuple #[.int .i64 x_, .bool true]), (.int .i64 x_), undef, undef, undef, undef], []⟩ rfl rfl rfl rfl ?_
    refine opsS_val (w' := w) _ (.bool true) ⟨#[p_, q_, undef, undef, (.tuple #[.int .i64 x_, .bool true]), (.iface 87 (.int .i64 x_)), (.tuple #[.int .i64 x_, .bool true]), (.int .i64 x_), (.bool true), undef, undef, undef], []⟩ rfl rfl rfl rfl ?_
    refine opsS_val (w' := w) _ (.int .i64 x_) ⟨#[p_, q_, (.int .i64 x_), undef, (.tuple #[.int .i64 x_, .bool true]), (.iface 87 (.int .i64 x_)), (.tuple #[.int .i64 x_, .bool true]), (.int .i64 x_), (.bool true), undef, undef, undef], []⟩ rfl rfl rfl rfl ?_
    refine opsS_val (w' := w) _ (.bool true) ⟨#[p_, q_, (.int .i64 x_), (.bool true), (.tuple #[.int .i64 x_, .bool true]), (.iface 87 (.int .i64 x_)), (.tuple #[.int .i64 x_, .bool true]), (.int .i64 x_), (.bool true), undef, undef, undef], []⟩ rfl rfl rfl rfl ?_
    refine opsS_nil ?_
    refine dcon_rest (B := B) (F := F) (g := g) (w := w) (fn := Try.f48) (c₀ := c₀) (a := ⟨#[p_, q_, (.int .i64 x_), (.bool true), (.tuple #[.int .i64 x_, .bool true]), (.iface 87 (.int .i64 x_)), (.tuple #[.int .i64 x_, .bool true]), (.int .i64 x_), (.bool true), undef, undef, undef], []⟩) (n := 2) (N := 12) (l := [(0, .ref 0 0), (1, .ref 1 0), (2, i64 x_), (3, .bool true)]) rfl rfl rfl rfl hm ?_ ?_
    · intro p h
      simp only [List.mem_cons, List.not_mem_nil, or_false] at h
      rcases h with rfl | rfl | rfl | rfl
      · exact hp
      · exact hq
      · exact .int _ _ _
      · exact .bool _ _
    · refine run_textE hE [0, 1, 2, 3, 9] (fr' := [(0, .ref 0 0), (1, .ref 1 0), (2, i64 x_), (3, .bool true), (9, .bool true)]) (σ' := [.box [a0, a1, a2, a3] false, .box [b0] false]) ⟨_, orcs_nil, by simp only [go_sem]⟩ ?_
      refine run_condL (b := true) rfl (by decide) (fun hb => ?_) (fun hb => ?_)
      · refine run_textK hE [] (fr' := []) (σ' := [.box [i64 0, i64 0, .sl true (L cU8 ([])), .sl true (L cApi_Value ([]))] false, .box [i64 x_] false]) ⟨_, orcs_nil, by simp only [go_sem]⟩ (fun _ => ⟨rfl, rfl⟩)
      · cases hb
theorem codec_Decode_1_idle {a0 : AV} {a1 : AV} {a2 : AV} {a3 : AV} {b0 : AV} : DCon B 48 (refsTo 2) [.box [a0, a1, a2, a3] false, .box [b0] false] .returning .returning [.box [a0, a1, a2, a3] false, .box [b0] false] := by
  intro F w g vs hm ha
  have hE := ok.env F
  obtain ⟨vs⟩ := vs
  match vs, ha with
  | [p_, q_], ⟨hp, hq, _⟩ =>
    refine callsD_of_wpS Try.func48 rfl fun c₀ cs hu => ?_
    refine wpS_seq (wpS_region ?_)
    show wpOpsS B.P _ _ [0, 1, 2, 3, 4, 5, 6] _ _ _
    obtain ⟨u_, hu_⟩ := run_assert_nil hE (tb87 F) 20 w
    refine opsS_idle _ ⟨#[p_, q_, undef, undef, undef, .nilIface, undef, undef, undef, undef, undef, undef], []⟩ rfl rfl rfl hu rfl ?_
    refine opsS_val (w' := w) _ (.tuple #[u_, .bool false]) ⟨#[p_, q_, undef, undef, undef, .nilIface, (.tuple #[u_, .bool false]), undef, undef, undef, undef, undef], []⟩ rfl rfl ?_ rfl ?_
    · show ((Instr.typeAssert .nilIface 20 87 true).run B.P w).andThen (fun v w => Result.ok (Next.value v) w) = _
      have h2 : (Instr.typeAssert .nilIface 20 87 true).run B.P w = _ := hu_
      rw [h2]; rfl
    refine opsS_val (w' := w) _ (.tuple #[u_, .bool false]) ⟨#[p_, q_, undef, undef, (.tuple #[u_, .bool false]), .nilIface, (.tuple #[u_, .bool false]), undef, undef, undef, undef, undef], []⟩ rfl rfl rfl rfl ?_
    refine opsS_val (w' := w) _ u_ ⟨#[p_, q_, undef, undef, (.tuple #[u_, .bool false]), .nilIface, (.tuple #[u_, .bool false]), u_, undef, undef, undef, undef], []⟩ rfl rfl rfl rfl ?_
    refine opsS_val (w' := w) _ (.bool false) ⟨#[p_, q_, undef, undef, (.tuple #[u_, .bool false]), .nilIface, (.tuple #[u_, .bool false]), u_, (.bool false), undef, undef, undef], []⟩ rfl rfl rfl rfl ?_
    refine opsS_val (w' := w) _ u_ ⟨#[p_, q_, u_, undef, (.tuple #[u_, .bool false]), .nilIface, (.tuple #[u_, .bool false]), u_, (.bool false), undef, undef, undef], []⟩ rfl rfl rfl rfl ?_
    refine opsS_val (w' := w) _ (.bool false) ⟨#[p_, q_, u_, (.bool false), (.tuple #[u_, .bool false]), .nilIface, (.tuple #[u_, .bool false]), u_, (.bool false), undef, undef, undef], []⟩ rfl rfl rfl rfl ?_
    refine opsS_nil ?_
    refine dcon_rest (B := B) (F := F) (g := g) (w := w) (fn := Try.f48) (c₀ := c₀) (a := ⟨#[p_, q_, u_, (.bool false), (.tuple #[u_, .bool false]), .nilIface, (.tuple #[u_, .bool false]), u_, (.bool false), undef, undef, undef], []⟩) (n := 2) (N := 12) (l := [(0, .ref 0 0), (1, .ref 1 0), (3, .bool false)]) rfl rfl rfl rfl hm ?_ ?_
    · intro p h
      simp only [List.mem_cons, List.not_mem_nil, or_false] at h
      rcases h with rfl | rfl | rfl
      · exact hp
      · exact hq
      · exact .bool _ _
    · refine run_textE hE [0, 1, 3, 9] (fr' := [(0, .ref 0 0), (1, .ref 1 0), (3, .bool false), (9, .bool false)]) (σ' := [.box [a0, a1, a2, a3] false, .box [b0] false]) ⟨_, orcs_nil, by simp only [go_sem]⟩ ?_
      refine run_condL (b := false) rfl (by decide) (fun hb => ?_) (fun hb => ?_)
      · cases hb
      · exact run_skip ⟨rfl, rfl⟩
theorem codec_Decode_con {b_2249 : List UInt8} {r : Api_Value × Int} (h : codec_Decode b_2249 = some r) : Con B 31 [.sl false (L cU8 b_2249)] [] (fun r' σ' => r' = .tup [.agg [i64 r.1.Kind, i64 r.1.N, .sl false (L cU8 r.1.B), .sl false (L cApi_Value r.1.L)], i64 r.2] ∧ σ' = []) := by
  refine con_defer (cf := 48) (rs := [.cell 2 63, .cell 3 29]) (N := 35) (t7 := 7) (m := 2) (rfr := [(2, .ref 0 0), (3, .ref 1 0)]) (fr1 := [(3, .ref 1 0), (2, .ref 0 0), (0, .sl false (L cU8 b_2249))]) (σ1 := [.box [i64 0, i64 0, .sl true (L cU8 ([])), .sl true (L cApi_Value ([]))] false, .box [i64 0] false]) ok Try.func31 rfl (by decide +kernel) rfl rfl (Nat.le_of_ble_eq_true rfl) rfl rfl rfl rfl rfl rfl (by decide) (fun F => ?_) rfl ?_ rfl Try.func48 rfl (by decide +kernel) (fun F D => ?_)
  · have hE := ok.env F; refine (stepsO_eq _ _).symm.trans ?_; simp only [go_sem]; rfl
  · simp only [go_sem]; rfl
  have hE : ({ B.env F with D := D } : Env).Ok := ⟨(ok.env F).desc, (ok.env F).info⟩
  unfold codec_Decode at h
  refine run_weak (weak_keep _ _ [0, 2, 3] _ _) ?_
  show Run _ 2 _ ⟨asFr 35 [(0, .sl false (L cU8 b_2249)), (2, .ref 0 0), (3, .ref 1 0)], [.box [i64 0, i64 0, .sl true (L cU8 ([])), .sl true (L cApi_Value ([]))] false, .box [i64 0] false]⟩ _
  refine run_seq ?_
  refine run_textE hE [0, 2, 3, 10] (fr' := [(0, .sl false (L cU8 b_2249)), (2, .ref 0 0), (3, .ref 1 0), (10, .bool ((decide ((b_2249.length : Int) > 65536))))]) (σ' := [.box [i64 0, i64 0, .sl true (L cU8 ([])), .sl true (L cApi_Value ([]))] false, .box [i64 0] false]) ⟨_, orcs_nil, ?_⟩ ?_
  · simp only [go_sem]
  refine run_condL (b := (decide ((b_2249.length : Int) > 65536))) rfl (by decide) (fun hb => ?_) (fun hb => ?_)
  · replace h := ite_t h hb
    refine run_textE hE [2, 3] (fr' := [(2, .ref 0 0), (3, .ref 1 0)]) (σ' := [.box [i64 0, i64 0, .sl true (L cU8 ([])), .sl true (L cApi_Value ([]))] false, .box [i64 2] false]) ⟨_, orcs_nil, ?_⟩ ?_
    · simp only [go_sem, Nat.reduceGT, Nat.reduceLeDiff]
    refine run_ret ?_
    refine thenK_r ?_
    obtain rfl := Option.some.inj h
    refine ⟨_, [.box [i64 0, i64 0, .sl false (L cU8 ([])), .sl false (L cApi_Value ([]))] false, .box [i64 2] false], _, [.box [i64 0, i64 0, .sl false (L cU8 ([])), .sl false (L cApi_Value ([]))] false, .box [i64 2] false], [.agg [i64 0, i64 0, .sl false (L cU8 ([])), .sl false (L cApi_Value ([]))], i64 2], asFr_len _ _, .inl ⟨.inr rfl, rfl⟩, ?_, codec_Decode_1_idle, rfl, ?_, resD ?_, ?_⟩
    · show stUp [0, 1] _ [0, 1] _; simp only [go_sem]
    · simp only [go_sem]
    · simp only [go_sem]
    · simp only [go_sem]
  · replace h := ite_f h hb
    refine run_skip ?_
    refine thenK_n ?_
    refine run_textE hE [2, 3, 4] (fr' := [(2, .ref 0 0), (3, .ref 1 0), (4, .ref 2 0)]) (σ' := [.box [i64 0, i64 0, .sl true (L cU8 ([])), .sl true (L cApi_Value ([]))] false, .box [i64 0] false, .box [.sl false (L cU8 b_2249)] false]) ⟨_, orcs_nil, ?_⟩ ?_
    · simp only [go_sem, Nat.reduceGT]
    replace h := bind_some1 h; obtain ⟨y_2250, hy_2256, h⟩ := h
    rcases y_2250 with v_2251 | v_2255
    rotate_left
    · dsimp only at h
      refine run_panT hE [2, 3] 2 _ (v := .iface 87 (.int .i64 v_2255.1)) (σ2 := [.box [i64 0, i64 0, .sl true (L cU8 ([])), .sl true (L cApi_Value ([]))] false, .box [i64 0] false, .box [.sl false (L cU8 v_2255.2.b)] false]) (vals := [.ref 0 0, .ref 1 0]) rfl rfl ⟨_, [(17, 50, [.ref 2 0], [.box [i64 0, i64 0, .sl true (L cU8 ([])), .sl true (L cApi_Value ([]))] false, .box [i64 0] false, .box [.sl false (L cU8 b_2249)] false], .val (.iface 87 (.int .i64 v_2255.1)), [.box [i64 0, i64 0, .sl true (L cU8 ([])), .sl true (L cApi_Value ([]))] false, .box [i64 0] false, .box [.sl false (L cU8 v_2255.2.b)] false])], orcs_nil, ⟨fun v hv => by cases hv; exact wpan_call (PCon.pan (codec_decoder_next_con hy_2256) rfl) [2] (by decide) (by simp only [go_sem]) (by simp only [go_sem]) (by simp only [go_sem]) (by simp only [go_sem]), trivial⟩, ?_⟩ (fun fr_ hlen_ hfr_ => ?_)
      · simp only [go_sem]
      obtain rfl := Option.some.inj h
      refine ⟨_, [.box [i64 0, i64 0, .sl false (L cU8 ([])), .sl false (L cApi_Value ([]))] false, .box [i64 0] false], _, [.box [i64 0, i64 0, .sl true (L cU8 ([])), .sl true (L cApi_Value ([]))] false, .box [i64 v_2255.1] false], [.agg [i64 0, i64 0, .sl true (L cU8 ([])), .sl true (L cApi_Value ([]))], i64 v_2255.1], hlen_, .inr ⟨_, rfl, rfl⟩, ?_, codec_Decode_1_pan, rfl, ?_, resD ?_, ?_⟩
      · show stUp [0, 1] _ [0, 1] _; simp only [go_sem]
      · simp only [List.map_cons, List.map_nil, List.cons.injEq] at hfr_; exact ⟨hfr_.1, hfr_.2.1, trivial⟩
      · simp only [go_sem]
      · simp only [go_sem]
    dsimp only at h
    replace h := bind_some1 h; obtain ⟨y_2252, hy_2257, h⟩ := h
    rcases y_2252 with v_2253 | v_2254
    rotate_left
    · dsimp only at h
      refine run_panT hE [2, 3] 3 _ (v := .iface 87 (.int .i64 v_2254.1)) (σ2 := [.box [i64 0, i64 0, .sl true (L cU8 ([])), .sl true (L cApi_Value ([]))] false, .box [i64 0] false, .box [.sl false (L cU8 v_2254.2.b)] false]) (vals := [.ref 0 0, .ref 1 0]) rfl rfl ⟨_, [(18, 49, [.ref 2 0, u8 v_2251.1], [.box [i64 0, i64 0, .sl true (L cU8 ([])), .sl true (L cApi_Value ([]))] false, .box [i64 0] false, .box [.sl false (L cU8 v_2251.2.b)] false], .val (.iface 87 (.int .i64 v_2254.1)), [.box [i64 0, i64 0, .sl true (L cU8 ([])), .sl true (L cApi_Value ([]))] false, .box [i64 0] false, .box [.sl false (L cU8 v_2254.2.b)] false])], orcs_ok2 (l := []) (m := [(17, 50, [.ref 2 0], [.box [i64 0, i64 0, .sl true (L cU8 ([])), .sl true (L cApi_Value ([]))] false, .box [i64 0] false, .box [.sl false (L cU8 b_2249)] false], u8 v_2251.1, [.box [i64 0, i64 0, .sl true (L cU8 ([])), .sl true (L cApi_Value ([]))] false, .box [i64 0] false, .box [.sl false (L cU8 v_2251.2.b)] false])]) trivial ⟨(wcon_call (PCon.to (codec_decoder_next_con hy_2256) rfl) [2] (by decide) (by simp only [go_sem]) (by simp only [go_sem]) (by simp only [go_sem]) (by simp only [go_sem]) (by simp only [go_sem])), trivial⟩, ⟨fun v hv => by cases hv; exact wpan_call (PCon.pan (codec_decoder_value_con hy_2257) rfl) [2] (by decide) (by simp only [go_sem]) (by simp only [go_sem]) (by simp only [go_sem]) (by simp only [go_sem]), trivial⟩, ?_⟩ (fun fr_ hlen_ hfr_ => ?_)
      · simp only [go_sem]
      obtain rfl := Option.some.inj h
      refine ⟨_, [.box [i64 0, i64 0, .sl false (L cU8 ([])), .sl false (L cApi_Value ([]))] false, .box [i64 0] false], _, [.box [i64 0, i64 0, .sl true (L cU8 ([])), .sl true (L cApi_Value ([]))] false, .box [i64 v_2254.1] false], [.agg [i64 0, i64 0, .sl true (L cU8 ([])), .sl true (L cApi_Value ([]))], i64 v_2254.1], hlen_, .inr ⟨_, rfl, rfl⟩, ?_, codec_Decode_1_pan, rfl, ?_, resD ?_, ?_⟩
      · show stUp [0, 1] _ [0, 1] _; simp only [go_sem]
      · simp only [List.map_cons, List.map_nil, List.cons.injEq] at hfr_; exact ⟨hfr_.1, hfr_.2.1, trivial⟩
      · simp only [go_sem]
      · simp only [go_sem]
    dsimp only at h
    refine run_textE hE [2, 3, 4] (fr' := [(2, .ref 0 0), (3, .ref 1 0), (4, .ref 2 0)]) (σ' := [.box [i64 v_2253.1.Kind, i64 v_2253.1.N, .sl false (L cU8 v_2253.1.B), .sl false (L cApi_Value v_2253.1.L)] false, .box [i64 0] false, .box [.sl false (L cU8 v_2253.2.b)] false]) ⟨_, orcs_ok2 (l := []) (m := [(17, 50, [.ref 2 0], [.box [i64 0, i64 0, .sl true (L cU8 ([])), .sl true (L cApi_Value ([]))] false, .box [i64 0] false, .box [.sl false (L cU8 b_2249)] false], u8 v_2251.1, [.box [i64 0, i64 0, .sl true (L cU8 ([])), .sl true (L cApi_Value ([]))] false, .box [i64 0] false, .box [.sl false (L cU8 v_2251.2.b)] false]), (18, 49, [.ref 2 0, u8 v_2251.1], [.box [i64 0, i64 0, .sl true (L cU8 ([])), .sl true (L cApi_Value ([]))] false, .box [i64 0] false, .box [.sl false (L cU8 v_2251.2.b)] false], .agg [i64 v_2253.1.Kind, i64 v_2253.1.N, .sl false (L cU8 v_2253.1.B), .sl false (L cApi_Value v_2253.1.L)], [.box [i64 0, i64 0, .sl true (L cU8 ([])), .sl true (L cApi_Value ([]))] false, .box [i64 0] false, .box [.sl false (L cU8 v_2253.2.b)] false])]) trivial ⟨(wcon_call (PCon.to (codec_decoder_next_con hy_2256) rfl) [2] (by decide) (by simp only [go_sem]) (by simp only [go_sem]) (by simp only [go_sem]) (by simp only [go_sem]) (by simp only [go_sem])), (wcon_call (PCon.to (codec_decoder_value_con hy_2257) rfl) [2] (by decide) (by simp only [go_sem]) (by simp only [go_sem]) (by simp only [go_sem]) (by simp only [go_sem]) (by simp only [go_sem])), trivial⟩, ?_⟩ ?_
    · simp only [go_sem, Nat.reduceLeDiff]
    refine run_seq ?_
    refine run_textE hE [2, 3, 24] (fr' := [(2, .ref 0 0), (3, .ref 1 0), (24, .bool ((decide ((v_2253.2.b.length : Int) > 0))))]) (σ' := [.box [i64 v_2253.1.Kind, i64 v_2253.1.N, .sl false (L cU8 v_2253.1.B), .sl false (L cApi_Value v_2253.1.L)] false, .box [i64 0] false, .box [.sl false (L cU8 v_2253.2.b)] false]) ⟨_, orcs_nil, ?_⟩ ?_
    · simp only [go_sem]
    refine run_condL (b := (decide ((v_2253.2.b.length : Int) > 0))) rfl (by decide) (fun hb => ?_) (fun hb => ?_)
    · replace h := ite_t h hb
      refine run_textE hE [2, 3] (fr' := [(2, .ref 0 0), (3, .ref 1 0)]) (σ' := [.box [i64 0, i64 0, .sl true (L cU8 ([])), .sl true (L cApi_Value ([]))] false, .box [i64 4] false, .box [.sl false (L cU8 v_2253.2.b)] false]) ⟨_, orcs_nil, ?_⟩ ?_
      · simp only [go_sem, Nat.reduceGT, Nat.reduceLeDiff]
      refine run_ret ?_
      refine thenK_r ?_
      obtain rfl := Option.some.inj h
      refine ⟨_, [.box [i64 0, i64 0, .sl false (L cU8 ([])), .sl false (L cApi_Value ([]))] false, .box [i64 4] false], _, [.box [i64 0, i64 0, .sl false (L cU8 ([])), .sl false (L cApi_Value ([]))] false, .box [i64 4] false], [.agg [i64 0, i64 0, .sl false (L cU8 ([])), .sl false (L cApi_Value ([]))], i64 4], asFr_len _ _, .inl ⟨.inr rfl, rfl⟩, ?_, codec_Decode_1_idle, rfl, ?_, resD ?_, ?_⟩
      · show stUp [0, 1] _ [0, 1] _; simp only [go_sem]
      · simp only [go_sem]
      · simp only [go_sem]
      · simp only [go_sem]
    · replace h := ite_f h hb
      refine run_skip ?_
      refine thenK_n ?_
      refine run_seq ?_
      replace h := bind_some1 h; obtain ⟨y_2258, hy_2259, h⟩ := h
      refine run_textE hE [2, 3, 5] (fr' := [(2, .ref 0 0), (3, .ref 1 0), (5, i64 y_2258.1)]) (σ' := [.box [i64 v_2253.1.Kind, i64 v_2253.1.N, .sl false (L cU8 v_2253.1.B), .sl false (L cApi_Value v_2253.1.L)] false, .box [i64 0] false, .box [.sl false (L cU8 v_2253.2.b)] false]) ⟨_, orcs_ok (l := [(28, 51, [.agg [i64 v_2253.1.Kind, i64 v_2253.1.N, .sl false (L cU8 v_2253.1.B), .sl false (L cApi_Value v_2253.1.L)]], .tup [i64 y_2258.1, .bool y_2258.2])]) ⟨codec_shape_con  hy_2259, trivial⟩, ?_⟩ ?_
      · simp only [go_sem]
      refine run_textE hE [2, 3, 32] (fr' := [(2, .ref 0 0), (3, .ref 1 0), (32, .bool ((decide (y_2258.1 > 16))))]) (σ' := [.box [i64 v_2253.1.Kind, i64 v_2253.1.N, .sl false (L cU8 v_2253.1.B), .sl false (L cApi_Value v_2253.1.L)] false, .box [i64 0] false, .box [.sl false (L cU8 v_2253.2.b)] false]) ⟨_, orcs_nil, ?_⟩ ?_
      · simp only [go_sem]
      refine run_condL (b := (decide (y_2258.1 > 16))) rfl (by decide) (fun hb => ?_) (fun hb => ?_)
      · replace h := ite_t h hb
        refine run_textE hE [2, 3] (fr' := [(2, .ref 0 0), (3, .ref 1 0)]) (σ' := [.box [i64 0, i64 0, .sl true (L cU8 ([])), .sl true (L cApi_Value ([]))] false, .box [i64 2] false, .box [.sl false (L cU8 v_2253.2.b)] false]) ⟨_, orcs_nil, ?_⟩ ?_
        · simp only [go_sem, Nat.reduceGT, Nat.reduceLeDiff]
        refine run_ret ?_
        refine thenK_r ?_
        obtain rfl := Option.some.inj h
        refine ⟨_, [.box [i64 0, i64 0, .sl false (L cU8 ([])), .sl false (L cApi_Value ([]))] false, .box [i64 2] false], _, [.box [i64 0, i64 0, .sl false (L cU8 ([])), .sl false (L cApi_Value ([]))] false, .box [i64 2] false], [.agg [i64 0, i64 0, .sl false (L cU8 ([])), .sl false (L cApi_Value ([]))], i64 2], asFr_len _ _, .inl ⟨.inr rfl, rfl⟩, ?_, codec_Decode_1_idle, rfl, ?_, resD ?_, ?_⟩
        · show stUp [0, 1] _ [0, 1] _; simp only [go_sem]
        · simp only [go_sem]
        · simp only [go_sem]
        · simp only [go_sem]
      · replace h := ite_f h hb
        refine run_skip ?_
        refine thenK_n ?_
        refine run_textE hE [2, 3] (fr' := [(2, .ref 0 0), (3, .ref 1 0)]) (σ' := [.box [i64 v_2253.1.Kind, i64 v_2253.1.N, .sl false (L cU8 v_2253.1.B), .sl false (L cApi_Value v_2253.1.L)] false, .box [i64 0] false, .box [.sl false (L cU8 v_2253.2.b)] false]) ⟨_, orcs_nil, ?_⟩ ?_
        · simp only [go_sem, Nat.reduceLeDiff]
        refine run_ret ?_
        obtain rfl := Option.some.inj h
        refine ⟨_, [.box [i64 v_2253.1.Kind, i64 v_2253.1.N, .sl false (L cU8 v_2253.1.B), .sl false (L cApi_Value v_2253.1.L)] false, .box [i64 0] false], _, [.box [i64 v_2253.1.Kind, i64 v_2253.1.N, .sl false (L cU8 v_2253.1.B), .sl false (L cApi_Value v_2253.1.L)] false, .box [i64 0] false], [.agg [i64 v_2253.1.Kind, i64 v_2253.1.N, .sl false (L cU8 v_2253.1.B), .sl false (L cApi_Value v_2253.1.L)], i64 0], asFr_len _ _, .inl ⟨.inr rfl, rfl⟩, ?_, codec_Decode_1_idle, rfl, ?_, resD ?_, ?_⟩
        · show stUp [0, 1] _ [0, 1] _; simp only [go_sem]
        · simp only [go_sem]
        · simp only [go_sem]
        · simp only [go_sem]

end Go.Proofs.Ytomjphpnpcgacaa
/-
  The functions compute just that.
-/
namespace Go.Proofs.Ytomjphpnpcgacaa
open Go.Rv
set_option linter.unusedVariables false
set_option linter.unusedSimpArgs false
set_option maxRecDepth 20000
set_option maxHeartbeats 4000000

theorem r01_readInt_con {b_2260 : List UInt8} {at_2261 : Int} {t_2262 : Int} {r : Api_Value × Int × Int} (h : r01_readInt b_2260 at_2261 t_2262 = some r) : Con B 70 [.sl false (L cU8 b_2260), i64 at_2261, i64 t_2262] [] (fun r' σ' => r' = .tup [.agg [i64 r.1.Kind, i64 r.1.N, .sl false (L cU8 r.1.B), .sl false (L cApi_Value r.1.L)], i64 r.2.1, i64 r.2.2] ∧ σ' = []) := by
  refine con_walk (N := 69) (rs := [.cell 6 63, .tmp 7, .tmp 8]) ok Try.func70 rfl (by decide +kernel) rfl rfl (Nat.le_of_ble_eq_true rfl) (fun F => ?_)
  have hE := ok.env F
  unfold r01_readInt at h
  show Run (B.env F) 0 _ ⟨asFr 69 [(0, .sl false (L cU8 b_2260)), (1, i64 at_2261), (2, i64 t_2262)], []⟩ _
  refine run_wkP ?_
  refine run_textE hE [0, 1, 2, 6] (fr' := [(0, .sl false (L cU8 b_2260)), (1, i64 at_2261), (2, i64 t_2262), (6, .ref 0 0)]) (σ' := [.box [i64 0, i64 0, .sl true (L cU8 ([])), .sl true (L cApi_Value ([]))] false]) ⟨_, orcs_nil, ?_⟩ ?_
  · simp only [go_sem]
  refine run_textE hE [0, 1, 2, 6, 9] (fr' := [(0, .sl false (L cU8 b_2260)), (1, i64 at_2261), (2, i64 t_2262), (6, .ref 0 0), (9, i64 ((w64 (t_2262 - 32))))]) (σ' := [.box [i64 0, i64 0, .sl true (L cU8 ([])), .sl true (L cApi_Value ([]))] false]) ⟨_, orcs_nil, ?_⟩ ?_
  · simp only [go_sem]
  replace h := bind_some1 h; obtain ⟨j_2264, hA_2265, hj_2266⟩ := h
  refine run_join (fun (v : Int) => (⟨asFr 69 [(0, .sl false (L cU8 b_2260)), (1, i64 at_2261), (2, i64 t_2262), (6, .ref 0 0), (9, i64 v)], [.box [i64 0, i64 0, .sl true (L cU8 ([])), .sl true (L cApi_Value ([]))] false]⟩ : St)) (fun v => v = j_2264) ?_ ?_
  · have h := hA_2265; clear hA_2265
    refine run_textE hE [0, 1, 2, 6, 9, 16] (fr' := [(0, .sl false (L cU8 b_2260)), (1, i64 at_2261), (2, i64 t_2262), (6, .ref 0 0), (9, i64 ((w64 (t_2262 - 32)))), (16, .bool ((decide (t_2262 < 32))))]) (σ' := [.box [i64 0, i64 0, .sl true (L cU8 ([])), .sl true (L cApi_Value ([]))] false]) ⟨_, orcs_nil, ?_⟩ ?_
    · simp only [go_sem]
    refine run_condL (b := (decide (t_2262 < 32))) rfl (by decide) (fun hb => ?_) (fun hb => ?_)
    · replace h := ite_t h hb
      refine run_textE0 hE wk_join [0, 1, 2, 6, 9] (fr' := [(0, .sl false (L cU8 b_2260)), (1, i64 at_2261), (2, i64 t_2262), (6, .ref 0 0), (9, i64 ((w64 (31 - t_2262))))]) (σ' := [.box [i64 0, i64 0, .sl true (L cU8 ([])), .sl true (L cApi_Value ([]))] false]) ⟨_, orcs_nil, ?_⟩ ?_
      · simp only [go_sem]
      obtain rfl := Option.some.inj h
      exact joinK_n ((w64 (31 - t_2262))) rfl (weak_sel [0] (by decide) rfl (by simp only [go_sem]) (by simp only [go_sem]))
    · replace h := ite_f h hb
      refine run_skip ?_
      obtain rfl := Option.some.inj h
      exact joinK_n ((w64 (t_2262 - 32))) rfl (weak_sel [0] (by decide) rfl (by simp only [go_sem]) (by simp only [go_sem]))
  rintro k_2263 rfl
  have h := hj_2266; clear hj_2266
  refine run_textE hE [0, 1, 2, 6, 9, 10] (fr' := [(0, .sl false (L cU8 b_2260)), (1, i64 at_2261), (2, i64 t_2262), (6, .ref 0 0), (9, i64 k_2263), (10, i64 0)]) (σ' := [.box [i64 0, i64 0, .sl true (L cU8 ([])), .sl true (L cApi_Value ([]))] false]) ⟨_, orcs_nil, ?_⟩ ?_
  · simp only [go_sem]
  replace h := bind_some1 h; obtain ⟨j_2333, hA_2334, hj_2335⟩ := h
  refine run_join (fun (v : Int × Int) => (⟨asFr 69 [(1, i64 v.1), (2, i64 t_2262), (6, .ref 0 0), (10, i64 v.2)], [.box [i64 0, i64 0, .sl true (L cU8 ([])), .sl true (L cApi_Value ([]))] false]⟩ : St)) (fun v => .inl v = j_2333) ?_ ?_
  · have h := hA_2334; clear hA_2334
    refine run_textE hE [0, 1, 2, 6, 9, 10, 11] (fr' := [(0, .sl false (L cU8 b_2260)), (1, i64 at_2261), (2, i64 t_2262), (6, .ref 0 0), (9, i64 k_2263), (10, i64 0), (11, i64 0)]) (σ' := [.box [i64 0, i64 0, .sl true (L cU8 ([])), .sl true (L cApi_Value ([]))] false]) ⟨_, orcs_nil, ?_⟩ ?_
    · simp only [go_sem]
    refine run_block ?_
    replace h := bind_some1 h; obtain ⟨x_2377, hx_2378, hj_2379⟩ := h
    refine run_loopO hx_2378 (fun (v : Int × Int × Int) => (⟨asFr 69 [(0, .sl false (L cU8 b_2260)), (1, i64 v.1), (2, i64 t_2262), (6, .ref 0 0), (9, i64 k_2263), (10, i64 v.2.1), (11, i64 v.2.2)], [.box [i64 0, i64 0, .sl true (L cU8 ([])), .sl true (L cApi_Value ([]))] false]⟩ : St)) (weak_sel [0] (by decide) rfl (by simp only [go_sem]) (by simp only [go_sem])) ?_
    rintro ⟨at_2354, n_2355, i_2356⟩ o_2380 h hxx_2381
    replace h : r01_readInt_b1 b_2260 t_2262 k_2263 at_2354 n_2355 i_2356 = some o_2380 := h
    unfold r01_readInt_b1 at h
    refine run_seq ?_
    refine run_textE hE [0, 1, 2, 6, 9, 10, 11, 21] (fr' := [(0, .sl false (L cU8 b_2260)), (1, i64 at_2354), (2, i64 t_2262), (6, .ref 0 0), (9, i64 k_2263), (10, i64 n_2355), (11, i64 i_2356), (21, .bool ((decide (i_2356 < k_2263))))]) (σ' := [.box [i64 0, i64 0, .sl true (L cU8 ([])), .sl true (L cApi_Value ([]))] false]) ⟨_, orcs_nil, ?_⟩ ?_
    · simp only [go_sem]
    refine run_condL (b := (decide (i_2356 < k_2263))) rfl (by decide) (fun hb => ?_) (fun hb => ?_)
    · replace h := ite_t h hb
      refine run_skip ?_
      refine thenK_n ?_
      refine run_seq ?_
      refine run_block ?_
      refine run_seq ?_
      refine run_textE hE [0, 1, 2, 6, 9, 10, 11, 27] (fr' := [(0, .sl false (L cU8 b_2260)), (1, i64 at_2354), (2, i64 t_2262), (6, .ref 0 0), (9, i64 k_2263), (10, i64 n_2355), (11, i64 i_2356), (27, .bool ((decide (at_2354 ≥ (b_2260.length : Int)))))]) (σ' := [.box [i64 0, i64 0, .sl true (L cU8 ([])), .sl true (L cApi_Value ([]))] false]) ⟨_, orcs_nil, ?_⟩ ?_
      · simp only [go_sem]
      refine run_condL (b := (decide (at_2354 ≥ (b_2260.length : Int)))) rfl (by decide) (fun hb => ?_) (fun hb => ?_)
      · replace h := ite_t h hb
        refine run_textE hE [6, 7, 8] (fr' := [(6, .ref 0 0), (7, i64 at_2354), (8, i64 5)]) (σ' := [.box [i64 0, i64 0, .sl true (L cU8 ([])), .sl true (L cApi_Value ([]))] false]) ⟨_, orcs_nil, ?_⟩ ?_
        · simp only [go_sem, Nat.reduceGT, Nat.reduceLeDiff]
        refine run_ret ?_
        refine thenK_r ?_
        refine blockK_r ?_
        refine thenK_r ?_
        refine lpK_r ?_
        replace h := bind_some1 h; obtain ⟨z_2383, h, e_z_2383⟩ := h
        obtain rfl := Option.some.inj e_z_2383
        have ex_z_2383 := hxx_2381 _ rfl
        subst ex_z_2383
        obtain rfl := Option.some.inj hj_2379
        refine blockK_r ?_
        refine joinK_r ?_
        replace h := bind_some1 h; obtain ⟨z_2382, h, e_z_2382⟩ := h
        obtain rfl := Option.some.inj e_z_2382
        obtain rfl := Option.some.inj hj_2335
        obtain rfl := Option.some.inj h
        refine wkP_of (Weak.refl _ _) ?_
        refine ret_ok (.inr rfl) ?_
        simp only [go_sem]
      · replace h := ite_f h hb
        refine run_skip ?_
        refine thenK_n ?_
        replace h := chk_some h; obtain ⟨hc_2384, h⟩ := h
        replace h := lt1_some h; obtain ⟨x_2385, hz_2386, h⟩ := h
        refine run_textE hE [0, 1, 2, 6, 9, 10, 11, 12] (fr' := [(0, .sl false (L cU8 b_2260)), (1, i64 at_2354), (2, i64 t_2262), (6, .ref 0 0), (9, i64 k_2263), (10, i64 n_2355), (11, i64 i_2356), (12, i64 x_2385)]) (σ' := [.box [i64 0, i64 0, .sl true (L cU8 ([])), .sl true (L cApi_Value ([]))] false]) ⟨_, orcs_nil, ?_⟩ ?_
        · subst hz_2386; simp only [go_sem, Int.reduceToNat, hc_2384, hc_2384.2, lt_le hc_2384.2]
        replace h := bind_some1 h; obtain ⟨j_2388, hA_2389, hj_2390⟩ := h
        refine run_join (fun (v : Int) => (⟨asFr 69 [(0, .sl false (L cU8 b_2260)), (1, i64 at_2354), (2, i64 t_2262), (6, .ref 0 0), (9, i64 k_2263), (10, i64 n_2355), (11, i64 i_2356), (12, i64 v)], [.box [i64 0, i64 0, .sl true (L cU8 ([])), .sl true (L cApi_Value ([]))] false]⟩ : St)) (fun v => v = j_2388) ?_ ?_
        · have h := hA_2389; clear hA_2389
          refine run_textE hE [0, 1, 2, 6, 9, 10, 11, 12, 36] (fr' := [(0, .sl false (L cU8 b_2260)), (1, i64 at_2354), (2, i64 t_2262), (6, .ref 0 0), (9, i64 k_2263), (10, i64 n_2355), (11, i64 i_2356), (12, i64 x_2385), (36, .bool ((decide (t_2262 < 32))))]) (σ' := [.box [i64 0, i64 0, .sl true (L cU8 ([])), .sl true (L cApi_Value ([]))] false]) ⟨_, orcs_nil, ?_⟩ ?_
          · simp only [go_sem]
          refine run_condL (b := (decide (t_2262 < 32))) rfl (by decide) (fun hb => ?_) (fun hb => ?_)
          · replace h := ite_t h hb
            refine run_textE0 hE wk_join [0, 1, 2, 6, 9, 10, 11, 12] (fr' := [(0, .sl false (L cU8 b_2260)), (1, i64 at_2354), (2, i64 t_2262), (6, .ref 0 0), (9, i64 k_2263), (10, i64 n_2355), (11, i64 i_2356), (12, i64 ((w64 (255 - x_2385))))]) (σ' := [.box [i64 0, i64 0, .sl true (L cU8 ([])), .sl true (L cApi_Value ([]))] false]) ⟨_, orcs_nil, ?_⟩ ?_
            · simp only [go_sem]
            obtain rfl := Option.some.inj h
            exact joinK_n ((w64 (255 - x_2385))) rfl (weak_sel [0] (by decide) rfl (by simp only [go_sem]) (by simp only [go_sem]))
          · replace h := ite_f h hb
            refine run_skip ?_
            obtain rfl := Option.some.inj h
            exact joinK_n x_2385 rfl (weak_sel [0] (by decide) rfl (by simp only [go_sem]) (by simp only [go_sem]))
        rintro x_2387 rfl
        have h := hj_2390; clear hj_2390
        refine run_seq ?_
        replace h := bind_some1 h; obtain ⟨t_2391, hv_2392, h⟩ := h
        refine run_textW hE [0, 1, 2, 6, 9, 10, 11, 12, 52] (fr' := [(0, .sl false (L cU8 b_2260)), (1, i64 at_2354), (2, i64 t_2262), (6, .ref 0 0), (9, i64 k_2263), (10, i64 n_2355), (11, i64 i_2356), (12, i64 x_2387), (52, .bool t_2391)]) (σ' := [.box [i64 0, i64 0, .sl true (L cU8 ([])), .sl true (L cApi_Value ([]))] false]) ?_ ?_
        · rcases Bool.eq_false_or_eq_true ((i_2356 == 0)) with hb_2393 | hb_2393
          · replace hv_2392 := ite_t hv_2392 hb_2393
            rcases Bool.eq_false_or_eq_true ((x_2387 == 0)) with hb_2394 | hb_2394
            · replace hv_2392 := ite_t hv_2392 hb_2394
              have e_hv_2392 := Option.some.inj hv_2392; subst e_hv_2392
              exact ⟨_, [(0, .sl false (L cU8 b_2260)), (1, i64 at_2354), (2, i64 t_2262), (6, .ref 0 0), (9, i64 k_2263), (10, i64 n_2355), (11, i64 i_2356), (12, i64 x_2387), (52, .bool true)], [.box [i64 0, i64 0, .sl true (L cU8 ([])), .sl true (L cApi_Value ([]))] false], orcs_nil, by simp only [go_sem, hb_2393, hb_2394], (weak_sel [0] (by decide) rfl (by simp only [go_sem]) (by simp only [go_sem]))⟩
            · replace hv_2392 := ite_f hv_2392 hb_2394
              rcases Bool.eq_false_or_eq_true ((k_2263 == 8)) with hb_2395 | hb_2395
              · replace hv_2392 := ite_t hv_2392 hb_2395
                have e_hv_2392 := Option.some.inj hv_2392; subst e_hv_2392
                exact ⟨_, [(0, .sl false (L cU8 b_2260)), (1, i64 at_2354), (2, i64 t_2262), (6, .ref 0 0), (9, i64 k_2263), (10, i64 n_2355), (11, i64 i_2356), (12, i64 x_2387), (52, .bool ((decide (x_2387 > 127))))], [.box [i64 0, i64 0, .sl true (L cU8 ([])), .sl true (L cApi_Value ([]))] false], orcs_nil, by simp only [go_sem, hb_2393, hb_2394, hb_2395], (weak_sel [0] (by decide) rfl (by simp only [go_sem]) (by simp only [go_sem]))⟩
              · replace hv_2392 := ite_f hv_2392 hb_2395
                have e_hv_2392 := Option.some.inj hv_2392; subst e_hv_2392
                exact ⟨_, [(0, .sl false (L cU8 b_2260)), (1, i64 at_2354), (2, i64 t_2262), (6, .ref 0 0), (9, i64 k_2263), (10, i64 n_2355), (11, i64 i_2356), (12, i64 x_2387), (52, .bool false)], [.box [i64 0, i64 0, .sl true (L cU8 ([])), .sl true (L cApi_Value ([]))] false], orcs_nil, by simp only [go_sem, hb_2393, hb_2394, hb_2395], (weak_sel [0] (by decide) rfl (by simp only [go_sem]) (by simp only [go_sem]))⟩
          · replace hv_2392 := ite_f hv_2392 hb_2393
            have e_hv_2392 := Option.some.inj hv_2392; subst e_hv_2392
            exact ⟨_, [(0, .sl false (L cU8 b_2260)), (1, i64 at_2354), (2, i64 t_2262), (6, .ref 0 0), (9, i64 k_2263), (10, i64 n_2355), (11, i64 i_2356), (12, i64 x_2387), (52, .bool false)], [.box [i64 0, i64 0, .sl true (L cU8 ([])), .sl true (L cApi_Value ([]))] false], orcs_nil, by simp only [go_sem, hb_2393], (weak_sel [0] (by decide) rfl (by simp only [go_sem]) (by simp only [go_sem]))⟩
        refine run_condL (b := t_2391) rfl (by decide) (fun hb => ?_) (fun hb => ?_)
        · replace h := ite_t h hb
          refine run_textE hE [6, 7, 8] (fr' := [(6, .ref 0 0), (7, i64 at_2354), (8, i64 4)]) (σ' := [.box [i64 0, i64 0, .sl true (L cU8 ([])), .sl true (L cApi_Value ([]))] false]) ⟨_, orcs_nil, ?_⟩ ?_
          · simp only [go_sem, Nat.reduceGT, Nat.reduceLeDiff]
          refine run_ret ?_
          refine thenK_r ?_
          refine blockK_r ?_
          refine thenK_r ?_
          refine lpK_r ?_
          replace h := bind_some1 h; obtain ⟨z_2397, h, e_z_2397⟩ := h
          obtain rfl := Option.some.inj e_z_2397
          have ex_z_2397 := hxx_2381 _ rfl
          subst ex_z_2397
          obtain rfl := Option.some.inj hj_2379
          refine blockK_r ?_
          refine joinK_r ?_
          replace h := bind_some1 h; obtain ⟨z_2396, h, e_z_2396⟩ := h
          obtain rfl := Option.some.inj e_z_2396
          obtain rfl := Option.some.inj hj_2335
          obtain rfl := Option.some.inj h
          refine wkP_of (Weak.refl _ _) ?_
          refine ret_ok (.inr rfl) ?_
          simp only [go_sem]
        · replace h := ite_f h hb
          refine run_skip ?_
          refine thenK_n ?_
          replace h := lt1_some h; obtain ⟨n_2398, hz_2399, h⟩ := h
          refine run_textE hE [0, 1, 2, 6, 9, 10, 11] (fr' := [(0, .sl false (L cU8 b_2260)), (1, i64 at_2354), (2, i64 t_2262), (6, .ref 0 0), (9, i64 k_2263), (10, i64 n_2398), (11, i64 i_2356)]) (σ' := [.box [i64 0, i64 0, .sl true (L cU8 ([])), .sl true (L cApi_Value ([]))] false]) ⟨_, orcs_nil, ?_⟩ ?_
          · subst hz_2399; simp only [go_sem]
          refine run_textE0 hE (wk_block wk_then) [0, 1, 2, 6, 9, 10, 11] (fr' := [(0, .sl false (L cU8 b_2260)), (1, i64 ((w64 (at_2354 + 1)))), (2, i64 t_2262), (6, .ref 0 0), (9, i64 k_2263), (10, i64 n_2398), (11, i64 i_2356)]) (σ' := [.box [i64 0, i64 0, .sl true (L cU8 ([])), .sl true (L cApi_Value ([]))] false]) ⟨_, orcs_nil, ?_⟩ ?_
          · simp only [go_sem]
          refine blockK_n ?_
          refine thenK_n ?_
          refine run_textE0 hE wk_lp [0, 1, 2, 6, 9, 10, 11] (fr' := [(0, .sl false (L cU8 b_2260)), (1, i64 ((w64 (at_2354 + 1)))), (2, i64 t_2262), (6, .ref 0 0), (9, i64 k_2263), (10, i64 n_2398), (11, i64 ((w64 (i_2356 + 1))))]) (σ' := [.box [i64 0, i64 0, .sl true (L cU8 ([])), .sl true (L cApi_Value ([]))] false]) ⟨_, orcs_nil, ?_⟩ ?_
          · simp only [go_sem]
          obtain rfl := Option.some.inj h
          exact lpK_n (((w64 (at_2354 + 1)), n_2398, (w64 (i_2356 + 1)))) rfl (weak_sel [0] (by decide) rfl (by simp only [go_sem]) (by simp only [go_sem]))
    · replace h := ite_f h hb
      refine run_exit ?_
      refine thenK_x ?_
      obtain rfl := Option.some.inj h
      have ex_x_2377 := hxx_2381 _ rfl
      subst ex_x_2377
      have h := hj_2379; clear hj_2379
      refine lpK_x ?_
      refine blockK_x ?_
      obtain rfl := Option.some.inj h
      exact joinK_n ((at_2354, n_2355)) rfl ((weak_sel (l' := [(1, i64 at_2354), (2, i64 t_2262), (6, .ref 0 0), (10, i64 n_2355)]) (σ' := [.box [i64 0, i64 0, .sl true (L cU8 ([])), .sl true (L cApi_Value ([]))] false]) [0] (by decide) rfl (by simp only [go_sem]) (by simp only [go_sem])).trans (weak_sel [0] (by decide) rfl (by simp only [go_sem]) (by simp only [go_sem])))
  rintro ⟨at_2331, n_2332⟩ rfl
  have h := hj_2335; clear hj_2335
  replace h := bind_some1 h; obtain ⟨j_2403, hA_2404, hj_2405⟩ := h
  refine run_join (fun (v : Int) => (⟨asFr 69 [(1, i64 at_2331), (6, .ref 0 0), (10, i64 v)], [.box [i64 0, i64 0, .sl true (L cU8 ([])), .sl true (L cApi_Value ([]))] false]⟩ : St)) (fun v => v = j_2403) ?_ ?_
  · have h := hA_2404; clear hA_2404
    refine run_textE hE [1, 6, 10, 62] (fr' := [(1, i64 at_2331), (6, .ref 0 0), (10, i64 n_2332), (62, .bool ((decide (t_2262 < 32))))]) (σ' := [.box [i64 0, i64 0, .sl true (L cU8 ([])), .sl true (L cApi_Value ([]))] false]) ⟨_, orcs_nil, ?_⟩ ?_
    · simp only [go_sem]
    refine run_condL (b := (decide (t_2262 < 32))) rfl (by decide) (fun hb => ?_) (fun hb => ?_)
    · replace h := ite_t h hb
      replace h := lt1_some h; obtain ⟨n_2406, hz_2407, h⟩ := h
      refine run_textE0 hE wk_join [1, 6, 10] (fr' := [(1, i64 at_2331), (6, .ref 0 0), (10, i64 n_2406)]) (σ' := [.box [i64 0, i64 0, .sl true (L cU8 ([])), .sl true (L cApi_Value ([]))] false]) ⟨_, orcs_nil, ?_⟩ ?_
      · subst hz_2407; simp only [go_sem]
      obtain rfl := Option.some.inj h
      exact joinK_n n_2406 rfl (weak_sel [0] (by decide) rfl (by simp only [go_sem]) (by simp only [go_sem]))
    · replace h := ite_f h hb
      refine run_skip ?_
      obtain rfl := Option.some.inj h
      exact joinK_n n_2332 rfl (weak_sel [0] (by decide) rfl (by simp only [go_sem]) (by simp only [go_sem]))
  rintro n_2402 rfl
  have h := hj_2405; clear hj_2405
  refine run_textE hE [6, 7, 8] (fr' := [(6, .ref 0 0), (7, i64 at_2331), (8, i64 0)]) (σ' := [.box [i64 1, i64 n_2402, .sl true (L cU8 ([])), .sl true (L cApi_Value ([]))] false]) ⟨_, orcs_nil, ?_⟩ ?_
  · simp only [go_sem, Nat.reduceGT, Nat.reduceLeDiff]
  refine run_ret ?_
  obtain rfl := Option.some.inj h
  refine wkP_of (Weak.refl _ _) ?_
  refine ret_ok (.inr rfl) ?_
  simp only [go_sem]

end Go.Proofs.Ytomjphpnpcgacaa
/-
  The functions compute just that.
-/
namespace Go.Proofs.Ytomjphpnpcgacaa
open Go.Rv
set_option linter.unusedVariables false
set_option linter.unusedSimpArgs false
set_option maxRecDepth 20000
set_option maxHeartbeats 4000000

theorem r01_readBytes_con {b_2408 : List UInt8} {at_2409 : Int} {r : Api_Value × Int × Int} (h : r01_readBytes b_2408 at_2409 = some r) : Con B 71 [.sl false (L cU8 b_2408), i64 at_2409] [] (fun r' σ' => r' = .tup [.agg [i64 r.1.Kind, i64 r.1.N, .sl false (L cU8 r.1.B), .sl false (L cApi_Value r.1.L)], i64 r.2.1, i64 r.2.2] ∧ σ' = []) := by
  refine con_walk (N := 59) (rs := [.cell 4 63, .tmp 5, .tmp 6]) ok Try.func71 rfl (by decide +kernel) rfl rfl (Nat.le_of_ble_eq_true rfl) (fun F => ?_)
  have hE := ok.env F
  unfold r01_readBytes at h
  show Run (B.env F) 0 _ ⟨asFr 59 [(0, .sl false (L cU8 b_2408)), (1, i64 at_2409)], []⟩ _
  refine run_wkP ?_
  refine run_textE hE [0, 1, 4] (fr' := [(0, .sl false (L cU8 b_2408)), (1, i64 at_2409), (4, .ref 0 0)]) (σ' := [.box [i64 0, i64 0, .sl true (L cU8 ([])), .sl true (L cApi_Value ([]))] false]) ⟨_, orcs_nil, ?_⟩ ?_
  · simp only [go_sem]
  replace h := lt1_some h; obtain ⟨l_2410, hz_2411, h⟩ := h
  refine run_textE hE [0, 1, 4, 7] (fr' := [(0, .sl false (L cU8 b_2408)), (1, i64 at_2409), (4, .ref 0 0), (7, .bs true 1 (l_2410.length) 0 (l_2410.length))]) (σ' := [.box [i64 0, i64 0, .sl true (L cU8 ([])), .sl true (L cApi_Value ([]))] false, .buf 1 (L cU8 l_2410) false]) ⟨_, orcs_nil, ?_⟩ ?_
  · subst hz_2411; simp only [go_sem, Nat.reduceBEq, Nat.reduceMul, Nat.reduceSub, Nat.reduceGT, Nat.reducePow, Nat.reduceLeDiff, Int.reduceToNat]
  replace h := bind_some1 h; obtain ⟨j_2469, hA_2470, hj_2471⟩ := h
  refine run_join (fun (v : Int) => (⟨asFr 59 [(1, i64 v), (4, .ref 0 0)], [.box [i64 0, i64 0, .sl true (L cU8 ([])), .sl true (L cApi_Value ([]))] false]⟩ : St)) (fun v => .inl v = j_2469) ?_ ?_
  · have h := hA_2470; clear hA_2470
    refine run_block ?_
    replace h := bind_some1 h; obtain ⟨x_2507, hx_2508, hj_2509⟩ := h
    refine run_loopO hx_2508 (fun (v : Int × List UInt8) => (⟨asFr 59 [(0, .sl false (L cU8 b_2408)), (1, i64 v.1), (4, .ref 0 0), (7, .bs false 1 (v.2.length) 0 (v.2.length))], [.box [i64 0, i64 0, .sl true (L cU8 ([])), .sl true (L cApi_Value ([]))] false, .buf 1 (L cU8 v.2) false]⟩ : St)) (weak_sel [0, 1] (by decide) rfl (by simp only [go_sem]) (by simp only [go_sem])) ?_
    rintro ⟨at_2488, l_2489⟩ o_2510 h hxx_2511
    replace h : r01_readBytes_b1 b_2408 at_2488 l_2489 = some o_2510 := h
    unfold r01_readBytes_b1 at h
    refine run_seq ?_
    refine run_textE hE [0, 1, 4, 7, 12] (fr' := [(0, .sl false (L cU8 b_2408)), (1, i64 at_2488), (4, .ref 0 0), (7, .bs false 1 (l_2489.length) 0 (l_2489.length)), (12, .bool ((decide (at_2488 < (b_2408.length : Int)))))]) (σ' := [.box [i64 0, i64 0, .sl true (L cU8 ([])), .sl true (L cApi_Value ([]))] false, .buf 1 (L cU8 l_2489) false]) ⟨_, orcs_nil, ?_⟩ ?_
    · simp only [go_sem]
    refine run_condL (b := (decide (at_2488 < (b_2408.length : Int)))) rfl (by decide) (fun hb => ?_) (fun hb => ?_)
    · replace h := ite_t h hb
      refine run_skip ?_
      refine thenK_n ?_
      refine run_block ?_
      refine run_seq ?_
      replace h := chk_some h; obtain ⟨hc_2512, h⟩ := h
      refine run_textE hE [0, 1, 4, 7, 17] (fr' := [(0, .sl false (L cU8 b_2408)), (1, i64 at_2488), (4, .ref 0 0), (7, .bs false 1 (l_2489.length) 0 (l_2489.length)), (17, .bool ((nth b_2408 at_2488.toNat != (0 : UInt8))))]) (σ' := [.box [i64 0, i64 0, .sl true (L cU8 ([])), .sl true (L cApi_Value ([]))] false, .buf 1 (L cU8 l_2489) false]) ⟨_, orcs_nil, ?_⟩ ?_
      · simp only [go_sem, Int.reduceToNat, hc_2512, hc_2512.2, lt_le hc_2512.2]
      refine run_condL (b := (nth b_2408 at_2488.toNat != (0 : UInt8))) rfl (by decide) (fun hb => ?_) (fun hb => ?_)
      · replace h := ite_t h hb
        replace h := chk_some h; obtain ⟨hc_2513, h⟩ := h
        replace h := chk_some h; obtain ⟨hc_2514, h⟩ := h
        replace h := lt1_some h; obtain ⟨l_2515, hz_2516, h⟩ := h
        refine run_textE hE [0, 1, 4, 7] (fr' := [(0, .sl false (L cU8 b_2408)), (1, i64 at_2488), (4, .ref 0 0), (7, .bs false 1 (l_2515.length) 0 (l_2515.length))]) (σ' := [.box [i64 0, i64 0, .sl true (L cU8 ([])), .sl true (L cApi_Value ([]))] false, .buf 1 (L cU8 l_2515) false, .buf 1 (L cU8 (([nth b_2408 at_2488.toNat] : List UInt8))) false]) ⟨_, orcs_nil, ?_⟩ ?_
        · subst hz_2516; simp only [go_sem, Nat.reduceBEq, Nat.reduceMul, Nat.reduceSub, Nat.reduceGT, Nat.reducePow, Nat.reduceLeDiff, Int.reduceToNat, hc_2513, hc_2513.2, lt_le hc_2513.2, hc_2514]
        refine run_textE hE [0, 1, 4, 7] (fr' := [(0, .sl false (L cU8 b_2408)), (1, i64 ((w64 (at_2488 + 1)))), (4, .ref 0 0), (7, .bs false 1 (l_2515.length) 0 (l_2515.length))]) (σ' := [.box [i64 0, i64 0, .sl true (L cU8 ([])), .sl true (L cApi_Value ([]))] false, .buf 1 (L cU8 l_2515) false, .buf 1 (L cU8 (([nth b_2408 at_2488.toNat] : List UInt8))) false]) ⟨_, orcs_nil, ?_⟩ ?_
        · simp only [go_sem]
        refine run_exit ?_
        refine thenK_x ?_
        refine blockK_x ?_
        obtain rfl := Option.some.inj h
        exact lpK_n (((w64 (at_2488 + 1)), l_2515)) rfl (weak_sel [0, 1] (by decide) rfl (by simp only [go_sem]) (by simp only [go_sem]))
      · replace h := ite_f h hb
        refine run_skip ?_
        refine thenK_n ?_
        refine run_seq ?_
        refine run_textE hE [0, 1, 4, 7, 31] (fr' := [(0, .sl false (L cU8 b_2408)), (1, i64 at_2488), (4, .ref 0 0), (7, .bs false 1 (l_2489.length) 0 (l_2489.length)), (31, .bool ((decide ((w64 (at_2488 + 1)) ≥ (b_2408.length : Int)))))]) (σ' := [.box [i64 0, i64 0, .sl true (L cU8 ([])), .sl true (L cApi_Value ([]))] false, .buf 1 (L cU8 l_2489) false]) ⟨_, orcs_nil, ?_⟩ ?_
        · simp only [go_sem]
        refine run_condL (b := (decide ((w64 (at_2488 + 1)) ≥ (b_2408.length : Int)))) rfl (by decide) (fun hb => ?_) (fun hb => ?_)
        · replace h := ite_t h hb
          refine run_textE hE [4, 5, 6] (fr' := [(4, .ref 0 0), (5, i64 at_2488), (6, i64 5)]) (σ' := [.box [i64 0, i64 0, .sl true (L cU8 ([])), .sl true (L cApi_Value ([]))] false, .buf 1 (L cU8 l_2489) false]) ⟨_, orcs_nil, ?_⟩ ?_
          · simp only [go_sem, Nat.reduceGT, Nat.reduceLeDiff]
          refine run_ret ?_
          refine thenK_r ?_
          refine blockK_r ?_
          refine lpK_r ?_
          replace h := bind_some1 h; obtain ⟨z_2518, h, e_z_2518⟩ := h
          obtain rfl := Option.some.inj e_z_2518
          have ex_z_2518 := hxx_2511 _ rfl
          subst ex_z_2518
          obtain rfl := Option.some.inj hj_2509
          refine blockK_r ?_
          refine joinK_r ?_
          replace h := bind_some1 h; obtain ⟨z_2517, h, e_z_2517⟩ := h
          obtain rfl := Option.some.inj e_z_2517
          obtain rfl := Option.some.inj hj_2471
          obtain rfl := Option.some.inj h
          refine wkP_of (Weak.refl _ _) ?_
          refine ret_ok (.inr rfl) ?_
          simp only [go_sem]
        · replace h := ite_f h hb
          refine run_skip ?_
          refine thenK_n ?_
          refine run_seq ?_
          replace h := chk_some h; obtain ⟨hc_2519, h⟩ := h
          refine run_textE hE [0, 1, 4, 7, 39] (fr' := [(0, .sl false (L cU8 b_2408)), (1, i64 at_2488), (4, .ref 0 0), (7, .bs false 1 (l_2489.length) 0 (l_2489.length)), (39, .bool ((nth b_2408 (((w64 (at_2488 + 1))).toNat) == (0 : UInt8))))]) (σ' := [.box [i64 0, i64 0, .sl true (L cU8 ([])), .sl true (L cApi_Value ([]))] false, .buf 1 (L cU8 l_2489) false]) ⟨_, orcs_nil, ?_⟩ ?_
          · simp only [go_sem, Int.reduceToNat, hc_2519, hc_2519.2, lt_le hc_2519.2]
          refine run_condL (b := (nth b_2408 (((w64 (at_2488 + 1))).toNat) == (0 : UInt8))) rfl (by decide) (fun hb => ?_) (fun hb => ?_)
          · replace h := ite_t h hb
            refine run_textE hE [4, 5, 6] (fr' := [(4, .ref 0 0), (5, i64 ((w64 (at_2488 + 2)))), (6, i64 0)]) (σ' := [.box [i64 2, i64 0, .bs false 1 (l_2489.length) 0 (l_2489.length), .sl true (L cApi_Value ([]))] false, .buf 1 (L cU8 l_2489) false]) ⟨_, orcs_nil, ?_⟩ ?_
            · simp only [go_sem, Nat.reduceGT, Nat.reduceLeDiff]
            refine run_ret ?_
            refine thenK_r ?_
            refine blockK_r ?_
            refine lpK_r ?_
            replace h := bind_some1 h; obtain ⟨z_2521, h, e_z_2521⟩ := h
            obtain rfl := Option.some.inj e_z_2521
            have ex_z_2521 := hxx_2511 _ rfl
            subst ex_z_2521
            obtain rfl := Option.some.inj hj_2509
            refine blockK_r ?_
            refine joinK_r ?_
            replace h := bind_some1 h; obtain ⟨z_2520, h, e_z_2520⟩ := h
            obtain rfl := Option.some.inj e_z_2520
            obtain rfl := Option.some.inj hj_2471
            obtain rfl := Option.some.inj h
            refine wkP_of (Weak.refl _ _) ?_
            refine ret_ok (.inr rfl) ?_
            simp only [go_sem]
          · replace h := ite_f h hb
            refine run_skip ?_
            refine thenK_n ?_
            refine run_seq ?_
            replace h := chk_some h; obtain ⟨hc_2522, h⟩ := h
            refine run_textE hE [0, 1, 4, 7, 49] (fr' := [(0, .sl false (L cU8 b_2408)), (1, i64 at_2488), (4, .ref 0 0), (7, .bs false 1 (l_2489.length) 0 (l_2489.length)), (49, .bool ((nth b_2408 (((w64 (at_2488 + 1))).toNat) != (255 : UInt8))))]) (σ' := [.box [i64 0, i64 0, .sl true (L cU8 ([])), .sl true (L cApi_Value ([]))] false, .buf 1 (L cU8 l_2489) false]) ⟨_, orcs_nil, ?_⟩ ?_
            · simp only [go_sem, Int.reduceToNat, hc_2522, hc_2522.2, lt_le hc_2522.2]
            refine run_condL (b := (nth b_2408 (((w64 (at_2488 + 1))).toNat) != (255 : UInt8))) rfl (by decide) (fun hb => ?_) (fun hb => ?_)
            · replace h := ite_t h hb
              refine run_textE hE [4, 5, 6] (fr' := [(4, .ref 0 0), (5, i64 at_2488), (6, i64 4)]) (σ' := [.box [i64 0, i64 0, .sl true (L cU8 ([])), .sl true (L cApi_Value ([]))] false, .buf 1 (L cU8 l_2489) false]) ⟨_, orcs_nil, ?_⟩ ?_
              · simp only [go_sem, Nat.reduceGT, Nat.reduceLeDiff]
              refine run_ret ?_
              refine thenK_r ?_
              refine blockK_r ?_
              refine lpK_r ?_
              replace h := bind_some1 h; obtain ⟨z_2524, h, e_z_2524⟩ := h
              obtain rfl := Option.some.inj e_z_2524
              have ex_z_2524 := hxx_2511 _ rfl
              subst ex_z_2524
              obtain rfl := Option.some.inj hj_2509
              refine blockK_r ?_
              refine joinK_r ?_
              replace h := bind_some1 h; obtain ⟨z_2523, h, e_z_2523⟩ := h
              obtain rfl := Option.some.inj e_z_2523
              obtain rfl := Option.some.inj hj_2471
              obtain rfl := Option.some.inj h
              refine wkP_of (Weak.refl _ _) ?_
              refine ret_ok (.inr rfl) ?_
              simp only [go_sem]
            · replace h := ite_f h hb
              refine run_skip ?_
              refine thenK_n ?_
              replace h := chk_some h; obtain ⟨hc_2525, h⟩ := h
              replace h := lt1_some h; obtain ⟨l_2526, hz_2527, h⟩ := h
              refine run_textE hE [0, 1, 4, 7] (fr' := [(0, .sl false (L cU8 b_2408)), (1, i64 at_2488), (4, .ref 0 0), (7, .bs false 1 (l_2526.length) 0 (l_2526.length))]) (σ' := [.box [i64 0, i64 0, .sl true (L cU8 ([])), .sl true (L cApi_Value ([]))] false, .buf 1 (L cU8 l_2526) false, .buf 1 (L cU8 (([(0 : UInt8)] : List UInt8))) false]) ⟨_, orcs_nil, ?_⟩ ?_
              · subst hz_2527; simp only [go_sem, Nat.reduceBEq, Nat.reduceMul, Nat.reduceSub, Nat.reduceGT, Nat.reducePow, Nat.reduceLeDiff, Int.reduceToNat, hc_2525]
              refine run_textE0 hE (wk_block wk_lp) [0, 1, 4, 7] (fr' := [(0, .sl false (L cU8 b_2408)), (1, i64 ((w64 (at_2488 + 2)))), (4, .ref 0 0), (7, .bs false 1 (l_2526.length) 0 (l_2526.length))]) (σ' := [.box [i64 0, i64 0, .sl true (L cU8 ([])), .sl true (L cApi_Value ([]))] false, .buf 1 (L cU8 l_2526) false, .buf 1 (L cU8 (([(0 : UInt8)] : List UInt8))) false]) ⟨_, orcs_nil, ?_⟩ ?_
              · simp only [go_sem]
              refine blockK_n ?_
              obtain rfl := Option.some.inj h
              exact lpK_n (((w64 (at_2488 + 2)), l_2526)) rfl (weak_sel [0, 1] (by decide) rfl (by simp only [go_sem]) (by simp only [go_sem]))
    · replace h := ite_f h hb
      refine run_exit ?_
      refine thenK_x ?_
      obtain rfl := Option.some.inj h
      have ex_x_2507 := hxx_2511 _ rfl
      subst ex_x_2507
      have h := hj_2509; clear hj_2509
      refine lpK_x ?_
      refine blockK_x ?_
      obtain rfl := Option.some.inj h
      exact joinK_n at_2488 rfl ((weak_sel (l' := [(1, i64 at_2488), (4, .ref 0 0)]) (σ' := [.box [i64 0, i64 0, .sl true (L cU8 ([])), .sl true (L cApi_Value ([]))] false]) [0] (by decide) rfl (by simp only [go_sem]) (by simp only [go_sem])).trans (weak_sel [0] (by decide) rfl (by simp only [go_sem]) (by simp only [go_sem])))
  rintro at_2468 rfl
  have h := hj_2471; clear hj_2471
  refine run_textE hE [4, 5, 6] (fr' := [(4, .ref 0 0), (5, i64 at_2468), (6, i64 5)]) (σ' := [.box [i64 0, i64 0, .sl true (L cU8 ([])), .sl true (L cApi_Value ([]))] false]) ⟨_, orcs_nil, ?_⟩ ?_
  · simp only [go_sem, Nat.reduceGT, Nat.reduceLeDiff]
  refine run_ret ?_
  obtain rfl := Option.some.inj h
  refine wkP_of (Weak.refl _ _) ?_
  refine ret_ok (.inr rfl) ?_
  simp only [go_sem]

end Go.Proofs.Ytomjphpnpcgacaa
/-
  The functions compute just that.
-/
namespace Go.Proofs.Ytomjphpnpcgacaa
open Go.Rv
set_option linter.unusedVariables false
set_option linter.unusedSimpArgs false
set_option maxRecDepth 20000
set_option maxHeartbeats 4000000

theorem r01_readList_con {rec_2528 : (List UInt8) → Int → Option (Api_Value × Int × Int)} {b_2529 : List UInt8} {at_2530 : Int} (h65 : ∀ {a0 : List UInt8} {a1 : Int} {r : Api_Value × Int × Int}, rec_2528 a0 a1 = some r → Con B 65 [.sl false (L cU8 a0), i64 a1] [] (fun r' σ' => r' = .tup [.agg [i64 r.1.Kind, i64 r.1.N, .sl false (L cU8 r.1.B), .sl false (L cApi_Value r.1.L)], i64 r.2.1, i64 r.2.2] ∧ σ' = [])) {r : Api_Value × Int × Int} (h : r01_readList rec_2528 b_2529 at_2530 = some r) : Con B 72 [.sl false (L cU8 b_2529), i64 at_2530] [] (fun r' σ' => r' = .tup [.agg [i64 r.1.Kind, i64 r.1.N, .sl false (L cU8 r.1.B), .sl false (L cApi_Value r.1.L)], i64 r.2.1, i64 r.2.2] ∧ σ' = []) := by
  refine con_walk (N := 44) (rs := [.cell 4 63, .tmp 5, .tmp 6]) ok Try.func72 rfl (by decide +kernel) rfl rfl (Nat.le_of_ble_eq_true rfl) (fun F => ?_)
  have hE := ok.env F
  unfold r01_readList at h
  show Run (B.env F) 0 _ ⟨asFr 44 [(0, .sl false (L cU8 b_2529)), (1, i64 at_2530)], []⟩ _
  refine run_wkP ?_
  refine run_textE hE [0, 1, 4] (fr' := [(0, .sl false (L cU8 b_2529)), (1, i64 at_2530), (4, .ref 0 0)]) (σ' := [.box [i64 0, i64 0, .sl true (L cU8 ([])), .sl true (L cApi_Value ([]))] false]) ⟨_, orcs_nil, ?_⟩ ?_
  · simp only [go_sem]
  replace h := lt1_some h; obtain ⟨l_2531, hz_2532, h⟩ := h
  refine run_textE hE [0, 1, 4, 7] (fr' := [(0, .sl false (L cU8 b_2529)), (1, i64 at_2530), (4, .ref 0 0), (7, .bs true 1 (l_2531.length) 0 (l_2531.length))]) (σ' := [.box [i64 0, i64 0, .sl true (L cU8 ([])), .sl true (L cApi_Value ([]))] false, .buf 4 (L cApi_Value l_2531) false]) ⟨_, orcs_nil, ?_⟩ ?_
  · subst hz_2532; simp only [go_sem, Nat.reduceBEq, Nat.reduceMul, Nat.reduceSub, Nat.reduceGT, Nat.reducePow, Nat.reduceLeDiff, Int.reduceToNat]
  replace h := bind_some1 h; obtain ⟨j_2572, hA_2573, hj_2574⟩ := h
  refine run_join (fun (v : Int) => (⟨asFr 44 [(1, i64 v), (4, .ref 0 0)], [.box [i64 0, i64 0, .sl true (L cU8 ([])), .sl true (L cApi_Value ([]))] false]⟩ : St)) (fun v => .inl v = j_2572) ?_ ?_
  · have h := hA_2573; clear hA_2573
    refine run_block ?_
    replace h := bind_some1 h; obtain ⟨x_2598, hx_2599, hj_2600⟩ := h
    refine run_loopO hx_2599 (fun (v : Int × List Api_Value) => (⟨asFr 44 [(0, .sl false (L cU8 b_2529)), (1, i64 v.1), (4, .ref 0 0), (7, .bs false 1 (v.2.length) 0 (v.2.length))], [.box [i64 0, i64 0, .sl true (L cU8 ([])), .sl true (L cApi_Value ([]))] false, .buf 4 (L cApi_Value v.2) false]⟩ : St)) (weak_sel [0, 1] (by decide) rfl (by simp only [go_sem]) (by simp only [go_sem])) ?_
    rintro ⟨at_2585, l_2586⟩ o_2601 h hxx_2602
    replace h : r01_readList_b1 rec_2528 b_2529 at_2585 l_2586 = some o_2601 := h
    unfold r01_readList_b1 at h
    refine run_seq ?_
    refine run_textE hE [0, 1, 4, 7, 15] (fr' := [(0, .sl false (L cU8 b_2529)), (1, i64 at_2585), (4, .ref 0 0), (7, .bs false 1 (l_2586.length) 0 (l_2586.length)), (15, .bool ((decide (at_2585 < (b_2529.length : Int)))))]) (σ' := [.box [i64 0, i64 0, .sl true (L cU8 ([])), .sl true (L cApi_Value ([]))] false, .buf 4 (L cApi_Value l_2586) false]) ⟨_, orcs_nil, ?_⟩ ?_
    · simp only [go_sem]
    refine run_condL (b := (decide (at_2585 < (b_2529.length : Int)))) rfl (by decide) (fun hb => ?_) (fun hb => ?_)
    · replace h := ite_t h hb
      refine run_skip ?_
      refine thenK_n ?_
      refine run_block ?_
      refine run_seq ?_
      replace h := chk_some h; obtain ⟨hc_2603, h⟩ := h
      refine run_textE hE [0, 1, 4, 7, 20] (fr' := [(0, .sl false (L cU8 b_2529)), (1, i64 at_2585), (4, .ref 0 0), (7, .bs false 1 (l_2586.length) 0 (l_2586.length)), (20, .bool ((nth b_2529 at_2585.toNat == (0 : UInt8))))]) (σ' := [.box [i64 0, i64 0, .sl true (L cU8 ([])), .sl true (L cApi_Value ([]))] false, .buf 4 (L cApi_Value l_2586) false]) ⟨_, orcs_nil, ?_⟩ ?_
      · simp only [go_sem, Int.reduceToNat, hc_2603, hc_2603.2, lt_le hc_2603.2]
      refine run_condL (b := (nth b_2529 at_2585.toNat == (0 : UInt8))) rfl (by decide) (fun hb => ?_) (fun hb => ?_)
      · replace h := ite_t h hb
        refine run_textE hE [4, 5, 6] (fr' := [(4, .ref 0 0), (5, i64 ((w64 (at_2585 + 1)))), (6, i64 0)]) (σ' := [.box [i64 3, i64 0, .sl true (L cU8 ([])), .bs false 1 (l_2586.length) 0 (l_2586.length)] false, .buf 4 (L cApi_Value l_2586) false]) ⟨_, orcs_nil, ?_⟩ ?_
        · simp only [go_sem, Nat.reduceGT, Nat.reduceLeDiff]
        refine run_ret ?_
        refine thenK_r ?_
        refine blockK_r ?_
        refine lpK_r ?_
        replace h := bind_some1 h; obtain ⟨z_2605, h, e_z_2605⟩ := h
        obtain rfl := Option.some.inj e_z_2605
        have ex_z_2605 := hxx_2602 _ rfl
        subst ex_z_2605
        obtain rfl := Option.some.inj hj_2600
        refine blockK_r ?_
        refine joinK_r ?_
        replace h := bind_some1 h; obtain ⟨z_2604, h, e_z_2604⟩ := h
        obtain rfl := Option.some.inj e_z_2604
        obtain rfl := Option.some.inj hj_2574
        obtain rfl := Option.some.inj h
        refine wkP_of (Weak.refl _ _) ?_
        refine ret_ok (.inr rfl) ?_
        simp only [go_sem]
      · replace h := ite_f h hb
        refine run_skip ?_
        refine thenK_n ?_
        replace h := bind_some1 h; obtain ⟨y_2606, hy_2607, h⟩ := h
        refine run_textE hE [0, 1, 4, 7, 8, 9, 10] (fr' := [(0, .sl false (L cU8 b_2529)), (1, i64 at_2585), (4, .ref 0 0), (7, .bs false 1 (l_2586.length) 0 (l_2586.length)), (8, .ref 2 0), (9, i64 y_2606.2.1), (10, i64 y_2606.2.2)]) (σ' := [.box [i64 0, i64 0, .sl true (L cU8 ([])), .sl true (L cApi_Value ([]))] false, .buf 4 (L cApi_Value l_2586) false, .box [i64 y_2606.1.Kind, i64 y_2606.1.N, .sl false (L cU8 y_2606.1.B), .sl false (L cApi_Value y_2606.1.L)] false]) ⟨_, orcs_ok (l := [(28, 65, [.sl false (L cU8 b_2529), i64 at_2585], .tup [.agg [i64 y_2606.1.Kind, i64 y_2606.1.N, .sl false (L cU8 y_2606.1.B), .sl false (L cApi_Value y_2606.1.L)], i64 y_2606.2.1, i64 y_2606.2.2])]) ⟨h65  hy_2607, trivial⟩, ?_⟩ ?_
        · simp only [go_sem, Nat.reduceLeDiff]
        refine run_seq ?_
        refine run_textE hE [0, 1, 4, 7, 8, 9, 10, 33] (fr' := [(0, .sl false (L cU8 b_2529)), (1, i64 at_2585), (4, .ref 0 0), (7, .bs false 1 (l_2586.length) 0 (l_2586.length)), (8, .ref 2 0), (9, i64 y_2606.2.1), (10, i64 y_2606.2.2), (33, .bool ((y_2606.2.2 != 0)))]) (σ' := [.box [i64 0, i64 0, .sl true (L cU8 ([])), .sl true (L cApi_Value ([]))] false, .buf 4 (L cApi_Value l_2586) false, .box [i64 y_2606.1.Kind, i64 y_2606.1.N, .sl false (L cU8 y_2606.1.B), .sl false (L cApi_Value y_2606.1.L)] false]) ⟨_, orcs_nil, ?_⟩ ?_
        · simp only [go_sem]
        refine run_condL (b := (y_2606.2.2 != 0)) rfl (by decide) (fun hb => ?_) (fun hb => ?_)
        · replace h := ite_t h hb
          refine run_textE hE [4, 5, 6] (fr' := [(4, .ref 0 0), (5, i64 at_2585), (6, i64 y_2606.2.2)]) (σ' := [.box [i64 0, i64 0, .sl true (L cU8 ([])), .sl true (L cApi_Value ([]))] false, .buf 4 (L cApi_Value l_2586) false, .box [i64 y_2606.1.Kind, i64 y_2606.1.N, .sl false (L cU8 y_2606.1.B), .sl false (L cApi_Value y_2606.1.L)] false]) ⟨_, orcs_nil, ?_⟩ ?_
          · simp only [go_sem, Nat.reduceGT, Nat.reduceLeDiff]
          refine run_ret ?_
          refine thenK_r ?_
          refine blockK_r ?_
          refine lpK_r ?_
          replace h := bind_some1 h; obtain ⟨z_2609, h, e_z_2609⟩ := h
          obtain rfl := Option.some.inj e_z_2609
          have ex_z_2609 := hxx_2602 _ rfl
          subst ex_z_2609
          obtain rfl := Option.some.inj hj_2600
          refine blockK_r ?_
          refine joinK_r ?_
          replace h := bind_some1 h; obtain ⟨z_2608, h, e_z_2608⟩ := h
          obtain rfl := Option.some.inj e_z_2608
          obtain rfl := Option.some.inj hj_2574
          obtain rfl := Option.some.inj h
          refine wkP_of (Weak.refl _ _) ?_
          refine ret_ok (.inr rfl) ?_
          simp only [go_sem]
        · replace h := ite_f h hb
          refine run_skip ?_
          refine thenK_n ?_
          replace h := chk_some h; obtain ⟨hc_2610, h⟩ := h
          replace h := lt1_some h; obtain ⟨l_2611, hz_2612, h⟩ := h
          refine run_textE hE [0, 4, 7, 9] (fr' := [(0, .sl false (L cU8 b_2529)), (4, .ref 0 0), (7, .bs false 1 (l_2611.length) 0 (l_2611.length)), (9, i64 y_2606.2.1)]) (σ' := [.box [i64 0, i64 0, .sl true (L cU8 ([])), .sl true (L cApi_Value ([]))] false, .buf 4 (L cApi_Value l_2611) false, .box [i64 y_2606.1.Kind, i64 y_2606.1.N, .sl false (L cU8 y_2606.1.B), .sl false (L cApi_Value y_2606.1.L)] false, .buf 4 (L cApi_Value (([y_2606.1] : List Api_Value))) false]) ⟨_, orcs_nil, ?_⟩ ?_
          · subst hz_2612; simp only [go_sem, Nat.reduceBEq, Nat.reduceMul, Nat.reduceSub, Nat.reduceGT, Nat.reducePow, Nat.reduceLeDiff, Int.reduceToNat, hc_2610]
          refine run_textE0 hE (wk_block wk_lp) [0, 1, 4, 7] (fr' := [(0, .sl false (L cU8 b_2529)), (1, i64 y_2606.2.1), (4, .ref 0 0), (7, .bs false 1 (l_2611.length) 0 (l_2611.length))]) (σ' := [.box [i64 0, i64 0, .sl true (L cU8 ([])), .sl true (L cApi_Value ([]))] false, .buf 4 (L cApi_Value l_2611) false, .box [i64 y_2606.1.Kind, i64 y_2606.1.N, .sl false (L cU8 y_2606.1.B), .sl false (L cApi_Value y_2606.1.L)] false, .buf 4 (L cApi_Value (([y_2606.1] : List Api_Value))) false]) ⟨_, orcs_nil, ?_⟩ ?_
          · simp only [go_sem]
          refine blockK_n ?_
          obtain rfl := Option.some.inj h
          exact lpK_n ((y_2606.2.1, l_2611)) rfl (weak_sel [0, 1] (by decide) rfl (by simp only [go_sem]) (by simp only [go_sem]))
    · replace h := ite_f h hb
      refine run_exit ?_
      refine thenK_x ?_
      obtain rfl := Option.some.inj h
      have ex_x_2598 := hxx_2602 _ rfl
      subst ex_x_2598
      have h := hj_2600; clear hj_2600
      refine lpK_x ?_
      refine blockK_x ?_
      obtain rfl := Option.some.inj h
      exact joinK_n at_2585 rfl ((weak_sel (l' := [(1, i64 at_2585), (4, .ref 0 0)]) (σ' := [.box [i64 0, i64 0, .sl true (L cU8 ([])), .sl true (L cApi_Value ([]))] false]) [0] (by decide) rfl (by simp only [go_sem]) (by simp only [go_sem])).trans (weak_sel [0] (by decide) rfl (by simp only [go_sem]) (by simp only [go_sem])))
  rintro at_2571 rfl
  have h := hj_2574; clear hj_2574
  refine run_textE hE [4, 5, 6] (fr' := [(4, .ref 0 0), (5, i64 at_2571), (6, i64 5)]) (σ' := [.box [i64 0, i64 0, .sl true (L cU8 ([])), .sl true (L cApi_Value ([]))] false]) ⟨_, orcs_nil, ?_⟩ ?_
  · simp only [go_sem, Nat.reduceGT, Nat.reduceLeDiff]
  refine run_ret ?_
  obtain rfl := Option.some.inj h
  refine wkP_of (Weak.refl _ _) ?_
  refine ret_ok (.inr rfl) ?_
  simp only [go_sem]

theorem r01_read_F_con {rec_ : (List UInt8) → Int → Option (Api_Value × Int × Int)} (hrec : ∀ {b_2613 : List UInt8} {at_2614 : Int} {r : Api_Value × Int × Int}, rec_ b_2613 at_2614 = some r → Con B 65 [.sl false (L cU8 b_2613), i64 at_2614] [] (fun r' σ' => r' = .tup [.agg [i64 r.1.Kind, i64 r.1.N, .sl false (L cU8 r.1.B), .sl false (L cApi_Value r.1.L)], i64 r.2.1, i64 r.2.2] ∧ σ' = [])) {b_2613 : List UInt8} {at_2614 : Int} {r : Api_Value × Int × Int} (h : r01_read_F rec_ b_2613 at_2614 = some r) : Con B 65 [.sl false (L cU8 b_2613), i64 at_2614] [] (fun r' σ' => r' = .tup [.agg [i64 r.1.Kind, i64 r.1.N, .sl false (L cU8 r.1.B), .sl false (L cApi_Value r.1.L)], i64 r.2.1, i64 r.2.2] ∧ σ' = []) := by
  refine con_walk (N := 53) (rs := [.cell 4 63, .tmp 5, .tmp 6]) ok Try.func65 rfl (by decide +kernel) rfl rfl (Nat.le_of_ble_eq_true rfl) (fun F => ?_)
  have hE := ok.env F
  unfold r01_read_F at h
  show Run (B.env F) 0 _ ⟨asFr 53 [(0, .sl false (L cU8 b_2613)), (1, i64 at_2614)], []⟩ _
  refine run_wkP ?_
  refine run_textE hE [0, 1, 4] (fr' := [(0, .sl false (L cU8 b_2613)), (1, i64 at_2614), (4, .ref 0 0)]) (σ' := [.box [i64 0, i64 0, .sl true (L cU8 ([])), .sl true (L cApi_Value ([]))] false]) ⟨_, orcs_nil, ?_⟩ ?_
  · simp only [go_sem]
  refine run_seq ?_
  refine run_textE hE [0, 1, 4, 11] (fr' := [(0, .sl false (L cU8 b_2613)), (1, i64 at_2614), (4, .ref 0 0), (11, .bool ((decide (at_2614 ≥ (b_2613.length : Int)))))]) (σ' := [.box [i64 0, i64 0, .sl true (L cU8 ([])), .sl true (L cApi_Value ([]))] false]) ⟨_, orcs_nil, ?_⟩ ?_
  · simp only [go_sem]
  refine run_condL (b := (decide (at_2614 ≥ (b_2613.length : Int)))) rfl (by decide) (fun hb => ?_) (fun hb => ?_)
  · replace h := ite_t h hb
    refine run_textE hE [4, 5, 6] (fr' := [(4, .ref 0 0), (5, i64 at_2614), (6, i64 5)]) (σ' := [.box [i64 0, i64 0, .sl true (L cU8 ([])), .sl true (L cApi_Value ([]))] false]) ⟨_, orcs_nil, ?_⟩ ?_
    · simp only [go_sem, Nat.reduceGT, Nat.reduceLeDiff]
    refine run_ret ?_
    refine thenK_r ?_
    obtain rfl := Option.some.inj h
    refine wkP_of (Weak.refl _ _) ?_
    refine ret_ok (.inr rfl) ?_
    simp only [go_sem]
  · replace h := ite_f h hb
    refine run_skip ?_
    refine thenK_n ?_
    replace h := chk_some h; obtain ⟨hc_2615, h⟩ := h
    refine run_textE hE [0, 1, 4, 7] (fr' := [(0, .sl false (L cU8 b_2613)), (1, i64 at_2614), (4, .ref 0 0), (7, i64 (((nth b_2613 at_2614.toNat).toNat : Int)))]) (σ' := [.box [i64 0, i64 0, .sl true (L cU8 ([])), .sl true (L cApi_Value ([]))] false]) ⟨_, orcs_nil, ?_⟩ ?_
    · simp only [go_sem, Int.reduceToNat, hc_2615, hc_2615.2, lt_le hc_2615.2]
    refine run_seq ?_
    replace h := bind_some1 h; obtain ⟨t_2616, hv_2617, h⟩ := h
    refine run_textW hE [0, 1, 4, 7, 24] (fr' := [(0, .sl false (L cU8 b_2613)), (1, i64 at_2614), (4, .ref 0 0), (7, i64 (((nth b_2613 at_2614.toNat).toNat : Int))), (24, .bool t_2616)]) (σ' := [.box [i64 0, i64 0, .sl true (L cU8 ([])), .sl true (L cApi_Value ([]))] false]) ?_ ?_
    · rcases Bool.eq_false_or_eq_true ((decide (((nth b_2613 at_2614.toNat).toNat : Int) ≥ 23))) with hb_2618 | hb_2618
      · replace hv_2617 := ite_t hv_2617 hb_2618
        have e_hv_2617 := Option.some.inj hv_2617; subst e_hv_2617
        exact ⟨_, [(0, .sl false (L cU8 b_2613)), (1, i64 at_2614), (4, .ref 0 0), (7, i64 (((nth b_2613 at_2614.toNat).toNat : Int))), (24, .bool ((decide (((nth b_2613 at_2614.toNat).toNat : Int) ≤ 40))))], [.box [i64 0, i64 0, .sl true (L cU8 ([])), .sl true (L cApi_Value ([]))] false], orcs_nil, by simp only [go_sem, hb_2618], (weak_sel [0] (by decide) rfl (by simp only [go_sem]) (by simp only [go_sem]))⟩
      · replace hv_2617 := ite_f hv_2617 hb_2618
        have e_hv_2617 := Option.some.inj hv_2617; subst e_hv_2617
        exact ⟨_, [(0, .sl false (L cU8 b_2613)), (1, i64 at_2614), (4, .ref 0 0), (7, i64 (((nth b_2613 at_2614.toNat).toNat : Int))), (24, .bool false)], [.box [i64 0, i64 0, .sl true (L cU8 ([])), .sl true (L cApi_Value ([]))] false], orcs_nil, by simp only [go_sem, hb_2618], (weak_sel [0] (by decide) rfl (by simp only [go_sem]) (by simp only [go_sem]))⟩
    refine run_condL (b := t_2616) rfl (by decide) (fun hb => ?_) (fun hb => ?_)
    · replace h := ite_t h hb
      replace h := bind_some1 h; obtain ⟨y_2619, hy_2620, h⟩ := h
      refine run_textE hE [4, 5, 6] (fr' := [(4, .ref 0 0), (5, i64 y_2619.2.1), (6, i64 y_2619.2.2)]) (σ' := [.box [i64 y_2619.1.Kind, i64 y_2619.1.N, .sl false (L cU8 y_2619.1.B), .sl false (L cApi_Value y_2619.1.L)] false]) ⟨_, orcs_ok (l := [(29, 70, [.sl false (L cU8 b_2613), i64 ((w64 (at_2614 + 1))), i64 (((nth b_2613 at_2614.toNat).toNat : Int))], .tup [.agg [i64 y_2619.1.Kind, i64 y_2619.1.N, .sl false (L cU8 y_2619.1.B), .sl false (L cApi_Value y_2619.1.L)], i64 y_2619.2.1, i64 y_2619.2.2])]) ⟨r01_readInt_con  hy_2620, trivial⟩, ?_⟩ ?_
      · simp only [go_sem, Nat.reduceLeDiff]
      refine run_ret ?_
      refine thenK_r ?_
      obtain rfl := Option.some.inj h
      refine wkP_of (Weak.refl _ _) ?_
      refine ret_ok (.inr rfl) ?_
      simp only [go_sem]
    · replace h := ite_f h hb
      refine run_skip ?_
      refine thenK_n ?_
      refine run_seq ?_
      refine run_textE hE [0, 1, 4, 7, 34] (fr' := [(0, .sl false (L cU8 b_2613)), (1, i64 at_2614), (4, .ref 0 0), (7, i64 (((nth b_2613 at_2614.toNat).toNat : Int))), (34, .bool ((((nth b_2613 at_2614.toNat).toNat : Int) == 48)))]) (σ' := [.box [i64 0, i64 0, .sl true (L cU8 ([])), .sl true (L cApi_Value ([]))] false]) ⟨_, orcs_nil, ?_⟩ ?_
      · simp only [go_sem]
      refine run_condL (b := (((nth b_2613 at_2614.toNat).toNat : Int) == 48)) rfl (by decide) (fun hb => ?_) (fun hb => ?_)
      · replace h := ite_t h hb
        replace h := bind_some1 h; obtain ⟨y_2621, hy_2622, h⟩ := h
        refine run_textE hE [4, 5, 6] (fr' := [(4, .ref 0 0), (5, i64 y_2621.2.1), (6, i64 y_2621.2.2)]) (σ' := [.box [i64 y_2621.1.Kind, i64 y_2621.1.N, .sl false (L cU8 y_2621.1.B), .sl false (L cApi_Value y_2621.1.L)] false]) ⟨_, orcs_ok (l := [(38, 71, [.sl false (L cU8 b_2613), i64 ((w64 (at_2614 + 1)))], .tup [.agg [i64 y_2621.1.Kind, i64 y_2621.1.N, .sl false (L cU8 y_2621.1.B), .sl false (L cApi_Value y_2621.1.L)], i64 y_2621.2.1, i64 y_2621.2.2])]) ⟨r01_readBytes_con  hy_2622, trivial⟩, ?_⟩ ?_
        · simp only [go_sem, Nat.reduceLeDiff]
        refine run_ret ?_
        refine thenK_r ?_
        obtain rfl := Option.some.inj h
        refine wkP_of (Weak.refl _ _) ?_
        refine ret_ok (.inr rfl) ?_
        simp only [go_sem]
      · replace h := ite_f h hb
        refine run_skip ?_
        refine thenK_n ?_
        refine run_seq ?_
        refine run_textE hE [0, 1, 4, 43] (fr' := [(0, .sl false (L cU8 b_2613)), (1, i64 at_2614), (4, .ref 0 0), (43, .bool ((((nth b_2613 at_2614.toNat).toNat : Int) == 64)))]) (σ' := [.box [i64 0, i64 0, .sl true (L cU8 ([])), .sl true (L cApi_Value ([]))] false]) ⟨_, orcs_nil, ?_⟩ ?_
        · simp only [go_sem]
        refine run_condL (b := (((nth b_2613 at_2614.toNat).toNat : Int) == 64)) rfl (by decide) (fun hb => ?_) (fun hb => ?_)
        · replace h := ite_t h hb
          replace h := bind_some1 h; obtain ⟨y_2623, hy_2624, h⟩ := h
          refine run_textE hE [4, 5, 6] (fr' := [(4, .ref 0 0), (5, i64 y_2623.2.1), (6, i64 y_2623.2.2)]) (σ' := [.box [i64 y_2623.1.Kind, i64 y_2623.1.N, .sl false (L cU8 y_2623.1.B), .sl false (L cApi_Value y_2623.1.L)] false]) ⟨_, orcs_ok (l := [(47, 72, [.sl false (L cU8 b_2613), i64 ((w64 (at_2614 + 1)))], .tup [.agg [i64 y_2623.1.Kind, i64 y_2623.1.N, .sl false (L cU8 y_2623.1.B), .sl false (L cApi_Value y_2623.1.L)], i64 y_2623.2.1, i64 y_2623.2.2])]) ⟨r01_readList_con (fun h => hrec h) hy_2624, trivial⟩, ?_⟩ ?_
          · simp only [go_sem, Nat.reduceLeDiff]
          refine run_ret ?_
          refine thenK_r ?_
          obtain rfl := Option.some.inj h
          refine wkP_of (Weak.refl _ _) ?_
          refine ret_ok (.inr rfl) ?_
          simp only [go_sem]
        · replace h := ite_f h hb
          refine run_skip ?_
          refine thenK_n ?_
          refine run_textE hE [4, 5, 6] (fr' := [(4, .ref 0 0), (5, i64 at_2614), (6, i64 4)]) (σ' := [.box [i64 0, i64 0, .sl true (L cU8 ([])), .sl true (L cApi_Value ([]))] false]) ⟨_, orcs_nil, ?_⟩ ?_
          · simp only [go_sem, Nat.reduceGT, Nat.reduceLeDiff]
          refine run_ret ?_
          obtain rfl := Option.some.inj h
          refine wkP_of (Weak.refl _ _) ?_
          refine ret_ok (.inr rfl) ?_
          simp only [go_sem]
theorem r01_read_n_con (n : Nat) : ∀ {b_2613 : List UInt8} {at_2614 : Int} {r : Api_Value × Int × Int}, r01_read_n n b_2613 at_2614 = some r → Con B 65 [.sl false (L cU8 b_2613), i64 at_2614] [] (fun r' σ' => r' = .tup [.agg [i64 r.1.Kind, i64 r.1.N, .sl false (L cU8 r.1.B), .sl false (L cApi_Value r.1.L)], i64 r.2.1, i64 r.2.2] ∧ σ' = []) := by
  induction n with
  | zero => intro b_2613 at_2614 r h; cases h
  | succ n ih => intro b_2613 at_2614 r h; exact r01_read_F_con ih h
theorem r01_read_con {b_2613 : List UInt8} {at_2614 : Int} {r : Api_Value × Int × Int} (h : r01_read b_2613 at_2614 = some r) : Con B 65 [.sl false (L cU8 b_2613), i64 at_2614] [] (fun r' σ' => r' = .tup [.agg [i64 r.1.Kind, i64 r.1.N, .sl false (L cU8 r.1.B), .sl false (L cApi_Value r.1.L)], i64 r.2.1, i64 r.2.2] ∧ σ' = []) := r01_read_n_con _ h

end Go.Proofs.Ytomjphpnpcgacaa
/-
  The functions compute just that.
-/
namespace Go.Proofs.Ytomjphpnpcgacaa
open Go.Rv
set_option linter.unusedVariables false
set_option linter.unusedSimpArgs false
set_option maxRecDepth 20000
set_option maxHeartbeats 4000000

theorem r01_Nesting_F_con {rec_ : Api_Value → Option (Int)} (hrec : ∀ {v_2625 : Api_Value} {r : Int}, rec_ v_2625 = some r → Con B 66 [.agg [i64 v_2625.Kind, i64 v_2625.N, .sl false (L cU8 v_2625.B), .sl false (L cApi_Value v_2625.L)]] [] (fun r' σ' => r' = i64 r ∧ σ' = [])) {v_2625 : Api_Value} {r : Int} (h : r01_Nesting_F rec_ v_2625 = some r) : Con B 66 [.agg [i64 v_2625.Kind, i64 v_2625.N, .sl false (L cU8 v_2625.B), .sl false (L cApi_Value v_2625.L)]] [] (fun r' σ' => r' = i64 r ∧ σ' = []) := by
  refine con_walk (N := 26) (rs := [.tmp 2]) ok Try.func66 rfl (by decide +kernel) rfl rfl (Nat.le_of_ble_eq_true rfl) (fun F => ?_)
  have hE := ok.env F
  unfold r01_Nesting_F at h
  show Run (B.env F) 0 _ ⟨asFr 26 [(0, .agg [i64 v_2625.Kind, i64 v_2625.N, .sl false (L cU8 v_2625.B), .sl false (L cApi_Value v_2625.L)])], []⟩ _
  refine run_wkP ?_
  refine run_textE hE [1] (fr' := [(1, .ref 0 0)]) (σ' := [.box [i64 v_2625.Kind, i64 v_2625.N, .sl false (L cU8 v_2625.B), .sl false (L cApi_Value v_2625.L)] false]) ⟨_, orcs_nil, ?_⟩ ?_
  · simp only [go_sem]
  refine run_textE hE [1, 3] (fr' := [(1, .ref 0 0), (3, i64 0)]) (σ' := [.box [i64 v_2625.Kind, i64 v_2625.N, .sl false (L cU8 v_2625.B), .sl false (L cApi_Value v_2625.L)] false]) ⟨_, orcs_nil, ?_⟩ ?_
  · simp only [go_sem]
  replace h := bind_some1 h; obtain ⟨j_2644, hA_2645, hj_2646⟩ := h
  refine run_join (fun (v : Int) => (⟨asFr 26 [(1, .ref 0 0), (3, i64 v)], [.box [i64 v_2625.Kind, i64 v_2625.N, .sl false (L cU8 v_2625.B), .sl false (L cApi_Value v_2625.L)] false]⟩ : St)) (fun v => v = j_2644) ?_ ?_
  · have h := hA_2645; clear hA_2645
    refine run_textE hE [1, 3, 4] (fr' := [(1, .ref 0 0), (3, i64 0), (4, i64 0)]) (σ' := [.box [i64 v_2625.Kind, i64 v_2625.N, .sl false (L cU8 v_2625.B), .sl false (L cApi_Value v_2625.L)] false]) ⟨_, orcs_nil, ?_⟩ ?_
    · simp only [go_sem]
    refine run_block ?_
    replace h := bind_some1 h; obtain ⟨x_2656, hx_2657, hj_2658⟩ := h
    refine run_loopO hx_2657 (fun (v : Int × Int) => (⟨asFr 26 [(1, .ref 0 0), (3, i64 v.1), (4, i64 v.2)], [.box [i64 v_2625.Kind, i64 v_2625.N, .sl false (L cU8 v_2625.B), .sl false (L cApi_Value v_2625.L)] false]⟩ : St)) (weak_sel [0] (by decide) rfl (by simp only [go_sem]) (by simp only [go_sem])) ?_
    rintro ⟨n_2650, i_2651⟩ o_2659 h hxx_2660
    replace h : r01_Nesting_b1 v_2625 rec_ n_2650 i_2651 = some o_2659 := h
    unfold r01_Nesting_b1 at h
    refine run_seq ?_
    refine run_textE hE [1, 3, 4, 9] (fr' := [(1, .ref 0 0), (3, i64 n_2650), (4, i64 i_2651), (9, .bool ((decide (i_2651 < (v_2625.L.length : Int)))))]) (σ' := [.box [i64 v_2625.Kind, i64 v_2625.N, .sl false (L cU8 v_2625.B), .sl false (L cApi_Value v_2625.L)] false]) ⟨_, orcs_nil, ?_⟩ ?_
    · simp only [go_sem]
    refine run_condL (b := (decide (i_2651 < (v_2625.L.length : Int)))) rfl (by decide) (fun hb => ?_) (fun hb => ?_)
    · replace h := ite_t h hb
      refine run_skip ?_
      refine thenK_n ?_
      refine run_seq ?_
      refine run_block ?_
      replace h := chk_some h; obtain ⟨hc_2662, h⟩ := h
      replace h := bind_some1 h; obtain ⟨y_2661, hy_2663, h⟩ := h
      refine run_textE0 hE (wk_block wk_then) [1, 3, 4] (fr' := [(1, .ref 0 0), (3, i64 ((mx64 n_2650 y_2661))), (4, i64 i_2651)]) (σ' := [.box [i64 v_2625.Kind, i64 v_2625.N, .sl false (L cU8 v_2625.B), .sl false (L cApi_Value v_2625.L)] false]) ⟨_, orcs_ok (l := [(18, 66, [.agg [i64 ((nth v_2625.L i_2651.toNat).Kind), i64 ((nth v_2625.L i_2651.toNat).N), .sl false (L cU8 ((nth v_2625.L i_2651.toNat).B)), .sl false (L cApi_Value ((nth v_2625.L i_2651.toNat).L))]], i64 y_2661)]) ⟨hrec  hy_2663, trivial⟩, ?_⟩ ?_
      · simp only [go_sem, Int.reduceToNat, hc_2662, hc_2662.2, lt_le hc_2662.2]
      refine blockK_n ?_
      refine thenK_n ?_
      refine run_textE0 hE wk_lp [1, 3, 4] (fr' := [(1, .ref 0 0), (3, i64 ((mx64 n_2650 y_2661))), (4, i64 ((w64 (i_2651 + 1))))]) (σ' := [.box [i64 v_2625.Kind, i64 v_2625.N, .sl false (L cU8 v_2625.B), .sl false (L cApi_Value v_2625.L)] false]) ⟨_, orcs_nil, ?_⟩ ?_
      · simp only [go_sem]
      obtain rfl := Option.some.inj h
      exact lpK_n (((mx64 n_2650 y_2661), (w64 (i_2651 + 1)))) rfl (weak_sel [0] (by decide) rfl (by simp only [go_sem]) (by simp only [go_sem]))
    · replace h := ite_f h hb
      refine run_exit ?_
      refine thenK_x ?_
      obtain rfl := Option.some.inj h
      have ex_x_2656 := hxx_2660 _ rfl
      subst ex_x_2656
      have h := hj_2658; clear hj_2658
      refine lpK_x ?_
      refine blockK_x ?_
      obtain rfl := Option.some.inj h
      exact joinK_n n_2650 rfl ((weak_sel (l' := [(1, .ref 0 0), (3, i64 n_2650)]) (σ' := [.box [i64 v_2625.Kind, i64 v_2625.N, .sl false (L cU8 v_2625.B), .sl false (L cApi_Value v_2625.L)] false]) [0] (by decide) rfl (by simp only [go_sem]) (by simp only [go_sem])).trans (weak_sel [0] (by decide) rfl (by simp only [go_sem]) (by simp only [go_sem])))
  rintro n_2643 rfl
  have h := hj_2646; clear hj_2646
  refine run_seq ?_
  refine run_textE hE [3, 22] (fr' := [(3, i64 n_2643), (22, .bool ((v_2625.Kind == 3)))]) (σ' := [.box [i64 v_2625.Kind, i64 v_2625.N, .sl false (L cU8 v_2625.B), .sl false (L cApi_Value v_2625.L)] false]) ⟨_, orcs_nil, ?_⟩ ?_
  · simp only [go_sem]
  refine run_condL (b := (v_2625.Kind == 3)) rfl (by decide) (fun hb => ?_) (fun hb => ?_)
  · replace h := ite_t h hb
    refine run_textE hE [2] (fr' := [(2, i64 ((w64 (n_2643 + 1))))]) (σ' := [.box [i64 v_2625.Kind, i64 v_2625.N, .sl false (L cU8 v_2625.B), .sl false (L cApi_Value v_2625.L)] false]) ⟨_, orcs_nil, ?_⟩ ?_
    · simp only [go_sem]
    refine run_ret ?_
    refine thenK_r ?_
    obtain rfl := Option.some.inj h
    refine wkP_of (Weak.refl _ _) ?_
    refine ret_ok (.inr rfl) ?_
    simp only [go_sem]
  · replace h := ite_f h hb
    refine run_skip ?_
    refine thenK_n ?_
    refine run_textE hE [2] (fr' := [(2, i64 n_2643)]) (σ' := [.box [i64 v_2625.Kind, i64 v_2625.N, .sl false (L cU8 v_2625.B), .sl false (L cApi_Value v_2625.L)] false]) ⟨_, orcs_nil, ?_⟩ ?_
    · simp only [go_sem]
    refine run_ret ?_
    obtain rfl := Option.some.inj h
    refine wkP_of (Weak.refl _ _) ?_
    refine ret_ok (.inr rfl) ?_
    simp only [go_sem]
theorem r01_Nesting_n_con (n : Nat) : ∀ {v_2625 : Api_Value} {r : Int}, r01_Nesting_n n v_2625 = some r → Con B 66 [.agg [i64 v_2625.Kind, i64 v_2625.N, .sl false (L cU8 v_2625.B), .sl false (L cApi_Value v_2625.L)]] [] (fun r' σ' => r' = i64 r ∧ σ' = []) := by
  induction n with
  | zero => intro v_2625 r h; cases h
  | succ n ih => intro v_2625 r h; exact r01_Nesting_F_con ih h
theorem r01_Nesting_con {v_2625 : Api_Value} {r : Int} (h : r01_Nesting v_2625 = some r) : Con B 66 [.agg [i64 v_2625.Kind, i64 v_2625.N, .sl false (L cU8 v_2625.B), .sl false (L cApi_Value v_2625.L)]] [] (fun r' σ' => r' = i64 r ∧ σ' = []) := r01_Nesting_n_con _ h

theorem r01_Order_con {a_2664 : Int} {b_2665 : Int} {r : Int} (h : r01_Order a_2664 b_2665 = some r) : Con B 63 [i64 a_2664, i64 b_2665] [] (fun r' σ' => r' = i64 r ∧ σ' = []) := by
  refine con_walk (N := 11) (rs := [.tmp 4]) ok Try.func63 rfl (by decide +kernel) rfl rfl (Nat.le_of_ble_eq_true rfl) (fun F => ?_)
  have hE := ok.env F
  unfold r01_Order at h
  show Run (B.env F) 0 _ ⟨asFr 11 [(0, i64 a_2664), (1, i64 b_2665)], []⟩ _
  refine run_wkP ?_
  refine run_textE hE [0, 1] (fr' := [(0, i64 a_2664), (1, i64 b_2665)]) (σ' := []) ⟨_, orcs_nil, ?_⟩ ?_
  · simp only [go_sem]
  refine run_seq ?_
  refine run_textE hE [0, 1, 7] (fr' := [(0, i64 a_2664), (1, i64 b_2665), (7, .bool ((decide (a_2664 < b_2665))))]) (σ' := []) ⟨_, orcs_nil, ?_⟩ ?_
  · simp only [go_sem]
  refine run_condL (b := (decide (a_2664 < b_2665))) rfl (by decide) (fun hb => ?_) (fun hb => ?_)
  · replace h := ite_t h hb
    refine run_textE hE [4] (fr' := [(4, i64 ((-1)))]) (σ' := []) ⟨_, orcs_nil, ?_⟩ ?_
    · simp only [go_sem]
    refine run_ret ?_
    refine thenK_r ?_
    obtain rfl := Option.some.inj h
    refine wkP_of (Weak.refl _ _) ?_
    refine ret_ok (.inr rfl) ?_
    simp only [go_sem]
  · replace h := ite_f h hb
    refine run_skip ?_
    refine thenK_n ?_
    refine run_seq ?_
    refine run_textE hE [10] (fr' := [(10, .bool ((decide (a_2664 > b_2665))))]) (σ' := []) ⟨_, orcs_nil, ?_⟩ ?_
    · simp only [go_sem]
    refine run_condL (b := (decide (a_2664 > b_2665))) rfl (by decide) (fun hb => ?_) (fun hb => ?_)
    · replace h := ite_t h hb
      refine run_textE hE [4] (fr' := [(4, i64 1)]) (σ' := []) ⟨_, orcs_nil, ?_⟩ ?_
      · simp only [go_sem]
      refine run_ret ?_
      refine thenK_r ?_
      obtain rfl := Option.some.inj h
      refine wkP_of (Weak.refl _ _) ?_
      refine ret_ok (.inr rfl) ?_
      simp only [go_sem]
    · replace h := ite_f h hb
      refine run_skip ?_
      refine thenK_n ?_
      refine run_textE hE [4] (fr' := [(4, i64 0)]) (σ' := []) ⟨_, orcs_nil, ?_⟩ ?_
      · simp only [go_sem]
      refine run_ret ?_
      obtain rfl := Option.some.inj h
      refine wkP_of (Weak.refl _ _) ?_
      refine ret_ok (.inr rfl) ?_
      simp only [go_sem]

theorem r01_OrderBytes_con {a_2666 : List UInt8} {b_2667 : List UInt8} {r : Int} (h : r01_OrderBytes a_2666 b_2667 = some r) : Con B 52 [.sl false (L cU8 a_2666), .sl false (L cU8 b_2667)] [] (fun r' σ' => r' = i64 r ∧ σ' = []) := by
  refine con_walk (N := 43) (rs := [.tmp 4]) ok Try.func52 rfl (by decide +kernel) rfl rfl (Nat.le_of_ble_eq_true rfl) (fun F => ?_)
  have hE := ok.env F
  unfold r01_OrderBytes at h
  show Run (B.env F) 0 _ ⟨asFr 43 [(0, .sl false (L cU8 a_2666)), (1, .sl false (L cU8 b_2667))], []⟩ _
  refine run_wkP ?_
  refine run_textE hE [0, 1] (fr' := [(0, .sl false (L cU8 a_2666)), (1, .sl false (L cU8 b_2667))]) (σ' := []) ⟨_, orcs_nil, ?_⟩ ?_
  · simp only [go_sem]
  replace h := bind_some1 h; obtain ⟨j_2707, hA_2708, hj_2709⟩ := h
  refine run_join (fun (v : Unit) => (⟨asFr 43 [(0, .sl false (L cU8 a_2666)), (1, .sl false (L cU8 b_2667))], []⟩ : St)) (fun v => .inl v = j_2707) ?_ ?_
  · have h := hA_2708; clear hA_2708
    refine run_textE hE [0, 1, 5] (fr' := [(0, .sl false (L cU8 a_2666)), (1, .sl false (L cU8 b_2667)), (5, i64 0)]) (σ' := []) ⟨_, orcs_nil, ?_⟩ ?_
    · simp only [go_sem]
    refine run_block ?_
    replace h := bind_some1 h; obtain ⟨x_2733, hx_2734, hj_2735⟩ := h
    refine run_loopO hx_2734 (fun (v : Int) => (⟨asFr 43 [(0, .sl false (L cU8 a_2666)), (1, .sl false (L cU8 b_2667)), (5, i64 v)], []⟩ : St)) (weak_sel [] (by decide) rfl (by simp only [go_sem]) (by simp only [go_sem])) ?_
    rintro i_2721 o_2736 h hxx_2737
    replace h : r01_OrderBytes_b1 a_2666 b_2667 i_2721 = some o_2736 := h
    unfold r01_OrderBytes_b1 at h
    refine run_seq ?_
    replace h := bind_some1 h; obtain ⟨t_2738, hv_2739, h⟩ := h
    refine run_textW hE [0, 1, 5, 15] (fr' := [(0, .sl false (L cU8 a_2666)), (1, .sl false (L cU8 b_2667)), (5, i64 i_2721), (15, .bool t_2738)]) (σ' := []) ?_ ?_
    · rcases Bool.eq_false_or_eq_true ((decide (i_2721 < (a_2666.length : Int)))) with hb_2740 | hb_2740
      · replace hv_2739 := ite_t hv_2739 hb_2740
        have e_hv_2739 := Option.some.inj hv_2739; subst e_hv_2739
        exact ⟨_, [(0, .sl false (L cU8 a_2666)), (1, .sl false (L cU8 b_2667)), (5, i64 i_2721), (15, .bool ((decide (i_2721 < (b_2667.length : Int)))))], [], orcs_nil, by simp only [go_sem, hb_2740], (weak_sel [] (by decide) rfl (by simp only [go_sem]) (by simp only [go_sem]))⟩
      · replace hv_2739 := ite_f hv_2739 hb_2740
        have e_hv_2739 := Option.some.inj hv_2739; subst e_hv_2739
        exact ⟨_, [(0, .sl false (L cU8 a_2666)), (1, .sl false (L cU8 b_2667)), (5, i64 i_2721), (15, .bool false)], [], orcs_nil, by simp only [go_sem, hb_2740], (weak_sel [] (by decide) rfl (by simp only [go_sem]) (by simp only [go_sem]))⟩
    refine run_condL (b := t_2738) rfl (by decide) (fun hb => ?_) (fun hb => ?_)
    · replace h := ite_t h hb
      refine run_skip ?_
      refine thenK_n ?_
      refine run_seq ?_
      refine run_block ?_
      replace h := chk_some h; obtain ⟨hc_2741, h⟩ := h
      replace h := chk_some h; obtain ⟨hc_2742, h⟩ := h
      refine run_drawE hE mixed [[], [], [0, 1], [0, 1, 2], [], [], [4, 5], [4, 5, 6], [0, 1, 2, 3, 4, 5, 6, 7]] (by kernel_rfl) (by kernel_rfl) [0, 1, 5, 26] (fr' := [(0, .sl false (L cU8 a_2666)), (1, .sl false (L cU8 b_2667)), (5, i64 i_2721), (26, .bool ((nth a_2666 i_2721.toNat != nth b_2667 i_2721.toNat)))]) (σ' := []) ⟨_, orcs_nil, ?_⟩ ?_
      · simp only [go_sem, Int.reduceToNat, hc_2741, hc_2741.2, lt_le hc_2741.2, hc_2742, hc_2742.2, lt_le hc_2742.2]
      refine run_condL (b := (nth a_2666 i_2721.toNat != nth b_2667 i_2721.toNat)) rfl (by decide) (fun hb => ?_) (fun hb => ?_)
      · replace h := ite_t h hb
        replace h := chk_some h; obtain ⟨hc_2744, h⟩ := h
        replace h := chk_some h; obtain ⟨hc_2745, h⟩ := h
        replace h := bind_some1 h; obtain ⟨y_2743, hy_2746, h⟩ := h
        refine run_drawE hE mixed [[], [], [0, 1], [0, 1, 2], [0, 1, 2, 3], [], [], [5, 6], [5, 6, 7], [5, 6, 7, 8], [0, 1, 2, 3, 4, 5, 6, 7, 8, 9], [0, 1, 2, 3, 4, 5, 6, 7, 8, 9, 10]] (by kernel_rfl) (by kernel_rfl) [4] (fr' := [(4, i64 y_2743)]) (σ' := []) ⟨_, orcs_ok (l := [(37, 63, [i64 (((nth a_2666 i_2721.toNat).toNat : Int)), i64 (((nth b_2667 i_2721.toNat).toNat : Int))], i64 y_2743)]) ⟨r01_Order_con  hy_2746, trivial⟩, ?_⟩ ?_
        · simp only [go_sem, Int.reduceToNat, hc_2744, hc_2744.2, lt_le hc_2744.2, hc_2745, hc_2745.2, lt_le hc_2745.2]
        refine run_ret ?_
        refine blockK_r ?_
        refine thenK_r ?_
        refine lpK_r ?_
        replace h := bind_some1 h; obtain ⟨z_2748, h, e_z_2748⟩ := h
        obtain rfl := Option.some.inj e_z_2748
        have ex_z_2748 := hxx_2737 _ rfl
        subst ex_z_2748
        obtain rfl := Option.some.inj hj_2735
        refine blockK_r ?_
        refine joinK_r ?_
        replace h := bind_some1 h; obtain ⟨z_2747, h, e_z_2747⟩ := h
        obtain rfl := Option.some.inj e_z_2747
        obtain rfl := Option.some.inj hj_2709
        obtain rfl := Option.some.inj h
        refine wkP_of (Weak.refl _ _) ?_
        refine ret_ok (.inr rfl) ?_
        simp only [go_sem]
      · replace h := ite_f h hb
        refine run_skip ?_
        refine blockK_n ?_
        refine thenK_n ?_
        refine run_textE0 hE wk_lp [0, 1, 5] (fr' := [(0, .sl false (L cU8 a_2666)), (1, .sl false (L cU8 b_2667)), (5, i64 ((w64 (i_2721 + 1))))]) (σ' := []) ⟨_, orcs_nil, ?_⟩ ?_
        · simp only [go_sem]
        obtain rfl := Option.some.inj h
        exact lpK_n ((w64 (i_2721 + 1))) rfl (weak_sel [] (by decide) rfl (by simp only [go_sem]) (by simp only [go_sem]))
    · replace h := ite_f h hb
      refine run_exit ?_
      refine thenK_x ?_
      obtain rfl := Option.some.inj h
      have ex_x_2733 := hxx_2737 _ rfl
      subst ex_x_2733
      have h := hj_2735; clear hj_2735
      refine lpK_x ?_
      refine blockK_x ?_
      obtain rfl := Option.some.inj h
      exact joinK_n (()) rfl ((weak_sel (l' := [(0, .sl false (L cU8 a_2666)), (1, .sl false (L cU8 b_2667))]) (σ' := []) [] (by decide) rfl (by simp only [go_sem]) (by simp only [go_sem])).trans (weak_sel [] (by decide) rfl (by simp only [go_sem]) (by simp only [go_sem])))
  rintro ⟨⟩ rfl
  have h := hj_2709; clear hj_2709
  replace h := bind_some1 h; obtain ⟨y_2749, hy_2750, h⟩ := h
  refine run_textE hE [4] (fr' := [(4, i64 y_2749)]) (σ' := []) ⟨_, orcs_ok (l := [(42, 63, [i64 ((a_2666.length : Int)), i64 ((b_2667.length : Int))], i64 y_2749)]) ⟨r01_Order_con  hy_2750, trivial⟩, ?_⟩ ?_
  · simp only [go_sem]
  refine run_ret ?_
  obtain rfl := Option.some.inj h
  refine wkP_of (Weak.refl _ _) ?_
  refine ret_ok (.inr rfl) ?_
  simp only [go_sem]

end Go.Proofs.Ytomjphpnpcgacaa
/-
  The functions compute just that.
-/
namespace Go.Proofs.Ytomjphpnpcgacaa
open Go.Rv
set_option linter.unusedVariables false
set_option linter.unusedSimpArgs false
set_option maxRecDepth 20000
set_option maxHeartbeats 4000000

theorem r01_Decode_con {b_2751 : List UInt8} {r : Api_Value × Int} (h : r01_Decode b_2751 = some r) : Con B 54 [.sl false (L cU8 b_2751)] [] (fun r' σ' => r' = .tup [.agg [i64 r.1.Kind, i64 r.1.N, .sl false (L cU8 r.1.B), .sl false (L cApi_Value r.1.L)], i64 r.2] ∧ σ' = []) := by
  refine con_walk (N := 31) (rs := [.cell 2 63, .tmp 3]) ok Try.func54 rfl (by decide +kernel) rfl rfl (Nat.le_of_ble_eq_true rfl) (fun F => ?_)
  have hE := ok.env F
  unfold r01_Decode at h
  show Run (B.env F) 0 _ ⟨asFr 31 [(0, .sl false (L cU8 b_2751))], []⟩ _
  refine run_wkP ?_
  refine run_textE hE [0, 2] (fr' := [(0, .sl false (L cU8 b_2751)), (2, .ref 0 0)]) (σ' := [.box [i64 0, i64 0, .sl true (L cU8 ([])), .sl true (L cApi_Value ([]))] false]) ⟨_, orcs_nil, ?_⟩ ?_
  · simp only [go_sem]
  refine run_seq ?_
  refine run_textE hE [0, 2, 9] (fr' := [(0, .sl false (L cU8 b_2751)), (2, .ref 0 0), (9, .bool ((decide ((b_2751.length : Int) > 65536))))]) (σ' := [.box [i64 0, i64 0, .sl true (L cU8 ([])), .sl true (L cApi_Value ([]))] false]) ⟨_, orcs_nil, ?_⟩ ?_
  · simp only [go_sem]
  refine run_condL (b := (decide ((b_2751.length : Int) > 65536))) rfl (by decide) (fun hb => ?_) (fun hb => ?_)
  · replace h := ite_t h hb
    refine run_textE hE [2, 3] (fr' := [(2, .ref 0 0), (3, i64 2)]) (σ' := [.box [i64 0, i64 0, .sl true (L cU8 ([])), .sl true (L cApi_Value ([]))] false]) ⟨_, orcs_nil, ?_⟩ ?_
    · simp only [go_sem, Nat.reduceGT, Nat.reduceLeDiff]
    refine run_ret ?_
    refine thenK_r ?_
    obtain rfl := Option.some.inj h
    refine wkP_of (Weak.refl _ _) ?_
    refine ret_ok (.inr rfl) ?_
    simp only [go_sem]
  · replace h := ite_f h hb
    refine run_skip ?_
    refine thenK_n ?_
    replace h := bind_some1 h; obtain ⟨y_2752, hy_2753, h⟩ := h
    refine run_textE hE [0, 2, 4, 5, 6] (fr' := [(0, .sl false (L cU8 b_2751)), (2, .ref 0 0), (4, .ref 1 0), (5, i64 y_2752.2.1), (6, i64 y_2752.2.2)]) (σ' := [.box [i64 0, i64 0, .sl true (L cU8 ([])), .sl true (L cApi_Value ([]))] false, .box [i64 y_2752.1.Kind, i64 y_2752.1.N, .sl false (L cU8 y_2752.1.B), .sl false (L cApi_Value y_2752.1.L)] false]) ⟨_, orcs_ok (l := [(13, 65, [.sl false (L cU8 b_2751), i64 0], .tup [.agg [i64 y_2752.1.Kind, i64 y_2752.1.N, .sl false (L cU8 y_2752.1.B), .sl false (L cApi_Value y_2752.1.L)], i64 y_2752.2.1, i64 y_2752.2.2])]) ⟨r01_read_con  hy_2753, trivial⟩, ?_⟩ ?_
    · simp only [go_sem, Nat.reduceLeDiff]
    refine run_seq ?_
    refine run_textE hE [0, 2, 4, 5, 6, 18] (fr' := [(0, .sl false (L cU8 b_2751)), (2, .ref 0 0), (4, .ref 1 0), (5, i64 y_2752.2.1), (6, i64 y_2752.2.2), (18, .bool ((y_2752.2.2 != 0)))]) (σ' := [.box [i64 0, i64 0, .sl true (L cU8 ([])), .sl true (L cApi_Value ([]))] false, .box [i64 y_2752.1.Kind, i64 y_2752.1.N, .sl false (L cU8 y_2752.1.B), .sl false (L cApi_Value y_2752.1.L)] false]) ⟨_, orcs_nil, ?_⟩ ?_
    · simp only [go_sem]
    refine run_condL (b := (y_2752.2.2 != 0)) rfl (by decide) (fun hb => ?_) (fun hb => ?_)
    · replace h := ite_t h hb
      refine run_textE hE [2, 3] (fr' := [(2, .ref 0 0), (3, i64 y_2752.2.2)]) (σ' := [.box [i64 0, i64 0, .sl true (L cU8 ([])), .sl true (L cApi_Value ([]))] false, .box [i64 y_2752.1.Kind, i64 y_2752.1.N, .sl false (L cU8 y_2752.1.B), .sl false (L cApi_Value y_2752.1.L)] false]) ⟨_, orcs_nil, ?_⟩ ?_
      · simp only [go_sem, Nat.reduceGT, Nat.reduceLeDiff]
      refine run_ret ?_
      refine thenK_r ?_
      obtain rfl := Option.some.inj h
      refine wkP_of (Weak.refl _ _) ?_
      refine ret_ok (.inr rfl) ?_
      simp only [go_sem]
    · replace h := ite_f h hb
      refine run_skip ?_
      refine thenK_n ?_
      refine run_seq ?_
      refine run_textE hE [2, 4, 24] (fr' := [(2, .ref 0 0), (4, .ref 1 0), (24, .bool ((decide (y_2752.2.1 < (b_2751.length : Int)))))]) (σ' := [.box [i64 0, i64 0, .sl true (L cU8 ([])), .sl true (L cApi_Value ([]))] false, .box [i64 y_2752.1.Kind, i64 y_2752.1.N, .sl false (L cU8 y_2752.1.B), .sl false (L cApi_Value y_2752.1.L)] false]) ⟨_, orcs_nil, ?_⟩ ?_
      · simp only [go_sem]
      refine run_condL (b := (decide (y_2752.2.1 < (b_2751.length : Int)))) rfl (by decide) (fun hb => ?_) (fun hb => ?_)
      · replace h := ite_t h hb
        refine run_textE hE [2, 3] (fr' := [(2, .ref 0 0), (3, i64 4)]) (σ' := [.box [i64 0, i64 0, .sl true (L cU8 ([])), .sl true (L cApi_Value ([]))] false, .box [i64 y_2752.1.Kind, i64 y_2752.1.N, .sl false (L cU8 y_2752.1.B), .sl false (L cApi_Value y_2752.1.L)] false]) ⟨_, orcs_nil, ?_⟩ ?_
        · simp only [go_sem, Nat.reduceGT, Nat.reduceLeDiff]
        refine run_ret ?_
        refine thenK_r ?_
        obtain rfl := Option.some.inj h
        refine wkP_of (Weak.refl _ _) ?_
        refine ret_ok (.inr rfl) ?_
        simp only [go_sem]
      · replace h := ite_f h hb
        refine run_skip ?_
        refine thenK_n ?_
        refine run_seq ?_
        replace h := bind_some1 h; obtain ⟨y_2754, hy_2755, h⟩ := h
        refine run_textE hE [2, 4, 28] (fr' := [(2, .ref 0 0), (4, .ref 1 0), (28, .bool ((decide (y_2754 > 16))))]) (σ' := [.box [i64 0, i64 0, .sl true (L cU8 ([])), .sl true (L cApi_Value ([]))] false, .box [i64 y_2752.1.Kind, i64 y_2752.1.N, .sl false (L cU8 y_2752.1.B), .sl false (L cApi_Value y_2752.1.L)] false]) ⟨_, orcs_ok (l := [(27, 66, [.agg [i64 y_2752.1.Kind, i64 y_2752.1.N, .sl false (L cU8 y_2752.1.B), .sl false (L cApi_Value y_2752.1.L)]], i64 y_2754)]) ⟨r01_Nesting_con  hy_2755, trivial⟩, ?_⟩ ?_
        · simp only [go_sem]
        refine run_condL (b := (decide (y_2754 > 16))) rfl (by decide) (fun hb => ?_) (fun hb => ?_)
        · replace h := ite_t h hb
          refine run_textE hE [2, 3] (fr' := [(2, .ref 0 0), (3, i64 2)]) (σ' := [.box [i64 0, i64 0, .sl true (L cU8 ([])), .sl true (L cApi_Value ([]))] false, .box [i64 y_2752.1.Kind, i64 y_2752.1.N, .sl false (L cU8 y_2752.1.B), .sl false (L cApi_Value y_2752.1.L)] false]) ⟨_, orcs_nil, ?_⟩ ?_
          · simp only [go_sem, Nat.reduceGT, Nat.reduceLeDiff]
          refine run_ret ?_
          refine thenK_r ?_
          obtain rfl := Option.some.inj h
          refine wkP_of (Weak.refl _ _) ?_
          refine ret_ok (.inr rfl) ?_
          simp only [go_sem]
        · replace h := ite_f h hb
          refine run_skip ?_
          refine thenK_n ?_
          refine run_textE hE [2, 3] (fr' := [(2, .ref 0 0), (3, i64 0)]) (σ' := [.box [i64 y_2752.1.Kind, i64 y_2752.1.N, .sl false (L cU8 y_2752.1.B), .sl false (L cApi_Value y_2752.1.L)] false, .box [i64 y_2752.1.Kind, i64 y_2752.1.N, .sl false (L cU8 y_2752.1.B), .sl false (L cApi_Value y_2752.1.L)] false]) ⟨_, orcs_nil, ?_⟩ ?_
          · simp only [go_sem, Nat.reduceLeDiff]
          refine run_ret ?_
          obtain rfl := Option.some.inj h
          refine wkP_of (Weak.refl _ _) ?_
          refine ret_ok (.inr rfl) ?_
          simp only [go_sem]

theorem r01_SameBytes_con {a_2756 : List UInt8} {b_2757 : List UInt8} {r : Bool} (h : r01_SameBytes a_2756 b_2757 = some r) : Con B 32 [.sl false (L cU8 a_2756), .sl false (L cU8 b_2757)] [] (fun r' σ' => r' = .bool r ∧ σ' = []) := by
  refine con_walk (N := 9) (rs := [.tmp 4]) ok Try.func32 rfl (by decide +kernel) rfl rfl (Nat.le_of_ble_eq_true rfl) (fun F => ?_)
  have hE := ok.env F
  unfold r01_SameBytes at h
  show Run (B.env F) 0 _ ⟨asFr 9 [(0, .sl false (L cU8 a_2756)), (1, .sl false (L cU8 b_2757))], []⟩ _
  refine run_wkP ?_
  refine run_textE hE [0, 1] (fr' := [(0, .sl false (L cU8 a_2756)), (1, .sl false (L cU8 b_2757))]) (σ' := []) ⟨_, orcs_nil, ?_⟩ ?_
  · simp only [go_sem]
  replace h := bind_some1 h; obtain ⟨y_2758, hy_2759, h⟩ := h
  refine run_textE hE [4] (fr' := [(4, .bool ((y_2758 == 0)))]) (σ' := []) ⟨_, orcs_ok (l := [(7, 52, [.sl false (L cU8 a_2756), .sl false (L cU8 b_2757)], i64 y_2758)]) ⟨r01_OrderBytes_con  hy_2759, trivial⟩, ?_⟩ ?_
  · simp only [go_sem]
  refine run_ret ?_
  obtain rfl := Option.some.inj h
  refine wkP_of (Weak.refl _ _) ?_
  refine ret_ok (.inr rfl) ?_
  simp only [go_sem]

end Go.Proofs.Ytomjphpnpcgacaa
