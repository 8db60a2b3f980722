/-
  The library and the walks, part 2.
-/
import Derived.Test.YtomjphpnpcgacaaZC1
import Derived.KernelRfl
import Derived.Test.YtomjphpnpcgacaaR41
import Derived.Lib.Overlaps
import Derived.Lib.Walk
import Derived.Shelf.RegionOpenPlain
import Derived.Shelf.Spec.SlicesInsert
/-
  The functions compute just that.
-/
namespace Go.Proofs.Ytomjphpnpcgacaa
open Go.Rv
set_option linter.unusedVariables false
set_option linter.unusedSimpArgs false
set_option maxRecDepth 20000
set_option maxHeartbeats 4000000

theorem r12_Accept_con {p_938 : Api_Peer} {k_939 : Api_Packet} {r : Api_Peer × List (List UInt8) × Bool} (h : r12_Accept p_938 k_939 = some r) : Con B 21 [.agg [i64 p_938.Epoch, i64 p_938.Other, i64 p_938.First, .sl false (L (cSl cU8) p_938.Queue), i64 p_938.Next, .sl false (L cApi_Packet p_938.Early), i64 p_938.SentAt], .agg [i64 k_939.Epoch, i64 k_939.To, i64 k_939.Seq, i64 k_939.Ack, .sl false (L cU8 k_939.Data)]] [] (fun r' σ' => r' = .tup [.agg [i64 r.1.Epoch, i64 r.1.Other, i64 r.1.First, .sl false (L (cSl cU8) r.1.Queue), i64 r.1.Next, .sl false (L cApi_Packet r.1.Early), i64 r.1.SentAt], .sl false (L (cSl cU8) r.2.1), .bool r.2.2] ∧ σ' = []) := by
  refine con_walk (N := 141) (rs := [.cell 4 25, .tmp 5, .tmp 6]) ok Try.func21 rfl (by decide +kernel) rfl rfl (Nat.le_of_ble_eq_true rfl) (fun F => ?_)
  have hE := ok.env F
  unfold r12_Accept at h
  show Run (B.env F) 0 _ ⟨asFr 141 [(0, .agg [i64 p_938.Epoch, i64 p_938.Other, i64 p_938.First, .sl false (L (cSl cU8) p_938.Queue), i64 p_938.Next, .sl false (L cApi_Packet p_938.Early), i64 p_938.SentAt]), (1, .agg [i64 k_939.Epoch, i64 k_939.To, i64 k_939.Seq, i64 k_939.Ack, .sl false (L cU8 k_939.Data)])], []⟩ _
  refine run_wkP ?_
  refine run_textE hE [2, 3, 4] (fr' := [(2, .ref 0 0), (3, .ref 1 0), (4, .ref 2 0)]) (σ' := [.box [i64 p_938.Epoch, i64 p_938.Other, i64 p_938.First, .sl false (L (cSl cU8) p_938.Queue), i64 p_938.Next, .sl false (L cApi_Packet p_938.Early), i64 p_938.SentAt] false, .box [i64 k_939.Epoch, i64 k_939.To, i64 k_939.Seq, i64 k_939.Ack, .sl false (L cU8 k_939.Data)] false, .box [i64 0, i64 0, i64 0, .sl true (L (cSl cU8) ([])), i64 0, .sl true (L cApi_Packet ([])), i64 0] false]) ⟨_, orcs_nil, ?_⟩ ?_
  · simp only [go_sem]
  refine run_seq ?_
  replace h := bind_some1 h; obtain ⟨t_942, hv_943, h⟩ := h
  refine run_textW hE [2, 3, 4, 23] (fr' := [(2, .ref 0 0), (3, .ref 1 0), (4, .ref 2 0), (23, .bool t_942)]) (σ' := [.box [i64 p_938.Epoch, i64 p_938.Other, i64 p_938.First, .sl false (L (cSl cU8) p_938.Queue), i64 p_938.Next, .sl false (L cApi_Packet p_938.Early), i64 p_938.SentAt] false, .box [i64 k_939.Epoch, i64 k_939.To, i64 k_939.Seq, i64 k_939.Ack, .sl false (L cU8 k_939.Data)] false, .box [i64 0, i64 0, i64 0, .sl true (L (cSl cU8) ([])), i64 0, .sl true (L cApi_Packet ([])), i64 0] false]) ?_ ?_
  · replace hv_943 := bind_some1 hv_943; obtain ⟨y_940, hy_944, hv_943⟩ := hv_943
    rcases Bool.eq_false_or_eq_true ((!y_940)) with hb_945 | hb_945
    · replace hv_943 := ite_t hv_943 hb_945
      have e_hv_943 := Option.some.inj hv_943; subst e_hv_943
      exact ⟨_, [(2, .ref 0 0), (3, .ref 1 0), (4, .ref 2 0), (23, .bool true)], [.box [i64 p_938.Epoch, i64 p_938.Other, i64 p_938.First, .sl false (L (cSl cU8) p_938.Queue), i64 p_938.Next, .sl false (L cApi_Packet p_938.Early), i64 p_938.SentAt] false, .box [i64 k_939.Epoch, i64 k_939.To, i64 k_939.Seq, i64 k_939.Ack, .sl false (L cU8 k_939.Data)] false, .box [i64 0, i64 0, i64 0, .sl true (L (cSl cU8) ([])), i64 0, .sl true (L cApi_Packet ([])), i64 0] false], orcs_ok (l := [(10, 40, [.agg [i64 p_938.Epoch, i64 p_938.Other, i64 p_938.First, .sl false (L (cSl cU8) p_938.Queue), i64 p_938.Next, .sl false (L cApi_Packet p_938.Early), i64 p_938.SentAt]], .bool y_940)]) ⟨r12_Valid_con  hy_944, trivial⟩, by simp only [go_sem, hb_945], (weak_sel [0, 1, 2] (by decide) rfl (by simp only [go_sem]) (by simp only [go_sem]))⟩
    · replace hv_943 := ite_f hv_943 hb_945
      replace hv_943 := bind_some1 hv_943; obtain ⟨y_941, hy_946, hv_943⟩ := hv_943
      rcases Bool.eq_false_or_eq_true ((!y_941)) with hb_947 | hb_947
      · replace hv_943 := ite_t hv_943 hb_947
        have e_hv_943 := Option.some.inj hv_943; subst e_hv_943
        exact ⟨_, [(2, .ref 0 0), (3, .ref 1 0), (4, .ref 2 0), (23, .bool true)], [.box [i64 p_938.Epoch, i64 p_938.Other, i64 p_938.First, .sl false (L (cSl cU8) p_938.Queue), i64 p_938.Next, .sl false (L cApi_Packet p_938.Early), i64 p_938.SentAt] false, .box [i64 k_939.Epoch, i64 k_939.To, i64 k_939.Seq, i64 k_939.Ack, .sl false (L cU8 k_939.Data)] false, .box [i64 0, i64 0, i64 0, .sl true (L (cSl cU8) ([])), i64 0, .sl true (L cApi_Packet ([])), i64 0] false], orcs_ok (l := [(10, 40, [.agg [i64 p_938.Epoch, i64 p_938.Other, i64 p_938.First, .sl false (L (cSl cU8) p_938.Queue), i64 p_938.Next, .sl false (L cApi_Packet p_938.Early), i64 p_938.SentAt]], .bool y_940), (14, 44, [.agg [i64 k_939.Epoch, i64 k_939.To, i64 k_939.Seq, i64 k_939.Ack, .sl false (L cU8 k_939.Data)]], .bool y_941)]) ⟨r12_Valid_con  hy_944, r12_ValidPacket_con  hy_946, trivial⟩, by simp only [go_sem, hb_945, hb_947], (weak_sel [0, 1, 2] (by decide) rfl (by simp only [go_sem]) (by simp only [go_sem]))⟩
      · replace hv_943 := ite_f hv_943 hb_947
        have e_hv_943 := Option.some.inj hv_943; subst e_hv_943
        exact ⟨_, [(2, .ref 0 0), (3, .ref 1 0), (4, .ref 2 0), (23, .bool ((decide (k_939.Epoch < p_938.Other))))], [.box [i64 p_938.Epoch, i64 p_938.Other, i64 p_938.First, .sl false (L (cSl cU8) p_938.Queue), i64 p_938.Next, .sl false (L cApi_Packet p_938.Early), i64 p_938.SentAt] false, .box [i64 k_939.Epoch, i64 k_939.To, i64 k_939.Seq, i64 k_939.Ack, .sl false (L cU8 k_939.Data)] false, .box [i64 0, i64 0, i64 0, .sl true (L (cSl cU8) ([])), i64 0, .sl true (L cApi_Packet ([])), i64 0] false], orcs_ok (l := [(10, 40, [.agg [i64 p_938.Epoch, i64 p_938.Other, i64 p_938.First, .sl false (L (cSl cU8) p_938.Queue), i64 p_938.Next, .sl false (L cApi_Packet p_938.Early), i64 p_938.SentAt]], .bool y_940), (14, 44, [.agg [i64 k_939.Epoch, i64 k_939.To, i64 k_939.Seq, i64 k_939.Ack, .sl false (L cU8 k_939.Data)]], .bool y_941)]) ⟨r12_Valid_con  hy_944, r12_ValidPacket_con  hy_946, trivial⟩, by simp only [go_sem, hb_945, hb_947], (weak_sel [0, 1, 2] (by decide) rfl (by simp only [go_sem]) (by simp only [go_sem]))⟩
  refine run_condL (b := t_942) rfl (by decide) (fun hb => ?_) (fun hb => ?_)
  · replace h := ite_t h hb
    refine run_textE hE [4, 5, 6] (fr' := [(4, .ref 2 0), (5, .sl true (L (cSl cU8) ([]))), (6, .bool false)]) (σ' := [.box [i64 p_938.Epoch, i64 p_938.Other, i64 p_938.First, .sl false (L (cSl cU8) p_938.Queue), i64 p_938.Next, .sl false (L cApi_Packet p_938.Early), i64 p_938.SentAt] false, .box [i64 k_939.Epoch, i64 k_939.To, i64 k_939.Seq, i64 k_939.Ack, .sl false (L cU8 k_939.Data)] false, .box [i64 p_938.Epoch, i64 p_938.Other, i64 p_938.First, .sl false (L (cSl cU8) p_938.Queue), i64 p_938.Next, .sl false (L cApi_Packet p_938.Early), i64 p_938.SentAt] false]) ⟨_, orcs_nil, ?_⟩ ?_
    · simp only [go_sem, Nat.reduceLeDiff]
    refine run_ret ?_
    refine thenK_r ?_
    obtain rfl := Option.some.inj h
    refine wkP_of (Weak.refl _ _) ?_
    refine ret_ok (.inr rfl) ?_
    simp only [go_sem]
  · replace h := ite_f h hb
    refine run_skip ?_
    refine thenK_n ?_
    replace h := lt1_some h; obtain ⟨reset_948, hz_949, h⟩ := h
    refine run_textE hE [2, 3, 4, 7] (fr' := [(2, .ref 0 0), (3, .ref 1 0), (4, .ref 2 0), (7, .bool reset_948)]) (σ' := [.box [i64 p_938.Epoch, i64 p_938.Other, i64 p_938.First, .sl false (L (cSl cU8) p_938.Queue), i64 p_938.Next, .sl false (L cApi_Packet p_938.Early), i64 p_938.SentAt] false, .box [i64 k_939.Epoch, i64 k_939.To, i64 k_939.Seq, i64 k_939.Ack, .sl false (L cU8 k_939.Data)] false, .box [i64 0, i64 0, i64 0, .sl true (L (cSl cU8) ([])), i64 0, .sl true (L cApi_Packet ([])), i64 0] false]) ⟨_, orcs_nil, ?_⟩ ?_
    · subst hz_949; simp only [go_sem]
    replace h := bind_some1 h; obtain ⟨j_956, hA_957, hj_958⟩ := h
    refine run_join (fun (v : Int × Int × List (List UInt8) × Int × List Api_Packet × Int) => (⟨asFr 141 [(2, .ref 0 0), (3, .ref 1 0), (4, .ref 2 0), (7, .bool reset_948)], [.box [i64 p_938.Epoch, i64 v.1, i64 v.2.1, .sl false (L (cSl cU8) v.2.2.1), i64 v.2.2.2.1, .sl false (L cApi_Packet v.2.2.2.2.1), i64 v.2.2.2.2.2] false, .box [i64 k_939.Epoch, i64 k_939.To, i64 k_939.Seq, i64 k_939.Ack, .sl false (L cU8 k_939.Data)] false, .box [i64 0, i64 0, i64 0, .sl true (L (cSl cU8) ([])), i64 0, .sl true (L cApi_Packet ([])), i64 0] false]⟩ : St)) (fun v => v = j_956) ?_ ?_
    · have h := hA_957; clear hA_957
      refine run_textE hE [2, 3, 4, 7, 30] (fr' := [(2, .ref 0 0), (3, .ref 1 0), (4, .ref 2 0), (7, .bool reset_948), (30, .bool reset_948)]) (σ' := [.box [i64 p_938.Epoch, i64 p_938.Other, i64 p_938.First, .sl false (L (cSl cU8) p_938.Queue), i64 p_938.Next, .sl false (L cApi_Packet p_938.Early), i64 p_938.SentAt] false, .box [i64 k_939.Epoch, i64 k_939.To, i64 k_939.Seq, i64 k_939.Ack, .sl false (L cU8 k_939.Data)] false, .box [i64 0, i64 0, i64 0, .sl true (L (cSl cU8) ([])), i64 0, .sl true (L cApi_Packet ([])), i64 0] false]) ⟨_, orcs_nil, ?_⟩ ?_
      · simp only [go_sem]
      refine run_condL (b := reset_948) rfl (by decide) (fun hb => ?_) (fun hb => ?_)
      · replace h := ite_t h hb
        refine run_textE0 hE wk_join [2, 3, 4, 7] (fr' := [(2, .ref 0 0), (3, .ref 1 0), (4, .ref 2 0), (7, .bool reset_948)]) (σ' := [.box [i64 p_938.Epoch, i64 k_939.Epoch, i64 0, .sl true (L (cSl cU8) ([])), i64 0, .sl true (L cApi_Packet ([])), i64 ((-1))] false, .box [i64 k_939.Epoch, i64 k_939.To, i64 k_939.Seq, i64 k_939.Ack, .sl false (L cU8 k_939.Data)] false, .box [i64 0, i64 0, i64 0, .sl true (L (cSl cU8) ([])), i64 0, .sl true (L cApi_Packet ([])), i64 0] false]) ⟨_, orcs_nil, ?_⟩ ?_
        · simp only [go_sem, Nat.reduceGT, Nat.reduceLeDiff]
        obtain rfl := Option.some.inj h
        exact joinK_n ((k_939.Epoch, 0, [], 0, [], (-1))) rfl (weak_sel [0, 1, 2] (by decide) rfl (by simp only [go_sem]) (by simp only [go_sem]))
      · replace h := ite_f h hb
        refine run_skip ?_
        obtain rfl := Option.some.inj h
        exact joinK_n ((p_938.Other, p_938.First, p_938.Queue, p_938.Next, p_938.Early, p_938.SentAt)) rfl (weak_sel [0, 1, 2] (by decide) rfl (by simp only [go_sem]) (by simp only [go_sem]))
    rintro ⟨f_950, f_951, f_952, f_953, f_954, f_955⟩ rfl
    have h := hj_958; clear hj_958
    refine run_seq ?_
    refine run_textE hE [2, 3, 4, 7, 40] (fr' := [(2, .ref 0 0), (3, .ref 1 0), (4, .ref 2 0), (7, .bool reset_948), (40, .bool ((k_939.To != p_938.Epoch)))]) (σ' := [.box [i64 p_938.Epoch, i64 f_950, i64 f_951, .sl false (L (cSl cU8) f_952), i64 f_953, .sl false (L cApi_Packet f_954), i64 f_955] false, .box [i64 k_939.Epoch, i64 k_939.To, i64 k_939.Seq, i64 k_939.Ack, .sl false (L cU8 k_939.Data)] false, .box [i64 0, i64 0, i64 0, .sl true (L (cSl cU8) ([])), i64 0, .sl true (L cApi_Packet ([])), i64 0] false]) ⟨_, orcs_nil, ?_⟩ ?_
    · simp only [go_sem]
    refine run_condL (b := (k_939.To != p_938.Epoch)) rfl (by decide) (fun hb => ?_) (fun hb => ?_)
    · replace h := ite_t h hb
      refine run_textE hE [4, 5, 6] (fr' := [(4, .ref 2 0), (5, .sl true (L (cSl cU8) ([]))), (6, .bool reset_948)]) (σ' := [.box [i64 p_938.Epoch, i64 f_950, i64 f_951, .sl false (L (cSl cU8) f_952), i64 f_953, .sl false (L cApi_Packet f_954), i64 f_955] false, .box [i64 k_939.Epoch, i64 k_939.To, i64 k_939.Seq, i64 k_939.Ack, .sl false (L cU8 k_939.Data)] false, .box [i64 p_938.Epoch, i64 f_950, i64 f_951, .sl false (L (cSl cU8) f_952), i64 f_953, .sl false (L cApi_Packet f_954), i64 f_955] false]) ⟨_, orcs_nil, ?_⟩ ?_
      · simp only [go_sem, Nat.reduceLeDiff]
      refine run_ret ?_
      refine thenK_r ?_
      obtain rfl := Option.some.inj h
      refine wkP_of (Weak.refl _ _) ?_
      refine ret_ok (.inr rfl) ?_
      simp only [go_sem]
    · replace h := ite_f h hb
      refine run_skip ?_
      refine thenK_n ?_
      replace h := bind_some1 h; obtain ⟨j_968, hA_969, hj_970⟩ := h
      refine run_join (fun (v : Int × List (List UInt8) × Int) => (⟨asFr 141 [(2, .ref 0 0), (3, .ref 1 0), (4, .ref 2 0), (7, .bool reset_948)], [.box [i64 p_938.Epoch, i64 f_950, i64 v.1, .sl false (L (cSl cU8) v.2.1), i64 f_953, .sl false (L cApi_Packet f_954), i64 v.2.2] false, .box [i64 k_939.Epoch, i64 k_939.To, i64 k_939.Seq, i64 k_939.Ack, .sl false (L cU8 k_939.Data)] false, .box [i64 0, i64 0, i64 0, .sl true (L (cSl cU8) ([])), i64 0, .sl true (L cApi_Packet ([])), i64 0] false]⟩ : St)) (fun v => v = j_968) ?_ ?_
      · have h := hA_969; clear hA_969
        replace h := bind_some1 h; obtain ⟨t_971, hv_972, h⟩ := h
        refine run_textW hE [2, 3, 4, 7, 58] (fr' := [(2, .ref 0 0), (3, .ref 1 0), (4, .ref 2 0), (7, .bool reset_948), (58, .bool t_971)]) (σ' := [.box [i64 p_938.Epoch, i64 f_950, i64 f_951, .sl false (L (cSl cU8) f_952), i64 f_953, .sl false (L cApi_Packet f_954), i64 f_955] false, .box [i64 k_939.Epoch, i64 k_939.To, i64 k_939.Seq, i64 k_939.Ack, .sl false (L cU8 k_939.Data)] false, .box [i64 0, i64 0, i64 0, .sl true (L (cSl cU8) ([])), i64 0, .sl true (L cApi_Packet ([])), i64 0] false]) ?_ ?_
        · rcases Bool.eq_false_or_eq_true ((decide (f_951 < k_939.Ack))) with hb_973 | hb_973
          · replace hv_972 := ite_t hv_972 hb_973
            have e_hv_972 := Option.some.inj hv_972; subst e_hv_972
            exact ⟨_, [(2, .ref 0 0), (3, .ref 1 0), (4, .ref 2 0), (7, .bool reset_948), (58, .bool ((decide (k_939.Ack ≤ (w64 (f_951 + (f_952.length : Int)))))))], [.box [i64 p_938.Epoch, i64 f_950, i64 f_951, .sl false (L (cSl cU8) f_952), i64 f_953, .sl false (L cApi_Packet f_954), i64 f_955] false, .box [i64 k_939.Epoch, i64 k_939.To, i64 k_939.Seq, i64 k_939.Ack, .sl false (L cU8 k_939.Data)] false, .box [i64 0, i64 0, i64 0, .sl true (L (cSl cU8) ([])), i64 0, .sl true (L cApi_Packet ([])), i64 0] false], orcs_nil, by simp only [go_sem, hb_973], (weak_sel [0, 1, 2] (by decide) rfl (by simp only [go_sem]) (by simp only [go_sem]))⟩
          · replace hv_972 := ite_f hv_972 hb_973
            have e_hv_972 := Option.some.inj hv_972; subst e_hv_972
            exact ⟨_, [(2, .ref 0 0), (3, .ref 1 0), (4, .ref 2 0), (7, .bool reset_948), (58, .bool false)], [.box [i64 p_938.Epoch, i64 f_950, i64 f_951, .sl false (L (cSl cU8) f_952), i64 f_953, .sl false (L cApi_Packet f_954), i64 f_955] false, .box [i64 k_939.Epoch, i64 k_939.To, i64 k_939.Seq, i64 k_939.Ack, .sl false (L cU8 k_939.Data)] false, .box [i64 0, i64 0, i64 0, .sl true (L (cSl cU8) ([])), i64 0, .sl true (L cApi_Packet ([])), i64 0] false], orcs_nil, by simp only [go_sem, hb_973], (weak_sel [0, 1, 2] (by decide) rfl (by simp only [go_sem]) (by simp only [go_sem]))⟩
        refine run_condL (b := t_971) rfl (by decide) (fun hb => ?_) (fun hb => ?_)
        · replace h := ite_t h hb
          replace h := chk_some h; obtain ⟨hc_974, h⟩ := h
          replace h := lt1_some h; obtain ⟨f_975, hz_976, h⟩ := h
          refine run_textE hE [2, 3, 4, 7] (fr' := [(2, .ref 0 0), (3, .ref 1 0), (4, .ref 2 0), (7, .bool reset_948)]) (σ' := [.box [i64 p_938.Epoch, i64 f_950, i64 f_951, .sl false (L (cSl cU8) f_975), i64 f_953, .sl false (L cApi_Packet f_954), i64 f_955] false, .box [i64 k_939.Epoch, i64 k_939.To, i64 k_939.Seq, i64 k_939.Ack, .sl false (L cU8 k_939.Data)] false, .box [i64 0, i64 0, i64 0, .sl true (L (cSl cU8) ([])), i64 0, .sl true (L cApi_Packet ([])), i64 0] false]) ⟨_, orcs_nil, ?_⟩ ?_
          · subst hz_976; simp only [go_sem, Int.reduceToNat, Nat.reduceLeDiff, hc_974]
          refine run_textE hE [2, 3, 4, 7] (fr' := [(2, .ref 0 0), (3, .ref 1 0), (4, .ref 2 0), (7, .bool reset_948)]) (σ' := [.box [i64 p_938.Epoch, i64 f_950, i64 k_939.Ack, .sl false (L (cSl cU8) f_975), i64 f_953, .sl false (L cApi_Packet f_954), i64 f_955] false, .box [i64 k_939.Epoch, i64 k_939.To, i64 k_939.Seq, i64 k_939.Ack, .sl false (L cU8 k_939.Data)] false, .box [i64 0, i64 0, i64 0, .sl true (L (cSl cU8) ([])), i64 0, .sl true (L cApi_Packet ([])), i64 0] false]) ⟨_, orcs_nil, ?_⟩ ?_
          · simp only [go_sem, Nat.reduceLeDiff]
          refine run_textE0 hE wk_join [2, 3, 4, 7] (fr' := [(2, .ref 0 0), (3, .ref 1 0), (4, .ref 2 0), (7, .bool reset_948)]) (σ' := [.box [i64 p_938.Epoch, i64 f_950, i64 k_939.Ack, .sl false (L (cSl cU8) f_975), i64 f_953, .sl false (L cApi_Packet f_954), i64 ((-1))] false, .box [i64 k_939.Epoch, i64 k_939.To, i64 k_939.Seq, i64 k_939.Ack, .sl false (L cU8 k_939.Data)] false, .box [i64 0, i64 0, i64 0, .sl true (L (cSl cU8) ([])), i64 0, .sl true (L cApi_Packet ([])), i64 0] false]) ⟨_, orcs_nil, ?_⟩ ?_
          · simp only [go_sem, Nat.reduceLeDiff]
          obtain rfl := Option.some.inj h
          exact joinK_n ((k_939.Ack, f_975, (-1))) rfl (weak_sel [0, 1, 2] (by decide) rfl (by simp only [go_sem]) (by simp only [go_sem]))
        · replace h := ite_f h hb
          refine run_skip ?_
          obtain rfl := Option.some.inj h
          exact joinK_n ((f_951, f_952, f_955)) rfl (weak_sel [0, 1, 2] (by decide) rfl (by simp only [go_sem]) (by simp only [go_sem]))
      rintro ⟨f_965, f_966, f_967⟩ rfl
      have h := hj_970; clear hj_970
      replace h := bind_some1 h; obtain ⟨j_983, hA_984, hj_985⟩ := h
      refine run_join (fun (v : List Api_Packet) => (⟨asFr 141 [(2, .ref 0 0), (3, .ref 1 0), (4, .ref 2 0), (7, .bool reset_948)], [.box [i64 p_938.Epoch, i64 f_950, i64 f_965, .sl false (L (cSl cU8) f_966), i64 f_953, .sl false (L cApi_Packet v), i64 f_967] false, .box [i64 k_939.Epoch, i64 k_939.To, i64 k_939.Seq, i64 k_939.Ack, .sl false (L cU8 k_939.Data)] false, .box [i64 0, i64 0, i64 0, .sl true (L (cSl cU8) ([])), i64 0, .sl true (L cApi_Packet ([])), i64 0] false]⟩ : St)) (fun v => v = j_983) ?_ ?_
      · have h := hA_984; clear hA_984
        replace h := bind_some1 h; obtain ⟨t_986, hv_987, h⟩ := h
        refine run_textW hE [2, 3, 4, 7, 84] (fr' := [(2, .ref 0 0), (3, .ref 1 0), (4, .ref 2 0), (7, .bool reset_948), (84, .bool t_986)]) (σ' := [.box [i64 p_938.Epoch, i64 f_950, i64 f_965, .sl false (L (cSl cU8) f_966), i64 f_953, .sl false (L cApi_Packet f_954), i64 f_967] false, .box [i64 k_939.Epoch, i64 k_939.To, i64 k_939.Seq, i64 k_939.Ack, .sl false (L cU8 k_939.Data)] false, .box [i64 0, i64 0, i64 0, .sl true (L (cSl cU8) ([])), i64 0, .sl true (L cApi_Packet ([])), i64 0] false]) ?_ ?_
        · rcases Bool.eq_false_or_eq_true ((decide (f_953 < k_939.Seq))) with hb_988 | hb_988
          · replace hv_987 := ite_t hv_987 hb_988
            have e_hv_987 := Option.some.inj hv_987; subst e_hv_987
            exact ⟨_, [(2, .ref 0 0), (3, .ref 1 0), (4, .ref 2 0), (7, .bool reset_948), (84, .bool ((decide (k_939.Seq < (w64 (f_953 + 64))))))], [.box [i64 p_938.Epoch, i64 f_950, i64 f_965, .sl false (L (cSl cU8) f_966), i64 f_953, .sl false (L cApi_Packet f_954), i64 f_967] false, .box [i64 k_939.Epoch, i64 k_939.To, i64 k_939.Seq, i64 k_939.Ack, .sl false (L cU8 k_939.Data)] false, .box [i64 0, i64 0, i64 0, .sl true (L (cSl cU8) ([])), i64 0, .sl true (L cApi_Packet ([])), i64 0] false], orcs_nil, by simp only [go_sem, hb_988], (weak_sel [0, 1, 2] (by decide) rfl (by simp only [go_sem]) (by simp only [go_sem]))⟩
          · replace hv_987 := ite_f hv_987 hb_988
            have e_hv_987 := Option.some.inj hv_987; subst e_hv_987
            exact ⟨_, [(2, .ref 0 0), (3, .ref 1 0), (4, .ref 2 0), (7, .bool reset_948), (84, .bool false)], [.box [i64 p_938.Epoch, i64 f_950, i64 f_965, .sl false (L (cSl cU8) f_966), i64 f_953, .sl false (L cApi_Packet f_954), i64 f_967] false, .box [i64 k_939.Epoch, i64 k_939.To, i64 k_939.Seq, i64 k_939.Ack, .sl false (L cU8 k_939.Data)] false, .box [i64 0, i64 0, i64 0, .sl true (L (cSl cU8) ([])), i64 0, .sl true (L cApi_Packet ([])), i64 0] false], orcs_nil, by simp only [go_sem, hb_988], (weak_sel [0, 1, 2] (by decide) rfl (by simp only [go_sem]) (by simp only [go_sem]))⟩
        refine run_condL (b := t_986) rfl (by decide) (fun hb => ?_) (fun hb => ?_)
        · replace h := ite_t h hb
          replace h := bind_some1 h; obtain ⟨y_989, hy_990, h⟩ := h
          refine run_textE0 hE wk_join [2, 3, 4, 7] (fr' := [(2, .ref 0 0), (3, .ref 1 0), (4, .ref 2 0), (7, .bool reset_948)]) (σ' := [.box [i64 p_938.Epoch, i64 f_950, i64 f_965, .sl false (L (cSl cU8) f_966), i64 f_953, .sl false (L cApi_Packet y_989), i64 f_967] false, .box [i64 k_939.Epoch, i64 k_939.To, i64 k_939.Seq, i64 k_939.Ack, .sl false (L cU8 k_939.Data)] false, .box [i64 0, i64 0, i64 0, .sl true (L (cSl cU8) ([])), i64 0, .sl true (L cApi_Packet ([])), i64 0] false]) ⟨_, orcs_ok (l := [(92, 45, [.sl false (L cApi_Packet f_954), .agg [i64 0, i64 0, i64 k_939.Seq, i64 0, .sl false (L cU8 k_939.Data)]], .sl false (L cApi_Packet y_989))]) ⟨r12_insert_con  hy_990, trivial⟩, ?_⟩ ?_
          · simp only [go_sem, Nat.reduceGT, Nat.reduceLeDiff]
          obtain rfl := Option.some.inj h
          exact joinK_n y_989 rfl (weak_sel [0, 1, 2] (by decide) rfl (by simp only [go_sem]) (by simp only [go_sem]))
        · replace h := ite_f h hb
          refine run_skip ?_
          obtain rfl := Option.some.inj h
          exact joinK_n f_954 rfl (weak_sel [0, 1, 2] (by decide) rfl (by simp only [go_sem]) (by simp only [go_sem]))
      rintro f_982 rfl
      have h := hj_985; clear hj_985
      refine run_textE hE [2, 3, 4, 7, 8] (fr' := [(2, .ref 0 0), (3, .ref 1 0), (4, .ref 2 0), (7, .bool reset_948), (8, .sl true (L (cSl cU8) ([])))]) (σ' := [.box [i64 p_938.Epoch, i64 f_950, i64 f_965, .sl false (L (cSl cU8) f_966), i64 f_953, .sl false (L cApi_Packet f_982), i64 f_967] false, .box [i64 k_939.Epoch, i64 k_939.To, i64 k_939.Seq, i64 k_939.Ack, .sl false (L cU8 k_939.Data)] false, .box [i64 0, i64 0, i64 0, .sl true (L (cSl cU8) ([])), i64 0, .sl true (L cApi_Packet ([])), i64 0] false]) ⟨_, orcs_nil, ?_⟩ ?_
      · simp only [go_sem]
      replace h := bind_some1 h; obtain ⟨j_1043, hA_1044, hj_1045⟩ := h
      refine run_join (fun (v : Int × List Api_Packet × List (List UInt8)) => (⟨asFr 141 [(2, .ref 0 0), (4, .ref 1 0), (7, .bool reset_948), (8, .bs false 2 (v.2.2.length) 0 (v.2.2.length))], [.box [i64 p_938.Epoch, i64 f_950, i64 f_965, .sl false (L (cSl cU8) f_966), i64 v.1, .sl false (L cApi_Packet v.2.1), i64 f_967] false, .box [i64 0, i64 0, i64 0, .sl true (L (cSl cU8) ([])), i64 0, .sl true (L cApi_Packet ([])), i64 0] false, .buf 1 (L (cSl cU8) v.2.2) false]⟩ : St)) (fun v => v = j_1043) ?_ ?_
      · have h := hA_1044; clear hA_1044
        refine run_textE hE [2, 3, 4, 7, 8, 98] (fr' := [(2, .ref 0 0), (3, .ref 1 0), (4, .ref 2 0), (7, .bool reset_948), (8, .sl true (L (cSl cU8) ([]))), (98, .bool ((k_939.Seq == f_953)))]) (σ' := [.box [i64 p_938.Epoch, i64 f_950, i64 f_965, .sl false (L (cSl cU8) f_966), i64 f_953, .sl false (L cApi_Packet f_982), i64 f_967] false, .box [i64 k_939.Epoch, i64 k_939.To, i64 k_939.Seq, i64 k_939.Ack, .sl false (L cU8 k_939.Data)] false, .box [i64 0, i64 0, i64 0, .sl true (L (cSl cU8) ([])), i64 0, .sl true (L cApi_Packet ([])), i64 0] false]) ⟨_, orcs_nil, ?_⟩ ?_
        · simp only [go_sem]
        refine run_condL (b := (k_939.Seq == f_953)) rfl (by decide) (fun hb => ?_) (fun hb => ?_)
        · replace h := ite_t h hb
          have hk_1046 : Fits 1 24 := by decide
          replace h := lt1_some h; obtain ⟨l_1047, hz_1048, h⟩ := h
          refine run_textE hE [2, 4, 7, 8] (fr' := [(2, .ref 0 0), (4, .ref 2 0), (7, .bool reset_948), (8, .bs false 4 (l_1047.length) 0 (l_1047.length))]) (σ' := [.box [i64 p_938.Epoch, i64 f_950, i64 f_965, .sl false (L (cSl cU8) f_966), i64 f_953, .sl false (L cApi_Packet f_982), i64 f_967] false, .box [i64 k_939.Epoch, i64 k_939.To, i64 k_939.Seq, i64 k_939.Ack, .sl false (L cU8 k_939.Data)] false, .box [i64 0, i64 0, i64 0, .sl true (L (cSl cU8) ([])), i64 0, .sl true (L cApi_Packet ([])), i64 0] false, .buf 1 (L (cSl cU8) (([k_939.Data] : List (List UInt8)))) false, .buf 1 (L (cSl cU8) l_1047) false]) ⟨_, orcs_nil, ?_⟩ ?_
          · subst hz_1048; simp only [go_sem, Nat.reduceBEq, Nat.reduceMul, Nat.reduceSub, Nat.reduceGT, Nat.reducePow, Nat.reduceLeDiff, Int.reduceToNat, hk_1046]
          refine run_textE hE [2, 4, 7, 8] (fr' := [(2, .ref 0 0), (4, .ref 2 0), (7, .bool reset_948), (8, .bs false 4 (l_1047.length) 0 (l_1047.length))]) (σ' := [.box [i64 p_938.Epoch, i64 f_950, i64 f_965, .sl false (L (cSl cU8) f_966), i64 ((w64 (f_953 + 1))), .sl false (L cApi_Packet f_982), i64 f_967] false, .box [i64 k_939.Epoch, i64 k_939.To, i64 k_939.Seq, i64 k_939.Ack, .sl false (L cU8 k_939.Data)] false, .box [i64 0, i64 0, i64 0, .sl true (L (cSl cU8) ([])), i64 0, .sl true (L cApi_Packet ([])), i64 0] false, .buf 1 (L (cSl cU8) (([k_939.Data] : List (List UInt8)))) false, .buf 1 (L (cSl cU8) l_1047) false]) ⟨_, orcs_nil, ?_⟩ ?_
          · simp only [go_sem, Nat.reduceLeDiff]
          refine run_block ?_
          replace h := bind_some1 h; obtain ⟨x_1079, hx_1080, hj_1081⟩ := h
          refine run_loopO hx_1080 (fun (v : Int × List Api_Packet × List (List UInt8)) => (⟨asFr 141 [(2, .ref 0 0), (4, .ref 1 0), (7, .bool reset_948), (8, .bs false 2 (v.2.2.length) 0 (v.2.2.length))], [.box [i64 p_938.Epoch, i64 f_950, i64 f_965, .sl false (L (cSl cU8) f_966), i64 v.1, .sl false (L cApi_Packet v.2.1), i64 f_967] false, .box [i64 0, i64 0, i64 0, .sl true (L (cSl cU8) ([])), i64 0, .sl true (L cApi_Packet ([])), i64 0] false, .buf 1 (L (cSl cU8) v.2.2) false]⟩ : St)) (weak_sel [0, 2, 4] (by decide) rfl (by simp only [go_sem]) (by simp only [go_sem])) ?_
          rintro ⟨f_1062, f_1063, l_1064⟩ o_1082 h hxx_1083
          replace h : r12_Accept_b1 f_1062 f_1063 l_1064 = some o_1082 := h
          unfold r12_Accept_b1 at h
          refine run_seq ?_
          replace h := bind_some1 h; obtain ⟨t_1084, hv_1085, h⟩ := h
          refine run_drawW hE mixed [[], [0], [0, 1], [0, 1, 2], [0, 1, 2, 3], [0, 1, 2, 3, 4], [0, 1, 2, 3, 4, 5], [0, 1, 2, 3, 4, 5, 6], [0, 1, 2, 3, 4, 5, 6, 7], [0, 1, 2, 3, 4, 5, 6, 7, 8], [0, 1, 2, 3, 4], [0, 1, 2, 3, 4, 10], [0, 1, 2, 3, 4, 5, 6, 7, 8, 9, 10, 11], [0, 1, 2, 3, 4, 5, 6, 7, 8, 9, 10, 11, 12]] (by kernel_rfl) (by kernel_rfl) [2, 4, 7, 8, 121] (fr' := [(2, .ref 0 0), (4, .ref 1 0), (7, .bool reset_948), (8, .bs false 2 (l_1064.length) 0 (l_1064.length)), (121, .bool t_1084)]) (σ' := [.box [i64 p_938.Epoch, i64 f_950, i64 f_965, .sl false (L (cSl cU8) f_966), i64 f_1062, .sl false (L cApi_Packet f_1063), i64 f_967] false, .box [i64 0, i64 0, i64 0, .sl true (L (cSl cU8) ([])), i64 0, .sl true (L cApi_Packet ([])), i64 0] false, .buf 1 (L (cSl cU8) l_1064) false]) ?_ ?_
          · rcases Bool.eq_false_or_eq_true ((decide ((f_1063.length : Int) > 0))) with hb_1086 | hb_1086
            · replace hv_1085 := ite_t hv_1085 hb_1086
              replace hv_1085 := chk_some hv_1085; obtain ⟨hc_1087, hv_1085⟩ := hv_1085
              have e_hv_1085 := Option.some.inj hv_1085; subst e_hv_1085
              exact ⟨_, [(2, .ref 0 0), (4, .ref 1 0), (7, .bool reset_948), (8, .bs false 2 (l_1064.length) 0 (l_1064.length)), (121, .bool (((nth f_1063 0).Seq == f_1062)))], [.box [i64 p_938.Epoch, i64 f_950, i64 f_965, .sl false (L (cSl cU8) f_966), i64 f_1062, .sl false (L cApi_Packet f_1063), i64 f_967] false, .box [i64 0, i64 0, i64 0, .sl true (L (cSl cU8) ([])), i64 0, .sl true (L cApi_Packet ([])), i64 0] false, .buf 1 (L (cSl cU8) l_1064) false], orcs_nil, by simp only [go_sem, Int.reduceToNat, hb_1086, hc_1087, (show 0 < f_1063.length from hc_1087.2)], (weak_sel [0, 1, 2] (by decide) rfl (by simp only [go_sem]) (by simp only [go_sem]))⟩
            · replace hv_1085 := ite_f hv_1085 hb_1086
              have e_hv_1085 := Option.some.inj hv_1085; subst e_hv_1085
              exact ⟨_, [(2, .ref 0 0), (4, .ref 1 0), (7, .bool reset_948), (8, .bs false 2 (l_1064.length) 0 (l_1064.length)), (121, .bool false)], [.box [i64 p_938.Epoch, i64 f_950, i64 f_965, .sl false (L (cSl cU8) f_966), i64 f_1062, .sl false (L cApi_Packet f_1063), i64 f_967] false, .box [i64 0, i64 0, i64 0, .sl true (L (cSl cU8) ([])), i64 0, .sl true (L cApi_Packet ([])), i64 0] false, .buf 1 (L (cSl cU8) l_1064) false], orcs_nil, by simp only [go_sem, Int.reduceToNat, hb_1086], (weak_sel [0, 1, 2] (by decide) rfl (by simp only [go_sem]) (by simp only [go_sem]))⟩
          refine run_condL (b := t_1084) rfl (by decide) (fun hb => ?_) (fun hb => ?_)
          · replace h := ite_t h hb
            refine run_skip ?_
            refine thenK_n ?_
            refine run_block ?_
            replace h := chk_some h; obtain ⟨hc_1088, h⟩ := h
            replace h := chk_some h; obtain ⟨hc_1089, h⟩ := h
            replace h := lt1_some h; obtain ⟨l_1090, hz_1091, h⟩ := h
            refine run_textE hE [2, 4, 7, 8] (fr' := [(2, .ref 0 0), (4, .ref 1 0), (7, .bool reset_948), (8, .bs false 2 (l_1090.length) 0 (l_1090.length))]) (σ' := [.box [i64 p_938.Epoch, i64 f_950, i64 f_965, .sl false (L (cSl cU8) f_966), i64 f_1062, .sl false (L cApi_Packet f_1063), i64 f_967] false, .box [i64 0, i64 0, i64 0, .sl true (L (cSl cU8) ([])), i64 0, .sl true (L cApi_Packet ([])), i64 0] false, .buf 1 (L (cSl cU8) l_1090) false, .buf 1 (L (cSl cU8) (([(nth f_1063 0).Data] : List (List UInt8)))) false]) ⟨_, orcs_nil, ?_⟩ ?_
            · subst hz_1091; simp only [go_sem, Nat.reduceBEq, Nat.reduceMul, Nat.reduceSub, Nat.reduceGT, Nat.reducePow, Nat.reduceLeDiff, Int.reduceToNat, hc_1088, (show 0 < f_1063.length from hc_1088.2), hc_1089]
            replace h := chk_some h; obtain ⟨hc_1092, h⟩ := h
            replace h := lt1_some h; obtain ⟨f_1093, hz_1094, h⟩ := h
            refine run_textE hE [2, 4, 7, 8] (fr' := [(2, .ref 0 0), (4, .ref 1 0), (7, .bool reset_948), (8, .bs false 2 (l_1090.length) 0 (l_1090.length))]) (σ' := [.box [i64 p_938.Epoch, i64 f_950, i64 f_965, .sl false (L (cSl cU8) f_966), i64 f_1062, .sl false (L cApi_Packet f_1093), i64 f_967] false, .box [i64 0, i64 0, i64 0, .sl true (L (cSl cU8) ([])), i64 0, .sl true (L cApi_Packet ([])), i64 0] false, .buf 1 (L (cSl cU8) l_1090) false, .buf 1 (L (cSl cU8) (([(nth f_1063 0).Data] : List (List UInt8)))) false]) ⟨_, orcs_nil, ?_⟩ ?_
            · subst hz_1094; simp only [go_sem, Int.reduceToNat, Nat.reduceLeDiff, hc_1092]
            refine run_textE0 hE (wk_block wk_lp) [2, 4, 7, 8] (fr' := [(2, .ref 0 0), (4, .ref 1 0), (7, .bool reset_948), (8, .bs false 2 (l_1090.length) 0 (l_1090.length))]) (σ' := [.box [i64 p_938.Epoch, i64 f_950, i64 f_965, .sl false (L (cSl cU8) f_966), i64 ((w64 (f_1062 + 1))), .sl false (L cApi_Packet f_1093), i64 f_967] false, .box [i64 0, i64 0, i64 0, .sl true (L (cSl cU8) ([])), i64 0, .sl true (L cApi_Packet ([])), i64 0] false, .buf 1 (L (cSl cU8) l_1090) false, .buf 1 (L (cSl cU8) (([(nth f_1063 0).Data] : List (List UInt8)))) false]) ⟨_, orcs_nil, ?_⟩ ?_
            · simp only [go_sem, Nat.reduceLeDiff]
            refine blockK_n ?_
            obtain rfl := Option.some.inj h
            exact lpK_n (((w64 (f_1062 + 1)), f_1093, l_1090)) rfl (weak_sel [0, 1, 2] (by decide) rfl (by simp only [go_sem]) (by simp only [go_sem]))
          · replace h := ite_f h hb
            refine run_exit ?_
            refine thenK_x ?_
            obtain rfl := Option.some.inj h
            have ex_x_1079 := hxx_1083 _ rfl
            subst ex_x_1079
            have h := hj_1081; clear hj_1081
            refine lpK_x ?_
            refine blockK_x ?_
            obtain rfl := Option.some.inj h
            exact joinK_n ((f_1062, f_1063, l_1064)) rfl ((weak_sel (l' := [(2, .ref 0 0), (4, .ref 1 0), (7, .bool reset_948), (8, .bs false 2 (l_1064.length) 0 (l_1064.length))]) (σ' := [.box [i64 p_938.Epoch, i64 f_950, i64 f_965, .sl false (L (cSl cU8) f_966), i64 f_1062, .sl false (L cApi_Packet f_1063), i64 f_967] false, .box [i64 0, i64 0, i64 0, .sl true (L (cSl cU8) ([])), i64 0, .sl true (L cApi_Packet ([])), i64 0] false, .buf 1 (L (cSl cU8) l_1064) false]) [0, 1, 2] (by decide) rfl (by simp only [go_sem]) (by simp only [go_sem])).trans (weak_sel [0, 1, 2] (by decide) rfl (by simp only [go_sem]) (by simp only [go_sem])))
        · replace h := ite_f h hb
          refine run_skip ?_
          obtain rfl := Option.some.inj h
          exact joinK_n ((f_953, f_982, [])) rfl ((weak_nil 8 1 rfl).trans (weak_sel [0, 2, 3] (by decide) rfl (by simp only [go_sem]) (by simp only [go_sem])))
      rintro ⟨f_1040, f_1041, l_1042⟩ rfl
      have h := hj_1045; clear hj_1045
      refine run_textE hE [4, 5, 6] (fr' := [(4, .ref 1 0), (5, .bs false 2 (l_1042.length) 0 (l_1042.length)), (6, .bool reset_948)]) (σ' := [.box [i64 p_938.Epoch, i64 f_950, i64 f_965, .sl false (L (cSl cU8) f_966), i64 f_1040, .sl false (L cApi_Packet f_1041), i64 f_967] false, .box [i64 p_938.Epoch, i64 f_950, i64 f_965, .sl false (L (cSl cU8) f_966), i64 f_1040, .sl false (L cApi_Packet f_1041), i64 f_967] false, .buf 1 (L (cSl cU8) l_1042) false]) ⟨_, orcs_nil, ?_⟩ ?_
      · simp only [go_sem, Nat.reduceLeDiff]
      refine run_ret ?_
      obtain rfl := Option.some.inj h
      refine wkP_of (Weak.refl _ _) ?_
      refine ret_ok (.inr rfl) ?_
      simp only [go_sem]

end Go.Proofs.Ytomjphpnpcgacaa
/-
  The functions compute just that.
-/
namespace Go.Proofs.Ytomjphpnpcgacaa
open Go.Rv
set_option linter.unusedVariables false
set_option linter.unusedSimpArgs false
set_option maxRecDepth 20000
set_option maxHeartbeats 4000000

theorem window_side_keep_1_con {e_1095 : Api_Packet} {seq_1096 : Int} {r : Int} (h : window_side_keep_1 e_1095 seq_1096 = some r) : Con B 57 [.agg [i64 e_1095.Epoch, i64 e_1095.To, i64 e_1095.Seq, i64 e_1095.Ack, .sl false (L cU8 e_1095.Data)], i64 seq_1096] [] (fun r' σ' => r' = i64 r ∧ σ' = []) := by
  refine con_walk (N := 9) (rs := [.tmp 4]) ok Try.func57 rfl (by decide +kernel) rfl rfl (Nat.le_of_ble_eq_true rfl) (fun F => ?_)
  have hE := ok.env F
  unfold window_side_keep_1 at h
  show Run (B.env F) 0 _ ⟨asFr 9 [(0, .agg [i64 e_1095.Epoch, i64 e_1095.To, i64 e_1095.Seq, i64 e_1095.Ack, .sl false (L cU8 e_1095.Data)]), (1, i64 seq_1096)], []⟩ _
  refine run_wkP ?_
  refine run_textE hE [1, 2] (fr' := [(1, i64 seq_1096), (2, .ref 0 0)]) (σ' := [.box [i64 e_1095.Epoch, i64 e_1095.To, i64 e_1095.Seq, i64 e_1095.Ack, .sl false (L cU8 e_1095.Data)] false]) ⟨_, orcs_nil, ?_⟩ ?_
  · simp only [go_sem]
  refine run_textE hE [4] (fr' := [(4, i64 ((w64 (e_1095.Seq - seq_1096))))]) (σ' := [.box [i64 e_1095.Epoch, i64 e_1095.To, i64 e_1095.Seq, i64 e_1095.Ack, .sl false (L cU8 e_1095.Data)] false]) ⟨_, orcs_nil, ?_⟩ ?_
  · simp only [go_sem]
  refine run_ret ?_
  obtain rfl := Option.some.inj h
  refine wkP_of (Weak.refl _ _) ?_
  refine ret_ok (.inr rfl) ?_
  simp only [go_sem]

theorem slices_BinarySearchFunc_56_con {x_1097 : List Api_Packet} {target_1098 : Int} {cmp_1099 : Api_Packet → Int → Option (Int)} {fcmp_1099 : Nat} (hfcmp_1099 : ∀ {a0 : Api_Packet} {a1 : Int} {r : Int}, cmp_1099 a0 a1 = some r → Con B fcmp_1099 [.agg [i64 a0.Epoch, i64 a0.To, i64 a0.Seq, i64 a0.Ack, .sl false (L cU8 a0.Data)], i64 a1] [] (fun r' σ' => r' = i64 r ∧ σ' = [])) {r : Int × Bool} (h : slices_BinarySearchFunc_56 x_1097 target_1098 cmp_1099 = some r) : Con B 56 [.sl false (L cApi_Packet x_1097), i64 target_1098, .fn fcmp_1099 []] [] (fun r' σ' => r' = .tup [i64 r.1, .bool r.2] ∧ σ' = []) := by
  refine con_walk (N := 49) (rs := [.tmp 6, .tmp 7]) ok Try.func56 rfl (by decide +kernel) rfl rfl (Nat.le_of_ble_eq_true rfl) (fun F => ?_)
  have hE := ok.env F
  unfold slices_BinarySearchFunc_56 at h
  show Run (B.env F) 0 _ ⟨asFr 49 [(0, .sl false (L cApi_Packet x_1097)), (1, i64 target_1098), (2, .fn fcmp_1099 [])], []⟩ _
  refine run_wkP ?_
  refine run_textE hE [0, 1, 2] (fr' := [(0, .sl false (L cApi_Packet x_1097)), (1, i64 target_1098), (2, .fn fcmp_1099 [])]) (σ' := []) ⟨_, orcs_nil, ?_⟩ ?_
  · simp only [go_sem]
  refine run_textE hE [0, 1, 2, 8] (fr' := [(0, .sl false (L cApi_Packet x_1097)), (1, i64 target_1098), (2, .fn fcmp_1099 []), (8, i64 ((x_1097.length : Int)))]) (σ' := []) ⟨_, orcs_nil, ?_⟩ ?_
  · simp only [go_sem]
  refine run_textE hE [0, 1, 2, 8, 9, 10] (fr' := [(0, .sl false (L cApi_Packet x_1097)), (1, i64 target_1098), (2, .fn fcmp_1099 []), (8, i64 ((x_1097.length : Int))), (9, i64 0), (10, i64 ((x_1097.length : Int)))]) (σ' := []) ⟨_, orcs_nil, ?_⟩ ?_
  · simp only [go_sem]
  replace h := bind_some1 h; obtain ⟨j_1124, hA_1125, hj_1126⟩ := h
  refine run_join (fun (v : Int) => (⟨asFr 49 [(0, .sl false (L cApi_Packet x_1097)), (1, i64 target_1098), (2, .fn fcmp_1099 []), (8, i64 ((x_1097.length : Int))), (9, i64 v)], []⟩ : St)) (fun v => v = j_1124) ?_ ?_
  · have h := hA_1125; clear hA_1125
    refine run_block ?_
    replace h := bind_some1 h; obtain ⟨x_1140, hx_1141, hj_1142⟩ := h
    refine run_loopO hx_1141 (fun (v : Int × Int) => (⟨asFr 49 [(0, .sl false (L cApi_Packet x_1097)), (1, i64 target_1098), (2, .fn fcmp_1099 []), (8, i64 ((x_1097.length : Int))), (9, i64 v.1), (10, i64 v.2)], []⟩ : St)) (weak_sel [] (by decide) rfl (by simp only [go_sem]) (by simp only [go_sem])) ?_
    rintro ⟨i_1132, j_1133⟩ o_1143 h hxx_1144
    replace h : slices_BinarySearchFunc_56_b1 x_1097 target_1098 cmp_1099 i_1132 j_1133 = some o_1143 := h
    unfold slices_BinarySearchFunc_56_b1 at h
    refine run_seq ?_
    refine run_textE hE [0, 1, 2, 8, 9, 10, 17] (fr' := [(0, .sl false (L cApi_Packet x_1097)), (1, i64 target_1098), (2, .fn fcmp_1099 []), (8, i64 ((x_1097.length : Int))), (9, i64 i_1132), (10, i64 j_1133), (17, .bool ((decide (i_1132 < j_1133))))]) (σ' := []) ⟨_, orcs_nil, ?_⟩ ?_
    · simp only [go_sem]
    refine run_condL (b := (decide (i_1132 < j_1133))) rfl (by decide) (fun hb => ?_) (fun hb => ?_)
    · replace h := ite_t h hb
      refine run_skip ?_
      refine thenK_n ?_
      refine run_block ?_
      replace h := lt1_some h; obtain ⟨h_1145, hz_1146, h⟩ := h
      refine run_textE hE [0, 1, 2, 8, 9, 10, 11] (fr' := [(0, .sl false (L cApi_Packet x_1097)), (1, i64 target_1098), (2, .fn fcmp_1099 []), (8, i64 ((x_1097.length : Int))), (9, i64 i_1132), (10, i64 j_1133), (11, i64 h_1145)]) (σ' := []) ⟨_, orcs_nil, ?_⟩ ?_
      · subst hz_1146; simp only [go_sem]
      replace h := chk_some h; obtain ⟨hc_1148, h⟩ := h
      replace h := bind_some1 h; obtain ⟨y_1147, hy_1149, h⟩ := h
      refine run_textE hE [0, 1, 2, 8, 9, 10, 11, 31] (fr' := [(0, .sl false (L cApi_Packet x_1097)), (1, i64 target_1098), (2, .fn fcmp_1099 []), (8, i64 ((x_1097.length : Int))), (9, i64 i_1132), (10, i64 j_1133), (11, i64 h_1145), (31, .bool ((decide (y_1147 < 0))))]) (σ' := []) ⟨_, orcs_ok (l := [(30, fcmp_1099, [.agg [i64 ((nth x_1097 h_1145.toNat).Epoch), i64 ((nth x_1097 h_1145.toNat).To), i64 ((nth x_1097 h_1145.toNat).Seq), i64 ((nth x_1097 h_1145.toNat).Ack), .sl false (L cU8 ((nth x_1097 h_1145.toNat).Data))], i64 target_1098], i64 y_1147)]) ⟨hfcmp_1099  hy_1149, trivial⟩, ?_⟩ ?_
      · simp only [go_sem, Int.reduceToNat, hc_1148, hc_1148.2, lt_le hc_1148.2]
      refine run_condL (b := (decide (y_1147 < 0))) rfl (by decide) (fun hb => ?_) (fun hb => ?_)
      · replace h := ite_t h hb
        refine run_textE0 hE (wk_block wk_lp) [0, 1, 2, 8, 9, 10] (fr' := [(0, .sl false (L cApi_Packet x_1097)), (1, i64 target_1098), (2, .fn fcmp_1099 []), (8, i64 ((x_1097.length : Int))), (9, i64 ((w64 (h_1145 + 1)))), (10, i64 j_1133)]) (σ' := []) ⟨_, orcs_nil, ?_⟩ ?_
        · simp only [go_sem]
        refine blockK_n ?_
        obtain rfl := Option.some.inj h
        exact lpK_n (((w64 (h_1145 + 1)), j_1133)) rfl (weak_sel [] (by decide) rfl (by simp only [go_sem]) (by simp only [go_sem]))
      · replace h := ite_f h hb
        refine run_textE0 hE (wk_block wk_lp) [0, 1, 2, 8, 9, 10] (fr' := [(0, .sl false (L cApi_Packet x_1097)), (1, i64 target_1098), (2, .fn fcmp_1099 []), (8, i64 ((x_1097.length : Int))), (9, i64 i_1132), (10, i64 h_1145)]) (σ' := []) ⟨_, orcs_nil, ?_⟩ ?_
        · simp only [go_sem]
        refine blockK_n ?_
        obtain rfl := Option.some.inj h
        exact lpK_n ((i_1132, h_1145)) rfl (weak_sel [] (by decide) rfl (by simp only [go_sem]) (by simp only [go_sem]))
    · replace h := ite_f h hb
      refine run_exit ?_
      refine thenK_x ?_
      obtain rfl := Option.some.inj h
      have ex_x_1140 := hxx_1144 _ rfl
      subst ex_x_1140
      have h := hj_1142; clear hj_1142
      refine lpK_x ?_
      refine blockK_x ?_
      obtain rfl := Option.some.inj h
      exact joinK_n i_1132 rfl ((weak_sel (l' := [(0, .sl false (L cApi_Packet x_1097)), (1, i64 target_1098), (2, .fn fcmp_1099 []), (8, i64 ((x_1097.length : Int))), (9, i64 i_1132)]) (σ' := []) [] (by decide) rfl (by simp only [go_sem]) (by simp only [go_sem])).trans (weak_sel [] (by decide) rfl (by simp only [go_sem]) (by simp only [go_sem])))
  rintro i_1123 rfl
  have h := hj_1126; clear hj_1126
  replace h := bind_some1 h; obtain ⟨t_1151, hv_1152, h⟩ := h
  refine run_textW hE [6, 7] (fr' := [(6, i64 i_1123), (7, .bool t_1151)]) (σ' := []) ?_ ?_
  · rcases Bool.eq_false_or_eq_true ((decide (i_1123 < (x_1097.length : Int)))) with hb_1153 | hb_1153
    · replace hv_1152 := ite_t hv_1152 hb_1153
      replace hv_1152 := chk_some hv_1152; obtain ⟨hc_1154, hv_1152⟩ := hv_1152
      replace hv_1152 := bind_some1 hv_1152; obtain ⟨y_1150, hy_1155, hv_1152⟩ := hv_1152
      have e_hv_1152 := Option.some.inj hv_1152; subst e_hv_1152
      exact ⟨_, [(6, i64 i_1123), (7, .bool ((y_1150 == 0)))], [], orcs_ok (l := [(46, fcmp_1099, [.agg [i64 ((nth x_1097 i_1123.toNat).Epoch), i64 ((nth x_1097 i_1123.toNat).To), i64 ((nth x_1097 i_1123.toNat).Seq), i64 ((nth x_1097 i_1123.toNat).Ack), .sl false (L cU8 ((nth x_1097 i_1123.toNat).Data))], i64 target_1098], i64 y_1150)]) ⟨hfcmp_1099  hy_1155, trivial⟩, by simp only [go_sem, Int.reduceToNat, hb_1153, hc_1154, hc_1154.2, lt_le hc_1154.2], (weak_sel [] (by decide) rfl (by simp only [go_sem]) (by simp only [go_sem]))⟩
    · replace hv_1152 := ite_f hv_1152 hb_1153
      have e_hv_1152 := Option.some.inj hv_1152; subst e_hv_1152
      exact ⟨_, [(6, i64 i_1123), (7, .bool false)], [], orcs_nil, by simp only [go_sem, Int.reduceToNat, hb_1153], (weak_sel [] (by decide) rfl (by simp only [go_sem]) (by simp only [go_sem]))⟩
  refine run_ret ?_
  obtain rfl := Option.some.inj h
  refine wkP_of (Weak.refl _ _) ?_
  refine ret_ok (.inr rfl) ?_
  simp only [go_sem]

theorem window_side_take_con {s_1156 : Window_side} {data_1157 : List UInt8} {r : Window_side} (h : window_side_take s_1156 data_1157 = some r) : Con B 60 [.ref 0 0, .sl false (L cU8 data_1157)] [.box [i64 s_1156.Peer.Epoch, i64 s_1156.Peer.Other, i64 s_1156.Peer.First, .sl false (L (cSl cU8) s_1156.Peer.Queue), i64 s_1156.Peer.Next, .sl false (L cApi_Packet s_1156.Peer.Early), i64 s_1156.Peer.SentAt, .bs false 1 (s_1156.delivered.length) 0 (s_1156.delivered.length)] false, .buf 1 (L (cSl cU8) s_1156.delivered) false] (fun r' σ' => r' = .tup [] ∧ σ' = [.box [i64 r.Peer.Epoch, i64 r.Peer.Other, i64 r.Peer.First, .sl false (L (cSl cU8) r.Peer.Queue), i64 r.Peer.Next, .sl false (L cApi_Packet r.Peer.Early), i64 r.Peer.SentAt, .bs false 1 (r.delivered.length) 0 (r.delivered.length)] false, .buf 1 (L (cSl cU8) r.delivered) false]) := by
  refine con_walk_own (N := 24) (rs := []) 2 rfl ok Try.func60 rfl (by decide +kernel) rfl rfl (Nat.le_of_ble_eq_true rfl) (fun F => ?_)
  have hE := ok.env F
  unfold window_side_take at h
  show Run (B.env F) 2 _ ⟨asFr 24 [(0, .ref 0 0), (1, .sl false (L cU8 data_1157))], [.box [i64 s_1156.Peer.Epoch, i64 s_1156.Peer.Other, i64 s_1156.Peer.First, .sl false (L (cSl cU8) s_1156.Peer.Queue), i64 s_1156.Peer.Next, .sl false (L cApi_Packet s_1156.Peer.Early), i64 s_1156.Peer.SentAt, .bs false 1 (s_1156.delivered.length) 0 (s_1156.delivered.length)] false, .buf 1 (L (cSl cU8) s_1156.delivered) false]⟩ _
  refine run_wkP ?_
  replace h := bind_some1 h; obtain ⟨y_1165, hy_1166, h⟩ := h
  replace h := chk_some h; obtain ⟨hc_1167, h⟩ := h
  replace h := lt1_some h; obtain ⟨l_1168, hz_1169, h⟩ := h
  refine run_drawE hE mixed [[], [], [1], [1, 2], [1, 2, 3], [], [5], [5, 6], [1, 2, 3, 4, 5, 6, 7], [0, 1, 2, 3, 4, 5, 6, 7, 8], [0, 1, 2, 3, 4, 5, 6, 7, 8, 9], [0, 1, 2, 3, 4, 5, 6, 7, 8, 9, 10]] (by kernel_rfl) (by kernel_rfl) [0] (fr' := [(0, .ref 0 0)]) (σ' := [.box [i64 s_1156.Peer.Epoch, i64 s_1156.Peer.Other, i64 s_1156.Peer.First, .sl false (L (cSl cU8) s_1156.Peer.Queue), i64 s_1156.Peer.Next, .sl false (L cApi_Packet s_1156.Peer.Early), i64 s_1156.Peer.SentAt, .bs false 1 (l_1168.length) 0 (l_1168.length)] false, .buf 1 (L (cSl cU8) l_1168) false, .buf 1 (L (cSl cU8) (([y_1165] : List (List UInt8)))) false]) ⟨_, orcs_ok (l := [(10, 39, [.sl false (L cU8 data_1157)], .sl false (L cU8 y_1165))]) ⟨window_own_con  hy_1166, trivial⟩, ?_⟩ ?_
  · subst hz_1169; simp only [go_sem, Nat.reduceBEq, Nat.reduceMul, Nat.reduceSub, Nat.reduceGT, Nat.reducePow, Nat.reduceLeDiff, Int.reduceToNat, hc_1167]
  replace h := lt1_some h; obtain ⟨f_1170, hz_1171, h⟩ := h
  refine run_textE0 hE wk_wkP [] (fr' := []) (σ' := [.box [i64 s_1156.Peer.Epoch, i64 s_1156.Peer.Other, i64 s_1156.Peer.First, .sl false (L (cSl cU8) s_1156.Peer.Queue), i64 f_1170, .sl false (L cApi_Packet s_1156.Peer.Early), i64 s_1156.Peer.SentAt, .bs false 1 (l_1168.length) 0 (l_1168.length)] false, .buf 1 (L (cSl cU8) l_1168) false, .buf 1 (L (cSl cU8) (([y_1165] : List (List UInt8)))) false]) ⟨_, orcs_nil, ?_⟩ ?_
  · subst hz_1171; simp only [go_sem, Nat.reduceLeDiff]
  obtain rfl := Option.some.inj h
  refine wkP_of (Weak.refl _ _) ?_
  refine ret_own (.inl rfl) [0, 1] (by decide) rfl ?_ ?_
  · simp only [go_sem]
  · simp only [go_sem]

theorem window_side_acknowledge_con {s_1172 : Window_side} {k_1173 : Api_Packet} {r : Window_side} (h : window_side_acknowledge s_1172 k_1173 = some r) : Con B 41 [.ref 0 0, .agg [i64 k_1173.Epoch, i64 k_1173.To, i64 k_1173.Seq, i64 k_1173.Ack, .sl false (L cU8 k_1173.Data)]] [.box [i64 s_1172.Peer.Epoch, i64 s_1172.Peer.Other, i64 s_1172.Peer.First, .sl false (L (cSl cU8) s_1172.Peer.Queue), i64 s_1172.Peer.Next, .sl false (L cApi_Packet s_1172.Peer.Early), i64 s_1172.Peer.SentAt, .bs false 1 (s_1172.delivered.length) 0 (s_1172.delivered.length)] false, .buf 1 (L (cSl cU8) s_1172.delivered) false] (fun r' σ' => r' = .tup [] ∧ σ' = [.box [i64 r.Peer.Epoch, i64 r.Peer.Other, i64 r.Peer.First, .sl false (L (cSl cU8) r.Peer.Queue), i64 r.Peer.Next, .sl false (L cApi_Packet r.Peer.Early), i64 r.Peer.SentAt, .bs false 1 (r.delivered.length) 0 (r.delivered.length)] false, .buf 1 (L (cSl cU8) r.delivered) false]) := by
  refine con_walk_own (N := 46) (rs := []) 2 rfl ok Try.func41 rfl (by decide +kernel) rfl rfl (Nat.le_of_ble_eq_true rfl) (fun F => ?_)
  have hE := ok.env F
  unfold window_side_acknowledge at h
  show Run (B.env F) 2 _ ⟨asFr 46 [(0, .ref 0 0), (1, .agg [i64 k_1173.Epoch, i64 k_1173.To, i64 k_1173.Seq, i64 k_1173.Ack, .sl false (L cU8 k_1173.Data)])], [.box [i64 s_1172.Peer.Epoch, i64 s_1172.Peer.Other, i64 s_1172.Peer.First, .sl false (L (cSl cU8) s_1172.Peer.Queue), i64 s_1172.Peer.Next, .sl false (L cApi_Packet s_1172.Peer.Early), i64 s_1172.Peer.SentAt, .bs false 1 (s_1172.delivered.length) 0 (s_1172.delivered.length)] false, .buf 1 (L (cSl cU8) s_1172.delivered) false]⟩ _
  refine run_wkP ?_
  refine run_textE hE [0, 3] (fr' := [(0, .ref 0 0), (3, .ref 2 0)]) (σ' := [.box [i64 s_1172.Peer.Epoch, i64 s_1172.Peer.Other, i64 s_1172.Peer.First, .sl false (L (cSl cU8) s_1172.Peer.Queue), i64 s_1172.Peer.Next, .sl false (L cApi_Packet s_1172.Peer.Early), i64 s_1172.Peer.SentAt, .bs false 1 (s_1172.delivered.length) 0 (s_1172.delivered.length)] false, .buf 1 (L (cSl cU8) s_1172.delivered) false, .box [i64 k_1173.Epoch, i64 k_1173.To, i64 k_1173.Seq, i64 k_1173.Ack, .sl false (L cU8 k_1173.Data)] false]) ⟨_, orcs_nil, ?_⟩ ?_
  · simp only [go_sem]
  replace h := lt1_some h; obtain ⟨n_1182, hz_1183, h⟩ := h
  refine run_drawE hE mixed [[], [0], [], [2], [2, 3], [2, 3, 4], [2, 3, 4, 5], [0, 1, 2, 3, 4, 5, 6], [0, 1, 2, 3, 4, 5, 6, 7]] (by kernel_rfl) (by kernel_rfl) [0, 3, 4] (fr' := [(0, .ref 0 0), (3, .ref 2 0), (4, i64 n_1182)]) (σ' := [.box [i64 s_1172.Peer.Epoch, i64 s_1172.Peer.Other, i64 s_1172.Peer.First, .sl false (L (cSl cU8) s_1172.Peer.Queue), i64 s_1172.Peer.Next, .sl false (L cApi_Packet s_1172.Peer.Early), i64 s_1172.Peer.SentAt, .bs false 1 (s_1172.delivered.length) 0 (s_1172.delivered.length)] false, .buf 1 (L (cSl cU8) s_1172.delivered) false, .box [i64 k_1173.Epoch, i64 k_1173.To, i64 k_1173.Seq, i64 k_1173.Ack, .sl false (L cU8 k_1173.Data)] false]) ⟨_, orcs_nil, ?_⟩ ?_
  · subst hz_1183; simp only [go_sem]
  replace h := bind_some1 h; obtain ⟨t_1184, hv_1185, h⟩ := h
  refine run_textW hE [0, 3, 4, 24] (fr' := [(0, .ref 0 0), (3, .ref 2 0), (4, i64 n_1182), (24, .bool t_1184)]) (σ' := [.box [i64 s_1172.Peer.Epoch, i64 s_1172.Peer.Other, i64 s_1172.Peer.First, .sl false (L (cSl cU8) s_1172.Peer.Queue), i64 s_1172.Peer.Next, .sl false (L cApi_Packet s_1172.Peer.Early), i64 s_1172.Peer.SentAt, .bs false 1 (s_1172.delivered.length) 0 (s_1172.delivered.length)] false, .buf 1 (L (cSl cU8) s_1172.delivered) false, .box [i64 k_1173.Epoch, i64 k_1173.To, i64 k_1173.Seq, i64 k_1173.Ack, .sl false (L cU8 k_1173.Data)] false]) ?_ ?_
  · rcases Bool.eq_false_or_eq_true ((decide (n_1182 > 0))) with hb_1186 | hb_1186
    · replace hv_1185 := ite_t hv_1185 hb_1186
      have e_hv_1185 := Option.some.inj hv_1185; subst e_hv_1185
      exact ⟨_, [(0, .ref 0 0), (3, .ref 2 0), (4, i64 n_1182), (24, .bool ((decide (n_1182 ≤ (s_1172.Peer.Queue.length : Int)))))], [.box [i64 s_1172.Peer.Epoch, i64 s_1172.Peer.Other, i64 s_1172.Peer.First, .sl false (L (cSl cU8) s_1172.Peer.Queue), i64 s_1172.Peer.Next, .sl false (L cApi_Packet s_1172.Peer.Early), i64 s_1172.Peer.SentAt, .bs false 1 (s_1172.delivered.length) 0 (s_1172.delivered.length)] false, .buf 1 (L (cSl cU8) s_1172.delivered) false, .box [i64 k_1173.Epoch, i64 k_1173.To, i64 k_1173.Seq, i64 k_1173.Ack, .sl false (L cU8 k_1173.Data)] false], orcs_nil, by simp only [go_sem, hb_1186], (weak_sel [0, 1, 2] (by decide) rfl (by simp only [go_sem]) (by simp only [go_sem]))⟩
    · replace hv_1185 := ite_f hv_1185 hb_1186
      have e_hv_1185 := Option.some.inj hv_1185; subst e_hv_1185
      exact ⟨_, [(0, .ref 0 0), (3, .ref 2 0), (4, i64 n_1182), (24, .bool false)], [.box [i64 s_1172.Peer.Epoch, i64 s_1172.Peer.Other, i64 s_1172.Peer.First, .sl false (L (cSl cU8) s_1172.Peer.Queue), i64 s_1172.Peer.Next, .sl false (L cApi_Packet s_1172.Peer.Early), i64 s_1172.Peer.SentAt, .bs false 1 (s_1172.delivered.length) 0 (s_1172.delivered.length)] false, .buf 1 (L (cSl cU8) s_1172.delivered) false, .box [i64 k_1173.Epoch, i64 k_1173.To, i64 k_1173.Seq, i64 k_1173.Ack, .sl false (L cU8 k_1173.Data)] false], orcs_nil, by simp only [go_sem, hb_1186], (weak_sel [0, 1, 2] (by decide) rfl (by simp only [go_sem]) (by simp only [go_sem]))⟩
  refine run_condL (b := t_1184) rfl (by decide) (fun hb => ?_) (fun hb => ?_)
  · replace h := ite_t h hb
    replace h := chk_some h; obtain ⟨hc_1187, h⟩ := h
    replace h := lt1_some h; obtain ⟨f_1188, hz_1189, h⟩ := h
    refine run_drawS0 hE mixed [[], [], [], [], [3], [3, 4], [3, 4, 5], [3, 4, 5, 6], [], [3, 4, 5, 6, 7, 8], [], [10], [0, 3, 4, 5, 6, 7, 8, 9], [0, 3, 4, 5, 6, 7, 8, 9, 12], [0, 3, 4, 5, 6, 7, 8, 9, 12, 13], [0, 3, 4, 5, 6, 7, 8, 9, 12, 13, 14], [0, 1, 3, 4, 5, 6, 7, 8, 9, 10, 11, 12, 13, 14, 15], [0, 1, 3, 4, 5, 6, 7, 8, 9, 10, 11, 12, 13, 14, 15, 16], [0, 1, 3, 4, 5, 6, 7, 8, 9, 10, 11, 12, 13, 14, 15, 16, 17], [0, 1, 3, 4, 5, 6, 7, 8, 9, 10, 11, 12, 13, 14, 15, 16, 17, 18], [0, 1, 2, 3, 4, 5, 6, 7, 8, 9, 10, 11, 12, 13, 14, 15, 16, 17, 18, 19], [0, 1, 2, 3, 4, 5, 6, 7, 8, 9, 10, 11, 12, 13, 14, 15, 16, 17, 18, 19, 20], [0, 1, 2, 3, 4, 5, 6, 7, 8, 9, 10, 11, 12, 13, 14, 15, 16, 17, 18, 19, 20, 21], [0, 1, 2, 3, 4, 5, 6, 7, 8, 9, 10, 11, 12, 13, 14, 15, 16, 17, 18, 19, 20, 21, 22]] (by kernel_rfl) [(3, 2), (35, 2), (39, 0)] [] [3, 35, 39] (by kernel_rfl) wk_wkP (fr' := [(3, .ref 2 0), (35, .ref 2 3), (39, .ref 0 3)]) (σ' := [.box [i64 s_1172.Peer.Epoch, i64 s_1172.Peer.Other, i64 k_1173.Ack, .sl false (L (cSl cU8) f_1188), i64 s_1172.Peer.Next, .sl false (L cApi_Packet s_1172.Peer.Early), i64 ((-1)), .bs false 1 (s_1172.delivered.length) 0 (s_1172.delivered.length)] false, .buf 1 (L (cSl cU8) s_1172.delivered) false, .box [i64 k_1173.Epoch, i64 k_1173.To, i64 k_1173.Seq, i64 k_1173.Ack, .sl false (L cU8 k_1173.Data)] false]) ⟨rfl, rfl, rfl, trivial⟩ ⟨_, _, orcs_nil, (by simp only [XOk]), ?_⟩ ?_
    · subst hz_1189; simp only [go_sem, Int.reduceToNat, Nat.reduceLeDiff, hc_1187]
    obtain rfl := Option.some.inj h
    refine wkP_of (Weak.refl _ _) ?_
    refine ret_own (.inl rfl) [0, 1] (by decide) rfl ?_ ?_
    · simp only [go_sem]
    · simp only [go_sem]
  · replace h := ite_f h hb
    refine run_skip ?_
    obtain rfl := Option.some.inj h
    refine wkP_of (Weak.refl _ _) ?_
    refine ret_own (.inl rfl) [0, 1] (by decide) rfl ?_ ?_
    · simp only [go_sem]
    · simp only [go_sem]

end Go.Proofs.Ytomjphpnpcgacaa
/-
  slices.Insert, at packets: the four roads through it, each from an explicit memory.
-/
namespace Go.Proofs.Ytomjphpnpcgacaa
open Go.Rv Go.RowKit
set_option linter.unusedVariables false
set_option linter.unusedSimpArgs false

/-- The model's answer for slices.overlaps, where the second slice lies in a block of which nothing is marked. -/
theorem run_overlaps_apart2 {P : Program} (w : World) (tS tR e : TypeId) (ht : P.underlying tS = some (.slice e)) (size : Nat) (hz : ∀ w, (Go.sizeOf e).run P w = .ok size w)
    (a b : Addr) (la ca lb cb : Nat) (hne : a.block ≠ b.block) (tA tB : TypeId) (kA kB : Nat)
    (hsa : w.shape? a.block = some (tA, kA)) (hsb : w.shape? b.block = some (tB, kB)) (hkA : kA ≠ 0)
    (hfb : w.frozen? b = false) (hfe : w.frozen? { block := b.block, off := kB } = false) :
    (Extern.SlicesOverlaps.overlaps #[tS, tS] #[tR] #[.slice (some a) la ca, .slice (some b) lb cb]).run P w = .ok (.bool false) w := by
  have hnb : (a.block != b.block) = true := by simpa using hne
  have hnb' : (a.block == b.block) = false := by simpa using hne
  change Sem.run P (α := Value) (do
    let some t := (#[tS, tS] : Array TypeId)[0]? | stuck "slices.overlaps: no parameter types"
    let .slice elem ← underlying t | stuck "slices.overlaps: slice type expected"
    let size ← sizeOf elem
    match (some a : Option Addr), (some b : Option Addr) with
    | some a, some b =>
      if la = 0 ∨ lb = 0 ∨ size = 0 then pure (Value.bool false)
      else if a.block != b.block && (← frozen a) && (← frozen b) then unsupported .addressObserved
      else do
        if a.block != b.block then do
          noView a; noView b
          if ← mayBeOne a b then return Value.bool ((← choose (.extern "sameAddr.stringBytes" 2)) == 1)
        pure (Value.bool (a.block == b.block && a.off < b.off + lb * size && b.off < a.off + la * size))
    | _, _ => pure (Value.bool false)) w = _
  by_cases h0 : la = 0 ∨ lb = 0 ∨ size = 0
  · simp [run_underlying ht, hz, h0]
  · cases kA with
    | zero => exact absurd rfl hkA
    | succ kA =>
      cases h1 : w.frozen? a <;> cases h2 : w.frozen? { block := a.block, off := kA + 1 } <;> simp [run_underlying ht, hz, h0, hnb, hnb', frozen, noView, viewAt, mayBeOne, stringish, shape, Sem.run, hsa, hsb, hfb, hfe, h1, h2]

theorem u23 : Try.prog.underlying 23 = some (.slice 39) := by kernel_rfl
theorem z39 (w : World) : (Go.sizeOf 39).run Try.prog w = .ok 5 w := run_size (ok.env fun _ => False) (tb39 (fun _ => False)) w

set_option maxHeartbeats 4000000 in
set_option maxRecDepth 100000 in
/-- There is room: in place. -/
theorem ins_shift (w : World) (β o n c i vc : Nat) (p : Addr) (cur OLD NEW : Array Value) (T : TypeId) (fz : Nat × Nat) (hi : i < n) (hroom : n + 1 ≤ c) (hn63 : n + 1 ≤ 140737488355328)
    (hh : w.heap[β]? = some (.cells cur T fz)) (hsz : o + c * 5 ≤ cur.size) (hfz : noFreeze fz 0 (cur.size + 1)) (hO : OLD.size = n * 5) (hOat : ∀ j, j < n * 5 → cur.getD (o + j) undef = OLD.getD j undef)
    (hN : NEW.size = 5) (hp : p.block ≠ β) (hNat : At w p NEW) (h1O : ∀ v ∈ OLD.toList, one v = true) (h1N : ∀ v ∈ NEW.toList, one v = true) :
    Calls Try.prog 58 #[.slice (some ⟨β, o, none⟩) n c, .int .i64 i, .slice (some p) 1 vc] w fun e w' =>
      e = .returned (.slice (some ⟨β, o, none⟩) (n + 1) c) ∧ w' = (w.drew.setRow β (seg cur (o + (i + 1) * 5) (OLD.extract (i * 5) (n * 5)))).setRow β (seg (seg cur (o + (i + 1) * 5) (OLD.extract (i * 5) (n * 5))) (o + i * 5) NEW) := by
  have mixed : Try.prog.follows Departure.mixedOrders = true := by kernel_rfl
  have u23 := u23
  have z39 := z39
  have ru23 := run_underlying (P := Try.prog) u23
  have hz2 : ¬ ((i : Int) = (n : Int)) := by omega
  have hz3 : ¬ ((c : Int) < (n : Int) + 1) := by omega
  have hw1 : IntKind.i64.wrap ((i : Int) + 1) = (i : Int) + 1 := by rw [IntKind.wrap_i64]; omega
  have hw2 : IntKind.i64.wrap ((n : Int) + 1) = (n : Int) + 1 := by rw [IntKind.wrap_i64]; omega
  have hb1 : (0 : Int) ≤ (i : Int) + 1 := by omega
  have hin : i ≤ n := by omega
  have hb2 : ¬ (c = i + 1) := by omega
  have hb4 : ¬ (c = i) := by omega
  have htn : ((i : Int) + 1).toNat = i + 1 := by omega
  have htn2 : ((n : Int) + 1).toNat = n + 1 := by omega
  have hb3 : (i : Int) ≤ (n : Int) + 1 := by omega
  have hfzn : ∀ j, j ≤ cur.size → w.frozen? ⟨β, j, none⟩ = false := by
    intro j hj
    have := hfz.2 j (Nat.zero_le _) (by omega)
    obtain ⟨lo, hi'⟩ := fz
    simp only [World.frozen?, hh, Bool.and_eq_false_iff, decide_eq_false_iff_not]
    simp only at this
    omega
  obtain ⟨tA, kA, hsa, hkA⟩ : ∃ tA kA, w.shape? p.block = some (tA, kA) ∧ kA ≠ 0 := by
    have h0 := hNat 0 (by omega)
    rw [Addr.add_zero'] at h0
    unfold World.cell? at h0
    unfold World.shape?
    cases hq : w.heap[p.block]? with
    | none => rw [hq] at h0; cases h0
    | some ob =>
      rw [hq] at h0
      cases ob with
      | cells cs t f =>
        refine ⟨t, cs.size, rfl, fun e => ?_⟩
        simp only at h0
        split at h0
        · cases h0
        · have := (Array.getElem?_eq_some_iff.1 h0).1
          omega
      | _ => simp at h0
  have hsb : w.shape? β = some (T, cur.size) := by unfold World.shape?; rw [hh]
  have hov : ∀ lb cb, (callFunc 67 #[.slice (some p) 1 vc, .slice (some ⟨β, o + (i + 1) * 5, none⟩) lb cb]).run Try.prog w = .ok (.value (.bool false)) w := fun lb cb => by
    have hle : o + (i + 1) * 5 ≤ cur.size := by omega
    rw [run_callFunc_extern (P := Try.prog) (f := 67) (fn := Try.f67) (by kernel_rfl) (by kernel_rfl) (by kernel_rfl) (by kernel_rfl) (e := Extern.SlicesOverlaps.overlaps #[23, 23] #[4]) (by kernel_rfl),
      run_overlaps_apart2 w 23 4 39 u23 5 z39 p ⟨β, o + (i + 1) * 5, none⟩ 1 vc lb cb hp tA T kA cur.size hsa hsb hkA (hfzn _ hle) (hfzn _ (Nat.le_refl _))]
    rfl
  have hdl : (OLD.extract (i * 5) (n * 5)).size = (n - i) * 5 := by simp; omega
  have hcp1 : ∀ ty dc sc, (Builtin.copy_ #[23, 23] ty #[.slice (some ⟨β, o + (i + 1) * 5, none⟩) (n - i) dc, .slice (some ⟨β, o + i * 5, none⟩) (n + 1 - i) sc]).run Try.prog w.drew = .ok (goInt ((n - i : Nat) : Int)) (w.drew.setRow β (seg cur (o + (i + 1) * 5) (OLD.extract (i * 5) (n * 5)))) := fun ty dc sc => by
    have hmn : Nat.min (n + 1 - i) (n - i) = n - i := by simp only [Nat.min_def]; split <;> omega
    have := run_copy_seg (P := Try.prog) (W := w.drew) (H := β) (o := o + (i + 1) * 5) (k := 5) (cur := cur) (T := T) (fz := fz) hh u23 z39 (ty := ty) (n - i) dc (n + 1 - i) sc ⟨β, o + i * 5, none⟩ (OLD.extract (i * 5) (n * 5)) (by rw [hmn, hdl])
      (at_row (w := w.drew) hh _ _ (fun j hj => by
        rw [hdl] at hj
        refine ⟨by omega, ?_⟩
        rw [Nat.add_assoc, hOat _ (by omega)]
        simp only [Array.getD_eq_getD_getElem?, Array.getElem?_extract]
        rw [if_pos (by omega)])) (hfz.sub (by omega) (by omega)) (by omega) (fun v hv => h1O v (by
          rw [Array.toList_extract] at hv
          exact List.mem_of_mem_drop (List.mem_of_mem_take hv)))
    rw [hmn] at this
    exact this
  obtain ⟨R1, hR1⟩ : ∃ R1, R1 = seg cur (o + (i + 1) * 5) (OLD.extract (i * 5) (n * 5)) := ⟨_, rfl⟩
  have hR1s : R1.size = cur.size := by rw [hR1]; exact seg_size (by omega)
  obtain ⟨W1, hW1⟩ : ∃ W1, W1 = w.drew.setRow β R1 := ⟨_, rfl⟩
  have hW1h : W1.heap[β]? = some (.cells R1 T fz) := by rw [hW1]; exact setRow_heap w.drew β cur R1 T fz hh
  have hW1c : At W1 p NEW := hNat.mono fun j u hj hc => by
    rw [hW1, ← hc]
    simp only [World.cell?, World.setRow, World.drew, Array.getElem?_modify]
    have : ¬ (β = (p.add j).block) := fun e => hp (by rw [show (p.add j).block = p.block by unfold Addr.add; split <;> rfl] at e; exact e.symm)
    rw [if_neg this]
  have hcp2 : ∀ (W : World), W.heap = W1.heap → ∀ ty dc, (Builtin.copy_ #[23, 23] ty #[.slice (some ⟨β, o + i * 5, none⟩) (n + 1 - i) dc, .slice (some p) 1 vc]).run Try.prog W = .ok (goInt ((1 : Nat) : Int)) (W.setRow β (seg R1 (o + i * 5) NEW)) := fun W hWh ty dc => by
    have hmn : Nat.min 1 (n + 1 - i) = 1 := by simp only [Nat.min_def]; split <;> omega
    have := run_copy_seg (P := Try.prog) (W := W) (H := β) (o := o + i * 5) (k := 5) (cur := R1) (T := T) (fz := fz) (by rw [hWh]; exact hW1h) u23 z39 (ty := ty) (n + 1 - i) dc 1 vc p NEW (by rw [hmn, hN])
      (hW1c.mono fun j u hj hc => by rw [← hc]; simp only [World.cell?, hWh]) (hfz.sub (by omega) (by omega)) (by omega) h1N
    rw [hmn] at this
    exact this
  rw [← hR1, ← hW1] at hcp1
  rw [← hR1, ← hW1]
  clear hOat hNat h1O h1N hsa hsb hfzn hfz hh hW1h hW1c hdl hR1 hW1 hR1s hsz
  go_enter Try.func58, Try.ntmps58
  go_wp2_with (simp only [hov])
  go_region_law_o (refine Go.Proofs.step_copy_runI rfl _ _ 23 23 rfl _ _ (by simp [Act.eval, Act.put]) (by simp [Act.eval, Act.put]) (hcp1 _ _ _) ?_)
  go_wp2_with (at_builtin; refine Go.Proofs.wpList_copy_runI _ rfl _ _ 23 23 rfl _ _ rfl rfl (hcp2 _ rfl _ _) ?_)
  go_ret
  exact ⟨rfl, rfl⟩

set_option maxHeartbeats 4000000 in
set_option maxRecDepth 100000 in
/-- At the end: what append does. -/
theorem ins_end (w : World) (base : Option Addr) (n c vc : Nat) (p : Addr) (u : Value) (w1 : World) (hnc : n ≤ c) (hnil : base = none → n = 0)
    (hrun : ∀ ty, (Builtin.append_ #[23, 23] ty #[.slice base n c, .slice (some p) 1 vc]).run Try.prog w = .ok u w1) :
    Calls Try.prog 58 #[.slice base n c, .int .i64 n, .slice (some p) 1 vc] w fun e w' => e = .returned u ∧ w' = w1 := by
  have mixed : Try.prog.follows Departure.mixedOrders = true := by kernel_rfl
  have u23 := u23
  have z39 := z39
  have ru23 := run_underlying (P := Try.prog) u23
  have hle : (n : Int) ≤ (n : Int) := Int.le_refl _
  go_enter Try.func58, Try.ntmps58
  cases base with
  | none =>
    have h0 := hnil rfl
    subst h0
    go_wp2_with (at_builtin; refine Lib.wpList_append_run _ rfl _ _ _ _ rfl _ _ rfl rfl _ _ (hrun _) ?_)
    all_goals (go_ret; exact ⟨rfl, rfl⟩)
  | some a =>
    obtain ⟨ab, ao, asp⟩ := a
    go_wp2_with (at_builtin; refine Lib.wpList_append_run _ rfl _ _ _ _ rfl _ _ rfl rfl _ _ (hrun _) ?_)
    all_goals (go_ret; exact ⟨rfl, rfl⟩)

/-- What a new row is like. -/
def growP (w : World) (H n i : Nat) (OLD NEW : Array Value) (e : Ending) (w' : World) : Prop :=
  ∃ (G : Nat) (R3 : Array Value), e = .returned (.slice (some ⟨H, 0, none⟩) (n + 1) G) ∧ n + 1 ≤ G ∧ OneMore w w' (.cells R3 39) ∧ R3.size = G * 5 ∧ ∀ j, j < (n + 1) * 5 → R3.getD j undef = insAt OLD NEW i 5 j

set_option maxHeartbeats 4000000 in
set_option maxRecDepth 100000 in
/-- There is no room: a new row. -/
theorem ins_grow (w : World) (H : Nat) (hH : H = w.heap.size) (β o n i vc : Nat) (p : Addr) (OLD NEW : Array Value) (hi : i < n) (hn63 : n + 1 ≤ 2513169434916) (hO : OLD.size = n * 5) (hOat : At w ⟨β, o, none⟩ OLD)
    (hN : NEW.size = 5) (hNat : At w p NEW) (h1O : ∀ v ∈ OLD.toList, one v = true) (h1N : ∀ v ∈ NEW.toList, one v = true) :
    Calls Try.prog 58 #[.slice (some ⟨β, o, none⟩) n n, .int .i64 i, .slice (some p) 1 vc] w (growP w H n i OLD NEW) := by
  have mixed : Try.prog.follows Departure.mixedOrders = true := by kernel_rfl
  have u23 := u23
  have z39 := z39
  have ru23 := run_underlying (P := Try.prog) u23
  have hz2 : ¬ ((i : Int) = (n : Int)) := by omega
  have hw1 : IntKind.i64.wrap ((i : Int) + 1) = (i : Int) + 1 := by rw [IntKind.wrap_i64]; omega
  have hw2 : IntKind.i64.wrap ((n : Int) + 1) = (n : Int) + 1 := by rw [IntKind.wrap_i64]; omega
  have hw3 : IntKind.i64.wrap ((n : Int) + 1 - (i : Int)) = (n : Int) + 1 - (i : Int) := by rw [IntKind.wrap_i64]; omega
  have hb1 : (0 : Int) ≤ (i : Int) + 1 := by omega
  have hin : i ≤ n := by omega
  have hb4 : ¬ (n = i) := by omega
  have htn : ((i : Int) + 1).toNat = i + 1 := by omega
  have hb3 : (i : Int) ≤ (n : Int) + 1 := by omega
  have hb5 : (i : Int) + 1 ≤ (n : Int) + 1 := by omega
  have hik : i + (n + 1 - i) = n + 1 := by omega
  have hkk : (n : Int) + 1 - (i : Int) = ((n + 1 - i : Nat) : Int) := by omega
  obtain ⟨i0, z0, hi0, hs0, hby0, hz0, hzs0, _⟩ := (ok.env fun _ => False).info 39 _ (tb39 fun _ => False)
  have hs0 : i0.size = 5 := hs0
  have hby0 : i0.bytes = 56 := hby0
  have hzs0 : z0.cells.size = 5 := hzs0
  have hbw : β < w.heap.size := cell?_lt (hOat 0 (by omega))
  have hpw : p.block < w.heap.size := by have := cell?_lt (hNat 0 (by omega)); rwa [Addr.add_zero'] at this
  have hold : (Builtin.firstCells i0.size i (.slice (some ⟨β, o, none⟩) i n)).run Try.prog w.drew = .ok (OLD.extract 0 (i * 5)).toList.toArray w.drew := by
    rw [hs0, Array.toArray_toList]
    refine first_of (w := w.drew) (fun j hj => ?_) (by simp; omega)
    have hj' : j < i * 5 := by simp at hj; omega
    have := hOat j (by omega)
    show w.cell? _ = _
    rw [this]
    simp only [Array.getD_eq_getD_getElem?, Array.getElem?_extract]
    rw [if_pos (by omega), Nat.zero_add]
  have hrz : ∀ ty, (Builtin.append_ #[23, 3] ty #[.slice (some ⟨β, o, none⟩) i n, .int .i64 ((n + 1 - i : Nat) : Int)]).run Try.prog w =
      .ok (.slice (some ⟨w.heap.size, 0, none⟩) (n + 1) (grownCap w (n + 1) n 39)) (w.drew.alloc (.cells ((OLD.extract 0 (i * 5)).toList.toArray ++ Builtin.zeroCells z0.cells (n + 1 - i) ++ Builtin.zeroCells z0.cells (grownCap w (n + 1) n 39 - (n + 1))) 39)) := fun ty => by
    have h := Lib.run_append_grow_zeros w 23 3 ty 39 i0 z0 .i64 .i64 u23 (by kernel_rfl) hi0 hz0 (some ⟨β, o, none⟩) i n (OLD.extract 0 (i * 5)).toList hold (n + 1 - i) (by omega) (by omega) (by omega) (by omega) (by rw [hby0]; omega)
      (by rw [hby0, hik]; exact growslice_fits (by omega) (by omega))
    rw [hik] at h
    exact h
  obtain ⟨G, hG⟩ : ∃ G, G = grownCap w (n + 1) n 39 := ⟨_, rfl⟩
  have hGn : n + 1 ≤ G := by rw [hG]; exact grownCap_ge w _ _ _
  rw [← hG] at hrz
  obtain ⟨R1, hR1⟩ : ∃ R1, R1 = (OLD.extract 0 (i * 5)).toList.toArray ++ Builtin.zeroCells z0.cells (n + 1 - i) ++ Builtin.zeroCells z0.cells (G - (n + 1)) := ⟨_, rfl⟩
  have hR1s : R1.size = G * 5 := by rw [hR1]; simp [Builtin.zeroCells, hzs0]; omega
  have hR1a : ∀ j, j < i * 5 → R1.getD j undef = OLD.getD j undef := fun j hj => by
    rw [hR1, Array.toArray_toList, Array.append_assoc]
    simp only [Array.getD_eq_getD_getElem?]
    rw [Array.getElem?_append_left (by simp; omega), Array.getElem?_extract, if_pos (by omega), Nat.zero_add]
  rw [← hR1] at hrz
  rw [← hH] at hrz hbw hpw
  obtain ⟨W1, hW1⟩ : ∃ W1, W1 = w.drew.alloc (.cells R1 39) := ⟨_, rfl⟩
  have hW1h : W1.heap[H]? = some (.cells R1 39 (0, 0)) := by rw [hW1, hH]; exact (oneMore_alloc w.drew _).new
  have hW1c : ∀ a u, w.cell? a = some u → W1.cell? a = some u := fun a u hc => by rw [hW1]; exact (oneMore_alloc w.drew _).cell hc
  have hW1o : W1.heap = w.heap.push (.cells R1 39) ∧ W1.os = w.os ∧ W1.tape = w.tape ∧ W1.output = w.output := by rw [hW1]; exact ⟨rfl, rfl, rfl, rfl⟩
  rw [← hW1] at hrz
  have hR2s : (seg R1 (i * 5) NEW).size = G * 5 := by rw [seg_size (by omega)]; exact hR1s
  obtain ⟨R2, hR2⟩ : ∃ R2, R2 = seg R1 (i * 5) NEW := ⟨_, rfl⟩
  rw [← hR2] at hR2s
  have hcp1 : ∀ (W : World), W.heap = W1.heap → ∀ ty dc, (Builtin.copy_ #[23, 23] ty #[.slice (some ⟨H, i * 5, none⟩) (n + 1 - i) dc, .slice (some p) 1 vc]).run Try.prog W = .ok (goInt ((1 : Nat) : Int)) (W.setRow H R2) := fun W hWh ty dc => by
    have hmn : Nat.min 1 (n + 1 - i) = 1 := by simp only [Nat.min_def]; split <;> omega
    have := run_copy_seg (P := Try.prog) (W := W) (H := H) (o := i * 5) (k := 5) (cur := R1) (T := 39) (fz := (0, 0)) (by rw [hWh]; exact hW1h) u23 z39 (ty := ty) (n + 1 - i) dc 1 vc p NEW (by rw [hmn, hN])
      (hNat.mono fun j u hj hc => by rw [← hW1c _ _ hc]; simp only [World.cell?, hWh]) (noFreeze_zero _ _) (by omega) h1N
    rw [hmn] at this
    rw [hR2]
    exact this
  have hdl : (OLD.extract (i * 5) (n * 5)).size = (n - i) * 5 := by simp; omega
  obtain ⟨R3, hR3⟩ : ∃ R3, R3 = seg R2 ((i + 1) * 5) (OLD.extract (i * 5) (n * 5)) := ⟨_, rfl⟩
  have hR3s : R3.size = G * 5 := by rw [hR3, seg_size (by omega)]; exact hR2s
  have hcp2 : ∀ (W : World), W.heap = (W1.setRow H R2).heap → ∀ ty dc sc, (Builtin.copy_ #[23, 23] ty #[.slice (some ⟨H, (i + 1) * 5, none⟩) (n - i) dc, .slice (some ⟨β, o + i * 5, none⟩) (n - i) sc]).run Try.prog W = .ok (goInt ((n - i : Nat) : Int)) (W.setRow H R3) := fun W hWh ty dc sc => by
    have hmn : Nat.min (n - i) (n - i) = n - i := Nat.min_self _
    have := run_copy_seg (P := Try.prog) (W := W) (H := H) (o := (i + 1) * 5) (k := 5) (cur := R2) (T := 39) (fz := (0, 0)) (by rw [hWh]; exact setRow_heap W1 H R1 R2 39 (0, 0) hW1h) u23 z39 (ty := ty) (n - i) dc (n - i) sc ⟨β, o + i * 5, none⟩ (OLD.extract (i * 5) (n * 5)) (by rw [hmn, hdl])
      (fun j hj => by
        rw [hdl] at hj
        have h1 := hW1c _ _ (hOat (i * 5 + j) (by omega))
        rw [add_none] at h1 ⊢
        rw [Nat.add_assoc]
        have e : W.cell? ⟨β, o + (i * 5 + j), none⟩ = W1.cell? ⟨β, o + (i * 5 + j), none⟩ := by
          simp only [World.cell?, hWh, World.setRow, Array.getElem?_modify]
          rw [if_neg (by omega)]
        rw [e, h1]
        simp only [Array.getD_eq_getD_getElem?, Array.getElem?_extract]
        rw [if_pos (by omega)]) (noFreeze_zero _ _) (by omega) (fun v hv => h1O v (by
          rw [Array.toList_extract] at hv
          exact List.mem_of_mem_drop (List.mem_of_mem_take hv)))
    rw [hmn] at this
    rw [hR3]
    exact this
  have hfin : ∀ j, j < (n + 1) * 5 → R3.getD j undef = insAt OLD NEW i 5 j := fun j hj => by
    unfold insAt
    rw [hR3, seg_getD (by omega), hdl]
    by_cases h1 : j < i * 5
    · rw [if_pos h1, if_neg (by omega), hR2, seg_getD (by omega), if_neg (by omega)]
      exact hR1a j h1
    · rw [if_neg h1]
      by_cases h2 : j < (i + 1) * 5
      · rw [if_pos h2, if_neg (by omega), hR2, seg_getD (by omega), if_pos (by omega)]
      · rw [if_neg h2, if_pos (by omega)]
        simp only [Array.getD_eq_getD_getElem?, Array.getElem?_extract]
        rw [if_pos (by omega), show i * 5 + (j - (i + 1) * 5) = j - 5 by omega]
  have hone : ∀ W : World, W.heap = ((W1.setRow H R2).setRow H R3).heap → W.os = w.os → W.tape = w.tape → W.output = w.output → OneMore w W (.cells R3 39) := fun W h1 h2 h3 h4 => ⟨by
    rw [h1]
    have e1 : (W1.setRow H R2).heap[H]? = some (.cells R2 39 (0, 0)) := setRow_heap W1 H R1 R2 39 (0, 0) hW1h
    have e2 := setRow_heap (W1.setRow H R2) H R2 R3 39 (0, 0) e1
    apply Array.ext_getElem?
    intro j
    by_cases e : j = H
    · subst e
      rw [e2, hH]
      simp
    · have : ((W1.setRow H R2).setRow H R3).heap[j]? = W1.heap[j]? := by
        simp only [World.setRow, Array.getElem?_modify]
        rw [if_neg (fun h => e h.symm), if_neg (fun h => e h.symm)]
      rw [this, hW1o.1, Array.getElem?_push, Array.getElem?_push, if_neg (by omega), if_neg (by omega)], h2, h3, h4⟩
  have hos := hW1o.2.1
  have htp := hW1o.2.2.1
  have hou := hW1o.2.2.2
  have hGi : ¬ (G = i) := by omega
  have hGi1 : ¬ (G = i + 1) := by omega
  clear hOat hNat h1O h1N hold hdl hR3 hR2 hR1 hW1 hG hR1a hW1h hW1c hW1o hi0 hz0 hs0 hby0 hzs0 hH
  go_enter Try.func58, Try.ntmps58
  go_wp2_with (at_builtin; first | refine Lib.wpList_append_run _ rfl _ _ _ _ rfl _ _ rfl rfl _ _ (hrz _) ?_ | refine Go.Proofs.wpList_copy_runI _ rfl _ _ 23 23 rfl _ _ rfl rfl (hcp1 _ rfl _ _) ?_)
  go_region_law_o (refine Go.Proofs.step_copy_runI rfl _ _ 23 23 rfl _ _ (by simp [Act.eval, Act.put]) (by simp [Act.eval, Act.put]) (hcp2 (W1.setRow H R2).drew rfl _ (G - (i + 1)) (n - i)) ?_)
  go_wp2
  go_ret
  exact ⟨G, R3, rfl, hGn, hone _ rfl hos htp hou, hR3s, hfin⟩
end Go.Proofs.Ytomjphpnpcgacaa
/-
  slices.Insert, at packets, as a contract of the library R.
-/
namespace Go.Proofs.Ytomjphpnpcgacaa
open Go.Rv Go.RowKit
set_option linter.unusedVariables false
set_option linter.unusedSimpArgs false
set_option maxRecDepth 20000

theorem elsRep_g {w : World} {pr : Addr → Prop} {g : Gh} {k : Nat} {vs : Array Value} {els : List (List AV)} (h : ElsRep w pr [] k vs els) : ElsRep w pr g k vs els :=
  ⟨h.1, fun i cs j x h1 h2 => ⟨(h.2 i cs j x h1 h2).1.mono (fun a u hc hp => ⟨hc, hp⟩) (GLe.nil _), (h.2 i cs j x h1 h2).2⟩⟩

theorem L_ins (s : List Api_Packet) (x : Api_Packet) (i : Nat) : L cApi_Packet (s.take i ++ [x] ++ s.drop i) = (L cApi_Packet s).take i ++ [cApi_Packet x] ++ (L cApi_Packet s).drop i := by
  simp [L]

theorem con_insert58 {s : List Api_Packet} {i : Int} {v r : List Api_Packet} (h : insertO 56 s i v = some r) : Con B 58 [.bs false 0 (s.length) 0 (s.length), i64 i, .sl false (L cApi_Packet v)] [.buf 5 (L cApi_Packet s) false] (fun r' σ' => r' = .bs false 0 (r.length) 0 (r.length) ∧ σ' = [.buf 5 (L cApi_Packet r) false]) := by
  unfold insertO at h
  split at h
  case isFalse => cases h
  rename_i hc
  obtain ⟨hi, hv1, hfit⟩ := hc
  obtain ⟨x, rfl⟩ := List.length_eq_one_iff.1 hv1
  obtain ⟨k, rfl⟩ : ∃ k : Nat, i = (k : Int) := ⟨i.toNat, by unfold InB at hi; omega⟩
  have hk : k ≤ s.length := by unfold InB at hi; omega
  rw [Int.toNat_natCast] at h
  simp only [Option.some.injEq] at h
  subst h
  obtain ⟨n, hn⟩ : ∃ n, n = s.length := ⟨_, rfl⟩
  have hfit1 : n + 1 ≤ 2513169434916 ∧ (n + 1) * 56 ≤ 140737488355328 := by unfold Fits maxLen roomB at hfit; omega
  obtain ⟨els, hels⟩ : ∃ els, els = L cApi_Packet s := ⟨_, rfl⟩
  have hel : els.length = n := by rw [hels, hn]; simp [L]
  have hes : ∀ c ∈ els, c.length = 5 := by rw [hels]; intro c hc; simp only [L, List.mem_map] at hc; obtain ⟨y, _, rfl⟩ := hc; rfl
  have hcx : (cApi_Packet x).length = 5 := rfl
  rw [L_ins, ← hels, show (s.take k ++ [x] ++ s.drop k).length = n + 1 by simp; omega, ← hn]
  rw [show L cApi_Packet [x] = [cApi_Packet x] from rfl]
  generalize cApi_Packet x = cx at hcx
  have hsz' : ∀ c ∈ els.take k ++ [cx] ++ els.drop k, c.length = 5 := insSize hes hcx
  have hlen' : (els.take k ++ [cx] ++ els.drop k).length = n + 1 := by simp; omega
  refine ⟨fun F w g vs hm ha => .inl ⟨⟨Try.f58, _, Try.func58, rfl, by decide +kernel⟩, ?_⟩⟩
  obtain ⟨vs⟩ := vs
  match vs, ha with
  | [a0, a1, a2], ⟨h0, h1, h2, _⟩ =>
    have hu := rep_int h1
    subst hu
    obtain ⟨a2a, a2l, a2c, rfl⟩ : ∃ a l c, a2 = .slice a l c := by cases h2; exact ⟨_, _, _, rfl⟩
    obtain ⟨e1, p, NEW, rfl, hNr, hNat, hNp⟩ := rows_sl (k := 5) h2 (by intro c hc; rw [List.mem_singleton] at hc; rw [hc]; exact hcx) (by simp)
    have e1 : 1 = a2l := e1
    subst e1
    have hN5 : NEW.size = 5 := by have := hNr.1; simpa using this
    have h1N : ∀ u ∈ NEW.toList, one u = true := elsRep_one hNr (by intro c hc; rw [List.mem_singleton] at hc; rw [hc]; exact hcx)
    have hσ0 : ([ABlk.buf 5 els false] : Store)[0]? = some (.buf 5 els false) := rfl
    by_cases hend : k = n
    · -- at the end
      subst hend
      have hy : appendA (B.env F) [.buf 5 els false] 23 (.bs false 0 k 0 k) (.sl false [cx]) = some (.bs false 0 (k + 1) 0 (k + 1), [.buf 5 (els ++ [cx]) false]) := by
        unfold appendA
        have hfa : k + 1 ≤ maxLen ∧ (k + 1) * 56 ≤ roomB := by unfold maxLen roomB; omega
        simp [tb23, tb39, view, strBad, hel, hcx, hfa]
      obtain ⟨u, w', g', hr, hm', hle, hev, hrep⟩ := append_sound (u := 23) (ty := 0) (ok.env F) hm h0 h2 (tb23 F) (by intro k' e'; cases e') hy
      have hrep0 := h0
      cases h0 with
      | bs _ _ _ _ _ _ _ b hgb hbx htot hat ho =>
        obtain ⟨k1, k2, k3, k4, k5, k6, k7⟩ := hm.blk 0 b _ hgb hσ0
        obtain ⟨a, cap, rfl, q2, q3, q4, q5⟩ := hat (by omega)
        refine (ins_end w a k cap a2c p u w' q2 (fun e => ?_) (fun ty => hr)).mono fun e w2 ⟨e1, e2⟩ => ?_
        · subst e
          rcases q5 with q5 | ⟨β, _, q5, _⟩
          · omega
          · cases q5
        · subst e1 e2
          refine ⟨u, _, _, g', rfl, ⟨rfl, ?_⟩, hm', hev.of_gle hle, hrep⟩
          rw [show els.take k = els by rw [← hel]; exact List.take_length, show els.drop k = [] by rw [← hel]; exact List.drop_length, List.append_nil]
    have hkn : k < n := by omega
    rw [show n = els.length from hel.symm] at h0
    obtain ⟨b, β, cap, arr, T, fz, hgb, hbx, hbro, hbk, hbl, hβ, rfl, hcap, hce, hh, hsz, hfz, _, hOr⟩ := rows_bs hm hσ0 h0 (by omega)
    rw [hel] at hbl hcap hOr
    simp only [hel]
    have hfz : noFreeze fz 0 (arr.size + 1) := hfz
    obtain ⟨OLD, hOLD⟩ : ∃ OLD, OLD = arr.extract b.o (b.o + n * 5) := ⟨_, rfl⟩
    rw [← hOLD] at hOr
    have hOs : OLD.size = n * 5 := by have := hOr.1; rw [hel] at this; exact this
    have h1O : ∀ u ∈ OLD.toList, one u = true := elsRep_one hOr hes
    have hOg : ∀ j, j < n * 5 → arr.getD (b.o + j) undef = OLD.getD j undef := fun j hj => by
      rw [hOLD]
      simp only [Array.getD_eq_getD_getElem?, Array.getElem?_extract]
      rw [if_pos (by omega)]
    have hOat : At w ⟨β, b.o, none⟩ OLD := at_row hh b.o OLD fun j hj => ⟨by omega, hOg j (by omega)⟩
    have hpβ : p.block ≠ β := fun e => by
      have hp := hNp 0 (by simp)
      rw [Addr.add_zero'] at hp
      have := (hp.2 0 b hgb (by rw [hβ, e])).1
      rw [hbro] at this
      cases this
    have hins := fun m c j x hm hj => insRep (i := k) hOr (elsRep_g (g := g) hNr) hes hcx (by omega) m c j x hm hj
    rw [hel] at hins
    by_cases hfull : cap = n
    · -- no room
      subst hfull
      refine (ins_grow w w.heap.size rfl β b.o cap k a2c p OLD NEW hkn (by omega) hOs hOat hN5 hNat h1O h1N).mono ?_
      rintro e w' ⟨G, R3, rfl, hG, hone, hRs, hR⟩
      have hmv := mem_move (b' := { blk := some w.heap.size, o := 0, k := 5, len := cap + 1, ce := G, isBox := false, ro := false }) (ab' := .buf 5 (els.take k ++ [cx] ++ els.drop k) false) hm hone hgb rfl (.inr ⟨hbx, rfl, by rw [hbl]; exact Nat.lt_succ_self _⟩) (by
        intro hcells hle
        refine ⟨rfl, rfl, rfl, hlen'.symm, fun i cs hi => hsz' cs (List.mem_of_getElem? hi), fun e => (by cases e), fun β' hβ' => ?_⟩
        cases hβ'
        refine ⟨R3, 39, (0, 0), hone.new, by simp; omega, by rw [hlen']; exact hG, noFreeze_zero _ _, fun m c j y hmm hj => ?_⟩
        obtain ⟨q1, q2, q3⟩ := hins m c j y hmm hj
        rw [show 0 + m * 5 + j = m * 5 + j by omega, hR _ q1]
        exact ⟨q2.mono hcells hle, q3⟩)
      refine ⟨_, _, _, _, rfl, ⟨rfl, rfl⟩, hmv.1, hmv.2.2.of_gle hmv.2.1, ?_⟩
      refine .bs _ _ _ _ _ _ _ _ (set_self hgb) rfl (Nat.le_refl _) (fun _ => ?_) rfl
      exact ⟨_, G, rfl, hG, (by intro h; cases h), by simp, .inr ⟨_, rfl, by simp, by simp⟩⟩
    · -- room
      have hc1 : n + 1 ≤ cap := by omega
      have hcs : b.o + cap * 5 ≤ arr.size := by
        have : cap * 5 ≤ b.ce * 5 := Nat.mul_le_mul_right 5 hce
        omega
      refine (ins_shift w β b.o n cap k a2c p arr OLD NEW T fz hkn hc1 (by omega) hh hcs hfz hOs hOg hN5 hpβ hNat h1O h1N).mono ?_
      rintro e w' ⟨rfl, rfl⟩
      have hd : (OLD.extract (k * 5) (n * 5)).size = (n - k) * 5 := by simp; omega
      obtain ⟨R1, hR1⟩ : ∃ R1, R1 = seg arr (b.o + (k + 1) * 5) (OLD.extract (k * 5) (n * 5)) := ⟨_, rfl⟩
      have hR1s : R1.size = arr.size := by rw [hR1]; exact seg_size (by omega)
      rw [← hR1]
      obtain ⟨R2, hR2⟩ : ∃ R2, R2 = seg R1 (b.o + k * 5) NEW := ⟨_, rfl⟩
      have hR2s : R2.size = arr.size := by rw [hR2, seg_size (by omega)]; exact hR1s
      rw [← hR2]
      have hR : ∀ j, j < (n + 1) * 5 → R2.getD (b.o + j) undef = insAt OLD NEW k 5 j := fun j hj => by
        unfold insAt
        rw [hR2, seg_getD (by omega)]
        by_cases h1 : j < k * 5
        · rw [if_pos h1, if_neg (by omega), hR1, seg_getD (by omega), if_neg (by omega)]
          exact hOg j (by omega)
        · rw [if_neg h1]
          by_cases h2 : j < (k + 1) * 5
          · rw [if_pos h2, if_pos (by omega), show b.o + j - (b.o + k * 5) = j - k * 5 by omega]
          · rw [if_neg h2, if_neg (by omega), hR1, seg_getD (by omega), if_pos (by omega)]
            simp only [Array.getD_eq_getD_getElem?, Array.getElem?_extract]
            rw [if_pos (by omega), show k * 5 + (b.o + j - (b.o + (k + 1) * 5)) = j - 5 by omega]
      have hx1 : (w.drew.setRow β R1).heap[β]? = some (.cells R1 T fz) := setRow_heap w.drew β arr R1 T fz hh
      have hw : Wrote w ((w.drew.setRow β R1).setRow β R2) β arr R2 T fz := by
        refine ⟨hh, setRow_heap _ β R1 R2 T fz hx1, hR2s, ?_, by simp [World.setRow], rfl, rfl, rfl⟩
        intro j hj
        simp only [World.setRow, World.drew, Array.getElem?_modify]
        rw [if_neg (fun e => hj e.symm), if_neg (fun e => hj e.symm)]
      have hmw := mem_write (b' := { b with len := n + 1 }) (ab' := .buf 5 (els.take k ++ [cx] ++ els.drop k) false) hm hw hgb hβ hβ (.inr ⟨hbx, hbx, by rw [hbl]; exact Nat.lt_succ_self _⟩) (by
        intro hro
        rw [hbro] at hro; cases hro) (by
        intro hcells hle
        refine ⟨hbx, hbro, hbk, hlen'.symm, fun i cs hi => hsz' cs (List.mem_of_getElem? hi), fun e => (by rw [hβ] at e; cases e), fun β' hβ' => ?_⟩
        simp only at hβ'
        rw [hβ] at hβ'; cases hβ'
        refine ⟨R2, T, fz, hw.now, by rw [hR2s]; exact hsz, by rw [hlen']; simp only; omega, by rw [hR2s]; exact hfz, fun m c j y hmm hj => ?_⟩
        obtain ⟨q1, q2, q3⟩ := hins m c j y hmm hj
        simp only
        rw [Nat.add_assoc, hR _ q1]
        exact ⟨q2.mono hcells hle, q3⟩)
      refine ⟨_, _, _, _, rfl, ⟨rfl, rfl⟩, hmw.1, hmw.2.2.of_gle hmw.2.1, ?_⟩
      refine .bs _ _ _ _ _ _ _ _ (set_self hgb) hbx (Nat.le_refl _) (fun _ => ?_) rfl
      exact ⟨_, cap, rfl, hc1, (by intro h; cases h), by simp, .inr ⟨β, hβ, by simp, by simpa using hce⟩⟩
end Go.Proofs.Ytomjphpnpcgacaa
/-
  The functions compute just that.
-/
namespace Go.Proofs.Ytomjphpnpcgacaa
open Go.Rv
set_option linter.unusedVariables false
set_option linter.unusedSimpArgs false
set_option maxRecDepth 20000
set_option maxHeartbeats 4000000

theorem window_side_deliver_con {s_1190 : Window_side} {k_1191 : Api_Packet} {r : Window_side} (h : window_side_deliver s_1190 k_1191 = some r) : Con B 43 [.ref 0 0, .agg [i64 k_1191.Epoch, i64 k_1191.To, i64 k_1191.Seq, i64 k_1191.Ack, .sl false (L cU8 k_1191.Data)]] [.box [i64 s_1190.Peer.Epoch, i64 s_1190.Peer.Other, i64 s_1190.Peer.First, .sl false (L (cSl cU8) s_1190.Peer.Queue), i64 s_1190.Peer.Next, .sl false (L cApi_Packet s_1190.Peer.Early), i64 s_1190.Peer.SentAt, .bs false 1 (s_1190.delivered.length) 0 (s_1190.delivered.length)] false, .buf 1 (L (cSl cU8) s_1190.delivered) false] (fun r' σ' => r' = .tup [] ∧ σ' = [.box [i64 r.Peer.Epoch, i64 r.Peer.Other, i64 r.Peer.First, .sl false (L (cSl cU8) r.Peer.Queue), i64 r.Peer.Next, .sl false (L cApi_Packet r.Peer.Early), i64 r.Peer.SentAt, .bs false 1 (r.delivered.length) 0 (r.delivered.length)] false, .buf 1 (L (cSl cU8) r.delivered) false]) := by
  refine con_walk_own (N := 59) (rs := []) 2 rfl ok Try.func43 rfl (by decide +kernel) rfl rfl (Nat.le_of_ble_eq_true rfl) (fun F => ?_)
  have hE := ok.env F
  unfold window_side_deliver at h
  show Run (B.env F) 2 _ ⟨asFr 59 [(0, .ref 0 0), (1, .agg [i64 k_1191.Epoch, i64 k_1191.To, i64 k_1191.Seq, i64 k_1191.Ack, .sl false (L cU8 k_1191.Data)])], [.box [i64 s_1190.Peer.Epoch, i64 s_1190.Peer.Other, i64 s_1190.Peer.First, .sl false (L (cSl cU8) s_1190.Peer.Queue), i64 s_1190.Peer.Next, .sl false (L cApi_Packet s_1190.Peer.Early), i64 s_1190.Peer.SentAt, .bs false 1 (s_1190.delivered.length) 0 (s_1190.delivered.length)] false, .buf 1 (L (cSl cU8) s_1190.delivered) false]⟩ _
  refine run_wkP ?_
  refine run_textE hE [0, 3] (fr' := [(0, .ref 0 0), (3, .ref 2 0)]) (σ' := [.box [i64 s_1190.Peer.Epoch, i64 s_1190.Peer.Other, i64 s_1190.Peer.First, .sl false (L (cSl cU8) s_1190.Peer.Queue), i64 s_1190.Peer.Next, .sl false (L cApi_Packet s_1190.Peer.Early), i64 s_1190.Peer.SentAt, .bs false 1 (s_1190.delivered.length) 0 (s_1190.delivered.length)] false, .buf 1 (L (cSl cU8) s_1190.delivered) false, .box [i64 k_1191.Epoch, i64 k_1191.To, i64 k_1191.Seq, i64 k_1191.Ack, .sl false (L cU8 k_1191.Data)] false]) ⟨_, orcs_nil, ?_⟩ ?_
  · simp only [go_sem]
  refine run_seq ?_
  refine run_drawE hE mixed [[], [0], [], [2], [2, 3], [2, 3, 4], [2, 3, 4, 5], [0, 1, 2, 3, 4, 5, 6]] (by kernel_rfl) (by kernel_rfl) [0, 3, 11] (fr' := [(0, .ref 0 0), (3, .ref 2 0), (11, .bool ((k_1191.Seq != s_1190.Peer.Next)))]) (σ' := [.box [i64 s_1190.Peer.Epoch, i64 s_1190.Peer.Other, i64 s_1190.Peer.First, .sl false (L (cSl cU8) s_1190.Peer.Queue), i64 s_1190.Peer.Next, .sl false (L cApi_Packet s_1190.Peer.Early), i64 s_1190.Peer.SentAt, .bs false 1 (s_1190.delivered.length) 0 (s_1190.delivered.length)] false, .buf 1 (L (cSl cU8) s_1190.delivered) false, .box [i64 k_1191.Epoch, i64 k_1191.To, i64 k_1191.Seq, i64 k_1191.Ack, .sl false (L cU8 k_1191.Data)] false]) ⟨_, orcs_nil, ?_⟩ ?_
  · simp only [go_sem]
  refine run_condL (b := (k_1191.Seq != s_1190.Peer.Next)) rfl (by decide) (fun hb => ?_) (fun hb => ?_)
  · replace h := ite_t h hb
    refine run_ret ?_
    refine thenK_r ?_
    obtain rfl := Option.some.inj h
    refine wkP_of (Weak.refl _ _) ?_
    refine ret_own (.inr rfl) [0, 1] (by decide) rfl ?_ ?_
    · simp only [go_sem]
    · simp only [go_sem]
  · replace h := ite_f h hb
    refine run_skip ?_
    refine thenK_n ?_
    replace h := bind_some1 h; obtain ⟨y_1253, hy_1254, h⟩ := h
    replace h := lt1_some h; obtain ⟨l_1255, hz_1256, h⟩ := h
    refine run_textE hE [0] (fr' := [(0, .ref 0 0)]) (σ' := [.box [i64 y_1253.Peer.Epoch, i64 y_1253.Peer.Other, i64 y_1253.Peer.First, .sl false (L (cSl cU8) y_1253.Peer.Queue), i64 y_1253.Peer.Next, .sl false (L cApi_Packet y_1253.Peer.Early), i64 y_1253.Peer.SentAt, .bs false 1 (l_1255.length) 0 (l_1255.length)] false, .buf 1 (L (cSl cU8) l_1255) false, .box [i64 k_1191.Epoch, i64 k_1191.To, i64 k_1191.Seq, i64 k_1191.Ack, .sl false (L cU8 k_1191.Data)] false]) ⟨_, orcs_ok2 (l := []) (m := [(15, 60, [.ref 0 0, .sl false (L cU8 k_1191.Data)], [.box [i64 s_1190.Peer.Epoch, i64 s_1190.Peer.Other, i64 s_1190.Peer.First, .sl false (L (cSl cU8) s_1190.Peer.Queue), i64 s_1190.Peer.Next, .sl false (L cApi_Packet s_1190.Peer.Early), i64 s_1190.Peer.SentAt, .bs false 1 (s_1190.delivered.length) 0 (s_1190.delivered.length)] false, .buf 1 (L (cSl cU8) s_1190.delivered) false, .box [i64 k_1191.Epoch, i64 k_1191.To, i64 k_1191.Seq, i64 k_1191.Ack, .sl false (L cU8 k_1191.Data)] false], .tup [], [.box [i64 y_1253.Peer.Epoch, i64 y_1253.Peer.Other, i64 y_1253.Peer.First, .sl false (L (cSl cU8) y_1253.Peer.Queue), i64 y_1253.Peer.Next, .sl false (L cApi_Packet y_1253.Peer.Early), i64 y_1253.Peer.SentAt, .bs false 1 (y_1253.delivered.length) 0 (y_1253.delivered.length)] false, .buf 1 (L (cSl cU8) y_1253.delivered) false, .box [i64 k_1191.Epoch, i64 k_1191.To, i64 k_1191.Seq, i64 k_1191.Ack, .sl false (L cU8 k_1191.Data)] false])]) trivial ⟨(wcon_call (window_side_take_con hy_1254) [0, 1] (by decide) (by simp only [go_sem]) (by simp only [go_sem]) (by simp only [go_sem]) (by simp only [go_sem]) (by simp only [go_sem])), trivial⟩, ?_⟩ ?_
    · subst hz_1256; simp only [go_sem]
    refine run_block ?_
    replace h := bind_some1 h; obtain ⟨x_1297, hx_1298, hj_1299⟩ := h
    refine run_loopO hx_1298 (fun (v : Int × Int × Int × List (List UInt8) × Int × List Api_Packet × Int × List (List UInt8)) => (⟨asFr 59 [(0, .ref 0 0)], [.box [i64 v.1, i64 v.2.1, i64 v.2.2.1, .sl false (L (cSl cU8) v.2.2.2.1), i64 v.2.2.2.2.1, .sl false (L cApi_Packet v.2.2.2.2.2.1), i64 v.2.2.2.2.2.2.1, .bs false 1 (v.2.2.2.2.2.2.2.length) 0 (v.2.2.2.2.2.2.2.length)] false, .buf 1 (L (cSl cU8) v.2.2.2.2.2.2.2) false]⟩ : St)) (weak_sel [0, 1] (by decide) rfl (by simp only [go_sem]) (by simp only [go_sem])) ?_
    rintro ⟨f_1269, f_1270, f_1271, f_1272, f_1273, f_1274, f_1275, l_1276⟩ o_1300 h hxx_1301
    replace h : window_side_deliver_b1 f_1269 f_1270 f_1271 f_1272 f_1273 f_1274 f_1275 l_1276 = some o_1300 := h
    unfold window_side_deliver_b1 at h
    refine run_seq ?_
    replace h := bind_some1 h; obtain ⟨t_1302, hv_1303, h⟩ := h
    refine run_drawW hE mixed [[], [0], [0, 1], [0, 1, 2], [0, 1, 2, 3], [0, 1, 2, 3, 4], [0, 1, 2, 3, 4, 5], [0, 1, 2, 3, 4, 5, 6], [0, 1, 2, 3, 4, 5, 6, 7], [0, 1, 2, 3, 4, 5, 6, 7, 8], [0, 1, 2, 3, 4, 5, 6, 7, 8, 9], [0, 1, 2, 3, 4, 5, 6, 7, 8, 9, 10], [0, 1, 2, 3, 4, 5, 6, 7, 8, 9, 10, 11], [0, 1, 2, 3, 4, 5, 6, 7, 8, 9, 10, 11, 12], [0, 1, 2, 3, 4, 5, 6, 7, 8, 9, 10, 11, 12, 13], [0, 1, 2, 3, 4, 5, 6, 7, 8, 9, 10, 11, 12, 13, 14], [0, 1, 2, 3, 4, 5, 6, 7], [0, 1, 2, 3, 4, 5, 6, 7, 16], [0, 1, 2, 3, 4, 5, 6, 7, 16, 17], [0, 1, 2, 3, 4, 5, 6, 7, 16, 17, 18], [0, 1, 2, 3, 4, 5, 6, 7, 16, 17, 18, 19], [0, 1, 2, 3, 4, 5, 6, 7, 8, 9, 10, 11, 12, 13, 14, 15, 16, 17, 18, 19, 20], [0, 1, 2, 3, 4, 5, 6, 7, 8, 9, 10, 11, 12, 13, 14, 15, 16, 17, 18, 19, 20, 21]] (by kernel_rfl) (by kernel_rfl) [0, 38] (fr' := [(0, .ref 0 0), (38, .bool t_1302)]) (σ' := [.box [i64 f_1269, i64 f_1270, i64 f_1271, .sl false (L (cSl cU8) f_1272), i64 f_1273, .sl false (L cApi_Packet f_1274), i64 f_1275, .bs false 1 (l_1276.length) 0 (l_1276.length)] false, .buf 1 (L (cSl cU8) l_1276) false]) ?_ ?_
    · rcases Bool.eq_false_or_eq_true ((decide ((f_1274.length : Int) > 0))) with hb_1304 | hb_1304
      · replace hv_1303 := ite_t hv_1303 hb_1304
        replace hv_1303 := chk_some hv_1303; obtain ⟨hc_1305, hv_1303⟩ := hv_1303
        have e_hv_1303 := Option.some.inj hv_1303; subst e_hv_1303
        exact ⟨_, [(0, .ref 0 0), (38, .bool (((nth f_1274 0).Seq == f_1273)))], [.box [i64 f_1269, i64 f_1270, i64 f_1271, .sl false (L (cSl cU8) f_1272), i64 f_1273, .sl false (L cApi_Packet f_1274), i64 f_1275, .bs false 1 (l_1276.length) 0 (l_1276.length)] false, .buf 1 (L (cSl cU8) l_1276) false], orcs_nil, by simp only [go_sem, Int.reduceToNat, hb_1304, hc_1305, (show 0 < f_1274.length from hc_1305.2)], (weak_sel [0, 1] (by decide) rfl (by simp only [go_sem]) (by simp only [go_sem]))⟩
      · replace hv_1303 := ite_f hv_1303 hb_1304
        have e_hv_1303 := Option.some.inj hv_1303; subst e_hv_1303
        exact ⟨_, [(0, .ref 0 0), (38, .bool false)], [.box [i64 f_1269, i64 f_1270, i64 f_1271, .sl false (L (cSl cU8) f_1272), i64 f_1273, .sl false (L cApi_Packet f_1274), i64 f_1275, .bs false 1 (l_1276.length) 0 (l_1276.length)] false, .buf 1 (L (cSl cU8) l_1276) false], orcs_nil, by simp only [go_sem, Int.reduceToNat, hb_1304], (weak_sel [0, 1] (by decide) rfl (by simp only [go_sem]) (by simp only [go_sem]))⟩
    refine run_condL (b := t_1302) rfl (by decide) (fun hb => ?_) (fun hb => ?_)
    · replace h := ite_t h hb
      refine run_skip ?_
      refine thenK_n ?_
      refine run_block ?_
      replace h := chk_some h; obtain ⟨hc_1307, h⟩ := h
      replace h := bind_some1 h; obtain ⟨y_1306, hy_1308, h⟩ := h
      replace h := lt1_some h; obtain ⟨l_1309, hz_1310, h⟩ := h
      refine run_textE hE [0] (fr' := [(0, .ref 0 0)]) (σ' := [.box [i64 y_1306.Peer.Epoch, i64 y_1306.Peer.Other, i64 y_1306.Peer.First, .sl false (L (cSl cU8) y_1306.Peer.Queue), i64 y_1306.Peer.Next, .sl false (L cApi_Packet y_1306.Peer.Early), i64 y_1306.Peer.SentAt, .bs false 1 (l_1309.length) 0 (l_1309.length)] false, .buf 1 (L (cSl cU8) l_1309) false]) ⟨_, orcs_ok2 (l := []) (m := [(48, 60, [.ref 0 0, .sl false (L cU8 ((nth f_1274 0).Data))], [.box [i64 f_1269, i64 f_1270, i64 f_1271, .sl false (L (cSl cU8) f_1272), i64 f_1273, .sl false (L cApi_Packet f_1274), i64 f_1275, .bs false 1 (l_1276.length) 0 (l_1276.length)] false, .buf 1 (L (cSl cU8) l_1276) false], .tup [], [.box [i64 y_1306.Peer.Epoch, i64 y_1306.Peer.Other, i64 y_1306.Peer.First, .sl false (L (cSl cU8) y_1306.Peer.Queue), i64 y_1306.Peer.Next, .sl false (L cApi_Packet y_1306.Peer.Early), i64 y_1306.Peer.SentAt, .bs false 1 (y_1306.delivered.length) 0 (y_1306.delivered.length)] false, .buf 1 (L (cSl cU8) y_1306.delivered) false])]) trivial ⟨(wcon_call (window_side_take_con hy_1308) [0, 1] (by decide) (by simp only [go_sem]) (by simp only [go_sem]) (by simp only [go_sem]) (by simp only [go_sem]) (by simp only [go_sem])), trivial⟩, ?_⟩ ?_
      · subst hz_1310; simp only [go_sem, Int.reduceToNat, hc_1307, (show 0 < f_1274.length from hc_1307.2)]
      replace h := chk_some h; obtain ⟨hc_1311, h⟩ := h
      replace h := lt1_some h; obtain ⟨f_1312, hz_1313, h⟩ := h
      refine run_textE0 hE (wk_block wk_lp) [0] (fr' := [(0, .ref 0 0)]) (σ' := [.box [i64 y_1306.Peer.Epoch, i64 y_1306.Peer.Other, i64 y_1306.Peer.First, .sl false (L (cSl cU8) y_1306.Peer.Queue), i64 y_1306.Peer.Next, .sl false (L cApi_Packet f_1312), i64 y_1306.Peer.SentAt, .bs false 1 (l_1309.length) 0 (l_1309.length)] false, .buf 1 (L (cSl cU8) l_1309) false]) ⟨_, orcs_nil, ?_⟩ ?_
      · subst hz_1313; simp only [go_sem, Int.reduceToNat, Nat.reduceLeDiff, hc_1311]
      refine blockK_n ?_
      obtain rfl := Option.some.inj h
      exact lpK_n ((y_1306.Peer.Epoch, y_1306.Peer.Other, y_1306.Peer.First, y_1306.Peer.Queue, y_1306.Peer.Next, f_1312, y_1306.Peer.SentAt, l_1309)) rfl (weak_sel [0, 1] (by decide) rfl (by simp only [go_sem]) (by simp only [go_sem]))
    · replace h := ite_f h hb
      refine run_exit ?_
      refine thenK_x ?_
      obtain rfl := Option.some.inj h
      have ex_x_1297 := hxx_1301 _ rfl
      subst ex_x_1297
      have h := hj_1299; clear hj_1299
      refine lpK_x ?_
      refine blockK_x ?_
      obtain rfl := Option.some.inj h
      refine wkP_of (Weak.refl _ _) ?_
      refine ret_own (.inl rfl) [0, 1] (by decide) rfl ?_ ?_
      · simp only [go_sem]
      · simp only [go_sem]

theorem slices_Insert_58_con {s : List Api_Packet} {i : Int} {v : List Api_Packet} {r : List Api_Packet} (h : slices_Insert_58 s i v = some r) : Con B 58 [.bs false 0 (s.length) 0 (s.length), i64 i, .sl false (L cApi_Packet v)] [.buf 5 (L cApi_Packet s) false] (fun r' σ' => r' = .bs false 0 (r.length) 0 (r.length) ∧ σ' = [.buf 5 (L cApi_Packet r) false]) :=
  con_insert58 h

end Go.Proofs.Ytomjphpnpcgacaa
/-
  The functions compute just that.
-/
namespace Go.Proofs.Ytomjphpnpcgacaa
open Go.Rv
set_option linter.unusedVariables false
set_option linter.unusedSimpArgs false
set_option maxRecDepth 20000
set_option maxHeartbeats 4000000

theorem window_side_keep_con {s_1314 : Window_side} {k_1315 : Api_Packet} {r : Window_side} (h : window_side_keep s_1314 k_1315 = some r) : Con B 42 [.ref 0 0, .agg [i64 k_1315.Epoch, i64 k_1315.To, i64 k_1315.Seq, i64 k_1315.Ack, .sl false (L cU8 k_1315.Data)]] [.box [i64 s_1314.Peer.Epoch, i64 s_1314.Peer.Other, i64 s_1314.Peer.First, .sl false (L (cSl cU8) s_1314.Peer.Queue), i64 s_1314.Peer.Next, .sl false (L cApi_Packet s_1314.Peer.Early), i64 s_1314.Peer.SentAt, .bs false 1 (s_1314.delivered.length) 0 (s_1314.delivered.length)] false, .buf 1 (L (cSl cU8) s_1314.delivered) false] (fun r' σ' => r' = .tup [] ∧ σ' = [.box [i64 r.Peer.Epoch, i64 r.Peer.Other, i64 r.Peer.First, .sl false (L (cSl cU8) r.Peer.Queue), i64 r.Peer.Next, .sl false (L cApi_Packet r.Peer.Early), i64 r.Peer.SentAt, .bs false 1 (r.delivered.length) 0 (r.delivered.length)] false, .buf 1 (L (cSl cU8) r.delivered) false]) := by
  refine con_walk_own (N := 57) (rs := []) 2 rfl ok Try.func42 rfl (by decide +kernel) rfl rfl (Nat.le_of_ble_eq_true rfl) (fun F => ?_)
  have hE := ok.env F
  unfold window_side_keep at h
  show Run (B.env F) 2 _ ⟨asFr 57 [(0, .ref 0 0), (1, .agg [i64 k_1315.Epoch, i64 k_1315.To, i64 k_1315.Seq, i64 k_1315.Ack, .sl false (L cU8 k_1315.Data)])], [.box [i64 s_1314.Peer.Epoch, i64 s_1314.Peer.Other, i64 s_1314.Peer.First, .sl false (L (cSl cU8) s_1314.Peer.Queue), i64 s_1314.Peer.Next, .sl false (L cApi_Packet s_1314.Peer.Early), i64 s_1314.Peer.SentAt, .bs false 1 (s_1314.delivered.length) 0 (s_1314.delivered.length)] false, .buf 1 (L (cSl cU8) s_1314.delivered) false]⟩ _
  refine run_wkP ?_
  refine run_textE hE [0, 3] (fr' := [(0, .ref 0 0), (3, .ref 2 0)]) (σ' := [.box [i64 s_1314.Peer.Epoch, i64 s_1314.Peer.Other, i64 s_1314.Peer.First, .sl false (L (cSl cU8) s_1314.Peer.Queue), i64 s_1314.Peer.Next, .sl false (L cApi_Packet s_1314.Peer.Early), i64 s_1314.Peer.SentAt, .bs false 1 (s_1314.delivered.length) 0 (s_1314.delivered.length)] false, .buf 1 (L (cSl cU8) s_1314.delivered) false, .box [i64 k_1315.Epoch, i64 k_1315.To, i64 k_1315.Seq, i64 k_1315.Ack, .sl false (L cU8 k_1315.Data)] false]) ⟨_, orcs_nil, ?_⟩ ?_
  · simp only [go_sem]
  refine run_seq ?_
  replace h := bind_some1 h; obtain ⟨t_1327, hv_1328, h⟩ := h
  refine run_drawW hE mixed [[], [0], [], [2], [2, 3], [2, 3, 4], [2, 3, 4, 5], [0, 1, 2, 3, 4, 5, 6], [0, 1, 2, 3, 4, 5, 6, 7], [0, 1, 2, 3, 4, 5, 6, 7, 8], [0, 1, 2, 3, 4, 5, 6, 7, 8, 9], [0, 1, 2, 3, 4, 5, 6, 7, 8], [0, 1, 2, 3, 4, 5, 6, 7, 8, 11], [0, 1, 2, 3, 4, 5, 6, 7, 8, 11, 12], [0, 1, 2, 3, 4, 5, 6, 7, 8, 11, 12, 13], [0, 1, 2, 3, 4, 5, 6, 7, 8, 11, 12, 13, 14], [0, 1, 2, 3, 4, 5, 6, 7, 8, 11, 12, 13, 14, 15], [0, 1, 2, 3, 4, 5, 6, 7, 8, 9, 10, 11, 12, 13, 14, 15, 16], [0, 1, 2, 3, 4, 5, 6, 7, 8, 9, 10, 11, 12, 13, 14, 15, 16, 17]] (by kernel_rfl) (by kernel_rfl) [0, 3, 24] (fr' := [(0, .ref 0 0), (3, .ref 2 0), (24, .bool t_1327)]) (σ' := [.box [i64 s_1314.Peer.Epoch, i64 s_1314.Peer.Other, i64 s_1314.Peer.First, .sl false (L (cSl cU8) s_1314.Peer.Queue), i64 s_1314.Peer.Next, .sl false (L cApi_Packet s_1314.Peer.Early), i64 s_1314.Peer.SentAt, .bs false 1 (s_1314.delivered.length) 0 (s_1314.delivered.length)] false, .buf 1 (L (cSl cU8) s_1314.delivered) false, .box [i64 k_1315.Epoch, i64 k_1315.To, i64 k_1315.Seq, i64 k_1315.Ack, .sl false (L cU8 k_1315.Data)] false]) ?_ ?_
  · rcases Bool.eq_false_or_eq_true ((decide (k_1315.Seq ≤ s_1314.Peer.Next))) with hb_1329 | hb_1329
    · replace hv_1328 := ite_t hv_1328 hb_1329
      have e_hv_1328 := Option.some.inj hv_1328; subst e_hv_1328
      exact ⟨_, [(0, .ref 0 0), (3, .ref 2 0), (24, .bool true)], [.box [i64 s_1314.Peer.Epoch, i64 s_1314.Peer.Other, i64 s_1314.Peer.First, .sl false (L (cSl cU8) s_1314.Peer.Queue), i64 s_1314.Peer.Next, .sl false (L cApi_Packet s_1314.Peer.Early), i64 s_1314.Peer.SentAt, .bs false 1 (s_1314.delivered.length) 0 (s_1314.delivered.length)] false, .buf 1 (L (cSl cU8) s_1314.delivered) false, .box [i64 k_1315.Epoch, i64 k_1315.To, i64 k_1315.Seq, i64 k_1315.Ack, .sl false (L cU8 k_1315.Data)] false], orcs_nil, by simp only [go_sem, hb_1329], (weak_sel [0, 1, 2] (by decide) rfl (by simp only [go_sem]) (by simp only [go_sem]))⟩
    · replace hv_1328 := ite_f hv_1328 hb_1329
      have e_hv_1328 := Option.some.inj hv_1328; subst e_hv_1328
      exact ⟨_, [(0, .ref 0 0), (3, .ref 2 0), (24, .bool ((decide (k_1315.Seq ≥ (w64 (s_1314.Peer.Next + 64))))))], [.box [i64 s_1314.Peer.Epoch, i64 s_1314.Peer.Other, i64 s_1314.Peer.First, .sl false (L (cSl cU8) s_1314.Peer.Queue), i64 s_1314.Peer.Next, .sl false (L cApi_Packet s_1314.Peer.Early), i64 s_1314.Peer.SentAt, .bs false 1 (s_1314.delivered.length) 0 (s_1314.delivered.length)] false, .buf 1 (L (cSl cU8) s_1314.delivered) false, .box [i64 k_1315.Epoch, i64 k_1315.To, i64 k_1315.Seq, i64 k_1315.Ack, .sl false (L cU8 k_1315.Data)] false], orcs_nil, by simp only [go_sem, hb_1329], (weak_sel [0, 1, 2] (by decide) rfl (by simp only [go_sem]) (by simp only [go_sem]))⟩
  refine run_condL (b := t_1327) rfl (by decide) (fun hb => ?_) (fun hb => ?_)
  · replace h := ite_t h hb
    refine run_ret ?_
    refine thenK_r ?_
    obtain rfl := Option.some.inj h
    refine wkP_of (Weak.refl _ _) ?_
    refine ret_own (.inr rfl) [0, 1] (by decide) rfl ?_ ?_
    · simp only [go_sem]
    · simp only [go_sem]
  · replace h := ite_f h hb
    refine run_skip ?_
    refine thenK_n ?_
    replace h := bind_some1 h; obtain ⟨y_1330, hy_1331, h⟩ := h
    refine run_drawE hE mixed [[], [0], [0, 1], [0, 1, 2], [0, 1, 2, 3], [], [5], [0, 1, 2, 3, 4, 5, 6], [0, 1, 2, 3, 4, 5, 6, 7], [0, 1, 2, 3, 4, 5, 6, 7, 8], [0, 1, 2, 3, 4, 5, 6, 7, 8], [0, 1, 2, 3, 4, 5, 6, 7, 8, 9], [0, 1, 2, 3, 4, 5, 6, 7, 8, 9, 10, 11]] (by kernel_rfl) (by kernel_rfl) [0, 3, 4, 5] (fr' := [(0, .ref 0 0), (3, .ref 2 0), (4, i64 y_1330.1), (5, .bool y_1330.2)]) (σ' := [.box [i64 s_1314.Peer.Epoch, i64 s_1314.Peer.Other, i64 s_1314.Peer.First, .sl false (L (cSl cU8) s_1314.Peer.Queue), i64 s_1314.Peer.Next, .sl false (L cApi_Packet s_1314.Peer.Early), i64 s_1314.Peer.SentAt, .bs false 1 (s_1314.delivered.length) 0 (s_1314.delivered.length)] false, .buf 1 (L (cSl cU8) s_1314.delivered) false, .box [i64 k_1315.Epoch, i64 k_1315.To, i64 k_1315.Seq, i64 k_1315.Ack, .sl false (L cU8 k_1315.Data)] false]) ⟨_, orcs_ok (l := [(33, 56, [.sl false (L cApi_Packet s_1314.Peer.Early), i64 k_1315.Seq, .fn 57 []], .tup [i64 y_1330.1, .bool y_1330.2])]) ⟨slices_BinarySearchFunc_56_con (fun h => window_side_keep_1_con h) hy_1331, trivial⟩, ?_⟩ ?_
    · simp only [go_sem]
    refine run_textE hE [0, 3, 4, 37] (fr' := [(0, .ref 0 0), (3, .ref 2 0), (4, i64 y_1330.1), (37, .bool ((!y_1330.2)))]) (σ' := [.box [i64 s_1314.Peer.Epoch, i64 s_1314.Peer.Other, i64 s_1314.Peer.First, .sl false (L (cSl cU8) s_1314.Peer.Queue), i64 s_1314.Peer.Next, .sl false (L cApi_Packet s_1314.Peer.Early), i64 s_1314.Peer.SentAt, .bs false 1 (s_1314.delivered.length) 0 (s_1314.delivered.length)] false, .buf 1 (L (cSl cU8) s_1314.delivered) false, .box [i64 k_1315.Epoch, i64 k_1315.To, i64 k_1315.Seq, i64 k_1315.Ack, .sl false (L cU8 k_1315.Data)] false]) ⟨_, orcs_nil, ?_⟩ ?_
    · simp only [go_sem]
    refine run_condL (b := (!y_1330.2)) rfl (by decide) (fun hb => ?_) (fun hb => ?_)
    · replace h := ite_t h hb
      replace h := bind_some1 h; obtain ⟨y_1332, hy_1335, h⟩ := h
      replace h := bind_some1 h; obtain ⟨y_1333, hy_1336, h⟩ := h
      replace h := bind_some1 h; obtain ⟨y_1334, hy_1337, h⟩ := h
      refine run_drawS0 hE mixed [[], [], [1], [1, 2], [1, 2, 3], [1, 2, 3, 4], [1, 2, 3, 4, 5], [], [], [8], [], [10], [1, 2, 3, 4, 5, 6, 10, 11], [1, 2, 3, 4, 5, 6, 8, 9, 10, 11, 12], [1, 2, 3, 4, 5, 6, 8, 9, 10, 11, 12, 13], [1, 2, 3, 4, 5, 6, 7, 8, 9, 10, 11, 12, 13, 14], [0, 1, 2, 3, 4, 5, 6, 7, 8, 9, 10, 11, 12, 13, 14, 15], [0, 1, 2, 3, 4, 5, 6, 7, 8, 9, 10, 11, 12, 13, 14, 15, 16], [0, 1, 2, 3, 4, 5, 6, 7, 8, 9, 10, 11, 12, 13, 14, 15, 16, 17], [0, 1, 2, 3, 4, 5, 6, 7, 8, 9, 10, 11, 12, 13, 14, 15, 16, 17, 18]] (by kernel_rfl) [(3, 2), (46, 2), (48, 2)] [(44, 2)] [3, 46, 48] (by kernel_rfl) wk_wkP (fr' := [(3, .ref 2 0), (46, .ref 2 2), (48, .ref 2 4)]) (σ' := [.box [i64 s_1314.Peer.Epoch, i64 s_1314.Peer.Other, i64 s_1314.Peer.First, .sl false (L (cSl cU8) s_1314.Peer.Queue), i64 s_1314.Peer.Next, .bs false 3 (y_1334.length) 0 (y_1334.length), i64 s_1314.Peer.SentAt, .bs false 1 (s_1314.delivered.length) 0 (s_1314.delivered.length)] false, .buf 1 (L (cSl cU8) s_1314.delivered) false, .box [i64 k_1315.Epoch, i64 k_1315.To, i64 k_1315.Seq, i64 k_1315.Ack, .sl false (L cU8 k_1315.Data)] false, .buf 5 (L cApi_Packet y_1334) false]) ⟨rfl, rfl, rfl, trivial⟩ ⟨_, _, orcs_ok2 (l := [(50, 39, [.sl false (L cU8 k_1315.Data)], .sl false (L cU8 y_1333))]) (m := [(44, 59, [.sl false (L cApi_Packet s_1314.Peer.Early)], [.box [i64 s_1314.Peer.Epoch, i64 s_1314.Peer.Other, i64 s_1314.Peer.First, .sl false (L (cSl cU8) s_1314.Peer.Queue), i64 s_1314.Peer.Next, .sl false (L cApi_Packet s_1314.Peer.Early), i64 s_1314.Peer.SentAt, .bs false 1 (s_1314.delivered.length) 0 (s_1314.delivered.length)] false, .buf 1 (L (cSl cU8) s_1314.delivered) false, .box [i64 k_1315.Epoch, i64 k_1315.To, i64 k_1315.Seq, i64 k_1315.Ack, .sl false (L cU8 k_1315.Data)] false], .bs false 3 (y_1332.length) 0 (y_1332.length), [.box [i64 s_1314.Peer.Epoch, i64 s_1314.Peer.Other, i64 s_1314.Peer.First, .sl false (L (cSl cU8) s_1314.Peer.Queue), i64 s_1314.Peer.Next, .sl false (L cApi_Packet s_1314.Peer.Early), i64 s_1314.Peer.SentAt, .bs false 1 (s_1314.delivered.length) 0 (s_1314.delivered.length)] false, .buf 1 (L (cSl cU8) s_1314.delivered) false, .box [i64 k_1315.Epoch, i64 k_1315.To, i64 k_1315.Seq, i64 k_1315.Ack, .sl false (L cU8 k_1315.Data)] false, .buf 5 (L cApi_Packet y_1332) false]), (53, 58, [.bs false 3 (y_1332.length) 0 (y_1332.length), i64 y_1330.1, .sl false (L cApi_Packet (([({ Epoch := 0, To := 0, Seq := k_1315.Seq, Ack := 0, Data := y_1333 } : Api_Packet)] : List Api_Packet)))], [.box [i64 s_1314.Peer.Epoch, i64 s_1314.Peer.Other, i64 s_1314.Peer.First, .sl false (L (cSl cU8) s_1314.Peer.Queue), i64 s_1314.Peer.Next, .sl false (L cApi_Packet s_1314.Peer.Early), i64 s_1314.Peer.SentAt, .bs false 1 (s_1314.delivered.length) 0 (s_1314.delivered.length)] false, .buf 1 (L (cSl cU8) s_1314.delivered) false, .box [i64 k_1315.Epoch, i64 k_1315.To, i64 k_1315.Seq, i64 k_1315.Ack, .sl false (L cU8 k_1315.Data)] false, .buf 5 (L cApi_Packet y_1332) false], .bs false 3 (y_1334.length) 0 (y_1334.length), [.box [i64 s_1314.Peer.Epoch, i64 s_1314.Peer.Other, i64 s_1314.Peer.First, .sl false (L (cSl cU8) s_1314.Peer.Queue), i64 s_1314.Peer.Next, .sl false (L cApi_Packet s_1314.Peer.Early), i64 s_1314.Peer.SentAt, .bs false 1 (s_1314.delivered.length) 0 (s_1314.delivered.length)] false, .buf 1 (L (cSl cU8) s_1314.delivered) false, .box [i64 k_1315.Epoch, i64 k_1315.To, i64 k_1315.Seq, i64 k_1315.Ack, .sl false (L cU8 k_1315.Data)] false, .buf 5 (L cApi_Packet y_1334) false])]) ⟨window_own_con  hy_1336, trivial⟩ ⟨(wcon_call (slices_Clone_59_con hy_1335) [] (by decide) (by simp only [go_sem]) (by simp only [go_sem]) (by simp only [go_sem]) (by simp only [go_sem]) (by simp only [go_sem])), (wcon_call (slices_Insert_58_con hy_1337) [3] (by decide) (by simp only [go_sem]) (by simp only [go_sem]) (by simp only [go_sem]) (by simp only [go_sem]) (by simp only [go_sem])), trivial⟩, (by repeat' (first | exact trivial | (refine And.intro ?_ ?_) | exact fun _ => rfl | exact fun h => absurd h (by decide))), ?_⟩ ?_
      · simp only [go_sem, Nat.reduceBEq, Nat.reduceMul, Nat.reduceSub, Nat.reduceGT, Nat.reducePow, Nat.reduceLeDiff, Int.reduceToNat]
      obtain rfl := Option.some.inj h
      refine wkP_of ((weak_freeze_box 0 5 rfl rfl rfl (by simp only [go_sem]) (by simp only [go_sem])).trans (Weak.refl _ _)) ?_
      refine ret_own (.inl rfl) [0, 1] (by decide) rfl ?_ ?_
      · simp only [go_sem]
      · simp only [go_sem]
    · replace h := ite_f h hb
      refine run_skip ?_
      obtain rfl := Option.some.inj h
      refine wkP_of (Weak.refl _ _) ?_
      refine ret_own (.inl rfl) [0, 1] (by decide) rfl ?_ ?_
      · simp only [go_sem]
      · simp only [go_sem]

end Go.Proofs.Ytomjphpnpcgacaa
/-
  The functions compute just that.
-/
namespace Go.Proofs.Ytomjphpnpcgacaa
open Go.Rv
set_option linter.unusedVariables false
set_option linter.unusedSimpArgs false
set_option maxRecDepth 20000
set_option maxHeartbeats 4000000

theorem window_Accept_con {p_1338 : Api_Peer} {k_1339 : Api_Packet} {r : Api_Peer × List (List UInt8) × Bool} (h : window_Accept p_1338 k_1339 = some r) : Con B 20 [.agg [i64 p_1338.Epoch, i64 p_1338.Other, i64 p_1338.First, .sl false (L (cSl cU8) p_1338.Queue), i64 p_1338.Next, .sl false (L cApi_Packet p_1338.Early), i64 p_1338.SentAt], .agg [i64 k_1339.Epoch, i64 k_1339.To, i64 k_1339.Seq, i64 k_1339.Ack, .sl false (L cU8 k_1339.Data)]] [] (fun r' σ' => r' = .tup [.agg [i64 r.1.Epoch, i64 r.1.Other, i64 r.1.First, .sl false (L (cSl cU8) r.1.Queue), i64 r.1.Next, .sl false (L cApi_Packet r.1.Early), i64 r.1.SentAt], .sl false (L (cSl cU8) r.2.1), .bool r.2.2] ∧ σ' = []) := by
  refine con_walk (N := 102) (rs := [.cell 4 25, .tmp 5, .tmp 6]) ok Try.func20 rfl (by decide +kernel) rfl rfl (Nat.le_of_ble_eq_true rfl) (fun F => ?_)
  have hE := ok.env F
  unfold window_Accept at h
  show Run (B.env F) 0 _ ⟨asFr 102 [(0, .agg [i64 p_1338.Epoch, i64 p_1338.Other, i64 p_1338.First, .sl false (L (cSl cU8) p_1338.Queue), i64 p_1338.Next, .sl false (L cApi_Packet p_1338.Early), i64 p_1338.SentAt]), (1, .agg [i64 k_1339.Epoch, i64 k_1339.To, i64 k_1339.Seq, i64 k_1339.Ack, .sl false (L cU8 k_1339.Data)])], []⟩ _
  refine run_wkP ?_
  refine run_textE hE [2, 3, 4] (fr' := [(2, .ref 0 0), (3, .ref 1 0), (4, .ref 2 0)]) (σ' := [.box [i64 p_1338.Epoch, i64 p_1338.Other, i64 p_1338.First, .sl false (L (cSl cU8) p_1338.Queue), i64 p_1338.Next, .sl false (L cApi_Packet p_1338.Early), i64 p_1338.SentAt] false, .box [i64 k_1339.Epoch, i64 k_1339.To, i64 k_1339.Seq, i64 k_1339.Ack, .sl false (L cU8 k_1339.Data)] false, .box [i64 0, i64 0, i64 0, .sl true (L (cSl cU8) ([])), i64 0, .sl true (L cApi_Packet ([])), i64 0] false]) ⟨_, orcs_nil, ?_⟩ ?_
  · simp only [go_sem, castL, Int.reduceLT, Int.reduceAdd, decide_true, decide_false, Bool.false_eq_true]
  replace h := bind_some1 h; obtain ⟨fine_1343, hv_1344, h⟩ := h
  refine run_textW hE [2, 3, 4, 7] (fr' := [(2, .ref 0 0), (3, .ref 1 0), (4, .ref 2 0), (7, .bool fine_1343)]) (σ' := [.box [i64 p_1338.Epoch, i64 p_1338.Other, i64 p_1338.First, .sl false (L (cSl cU8) p_1338.Queue), i64 p_1338.Next, .sl false (L cApi_Packet p_1338.Early), i64 p_1338.SentAt] false, .box [i64 k_1339.Epoch, i64 k_1339.To, i64 k_1339.Seq, i64 k_1339.Ack, .sl false (L cU8 k_1339.Data)] false, .box [i64 0, i64 0, i64 0, .sl true (L (cSl cU8) ([])), i64 0, .sl true (L cApi_Packet ([])), i64 0] false]) ?_ ?_
  · replace hv_1344 := bind_some1 hv_1344; obtain ⟨y_1340, hy_1345, hv_1344⟩ := hv_1344
    rcases Bool.eq_false_or_eq_true y_1340 with hb_1346 | hb_1346
    · replace hv_1344 := ite_t hv_1344 hb_1346
      replace hv_1344 := bind_some1 hv_1344; obtain ⟨y_1341, hy_1347, hv_1344⟩ := hv_1344
      rcases Bool.eq_false_or_eq_true y_1341 with hb_1348 | hb_1348
      · replace hv_1344 := ite_t hv_1344 hb_1348
        replace hv_1344 := bind_some1 hv_1344; obtain ⟨y_1342, hy_1349, hv_1344⟩ := hv_1344
        rcases Bool.eq_false_or_eq_true y_1342 with hb_1350 | hb_1350
        · replace hv_1344 := ite_t hv_1344 hb_1350
          have e_hv_1344 := Option.some.inj hv_1344; subst e_hv_1344
          exact ⟨_, [(2, .ref 0 0), (3, .ref 1 0), (4, .ref 2 0), (7, .bool ((decide ((k_1339.Data.length : Int) ≤ 8000))))], [.box [i64 p_1338.Epoch, i64 p_1338.Other, i64 p_1338.First, .sl false (L (cSl cU8) p_1338.Queue), i64 p_1338.Next, .sl false (L cApi_Packet p_1338.Early), i64 p_1338.SentAt] false, .box [i64 k_1339.Epoch, i64 k_1339.To, i64 k_1339.Seq, i64 k_1339.Ack, .sl false (L cU8 k_1339.Data)] false, .box [i64 0, i64 0, i64 0, .sl true (L (cSl cU8) ([])), i64 0, .sl true (L cApi_Packet ([])), i64 0] false], orcs_ok (l := [(14, 35, [i64 k_1339.Epoch, i64 0, i64 1073741824], .bool y_1340), (18, 35, [i64 k_1339.Seq, i64 ((-1)), i64 1099511627775], .bool y_1341), (23, 35, [i64 k_1339.Ack, i64 0, i64 1099511627776], .bool y_1342)]) ⟨window_between_con  hy_1345, window_between_con  hy_1347, window_between_con  hy_1349, trivial⟩, by simp only [go_sem, castL, Int.reduceLT, Int.reduceAdd, decide_true, decide_false, Bool.false_eq_true, hb_1346, hb_1348, hb_1350], (weak_sel [0, 1, 2] (by decide) rfl (by simp only [go_sem]) (by simp only [go_sem]))⟩
        · replace hv_1344 := ite_f hv_1344 hb_1350
          have e_hv_1344 := Option.some.inj hv_1344; subst e_hv_1344
          exact ⟨_, [(2, .ref 0 0), (3, .ref 1 0), (4, .ref 2 0), (7, .bool false)], [.box [i64 p_1338.Epoch, i64 p_1338.Other, i64 p_1338.First, .sl false (L (cSl cU8) p_1338.Queue), i64 p_1338.Next, .sl false (L cApi_Packet p_1338.Early), i64 p_1338.SentAt] false, .box [i64 k_1339.Epoch, i64 k_1339.To, i64 k_1339.Seq, i64 k_1339.Ack, .sl false (L cU8 k_1339.Data)] false, .box [i64 0, i64 0, i64 0, .sl true (L (cSl cU8) ([])), i64 0, .sl true (L cApi_Packet ([])), i64 0] false], orcs_ok (l := [(14, 35, [i64 k_1339.Epoch, i64 0, i64 1073741824], .bool y_1340), (18, 35, [i64 k_1339.Seq, i64 ((-1)), i64 1099511627775], .bool y_1341), (23, 35, [i64 k_1339.Ack, i64 0, i64 1099511627776], .bool y_1342)]) ⟨window_between_con  hy_1345, window_between_con  hy_1347, window_between_con  hy_1349, trivial⟩, by simp only [go_sem, castL, Int.reduceLT, Int.reduceAdd, decide_true, decide_false, Bool.false_eq_true, hb_1346, hb_1348, hb_1350], (weak_sel [0, 1, 2] (by decide) rfl (by simp only [go_sem]) (by simp only [go_sem]))⟩
      · replace hv_1344 := ite_f hv_1344 hb_1348
        have e_hv_1344 := Option.some.inj hv_1344; subst e_hv_1344
        exact ⟨_, [(2, .ref 0 0), (3, .ref 1 0), (4, .ref 2 0), (7, .bool false)], [.box [i64 p_1338.Epoch, i64 p_1338.Other, i64 p_1338.First, .sl false (L (cSl cU8) p_1338.Queue), i64 p_1338.Next, .sl false (L cApi_Packet p_1338.Early), i64 p_1338.SentAt] false, .box [i64 k_1339.Epoch, i64 k_1339.To, i64 k_1339.Seq, i64 k_1339.Ack, .sl false (L cU8 k_1339.Data)] false, .box [i64 0, i64 0, i64 0, .sl true (L (cSl cU8) ([])), i64 0, .sl true (L cApi_Packet ([])), i64 0] false], orcs_ok (l := [(14, 35, [i64 k_1339.Epoch, i64 0, i64 1073741824], .bool y_1340), (18, 35, [i64 k_1339.Seq, i64 ((-1)), i64 1099511627775], .bool y_1341)]) ⟨window_between_con  hy_1345, window_between_con  hy_1347, trivial⟩, by simp only [go_sem, castL, Int.reduceLT, Int.reduceAdd, decide_true, decide_false, Bool.false_eq_true, hb_1346, hb_1348], (weak_sel [0, 1, 2] (by decide) rfl (by simp only [go_sem]) (by simp only [go_sem]))⟩
    · replace hv_1344 := ite_f hv_1344 hb_1346
      have e_hv_1344 := Option.some.inj hv_1344; subst e_hv_1344
      exact ⟨_, [(2, .ref 0 0), (3, .ref 1 0), (4, .ref 2 0), (7, .bool false)], [.box [i64 p_1338.Epoch, i64 p_1338.Other, i64 p_1338.First, .sl false (L (cSl cU8) p_1338.Queue), i64 p_1338.Next, .sl false (L cApi_Packet p_1338.Early), i64 p_1338.SentAt] false, .box [i64 k_1339.Epoch, i64 k_1339.To, i64 k_1339.Seq, i64 k_1339.Ack, .sl false (L cU8 k_1339.Data)] false, .box [i64 0, i64 0, i64 0, .sl true (L (cSl cU8) ([])), i64 0, .sl true (L cApi_Packet ([])), i64 0] false], orcs_ok (l := [(14, 35, [i64 k_1339.Epoch, i64 0, i64 1073741824], .bool y_1340)]) ⟨window_between_con  hy_1345, trivial⟩, by simp only [go_sem, castL, Int.reduceLT, Int.reduceAdd, decide_true, decide_false, Bool.false_eq_true, hb_1346], (weak_sel [0, 1, 2] (by decide) rfl (by simp only [go_sem]) (by simp only [go_sem]))⟩
  refine run_seq ?_
  replace h := bind_some1 h; obtain ⟨t_1352, hv_1353, h⟩ := h
  refine run_textW hE [2, 3, 4, 44] (fr' := [(2, .ref 0 0), (3, .ref 1 0), (4, .ref 2 0), (44, .bool t_1352)]) (σ' := [.box [i64 p_1338.Epoch, i64 p_1338.Other, i64 p_1338.First, .sl false (L (cSl cU8) p_1338.Queue), i64 p_1338.Next, .sl false (L cApi_Packet p_1338.Early), i64 p_1338.SentAt] false, .box [i64 k_1339.Epoch, i64 k_1339.To, i64 k_1339.Seq, i64 k_1339.Ack, .sl false (L cU8 k_1339.Data)] false, .box [i64 0, i64 0, i64 0, .sl true (L (cSl cU8) ([])), i64 0, .sl true (L cApi_Packet ([])), i64 0] false]) ?_ ?_
  · rcases Bool.eq_false_or_eq_true ((!fine_1343)) with hb_1354 | hb_1354
    · replace hv_1353 := ite_t hv_1353 hb_1354
      have e_hv_1353 := Option.some.inj hv_1353; subst e_hv_1353
      exact ⟨_, [(2, .ref 0 0), (3, .ref 1 0), (4, .ref 2 0), (44, .bool true)], [.box [i64 p_1338.Epoch, i64 p_1338.Other, i64 p_1338.First, .sl false (L (cSl cU8) p_1338.Queue), i64 p_1338.Next, .sl false (L cApi_Packet p_1338.Early), i64 p_1338.SentAt] false, .box [i64 k_1339.Epoch, i64 k_1339.To, i64 k_1339.Seq, i64 k_1339.Ack, .sl false (L cU8 k_1339.Data)] false, .box [i64 0, i64 0, i64 0, .sl true (L (cSl cU8) ([])), i64 0, .sl true (L cApi_Packet ([])), i64 0] false], orcs_nil, by simp only [go_sem, castL, Int.reduceLT, Int.reduceAdd, decide_true, decide_false, Bool.false_eq_true, hb_1354], (weak_sel [0, 1, 2] (by decide) rfl (by simp only [go_sem]) (by simp only [go_sem]))⟩
    · replace hv_1353 := ite_f hv_1353 hb_1354
      replace hv_1353 := bind_some1 hv_1353; obtain ⟨y_1351, hy_1355, hv_1353⟩ := hv_1353
      rcases Bool.eq_false_or_eq_true ((!y_1351)) with hb_1356 | hb_1356
      · replace hv_1353 := ite_t hv_1353 hb_1356
        have e_hv_1353 := Option.some.inj hv_1353; subst e_hv_1353
        exact ⟨_, [(2, .ref 0 0), (3, .ref 1 0), (4, .ref 2 0), (44, .bool true)], [.box [i64 p_1338.Epoch, i64 p_1338.Other, i64 p_1338.First, .sl false (L (cSl cU8) p_1338.Queue), i64 p_1338.Next, .sl false (L cApi_Packet p_1338.Early), i64 p_1338.SentAt] false, .box [i64 k_1339.Epoch, i64 k_1339.To, i64 k_1339.Seq, i64 k_1339.Ack, .sl false (L cU8 k_1339.Data)] false, .box [i64 0, i64 0, i64 0, .sl true (L (cSl cU8) ([])), i64 0, .sl true (L cApi_Packet ([])), i64 0] false], orcs_ok (l := [(35, 37, [.agg [i64 p_1338.Epoch, i64 p_1338.Other, i64 p_1338.First, .sl false (L (cSl cU8) p_1338.Queue), i64 p_1338.Next, .sl false (L cApi_Packet p_1338.Early), i64 p_1338.SentAt]], .bool y_1351)]) ⟨window_valid_con  hy_1355, trivial⟩, by simp only [go_sem, castL, Int.reduceLT, Int.reduceAdd, decide_true, decide_false, Bool.false_eq_true, hb_1354, hb_1356], (weak_sel [0, 1, 2] (by decide) rfl (by simp only [go_sem]) (by simp only [go_sem]))⟩
      · replace hv_1353 := ite_f hv_1353 hb_1356
        have e_hv_1353 := Option.some.inj hv_1353; subst e_hv_1353
        exact ⟨_, [(2, .ref 0 0), (3, .ref 1 0), (4, .ref 2 0), (44, .bool ((decide (k_1339.Epoch < p_1338.Other))))], [.box [i64 p_1338.Epoch, i64 p_1338.Other, i64 p_1338.First, .sl false (L (cSl cU8) p_1338.Queue), i64 p_1338.Next, .sl false (L cApi_Packet p_1338.Early), i64 p_1338.SentAt] false, .box [i64 k_1339.Epoch, i64 k_1339.To, i64 k_1339.Seq, i64 k_1339.Ack, .sl false (L cU8 k_1339.Data)] false, .box [i64 0, i64 0, i64 0, .sl true (L (cSl cU8) ([])), i64 0, .sl true (L cApi_Packet ([])), i64 0] false], orcs_ok (l := [(35, 37, [.agg [i64 p_1338.Epoch, i64 p_1338.Other, i64 p_1338.First, .sl false (L (cSl cU8) p_1338.Queue), i64 p_1338.Next, .sl false (L cApi_Packet p_1338.Early), i64 p_1338.SentAt]], .bool y_1351)]) ⟨window_valid_con  hy_1355, trivial⟩, by simp only [go_sem, castL, Int.reduceLT, Int.reduceAdd, decide_true, decide_false, Bool.false_eq_true, hb_1354, hb_1356], (weak_sel [0, 1, 2] (by decide) rfl (by simp only [go_sem]) (by simp only [go_sem]))⟩
  refine run_condL (b := t_1352) rfl (by decide) (fun hb => ?_) (fun hb => ?_)
  · replace h := ite_t h hb
    refine run_textE hE [4, 5, 6] (fr' := [(4, .ref 2 0), (5, .sl true (L (cSl cU8) ([]))), (6, .bool false)]) (σ' := [.box [i64 p_1338.Epoch, i64 p_1338.Other, i64 p_1338.First, .sl false (L (cSl cU8) p_1338.Queue), i64 p_1338.Next, .sl false (L cApi_Packet p_1338.Early), i64 p_1338.SentAt] false, .box [i64 k_1339.Epoch, i64 k_1339.To, i64 k_1339.Seq, i64 k_1339.Ack, .sl false (L cU8 k_1339.Data)] false, .box [i64 p_1338.Epoch, i64 p_1338.Other, i64 p_1338.First, .sl false (L (cSl cU8) p_1338.Queue), i64 p_1338.Next, .sl false (L cApi_Packet p_1338.Early), i64 p_1338.SentAt] false]) ⟨_, orcs_nil, ?_⟩ ?_
    · simp only [go_sem, Nat.reduceLeDiff, castL, Int.reduceLT, Int.reduceAdd, decide_true, decide_false, Bool.false_eq_true]
    refine run_ret ?_
    refine thenK_r ?_
    obtain rfl := Option.some.inj h
    refine wkP_of (Weak.refl _ _) ?_
    refine ret_ok (.inr rfl) ?_
    simp only [go_sem]
  · replace h := ite_f h hb
    refine run_skip ?_
    refine thenK_n ?_
    refine run_textE hE [3, 4, 8] (fr' := [(3, .ref 1 0), (4, .ref 2 0), (8, .ref 3 0)]) (σ' := [.box [i64 p_1338.Epoch, i64 p_1338.Other, i64 p_1338.First, .sl false (L (cSl cU8) p_1338.Queue), i64 p_1338.Next, .sl false (L cApi_Packet p_1338.Early), i64 p_1338.SentAt] false, .box [i64 k_1339.Epoch, i64 k_1339.To, i64 k_1339.Seq, i64 k_1339.Ack, .sl false (L cU8 k_1339.Data)] false, .box [i64 0, i64 0, i64 0, .sl true (L (cSl cU8) ([])), i64 0, .sl true (L cApi_Packet ([])), i64 0] false, .box [i64 p_1338.Epoch, i64 p_1338.Other, i64 p_1338.First, .sl false (L (cSl cU8) p_1338.Queue), i64 p_1338.Next, .sl false (L cApi_Packet p_1338.Early), i64 p_1338.SentAt, .sl true (L (cSl cU8) ([]))] false]) ⟨_, orcs_nil, ?_⟩ ?_
    · simp only [go_sem, Nat.reduceGT, castL, Int.reduceLT, Int.reduceAdd, decide_true, decide_false, Bool.false_eq_true]
    replace h := lt1_some h; obtain ⟨reset_1357, hz_1358, h⟩ := h
    refine run_drawE hE mixed [[], [0], [], [2], [2, 3], [2, 3, 4], [2, 3, 4, 5], [0, 1, 2, 3, 4, 5, 6], [0, 1, 2, 3, 4, 5, 6, 7]] (by kernel_rfl) (by kernel_rfl) [3, 4, 8, 9] (fr' := [(3, .ref 1 0), (4, .ref 2 0), (8, .ref 3 0), (9, .bool reset_1357)]) (σ' := [.box [i64 p_1338.Epoch, i64 p_1338.Other, i64 p_1338.First, .sl false (L (cSl cU8) p_1338.Queue), i64 p_1338.Next, .sl false (L cApi_Packet p_1338.Early), i64 p_1338.SentAt] false, .box [i64 k_1339.Epoch, i64 k_1339.To, i64 k_1339.Seq, i64 k_1339.Ack, .sl false (L cU8 k_1339.Data)] false, .box [i64 0, i64 0, i64 0, .sl true (L (cSl cU8) ([])), i64 0, .sl true (L cApi_Packet ([])), i64 0] false, .box [i64 p_1338.Epoch, i64 p_1338.Other, i64 p_1338.First, .sl false (L (cSl cU8) p_1338.Queue), i64 p_1338.Next, .sl false (L cApi_Packet p_1338.Early), i64 p_1338.SentAt, .sl true (L (cSl cU8) ([]))] false]) ⟨_, orcs_nil, ?_⟩ ?_
    · subst hz_1358; simp only [go_sem, castL, Int.reduceLT, Int.reduceAdd, decide_true, decide_false, Bool.false_eq_true]
    replace h := bind_some1 h; obtain ⟨j_1365, hA_1366, hj_1367⟩ := h
    refine run_join (fun (v : Int × Int × List (List UInt8) × Int × List Api_Packet × Int) => (⟨asFr 102 [(3, .ref 0 0), (4, .ref 1 0), (8, .ref 2 0), (9, .bool reset_1357)], [.box [i64 k_1339.Epoch, i64 k_1339.To, i64 k_1339.Seq, i64 k_1339.Ack, .sl false (L cU8 k_1339.Data)] false, .box [i64 0, i64 0, i64 0, .sl true (L (cSl cU8) ([])), i64 0, .sl true (L cApi_Packet ([])), i64 0] false, .box [i64 p_1338.Epoch, i64 v.1, i64 v.2.1, .sl false (L (cSl cU8) v.2.2.1), i64 v.2.2.2.1, .sl false (L cApi_Packet v.2.2.2.2.1), i64 v.2.2.2.2.2, .sl true (L (cSl cU8) ([]))] false]⟩ : St)) (fun v => v = j_1365) ?_ ?_
    · have h := hA_1366; clear hA_1366
      refine run_textE hE [3, 4, 8, 9, 57] (fr' := [(3, .ref 1 0), (4, .ref 2 0), (8, .ref 3 0), (9, .bool reset_1357), (57, .bool reset_1357)]) (σ' := [.box [i64 p_1338.Epoch, i64 p_1338.Other, i64 p_1338.First, .sl false (L (cSl cU8) p_1338.Queue), i64 p_1338.Next, .sl false (L cApi_Packet p_1338.Early), i64 p_1338.SentAt] false, .box [i64 k_1339.Epoch, i64 k_1339.To, i64 k_1339.Seq, i64 k_1339.Ack, .sl false (L cU8 k_1339.Data)] false, .box [i64 0, i64 0, i64 0, .sl true (L (cSl cU8) ([])), i64 0, .sl true (L cApi_Packet ([])), i64 0] false, .box [i64 p_1338.Epoch, i64 p_1338.Other, i64 p_1338.First, .sl false (L (cSl cU8) p_1338.Queue), i64 p_1338.Next, .sl false (L cApi_Packet p_1338.Early), i64 p_1338.SentAt, .sl true (L (cSl cU8) ([]))] false]) ⟨_, orcs_nil, ?_⟩ ?_
      · simp only [go_sem, castL, Int.reduceLT, Int.reduceAdd, decide_true, decide_false, Bool.false_eq_true]
      refine run_condL (b := reset_1357) rfl (by decide) (fun hb => ?_) (fun hb => ?_)
      · replace h := ite_t h hb
        refine run_drawE0 hE mixed [[], [], [1], [1, 2], [1, 2, 3], [1, 2, 3, 4], [], [6], [1, 2, 3, 4, 5, 6, 7], [0, 1, 2, 3, 4, 5, 6, 7, 8], [0, 1, 2, 3, 4, 5, 6, 7, 8, 9], [0, 1, 2, 3, 4, 5, 6, 7, 8, 9, 10]] (by kernel_rfl) (by kernel_rfl) wk_join [3, 4, 8, 9] (fr' := [(3, .ref 1 0), (4, .ref 2 0), (8, .ref 3 0), (9, .bool reset_1357)]) (σ' := [.box [i64 p_1338.Epoch, i64 p_1338.Other, i64 p_1338.First, .sl false (L (cSl cU8) p_1338.Queue), i64 p_1338.Next, .sl false (L cApi_Packet p_1338.Early), i64 p_1338.SentAt] false, .box [i64 k_1339.Epoch, i64 k_1339.To, i64 k_1339.Seq, i64 k_1339.Ack, .sl false (L cU8 k_1339.Data)] false, .box [i64 0, i64 0, i64 0, .sl true (L (cSl cU8) ([])), i64 0, .sl true (L cApi_Packet ([])), i64 0] false, .box [i64 p_1338.Epoch, i64 k_1339.Epoch, i64 0, .sl true (L (cSl cU8) ([])), i64 0, .sl true (L cApi_Packet ([])), i64 ((-1)), .sl true (L (cSl cU8) ([]))] false]) ⟨_, orcs_nil, ?_⟩ ?_
        · simp only [go_sem, Nat.reduceGT, Nat.reduceLeDiff, castL, Int.reduceLT, Int.reduceAdd, decide_true, decide_false, Bool.false_eq_true]
        obtain rfl := Option.some.inj h
        exact joinK_n ((k_1339.Epoch, 0, [], 0, [], (-1))) rfl (weak_sel [1, 2, 3] (by decide) rfl (by simp only [go_sem]) (by simp only [go_sem]))
      · replace h := ite_f h hb
        refine run_skip ?_
        obtain rfl := Option.some.inj h
        exact joinK_n ((p_1338.Other, p_1338.First, p_1338.Queue, p_1338.Next, p_1338.Early, p_1338.SentAt)) rfl (weak_sel [1, 2, 3] (by decide) rfl (by simp only [go_sem]) (by simp only [go_sem]))
    rintro ⟨f_1359, f_1360, f_1361, f_1362, f_1363, f_1364⟩ rfl
    have h := hj_1367; clear hj_1367
    replace h := bind_some1 h; obtain ⟨j_1394, hA_1395, hj_1396⟩ := h
    refine run_join (fun (v : Int × Int × Int × List (List UInt8) × Int × List Api_Packet × Int × List (List UInt8)) => (⟨asFr 102 [(4, .ref 0 0), (8, .ref 1 0), (9, .bool reset_1357)], [.box [i64 0, i64 0, i64 0, .sl true (L (cSl cU8) ([])), i64 0, .sl true (L cApi_Packet ([])), i64 0] false, .box [i64 v.1, i64 v.2.1, i64 v.2.2.1, .sl false (L (cSl cU8) v.2.2.2.1), i64 v.2.2.2.2.1, .sl false (L cApi_Packet v.2.2.2.2.2.1), i64 v.2.2.2.2.2.2.1, .bs false 2 (v.2.2.2.2.2.2.2.length) 0 (v.2.2.2.2.2.2.2.length)] false, .buf 1 (L (cSl cU8) v.2.2.2.2.2.2.2) false]⟩ : St)) (fun v => v = j_1394) ?_ ?_
    · have h := hA_1395; clear hA_1395
      refine run_drawE hE mixed [[], [0], [], [2], [2, 3], [2, 3, 4], [2, 3, 4, 5], [0, 1, 2, 3, 4, 5, 6]] (by kernel_rfl) (by kernel_rfl) [3, 4, 8, 9, 76] (fr' := [(3, .ref 0 0), (4, .ref 1 0), (8, .ref 2 0), (9, .bool reset_1357), (76, .bool ((k_1339.To == p_1338.Epoch)))]) (σ' := [.box [i64 k_1339.Epoch, i64 k_1339.To, i64 k_1339.Seq, i64 k_1339.Ack, .sl false (L cU8 k_1339.Data)] false, .box [i64 0, i64 0, i64 0, .sl true (L (cSl cU8) ([])), i64 0, .sl true (L cApi_Packet ([])), i64 0] false, .box [i64 p_1338.Epoch, i64 f_1359, i64 f_1360, .sl false (L (cSl cU8) f_1361), i64 f_1362, .sl false (L cApi_Packet f_1363), i64 f_1364, .sl true (L (cSl cU8) ([]))] false]) ⟨_, orcs_nil, ?_⟩ ?_
      · simp only [go_sem, castL, Int.reduceLT, Int.reduceAdd, decide_true, decide_false, Bool.false_eq_true]
      refine run_condL (b := (k_1339.To == p_1338.Epoch)) rfl (by decide) (fun hb => ?_) (fun hb => ?_)
      · replace h := ite_t h hb
        refine run_textE hE [3, 4, 8, 9, 83, 84, 85] (fr' := [(3, .ref 0 0), (4, .ref 1 0), (8, .ref 2 0), (9, .bool reset_1357), (83, .bs true 3 3 0 3), (84, i64 3), (85, i64 0)]) (σ' := [.box [i64 k_1339.Epoch, i64 k_1339.To, i64 k_1339.Seq, i64 k_1339.Ack, .sl false (L cU8 k_1339.Data)] false, .box [i64 0, i64 0, i64 0, .sl true (L (cSl cU8) ([])), i64 0, .sl true (L cApi_Packet ([])), i64 0] false, .box [i64 p_1338.Epoch, i64 f_1359, i64 f_1360, .sl false (L (cSl cU8) f_1361), i64 f_1362, .sl false (L cApi_Packet f_1363), i64 f_1364, .sl true (L (cSl cU8) ([]))] false, .buf 1 [[.fn 41 [.tup [.ref 2 0]]], [.fn 42 [.tup [.ref 2 0]]], [.fn 43 [.tup [.ref 2 0]]]] false]) ⟨_, orcs_nil, ?_⟩ ?_
        · simp only [go_sem, Nat.reduceBEq, Nat.reduceMul, Nat.reduceSub, Nat.reduceGT, Nat.reducePow, Nat.reduceLeDiff, Int.reduceToNat, castL, Int.reduceLT, Int.reduceAdd, decide_true, decide_false, Bool.false_eq_true]
        refine run_block ?_
        refine run_loop 9 ?_
        refine loopN_go (m := 8) ?_
        refine run_textE hE [3, 4, 8, 9, 83, 84, 85, 86] (fr' := [(3, .ref 0 0), (4, .ref 1 0), (8, .ref 2 0), (9, .bool reset_1357), (83, .bs true 3 3 0 3), (84, i64 3), (85, i64 0), (86, .bool true)]) (σ' := [.box [i64 k_1339.Epoch, i64 k_1339.To, i64 k_1339.Seq, i64 k_1339.Ack, .sl false (L cU8 k_1339.Data)] false, .box [i64 0, i64 0, i64 0, .sl true (L (cSl cU8) ([])), i64 0, .sl true (L cApi_Packet ([])), i64 0] false, .box [i64 p_1338.Epoch, i64 f_1359, i64 f_1360, .sl false (L (cSl cU8) f_1361), i64 f_1362, .sl false (L cApi_Packet f_1363), i64 f_1364, .sl true (L (cSl cU8) ([]))] false, .buf 1 [[.fn 41 [.tup [.ref 2 0]]], [.fn 42 [.tup [.ref 2 0]]], [.fn 43 [.tup [.ref 2 0]]]] false]) ⟨_, orcs_nil, ?_⟩ ?_
        · simp only [go_sem, castL, Int.reduceLT, Int.reduceAdd, decide_true, decide_false, Bool.false_eq_true]
        refine run_seq ?_
        refine run_condL (b := true) rfl (by decide) (fun hb => ?_) (fun hb => ?_)
        · refine run_skip ?_
          refine thenK_n ?_
          refine run_seq ?_
          refine run_block ?_
          have hk_1397 : InR 0 3 := by decide
          refine run_textE hE [3, 4, 8, 9, 11, 83, 84, 85] (fr' := [(3, .ref 0 0), (4, .ref 1 0), (8, .ref 2 0), (9, .bool reset_1357), (11, .fn 41 [.tup [.ref 2 0]]), (83, .bs true 3 3 0 3), (84, i64 3), (85, i64 0)]) (σ' := [.box [i64 k_1339.Epoch, i64 k_1339.To, i64 k_1339.Seq, i64 k_1339.Ack, .sl false (L cU8 k_1339.Data)] false, .box [i64 0, i64 0, i64 0, .sl true (L (cSl cU8) ([])), i64 0, .sl true (L cApi_Packet ([])), i64 0] false, .box [i64 p_1338.Epoch, i64 f_1359, i64 f_1360, .sl false (L (cSl cU8) f_1361), i64 f_1362, .sl false (L cApi_Packet f_1363), i64 f_1364, .sl true (L (cSl cU8) ([]))] false, .buf 1 [[.fn 41 [.tup [.ref 2 0]]], [.fn 42 [.tup [.ref 2 0]]], [.fn 43 [.tup [.ref 2 0]]]] false]) ⟨_, orcs_nil, ?_⟩ ?_
          · simp only [go_sem, Int.reduceToNat, castL, Int.reduceLT, Int.reduceAdd, decide_true, decide_false, Bool.false_eq_true, hk_1397, hk_1397.2]
          refine run_weak (weak_nil_box 2 7 1 rfl rfl) ?_
          replace h := bind_some1 h; obtain ⟨y_1398, hy_1399, h⟩ := h
          replace h := lt1_some h; obtain ⟨l_1400, hz_1401, h⟩ := h
          refine run_textE0 hE (wk_block wk_then) [3, 4, 8, 9, 83, 84, 85] (fr' := [(3, .ref 0 0), (4, .ref 1 0), (8, .ref 2 0), (9, .bool reset_1357), (83, .bs true 3 3 0 3), (84, i64 3), (85, i64 0)]) (σ' := [.box [i64 k_1339.Epoch, i64 k_1339.To, i64 k_1339.Seq, i64 k_1339.Ack, .sl false (L cU8 k_1339.Data)] false, .box [i64 0, i64 0, i64 0, .sl true (L (cSl cU8) ([])), i64 0, .sl true (L cApi_Packet ([])), i64 0] false, .box [i64 y_1398.Peer.Epoch, i64 y_1398.Peer.Other, i64 y_1398.Peer.First, .sl false (L (cSl cU8) y_1398.Peer.Queue), i64 y_1398.Peer.Next, .sl false (L cApi_Packet y_1398.Peer.Early), i64 y_1398.Peer.SentAt, .bs false 4 (l_1400.length) 0 (l_1400.length)] false, .buf 1 [[.fn 41 [.tup [.ref 2 0]]], [.fn 42 [.tup [.ref 2 0]]], [.fn 43 [.tup [.ref 2 0]]]] false, .buf 1 (L (cSl cU8) l_1400) false]) ⟨_, orcs_ok2 (l := []) (m := [(91, 41, [.ref 2 0, .agg [i64 k_1339.Epoch, i64 k_1339.To, i64 k_1339.Seq, i64 k_1339.Ack, .sl false (L cU8 k_1339.Data)]], [.box [i64 k_1339.Epoch, i64 k_1339.To, i64 k_1339.Seq, i64 k_1339.Ack, .sl false (L cU8 k_1339.Data)] false, .box [i64 0, i64 0, i64 0, .sl true (L (cSl cU8) ([])), i64 0, .sl true (L cApi_Packet ([])), i64 0] false, .box [i64 p_1338.Epoch, i64 f_1359, i64 f_1360, .sl false (L (cSl cU8) f_1361), i64 f_1362, .sl false (L cApi_Packet f_1363), i64 f_1364, .bs true 4 0 0 0] false, .buf 1 [[.fn 41 [.tup [.ref 2 0]]], [.fn 42 [.tup [.ref 2 0]]], [.fn 43 [.tup [.ref 2 0]]]] false, .buf 1 (L (cSl cU8) ([])) false], .tup [], [.box [i64 k_1339.Epoch, i64 k_1339.To, i64 k_1339.Seq, i64 k_1339.Ack, .sl false (L cU8 k_1339.Data)] false, .box [i64 0, i64 0, i64 0, .sl true (L (cSl cU8) ([])), i64 0, .sl true (L cApi_Packet ([])), i64 0] false, .box [i64 y_1398.Peer.Epoch, i64 y_1398.Peer.Other, i64 y_1398.Peer.First, .sl false (L (cSl cU8) y_1398.Peer.Queue), i64 y_1398.Peer.Next, .sl false (L cApi_Packet y_1398.Peer.Early), i64 y_1398.Peer.SentAt, .bs false 4 (y_1398.delivered.length) 0 (y_1398.delivered.length)] false, .buf 1 [[.fn 41 [.tup [.ref 2 0]]], [.fn 42 [.tup [.ref 2 0]]], [.fn 43 [.tup [.ref 2 0]]]] false, .buf 1 (L (cSl cU8) y_1398.delivered) false])]) trivial ⟨(wcon_call (window_side_acknowledge_con hy_1399) [2, 4] (by decide) (by simp only [go_sem]) (by simp only [go_sem]) (by simp only [go_sem]) (by simp only [go_sem]) (by simp only [go_sem])), trivial⟩, ?_⟩ ?_
          · subst hz_1401; simp only [go_sem, castL, Int.reduceLT, Int.reduceAdd, decide_true, decide_false, Bool.false_eq_true]
          refine blockK_n ?_
          refine thenK_n ?_
          have hk_1402 : w64 1 = 1 := by decide
          refine run_textE0 hE wk_un [3, 4, 8, 9, 83, 84, 85] (fr' := [(3, .ref 0 0), (4, .ref 1 0), (8, .ref 2 0), (9, .bool reset_1357), (83, .bs true 3 3 0 3), (84, i64 3), (85, i64 1)]) (σ' := [.box [i64 k_1339.Epoch, i64 k_1339.To, i64 k_1339.Seq, i64 k_1339.Ack, .sl false (L cU8 k_1339.Data)] false, .box [i64 0, i64 0, i64 0, .sl true (L (cSl cU8) ([])), i64 0, .sl true (L cApi_Packet ([])), i64 0] false, .box [i64 y_1398.Peer.Epoch, i64 y_1398.Peer.Other, i64 y_1398.Peer.First, .sl false (L (cSl cU8) y_1398.Peer.Queue), i64 y_1398.Peer.Next, .sl false (L cApi_Packet y_1398.Peer.Early), i64 y_1398.Peer.SentAt, .bs false 4 (l_1400.length) 0 (l_1400.length)] false, .buf 1 [[.fn 41 [.tup [.ref 2 0]]], [.fn 42 [.tup [.ref 2 0]]], [.fn 43 [.tup [.ref 2 0]]]] false, .buf 1 (L (cSl cU8) l_1400) false]) ⟨_, orcs_nil, ?_⟩ ?_
          · simp only [go_sem, castL, Int.reduceLT, Int.reduceAdd, decide_true, decide_false, Bool.false_eq_true, hk_1402]
          refine unK_n ?_
          refine loopN_go (m := 7) ?_
          refine run_textE hE [3, 4, 8, 9, 83, 84, 85, 86] (fr' := [(3, .ref 0 0), (4, .ref 1 0), (8, .ref 2 0), (9, .bool reset_1357), (83, .bs true 3 3 0 3), (84, i64 3), (85, i64 1), (86, .bool true)]) (σ' := [.box [i64 k_1339.Epoch, i64 k_1339.To, i64 k_1339.Seq, i64 k_1339.Ack, .sl false (L cU8 k_1339.Data)] false, .box [i64 0, i64 0, i64 0, .sl true (L (cSl cU8) ([])), i64 0, .sl true (L cApi_Packet ([])), i64 0] false, .box [i64 y_1398.Peer.Epoch, i64 y_1398.Peer.Other, i64 y_1398.Peer.First, .sl false (L (cSl cU8) y_1398.Peer.Queue), i64 y_1398.Peer.Next, .sl false (L cApi_Packet y_1398.Peer.Early), i64 y_1398.Peer.SentAt, .bs false 4 (l_1400.length) 0 (l_1400.length)] false, .buf 1 [[.fn 41 [.tup [.ref 2 0]]], [.fn 42 [.tup [.ref 2 0]]], [.fn 43 [.tup [.ref 2 0]]]] false, .buf 1 (L (cSl cU8) l_1400) false]) ⟨_, orcs_nil, ?_⟩ ?_
          · simp only [go_sem, castL, Int.reduceLT, Int.reduceAdd, decide_true, decide_false, Bool.false_eq_true]
          refine run_seq ?_
          refine run_condL (b := true) rfl (by decide) (fun hb => ?_) (fun hb => ?_)
          · refine run_skip ?_
            refine thenK_n ?_
            refine run_seq ?_
            refine run_block ?_
            have hk_1403 : InR 1 3 := by decide
            refine run_textE hE [3, 4, 8, 9, 11, 83, 84, 85] (fr' := [(3, .ref 0 0), (4, .ref 1 0), (8, .ref 2 0), (9, .bool reset_1357), (11, .fn 42 [.tup [.ref 2 0]]), (83, .bs true 3 3 0 3), (84, i64 3), (85, i64 1)]) (σ' := [.box [i64 k_1339.Epoch, i64 k_1339.To, i64 k_1339.Seq, i64 k_1339.Ack, .sl false (L cU8 k_1339.Data)] false, .box [i64 0, i64 0, i64 0, .sl true (L (cSl cU8) ([])), i64 0, .sl true (L cApi_Packet ([])), i64 0] false, .box [i64 y_1398.Peer.Epoch, i64 y_1398.Peer.Other, i64 y_1398.Peer.First, .sl false (L (cSl cU8) y_1398.Peer.Queue), i64 y_1398.Peer.Next, .sl false (L cApi_Packet y_1398.Peer.Early), i64 y_1398.Peer.SentAt, .bs false 4 (l_1400.length) 0 (l_1400.length)] false, .buf 1 [[.fn 41 [.tup [.ref 2 0]]], [.fn 42 [.tup [.ref 2 0]]], [.fn 43 [.tup [.ref 2 0]]]] false, .buf 1 (L (cSl cU8) l_1400) false]) ⟨_, orcs_nil, ?_⟩ ?_
            · simp only [go_sem, Int.reduceToNat, castL, Int.reduceLT, Int.reduceAdd, decide_true, decide_false, Bool.false_eq_true, hk_1403, hk_1403.2]
            replace h := bind_some1 h; obtain ⟨y_1404, hy_1405, h⟩ := h
            replace h := lt1_some h; obtain ⟨l_1406, hz_1407, h⟩ := h
            refine run_textE0 hE (wk_block wk_then) [3, 4, 8, 9, 83, 84, 85] (fr' := [(3, .ref 0 0), (4, .ref 1 0), (8, .ref 2 0), (9, .bool reset_1357), (83, .bs true 3 3 0 3), (84, i64 3), (85, i64 1)]) (σ' := [.box [i64 k_1339.Epoch, i64 k_1339.To, i64 k_1339.Seq, i64 k_1339.Ack, .sl false (L cU8 k_1339.Data)] false, .box [i64 0, i64 0, i64 0, .sl true (L (cSl cU8) ([])), i64 0, .sl true (L cApi_Packet ([])), i64 0] false, .box [i64 y_1404.Peer.Epoch, i64 y_1404.Peer.Other, i64 y_1404.Peer.First, .sl false (L (cSl cU8) y_1404.Peer.Queue), i64 y_1404.Peer.Next, .sl false (L cApi_Packet y_1404.Peer.Early), i64 y_1404.Peer.SentAt, .bs false 4 (l_1406.length) 0 (l_1406.length)] false, .buf 1 [[.fn 41 [.tup [.ref 2 0]]], [.fn 42 [.tup [.ref 2 0]]], [.fn 43 [.tup [.ref 2 0]]]] false, .buf 1 (L (cSl cU8) l_1406) false]) ⟨_, orcs_ok2 (l := []) (m := [(91, 42, [.ref 2 0, .agg [i64 k_1339.Epoch, i64 k_1339.To, i64 k_1339.Seq, i64 k_1339.Ack, .sl false (L cU8 k_1339.Data)]], [.box [i64 k_1339.Epoch, i64 k_1339.To, i64 k_1339.Seq, i64 k_1339.Ack, .sl false (L cU8 k_1339.Data)] false, .box [i64 0, i64 0, i64 0, .sl true (L (cSl cU8) ([])), i64 0, .sl true (L cApi_Packet ([])), i64 0] false, .box [i64 y_1398.Peer.Epoch, i64 y_1398.Peer.Other, i64 y_1398.Peer.First, .sl false (L (cSl cU8) y_1398.Peer.Queue), i64 y_1398.Peer.Next, .sl false (L cApi_Packet y_1398.Peer.Early), i64 y_1398.Peer.SentAt, .bs false 4 (l_1400.length) 0 (l_1400.length)] false, .buf 1 [[.fn 41 [.tup [.ref 2 0]]], [.fn 42 [.tup [.ref 2 0]]], [.fn 43 [.tup [.ref 2 0]]]] false, .buf 1 (L (cSl cU8) l_1400) false], .tup [], [.box [i64 k_1339.Epoch, i64 k_1339.To, i64 k_1339.Seq, i64 k_1339.Ack, .sl false (L cU8 k_1339.Data)] false, .box [i64 0, i64 0, i64 0, .sl true (L (cSl cU8) ([])), i64 0, .sl true (L cApi_Packet ([])), i64 0] false, .box [i64 y_1404.Peer.Epoch, i64 y_1404.Peer.Other, i64 y_1404.Peer.First, .sl false (L (cSl cU8) y_1404.Peer.Queue), i64 y_1404.Peer.Next, .sl false (L cApi_Packet y_1404.Peer.Early), i64 y_1404.Peer.SentAt, .bs false 4 (y_1404.delivered.length) 0 (y_1404.delivered.length)] false, .buf 1 [[.fn 41 [.tup [.ref 2 0]]], [.fn 42 [.tup [.ref 2 0]]], [.fn 43 [.tup [.ref 2 0]]]] false, .buf 1 (L (cSl cU8) y_1404.delivered) false])]) trivial ⟨(wcon_call (window_side_keep_con hy_1405) [2, 4] (by decide) (by simp only [go_sem]) (by simp only [go_sem]) (by simp only [go_sem]) (by simp only [go_sem]) (by simp only [go_sem])), trivial⟩, ?_⟩ ?_
            · subst hz_1407; simp only [go_sem, castL, Int.reduceLT, Int.reduceAdd, decide_true, decide_false, Bool.false_eq_true]
            refine blockK_n ?_
            refine thenK_n ?_
            have hk_1408 : w64 2 = 2 := by decide
            refine run_textE0 hE wk_un [3, 4, 8, 9, 83, 84, 85] (fr' := [(3, .ref 0 0), (4, .ref 1 0), (8, .ref 2 0), (9, .bool reset_1357), (83, .bs true 3 3 0 3), (84, i64 3), (85, i64 2)]) (σ' := [.box [i64 k_1339.Epoch, i64 k_1339.To, i64 k_1339.Seq, i64 k_1339.Ack, .sl false (L cU8 k_1339.Data)] false, .box [i64 0, i64 0, i64 0, .sl true (L (cSl cU8) ([])), i64 0, .sl true (L cApi_Packet ([])), i64 0] false, .box [i64 y_1404.Peer.Epoch, i64 y_1404.Peer.Other, i64 y_1404.Peer.First, .sl false (L (cSl cU8) y_1404.Peer.Queue), i64 y_1404.Peer.Next, .sl false (L cApi_Packet y_1404.Peer.Early), i64 y_1404.Peer.SentAt, .bs false 4 (l_1406.length) 0 (l_1406.length)] false, .buf 1 [[.fn 41 [.tup [.ref 2 0]]], [.fn 42 [.tup [.ref 2 0]]], [.fn 43 [.tup [.ref 2 0]]]] false, .buf 1 (L (cSl cU8) l_1406) false]) ⟨_, orcs_nil, ?_⟩ ?_
            · simp only [go_sem, castL, Int.reduceLT, Int.reduceAdd, decide_true, decide_false, Bool.false_eq_true, hk_1408]
            refine unK_n ?_
            refine loopN_go (m := 6) ?_
            refine run_textE hE [3, 4, 8, 9, 83, 84, 85, 86] (fr' := [(3, .ref 0 0), (4, .ref 1 0), (8, .ref 2 0), (9, .bool reset_1357), (83, .bs true 3 3 0 3), (84, i64 3), (85, i64 2), (86, .bool true)]) (σ' := [.box [i64 k_1339.Epoch, i64 k_1339.To, i64 k_1339.Seq, i64 k_1339.Ack, .sl false (L cU8 k_1339.Data)] false, .box [i64 0, i64 0, i64 0, .sl true (L (cSl cU8) ([])), i64 0, .sl true (L cApi_Packet ([])), i64 0] false, .box [i64 y_1404.Peer.Epoch, i64 y_1404.Peer.Other, i64 y_1404.Peer.First, .sl false (L (cSl cU8) y_1404.Peer.Queue), i64 y_1404.Peer.Next, .sl false (L cApi_Packet y_1404.Peer.Early), i64 y_1404.Peer.SentAt, .bs false 4 (l_1406.length) 0 (l_1406.length)] false, .buf 1 [[.fn 41 [.tup [.ref 2 0]]], [.fn 42 [.tup [.ref 2 0]]], [.fn 43 [.tup [.ref 2 0]]]] false, .buf 1 (L (cSl cU8) l_1406) false]) ⟨_, orcs_nil, ?_⟩ ?_
            · simp only [go_sem, castL, Int.reduceLT, Int.reduceAdd, decide_true, decide_false, Bool.false_eq_true]
            refine run_seq ?_
            refine run_condL (b := true) rfl (by decide) (fun hb => ?_) (fun hb => ?_)
            · refine run_skip ?_
              refine thenK_n ?_
              refine run_seq ?_
              refine run_block ?_
              have hk_1409 : InR 2 3 := by decide
              refine run_textE hE [3, 4, 8, 9, 11, 83, 84, 85] (fr' := [(3, .ref 0 0), (4, .ref 1 0), (8, .ref 2 0), (9, .bool reset_1357), (11, .fn 43 [.tup [.ref 2 0]]), (83, .bs true 3 3 0 3), (84, i64 3), (85, i64 2)]) (σ' := [.box [i64 k_1339.Epoch, i64 k_1339.To, i64 k_1339.Seq, i64 k_1339.Ack, .sl false (L cU8 k_1339.Data)] false, .box [i64 0, i64 0, i64 0, .sl true (L (cSl cU8) ([])), i64 0, .sl true (L cApi_Packet ([])), i64 0] false, .box [i64 y_1404.Peer.Epoch, i64 y_1404.Peer.Other, i64 y_1404.Peer.First, .sl false (L (cSl cU8) y_1404.Peer.Queue), i64 y_1404.Peer.Next, .sl false (L cApi_Packet y_1404.Peer.Early), i64 y_1404.Peer.SentAt, .bs false 4 (l_1406.length) 0 (l_1406.length)] false, .buf 1 [[.fn 41 [.tup [.ref 2 0]]], [.fn 42 [.tup [.ref 2 0]]], [.fn 43 [.tup [.ref 2 0]]]] false, .buf 1 (L (cSl cU8) l_1406) false]) ⟨_, orcs_nil, ?_⟩ ?_
              · simp only [go_sem, Int.reduceToNat, castL, Int.reduceLT, Int.reduceAdd, decide_true, decide_false, Bool.false_eq_true, hk_1409, hk_1409.2]
              replace h := bind_some1 h; obtain ⟨y_1410, hy_1411, h⟩ := h
              replace h := lt1_some h; obtain ⟨l_1412, hz_1413, h⟩ := h
              refine run_textE0 hE (wk_block wk_then) [3, 4, 8, 9, 83, 84, 85] (fr' := [(3, .ref 0 0), (4, .ref 1 0), (8, .ref 2 0), (9, .bool reset_1357), (83, .bs true 3 3 0 3), (84, i64 3), (85, i64 2)]) (σ' := [.box [i64 k_1339.Epoch, i64 k_1339.To, i64 k_1339.Seq, i64 k_1339.Ack, .sl false (L cU8 k_1339.Data)] false, .box [i64 0, i64 0, i64 0, .sl true (L (cSl cU8) ([])), i64 0, .sl true (L cApi_Packet ([])), i64 0] false, .box [i64 y_1410.Peer.Epoch, i64 y_1410.Peer.Other, i64 y_1410.Peer.First, .sl false (L (cSl cU8) y_1410.Peer.Queue), i64 y_1410.Peer.Next, .sl false (L cApi_Packet y_1410.Peer.Early), i64 y_1410.Peer.SentAt, .bs false 4 (l_1412.length) 0 (l_1412.length)] false, .buf 1 [[.fn 41 [.tup [.ref 2 0]]], [.fn 42 [.tup [.ref 2 0]]], [.fn 43 [.tup [.ref 2 0]]]] false, .buf 1 (L (cSl cU8) l_1412) false]) ⟨_, orcs_ok2 (l := []) (m := [(91, 43, [.ref 2 0, .agg [i64 k_1339.Epoch, i64 k_1339.To, i64 k_1339.Seq, i64 k_1339.Ack, .sl false (L cU8 k_1339.Data)]], [.box [i64 k_1339.Epoch, i64 k_1339.To, i64 k_1339.Seq, i64 k_1339.Ack, .sl false (L cU8 k_1339.Data)] false, .box [i64 0, i64 0, i64 0, .sl true (L (cSl cU8) ([])), i64 0, .sl true (L cApi_Packet ([])), i64 0] false, .box [i64 y_1404.Peer.Epoch, i64 y_1404.Peer.Other, i64 y_1404.Peer.First, .sl false (L (cSl cU8) y_1404.Peer.Queue), i64 y_1404.Peer.Next, .sl false (L cApi_Packet y_1404.Peer.Early), i64 y_1404.Peer.SentAt, .bs false 4 (l_1406.length) 0 (l_1406.length)] false, .buf 1 [[.fn 41 [.tup [.ref 2 0]]], [.fn 42 [.tup [.ref 2 0]]], [.fn 43 [.tup [.ref 2 0]]]] false, .buf 1 (L (cSl cU8) l_1406) false], .tup [], [.box [i64 k_1339.Epoch, i64 k_1339.To, i64 k_1339.Seq, i64 k_1339.Ack, .sl false (L cU8 k_1339.Data)] false, .box [i64 0, i64 0, i64 0, .sl true (L (cSl cU8) ([])), i64 0, .sl true (L cApi_Packet ([])), i64 0] false, .box [i64 y_1410.Peer.Epoch, i64 y_1410.Peer.Other, i64 y_1410.Peer.First, .sl false (L (cSl cU8) y_1410.Peer.Queue), i64 y_1410.Peer.Next, .sl false (L cApi_Packet y_1410.Peer.Early), i64 y_1410.Peer.SentAt, .bs false 4 (y_1410.delivered.length) 0 (y_1410.delivered.length)] false, .buf 1 [[.fn 41 [.tup [.ref 2 0]]], [.fn 42 [.tup [.ref 2 0]]], [.fn 43 [.tup [.ref 2 0]]]] false, .buf 1 (L (cSl cU8) y_1410.delivered) false])]) trivial ⟨(wcon_call (window_side_deliver_con hy_1411) [2, 4] (by decide) (by simp only [go_sem]) (by simp only [go_sem]) (by simp only [go_sem]) (by simp only [go_sem]) (by simp only [go_sem])), trivial⟩, ?_⟩ ?_
              · subst hz_1413; simp only [go_sem, castL, Int.reduceLT, Int.reduceAdd, decide_true, decide_false, Bool.false_eq_true]
              refine blockK_n ?_
              refine thenK_n ?_
              have hk_1414 : w64 3 = 3 := by decide
              refine run_textE0 hE wk_un [3, 4, 8, 9, 83, 84, 85] (fr' := [(3, .ref 0 0), (4, .ref 1 0), (8, .ref 2 0), (9, .bool reset_1357), (83, .bs true 3 3 0 3), (84, i64 3), (85, i64 3)]) (σ' := [.box [i64 k_1339.Epoch, i64 k_1339.To, i64 k_1339.Seq, i64 k_1339.Ack, .sl false (L cU8 k_1339.Data)] false, .box [i64 0, i64 0, i64 0, .sl true (L (cSl cU8) ([])), i64 0, .sl true (L cApi_Packet ([])), i64 0] false, .box [i64 y_1410.Peer.Epoch, i64 y_1410.Peer.Other, i64 y_1410.Peer.First, .sl false (L (cSl cU8) y_1410.Peer.Queue), i64 y_1410.Peer.Next, .sl false (L cApi_Packet y_1410.Peer.Early), i64 y_1410.Peer.SentAt, .bs false 4 (l_1412.length) 0 (l_1412.length)] false, .buf 1 [[.fn 41 [.tup [.ref 2 0]]], [.fn 42 [.tup [.ref 2 0]]], [.fn 43 [.tup [.ref 2 0]]]] false, .buf 1 (L (cSl cU8) l_1412) false]) ⟨_, orcs_nil, ?_⟩ ?_
              · simp only [go_sem, castL, Int.reduceLT, Int.reduceAdd, decide_true, decide_false, Bool.false_eq_true, hk_1414]
              refine unK_n ?_
              refine loopN_go (m := 5) ?_
              refine run_textE hE [3, 4, 8, 9, 83, 84, 85, 86] (fr' := [(3, .ref 0 0), (4, .ref 1 0), (8, .ref 2 0), (9, .bool reset_1357), (83, .bs true 3 3 0 3), (84, i64 3), (85, i64 3), (86, .bool false)]) (σ' := [.box [i64 k_1339.Epoch, i64 k_1339.To, i64 k_1339.Seq, i64 k_1339.Ack, .sl false (L cU8 k_1339.Data)] false, .box [i64 0, i64 0, i64 0, .sl true (L (cSl cU8) ([])), i64 0, .sl true (L cApi_Packet ([])), i64 0] false, .box [i64 y_1410.Peer.Epoch, i64 y_1410.Peer.Other, i64 y_1410.Peer.First, .sl false (L (cSl cU8) y_1410.Peer.Queue), i64 y_1410.Peer.Next, .sl false (L cApi_Packet y_1410.Peer.Early), i64 y_1410.Peer.SentAt, .bs false 4 (l_1412.length) 0 (l_1412.length)] false, .buf 1 [[.fn 41 [.tup [.ref 2 0]]], [.fn 42 [.tup [.ref 2 0]]], [.fn 43 [.tup [.ref 2 0]]]] false, .buf 1 (L (cSl cU8) l_1412) false]) ⟨_, orcs_nil, ?_⟩ ?_
              · simp only [go_sem, castL, Int.reduceLT, Int.reduceAdd, decide_true, decide_false, Bool.false_eq_true]
              refine run_seq ?_
              refine run_condL (b := false) rfl (by decide) (fun hb => ?_) (fun hb => ?_)
              · cases hb
              · refine run_exit ?_
                refine thenK_x ?_
                refine unK_x ?_
                refine blockK_x ?_
                obtain rfl := Option.some.inj h
                exact joinK_n ((y_1410.Peer.Epoch, y_1410.Peer.Other, y_1410.Peer.First, y_1410.Peer.Queue, y_1410.Peer.Next, y_1410.Peer.Early, y_1410.Peer.SentAt, l_1412)) rfl (weak_sel [1, 2, 4] (by decide) rfl (by simp only [go_sem]) (by simp only [go_sem]))
            · cases hb
          · cases hb
        · cases hb
      · replace h := ite_f h hb
        refine run_skip ?_
        obtain rfl := Option.some.inj h
        exact joinK_n ((p_1338.Epoch, f_1359, f_1360, f_1361, f_1362, f_1363, f_1364, [])) rfl ((weak_nil_box 2 7 1 rfl rfl).trans (weak_sel [1, 2, 3] (by decide) rfl (by simp only [go_sem]) (by simp only [go_sem])))
    rintro ⟨f_1386, f_1387, f_1388, f_1389, f_1390, f_1391, f_1392, l_1393⟩ rfl
    have h := hj_1396; clear hj_1396
    refine run_drawS hE mixed [[], [0], [0, 1], [0, 1, 2], [], [4], [4, 5], [4, 5, 6], [], [0, 1, 2, 3], [0, 1, 2, 3, 4, 5, 6, 7, 9], [0, 1, 2, 3, 4, 5, 6, 7, 8, 9, 10]] (by kernel_rfl) [(4, 0), (98, 1), (99, 1)] [] [4, 5, 6, 98, 99] (by kernel_rfl) (fr' := [(4, .ref 0 0), (5, .bs false 2 (l_1393.length) 0 (l_1393.length)), (6, .bool reset_1357), (98, .ref 1 0), (99, .ref 1 7)]) (σ' := [.box [i64 f_1386, i64 f_1387, i64 f_1388, .sl false (L (cSl cU8) f_1389), i64 f_1390, .sl false (L cApi_Packet f_1391), i64 f_1392] false, .box [i64 f_1386, i64 f_1387, i64 f_1388, .sl false (L (cSl cU8) f_1389), i64 f_1390, .sl false (L cApi_Packet f_1391), i64 f_1392, .bs false 2 (l_1393.length) 0 (l_1393.length)] false, .buf 1 (L (cSl cU8) l_1393) false]) ⟨rfl, rfl, rfl, trivial⟩ ⟨_, _, orcs_nil, (by simp only [XOk]), ?_⟩ ?_
    · simp only [go_sem, Nat.reduceLeDiff, castL, Int.reduceLT, Int.reduceAdd, decide_true, decide_false, Bool.false_eq_true]
    refine run_ret ?_
    obtain rfl := Option.some.inj h
    refine wkP_of (Weak.refl _ _) ?_
    refine ret_ok (.inr rfl) ?_
    simp only [go_sem]

end Go.Proofs.Ytomjphpnpcgacaa
/-
  The functions compute just that.
-/
namespace Go.Proofs.Ytomjphpnpcgacaa
open Go.Rv
set_option linter.unusedVariables false
set_option linter.unusedSimpArgs false
set_option maxRecDepth 20000
set_option maxHeartbeats 4000000

theorem law12_few_con {p_1415 : Api_Peer} {r : Bool} (h : law12_few p_1415 = some r) : Con B 11 [.agg [i64 p_1415.Epoch, i64 p_1415.Other, i64 p_1415.First, .sl false (L (cSl cU8) p_1415.Queue), i64 p_1415.Next, .sl false (L cApi_Packet p_1415.Early), i64 p_1415.SentAt]] [] (fun r' σ' => r' = .bool r ∧ σ' = []) := by
  refine con_walk (N := 49) (rs := [.tmp 2]) ok Try.func11 rfl (by decide +kernel) rfl rfl (Nat.le_of_ble_eq_true rfl) (fun F => ?_)
  have hE := ok.env F
  unfold law12_few at h
  show Run (B.env F) 0 _ ⟨asFr 49 [(0, .agg [i64 p_1415.Epoch, i64 p_1415.Other, i64 p_1415.First, .sl false (L (cSl cU8) p_1415.Queue), i64 p_1415.Next, .sl false (L cApi_Packet p_1415.Early), i64 p_1415.SentAt])], []⟩ _
  refine run_wkP ?_
  refine run_textE hE [1] (fr' := [(1, .ref 0 0)]) (σ' := [.box [i64 p_1415.Epoch, i64 p_1415.Other, i64 p_1415.First, .sl false (L (cSl cU8) p_1415.Queue), i64 p_1415.Next, .sl false (L cApi_Packet p_1415.Early), i64 p_1415.SentAt] false]) ⟨_, orcs_nil, ?_⟩ ?_
  · simp only [go_sem]
  refine run_seq ?_
  replace h := bind_some1 h; obtain ⟨t_1416, hv_1417, h⟩ := h
  refine run_textW hE [1, 15] (fr' := [(1, .ref 0 0), (15, .bool t_1416)]) (σ' := [.box [i64 p_1415.Epoch, i64 p_1415.Other, i64 p_1415.First, .sl false (L (cSl cU8) p_1415.Queue), i64 p_1415.Next, .sl false (L cApi_Packet p_1415.Early), i64 p_1415.SentAt] false]) ?_ ?_
  · rcases Bool.eq_false_or_eq_true ((decide ((p_1415.Queue.length : Int) > 257))) with hb_1418 | hb_1418
    · replace hv_1417 := ite_t hv_1417 hb_1418
      have e_hv_1417 := Option.some.inj hv_1417; subst e_hv_1417
      exact ⟨_, [(1, .ref 0 0), (15, .bool true)], [.box [i64 p_1415.Epoch, i64 p_1415.Other, i64 p_1415.First, .sl false (L (cSl cU8) p_1415.Queue), i64 p_1415.Next, .sl false (L cApi_Packet p_1415.Early), i64 p_1415.SentAt] false], orcs_nil, by simp only [go_sem, hb_1418], (weak_sel [0] (by decide) rfl (by simp only [go_sem]) (by simp only [go_sem]))⟩
    · replace hv_1417 := ite_f hv_1417 hb_1418
      have e_hv_1417 := Option.some.inj hv_1417; subst e_hv_1417
      exact ⟨_, [(1, .ref 0 0), (15, .bool ((decide ((p_1415.Early.length : Int) > 70))))], [.box [i64 p_1415.Epoch, i64 p_1415.Other, i64 p_1415.First, .sl false (L (cSl cU8) p_1415.Queue), i64 p_1415.Next, .sl false (L cApi_Packet p_1415.Early), i64 p_1415.SentAt] false], orcs_nil, by simp only [go_sem, hb_1418], (weak_sel [0] (by decide) rfl (by simp only [go_sem]) (by simp only [go_sem]))⟩
  refine run_condL (b := t_1416) rfl (by decide) (fun hb => ?_) (fun hb => ?_)
  · replace h := ite_t h hb
    refine run_textE hE [2] (fr' := [(2, .bool false)]) (σ' := [.box [i64 p_1415.Epoch, i64 p_1415.Other, i64 p_1415.First, .sl false (L (cSl cU8) p_1415.Queue), i64 p_1415.Next, .sl false (L cApi_Packet p_1415.Early), i64 p_1415.SentAt] false]) ⟨_, orcs_nil, ?_⟩ ?_
    · simp only [go_sem]
    refine run_ret ?_
    refine thenK_r ?_
    obtain rfl := Option.some.inj h
    refine wkP_of (Weak.refl _ _) ?_
    refine ret_ok (.inr rfl) ?_
    simp only [go_sem]
  · replace h := ite_f h hb
    refine run_skip ?_
    refine thenK_n ?_
    refine run_textE hE [1, 3] (fr' := [(1, .ref 0 0), (3, i64 0)]) (σ' := [.box [i64 p_1415.Epoch, i64 p_1415.Other, i64 p_1415.First, .sl false (L (cSl cU8) p_1415.Queue), i64 p_1415.Next, .sl false (L cApi_Packet p_1415.Early), i64 p_1415.SentAt] false]) ⟨_, orcs_nil, ?_⟩ ?_
    · simp only [go_sem]
    replace h := bind_some1 h; obtain ⟨j_1437, hA_1438, hj_1439⟩ := h
    refine run_join (fun (v : Int) => (⟨asFr 49 [(1, .ref 0 0), (3, i64 v)], [.box [i64 p_1415.Epoch, i64 p_1415.Other, i64 p_1415.First, .sl false (L (cSl cU8) p_1415.Queue), i64 p_1415.Next, .sl false (L cApi_Packet p_1415.Early), i64 p_1415.SentAt] false]⟩ : St)) (fun v => v = j_1437) ?_ ?_
    · have h := hA_1438; clear hA_1438
      refine run_textE hE [1, 3, 4] (fr' := [(1, .ref 0 0), (3, i64 0), (4, i64 0)]) (σ' := [.box [i64 p_1415.Epoch, i64 p_1415.Other, i64 p_1415.First, .sl false (L (cSl cU8) p_1415.Queue), i64 p_1415.Next, .sl false (L cApi_Packet p_1415.Early), i64 p_1415.SentAt] false]) ⟨_, orcs_nil, ?_⟩ ?_
      · simp only [go_sem]
      refine run_block ?_
      replace h := bind_some1 h; obtain ⟨x_1449, hx_1450, hj_1451⟩ := h
      refine run_loopO hx_1450 (fun (v : Int × Int) => (⟨asFr 49 [(1, .ref 0 0), (3, i64 v.1), (4, i64 v.2)], [.box [i64 p_1415.Epoch, i64 p_1415.Other, i64 p_1415.First, .sl false (L (cSl cU8) p_1415.Queue), i64 p_1415.Next, .sl false (L cApi_Packet p_1415.Early), i64 p_1415.SentAt] false]⟩ : St)) (weak_sel [0] (by decide) rfl (by simp only [go_sem]) (by simp only [go_sem])) ?_
      rintro ⟨n_1443, i_1444⟩ o_1452 h hxx_1453
      replace h : law12_few_b1 p_1415 n_1443 i_1444 = some o_1452 := h
      unfold law12_few_b1 at h
      refine run_seq ?_
      refine run_textE hE [1, 3, 4, 20] (fr' := [(1, .ref 0 0), (3, i64 n_1443), (4, i64 i_1444), (20, .bool ((decide (i_1444 < (p_1415.Queue.length : Int)))))]) (σ' := [.box [i64 p_1415.Epoch, i64 p_1415.Other, i64 p_1415.First, .sl false (L (cSl cU8) p_1415.Queue), i64 p_1415.Next, .sl false (L cApi_Packet p_1415.Early), i64 p_1415.SentAt] false]) ⟨_, orcs_nil, ?_⟩ ?_
      · simp only [go_sem]
      refine run_condL (b := (decide (i_1444 < (p_1415.Queue.length : Int)))) rfl (by decide) (fun hb => ?_) (fun hb => ?_)
      · replace h := ite_t h hb
        refine run_skip ?_
        refine thenK_n ?_
        refine run_seq ?_
        refine run_block ?_
        replace h := chk_some h; obtain ⟨hc_1454, h⟩ := h
        replace h := lt1_some h; obtain ⟨n_1455, hz_1456, h⟩ := h
        refine run_textE0 hE (wk_block wk_then) [1, 3, 4] (fr' := [(1, .ref 0 0), (3, i64 n_1455), (4, i64 i_1444)]) (σ' := [.box [i64 p_1415.Epoch, i64 p_1415.Other, i64 p_1415.First, .sl false (L (cSl cU8) p_1415.Queue), i64 p_1415.Next, .sl false (L cApi_Packet p_1415.Early), i64 p_1415.SentAt] false]) ⟨_, orcs_nil, ?_⟩ ?_
        · subst hz_1456; simp only [go_sem, Int.reduceToNat, hc_1454, hc_1454.2, lt_le hc_1454.2]
        refine blockK_n ?_
        refine thenK_n ?_
        refine run_textE0 hE wk_lp [1, 3, 4] (fr' := [(1, .ref 0 0), (3, i64 n_1455), (4, i64 ((w64 (i_1444 + 1))))]) (σ' := [.box [i64 p_1415.Epoch, i64 p_1415.Other, i64 p_1415.First, .sl false (L (cSl cU8) p_1415.Queue), i64 p_1415.Next, .sl false (L cApi_Packet p_1415.Early), i64 p_1415.SentAt] false]) ⟨_, orcs_nil, ?_⟩ ?_
        · simp only [go_sem]
        obtain rfl := Option.some.inj h
        exact lpK_n ((n_1455, (w64 (i_1444 + 1)))) rfl (weak_sel [0] (by decide) rfl (by simp only [go_sem]) (by simp only [go_sem]))
      · replace h := ite_f h hb
        refine run_exit ?_
        refine thenK_x ?_
        obtain rfl := Option.some.inj h
        have ex_x_1449 := hxx_1453 _ rfl
        subst ex_x_1449
        have h := hj_1451; clear hj_1451
        refine lpK_x ?_
        refine blockK_x ?_
        obtain rfl := Option.some.inj h
        exact joinK_n n_1443 rfl ((weak_sel (l' := [(1, .ref 0 0), (3, i64 n_1443)]) (σ' := [.box [i64 p_1415.Epoch, i64 p_1415.Other, i64 p_1415.First, .sl false (L (cSl cU8) p_1415.Queue), i64 p_1415.Next, .sl false (L cApi_Packet p_1415.Early), i64 p_1415.SentAt] false]) [0] (by decide) rfl (by simp only [go_sem]) (by simp only [go_sem])).trans (weak_sel [0] (by decide) rfl (by simp only [go_sem]) (by simp only [go_sem])))
    rintro n_1436 rfl
    have h := hj_1439; clear hj_1439
    replace h := bind_some1 h; obtain ⟨j_1475, hA_1476, hj_1477⟩ := h
    refine run_join (fun (v : Int) => (⟨asFr 49 [(3, i64 v)], []⟩ : St)) (fun v => v = j_1475) ?_ ?_
    · have h := hA_1476; clear hA_1476
      refine run_textE hE [1, 3, 5] (fr' := [(1, .ref 0 0), (3, i64 n_1436), (5, i64 0)]) (σ' := [.box [i64 p_1415.Epoch, i64 p_1415.Other, i64 p_1415.First, .sl false (L (cSl cU8) p_1415.Queue), i64 p_1415.Next, .sl false (L cApi_Packet p_1415.Early), i64 p_1415.SentAt] false]) ⟨_, orcs_nil, ?_⟩ ?_
      · simp only [go_sem]
      refine run_block ?_
      replace h := bind_some1 h; obtain ⟨x_1487, hx_1488, hj_1489⟩ := h
      refine run_loopO hx_1488 (fun (v : Int × Int) => (⟨asFr 49 [(1, .ref 0 0), (3, i64 v.1), (5, i64 v.2)], [.box [i64 p_1415.Epoch, i64 p_1415.Other, i64 p_1415.First, .sl false (L (cSl cU8) p_1415.Queue), i64 p_1415.Next, .sl false (L cApi_Packet p_1415.Early), i64 p_1415.SentAt] false]⟩ : St)) (weak_sel [0] (by decide) rfl (by simp only [go_sem]) (by simp only [go_sem])) ?_
      rintro ⟨n_1481, i_1482⟩ o_1490 h hxx_1491
      replace h : law12_few_b2 p_1415 n_1481 i_1482 = some o_1490 := h
      unfold law12_few_b2 at h
      refine run_seq ?_
      refine run_textE hE [1, 3, 5, 35] (fr' := [(1, .ref 0 0), (3, i64 n_1481), (5, i64 i_1482), (35, .bool ((decide (i_1482 < (p_1415.Early.length : Int)))))]) (σ' := [.box [i64 p_1415.Epoch, i64 p_1415.Other, i64 p_1415.First, .sl false (L (cSl cU8) p_1415.Queue), i64 p_1415.Next, .sl false (L cApi_Packet p_1415.Early), i64 p_1415.SentAt] false]) ⟨_, orcs_nil, ?_⟩ ?_
      · simp only [go_sem]
      refine run_condL (b := (decide (i_1482 < (p_1415.Early.length : Int)))) rfl (by decide) (fun hb => ?_) (fun hb => ?_)
      · replace h := ite_t h hb
        refine run_skip ?_
        refine thenK_n ?_
        refine run_seq ?_
        refine run_block ?_
        replace h := chk_some h; obtain ⟨hc_1492, h⟩ := h
        replace h := lt1_some h; obtain ⟨n_1493, hz_1494, h⟩ := h
        refine run_textE0 hE (wk_block wk_then) [1, 3, 5] (fr' := [(1, .ref 0 0), (3, i64 n_1493), (5, i64 i_1482)]) (σ' := [.box [i64 p_1415.Epoch, i64 p_1415.Other, i64 p_1415.First, .sl false (L (cSl cU8) p_1415.Queue), i64 p_1415.Next, .sl false (L cApi_Packet p_1415.Early), i64 p_1415.SentAt] false]) ⟨_, orcs_nil, ?_⟩ ?_
        · subst hz_1494; simp only [go_sem, Int.reduceToNat, hc_1492, hc_1492.2, lt_le hc_1492.2]
        refine blockK_n ?_
        refine thenK_n ?_
        refine run_textE0 hE wk_lp [1, 3, 5] (fr' := [(1, .ref 0 0), (3, i64 n_1493), (5, i64 ((w64 (i_1482 + 1))))]) (σ' := [.box [i64 p_1415.Epoch, i64 p_1415.Other, i64 p_1415.First, .sl false (L (cSl cU8) p_1415.Queue), i64 p_1415.Next, .sl false (L cApi_Packet p_1415.Early), i64 p_1415.SentAt] false]) ⟨_, orcs_nil, ?_⟩ ?_
        · simp only [go_sem]
        obtain rfl := Option.some.inj h
        exact lpK_n ((n_1493, (w64 (i_1482 + 1)))) rfl (weak_sel [0] (by decide) rfl (by simp only [go_sem]) (by simp only [go_sem]))
      · replace h := ite_f h hb
        refine run_exit ?_
        refine thenK_x ?_
        obtain rfl := Option.some.inj h
        have ex_x_1487 := hxx_1491 _ rfl
        subst ex_x_1487
        have h := hj_1489; clear hj_1489
        refine lpK_x ?_
        refine blockK_x ?_
        obtain rfl := Option.some.inj h
        exact joinK_n n_1481 rfl ((weak_sel (l' := [(3, i64 n_1481)]) (σ' := []) [] (by decide) rfl (by simp only [go_sem]) (by simp only [go_sem])).trans (weak_sel [] (by decide) rfl (by simp only [go_sem]) (by simp only [go_sem])))
    rintro n_1474 rfl
    have h := hj_1477; clear hj_1477
    refine run_textE hE [2] (fr' := [(2, .bool ((decide (n_1474 ≤ 20000))))]) (σ' := []) ⟨_, orcs_nil, ?_⟩ ?_
    · simp only [go_sem]
    refine run_ret ?_
    obtain rfl := Option.some.inj h
    refine wkP_of (Weak.refl _ _) ?_
    refine ret_ok (.inr rfl) ?_
    simp only [go_sem]

end Go.Proofs.Ytomjphpnpcgacaa
/-
  The functions compute just that.
-/
namespace Go.Proofs.Ytomjphpnpcgacaa
open Go.Rv
set_option linter.unusedVariables false
set_option linter.unusedSimpArgs false
set_option maxRecDepth 20000
set_option maxHeartbeats 4000000

theorem law12_sane_con  {r : Bool} (h : law12_sane  = some r) : Con B 10 [] [] (fun r' σ' => r' = .bool r ∧ σ' = []) := by
  refine con_walk (N := 206) (rs := [.tmp 0]) ok Try.func10 rfl (by decide +kernel) rfl rfl (Nat.le_of_ble_eq_true rfl) (fun F => ?_)
  have hE := ok.env F
  unfold law12_sane at h
  show Run (B.env F) 0 _ ⟨asFr 206 [], []⟩ _
  refine run_wkP ?_
  refine run_textE hE [] (fr' := []) (σ' := []) ⟨_, orcs_nil, ?_⟩ ?_
  · simp only [go_sem]
  replace h := bind_some1 h; obtain ⟨y_1495, hy_1496, h⟩ := h
  refine run_textE hE [1, 2] (fr' := [(1, .ref 0 0), (2, i64 y_1495.2)]) (σ' := [.box [i64 y_1495.1.Epoch, i64 y_1495.1.Other, i64 y_1495.1.First, .sl false (L (cSl cU8) y_1495.1.Queue), i64 y_1495.1.Next, .sl false (L cApi_Packet y_1495.1.Early), i64 y_1495.1.SentAt] false]) ⟨_, orcs_ok (l := [(22, 12, [i64 3], .tup [.agg [i64 y_1495.1.Epoch, i64 y_1495.1.Other, i64 y_1495.1.First, .sl false (L (cSl cU8) y_1495.1.Queue), i64 y_1495.1.Next, .sl false (L cApi_Packet y_1495.1.Early), i64 y_1495.1.SentAt], i64 y_1495.2])]) ⟨window_New_con  hy_1496, trivial⟩, ?_⟩ ?_
  · simp only [go_sem, Nat.reduceLeDiff]
  replace h := bind_some1 h; obtain ⟨y_1497, hy_1498, h⟩ := h
  refine run_textE hE [1, 2, 3, 4] (fr' := [(1, .ref 0 0), (2, i64 y_1495.2), (3, .ref 1 0), (4, i64 y_1497.2)]) (σ' := [.box [i64 y_1495.1.Epoch, i64 y_1495.1.Other, i64 y_1495.1.First, .sl false (L (cSl cU8) y_1495.1.Queue), i64 y_1495.1.Next, .sl false (L cApi_Packet y_1495.1.Early), i64 y_1495.1.SentAt] false, .box [i64 y_1497.1.Epoch, i64 y_1497.1.Other, i64 y_1497.1.First, .sl false (L (cSl cU8) y_1497.1.Queue), i64 y_1497.1.Next, .sl false (L cApi_Packet y_1497.1.Early), i64 y_1497.1.SentAt] false]) ⟨_, orcs_ok (l := [(26, 12, [i64 5], .tup [.agg [i64 y_1497.1.Epoch, i64 y_1497.1.Other, i64 y_1497.1.First, .sl false (L (cSl cU8) y_1497.1.Queue), i64 y_1497.1.Next, .sl false (L cApi_Packet y_1497.1.Early), i64 y_1497.1.SentAt], i64 y_1497.2])]) ⟨window_New_con  hy_1498, trivial⟩, ?_⟩ ?_
  · simp only [go_sem, Nat.reduceLeDiff]
  replace h := bind_some1 h; obtain ⟨y_1499, hy_1500, h⟩ := h
  refine run_textE hE [1, 2, 3, 4, 6] (fr' := [(1, .ref 0 0), (2, i64 y_1495.2), (3, .ref 1 0), (4, i64 y_1497.2), (6, i64 y_1499.2)]) (σ' := [.box [i64 y_1495.1.Epoch, i64 y_1495.1.Other, i64 y_1495.1.First, .sl false (L (cSl cU8) y_1495.1.Queue), i64 y_1495.1.Next, .sl false (L cApi_Packet y_1495.1.Early), i64 y_1495.1.SentAt] false, .box [i64 y_1497.1.Epoch, i64 y_1497.1.Other, i64 y_1497.1.First, .sl false (L (cSl cU8) y_1497.1.Queue), i64 y_1497.1.Next, .sl false (L cApi_Packet y_1497.1.Early), i64 y_1497.1.SentAt] false, .box [i64 y_1499.1.Epoch, i64 y_1499.1.Other, i64 y_1499.1.First, .sl false (L (cSl cU8) y_1499.1.Queue), i64 y_1499.1.Next, .sl false (L cApi_Packet y_1499.1.Early), i64 y_1499.1.SentAt] false]) ⟨_, orcs_ok (l := [(30, 12, [i64 ((-1))], .tup [.agg [i64 y_1499.1.Epoch, i64 y_1499.1.Other, i64 y_1499.1.First, .sl false (L (cSl cU8) y_1499.1.Queue), i64 y_1499.1.Next, .sl false (L cApi_Packet y_1499.1.Early), i64 y_1499.1.SentAt], i64 y_1499.2])]) ⟨window_New_con  hy_1500, trivial⟩, ?_⟩ ?_
  · simp only [go_sem, Nat.reduceLeDiff]
  replace h := bind_some1 h; obtain ⟨y_1501, hy_1502, h⟩ := h
  refine run_textE hE [1, 2, 3, 4, 6, 7] (fr' := [(1, .ref 0 0), (2, i64 y_1495.2), (3, .ref 1 0), (4, i64 y_1497.2), (6, i64 y_1499.2), (7, .sl false (L cApi_Packet y_1501.2))]) (σ' := [.box [i64 y_1501.1.Epoch, i64 y_1501.1.Other, i64 y_1501.1.First, .sl false (L (cSl cU8) y_1501.1.Queue), i64 y_1501.1.Next, .sl false (L cApi_Packet y_1501.1.Early), i64 y_1501.1.SentAt] false, .box [i64 y_1497.1.Epoch, i64 y_1497.1.Other, i64 y_1497.1.First, .sl false (L (cSl cU8) y_1497.1.Queue), i64 y_1497.1.Next, .sl false (L cApi_Packet y_1497.1.Early), i64 y_1497.1.SentAt] false, .box [i64 y_1499.1.Epoch, i64 y_1499.1.Other, i64 y_1499.1.First, .sl false (L (cSl cU8) y_1499.1.Queue), i64 y_1499.1.Next, .sl false (L cApi_Packet y_1499.1.Early), i64 y_1499.1.SentAt] false]) ⟨_, orcs_ok (l := [(35, 16, [.agg [i64 y_1495.1.Epoch, i64 y_1495.1.Other, i64 y_1495.1.First, .sl false (L (cSl cU8) y_1495.1.Queue), i64 y_1495.1.Next, .sl false (L cApi_Packet y_1495.1.Early), i64 y_1495.1.SentAt], i64 0], .tup [.agg [i64 y_1501.1.Epoch, i64 y_1501.1.Other, i64 y_1501.1.First, .sl false (L (cSl cU8) y_1501.1.Queue), i64 y_1501.1.Next, .sl false (L cApi_Packet y_1501.1.Early), i64 y_1501.1.SentAt], .sl false (L cApi_Packet y_1501.2)])]) ⟨window_Emit_con  hy_1502, trivial⟩, ?_⟩ ?_
  · simp only [go_sem, Nat.reduceLeDiff]
  refine run_seq ?_
  replace h := bind_some1 h; obtain ⟨t_1504, hv_1505, h⟩ := h
  refine run_textW hE [1, 3, 7, 60] (fr' := [(1, .ref 0 0), (3, .ref 1 0), (7, .sl false (L cApi_Packet y_1501.2)), (60, .bool t_1504)]) (σ' := [.box [i64 y_1501.1.Epoch, i64 y_1501.1.Other, i64 y_1501.1.First, .sl false (L (cSl cU8) y_1501.1.Queue), i64 y_1501.1.Next, .sl false (L cApi_Packet y_1501.1.Early), i64 y_1501.1.SentAt] false, .box [i64 y_1497.1.Epoch, i64 y_1497.1.Other, i64 y_1497.1.First, .sl false (L (cSl cU8) y_1497.1.Queue), i64 y_1497.1.Next, .sl false (L cApi_Packet y_1497.1.Early), i64 y_1497.1.SentAt] false]) ?_ ?_
  · rcases Bool.eq_false_or_eq_true ((y_1495.2 != 0)) with hb_1506 | hb_1506
    · replace hv_1505 := ite_t hv_1505 hb_1506
      have e_hv_1505 := Option.some.inj hv_1505; subst e_hv_1505
      exact ⟨_, [(1, .ref 0 0), (3, .ref 1 0), (7, .sl false (L cApi_Packet y_1501.2)), (60, .bool true)], [.box [i64 y_1501.1.Epoch, i64 y_1501.1.Other, i64 y_1501.1.First, .sl false (L (cSl cU8) y_1501.1.Queue), i64 y_1501.1.Next, .sl false (L cApi_Packet y_1501.1.Early), i64 y_1501.1.SentAt] false, .box [i64 y_1497.1.Epoch, i64 y_1497.1.Other, i64 y_1497.1.First, .sl false (L (cSl cU8) y_1497.1.Queue), i64 y_1497.1.Next, .sl false (L cApi_Packet y_1497.1.Early), i64 y_1497.1.SentAt] false, .box [i64 y_1499.1.Epoch, i64 y_1499.1.Other, i64 y_1499.1.First, .sl false (L (cSl cU8) y_1499.1.Queue), i64 y_1499.1.Next, .sl false (L cApi_Packet y_1499.1.Early), i64 y_1499.1.SentAt] false], orcs_nil, by simp only [go_sem, Nat.reduceGT, Int.reduceToNat, hb_1506], (weak_sel [0, 1] (by decide) rfl (by simp only [go_sem]) (by simp only [go_sem]))⟩
    · replace hv_1505 := ite_f hv_1505 hb_1506
      rcases Bool.eq_false_or_eq_true ((y_1497.2 != 0)) with hb_1507 | hb_1507
      · replace hv_1505 := ite_t hv_1505 hb_1507
        have e_hv_1505 := Option.some.inj hv_1505; subst e_hv_1505
        exact ⟨_, [(1, .ref 0 0), (3, .ref 1 0), (7, .sl false (L cApi_Packet y_1501.2)), (60, .bool true)], [.box [i64 y_1501.1.Epoch, i64 y_1501.1.Other, i64 y_1501.1.First, .sl false (L (cSl cU8) y_1501.1.Queue), i64 y_1501.1.Next, .sl false (L cApi_Packet y_1501.1.Early), i64 y_1501.1.SentAt] false, .box [i64 y_1497.1.Epoch, i64 y_1497.1.Other, i64 y_1497.1.First, .sl false (L (cSl cU8) y_1497.1.Queue), i64 y_1497.1.Next, .sl false (L cApi_Packet y_1497.1.Early), i64 y_1497.1.SentAt] false, .box [i64 y_1499.1.Epoch, i64 y_1499.1.Other, i64 y_1499.1.First, .sl false (L (cSl cU8) y_1499.1.Queue), i64 y_1499.1.Next, .sl false (L cApi_Packet y_1499.1.Early), i64 y_1499.1.SentAt] false], orcs_nil, by simp only [go_sem, Nat.reduceGT, Int.reduceToNat, hb_1506, hb_1507], (weak_sel [0, 1] (by decide) rfl (by simp only [go_sem]) (by simp only [go_sem]))⟩
      · replace hv_1505 := ite_f hv_1505 hb_1507
        rcases Bool.eq_false_or_eq_true ((y_1499.2 != 1)) with hb_1508 | hb_1508
        · replace hv_1505 := ite_t hv_1505 hb_1508
          have e_hv_1505 := Option.some.inj hv_1505; subst e_hv_1505
          exact ⟨_, [(1, .ref 0 0), (3, .ref 1 0), (7, .sl false (L cApi_Packet y_1501.2)), (60, .bool true)], [.box [i64 y_1501.1.Epoch, i64 y_1501.1.Other, i64 y_1501.1.First, .sl false (L (cSl cU8) y_1501.1.Queue), i64 y_1501.1.Next, .sl false (L cApi_Packet y_1501.1.Early), i64 y_1501.1.SentAt] false, .box [i64 y_1497.1.Epoch, i64 y_1497.1.Other, i64 y_1497.1.First, .sl false (L (cSl cU8) y_1497.1.Queue), i64 y_1497.1.Next, .sl false (L cApi_Packet y_1497.1.Early), i64 y_1497.1.SentAt] false, .box [i64 y_1499.1.Epoch, i64 y_1499.1.Other, i64 y_1499.1.First, .sl false (L (cSl cU8) y_1499.1.Queue), i64 y_1499.1.Next, .sl false (L cApi_Packet y_1499.1.Early), i64 y_1499.1.SentAt] false], orcs_nil, by simp only [go_sem, Nat.reduceGT, Int.reduceToNat, hb_1506, hb_1507, hb_1508], (weak_sel [0, 1] (by decide) rfl (by simp only [go_sem]) (by simp only [go_sem]))⟩
        · replace hv_1505 := ite_f hv_1505 hb_1508
          rcases Bool.eq_false_or_eq_true (((y_1501.2.length : Int) != 1)) with hb_1509 | hb_1509
          · replace hv_1505 := ite_t hv_1505 hb_1509
            have e_hv_1505 := Option.some.inj hv_1505; subst e_hv_1505
            exact ⟨_, [(1, .ref 0 0), (3, .ref 1 0), (7, .sl false (L cApi_Packet y_1501.2)), (60, .bool true)], [.box [i64 y_1501.1.Epoch, i64 y_1501.1.Other, i64 y_1501.1.First, .sl false (L (cSl cU8) y_1501.1.Queue), i64 y_1501.1.Next, .sl false (L cApi_Packet y_1501.1.Early), i64 y_1501.1.SentAt] false, .box [i64 y_1497.1.Epoch, i64 y_1497.1.Other, i64 y_1497.1.First, .sl false (L (cSl cU8) y_1497.1.Queue), i64 y_1497.1.Next, .sl false (L cApi_Packet y_1497.1.Early), i64 y_1497.1.SentAt] false, .box [i64 y_1499.1.Epoch, i64 y_1499.1.Other, i64 y_1499.1.First, .sl false (L (cSl cU8) y_1499.1.Queue), i64 y_1499.1.Next, .sl false (L cApi_Packet y_1499.1.Early), i64 y_1499.1.SentAt] false], orcs_nil, by simp only [go_sem, Nat.reduceGT, Int.reduceToNat, hb_1506, hb_1507, hb_1508, hb_1509], (weak_sel [0, 1] (by decide) rfl (by simp only [go_sem]) (by simp only [go_sem]))⟩
          · replace hv_1505 := ite_f hv_1505 hb_1509
            replace hv_1505 := chk_some hv_1505; obtain ⟨hc_1510, hv_1505⟩ := hv_1505
            replace hv_1505 := bind_some1 hv_1505; obtain ⟨y_1503, hy_1511, hv_1505⟩ := hv_1505
            have e_hv_1505 := Option.some.inj hv_1505; subst e_hv_1505
            exact ⟨_, [(1, .ref 0 0), (3, .ref 1 0), (7, .sl false (L cApi_Packet y_1501.2)), (60, .bool ((!y_1503)))], [.box [i64 y_1501.1.Epoch, i64 y_1501.1.Other, i64 y_1501.1.First, .sl false (L (cSl cU8) y_1501.1.Queue), i64 y_1501.1.Next, .sl false (L cApi_Packet y_1501.1.Early), i64 y_1501.1.SentAt] false, .box [i64 y_1497.1.Epoch, i64 y_1497.1.Other, i64 y_1497.1.First, .sl false (L (cSl cU8) y_1497.1.Queue), i64 y_1497.1.Next, .sl false (L cApi_Packet y_1497.1.Early), i64 y_1497.1.SentAt] false, .box [i64 y_1499.1.Epoch, i64 y_1499.1.Other, i64 y_1499.1.First, .sl false (L (cSl cU8) y_1499.1.Queue), i64 y_1499.1.Next, .sl false (L cApi_Packet y_1499.1.Early), i64 y_1499.1.SentAt] false], orcs_ok (l := [(58, 30, [.agg [i64 ((nth y_1501.2 0).Epoch), i64 ((nth y_1501.2 0).To), i64 ((nth y_1501.2 0).Seq), i64 ((nth y_1501.2 0).Ack), .sl false (L cU8 ((nth y_1501.2 0).Data))], .agg [i64 3, i64 ((-1)), i64 ((-1)), i64 0, .sl false (L cU8 ([]))]], .bool y_1503)]) ⟨r12_SamePacket_con  hy_1511, trivial⟩, by simp only [go_sem, Nat.reduceGT, Int.reduceToNat, hb_1506, hb_1507, hb_1508, hb_1509, hc_1510, (show 0 < y_1501.2.length from hc_1510.2)], (weak_sel [0, 1] (by decide) rfl (by simp only [go_sem]) (by simp only [go_sem]))⟩
  refine run_condL (b := t_1504) rfl (by decide) (fun hb => ?_) (fun hb => ?_)
  · replace h := ite_t h hb
    refine run_textE hE [0] (fr' := [(0, .bool false)]) (σ' := [.box [i64 y_1501.1.Epoch, i64 y_1501.1.Other, i64 y_1501.1.First, .sl false (L (cSl cU8) y_1501.1.Queue), i64 y_1501.1.Next, .sl false (L cApi_Packet y_1501.1.Early), i64 y_1501.1.SentAt] false, .box [i64 y_1497.1.Epoch, i64 y_1497.1.Other, i64 y_1497.1.First, .sl false (L (cSl cU8) y_1497.1.Queue), i64 y_1497.1.Next, .sl false (L cApi_Packet y_1497.1.Early), i64 y_1497.1.SentAt] false]) ⟨_, orcs_nil, ?_⟩ ?_
    · simp only [go_sem]
    refine run_ret ?_
    refine thenK_r ?_
    obtain rfl := Option.some.inj h
    refine wkP_of (Weak.refl _ _) ?_
    refine ret_ok (.inr rfl) ?_
    simp only [go_sem]
  · replace h := ite_f h hb
    refine run_skip ?_
    refine thenK_n ?_
    replace h := chk_some h; obtain ⟨hc_1513, h⟩ := h
    replace h := bind_some1 h; obtain ⟨y_1512, hy_1514, h⟩ := h
    refine run_drawE hE mixed [[], [], [1], [1, 2], [0, 1, 2, 3], [0, 1, 2, 3, 4], [0, 1, 2, 3, 4, 5], [0, 1, 2, 3, 4, 5], [0, 1, 2, 3, 4, 5], [0, 1, 2, 3, 4, 5, 6], [0, 1, 2, 3, 4, 5, 6, 7, 9], [0, 1, 2, 3, 4, 5, 6, 7, 8, 9, 10]] (by kernel_rfl) (by kernel_rfl) [1, 3, 8, 9] (fr' := [(1, .ref 0 0), (3, .ref 1 0), (8, .sl false (L (cSl cU8) y_1512.2.1)), (9, .bool y_1512.2.2)]) (σ' := [.box [i64 y_1501.1.Epoch, i64 y_1501.1.Other, i64 y_1501.1.First, .sl false (L (cSl cU8) y_1501.1.Queue), i64 y_1501.1.Next, .sl false (L cApi_Packet y_1501.1.Early), i64 y_1501.1.SentAt] false, .box [i64 y_1512.1.Epoch, i64 y_1512.1.Other, i64 y_1512.1.First, .sl false (L (cSl cU8) y_1512.1.Queue), i64 y_1512.1.Next, .sl false (L cApi_Packet y_1512.1.Early), i64 y_1512.1.SentAt] false]) ⟨_, orcs_ok (l := [(66, 20, [.agg [i64 y_1497.1.Epoch, i64 y_1497.1.Other, i64 y_1497.1.First, .sl false (L (cSl cU8) y_1497.1.Queue), i64 y_1497.1.Next, .sl false (L cApi_Packet y_1497.1.Early), i64 y_1497.1.SentAt], .agg [i64 ((nth y_1501.2 0).Epoch), i64 ((nth y_1501.2 0).To), i64 ((nth y_1501.2 0).Seq), i64 ((nth y_1501.2 0).Ack), .sl false (L cU8 ((nth y_1501.2 0).Data))]], .tup [.agg [i64 y_1512.1.Epoch, i64 y_1512.1.Other, i64 y_1512.1.First, .sl false (L (cSl cU8) y_1512.1.Queue), i64 y_1512.1.Next, .sl false (L cApi_Packet y_1512.1.Early), i64 y_1512.1.SentAt], .sl false (L (cSl cU8) y_1512.2.1), .bool y_1512.2.2])]) ⟨window_Accept_con  hy_1514, trivial⟩, ?_⟩ ?_
    · simp only [go_sem, Int.reduceToNat, Nat.reduceLeDiff, hc_1513, (show 0 < y_1501.2.length from hc_1513.2)]
    replace h := bind_some1 h; obtain ⟨y_1515, hy_1516, h⟩ := h
    refine run_textE hE [1, 3, 8, 9, 10] (fr' := [(1, .ref 0 0), (3, .ref 1 0), (8, .sl false (L (cSl cU8) y_1512.2.1)), (9, .bool y_1512.2.2), (10, .sl false (L cApi_Packet y_1515.2))]) (σ' := [.box [i64 y_1501.1.Epoch, i64 y_1501.1.Other, i64 y_1501.1.First, .sl false (L (cSl cU8) y_1501.1.Queue), i64 y_1501.1.Next, .sl false (L cApi_Packet y_1501.1.Early), i64 y_1501.1.SentAt] false, .box [i64 y_1515.1.Epoch, i64 y_1515.1.Other, i64 y_1515.1.First, .sl false (L (cSl cU8) y_1515.1.Queue), i64 y_1515.1.Next, .sl false (L cApi_Packet y_1515.1.Early), i64 y_1515.1.SentAt] false]) ⟨_, orcs_ok (l := [(72, 16, [.agg [i64 y_1512.1.Epoch, i64 y_1512.1.Other, i64 y_1512.1.First, .sl false (L (cSl cU8) y_1512.1.Queue), i64 y_1512.1.Next, .sl false (L cApi_Packet y_1512.1.Early), i64 y_1512.1.SentAt], i64 1], .tup [.agg [i64 y_1515.1.Epoch, i64 y_1515.1.Other, i64 y_1515.1.First, .sl false (L (cSl cU8) y_1515.1.Queue), i64 y_1515.1.Next, .sl false (L cApi_Packet y_1515.1.Early), i64 y_1515.1.SentAt], .sl false (L cApi_Packet y_1515.2)])]) ⟨window_Emit_con  hy_1516, trivial⟩, ?_⟩ ?_
    · simp only [go_sem, Nat.reduceLeDiff]
    refine run_seq ?_
    replace h := bind_some1 h; obtain ⟨t_1517, hv_1518, h⟩ := h
    refine run_textW hE [1, 3, 10, 91] (fr' := [(1, .ref 0 0), (3, .ref 1 0), (10, .sl false (L cApi_Packet y_1515.2)), (91, .bool t_1517)]) (σ' := [.box [i64 y_1501.1.Epoch, i64 y_1501.1.Other, i64 y_1501.1.First, .sl false (L (cSl cU8) y_1501.1.Queue), i64 y_1501.1.Next, .sl false (L cApi_Packet y_1501.1.Early), i64 y_1501.1.SentAt] false, .box [i64 y_1515.1.Epoch, i64 y_1515.1.Other, i64 y_1515.1.First, .sl false (L (cSl cU8) y_1515.1.Queue), i64 y_1515.1.Next, .sl false (L cApi_Packet y_1515.1.Early), i64 y_1515.1.SentAt] false]) ?_ ?_
    · rcases Bool.eq_false_or_eq_true (((y_1512.2.1.length : Int) != 0)) with hb_1519 | hb_1519
      · replace hv_1518 := ite_t hv_1518 hb_1519
        have e_hv_1518 := Option.some.inj hv_1518; subst e_hv_1518
        exact ⟨_, [(1, .ref 0 0), (3, .ref 1 0), (10, .sl false (L cApi_Packet y_1515.2)), (91, .bool true)], [.box [i64 y_1501.1.Epoch, i64 y_1501.1.Other, i64 y_1501.1.First, .sl false (L (cSl cU8) y_1501.1.Queue), i64 y_1501.1.Next, .sl false (L cApi_Packet y_1501.1.Early), i64 y_1501.1.SentAt] false, .box [i64 y_1515.1.Epoch, i64 y_1515.1.Other, i64 y_1515.1.First, .sl false (L (cSl cU8) y_1515.1.Queue), i64 y_1515.1.Next, .sl false (L cApi_Packet y_1515.1.Early), i64 y_1515.1.SentAt] false], orcs_nil, by simp only [go_sem, hb_1519], (weak_sel [0, 1] (by decide) rfl (by simp only [go_sem]) (by simp only [go_sem]))⟩
      · replace hv_1518 := ite_f hv_1518 hb_1519
        rcases Bool.eq_false_or_eq_true ((!y_1512.2.2)) with hb_1520 | hb_1520
        · replace hv_1518 := ite_t hv_1518 hb_1520
          have e_hv_1518 := Option.some.inj hv_1518; subst e_hv_1518
          exact ⟨_, [(1, .ref 0 0), (3, .ref 1 0), (10, .sl false (L cApi_Packet y_1515.2)), (91, .bool true)], [.box [i64 y_1501.1.Epoch, i64 y_1501.1.Other, i64 y_1501.1.First, .sl false (L (cSl cU8) y_1501.1.Queue), i64 y_1501.1.Next, .sl false (L cApi_Packet y_1501.1.Early), i64 y_1501.1.SentAt] false, .box [i64 y_1515.1.Epoch, i64 y_1515.1.Other, i64 y_1515.1.First, .sl false (L (cSl cU8) y_1515.1.Queue), i64 y_1515.1.Next, .sl false (L cApi_Packet y_1515.1.Early), i64 y_1515.1.SentAt] false], orcs_nil, by simp only [go_sem, hb_1519, hb_1520], (weak_sel [0, 1] (by decide) rfl (by simp only [go_sem]) (by simp only [go_sem]))⟩
        · replace hv_1518 := ite_f hv_1518 hb_1520
          rcases Bool.eq_false_or_eq_true ((y_1515.1.Other != 3)) with hb_1521 | hb_1521
          · replace hv_1518 := ite_t hv_1518 hb_1521
            have e_hv_1518 := Option.some.inj hv_1518; subst e_hv_1518
            exact ⟨_, [(1, .ref 0 0), (3, .ref 1 0), (10, .sl false (L cApi_Packet y_1515.2)), (91, .bool true)], [.box [i64 y_1501.1.Epoch, i64 y_1501.1.Other, i64 y_1501.1.First, .sl false (L (cSl cU8) y_1501.1.Queue), i64 y_1501.1.Next, .sl false (L cApi_Packet y_1501.1.Early), i64 y_1501.1.SentAt] false, .box [i64 y_1515.1.Epoch, i64 y_1515.1.Other, i64 y_1515.1.First, .sl false (L (cSl cU8) y_1515.1.Queue), i64 y_1515.1.Next, .sl false (L cApi_Packet y_1515.1.Early), i64 y_1515.1.SentAt] false], orcs_nil, by simp only [go_sem, hb_1519, hb_1520, hb_1521], (weak_sel [0, 1] (by decide) rfl (by simp only [go_sem]) (by simp only [go_sem]))⟩
          · replace hv_1518 := ite_f hv_1518 hb_1521
            have e_hv_1518 := Option.some.inj hv_1518; subst e_hv_1518
            exact ⟨_, [(1, .ref 0 0), (3, .ref 1 0), (10, .sl false (L cApi_Packet y_1515.2)), (91, .bool (((y_1515.2.length : Int) != 1)))], [.box [i64 y_1501.1.Epoch, i64 y_1501.1.Other, i64 y_1501.1.First, .sl false (L (cSl cU8) y_1501.1.Queue), i64 y_1501.1.Next, .sl false (L cApi_Packet y_1501.1.Early), i64 y_1501.1.SentAt] false, .box [i64 y_1515.1.Epoch, i64 y_1515.1.Other, i64 y_1515.1.First, .sl false (L (cSl cU8) y_1515.1.Queue), i64 y_1515.1.Next, .sl false (L cApi_Packet y_1515.1.Early), i64 y_1515.1.SentAt] false], orcs_nil, by simp only [go_sem, hb_1519, hb_1520, hb_1521], (weak_sel [0, 1] (by decide) rfl (by simp only [go_sem]) (by simp only [go_sem]))⟩
    refine run_condL (b := t_1517) rfl (by decide) (fun hb => ?_) (fun hb => ?_)
    · replace h := ite_t h hb
      refine run_textE hE [0] (fr' := [(0, .bool false)]) (σ' := [.box [i64 y_1501.1.Epoch, i64 y_1501.1.Other, i64 y_1501.1.First, .sl false (L (cSl cU8) y_1501.1.Queue), i64 y_1501.1.Next, .sl false (L cApi_Packet y_1501.1.Early), i64 y_1501.1.SentAt] false, .box [i64 y_1515.1.Epoch, i64 y_1515.1.Other, i64 y_1515.1.First, .sl false (L (cSl cU8) y_1515.1.Queue), i64 y_1515.1.Next, .sl false (L cApi_Packet y_1515.1.Early), i64 y_1515.1.SentAt] false]) ⟨_, orcs_nil, ?_⟩ ?_
      · simp only [go_sem]
      refine run_ret ?_
      refine thenK_r ?_
      obtain rfl := Option.some.inj h
      refine wkP_of (Weak.refl _ _) ?_
      refine ret_ok (.inr rfl) ?_
      simp only [go_sem]
    · replace h := ite_f h hb
      refine run_skip ?_
      refine thenK_n ?_
      replace h := chk_some h; obtain ⟨hc_1523, h⟩ := h
      replace h := bind_some1 h; obtain ⟨y_1522, hy_1524, h⟩ := h
      refine run_drawE hE mixed [[], [], [1], [1, 2], [0, 1, 2, 3], [0, 1, 2, 3, 4], [0, 1, 2, 3, 4, 5], [0, 1, 2, 3, 4, 5], [0, 1, 2, 3, 4, 5], [0, 1, 2, 3, 4, 5, 6], [0, 1, 2, 3, 4, 5, 6, 7, 8, 9]] (by kernel_rfl) (by kernel_rfl) [1, 3, 9] (fr' := [(1, .ref 0 0), (3, .ref 1 0), (9, .bool y_1522.2.2)]) (σ' := [.box [i64 y_1522.1.Epoch, i64 y_1522.1.Other, i64 y_1522.1.First, .sl false (L (cSl cU8) y_1522.1.Queue), i64 y_1522.1.Next, .sl false (L cApi_Packet y_1522.1.Early), i64 y_1522.1.SentAt] false, .box [i64 y_1515.1.Epoch, i64 y_1515.1.Other, i64 y_1515.1.First, .sl false (L (cSl cU8) y_1515.1.Queue), i64 y_1515.1.Next, .sl false (L cApi_Packet y_1515.1.Early), i64 y_1515.1.SentAt] false]) ⟨_, orcs_ok (l := [(97, 20, [.agg [i64 y_1501.1.Epoch, i64 y_1501.1.Other, i64 y_1501.1.First, .sl false (L (cSl cU8) y_1501.1.Queue), i64 y_1501.1.Next, .sl false (L cApi_Packet y_1501.1.Early), i64 y_1501.1.SentAt], .agg [i64 ((nth y_1515.2 0).Epoch), i64 ((nth y_1515.2 0).To), i64 ((nth y_1515.2 0).Seq), i64 ((nth y_1515.2 0).Ack), .sl false (L cU8 ((nth y_1515.2 0).Data))]], .tup [.agg [i64 y_1522.1.Epoch, i64 y_1522.1.Other, i64 y_1522.1.First, .sl false (L (cSl cU8) y_1522.1.Queue), i64 y_1522.1.Next, .sl false (L cApi_Packet y_1522.1.Early), i64 y_1522.1.SentAt], .sl false (L (cSl cU8) y_1522.2.1), .bool y_1522.2.2])]) ⟨window_Accept_con  hy_1524, trivial⟩, ?_⟩ ?_
      · simp only [go_sem, Int.reduceToNat, Nat.reduceLeDiff, hc_1523, (show 0 < y_1515.2.length from hc_1523.2)]
      replace h := bind_some1 h; obtain ⟨y_1525, hy_1526, h⟩ := h
      refine run_textE hE [1, 3, 9, 11] (fr' := [(1, .ref 0 0), (3, .ref 1 0), (9, .bool y_1522.2.2), (11, i64 y_1525.2)]) (σ' := [.box [i64 y_1525.1.Epoch, i64 y_1525.1.Other, i64 y_1525.1.First, .sl false (L (cSl cU8) y_1525.1.Queue), i64 y_1525.1.Next, .sl false (L cApi_Packet y_1525.1.Early), i64 y_1525.1.SentAt] false, .box [i64 y_1515.1.Epoch, i64 y_1515.1.Other, i64 y_1515.1.First, .sl false (L (cSl cU8) y_1515.1.Queue), i64 y_1515.1.Next, .sl false (L cApi_Packet y_1515.1.Early), i64 y_1515.1.SentAt] false, .buf 1 (L cU8 (([(120 : UInt8)] : List UInt8))) true]) ⟨_, orcs_ok (l := [(105, 14, [.agg [i64 y_1522.1.Epoch, i64 y_1522.1.Other, i64 y_1522.1.First, .sl false (L (cSl cU8) y_1522.1.Queue), i64 y_1522.1.Next, .sl false (L cApi_Packet y_1522.1.Early), i64 y_1522.1.SentAt], .sl false (L cU8 (([(120 : UInt8)] : List UInt8)))], .tup [.agg [i64 y_1525.1.Epoch, i64 y_1525.1.Other, i64 y_1525.1.First, .sl false (L (cSl cU8) y_1525.1.Queue), i64 y_1525.1.Next, .sl false (L cApi_Packet y_1525.1.Early), i64 y_1525.1.SentAt], i64 y_1525.2])]) ⟨window_Offer_con  hy_1526, trivial⟩, ?_⟩ ?_
      · simp only [go_sem, Nat.reduceBEq, Nat.reduceMul, Nat.reduceSub, Nat.reduceGT, Nat.reducePow, Nat.reduceLeDiff, Int.reduceToNat]
      replace h := bind_some1 h; obtain ⟨y_1527, hy_1528, h⟩ := h
      refine run_textE hE [1, 3, 7, 9, 11] (fr' := [(1, .ref 0 0), (3, .ref 1 0), (7, .sl false (L cApi_Packet y_1527.2)), (9, .bool y_1522.2.2), (11, i64 y_1525.2)]) (σ' := [.box [i64 y_1527.1.Epoch, i64 y_1527.1.Other, i64 y_1527.1.First, .sl false (L (cSl cU8) y_1527.1.Queue), i64 y_1527.1.Next, .sl false (L cApi_Packet y_1527.1.Early), i64 y_1527.1.SentAt] false, .box [i64 y_1515.1.Epoch, i64 y_1515.1.Other, i64 y_1515.1.First, .sl false (L (cSl cU8) y_1515.1.Queue), i64 y_1515.1.Next, .sl false (L cApi_Packet y_1515.1.Early), i64 y_1515.1.SentAt] false, .buf 1 (L cU8 (([(120 : UInt8)] : List UInt8))) true]) ⟨_, orcs_ok (l := [(110, 16, [.agg [i64 y_1525.1.Epoch, i64 y_1525.1.Other, i64 y_1525.1.First, .sl false (L (cSl cU8) y_1525.1.Queue), i64 y_1525.1.Next, .sl false (L cApi_Packet y_1525.1.Early), i64 y_1525.1.SentAt], i64 7], .tup [.agg [i64 y_1527.1.Epoch, i64 y_1527.1.Other, i64 y_1527.1.First, .sl false (L (cSl cU8) y_1527.1.Queue), i64 y_1527.1.Next, .sl false (L cApi_Packet y_1527.1.Early), i64 y_1527.1.SentAt], .sl false (L cApi_Packet y_1527.2)])]) ⟨window_Emit_con  hy_1528, trivial⟩, ?_⟩ ?_
      · simp only [go_sem, Nat.reduceLeDiff]
      refine run_seq ?_
      replace h := bind_some1 h; obtain ⟨t_1530, hv_1531, h⟩ := h
      refine run_textW hE [1, 3, 7, 133] (fr' := [(1, .ref 0 0), (3, .ref 1 0), (7, .sl false (L cApi_Packet y_1527.2)), (133, .bool t_1530)]) (σ' := [.box [i64 y_1527.1.Epoch, i64 y_1527.1.Other, i64 y_1527.1.First, .sl false (L (cSl cU8) y_1527.1.Queue), i64 y_1527.1.Next, .sl false (L cApi_Packet y_1527.1.Early), i64 y_1527.1.SentAt] false, .box [i64 y_1515.1.Epoch, i64 y_1515.1.Other, i64 y_1515.1.First, .sl false (L (cSl cU8) y_1515.1.Queue), i64 y_1515.1.Next, .sl false (L cApi_Packet y_1515.1.Early), i64 y_1515.1.SentAt] false]) ?_ ?_
      · rcases Bool.eq_false_or_eq_true ((!y_1522.2.2)) with hb_1532 | hb_1532
        · replace hv_1531 := ite_t hv_1531 hb_1532
          have e_hv_1531 := Option.some.inj hv_1531; subst e_hv_1531
          exact ⟨_, [(1, .ref 0 0), (3, .ref 1 0), (7, .sl false (L cApi_Packet y_1527.2)), (133, .bool true)], [.box [i64 y_1527.1.Epoch, i64 y_1527.1.Other, i64 y_1527.1.First, .sl false (L (cSl cU8) y_1527.1.Queue), i64 y_1527.1.Next, .sl false (L cApi_Packet y_1527.1.Early), i64 y_1527.1.SentAt] false, .box [i64 y_1515.1.Epoch, i64 y_1515.1.Other, i64 y_1515.1.First, .sl false (L (cSl cU8) y_1515.1.Queue), i64 y_1515.1.Next, .sl false (L cApi_Packet y_1515.1.Early), i64 y_1515.1.SentAt] false, .buf 1 (L cU8 (([(120 : UInt8)] : List UInt8))) true], orcs_nil, by simp only [go_sem, Nat.reduceBEq, Nat.reduceMul, Nat.reduceSub, Nat.reduceGT, Nat.reducePow, Nat.reduceLeDiff, Int.reduceToNat, hb_1532], (weak_sel [0, 1] (by decide) rfl (by simp only [go_sem]) (by simp only [go_sem]))⟩
        · replace hv_1531 := ite_f hv_1531 hb_1532
          rcases Bool.eq_false_or_eq_true ((y_1525.2 != 0)) with hb_1533 | hb_1533
          · replace hv_1531 := ite_t hv_1531 hb_1533
            have e_hv_1531 := Option.some.inj hv_1531; subst e_hv_1531
            exact ⟨_, [(1, .ref 0 0), (3, .ref 1 0), (7, .sl false (L cApi_Packet y_1527.2)), (133, .bool true)], [.box [i64 y_1527.1.Epoch, i64 y_1527.1.Other, i64 y_1527.1.First, .sl false (L (cSl cU8) y_1527.1.Queue), i64 y_1527.1.Next, .sl false (L cApi_Packet y_1527.1.Early), i64 y_1527.1.SentAt] false, .box [i64 y_1515.1.Epoch, i64 y_1515.1.Other, i64 y_1515.1.First, .sl false (L (cSl cU8) y_1515.1.Queue), i64 y_1515.1.Next, .sl false (L cApi_Packet y_1515.1.Early), i64 y_1515.1.SentAt] false, .buf 1 (L cU8 (([(120 : UInt8)] : List UInt8))) true], orcs_nil, by simp only [go_sem, Nat.reduceBEq, Nat.reduceMul, Nat.reduceSub, Nat.reduceGT, Nat.reducePow, Nat.reduceLeDiff, Int.reduceToNat, hb_1532, hb_1533], (weak_sel [0, 1] (by decide) rfl (by simp only [go_sem]) (by simp only [go_sem]))⟩
          · replace hv_1531 := ite_f hv_1531 hb_1533
            rcases Bool.eq_false_or_eq_true (((y_1527.2.length : Int) != 1)) with hb_1534 | hb_1534
            · replace hv_1531 := ite_t hv_1531 hb_1534
              have e_hv_1531 := Option.some.inj hv_1531; subst e_hv_1531
              exact ⟨_, [(1, .ref 0 0), (3, .ref 1 0), (7, .sl false (L cApi_Packet y_1527.2)), (133, .bool true)], [.box [i64 y_1527.1.Epoch, i64 y_1527.1.Other, i64 y_1527.1.First, .sl false (L (cSl cU8) y_1527.1.Queue), i64 y_1527.1.Next, .sl false (L cApi_Packet y_1527.1.Early), i64 y_1527.1.SentAt] false, .box [i64 y_1515.1.Epoch, i64 y_1515.1.Other, i64 y_1515.1.First, .sl false (L (cSl cU8) y_1515.1.Queue), i64 y_1515.1.Next, .sl false (L cApi_Packet y_1515.1.Early), i64 y_1515.1.SentAt] false, .buf 1 (L cU8 (([(120 : UInt8)] : List UInt8))) true], orcs_nil, by simp only [go_sem, Nat.reduceBEq, Nat.reduceMul, Nat.reduceSub, Nat.reduceGT, Nat.reducePow, Nat.reduceLeDiff, Int.reduceToNat, hb_1532, hb_1533, hb_1534], (weak_sel [0, 1] (by decide) rfl (by simp only [go_sem]) (by simp only [go_sem]))⟩
            · replace hv_1531 := ite_f hv_1531 hb_1534
              replace hv_1531 := chk_some hv_1531; obtain ⟨hc_1535, hv_1531⟩ := hv_1531
              replace hv_1531 := bind_some1 hv_1531; obtain ⟨y_1529, hy_1536, hv_1531⟩ := hv_1531
              have e_hv_1531 := Option.some.inj hv_1531; subst e_hv_1531
              exact ⟨_, [(1, .ref 0 0), (3, .ref 1 0), (7, .sl false (L cApi_Packet y_1527.2)), (133, .bool ((!y_1529)))], [.box [i64 y_1527.1.Epoch, i64 y_1527.1.Other, i64 y_1527.1.First, .sl false (L (cSl cU8) y_1527.1.Queue), i64 y_1527.1.Next, .sl false (L cApi_Packet y_1527.1.Early), i64 y_1527.1.SentAt] false, .box [i64 y_1515.1.Epoch, i64 y_1515.1.Other, i64 y_1515.1.First, .sl false (L (cSl cU8) y_1515.1.Queue), i64 y_1515.1.Next, .sl false (L cApi_Packet y_1515.1.Early), i64 y_1515.1.SentAt] false, .buf 1 (L cU8 (([(120 : UInt8)] : List UInt8))) true, .buf 1 (L cU8 (([(120 : UInt8)] : List UInt8))) false], orcs_ok (l := [(131, 30, [.agg [i64 ((nth y_1527.2 0).Epoch), i64 ((nth y_1527.2 0).To), i64 ((nth y_1527.2 0).Seq), i64 ((nth y_1527.2 0).Ack), .sl false (L cU8 ((nth y_1527.2 0).Data))], .agg [i64 3, i64 5, i64 0, i64 0, .sl false (L cU8 (([(120 : UInt8)] : List UInt8)))]], .bool y_1529)]) ⟨r12_SamePacket_con  hy_1536, trivial⟩, by simp only [go_sem, Nat.reduceBEq, Nat.reduceMul, Nat.reduceSub, Nat.reduceGT, Nat.reducePow, Nat.reduceLeDiff, Int.reduceToNat, hb_1532, hb_1533, hb_1534, hc_1535, (show 0 < y_1527.2.length from hc_1535.2)], (weak_sel [0, 1] (by decide) rfl (by simp only [go_sem]) (by simp only [go_sem]))⟩
      refine run_condL (b := t_1530) rfl (by decide) (fun hb => ?_) (fun hb => ?_)
      · replace h := ite_t h hb
        refine run_textE hE [0] (fr' := [(0, .bool false)]) (σ' := [.box [i64 y_1527.1.Epoch, i64 y_1527.1.Other, i64 y_1527.1.First, .sl false (L (cSl cU8) y_1527.1.Queue), i64 y_1527.1.Next, .sl false (L cApi_Packet y_1527.1.Early), i64 y_1527.1.SentAt] false, .box [i64 y_1515.1.Epoch, i64 y_1515.1.Other, i64 y_1515.1.First, .sl false (L (cSl cU8) y_1515.1.Queue), i64 y_1515.1.Next, .sl false (L cApi_Packet y_1515.1.Early), i64 y_1515.1.SentAt] false]) ⟨_, orcs_nil, ?_⟩ ?_
        · simp only [go_sem]
        refine run_ret ?_
        refine thenK_r ?_
        obtain rfl := Option.some.inj h
        refine wkP_of (Weak.refl _ _) ?_
        refine ret_ok (.inr rfl) ?_
        simp only [go_sem]
      · replace h := ite_f h hb
        refine run_skip ?_
        refine thenK_n ?_
        replace h := bind_some1 h; obtain ⟨y_1537, hy_1538, h⟩ := h
        refine run_textE hE [1, 3, 7, 13] (fr' := [(1, .ref 0 0), (3, .ref 1 0), (7, .sl false (L cApi_Packet y_1527.2)), (13, .sl false (L cApi_Packet y_1537.2))]) (σ' := [.box [i64 y_1527.1.Epoch, i64 y_1527.1.Other, i64 y_1527.1.First, .sl false (L (cSl cU8) y_1527.1.Queue), i64 y_1527.1.Next, .sl false (L cApi_Packet y_1527.1.Early), i64 y_1527.1.SentAt] false, .box [i64 y_1515.1.Epoch, i64 y_1515.1.Other, i64 y_1515.1.First, .sl false (L (cSl cU8) y_1515.1.Queue), i64 y_1515.1.Next, .sl false (L cApi_Packet y_1515.1.Early), i64 y_1515.1.SentAt] false, .box [i64 y_1537.1.Epoch, i64 y_1537.1.Other, i64 y_1537.1.First, .sl false (L (cSl cU8) y_1537.1.Queue), i64 y_1537.1.Next, .sl false (L cApi_Packet y_1537.1.Early), i64 y_1537.1.SentAt] false]) ⟨_, orcs_ok (l := [(136, 16, [.agg [i64 y_1527.1.Epoch, i64 y_1527.1.Other, i64 y_1527.1.First, .sl false (L (cSl cU8) y_1527.1.Queue), i64 y_1527.1.Next, .sl false (L cApi_Packet y_1527.1.Early), i64 y_1527.1.SentAt], i64 8], .tup [.agg [i64 y_1537.1.Epoch, i64 y_1537.1.Other, i64 y_1537.1.First, .sl false (L (cSl cU8) y_1537.1.Queue), i64 y_1537.1.Next, .sl false (L cApi_Packet y_1537.1.Early), i64 y_1537.1.SentAt], .sl false (L cApi_Packet y_1537.2)])]) ⟨window_Emit_con  hy_1538, trivial⟩, ?_⟩ ?_
        · simp only [go_sem, Nat.reduceLeDiff]
        replace h := bind_some1 h; obtain ⟨y_1539, hy_1540, h⟩ := h
        refine run_textE hE [3, 7, 13, 15] (fr' := [(3, .ref 1 0), (7, .sl false (L cApi_Packet y_1527.2)), (13, .sl false (L cApi_Packet y_1537.2)), (15, .sl false (L cApi_Packet y_1539.2))]) (σ' := [.box [i64 y_1527.1.Epoch, i64 y_1527.1.Other, i64 y_1527.1.First, .sl false (L (cSl cU8) y_1527.1.Queue), i64 y_1527.1.Next, .sl false (L cApi_Packet y_1527.1.Early), i64 y_1527.1.SentAt] false, .box [i64 y_1515.1.Epoch, i64 y_1515.1.Other, i64 y_1515.1.First, .sl false (L (cSl cU8) y_1515.1.Queue), i64 y_1515.1.Next, .sl false (L cApi_Packet y_1515.1.Early), i64 y_1515.1.SentAt] false, .box [i64 y_1537.1.Epoch, i64 y_1537.1.Other, i64 y_1537.1.First, .sl false (L (cSl cU8) y_1537.1.Queue), i64 y_1537.1.Next, .sl false (L cApi_Packet y_1537.1.Early), i64 y_1537.1.SentAt] false, .box [i64 y_1539.1.Epoch, i64 y_1539.1.Other, i64 y_1539.1.First, .sl false (L (cSl cU8) y_1539.1.Queue), i64 y_1539.1.Next, .sl false (L cApi_Packet y_1539.1.Early), i64 y_1539.1.SentAt] false]) ⟨_, orcs_ok (l := [(141, 16, [.agg [i64 y_1527.1.Epoch, i64 y_1527.1.Other, i64 y_1527.1.First, .sl false (L (cSl cU8) y_1527.1.Queue), i64 y_1527.1.Next, .sl false (L cApi_Packet y_1527.1.Early), i64 y_1527.1.SentAt], i64 17], .tup [.agg [i64 y_1539.1.Epoch, i64 y_1539.1.Other, i64 y_1539.1.First, .sl false (L (cSl cU8) y_1539.1.Queue), i64 y_1539.1.Next, .sl false (L cApi_Packet y_1539.1.Early), i64 y_1539.1.SentAt], .sl false (L cApi_Packet y_1539.2)])]) ⟨window_Emit_con  hy_1540, trivial⟩, ?_⟩ ?_
        · simp only [go_sem, Nat.reduceLeDiff]
        replace h := chk_some h; obtain ⟨hc_1542, h⟩ := h
        replace h := bind_some1 h; obtain ⟨y_1541, hy_1543, h⟩ := h
        refine run_drawE hE mixed [[], [], [1], [1, 2], [0, 1, 2, 3], [0, 1, 2, 3, 4], [0, 1, 2, 3, 4, 5], [0, 1, 2, 3, 4, 5], [0, 1, 2, 3, 4, 5], [0, 1, 2, 3, 4, 5, 6], [0, 1, 2, 3, 4, 5, 6, 7, 9], [0, 1, 2, 3, 4, 5, 6, 7, 8, 9, 10]] (by kernel_rfl) (by kernel_rfl) [3, 7, 13, 15, 16] (fr' := [(3, .ref 1 0), (7, .sl false (L cApi_Packet y_1527.2)), (13, .sl false (L cApi_Packet y_1537.2)), (15, .sl false (L cApi_Packet y_1539.2)), (16, .sl false (L (cSl cU8) y_1541.2.1))]) (σ' := [.box [i64 y_1527.1.Epoch, i64 y_1527.1.Other, i64 y_1527.1.First, .sl false (L (cSl cU8) y_1527.1.Queue), i64 y_1527.1.Next, .sl false (L cApi_Packet y_1527.1.Early), i64 y_1527.1.SentAt] false, .box [i64 y_1541.1.Epoch, i64 y_1541.1.Other, i64 y_1541.1.First, .sl false (L (cSl cU8) y_1541.1.Queue), i64 y_1541.1.Next, .sl false (L cApi_Packet y_1541.1.Early), i64 y_1541.1.SentAt] false, .box [i64 y_1537.1.Epoch, i64 y_1537.1.Other, i64 y_1537.1.First, .sl false (L (cSl cU8) y_1537.1.Queue), i64 y_1537.1.Next, .sl false (L cApi_Packet y_1537.1.Early), i64 y_1537.1.SentAt] false, .box [i64 y_1539.1.Epoch, i64 y_1539.1.Other, i64 y_1539.1.First, .sl false (L (cSl cU8) y_1539.1.Queue), i64 y_1539.1.Next, .sl false (L cApi_Packet y_1539.1.Early), i64 y_1539.1.SentAt] false]) ⟨_, orcs_ok (l := [(149, 20, [.agg [i64 y_1515.1.Epoch, i64 y_1515.1.Other, i64 y_1515.1.First, .sl false (L (cSl cU8) y_1515.1.Queue), i64 y_1515.1.Next, .sl false (L cApi_Packet y_1515.1.Early), i64 y_1515.1.SentAt], .agg [i64 ((nth y_1527.2 0).Epoch), i64 ((nth y_1527.2 0).To), i64 ((nth y_1527.2 0).Seq), i64 ((nth y_1527.2 0).Ack), .sl false (L cU8 ((nth y_1527.2 0).Data))]], .tup [.agg [i64 y_1541.1.Epoch, i64 y_1541.1.Other, i64 y_1541.1.First, .sl false (L (cSl cU8) y_1541.1.Queue), i64 y_1541.1.Next, .sl false (L cApi_Packet y_1541.1.Early), i64 y_1541.1.SentAt], .sl false (L (cSl cU8) y_1541.2.1), .bool y_1541.2.2])]) ⟨window_Accept_con  hy_1543, trivial⟩, ?_⟩ ?_
        · simp only [go_sem, Int.reduceToNat, Nat.reduceLeDiff, hc_1542, (show 0 < y_1527.2.length from hc_1542.2)]
        replace h := chk_some h; obtain ⟨hc_1545, h⟩ := h
        replace h := bind_some1 h; obtain ⟨y_1544, hy_1546, h⟩ := h
        refine run_drawE hE mixed [[], [], [1], [1, 2], [0, 1, 2, 3], [0, 1, 2, 3, 4], [0, 1, 2, 3, 4, 5], [0, 1, 2, 3, 4, 5], [0, 1, 2, 3, 4, 5], [], [0, 1, 2, 3, 4, 5, 6, 9], [0, 1, 2, 3, 4, 5, 6, 7, 9, 10], [0, 1, 2, 3, 4, 5, 6, 7, 8, 9, 10, 11]] (by kernel_rfl) (by kernel_rfl) [3, 13, 15, 16, 19] (fr' := [(3, .ref 1 0), (13, .sl false (L cApi_Packet y_1537.2)), (15, .sl false (L cApi_Packet y_1539.2)), (16, .sl false (L (cSl cU8) y_1541.2.1)), (19, .sl false (L (cSl cU8) y_1544.2.1))]) (σ' := [.box [i64 y_1527.1.Epoch, i64 y_1527.1.Other, i64 y_1527.1.First, .sl false (L (cSl cU8) y_1527.1.Queue), i64 y_1527.1.Next, .sl false (L cApi_Packet y_1527.1.Early), i64 y_1527.1.SentAt] false, .box [i64 y_1541.1.Epoch, i64 y_1541.1.Other, i64 y_1541.1.First, .sl false (L (cSl cU8) y_1541.1.Queue), i64 y_1541.1.Next, .sl false (L cApi_Packet y_1541.1.Early), i64 y_1541.1.SentAt] false, .box [i64 y_1537.1.Epoch, i64 y_1537.1.Other, i64 y_1537.1.First, .sl false (L (cSl cU8) y_1537.1.Queue), i64 y_1537.1.Next, .sl false (L cApi_Packet y_1537.1.Early), i64 y_1537.1.SentAt] false, .box [i64 y_1539.1.Epoch, i64 y_1539.1.Other, i64 y_1539.1.First, .sl false (L (cSl cU8) y_1539.1.Queue), i64 y_1539.1.Next, .sl false (L cApi_Packet y_1539.1.Early), i64 y_1539.1.SentAt] false, .box [i64 y_1544.1.Epoch, i64 y_1544.1.Other, i64 y_1544.1.First, .sl false (L (cSl cU8) y_1544.1.Queue), i64 y_1544.1.Next, .sl false (L cApi_Packet y_1544.1.Early), i64 y_1544.1.SentAt] false]) ⟨_, orcs_ok (l := [(158, 20, [.agg [i64 y_1541.1.Epoch, i64 y_1541.1.Other, i64 y_1541.1.First, .sl false (L (cSl cU8) y_1541.1.Queue), i64 y_1541.1.Next, .sl false (L cApi_Packet y_1541.1.Early), i64 y_1541.1.SentAt], .agg [i64 ((nth y_1527.2 0).Epoch), i64 ((nth y_1527.2 0).To), i64 ((nth y_1527.2 0).Seq), i64 ((nth y_1527.2 0).Ack), .sl false (L cU8 ((nth y_1527.2 0).Data))]], .tup [.agg [i64 y_1544.1.Epoch, i64 y_1544.1.Other, i64 y_1544.1.First, .sl false (L (cSl cU8) y_1544.1.Queue), i64 y_1544.1.Next, .sl false (L cApi_Packet y_1544.1.Early), i64 y_1544.1.SentAt], .sl false (L (cSl cU8) y_1544.2.1), .bool y_1544.2.2])]) ⟨window_Accept_con  hy_1546, trivial⟩, ?_⟩ ?_
        · simp only [go_sem, Int.reduceToNat, Nat.reduceLeDiff, hc_1545, (show 0 < y_1527.2.length from hc_1545.2)]
        replace h := bind_some1 h; obtain ⟨t_1547, hv_1548, h⟩ := h
        refine run_textW hE [0] (fr' := [(0, .bool t_1547)]) (σ' := []) ?_ ?_
        · rcases Bool.eq_false_or_eq_true (((y_1537.2.length : Int) == 1)) with hb_1549 | hb_1549
          · replace hv_1548 := ite_t hv_1548 hb_1549
            replace hv_1548 := chk_some hv_1548; obtain ⟨hc_1550, hv_1548⟩ := hv_1548
            rcases Bool.eq_false_or_eq_true (((nth y_1537.2 0).Seq == (-1))) with hb_1551 | hb_1551
            · replace hv_1548 := ite_t hv_1548 hb_1551
              rcases Bool.eq_false_or_eq_true (((y_1539.2.length : Int) == 1)) with hb_1552 | hb_1552
              · replace hv_1548 := ite_t hv_1548 hb_1552
                replace hv_1548 := chk_some hv_1548; obtain ⟨hc_1553, hv_1548⟩ := hv_1548
                rcases Bool.eq_false_or_eq_true (((nth y_1539.2 0).Seq == 0)) with hb_1554 | hb_1554
                · replace hv_1548 := ite_t hv_1548 hb_1554
                  rcases Bool.eq_false_or_eq_true (((y_1541.2.1.length : Int) == 1)) with hb_1555 | hb_1555
                  · replace hv_1548 := ite_t hv_1548 hb_1555
                    replace hv_1548 := chk_some hv_1548; obtain ⟨hc_1556, hv_1548⟩ := hv_1548
                    rcases Bool.eq_false_or_eq_true (((nth y_1541.2.1 0) == (([120] : List UInt8)))) with hb_1557 | hb_1557
                    · replace hv_1548 := ite_t hv_1548 hb_1557
                      rcases Bool.eq_false_or_eq_true ((y_1541.1.Next == 1)) with hb_1558 | hb_1558
                      · replace hv_1548 := ite_t hv_1548 hb_1558
                        have e_hv_1548 := Option.some.inj hv_1548; subst e_hv_1548
                        exact ⟨_, [(0, .bool (((y_1544.2.1.length : Int) == 0)))], [.box [i64 y_1527.1.Epoch, i64 y_1527.1.Other, i64 y_1527.1.First, .sl false (L (cSl cU8) y_1527.1.Queue), i64 y_1527.1.Next, .sl false (L cApi_Packet y_1527.1.Early), i64 y_1527.1.SentAt] false, .box [i64 y_1541.1.Epoch, i64 y_1541.1.Other, i64 y_1541.1.First, .sl false (L (cSl cU8) y_1541.1.Queue), i64 y_1541.1.Next, .sl false (L cApi_Packet y_1541.1.Early), i64 y_1541.1.SentAt] false, .box [i64 y_1537.1.Epoch, i64 y_1537.1.Other, i64 y_1537.1.First, .sl false (L (cSl cU8) y_1537.1.Queue), i64 y_1537.1.Next, .sl false (L cApi_Packet y_1537.1.Early), i64 y_1537.1.SentAt] false, .box [i64 y_1539.1.Epoch, i64 y_1539.1.Other, i64 y_1539.1.First, .sl false (L (cSl cU8) y_1539.1.Queue), i64 y_1539.1.Next, .sl false (L cApi_Packet y_1539.1.Early), i64 y_1539.1.SentAt] false, .box [i64 y_1544.1.Epoch, i64 y_1544.1.Other, i64 y_1544.1.First, .sl false (L (cSl cU8) y_1544.1.Queue), i64 y_1544.1.Next, .sl false (L cApi_Packet y_1544.1.Early), i64 y_1544.1.SentAt] false], orcs_nil, by simp only [go_sem, Int.reduceToNat, hb_1549, hc_1550, (show 0 < y_1537.2.length from hc_1550.2), hb_1551, hb_1552, hc_1553, (show 0 < y_1539.2.length from hc_1553.2), hb_1554, hb_1555, hc_1556, (show 0 < y_1541.2.1.length from hc_1556.2), hb_1557, hb_1558], (weak_sel [] (by decide) rfl (by simp only [go_sem]) (by simp only [go_sem]))⟩
                      · replace hv_1548 := ite_f hv_1548 hb_1558
                        have e_hv_1548 := Option.some.inj hv_1548; subst e_hv_1548
                        exact ⟨_, [(0, .bool false)], [.box [i64 y_1527.1.Epoch, i64 y_1527.1.Other, i64 y_1527.1.First, .sl false (L (cSl cU8) y_1527.1.Queue), i64 y_1527.1.Next, .sl false (L cApi_Packet y_1527.1.Early), i64 y_1527.1.SentAt] false, .box [i64 y_1541.1.Epoch, i64 y_1541.1.Other, i64 y_1541.1.First, .sl false (L (cSl cU8) y_1541.1.Queue), i64 y_1541.1.Next, .sl false (L cApi_Packet y_1541.1.Early), i64 y_1541.1.SentAt] false, .box [i64 y_1537.1.Epoch, i64 y_1537.1.Other, i64 y_1537.1.First, .sl false (L (cSl cU8) y_1537.1.Queue), i64 y_1537.1.Next, .sl false (L cApi_Packet y_1537.1.Early), i64 y_1537.1.SentAt] false, .box [i64 y_1539.1.Epoch, i64 y_1539.1.Other, i64 y_1539.1.First, .sl false (L (cSl cU8) y_1539.1.Queue), i64 y_1539.1.Next, .sl false (L cApi_Packet y_1539.1.Early), i64 y_1539.1.SentAt] false, .box [i64 y_1544.1.Epoch, i64 y_1544.1.Other, i64 y_1544.1.First, .sl false (L (cSl cU8) y_1544.1.Queue), i64 y_1544.1.Next, .sl false (L cApi_Packet y_1544.1.Early), i64 y_1544.1.SentAt] false], orcs_nil, by simp only [go_sem, Int.reduceToNat, hb_1549, hc_1550, (show 0 < y_1537.2.length from hc_1550.2), hb_1551, hb_1552, hc_1553, (show 0 < y_1539.2.length from hc_1553.2), hb_1554, hb_1555, hc_1556, (show 0 < y_1541.2.1.length from hc_1556.2), hb_1557, hb_1558], (weak_sel [] (by decide) rfl (by simp only [go_sem]) (by simp only [go_sem]))⟩
                    · replace hv_1548 := ite_f hv_1548 hb_1557
                      have e_hv_1548 := Option.some.inj hv_1548; subst e_hv_1548
                      exact ⟨_, [(0, .bool false)], [.box [i64 y_1527.1.Epoch, i64 y_1527.1.Other, i64 y_1527.1.First, .sl false (L (cSl cU8) y_1527.1.Queue), i64 y_1527.1.Next, .sl false (L cApi_Packet y_1527.1.Early), i64 y_1527.1.SentAt] false, .box [i64 y_1541.1.Epoch, i64 y_1541.1.Other, i64 y_1541.1.First, .sl false (L (cSl cU8) y_1541.1.Queue), i64 y_1541.1.Next, .sl false (L cApi_Packet y_1541.1.Early), i64 y_1541.1.SentAt] false, .box [i64 y_1537.1.Epoch, i64 y_1537.1.Other, i64 y_1537.1.First, .sl false (L (cSl cU8) y_1537.1.Queue), i64 y_1537.1.Next, .sl false (L cApi_Packet y_1537.1.Early), i64 y_1537.1.SentAt] false, .box [i64 y_1539.1.Epoch, i64 y_1539.1.Other, i64 y_1539.1.First, .sl false (L (cSl cU8) y_1539.1.Queue), i64 y_1539.1.Next, .sl false (L cApi_Packet y_1539.1.Early), i64 y_1539.1.SentAt] false, .box [i64 y_1544.1.Epoch, i64 y_1544.1.Other, i64 y_1544.1.First, .sl false (L (cSl cU8) y_1544.1.Queue), i64 y_1544.1.Next, .sl false (L cApi_Packet y_1544.1.Early), i64 y_1544.1.SentAt] false], orcs_nil, by simp only [go_sem, Int.reduceToNat, hb_1549, hc_1550, (show 0 < y_1537.2.length from hc_1550.2), hb_1551, hb_1552, hc_1553, (show 0 < y_1539.2.length from hc_1553.2), hb_1554, hb_1555, hc_1556, (show 0 < y_1541.2.1.length from hc_1556.2), hb_1557], (weak_sel [] (by decide) rfl (by simp only [go_sem]) (by simp only [go_sem]))⟩
                  · replace hv_1548 := ite_f hv_1548 hb_1555
                    have e_hv_1548 := Option.some.inj hv_1548; subst e_hv_1548
                    exact ⟨_, [(0, .bool false)], [.box [i64 y_1527.1.Epoch, i64 y_1527.1.Other, i64 y_1527.1.First, .sl false (L (cSl cU8) y_1527.1.Queue), i64 y_1527.1.Next, .sl false (L cApi_Packet y_1527.1.Early), i64 y_1527.1.SentAt] false, .box [i64 y_1541.1.Epoch, i64 y_1541.1.Other, i64 y_1541.1.First, .sl false (L (cSl cU8) y_1541.1.Queue), i64 y_1541.1.Next, .sl false (L cApi_Packet y_1541.1.Early), i64 y_1541.1.SentAt] false, .box [i64 y_1537.1.Epoch, i64 y_1537.1.Other, i64 y_1537.1.First, .sl false (L (cSl cU8) y_1537.1.Queue), i64 y_1537.1.Next, .sl false (L cApi_Packet y_1537.1.Early), i64 y_1537.1.SentAt] false, .box [i64 y_1539.1.Epoch, i64 y_1539.1.Other, i64 y_1539.1.First, .sl false (L (cSl cU8) y_1539.1.Queue), i64 y_1539.1.Next, .sl false (L cApi_Packet y_1539.1.Early), i64 y_1539.1.SentAt] false, .box [i64 y_1544.1.Epoch, i64 y_1544.1.Other, i64 y_1544.1.First, .sl false (L (cSl cU8) y_1544.1.Queue), i64 y_1544.1.Next, .sl false (L cApi_Packet y_1544.1.Early), i64 y_1544.1.SentAt] false], orcs_nil, by simp only [go_sem, Int.reduceToNat, hb_1549, hc_1550, (show 0 < y_1537.2.length from hc_1550.2), hb_1551, hb_1552, hc_1553, (show 0 < y_1539.2.length from hc_1553.2), hb_1554, hb_1555], (weak_sel [] (by decide) rfl (by simp only [go_sem]) (by simp only [go_sem]))⟩
                · replace hv_1548 := ite_f hv_1548 hb_1554
                  have e_hv_1548 := Option.some.inj hv_1548; subst e_hv_1548
                  exact ⟨_, [(0, .bool false)], [.box [i64 y_1527.1.Epoch, i64 y_1527.1.Other, i64 y_1527.1.First, .sl false (L (cSl cU8) y_1527.1.Queue), i64 y_1527.1.Next, .sl false (L cApi_Packet y_1527.1.Early), i64 y_1527.1.SentAt] false, .box [i64 y_1541.1.Epoch, i64 y_1541.1.Other, i64 y_1541.1.First, .sl false (L (cSl cU8) y_1541.1.Queue), i64 y_1541.1.Next, .sl false (L cApi_Packet y_1541.1.Early), i64 y_1541.1.SentAt] false, .box [i64 y_1537.1.Epoch, i64 y_1537.1.Other, i64 y_1537.1.First, .sl false (L (cSl cU8) y_1537.1.Queue), i64 y_1537.1.Next, .sl false (L cApi_Packet y_1537.1.Early), i64 y_1537.1.SentAt] false, .box [i64 y_1539.1.Epoch, i64 y_1539.1.Other, i64 y_1539.1.First, .sl false (L (cSl cU8) y_1539.1.Queue), i64 y_1539.1.Next, .sl false (L cApi_Packet y_1539.1.Early), i64 y_1539.1.SentAt] false, .box [i64 y_1544.1.Epoch, i64 y_1544.1.Other, i64 y_1544.1.First, .sl false (L (cSl cU8) y_1544.1.Queue), i64 y_1544.1.Next, .sl false (L cApi_Packet y_1544.1.Early), i64 y_1544.1.SentAt] false], orcs_nil, by simp only [go_sem, Int.reduceToNat, hb_1549, hc_1550, (show 0 < y_1537.2.length from hc_1550.2), hb_1551, hb_1552, hc_1553, (show 0 < y_1539.2.length from hc_1553.2), hb_1554], (weak_sel [] (by decide) rfl (by simp only [go_sem]) (by simp only [go_sem]))⟩
              · replace hv_1548 := ite_f hv_1548 hb_1552
                have e_hv_1548 := Option.some.inj hv_1548; subst e_hv_1548
                exact ⟨_, [(0, .bool false)], [.box [i64 y_1527.1.Epoch, i64 y_1527.1.Other, i64 y_1527.1.First, .sl false (L (cSl cU8) y_1527.1.Queue), i64 y_1527.1.Next, .sl false (L cApi_Packet y_1527.1.Early), i64 y_1527.1.SentAt] false, .box [i64 y_1541.1.Epoch, i64 y_1541.1.Other, i64 y_1541.1.First, .sl false (L (cSl cU8) y_1541.1.Queue), i64 y_1541.1.Next, .sl false (L cApi_Packet y_1541.1.Early), i64 y_1541.1.SentAt] false, .box [i64 y_1537.1.Epoch, i64 y_1537.1.Other, i64 y_1537.1.First, .sl false (L (cSl cU8) y_1537.1.Queue), i64 y_1537.1.Next, .sl false (L cApi_Packet y_1537.1.Early), i64 y_1537.1.SentAt] false, .box [i64 y_1539.1.Epoch, i64 y_1539.1.Other, i64 y_1539.1.First, .sl false (L (cSl cU8) y_1539.1.Queue), i64 y_1539.1.Next, .sl false (L cApi_Packet y_1539.1.Early), i64 y_1539.1.SentAt] false, .box [i64 y_1544.1.Epoch, i64 y_1544.1.Other, i64 y_1544.1.First, .sl false (L (cSl cU8) y_1544.1.Queue), i64 y_1544.1.Next, .sl false (L cApi_Packet y_1544.1.Early), i64 y_1544.1.SentAt] false], orcs_nil, by simp only [go_sem, Int.reduceToNat, hb_1549, hc_1550, (show 0 < y_1537.2.length from hc_1550.2), hb_1551, hb_1552], (weak_sel [] (by decide) rfl (by simp only [go_sem]) (by simp only [go_sem]))⟩
            · replace hv_1548 := ite_f hv_1548 hb_1551
              have e_hv_1548 := Option.some.inj hv_1548; subst e_hv_1548
              exact ⟨_, [(0, .bool false)], [.box [i64 y_1527.1.Epoch, i64 y_1527.1.Other, i64 y_1527.1.First, .sl false (L (cSl cU8) y_1527.1.Queue), i64 y_1527.1.Next, .sl false (L cApi_Packet y_1527.1.Early), i64 y_1527.1.SentAt] false, .box [i64 y_1541.1.Epoch, i64 y_1541.1.Other, i64 y_1541.1.First, .sl false (L (cSl cU8) y_1541.1.Queue), i64 y_1541.1.Next, .sl false (L cApi_Packet y_1541.1.Early), i64 y_1541.1.SentAt] false, .box [i64 y_1537.1.Epoch, i64 y_1537.1.Other, i64 y_1537.1.First, .sl false (L (cSl cU8) y_1537.1.Queue), i64 y_1537.1.Next, .sl false (L cApi_Packet y_1537.1.Early), i64 y_1537.1.SentAt] false, .box [i64 y_1539.1.Epoch, i64 y_1539.1.Other, i64 y_1539.1.First, .sl false (L (cSl cU8) y_1539.1.Queue), i64 y_1539.1.Next, .sl false (L cApi_Packet y_1539.1.Early), i64 y_1539.1.SentAt] false, .box [i64 y_1544.1.Epoch, i64 y_1544.1.Other, i64 y_1544.1.First, .sl false (L (cSl cU8) y_1544.1.Queue), i64 y_1544.1.Next, .sl false (L cApi_Packet y_1544.1.Early), i64 y_1544.1.SentAt] false], orcs_nil, by simp only [go_sem, Int.reduceToNat, hb_1549, hc_1550, (show 0 < y_1537.2.length from hc_1550.2), hb_1551], (weak_sel [] (by decide) rfl (by simp only [go_sem]) (by simp only [go_sem]))⟩
          · replace hv_1548 := ite_f hv_1548 hb_1549
            have e_hv_1548 := Option.some.inj hv_1548; subst e_hv_1548
            exact ⟨_, [(0, .bool false)], [.box [i64 y_1527.1.Epoch, i64 y_1527.1.Other, i64 y_1527.1.First, .sl false (L (cSl cU8) y_1527.1.Queue), i64 y_1527.1.Next, .sl false (L cApi_Packet y_1527.1.Early), i64 y_1527.1.SentAt] false, .box [i64 y_1541.1.Epoch, i64 y_1541.1.Other, i64 y_1541.1.First, .sl false (L (cSl cU8) y_1541.1.Queue), i64 y_1541.1.Next, .sl false (L cApi_Packet y_1541.1.Early), i64 y_1541.1.SentAt] false, .box [i64 y_1537.1.Epoch, i64 y_1537.1.Other, i64 y_1537.1.First, .sl false (L (cSl cU8) y_1537.1.Queue), i64 y_1537.1.Next, .sl false (L cApi_Packet y_1537.1.Early), i64 y_1537.1.SentAt] false, .box [i64 y_1539.1.Epoch, i64 y_1539.1.Other, i64 y_1539.1.First, .sl false (L (cSl cU8) y_1539.1.Queue), i64 y_1539.1.Next, .sl false (L cApi_Packet y_1539.1.Early), i64 y_1539.1.SentAt] false, .box [i64 y_1544.1.Epoch, i64 y_1544.1.Other, i64 y_1544.1.First, .sl false (L (cSl cU8) y_1544.1.Queue), i64 y_1544.1.Next, .sl false (L cApi_Packet y_1544.1.Early), i64 y_1544.1.SentAt] false], orcs_nil, by simp only [go_sem, Int.reduceToNat, hb_1549], (weak_sel [] (by decide) rfl (by simp only [go_sem]) (by simp only [go_sem]))⟩
        refine run_ret ?_
        obtain rfl := Option.some.inj h
        refine wkP_of (Weak.refl _ _) ?_
        refine ret_ok (.inr rfl) ?_
        simp only [go_sem]

end Go.Proofs.Ytomjphpnpcgacaa
/-
  The functions compute just that.
-/
namespace Go.Proofs.Ytomjphpnpcgacaa
open Go.Rv
set_option linter.unusedVariables false
set_option linter.unusedSimpArgs false
set_option maxRecDepth 20000
set_option maxHeartbeats 4000000

theorem law12_WindowMatches_con {p_1559 : Api_Peer} {data_1560 : List UInt8} {now_1561 : Int} {epoch_1562 : Int} {r : Bool} (h : law12_WindowMatches p_1559 data_1560 now_1561 epoch_1562 = some r) : Con B 3 [.agg [i64 p_1559.Epoch, i64 p_1559.Other, i64 p_1559.First, .sl false (L (cSl cU8) p_1559.Queue), i64 p_1559.Next, .sl false (L cApi_Packet p_1559.Early), i64 p_1559.SentAt], .sl false (L cU8 data_1560), i64 now_1561, i64 epoch_1562] [] (fun r' σ' => r' = .bool r ∧ σ' = []) := by
  refine con_walk (N := 93) (rs := [.tmp 8]) ok Try.func3 rfl (by decide +kernel) rfl rfl (Nat.le_of_ble_eq_true rfl) (fun F => ?_)
  have hE := ok.env F
  unfold law12_WindowMatches at h
  show Run (B.env F) 0 _ ⟨asFr 93 [(0, .agg [i64 p_1559.Epoch, i64 p_1559.Other, i64 p_1559.First, .sl false (L (cSl cU8) p_1559.Queue), i64 p_1559.Next, .sl false (L cApi_Packet p_1559.Early), i64 p_1559.SentAt]), (1, .sl false (L cU8 data_1560)), (2, i64 now_1561), (3, i64 epoch_1562)], []⟩ _
  refine run_wkP ?_
  refine run_textE hE [1, 2, 3, 4] (fr' := [(1, .sl false (L cU8 data_1560)), (2, i64 now_1561), (3, i64 epoch_1562), (4, .ref 0 0)]) (σ' := [.box [i64 p_1559.Epoch, i64 p_1559.Other, i64 p_1559.First, .sl false (L (cSl cU8) p_1559.Queue), i64 p_1559.Next, .sl false (L cApi_Packet p_1559.Early), i64 p_1559.SentAt] false]) ⟨_, orcs_nil, ?_⟩ ?_
  · simp only [go_sem]
  refine run_seq ?_
  replace h := bind_some1 h; obtain ⟨y_1563, hy_1564, h⟩ := h
  refine run_textE hE [1, 2, 3, 4, 22] (fr' := [(1, .sl false (L cU8 data_1560)), (2, i64 now_1561), (3, i64 epoch_1562), (4, .ref 0 0), (22, .bool ((!y_1563)))]) (σ' := [.box [i64 p_1559.Epoch, i64 p_1559.Other, i64 p_1559.First, .sl false (L (cSl cU8) p_1559.Queue), i64 p_1559.Next, .sl false (L cApi_Packet p_1559.Early), i64 p_1559.SentAt] false]) ⟨_, orcs_ok (l := [(21, 10, [], .bool y_1563)]) ⟨law12_sane_con  hy_1564, trivial⟩, ?_⟩ ?_
  · simp only [go_sem]
  refine run_condL (b := (!y_1563)) rfl (by decide) (fun hb => ?_) (fun hb => ?_)
  · replace h := ite_t h hb
    refine run_textE hE [8] (fr' := [(8, .bool false)]) (σ' := [.box [i64 p_1559.Epoch, i64 p_1559.Other, i64 p_1559.First, .sl false (L (cSl cU8) p_1559.Queue), i64 p_1559.Next, .sl false (L cApi_Packet p_1559.Early), i64 p_1559.SentAt] false]) ⟨_, orcs_nil, ?_⟩ ?_
    · simp only [go_sem]
    refine run_ret ?_
    refine thenK_r ?_
    obtain rfl := Option.some.inj h
    refine wkP_of (Weak.refl _ _) ?_
    refine ret_ok (.inr rfl) ?_
    simp only [go_sem]
  · replace h := ite_f h hb
    refine run_skip ?_
    refine thenK_n ?_
    refine run_seq ?_
    replace h := bind_some1 h; obtain ⟨t_1566, hv_1567, h⟩ := h
    refine run_textW hE [1, 2, 3, 4, 30] (fr' := [(1, .sl false (L cU8 data_1560)), (2, i64 now_1561), (3, i64 epoch_1562), (4, .ref 0 0), (30, .bool t_1566)]) (σ' := [.box [i64 p_1559.Epoch, i64 p_1559.Other, i64 p_1559.First, .sl false (L (cSl cU8) p_1559.Queue), i64 p_1559.Next, .sl false (L cApi_Packet p_1559.Early), i64 p_1559.SentAt] false]) ?_ ?_
    · replace hv_1567 := bind_some1 hv_1567; obtain ⟨y_1565, hy_1568, hv_1567⟩ := hv_1567
      rcases Bool.eq_false_or_eq_true ((!y_1565)) with hb_1569 | hb_1569
      · replace hv_1567 := ite_t hv_1567 hb_1569
        have e_hv_1567 := Option.some.inj hv_1567; subst e_hv_1567
        exact ⟨_, [(1, .sl false (L cU8 data_1560)), (2, i64 now_1561), (3, i64 epoch_1562), (4, .ref 0 0), (30, .bool true)], [.box [i64 p_1559.Epoch, i64 p_1559.Other, i64 p_1559.First, .sl false (L (cSl cU8) p_1559.Queue), i64 p_1559.Next, .sl false (L cApi_Packet p_1559.Early), i64 p_1559.SentAt] false], orcs_ok (l := [(24, 11, [.agg [i64 p_1559.Epoch, i64 p_1559.Other, i64 p_1559.First, .sl false (L (cSl cU8) p_1559.Queue), i64 p_1559.Next, .sl false (L cApi_Packet p_1559.Early), i64 p_1559.SentAt]], .bool y_1565)]) ⟨law12_few_con  hy_1568, trivial⟩, by simp only [go_sem, hb_1569], (weak_sel [0] (by decide) rfl (by simp only [go_sem]) (by simp only [go_sem]))⟩
      · replace hv_1567 := ite_f hv_1567 hb_1569
        have e_hv_1567 := Option.some.inj hv_1567; subst e_hv_1567
        exact ⟨_, [(1, .sl false (L cU8 data_1560)), (2, i64 now_1561), (3, i64 epoch_1562), (4, .ref 0 0), (30, .bool ((decide ((data_1560.length : Int) > 20000))))], [.box [i64 p_1559.Epoch, i64 p_1559.Other, i64 p_1559.First, .sl false (L (cSl cU8) p_1559.Queue), i64 p_1559.Next, .sl false (L cApi_Packet p_1559.Early), i64 p_1559.SentAt] false], orcs_ok (l := [(24, 11, [.agg [i64 p_1559.Epoch, i64 p_1559.Other, i64 p_1559.First, .sl false (L (cSl cU8) p_1559.Queue), i64 p_1559.Next, .sl false (L cApi_Packet p_1559.Early), i64 p_1559.SentAt]], .bool y_1565)]) ⟨law12_few_con  hy_1568, trivial⟩, by simp only [go_sem, hb_1569], (weak_sel [0] (by decide) rfl (by simp only [go_sem]) (by simp only [go_sem]))⟩
    refine run_condL (b := t_1566) rfl (by decide) (fun hb => ?_) (fun hb => ?_)
    · replace h := ite_t h hb
      refine run_textE hE [8] (fr' := [(8, .bool true)]) (σ' := [.box [i64 p_1559.Epoch, i64 p_1559.Other, i64 p_1559.First, .sl false (L (cSl cU8) p_1559.Queue), i64 p_1559.Next, .sl false (L cApi_Packet p_1559.Early), i64 p_1559.SentAt] false]) ⟨_, orcs_nil, ?_⟩ ?_
      · simp only [go_sem]
      refine run_ret ?_
      refine thenK_r ?_
      obtain rfl := Option.some.inj h
      refine wkP_of (Weak.refl _ _) ?_
      refine ret_ok (.inr rfl) ?_
      simp only [go_sem]
    · replace h := ite_f h hb
      refine run_skip ?_
      refine thenK_n ?_
      replace h := bind_some1 h; obtain ⟨y_1570, hy_1571, h⟩ := h
      refine run_textE hE [1, 2, 3, 4, 9, 10] (fr' := [(1, .sl false (L cU8 data_1560)), (2, i64 now_1561), (3, i64 epoch_1562), (4, .ref 0 0), (9, .ref 1 0), (10, i64 y_1570.2)]) (σ' := [.box [i64 p_1559.Epoch, i64 p_1559.Other, i64 p_1559.First, .sl false (L (cSl cU8) p_1559.Queue), i64 p_1559.Next, .sl false (L cApi_Packet p_1559.Early), i64 p_1559.SentAt] false, .box [i64 y_1570.1.Epoch, i64 y_1570.1.Other, i64 y_1570.1.First, .sl false (L (cSl cU8) y_1570.1.Queue), i64 y_1570.1.Next, .sl false (L cApi_Packet y_1570.1.Early), i64 y_1570.1.SentAt] false]) ⟨_, orcs_ok (l := [(33, 12, [i64 epoch_1562], .tup [.agg [i64 y_1570.1.Epoch, i64 y_1570.1.Other, i64 y_1570.1.First, .sl false (L (cSl cU8) y_1570.1.Queue), i64 y_1570.1.Next, .sl false (L cApi_Packet y_1570.1.Early), i64 y_1570.1.SentAt], i64 y_1570.2])]) ⟨window_New_con  hy_1571, trivial⟩, ?_⟩ ?_
      · simp only [go_sem, Nat.reduceLeDiff]
      replace h := bind_some1 h; obtain ⟨y_1572, hy_1573, h⟩ := h
      refine run_textE hE [1, 2, 4, 9, 10, 11, 12] (fr' := [(1, .sl false (L cU8 data_1560)), (2, i64 now_1561), (4, .ref 0 0), (9, .ref 1 0), (10, i64 y_1570.2), (11, .ref 2 0), (12, i64 y_1572.2)]) (σ' := [.box [i64 p_1559.Epoch, i64 p_1559.Other, i64 p_1559.First, .sl false (L (cSl cU8) p_1559.Queue), i64 p_1559.Next, .sl false (L cApi_Packet p_1559.Early), i64 p_1559.SentAt] false, .box [i64 y_1570.1.Epoch, i64 y_1570.1.Other, i64 y_1570.1.First, .sl false (L (cSl cU8) y_1570.1.Queue), i64 y_1570.1.Next, .sl false (L cApi_Packet y_1570.1.Early), i64 y_1570.1.SentAt] false, .box [i64 y_1572.1.Epoch, i64 y_1572.1.Other, i64 y_1572.1.First, .sl false (L (cSl cU8) y_1572.1.Queue), i64 y_1572.1.Next, .sl false (L cApi_Packet y_1572.1.Early), i64 y_1572.1.SentAt] false]) ⟨_, orcs_ok (l := [(38, 13, [i64 epoch_1562], .tup [.agg [i64 y_1572.1.Epoch, i64 y_1572.1.Other, i64 y_1572.1.First, .sl false (L (cSl cU8) y_1572.1.Queue), i64 y_1572.1.Next, .sl false (L cApi_Packet y_1572.1.Early), i64 y_1572.1.SentAt], i64 y_1572.2])]) ⟨r12_New_con  hy_1573, trivial⟩, ?_⟩ ?_
      · simp only [go_sem, Nat.reduceLeDiff]
      replace h := bind_some1 h; obtain ⟨y_1574, hy_1575, h⟩ := h
      refine run_textE hE [1, 2, 4, 9, 10, 11, 12, 13, 14] (fr' := [(1, .sl false (L cU8 data_1560)), (2, i64 now_1561), (4, .ref 0 0), (9, .ref 1 0), (10, i64 y_1570.2), (11, .ref 2 0), (12, i64 y_1572.2), (13, .ref 3 0), (14, i64 y_1574.2)]) (σ' := [.box [i64 p_1559.Epoch, i64 p_1559.Other, i64 p_1559.First, .sl false (L (cSl cU8) p_1559.Queue), i64 p_1559.Next, .sl false (L cApi_Packet p_1559.Early), i64 p_1559.SentAt] false, .box [i64 y_1570.1.Epoch, i64 y_1570.1.Other, i64 y_1570.1.First, .sl false (L (cSl cU8) y_1570.1.Queue), i64 y_1570.1.Next, .sl false (L cApi_Packet y_1570.1.Early), i64 y_1570.1.SentAt] false, .box [i64 y_1572.1.Epoch, i64 y_1572.1.Other, i64 y_1572.1.First, .sl false (L (cSl cU8) y_1572.1.Queue), i64 y_1572.1.Next, .sl false (L cApi_Packet y_1572.1.Early), i64 y_1572.1.SentAt] false, .box [i64 y_1574.1.Epoch, i64 y_1574.1.Other, i64 y_1574.1.First, .sl false (L (cSl cU8) y_1574.1.Queue), i64 y_1574.1.Next, .sl false (L cApi_Packet y_1574.1.Early), i64 y_1574.1.SentAt] false]) ⟨_, orcs_ok (l := [(44, 14, [.agg [i64 p_1559.Epoch, i64 p_1559.Other, i64 p_1559.First, .sl false (L (cSl cU8) p_1559.Queue), i64 p_1559.Next, .sl false (L cApi_Packet p_1559.Early), i64 p_1559.SentAt], .sl false (L cU8 data_1560)], .tup [.agg [i64 y_1574.1.Epoch, i64 y_1574.1.Other, i64 y_1574.1.First, .sl false (L (cSl cU8) y_1574.1.Queue), i64 y_1574.1.Next, .sl false (L cApi_Packet y_1574.1.Early), i64 y_1574.1.SentAt], i64 y_1574.2])]) ⟨window_Offer_con  hy_1575, trivial⟩, ?_⟩ ?_
      · simp only [go_sem, Nat.reduceLeDiff]
      replace h := bind_some1 h; obtain ⟨y_1576, hy_1577, h⟩ := h
      refine run_textE hE [2, 4, 9, 10, 11, 12, 13, 14, 15, 16] (fr' := [(2, i64 now_1561), (4, .ref 0 0), (9, .ref 1 0), (10, i64 y_1570.2), (11, .ref 2 0), (12, i64 y_1572.2), (13, .ref 3 0), (14, i64 y_1574.2), (15, .ref 4 0), (16, i64 y_1576.2)]) (σ' := [.box [i64 p_1559.Epoch, i64 p_1559.Other, i64 p_1559.First, .sl false (L (cSl cU8) p_1559.Queue), i64 p_1559.Next, .sl false (L cApi_Packet p_1559.Early), i64 p_1559.SentAt] false, .box [i64 y_1570.1.Epoch, i64 y_1570.1.Other, i64 y_1570.1.First, .sl false (L (cSl cU8) y_1570.1.Queue), i64 y_1570.1.Next, .sl false (L cApi_Packet y_1570.1.Early), i64 y_1570.1.SentAt] false, .box [i64 y_1572.1.Epoch, i64 y_1572.1.Other, i64 y_1572.1.First, .sl false (L (cSl cU8) y_1572.1.Queue), i64 y_1572.1.Next, .sl false (L cApi_Packet y_1572.1.Early), i64 y_1572.1.SentAt] false, .box [i64 y_1574.1.Epoch, i64 y_1574.1.Other, i64 y_1574.1.First, .sl false (L (cSl cU8) y_1574.1.Queue), i64 y_1574.1.Next, .sl false (L cApi_Packet y_1574.1.Early), i64 y_1574.1.SentAt] false, .box [i64 y_1576.1.Epoch, i64 y_1576.1.Other, i64 y_1576.1.First, .sl false (L (cSl cU8) y_1576.1.Queue), i64 y_1576.1.Next, .sl false (L cApi_Packet y_1576.1.Early), i64 y_1576.1.SentAt] false]) ⟨_, orcs_ok (l := [(50, 15, [.agg [i64 p_1559.Epoch, i64 p_1559.Other, i64 p_1559.First, .sl false (L (cSl cU8) p_1559.Queue), i64 p_1559.Next, .sl false (L cApi_Packet p_1559.Early), i64 p_1559.SentAt], .sl false (L cU8 data_1560)], .tup [.agg [i64 y_1576.1.Epoch, i64 y_1576.1.Other, i64 y_1576.1.First, .sl false (L (cSl cU8) y_1576.1.Queue), i64 y_1576.1.Next, .sl false (L cApi_Packet y_1576.1.Early), i64 y_1576.1.SentAt], i64 y_1576.2])]) ⟨r12_Offer_con  hy_1577, trivial⟩, ?_⟩ ?_
      · simp only [go_sem, Nat.reduceLeDiff]
      replace h := bind_some1 h; obtain ⟨y_1578, hy_1579, h⟩ := h
      refine run_textE hE [2, 4, 9, 10, 11, 12, 13, 14, 15, 16, 17, 18] (fr' := [(2, i64 now_1561), (4, .ref 0 0), (9, .ref 1 0), (10, i64 y_1570.2), (11, .ref 2 0), (12, i64 y_1572.2), (13, .ref 3 0), (14, i64 y_1574.2), (15, .ref 4 0), (16, i64 y_1576.2), (17, .ref 5 0), (18, .sl false (L cApi_Packet y_1578.2))]) (σ' := [.box [i64 p_1559.Epoch, i64 p_1559.Other, i64 p_1559.First, .sl false (L (cSl cU8) p_1559.Queue), i64 p_1559.Next, .sl false (L cApi_Packet p_1559.Early), i64 p_1559.SentAt] false, .box [i64 y_1570.1.Epoch, i64 y_1570.1.Other, i64 y_1570.1.First, .sl false (L (cSl cU8) y_1570.1.Queue), i64 y_1570.1.Next, .sl false (L cApi_Packet y_1570.1.Early), i64 y_1570.1.SentAt] false, .box [i64 y_1572.1.Epoch, i64 y_1572.1.Other, i64 y_1572.1.First, .sl false (L (cSl cU8) y_1572.1.Queue), i64 y_1572.1.Next, .sl false (L cApi_Packet y_1572.1.Early), i64 y_1572.1.SentAt] false, .box [i64 y_1574.1.Epoch, i64 y_1574.1.Other, i64 y_1574.1.First, .sl false (L (cSl cU8) y_1574.1.Queue), i64 y_1574.1.Next, .sl false (L cApi_Packet y_1574.1.Early), i64 y_1574.1.SentAt] false, .box [i64 y_1576.1.Epoch, i64 y_1576.1.Other, i64 y_1576.1.First, .sl false (L (cSl cU8) y_1576.1.Queue), i64 y_1576.1.Next, .sl false (L cApi_Packet y_1576.1.Early), i64 y_1576.1.SentAt] false, .box [i64 y_1578.1.Epoch, i64 y_1578.1.Other, i64 y_1578.1.First, .sl false (L (cSl cU8) y_1578.1.Queue), i64 y_1578.1.Next, .sl false (L cApi_Packet y_1578.1.Early), i64 y_1578.1.SentAt] false]) ⟨_, orcs_ok (l := [(56, 16, [.agg [i64 p_1559.Epoch, i64 p_1559.Other, i64 p_1559.First, .sl false (L (cSl cU8) p_1559.Queue), i64 p_1559.Next, .sl false (L cApi_Packet p_1559.Early), i64 p_1559.SentAt], i64 now_1561], .tup [.agg [i64 y_1578.1.Epoch, i64 y_1578.1.Other, i64 y_1578.1.First, .sl false (L (cSl cU8) y_1578.1.Queue), i64 y_1578.1.Next, .sl false (L cApi_Packet y_1578.1.Early), i64 y_1578.1.SentAt], .sl false (L cApi_Packet y_1578.2)])]) ⟨window_Emit_con  hy_1579, trivial⟩, ?_⟩ ?_
      · simp only [go_sem, Nat.reduceLeDiff]
      replace h := bind_some1 h; obtain ⟨y_1580, hy_1581, h⟩ := h
      refine run_textE hE [9, 10, 11, 12, 13, 14, 15, 16, 17, 18, 19, 20] (fr' := [(9, .ref 1 0), (10, i64 y_1570.2), (11, .ref 2 0), (12, i64 y_1572.2), (13, .ref 3 0), (14, i64 y_1574.2), (15, .ref 4 0), (16, i64 y_1576.2), (17, .ref 5 0), (18, .sl false (L cApi_Packet y_1578.2)), (19, .ref 6 0), (20, .sl false (L cApi_Packet y_1580.2))]) (σ' := [.box [i64 p_1559.Epoch, i64 p_1559.Other, i64 p_1559.First, .sl false (L (cSl cU8) p_1559.Queue), i64 p_1559.Next, .sl false (L cApi_Packet p_1559.Early), i64 p_1559.SentAt] false, .box [i64 y_1570.1.Epoch, i64 y_1570.1.Other, i64 y_1570.1.First, .sl false (L (cSl cU8) y_1570.1.Queue), i64 y_1570.1.Next, .sl false (L cApi_Packet y_1570.1.Early), i64 y_1570.1.SentAt] false, .box [i64 y_1572.1.Epoch, i64 y_1572.1.Other, i64 y_1572.1.First, .sl false (L (cSl cU8) y_1572.1.Queue), i64 y_1572.1.Next, .sl false (L cApi_Packet y_1572.1.Early), i64 y_1572.1.SentAt] false, .box [i64 y_1574.1.Epoch, i64 y_1574.1.Other, i64 y_1574.1.First, .sl false (L (cSl cU8) y_1574.1.Queue), i64 y_1574.1.Next, .sl false (L cApi_Packet y_1574.1.Early), i64 y_1574.1.SentAt] false, .box [i64 y_1576.1.Epoch, i64 y_1576.1.Other, i64 y_1576.1.First, .sl false (L (cSl cU8) y_1576.1.Queue), i64 y_1576.1.Next, .sl false (L cApi_Packet y_1576.1.Early), i64 y_1576.1.SentAt] false, .box [i64 y_1578.1.Epoch, i64 y_1578.1.Other, i64 y_1578.1.First, .sl false (L (cSl cU8) y_1578.1.Queue), i64 y_1578.1.Next, .sl false (L cApi_Packet y_1578.1.Early), i64 y_1578.1.SentAt] false, .box [i64 y_1580.1.Epoch, i64 y_1580.1.Other, i64 y_1580.1.First, .sl false (L (cSl cU8) y_1580.1.Queue), i64 y_1580.1.Next, .sl false (L cApi_Packet y_1580.1.Early), i64 y_1580.1.SentAt] false]) ⟨_, orcs_ok (l := [(62, 17, [.agg [i64 p_1559.Epoch, i64 p_1559.Other, i64 p_1559.First, .sl false (L (cSl cU8) p_1559.Queue), i64 p_1559.Next, .sl false (L cApi_Packet p_1559.Early), i64 p_1559.SentAt], i64 now_1561], .tup [.agg [i64 y_1580.1.Epoch, i64 y_1580.1.Other, i64 y_1580.1.First, .sl false (L (cSl cU8) y_1580.1.Queue), i64 y_1580.1.Next, .sl false (L cApi_Packet y_1580.1.Early), i64 y_1580.1.SentAt], .sl false (L cApi_Packet y_1580.2)])]) ⟨r12_Emit_con  hy_1581, trivial⟩, ?_⟩ ?_
      · simp only [go_sem, Nat.reduceLeDiff]
      replace h := bind_some1 h; obtain ⟨t_1586, hv_1587, h⟩ := h
      refine run_textW hE [8] (fr' := [(8, .bool t_1586)]) (σ' := []) ?_ ?_
      · replace hv_1587 := bind_some1 hv_1587; obtain ⟨y_1582, hy_1588, hv_1587⟩ := hv_1587
        rcases Bool.eq_false_or_eq_true y_1582 with hb_1589 | hb_1589
        · replace hv_1587 := ite_t hv_1587 hb_1589
          rcases Bool.eq_false_or_eq_true ((y_1570.2 == y_1572.2)) with hb_1590 | hb_1590
          · replace hv_1587 := ite_t hv_1587 hb_1590
            replace hv_1587 := bind_some1 hv_1587; obtain ⟨y_1583, hy_1591, hv_1587⟩ := hv_1587
            rcases Bool.eq_false_or_eq_true y_1583 with hb_1592 | hb_1592
            · replace hv_1587 := ite_t hv_1587 hb_1592
              rcases Bool.eq_false_or_eq_true ((y_1574.2 == y_1576.2)) with hb_1593 | hb_1593
              · replace hv_1587 := ite_t hv_1587 hb_1593
                replace hv_1587 := bind_some1 hv_1587; obtain ⟨y_1584, hy_1594, hv_1587⟩ := hv_1587
                rcases Bool.eq_false_or_eq_true y_1584 with hb_1595 | hb_1595
                · replace hv_1587 := ite_t hv_1587 hb_1595
                  replace hv_1587 := bind_some1 hv_1587; obtain ⟨y_1585, hy_1596, hv_1587⟩ := hv_1587
                  have e_hv_1587 := Option.some.inj hv_1587; subst e_hv_1587
                  exact ⟨_, [(8, .bool y_1585)], [.box [i64 p_1559.Epoch, i64 p_1559.Other, i64 p_1559.First, .sl false (L (cSl cU8) p_1559.Queue), i64 p_1559.Next, .sl false (L cApi_Packet p_1559.Early), i64 p_1559.SentAt] false, .box [i64 y_1570.1.Epoch, i64 y_1570.1.Other, i64 y_1570.1.First, .sl false (L (cSl cU8) y_1570.1.Queue), i64 y_1570.1.Next, .sl false (L cApi_Packet y_1570.1.Early), i64 y_1570.1.SentAt] false, .box [i64 y_1572.1.Epoch, i64 y_1572.1.Other, i64 y_1572.1.First, .sl false (L (cSl cU8) y_1572.1.Queue), i64 y_1572.1.Next, .sl false (L cApi_Packet y_1572.1.Early), i64 y_1572.1.SentAt] false, .box [i64 y_1574.1.Epoch, i64 y_1574.1.Other, i64 y_1574.1.First, .sl false (L (cSl cU8) y_1574.1.Queue), i64 y_1574.1.Next, .sl false (L cApi_Packet y_1574.1.Early), i64 y_1574.1.SentAt] false, .box [i64 y_1576.1.Epoch, i64 y_1576.1.Other, i64 y_1576.1.First, .sl false (L (cSl cU8) y_1576.1.Queue), i64 y_1576.1.Next, .sl false (L cApi_Packet y_1576.1.Early), i64 y_1576.1.SentAt] false, .box [i64 y_1578.1.Epoch, i64 y_1578.1.Other, i64 y_1578.1.First, .sl false (L (cSl cU8) y_1578.1.Queue), i64 y_1578.1.Next, .sl false (L cApi_Packet y_1578.1.Early), i64 y_1578.1.SentAt] false, .box [i64 y_1580.1.Epoch, i64 y_1580.1.Other, i64 y_1580.1.First, .sl false (L (cSl cU8) y_1580.1.Queue), i64 y_1580.1.Next, .sl false (L cApi_Packet y_1580.1.Early), i64 y_1580.1.SentAt] false], orcs_ok (l := [(67, 18, [.agg [i64 y_1570.1.Epoch, i64 y_1570.1.Other, i64 y_1570.1.First, .sl false (L (cSl cU8) y_1570.1.Queue), i64 y_1570.1.Next, .sl false (L cApi_Packet y_1570.1.Early), i64 y_1570.1.SentAt], .agg [i64 y_1572.1.Epoch, i64 y_1572.1.Other, i64 y_1572.1.First, .sl false (L (cSl cU8) y_1572.1.Queue), i64 y_1572.1.Next, .sl false (L cApi_Packet y_1572.1.Early), i64 y_1572.1.SentAt]], .bool y_1582), (76, 18, [.agg [i64 y_1574.1.Epoch, i64 y_1574.1.Other, i64 y_1574.1.First, .sl false (L (cSl cU8) y_1574.1.Queue), i64 y_1574.1.Next, .sl false (L cApi_Packet y_1574.1.Early), i64 y_1574.1.SentAt], .agg [i64 y_1576.1.Epoch, i64 y_1576.1.Other, i64 y_1576.1.First, .sl false (L (cSl cU8) y_1576.1.Queue), i64 y_1576.1.Next, .sl false (L cApi_Packet y_1576.1.Early), i64 y_1576.1.SentAt]], .bool y_1583), (86, 18, [.agg [i64 y_1578.1.Epoch, i64 y_1578.1.Other, i64 y_1578.1.First, .sl false (L (cSl cU8) y_1578.1.Queue), i64 y_1578.1.Next, .sl false (L cApi_Packet y_1578.1.Early), i64 y_1578.1.SentAt], .agg [i64 y_1580.1.Epoch, i64 y_1580.1.Other, i64 y_1580.1.First, .sl false (L (cSl cU8) y_1580.1.Queue), i64 y_1580.1.Next, .sl false (L cApi_Packet y_1580.1.Early), i64 y_1580.1.SentAt]], .bool y_1584), (91, 19, [.sl false (L cApi_Packet y_1578.2), .sl false (L cApi_Packet y_1580.2)], .bool y_1585)]) ⟨r12_Same_con  hy_1588, r12_Same_con  hy_1591, r12_Same_con  hy_1594, r12_SamePackets_con  hy_1596, trivial⟩, by simp only [go_sem, hb_1589, hb_1590, hb_1592, hb_1593, hb_1595], (weak_sel [] (by decide) rfl (by simp only [go_sem]) (by simp only [go_sem]))⟩
                · replace hv_1587 := ite_f hv_1587 hb_1595
                  have e_hv_1587 := Option.some.inj hv_1587; subst e_hv_1587
                  exact ⟨_, [(8, .bool false)], [.box [i64 p_1559.Epoch, i64 p_1559.Other, i64 p_1559.First, .sl false (L (cSl cU8) p_1559.Queue), i64 p_1559.Next, .sl false (L cApi_Packet p_1559.Early), i64 p_1559.SentAt] false, .box [i64 y_1570.1.Epoch, i64 y_1570.1.Other, i64 y_1570.1.First, .sl false (L (cSl cU8) y_1570.1.Queue), i64 y_1570.1.Next, .sl false (L cApi_Packet y_1570.1.Early), i64 y_1570.1.SentAt] false, .box [i64 y_1572.1.Epoch, i64 y_1572.1.Other, i64 y_1572.1.First, .sl false (L (cSl cU8) y_1572.1.Queue), i64 y_1572.1.Next, .sl false (L cApi_Packet y_1572.1.Early), i64 y_1572.1.SentAt] false, .box [i64 y_1574.1.Epoch, i64 y_1574.1.Other, i64 y_1574.1.First, .sl false (L (cSl cU8) y_1574.1.Queue), i64 y_1574.1.Next, .sl false (L cApi_Packet y_1574.1.Early), i64 y_1574.1.SentAt] false, .box [i64 y_1576.1.Epoch, i64 y_1576.1.Other, i64 y_1576.1.First, .sl false (L (cSl cU8) y_1576.1.Queue), i64 y_1576.1.Next, .sl false (L cApi_Packet y_1576.1.Early), i64 y_1576.1.SentAt] false, .box [i64 y_1578.1.Epoch, i64 y_1578.1.Other, i64 y_1578.1.First, .sl false (L (cSl cU8) y_1578.1.Queue), i64 y_1578.1.Next, .sl false (L cApi_Packet y_1578.1.Early), i64 y_1578.1.SentAt] false, .box [i64 y_1580.1.Epoch, i64 y_1580.1.Other, i64 y_1580.1.First, .sl false (L (cSl cU8) y_1580.1.Queue), i64 y_1580.1.Next, .sl false (L cApi_Packet y_1580.1.Early), i64 y_1580.1.SentAt] false], orcs_ok (l := [(67, 18, [.agg [i64 y_1570.1.Epoch, i64 y_1570.1.Other, i64 y_1570.1.First, .sl false (L (cSl cU8) y_1570.1.Queue), i64 y_1570.1.Next, .sl false (L cApi_Packet y_1570.1.Early), i64 y_1570.1.SentAt], .agg [i64 y_1572.1.Epoch, i64 y_1572.1.Other, i64 y_1572.1.First, .sl false (L (cSl cU8) y_1572.1.Queue), i64 y_1572.1.Next, .sl false (L cApi_Packet y_1572.1.Early), i64 y_1572.1.SentAt]], .bool y_1582), (76, 18, [.agg [i64 y_1574.1.Epoch, i64 y_1574.1.Other, i64 y_1574.1.First, .sl false (L (cSl cU8) y_1574.1.Queue), i64 y_1574.1.Next, .sl false (L cApi_Packet y_1574.1.Early), i64 y_1574.1.SentAt], .agg [i64 y_1576.1.Epoch, i64 y_1576.1.Other, i64 y_1576.1.First, .sl false (L (cSl cU8) y_1576.1.Queue), i64 y_1576.1.Next, .sl false (L cApi_Packet y_1576.1.Early), i64 y_1576.1.SentAt]], .bool y_1583), (86, 18, [.agg [i64 y_1578.1.Epoch, i64 y_1578.1.Other, i64 y_1578.1.First, .sl false (L (cSl cU8) y_1578.1.Queue), i64 y_1578.1.Next, .sl false (L cApi_Packet y_1578.1.Early), i64 y_1578.1.SentAt], .agg [i64 y_1580.1.Epoch, i64 y_1580.1.Other, i64 y_1580.1.First, .sl false (L (cSl cU8) y_1580.1.Queue), i64 y_1580.1.Next, .sl false (L cApi_Packet y_1580.1.Early), i64 y_1580.1.SentAt]], .bool y_1584)]) ⟨r12_Same_con  hy_1588, r12_Same_con  hy_1591, r12_Same_con  hy_1594, trivial⟩, by simp only [go_sem, hb_1589, hb_1590, hb_1592, hb_1593, hb_1595], (weak_sel [] (by decide) rfl (by simp only [go_sem]) (by simp only [go_sem]))⟩
              · replace hv_1587 := ite_f hv_1587 hb_1593
                have e_hv_1587 := Option.some.inj hv_1587; subst e_hv_1587
                exact ⟨_, [(8, .bool false)], [.box [i64 p_1559.Epoch, i64 p_1559.Other, i64 p_1559.First, .sl false (L (cSl cU8) p_1559.Queue), i64 p_1559.Next, .sl false (L cApi_Packet p_1559.Early), i64 p_1559.SentAt] false, .box [i64 y_1570.1.Epoch, i64 y_1570.1.Other, i64 y_1570.1.First, .sl false (L (cSl cU8) y_1570.1.Queue), i64 y_1570.1.Next, .sl false (L cApi_Packet y_1570.1.Early), i64 y_1570.1.SentAt] false, .box [i64 y_1572.1.Epoch, i64 y_1572.1.Other, i64 y_1572.1.First, .sl false (L (cSl cU8) y_1572.1.Queue), i64 y_1572.1.Next, .sl false (L cApi_Packet y_1572.1.Early), i64 y_1572.1.SentAt] false, .box [i64 y_1574.1.Epoch, i64 y_1574.1.Other, i64 y_1574.1.First, .sl false (L (cSl cU8) y_1574.1.Queue), i64 y_1574.1.Next, .sl false (L cApi_Packet y_1574.1.Early), i64 y_1574.1.SentAt] false, .box [i64 y_1576.1.Epoch, i64 y_1576.1.Other, i64 y_1576.1.First, .sl false (L (cSl cU8) y_1576.1.Queue), i64 y_1576.1.Next, .sl false (L cApi_Packet y_1576.1.Early), i64 y_1576.1.SentAt] false, .box [i64 y_1578.1.Epoch, i64 y_1578.1.Other, i64 y_1578.1.First, .sl false (L (cSl cU8) y_1578.1.Queue), i64 y_1578.1.Next, .sl false (L cApi_Packet y_1578.1.Early), i64 y_1578.1.SentAt] false, .box [i64 y_1580.1.Epoch, i64 y_1580.1.Other, i64 y_1580.1.First, .sl false (L (cSl cU8) y_1580.1.Queue), i64 y_1580.1.Next, .sl false (L cApi_Packet y_1580.1.Early), i64 y_1580.1.SentAt] false], orcs_ok (l := [(67, 18, [.agg [i64 y_1570.1.Epoch, i64 y_1570.1.Other, i64 y_1570.1.First, .sl false (L (cSl cU8) y_1570.1.Queue), i64 y_1570.1.Next, .sl false (L cApi_Packet y_1570.1.Early), i64 y_1570.1.SentAt], .agg [i64 y_1572.1.Epoch, i64 y_1572.1.Other, i64 y_1572.1.First, .sl false (L (cSl cU8) y_1572.1.Queue), i64 y_1572.1.Next, .sl false (L cApi_Packet y_1572.1.Early), i64 y_1572.1.SentAt]], .bool y_1582), (76, 18, [.agg [i64 y_1574.1.Epoch, i64 y_1574.1.Other, i64 y_1574.1.First, .sl false (L (cSl cU8) y_1574.1.Queue), i64 y_1574.1.Next, .sl false (L cApi_Packet y_1574.1.Early), i64 y_1574.1.SentAt], .agg [i64 y_1576.1.Epoch, i64 y_1576.1.Other, i64 y_1576.1.First, .sl false (L (cSl cU8) y_1576.1.Queue), i64 y_1576.1.Next, .sl false (L cApi_Packet y_1576.1.Early), i64 y_1576.1.SentAt]], .bool y_1583)]) ⟨r12_Same_con  hy_1588, r12_Same_con  hy_1591, trivial⟩, by simp only [go_sem, hb_1589, hb_1590, hb_1592, hb_1593], (weak_sel [] (by decide) rfl (by simp only [go_sem]) (by simp only [go_sem]))⟩
            · replace hv_1587 := ite_f hv_1587 hb_1592
              have e_hv_1587 := Option.some.inj hv_1587; subst e_hv_1587
              exact ⟨_, [(8, .bool false)], [.box [i64 p_1559.Epoch, i64 p_1559.Other, i64 p_1559.First, .sl false (L (cSl cU8) p_1559.Queue), i64 p_1559.Next, .sl false (L cApi_Packet p_1559.Early), i64 p_1559.SentAt] false, .box [i64 y_1570.1.Epoch, i64 y_1570.1.Other, i64 y_1570.1.First, .sl false (L (cSl cU8) y_1570.1.Queue), i64 y_1570.1.Next, .sl false (L cApi_Packet y_1570.1.Early), i64 y_1570.1.SentAt] false, .box [i64 y_1572.1.Epoch, i64 y_1572.1.Other, i64 y_1572.1.First, .sl false (L (cSl cU8) y_1572.1.Queue), i64 y_1572.1.Next, .sl false (L cApi_Packet y_1572.1.Early), i64 y_1572.1.SentAt] false, .box [i64 y_1574.1.Epoch, i64 y_1574.1.Other, i64 y_1574.1.First, .sl false (L (cSl cU8) y_1574.1.Queue), i64 y_1574.1.Next, .sl false (L cApi_Packet y_1574.1.Early), i64 y_1574.1.SentAt] false, .box [i64 y_1576.1.Epoch, i64 y_1576.1.Other, i64 y_1576.1.First, .sl false (L (cSl cU8) y_1576.1.Queue), i64 y_1576.1.Next, .sl false (L cApi_Packet y_1576.1.Early), i64 y_1576.1.SentAt] false, .box [i64 y_1578.1.Epoch, i64 y_1578.1.Other, i64 y_1578.1.First, .sl false (L (cSl cU8) y_1578.1.Queue), i64 y_1578.1.Next, .sl false (L cApi_Packet y_1578.1.Early), i64 y_1578.1.SentAt] false, .box [i64 y_1580.1.Epoch, i64 y_1580.1.Other, i64 y_1580.1.First, .sl false (L (cSl cU8) y_1580.1.Queue), i64 y_1580.1.Next, .sl false (L cApi_Packet y_1580.1.Early), i64 y_1580.1.SentAt] false], orcs_ok (l := [(67, 18, [.agg [i64 y_1570.1.Epoch, i64 y_1570.1.Other, i64 y_1570.1.First, .sl false (L (cSl cU8) y_1570.1.Queue), i64 y_1570.1.Next, .sl false (L cApi_Packet y_1570.1.Early), i64 y_1570.1.SentAt], .agg [i64 y_1572.1.Epoch, i64 y_1572.1.Other, i64 y_1572.1.First, .sl false (L (cSl cU8) y_1572.1.Queue), i64 y_1572.1.Next, .sl false (L cApi_Packet y_1572.1.Early), i64 y_1572.1.SentAt]], .bool y_1582), (76, 18, [.agg [i64 y_1574.1.Epoch, i64 y_1574.1.Other, i64 y_1574.1.First, .sl false (L (cSl cU8) y_1574.1.Queue), i64 y_1574.1.Next, .sl false (L cApi_Packet y_1574.1.Early), i64 y_1574.1.SentAt], .agg [i64 y_1576.1.Epoch, i64 y_1576.1.Other, i64 y_1576.1.First, .sl false (L (cSl cU8) y_1576.1.Queue), i64 y_1576.1.Next, .sl false (L cApi_Packet y_1576.1.Early), i64 y_1576.1.SentAt]], .bool y_1583)]) ⟨r12_Same_con  hy_1588, r12_Same_con  hy_1591, trivial⟩, by simp only [go_sem, hb_1589, hb_1590, hb_1592], (weak_sel [] (by decide) rfl (by simp only [go_sem]) (by simp only [go_sem]))⟩
          · replace hv_1587 := ite_f hv_1587 hb_1590
            have e_hv_1587 := Option.some.inj hv_1587; subst e_hv_1587
            exact ⟨_, [(8, .bool false)], [.box [i64 p_1559.Epoch, i64 p_1559.Other, i64 p_1559.First, .sl false (L (cSl cU8) p_1559.Queue), i64 p_1559.Next, .sl false (L cApi_Packet p_1559.Early), i64 p_1559.SentAt] false, .box [i64 y_1570.1.Epoch, i64 y_1570.1.Other, i64 y_1570.1.First, .sl false (L (cSl cU8) y_1570.1.Queue), i64 y_1570.1.Next, .sl false (L cApi_Packet y_1570.1.Early), i64 y_1570.1.SentAt] false, .box [i64 y_1572.1.Epoch, i64 y_1572.1.Other, i64 y_1572.1.First, .sl false (L (cSl cU8) y_1572.1.Queue), i64 y_1572.1.Next, .sl false (L cApi_Packet y_1572.1.Early), i64 y_1572.1.SentAt] false, .box [i64 y_1574.1.Epoch, i64 y_1574.1.Other, i64 y_1574.1.First, .sl false (L (cSl cU8) y_1574.1.Queue), i64 y_1574.1.Next, .sl false (L cApi_Packet y_1574.1.Early), i64 y_1574.1.SentAt] false, .box [i64 y_1576.1.Epoch, i64 y_1576.1.Other, i64 y_1576.1.First, .sl false (L (cSl cU8) y_1576.1.Queue), i64 y_1576.1.Next, .sl false (L cApi_Packet y_1576.1.Early), i64 y_1576.1.SentAt] false, .box [i64 y_1578.1.Epoch, i64 y_1578.1.Other, i64 y_1578.1.First, .sl false (L (cSl cU8) y_1578.1.Queue), i64 y_1578.1.Next, .sl false (L cApi_Packet y_1578.1.Early), i64 y_1578.1.SentAt] false, .box [i64 y_1580.1.Epoch, i64 y_1580.1.Other, i64 y_1580.1.First, .sl false (L (cSl cU8) y_1580.1.Queue), i64 y_1580.1.Next, .sl false (L cApi_Packet y_1580.1.Early), i64 y_1580.1.SentAt] false], orcs_ok (l := [(67, 18, [.agg [i64 y_1570.1.Epoch, i64 y_1570.1.Other, i64 y_1570.1.First, .sl false (L (cSl cU8) y_1570.1.Queue), i64 y_1570.1.Next, .sl false (L cApi_Packet y_1570.1.Early), i64 y_1570.1.SentAt], .agg [i64 y_1572.1.Epoch, i64 y_1572.1.Other, i64 y_1572.1.First, .sl false (L (cSl cU8) y_1572.1.Queue), i64 y_1572.1.Next, .sl false (L cApi_Packet y_1572.1.Early), i64 y_1572.1.SentAt]], .bool y_1582)]) ⟨r12_Same_con  hy_1588, trivial⟩, by simp only [go_sem, hb_1589, hb_1590], (weak_sel [] (by decide) rfl (by simp only [go_sem]) (by simp only [go_sem]))⟩
        · replace hv_1587 := ite_f hv_1587 hb_1589
          have e_hv_1587 := Option.some.inj hv_1587; subst e_hv_1587
          exact ⟨_, [(8, .bool false)], [.box [i64 p_1559.Epoch, i64 p_1559.Other, i64 p_1559.First, .sl false (L (cSl cU8) p_1559.Queue), i64 p_1559.Next, .sl false (L cApi_Packet p_1559.Early), i64 p_1559.SentAt] false, .box [i64 y_1570.1.Epoch, i64 y_1570.1.Other, i64 y_1570.1.First, .sl false (L (cSl cU8) y_1570.1.Queue), i64 y_1570.1.Next, .sl false (L cApi_Packet y_1570.1.Early), i64 y_1570.1.SentAt] false, .box [i64 y_1572.1.Epoch, i64 y_1572.1.Other, i64 y_1572.1.First, .sl false (L (cSl cU8) y_1572.1.Queue), i64 y_1572.1.Next, .sl false (L cApi_Packet y_1572.1.Early), i64 y_1572.1.SentAt] false, .box [i64 y_1574.1.Epoch, i64 y_1574.1.Other, i64 y_1574.1.First, .sl false (L (cSl cU8) y_1574.1.Queue), i64 y_1574.1.Next, .sl false (L cApi_Packet y_1574.1.Early), i64 y_1574.1.SentAt] false, .box [i64 y_1576.1.Epoch, i64 y_1576.1.Other, i64 y_1576.1.First, .sl false (L (cSl cU8) y_1576.1.Queue), i64 y_1576.1.Next, .sl false (L cApi_Packet y_1576.1.Early), i64 y_1576.1.SentAt] false, .box [i64 y_1578.1.Epoch, i64 y_1578.1.Other, i64 y_1578.1.First, .sl false (L (cSl cU8) y_1578.1.Queue), i64 y_1578.1.Next, .sl false (L cApi_Packet y_1578.1.Early), i64 y_1578.1.SentAt] false, .box [i64 y_1580.1.Epoch, i64 y_1580.1.Other, i64 y_1580.1.First, .sl false (L (cSl cU8) y_1580.1.Queue), i64 y_1580.1.Next, .sl false (L cApi_Packet y_1580.1.Early), i64 y_1580.1.SentAt] false], orcs_ok (l := [(67, 18, [.agg [i64 y_1570.1.Epoch, i64 y_1570.1.Other, i64 y_1570.1.First, .sl false (L (cSl cU8) y_1570.1.Queue), i64 y_1570.1.Next, .sl false (L cApi_Packet y_1570.1.Early), i64 y_1570.1.SentAt], .agg [i64 y_1572.1.Epoch, i64 y_1572.1.Other, i64 y_1572.1.First, .sl false (L (cSl cU8) y_1572.1.Queue), i64 y_1572.1.Next, .sl false (L cApi_Packet y_1572.1.Early), i64 y_1572.1.SentAt]], .bool y_1582)]) ⟨r12_Same_con  hy_1588, trivial⟩, by simp only [go_sem, hb_1589], (weak_sel [] (by decide) rfl (by simp only [go_sem]) (by simp only [go_sem]))⟩
      refine run_ret ?_
      obtain rfl := Option.some.inj h
      refine wkP_of (Weak.refl _ _) ?_
      refine ret_ok (.inr rfl) ?_
      simp only [go_sem]

end Go.Proofs.Ytomjphpnpcgacaa
/-
  The functions compute just that.
-/
namespace Go.Proofs.Ytomjphpnpcgacaa
open Go.Rv
set_option linter.unusedVariables false
set_option linter.unusedSimpArgs false
set_option maxRecDepth 20000
set_option maxHeartbeats 4000000

theorem law12_WindowMatchesAccept_con {p_1597 : Api_Peer} {k_1598 : Api_Packet} {r : Bool} (h : law12_WindowMatchesAccept p_1597 k_1598 = some r) : Con B 4 [.agg [i64 p_1597.Epoch, i64 p_1597.Other, i64 p_1597.First, .sl false (L (cSl cU8) p_1597.Queue), i64 p_1597.Next, .sl false (L cApi_Packet p_1597.Early), i64 p_1597.SentAt], .agg [i64 k_1598.Epoch, i64 k_1598.To, i64 k_1598.Seq, i64 k_1598.Ack, .sl false (L cU8 k_1598.Data)]] [] (fun r' σ' => r' = .bool r ∧ σ' = []) := by
  refine con_walk (N := 49) (rs := [.tmp 4]) ok Try.func4 rfl (by decide +kernel) rfl rfl (Nat.le_of_ble_eq_true rfl) (fun F => ?_)
  have hE := ok.env F
  unfold law12_WindowMatchesAccept at h
  show Run (B.env F) 0 _ ⟨asFr 49 [(0, .agg [i64 p_1597.Epoch, i64 p_1597.Other, i64 p_1597.First, .sl false (L (cSl cU8) p_1597.Queue), i64 p_1597.Next, .sl false (L cApi_Packet p_1597.Early), i64 p_1597.SentAt]), (1, .agg [i64 k_1598.Epoch, i64 k_1598.To, i64 k_1598.Seq, i64 k_1598.Ack, .sl false (L cU8 k_1598.Data)])], []⟩ _
  refine run_wkP ?_
  refine run_textE hE [2, 3] (fr' := [(2, .ref 0 0), (3, .ref 1 0)]) (σ' := [.box [i64 p_1597.Epoch, i64 p_1597.Other, i64 p_1597.First, .sl false (L (cSl cU8) p_1597.Queue), i64 p_1597.Next, .sl false (L cApi_Packet p_1597.Early), i64 p_1597.SentAt] false, .box [i64 k_1598.Epoch, i64 k_1598.To, i64 k_1598.Seq, i64 k_1598.Ack, .sl false (L cU8 k_1598.Data)] false]) ⟨_, orcs_nil, ?_⟩ ?_
  · simp only [go_sem]
  refine run_seq ?_
  replace h := bind_some1 h; obtain ⟨y_1599, hy_1600, h⟩ := h
  refine run_textE hE [2, 3, 12] (fr' := [(2, .ref 0 0), (3, .ref 1 0), (12, .bool ((!y_1599)))]) (σ' := [.box [i64 p_1597.Epoch, i64 p_1597.Other, i64 p_1597.First, .sl false (L (cSl cU8) p_1597.Queue), i64 p_1597.Next, .sl false (L cApi_Packet p_1597.Early), i64 p_1597.SentAt] false, .box [i64 k_1598.Epoch, i64 k_1598.To, i64 k_1598.Seq, i64 k_1598.Ack, .sl false (L cU8 k_1598.Data)] false]) ⟨_, orcs_ok (l := [(11, 10, [], .bool y_1599)]) ⟨law12_sane_con  hy_1600, trivial⟩, ?_⟩ ?_
  · simp only [go_sem]
  refine run_condL (b := (!y_1599)) rfl (by decide) (fun hb => ?_) (fun hb => ?_)
  · replace h := ite_t h hb
    refine run_textE hE [4] (fr' := [(4, .bool false)]) (σ' := [.box [i64 p_1597.Epoch, i64 p_1597.Other, i64 p_1597.First, .sl false (L (cSl cU8) p_1597.Queue), i64 p_1597.Next, .sl false (L cApi_Packet p_1597.Early), i64 p_1597.SentAt] false, .box [i64 k_1598.Epoch, i64 k_1598.To, i64 k_1598.Seq, i64 k_1598.Ack, .sl false (L cU8 k_1598.Data)] false]) ⟨_, orcs_nil, ?_⟩ ?_
    · simp only [go_sem]
    refine run_ret ?_
    refine thenK_r ?_
    obtain rfl := Option.some.inj h
    refine wkP_of (Weak.refl _ _) ?_
    refine ret_ok (.inr rfl) ?_
    simp only [go_sem]
  · replace h := ite_f h hb
    refine run_skip ?_
    refine thenK_n ?_
    refine run_seq ?_
    replace h := bind_some1 h; obtain ⟨t_1602, hv_1603, h⟩ := h
    refine run_textW hE [2, 3, 21] (fr' := [(2, .ref 0 0), (3, .ref 1 0), (21, .bool t_1602)]) (σ' := [.box [i64 p_1597.Epoch, i64 p_1597.Other, i64 p_1597.First, .sl false (L (cSl cU8) p_1597.Queue), i64 p_1597.Next, .sl false (L cApi_Packet p_1597.Early), i64 p_1597.SentAt] false, .box [i64 k_1598.Epoch, i64 k_1598.To, i64 k_1598.Seq, i64 k_1598.Ack, .sl false (L cU8 k_1598.Data)] false]) ?_ ?_
    · replace hv_1603 := bind_some1 hv_1603; obtain ⟨y_1601, hy_1604, hv_1603⟩ := hv_1603
      rcases Bool.eq_false_or_eq_true ((!y_1601)) with hb_1605 | hb_1605
      · replace hv_1603 := ite_t hv_1603 hb_1605
        have e_hv_1603 := Option.some.inj hv_1603; subst e_hv_1603
        exact ⟨_, [(2, .ref 0 0), (3, .ref 1 0), (21, .bool true)], [.box [i64 p_1597.Epoch, i64 p_1597.Other, i64 p_1597.First, .sl false (L (cSl cU8) p_1597.Queue), i64 p_1597.Next, .sl false (L cApi_Packet p_1597.Early), i64 p_1597.SentAt] false, .box [i64 k_1598.Epoch, i64 k_1598.To, i64 k_1598.Seq, i64 k_1598.Ack, .sl false (L cU8 k_1598.Data)] false], orcs_ok (l := [(14, 11, [.agg [i64 p_1597.Epoch, i64 p_1597.Other, i64 p_1597.First, .sl false (L (cSl cU8) p_1597.Queue), i64 p_1597.Next, .sl false (L cApi_Packet p_1597.Early), i64 p_1597.SentAt]], .bool y_1601)]) ⟨law12_few_con  hy_1604, trivial⟩, by simp only [go_sem, hb_1605], (weak_sel [0, 1] (by decide) rfl (by simp only [go_sem]) (by simp only [go_sem]))⟩
      · replace hv_1603 := ite_f hv_1603 hb_1605
        have e_hv_1603 := Option.some.inj hv_1603; subst e_hv_1603
        exact ⟨_, [(2, .ref 0 0), (3, .ref 1 0), (21, .bool ((decide ((k_1598.Data.length : Int) > 20000))))], [.box [i64 p_1597.Epoch, i64 p_1597.Other, i64 p_1597.First, .sl false (L (cSl cU8) p_1597.Queue), i64 p_1597.Next, .sl false (L cApi_Packet p_1597.Early), i64 p_1597.SentAt] false, .box [i64 k_1598.Epoch, i64 k_1598.To, i64 k_1598.Seq, i64 k_1598.Ack, .sl false (L cU8 k_1598.Data)] false], orcs_ok (l := [(14, 11, [.agg [i64 p_1597.Epoch, i64 p_1597.Other, i64 p_1597.First, .sl false (L (cSl cU8) p_1597.Queue), i64 p_1597.Next, .sl false (L cApi_Packet p_1597.Early), i64 p_1597.SentAt]], .bool y_1601)]) ⟨law12_few_con  hy_1604, trivial⟩, by simp only [go_sem, hb_1605], (weak_sel [0, 1] (by decide) rfl (by simp only [go_sem]) (by simp only [go_sem]))⟩
    refine run_condL (b := t_1602) rfl (by decide) (fun hb => ?_) (fun hb => ?_)
    · replace h := ite_t h hb
      refine run_textE hE [4] (fr' := [(4, .bool true)]) (σ' := [.box [i64 p_1597.Epoch, i64 p_1597.Other, i64 p_1597.First, .sl false (L (cSl cU8) p_1597.Queue), i64 p_1597.Next, .sl false (L cApi_Packet p_1597.Early), i64 p_1597.SentAt] false, .box [i64 k_1598.Epoch, i64 k_1598.To, i64 k_1598.Seq, i64 k_1598.Ack, .sl false (L cU8 k_1598.Data)] false]) ⟨_, orcs_nil, ?_⟩ ?_
      · simp only [go_sem]
      refine run_ret ?_
      refine thenK_r ?_
      obtain rfl := Option.some.inj h
      refine wkP_of (Weak.refl _ _) ?_
      refine ret_ok (.inr rfl) ?_
      simp only [go_sem]
    · replace h := ite_f h hb
      refine run_skip ?_
      refine thenK_n ?_
      replace h := bind_some1 h; obtain ⟨y_1606, hy_1607, h⟩ := h
      refine run_textE hE [2, 3, 5, 6, 7] (fr' := [(2, .ref 0 0), (3, .ref 1 0), (5, .ref 2 0), (6, .sl false (L (cSl cU8) y_1606.2.1)), (7, .bool y_1606.2.2)]) (σ' := [.box [i64 p_1597.Epoch, i64 p_1597.Other, i64 p_1597.First, .sl false (L (cSl cU8) p_1597.Queue), i64 p_1597.Next, .sl false (L cApi_Packet p_1597.Early), i64 p_1597.SentAt] false, .box [i64 k_1598.Epoch, i64 k_1598.To, i64 k_1598.Seq, i64 k_1598.Ack, .sl false (L cU8 k_1598.Data)] false, .box [i64 y_1606.1.Epoch, i64 y_1606.1.Other, i64 y_1606.1.First, .sl false (L (cSl cU8) y_1606.1.Queue), i64 y_1606.1.Next, .sl false (L cApi_Packet y_1606.1.Early), i64 y_1606.1.SentAt] false]) ⟨_, orcs_ok (l := [(25, 20, [.agg [i64 p_1597.Epoch, i64 p_1597.Other, i64 p_1597.First, .sl false (L (cSl cU8) p_1597.Queue), i64 p_1597.Next, .sl false (L cApi_Packet p_1597.Early), i64 p_1597.SentAt], .agg [i64 k_1598.Epoch, i64 k_1598.To, i64 k_1598.Seq, i64 k_1598.Ack, .sl false (L cU8 k_1598.Data)]], .tup [.agg [i64 y_1606.1.Epoch, i64 y_1606.1.Other, i64 y_1606.1.First, .sl false (L (cSl cU8) y_1606.1.Queue), i64 y_1606.1.Next, .sl false (L cApi_Packet y_1606.1.Early), i64 y_1606.1.SentAt], .sl false (L (cSl cU8) y_1606.2.1), .bool y_1606.2.2])]) ⟨window_Accept_con  hy_1607, trivial⟩, ?_⟩ ?_
      · simp only [go_sem, Nat.reduceLeDiff]
      replace h := bind_some1 h; obtain ⟨y_1608, hy_1609, h⟩ := h
      refine run_textE hE [5, 6, 7, 8, 9, 10] (fr' := [(5, .ref 2 0), (6, .sl false (L (cSl cU8) y_1606.2.1)), (7, .bool y_1606.2.2), (8, .ref 3 0), (9, .sl false (L (cSl cU8) y_1608.2.1)), (10, .bool y_1608.2.2)]) (σ' := [.box [i64 p_1597.Epoch, i64 p_1597.Other, i64 p_1597.First, .sl false (L (cSl cU8) p_1597.Queue), i64 p_1597.Next, .sl false (L cApi_Packet p_1597.Early), i64 p_1597.SentAt] false, .box [i64 k_1598.Epoch, i64 k_1598.To, i64 k_1598.Seq, i64 k_1598.Ack, .sl false (L cU8 k_1598.Data)] false, .box [i64 y_1606.1.Epoch, i64 y_1606.1.Other, i64 y_1606.1.First, .sl false (L (cSl cU8) y_1606.1.Queue), i64 y_1606.1.Next, .sl false (L cApi_Packet y_1606.1.Early), i64 y_1606.1.SentAt] false, .box [i64 y_1608.1.Epoch, i64 y_1608.1.Other, i64 y_1608.1.First, .sl false (L (cSl cU8) y_1608.1.Queue), i64 y_1608.1.Next, .sl false (L cApi_Packet y_1608.1.Early), i64 y_1608.1.SentAt] false]) ⟨_, orcs_ok (l := [(32, 21, [.agg [i64 p_1597.Epoch, i64 p_1597.Other, i64 p_1597.First, .sl false (L (cSl cU8) p_1597.Queue), i64 p_1597.Next, .sl false (L cApi_Packet p_1597.Early), i64 p_1597.SentAt], .agg [i64 k_1598.Epoch, i64 k_1598.To, i64 k_1598.Seq, i64 k_1598.Ack, .sl false (L cU8 k_1598.Data)]], .tup [.agg [i64 y_1608.1.Epoch, i64 y_1608.1.Other, i64 y_1608.1.First, .sl false (L (cSl cU8) y_1608.1.Queue), i64 y_1608.1.Next, .sl false (L cApi_Packet y_1608.1.Early), i64 y_1608.1.SentAt], .sl false (L (cSl cU8) y_1608.2.1), .bool y_1608.2.2])]) ⟨r12_Accept_con  hy_1609, trivial⟩, ?_⟩ ?_
      · simp only [go_sem, Nat.reduceLeDiff]
      replace h := bind_some1 h; obtain ⟨t_1612, hv_1613, h⟩ := h
      refine run_textW hE [4] (fr' := [(4, .bool t_1612)]) (σ' := []) ?_ ?_
      · replace hv_1613 := bind_some1 hv_1613; obtain ⟨y_1610, hy_1614, hv_1613⟩ := hv_1613
        rcases Bool.eq_false_or_eq_true y_1610 with hb_1615 | hb_1615
        · replace hv_1613 := ite_t hv_1613 hb_1615
          replace hv_1613 := bind_some1 hv_1613; obtain ⟨y_1611, hy_1616, hv_1613⟩ := hv_1613
          rcases Bool.eq_false_or_eq_true y_1611 with hb_1617 | hb_1617
          · replace hv_1613 := ite_t hv_1613 hb_1617
            have e_hv_1613 := Option.some.inj hv_1613; subst e_hv_1613
            exact ⟨_, [(4, .bool ((y_1606.2.2 == y_1608.2.2)))], [.box [i64 p_1597.Epoch, i64 p_1597.Other, i64 p_1597.First, .sl false (L (cSl cU8) p_1597.Queue), i64 p_1597.Next, .sl false (L cApi_Packet p_1597.Early), i64 p_1597.SentAt] false, .box [i64 k_1598.Epoch, i64 k_1598.To, i64 k_1598.Seq, i64 k_1598.Ack, .sl false (L cU8 k_1598.Data)] false, .box [i64 y_1606.1.Epoch, i64 y_1606.1.Other, i64 y_1606.1.First, .sl false (L (cSl cU8) y_1606.1.Queue), i64 y_1606.1.Next, .sl false (L cApi_Packet y_1606.1.Early), i64 y_1606.1.SentAt] false, .box [i64 y_1608.1.Epoch, i64 y_1608.1.Other, i64 y_1608.1.First, .sl false (L (cSl cU8) y_1608.1.Queue), i64 y_1608.1.Next, .sl false (L cApi_Packet y_1608.1.Early), i64 y_1608.1.SentAt] false], orcs_ok (l := [(38, 18, [.agg [i64 y_1606.1.Epoch, i64 y_1606.1.Other, i64 y_1606.1.First, .sl false (L (cSl cU8) y_1606.1.Queue), i64 y_1606.1.Next, .sl false (L cApi_Packet y_1606.1.Early), i64 y_1606.1.SentAt], .agg [i64 y_1608.1.Epoch, i64 y_1608.1.Other, i64 y_1608.1.First, .sl false (L (cSl cU8) y_1608.1.Queue), i64 y_1608.1.Next, .sl false (L cApi_Packet y_1608.1.Early), i64 y_1608.1.SentAt]], .bool y_1610), (42, 22, [.sl false (L (cSl cU8) y_1606.2.1), .sl false (L (cSl cU8) y_1608.2.1)], .bool y_1611)]) ⟨r12_Same_con  hy_1614, r12_SameMessages_con  hy_1616, trivial⟩, by simp only [go_sem, hb_1615, hb_1617], (weak_sel [] (by decide) rfl (by simp only [go_sem]) (by simp only [go_sem]))⟩
          · replace hv_1613 := ite_f hv_1613 hb_1617
            have e_hv_1613 := Option.some.inj hv_1613; subst e_hv_1613
            exact ⟨_, [(4, .bool false)], [.box [i64 p_1597.Epoch, i64 p_1597.Other, i64 p_1597.First, .sl false (L (cSl cU8) p_1597.Queue), i64 p_1597.Next, .sl false (L cApi_Packet p_1597.Early), i64 p_1597.SentAt] false, .box [i64 k_1598.Epoch, i64 k_1598.To, i64 k_1598.Seq, i64 k_1598.Ack, .sl false (L cU8 k_1598.Data)] false, .box [i64 y_1606.1.Epoch, i64 y_1606.1.Other, i64 y_1606.1.First, .sl false (L (cSl cU8) y_1606.1.Queue), i64 y_1606.1.Next, .sl false (L cApi_Packet y_1606.1.Early), i64 y_1606.1.SentAt] false, .box [i64 y_1608.1.Epoch, i64 y_1608.1.Other, i64 y_1608.1.First, .sl false (L (cSl cU8) y_1608.1.Queue), i64 y_1608.1.Next, .sl false (L cApi_Packet y_1608.1.Early), i64 y_1608.1.SentAt] false], orcs_ok (l := [(38, 18, [.agg [i64 y_1606.1.Epoch, i64 y_1606.1.Other, i64 y_1606.1.First, .sl false (L (cSl cU8) y_1606.1.Queue), i64 y_1606.1.Next, .sl false (L cApi_Packet y_1606.1.Early), i64 y_1606.1.SentAt], .agg [i64 y_1608.1.Epoch, i64 y_1608.1.Other, i64 y_1608.1.First, .sl false (L (cSl cU8) y_1608.1.Queue), i64 y_1608.1.Next, .sl false (L cApi_Packet y_1608.1.Early), i64 y_1608.1.SentAt]], .bool y_1610), (42, 22, [.sl false (L (cSl cU8) y_1606.2.1), .sl false (L (cSl cU8) y_1608.2.1)], .bool y_1611)]) ⟨r12_Same_con  hy_1614, r12_SameMessages_con  hy_1616, trivial⟩, by simp only [go_sem, hb_1615, hb_1617], (weak_sel [] (by decide) rfl (by simp only [go_sem]) (by simp only [go_sem]))⟩
        · replace hv_1613 := ite_f hv_1613 hb_1615
          have e_hv_1613 := Option.some.inj hv_1613; subst e_hv_1613
          exact ⟨_, [(4, .bool false)], [.box [i64 p_1597.Epoch, i64 p_1597.Other, i64 p_1597.First, .sl false (L (cSl cU8) p_1597.Queue), i64 p_1597.Next, .sl false (L cApi_Packet p_1597.Early), i64 p_1597.SentAt] false, .box [i64 k_1598.Epoch, i64 k_1598.To, i64 k_1598.Seq, i64 k_1598.Ack, .sl false (L cU8 k_1598.Data)] false, .box [i64 y_1606.1.Epoch, i64 y_1606.1.Other, i64 y_1606.1.First, .sl false (L (cSl cU8) y_1606.1.Queue), i64 y_1606.1.Next, .sl false (L cApi_Packet y_1606.1.Early), i64 y_1606.1.SentAt] false, .box [i64 y_1608.1.Epoch, i64 y_1608.1.Other, i64 y_1608.1.First, .sl false (L (cSl cU8) y_1608.1.Queue), i64 y_1608.1.Next, .sl false (L cApi_Packet y_1608.1.Early), i64 y_1608.1.SentAt] false], orcs_ok (l := [(38, 18, [.agg [i64 y_1606.1.Epoch, i64 y_1606.1.Other, i64 y_1606.1.First, .sl false (L (cSl cU8) y_1606.1.Queue), i64 y_1606.1.Next, .sl false (L cApi_Packet y_1606.1.Early), i64 y_1606.1.SentAt], .agg [i64 y_1608.1.Epoch, i64 y_1608.1.Other, i64 y_1608.1.First, .sl false (L (cSl cU8) y_1608.1.Queue), i64 y_1608.1.Next, .sl false (L cApi_Packet y_1608.1.Early), i64 y_1608.1.SentAt]], .bool y_1610)]) ⟨r12_Same_con  hy_1614, trivial⟩, by simp only [go_sem, hb_1615], (weak_sel [] (by decide) rfl (by simp only [go_sem]) (by simp only [go_sem]))⟩
      refine run_ret ?_
      obtain rfl := Option.some.inj h
      refine wkP_of (Weak.refl _ _) ?_
      refine ret_ok (.inr rfl) ?_
      simp only [go_sem]

end Go.Proofs.Ytomjphpnpcgacaa
