/-
  The library and the walks, part 3.
-/
import Derived.Test.YtomjphpnpcgacaaZW2
import Derived.KernelRfl
import Derived.Test.YtomjphpnpcgacaaR24
/-
  The functions compute just that.
-/
namespace Go.Proofs.Ytomjphpnpcgacaa
open Go.Rv
set_option linter.unusedVariables false
set_option linter.unusedSimpArgs false
set_option maxRecDepth 20000
set_option maxHeartbeats 4000000

theorem law12_pair_act_con {a : Pq} {c : Aq} {r : Pq × Nat × Nat × Nat × Nat × Nat × Nat} (h : law12_pair_act a c = some r) : Con B 24 [.ref 0 0, .agg [i64 c.Kind, i64 c.Side, i64 c.N, .sl false (L cU8 c.Data)]] [.box [i64 a.p.1.Epoch, i64 a.p.1.Other, i64 a.p.1.First, .sl false (L (cSl cU8) a.p.1.Queue), i64 a.p.1.Next, .sl false (L cK a.p.1.Early), i64 a.p.1.SentAt, i64 a.p.2.Epoch, i64 a.p.2.Other, i64 a.p.2.First, .sl false (L (cSl cU8) a.p.2.Queue), i64 a.p.2.Next, .sl false (L cK a.p.2.Early), i64 a.p.2.SentAt, .bs false 1 (a.way.1.length) 0 (a.way.1.length), .bs false 2 (a.way.2.length) 0 (a.way.2.length), .bs false 3 (a.oz.1.length) 0 (a.oz.1.length), .bs false 4 (a.oz.2.length) 0 (a.oz.2.length), .bs false 5 (a.dz.1.length) 0 (a.dz.1.length), .bs false 6 (a.dz.2.length) 0 (a.dz.2.length), i64 a.now, i64 a.resets] false, .buf 5 (L cK a.way.1) false, .buf 5 (L cK a.way.2) false, .buf 1 (L (cSl cU8) a.oz.1) false, .buf 1 (L (cSl cU8) a.oz.2) false, .buf 1 (L (cSl cU8) a.dz.1) false, .buf 1 (L (cSl cU8) a.dz.2) false] (fun r' σ' => r' = .tup [] ∧ σ' = [.box [i64 r.1.p.1.Epoch, i64 r.1.p.1.Other, i64 r.1.p.1.First, .sl false (L (cSl cU8) r.1.p.1.Queue), i64 r.1.p.1.Next, .sl false (L cK r.1.p.1.Early), i64 r.1.p.1.SentAt, i64 r.1.p.2.Epoch, i64 r.1.p.2.Other, i64 r.1.p.2.First, .sl false (L (cSl cU8) r.1.p.2.Queue), i64 r.1.p.2.Next, .sl false (L cK r.1.p.2.Early), i64 r.1.p.2.SentAt, .bs false 7 (r.1.way.1.length) 0 (r.1.way.1.length), .bs false 8 (r.1.way.2.length) 0 (r.1.way.2.length), .bs false 9 (r.1.oz.1.length) 0 (r.1.oz.1.length), .bs false 10 (r.1.oz.2.length) 0 (r.1.oz.2.length), .bs false 11 (r.1.dz.1.length) 0 (r.1.dz.1.length), .bs false 12 (r.1.dz.2.length) 0 (r.1.dz.2.length), i64 r.1.now, i64 r.1.resets] false, deadB r.2.1, deadB r.2.2.1, deadB r.2.2.2.1, deadB r.2.2.2.2.1, deadB r.2.2.2.2.2.1, deadB r.2.2.2.2.2.2, .buf 5 (L cK r.1.way.1) false, .buf 5 (L cK r.1.way.2) false, .buf 1 (L (cSl cU8) r.1.oz.1) false, .buf 1 (L (cSl cU8) r.1.oz.2) false, .buf 1 (L (cSl cU8) r.1.dz.1) false, .buf 1 (L (cSl cU8) r.1.dz.2) false]) := by
  refine con_walk_own (N := 164) (rs := []) 7 rfl ok Try.func24 rfl (by decide +kernel) rfl rfl (Nat.le_of_ble_eq_true rfl) (fun F => ?_)
  have hE := ok.env F
  unfold law12_pair_act at h
  show Run (B.env F) 7 _ ⟨asFr 164 [(0, .ref 0 0), (1, .agg [i64 c.Kind, i64 c.Side, i64 c.N, .sl false (L cU8 c.Data)])], [.box [i64 a.p.1.Epoch, i64 a.p.1.Other, i64 a.p.1.First, .sl false (L (cSl cU8) a.p.1.Queue), i64 a.p.1.Next, .sl false (L cK a.p.1.Early), i64 a.p.1.SentAt, i64 a.p.2.Epoch, i64 a.p.2.Other, i64 a.p.2.First, .sl false (L (cSl cU8) a.p.2.Queue), i64 a.p.2.Next, .sl false (L cK a.p.2.Early), i64 a.p.2.SentAt, .bs false 1 (a.way.1.length) 0 (a.way.1.length), .bs false 2 (a.way.2.length) 0 (a.way.2.length), .bs false 3 (a.oz.1.length) 0 (a.oz.1.length), .bs false 4 (a.oz.2.length) 0 (a.oz.2.length), .bs false 5 (a.dz.1.length) 0 (a.dz.1.length), .bs false 6 (a.dz.2.length) 0 (a.dz.2.length), i64 a.now, i64 a.resets] false, .buf 5 (L cK a.way.1) false, .buf 5 (L cK a.way.2) false, .buf 1 (L (cSl cU8) a.oz.1) false, .buf 1 (L (cSl cU8) a.oz.2) false, .buf 1 (L (cSl cU8) a.dz.1) false, .buf 1 (L (cSl cU8) a.dz.2) false]⟩ _
  refine run_wkP ?_
  refine run_textE hE [0, 3] (fr' := [(0, .ref 0 0), (3, .ref 7 0)]) (σ' := [.box [i64 a.p.1.Epoch, i64 a.p.1.Other, i64 a.p.1.First, .sl false (L (cSl cU8) a.p.1.Queue), i64 a.p.1.Next, .sl false (L cK a.p.1.Early), i64 a.p.1.SentAt, i64 a.p.2.Epoch, i64 a.p.2.Other, i64 a.p.2.First, .sl false (L (cSl cU8) a.p.2.Queue), i64 a.p.2.Next, .sl false (L cK a.p.2.Early), i64 a.p.2.SentAt, .bs false 1 (a.way.1.length) 0 (a.way.1.length), .bs false 2 (a.way.2.length) 0 (a.way.2.length), .bs false 3 (a.oz.1.length) 0 (a.oz.1.length), .bs false 4 (a.oz.2.length) 0 (a.oz.2.length), .bs false 5 (a.dz.1.length) 0 (a.dz.1.length), .bs false 6 (a.dz.2.length) 0 (a.dz.2.length), i64 a.now, i64 a.resets] false, .buf 5 (L cK a.way.1) false, .buf 5 (L cK a.way.2) false, .buf 1 (L (cSl cU8) a.oz.1) false, .buf 1 (L (cSl cU8) a.oz.2) false, .buf 1 (L (cSl cU8) a.dz.1) false, .buf 1 (L (cSl cU8) a.dz.2) false, .box [i64 c.Kind, i64 c.Side, i64 c.N, .sl false (L cU8 c.Data)] false]) ⟨_, orcs_nil, ?_⟩ ?_
  · simp only [go_sem, castL, Int.reduceLT, Int.reduceAdd, Int.reduceSub, Nat.reduceMul, Nat.reduceGT, Nat.reduceLeDiff, decide_true, decide_false, Bool.false_eq_true]
  replace h := lt1_some h; obtain ⟨x, a2, h⟩ := h
  refine run_textE hE [0, 3, 4] (fr' := [(0, .ref 0 0), (3, .ref 7 0), (4, i64 x)]) (σ' := [.box [i64 a.p.1.Epoch, i64 a.p.1.Other, i64 a.p.1.First, .sl false (L (cSl cU8) a.p.1.Queue), i64 a.p.1.Next, .sl false (L cK a.p.1.Early), i64 a.p.1.SentAt, i64 a.p.2.Epoch, i64 a.p.2.Other, i64 a.p.2.First, .sl false (L (cSl cU8) a.p.2.Queue), i64 a.p.2.Next, .sl false (L cK a.p.2.Early), i64 a.p.2.SentAt, .bs false 1 (a.way.1.length) 0 (a.way.1.length), .bs false 2 (a.way.2.length) 0 (a.way.2.length), .bs false 3 (a.oz.1.length) 0 (a.oz.1.length), .bs false 4 (a.oz.2.length) 0 (a.oz.2.length), .bs false 5 (a.dz.1.length) 0 (a.dz.1.length), .bs false 6 (a.dz.2.length) 0 (a.dz.2.length), i64 a.now, i64 a.resets] false, .buf 5 (L cK a.way.1) false, .buf 5 (L cK a.way.2) false, .buf 1 (L (cSl cU8) a.oz.1) false, .buf 1 (L (cSl cU8) a.oz.2) false, .buf 1 (L (cSl cU8) a.dz.1) false, .buf 1 (L (cSl cU8) a.dz.2) false, .box [i64 c.Kind, i64 c.Side, i64 c.N, .sl false (L cU8 c.Data)] false]) ⟨_, orcs_nil, ?_⟩ ?_
  · subst a2; simp only [go_sem, castL, Int.reduceLT, Int.reduceAdd, Int.reduceSub, Nat.reduceMul, Nat.reduceGT, Nat.reduceLeDiff, decide_true, decide_false, Bool.false_eq_true]
  have hs_ : x = 0 ∨ x = 1 := by subst_vars; exact and64_one _
  rcases hs_ with hs_ | hs_
  · subst hs_
    replace h := ite_t h (by decide)
    have ag : InR 0 2 := by decide
    replace h := lt1_some h; obtain ⟨o, a3, h⟩ := h
    refine run_textE hE [0, 3, 4, 5] (fr' := [(0, .ref 0 0), (3, .ref 7 0), (4, i64 0), (5, i64 o)]) (σ' := [.box [i64 a.p.1.Epoch, i64 a.p.1.Other, i64 a.p.1.First, .sl false (L (cSl cU8) a.p.1.Queue), i64 a.p.1.Next, .sl false (L cK a.p.1.Early), i64 a.p.1.SentAt, i64 a.p.2.Epoch, i64 a.p.2.Other, i64 a.p.2.First, .sl false (L (cSl cU8) a.p.2.Queue), i64 a.p.2.Next, .sl false (L cK a.p.2.Early), i64 a.p.2.SentAt, .bs false 1 (a.way.1.length) 0 (a.way.1.length), .bs false 2 (a.way.2.length) 0 (a.way.2.length), .bs false 3 (a.oz.1.length) 0 (a.oz.1.length), .bs false 4 (a.oz.2.length) 0 (a.oz.2.length), .bs false 5 (a.dz.1.length) 0 (a.dz.1.length), .bs false 6 (a.dz.2.length) 0 (a.dz.2.length), i64 a.now, i64 a.resets] false, .buf 5 (L cK a.way.1) false, .buf 5 (L cK a.way.2) false, .buf 1 (L (cSl cU8) a.oz.1) false, .buf 1 (L (cSl cU8) a.oz.2) false, .buf 1 (L (cSl cU8) a.dz.1) false, .buf 1 (L (cSl cU8) a.dz.2) false, .box [i64 c.Kind, i64 c.Side, i64 c.N, .sl false (L cU8 c.Data)] false]) ⟨_, orcs_nil, ?_⟩ ?_
    · subst a3; simp only [go_sem, Int.reduceToNat, castL, Int.reduceLT, Int.reduceAdd, Int.reduceSub, Nat.reduceMul, Nat.reduceGT, Nat.reduceLeDiff, decide_true, decide_false, Bool.false_eq_true, ag, ag.2]
    refine run_textE hE [0, 3, 4, 5, 23] (fr' := [(0, .ref 0 0), (3, .ref 7 0), (4, i64 0), (5, i64 o), (23, i64 ((and64 c.Kind 7)))]) (σ' := [.box [i64 a.p.1.Epoch, i64 a.p.1.Other, i64 a.p.1.First, .sl false (L (cSl cU8) a.p.1.Queue), i64 a.p.1.Next, .sl false (L cK a.p.1.Early), i64 a.p.1.SentAt, i64 a.p.2.Epoch, i64 a.p.2.Other, i64 a.p.2.First, .sl false (L (cSl cU8) a.p.2.Queue), i64 a.p.2.Next, .sl false (L cK a.p.2.Early), i64 a.p.2.SentAt, .bs false 1 (a.way.1.length) 0 (a.way.1.length), .bs false 2 (a.way.2.length) 0 (a.way.2.length), .bs false 3 (a.oz.1.length) 0 (a.oz.1.length), .bs false 4 (a.oz.2.length) 0 (a.oz.2.length), .bs false 5 (a.dz.1.length) 0 (a.dz.1.length), .bs false 6 (a.dz.2.length) 0 (a.dz.2.length), i64 a.now, i64 a.resets] false, .buf 5 (L cK a.way.1) false, .buf 5 (L cK a.way.2) false, .buf 1 (L (cSl cU8) a.oz.1) false, .buf 1 (L (cSl cU8) a.oz.2) false, .buf 1 (L (cSl cU8) a.dz.1) false, .buf 1 (L (cSl cU8) a.dz.2) false, .box [i64 c.Kind, i64 c.Side, i64 c.N, .sl false (L cU8 c.Data)] false]) ⟨_, orcs_nil, ?_⟩ ?_
    · simp only [go_sem, castL, Int.reduceLT, Int.reduceAdd, Int.reduceSub, Nat.reduceMul, Nat.reduceGT, Nat.reduceLeDiff, decide_true, decide_false, Bool.false_eq_true]
    refine run_block ?_
    replace h := bind_some1 h; obtain ⟨bu, ah, ai⟩ := h
    refine run_join (fun (v : Bool) => (⟨asFr 164 [(0, .ref 0 0), (3, .ref 7 0), (4, i64 0), (5, i64 o), (23, i64 ((and64 c.Kind 7))), (24, .bool v)], [.box [i64 a.p.1.Epoch, i64 a.p.1.Other, i64 a.p.1.First, .sl false (L (cSl cU8) a.p.1.Queue), i64 a.p.1.Next, .sl false (L cK a.p.1.Early), i64 a.p.1.SentAt, i64 a.p.2.Epoch, i64 a.p.2.Other, i64 a.p.2.First, .sl false (L (cSl cU8) a.p.2.Queue), i64 a.p.2.Next, .sl false (L cK a.p.2.Early), i64 a.p.2.SentAt, .bs false 1 (a.way.1.length) 0 (a.way.1.length), .bs false 2 (a.way.2.length) 0 (a.way.2.length), .bs false 3 (a.oz.1.length) 0 (a.oz.1.length), .bs false 4 (a.oz.2.length) 0 (a.oz.2.length), .bs false 5 (a.dz.1.length) 0 (a.dz.1.length), .bs false 6 (a.dz.2.length) 0 (a.dz.2.length), i64 a.now, i64 a.resets] false, .buf 5 (L cK a.way.1) false, .buf 5 (L cK a.way.2) false, .buf 1 (L (cSl cU8) a.oz.1) false, .buf 1 (L (cSl cU8) a.oz.2) false, .buf 1 (L (cSl cU8) a.dz.1) false, .buf 1 (L (cSl cU8) a.dz.2) false, .box [i64 c.Kind, i64 c.Side, i64 c.N, .sl false (L cU8 c.Data)] false]⟩ : St)) (fun v => v = bu) ?_ ?_
    · have h := ah; clear ah
      refine run_textE hE [0, 3, 4, 5, 23, 24] (fr' := [(0, .ref 0 0), (3, .ref 7 0), (4, i64 0), (5, i64 o), (23, i64 ((and64 c.Kind 7))), (24, .bool (((and64 c.Kind 7) == 0)))]) (σ' := [.box [i64 a.p.1.Epoch, i64 a.p.1.Other, i64 a.p.1.First, .sl false (L (cSl cU8) a.p.1.Queue), i64 a.p.1.Next, .sl false (L cK a.p.1.Early), i64 a.p.1.SentAt, i64 a.p.2.Epoch, i64 a.p.2.Other, i64 a.p.2.First, .sl false (L (cSl cU8) a.p.2.Queue), i64 a.p.2.Next, .sl false (L cK a.p.2.Early), i64 a.p.2.SentAt, .bs false 1 (a.way.1.length) 0 (a.way.1.length), .bs false 2 (a.way.2.length) 0 (a.way.2.length), .bs false 3 (a.oz.1.length) 0 (a.oz.1.length), .bs false 4 (a.oz.2.length) 0 (a.oz.2.length), .bs false 5 (a.dz.1.length) 0 (a.dz.1.length), .bs false 6 (a.dz.2.length) 0 (a.dz.2.length), i64 a.now, i64 a.resets] false, .buf 5 (L cK a.way.1) false, .buf 5 (L cK a.way.2) false, .buf 1 (L (cSl cU8) a.oz.1) false, .buf 1 (L (cSl cU8) a.oz.2) false, .buf 1 (L (cSl cU8) a.dz.1) false, .buf 1 (L (cSl cU8) a.dz.2) false, .box [i64 c.Kind, i64 c.Side, i64 c.N, .sl false (L cU8 c.Data)] false]) ⟨_, orcs_nil, ?_⟩ ?_
      · simp only [go_sem, castL, Int.reduceLT, Int.reduceAdd, Int.reduceSub, Nat.reduceMul, Nat.reduceGT, Nat.reduceLeDiff, decide_true, decide_false, Bool.false_eq_true]
      refine run_condL (b := ((and64 c.Kind 7) == 0)) rfl (by decide) (fun hb => ?_) (fun hb => ?_)
      · replace h := ite_t h hb
        refine run_skip ?_
        obtain rfl := Option.some.inj h
        exact joinK_n (((and64 c.Kind 7) == 0)) rfl (weak_sel [0, 1, 2, 3, 4, 5, 6, 7] (by decide) rfl (by simp only [go_sem]) (by simp only [go_sem]))
      · replace h := ite_f h hb
        refine run_textE0 hE wk_join [0, 3, 4, 5, 23, 24] (fr' := [(0, .ref 0 0), (3, .ref 7 0), (4, i64 0), (5, i64 o), (23, i64 ((and64 c.Kind 7))), (24, .bool (((and64 c.Kind 7) == 5)))]) (σ' := [.box [i64 a.p.1.Epoch, i64 a.p.1.Other, i64 a.p.1.First, .sl false (L (cSl cU8) a.p.1.Queue), i64 a.p.1.Next, .sl false (L cK a.p.1.Early), i64 a.p.1.SentAt, i64 a.p.2.Epoch, i64 a.p.2.Other, i64 a.p.2.First, .sl false (L (cSl cU8) a.p.2.Queue), i64 a.p.2.Next, .sl false (L cK a.p.2.Early), i64 a.p.2.SentAt, .bs false 1 (a.way.1.length) 0 (a.way.1.length), .bs false 2 (a.way.2.length) 0 (a.way.2.length), .bs false 3 (a.oz.1.length) 0 (a.oz.1.length), .bs false 4 (a.oz.2.length) 0 (a.oz.2.length), .bs false 5 (a.dz.1.length) 0 (a.dz.1.length), .bs false 6 (a.dz.2.length) 0 (a.dz.2.length), i64 a.now, i64 a.resets] false, .buf 5 (L cK a.way.1) false, .buf 5 (L cK a.way.2) false, .buf 1 (L (cSl cU8) a.oz.1) false, .buf 1 (L (cSl cU8) a.oz.2) false, .buf 1 (L (cSl cU8) a.dz.1) false, .buf 1 (L (cSl cU8) a.dz.2) false, .box [i64 c.Kind, i64 c.Side, i64 c.N, .sl false (L cU8 c.Data)] false]) ⟨_, orcs_nil, ?_⟩ ?_
        · simp only [go_sem, castL, Int.reduceLT, Int.reduceAdd, Int.reduceSub, Nat.reduceMul, Nat.reduceGT, Nat.reduceLeDiff, decide_true, decide_false, Bool.false_eq_true]
        obtain rfl := Option.some.inj h
        exact joinK_n (((and64 c.Kind 7) == 5)) rfl (weak_sel [0, 1, 2, 3, 4, 5, 6, 7] (by decide) rfl (by simp only [go_sem]) (by simp only [go_sem]))
    rintro bv rfl
    have h := ai; clear ai
    refine run_condL (b := bv) rfl (by decide) (fun hb => ?_) (fun hb => ?_)
    · replace h := ite_t h hb
      have aj : InR 0 2 := by decide
      replace h := bind_some1 h; obtain ⟨k, a4, h⟩ := h
      refine run_drawE hE mixed [[], [], [0], [0, 2], [0, 1, 2, 3], [0, 1, 2, 3, 4], [], [6], [0, 1, 2, 3, 4, 5, 6, 7], [0, 1, 2, 3, 4, 5, 6, 7, 8], [0, 1, 2, 3, 4, 5, 6, 7, 8, 9], [0, 1, 2, 3, 4, 5, 6, 7, 8, 9], [], [0, 1, 2, 3, 4, 5, 6, 7, 8, 9, 10, 12], [0, 1, 2, 3, 4, 5, 6, 7, 8, 9, 10, 11, 12, 13]] (by kernel_rfl) (by kernel_rfl) [0, 3, 4, 6, 7] (fr' := [(0, .ref 0 0), (3, .ref 7 0), (4, i64 0), (6, .ref 8 0), (7, i64 k.2)]) (σ' := [.box [i64 a.p.1.Epoch, i64 a.p.1.Other, i64 a.p.1.First, .sl false (L (cSl cU8) a.p.1.Queue), i64 a.p.1.Next, .sl false (L cK a.p.1.Early), i64 a.p.1.SentAt, i64 a.p.2.Epoch, i64 a.p.2.Other, i64 a.p.2.First, .sl false (L (cSl cU8) a.p.2.Queue), i64 a.p.2.Next, .sl false (L cK a.p.2.Early), i64 a.p.2.SentAt, .bs false 1 (a.way.1.length) 0 (a.way.1.length), .bs false 2 (a.way.2.length) 0 (a.way.2.length), .bs false 3 (a.oz.1.length) 0 (a.oz.1.length), .bs false 4 (a.oz.2.length) 0 (a.oz.2.length), .bs false 5 (a.dz.1.length) 0 (a.dz.1.length), .bs false 6 (a.dz.2.length) 0 (a.dz.2.length), i64 a.now, i64 a.resets] false, .buf 5 (L cK a.way.1) false, .buf 5 (L cK a.way.2) false, .buf 1 (L (cSl cU8) a.oz.1) false, .buf 1 (L (cSl cU8) a.oz.2) false, .buf 1 (L (cSl cU8) a.dz.1) false, .buf 1 (L (cSl cU8) a.dz.2) false, .box [i64 c.Kind, i64 c.Side, i64 c.N, .sl false (L cU8 c.Data)] false, .box [i64 k.1.Epoch, i64 k.1.Other, i64 k.1.First, .sl false (L (cSl cU8) k.1.Queue), i64 k.1.Next, .sl false (L cK k.1.Early), i64 k.1.SentAt] false]) ⟨_, orcs_ok (l := [(36, 14, [.agg [i64 a.p.1.Epoch, i64 a.p.1.Other, i64 a.p.1.First, .sl false (L (cSl cU8) a.p.1.Queue), i64 a.p.1.Next, .sl false (L cK a.p.1.Early), i64 a.p.1.SentAt], .sl false (L cU8 c.Data)], .tup [.agg [i64 k.1.Epoch, i64 k.1.Other, i64 k.1.First, .sl false (L (cSl cU8) k.1.Queue), i64 k.1.Next, .sl false (L cK k.1.Early), i64 k.1.SentAt], i64 k.2])]) ⟨window_Offer_con  a4, trivial⟩, ?_⟩ ?_
      · simp only [go_sem, Int.reduceToNat, Nat.reduceLeDiff, castL, Int.reduceLT, Int.reduceAdd, Int.reduceSub, Nat.reduceMul, Nat.reduceGT, Nat.reduceLeDiff, decide_true, decide_false, Bool.false_eq_true, aj, aj.2]
      refine run_textE hE [0, 3, 4, 6, 40] (fr' := [(0, .ref 0 0), (3, .ref 7 0), (4, i64 0), (6, .ref 8 0), (40, .bool ((k.2 == 0)))]) (σ' := [.box [i64 a.p.1.Epoch, i64 a.p.1.Other, i64 a.p.1.First, .sl false (L (cSl cU8) a.p.1.Queue), i64 a.p.1.Next, .sl false (L cK a.p.1.Early), i64 a.p.1.SentAt, i64 a.p.2.Epoch, i64 a.p.2.Other, i64 a.p.2.First, .sl false (L (cSl cU8) a.p.2.Queue), i64 a.p.2.Next, .sl false (L cK a.p.2.Early), i64 a.p.2.SentAt, .bs false 1 (a.way.1.length) 0 (a.way.1.length), .bs false 2 (a.way.2.length) 0 (a.way.2.length), .bs false 3 (a.oz.1.length) 0 (a.oz.1.length), .bs false 4 (a.oz.2.length) 0 (a.oz.2.length), .bs false 5 (a.dz.1.length) 0 (a.dz.1.length), .bs false 6 (a.dz.2.length) 0 (a.dz.2.length), i64 a.now, i64 a.resets] false, .buf 5 (L cK a.way.1) false, .buf 5 (L cK a.way.2) false, .buf 1 (L (cSl cU8) a.oz.1) false, .buf 1 (L (cSl cU8) a.oz.2) false, .buf 1 (L (cSl cU8) a.dz.1) false, .buf 1 (L (cSl cU8) a.dz.2) false, .box [i64 c.Kind, i64 c.Side, i64 c.N, .sl false (L cU8 c.Data)] false, .box [i64 k.1.Epoch, i64 k.1.Other, i64 k.1.First, .sl false (L (cSl cU8) k.1.Queue), i64 k.1.Next, .sl false (L cK k.1.Early), i64 k.1.SentAt] false]) ⟨_, orcs_nil, ?_⟩ ?_
      · simp only [go_sem, castL, Int.reduceLT, Int.reduceAdd, Int.reduceSub, Nat.reduceMul, Nat.reduceGT, Nat.reduceLeDiff, decide_true, decide_false, Bool.false_eq_true]
      refine run_condL (b := (k.2 == 0)) rfl (by decide) (fun hb => ?_) (fun hb => ?_)
      · replace h := ite_t h hb
        have ak : InR 0 2 := by decide
        refine run_drawE hE mixed [[], [], [], [0], [0, 3], [0, 1, 2, 3, 4], [0, 1, 2, 3, 4, 5]] (by kernel_rfl) (by kernel_rfl) [0, 3, 4] (fr' := [(0, .ref 0 0), (3, .ref 7 0), (4, i64 0)]) (σ' := [.box [i64 k.1.Epoch, i64 k.1.Other, i64 k.1.First, .sl false (L (cSl cU8) k.1.Queue), i64 k.1.Next, .sl false (L cK k.1.Early), i64 k.1.SentAt, i64 a.p.2.Epoch, i64 a.p.2.Other, i64 a.p.2.First, .sl false (L (cSl cU8) a.p.2.Queue), i64 a.p.2.Next, .sl false (L cK a.p.2.Early), i64 a.p.2.SentAt, .bs false 1 (a.way.1.length) 0 (a.way.1.length), .bs false 2 (a.way.2.length) 0 (a.way.2.length), .bs false 3 (a.oz.1.length) 0 (a.oz.1.length), .bs false 4 (a.oz.2.length) 0 (a.oz.2.length), .bs false 5 (a.dz.1.length) 0 (a.dz.1.length), .bs false 6 (a.dz.2.length) 0 (a.dz.2.length), i64 a.now, i64 a.resets] false, .buf 5 (L cK a.way.1) false, .buf 5 (L cK a.way.2) false, .buf 1 (L (cSl cU8) a.oz.1) false, .buf 1 (L (cSl cU8) a.oz.2) false, .buf 1 (L (cSl cU8) a.dz.1) false, .buf 1 (L (cSl cU8) a.dz.2) false, .box [i64 c.Kind, i64 c.Side, i64 c.N, .sl false (L cU8 c.Data)] false, .box [i64 k.1.Epoch, i64 k.1.Other, i64 k.1.First, .sl false (L (cSl cU8) k.1.Queue), i64 k.1.Next, .sl false (L cK k.1.Early), i64 k.1.SentAt] false]) ⟨_, orcs_nil, ?_⟩ ?_
        · simp only [go_sem, Int.reduceToNat, Nat.reduceLeDiff, castL, Int.reduceLT, Int.reduceAdd, Int.reduceSub, Nat.reduceMul, Nat.reduceGT, Nat.reduceLeDiff, decide_true, decide_false, Bool.false_eq_true, ak, ak.2]
        have al : InR 0 2 := by decide
        replace h := chk_some h; obtain ⟨a5, h⟩ := h
        have am : InR 0 2 := by decide
        replace h := lt1_some h; obtain ⟨y, a6, h⟩ := h
        refine run_drawS0 hE mixed [[], [], [], [], [2], [2, 4], [2, 3, 4, 5], [2, 3, 4, 5, 6], [], [8], [8, 9], [2, 3, 4, 5, 6, 7, 8, 9, 10], [0], [0, 12], [0, 1, 2, 3, 4, 5, 6, 7, 8, 9, 10, 11, 12, 13], [0, 1, 2, 3, 4, 5, 6, 7, 8, 9, 10, 11, 12, 13, 14]] (by kernel_rfl) [(59, 0)] [] [59] (by kernel_rfl) (wk_block wk_wkP) (fr' := [(59, .ref 0 0)]) (σ' := [.box [i64 k.1.Epoch, i64 k.1.Other, i64 k.1.First, .sl false (L (cSl cU8) k.1.Queue), i64 k.1.Next, .sl false (L cK k.1.Early), i64 k.1.SentAt, i64 a.p.2.Epoch, i64 a.p.2.Other, i64 a.p.2.First, .sl false (L (cSl cU8) a.p.2.Queue), i64 a.p.2.Next, .sl false (L cK a.p.2.Early), i64 a.p.2.SentAt, .bs false 1 (a.way.1.length) 0 (a.way.1.length), .bs false 2 (a.way.2.length) 0 (a.way.2.length), .bs false 3 (y.length) 0 (y.length), .bs false 4 (a.oz.2.length) 0 (a.oz.2.length), .bs false 5 (a.dz.1.length) 0 (a.dz.1.length), .bs false 6 (a.dz.2.length) 0 (a.dz.2.length), i64 a.now, i64 a.resets] false, .buf 5 (L cK a.way.1) false, .buf 5 (L cK a.way.2) false, .buf 1 (L (cSl cU8) y) false, .buf 1 (L (cSl cU8) a.oz.2) false, .buf 1 (L (cSl cU8) a.dz.1) false, .buf 1 (L (cSl cU8) a.dz.2) false, .box [i64 c.Kind, i64 c.Side, i64 c.N, .sl false (L cU8 c.Data)] false, .box [i64 k.1.Epoch, i64 k.1.Other, i64 k.1.First, .sl false (L (cSl cU8) k.1.Queue), i64 k.1.Next, .sl false (L cK k.1.Early), i64 k.1.SentAt] false, .buf 1 (L (cSl cU8) (([c.Data] : List (List UInt8)))) false]) ⟨rfl, trivial⟩ ⟨_, _, orcs_nil, (by simp only [XOk]), ?_⟩ ?_
        · subst a6; simp only [go_sem, Nat.reduceBEq, Nat.reduceMul, Nat.reduceSub, Nat.reduceGT, Nat.reducePow, Nat.reduceLeDiff, Int.reduceToNat, castL, Int.reduceLT, Int.reduceAdd, Int.reduceSub, Nat.reduceMul, Nat.reduceGT, Nat.reduceLeDiff, decide_true, decide_false, Bool.false_eq_true, al, al.2, a5, am, am.2]
        refine blockK_n ?_
        obtain rfl := Option.some.inj h
        refine wkP_of ((weak_move_box 0 14 1 0 rfl rfl rfl (by simp only [go_sem]) (by first | exact Nat.zero_add _ | (subst_vars; exact tail_len (by assumption)))).trans ((weak_move_box 0 15 2 0 rfl rfl rfl (by simp only [go_sem]) (by first | exact Nat.zero_add _ | (subst_vars; exact tail_len (by assumption)))).trans ((weak_move_box 0 16 3 0 rfl rfl rfl (by simp only [go_sem]) (by first | exact Nat.zero_add _ | (subst_vars; exact tail_len (by assumption)))).trans ((weak_move_box 0 17 4 0 rfl rfl rfl (by simp only [go_sem]) (by first | exact Nat.zero_add _ | (subst_vars; exact tail_len (by assumption)))).trans ((weak_move_box 0 18 5 0 rfl rfl rfl (by simp only [go_sem]) (by first | exact Nat.zero_add _ | (subst_vars; exact tail_len (by assumption)))).trans ((weak_move_box 0 19 6 0 rfl rfl rfl (by simp only [go_sem]) (by first | exact Nat.zero_add _ | (subst_vars; exact tail_len (by assumption)))).trans (Weak.refl _ _))))))) ?_
        refine ret_own (.inl rfl) [0, 1, 2, 3, 4, 5, 6, 10, 11, 12, 13, 14, 15] (by decide) rfl ?_ ?_
        · simp only [go_sem]
        · simp only [go_sem]
      · replace h := ite_f h hb
        refine run_skip ?_
        refine blockK_n ?_
        obtain rfl := Option.some.inj h
        refine wkP_of ((weak_move_box 0 14 1 0 rfl rfl rfl (by simp only [go_sem]) (by first | exact Nat.zero_add _ | (subst_vars; exact tail_len (by assumption)))).trans ((weak_move_box 0 15 2 0 rfl rfl rfl (by simp only [go_sem]) (by first | exact Nat.zero_add _ | (subst_vars; exact tail_len (by assumption)))).trans ((weak_move_box 0 16 3 0 rfl rfl rfl (by simp only [go_sem]) (by first | exact Nat.zero_add _ | (subst_vars; exact tail_len (by assumption)))).trans ((weak_move_box 0 17 4 0 rfl rfl rfl (by simp only [go_sem]) (by first | exact Nat.zero_add _ | (subst_vars; exact tail_len (by assumption)))).trans ((weak_move_box 0 18 5 0 rfl rfl rfl (by simp only [go_sem]) (by first | exact Nat.zero_add _ | (subst_vars; exact tail_len (by assumption)))).trans ((weak_move_box 0 19 6 0 rfl rfl rfl (by simp only [go_sem]) (by first | exact Nat.zero_add _ | (subst_vars; exact tail_len (by assumption)))).trans (Weak.refl _ _))))))) ?_
        refine ret_own (.inl rfl) [0, 1, 2, 3, 4, 5, 6, 9, 10, 11, 12, 13, 14] (by decide) rfl ?_ ?_
        · simp only [go_sem]
        · simp only [go_sem]
    · replace h := ite_f h hb
      replace h := bind_some1 h; obtain ⟨bw, an, ao⟩ := h
      refine run_join (fun (v : Bool) => (⟨asFr 164 [(0, .ref 0 0), (3, .ref 7 0), (4, i64 0), (5, i64 o), (23, i64 ((and64 c.Kind 7))), (62, .bool v)], [.box [i64 a.p.1.Epoch, i64 a.p.1.Other, i64 a.p.1.First, .sl false (L (cSl cU8) a.p.1.Queue), i64 a.p.1.Next, .sl false (L cK a.p.1.Early), i64 a.p.1.SentAt, i64 a.p.2.Epoch, i64 a.p.2.Other, i64 a.p.2.First, .sl false (L (cSl cU8) a.p.2.Queue), i64 a.p.2.Next, .sl false (L cK a.p.2.Early), i64 a.p.2.SentAt, .bs false 1 (a.way.1.length) 0 (a.way.1.length), .bs false 2 (a.way.2.length) 0 (a.way.2.length), .bs false 3 (a.oz.1.length) 0 (a.oz.1.length), .bs false 4 (a.oz.2.length) 0 (a.oz.2.length), .bs false 5 (a.dz.1.length) 0 (a.dz.1.length), .bs false 6 (a.dz.2.length) 0 (a.dz.2.length), i64 a.now, i64 a.resets] false, .buf 5 (L cK a.way.1) false, .buf 5 (L cK a.way.2) false, .buf 1 (L (cSl cU8) a.oz.1) false, .buf 1 (L (cSl cU8) a.oz.2) false, .buf 1 (L (cSl cU8) a.dz.1) false, .buf 1 (L (cSl cU8) a.dz.2) false, .box [i64 c.Kind, i64 c.Side, i64 c.N, .sl false (L cU8 c.Data)] false]⟩ : St)) (fun v => v = bw) ?_ ?_
      · have h := an; clear an
        refine run_textE hE [0, 3, 4, 5, 23, 62] (fr' := [(0, .ref 0 0), (3, .ref 7 0), (4, i64 0), (5, i64 o), (23, i64 ((and64 c.Kind 7))), (62, .bool (((and64 c.Kind 7) == 1)))]) (σ' := [.box [i64 a.p.1.Epoch, i64 a.p.1.Other, i64 a.p.1.First, .sl false (L (cSl cU8) a.p.1.Queue), i64 a.p.1.Next, .sl false (L cK a.p.1.Early), i64 a.p.1.SentAt, i64 a.p.2.Epoch, i64 a.p.2.Other, i64 a.p.2.First, .sl false (L (cSl cU8) a.p.2.Queue), i64 a.p.2.Next, .sl false (L cK a.p.2.Early), i64 a.p.2.SentAt, .bs false 1 (a.way.1.length) 0 (a.way.1.length), .bs false 2 (a.way.2.length) 0 (a.way.2.length), .bs false 3 (a.oz.1.length) 0 (a.oz.1.length), .bs false 4 (a.oz.2.length) 0 (a.oz.2.length), .bs false 5 (a.dz.1.length) 0 (a.dz.1.length), .bs false 6 (a.dz.2.length) 0 (a.dz.2.length), i64 a.now, i64 a.resets] false, .buf 5 (L cK a.way.1) false, .buf 5 (L cK a.way.2) false, .buf 1 (L (cSl cU8) a.oz.1) false, .buf 1 (L (cSl cU8) a.oz.2) false, .buf 1 (L (cSl cU8) a.dz.1) false, .buf 1 (L (cSl cU8) a.dz.2) false, .box [i64 c.Kind, i64 c.Side, i64 c.N, .sl false (L cU8 c.Data)] false]) ⟨_, orcs_nil, ?_⟩ ?_
        · simp only [go_sem, castL, Int.reduceLT, Int.reduceAdd, Int.reduceSub, Nat.reduceMul, Nat.reduceGT, Nat.reduceLeDiff, decide_true, decide_false, Bool.false_eq_true]
        refine run_condL (b := ((and64 c.Kind 7) == 1)) rfl (by decide) (fun hb => ?_) (fun hb => ?_)
        · replace h := ite_t h hb
          refine run_skip ?_
          obtain rfl := Option.some.inj h
          exact joinK_n (((and64 c.Kind 7) == 1)) rfl (weak_sel [0, 1, 2, 3, 4, 5, 6, 7] (by decide) rfl (by simp only [go_sem]) (by simp only [go_sem]))
        · replace h := ite_f h hb
          refine run_textE0 hE wk_join [0, 3, 4, 5, 23, 62] (fr' := [(0, .ref 0 0), (3, .ref 7 0), (4, i64 0), (5, i64 o), (23, i64 ((and64 c.Kind 7))), (62, .bool (((and64 c.Kind 7) == 6)))]) (σ' := [.box [i64 a.p.1.Epoch, i64 a.p.1.Other, i64 a.p.1.First, .sl false (L (cSl cU8) a.p.1.Queue), i64 a.p.1.Next, .sl false (L cK a.p.1.Early), i64 a.p.1.SentAt, i64 a.p.2.Epoch, i64 a.p.2.Other, i64 a.p.2.First, .sl false (L (cSl cU8) a.p.2.Queue), i64 a.p.2.Next, .sl false (L cK a.p.2.Early), i64 a.p.2.SentAt, .bs false 1 (a.way.1.length) 0 (a.way.1.length), .bs false 2 (a.way.2.length) 0 (a.way.2.length), .bs false 3 (a.oz.1.length) 0 (a.oz.1.length), .bs false 4 (a.oz.2.length) 0 (a.oz.2.length), .bs false 5 (a.dz.1.length) 0 (a.dz.1.length), .bs false 6 (a.dz.2.length) 0 (a.dz.2.length), i64 a.now, i64 a.resets] false, .buf 5 (L cK a.way.1) false, .buf 5 (L cK a.way.2) false, .buf 1 (L (cSl cU8) a.oz.1) false, .buf 1 (L (cSl cU8) a.oz.2) false, .buf 1 (L (cSl cU8) a.dz.1) false, .buf 1 (L (cSl cU8) a.dz.2) false, .box [i64 c.Kind, i64 c.Side, i64 c.N, .sl false (L cU8 c.Data)] false]) ⟨_, orcs_nil, ?_⟩ ?_
          · simp only [go_sem, castL, Int.reduceLT, Int.reduceAdd, Int.reduceSub, Nat.reduceMul, Nat.reduceGT, Nat.reduceLeDiff, decide_true, decide_false, Bool.false_eq_true]
          obtain rfl := Option.some.inj h
          exact joinK_n (((and64 c.Kind 7) == 6)) rfl (weak_sel [0, 1, 2, 3, 4, 5, 6, 7] (by decide) rfl (by simp only [go_sem]) (by simp only [go_sem]))
      rintro bx rfl
      have h := ao; clear ao
      refine run_condL (b := bx) rfl (by decide) (fun hb => ?_) (fun hb => ?_)
      · replace h := ite_t h hb
        replace h := lt1_some h; obtain ⟨aY, a7, h⟩ := h
        refine run_drawE hE mixed [[], [], [1], [1, 2], [1, 2, 3], [], [5], [5, 6], [1, 2, 3, 4, 5, 6, 7], [0, 1, 2, 3, 4, 5, 6, 7, 8], [0, 1, 2, 3, 4, 5, 6, 7, 8, 9], [0, 1, 2, 3, 4, 5, 6, 7, 8, 9, 10]] (by kernel_rfl) (by kernel_rfl) [0, 4] (fr' := [(0, .ref 0 0), (4, i64 0)]) (σ' := [.box [i64 a.p.1.Epoch, i64 a.p.1.Other, i64 a.p.1.First, .sl false (L (cSl cU8) a.p.1.Queue), i64 a.p.1.Next, .sl false (L cK a.p.1.Early), i64 a.p.1.SentAt, i64 a.p.2.Epoch, i64 a.p.2.Other, i64 a.p.2.First, .sl false (L (cSl cU8) a.p.2.Queue), i64 a.p.2.Next, .sl false (L cK a.p.2.Early), i64 a.p.2.SentAt, .bs false 1 (a.way.1.length) 0 (a.way.1.length), .bs false 2 (a.way.2.length) 0 (a.way.2.length), .bs false 3 (a.oz.1.length) 0 (a.oz.1.length), .bs false 4 (a.oz.2.length) 0 (a.oz.2.length), .bs false 5 (a.dz.1.length) 0 (a.dz.1.length), .bs false 6 (a.dz.2.length) 0 (a.dz.2.length), i64 aY, i64 a.resets] false, .buf 5 (L cK a.way.1) false, .buf 5 (L cK a.way.2) false, .buf 1 (L (cSl cU8) a.oz.1) false, .buf 1 (L (cSl cU8) a.oz.2) false, .buf 1 (L (cSl cU8) a.dz.1) false, .buf 1 (L (cSl cU8) a.dz.2) false, .box [i64 c.Kind, i64 c.Side, i64 c.N, .sl false (L cU8 c.Data)] false]) ⟨_, orcs_nil, ?_⟩ ?_
        · subst a7; simp only [go_sem, Nat.reduceLeDiff, castL, Int.reduceLT, Int.reduceAdd, Int.reduceSub, Nat.reduceMul, Nat.reduceGT, Nat.reduceLeDiff, decide_true, decide_false, Bool.false_eq_true]
        replace h := bind_some1 h; obtain ⟨d, a8, h⟩ := h
        refine run_textE0 hE (wk_block wk_wkP) [] (fr' := []) (σ' := [.box [i64 d.2.1.p.1.Epoch, i64 d.2.1.p.1.Other, i64 d.2.1.p.1.First, .sl false (L (cSl cU8) d.2.1.p.1.Queue), i64 d.2.1.p.1.Next, .sl false (L cK d.2.1.p.1.Early), i64 d.2.1.p.1.SentAt, i64 d.2.1.p.2.Epoch, i64 d.2.1.p.2.Other, i64 d.2.1.p.2.First, .sl false (L (cSl cU8) d.2.1.p.2.Queue), i64 d.2.1.p.2.Next, .sl false (L cK d.2.1.p.2.Early), i64 d.2.1.p.2.SentAt, .bs false 8 (d.2.1.way.1.length) 0 (d.2.1.way.1.length), .bs false 9 (d.2.1.way.2.length) 0 (d.2.1.way.2.length), .bs false 10 (d.2.1.oz.1.length) 0 (d.2.1.oz.1.length), .bs false 11 (d.2.1.oz.2.length) 0 (d.2.1.oz.2.length), .bs false 12 (d.2.1.dz.1.length) 0 (d.2.1.dz.1.length), .bs false 13 (d.2.1.dz.2.length) 0 (d.2.1.dz.2.length), i64 d.2.1.now, i64 d.2.1.resets] false, deadB d.2.2.1, deadB d.2.2.2.1, deadB d.2.2.2.2.1, deadB d.2.2.2.2.2.1, deadB d.2.2.2.2.2.2.1, deadB d.2.2.2.2.2.2.2, .box [i64 c.Kind, i64 c.Side, i64 c.N, .sl false (L cU8 c.Data)] false, .buf 5 (L cK d.2.1.way.1) false, .buf 5 (L cK d.2.1.way.2) false, .buf 1 (L (cSl cU8) d.2.1.oz.1) false, .buf 1 (L (cSl cU8) d.2.1.oz.2) false, .buf 1 (L (cSl cU8) d.2.1.dz.1) false, .buf 1 (L (cSl cU8) d.2.1.dz.2) false]) ⟨_, orcs_ok2 (l := []) (m := [(78, 46, [.ref 0 0, i64 0], [.box [i64 a.p.1.Epoch, i64 a.p.1.Other, i64 a.p.1.First, .sl false (L (cSl cU8) a.p.1.Queue), i64 a.p.1.Next, .sl false (L cK a.p.1.Early), i64 a.p.1.SentAt, i64 a.p.2.Epoch, i64 a.p.2.Other, i64 a.p.2.First, .sl false (L (cSl cU8) a.p.2.Queue), i64 a.p.2.Next, .sl false (L cK a.p.2.Early), i64 a.p.2.SentAt, .bs false 1 (a.way.1.length) 0 (a.way.1.length), .bs false 2 (a.way.2.length) 0 (a.way.2.length), .bs false 3 (a.oz.1.length) 0 (a.oz.1.length), .bs false 4 (a.oz.2.length) 0 (a.oz.2.length), .bs false 5 (a.dz.1.length) 0 (a.dz.1.length), .bs false 6 (a.dz.2.length) 0 (a.dz.2.length), i64 aY, i64 a.resets] false, .buf 5 (L cK a.way.1) false, .buf 5 (L cK a.way.2) false, .buf 1 (L (cSl cU8) a.oz.1) false, .buf 1 (L (cSl cU8) a.oz.2) false, .buf 1 (L (cSl cU8) a.dz.1) false, .buf 1 (L (cSl cU8) a.dz.2) false, .box [i64 c.Kind, i64 c.Side, i64 c.N, .sl false (L cU8 c.Data)] false], .sl false (L cK d.1), [.box [i64 d.2.1.p.1.Epoch, i64 d.2.1.p.1.Other, i64 d.2.1.p.1.First, .sl false (L (cSl cU8) d.2.1.p.1.Queue), i64 d.2.1.p.1.Next, .sl false (L cK d.2.1.p.1.Early), i64 d.2.1.p.1.SentAt, i64 d.2.1.p.2.Epoch, i64 d.2.1.p.2.Other, i64 d.2.1.p.2.First, .sl false (L (cSl cU8) d.2.1.p.2.Queue), i64 d.2.1.p.2.Next, .sl false (L cK d.2.1.p.2.Early), i64 d.2.1.p.2.SentAt, .bs false 8 (d.2.1.way.1.length) 0 (d.2.1.way.1.length), .bs false 9 (d.2.1.way.2.length) 0 (d.2.1.way.2.length), .bs false 10 (d.2.1.oz.1.length) 0 (d.2.1.oz.1.length), .bs false 11 (d.2.1.oz.2.length) 0 (d.2.1.oz.2.length), .bs false 12 (d.2.1.dz.1.length) 0 (d.2.1.dz.1.length), .bs false 13 (d.2.1.dz.2.length) 0 (d.2.1.dz.2.length), i64 d.2.1.now, i64 d.2.1.resets] false, deadB d.2.2.1, deadB d.2.2.2.1, deadB d.2.2.2.2.1, deadB d.2.2.2.2.2.1, deadB d.2.2.2.2.2.2.1, deadB d.2.2.2.2.2.2.2, .box [i64 c.Kind, i64 c.Side, i64 c.N, .sl false (L cU8 c.Data)] false, .buf 5 (L cK d.2.1.way.1) false, .buf 5 (L cK d.2.1.way.2) false, .buf 1 (L (cSl cU8) d.2.1.oz.1) false, .buf 1 (L (cSl cU8) d.2.1.oz.2) false, .buf 1 (L (cSl cU8) d.2.1.dz.1) false, .buf 1 (L (cSl cU8) d.2.1.dz.2) false])]) trivial ⟨(wcon_call (law12_pair_emit_c0_con a8) [0, 1, 2, 3, 4, 5, 6] (by decide) (by simp only [go_sem]) (by simp only [go_sem]) (by simp only [go_sem]) (by simp only [go_sem]) (by simp only [go_sem])), trivial⟩, ?_⟩ ?_
        · simp only [go_sem, castL, Int.reduceLT, Int.reduceAdd, Int.reduceSub, Nat.reduceMul, Nat.reduceGT, Nat.reduceLeDiff, decide_true, decide_false, Bool.false_eq_true]
        refine blockK_n ?_
        obtain rfl := Option.some.inj h
        refine wkP_of (Weak.refl _ _) ?_
        refine ret_own (.inl rfl) [0, 1, 2, 3, 4, 5, 6, 8, 9, 10, 11, 12, 13] (by decide) rfl ?_ ?_
        · simp only [go_sem]
        · simp only [go_sem]
      · replace h := ite_f h hb
        replace h := bind_some1 h; obtain ⟨bz, ap, aq⟩ := h
        refine run_join (fun (v : Bool) => (⟨asFr 164 [(0, .ref 0 0), (3, .ref 7 0), (4, i64 0), (5, i64 o), (23, i64 ((and64 c.Kind 7))), (79, .bool v)], [.box [i64 a.p.1.Epoch, i64 a.p.1.Other, i64 a.p.1.First, .sl false (L (cSl cU8) a.p.1.Queue), i64 a.p.1.Next, .sl false (L cK a.p.1.Early), i64 a.p.1.SentAt, i64 a.p.2.Epoch, i64 a.p.2.Other, i64 a.p.2.First, .sl false (L (cSl cU8) a.p.2.Queue), i64 a.p.2.Next, .sl false (L cK a.p.2.Early), i64 a.p.2.SentAt, .bs false 1 (a.way.1.length) 0 (a.way.1.length), .bs false 2 (a.way.2.length) 0 (a.way.2.length), .bs false 3 (a.oz.1.length) 0 (a.oz.1.length), .bs false 4 (a.oz.2.length) 0 (a.oz.2.length), .bs false 5 (a.dz.1.length) 0 (a.dz.1.length), .bs false 6 (a.dz.2.length) 0 (a.dz.2.length), i64 a.now, i64 a.resets] false, .buf 5 (L cK a.way.1) false, .buf 5 (L cK a.way.2) false, .buf 1 (L (cSl cU8) a.oz.1) false, .buf 1 (L (cSl cU8) a.oz.2) false, .buf 1 (L (cSl cU8) a.dz.1) false, .buf 1 (L (cSl cU8) a.dz.2) false, .box [i64 c.Kind, i64 c.Side, i64 c.N, .sl false (L cU8 c.Data)] false]⟩ : St)) (fun v => v = bz) ?_ ?_
        · have h := ap; clear ap
          refine run_textE hE [0, 3, 4, 5, 23, 79] (fr' := [(0, .ref 0 0), (3, .ref 7 0), (4, i64 0), (5, i64 o), (23, i64 ((and64 c.Kind 7))), (79, .bool (((and64 c.Kind 7) == 2)))]) (σ' := [.box [i64 a.p.1.Epoch, i64 a.p.1.Other, i64 a.p.1.First, .sl false (L (cSl cU8) a.p.1.Queue), i64 a.p.1.Next, .sl false (L cK a.p.1.Early), i64 a.p.1.SentAt, i64 a.p.2.Epoch, i64 a.p.2.Other, i64 a.p.2.First, .sl false (L (cSl cU8) a.p.2.Queue), i64 a.p.2.Next, .sl false (L cK a.p.2.Early), i64 a.p.2.SentAt, .bs false 1 (a.way.1.length) 0 (a.way.1.length), .bs false 2 (a.way.2.length) 0 (a.way.2.length), .bs false 3 (a.oz.1.length) 0 (a.oz.1.length), .bs false 4 (a.oz.2.length) 0 (a.oz.2.length), .bs false 5 (a.dz.1.length) 0 (a.dz.1.length), .bs false 6 (a.dz.2.length) 0 (a.dz.2.length), i64 a.now, i64 a.resets] false, .buf 5 (L cK a.way.1) false, .buf 5 (L cK a.way.2) false, .buf 1 (L (cSl cU8) a.oz.1) false, .buf 1 (L (cSl cU8) a.oz.2) false, .buf 1 (L (cSl cU8) a.dz.1) false, .buf 1 (L (cSl cU8) a.dz.2) false, .box [i64 c.Kind, i64 c.Side, i64 c.N, .sl false (L cU8 c.Data)] false]) ⟨_, orcs_nil, ?_⟩ ?_
          · simp only [go_sem, castL, Int.reduceLT, Int.reduceAdd, Int.reduceSub, Nat.reduceMul, Nat.reduceGT, Nat.reduceLeDiff, decide_true, decide_false, Bool.false_eq_true]
          refine run_condL (b := ((and64 c.Kind 7) == 2)) rfl (by decide) (fun hb => ?_) (fun hb => ?_)
          · replace h := ite_t h hb
            refine run_skip ?_
            obtain rfl := Option.some.inj h
            exact joinK_n (((and64 c.Kind 7) == 2)) rfl (weak_sel [0, 1, 2, 3, 4, 5, 6, 7] (by decide) rfl (by simp only [go_sem]) (by simp only [go_sem]))
          · replace h := ite_f h hb
            refine run_textE0 hE wk_join [0, 3, 4, 5, 23, 79] (fr' := [(0, .ref 0 0), (3, .ref 7 0), (4, i64 0), (5, i64 o), (23, i64 ((and64 c.Kind 7))), (79, .bool (((and64 c.Kind 7) == 7)))]) (σ' := [.box [i64 a.p.1.Epoch, i64 a.p.1.Other, i64 a.p.1.First, .sl false (L (cSl cU8) a.p.1.Queue), i64 a.p.1.Next, .sl false (L cK a.p.1.Early), i64 a.p.1.SentAt, i64 a.p.2.Epoch, i64 a.p.2.Other, i64 a.p.2.First, .sl false (L (cSl cU8) a.p.2.Queue), i64 a.p.2.Next, .sl false (L cK a.p.2.Early), i64 a.p.2.SentAt, .bs false 1 (a.way.1.length) 0 (a.way.1.length), .bs false 2 (a.way.2.length) 0 (a.way.2.length), .bs false 3 (a.oz.1.length) 0 (a.oz.1.length), .bs false 4 (a.oz.2.length) 0 (a.oz.2.length), .bs false 5 (a.dz.1.length) 0 (a.dz.1.length), .bs false 6 (a.dz.2.length) 0 (a.dz.2.length), i64 a.now, i64 a.resets] false, .buf 5 (L cK a.way.1) false, .buf 5 (L cK a.way.2) false, .buf 1 (L (cSl cU8) a.oz.1) false, .buf 1 (L (cSl cU8) a.oz.2) false, .buf 1 (L (cSl cU8) a.dz.1) false, .buf 1 (L (cSl cU8) a.dz.2) false, .box [i64 c.Kind, i64 c.Side, i64 c.N, .sl false (L cU8 c.Data)] false]) ⟨_, orcs_nil, ?_⟩ ?_
            · simp only [go_sem, castL, Int.reduceLT, Int.reduceAdd, Int.reduceSub, Nat.reduceMul, Nat.reduceGT, Nat.reduceLeDiff, decide_true, decide_false, Bool.false_eq_true]
            obtain rfl := Option.some.inj h
            exact joinK_n (((and64 c.Kind 7) == 7)) rfl (weak_sel [0, 1, 2, 3, 4, 5, 6, 7] (by decide) rfl (by simp only [go_sem]) (by simp only [go_sem]))
        rintro bA rfl
        have h := aq; clear aq
        refine run_condL (b := bA) rfl (by decide) (fun hb => ?_) (fun hb => ?_)
        · replace h := ite_t h hb
          refine run_textE hE [0, 3, 4, 5, 83] (fr' := [(0, .ref 0 0), (3, .ref 7 0), (4, i64 0), (5, i64 o), (83, .bool ((decide (o > 0))))]) (σ' := [.box [i64 a.p.1.Epoch, i64 a.p.1.Other, i64 a.p.1.First, .sl false (L (cSl cU8) a.p.1.Queue), i64 a.p.1.Next, .sl false (L cK a.p.1.Early), i64 a.p.1.SentAt, i64 a.p.2.Epoch, i64 a.p.2.Other, i64 a.p.2.First, .sl false (L (cSl cU8) a.p.2.Queue), i64 a.p.2.Next, .sl false (L cK a.p.2.Early), i64 a.p.2.SentAt, .bs false 1 (a.way.1.length) 0 (a.way.1.length), .bs false 2 (a.way.2.length) 0 (a.way.2.length), .bs false 3 (a.oz.1.length) 0 (a.oz.1.length), .bs false 4 (a.oz.2.length) 0 (a.oz.2.length), .bs false 5 (a.dz.1.length) 0 (a.dz.1.length), .bs false 6 (a.dz.2.length) 0 (a.dz.2.length), i64 a.now, i64 a.resets] false, .buf 5 (L cK a.way.1) false, .buf 5 (L cK a.way.2) false, .buf 1 (L (cSl cU8) a.oz.1) false, .buf 1 (L (cSl cU8) a.oz.2) false, .buf 1 (L (cSl cU8) a.dz.1) false, .buf 1 (L (cSl cU8) a.dz.2) false, .box [i64 c.Kind, i64 c.Side, i64 c.N, .sl false (L cU8 c.Data)] false]) ⟨_, orcs_nil, ?_⟩ ?_
          · simp only [go_sem, castL, Int.reduceLT, Int.reduceAdd, Int.reduceSub, Nat.reduceMul, Nat.reduceGT, Nat.reduceLeDiff, decide_true, decide_false, Bool.false_eq_true]
          refine run_condL (b := (decide (o > 0))) rfl (by decide) (fun hb => ?_) (fun hb => ?_)
          · replace h := ite_t h hb
            have ar : InR 0 2 := by decide
            replace h := bind_some1 h; obtain ⟨s, a9, h⟩ := h
            replace h := chk_some h; obtain ⟨u, h⟩ := h
            replace h := bind_some1 h; obtain ⟨f, ba, h⟩ := h
            refine run_drawE0 hE mixed [[], [], [], [], [2], [2, 4], [2, 3, 4, 5], [2, 3, 4, 5, 6], [], [8], [], [8, 9, 10], [2, 3, 4, 5, 6, 7, 8, 9, 10, 11], [2, 3, 4, 5, 6, 7, 8, 9, 10, 11, 12], [0, 1, 2, 3, 4, 5, 6, 7, 8, 9, 10, 11, 12, 13]] (by kernel_rfl) (by kernel_rfl) (wk_block wk_wkP) [] (fr' := []) (σ' := [.box [i64 f.1.p.1.Epoch, i64 f.1.p.1.Other, i64 f.1.p.1.First, .sl false (L (cSl cU8) f.1.p.1.Queue), i64 f.1.p.1.Next, .sl false (L cK f.1.p.1.Early), i64 f.1.p.1.SentAt, i64 f.1.p.2.Epoch, i64 f.1.p.2.Other, i64 f.1.p.2.First, .sl false (L (cSl cU8) f.1.p.2.Queue), i64 f.1.p.2.Next, .sl false (L cK f.1.p.2.Early), i64 f.1.p.2.SentAt, .bs false 8 (f.1.way.1.length) 0 (f.1.way.1.length), .bs false 9 (f.1.way.2.length) 0 (f.1.way.2.length), .bs false 10 (f.1.oz.1.length) 0 (f.1.oz.1.length), .bs false 11 (f.1.oz.2.length) 0 (f.1.oz.2.length), .bs false 12 (f.1.dz.1.length) 0 (f.1.dz.1.length), .bs false 13 (f.1.dz.2.length) 0 (f.1.dz.2.length), i64 f.1.now, i64 f.1.resets] false, deadB f.2.1, deadB f.2.2.1, deadB f.2.2.2.1, deadB f.2.2.2.2.1, deadB f.2.2.2.2.2.1, deadB f.2.2.2.2.2.2, .box [i64 c.Kind, i64 c.Side, i64 c.N, .sl false (L cU8 c.Data)] false, .buf 5 (L cK f.1.way.1) false, .buf 5 (L cK f.1.way.2) false, .buf 1 (L (cSl cU8) f.1.oz.1) false, .buf 1 (L (cSl cU8) f.1.oz.2) false, .buf 1 (L (cSl cU8) f.1.dz.1) false, .buf 1 (L (cSl cU8) f.1.dz.2) false]) ⟨_, orcs_ok2 (l := [(95, 27, [i64 c.N, i64 o], i64 s)]) (m := [(98, 47, [.ref 0 0, i64 0, .agg [i64 ((nth a.way.1 s.toNat).Epoch), i64 ((nth a.way.1 s.toNat).To), i64 ((nth a.way.1 s.toNat).Seq), i64 ((nth a.way.1 s.toNat).Ack), .sl false (L cU8 ((nth a.way.1 s.toNat).Data))]], [.box [i64 a.p.1.Epoch, i64 a.p.1.Other, i64 a.p.1.First, .sl false (L (cSl cU8) a.p.1.Queue), i64 a.p.1.Next, .sl false (L cK a.p.1.Early), i64 a.p.1.SentAt, i64 a.p.2.Epoch, i64 a.p.2.Other, i64 a.p.2.First, .sl false (L (cSl cU8) a.p.2.Queue), i64 a.p.2.Next, .sl false (L cK a.p.2.Early), i64 a.p.2.SentAt, .bs false 1 (a.way.1.length) 0 (a.way.1.length), .bs false 2 (a.way.2.length) 0 (a.way.2.length), .bs false 3 (a.oz.1.length) 0 (a.oz.1.length), .bs false 4 (a.oz.2.length) 0 (a.oz.2.length), .bs false 5 (a.dz.1.length) 0 (a.dz.1.length), .bs false 6 (a.dz.2.length) 0 (a.dz.2.length), i64 a.now, i64 a.resets] false, .buf 5 (L cK a.way.1) false, .buf 5 (L cK a.way.2) false, .buf 1 (L (cSl cU8) a.oz.1) false, .buf 1 (L (cSl cU8) a.oz.2) false, .buf 1 (L (cSl cU8) a.dz.1) false, .buf 1 (L (cSl cU8) a.dz.2) false, .box [i64 c.Kind, i64 c.Side, i64 c.N, .sl false (L cU8 c.Data)] false], .tup [], [.box [i64 f.1.p.1.Epoch, i64 f.1.p.1.Other, i64 f.1.p.1.First, .sl false (L (cSl cU8) f.1.p.1.Queue), i64 f.1.p.1.Next, .sl false (L cK f.1.p.1.Early), i64 f.1.p.1.SentAt, i64 f.1.p.2.Epoch, i64 f.1.p.2.Other, i64 f.1.p.2.First, .sl false (L (cSl cU8) f.1.p.2.Queue), i64 f.1.p.2.Next, .sl false (L cK f.1.p.2.Early), i64 f.1.p.2.SentAt, .bs false 8 (f.1.way.1.length) 0 (f.1.way.1.length), .bs false 9 (f.1.way.2.length) 0 (f.1.way.2.length), .bs false 10 (f.1.oz.1.length) 0 (f.1.oz.1.length), .bs false 11 (f.1.oz.2.length) 0 (f.1.oz.2.length), .bs false 12 (f.1.dz.1.length) 0 (f.1.dz.1.length), .bs false 13 (f.1.dz.2.length) 0 (f.1.dz.2.length), i64 f.1.now, i64 f.1.resets] false, deadB f.2.1, deadB f.2.2.1, deadB f.2.2.2.1, deadB f.2.2.2.2.1, deadB f.2.2.2.2.2.1, deadB f.2.2.2.2.2.2, .box [i64 c.Kind, i64 c.Side, i64 c.N, .sl false (L cU8 c.Data)] false, .buf 5 (L cK f.1.way.1) false, .buf 5 (L cK f.1.way.2) false, .buf 1 (L (cSl cU8) f.1.oz.1) false, .buf 1 (L (cSl cU8) f.1.oz.2) false, .buf 1 (L (cSl cU8) f.1.dz.1) false, .buf 1 (L (cSl cU8) f.1.dz.2) false])]) ⟨law12_at_con  a9, trivial⟩ ⟨(wcon_call (law12_pair_accept_c0_con ba) [0, 1, 2, 3, 4, 5, 6] (by decide) (by simp only [go_sem]) (by simp only [go_sem]) (by simp only [go_sem]) (by simp only [go_sem]) (by simp only [go_sem])), trivial⟩, ?_⟩ ?_
            · simp only [go_sem, Int.reduceToNat, castL, Int.reduceLT, Int.reduceAdd, Int.reduceSub, Nat.reduceMul, Nat.reduceGT, Nat.reduceLeDiff, decide_true, decide_false, Bool.false_eq_true, ar, ar.2, u, u.2, lt_le u.2]
            refine blockK_n ?_
            obtain rfl := Option.some.inj h
            refine wkP_of (Weak.refl _ _) ?_
            refine ret_own (.inl rfl) [0, 1, 2, 3, 4, 5, 6, 8, 9, 10, 11, 12, 13] (by decide) rfl ?_ ?_
            · simp only [go_sem]
            · simp only [go_sem]
          · replace h := ite_f h hb
            refine run_skip ?_
            refine blockK_n ?_
            obtain rfl := Option.some.inj h
            refine wkP_of ((weak_move_box 0 14 1 0 rfl rfl rfl (by simp only [go_sem]) (by first | exact Nat.zero_add _ | (subst_vars; exact tail_len (by assumption)))).trans ((weak_move_box 0 15 2 0 rfl rfl rfl (by simp only [go_sem]) (by first | exact Nat.zero_add _ | (subst_vars; exact tail_len (by assumption)))).trans ((weak_move_box 0 16 3 0 rfl rfl rfl (by simp only [go_sem]) (by first | exact Nat.zero_add _ | (subst_vars; exact tail_len (by assumption)))).trans ((weak_move_box 0 17 4 0 rfl rfl rfl (by simp only [go_sem]) (by first | exact Nat.zero_add _ | (subst_vars; exact tail_len (by assumption)))).trans ((weak_move_box 0 18 5 0 rfl rfl rfl (by simp only [go_sem]) (by first | exact Nat.zero_add _ | (subst_vars; exact tail_len (by assumption)))).trans ((weak_move_box 0 19 6 0 rfl rfl rfl (by simp only [go_sem]) (by first | exact Nat.zero_add _ | (subst_vars; exact tail_len (by assumption)))).trans (Weak.refl _ _))))))) ?_
            refine ret_own (.inl rfl) [0, 1, 2, 3, 4, 5, 6, 8, 9, 10, 11, 12, 13] (by decide) rfl ?_ ?_
            · simp only [go_sem]
            · simp only [go_sem]
        · replace h := ite_f h hb
          refine run_textE hE [0, 3, 4, 5, 23, 99] (fr' := [(0, .ref 0 0), (3, .ref 7 0), (4, i64 0), (5, i64 o), (23, i64 ((and64 c.Kind 7))), (99, .bool (((and64 c.Kind 7) == 3)))]) (σ' := [.box [i64 a.p.1.Epoch, i64 a.p.1.Other, i64 a.p.1.First, .sl false (L (cSl cU8) a.p.1.Queue), i64 a.p.1.Next, .sl false (L cK a.p.1.Early), i64 a.p.1.SentAt, i64 a.p.2.Epoch, i64 a.p.2.Other, i64 a.p.2.First, .sl false (L (cSl cU8) a.p.2.Queue), i64 a.p.2.Next, .sl false (L cK a.p.2.Early), i64 a.p.2.SentAt, .bs false 1 (a.way.1.length) 0 (a.way.1.length), .bs false 2 (a.way.2.length) 0 (a.way.2.length), .bs false 3 (a.oz.1.length) 0 (a.oz.1.length), .bs false 4 (a.oz.2.length) 0 (a.oz.2.length), .bs false 5 (a.dz.1.length) 0 (a.dz.1.length), .bs false 6 (a.dz.2.length) 0 (a.dz.2.length), i64 a.now, i64 a.resets] false, .buf 5 (L cK a.way.1) false, .buf 5 (L cK a.way.2) false, .buf 1 (L (cSl cU8) a.oz.1) false, .buf 1 (L (cSl cU8) a.oz.2) false, .buf 1 (L (cSl cU8) a.dz.1) false, .buf 1 (L (cSl cU8) a.dz.2) false, .box [i64 c.Kind, i64 c.Side, i64 c.N, .sl false (L cU8 c.Data)] false]) ⟨_, orcs_nil, ?_⟩ ?_
          · simp only [go_sem, castL, Int.reduceLT, Int.reduceAdd, Int.reduceSub, Nat.reduceMul, Nat.reduceGT, Nat.reduceLeDiff, decide_true, decide_false, Bool.false_eq_true]
          refine run_condL (b := ((and64 c.Kind 7) == 3)) rfl (by decide) (fun hb => ?_) (fun hb => ?_)
          · replace h := ite_t h hb
            refine run_textE hE [0, 3, 4, 5, 102] (fr' := [(0, .ref 0 0), (3, .ref 7 0), (4, i64 0), (5, i64 o), (102, .bool ((decide (o > 0))))]) (σ' := [.box [i64 a.p.1.Epoch, i64 a.p.1.Other, i64 a.p.1.First, .sl false (L (cSl cU8) a.p.1.Queue), i64 a.p.1.Next, .sl false (L cK a.p.1.Early), i64 a.p.1.SentAt, i64 a.p.2.Epoch, i64 a.p.2.Other, i64 a.p.2.First, .sl false (L (cSl cU8) a.p.2.Queue), i64 a.p.2.Next, .sl false (L cK a.p.2.Early), i64 a.p.2.SentAt, .bs false 1 (a.way.1.length) 0 (a.way.1.length), .bs false 2 (a.way.2.length) 0 (a.way.2.length), .bs false 3 (a.oz.1.length) 0 (a.oz.1.length), .bs false 4 (a.oz.2.length) 0 (a.oz.2.length), .bs false 5 (a.dz.1.length) 0 (a.dz.1.length), .bs false 6 (a.dz.2.length) 0 (a.dz.2.length), i64 a.now, i64 a.resets] false, .buf 5 (L cK a.way.1) false, .buf 5 (L cK a.way.2) false, .buf 1 (L (cSl cU8) a.oz.1) false, .buf 1 (L (cSl cU8) a.oz.2) false, .buf 1 (L (cSl cU8) a.dz.1) false, .buf 1 (L (cSl cU8) a.dz.2) false, .box [i64 c.Kind, i64 c.Side, i64 c.N, .sl false (L cU8 c.Data)] false]) ⟨_, orcs_nil, ?_⟩ ?_
            · simp only [go_sem, castL, Int.reduceLT, Int.reduceAdd, Int.reduceSub, Nat.reduceMul, Nat.reduceGT, Nat.reduceLeDiff, decide_true, decide_false, Bool.false_eq_true]
            refine run_condL (b := (decide (o > 0))) rfl (by decide) (fun hb => ?_) (fun hb => ?_)
            · replace h := ite_t h hb
              replace h := bind_some1 h; obtain ⟨aZ, bb, h⟩ := h
              refine run_textE hE [0, 4, 8] (fr' := [(0, .ref 0 0), (4, i64 0), (8, i64 aZ)]) (σ' := [.box [i64 a.p.1.Epoch, i64 a.p.1.Other, i64 a.p.1.First, .sl false (L (cSl cU8) a.p.1.Queue), i64 a.p.1.Next, .sl false (L cK a.p.1.Early), i64 a.p.1.SentAt, i64 a.p.2.Epoch, i64 a.p.2.Other, i64 a.p.2.First, .sl false (L (cSl cU8) a.p.2.Queue), i64 a.p.2.Next, .sl false (L cK a.p.2.Early), i64 a.p.2.SentAt, .bs false 1 (a.way.1.length) 0 (a.way.1.length), .bs false 2 (a.way.2.length) 0 (a.way.2.length), .bs false 3 (a.oz.1.length) 0 (a.oz.1.length), .bs false 4 (a.oz.2.length) 0 (a.oz.2.length), .bs false 5 (a.dz.1.length) 0 (a.dz.1.length), .bs false 6 (a.dz.2.length) 0 (a.dz.2.length), i64 a.now, i64 a.resets] false, .buf 5 (L cK a.way.1) false, .buf 5 (L cK a.way.2) false, .buf 1 (L (cSl cU8) a.oz.1) false, .buf 1 (L (cSl cU8) a.oz.2) false, .buf 1 (L (cSl cU8) a.dz.1) false, .buf 1 (L (cSl cU8) a.dz.2) false, .box [i64 c.Kind, i64 c.Side, i64 c.N, .sl false (L cU8 c.Data)] false]) ⟨_, orcs_ok (l := [(106, 27, [i64 c.N, i64 o], i64 aZ)]) ⟨law12_at_con  bb, trivial⟩, ?_⟩ ?_
              · simp only [go_sem, castL, Int.reduceLT, Int.reduceAdd, Int.reduceSub, Nat.reduceMul, Nat.reduceGT, Nat.reduceLeDiff, decide_true, decide_false, Bool.false_eq_true]
              have au : InR 0 2 := by decide
              replace h := chk_some h; obtain ⟨bc, h⟩ := h
              replace h := chk_some h; obtain ⟨av, h⟩ := h
              have z := av; simp only [List.cons_append, List.nil_append, List.length_append, List.length_cons, List.length_nil, Nat.zero_add, Nat.reduceAdd] at z
              have aw : InR 0 2 := by decide
              replace h := chk_some h; obtain ⟨bd, h⟩ := h
              replace h := chk_some h; obtain ⟨ax, h⟩ := h
              have aa := ax; simp only [List.cons_append, List.nil_append, List.length_append, List.length_cons, List.length_nil, Nat.zero_add, Nat.reduceAdd] at aa
              have ay : InR 0 2 := by decide
              replace h := lt1_some h; obtain ⟨ab, be, h⟩ := h
              refine run_drawT0 hE mixed [[], [], [], [], [], [3], [3, 5], [3, 4, 5, 6], [3, 4, 5, 6, 7], [], [3, 4, 5, 6, 7, 8, 9], [2, 3, 4, 5, 6, 7, 8, 9, 10], [], [], [12], [12, 14], [12, 13, 14, 15], [12, 13, 14, 15, 16], [], [18], [12, 13, 14, 15, 16, 17, 18, 19], [2, 3, 4, 5, 6, 7, 8, 9, 10, 11, 12, 13, 14, 15, 16, 17, 18, 19, 20], [0], [0, 22], [0, 1, 2, 3, 4, 5, 6, 7, 8, 9, 10, 11, 12, 13, 14, 15, 16, 17, 18, 19, 20, 21, 22, 23], [0, 1, 2, 3, 4, 5, 6, 7, 8, 9, 10, 11, 12, 13, 14, 15, 16, 17, 18, 19, 20, 21, 22, 23, 24]] (by kernel_rfl) [(112, 0), (113, 0), (114, 0), (121, 0), (122, 0), (123, 0), (129, 0)] [(115, 1), (124, 1)] [(109, 8)] [(109, 8)] [109, 112, 113, 114, 115, 121, 122, 123, 124, 129] (by kernel_rfl) (wk_block wk_wkP) (fr' := [(109, .bs true 8 ((([] : List Pk)).length) 0 ((([] : List Pk)).length)), (112, .ref 0 0), (113, .ref 0 14), (114, .ref 0 14), (115, .bs false 1 (a.way.1.length) 0 (a.way.1.length)), (121, .ref 0 0), (122, .ref 0 14), (123, .ref 0 14), (124, .bs false 1 (a.way.1.length) 0 (a.way.1.length)), (129, .ref 0 0)]) (σ' := [.box [i64 a.p.1.Epoch, i64 a.p.1.Other, i64 a.p.1.First, .sl false (L (cSl cU8) a.p.1.Queue), i64 a.p.1.Next, .sl false (L cK a.p.1.Early), i64 a.p.1.SentAt, i64 a.p.2.Epoch, i64 a.p.2.Other, i64 a.p.2.First, .sl false (L (cSl cU8) a.p.2.Queue), i64 a.p.2.Next, .sl false (L cK a.p.2.Early), i64 a.p.2.SentAt, .bs false 8 (ab.length) 0 (ab.length), .bs false 2 (a.way.2.length) 0 (a.way.2.length), .bs false 3 (a.oz.1.length) 0 (a.oz.1.length), .bs false 4 (a.oz.2.length) 0 (a.oz.2.length), .bs false 5 (a.dz.1.length) 0 (a.dz.1.length), .bs false 6 (a.dz.2.length) 0 (a.dz.2.length), i64 a.now, i64 a.resets] false, .buf 5 (L cK a.way.1) false, .buf 5 (L cK a.way.2) false, .buf 1 (L (cSl cU8) a.oz.1) false, .buf 1 (L (cSl cU8) a.oz.2) false, .buf 1 (L (cSl cU8) a.dz.1) false, .buf 1 (L (cSl cU8) a.dz.2) false, .box [i64 c.Kind, i64 c.Side, i64 c.N, .sl false (L cU8 c.Data)] false, .buf 5 (L cK ab) false]) ⟨rfl, rfl, rfl, rfl, rfl, rfl, rfl, trivial⟩ ⟨rfl, rfl, trivial⟩ ⟨⟨rfl, rfl, rfl⟩, trivial⟩ ⟨rfl, trivial⟩ ⟨_, orcs_nil, ?_⟩ ?_
              · subst be; simp only [go_sem, Nat.reduceBEq, Nat.reduceMul, Nat.reduceSub, Nat.reduceGT, Nat.reducePow, Nat.reduceLeDiff, Int.reduceToNat, castL, Int.reduceLT, Int.reduceAdd, Int.reduceSub, Nat.reduceMul, Nat.reduceGT, Nat.reduceLeDiff, decide_true, decide_false, Bool.false_eq_true, au, au.2, bc, av, z, aw, aw.2, bd, ax, aa, ay, ay.2]
              refine blockK_n ?_
              obtain rfl := Option.some.inj h
              refine wkP_of ((weak_kill 1 rfl).trans ((weak_move_box 0 15 2 0 rfl rfl rfl (by simp only [go_sem]) (by first | exact Nat.zero_add _ | (subst_vars; exact tail_len (by assumption)))).trans ((weak_move_box 0 16 3 0 rfl rfl rfl (by simp only [go_sem]) (by first | exact Nat.zero_add _ | (subst_vars; exact tail_len (by assumption)))).trans ((weak_move_box 0 17 4 0 rfl rfl rfl (by simp only [go_sem]) (by first | exact Nat.zero_add _ | (subst_vars; exact tail_len (by assumption)))).trans ((weak_move_box 0 18 5 0 rfl rfl rfl (by simp only [go_sem]) (by first | exact Nat.zero_add _ | (subst_vars; exact tail_len (by assumption)))).trans ((weak_move_box 0 19 6 0 rfl rfl rfl (by simp only [go_sem]) (by first | exact Nat.zero_add _ | (subst_vars; exact tail_len (by assumption)))).trans (Weak.refl _ _))))))) ?_
              refine ret_own (.inl rfl) [0, 1, 2, 3, 4, 5, 6, 8, 10, 11, 12, 13, 14] (by decide) rfl ?_ ?_
              · simp only [go_sem]
              · simp only [go_sem]
            · replace h := ite_f h hb
              refine run_skip ?_
              refine blockK_n ?_
              obtain rfl := Option.some.inj h
              refine wkP_of ((weak_move_box 0 14 1 0 rfl rfl rfl (by simp only [go_sem]) (by first | exact Nat.zero_add _ | (subst_vars; exact tail_len (by assumption)))).trans ((weak_move_box 0 15 2 0 rfl rfl rfl (by simp only [go_sem]) (by first | exact Nat.zero_add _ | (subst_vars; exact tail_len (by assumption)))).trans ((weak_move_box 0 16 3 0 rfl rfl rfl (by simp only [go_sem]) (by first | exact Nat.zero_add _ | (subst_vars; exact tail_len (by assumption)))).trans ((weak_move_box 0 17 4 0 rfl rfl rfl (by simp only [go_sem]) (by first | exact Nat.zero_add _ | (subst_vars; exact tail_len (by assumption)))).trans ((weak_move_box 0 18 5 0 rfl rfl rfl (by simp only [go_sem]) (by first | exact Nat.zero_add _ | (subst_vars; exact tail_len (by assumption)))).trans ((weak_move_box 0 19 6 0 rfl rfl rfl (by simp only [go_sem]) (by first | exact Nat.zero_add _ | (subst_vars; exact tail_len (by assumption)))).trans (Weak.refl _ _))))))) ?_
              refine ret_own (.inl rfl) [0, 1, 2, 3, 4, 5, 6, 8, 9, 10, 11, 12, 13] (by decide) rfl ?_ ?_
              · simp only [go_sem]
              · simp only [go_sem]
          · replace h := ite_f h hb
            refine run_textE hE [0, 4, 132] (fr' := [(0, .ref 0 0), (4, i64 0), (132, .bool (((and64 c.Kind 7) == 4)))]) (σ' := [.box [i64 a.p.1.Epoch, i64 a.p.1.Other, i64 a.p.1.First, .sl false (L (cSl cU8) a.p.1.Queue), i64 a.p.1.Next, .sl false (L cK a.p.1.Early), i64 a.p.1.SentAt, i64 a.p.2.Epoch, i64 a.p.2.Other, i64 a.p.2.First, .sl false (L (cSl cU8) a.p.2.Queue), i64 a.p.2.Next, .sl false (L cK a.p.2.Early), i64 a.p.2.SentAt, .bs false 1 (a.way.1.length) 0 (a.way.1.length), .bs false 2 (a.way.2.length) 0 (a.way.2.length), .bs false 3 (a.oz.1.length) 0 (a.oz.1.length), .bs false 4 (a.oz.2.length) 0 (a.oz.2.length), .bs false 5 (a.dz.1.length) 0 (a.dz.1.length), .bs false 6 (a.dz.2.length) 0 (a.dz.2.length), i64 a.now, i64 a.resets] false, .buf 5 (L cK a.way.1) false, .buf 5 (L cK a.way.2) false, .buf 1 (L (cSl cU8) a.oz.1) false, .buf 1 (L (cSl cU8) a.oz.2) false, .buf 1 (L (cSl cU8) a.dz.1) false, .buf 1 (L (cSl cU8) a.dz.2) false, .box [i64 c.Kind, i64 c.Side, i64 c.N, .sl false (L cU8 c.Data)] false]) ⟨_, orcs_nil, ?_⟩ ?_
            · simp only [go_sem, castL, Int.reduceLT, Int.reduceAdd, Int.reduceSub, Nat.reduceMul, Nat.reduceGT, Nat.reduceLeDiff, decide_true, decide_false, Bool.false_eq_true]
            refine run_condL (b := ((and64 c.Kind 7) == 4)) rfl (by decide) (fun hb => ?_) (fun hb => ?_)
            · replace h := ite_t h hb
              have az : InR 0 2 := by decide
              replace h := bind_some1 h; obtain ⟨i, bf, h⟩ := h
              refine run_textE hE [0, 4, 9, 10] (fr' := [(0, .ref 0 0), (4, i64 0), (9, .ref 8 0), (10, i64 i.2)]) (σ' := [.box [i64 a.p.1.Epoch, i64 a.p.1.Other, i64 a.p.1.First, .sl false (L (cSl cU8) a.p.1.Queue), i64 a.p.1.Next, .sl false (L cK a.p.1.Early), i64 a.p.1.SentAt, i64 a.p.2.Epoch, i64 a.p.2.Other, i64 a.p.2.First, .sl false (L (cSl cU8) a.p.2.Queue), i64 a.p.2.Next, .sl false (L cK a.p.2.Early), i64 a.p.2.SentAt, .bs false 1 (a.way.1.length) 0 (a.way.1.length), .bs false 2 (a.way.2.length) 0 (a.way.2.length), .bs false 3 (a.oz.1.length) 0 (a.oz.1.length), .bs false 4 (a.oz.2.length) 0 (a.oz.2.length), .bs false 5 (a.dz.1.length) 0 (a.dz.1.length), .bs false 6 (a.dz.2.length) 0 (a.dz.2.length), i64 a.now, i64 a.resets] false, .buf 5 (L cK a.way.1) false, .buf 5 (L cK a.way.2) false, .buf 1 (L (cSl cU8) a.oz.1) false, .buf 1 (L (cSl cU8) a.oz.2) false, .buf 1 (L (cSl cU8) a.dz.1) false, .buf 1 (L (cSl cU8) a.dz.2) false, .box [i64 c.Kind, i64 c.Side, i64 c.N, .sl false (L cU8 c.Data)] false, .box [i64 i.1.Epoch, i64 i.1.Other, i64 i.1.First, .sl false (L (cSl cU8) i.1.Queue), i64 i.1.Next, .sl false (L cK i.1.Early), i64 i.1.SentAt] false]) ⟨_, orcs_ok (l := [(143, 12, [i64 ((w64 (a.p.1.Epoch + 1)))], .tup [.agg [i64 i.1.Epoch, i64 i.1.Other, i64 i.1.First, .sl false (L (cSl cU8) i.1.Queue), i64 i.1.Next, .sl false (L cK i.1.Early), i64 i.1.SentAt], i64 i.2])]) ⟨window_New_con  bf, trivial⟩, ?_⟩ ?_
              · simp only [go_sem, Int.reduceToNat, Nat.reduceLeDiff, castL, Int.reduceLT, Int.reduceAdd, Int.reduceSub, Nat.reduceMul, Nat.reduceGT, Nat.reduceLeDiff, decide_true, decide_false, Bool.false_eq_true, az, az.2]
              refine run_textE hE [0, 4, 9, 147] (fr' := [(0, .ref 0 0), (4, i64 0), (9, .ref 8 0), (147, .bool ((i.2 == 0)))]) (σ' := [.box [i64 a.p.1.Epoch, i64 a.p.1.Other, i64 a.p.1.First, .sl false (L (cSl cU8) a.p.1.Queue), i64 a.p.1.Next, .sl false (L cK a.p.1.Early), i64 a.p.1.SentAt, i64 a.p.2.Epoch, i64 a.p.2.Other, i64 a.p.2.First, .sl false (L (cSl cU8) a.p.2.Queue), i64 a.p.2.Next, .sl false (L cK a.p.2.Early), i64 a.p.2.SentAt, .bs false 1 (a.way.1.length) 0 (a.way.1.length), .bs false 2 (a.way.2.length) 0 (a.way.2.length), .bs false 3 (a.oz.1.length) 0 (a.oz.1.length), .bs false 4 (a.oz.2.length) 0 (a.oz.2.length), .bs false 5 (a.dz.1.length) 0 (a.dz.1.length), .bs false 6 (a.dz.2.length) 0 (a.dz.2.length), i64 a.now, i64 a.resets] false, .buf 5 (L cK a.way.1) false, .buf 5 (L cK a.way.2) false, .buf 1 (L (cSl cU8) a.oz.1) false, .buf 1 (L (cSl cU8) a.oz.2) false, .buf 1 (L (cSl cU8) a.dz.1) false, .buf 1 (L (cSl cU8) a.dz.2) false, .box [i64 c.Kind, i64 c.Side, i64 c.N, .sl false (L cU8 c.Data)] false, .box [i64 i.1.Epoch, i64 i.1.Other, i64 i.1.First, .sl false (L (cSl cU8) i.1.Queue), i64 i.1.Next, .sl false (L cK i.1.Early), i64 i.1.SentAt] false]) ⟨_, orcs_nil, ?_⟩ ?_
              · simp only [go_sem, castL, Int.reduceLT, Int.reduceAdd, Int.reduceSub, Nat.reduceMul, Nat.reduceGT, Nat.reduceLeDiff, decide_true, decide_false, Bool.false_eq_true]
              refine run_condL (b := (i.2 == 0)) rfl (by decide) (fun hb => ?_) (fun hb => ?_)
              · replace h := ite_t h hb
                have aA : InR 0 2 := by decide
                refine run_drawE hE mixed [[], [], [], [0], [0, 3], [0, 1, 2, 3, 4], [0, 1, 2, 3, 4, 5]] (by kernel_rfl) (by kernel_rfl) [0, 4] (fr' := [(0, .ref 0 0), (4, i64 0)]) (σ' := [.box [i64 i.1.Epoch, i64 i.1.Other, i64 i.1.First, .sl false (L (cSl cU8) i.1.Queue), i64 i.1.Next, .sl false (L cK i.1.Early), i64 i.1.SentAt, i64 a.p.2.Epoch, i64 a.p.2.Other, i64 a.p.2.First, .sl false (L (cSl cU8) a.p.2.Queue), i64 a.p.2.Next, .sl false (L cK a.p.2.Early), i64 a.p.2.SentAt, .bs false 1 (a.way.1.length) 0 (a.way.1.length), .bs false 2 (a.way.2.length) 0 (a.way.2.length), .bs false 3 (a.oz.1.length) 0 (a.oz.1.length), .bs false 4 (a.oz.2.length) 0 (a.oz.2.length), .bs false 5 (a.dz.1.length) 0 (a.dz.1.length), .bs false 6 (a.dz.2.length) 0 (a.dz.2.length), i64 a.now, i64 a.resets] false, .buf 5 (L cK a.way.1) false, .buf 5 (L cK a.way.2) false, .buf 1 (L (cSl cU8) a.oz.1) false, .buf 1 (L (cSl cU8) a.oz.2) false, .buf 1 (L (cSl cU8) a.dz.1) false, .buf 1 (L (cSl cU8) a.dz.2) false, .box [i64 c.Kind, i64 c.Side, i64 c.N, .sl false (L cU8 c.Data)] false, .box [i64 i.1.Epoch, i64 i.1.Other, i64 i.1.First, .sl false (L (cSl cU8) i.1.Queue), i64 i.1.Next, .sl false (L cK i.1.Early), i64 i.1.SentAt] false]) ⟨_, orcs_nil, ?_⟩ ?_
                · simp only [go_sem, Int.reduceToNat, Nat.reduceLeDiff, castL, Int.reduceLT, Int.reduceAdd, Int.reduceSub, Nat.reduceMul, Nat.reduceGT, Nat.reduceLeDiff, decide_true, decide_false, Bool.false_eq_true, aA, aA.2]
                have aB : InR 0 2 := by decide
                refine run_textE hE [0, 4] (fr' := [(0, .ref 0 0), (4, i64 0)]) (σ' := [.box [i64 i.1.Epoch, i64 i.1.Other, i64 i.1.First, .sl false (L (cSl cU8) i.1.Queue), i64 i.1.Next, .sl false (L cK i.1.Early), i64 i.1.SentAt, i64 a.p.2.Epoch, i64 a.p.2.Other, i64 a.p.2.First, .sl false (L (cSl cU8) a.p.2.Queue), i64 a.p.2.Next, .sl false (L cK a.p.2.Early), i64 a.p.2.SentAt, .bs false 1 (a.way.1.length) 0 (a.way.1.length), .bs false 2 (a.way.2.length) 0 (a.way.2.length), .sl true (L (cSl cU8) ([])), .bs false 4 (a.oz.2.length) 0 (a.oz.2.length), .bs false 5 (a.dz.1.length) 0 (a.dz.1.length), .bs false 6 (a.dz.2.length) 0 (a.dz.2.length), i64 a.now, i64 a.resets] false, .buf 5 (L cK a.way.1) false, .buf 5 (L cK a.way.2) false, .buf 1 (L (cSl cU8) a.oz.1) false, .buf 1 (L (cSl cU8) a.oz.2) false, .buf 1 (L (cSl cU8) a.dz.1) false, .buf 1 (L (cSl cU8) a.dz.2) false, .box [i64 c.Kind, i64 c.Side, i64 c.N, .sl false (L cU8 c.Data)] false, .box [i64 i.1.Epoch, i64 i.1.Other, i64 i.1.First, .sl false (L (cSl cU8) i.1.Queue), i64 i.1.Next, .sl false (L cK i.1.Early), i64 i.1.SentAt] false]) ⟨_, orcs_nil, ?_⟩ ?_
                · simp only [go_sem, Int.reduceToNat, Nat.reduceLeDiff, castL, Int.reduceLT, Int.reduceAdd, Int.reduceSub, Nat.reduceMul, Nat.reduceGT, Nat.reduceLeDiff, decide_true, decide_false, Bool.false_eq_true, aB, aB.2]
                have aC : InR 0 2 := by decide
                refine run_textE0 hE (wk_block wk_wkP) [] (fr' := []) (σ' := [.box [i64 i.1.Epoch, i64 i.1.Other, i64 i.1.First, .sl false (L (cSl cU8) i.1.Queue), i64 i.1.Next, .sl false (L cK i.1.Early), i64 i.1.SentAt, i64 a.p.2.Epoch, i64 a.p.2.Other, i64 a.p.2.First, .sl false (L (cSl cU8) a.p.2.Queue), i64 a.p.2.Next, .sl false (L cK a.p.2.Early), i64 a.p.2.SentAt, .bs false 1 (a.way.1.length) 0 (a.way.1.length), .bs false 2 (a.way.2.length) 0 (a.way.2.length), .sl true (L (cSl cU8) ([])), .bs false 4 (a.oz.2.length) 0 (a.oz.2.length), .sl true (L (cSl cU8) ([])), .bs false 6 (a.dz.2.length) 0 (a.dz.2.length), i64 a.now, i64 a.resets] false, .buf 5 (L cK a.way.1) false, .buf 5 (L cK a.way.2) false, .buf 1 (L (cSl cU8) a.oz.1) false, .buf 1 (L (cSl cU8) a.oz.2) false, .buf 1 (L (cSl cU8) a.dz.1) false, .buf 1 (L (cSl cU8) a.dz.2) false, .box [i64 c.Kind, i64 c.Side, i64 c.N, .sl false (L cU8 c.Data)] false, .box [i64 i.1.Epoch, i64 i.1.Other, i64 i.1.First, .sl false (L (cSl cU8) i.1.Queue), i64 i.1.Next, .sl false (L cK i.1.Early), i64 i.1.SentAt] false]) ⟨_, orcs_nil, ?_⟩ ?_
                · simp only [go_sem, Int.reduceToNat, Nat.reduceLeDiff, castL, Int.reduceLT, Int.reduceAdd, Int.reduceSub, Nat.reduceMul, Nat.reduceGT, Nat.reduceLeDiff, decide_true, decide_false, Bool.false_eq_true, aC, aC.2]
                refine blockK_n ?_
                obtain rfl := Option.some.inj h
                refine wkP_of ((weak_move_box 0 14 1 0 rfl rfl rfl (by simp only [go_sem]) (by first | exact Nat.zero_add _ | (subst_vars; exact tail_len (by assumption)))).trans ((weak_move_box 0 15 2 0 rfl rfl rfl (by simp only [go_sem]) (by first | exact Nat.zero_add _ | (subst_vars; exact tail_len (by assumption)))).trans ((weak_nil_box 0 16 1 rfl rfl).trans ((weak_kill 3 rfl).trans ((weak_move_box 0 17 4 0 rfl rfl rfl (by simp only [go_sem]) (by first | exact Nat.zero_add _ | (subst_vars; exact tail_len (by assumption)))).trans ((weak_nil_box 0 18 1 rfl rfl).trans ((weak_kill 5 rfl).trans ((weak_move_box 0 19 6 0 rfl rfl rfl (by simp only [go_sem]) (by first | exact Nat.zero_add _ | (subst_vars; exact tail_len (by assumption)))).trans (Weak.refl _ _))))))))) ?_
                refine ret_own (.inl rfl) [0, 1, 2, 3, 4, 5, 6, 9, 10, 11, 13, 14, 16] (by decide) rfl ?_ ?_
                · simp only [go_sem]
                · simp only [go_sem]
              · replace h := ite_f h hb
                refine run_skip ?_
                refine blockK_n ?_
                obtain rfl := Option.some.inj h
                refine wkP_of ((weak_move_box 0 14 1 0 rfl rfl rfl (by simp only [go_sem]) (by first | exact Nat.zero_add _ | (subst_vars; exact tail_len (by assumption)))).trans ((weak_move_box 0 15 2 0 rfl rfl rfl (by simp only [go_sem]) (by first | exact Nat.zero_add _ | (subst_vars; exact tail_len (by assumption)))).trans ((weak_move_box 0 16 3 0 rfl rfl rfl (by simp only [go_sem]) (by first | exact Nat.zero_add _ | (subst_vars; exact tail_len (by assumption)))).trans ((weak_move_box 0 17 4 0 rfl rfl rfl (by simp only [go_sem]) (by first | exact Nat.zero_add _ | (subst_vars; exact tail_len (by assumption)))).trans ((weak_move_box 0 18 5 0 rfl rfl rfl (by simp only [go_sem]) (by first | exact Nat.zero_add _ | (subst_vars; exact tail_len (by assumption)))).trans ((weak_move_box 0 19 6 0 rfl rfl rfl (by simp only [go_sem]) (by first | exact Nat.zero_add _ | (subst_vars; exact tail_len (by assumption)))).trans (Weak.refl _ _))))))) ?_
                refine ret_own (.inl rfl) [0, 1, 2, 3, 4, 5, 6, 9, 10, 11, 12, 13, 14] (by decide) rfl ?_ ?_
                · simp only [go_sem]
                · simp only [go_sem]
            · replace h := ite_f h hb
              refine run_skip ?_
              refine blockK_n ?_
              obtain rfl := Option.some.inj h
              refine wkP_of ((weak_move_box 0 14 1 0 rfl rfl rfl (by simp only [go_sem]) (by first | exact Nat.zero_add _ | (subst_vars; exact tail_len (by assumption)))).trans ((weak_move_box 0 15 2 0 rfl rfl rfl (by simp only [go_sem]) (by first | exact Nat.zero_add _ | (subst_vars; exact tail_len (by assumption)))).trans ((weak_move_box 0 16 3 0 rfl rfl rfl (by simp only [go_sem]) (by first | exact Nat.zero_add _ | (subst_vars; exact tail_len (by assumption)))).trans ((weak_move_box 0 17 4 0 rfl rfl rfl (by simp only [go_sem]) (by first | exact Nat.zero_add _ | (subst_vars; exact tail_len (by assumption)))).trans ((weak_move_box 0 18 5 0 rfl rfl rfl (by simp only [go_sem]) (by first | exact Nat.zero_add _ | (subst_vars; exact tail_len (by assumption)))).trans ((weak_move_box 0 19 6 0 rfl rfl rfl (by simp only [go_sem]) (by first | exact Nat.zero_add _ | (subst_vars; exact tail_len (by assumption)))).trans (Weak.refl _ _))))))) ?_
              refine ret_own (.inl rfl) [0, 1, 2, 3, 4, 5, 6, 8, 9, 10, 11, 12, 13] (by decide) rfl ?_ ?_
              · simp only [go_sem]
              · simp only [go_sem]
  · subst hs_
    replace h := ite_f h (by decide)
    have aD : InR 1 2 := by decide
    replace h := lt1_some h; obtain ⟨q, bg, h⟩ := h
    refine run_textE hE [0, 3, 4, 5] (fr' := [(0, .ref 0 0), (3, .ref 7 0), (4, i64 1), (5, i64 q)]) (σ' := [.box [i64 a.p.1.Epoch, i64 a.p.1.Other, i64 a.p.1.First, .sl false (L (cSl cU8) a.p.1.Queue), i64 a.p.1.Next, .sl false (L cK a.p.1.Early), i64 a.p.1.SentAt, i64 a.p.2.Epoch, i64 a.p.2.Other, i64 a.p.2.First, .sl false (L (cSl cU8) a.p.2.Queue), i64 a.p.2.Next, .sl false (L cK a.p.2.Early), i64 a.p.2.SentAt, .bs false 1 (a.way.1.length) 0 (a.way.1.length), .bs false 2 (a.way.2.length) 0 (a.way.2.length), .bs false 3 (a.oz.1.length) 0 (a.oz.1.length), .bs false 4 (a.oz.2.length) 0 (a.oz.2.length), .bs false 5 (a.dz.1.length) 0 (a.dz.1.length), .bs false 6 (a.dz.2.length) 0 (a.dz.2.length), i64 a.now, i64 a.resets] false, .buf 5 (L cK a.way.1) false, .buf 5 (L cK a.way.2) false, .buf 1 (L (cSl cU8) a.oz.1) false, .buf 1 (L (cSl cU8) a.oz.2) false, .buf 1 (L (cSl cU8) a.dz.1) false, .buf 1 (L (cSl cU8) a.dz.2) false, .box [i64 c.Kind, i64 c.Side, i64 c.N, .sl false (L cU8 c.Data)] false]) ⟨_, orcs_nil, ?_⟩ ?_
    · subst bg; simp only [go_sem, Int.reduceToNat, castL, Int.reduceLT, Int.reduceAdd, Int.reduceSub, Nat.reduceMul, Nat.reduceGT, Nat.reduceLeDiff, decide_true, decide_false, Bool.false_eq_true, aD, aD.2]
    refine run_textE hE [0, 3, 4, 5, 23] (fr' := [(0, .ref 0 0), (3, .ref 7 0), (4, i64 1), (5, i64 q), (23, i64 ((and64 c.Kind 7)))]) (σ' := [.box [i64 a.p.1.Epoch, i64 a.p.1.Other, i64 a.p.1.First, .sl false (L (cSl cU8) a.p.1.Queue), i64 a.p.1.Next, .sl false (L cK a.p.1.Early), i64 a.p.1.SentAt, i64 a.p.2.Epoch, i64 a.p.2.Other, i64 a.p.2.First, .sl false (L (cSl cU8) a.p.2.Queue), i64 a.p.2.Next, .sl false (L cK a.p.2.Early), i64 a.p.2.SentAt, .bs false 1 (a.way.1.length) 0 (a.way.1.length), .bs false 2 (a.way.2.length) 0 (a.way.2.length), .bs false 3 (a.oz.1.length) 0 (a.oz.1.length), .bs false 4 (a.oz.2.length) 0 (a.oz.2.length), .bs false 5 (a.dz.1.length) 0 (a.dz.1.length), .bs false 6 (a.dz.2.length) 0 (a.dz.2.length), i64 a.now, i64 a.resets] false, .buf 5 (L cK a.way.1) false, .buf 5 (L cK a.way.2) false, .buf 1 (L (cSl cU8) a.oz.1) false, .buf 1 (L (cSl cU8) a.oz.2) false, .buf 1 (L (cSl cU8) a.dz.1) false, .buf 1 (L (cSl cU8) a.dz.2) false, .box [i64 c.Kind, i64 c.Side, i64 c.N, .sl false (L cU8 c.Data)] false]) ⟨_, orcs_nil, ?_⟩ ?_
    · simp only [go_sem, castL, Int.reduceLT, Int.reduceAdd, Int.reduceSub, Nat.reduceMul, Nat.reduceGT, Nat.reduceLeDiff, decide_true, decide_false, Bool.false_eq_true]
    refine run_block ?_
    replace h := bind_some1 h; obtain ⟨bB, aE, aF⟩ := h
    refine run_join (fun (v : Bool) => (⟨asFr 164 [(0, .ref 0 0), (3, .ref 7 0), (4, i64 1), (5, i64 q), (23, i64 ((and64 c.Kind 7))), (24, .bool v)], [.box [i64 a.p.1.Epoch, i64 a.p.1.Other, i64 a.p.1.First, .sl false (L (cSl cU8) a.p.1.Queue), i64 a.p.1.Next, .sl false (L cK a.p.1.Early), i64 a.p.1.SentAt, i64 a.p.2.Epoch, i64 a.p.2.Other, i64 a.p.2.First, .sl false (L (cSl cU8) a.p.2.Queue), i64 a.p.2.Next, .sl false (L cK a.p.2.Early), i64 a.p.2.SentAt, .bs false 1 (a.way.1.length) 0 (a.way.1.length), .bs false 2 (a.way.2.length) 0 (a.way.2.length), .bs false 3 (a.oz.1.length) 0 (a.oz.1.length), .bs false 4 (a.oz.2.length) 0 (a.oz.2.length), .bs false 5 (a.dz.1.length) 0 (a.dz.1.length), .bs false 6 (a.dz.2.length) 0 (a.dz.2.length), i64 a.now, i64 a.resets] false, .buf 5 (L cK a.way.1) false, .buf 5 (L cK a.way.2) false, .buf 1 (L (cSl cU8) a.oz.1) false, .buf 1 (L (cSl cU8) a.oz.2) false, .buf 1 (L (cSl cU8) a.dz.1) false, .buf 1 (L (cSl cU8) a.dz.2) false, .box [i64 c.Kind, i64 c.Side, i64 c.N, .sl false (L cU8 c.Data)] false]⟩ : St)) (fun v => v = bB) ?_ ?_
    · have h := aE; clear aE
      refine run_textE hE [0, 3, 4, 5, 23, 24] (fr' := [(0, .ref 0 0), (3, .ref 7 0), (4, i64 1), (5, i64 q), (23, i64 ((and64 c.Kind 7))), (24, .bool (((and64 c.Kind 7) == 0)))]) (σ' := [.box [i64 a.p.1.Epoch, i64 a.p.1.Other, i64 a.p.1.First, .sl false (L (cSl cU8) a.p.1.Queue), i64 a.p.1.Next, .sl false (L cK a.p.1.Early), i64 a.p.1.SentAt, i64 a.p.2.Epoch, i64 a.p.2.Other, i64 a.p.2.First, .sl false (L (cSl cU8) a.p.2.Queue), i64 a.p.2.Next, .sl false (L cK a.p.2.Early), i64 a.p.2.SentAt, .bs false 1 (a.way.1.length) 0 (a.way.1.length), .bs false 2 (a.way.2.length) 0 (a.way.2.length), .bs false 3 (a.oz.1.length) 0 (a.oz.1.length), .bs false 4 (a.oz.2.length) 0 (a.oz.2.length), .bs false 5 (a.dz.1.length) 0 (a.dz.1.length), .bs false 6 (a.dz.2.length) 0 (a.dz.2.length), i64 a.now, i64 a.resets] false, .buf 5 (L cK a.way.1) false, .buf 5 (L cK a.way.2) false, .buf 1 (L (cSl cU8) a.oz.1) false, .buf 1 (L (cSl cU8) a.oz.2) false, .buf 1 (L (cSl cU8) a.dz.1) false, .buf 1 (L (cSl cU8) a.dz.2) false, .box [i64 c.Kind, i64 c.Side, i64 c.N, .sl false (L cU8 c.Data)] false]) ⟨_, orcs_nil, ?_⟩ ?_
      · simp only [go_sem, castL, Int.reduceLT, Int.reduceAdd, Int.reduceSub, Nat.reduceMul, Nat.reduceGT, Nat.reduceLeDiff, decide_true, decide_false, Bool.false_eq_true]
      refine run_condL (b := ((and64 c.Kind 7) == 0)) rfl (by decide) (fun hb => ?_) (fun hb => ?_)
      · replace h := ite_t h hb
        refine run_skip ?_
        obtain rfl := Option.some.inj h
        exact joinK_n (((and64 c.Kind 7) == 0)) rfl (weak_sel [0, 1, 2, 3, 4, 5, 6, 7] (by decide) rfl (by simp only [go_sem]) (by simp only [go_sem]))
      · replace h := ite_f h hb
        refine run_textE0 hE wk_join [0, 3, 4, 5, 23, 24] (fr' := [(0, .ref 0 0), (3, .ref 7 0), (4, i64 1), (5, i64 q), (23, i64 ((and64 c.Kind 7))), (24, .bool (((and64 c.Kind 7) == 5)))]) (σ' := [.box [i64 a.p.1.Epoch, i64 a.p.1.Other, i64 a.p.1.First, .sl false (L (cSl cU8) a.p.1.Queue), i64 a.p.1.Next, .sl false (L cK a.p.1.Early), i64 a.p.1.SentAt, i64 a.p.2.Epoch, i64 a.p.2.Other, i64 a.p.2.First, .sl false (L (cSl cU8) a.p.2.Queue), i64 a.p.2.Next, .sl false (L cK a.p.2.Early), i64 a.p.2.SentAt, .bs false 1 (a.way.1.length) 0 (a.way.1.length), .bs false 2 (a.way.2.length) 0 (a.way.2.length), .bs false 3 (a.oz.1.length) 0 (a.oz.1.length), .bs false 4 (a.oz.2.length) 0 (a.oz.2.length), .bs false 5 (a.dz.1.length) 0 (a.dz.1.length), .bs false 6 (a.dz.2.length) 0 (a.dz.2.length), i64 a.now, i64 a.resets] false, .buf 5 (L cK a.way.1) false, .buf 5 (L cK a.way.2) false, .buf 1 (L (cSl cU8) a.oz.1) false, .buf 1 (L (cSl cU8) a.oz.2) false, .buf 1 (L (cSl cU8) a.dz.1) false, .buf 1 (L (cSl cU8) a.dz.2) false, .box [i64 c.Kind, i64 c.Side, i64 c.N, .sl false (L cU8 c.Data)] false]) ⟨_, orcs_nil, ?_⟩ ?_
        · simp only [go_sem, castL, Int.reduceLT, Int.reduceAdd, Int.reduceSub, Nat.reduceMul, Nat.reduceGT, Nat.reduceLeDiff, decide_true, decide_false, Bool.false_eq_true]
        obtain rfl := Option.some.inj h
        exact joinK_n (((and64 c.Kind 7) == 5)) rfl (weak_sel [0, 1, 2, 3, 4, 5, 6, 7] (by decide) rfl (by simp only [go_sem]) (by simp only [go_sem]))
    rintro bC rfl
    have h := aF; clear aF
    refine run_condL (b := bC) rfl (by decide) (fun hb => ?_) (fun hb => ?_)
    · replace h := ite_t h hb
      have aG : InR 1 2 := by decide
      replace h := bind_some1 h; obtain ⟨n, bh, h⟩ := h
      refine run_drawE hE mixed [[], [], [0], [0, 2], [0, 1, 2, 3], [0, 1, 2, 3, 4], [], [6], [0, 1, 2, 3, 4, 5, 6, 7], [0, 1, 2, 3, 4, 5, 6, 7, 8], [0, 1, 2, 3, 4, 5, 6, 7, 8, 9], [0, 1, 2, 3, 4, 5, 6, 7, 8, 9], [], [0, 1, 2, 3, 4, 5, 6, 7, 8, 9, 10, 12], [0, 1, 2, 3, 4, 5, 6, 7, 8, 9, 10, 11, 12, 13]] (by kernel_rfl) (by kernel_rfl) [0, 3, 4, 6, 7] (fr' := [(0, .ref 0 0), (3, .ref 7 0), (4, i64 1), (6, .ref 8 0), (7, i64 n.2)]) (σ' := [.box [i64 a.p.1.Epoch, i64 a.p.1.Other, i64 a.p.1.First, .sl false (L (cSl cU8) a.p.1.Queue), i64 a.p.1.Next, .sl false (L cK a.p.1.Early), i64 a.p.1.SentAt, i64 a.p.2.Epoch, i64 a.p.2.Other, i64 a.p.2.First, .sl false (L (cSl cU8) a.p.2.Queue), i64 a.p.2.Next, .sl false (L cK a.p.2.Early), i64 a.p.2.SentAt, .bs false 1 (a.way.1.length) 0 (a.way.1.length), .bs false 2 (a.way.2.length) 0 (a.way.2.length), .bs false 3 (a.oz.1.length) 0 (a.oz.1.length), .bs false 4 (a.oz.2.length) 0 (a.oz.2.length), .bs false 5 (a.dz.1.length) 0 (a.dz.1.length), .bs false 6 (a.dz.2.length) 0 (a.dz.2.length), i64 a.now, i64 a.resets] false, .buf 5 (L cK a.way.1) false, .buf 5 (L cK a.way.2) false, .buf 1 (L (cSl cU8) a.oz.1) false, .buf 1 (L (cSl cU8) a.oz.2) false, .buf 1 (L (cSl cU8) a.dz.1) false, .buf 1 (L (cSl cU8) a.dz.2) false, .box [i64 c.Kind, i64 c.Side, i64 c.N, .sl false (L cU8 c.Data)] false, .box [i64 n.1.Epoch, i64 n.1.Other, i64 n.1.First, .sl false (L (cSl cU8) n.1.Queue), i64 n.1.Next, .sl false (L cK n.1.Early), i64 n.1.SentAt] false]) ⟨_, orcs_ok (l := [(36, 14, [.agg [i64 a.p.2.Epoch, i64 a.p.2.Other, i64 a.p.2.First, .sl false (L (cSl cU8) a.p.2.Queue), i64 a.p.2.Next, .sl false (L cK a.p.2.Early), i64 a.p.2.SentAt], .sl false (L cU8 c.Data)], .tup [.agg [i64 n.1.Epoch, i64 n.1.Other, i64 n.1.First, .sl false (L (cSl cU8) n.1.Queue), i64 n.1.Next, .sl false (L cK n.1.Early), i64 n.1.SentAt], i64 n.2])]) ⟨window_Offer_con  bh, trivial⟩, ?_⟩ ?_
      · simp only [go_sem, Int.reduceToNat, Nat.reduceLeDiff, castL, Int.reduceLT, Int.reduceAdd, Int.reduceSub, Nat.reduceMul, Nat.reduceGT, Nat.reduceLeDiff, decide_true, decide_false, Bool.false_eq_true, aG, aG.2]
      refine run_textE hE [0, 3, 4, 6, 40] (fr' := [(0, .ref 0 0), (3, .ref 7 0), (4, i64 1), (6, .ref 8 0), (40, .bool ((n.2 == 0)))]) (σ' := [.box [i64 a.p.1.Epoch, i64 a.p.1.Other, i64 a.p.1.First, .sl false (L (cSl cU8) a.p.1.Queue), i64 a.p.1.Next, .sl false (L cK a.p.1.Early), i64 a.p.1.SentAt, i64 a.p.2.Epoch, i64 a.p.2.Other, i64 a.p.2.First, .sl false (L (cSl cU8) a.p.2.Queue), i64 a.p.2.Next, .sl false (L cK a.p.2.Early), i64 a.p.2.SentAt, .bs false 1 (a.way.1.length) 0 (a.way.1.length), .bs false 2 (a.way.2.length) 0 (a.way.2.length), .bs false 3 (a.oz.1.length) 0 (a.oz.1.length), .bs false 4 (a.oz.2.length) 0 (a.oz.2.length), .bs false 5 (a.dz.1.length) 0 (a.dz.1.length), .bs false 6 (a.dz.2.length) 0 (a.dz.2.length), i64 a.now, i64 a.resets] false, .buf 5 (L cK a.way.1) false, .buf 5 (L cK a.way.2) false, .buf 1 (L (cSl cU8) a.oz.1) false, .buf 1 (L (cSl cU8) a.oz.2) false, .buf 1 (L (cSl cU8) a.dz.1) false, .buf 1 (L (cSl cU8) a.dz.2) false, .box [i64 c.Kind, i64 c.Side, i64 c.N, .sl false (L cU8 c.Data)] false, .box [i64 n.1.Epoch, i64 n.1.Other, i64 n.1.First, .sl false (L (cSl cU8) n.1.Queue), i64 n.1.Next, .sl false (L cK n.1.Early), i64 n.1.SentAt] false]) ⟨_, orcs_nil, ?_⟩ ?_
      · simp only [go_sem, castL, Int.reduceLT, Int.reduceAdd, Int.reduceSub, Nat.reduceMul, Nat.reduceGT, Nat.reduceLeDiff, decide_true, decide_false, Bool.false_eq_true]
      refine run_condL (b := (n.2 == 0)) rfl (by decide) (fun hb => ?_) (fun hb => ?_)
      · replace h := ite_t h hb
        have aH : InR 1 2 := by decide
        refine run_drawE hE mixed [[], [], [], [0], [0, 3], [0, 1, 2, 3, 4], [0, 1, 2, 3, 4, 5]] (by kernel_rfl) (by kernel_rfl) [0, 3, 4] (fr' := [(0, .ref 0 0), (3, .ref 7 0), (4, i64 1)]) (σ' := [.box [i64 a.p.1.Epoch, i64 a.p.1.Other, i64 a.p.1.First, .sl false (L (cSl cU8) a.p.1.Queue), i64 a.p.1.Next, .sl false (L cK a.p.1.Early), i64 a.p.1.SentAt, i64 n.1.Epoch, i64 n.1.Other, i64 n.1.First, .sl false (L (cSl cU8) n.1.Queue), i64 n.1.Next, .sl false (L cK n.1.Early), i64 n.1.SentAt, .bs false 1 (a.way.1.length) 0 (a.way.1.length), .bs false 2 (a.way.2.length) 0 (a.way.2.length), .bs false 3 (a.oz.1.length) 0 (a.oz.1.length), .bs false 4 (a.oz.2.length) 0 (a.oz.2.length), .bs false 5 (a.dz.1.length) 0 (a.dz.1.length), .bs false 6 (a.dz.2.length) 0 (a.dz.2.length), i64 a.now, i64 a.resets] false, .buf 5 (L cK a.way.1) false, .buf 5 (L cK a.way.2) false, .buf 1 (L (cSl cU8) a.oz.1) false, .buf 1 (L (cSl cU8) a.oz.2) false, .buf 1 (L (cSl cU8) a.dz.1) false, .buf 1 (L (cSl cU8) a.dz.2) false, .box [i64 c.Kind, i64 c.Side, i64 c.N, .sl false (L cU8 c.Data)] false, .box [i64 n.1.Epoch, i64 n.1.Other, i64 n.1.First, .sl false (L (cSl cU8) n.1.Queue), i64 n.1.Next, .sl false (L cK n.1.Early), i64 n.1.SentAt] false]) ⟨_, orcs_nil, ?_⟩ ?_
        · simp only [go_sem, Int.reduceToNat, Nat.reduceLeDiff, castL, Int.reduceLT, Int.reduceAdd, Int.reduceSub, Nat.reduceMul, Nat.reduceGT, Nat.reduceLeDiff, decide_true, decide_false, Bool.false_eq_true, aH, aH.2]
        have aI : InR 1 2 := by decide
        replace h := chk_some h; obtain ⟨bi, h⟩ := h
        have aJ : InR 1 2 := by decide
        replace h := lt1_some h; obtain ⟨ac, bj, h⟩ := h
        refine run_drawS0 hE mixed [[], [], [], [], [2], [2, 4], [2, 3, 4, 5], [2, 3, 4, 5, 6], [], [8], [8, 9], [2, 3, 4, 5, 6, 7, 8, 9, 10], [0], [0, 12], [0, 1, 2, 3, 4, 5, 6, 7, 8, 9, 10, 11, 12, 13], [0, 1, 2, 3, 4, 5, 6, 7, 8, 9, 10, 11, 12, 13, 14]] (by kernel_rfl) [(59, 0)] [] [59] (by kernel_rfl) (wk_block wk_wkP) (fr' := [(59, .ref 0 0)]) (σ' := [.box [i64 a.p.1.Epoch, i64 a.p.1.Other, i64 a.p.1.First, .sl false (L (cSl cU8) a.p.1.Queue), i64 a.p.1.Next, .sl false (L cK a.p.1.Early), i64 a.p.1.SentAt, i64 n.1.Epoch, i64 n.1.Other, i64 n.1.First, .sl false (L (cSl cU8) n.1.Queue), i64 n.1.Next, .sl false (L cK n.1.Early), i64 n.1.SentAt, .bs false 1 (a.way.1.length) 0 (a.way.1.length), .bs false 2 (a.way.2.length) 0 (a.way.2.length), .bs false 3 (a.oz.1.length) 0 (a.oz.1.length), .bs false 4 (ac.length) 0 (ac.length), .bs false 5 (a.dz.1.length) 0 (a.dz.1.length), .bs false 6 (a.dz.2.length) 0 (a.dz.2.length), i64 a.now, i64 a.resets] false, .buf 5 (L cK a.way.1) false, .buf 5 (L cK a.way.2) false, .buf 1 (L (cSl cU8) a.oz.1) false, .buf 1 (L (cSl cU8) ac) false, .buf 1 (L (cSl cU8) a.dz.1) false, .buf 1 (L (cSl cU8) a.dz.2) false, .box [i64 c.Kind, i64 c.Side, i64 c.N, .sl false (L cU8 c.Data)] false, .box [i64 n.1.Epoch, i64 n.1.Other, i64 n.1.First, .sl false (L (cSl cU8) n.1.Queue), i64 n.1.Next, .sl false (L cK n.1.Early), i64 n.1.SentAt] false, .buf 1 (L (cSl cU8) (([c.Data] : List (List UInt8)))) false]) ⟨rfl, trivial⟩ ⟨_, _, orcs_nil, (by simp only [XOk]), ?_⟩ ?_
        · subst bj; simp only [go_sem, Nat.reduceBEq, Nat.reduceMul, Nat.reduceSub, Nat.reduceGT, Nat.reducePow, Nat.reduceLeDiff, Int.reduceToNat, castL, Int.reduceLT, Int.reduceAdd, Int.reduceSub, Nat.reduceMul, Nat.reduceGT, Nat.reduceLeDiff, decide_true, decide_false, Bool.false_eq_true, aI, aI.2, bi, aJ, aJ.2]
        refine blockK_n ?_
        obtain rfl := Option.some.inj h
        refine wkP_of ((weak_move_box 0 14 1 0 rfl rfl rfl (by simp only [go_sem]) (by first | exact Nat.zero_add _ | (subst_vars; exact tail_len (by assumption)))).trans ((weak_move_box 0 15 2 0 rfl rfl rfl (by simp only [go_sem]) (by first | exact Nat.zero_add _ | (subst_vars; exact tail_len (by assumption)))).trans ((weak_move_box 0 16 3 0 rfl rfl rfl (by simp only [go_sem]) (by first | exact Nat.zero_add _ | (subst_vars; exact tail_len (by assumption)))).trans ((weak_move_box 0 17 4 0 rfl rfl rfl (by simp only [go_sem]) (by first | exact Nat.zero_add _ | (subst_vars; exact tail_len (by assumption)))).trans ((weak_move_box 0 18 5 0 rfl rfl rfl (by simp only [go_sem]) (by first | exact Nat.zero_add _ | (subst_vars; exact tail_len (by assumption)))).trans ((weak_move_box 0 19 6 0 rfl rfl rfl (by simp only [go_sem]) (by first | exact Nat.zero_add _ | (subst_vars; exact tail_len (by assumption)))).trans (Weak.refl _ _))))))) ?_
        refine ret_own (.inl rfl) [0, 1, 2, 3, 4, 5, 6, 10, 11, 12, 13, 14, 15] (by decide) rfl ?_ ?_
        · simp only [go_sem]
        · simp only [go_sem]
      · replace h := ite_f h hb
        refine run_skip ?_
        refine blockK_n ?_
        obtain rfl := Option.some.inj h
        refine wkP_of ((weak_move_box 0 14 1 0 rfl rfl rfl (by simp only [go_sem]) (by first | exact Nat.zero_add _ | (subst_vars; exact tail_len (by assumption)))).trans ((weak_move_box 0 15 2 0 rfl rfl rfl (by simp only [go_sem]) (by first | exact Nat.zero_add _ | (subst_vars; exact tail_len (by assumption)))).trans ((weak_move_box 0 16 3 0 rfl rfl rfl (by simp only [go_sem]) (by first | exact Nat.zero_add _ | (subst_vars; exact tail_len (by assumption)))).trans ((weak_move_box 0 17 4 0 rfl rfl rfl (by simp only [go_sem]) (by first | exact Nat.zero_add _ | (subst_vars; exact tail_len (by assumption)))).trans ((weak_move_box 0 18 5 0 rfl rfl rfl (by simp only [go_sem]) (by first | exact Nat.zero_add _ | (subst_vars; exact tail_len (by assumption)))).trans ((weak_move_box 0 19 6 0 rfl rfl rfl (by simp only [go_sem]) (by first | exact Nat.zero_add _ | (subst_vars; exact tail_len (by assumption)))).trans (Weak.refl _ _))))))) ?_
        refine ret_own (.inl rfl) [0, 1, 2, 3, 4, 5, 6, 9, 10, 11, 12, 13, 14] (by decide) rfl ?_ ?_
        · simp only [go_sem]
        · simp only [go_sem]
    · replace h := ite_f h hb
      replace h := bind_some1 h; obtain ⟨bD, aK, aL⟩ := h
      refine run_join (fun (v : Bool) => (⟨asFr 164 [(0, .ref 0 0), (3, .ref 7 0), (4, i64 1), (5, i64 q), (23, i64 ((and64 c.Kind 7))), (62, .bool v)], [.box [i64 a.p.1.Epoch, i64 a.p.1.Other, i64 a.p.1.First, .sl false (L (cSl cU8) a.p.1.Queue), i64 a.p.1.Next, .sl false (L cK a.p.1.Early), i64 a.p.1.SentAt, i64 a.p.2.Epoch, i64 a.p.2.Other, i64 a.p.2.First, .sl false (L (cSl cU8) a.p.2.Queue), i64 a.p.2.Next, .sl false (L cK a.p.2.Early), i64 a.p.2.SentAt, .bs false 1 (a.way.1.length) 0 (a.way.1.length), .bs false 2 (a.way.2.length) 0 (a.way.2.length), .bs false 3 (a.oz.1.length) 0 (a.oz.1.length), .bs false 4 (a.oz.2.length) 0 (a.oz.2.length), .bs false 5 (a.dz.1.length) 0 (a.dz.1.length), .bs false 6 (a.dz.2.length) 0 (a.dz.2.length), i64 a.now, i64 a.resets] false, .buf 5 (L cK a.way.1) false, .buf 5 (L cK a.way.2) false, .buf 1 (L (cSl cU8) a.oz.1) false, .buf 1 (L (cSl cU8) a.oz.2) false, .buf 1 (L (cSl cU8) a.dz.1) false, .buf 1 (L (cSl cU8) a.dz.2) false, .box [i64 c.Kind, i64 c.Side, i64 c.N, .sl false (L cU8 c.Data)] false]⟩ : St)) (fun v => v = bD) ?_ ?_
      · have h := aK; clear aK
        refine run_textE hE [0, 3, 4, 5, 23, 62] (fr' := [(0, .ref 0 0), (3, .ref 7 0), (4, i64 1), (5, i64 q), (23, i64 ((and64 c.Kind 7))), (62, .bool (((and64 c.Kind 7) == 1)))]) (σ' := [.box [i64 a.p.1.Epoch, i64 a.p.1.Other, i64 a.p.1.First, .sl false (L (cSl cU8) a.p.1.Queue), i64 a.p.1.Next, .sl false (L cK a.p.1.Early), i64 a.p.1.SentAt, i64 a.p.2.Epoch, i64 a.p.2.Other, i64 a.p.2.First, .sl false (L (cSl cU8) a.p.2.Queue), i64 a.p.2.Next, .sl false (L cK a.p.2.Early), i64 a.p.2.SentAt, .bs false 1 (a.way.1.length) 0 (a.way.1.length), .bs false 2 (a.way.2.length) 0 (a.way.2.length), .bs false 3 (a.oz.1.length) 0 (a.oz.1.length), .bs false 4 (a.oz.2.length) 0 (a.oz.2.length), .bs false 5 (a.dz.1.length) 0 (a.dz.1.length), .bs false 6 (a.dz.2.length) 0 (a.dz.2.length), i64 a.now, i64 a.resets] false, .buf 5 (L cK a.way.1) false, .buf 5 (L cK a.way.2) false, .buf 1 (L (cSl cU8) a.oz.1) false, .buf 1 (L (cSl cU8) a.oz.2) false, .buf 1 (L (cSl cU8) a.dz.1) false, .buf 1 (L (cSl cU8) a.dz.2) false, .box [i64 c.Kind, i64 c.Side, i64 c.N, .sl false (L cU8 c.Data)] false]) ⟨_, orcs_nil, ?_⟩ ?_
        · simp only [go_sem, castL, Int.reduceLT, Int.reduceAdd, Int.reduceSub, Nat.reduceMul, Nat.reduceGT, Nat.reduceLeDiff, decide_true, decide_false, Bool.false_eq_true]
        refine run_condL (b := ((and64 c.Kind 7) == 1)) rfl (by decide) (fun hb => ?_) (fun hb => ?_)
        · replace h := ite_t h hb
          refine run_skip ?_
          obtain rfl := Option.some.inj h
          exact joinK_n (((and64 c.Kind 7) == 1)) rfl (weak_sel [0, 1, 2, 3, 4, 5, 6, 7] (by decide) rfl (by simp only [go_sem]) (by simp only [go_sem]))
        · replace h := ite_f h hb
          refine run_textE0 hE wk_join [0, 3, 4, 5, 23, 62] (fr' := [(0, .ref 0 0), (3, .ref 7 0), (4, i64 1), (5, i64 q), (23, i64 ((and64 c.Kind 7))), (62, .bool (((and64 c.Kind 7) == 6)))]) (σ' := [.box [i64 a.p.1.Epoch, i64 a.p.1.Other, i64 a.p.1.First, .sl false (L (cSl cU8) a.p.1.Queue), i64 a.p.1.Next, .sl false (L cK a.p.1.Early), i64 a.p.1.SentAt, i64 a.p.2.Epoch, i64 a.p.2.Other, i64 a.p.2.First, .sl false (L (cSl cU8) a.p.2.Queue), i64 a.p.2.Next, .sl false (L cK a.p.2.Early), i64 a.p.2.SentAt, .bs false 1 (a.way.1.length) 0 (a.way.1.length), .bs false 2 (a.way.2.length) 0 (a.way.2.length), .bs false 3 (a.oz.1.length) 0 (a.oz.1.length), .bs false 4 (a.oz.2.length) 0 (a.oz.2.length), .bs false 5 (a.dz.1.length) 0 (a.dz.1.length), .bs false 6 (a.dz.2.length) 0 (a.dz.2.length), i64 a.now, i64 a.resets] false, .buf 5 (L cK a.way.1) false, .buf 5 (L cK a.way.2) false, .buf 1 (L (cSl cU8) a.oz.1) false, .buf 1 (L (cSl cU8) a.oz.2) false, .buf 1 (L (cSl cU8) a.dz.1) false, .buf 1 (L (cSl cU8) a.dz.2) false, .box [i64 c.Kind, i64 c.Side, i64 c.N, .sl false (L cU8 c.Data)] false]) ⟨_, orcs_nil, ?_⟩ ?_
          · simp only [go_sem, castL, Int.reduceLT, Int.reduceAdd, Int.reduceSub, Nat.reduceMul, Nat.reduceGT, Nat.reduceLeDiff, decide_true, decide_false, Bool.false_eq_true]
          obtain rfl := Option.some.inj h
          exact joinK_n (((and64 c.Kind 7) == 6)) rfl (weak_sel [0, 1, 2, 3, 4, 5, 6, 7] (by decide) rfl (by simp only [go_sem]) (by simp only [go_sem]))
      rintro bE rfl
      have h := aL; clear aL
      refine run_condL (b := bE) rfl (by decide) (fun hb => ?_) (fun hb => ?_)
      · replace h := ite_t h hb
        replace h := lt1_some h; obtain ⟨a0, bk, h⟩ := h
        refine run_drawE hE mixed [[], [], [1], [1, 2], [1, 2, 3], [], [5], [5, 6], [1, 2, 3, 4, 5, 6, 7], [0, 1, 2, 3, 4, 5, 6, 7, 8], [0, 1, 2, 3, 4, 5, 6, 7, 8, 9], [0, 1, 2, 3, 4, 5, 6, 7, 8, 9, 10]] (by kernel_rfl) (by kernel_rfl) [0, 4] (fr' := [(0, .ref 0 0), (4, i64 1)]) (σ' := [.box [i64 a.p.1.Epoch, i64 a.p.1.Other, i64 a.p.1.First, .sl false (L (cSl cU8) a.p.1.Queue), i64 a.p.1.Next, .sl false (L cK a.p.1.Early), i64 a.p.1.SentAt, i64 a.p.2.Epoch, i64 a.p.2.Other, i64 a.p.2.First, .sl false (L (cSl cU8) a.p.2.Queue), i64 a.p.2.Next, .sl false (L cK a.p.2.Early), i64 a.p.2.SentAt, .bs false 1 (a.way.1.length) 0 (a.way.1.length), .bs false 2 (a.way.2.length) 0 (a.way.2.length), .bs false 3 (a.oz.1.length) 0 (a.oz.1.length), .bs false 4 (a.oz.2.length) 0 (a.oz.2.length), .bs false 5 (a.dz.1.length) 0 (a.dz.1.length), .bs false 6 (a.dz.2.length) 0 (a.dz.2.length), i64 a0, i64 a.resets] false, .buf 5 (L cK a.way.1) false, .buf 5 (L cK a.way.2) false, .buf 1 (L (cSl cU8) a.oz.1) false, .buf 1 (L (cSl cU8) a.oz.2) false, .buf 1 (L (cSl cU8) a.dz.1) false, .buf 1 (L (cSl cU8) a.dz.2) false, .box [i64 c.Kind, i64 c.Side, i64 c.N, .sl false (L cU8 c.Data)] false]) ⟨_, orcs_nil, ?_⟩ ?_
        · subst bk; simp only [go_sem, Nat.reduceLeDiff, castL, Int.reduceLT, Int.reduceAdd, Int.reduceSub, Nat.reduceMul, Nat.reduceGT, Nat.reduceLeDiff, decide_true, decide_false, Bool.false_eq_true]
        replace h := bind_some1 h; obtain ⟨e, bl, h⟩ := h
        refine run_textE0 hE (wk_block wk_wkP) [] (fr' := []) (σ' := [.box [i64 e.2.1.p.1.Epoch, i64 e.2.1.p.1.Other, i64 e.2.1.p.1.First, .sl false (L (cSl cU8) e.2.1.p.1.Queue), i64 e.2.1.p.1.Next, .sl false (L cK e.2.1.p.1.Early), i64 e.2.1.p.1.SentAt, i64 e.2.1.p.2.Epoch, i64 e.2.1.p.2.Other, i64 e.2.1.p.2.First, .sl false (L (cSl cU8) e.2.1.p.2.Queue), i64 e.2.1.p.2.Next, .sl false (L cK e.2.1.p.2.Early), i64 e.2.1.p.2.SentAt, .bs false 8 (e.2.1.way.1.length) 0 (e.2.1.way.1.length), .bs false 9 (e.2.1.way.2.length) 0 (e.2.1.way.2.length), .bs false 10 (e.2.1.oz.1.length) 0 (e.2.1.oz.1.length), .bs false 11 (e.2.1.oz.2.length) 0 (e.2.1.oz.2.length), .bs false 12 (e.2.1.dz.1.length) 0 (e.2.1.dz.1.length), .bs false 13 (e.2.1.dz.2.length) 0 (e.2.1.dz.2.length), i64 e.2.1.now, i64 e.2.1.resets] false, deadB e.2.2.1, deadB e.2.2.2.1, deadB e.2.2.2.2.1, deadB e.2.2.2.2.2.1, deadB e.2.2.2.2.2.2.1, deadB e.2.2.2.2.2.2.2, .box [i64 c.Kind, i64 c.Side, i64 c.N, .sl false (L cU8 c.Data)] false, .buf 5 (L cK e.2.1.way.1) false, .buf 5 (L cK e.2.1.way.2) false, .buf 1 (L (cSl cU8) e.2.1.oz.1) false, .buf 1 (L (cSl cU8) e.2.1.oz.2) false, .buf 1 (L (cSl cU8) e.2.1.dz.1) false, .buf 1 (L (cSl cU8) e.2.1.dz.2) false]) ⟨_, orcs_ok2 (l := []) (m := [(78, 46, [.ref 0 0, i64 1], [.box [i64 a.p.1.Epoch, i64 a.p.1.Other, i64 a.p.1.First, .sl false (L (cSl cU8) a.p.1.Queue), i64 a.p.1.Next, .sl false (L cK a.p.1.Early), i64 a.p.1.SentAt, i64 a.p.2.Epoch, i64 a.p.2.Other, i64 a.p.2.First, .sl false (L (cSl cU8) a.p.2.Queue), i64 a.p.2.Next, .sl false (L cK a.p.2.Early), i64 a.p.2.SentAt, .bs false 1 (a.way.1.length) 0 (a.way.1.length), .bs false 2 (a.way.2.length) 0 (a.way.2.length), .bs false 3 (a.oz.1.length) 0 (a.oz.1.length), .bs false 4 (a.oz.2.length) 0 (a.oz.2.length), .bs false 5 (a.dz.1.length) 0 (a.dz.1.length), .bs false 6 (a.dz.2.length) 0 (a.dz.2.length), i64 a0, i64 a.resets] false, .buf 5 (L cK a.way.1) false, .buf 5 (L cK a.way.2) false, .buf 1 (L (cSl cU8) a.oz.1) false, .buf 1 (L (cSl cU8) a.oz.2) false, .buf 1 (L (cSl cU8) a.dz.1) false, .buf 1 (L (cSl cU8) a.dz.2) false, .box [i64 c.Kind, i64 c.Side, i64 c.N, .sl false (L cU8 c.Data)] false], .sl false (L cK e.1), [.box [i64 e.2.1.p.1.Epoch, i64 e.2.1.p.1.Other, i64 e.2.1.p.1.First, .sl false (L (cSl cU8) e.2.1.p.1.Queue), i64 e.2.1.p.1.Next, .sl false (L cK e.2.1.p.1.Early), i64 e.2.1.p.1.SentAt, i64 e.2.1.p.2.Epoch, i64 e.2.1.p.2.Other, i64 e.2.1.p.2.First, .sl false (L (cSl cU8) e.2.1.p.2.Queue), i64 e.2.1.p.2.Next, .sl false (L cK e.2.1.p.2.Early), i64 e.2.1.p.2.SentAt, .bs false 8 (e.2.1.way.1.length) 0 (e.2.1.way.1.length), .bs false 9 (e.2.1.way.2.length) 0 (e.2.1.way.2.length), .bs false 10 (e.2.1.oz.1.length) 0 (e.2.1.oz.1.length), .bs false 11 (e.2.1.oz.2.length) 0 (e.2.1.oz.2.length), .bs false 12 (e.2.1.dz.1.length) 0 (e.2.1.dz.1.length), .bs false 13 (e.2.1.dz.2.length) 0 (e.2.1.dz.2.length), i64 e.2.1.now, i64 e.2.1.resets] false, deadB e.2.2.1, deadB e.2.2.2.1, deadB e.2.2.2.2.1, deadB e.2.2.2.2.2.1, deadB e.2.2.2.2.2.2.1, deadB e.2.2.2.2.2.2.2, .box [i64 c.Kind, i64 c.Side, i64 c.N, .sl false (L cU8 c.Data)] false, .buf 5 (L cK e.2.1.way.1) false, .buf 5 (L cK e.2.1.way.2) false, .buf 1 (L (cSl cU8) e.2.1.oz.1) false, .buf 1 (L (cSl cU8) e.2.1.oz.2) false, .buf 1 (L (cSl cU8) e.2.1.dz.1) false, .buf 1 (L (cSl cU8) e.2.1.dz.2) false])]) trivial ⟨(wcon_call (law12_pair_emit_c1_con bl) [0, 1, 2, 3, 4, 5, 6] (by decide) (by simp only [go_sem]) (by simp only [go_sem]) (by simp only [go_sem]) (by simp only [go_sem]) (by simp only [go_sem])), trivial⟩, ?_⟩ ?_
        · simp only [go_sem, castL, Int.reduceLT, Int.reduceAdd, Int.reduceSub, Nat.reduceMul, Nat.reduceGT, Nat.reduceLeDiff, decide_true, decide_false, Bool.false_eq_true]
        refine blockK_n ?_
        obtain rfl := Option.some.inj h
        refine wkP_of (Weak.refl _ _) ?_
        refine ret_own (.inl rfl) [0, 1, 2, 3, 4, 5, 6, 8, 9, 10, 11, 12, 13] (by decide) rfl ?_ ?_
        · simp only [go_sem]
        · simp only [go_sem]
      · replace h := ite_f h hb
        replace h := bind_some1 h; obtain ⟨bF, aM, aN⟩ := h
        refine run_join (fun (v : Bool) => (⟨asFr 164 [(0, .ref 0 0), (3, .ref 7 0), (4, i64 1), (5, i64 q), (23, i64 ((and64 c.Kind 7))), (79, .bool v)], [.box [i64 a.p.1.Epoch, i64 a.p.1.Other, i64 a.p.1.First, .sl false (L (cSl cU8) a.p.1.Queue), i64 a.p.1.Next, .sl false (L cK a.p.1.Early), i64 a.p.1.SentAt, i64 a.p.2.Epoch, i64 a.p.2.Other, i64 a.p.2.First, .sl false (L (cSl cU8) a.p.2.Queue), i64 a.p.2.Next, .sl false (L cK a.p.2.Early), i64 a.p.2.SentAt, .bs false 1 (a.way.1.length) 0 (a.way.1.length), .bs false 2 (a.way.2.length) 0 (a.way.2.length), .bs false 3 (a.oz.1.length) 0 (a.oz.1.length), .bs false 4 (a.oz.2.length) 0 (a.oz.2.length), .bs false 5 (a.dz.1.length) 0 (a.dz.1.length), .bs false 6 (a.dz.2.length) 0 (a.dz.2.length), i64 a.now, i64 a.resets] false, .buf 5 (L cK a.way.1) false, .buf 5 (L cK a.way.2) false, .buf 1 (L (cSl cU8) a.oz.1) false, .buf 1 (L (cSl cU8) a.oz.2) false, .buf 1 (L (cSl cU8) a.dz.1) false, .buf 1 (L (cSl cU8) a.dz.2) false, .box [i64 c.Kind, i64 c.Side, i64 c.N, .sl false (L cU8 c.Data)] false]⟩ : St)) (fun v => v = bF) ?_ ?_
        · have h := aM; clear aM
          refine run_textE hE [0, 3, 4, 5, 23, 79] (fr' := [(0, .ref 0 0), (3, .ref 7 0), (4, i64 1), (5, i64 q), (23, i64 ((and64 c.Kind 7))), (79, .bool (((and64 c.Kind 7) == 2)))]) (σ' := [.box [i64 a.p.1.Epoch, i64 a.p.1.Other, i64 a.p.1.First, .sl false (L (cSl cU8) a.p.1.Queue), i64 a.p.1.Next, .sl false (L cK a.p.1.Early), i64 a.p.1.SentAt, i64 a.p.2.Epoch, i64 a.p.2.Other, i64 a.p.2.First, .sl false (L (cSl cU8) a.p.2.Queue), i64 a.p.2.Next, .sl false (L cK a.p.2.Early), i64 a.p.2.SentAt, .bs false 1 (a.way.1.length) 0 (a.way.1.length), .bs false 2 (a.way.2.length) 0 (a.way.2.length), .bs false 3 (a.oz.1.length) 0 (a.oz.1.length), .bs false 4 (a.oz.2.length) 0 (a.oz.2.length), .bs false 5 (a.dz.1.length) 0 (a.dz.1.length), .bs false 6 (a.dz.2.length) 0 (a.dz.2.length), i64 a.now, i64 a.resets] false, .buf 5 (L cK a.way.1) false, .buf 5 (L cK a.way.2) false, .buf 1 (L (cSl cU8) a.oz.1) false, .buf 1 (L (cSl cU8) a.oz.2) false, .buf 1 (L (cSl cU8) a.dz.1) false, .buf 1 (L (cSl cU8) a.dz.2) false, .box [i64 c.Kind, i64 c.Side, i64 c.N, .sl false (L cU8 c.Data)] false]) ⟨_, orcs_nil, ?_⟩ ?_
          · simp only [go_sem, castL, Int.reduceLT, Int.reduceAdd, Int.reduceSub, Nat.reduceMul, Nat.reduceGT, Nat.reduceLeDiff, decide_true, decide_false, Bool.false_eq_true]
          refine run_condL (b := ((and64 c.Kind 7) == 2)) rfl (by decide) (fun hb => ?_) (fun hb => ?_)
          · replace h := ite_t h hb
            refine run_skip ?_
            obtain rfl := Option.some.inj h
            exact joinK_n (((and64 c.Kind 7) == 2)) rfl (weak_sel [0, 1, 2, 3, 4, 5, 6, 7] (by decide) rfl (by simp only [go_sem]) (by simp only [go_sem]))
          · replace h := ite_f h hb
            refine run_textE0 hE wk_join [0, 3, 4, 5, 23, 79] (fr' := [(0, .ref 0 0), (3, .ref 7 0), (4, i64 1), (5, i64 q), (23, i64 ((and64 c.Kind 7))), (79, .bool (((and64 c.Kind 7) == 7)))]) (σ' := [.box [i64 a.p.1.Epoch, i64 a.p.1.Other, i64 a.p.1.First, .sl false (L (cSl cU8) a.p.1.Queue), i64 a.p.1.Next, .sl false (L cK a.p.1.Early), i64 a.p.1.SentAt, i64 a.p.2.Epoch, i64 a.p.2.Other, i64 a.p.2.First, .sl false (L (cSl cU8) a.p.2.Queue), i64 a.p.2.Next, .sl false (L cK a.p.2.Early), i64 a.p.2.SentAt, .bs false 1 (a.way.1.length) 0 (a.way.1.length), .bs false 2 (a.way.2.length) 0 (a.way.2.length), .bs false 3 (a.oz.1.length) 0 (a.oz.1.length), .bs false 4 (a.oz.2.length) 0 (a.oz.2.length), .bs false 5 (a.dz.1.length) 0 (a.dz.1.length), .bs false 6 (a.dz.2.length) 0 (a.dz.2.length), i64 a.now, i64 a.resets] false, .buf 5 (L cK a.way.1) false, .buf 5 (L cK a.way.2) false, .buf 1 (L (cSl cU8) a.oz.1) false, .buf 1 (L (cSl cU8) a.oz.2) false, .buf 1 (L (cSl cU8) a.dz.1) false, .buf 1 (L (cSl cU8) a.dz.2) false, .box [i64 c.Kind, i64 c.Side, i64 c.N, .sl false (L cU8 c.Data)] false]) ⟨_, orcs_nil, ?_⟩ ?_
            · simp only [go_sem, castL, Int.reduceLT, Int.reduceAdd, Int.reduceSub, Nat.reduceMul, Nat.reduceGT, Nat.reduceLeDiff, decide_true, decide_false, Bool.false_eq_true]
            obtain rfl := Option.some.inj h
            exact joinK_n (((and64 c.Kind 7) == 7)) rfl (weak_sel [0, 1, 2, 3, 4, 5, 6, 7] (by decide) rfl (by simp only [go_sem]) (by simp only [go_sem]))
        rintro bG rfl
        have h := aN; clear aN
        refine run_condL (b := bG) rfl (by decide) (fun hb => ?_) (fun hb => ?_)
        · replace h := ite_t h hb
          refine run_textE hE [0, 3, 4, 5, 83] (fr' := [(0, .ref 0 0), (3, .ref 7 0), (4, i64 1), (5, i64 q), (83, .bool ((decide (q > 0))))]) (σ' := [.box [i64 a.p.1.Epoch, i64 a.p.1.Other, i64 a.p.1.First, .sl false (L (cSl cU8) a.p.1.Queue), i64 a.p.1.Next, .sl false (L cK a.p.1.Early), i64 a.p.1.SentAt, i64 a.p.2.Epoch, i64 a.p.2.Other, i64 a.p.2.First, .sl false (L (cSl cU8) a.p.2.Queue), i64 a.p.2.Next, .sl false (L cK a.p.2.Early), i64 a.p.2.SentAt, .bs false 1 (a.way.1.length) 0 (a.way.1.length), .bs false 2 (a.way.2.length) 0 (a.way.2.length), .bs false 3 (a.oz.1.length) 0 (a.oz.1.length), .bs false 4 (a.oz.2.length) 0 (a.oz.2.length), .bs false 5 (a.dz.1.length) 0 (a.dz.1.length), .bs false 6 (a.dz.2.length) 0 (a.dz.2.length), i64 a.now, i64 a.resets] false, .buf 5 (L cK a.way.1) false, .buf 5 (L cK a.way.2) false, .buf 1 (L (cSl cU8) a.oz.1) false, .buf 1 (L (cSl cU8) a.oz.2) false, .buf 1 (L (cSl cU8) a.dz.1) false, .buf 1 (L (cSl cU8) a.dz.2) false, .box [i64 c.Kind, i64 c.Side, i64 c.N, .sl false (L cU8 c.Data)] false]) ⟨_, orcs_nil, ?_⟩ ?_
          · simp only [go_sem, castL, Int.reduceLT, Int.reduceAdd, Int.reduceSub, Nat.reduceMul, Nat.reduceGT, Nat.reduceLeDiff, decide_true, decide_false, Bool.false_eq_true]
          refine run_condL (b := (decide (q > 0))) rfl (by decide) (fun hb => ?_) (fun hb => ?_)
          · replace h := ite_t h hb
            have aO : InR 1 2 := by decide
            replace h := bind_some1 h; obtain ⟨t, bm, h⟩ := h
            replace h := chk_some h; obtain ⟨w, h⟩ := h
            replace h := bind_some1 h; obtain ⟨g, bn, h⟩ := h
            refine run_drawE0 hE mixed [[], [], [], [], [2], [2, 4], [2, 3, 4, 5], [2, 3, 4, 5, 6], [], [8], [], [8, 9, 10], [2, 3, 4, 5, 6, 7, 8, 9, 10, 11], [2, 3, 4, 5, 6, 7, 8, 9, 10, 11, 12], [0, 1, 2, 3, 4, 5, 6, 7, 8, 9, 10, 11, 12, 13]] (by kernel_rfl) (by kernel_rfl) (wk_block wk_wkP) [] (fr' := []) (σ' := [.box [i64 g.1.p.1.Epoch, i64 g.1.p.1.Other, i64 g.1.p.1.First, .sl false (L (cSl cU8) g.1.p.1.Queue), i64 g.1.p.1.Next, .sl false (L cK g.1.p.1.Early), i64 g.1.p.1.SentAt, i64 g.1.p.2.Epoch, i64 g.1.p.2.Other, i64 g.1.p.2.First, .sl false (L (cSl cU8) g.1.p.2.Queue), i64 g.1.p.2.Next, .sl false (L cK g.1.p.2.Early), i64 g.1.p.2.SentAt, .bs false 8 (g.1.way.1.length) 0 (g.1.way.1.length), .bs false 9 (g.1.way.2.length) 0 (g.1.way.2.length), .bs false 10 (g.1.oz.1.length) 0 (g.1.oz.1.length), .bs false 11 (g.1.oz.2.length) 0 (g.1.oz.2.length), .bs false 12 (g.1.dz.1.length) 0 (g.1.dz.1.length), .bs false 13 (g.1.dz.2.length) 0 (g.1.dz.2.length), i64 g.1.now, i64 g.1.resets] false, deadB g.2.1, deadB g.2.2.1, deadB g.2.2.2.1, deadB g.2.2.2.2.1, deadB g.2.2.2.2.2.1, deadB g.2.2.2.2.2.2, .box [i64 c.Kind, i64 c.Side, i64 c.N, .sl false (L cU8 c.Data)] false, .buf 5 (L cK g.1.way.1) false, .buf 5 (L cK g.1.way.2) false, .buf 1 (L (cSl cU8) g.1.oz.1) false, .buf 1 (L (cSl cU8) g.1.oz.2) false, .buf 1 (L (cSl cU8) g.1.dz.1) false, .buf 1 (L (cSl cU8) g.1.dz.2) false]) ⟨_, orcs_ok2 (l := [(95, 27, [i64 c.N, i64 q], i64 t)]) (m := [(98, 47, [.ref 0 0, i64 1, .agg [i64 ((nth a.way.2 t.toNat).Epoch), i64 ((nth a.way.2 t.toNat).To), i64 ((nth a.way.2 t.toNat).Seq), i64 ((nth a.way.2 t.toNat).Ack), .sl false (L cU8 ((nth a.way.2 t.toNat).Data))]], [.box [i64 a.p.1.Epoch, i64 a.p.1.Other, i64 a.p.1.First, .sl false (L (cSl cU8) a.p.1.Queue), i64 a.p.1.Next, .sl false (L cK a.p.1.Early), i64 a.p.1.SentAt, i64 a.p.2.Epoch, i64 a.p.2.Other, i64 a.p.2.First, .sl false (L (cSl cU8) a.p.2.Queue), i64 a.p.2.Next, .sl false (L cK a.p.2.Early), i64 a.p.2.SentAt, .bs false 1 (a.way.1.length) 0 (a.way.1.length), .bs false 2 (a.way.2.length) 0 (a.way.2.length), .bs false 3 (a.oz.1.length) 0 (a.oz.1.length), .bs false 4 (a.oz.2.length) 0 (a.oz.2.length), .bs false 5 (a.dz.1.length) 0 (a.dz.1.length), .bs false 6 (a.dz.2.length) 0 (a.dz.2.length), i64 a.now, i64 a.resets] false, .buf 5 (L cK a.way.1) false, .buf 5 (L cK a.way.2) false, .buf 1 (L (cSl cU8) a.oz.1) false, .buf 1 (L (cSl cU8) a.oz.2) false, .buf 1 (L (cSl cU8) a.dz.1) false, .buf 1 (L (cSl cU8) a.dz.2) false, .box [i64 c.Kind, i64 c.Side, i64 c.N, .sl false (L cU8 c.Data)] false], .tup [], [.box [i64 g.1.p.1.Epoch, i64 g.1.p.1.Other, i64 g.1.p.1.First, .sl false (L (cSl cU8) g.1.p.1.Queue), i64 g.1.p.1.Next, .sl false (L cK g.1.p.1.Early), i64 g.1.p.1.SentAt, i64 g.1.p.2.Epoch, i64 g.1.p.2.Other, i64 g.1.p.2.First, .sl false (L (cSl cU8) g.1.p.2.Queue), i64 g.1.p.2.Next, .sl false (L cK g.1.p.2.Early), i64 g.1.p.2.SentAt, .bs false 8 (g.1.way.1.length) 0 (g.1.way.1.length), .bs false 9 (g.1.way.2.length) 0 (g.1.way.2.length), .bs false 10 (g.1.oz.1.length) 0 (g.1.oz.1.length), .bs false 11 (g.1.oz.2.length) 0 (g.1.oz.2.length), .bs false 12 (g.1.dz.1.length) 0 (g.1.dz.1.length), .bs false 13 (g.1.dz.2.length) 0 (g.1.dz.2.length), i64 g.1.now, i64 g.1.resets] false, deadB g.2.1, deadB g.2.2.1, deadB g.2.2.2.1, deadB g.2.2.2.2.1, deadB g.2.2.2.2.2.1, deadB g.2.2.2.2.2.2, .box [i64 c.Kind, i64 c.Side, i64 c.N, .sl false (L cU8 c.Data)] false, .buf 5 (L cK g.1.way.1) false, .buf 5 (L cK g.1.way.2) false, .buf 1 (L (cSl cU8) g.1.oz.1) false, .buf 1 (L (cSl cU8) g.1.oz.2) false, .buf 1 (L (cSl cU8) g.1.dz.1) false, .buf 1 (L (cSl cU8) g.1.dz.2) false])]) ⟨law12_at_con  bm, trivial⟩ ⟨(wcon_call (law12_pair_accept_c1_con bn) [0, 1, 2, 3, 4, 5, 6] (by decide) (by simp only [go_sem]) (by simp only [go_sem]) (by simp only [go_sem]) (by simp only [go_sem]) (by simp only [go_sem])), trivial⟩, ?_⟩ ?_
            · simp only [go_sem, Int.reduceToNat, castL, Int.reduceLT, Int.reduceAdd, Int.reduceSub, Nat.reduceMul, Nat.reduceGT, Nat.reduceLeDiff, decide_true, decide_false, Bool.false_eq_true, aO, aO.2, w, w.2, lt_le w.2]
            refine blockK_n ?_
            obtain rfl := Option.some.inj h
            refine wkP_of (Weak.refl _ _) ?_
            refine ret_own (.inl rfl) [0, 1, 2, 3, 4, 5, 6, 8, 9, 10, 11, 12, 13] (by decide) rfl ?_ ?_
            · simp only [go_sem]
            · simp only [go_sem]
          · replace h := ite_f h hb
            refine run_skip ?_
            refine blockK_n ?_
            obtain rfl := Option.some.inj h
            refine wkP_of ((weak_move_box 0 14 1 0 rfl rfl rfl (by simp only [go_sem]) (by first | exact Nat.zero_add _ | (subst_vars; exact tail_len (by assumption)))).trans ((weak_move_box 0 15 2 0 rfl rfl rfl (by simp only [go_sem]) (by first | exact Nat.zero_add _ | (subst_vars; exact tail_len (by assumption)))).trans ((weak_move_box 0 16 3 0 rfl rfl rfl (by simp only [go_sem]) (by first | exact Nat.zero_add _ | (subst_vars; exact tail_len (by assumption)))).trans ((weak_move_box 0 17 4 0 rfl rfl rfl (by simp only [go_sem]) (by first | exact Nat.zero_add _ | (subst_vars; exact tail_len (by assumption)))).trans ((weak_move_box 0 18 5 0 rfl rfl rfl (by simp only [go_sem]) (by first | exact Nat.zero_add _ | (subst_vars; exact tail_len (by assumption)))).trans ((weak_move_box 0 19 6 0 rfl rfl rfl (by simp only [go_sem]) (by first | exact Nat.zero_add _ | (subst_vars; exact tail_len (by assumption)))).trans (Weak.refl _ _))))))) ?_
            refine ret_own (.inl rfl) [0, 1, 2, 3, 4, 5, 6, 8, 9, 10, 11, 12, 13] (by decide) rfl ?_ ?_
            · simp only [go_sem]
            · simp only [go_sem]
        · replace h := ite_f h hb
          refine run_textE hE [0, 3, 4, 5, 23, 99] (fr' := [(0, .ref 0 0), (3, .ref 7 0), (4, i64 1), (5, i64 q), (23, i64 ((and64 c.Kind 7))), (99, .bool (((and64 c.Kind 7) == 3)))]) (σ' := [.box [i64 a.p.1.Epoch, i64 a.p.1.Other, i64 a.p.1.First, .sl false (L (cSl cU8) a.p.1.Queue), i64 a.p.1.Next, .sl false (L cK a.p.1.Early), i64 a.p.1.SentAt, i64 a.p.2.Epoch, i64 a.p.2.Other, i64 a.p.2.First, .sl false (L (cSl cU8) a.p.2.Queue), i64 a.p.2.Next, .sl false (L cK a.p.2.Early), i64 a.p.2.SentAt, .bs false 1 (a.way.1.length) 0 (a.way.1.length), .bs false 2 (a.way.2.length) 0 (a.way.2.length), .bs false 3 (a.oz.1.length) 0 (a.oz.1.length), .bs false 4 (a.oz.2.length) 0 (a.oz.2.length), .bs false 5 (a.dz.1.length) 0 (a.dz.1.length), .bs false 6 (a.dz.2.length) 0 (a.dz.2.length), i64 a.now, i64 a.resets] false, .buf 5 (L cK a.way.1) false, .buf 5 (L cK a.way.2) false, .buf 1 (L (cSl cU8) a.oz.1) false, .buf 1 (L (cSl cU8) a.oz.2) false, .buf 1 (L (cSl cU8) a.dz.1) false, .buf 1 (L (cSl cU8) a.dz.2) false, .box [i64 c.Kind, i64 c.Side, i64 c.N, .sl false (L cU8 c.Data)] false]) ⟨_, orcs_nil, ?_⟩ ?_
          · simp only [go_sem, castL, Int.reduceLT, Int.reduceAdd, Int.reduceSub, Nat.reduceMul, Nat.reduceGT, Nat.reduceLeDiff, decide_true, decide_false, Bool.false_eq_true]
          refine run_condL (b := ((and64 c.Kind 7) == 3)) rfl (by decide) (fun hb => ?_) (fun hb => ?_)
          · replace h := ite_t h hb
            refine run_textE hE [0, 3, 4, 5, 102] (fr' := [(0, .ref 0 0), (3, .ref 7 0), (4, i64 1), (5, i64 q), (102, .bool ((decide (q > 0))))]) (σ' := [.box [i64 a.p.1.Epoch, i64 a.p.1.Other, i64 a.p.1.First, .sl false (L (cSl cU8) a.p.1.Queue), i64 a.p.1.Next, .sl false (L cK a.p.1.Early), i64 a.p.1.SentAt, i64 a.p.2.Epoch, i64 a.p.2.Other, i64 a.p.2.First, .sl false (L (cSl cU8) a.p.2.Queue), i64 a.p.2.Next, .sl false (L cK a.p.2.Early), i64 a.p.2.SentAt, .bs false 1 (a.way.1.length) 0 (a.way.1.length), .bs false 2 (a.way.2.length) 0 (a.way.2.length), .bs false 3 (a.oz.1.length) 0 (a.oz.1.length), .bs false 4 (a.oz.2.length) 0 (a.oz.2.length), .bs false 5 (a.dz.1.length) 0 (a.dz.1.length), .bs false 6 (a.dz.2.length) 0 (a.dz.2.length), i64 a.now, i64 a.resets] false, .buf 5 (L cK a.way.1) false, .buf 5 (L cK a.way.2) false, .buf 1 (L (cSl cU8) a.oz.1) false, .buf 1 (L (cSl cU8) a.oz.2) false, .buf 1 (L (cSl cU8) a.dz.1) false, .buf 1 (L (cSl cU8) a.dz.2) false, .box [i64 c.Kind, i64 c.Side, i64 c.N, .sl false (L cU8 c.Data)] false]) ⟨_, orcs_nil, ?_⟩ ?_
            · simp only [go_sem, castL, Int.reduceLT, Int.reduceAdd, Int.reduceSub, Nat.reduceMul, Nat.reduceGT, Nat.reduceLeDiff, decide_true, decide_false, Bool.false_eq_true]
            refine run_condL (b := (decide (q > 0))) rfl (by decide) (fun hb => ?_) (fun hb => ?_)
            · replace h := ite_t h hb
              replace h := bind_some1 h; obtain ⟨a1, bo, h⟩ := h
              refine run_textE hE [0, 4, 8] (fr' := [(0, .ref 0 0), (4, i64 1), (8, i64 a1)]) (σ' := [.box [i64 a.p.1.Epoch, i64 a.p.1.Other, i64 a.p.1.First, .sl false (L (cSl cU8) a.p.1.Queue), i64 a.p.1.Next, .sl false (L cK a.p.1.Early), i64 a.p.1.SentAt, i64 a.p.2.Epoch, i64 a.p.2.Other, i64 a.p.2.First, .sl false (L (cSl cU8) a.p.2.Queue), i64 a.p.2.Next, .sl false (L cK a.p.2.Early), i64 a.p.2.SentAt, .bs false 1 (a.way.1.length) 0 (a.way.1.length), .bs false 2 (a.way.2.length) 0 (a.way.2.length), .bs false 3 (a.oz.1.length) 0 (a.oz.1.length), .bs false 4 (a.oz.2.length) 0 (a.oz.2.length), .bs false 5 (a.dz.1.length) 0 (a.dz.1.length), .bs false 6 (a.dz.2.length) 0 (a.dz.2.length), i64 a.now, i64 a.resets] false, .buf 5 (L cK a.way.1) false, .buf 5 (L cK a.way.2) false, .buf 1 (L (cSl cU8) a.oz.1) false, .buf 1 (L (cSl cU8) a.oz.2) false, .buf 1 (L (cSl cU8) a.dz.1) false, .buf 1 (L (cSl cU8) a.dz.2) false, .box [i64 c.Kind, i64 c.Side, i64 c.N, .sl false (L cU8 c.Data)] false]) ⟨_, orcs_ok (l := [(106, 27, [i64 c.N, i64 q], i64 a1)]) ⟨law12_at_con  bo, trivial⟩, ?_⟩ ?_
              · simp only [go_sem, castL, Int.reduceLT, Int.reduceAdd, Int.reduceSub, Nat.reduceMul, Nat.reduceGT, Nat.reduceLeDiff, decide_true, decide_false, Bool.false_eq_true]
              have aP : InR 1 2 := by decide
              replace h := chk_some h; obtain ⟨bp, h⟩ := h
              replace h := chk_some h; obtain ⟨aQ, h⟩ := h
              have ad := aQ; simp only [List.cons_append, List.nil_append, List.length_append, List.length_cons, List.length_nil, Nat.zero_add, Nat.reduceAdd] at ad
              have aR : InR 1 2 := by decide
              replace h := chk_some h; obtain ⟨bq, h⟩ := h
              replace h := chk_some h; obtain ⟨aS, h⟩ := h
              have ae := aS; simp only [List.cons_append, List.nil_append, List.length_append, List.length_cons, List.length_nil, Nat.zero_add, Nat.reduceAdd] at ae
              have aT : InR 1 2 := by decide
              replace h := lt1_some h; obtain ⟨af, br, h⟩ := h
              refine run_drawT0 hE mixed [[], [], [], [], [], [3], [3, 5], [3, 4, 5, 6], [3, 4, 5, 6, 7], [], [3, 4, 5, 6, 7, 8, 9], [2, 3, 4, 5, 6, 7, 8, 9, 10], [], [], [12], [12, 14], [12, 13, 14, 15], [12, 13, 14, 15, 16], [], [18], [12, 13, 14, 15, 16, 17, 18, 19], [2, 3, 4, 5, 6, 7, 8, 9, 10, 11, 12, 13, 14, 15, 16, 17, 18, 19, 20], [0], [0, 22], [0, 1, 2, 3, 4, 5, 6, 7, 8, 9, 10, 11, 12, 13, 14, 15, 16, 17, 18, 19, 20, 21, 22, 23], [0, 1, 2, 3, 4, 5, 6, 7, 8, 9, 10, 11, 12, 13, 14, 15, 16, 17, 18, 19, 20, 21, 22, 23, 24]] (by kernel_rfl) [(112, 0), (113, 0), (114, 0), (121, 0), (122, 0), (123, 0), (129, 0)] [(115, 2), (124, 2)] [(109, 8)] [(109, 8)] [109, 112, 113, 114, 115, 121, 122, 123, 124, 129] (by kernel_rfl) (wk_block wk_wkP) (fr' := [(109, .bs true 8 ((([] : List Pk)).length) 0 ((([] : List Pk)).length)), (112, .ref 0 0), (113, .ref 0 14), (114, .ref 0 15), (115, .bs false 2 (a.way.2.length) 0 (a.way.2.length)), (121, .ref 0 0), (122, .ref 0 14), (123, .ref 0 15), (124, .bs false 2 (a.way.2.length) 0 (a.way.2.length)), (129, .ref 0 0)]) (σ' := [.box [i64 a.p.1.Epoch, i64 a.p.1.Other, i64 a.p.1.First, .sl false (L (cSl cU8) a.p.1.Queue), i64 a.p.1.Next, .sl false (L cK a.p.1.Early), i64 a.p.1.SentAt, i64 a.p.2.Epoch, i64 a.p.2.Other, i64 a.p.2.First, .sl false (L (cSl cU8) a.p.2.Queue), i64 a.p.2.Next, .sl false (L cK a.p.2.Early), i64 a.p.2.SentAt, .bs false 1 (a.way.1.length) 0 (a.way.1.length), .bs false 8 (af.length) 0 (af.length), .bs false 3 (a.oz.1.length) 0 (a.oz.1.length), .bs false 4 (a.oz.2.length) 0 (a.oz.2.length), .bs false 5 (a.dz.1.length) 0 (a.dz.1.length), .bs false 6 (a.dz.2.length) 0 (a.dz.2.length), i64 a.now, i64 a.resets] false, .buf 5 (L cK a.way.1) false, .buf 5 (L cK a.way.2) false, .buf 1 (L (cSl cU8) a.oz.1) false, .buf 1 (L (cSl cU8) a.oz.2) false, .buf 1 (L (cSl cU8) a.dz.1) false, .buf 1 (L (cSl cU8) a.dz.2) false, .box [i64 c.Kind, i64 c.Side, i64 c.N, .sl false (L cU8 c.Data)] false, .buf 5 (L cK af) false]) ⟨rfl, rfl, rfl, rfl, rfl, rfl, rfl, trivial⟩ ⟨rfl, rfl, trivial⟩ ⟨⟨rfl, rfl, rfl⟩, trivial⟩ ⟨rfl, trivial⟩ ⟨_, orcs_nil, ?_⟩ ?_
              · subst br; simp only [go_sem, Nat.reduceBEq, Nat.reduceMul, Nat.reduceSub, Nat.reduceGT, Nat.reducePow, Nat.reduceLeDiff, Int.reduceToNat, castL, Int.reduceLT, Int.reduceAdd, Int.reduceSub, Nat.reduceMul, Nat.reduceGT, Nat.reduceLeDiff, decide_true, decide_false, Bool.false_eq_true, aP, aP.2, bp, aQ, ad, aR, aR.2, bq, aS, ae, aT, aT.2]
              refine blockK_n ?_
              obtain rfl := Option.some.inj h
              refine wkP_of ((weak_move_box 0 14 1 0 rfl rfl rfl (by simp only [go_sem]) (by first | exact Nat.zero_add _ | (subst_vars; exact tail_len (by assumption)))).trans ((weak_kill 2 rfl).trans ((weak_move_box 0 16 3 0 rfl rfl rfl (by simp only [go_sem]) (by first | exact Nat.zero_add _ | (subst_vars; exact tail_len (by assumption)))).trans ((weak_move_box 0 17 4 0 rfl rfl rfl (by simp only [go_sem]) (by first | exact Nat.zero_add _ | (subst_vars; exact tail_len (by assumption)))).trans ((weak_move_box 0 18 5 0 rfl rfl rfl (by simp only [go_sem]) (by first | exact Nat.zero_add _ | (subst_vars; exact tail_len (by assumption)))).trans ((weak_move_box 0 19 6 0 rfl rfl rfl (by simp only [go_sem]) (by first | exact Nat.zero_add _ | (subst_vars; exact tail_len (by assumption)))).trans (Weak.refl _ _))))))) ?_
              refine ret_own (.inl rfl) [0, 1, 2, 3, 4, 5, 6, 9, 8, 11, 12, 13, 14] (by decide) rfl ?_ ?_
              · simp only [go_sem]
              · simp only [go_sem]
            · replace h := ite_f h hb
              refine run_skip ?_
              refine blockK_n ?_
              obtain rfl := Option.some.inj h
              refine wkP_of ((weak_move_box 0 14 1 0 rfl rfl rfl (by simp only [go_sem]) (by first | exact Nat.zero_add _ | (subst_vars; exact tail_len (by assumption)))).trans ((weak_move_box 0 15 2 0 rfl rfl rfl (by simp only [go_sem]) (by first | exact Nat.zero_add _ | (subst_vars; exact tail_len (by assumption)))).trans ((weak_move_box 0 16 3 0 rfl rfl rfl (by simp only [go_sem]) (by first | exact Nat.zero_add _ | (subst_vars; exact tail_len (by assumption)))).trans ((weak_move_box 0 17 4 0 rfl rfl rfl (by simp only [go_sem]) (by first | exact Nat.zero_add _ | (subst_vars; exact tail_len (by assumption)))).trans ((weak_move_box 0 18 5 0 rfl rfl rfl (by simp only [go_sem]) (by first | exact Nat.zero_add _ | (subst_vars; exact tail_len (by assumption)))).trans ((weak_move_box 0 19 6 0 rfl rfl rfl (by simp only [go_sem]) (by first | exact Nat.zero_add _ | (subst_vars; exact tail_len (by assumption)))).trans (Weak.refl _ _))))))) ?_
              refine ret_own (.inl rfl) [0, 1, 2, 3, 4, 5, 6, 8, 9, 10, 11, 12, 13] (by decide) rfl ?_ ?_
              · simp only [go_sem]
              · simp only [go_sem]
          · replace h := ite_f h hb
            refine run_textE hE [0, 4, 132] (fr' := [(0, .ref 0 0), (4, i64 1), (132, .bool (((and64 c.Kind 7) == 4)))]) (σ' := [.box [i64 a.p.1.Epoch, i64 a.p.1.Other, i64 a.p.1.First, .sl false (L (cSl cU8) a.p.1.Queue), i64 a.p.1.Next, .sl false (L cK a.p.1.Early), i64 a.p.1.SentAt, i64 a.p.2.Epoch, i64 a.p.2.Other, i64 a.p.2.First, .sl false (L (cSl cU8) a.p.2.Queue), i64 a.p.2.Next, .sl false (L cK a.p.2.Early), i64 a.p.2.SentAt, .bs false 1 (a.way.1.length) 0 (a.way.1.length), .bs false 2 (a.way.2.length) 0 (a.way.2.length), .bs false 3 (a.oz.1.length) 0 (a.oz.1.length), .bs false 4 (a.oz.2.length) 0 (a.oz.2.length), .bs false 5 (a.dz.1.length) 0 (a.dz.1.length), .bs false 6 (a.dz.2.length) 0 (a.dz.2.length), i64 a.now, i64 a.resets] false, .buf 5 (L cK a.way.1) false, .buf 5 (L cK a.way.2) false, .buf 1 (L (cSl cU8) a.oz.1) false, .buf 1 (L (cSl cU8) a.oz.2) false, .buf 1 (L (cSl cU8) a.dz.1) false, .buf 1 (L (cSl cU8) a.dz.2) false, .box [i64 c.Kind, i64 c.Side, i64 c.N, .sl false (L cU8 c.Data)] false]) ⟨_, orcs_nil, ?_⟩ ?_
            · simp only [go_sem, castL, Int.reduceLT, Int.reduceAdd, Int.reduceSub, Nat.reduceMul, Nat.reduceGT, Nat.reduceLeDiff, decide_true, decide_false, Bool.false_eq_true]
            refine run_condL (b := ((and64 c.Kind 7) == 4)) rfl (by decide) (fun hb => ?_) (fun hb => ?_)
            · replace h := ite_t h hb
              have aU : InR 1 2 := by decide
              replace h := bind_some1 h; obtain ⟨j, bt, h⟩ := h
              refine run_textE hE [0, 4, 9, 10] (fr' := [(0, .ref 0 0), (4, i64 1), (9, .ref 8 0), (10, i64 j.2)]) (σ' := [.box [i64 a.p.1.Epoch, i64 a.p.1.Other, i64 a.p.1.First, .sl false (L (cSl cU8) a.p.1.Queue), i64 a.p.1.Next, .sl false (L cK a.p.1.Early), i64 a.p.1.SentAt, i64 a.p.2.Epoch, i64 a.p.2.Other, i64 a.p.2.First, .sl false (L (cSl cU8) a.p.2.Queue), i64 a.p.2.Next, .sl false (L cK a.p.2.Early), i64 a.p.2.SentAt, .bs false 1 (a.way.1.length) 0 (a.way.1.length), .bs false 2 (a.way.2.length) 0 (a.way.2.length), .bs false 3 (a.oz.1.length) 0 (a.oz.1.length), .bs false 4 (a.oz.2.length) 0 (a.oz.2.length), .bs false 5 (a.dz.1.length) 0 (a.dz.1.length), .bs false 6 (a.dz.2.length) 0 (a.dz.2.length), i64 a.now, i64 a.resets] false, .buf 5 (L cK a.way.1) false, .buf 5 (L cK a.way.2) false, .buf 1 (L (cSl cU8) a.oz.1) false, .buf 1 (L (cSl cU8) a.oz.2) false, .buf 1 (L (cSl cU8) a.dz.1) false, .buf 1 (L (cSl cU8) a.dz.2) false, .box [i64 c.Kind, i64 c.Side, i64 c.N, .sl false (L cU8 c.Data)] false, .box [i64 j.1.Epoch, i64 j.1.Other, i64 j.1.First, .sl false (L (cSl cU8) j.1.Queue), i64 j.1.Next, .sl false (L cK j.1.Early), i64 j.1.SentAt] false]) ⟨_, orcs_ok (l := [(143, 12, [i64 ((w64 (a.p.2.Epoch + 1)))], .tup [.agg [i64 j.1.Epoch, i64 j.1.Other, i64 j.1.First, .sl false (L (cSl cU8) j.1.Queue), i64 j.1.Next, .sl false (L cK j.1.Early), i64 j.1.SentAt], i64 j.2])]) ⟨window_New_con  bt, trivial⟩, ?_⟩ ?_
              · simp only [go_sem, Int.reduceToNat, Nat.reduceLeDiff, castL, Int.reduceLT, Int.reduceAdd, Int.reduceSub, Nat.reduceMul, Nat.reduceGT, Nat.reduceLeDiff, decide_true, decide_false, Bool.false_eq_true, aU, aU.2]
              refine run_textE hE [0, 4, 9, 147] (fr' := [(0, .ref 0 0), (4, i64 1), (9, .ref 8 0), (147, .bool ((j.2 == 0)))]) (σ' := [.box [i64 a.p.1.Epoch, i64 a.p.1.Other, i64 a.p.1.First, .sl false (L (cSl cU8) a.p.1.Queue), i64 a.p.1.Next, .sl false (L cK a.p.1.Early), i64 a.p.1.SentAt, i64 a.p.2.Epoch, i64 a.p.2.Other, i64 a.p.2.First, .sl false (L (cSl cU8) a.p.2.Queue), i64 a.p.2.Next, .sl false (L cK a.p.2.Early), i64 a.p.2.SentAt, .bs false 1 (a.way.1.length) 0 (a.way.1.length), .bs false 2 (a.way.2.length) 0 (a.way.2.length), .bs false 3 (a.oz.1.length) 0 (a.oz.1.length), .bs false 4 (a.oz.2.length) 0 (a.oz.2.length), .bs false 5 (a.dz.1.length) 0 (a.dz.1.length), .bs false 6 (a.dz.2.length) 0 (a.dz.2.length), i64 a.now, i64 a.resets] false, .buf 5 (L cK a.way.1) false, .buf 5 (L cK a.way.2) false, .buf 1 (L (cSl cU8) a.oz.1) false, .buf 1 (L (cSl cU8) a.oz.2) false, .buf 1 (L (cSl cU8) a.dz.1) false, .buf 1 (L (cSl cU8) a.dz.2) false, .box [i64 c.Kind, i64 c.Side, i64 c.N, .sl false (L cU8 c.Data)] false, .box [i64 j.1.Epoch, i64 j.1.Other, i64 j.1.First, .sl false (L (cSl cU8) j.1.Queue), i64 j.1.Next, .sl false (L cK j.1.Early), i64 j.1.SentAt] false]) ⟨_, orcs_nil, ?_⟩ ?_
              · simp only [go_sem, castL, Int.reduceLT, Int.reduceAdd, Int.reduceSub, Nat.reduceMul, Nat.reduceGT, Nat.reduceLeDiff, decide_true, decide_false, Bool.false_eq_true]
              refine run_condL (b := (j.2 == 0)) rfl (by decide) (fun hb => ?_) (fun hb => ?_)
              · replace h := ite_t h hb
                have aV : InR 1 2 := by decide
                refine run_drawE hE mixed [[], [], [], [0], [0, 3], [0, 1, 2, 3, 4], [0, 1, 2, 3, 4, 5]] (by kernel_rfl) (by kernel_rfl) [0, 4] (fr' := [(0, .ref 0 0), (4, i64 1)]) (σ' := [.box [i64 a.p.1.Epoch, i64 a.p.1.Other, i64 a.p.1.First, .sl false (L (cSl cU8) a.p.1.Queue), i64 a.p.1.Next, .sl false (L cK a.p.1.Early), i64 a.p.1.SentAt, i64 j.1.Epoch, i64 j.1.Other, i64 j.1.First, .sl false (L (cSl cU8) j.1.Queue), i64 j.1.Next, .sl false (L cK j.1.Early), i64 j.1.SentAt, .bs false 1 (a.way.1.length) 0 (a.way.1.length), .bs false 2 (a.way.2.length) 0 (a.way.2.length), .bs false 3 (a.oz.1.length) 0 (a.oz.1.length), .bs false 4 (a.oz.2.length) 0 (a.oz.2.length), .bs false 5 (a.dz.1.length) 0 (a.dz.1.length), .bs false 6 (a.dz.2.length) 0 (a.dz.2.length), i64 a.now, i64 a.resets] false, .buf 5 (L cK a.way.1) false, .buf 5 (L cK a.way.2) false, .buf 1 (L (cSl cU8) a.oz.1) false, .buf 1 (L (cSl cU8) a.oz.2) false, .buf 1 (L (cSl cU8) a.dz.1) false, .buf 1 (L (cSl cU8) a.dz.2) false, .box [i64 c.Kind, i64 c.Side, i64 c.N, .sl false (L cU8 c.Data)] false, .box [i64 j.1.Epoch, i64 j.1.Other, i64 j.1.First, .sl false (L (cSl cU8) j.1.Queue), i64 j.1.Next, .sl false (L cK j.1.Early), i64 j.1.SentAt] false]) ⟨_, orcs_nil, ?_⟩ ?_
                · simp only [go_sem, Int.reduceToNat, Nat.reduceLeDiff, castL, Int.reduceLT, Int.reduceAdd, Int.reduceSub, Nat.reduceMul, Nat.reduceGT, Nat.reduceLeDiff, decide_true, decide_false, Bool.false_eq_true, aV, aV.2]
                have aW : InR 1 2 := by decide
                refine run_textE hE [0, 4] (fr' := [(0, .ref 0 0), (4, i64 1)]) (σ' := [.box [i64 a.p.1.Epoch, i64 a.p.1.Other, i64 a.p.1.First, .sl false (L (cSl cU8) a.p.1.Queue), i64 a.p.1.Next, .sl false (L cK a.p.1.Early), i64 a.p.1.SentAt, i64 j.1.Epoch, i64 j.1.Other, i64 j.1.First, .sl false (L (cSl cU8) j.1.Queue), i64 j.1.Next, .sl false (L cK j.1.Early), i64 j.1.SentAt, .bs false 1 (a.way.1.length) 0 (a.way.1.length), .bs false 2 (a.way.2.length) 0 (a.way.2.length), .bs false 3 (a.oz.1.length) 0 (a.oz.1.length), .sl true (L (cSl cU8) ([])), .bs false 5 (a.dz.1.length) 0 (a.dz.1.length), .bs false 6 (a.dz.2.length) 0 (a.dz.2.length), i64 a.now, i64 a.resets] false, .buf 5 (L cK a.way.1) false, .buf 5 (L cK a.way.2) false, .buf 1 (L (cSl cU8) a.oz.1) false, .buf 1 (L (cSl cU8) a.oz.2) false, .buf 1 (L (cSl cU8) a.dz.1) false, .buf 1 (L (cSl cU8) a.dz.2) false, .box [i64 c.Kind, i64 c.Side, i64 c.N, .sl false (L cU8 c.Data)] false, .box [i64 j.1.Epoch, i64 j.1.Other, i64 j.1.First, .sl false (L (cSl cU8) j.1.Queue), i64 j.1.Next, .sl false (L cK j.1.Early), i64 j.1.SentAt] false]) ⟨_, orcs_nil, ?_⟩ ?_
                · simp only [go_sem, Int.reduceToNat, Nat.reduceLeDiff, castL, Int.reduceLT, Int.reduceAdd, Int.reduceSub, Nat.reduceMul, Nat.reduceGT, Nat.reduceLeDiff, decide_true, decide_false, Bool.false_eq_true, aW, aW.2]
                have aX : InR 1 2 := by decide
                refine run_textE0 hE (wk_block wk_wkP) [] (fr' := []) (σ' := [.box [i64 a.p.1.Epoch, i64 a.p.1.Other, i64 a.p.1.First, .sl false (L (cSl cU8) a.p.1.Queue), i64 a.p.1.Next, .sl false (L cK a.p.1.Early), i64 a.p.1.SentAt, i64 j.1.Epoch, i64 j.1.Other, i64 j.1.First, .sl false (L (cSl cU8) j.1.Queue), i64 j.1.Next, .sl false (L cK j.1.Early), i64 j.1.SentAt, .bs false 1 (a.way.1.length) 0 (a.way.1.length), .bs false 2 (a.way.2.length) 0 (a.way.2.length), .bs false 3 (a.oz.1.length) 0 (a.oz.1.length), .sl true (L (cSl cU8) ([])), .bs false 5 (a.dz.1.length) 0 (a.dz.1.length), .sl true (L (cSl cU8) ([])), i64 a.now, i64 a.resets] false, .buf 5 (L cK a.way.1) false, .buf 5 (L cK a.way.2) false, .buf 1 (L (cSl cU8) a.oz.1) false, .buf 1 (L (cSl cU8) a.oz.2) false, .buf 1 (L (cSl cU8) a.dz.1) false, .buf 1 (L (cSl cU8) a.dz.2) false, .box [i64 c.Kind, i64 c.Side, i64 c.N, .sl false (L cU8 c.Data)] false, .box [i64 j.1.Epoch, i64 j.1.Other, i64 j.1.First, .sl false (L (cSl cU8) j.1.Queue), i64 j.1.Next, .sl false (L cK j.1.Early), i64 j.1.SentAt] false]) ⟨_, orcs_nil, ?_⟩ ?_
                · simp only [go_sem, Int.reduceToNat, Nat.reduceLeDiff, castL, Int.reduceLT, Int.reduceAdd, Int.reduceSub, Nat.reduceMul, Nat.reduceGT, Nat.reduceLeDiff, decide_true, decide_false, Bool.false_eq_true, aX, aX.2]
                refine blockK_n ?_
                obtain rfl := Option.some.inj h
                refine wkP_of ((weak_move_box 0 14 1 0 rfl rfl rfl (by simp only [go_sem]) (by first | exact Nat.zero_add _ | (subst_vars; exact tail_len (by assumption)))).trans ((weak_move_box 0 15 2 0 rfl rfl rfl (by simp only [go_sem]) (by first | exact Nat.zero_add _ | (subst_vars; exact tail_len (by assumption)))).trans ((weak_move_box 0 16 3 0 rfl rfl rfl (by simp only [go_sem]) (by first | exact Nat.zero_add _ | (subst_vars; exact tail_len (by assumption)))).trans ((weak_nil_box 0 17 1 rfl rfl).trans ((weak_kill 4 rfl).trans ((weak_move_box 0 18 5 0 rfl rfl rfl (by simp only [go_sem]) (by first | exact Nat.zero_add _ | (subst_vars; exact tail_len (by assumption)))).trans ((weak_nil_box 0 19 1 rfl rfl).trans ((weak_kill 6 rfl).trans (Weak.refl _ _))))))))) ?_
                refine ret_own (.inl rfl) [0, 1, 2, 3, 4, 5, 6, 9, 10, 11, 12, 14, 15] (by decide) rfl ?_ ?_
                · simp only [go_sem]
                · simp only [go_sem]
              · replace h := ite_f h hb
                refine run_skip ?_
                refine blockK_n ?_
                obtain rfl := Option.some.inj h
                refine wkP_of ((weak_move_box 0 14 1 0 rfl rfl rfl (by simp only [go_sem]) (by first | exact Nat.zero_add _ | (subst_vars; exact tail_len (by assumption)))).trans ((weak_move_box 0 15 2 0 rfl rfl rfl (by simp only [go_sem]) (by first | exact Nat.zero_add _ | (subst_vars; exact tail_len (by assumption)))).trans ((weak_move_box 0 16 3 0 rfl rfl rfl (by simp only [go_sem]) (by first | exact Nat.zero_add _ | (subst_vars; exact tail_len (by assumption)))).trans ((weak_move_box 0 17 4 0 rfl rfl rfl (by simp only [go_sem]) (by first | exact Nat.zero_add _ | (subst_vars; exact tail_len (by assumption)))).trans ((weak_move_box 0 18 5 0 rfl rfl rfl (by simp only [go_sem]) (by first | exact Nat.zero_add _ | (subst_vars; exact tail_len (by assumption)))).trans ((weak_move_box 0 19 6 0 rfl rfl rfl (by simp only [go_sem]) (by first | exact Nat.zero_add _ | (subst_vars; exact tail_len (by assumption)))).trans (Weak.refl _ _))))))) ?_
                refine ret_own (.inl rfl) [0, 1, 2, 3, 4, 5, 6, 9, 10, 11, 12, 13, 14] (by decide) rfl ?_ ?_
                · simp only [go_sem]
                · simp only [go_sem]
            · replace h := ite_f h hb
              refine run_skip ?_
              refine blockK_n ?_
              obtain rfl := Option.some.inj h
              refine wkP_of ((weak_move_box 0 14 1 0 rfl rfl rfl (by simp only [go_sem]) (by first | exact Nat.zero_add _ | (subst_vars; exact tail_len (by assumption)))).trans ((weak_move_box 0 15 2 0 rfl rfl rfl (by simp only [go_sem]) (by first | exact Nat.zero_add _ | (subst_vars; exact tail_len (by assumption)))).trans ((weak_move_box 0 16 3 0 rfl rfl rfl (by simp only [go_sem]) (by first | exact Nat.zero_add _ | (subst_vars; exact tail_len (by assumption)))).trans ((weak_move_box 0 17 4 0 rfl rfl rfl (by simp only [go_sem]) (by first | exact Nat.zero_add _ | (subst_vars; exact tail_len (by assumption)))).trans ((weak_move_box 0 18 5 0 rfl rfl rfl (by simp only [go_sem]) (by first | exact Nat.zero_add _ | (subst_vars; exact tail_len (by assumption)))).trans ((weak_move_box 0 19 6 0 rfl rfl rfl (by simp only [go_sem]) (by first | exact Nat.zero_add _ | (subst_vars; exact tail_len (by assumption)))).trans (Weak.refl _ _))))))) ?_
              refine ret_own (.inl rfl) [0, 1, 2, 3, 4, 5, 6, 8, 9, 10, 11, 12, 13] (by decide) rfl ?_ ?_
              · simp only [go_sem]
              · simp only [go_sem]

end Go.Proofs.Ytomjphpnpcgacaa
/-
  The functions compute just that.
-/
namespace Go.Proofs.Ytomjphpnpcgacaa
open Go.Rv
set_option linter.unusedVariables false
set_option linter.unusedSimpArgs false
set_option maxRecDepth 20000
set_option maxHeartbeats 4000000

theorem law12_pair_swap_con {c : Pq} {r : Pq × Nat × Nat × Nat × Nat × Nat × Nat} (h : law12_pair_swap c = some r) : Con B 26 [.ref 0 0] [.box [i64 c.p.1.Epoch, i64 c.p.1.Other, i64 c.p.1.First, .sl false (L (cSl cU8) c.p.1.Queue), i64 c.p.1.Next, .sl false (L cK c.p.1.Early), i64 c.p.1.SentAt, i64 c.p.2.Epoch, i64 c.p.2.Other, i64 c.p.2.First, .sl false (L (cSl cU8) c.p.2.Queue), i64 c.p.2.Next, .sl false (L cK c.p.2.Early), i64 c.p.2.SentAt, .bs false 1 (c.way.1.length) 0 (c.way.1.length), .bs false 2 (c.way.2.length) 0 (c.way.2.length), .bs false 3 (c.oz.1.length) 0 (c.oz.1.length), .bs false 4 (c.oz.2.length) 0 (c.oz.2.length), .bs false 5 (c.dz.1.length) 0 (c.dz.1.length), .bs false 6 (c.dz.2.length) 0 (c.dz.2.length), i64 c.now, i64 c.resets] false, .buf 5 (L cK c.way.1) false, .buf 5 (L cK c.way.2) false, .buf 1 (L (cSl cU8) c.oz.1) false, .buf 1 (L (cSl cU8) c.oz.2) false, .buf 1 (L (cSl cU8) c.dz.1) false, .buf 1 (L (cSl cU8) c.dz.2) false] (fun r' σ' => r' = .tup [] ∧ σ' = [.box [i64 r.1.p.1.Epoch, i64 r.1.p.1.Other, i64 r.1.p.1.First, .sl false (L (cSl cU8) r.1.p.1.Queue), i64 r.1.p.1.Next, .sl false (L cK r.1.p.1.Early), i64 r.1.p.1.SentAt, i64 r.1.p.2.Epoch, i64 r.1.p.2.Other, i64 r.1.p.2.First, .sl false (L (cSl cU8) r.1.p.2.Queue), i64 r.1.p.2.Next, .sl false (L cK r.1.p.2.Early), i64 r.1.p.2.SentAt, .bs false 7 (r.1.way.1.length) 0 (r.1.way.1.length), .bs false 8 (r.1.way.2.length) 0 (r.1.way.2.length), .bs false 9 (r.1.oz.1.length) 0 (r.1.oz.1.length), .bs false 10 (r.1.oz.2.length) 0 (r.1.oz.2.length), .bs false 11 (r.1.dz.1.length) 0 (r.1.dz.1.length), .bs false 12 (r.1.dz.2.length) 0 (r.1.dz.2.length), i64 r.1.now, i64 r.1.resets] false, deadB r.2.1, deadB r.2.2.1, deadB r.2.2.2.1, deadB r.2.2.2.2.1, deadB r.2.2.2.2.2.1, deadB r.2.2.2.2.2.2, .buf 5 (L cK r.1.way.1) false, .buf 5 (L cK r.1.way.2) false, .buf 1 (L (cSl cU8) r.1.oz.1) false, .buf 1 (L (cSl cU8) r.1.oz.2) false, .buf 1 (L (cSl cU8) r.1.dz.1) false, .buf 1 (L (cSl cU8) r.1.dz.2) false]) := by
  refine con_walk_own (N := 42) (rs := []) 7 rfl ok Try.func26 rfl (by decide +kernel) rfl rfl (Nat.le_of_ble_eq_true rfl) (fun F => ?_)
  have hE := ok.env F
  unfold law12_pair_swap at h
  show Run (B.env F) 7 _ ⟨asFr 42 [(0, .ref 0 0)], [.box [i64 c.p.1.Epoch, i64 c.p.1.Other, i64 c.p.1.First, .sl false (L (cSl cU8) c.p.1.Queue), i64 c.p.1.Next, .sl false (L cK c.p.1.Early), i64 c.p.1.SentAt, i64 c.p.2.Epoch, i64 c.p.2.Other, i64 c.p.2.First, .sl false (L (cSl cU8) c.p.2.Queue), i64 c.p.2.Next, .sl false (L cK c.p.2.Early), i64 c.p.2.SentAt, .bs false 1 (c.way.1.length) 0 (c.way.1.length), .bs false 2 (c.way.2.length) 0 (c.way.2.length), .bs false 3 (c.oz.1.length) 0 (c.oz.1.length), .bs false 4 (c.oz.2.length) 0 (c.oz.2.length), .bs false 5 (c.dz.1.length) 0 (c.dz.1.length), .bs false 6 (c.dz.2.length) 0 (c.dz.2.length), i64 c.now, i64 c.resets] false, .buf 5 (L cK c.way.1) false, .buf 5 (L cK c.way.2) false, .buf 1 (L (cSl cU8) c.oz.1) false, .buf 1 (L (cSl cU8) c.oz.2) false, .buf 1 (L (cSl cU8) c.dz.1) false, .buf 1 (L (cSl cU8) c.dz.2) false]⟩ _
  refine run_wkP ?_
  refine run_textE hE [0] (fr' := [(0, .ref 0 0)]) (σ' := [.box [i64 c.p.1.Epoch, i64 c.p.1.Other, i64 c.p.1.First, .sl false (L (cSl cU8) c.p.1.Queue), i64 c.p.1.Next, .sl false (L cK c.p.1.Early), i64 c.p.1.SentAt, i64 c.p.2.Epoch, i64 c.p.2.Other, i64 c.p.2.First, .sl false (L (cSl cU8) c.p.2.Queue), i64 c.p.2.Next, .sl false (L cK c.p.2.Early), i64 c.p.2.SentAt, .bs false 1 (c.way.1.length) 0 (c.way.1.length), .bs false 2 (c.way.2.length) 0 (c.way.2.length), .bs false 3 (c.oz.1.length) 0 (c.oz.1.length), .bs false 4 (c.oz.2.length) 0 (c.oz.2.length), .bs false 5 (c.dz.1.length) 0 (c.dz.1.length), .bs false 6 (c.dz.2.length) 0 (c.dz.2.length), i64 ((w64 (c.now + 10))), i64 c.resets] false, .buf 5 (L cK c.way.1) false, .buf 5 (L cK c.way.2) false, .buf 1 (L (cSl cU8) c.oz.1) false, .buf 1 (L (cSl cU8) c.oz.2) false, .buf 1 (L (cSl cU8) c.dz.1) false, .buf 1 (L (cSl cU8) c.dz.2) false]) ⟨_, orcs_nil, ?_⟩ ?_
  · simp only [go_sem, Nat.reduceLeDiff, castL, Int.reduceLT, Int.reduceAdd, Int.reduceSub, Nat.reduceMul, Nat.reduceGT, Nat.reduceLeDiff, decide_true, decide_false, Bool.false_eq_true]
  replace h := bind_some1 h; obtain ⟨a, bk, h⟩ := h
  replace h := lt1_some h; obtain ⟨am, bl, h⟩ := h
  replace h := lt1_some h; obtain ⟨an, bm, h⟩ := h
  replace h := lt1_some h; obtain ⟨ao, bn, h⟩ := h
  replace h := lt1_some h; obtain ⟨ap, bo, h⟩ := h
  replace h := lt1_some h; obtain ⟨aq, bp, h⟩ := h
  replace h := lt1_some h; obtain ⟨ar, bq, h⟩ := h
  refine run_textE hE [0, 2] (fr' := [(0, .ref 0 0), (2, .sl false (L cK a.1))]) (σ' := [.box [i64 a.2.1.p.1.Epoch, i64 a.2.1.p.1.Other, i64 a.2.1.p.1.First, .sl false (L (cSl cU8) a.2.1.p.1.Queue), i64 a.2.1.p.1.Next, .sl false (L cK a.2.1.p.1.Early), i64 a.2.1.p.1.SentAt, i64 a.2.1.p.2.Epoch, i64 a.2.1.p.2.Other, i64 a.2.1.p.2.First, .sl false (L (cSl cU8) a.2.1.p.2.Queue), i64 a.2.1.p.2.Next, .sl false (L cK a.2.1.p.2.Early), i64 a.2.1.p.2.SentAt, .bs false 7 (am.length) 0 (am.length), .bs false 8 (an.length) 0 (an.length), .bs false 9 (ao.length) 0 (ao.length), .bs false 10 (ap.length) 0 (ap.length), .bs false 11 (aq.length) 0 (aq.length), .bs false 12 (ar.length) 0 (ar.length), i64 a.2.1.now, i64 a.2.1.resets] false, deadB a.2.2.1, deadB a.2.2.2.1, deadB a.2.2.2.2.1, deadB a.2.2.2.2.2.1, deadB a.2.2.2.2.2.2.1, deadB a.2.2.2.2.2.2.2, .buf 5 (L cK am) false, .buf 5 (L cK an) false, .buf 1 (L (cSl cU8) ao) false, .buf 1 (L (cSl cU8) ap) false, .buf 1 (L (cSl cU8) aq) false, .buf 1 (L (cSl cU8) ar) false]) ⟨_, orcs_ok2 (l := []) (m := [(15, 46, [.ref 0 0, i64 0], [.box [i64 c.p.1.Epoch, i64 c.p.1.Other, i64 c.p.1.First, .sl false (L (cSl cU8) c.p.1.Queue), i64 c.p.1.Next, .sl false (L cK c.p.1.Early), i64 c.p.1.SentAt, i64 c.p.2.Epoch, i64 c.p.2.Other, i64 c.p.2.First, .sl false (L (cSl cU8) c.p.2.Queue), i64 c.p.2.Next, .sl false (L cK c.p.2.Early), i64 c.p.2.SentAt, .bs false 1 (c.way.1.length) 0 (c.way.1.length), .bs false 2 (c.way.2.length) 0 (c.way.2.length), .bs false 3 (c.oz.1.length) 0 (c.oz.1.length), .bs false 4 (c.oz.2.length) 0 (c.oz.2.length), .bs false 5 (c.dz.1.length) 0 (c.dz.1.length), .bs false 6 (c.dz.2.length) 0 (c.dz.2.length), i64 ((w64 (c.now + 10))), i64 c.resets] false, .buf 5 (L cK c.way.1) false, .buf 5 (L cK c.way.2) false, .buf 1 (L (cSl cU8) c.oz.1) false, .buf 1 (L (cSl cU8) c.oz.2) false, .buf 1 (L (cSl cU8) c.dz.1) false, .buf 1 (L (cSl cU8) c.dz.2) false], .sl false (L cK a.1), [.box [i64 a.2.1.p.1.Epoch, i64 a.2.1.p.1.Other, i64 a.2.1.p.1.First, .sl false (L (cSl cU8) a.2.1.p.1.Queue), i64 a.2.1.p.1.Next, .sl false (L cK a.2.1.p.1.Early), i64 a.2.1.p.1.SentAt, i64 a.2.1.p.2.Epoch, i64 a.2.1.p.2.Other, i64 a.2.1.p.2.First, .sl false (L (cSl cU8) a.2.1.p.2.Queue), i64 a.2.1.p.2.Next, .sl false (L cK a.2.1.p.2.Early), i64 a.2.1.p.2.SentAt, .bs false 7 (a.2.1.way.1.length) 0 (a.2.1.way.1.length), .bs false 8 (a.2.1.way.2.length) 0 (a.2.1.way.2.length), .bs false 9 (a.2.1.oz.1.length) 0 (a.2.1.oz.1.length), .bs false 10 (a.2.1.oz.2.length) 0 (a.2.1.oz.2.length), .bs false 11 (a.2.1.dz.1.length) 0 (a.2.1.dz.1.length), .bs false 12 (a.2.1.dz.2.length) 0 (a.2.1.dz.2.length), i64 a.2.1.now, i64 a.2.1.resets] false, deadB a.2.2.1, deadB a.2.2.2.1, deadB a.2.2.2.2.1, deadB a.2.2.2.2.2.1, deadB a.2.2.2.2.2.2.1, deadB a.2.2.2.2.2.2.2, .buf 5 (L cK a.2.1.way.1) false, .buf 5 (L cK a.2.1.way.2) false, .buf 1 (L (cSl cU8) a.2.1.oz.1) false, .buf 1 (L (cSl cU8) a.2.1.oz.2) false, .buf 1 (L (cSl cU8) a.2.1.dz.1) false, .buf 1 (L (cSl cU8) a.2.1.dz.2) false])]) trivial ⟨(wcon_call (law12_pair_emit_c0_con bk) [0, 1, 2, 3, 4, 5, 6] (by decide) (by simp only [go_sem]) (by simp only [go_sem]) (by simp only [go_sem]) (by simp only [go_sem]) (by simp only [go_sem])), trivial⟩, ?_⟩ ?_
  · subst bq; subst bp; subst bo; subst bn; subst bm; subst bl; simp only [go_sem, castL, Int.reduceLT, Int.reduceAdd, Int.reduceSub, Nat.reduceMul, Nat.reduceGT, Nat.reduceLeDiff, decide_true, decide_false, Bool.false_eq_true]
  replace h := bind_some1 h; obtain ⟨d, br, h⟩ := h
  replace h := lt1_some h; obtain ⟨au, bt, h⟩ := h
  replace h := lt1_some h; obtain ⟨av, bu, h⟩ := h
  replace h := lt1_some h; obtain ⟨aw, bv, h⟩ := h
  replace h := lt1_some h; obtain ⟨ax, bw, h⟩ := h
  replace h := lt1_some h; obtain ⟨ay, bx, h⟩ := h
  replace h := lt1_some h; obtain ⟨az, bz, h⟩ := h
  refine run_textE hE [0, 2, 3] (fr' := [(0, .ref 0 0), (2, .sl false (L cK a.1)), (3, .sl false (L cK d.1))]) (σ' := [.box [i64 d.2.1.p.1.Epoch, i64 d.2.1.p.1.Other, i64 d.2.1.p.1.First, .sl false (L (cSl cU8) d.2.1.p.1.Queue), i64 d.2.1.p.1.Next, .sl false (L cK d.2.1.p.1.Early), i64 d.2.1.p.1.SentAt, i64 d.2.1.p.2.Epoch, i64 d.2.1.p.2.Other, i64 d.2.1.p.2.First, .sl false (L (cSl cU8) d.2.1.p.2.Queue), i64 d.2.1.p.2.Next, .sl false (L cK d.2.1.p.2.Early), i64 d.2.1.p.2.SentAt, .bs false 13 (au.length) 0 (au.length), .bs false 14 (av.length) 0 (av.length), .bs false 15 (aw.length) 0 (aw.length), .bs false 16 (ax.length) 0 (ax.length), .bs false 17 (ay.length) 0 (ay.length), .bs false 18 (az.length) 0 (az.length), i64 d.2.1.now, i64 d.2.1.resets] false, deadB a.2.2.1, deadB a.2.2.2.1, deadB a.2.2.2.2.1, deadB a.2.2.2.2.2.1, deadB a.2.2.2.2.2.2.1, deadB a.2.2.2.2.2.2.2, deadB d.2.2.1, deadB d.2.2.2.1, deadB d.2.2.2.2.1, deadB d.2.2.2.2.2.1, deadB d.2.2.2.2.2.2.1, deadB d.2.2.2.2.2.2.2, .buf 5 (L cK au) false, .buf 5 (L cK av) false, .buf 1 (L (cSl cU8) aw) false, .buf 1 (L (cSl cU8) ax) false, .buf 1 (L (cSl cU8) ay) false, .buf 1 (L (cSl cU8) az) false]) ⟨_, orcs_ok2 (l := []) (m := [(17, 46, [.ref 0 0, i64 1], [.box [i64 a.2.1.p.1.Epoch, i64 a.2.1.p.1.Other, i64 a.2.1.p.1.First, .sl false (L (cSl cU8) a.2.1.p.1.Queue), i64 a.2.1.p.1.Next, .sl false (L cK a.2.1.p.1.Early), i64 a.2.1.p.1.SentAt, i64 a.2.1.p.2.Epoch, i64 a.2.1.p.2.Other, i64 a.2.1.p.2.First, .sl false (L (cSl cU8) a.2.1.p.2.Queue), i64 a.2.1.p.2.Next, .sl false (L cK a.2.1.p.2.Early), i64 a.2.1.p.2.SentAt, .bs false 7 (am.length) 0 (am.length), .bs false 8 (an.length) 0 (an.length), .bs false 9 (ao.length) 0 (ao.length), .bs false 10 (ap.length) 0 (ap.length), .bs false 11 (aq.length) 0 (aq.length), .bs false 12 (ar.length) 0 (ar.length), i64 a.2.1.now, i64 a.2.1.resets] false, deadB a.2.2.1, deadB a.2.2.2.1, deadB a.2.2.2.2.1, deadB a.2.2.2.2.2.1, deadB a.2.2.2.2.2.2.1, deadB a.2.2.2.2.2.2.2, .buf 5 (L cK am) false, .buf 5 (L cK an) false, .buf 1 (L (cSl cU8) ao) false, .buf 1 (L (cSl cU8) ap) false, .buf 1 (L (cSl cU8) aq) false, .buf 1 (L (cSl cU8) ar) false], .sl false (L cK d.1), [.box [i64 d.2.1.p.1.Epoch, i64 d.2.1.p.1.Other, i64 d.2.1.p.1.First, .sl false (L (cSl cU8) d.2.1.p.1.Queue), i64 d.2.1.p.1.Next, .sl false (L cK d.2.1.p.1.Early), i64 d.2.1.p.1.SentAt, i64 d.2.1.p.2.Epoch, i64 d.2.1.p.2.Other, i64 d.2.1.p.2.First, .sl false (L (cSl cU8) d.2.1.p.2.Queue), i64 d.2.1.p.2.Next, .sl false (L cK d.2.1.p.2.Early), i64 d.2.1.p.2.SentAt, .bs false 13 (d.2.1.way.1.length) 0 (d.2.1.way.1.length), .bs false 14 (d.2.1.way.2.length) 0 (d.2.1.way.2.length), .bs false 15 (d.2.1.oz.1.length) 0 (d.2.1.oz.1.length), .bs false 16 (d.2.1.oz.2.length) 0 (d.2.1.oz.2.length), .bs false 17 (d.2.1.dz.1.length) 0 (d.2.1.dz.1.length), .bs false 18 (d.2.1.dz.2.length) 0 (d.2.1.dz.2.length), i64 d.2.1.now, i64 d.2.1.resets] false, deadB a.2.2.1, deadB a.2.2.2.1, deadB a.2.2.2.2.1, deadB a.2.2.2.2.2.1, deadB a.2.2.2.2.2.2.1, deadB a.2.2.2.2.2.2.2, deadB d.2.2.1, deadB d.2.2.2.1, deadB d.2.2.2.2.1, deadB d.2.2.2.2.2.1, deadB d.2.2.2.2.2.2.1, deadB d.2.2.2.2.2.2.2, .buf 5 (L cK d.2.1.way.1) false, .buf 5 (L cK d.2.1.way.2) false, .buf 1 (L (cSl cU8) d.2.1.oz.1) false, .buf 1 (L (cSl cU8) d.2.1.oz.2) false, .buf 1 (L (cSl cU8) d.2.1.dz.1) false, .buf 1 (L (cSl cU8) d.2.1.dz.2) false])]) trivial ⟨(wcon_call (law12_pair_emit_c1_con br) [0, 7, 8, 9, 10, 11, 12] (by decide) (by simp only [go_sem]) (by simp only [go_sem]) (by simp only [go_sem]) (by simp only [go_sem]) (by simp only [go_sem])), trivial⟩, ?_⟩ ?_
  · subst bz; subst bx; subst bw; subst bv; subst bu; subst bt; simp only [go_sem, castL, Int.reduceLT, Int.reduceAdd, Int.reduceSub, Nat.reduceMul, Nat.reduceGT, Nat.reduceLeDiff, decide_true, decide_false, Bool.false_eq_true]
  replace h := bind_some1 h; obtain ⟨bQ, be, bf⟩ := h
  refine run_join (fun (v : Int × Int × Int × List (List UInt8) × Int × List Pk × Int × Int × Int × Int × List (List UInt8) × Int × List Pk × Int × Int × Int × List Pk × List Pk × List (List UInt8) × List (List UInt8) × List (List UInt8) × List (List UInt8)) => (⟨asFr 42 [(0, .ref 0 0), (3, .sl false (L cK d.1))], [.box [i64 v.1, i64 v.2.1, i64 v.2.2.1, .sl false (L (cSl cU8) v.2.2.2.1), i64 v.2.2.2.2.1, .sl false (L cK v.2.2.2.2.2.1), i64 v.2.2.2.2.2.2.1, i64 v.2.2.2.2.2.2.2.1, i64 v.2.2.2.2.2.2.2.2.1, i64 v.2.2.2.2.2.2.2.2.2.1, .sl false (L (cSl cU8) v.2.2.2.2.2.2.2.2.2.2.1), i64 v.2.2.2.2.2.2.2.2.2.2.2.1, .sl false (L cK v.2.2.2.2.2.2.2.2.2.2.2.2.1), i64 v.2.2.2.2.2.2.2.2.2.2.2.2.2.1, .bs false 7 (v.2.2.2.2.2.2.2.2.2.2.2.2.2.2.2.2.1.length) 0 (v.2.2.2.2.2.2.2.2.2.2.2.2.2.2.2.2.1.length), .bs false 8 (v.2.2.2.2.2.2.2.2.2.2.2.2.2.2.2.2.2.1.length) 0 (v.2.2.2.2.2.2.2.2.2.2.2.2.2.2.2.2.2.1.length), .bs false 9 (v.2.2.2.2.2.2.2.2.2.2.2.2.2.2.2.2.2.2.1.length) 0 (v.2.2.2.2.2.2.2.2.2.2.2.2.2.2.2.2.2.2.1.length), .bs false 10 (v.2.2.2.2.2.2.2.2.2.2.2.2.2.2.2.2.2.2.2.1.length) 0 (v.2.2.2.2.2.2.2.2.2.2.2.2.2.2.2.2.2.2.2.1.length), .bs false 11 (v.2.2.2.2.2.2.2.2.2.2.2.2.2.2.2.2.2.2.2.2.1.length) 0 (v.2.2.2.2.2.2.2.2.2.2.2.2.2.2.2.2.2.2.2.2.1.length), .bs false 12 (v.2.2.2.2.2.2.2.2.2.2.2.2.2.2.2.2.2.2.2.2.2.length) 0 (v.2.2.2.2.2.2.2.2.2.2.2.2.2.2.2.2.2.2.2.2.2.length), i64 v.2.2.2.2.2.2.2.2.2.2.2.2.2.2.1, i64 v.2.2.2.2.2.2.2.2.2.2.2.2.2.2.2.1] false, deadB a.2.2.1, deadB a.2.2.2.1, deadB a.2.2.2.2.1, deadB a.2.2.2.2.2.1, deadB a.2.2.2.2.2.2.1, deadB a.2.2.2.2.2.2.2, .buf 5 (L cK v.2.2.2.2.2.2.2.2.2.2.2.2.2.2.2.2.1) false, .buf 5 (L cK v.2.2.2.2.2.2.2.2.2.2.2.2.2.2.2.2.2.1) false, .buf 1 (L (cSl cU8) v.2.2.2.2.2.2.2.2.2.2.2.2.2.2.2.2.2.2.1) false, .buf 1 (L (cSl cU8) v.2.2.2.2.2.2.2.2.2.2.2.2.2.2.2.2.2.2.2.1) false, .buf 1 (L (cSl cU8) v.2.2.2.2.2.2.2.2.2.2.2.2.2.2.2.2.2.2.2.2.1) false, .buf 1 (L (cSl cU8) v.2.2.2.2.2.2.2.2.2.2.2.2.2.2.2.2.2.2.2.2.2) false]⟩ : St)) (fun v => v = bQ) ?_ ?_
  · have h := be; clear be
    refine run_textE hE [0, 2, 3, 4] (fr' := [(0, .ref 0 0), (2, .sl false (L cK a.1)), (3, .sl false (L cK d.1)), (4, i64 0)]) (σ' := [.box [i64 d.2.1.p.1.Epoch, i64 d.2.1.p.1.Other, i64 d.2.1.p.1.First, .sl false (L (cSl cU8) d.2.1.p.1.Queue), i64 d.2.1.p.1.Next, .sl false (L cK d.2.1.p.1.Early), i64 d.2.1.p.1.SentAt, i64 d.2.1.p.2.Epoch, i64 d.2.1.p.2.Other, i64 d.2.1.p.2.First, .sl false (L (cSl cU8) d.2.1.p.2.Queue), i64 d.2.1.p.2.Next, .sl false (L cK d.2.1.p.2.Early), i64 d.2.1.p.2.SentAt, .bs false 13 (au.length) 0 (au.length), .bs false 14 (av.length) 0 (av.length), .bs false 15 (aw.length) 0 (aw.length), .bs false 16 (ax.length) 0 (ax.length), .bs false 17 (ay.length) 0 (ay.length), .bs false 18 (az.length) 0 (az.length), i64 d.2.1.now, i64 d.2.1.resets] false, deadB a.2.2.1, deadB a.2.2.2.1, deadB a.2.2.2.2.1, deadB a.2.2.2.2.2.1, deadB a.2.2.2.2.2.2.1, deadB a.2.2.2.2.2.2.2, deadB d.2.2.1, deadB d.2.2.2.1, deadB d.2.2.2.2.1, deadB d.2.2.2.2.2.1, deadB d.2.2.2.2.2.2.1, deadB d.2.2.2.2.2.2.2, .buf 5 (L cK au) false, .buf 5 (L cK av) false, .buf 1 (L (cSl cU8) aw) false, .buf 1 (L (cSl cU8) ax) false, .buf 1 (L (cSl cU8) ay) false, .buf 1 (L (cSl cU8) az) false]) ⟨_, orcs_nil, ?_⟩ ?_
    · simp only [go_sem, castL, Int.reduceLT, Int.reduceAdd, Int.reduceSub, Nat.reduceMul, Nat.reduceGT, Nat.reduceLeDiff, decide_true, decide_false, Bool.false_eq_true]
    refine run_block ?_
    replace h := bind_some1 h; obtain ⟨b9, bA, bg⟩ := h
    refine run_loopO bA (fun (v : Int × Int × Int × Int × List (List UInt8) × Int × List Pk × Int × Int × Int × Int × List (List UInt8) × Int × List Pk × Int × Int × Int × List Pk × List Pk × List (List UInt8) × List (List UInt8) × List (List UInt8) × List (List UInt8)) => (⟨asFr 42 [(0, .ref 0 0), (2, .sl false (L cK a.1)), (3, .sl false (L cK d.1)), (4, i64 v.1)], [.box [i64 v.2.1, i64 v.2.2.1, i64 v.2.2.2.1, .sl false (L (cSl cU8) v.2.2.2.2.1), i64 v.2.2.2.2.2.1, .sl false (L cK v.2.2.2.2.2.2.1), i64 v.2.2.2.2.2.2.2.1, i64 v.2.2.2.2.2.2.2.2.1, i64 v.2.2.2.2.2.2.2.2.2.1, i64 v.2.2.2.2.2.2.2.2.2.2.1, .sl false (L (cSl cU8) v.2.2.2.2.2.2.2.2.2.2.2.1), i64 v.2.2.2.2.2.2.2.2.2.2.2.2.1, .sl false (L cK v.2.2.2.2.2.2.2.2.2.2.2.2.2.1), i64 v.2.2.2.2.2.2.2.2.2.2.2.2.2.2.1, .bs false 7 (v.2.2.2.2.2.2.2.2.2.2.2.2.2.2.2.2.2.1.length) 0 (v.2.2.2.2.2.2.2.2.2.2.2.2.2.2.2.2.2.1.length), .bs false 8 (v.2.2.2.2.2.2.2.2.2.2.2.2.2.2.2.2.2.2.1.length) 0 (v.2.2.2.2.2.2.2.2.2.2.2.2.2.2.2.2.2.2.1.length), .bs false 9 (v.2.2.2.2.2.2.2.2.2.2.2.2.2.2.2.2.2.2.2.1.length) 0 (v.2.2.2.2.2.2.2.2.2.2.2.2.2.2.2.2.2.2.2.1.length), .bs false 10 (v.2.2.2.2.2.2.2.2.2.2.2.2.2.2.2.2.2.2.2.2.1.length) 0 (v.2.2.2.2.2.2.2.2.2.2.2.2.2.2.2.2.2.2.2.2.1.length), .bs false 11 (v.2.2.2.2.2.2.2.2.2.2.2.2.2.2.2.2.2.2.2.2.2.1.length) 0 (v.2.2.2.2.2.2.2.2.2.2.2.2.2.2.2.2.2.2.2.2.2.1.length), .bs false 12 (v.2.2.2.2.2.2.2.2.2.2.2.2.2.2.2.2.2.2.2.2.2.2.length) 0 (v.2.2.2.2.2.2.2.2.2.2.2.2.2.2.2.2.2.2.2.2.2.2.length), i64 v.2.2.2.2.2.2.2.2.2.2.2.2.2.2.2.1, i64 v.2.2.2.2.2.2.2.2.2.2.2.2.2.2.2.2.1] false, deadB a.2.2.1, deadB a.2.2.2.1, deadB a.2.2.2.2.1, deadB a.2.2.2.2.2.1, deadB a.2.2.2.2.2.2.1, deadB a.2.2.2.2.2.2.2, .buf 5 (L cK v.2.2.2.2.2.2.2.2.2.2.2.2.2.2.2.2.2.1) false, .buf 5 (L cK v.2.2.2.2.2.2.2.2.2.2.2.2.2.2.2.2.2.2.1) false, .buf 1 (L (cSl cU8) v.2.2.2.2.2.2.2.2.2.2.2.2.2.2.2.2.2.2.2.1) false, .buf 1 (L (cSl cU8) v.2.2.2.2.2.2.2.2.2.2.2.2.2.2.2.2.2.2.2.2.1) false, .buf 1 (L (cSl cU8) v.2.2.2.2.2.2.2.2.2.2.2.2.2.2.2.2.2.2.2.2.2.1) false, .buf 1 (L (cSl cU8) v.2.2.2.2.2.2.2.2.2.2.2.2.2.2.2.2.2.2.2.2.2.2) false]⟩ : St)) (weak_sel [0, 1, 2, 3, 4, 5, 6, 13, 14, 15, 16, 17, 18] (by decide) rfl (by simp only [go_sem]) (by simp only [go_sem])) ?_
    rintro ⟨g, aA, aB, aC, aD, aE, aF, aG, aH, aI, aJ, aK, aL, aM, aN, aO, aP, j, k, n, o, q, s⟩ bR h bi
    replace h : law12_pair_swap_b1 a g aA aB aC aD aE aF aG aH aI aJ aK aL aM aN aO aP j k n o q s = some bR := h
    unfold law12_pair_swap_b1 at h
    refine run_seq ?_
    refine run_textE hE [0, 2, 3, 4, 21] (fr' := [(0, .ref 0 0), (2, .sl false (L cK a.1)), (3, .sl false (L cK d.1)), (4, i64 g), (21, .bool ((decide (g < (a.1.length : Int)))))]) (σ' := [.box [i64 aA, i64 aB, i64 aC, .sl false (L (cSl cU8) aD), i64 aE, .sl false (L cK aF), i64 aG, i64 aH, i64 aI, i64 aJ, .sl false (L (cSl cU8) aK), i64 aL, .sl false (L cK aM), i64 aN, .bs false 7 (j.length) 0 (j.length), .bs false 8 (k.length) 0 (k.length), .bs false 9 (n.length) 0 (n.length), .bs false 10 (o.length) 0 (o.length), .bs false 11 (q.length) 0 (q.length), .bs false 12 (s.length) 0 (s.length), i64 aO, i64 aP] false, deadB a.2.2.1, deadB a.2.2.2.1, deadB a.2.2.2.2.1, deadB a.2.2.2.2.2.1, deadB a.2.2.2.2.2.2.1, deadB a.2.2.2.2.2.2.2, .buf 5 (L cK j) false, .buf 5 (L cK k) false, .buf 1 (L (cSl cU8) n) false, .buf 1 (L (cSl cU8) o) false, .buf 1 (L (cSl cU8) q) false, .buf 1 (L (cSl cU8) s) false]) ⟨_, orcs_nil, ?_⟩ ?_
    · simp only [go_sem, castL, Int.reduceLT, Int.reduceAdd, Int.reduceSub, Nat.reduceMul, Nat.reduceGT, Nat.reduceLeDiff, decide_true, decide_false, Bool.false_eq_true]
    refine run_condL (b := (decide (g < (a.1.length : Int)))) rfl (by decide) (fun hb => ?_) (fun hb => ?_)
    · replace h := ite_t h hb
      refine run_skip ?_
      refine thenK_n ?_
      refine run_seq ?_
      refine run_block ?_
      replace h := chk_some h; obtain ⟨aQ, h⟩ := h
      replace h := bind_some1 h; obtain ⟨e, bB, h⟩ := h
      replace h := lt1_some h; obtain ⟨t, bC, h⟩ := h
      replace h := lt1_some h; obtain ⟨u, bD, h⟩ := h
      replace h := lt1_some h; obtain ⟨w, bE, h⟩ := h
      replace h := lt1_some h; obtain ⟨x, bF, h⟩ := h
      replace h := lt1_some h; obtain ⟨y, bG, h⟩ := h
      replace h := lt1_some h; obtain ⟨z, bH, h⟩ := h
      refine run_textE0 hE (wk_block wk_then) [0, 2, 3, 4] (fr' := [(0, .ref 0 0), (2, .sl false (L cK a.1)), (3, .sl false (L cK d.1)), (4, i64 g)]) (σ' := [.box [i64 e.1.p.1.Epoch, i64 e.1.p.1.Other, i64 e.1.p.1.First, .sl false (L (cSl cU8) e.1.p.1.Queue), i64 e.1.p.1.Next, .sl false (L cK e.1.p.1.Early), i64 e.1.p.1.SentAt, i64 e.1.p.2.Epoch, i64 e.1.p.2.Other, i64 e.1.p.2.First, .sl false (L (cSl cU8) e.1.p.2.Queue), i64 e.1.p.2.Next, .sl false (L cK e.1.p.2.Early), i64 e.1.p.2.SentAt, .bs false 13 (t.length) 0 (t.length), .bs false 14 (u.length) 0 (u.length), .bs false 15 (w.length) 0 (w.length), .bs false 16 (x.length) 0 (x.length), .bs false 17 (y.length) 0 (y.length), .bs false 18 (z.length) 0 (z.length), i64 e.1.now, i64 e.1.resets] false, deadB a.2.2.1, deadB a.2.2.2.1, deadB a.2.2.2.2.1, deadB a.2.2.2.2.2.1, deadB a.2.2.2.2.2.2.1, deadB a.2.2.2.2.2.2.2, deadB e.2.1, deadB e.2.2.1, deadB e.2.2.2.1, deadB e.2.2.2.2.1, deadB e.2.2.2.2.2.1, deadB e.2.2.2.2.2.2, .buf 5 (L cK t) false, .buf 5 (L cK u) false, .buf 1 (L (cSl cU8) w) false, .buf 1 (L (cSl cU8) x) false, .buf 1 (L (cSl cU8) y) false, .buf 1 (L (cSl cU8) z) false]) ⟨_, orcs_ok2 (l := []) (m := [(29, 47, [.ref 0 0, i64 1, .agg [i64 ((nth a.1 g.toNat).Epoch), i64 ((nth a.1 g.toNat).To), i64 ((nth a.1 g.toNat).Seq), i64 ((nth a.1 g.toNat).Ack), .sl false (L cU8 ((nth a.1 g.toNat).Data))]], [.box [i64 aA, i64 aB, i64 aC, .sl false (L (cSl cU8) aD), i64 aE, .sl false (L cK aF), i64 aG, i64 aH, i64 aI, i64 aJ, .sl false (L (cSl cU8) aK), i64 aL, .sl false (L cK aM), i64 aN, .bs false 7 (j.length) 0 (j.length), .bs false 8 (k.length) 0 (k.length), .bs false 9 (n.length) 0 (n.length), .bs false 10 (o.length) 0 (o.length), .bs false 11 (q.length) 0 (q.length), .bs false 12 (s.length) 0 (s.length), i64 aO, i64 aP] false, deadB a.2.2.1, deadB a.2.2.2.1, deadB a.2.2.2.2.1, deadB a.2.2.2.2.2.1, deadB a.2.2.2.2.2.2.1, deadB a.2.2.2.2.2.2.2, .buf 5 (L cK j) false, .buf 5 (L cK k) false, .buf 1 (L (cSl cU8) n) false, .buf 1 (L (cSl cU8) o) false, .buf 1 (L (cSl cU8) q) false, .buf 1 (L (cSl cU8) s) false], .tup [], [.box [i64 e.1.p.1.Epoch, i64 e.1.p.1.Other, i64 e.1.p.1.First, .sl false (L (cSl cU8) e.1.p.1.Queue), i64 e.1.p.1.Next, .sl false (L cK e.1.p.1.Early), i64 e.1.p.1.SentAt, i64 e.1.p.2.Epoch, i64 e.1.p.2.Other, i64 e.1.p.2.First, .sl false (L (cSl cU8) e.1.p.2.Queue), i64 e.1.p.2.Next, .sl false (L cK e.1.p.2.Early), i64 e.1.p.2.SentAt, .bs false 13 (e.1.way.1.length) 0 (e.1.way.1.length), .bs false 14 (e.1.way.2.length) 0 (e.1.way.2.length), .bs false 15 (e.1.oz.1.length) 0 (e.1.oz.1.length), .bs false 16 (e.1.oz.2.length) 0 (e.1.oz.2.length), .bs false 17 (e.1.dz.1.length) 0 (e.1.dz.1.length), .bs false 18 (e.1.dz.2.length) 0 (e.1.dz.2.length), i64 e.1.now, i64 e.1.resets] false, deadB a.2.2.1, deadB a.2.2.2.1, deadB a.2.2.2.2.1, deadB a.2.2.2.2.2.1, deadB a.2.2.2.2.2.2.1, deadB a.2.2.2.2.2.2.2, deadB e.2.1, deadB e.2.2.1, deadB e.2.2.2.1, deadB e.2.2.2.2.1, deadB e.2.2.2.2.2.1, deadB e.2.2.2.2.2.2, .buf 5 (L cK e.1.way.1) false, .buf 5 (L cK e.1.way.2) false, .buf 1 (L (cSl cU8) e.1.oz.1) false, .buf 1 (L (cSl cU8) e.1.oz.2) false, .buf 1 (L (cSl cU8) e.1.dz.1) false, .buf 1 (L (cSl cU8) e.1.dz.2) false])]) trivial ⟨(wcon_call (law12_pair_accept_c1_con bB) [0, 7, 8, 9, 10, 11, 12] (by decide) (by simp only [go_sem]) (by simp only [go_sem]) (by simp only [go_sem]) (by simp only [go_sem]) (by simp only [go_sem])), trivial⟩, ?_⟩ ?_
      · subst bH; subst bG; subst bF; subst bE; subst bD; subst bC; simp only [go_sem, Int.reduceToNat, castL, Int.reduceLT, Int.reduceAdd, Int.reduceSub, Nat.reduceMul, Nat.reduceGT, Nat.reduceLeDiff, decide_true, decide_false, Bool.false_eq_true, aQ, aQ.2, lt_le aQ.2]
      refine blockK_n ?_
      refine thenK_n ?_
      refine run_textE0 hE wk_lp [0, 2, 3, 4] (fr' := [(0, .ref 0 0), (2, .sl false (L cK a.1)), (3, .sl false (L cK d.1)), (4, i64 ((w64 (g + 1))))]) (σ' := [.box [i64 e.1.p.1.Epoch, i64 e.1.p.1.Other, i64 e.1.p.1.First, .sl false (L (cSl cU8) e.1.p.1.Queue), i64 e.1.p.1.Next, .sl false (L cK e.1.p.1.Early), i64 e.1.p.1.SentAt, i64 e.1.p.2.Epoch, i64 e.1.p.2.Other, i64 e.1.p.2.First, .sl false (L (cSl cU8) e.1.p.2.Queue), i64 e.1.p.2.Next, .sl false (L cK e.1.p.2.Early), i64 e.1.p.2.SentAt, .bs false 13 (t.length) 0 (t.length), .bs false 14 (u.length) 0 (u.length), .bs false 15 (w.length) 0 (w.length), .bs false 16 (x.length) 0 (x.length), .bs false 17 (y.length) 0 (y.length), .bs false 18 (z.length) 0 (z.length), i64 e.1.now, i64 e.1.resets] false, deadB a.2.2.1, deadB a.2.2.2.1, deadB a.2.2.2.2.1, deadB a.2.2.2.2.2.1, deadB a.2.2.2.2.2.2.1, deadB a.2.2.2.2.2.2.2, deadB e.2.1, deadB e.2.2.1, deadB e.2.2.2.1, deadB e.2.2.2.2.1, deadB e.2.2.2.2.2.1, deadB e.2.2.2.2.2.2, .buf 5 (L cK t) false, .buf 5 (L cK u) false, .buf 1 (L (cSl cU8) w) false, .buf 1 (L (cSl cU8) x) false, .buf 1 (L (cSl cU8) y) false, .buf 1 (L (cSl cU8) z) false]) ⟨_, orcs_nil, ?_⟩ ?_
      · simp only [go_sem, castL, Int.reduceLT, Int.reduceAdd, Int.reduceSub, Nat.reduceMul, Nat.reduceGT, Nat.reduceLeDiff, decide_true, decide_false, Bool.false_eq_true]
      obtain rfl := Option.some.inj h
      exact lpK_n (((w64 (g + 1)), e.1.p.1.Epoch, e.1.p.1.Other, e.1.p.1.First, e.1.p.1.Queue, e.1.p.1.Next, e.1.p.1.Early, e.1.p.1.SentAt, e.1.p.2.Epoch, e.1.p.2.Other, e.1.p.2.First, e.1.p.2.Queue, e.1.p.2.Next, e.1.p.2.Early, e.1.p.2.SentAt, e.1.now, e.1.resets, t, u, w, x, y, z)) rfl (weak_sel [0, 1, 2, 3, 4, 5, 6, 13, 14, 15, 16, 17, 18] (by decide) rfl (by simp only [go_sem]) (by simp only [go_sem]))
    · replace h := ite_f h hb
      refine run_exit ?_
      refine thenK_x ?_
      obtain rfl := Option.some.inj h
      have ex_x_2232 := bi _ rfl
      subst ex_x_2232
      have h := bg; clear bg
      refine lpK_x ?_
      refine blockK_x ?_
      obtain rfl := Option.some.inj h
      exact joinK_n ((aA, aB, aC, aD, aE, aF, aG, aH, aI, aJ, aK, aL, aM, aN, aO, aP, j, k, n, o, q, s)) rfl ((weak_sel (l' := [(0, .ref 0 0), (3, .sl false (L cK d.1))]) (σ' := [.box [i64 aA, i64 aB, i64 aC, .sl false (L (cSl cU8) aD), i64 aE, .sl false (L cK aF), i64 aG, i64 aH, i64 aI, i64 aJ, .sl false (L (cSl cU8) aK), i64 aL, .sl false (L cK aM), i64 aN, .bs false 7 (j.length) 0 (j.length), .bs false 8 (k.length) 0 (k.length), .bs false 9 (n.length) 0 (n.length), .bs false 10 (o.length) 0 (o.length), .bs false 11 (q.length) 0 (q.length), .bs false 12 (s.length) 0 (s.length), i64 aO, i64 aP] false, deadB a.2.2.1, deadB a.2.2.2.1, deadB a.2.2.2.2.1, deadB a.2.2.2.2.2.1, deadB a.2.2.2.2.2.2.1, deadB a.2.2.2.2.2.2.2, .buf 5 (L cK j) false, .buf 5 (L cK k) false, .buf 1 (L (cSl cU8) n) false, .buf 1 (L (cSl cU8) o) false, .buf 1 (L (cSl cU8) q) false, .buf 1 (L (cSl cU8) s) false]) [0, 1, 2, 3, 4, 5, 6, 7, 8, 9, 10, 11, 12] (by decide) rfl (by simp only [go_sem]) (by simp only [go_sem])).trans (weak_sel [0, 1, 2, 3, 4, 5, 6, 7, 8, 9, 10, 11, 12] (by decide) rfl (by simp only [go_sem]) (by simp only [go_sem])))
  rintro ⟨bS, bT, bU, bV, bW, bX, bY, bZ, b0, b1, b2, b3, b4, b5, b6, b7, aS, aT, aU, aV, aW, aX⟩ rfl
  have h := bf; clear bf
  refine run_textE hE [0, 3, 5] (fr' := [(0, .ref 0 0), (3, .sl false (L cK d.1)), (5, i64 0)]) (σ' := [.box [i64 bS, i64 bT, i64 bU, .sl false (L (cSl cU8) bV), i64 bW, .sl false (L cK bX), i64 bY, i64 bZ, i64 b0, i64 b1, .sl false (L (cSl cU8) b2), i64 b3, .sl false (L cK b4), i64 b5, .bs false 7 (aS.length) 0 (aS.length), .bs false 8 (aT.length) 0 (aT.length), .bs false 9 (aU.length) 0 (aU.length), .bs false 10 (aV.length) 0 (aV.length), .bs false 11 (aW.length) 0 (aW.length), .bs false 12 (aX.length) 0 (aX.length), i64 b6, i64 b7] false, deadB a.2.2.1, deadB a.2.2.2.1, deadB a.2.2.2.2.1, deadB a.2.2.2.2.2.1, deadB a.2.2.2.2.2.2.1, deadB a.2.2.2.2.2.2.2, .buf 5 (L cK aS) false, .buf 5 (L cK aT) false, .buf 1 (L (cSl cU8) aU) false, .buf 1 (L (cSl cU8) aV) false, .buf 1 (L (cSl cU8) aW) false, .buf 1 (L (cSl cU8) aX) false]) ⟨_, orcs_nil, ?_⟩ ?_
  · simp only [go_sem, castL, Int.reduceLT, Int.reduceAdd, Int.reduceSub, Nat.reduceMul, Nat.reduceGT, Nat.reduceLeDiff, decide_true, decide_false, Bool.false_eq_true]
  refine run_block ?_
  replace h := bind_some1 h; obtain ⟨ca, bI, bh⟩ := h
  refine run_loopO bI (fun (v : Int × Int × Int × Int × List (List UInt8) × Int × List Pk × Int × Int × Int × Int × List (List UInt8) × Int × List Pk × Int × Int × Int × List Pk × List Pk × List (List UInt8) × List (List UInt8) × List (List UInt8) × List (List UInt8)) => (⟨asFr 42 [(0, .ref 0 0), (3, .sl false (L cK d.1)), (5, i64 v.1)], [.box [i64 v.2.1, i64 v.2.2.1, i64 v.2.2.2.1, .sl false (L (cSl cU8) v.2.2.2.2.1), i64 v.2.2.2.2.2.1, .sl false (L cK v.2.2.2.2.2.2.1), i64 v.2.2.2.2.2.2.2.1, i64 v.2.2.2.2.2.2.2.2.1, i64 v.2.2.2.2.2.2.2.2.2.1, i64 v.2.2.2.2.2.2.2.2.2.2.1, .sl false (L (cSl cU8) v.2.2.2.2.2.2.2.2.2.2.2.1), i64 v.2.2.2.2.2.2.2.2.2.2.2.2.1, .sl false (L cK v.2.2.2.2.2.2.2.2.2.2.2.2.2.1), i64 v.2.2.2.2.2.2.2.2.2.2.2.2.2.2.1, .bs false 7 (v.2.2.2.2.2.2.2.2.2.2.2.2.2.2.2.2.2.1.length) 0 (v.2.2.2.2.2.2.2.2.2.2.2.2.2.2.2.2.2.1.length), .bs false 8 (v.2.2.2.2.2.2.2.2.2.2.2.2.2.2.2.2.2.2.1.length) 0 (v.2.2.2.2.2.2.2.2.2.2.2.2.2.2.2.2.2.2.1.length), .bs false 9 (v.2.2.2.2.2.2.2.2.2.2.2.2.2.2.2.2.2.2.2.1.length) 0 (v.2.2.2.2.2.2.2.2.2.2.2.2.2.2.2.2.2.2.2.1.length), .bs false 10 (v.2.2.2.2.2.2.2.2.2.2.2.2.2.2.2.2.2.2.2.2.1.length) 0 (v.2.2.2.2.2.2.2.2.2.2.2.2.2.2.2.2.2.2.2.2.1.length), .bs false 11 (v.2.2.2.2.2.2.2.2.2.2.2.2.2.2.2.2.2.2.2.2.2.1.length) 0 (v.2.2.2.2.2.2.2.2.2.2.2.2.2.2.2.2.2.2.2.2.2.1.length), .bs false 12 (v.2.2.2.2.2.2.2.2.2.2.2.2.2.2.2.2.2.2.2.2.2.2.length) 0 (v.2.2.2.2.2.2.2.2.2.2.2.2.2.2.2.2.2.2.2.2.2.2.length), i64 v.2.2.2.2.2.2.2.2.2.2.2.2.2.2.2.1, i64 v.2.2.2.2.2.2.2.2.2.2.2.2.2.2.2.2.1] false, deadB a.2.2.1, deadB a.2.2.2.1, deadB a.2.2.2.2.1, deadB a.2.2.2.2.2.1, deadB a.2.2.2.2.2.2.1, deadB a.2.2.2.2.2.2.2, .buf 5 (L cK v.2.2.2.2.2.2.2.2.2.2.2.2.2.2.2.2.2.1) false, .buf 5 (L cK v.2.2.2.2.2.2.2.2.2.2.2.2.2.2.2.2.2.2.1) false, .buf 1 (L (cSl cU8) v.2.2.2.2.2.2.2.2.2.2.2.2.2.2.2.2.2.2.2.1) false, .buf 1 (L (cSl cU8) v.2.2.2.2.2.2.2.2.2.2.2.2.2.2.2.2.2.2.2.2.1) false, .buf 1 (L (cSl cU8) v.2.2.2.2.2.2.2.2.2.2.2.2.2.2.2.2.2.2.2.2.2.1) false, .buf 1 (L (cSl cU8) v.2.2.2.2.2.2.2.2.2.2.2.2.2.2.2.2.2.2.2.2.2.2) false]⟩ : St)) (weak_sel [0, 1, 2, 3, 4, 5, 6, 7, 8, 9, 10, 11, 12] (by decide) rfl (by simp only [go_sem]) (by simp only [go_sem])) ?_
  rintro ⟨i, aY, aZ, a0, a1, a2, a3, a4, a5, a6, a7, a8, a9, ba, bb, bc, bd, aa, ab, ac, ad, ae, af⟩ b8 h bj
  replace h : law12_pair_swap_b2 d i aY aZ a0 a1 a2 a3 a4 a5 a6 a7 a8 a9 ba bb bc bd aa ab ac ad ae af = some b8 := h
  unfold law12_pair_swap_b2 at h
  refine run_seq ?_
  refine run_textE hE [0, 3, 5, 33] (fr' := [(0, .ref 0 0), (3, .sl false (L cK d.1)), (5, i64 i), (33, .bool ((decide (i < (d.1.length : Int)))))]) (σ' := [.box [i64 aY, i64 aZ, i64 a0, .sl false (L (cSl cU8) a1), i64 a2, .sl false (L cK a3), i64 a4, i64 a5, i64 a6, i64 a7, .sl false (L (cSl cU8) a8), i64 a9, .sl false (L cK ba), i64 bb, .bs false 7 (aa.length) 0 (aa.length), .bs false 8 (ab.length) 0 (ab.length), .bs false 9 (ac.length) 0 (ac.length), .bs false 10 (ad.length) 0 (ad.length), .bs false 11 (ae.length) 0 (ae.length), .bs false 12 (af.length) 0 (af.length), i64 bc, i64 bd] false, deadB a.2.2.1, deadB a.2.2.2.1, deadB a.2.2.2.2.1, deadB a.2.2.2.2.2.1, deadB a.2.2.2.2.2.2.1, deadB a.2.2.2.2.2.2.2, .buf 5 (L cK aa) false, .buf 5 (L cK ab) false, .buf 1 (L (cSl cU8) ac) false, .buf 1 (L (cSl cU8) ad) false, .buf 1 (L (cSl cU8) ae) false, .buf 1 (L (cSl cU8) af) false]) ⟨_, orcs_nil, ?_⟩ ?_
  · simp only [go_sem, castL, Int.reduceLT, Int.reduceAdd, Int.reduceSub, Nat.reduceMul, Nat.reduceGT, Nat.reduceLeDiff, decide_true, decide_false, Bool.false_eq_true]
  refine run_condL (b := (decide (i < (d.1.length : Int)))) rfl (by decide) (fun hb => ?_) (fun hb => ?_)
  · replace h := ite_t h hb
    refine run_skip ?_
    refine thenK_n ?_
    refine run_seq ?_
    refine run_block ?_
    replace h := chk_some h; obtain ⟨aR, h⟩ := h
    replace h := bind_some1 h; obtain ⟨f, bJ, h⟩ := h
    replace h := lt1_some h; obtain ⟨ag, bK, h⟩ := h
    replace h := lt1_some h; obtain ⟨ah, bL, h⟩ := h
    replace h := lt1_some h; obtain ⟨ai, bM, h⟩ := h
    replace h := lt1_some h; obtain ⟨aj, bN, h⟩ := h
    replace h := lt1_some h; obtain ⟨ak, bO, h⟩ := h
    replace h := lt1_some h; obtain ⟨al, bP, h⟩ := h
    refine run_textE0 hE (wk_block wk_then) [0, 3, 5] (fr' := [(0, .ref 0 0), (3, .sl false (L cK d.1)), (5, i64 i)]) (σ' := [.box [i64 f.1.p.1.Epoch, i64 f.1.p.1.Other, i64 f.1.p.1.First, .sl false (L (cSl cU8) f.1.p.1.Queue), i64 f.1.p.1.Next, .sl false (L cK f.1.p.1.Early), i64 f.1.p.1.SentAt, i64 f.1.p.2.Epoch, i64 f.1.p.2.Other, i64 f.1.p.2.First, .sl false (L (cSl cU8) f.1.p.2.Queue), i64 f.1.p.2.Next, .sl false (L cK f.1.p.2.Early), i64 f.1.p.2.SentAt, .bs false 13 (ag.length) 0 (ag.length), .bs false 14 (ah.length) 0 (ah.length), .bs false 15 (ai.length) 0 (ai.length), .bs false 16 (aj.length) 0 (aj.length), .bs false 17 (ak.length) 0 (ak.length), .bs false 18 (al.length) 0 (al.length), i64 f.1.now, i64 f.1.resets] false, deadB a.2.2.1, deadB a.2.2.2.1, deadB a.2.2.2.2.1, deadB a.2.2.2.2.2.1, deadB a.2.2.2.2.2.2.1, deadB a.2.2.2.2.2.2.2, deadB f.2.1, deadB f.2.2.1, deadB f.2.2.2.1, deadB f.2.2.2.2.1, deadB f.2.2.2.2.2.1, deadB f.2.2.2.2.2.2, .buf 5 (L cK ag) false, .buf 5 (L cK ah) false, .buf 1 (L (cSl cU8) ai) false, .buf 1 (L (cSl cU8) aj) false, .buf 1 (L (cSl cU8) ak) false, .buf 1 (L (cSl cU8) al) false]) ⟨_, orcs_ok2 (l := []) (m := [(41, 47, [.ref 0 0, i64 0, .agg [i64 ((nth d.1 i.toNat).Epoch), i64 ((nth d.1 i.toNat).To), i64 ((nth d.1 i.toNat).Seq), i64 ((nth d.1 i.toNat).Ack), .sl false (L cU8 ((nth d.1 i.toNat).Data))]], [.box [i64 aY, i64 aZ, i64 a0, .sl false (L (cSl cU8) a1), i64 a2, .sl false (L cK a3), i64 a4, i64 a5, i64 a6, i64 a7, .sl false (L (cSl cU8) a8), i64 a9, .sl false (L cK ba), i64 bb, .bs false 7 (aa.length) 0 (aa.length), .bs false 8 (ab.length) 0 (ab.length), .bs false 9 (ac.length) 0 (ac.length), .bs false 10 (ad.length) 0 (ad.length), .bs false 11 (ae.length) 0 (ae.length), .bs false 12 (af.length) 0 (af.length), i64 bc, i64 bd] false, deadB a.2.2.1, deadB a.2.2.2.1, deadB a.2.2.2.2.1, deadB a.2.2.2.2.2.1, deadB a.2.2.2.2.2.2.1, deadB a.2.2.2.2.2.2.2, .buf 5 (L cK aa) false, .buf 5 (L cK ab) false, .buf 1 (L (cSl cU8) ac) false, .buf 1 (L (cSl cU8) ad) false, .buf 1 (L (cSl cU8) ae) false, .buf 1 (L (cSl cU8) af) false], .tup [], [.box [i64 f.1.p.1.Epoch, i64 f.1.p.1.Other, i64 f.1.p.1.First, .sl false (L (cSl cU8) f.1.p.1.Queue), i64 f.1.p.1.Next, .sl false (L cK f.1.p.1.Early), i64 f.1.p.1.SentAt, i64 f.1.p.2.Epoch, i64 f.1.p.2.Other, i64 f.1.p.2.First, .sl false (L (cSl cU8) f.1.p.2.Queue), i64 f.1.p.2.Next, .sl false (L cK f.1.p.2.Early), i64 f.1.p.2.SentAt, .bs false 13 (f.1.way.1.length) 0 (f.1.way.1.length), .bs false 14 (f.1.way.2.length) 0 (f.1.way.2.length), .bs false 15 (f.1.oz.1.length) 0 (f.1.oz.1.length), .bs false 16 (f.1.oz.2.length) 0 (f.1.oz.2.length), .bs false 17 (f.1.dz.1.length) 0 (f.1.dz.1.length), .bs false 18 (f.1.dz.2.length) 0 (f.1.dz.2.length), i64 f.1.now, i64 f.1.resets] false, deadB a.2.2.1, deadB a.2.2.2.1, deadB a.2.2.2.2.1, deadB a.2.2.2.2.2.1, deadB a.2.2.2.2.2.2.1, deadB a.2.2.2.2.2.2.2, deadB f.2.1, deadB f.2.2.1, deadB f.2.2.2.1, deadB f.2.2.2.2.1, deadB f.2.2.2.2.2.1, deadB f.2.2.2.2.2.2, .buf 5 (L cK f.1.way.1) false, .buf 5 (L cK f.1.way.2) false, .buf 1 (L (cSl cU8) f.1.oz.1) false, .buf 1 (L (cSl cU8) f.1.oz.2) false, .buf 1 (L (cSl cU8) f.1.dz.1) false, .buf 1 (L (cSl cU8) f.1.dz.2) false])]) trivial ⟨(wcon_call (law12_pair_accept_c0_con bJ) [0, 7, 8, 9, 10, 11, 12] (by decide) (by simp only [go_sem]) (by simp only [go_sem]) (by simp only [go_sem]) (by simp only [go_sem]) (by simp only [go_sem])), trivial⟩, ?_⟩ ?_
    · subst bP; subst bO; subst bN; subst bM; subst bL; subst bK; simp only [go_sem, Int.reduceToNat, castL, Int.reduceLT, Int.reduceAdd, Int.reduceSub, Nat.reduceMul, Nat.reduceGT, Nat.reduceLeDiff, decide_true, decide_false, Bool.false_eq_true, aR, aR.2, lt_le aR.2]
    refine blockK_n ?_
    refine thenK_n ?_
    refine run_textE0 hE wk_lp [0, 3, 5] (fr' := [(0, .ref 0 0), (3, .sl false (L cK d.1)), (5, i64 ((w64 (i + 1))))]) (σ' := [.box [i64 f.1.p.1.Epoch, i64 f.1.p.1.Other, i64 f.1.p.1.First, .sl false (L (cSl cU8) f.1.p.1.Queue), i64 f.1.p.1.Next, .sl false (L cK f.1.p.1.Early), i64 f.1.p.1.SentAt, i64 f.1.p.2.Epoch, i64 f.1.p.2.Other, i64 f.1.p.2.First, .sl false (L (cSl cU8) f.1.p.2.Queue), i64 f.1.p.2.Next, .sl false (L cK f.1.p.2.Early), i64 f.1.p.2.SentAt, .bs false 13 (ag.length) 0 (ag.length), .bs false 14 (ah.length) 0 (ah.length), .bs false 15 (ai.length) 0 (ai.length), .bs false 16 (aj.length) 0 (aj.length), .bs false 17 (ak.length) 0 (ak.length), .bs false 18 (al.length) 0 (al.length), i64 f.1.now, i64 f.1.resets] false, deadB a.2.2.1, deadB a.2.2.2.1, deadB a.2.2.2.2.1, deadB a.2.2.2.2.2.1, deadB a.2.2.2.2.2.2.1, deadB a.2.2.2.2.2.2.2, deadB f.2.1, deadB f.2.2.1, deadB f.2.2.2.1, deadB f.2.2.2.2.1, deadB f.2.2.2.2.2.1, deadB f.2.2.2.2.2.2, .buf 5 (L cK ag) false, .buf 5 (L cK ah) false, .buf 1 (L (cSl cU8) ai) false, .buf 1 (L (cSl cU8) aj) false, .buf 1 (L (cSl cU8) ak) false, .buf 1 (L (cSl cU8) al) false]) ⟨_, orcs_nil, ?_⟩ ?_
    · simp only [go_sem, castL, Int.reduceLT, Int.reduceAdd, Int.reduceSub, Nat.reduceMul, Nat.reduceGT, Nat.reduceLeDiff, decide_true, decide_false, Bool.false_eq_true]
    obtain rfl := Option.some.inj h
    exact lpK_n (((w64 (i + 1)), f.1.p.1.Epoch, f.1.p.1.Other, f.1.p.1.First, f.1.p.1.Queue, f.1.p.1.Next, f.1.p.1.Early, f.1.p.1.SentAt, f.1.p.2.Epoch, f.1.p.2.Other, f.1.p.2.First, f.1.p.2.Queue, f.1.p.2.Next, f.1.p.2.Early, f.1.p.2.SentAt, f.1.now, f.1.resets, ag, ah, ai, aj, ak, al)) rfl (weak_sel [0, 1, 2, 3, 4, 5, 6, 13, 14, 15, 16, 17, 18] (by decide) rfl (by simp only [go_sem]) (by simp only [go_sem]))
  · replace h := ite_f h hb
    refine run_exit ?_
    refine thenK_x ?_
    obtain rfl := Option.some.inj h
    have ex_x_2328 := bj _ rfl
    subst ex_x_2328
    have h := bh; clear bh
    refine lpK_x ?_
    refine blockK_x ?_
    obtain rfl := Option.some.inj h
    refine wkP_of (Weak.refl _ _) ?_
    refine ret_own (.inl rfl) [0, 1, 2, 3, 4, 5, 6, 7, 8, 9, 10, 11, 12] (by decide) rfl ?_ ?_
    · simp only [go_sem]
    · simp only [go_sem]

end Go.Proofs.Ytomjphpnpcgacaa
/-
  The functions compute just that.
-/
namespace Go.Proofs.Ytomjphpnpcgacaa
open Go.Rv
set_option linter.unusedVariables false
set_option linter.unusedSimpArgs false
set_option maxRecDepth 20000
set_option maxHeartbeats 4000000

theorem law12_WindowCompletes_con {j : List Aq} {i : List (List UInt8)} {r : Bool} (h : law12_WindowCompletes j i = some r) : Con B 6 [.sl false (L cAq j), .sl false (L (cSl cU8) i)] [] (fun r' σ' => r' = .bool r ∧ σ' = []) := by
  refine con_walk (N := 151) (rs := [.tmp 4]) ok Try.func6 rfl (by decide +kernel) rfl rfl (Nat.le_of_ble_eq_true rfl) (fun F => ?_)
  have hE := ok.env F
  unfold law12_WindowCompletes at h
  show Run (B.env F) 0 _ ⟨asFr 151 [(0, .sl false (L cAq j)), (1, .sl false (L (cSl cU8) i))], []⟩ _
  refine run_wkP ?_
  refine run_textE hE [0, 1] (fr' := [(0, .sl false (L cAq j)), (1, .sl false (L (cSl cU8) i))]) (σ' := []) ⟨_, orcs_nil, ?_⟩ ?_
  · simp only [go_sem]
  replace h := bind_some1 h; obtain ⟨c, df, h⟩ := h
  refine run_textE hE [0, 1, 5, 6] (fr' := [(0, .sl false (L cAq j)), (1, .sl false (L (cSl cU8) i)), (5, .ref 0 0), (6, .bool c.2)]) (σ' := [.box [i64 c.1.p.1.Epoch, i64 c.1.p.1.Other, i64 c.1.p.1.First, .sl false (L (cSl cU8) c.1.p.1.Queue), i64 c.1.p.1.Next, .sl false (L cK c.1.p.1.Early), i64 c.1.p.1.SentAt, i64 c.1.p.2.Epoch, i64 c.1.p.2.Other, i64 c.1.p.2.First, .sl false (L (cSl cU8) c.1.p.2.Queue), i64 c.1.p.2.Next, .sl false (L cK c.1.p.2.Early), i64 c.1.p.2.SentAt, .sl true (L cK ([])), .sl true (L cK ([])), .sl true (L (cSl cU8) ([])), .sl true (L (cSl cU8) ([])), .sl true (L (cSl cU8) ([])), .sl true (L (cSl cU8) ([])), i64 c.1.now, i64 c.1.resets] false]) ⟨_, orcs_ok2 (l := []) (m := [(13, 23, [], [], .tup [.ref 0 0, .bool c.2], [.box [i64 c.1.p.1.Epoch, i64 c.1.p.1.Other, i64 c.1.p.1.First, .sl false (L (cSl cU8) c.1.p.1.Queue), i64 c.1.p.1.Next, .sl false (L cK c.1.p.1.Early), i64 c.1.p.1.SentAt, i64 c.1.p.2.Epoch, i64 c.1.p.2.Other, i64 c.1.p.2.First, .sl false (L (cSl cU8) c.1.p.2.Queue), i64 c.1.p.2.Next, .sl false (L cK c.1.p.2.Early), i64 c.1.p.2.SentAt, .sl true (L cK ([])), .sl true (L cK ([])), .sl true (L (cSl cU8) ([])), .sl true (L (cSl cU8) ([])), .sl true (L (cSl cU8) ([])), .sl true (L (cSl cU8) ([])), i64 c.1.now, i64 c.1.resets] false])]) trivial ⟨(wcon_call (law12_begin_con df) [] (by decide) (by simp only [go_sem]) (by simp only [go_sem]) (by simp only [go_sem]) (by simp only [go_sem]) (by simp only [go_sem])), trivial⟩, ?_⟩ ?_
  · simp only [go_sem]
  refine run_seq ?_
  replace h := bind_some1 h; obtain ⟨cQ, ar, h⟩ := h
  refine run_textW hE [0, 1, 5, 21] (fr' := [(0, .sl false (L cAq j)), (1, .sl false (L (cSl cU8) i)), (5, .ref 0 0), (21, .bool cQ)]) (σ' := [.box [i64 c.1.p.1.Epoch, i64 c.1.p.1.Other, i64 c.1.p.1.First, .sl false (L (cSl cU8) c.1.p.1.Queue), i64 c.1.p.1.Next, .sl false (L cK c.1.p.1.Early), i64 c.1.p.1.SentAt, i64 c.1.p.2.Epoch, i64 c.1.p.2.Other, i64 c.1.p.2.First, .sl false (L (cSl cU8) c.1.p.2.Queue), i64 c.1.p.2.Next, .sl false (L cK c.1.p.2.Early), i64 c.1.p.2.SentAt, .sl true (L cK ([])), .sl true (L cK ([])), .sl true (L (cSl cU8) ([])), .sl true (L (cSl cU8) ([])), .sl true (L (cSl cU8) ([])), .sl true (L (cSl cU8) ([])), i64 c.1.now, i64 c.1.resets] false]) ?_ ?_
  · replace ar := bind_some1 ar; obtain ⟨cs, cB, ar⟩ := ar
    rcases Bool.eq_false_or_eq_true ((!cs)) with b2 | b2
    · replace ar := ite_t ar b2
      have e_hv_2651 := Option.some.inj ar; subst e_hv_2651
      exact ⟨_, [(0, .sl false (L cAq j)), (1, .sl false (L (cSl cU8) i)), (5, .ref 0 0), (21, .bool true)], [.box [i64 c.1.p.1.Epoch, i64 c.1.p.1.Other, i64 c.1.p.1.First, .sl false (L (cSl cU8) c.1.p.1.Queue), i64 c.1.p.1.Next, .sl false (L cK c.1.p.1.Early), i64 c.1.p.1.SentAt, i64 c.1.p.2.Epoch, i64 c.1.p.2.Other, i64 c.1.p.2.First, .sl false (L (cSl cU8) c.1.p.2.Queue), i64 c.1.p.2.Next, .sl false (L cK c.1.p.2.Early), i64 c.1.p.2.SentAt, .sl true (L cK ([])), .sl true (L cK ([])), .sl true (L (cSl cU8) ([])), .sl true (L (cSl cU8) ([])), .sl true (L (cSl cU8) ([])), .sl true (L (cSl cU8) ([])), i64 c.1.now, i64 c.1.resets] false], orcs_ok (l := [(16, 10, [], .bool cs)]) ⟨law12_sane_con  cB, trivial⟩, by simp only [go_sem, b2], (weak_sel [0] (by decide) rfl (by simp only [go_sem]) (by simp only [go_sem]))⟩
    · replace ar := ite_f ar b2
      have e_hv_2651 := Option.some.inj ar; subst e_hv_2651
      exact ⟨_, [(0, .sl false (L cAq j)), (1, .sl false (L (cSl cU8) i)), (5, .ref 0 0), (21, .bool ((!c.2)))], [.box [i64 c.1.p.1.Epoch, i64 c.1.p.1.Other, i64 c.1.p.1.First, .sl false (L (cSl cU8) c.1.p.1.Queue), i64 c.1.p.1.Next, .sl false (L cK c.1.p.1.Early), i64 c.1.p.1.SentAt, i64 c.1.p.2.Epoch, i64 c.1.p.2.Other, i64 c.1.p.2.First, .sl false (L (cSl cU8) c.1.p.2.Queue), i64 c.1.p.2.Next, .sl false (L cK c.1.p.2.Early), i64 c.1.p.2.SentAt, .sl true (L cK ([])), .sl true (L cK ([])), .sl true (L (cSl cU8) ([])), .sl true (L (cSl cU8) ([])), .sl true (L (cSl cU8) ([])), .sl true (L (cSl cU8) ([])), i64 c.1.now, i64 c.1.resets] false], orcs_ok (l := [(16, 10, [], .bool cs)]) ⟨law12_sane_con  cB, trivial⟩, by simp only [go_sem, b2], (weak_sel [0] (by decide) rfl (by simp only [go_sem]) (by simp only [go_sem]))⟩
  refine run_condL (b := cQ) rfl (by decide) (fun hb => ?_) (fun hb => ?_)
  · replace h := ite_t h hb
    refine run_textE hE [4] (fr' := [(4, .bool false)]) (σ' := [.box [i64 c.1.p.1.Epoch, i64 c.1.p.1.Other, i64 c.1.p.1.First, .sl false (L (cSl cU8) c.1.p.1.Queue), i64 c.1.p.1.Next, .sl false (L cK c.1.p.1.Early), i64 c.1.p.1.SentAt, i64 c.1.p.2.Epoch, i64 c.1.p.2.Other, i64 c.1.p.2.First, .sl false (L (cSl cU8) c.1.p.2.Queue), i64 c.1.p.2.Next, .sl false (L cK c.1.p.2.Early), i64 c.1.p.2.SentAt, .sl true (L cK ([])), .sl true (L cK ([])), .sl true (L (cSl cU8) ([])), .sl true (L (cSl cU8) ([])), .sl true (L (cSl cU8) ([])), .sl true (L (cSl cU8) ([])), i64 c.1.now, i64 c.1.resets] false]) ⟨_, orcs_nil, ?_⟩ ?_
    · simp only [go_sem]
    refine run_ret ?_
    refine thenK_r ?_
    obtain rfl := Option.some.inj h
    refine wkP_of (Weak.refl _ _) ?_
    refine ret_ok (.inr rfl) ?_
    simp only [go_sem]
  · replace h := ite_f h hb
    refine run_skip ?_
    refine thenK_n ?_
    replace h := bind_some1 h; obtain ⟨dY, cC, cn⟩ := h
    refine run_join (fun (v : Int × Int × Int × List (List UInt8) × Int × List Pk × Int × Int × Int × Int × List (List UInt8) × Int × List Pk × Int × Int × Int × List Pk × List Pk × List (List UInt8) × List (List UInt8) × List (List UInt8) × List (List UInt8)) => (⟨asFr 151 [(1, .sl false (L (cSl cU8) i)), (5, .ref 0 0)], [.box [i64 v.1, i64 v.2.1, i64 v.2.2.1, .sl false (L (cSl cU8) v.2.2.2.1), i64 v.2.2.2.2.1, .sl false (L cK v.2.2.2.2.2.1), i64 v.2.2.2.2.2.2.1, i64 v.2.2.2.2.2.2.2.1, i64 v.2.2.2.2.2.2.2.2.1, i64 v.2.2.2.2.2.2.2.2.2.1, .sl false (L (cSl cU8) v.2.2.2.2.2.2.2.2.2.2.1), i64 v.2.2.2.2.2.2.2.2.2.2.2.1, .sl false (L cK v.2.2.2.2.2.2.2.2.2.2.2.2.1), i64 v.2.2.2.2.2.2.2.2.2.2.2.2.2.1, .bs false 1 (v.2.2.2.2.2.2.2.2.2.2.2.2.2.2.2.2.1.length) 0 (v.2.2.2.2.2.2.2.2.2.2.2.2.2.2.2.2.1.length), .bs false 2 (v.2.2.2.2.2.2.2.2.2.2.2.2.2.2.2.2.2.1.length) 0 (v.2.2.2.2.2.2.2.2.2.2.2.2.2.2.2.2.2.1.length), .bs false 3 (v.2.2.2.2.2.2.2.2.2.2.2.2.2.2.2.2.2.2.1.length) 0 (v.2.2.2.2.2.2.2.2.2.2.2.2.2.2.2.2.2.2.1.length), .bs false 4 (v.2.2.2.2.2.2.2.2.2.2.2.2.2.2.2.2.2.2.2.1.length) 0 (v.2.2.2.2.2.2.2.2.2.2.2.2.2.2.2.2.2.2.2.1.length), .bs false 5 (v.2.2.2.2.2.2.2.2.2.2.2.2.2.2.2.2.2.2.2.2.1.length) 0 (v.2.2.2.2.2.2.2.2.2.2.2.2.2.2.2.2.2.2.2.2.1.length), .bs false 6 (v.2.2.2.2.2.2.2.2.2.2.2.2.2.2.2.2.2.2.2.2.2.length) 0 (v.2.2.2.2.2.2.2.2.2.2.2.2.2.2.2.2.2.2.2.2.2.length), i64 v.2.2.2.2.2.2.2.2.2.2.2.2.2.2.1, i64 v.2.2.2.2.2.2.2.2.2.2.2.2.2.2.2.1] false, .buf 5 (L cK v.2.2.2.2.2.2.2.2.2.2.2.2.2.2.2.2.1) false, .buf 5 (L cK v.2.2.2.2.2.2.2.2.2.2.2.2.2.2.2.2.2.1) false, .buf 1 (L (cSl cU8) v.2.2.2.2.2.2.2.2.2.2.2.2.2.2.2.2.2.2.1) false, .buf 1 (L (cSl cU8) v.2.2.2.2.2.2.2.2.2.2.2.2.2.2.2.2.2.2.2.1) false, .buf 1 (L (cSl cU8) v.2.2.2.2.2.2.2.2.2.2.2.2.2.2.2.2.2.2.2.2.1) false, .buf 1 (L (cSl cU8) v.2.2.2.2.2.2.2.2.2.2.2.2.2.2.2.2.2.2.2.2.2) false]⟩ : St)) (fun v => .inl v = dY) ?_ ?_
    · have h := cC; clear cC
      refine run_textE hE [0, 1, 5, 7] (fr' := [(0, .sl false (L cAq j)), (1, .sl false (L (cSl cU8) i)), (5, .ref 0 0), (7, i64 0)]) (σ' := [.box [i64 c.1.p.1.Epoch, i64 c.1.p.1.Other, i64 c.1.p.1.First, .sl false (L (cSl cU8) c.1.p.1.Queue), i64 c.1.p.1.Next, .sl false (L cK c.1.p.1.Early), i64 c.1.p.1.SentAt, i64 c.1.p.2.Epoch, i64 c.1.p.2.Other, i64 c.1.p.2.First, .sl false (L (cSl cU8) c.1.p.2.Queue), i64 c.1.p.2.Next, .sl false (L cK c.1.p.2.Early), i64 c.1.p.2.SentAt, .sl true (L cK ([])), .sl true (L cK ([])), .sl true (L (cSl cU8) ([])), .sl true (L (cSl cU8) ([])), .sl true (L (cSl cU8) ([])), .sl true (L (cSl cU8) ([])), i64 c.1.now, i64 c.1.resets] false]) ⟨_, orcs_nil, ?_⟩ ?_
      · simp only [go_sem]
      refine run_block ?_
      replace h := bind_some1 h; obtain ⟨el, dg, co⟩ := h
      refine run_loopO dg (fun (v : Int × Int × Int × Int × List (List UInt8) × Int × List Pk × Int × Int × Int × Int × List (List UInt8) × Int × List Pk × Int × Int × Int × List Pk × List Pk × List (List UInt8) × List (List UInt8) × List (List UInt8) × List (List UInt8)) => (⟨asFr 151 [(0, .sl false (L cAq j)), (1, .sl false (L (cSl cU8) i)), (5, .ref 0 0), (7, i64 v.1)], [.box [i64 v.2.1, i64 v.2.2.1, i64 v.2.2.2.1, .sl false (L (cSl cU8) v.2.2.2.2.1), i64 v.2.2.2.2.2.1, .sl false (L cK v.2.2.2.2.2.2.1), i64 v.2.2.2.2.2.2.2.1, i64 v.2.2.2.2.2.2.2.2.1, i64 v.2.2.2.2.2.2.2.2.2.1, i64 v.2.2.2.2.2.2.2.2.2.2.1, .sl false (L (cSl cU8) v.2.2.2.2.2.2.2.2.2.2.2.1), i64 v.2.2.2.2.2.2.2.2.2.2.2.2.1, .sl false (L cK v.2.2.2.2.2.2.2.2.2.2.2.2.2.1), i64 v.2.2.2.2.2.2.2.2.2.2.2.2.2.2.1, .bs false 1 (v.2.2.2.2.2.2.2.2.2.2.2.2.2.2.2.2.2.1.length) 0 (v.2.2.2.2.2.2.2.2.2.2.2.2.2.2.2.2.2.1.length), .bs false 2 (v.2.2.2.2.2.2.2.2.2.2.2.2.2.2.2.2.2.2.1.length) 0 (v.2.2.2.2.2.2.2.2.2.2.2.2.2.2.2.2.2.2.1.length), .bs false 3 (v.2.2.2.2.2.2.2.2.2.2.2.2.2.2.2.2.2.2.2.1.length) 0 (v.2.2.2.2.2.2.2.2.2.2.2.2.2.2.2.2.2.2.2.1.length), .bs false 4 (v.2.2.2.2.2.2.2.2.2.2.2.2.2.2.2.2.2.2.2.2.1.length) 0 (v.2.2.2.2.2.2.2.2.2.2.2.2.2.2.2.2.2.2.2.2.1.length), .bs false 5 (v.2.2.2.2.2.2.2.2.2.2.2.2.2.2.2.2.2.2.2.2.2.1.length) 0 (v.2.2.2.2.2.2.2.2.2.2.2.2.2.2.2.2.2.2.2.2.2.1.length), .bs false 6 (v.2.2.2.2.2.2.2.2.2.2.2.2.2.2.2.2.2.2.2.2.2.2.length) 0 (v.2.2.2.2.2.2.2.2.2.2.2.2.2.2.2.2.2.2.2.2.2.2.length), i64 v.2.2.2.2.2.2.2.2.2.2.2.2.2.2.2.1, i64 v.2.2.2.2.2.2.2.2.2.2.2.2.2.2.2.2.1] false, .buf 5 (L cK v.2.2.2.2.2.2.2.2.2.2.2.2.2.2.2.2.2.1) false, .buf 5 (L cK v.2.2.2.2.2.2.2.2.2.2.2.2.2.2.2.2.2.2.1) false, .buf 1 (L (cSl cU8) v.2.2.2.2.2.2.2.2.2.2.2.2.2.2.2.2.2.2.2.1) false, .buf 1 (L (cSl cU8) v.2.2.2.2.2.2.2.2.2.2.2.2.2.2.2.2.2.2.2.2.1) false, .buf 1 (L (cSl cU8) v.2.2.2.2.2.2.2.2.2.2.2.2.2.2.2.2.2.2.2.2.2.1) false, .buf 1 (L (cSl cU8) v.2.2.2.2.2.2.2.2.2.2.2.2.2.2.2.2.2.2.2.2.2.2) false]⟩ : St)) ((weak_nil_box 0 14 5 rfl rfl).trans ((weak_nil_box 0 15 5 rfl rfl).trans ((weak_nil_box 0 16 1 rfl rfl).trans ((weak_nil_box 0 17 1 rfl rfl).trans ((weak_nil_box 0 18 1 rfl rfl).trans ((weak_nil_box 0 19 1 rfl rfl).trans (weak_sel [0, 1, 2, 3, 4, 5, 6] (by decide) rfl (by simp only [go_sem]) (by simp only [go_sem])))))))) ?_
      rintro ⟨ap, av, aw, ax, ay, az, aA, aB, aC, aD, aE, aF, aG, aH, aI, aJ, aK, k, n, o, q, s, t⟩ dZ h ct
      replace h : law12_WindowCompletes_b1 j ap av aw ax ay az aA aB aC aD aE aF aG aH aI aJ aK k n o q s t = some dZ := h
      unfold law12_WindowCompletes_b1 at h
      refine run_seq ?_
      replace h := bind_some1 h; obtain ⟨cR, aV, h⟩ := h
      refine run_textW hE [0, 1, 5, 7, 29] (fr' := [(0, .sl false (L cAq j)), (1, .sl false (L (cSl cU8) i)), (5, .ref 0 0), (7, i64 ap), (29, .bool cR)]) (σ' := [.box [i64 av, i64 aw, i64 ax, .sl false (L (cSl cU8) ay), i64 az, .sl false (L cK aA), i64 aB, i64 aC, i64 aD, i64 aE, .sl false (L (cSl cU8) aF), i64 aG, .sl false (L cK aH), i64 aI, .bs false 1 (k.length) 0 (k.length), .bs false 2 (n.length) 0 (n.length), .bs false 3 (o.length) 0 (o.length), .bs false 4 (q.length) 0 (q.length), .bs false 5 (s.length) 0 (s.length), .bs false 6 (t.length) 0 (t.length), i64 aJ, i64 aK] false, .buf 5 (L cK k) false, .buf 5 (L cK n) false, .buf 1 (L (cSl cU8) o) false, .buf 1 (L (cSl cU8) q) false, .buf 1 (L (cSl cU8) s) false, .buf 1 (L (cSl cU8) t) false]) ?_ ?_
      · rcases Bool.eq_false_or_eq_true ((decide (ap < (j.length : Int)))) with b3 | b3
        · replace aV := ite_t aV b3
          have e_hv_2891 := Option.some.inj aV; subst e_hv_2891
          exact ⟨_, [(0, .sl false (L cAq j)), (1, .sl false (L (cSl cU8) i)), (5, .ref 0 0), (7, i64 ap), (29, .bool ((decide (ap < 100))))], [.box [i64 av, i64 aw, i64 ax, .sl false (L (cSl cU8) ay), i64 az, .sl false (L cK aA), i64 aB, i64 aC, i64 aD, i64 aE, .sl false (L (cSl cU8) aF), i64 aG, .sl false (L cK aH), i64 aI, .bs false 1 (k.length) 0 (k.length), .bs false 2 (n.length) 0 (n.length), .bs false 3 (o.length) 0 (o.length), .bs false 4 (q.length) 0 (q.length), .bs false 5 (s.length) 0 (s.length), .bs false 6 (t.length) 0 (t.length), i64 aJ, i64 aK] false, .buf 5 (L cK k) false, .buf 5 (L cK n) false, .buf 1 (L (cSl cU8) o) false, .buf 1 (L (cSl cU8) q) false, .buf 1 (L (cSl cU8) s) false, .buf 1 (L (cSl cU8) t) false], orcs_nil, by simp only [go_sem, b3], (weak_sel [0, 1, 2, 3, 4, 5, 6] (by decide) rfl (by simp only [go_sem]) (by simp only [go_sem]))⟩
        · replace aV := ite_f aV b3
          have e_hv_2891 := Option.some.inj aV; subst e_hv_2891
          exact ⟨_, [(0, .sl false (L cAq j)), (1, .sl false (L (cSl cU8) i)), (5, .ref 0 0), (7, i64 ap), (29, .bool false)], [.box [i64 av, i64 aw, i64 ax, .sl false (L (cSl cU8) ay), i64 az, .sl false (L cK aA), i64 aB, i64 aC, i64 aD, i64 aE, .sl false (L (cSl cU8) aF), i64 aG, .sl false (L cK aH), i64 aI, .bs false 1 (k.length) 0 (k.length), .bs false 2 (n.length) 0 (n.length), .bs false 3 (o.length) 0 (o.length), .bs false 4 (q.length) 0 (q.length), .bs false 5 (s.length) 0 (s.length), .bs false 6 (t.length) 0 (t.length), i64 aJ, i64 aK] false, .buf 5 (L cK k) false, .buf 5 (L cK n) false, .buf 1 (L (cSl cU8) o) false, .buf 1 (L (cSl cU8) q) false, .buf 1 (L (cSl cU8) s) false, .buf 1 (L (cSl cU8) t) false], orcs_nil, by simp only [go_sem, b3], (weak_sel [0, 1, 2, 3, 4, 5, 6] (by decide) rfl (by simp only [go_sem]) (by simp only [go_sem]))⟩
      refine run_condL (b := cR) rfl (by decide) (fun hb => ?_) (fun hb => ?_)
      · replace h := ite_t h hb
        refine run_skip ?_
        refine thenK_n ?_
        refine run_seq ?_
        refine run_block ?_
        refine run_seq ?_
        replace h := chk_some h; obtain ⟨cp, h⟩ := h
        replace h := lt1_some h; obtain ⟨cS, dh, h⟩ := h
        refine run_textE hE [0, 1, 5, 7, 38] (fr' := [(0, .sl false (L cAq j)), (1, .sl false (L (cSl cU8) i)), (5, .ref 0 0), (7, i64 ap), (38, .bool cS)]) (σ' := [.box [i64 av, i64 aw, i64 ax, .sl false (L (cSl cU8) ay), i64 az, .sl false (L cK aA), i64 aB, i64 aC, i64 aD, i64 aE, .sl false (L (cSl cU8) aF), i64 aG, .sl false (L cK aH), i64 aI, .bs false 1 (k.length) 0 (k.length), .bs false 2 (n.length) 0 (n.length), .bs false 3 (o.length) 0 (o.length), .bs false 4 (q.length) 0 (q.length), .bs false 5 (s.length) 0 (s.length), .bs false 6 (t.length) 0 (t.length), i64 aJ, i64 aK] false, .buf 5 (L cK k) false, .buf 5 (L cK n) false, .buf 1 (L (cSl cU8) o) false, .buf 1 (L (cSl cU8) q) false, .buf 1 (L (cSl cU8) s) false, .buf 1 (L (cSl cU8) t) false]) ⟨_, orcs_nil, ?_⟩ ?_
        · subst dh; simp only [go_sem, Int.reduceToNat, cp, cp.2, lt_le cp.2]
        refine run_condL (b := cS) rfl (by decide) (fun hb => ?_) (fun hb => ?_)
        · replace h := ite_t h hb
          refine run_textE hE [4] (fr' := [(4, .bool true)]) (σ' := [.box [i64 av, i64 aw, i64 ax, .sl false (L (cSl cU8) ay), i64 az, .sl false (L cK aA), i64 aB, i64 aC, i64 aD, i64 aE, .sl false (L (cSl cU8) aF), i64 aG, .sl false (L cK aH), i64 aI, .bs false 1 (k.length) 0 (k.length), .bs false 2 (n.length) 0 (n.length), .bs false 3 (o.length) 0 (o.length), .bs false 4 (q.length) 0 (q.length), .bs false 5 (s.length) 0 (s.length), .bs false 6 (t.length) 0 (t.length), i64 aJ, i64 aK] false, .buf 5 (L cK k) false, .buf 5 (L cK n) false, .buf 1 (L (cSl cU8) o) false, .buf 1 (L (cSl cU8) q) false, .buf 1 (L (cSl cU8) s) false, .buf 1 (L (cSl cU8) t) false]) ⟨_, orcs_nil, ?_⟩ ?_
          · simp only [go_sem]
          refine run_ret ?_
          refine thenK_r ?_
          refine blockK_r ?_
          refine thenK_r ?_
          refine lpK_r ?_
          replace h := bind_some1 h; obtain ⟨em, h, e_z_2897⟩ := h
          obtain rfl := Option.some.inj e_z_2897
          have ex_z_2897 := ct _ rfl
          subst ex_z_2897
          obtain rfl := Option.some.inj co
          refine blockK_r ?_
          refine joinK_r ?_
          replace h := bind_some1 h; obtain ⟨en, h, e_z_2896⟩ := h
          obtain rfl := Option.some.inj e_z_2896
          obtain rfl := Option.some.inj cn
          obtain rfl := Option.some.inj h
          refine wkP_of (Weak.refl _ _) ?_
          refine ret_ok (.inr rfl) ?_
          simp only [go_sem]
        · replace h := ite_f h hb
          refine run_skip ?_
          refine thenK_n ?_
          replace h := chk_some h; obtain ⟨cq, h⟩ := h
          replace h := bind_some1 h; obtain ⟨e, di, h⟩ := h
          replace h := lt1_some h; obtain ⟨aZ, dj, h⟩ := h
          replace h := lt1_some h; obtain ⟨a0, dk, h⟩ := h
          replace h := lt1_some h; obtain ⟨a1, dl, h⟩ := h
          replace h := lt1_some h; obtain ⟨a2, dm, h⟩ := h
          replace h := lt1_some h; obtain ⟨a3, dn, h⟩ := h
          replace h := lt1_some h; obtain ⟨a4, dp, h⟩ := h
          refine run_textE0 hE (wk_block wk_then) [0, 1, 5, 7] (fr' := [(0, .sl false (L cAq j)), (1, .sl false (L (cSl cU8) i)), (5, .ref 0 0), (7, i64 ap)]) (σ' := [.box [i64 e.1.p.1.Epoch, i64 e.1.p.1.Other, i64 e.1.p.1.First, .sl false (L (cSl cU8) e.1.p.1.Queue), i64 e.1.p.1.Next, .sl false (L cK e.1.p.1.Early), i64 e.1.p.1.SentAt, i64 e.1.p.2.Epoch, i64 e.1.p.2.Other, i64 e.1.p.2.First, .sl false (L (cSl cU8) e.1.p.2.Queue), i64 e.1.p.2.Next, .sl false (L cK e.1.p.2.Early), i64 e.1.p.2.SentAt, .bs false 7 (aZ.length) 0 (aZ.length), .bs false 8 (a0.length) 0 (a0.length), .bs false 9 (a1.length) 0 (a1.length), .bs false 10 (a2.length) 0 (a2.length), .bs false 11 (a3.length) 0 (a3.length), .bs false 12 (a4.length) 0 (a4.length), i64 e.1.now, i64 e.1.resets] false, deadB e.2.1, deadB e.2.2.1, deadB e.2.2.2.1, deadB e.2.2.2.2.1, deadB e.2.2.2.2.2.1, deadB e.2.2.2.2.2.2, .buf 5 (L cK aZ) false, .buf 5 (L cK a0) false, .buf 1 (L (cSl cU8) a1) false, .buf 1 (L (cSl cU8) a2) false, .buf 1 (L (cSl cU8) a3) false, .buf 1 (L (cSl cU8) a4) false]) ⟨_, orcs_ok2 (l := []) (m := [(44, 24, [.ref 0 0, .agg [i64 ((nth j ap.toNat).Kind), i64 ((nth j ap.toNat).Side), i64 ((nth j ap.toNat).N), .sl false (L cU8 ((nth j ap.toNat).Data))]], [.box [i64 av, i64 aw, i64 ax, .sl false (L (cSl cU8) ay), i64 az, .sl false (L cK aA), i64 aB, i64 aC, i64 aD, i64 aE, .sl false (L (cSl cU8) aF), i64 aG, .sl false (L cK aH), i64 aI, .bs false 1 (k.length) 0 (k.length), .bs false 2 (n.length) 0 (n.length), .bs false 3 (o.length) 0 (o.length), .bs false 4 (q.length) 0 (q.length), .bs false 5 (s.length) 0 (s.length), .bs false 6 (t.length) 0 (t.length), i64 aJ, i64 aK] false, .buf 5 (L cK k) false, .buf 5 (L cK n) false, .buf 1 (L (cSl cU8) o) false, .buf 1 (L (cSl cU8) q) false, .buf 1 (L (cSl cU8) s) false, .buf 1 (L (cSl cU8) t) false], .tup [], [.box [i64 e.1.p.1.Epoch, i64 e.1.p.1.Other, i64 e.1.p.1.First, .sl false (L (cSl cU8) e.1.p.1.Queue), i64 e.1.p.1.Next, .sl false (L cK e.1.p.1.Early), i64 e.1.p.1.SentAt, i64 e.1.p.2.Epoch, i64 e.1.p.2.Other, i64 e.1.p.2.First, .sl false (L (cSl cU8) e.1.p.2.Queue), i64 e.1.p.2.Next, .sl false (L cK e.1.p.2.Early), i64 e.1.p.2.SentAt, .bs false 7 (e.1.way.1.length) 0 (e.1.way.1.length), .bs false 8 (e.1.way.2.length) 0 (e.1.way.2.length), .bs false 9 (e.1.oz.1.length) 0 (e.1.oz.1.length), .bs false 10 (e.1.oz.2.length) 0 (e.1.oz.2.length), .bs false 11 (e.1.dz.1.length) 0 (e.1.dz.1.length), .bs false 12 (e.1.dz.2.length) 0 (e.1.dz.2.length), i64 e.1.now, i64 e.1.resets] false, deadB e.2.1, deadB e.2.2.1, deadB e.2.2.2.1, deadB e.2.2.2.2.1, deadB e.2.2.2.2.2.1, deadB e.2.2.2.2.2.2, .buf 5 (L cK e.1.way.1) false, .buf 5 (L cK e.1.way.2) false, .buf 1 (L (cSl cU8) e.1.oz.1) false, .buf 1 (L (cSl cU8) e.1.oz.2) false, .buf 1 (L (cSl cU8) e.1.dz.1) false, .buf 1 (L (cSl cU8) e.1.dz.2) false])]) trivial ⟨(wcon_call (law12_pair_act_con di) [0, 1, 2, 3, 4, 5, 6] (by decide) (by simp only [go_sem]) (by simp only [go_sem]) (by simp only [go_sem]) (by simp only [go_sem]) (by simp only [go_sem])), trivial⟩, ?_⟩ ?_
          · subst dp; subst dn; subst dm; subst dl; subst dk; subst dj; simp only [go_sem, Int.reduceToNat, cq, cq.2, lt_le cq.2]
          refine blockK_n ?_
          refine thenK_n ?_
          refine run_textE0 hE wk_lp [0, 1, 5, 7] (fr' := [(0, .sl false (L cAq j)), (1, .sl false (L (cSl cU8) i)), (5, .ref 0 0), (7, i64 ((w64 (ap + 1))))]) (σ' := [.box [i64 e.1.p.1.Epoch, i64 e.1.p.1.Other, i64 e.1.p.1.First, .sl false (L (cSl cU8) e.1.p.1.Queue), i64 e.1.p.1.Next, .sl false (L cK e.1.p.1.Early), i64 e.1.p.1.SentAt, i64 e.1.p.2.Epoch, i64 e.1.p.2.Other, i64 e.1.p.2.First, .sl false (L (cSl cU8) e.1.p.2.Queue), i64 e.1.p.2.Next, .sl false (L cK e.1.p.2.Early), i64 e.1.p.2.SentAt, .bs false 7 (aZ.length) 0 (aZ.length), .bs false 8 (a0.length) 0 (a0.length), .bs false 9 (a1.length) 0 (a1.length), .bs false 10 (a2.length) 0 (a2.length), .bs false 11 (a3.length) 0 (a3.length), .bs false 12 (a4.length) 0 (a4.length), i64 e.1.now, i64 e.1.resets] false, deadB e.2.1, deadB e.2.2.1, deadB e.2.2.2.1, deadB e.2.2.2.2.1, deadB e.2.2.2.2.2.1, deadB e.2.2.2.2.2.2, .buf 5 (L cK aZ) false, .buf 5 (L cK a0) false, .buf 1 (L (cSl cU8) a1) false, .buf 1 (L (cSl cU8) a2) false, .buf 1 (L (cSl cU8) a3) false, .buf 1 (L (cSl cU8) a4) false]) ⟨_, orcs_nil, ?_⟩ ?_
          · simp only [go_sem]
          obtain rfl := Option.some.inj h
          exact lpK_n (((w64 (ap + 1)), e.1.p.1.Epoch, e.1.p.1.Other, e.1.p.1.First, e.1.p.1.Queue, e.1.p.1.Next, e.1.p.1.Early, e.1.p.1.SentAt, e.1.p.2.Epoch, e.1.p.2.Other, e.1.p.2.First, e.1.p.2.Queue, e.1.p.2.Next, e.1.p.2.Early, e.1.p.2.SentAt, e.1.now, e.1.resets, aZ, a0, a1, a2, a3, a4)) rfl (weak_sel [0, 7, 8, 9, 10, 11, 12] (by decide) rfl (by simp only [go_sem]) (by simp only [go_sem]))
      · replace h := ite_f h hb
        refine run_exit ?_
        refine thenK_x ?_
        obtain rfl := Option.some.inj h
        have ex_x_2885 := ct _ rfl
        subst ex_x_2885
        have h := co; clear co
        refine lpK_x ?_
        refine blockK_x ?_
        obtain rfl := Option.some.inj h
        exact joinK_n ((av, aw, ax, ay, az, aA, aB, aC, aD, aE, aF, aG, aH, aI, aJ, aK, k, n, o, q, s, t)) rfl ((weak_sel (l' := [(1, .sl false (L (cSl cU8) i)), (5, .ref 0 0)]) (σ' := [.box [i64 av, i64 aw, i64 ax, .sl false (L (cSl cU8) ay), i64 az, .sl false (L cK aA), i64 aB, i64 aC, i64 aD, i64 aE, .sl false (L (cSl cU8) aF), i64 aG, .sl false (L cK aH), i64 aI, .bs false 1 (k.length) 0 (k.length), .bs false 2 (n.length) 0 (n.length), .bs false 3 (o.length) 0 (o.length), .bs false 4 (q.length) 0 (q.length), .bs false 5 (s.length) 0 (s.length), .bs false 6 (t.length) 0 (t.length), i64 aJ, i64 aK] false, .buf 5 (L cK k) false, .buf 5 (L cK n) false, .buf 1 (L (cSl cU8) o) false, .buf 1 (L (cSl cU8) q) false, .buf 1 (L (cSl cU8) s) false, .buf 1 (L (cSl cU8) t) false]) [0, 1, 2, 3, 4, 5, 6] (by decide) rfl (by simp only [go_sem]) (by simp only [go_sem])).trans (weak_sel [0, 1, 2, 3, 4, 5, 6] (by decide) rfl (by simp only [go_sem]) (by simp only [go_sem])))
    rintro ⟨d0, d1, d2, d3, d4, d5, d6, d7, d8, d9, ea, eb, ec, ed, ee, ef, cu, cv, cw, cx, cy, cz⟩ rfl
    have h := cn; clear cn
    replace h := bind_some1 h; obtain ⟨d, dq, h⟩ := h
    replace h := lt1_some h; obtain ⟨b4, dr, h⟩ := h
    replace h := lt1_some h; obtain ⟨b5, ds, h⟩ := h
    replace h := lt1_some h; obtain ⟨b6, dt, h⟩ := h
    replace h := lt1_some h; obtain ⟨b7, du, h⟩ := h
    replace h := lt1_some h; obtain ⟨b8, dv, h⟩ := h
    replace h := lt1_some h; obtain ⟨b9, dw, h⟩ := h
    refine run_textE hE [1, 5] (fr' := [(1, .sl false (L (cSl cU8) i)), (5, .ref 0 0)]) (σ' := [.box [i64 d.1.p.1.Epoch, i64 d.1.p.1.Other, i64 d.1.p.1.First, .sl false (L (cSl cU8) d.1.p.1.Queue), i64 d.1.p.1.Next, .sl false (L cK d.1.p.1.Early), i64 d.1.p.1.SentAt, i64 d.1.p.2.Epoch, i64 d.1.p.2.Other, i64 d.1.p.2.First, .sl false (L (cSl cU8) d.1.p.2.Queue), i64 d.1.p.2.Next, .sl false (L cK d.1.p.2.Early), i64 d.1.p.2.SentAt, .bs false 7 (b4.length) 0 (b4.length), .bs false 8 (b5.length) 0 (b5.length), .bs false 9 (b6.length) 0 (b6.length), .bs false 10 (b7.length) 0 (b7.length), .bs false 11 (b8.length) 0 (b8.length), .bs false 12 (b9.length) 0 (b9.length), i64 d.1.now, i64 d.1.resets] false, deadB d.2.1, deadB d.2.2.1, deadB d.2.2.2.1, deadB d.2.2.2.2.1, deadB d.2.2.2.2.2.1, deadB d.2.2.2.2.2.2, .buf 5 (L cK b4) false, .buf 5 (L cK b5) false, .buf 1 (L (cSl cU8) b6) false, .buf 1 (L (cSl cU8) b7) false, .buf 1 (L (cSl cU8) b8) false, .buf 1 (L (cSl cU8) b9) false]) ⟨_, orcs_ok2 (l := []) (m := [(46, 26, [.ref 0 0], [.box [i64 d0, i64 d1, i64 d2, .sl false (L (cSl cU8) d3), i64 d4, .sl false (L cK d5), i64 d6, i64 d7, i64 d8, i64 d9, .sl false (L (cSl cU8) ea), i64 eb, .sl false (L cK ec), i64 ed, .bs false 1 (cu.length) 0 (cu.length), .bs false 2 (cv.length) 0 (cv.length), .bs false 3 (cw.length) 0 (cw.length), .bs false 4 (cx.length) 0 (cx.length), .bs false 5 (cy.length) 0 (cy.length), .bs false 6 (cz.length) 0 (cz.length), i64 ee, i64 ef] false, .buf 5 (L cK cu) false, .buf 5 (L cK cv) false, .buf 1 (L (cSl cU8) cw) false, .buf 1 (L (cSl cU8) cx) false, .buf 1 (L (cSl cU8) cy) false, .buf 1 (L (cSl cU8) cz) false], .tup [], [.box [i64 d.1.p.1.Epoch, i64 d.1.p.1.Other, i64 d.1.p.1.First, .sl false (L (cSl cU8) d.1.p.1.Queue), i64 d.1.p.1.Next, .sl false (L cK d.1.p.1.Early), i64 d.1.p.1.SentAt, i64 d.1.p.2.Epoch, i64 d.1.p.2.Other, i64 d.1.p.2.First, .sl false (L (cSl cU8) d.1.p.2.Queue), i64 d.1.p.2.Next, .sl false (L cK d.1.p.2.Early), i64 d.1.p.2.SentAt, .bs false 7 (d.1.way.1.length) 0 (d.1.way.1.length), .bs false 8 (d.1.way.2.length) 0 (d.1.way.2.length), .bs false 9 (d.1.oz.1.length) 0 (d.1.oz.1.length), .bs false 10 (d.1.oz.2.length) 0 (d.1.oz.2.length), .bs false 11 (d.1.dz.1.length) 0 (d.1.dz.1.length), .bs false 12 (d.1.dz.2.length) 0 (d.1.dz.2.length), i64 d.1.now, i64 d.1.resets] false, deadB d.2.1, deadB d.2.2.1, deadB d.2.2.2.1, deadB d.2.2.2.2.1, deadB d.2.2.2.2.2.1, deadB d.2.2.2.2.2.2, .buf 5 (L cK d.1.way.1) false, .buf 5 (L cK d.1.way.2) false, .buf 1 (L (cSl cU8) d.1.oz.1) false, .buf 1 (L (cSl cU8) d.1.oz.2) false, .buf 1 (L (cSl cU8) d.1.dz.1) false, .buf 1 (L (cSl cU8) d.1.dz.2) false])]) trivial ⟨(wcon_call (law12_pair_swap_con dq) [0, 1, 2, 3, 4, 5, 6] (by decide) (by simp only [go_sem]) (by simp only [go_sem]) (by simp only [go_sem]) (by simp only [go_sem]) (by simp only [go_sem])), trivial⟩, ?_⟩ ?_
    · subst dw; subst dv; subst du; subst dt; subst ds; subst dr; simp only [go_sem]
    replace h := bind_some1 h; obtain ⟨a, dx, h⟩ := h
    replace h := lt1_some h; obtain ⟨aL, dy, h⟩ := h
    replace h := lt1_some h; obtain ⟨aM, dA, h⟩ := h
    replace h := lt1_some h; obtain ⟨aN, dB, h⟩ := h
    replace h := lt1_some h; obtain ⟨aO, dC, h⟩ := h
    replace h := lt1_some h; obtain ⟨aP, dD, h⟩ := h
    replace h := lt1_some h; obtain ⟨aQ, dE, h⟩ := h
    refine run_textE hE [1, 5] (fr' := [(1, .sl false (L (cSl cU8) i)), (5, .ref 0 0)]) (σ' := [.box [i64 a.1.p.1.Epoch, i64 a.1.p.1.Other, i64 a.1.p.1.First, .sl false (L (cSl cU8) a.1.p.1.Queue), i64 a.1.p.1.Next, .sl false (L cK a.1.p.1.Early), i64 a.1.p.1.SentAt, i64 a.1.p.2.Epoch, i64 a.1.p.2.Other, i64 a.1.p.2.First, .sl false (L (cSl cU8) a.1.p.2.Queue), i64 a.1.p.2.Next, .sl false (L cK a.1.p.2.Early), i64 a.1.p.2.SentAt, .bs false 13 (aL.length) 0 (aL.length), .bs false 14 (aM.length) 0 (aM.length), .bs false 15 (aN.length) 0 (aN.length), .bs false 16 (aO.length) 0 (aO.length), .bs false 17 (aP.length) 0 (aP.length), .bs false 18 (aQ.length) 0 (aQ.length), i64 a.1.now, i64 a.1.resets] false, deadB d.2.1, deadB d.2.2.1, deadB d.2.2.2.1, deadB d.2.2.2.2.1, deadB d.2.2.2.2.2.1, deadB d.2.2.2.2.2.2, deadB a.2.1, deadB a.2.2.1, deadB a.2.2.2.1, deadB a.2.2.2.2.1, deadB a.2.2.2.2.2.1, deadB a.2.2.2.2.2.2, .buf 5 (L cK aL) false, .buf 5 (L cK aM) false, .buf 1 (L (cSl cU8) aN) false, .buf 1 (L (cSl cU8) aO) false, .buf 1 (L (cSl cU8) aP) false, .buf 1 (L (cSl cU8) aQ) false]) ⟨_, orcs_ok2 (l := []) (m := [(48, 26, [.ref 0 0], [.box [i64 d.1.p.1.Epoch, i64 d.1.p.1.Other, i64 d.1.p.1.First, .sl false (L (cSl cU8) d.1.p.1.Queue), i64 d.1.p.1.Next, .sl false (L cK d.1.p.1.Early), i64 d.1.p.1.SentAt, i64 d.1.p.2.Epoch, i64 d.1.p.2.Other, i64 d.1.p.2.First, .sl false (L (cSl cU8) d.1.p.2.Queue), i64 d.1.p.2.Next, .sl false (L cK d.1.p.2.Early), i64 d.1.p.2.SentAt, .bs false 7 (b4.length) 0 (b4.length), .bs false 8 (b5.length) 0 (b5.length), .bs false 9 (b6.length) 0 (b6.length), .bs false 10 (b7.length) 0 (b7.length), .bs false 11 (b8.length) 0 (b8.length), .bs false 12 (b9.length) 0 (b9.length), i64 d.1.now, i64 d.1.resets] false, deadB d.2.1, deadB d.2.2.1, deadB d.2.2.2.1, deadB d.2.2.2.2.1, deadB d.2.2.2.2.2.1, deadB d.2.2.2.2.2.2, .buf 5 (L cK b4) false, .buf 5 (L cK b5) false, .buf 1 (L (cSl cU8) b6) false, .buf 1 (L (cSl cU8) b7) false, .buf 1 (L (cSl cU8) b8) false, .buf 1 (L (cSl cU8) b9) false], .tup [], [.box [i64 a.1.p.1.Epoch, i64 a.1.p.1.Other, i64 a.1.p.1.First, .sl false (L (cSl cU8) a.1.p.1.Queue), i64 a.1.p.1.Next, .sl false (L cK a.1.p.1.Early), i64 a.1.p.1.SentAt, i64 a.1.p.2.Epoch, i64 a.1.p.2.Other, i64 a.1.p.2.First, .sl false (L (cSl cU8) a.1.p.2.Queue), i64 a.1.p.2.Next, .sl false (L cK a.1.p.2.Early), i64 a.1.p.2.SentAt, .bs false 13 (a.1.way.1.length) 0 (a.1.way.1.length), .bs false 14 (a.1.way.2.length) 0 (a.1.way.2.length), .bs false 15 (a.1.oz.1.length) 0 (a.1.oz.1.length), .bs false 16 (a.1.oz.2.length) 0 (a.1.oz.2.length), .bs false 17 (a.1.dz.1.length) 0 (a.1.dz.1.length), .bs false 18 (a.1.dz.2.length) 0 (a.1.dz.2.length), i64 a.1.now, i64 a.1.resets] false, deadB d.2.1, deadB d.2.2.1, deadB d.2.2.2.1, deadB d.2.2.2.2.1, deadB d.2.2.2.2.2.1, deadB d.2.2.2.2.2.2, deadB a.2.1, deadB a.2.2.1, deadB a.2.2.2.1, deadB a.2.2.2.2.1, deadB a.2.2.2.2.2.1, deadB a.2.2.2.2.2.2, .buf 5 (L cK a.1.way.1) false, .buf 5 (L cK a.1.way.2) false, .buf 1 (L (cSl cU8) a.1.oz.1) false, .buf 1 (L (cSl cU8) a.1.oz.2) false, .buf 1 (L (cSl cU8) a.1.dz.1) false, .buf 1 (L (cSl cU8) a.1.dz.2) false])]) trivial ⟨(wcon_call (law12_pair_swap_con dx) [0, 7, 8, 9, 10, 11, 12] (by decide) (by simp only [go_sem]) (by simp only [go_sem]) (by simp only [go_sem]) (by simp only [go_sem]) (by simp only [go_sem])), trivial⟩, ?_⟩ ?_
    · subst dE; subst dD; subst dC; subst dB; subst dA; subst dy; simp only [go_sem]
    refine run_textE hE [1, 5, 8] (fr' := [(1, .sl false (L (cSl cU8) i)), (5, .ref 0 0), (8, i64 a.1.resets)]) (σ' := [.box [i64 a.1.p.1.Epoch, i64 a.1.p.1.Other, i64 a.1.p.1.First, .sl false (L (cSl cU8) a.1.p.1.Queue), i64 a.1.p.1.Next, .sl false (L cK a.1.p.1.Early), i64 a.1.p.1.SentAt, i64 a.1.p.2.Epoch, i64 a.1.p.2.Other, i64 a.1.p.2.First, .sl false (L (cSl cU8) a.1.p.2.Queue), i64 a.1.p.2.Next, .sl false (L cK a.1.p.2.Early), i64 a.1.p.2.SentAt, .bs false 13 (aL.length) 0 (aL.length), .bs false 14 (aM.length) 0 (aM.length), .bs false 15 (aN.length) 0 (aN.length), .bs false 16 (aO.length) 0 (aO.length), .bs false 17 (aP.length) 0 (aP.length), .bs false 18 (aQ.length) 0 (aQ.length), i64 a.1.now, i64 a.1.resets] false, deadB d.2.1, deadB d.2.2.1, deadB d.2.2.2.1, deadB d.2.2.2.2.1, deadB d.2.2.2.2.2.1, deadB d.2.2.2.2.2.2, deadB a.2.1, deadB a.2.2.1, deadB a.2.2.2.1, deadB a.2.2.2.2.1, deadB a.2.2.2.2.2.1, deadB a.2.2.2.2.2.2, .buf 5 (L cK aL) false, .buf 5 (L cK aM) false, .buf 1 (L (cSl cU8) aN) false, .buf 1 (L (cSl cU8) aO) false, .buf 1 (L (cSl cU8) aP) false, .buf 1 (L (cSl cU8) aQ) false]) ⟨_, orcs_nil, ?_⟩ ?_
    · simp only [go_sem]
    replace h := bind_some1 h; obtain ⟨eg, cD, cE⟩ := h
    refine run_join (fun (v : Int × Int × Int × List (List UInt8) × Int × List Pk × Int × Int × Int × Int × List (List UInt8) × Int × List Pk × Int × Int × Int × List Pk × List Pk × List (List UInt8) × List (List UInt8) × List (List UInt8) × List (List UInt8)) => (⟨asFr 151 [(5, .ref 0 0), (8, i64 a.1.resets)], [.box [i64 v.1, i64 v.2.1, i64 v.2.2.1, .sl false (L (cSl cU8) v.2.2.2.1), i64 v.2.2.2.2.1, .sl false (L cK v.2.2.2.2.2.1), i64 v.2.2.2.2.2.2.1, i64 v.2.2.2.2.2.2.2.1, i64 v.2.2.2.2.2.2.2.2.1, i64 v.2.2.2.2.2.2.2.2.2.1, .sl false (L (cSl cU8) v.2.2.2.2.2.2.2.2.2.2.1), i64 v.2.2.2.2.2.2.2.2.2.2.2.1, .sl false (L cK v.2.2.2.2.2.2.2.2.2.2.2.2.1), i64 v.2.2.2.2.2.2.2.2.2.2.2.2.2.1, .bs false 1 (v.2.2.2.2.2.2.2.2.2.2.2.2.2.2.2.2.1.length) 0 (v.2.2.2.2.2.2.2.2.2.2.2.2.2.2.2.2.1.length), .bs false 2 (v.2.2.2.2.2.2.2.2.2.2.2.2.2.2.2.2.2.1.length) 0 (v.2.2.2.2.2.2.2.2.2.2.2.2.2.2.2.2.2.1.length), .bs false 3 (v.2.2.2.2.2.2.2.2.2.2.2.2.2.2.2.2.2.2.1.length) 0 (v.2.2.2.2.2.2.2.2.2.2.2.2.2.2.2.2.2.2.1.length), .bs false 4 (v.2.2.2.2.2.2.2.2.2.2.2.2.2.2.2.2.2.2.2.1.length) 0 (v.2.2.2.2.2.2.2.2.2.2.2.2.2.2.2.2.2.2.2.1.length), .bs false 5 (v.2.2.2.2.2.2.2.2.2.2.2.2.2.2.2.2.2.2.2.2.1.length) 0 (v.2.2.2.2.2.2.2.2.2.2.2.2.2.2.2.2.2.2.2.2.1.length), .bs false 6 (v.2.2.2.2.2.2.2.2.2.2.2.2.2.2.2.2.2.2.2.2.2.length) 0 (v.2.2.2.2.2.2.2.2.2.2.2.2.2.2.2.2.2.2.2.2.2.length), i64 v.2.2.2.2.2.2.2.2.2.2.2.2.2.2.1, i64 v.2.2.2.2.2.2.2.2.2.2.2.2.2.2.2.1] false, .buf 5 (L cK v.2.2.2.2.2.2.2.2.2.2.2.2.2.2.2.2.1) false, .buf 5 (L cK v.2.2.2.2.2.2.2.2.2.2.2.2.2.2.2.2.2.1) false, .buf 1 (L (cSl cU8) v.2.2.2.2.2.2.2.2.2.2.2.2.2.2.2.2.2.2.1) false, .buf 1 (L (cSl cU8) v.2.2.2.2.2.2.2.2.2.2.2.2.2.2.2.2.2.2.2.1) false, .buf 1 (L (cSl cU8) v.2.2.2.2.2.2.2.2.2.2.2.2.2.2.2.2.2.2.2.2.1) false, .buf 1 (L (cSl cU8) v.2.2.2.2.2.2.2.2.2.2.2.2.2.2.2.2.2.2.2.2.2) false]⟩ : St)) (fun v => v = eg) ?_ ?_
    · have h := cD; clear cD
      refine run_textE hE [1, 5, 8, 9] (fr' := [(1, .sl false (L (cSl cU8) i)), (5, .ref 0 0), (8, i64 a.1.resets), (9, i64 0)]) (σ' := [.box [i64 a.1.p.1.Epoch, i64 a.1.p.1.Other, i64 a.1.p.1.First, .sl false (L (cSl cU8) a.1.p.1.Queue), i64 a.1.p.1.Next, .sl false (L cK a.1.p.1.Early), i64 a.1.p.1.SentAt, i64 a.1.p.2.Epoch, i64 a.1.p.2.Other, i64 a.1.p.2.First, .sl false (L (cSl cU8) a.1.p.2.Queue), i64 a.1.p.2.Next, .sl false (L cK a.1.p.2.Early), i64 a.1.p.2.SentAt, .bs false 13 (aL.length) 0 (aL.length), .bs false 14 (aM.length) 0 (aM.length), .bs false 15 (aN.length) 0 (aN.length), .bs false 16 (aO.length) 0 (aO.length), .bs false 17 (aP.length) 0 (aP.length), .bs false 18 (aQ.length) 0 (aQ.length), i64 a.1.now, i64 a.1.resets] false, deadB d.2.1, deadB d.2.2.1, deadB d.2.2.2.1, deadB d.2.2.2.2.1, deadB d.2.2.2.2.2.1, deadB d.2.2.2.2.2.2, deadB a.2.1, deadB a.2.2.1, deadB a.2.2.2.1, deadB a.2.2.2.2.1, deadB a.2.2.2.2.2.1, deadB a.2.2.2.2.2.2, .buf 5 (L cK aL) false, .buf 5 (L cK aM) false, .buf 1 (L (cSl cU8) aN) false, .buf 1 (L (cSl cU8) aO) false, .buf 1 (L (cSl cU8) aP) false, .buf 1 (L (cSl cU8) aQ) false]) ⟨_, orcs_nil, ?_⟩ ?_
      · simp only [go_sem]
      refine run_block ?_
      replace h := bind_some1 h; obtain ⟨eo, dF, cF⟩ := h
      refine run_loopO dF (fun (v : Int × Int × Int × Int × List (List UInt8) × Int × List Pk × Int × Int × Int × Int × List (List UInt8) × Int × List Pk × Int × Int × Int × List Pk × List Pk × List (List UInt8) × List (List UInt8) × List (List UInt8) × List (List UInt8)) => (⟨asFr 151 [(1, .sl false (L (cSl cU8) i)), (5, .ref 0 0), (8, i64 a.1.resets), (9, i64 v.1)], [.box [i64 v.2.1, i64 v.2.2.1, i64 v.2.2.2.1, .sl false (L (cSl cU8) v.2.2.2.2.1), i64 v.2.2.2.2.2.1, .sl false (L cK v.2.2.2.2.2.2.1), i64 v.2.2.2.2.2.2.2.1, i64 v.2.2.2.2.2.2.2.2.1, i64 v.2.2.2.2.2.2.2.2.2.1, i64 v.2.2.2.2.2.2.2.2.2.2.1, .sl false (L (cSl cU8) v.2.2.2.2.2.2.2.2.2.2.2.1), i64 v.2.2.2.2.2.2.2.2.2.2.2.2.1, .sl false (L cK v.2.2.2.2.2.2.2.2.2.2.2.2.2.1), i64 v.2.2.2.2.2.2.2.2.2.2.2.2.2.2.1, .bs false 1 (v.2.2.2.2.2.2.2.2.2.2.2.2.2.2.2.2.2.1.length) 0 (v.2.2.2.2.2.2.2.2.2.2.2.2.2.2.2.2.2.1.length), .bs false 2 (v.2.2.2.2.2.2.2.2.2.2.2.2.2.2.2.2.2.2.1.length) 0 (v.2.2.2.2.2.2.2.2.2.2.2.2.2.2.2.2.2.2.1.length), .bs false 3 (v.2.2.2.2.2.2.2.2.2.2.2.2.2.2.2.2.2.2.2.1.length) 0 (v.2.2.2.2.2.2.2.2.2.2.2.2.2.2.2.2.2.2.2.1.length), .bs false 4 (v.2.2.2.2.2.2.2.2.2.2.2.2.2.2.2.2.2.2.2.2.1.length) 0 (v.2.2.2.2.2.2.2.2.2.2.2.2.2.2.2.2.2.2.2.2.1.length), .bs false 5 (v.2.2.2.2.2.2.2.2.2.2.2.2.2.2.2.2.2.2.2.2.2.1.length) 0 (v.2.2.2.2.2.2.2.2.2.2.2.2.2.2.2.2.2.2.2.2.2.1.length), .bs false 6 (v.2.2.2.2.2.2.2.2.2.2.2.2.2.2.2.2.2.2.2.2.2.2.length) 0 (v.2.2.2.2.2.2.2.2.2.2.2.2.2.2.2.2.2.2.2.2.2.2.length), i64 v.2.2.2.2.2.2.2.2.2.2.2.2.2.2.2.1, i64 v.2.2.2.2.2.2.2.2.2.2.2.2.2.2.2.2.1] false, .buf 5 (L cK v.2.2.2.2.2.2.2.2.2.2.2.2.2.2.2.2.2.1) false, .buf 5 (L cK v.2.2.2.2.2.2.2.2.2.2.2.2.2.2.2.2.2.2.1) false, .buf 1 (L (cSl cU8) v.2.2.2.2.2.2.2.2.2.2.2.2.2.2.2.2.2.2.2.1) false, .buf 1 (L (cSl cU8) v.2.2.2.2.2.2.2.2.2.2.2.2.2.2.2.2.2.2.2.2.1) false, .buf 1 (L (cSl cU8) v.2.2.2.2.2.2.2.2.2.2.2.2.2.2.2.2.2.2.2.2.2.1) false, .buf 1 (L (cSl cU8) v.2.2.2.2.2.2.2.2.2.2.2.2.2.2.2.2.2.2.2.2.2.2) false]⟩ : St)) (weak_sel [0, 13, 14, 15, 16, 17, 18] (by decide) rfl (by simp only [go_sem]) (by simp only [go_sem])) ?_
      rintro ⟨au, a5, a6, a7, a8, a9, ba, bb, bc, bd, be, bf, bg, bh, bi, bj, bk, ac, ad, ae, af, ag, ah⟩ eh h dd
      replace h : law12_WindowCompletes_b2 i au a5 a6 a7 a8 a9 ba bb bc bd be bf bg bh bi bj bk ac ad ae af ag ah = some eh := h
      unfold law12_WindowCompletes_b2 at h
      refine run_seq ?_
      replace h := bind_some1 h; obtain ⟨cT, aW, h⟩ := h
      refine run_textW hE [1, 5, 8, 9, 60] (fr' := [(1, .sl false (L (cSl cU8) i)), (5, .ref 0 0), (8, i64 a.1.resets), (9, i64 au), (60, .bool cT)]) (σ' := [.box [i64 a5, i64 a6, i64 a7, .sl false (L (cSl cU8) a8), i64 a9, .sl false (L cK ba), i64 bb, i64 bc, i64 bd, i64 be, .sl false (L (cSl cU8) bf), i64 bg, .sl false (L cK bh), i64 bi, .bs false 1 (ac.length) 0 (ac.length), .bs false 2 (ad.length) 0 (ad.length), .bs false 3 (ae.length) 0 (ae.length), .bs false 4 (af.length) 0 (af.length), .bs false 5 (ag.length) 0 (ag.length), .bs false 6 (ah.length) 0 (ah.length), i64 bj, i64 bk] false, .buf 5 (L cK ac) false, .buf 5 (L cK ad) false, .buf 1 (L (cSl cU8) ae) false, .buf 1 (L (cSl cU8) af) false, .buf 1 (L (cSl cU8) ag) false, .buf 1 (L (cSl cU8) ah) false]) ?_ ?_
      · rcases Bool.eq_false_or_eq_true ((decide (au < (i.length : Int)))) with ca | ca
        · replace aW := ite_t aW ca
          have e_hv_3157 := Option.some.inj aW; subst e_hv_3157
          exact ⟨_, [(1, .sl false (L (cSl cU8) i)), (5, .ref 0 0), (8, i64 a.1.resets), (9, i64 au), (60, .bool ((decide (au < 40))))], [.box [i64 a5, i64 a6, i64 a7, .sl false (L (cSl cU8) a8), i64 a9, .sl false (L cK ba), i64 bb, i64 bc, i64 bd, i64 be, .sl false (L (cSl cU8) bf), i64 bg, .sl false (L cK bh), i64 bi, .bs false 1 (ac.length) 0 (ac.length), .bs false 2 (ad.length) 0 (ad.length), .bs false 3 (ae.length) 0 (ae.length), .bs false 4 (af.length) 0 (af.length), .bs false 5 (ag.length) 0 (ag.length), .bs false 6 (ah.length) 0 (ah.length), i64 bj, i64 bk] false, .buf 5 (L cK ac) false, .buf 5 (L cK ad) false, .buf 1 (L (cSl cU8) ae) false, .buf 1 (L (cSl cU8) af) false, .buf 1 (L (cSl cU8) ag) false, .buf 1 (L (cSl cU8) ah) false], orcs_nil, by simp only [go_sem, ca], (weak_sel [0, 1, 2, 3, 4, 5, 6] (by decide) rfl (by simp only [go_sem]) (by simp only [go_sem]))⟩
        · replace aW := ite_f aW ca
          have e_hv_3157 := Option.some.inj aW; subst e_hv_3157
          exact ⟨_, [(1, .sl false (L (cSl cU8) i)), (5, .ref 0 0), (8, i64 a.1.resets), (9, i64 au), (60, .bool false)], [.box [i64 a5, i64 a6, i64 a7, .sl false (L (cSl cU8) a8), i64 a9, .sl false (L cK ba), i64 bb, i64 bc, i64 bd, i64 be, .sl false (L (cSl cU8) bf), i64 bg, .sl false (L cK bh), i64 bi, .bs false 1 (ac.length) 0 (ac.length), .bs false 2 (ad.length) 0 (ad.length), .bs false 3 (ae.length) 0 (ae.length), .bs false 4 (af.length) 0 (af.length), .bs false 5 (ag.length) 0 (ag.length), .bs false 6 (ah.length) 0 (ah.length), i64 bj, i64 bk] false, .buf 5 (L cK ac) false, .buf 5 (L cK ad) false, .buf 1 (L (cSl cU8) ae) false, .buf 1 (L (cSl cU8) af) false, .buf 1 (L (cSl cU8) ag) false, .buf 1 (L (cSl cU8) ah) false], orcs_nil, by simp only [go_sem, ca], (weak_sel [0, 1, 2, 3, 4, 5, 6] (by decide) rfl (by simp only [go_sem]) (by simp only [go_sem]))⟩
      refine run_condL (b := cT) rfl (by decide) (fun hb => ?_) (fun hb => ?_)
      · replace h := ite_t h hb
        refine run_skip ?_
        refine thenK_n ?_
        refine run_seq ?_
        refine run_block ?_
        replace h := chk_some h; obtain ⟨cr, h⟩ := h
        replace h := bind_some1 h; obtain ⟨f, dG, h⟩ := h
        replace h := lt1_some h; obtain ⟨bl, dH, h⟩ := h
        replace h := lt1_some h; obtain ⟨bm, dI, h⟩ := h
        replace h := lt1_some h; obtain ⟨bn, dJ, h⟩ := h
        replace h := lt1_some h; obtain ⟨bo, dK, h⟩ := h
        replace h := lt1_some h; obtain ⟨bp, dL, h⟩ := h
        replace h := lt1_some h; obtain ⟨bq, dM, h⟩ := h
        refine run_textE0 hE (wk_block wk_then) [1, 5, 8, 9] (fr' := [(1, .sl false (L (cSl cU8) i)), (5, .ref 0 0), (8, i64 a.1.resets), (9, i64 au)]) (σ' := [.box [i64 f.1.p.1.Epoch, i64 f.1.p.1.Other, i64 f.1.p.1.First, .sl false (L (cSl cU8) f.1.p.1.Queue), i64 f.1.p.1.Next, .sl false (L cK f.1.p.1.Early), i64 f.1.p.1.SentAt, i64 f.1.p.2.Epoch, i64 f.1.p.2.Other, i64 f.1.p.2.First, .sl false (L (cSl cU8) f.1.p.2.Queue), i64 f.1.p.2.Next, .sl false (L cK f.1.p.2.Early), i64 f.1.p.2.SentAt, .bs false 7 (bl.length) 0 (bl.length), .bs false 8 (bm.length) 0 (bm.length), .bs false 9 (bn.length) 0 (bn.length), .bs false 10 (bo.length) 0 (bo.length), .bs false 11 (bp.length) 0 (bp.length), .bs false 12 (bq.length) 0 (bq.length), i64 f.1.now, i64 f.1.resets] false, deadB f.2.1, deadB f.2.2.1, deadB f.2.2.2.1, deadB f.2.2.2.2.1, deadB f.2.2.2.2.2.1, deadB f.2.2.2.2.2.2, .buf 5 (L cK bl) false, .buf 5 (L cK bm) false, .buf 1 (L (cSl cU8) bn) false, .buf 1 (L (cSl cU8) bo) false, .buf 1 (L (cSl cU8) bp) false, .buf 1 (L (cSl cU8) bq) false]) ⟨_, orcs_ok2 (l := []) (m := [(70, 24, [.ref 0 0, .agg [i64 0, i64 au, i64 0, .sl false (L cU8 (nth i au.toNat))]], [.box [i64 a5, i64 a6, i64 a7, .sl false (L (cSl cU8) a8), i64 a9, .sl false (L cK ba), i64 bb, i64 bc, i64 bd, i64 be, .sl false (L (cSl cU8) bf), i64 bg, .sl false (L cK bh), i64 bi, .bs false 1 (ac.length) 0 (ac.length), .bs false 2 (ad.length) 0 (ad.length), .bs false 3 (ae.length) 0 (ae.length), .bs false 4 (af.length) 0 (af.length), .bs false 5 (ag.length) 0 (ag.length), .bs false 6 (ah.length) 0 (ah.length), i64 bj, i64 bk] false, .buf 5 (L cK ac) false, .buf 5 (L cK ad) false, .buf 1 (L (cSl cU8) ae) false, .buf 1 (L (cSl cU8) af) false, .buf 1 (L (cSl cU8) ag) false, .buf 1 (L (cSl cU8) ah) false], .tup [], [.box [i64 f.1.p.1.Epoch, i64 f.1.p.1.Other, i64 f.1.p.1.First, .sl false (L (cSl cU8) f.1.p.1.Queue), i64 f.1.p.1.Next, .sl false (L cK f.1.p.1.Early), i64 f.1.p.1.SentAt, i64 f.1.p.2.Epoch, i64 f.1.p.2.Other, i64 f.1.p.2.First, .sl false (L (cSl cU8) f.1.p.2.Queue), i64 f.1.p.2.Next, .sl false (L cK f.1.p.2.Early), i64 f.1.p.2.SentAt, .bs false 7 (f.1.way.1.length) 0 (f.1.way.1.length), .bs false 8 (f.1.way.2.length) 0 (f.1.way.2.length), .bs false 9 (f.1.oz.1.length) 0 (f.1.oz.1.length), .bs false 10 (f.1.oz.2.length) 0 (f.1.oz.2.length), .bs false 11 (f.1.dz.1.length) 0 (f.1.dz.1.length), .bs false 12 (f.1.dz.2.length) 0 (f.1.dz.2.length), i64 f.1.now, i64 f.1.resets] false, deadB f.2.1, deadB f.2.2.1, deadB f.2.2.2.1, deadB f.2.2.2.2.1, deadB f.2.2.2.2.2.1, deadB f.2.2.2.2.2.2, .buf 5 (L cK f.1.way.1) false, .buf 5 (L cK f.1.way.2) false, .buf 1 (L (cSl cU8) f.1.oz.1) false, .buf 1 (L (cSl cU8) f.1.oz.2) false, .buf 1 (L (cSl cU8) f.1.dz.1) false, .buf 1 (L (cSl cU8) f.1.dz.2) false])]) trivial ⟨(wcon_call (law12_pair_act_con dG) [0, 1, 2, 3, 4, 5, 6] (by decide) (by simp only [go_sem]) (by simp only [go_sem]) (by simp only [go_sem]) (by simp only [go_sem]) (by simp only [go_sem])), trivial⟩, ?_⟩ ?_
        · subst dM; subst dL; subst dK; subst dJ; subst dI; subst dH; simp only [go_sem, Nat.reduceGT, Int.reduceToNat, cr, cr.2, lt_le cr.2]
        refine blockK_n ?_
        refine thenK_n ?_
        refine run_textE0 hE wk_lp [1, 5, 8, 9] (fr' := [(1, .sl false (L (cSl cU8) i)), (5, .ref 0 0), (8, i64 a.1.resets), (9, i64 ((w64 (au + 1))))]) (σ' := [.box [i64 f.1.p.1.Epoch, i64 f.1.p.1.Other, i64 f.1.p.1.First, .sl false (L (cSl cU8) f.1.p.1.Queue), i64 f.1.p.1.Next, .sl false (L cK f.1.p.1.Early), i64 f.1.p.1.SentAt, i64 f.1.p.2.Epoch, i64 f.1.p.2.Other, i64 f.1.p.2.First, .sl false (L (cSl cU8) f.1.p.2.Queue), i64 f.1.p.2.Next, .sl false (L cK f.1.p.2.Early), i64 f.1.p.2.SentAt, .bs false 7 (bl.length) 0 (bl.length), .bs false 8 (bm.length) 0 (bm.length), .bs false 9 (bn.length) 0 (bn.length), .bs false 10 (bo.length) 0 (bo.length), .bs false 11 (bp.length) 0 (bp.length), .bs false 12 (bq.length) 0 (bq.length), i64 f.1.now, i64 f.1.resets] false, deadB f.2.1, deadB f.2.2.1, deadB f.2.2.2.1, deadB f.2.2.2.2.1, deadB f.2.2.2.2.2.1, deadB f.2.2.2.2.2.2, .buf 5 (L cK bl) false, .buf 5 (L cK bm) false, .buf 1 (L (cSl cU8) bn) false, .buf 1 (L (cSl cU8) bo) false, .buf 1 (L (cSl cU8) bp) false, .buf 1 (L (cSl cU8) bq) false]) ⟨_, orcs_nil, ?_⟩ ?_
        · simp only [go_sem]
        obtain rfl := Option.some.inj h
        exact lpK_n (((w64 (au + 1)), f.1.p.1.Epoch, f.1.p.1.Other, f.1.p.1.First, f.1.p.1.Queue, f.1.p.1.Next, f.1.p.1.Early, f.1.p.1.SentAt, f.1.p.2.Epoch, f.1.p.2.Other, f.1.p.2.First, f.1.p.2.Queue, f.1.p.2.Next, f.1.p.2.Early, f.1.p.2.SentAt, f.1.now, f.1.resets, bl, bm, bn, bo, bp, bq)) rfl (weak_sel [0, 7, 8, 9, 10, 11, 12] (by decide) rfl (by simp only [go_sem]) (by simp only [go_sem]))
      · replace h := ite_f h hb
        refine run_exit ?_
        refine thenK_x ?_
        obtain rfl := Option.some.inj h
        have ex_x_3151 := dd _ rfl
        subst ex_x_3151
        have h := cF; clear cF
        refine lpK_x ?_
        refine blockK_x ?_
        obtain rfl := Option.some.inj h
        exact joinK_n ((a5, a6, a7, a8, a9, ba, bb, bc, bd, be, bf, bg, bh, bi, bj, bk, ac, ad, ae, af, ag, ah)) rfl ((weak_sel (l' := [(5, .ref 0 0), (8, i64 a.1.resets)]) (σ' := [.box [i64 a5, i64 a6, i64 a7, .sl false (L (cSl cU8) a8), i64 a9, .sl false (L cK ba), i64 bb, i64 bc, i64 bd, i64 be, .sl false (L (cSl cU8) bf), i64 bg, .sl false (L cK bh), i64 bi, .bs false 1 (ac.length) 0 (ac.length), .bs false 2 (ad.length) 0 (ad.length), .bs false 3 (ae.length) 0 (ae.length), .bs false 4 (af.length) 0 (af.length), .bs false 5 (ag.length) 0 (ag.length), .bs false 6 (ah.length) 0 (ah.length), i64 bj, i64 bk] false, .buf 5 (L cK ac) false, .buf 5 (L cK ad) false, .buf 1 (L (cSl cU8) ae) false, .buf 1 (L (cSl cU8) af) false, .buf 1 (L (cSl cU8) ag) false, .buf 1 (L (cSl cU8) ah) false]) [0, 1, 2, 3, 4, 5, 6] (by decide) rfl (by simp only [go_sem]) (by simp only [go_sem])).trans (weak_sel [0, 1, 2, 3, 4, 5, 6] (by decide) rfl (by simp only [go_sem]) (by simp only [go_sem])))
    rintro ⟨cU, cV, cW, cX, cY, cZ, c0, c1, c2, c3, c4, c5, c6, c7, c8, c9, cb, cc, cd, ce, cf, cg⟩ rfl
    have h := cE; clear cE
    have cG : InR 0 2 := by decide
    have cH : InR 1 2 := by decide
    have dN : ¬(16 : Int) = 0 := by decide
    replace h := lt1_some h; obtain ⟨ab, dO, h⟩ := h
    refine run_drawE hE mixed [[], [0], [0, 1], [0, 1, 2], [0, 1, 2, 3], [0, 1, 2, 3, 4], [0, 1, 2, 3, 4, 5], [], [7], [7, 8], [7, 8, 9], [7, 8, 9, 10], [7, 8, 9, 10, 11], [7, 8, 9, 10, 11, 12], [0, 1, 2, 3, 4, 5, 6, 7, 8, 9, 10, 11, 12, 13], [0, 1, 2, 3, 4, 5, 6, 7, 8, 9, 10, 11, 12, 13, 14], [0, 1, 2, 3, 4, 5, 6, 7, 8, 9, 10, 11, 12, 13, 14, 15], [0, 1, 2, 3, 4, 5, 6, 7, 8, 9, 10, 11, 12, 13, 14, 15, 16], [0, 1, 2, 3, 4, 5, 6, 7, 8, 9, 10, 11, 12, 13, 14, 15, 16, 17], [0, 1, 2, 3, 4, 5, 6, 7, 8, 9, 10, 11, 12, 13, 14, 15, 16, 17, 18]] (by kernel_rfl) (by kernel_rfl) [5, 8, 10] (fr' := [(5, .ref 0 0), (8, i64 a.1.resets), (10, i64 ab)]) (σ' := [.box [i64 cU, i64 cV, i64 cW, .sl false (L (cSl cU8) cX), i64 cY, .sl false (L cK cZ), i64 c0, i64 c1, i64 c2, i64 c3, .sl false (L (cSl cU8) c4), i64 c5, .sl false (L cK c6), i64 c7, .bs false 1 (cb.length) 0 (cb.length), .bs false 2 (cc.length) 0 (cc.length), .bs false 3 (cd.length) 0 (cd.length), .bs false 4 (ce.length) 0 (ce.length), .bs false 5 (cf.length) 0 (cf.length), .bs false 6 (cg.length) 0 (cg.length), i64 c8, i64 c9] false, .buf 5 (L cK cb) false, .buf 5 (L cK cc) false, .buf 1 (L (cSl cU8) cd) false, .buf 1 (L (cSl cU8) ce) false, .buf 1 (L (cSl cU8) cf) false, .buf 1 (L (cSl cU8) cg) false]) ⟨_, orcs_nil, ?_⟩ ?_
    · subst dO; simp only [go_sem, Int.reduceToNat, cG, cG.2, cH, cH.2, dN]
    replace h := bind_some1 h; obtain ⟨ei, cI, cJ⟩ := h
    refine run_join (fun (v : Int × Int × Int × List (List UInt8) × Int × List Pk × Int × Int × Int × Int × List (List UInt8) × Int × List Pk × Int × Int × Int × List Pk × List Pk × List (List UInt8) × List (List UInt8) × List (List UInt8) × List (List UInt8)) => (⟨asFr 151 [(5, .ref 0 0), (8, i64 a.1.resets)], [.box [i64 v.1, i64 v.2.1, i64 v.2.2.1, .sl false (L (cSl cU8) v.2.2.2.1), i64 v.2.2.2.2.1, .sl false (L cK v.2.2.2.2.2.1), i64 v.2.2.2.2.2.2.1, i64 v.2.2.2.2.2.2.2.1, i64 v.2.2.2.2.2.2.2.2.1, i64 v.2.2.2.2.2.2.2.2.2.1, .sl false (L (cSl cU8) v.2.2.2.2.2.2.2.2.2.2.1), i64 v.2.2.2.2.2.2.2.2.2.2.2.1, .sl false (L cK v.2.2.2.2.2.2.2.2.2.2.2.2.1), i64 v.2.2.2.2.2.2.2.2.2.2.2.2.2.1, .bs false 1 (v.2.2.2.2.2.2.2.2.2.2.2.2.2.2.2.2.1.length) 0 (v.2.2.2.2.2.2.2.2.2.2.2.2.2.2.2.2.1.length), .bs false 2 (v.2.2.2.2.2.2.2.2.2.2.2.2.2.2.2.2.2.1.length) 0 (v.2.2.2.2.2.2.2.2.2.2.2.2.2.2.2.2.2.1.length), .bs false 3 (v.2.2.2.2.2.2.2.2.2.2.2.2.2.2.2.2.2.2.1.length) 0 (v.2.2.2.2.2.2.2.2.2.2.2.2.2.2.2.2.2.2.1.length), .bs false 4 (v.2.2.2.2.2.2.2.2.2.2.2.2.2.2.2.2.2.2.2.1.length) 0 (v.2.2.2.2.2.2.2.2.2.2.2.2.2.2.2.2.2.2.2.1.length), .bs false 5 (v.2.2.2.2.2.2.2.2.2.2.2.2.2.2.2.2.2.2.2.2.1.length) 0 (v.2.2.2.2.2.2.2.2.2.2.2.2.2.2.2.2.2.2.2.2.1.length), .bs false 6 (v.2.2.2.2.2.2.2.2.2.2.2.2.2.2.2.2.2.2.2.2.2.length) 0 (v.2.2.2.2.2.2.2.2.2.2.2.2.2.2.2.2.2.2.2.2.2.length), i64 v.2.2.2.2.2.2.2.2.2.2.2.2.2.2.1, i64 v.2.2.2.2.2.2.2.2.2.2.2.2.2.2.2.1] false, .buf 5 (L cK v.2.2.2.2.2.2.2.2.2.2.2.2.2.2.2.2.1) false, .buf 5 (L cK v.2.2.2.2.2.2.2.2.2.2.2.2.2.2.2.2.2.1) false, .buf 1 (L (cSl cU8) v.2.2.2.2.2.2.2.2.2.2.2.2.2.2.2.2.2.2.1) false, .buf 1 (L (cSl cU8) v.2.2.2.2.2.2.2.2.2.2.2.2.2.2.2.2.2.2.2.1) false, .buf 1 (L (cSl cU8) v.2.2.2.2.2.2.2.2.2.2.2.2.2.2.2.2.2.2.2.2.1) false, .buf 1 (L (cSl cU8) v.2.2.2.2.2.2.2.2.2.2.2.2.2.2.2.2.2.2.2.2.2) false]⟩ : St)) (fun v => v = ei) ?_ ?_
    · have h := cI; clear cI
      refine run_textE hE [5, 8, 10, 11] (fr' := [(5, .ref 0 0), (8, i64 a.1.resets), (10, i64 ab), (11, i64 0)]) (σ' := [.box [i64 cU, i64 cV, i64 cW, .sl false (L (cSl cU8) cX), i64 cY, .sl false (L cK cZ), i64 c0, i64 c1, i64 c2, i64 c3, .sl false (L (cSl cU8) c4), i64 c5, .sl false (L cK c6), i64 c7, .bs false 1 (cb.length) 0 (cb.length), .bs false 2 (cc.length) 0 (cc.length), .bs false 3 (cd.length) 0 (cd.length), .bs false 4 (ce.length) 0 (ce.length), .bs false 5 (cf.length) 0 (cf.length), .bs false 6 (cg.length) 0 (cg.length), i64 c8, i64 c9] false, .buf 5 (L cK cb) false, .buf 5 (L cK cc) false, .buf 1 (L (cSl cU8) cd) false, .buf 1 (L (cSl cU8) ce) false, .buf 1 (L (cSl cU8) cf) false, .buf 1 (L (cSl cU8) cg) false]) ⟨_, orcs_nil, ?_⟩ ?_
      · simp only [go_sem]
      refine run_block ?_
      replace h := bind_some1 h; obtain ⟨ep, dP, cL⟩ := h
      refine run_loopO dP (fun (v : Int × Int × Int × Int × List (List UInt8) × Int × List Pk × Int × Int × Int × Int × List (List UInt8) × Int × List Pk × Int × Int × Int × List Pk × List Pk × List (List UInt8) × List (List UInt8) × List (List UInt8) × List (List UInt8)) => (⟨asFr 151 [(5, .ref 0 0), (8, i64 a.1.resets), (10, i64 ab), (11, i64 v.1)], [.box [i64 v.2.1, i64 v.2.2.1, i64 v.2.2.2.1, .sl false (L (cSl cU8) v.2.2.2.2.1), i64 v.2.2.2.2.2.1, .sl false (L cK v.2.2.2.2.2.2.1), i64 v.2.2.2.2.2.2.2.1, i64 v.2.2.2.2.2.2.2.2.1, i64 v.2.2.2.2.2.2.2.2.2.1, i64 v.2.2.2.2.2.2.2.2.2.2.1, .sl false (L (cSl cU8) v.2.2.2.2.2.2.2.2.2.2.2.1), i64 v.2.2.2.2.2.2.2.2.2.2.2.2.1, .sl false (L cK v.2.2.2.2.2.2.2.2.2.2.2.2.2.1), i64 v.2.2.2.2.2.2.2.2.2.2.2.2.2.2.1, .bs false 1 (v.2.2.2.2.2.2.2.2.2.2.2.2.2.2.2.2.2.1.length) 0 (v.2.2.2.2.2.2.2.2.2.2.2.2.2.2.2.2.2.1.length), .bs false 2 (v.2.2.2.2.2.2.2.2.2.2.2.2.2.2.2.2.2.2.1.length) 0 (v.2.2.2.2.2.2.2.2.2.2.2.2.2.2.2.2.2.2.1.length), .bs false 3 (v.2.2.2.2.2.2.2.2.2.2.2.2.2.2.2.2.2.2.2.1.length) 0 (v.2.2.2.2.2.2.2.2.2.2.2.2.2.2.2.2.2.2.2.1.length), .bs false 4 (v.2.2.2.2.2.2.2.2.2.2.2.2.2.2.2.2.2.2.2.2.1.length) 0 (v.2.2.2.2.2.2.2.2.2.2.2.2.2.2.2.2.2.2.2.2.1.length), .bs false 5 (v.2.2.2.2.2.2.2.2.2.2.2.2.2.2.2.2.2.2.2.2.2.1.length) 0 (v.2.2.2.2.2.2.2.2.2.2.2.2.2.2.2.2.2.2.2.2.2.1.length), .bs false 6 (v.2.2.2.2.2.2.2.2.2.2.2.2.2.2.2.2.2.2.2.2.2.2.length) 0 (v.2.2.2.2.2.2.2.2.2.2.2.2.2.2.2.2.2.2.2.2.2.2.length), i64 v.2.2.2.2.2.2.2.2.2.2.2.2.2.2.2.1, i64 v.2.2.2.2.2.2.2.2.2.2.2.2.2.2.2.2.1] false, .buf 5 (L cK v.2.2.2.2.2.2.2.2.2.2.2.2.2.2.2.2.2.1) false, .buf 5 (L cK v.2.2.2.2.2.2.2.2.2.2.2.2.2.2.2.2.2.2.1) false, .buf 1 (L (cSl cU8) v.2.2.2.2.2.2.2.2.2.2.2.2.2.2.2.2.2.2.2.1) false, .buf 1 (L (cSl cU8) v.2.2.2.2.2.2.2.2.2.2.2.2.2.2.2.2.2.2.2.2.1) false, .buf 1 (L (cSl cU8) v.2.2.2.2.2.2.2.2.2.2.2.2.2.2.2.2.2.2.2.2.2.1) false, .buf 1 (L (cSl cU8) v.2.2.2.2.2.2.2.2.2.2.2.2.2.2.2.2.2.2.2.2.2.2) false]⟩ : St)) (weak_sel [0, 1, 2, 3, 4, 5, 6] (by decide) rfl (by simp only [go_sem]) (by simp only [go_sem])) ?_
      rintro ⟨aR, br, bt, bu, bv, bw, bx, bz, bA, bB, bC, bD, bE, bF, bG, bH, bI, ai, aj, ak, al, am, an⟩ ej h de
      replace h : law12_WindowCompletes_b3 ab aR br bt bu bv bw bx bz bA bB bC bD bE bF bG bH bI ai aj ak al am an = some ej := h
      unfold law12_WindowCompletes_b3 at h
      refine run_seq ?_
      replace h := bind_some1 h; obtain ⟨da, aX, h⟩ := h
      refine run_textW hE [5, 8, 10, 11, 96] (fr' := [(5, .ref 0 0), (8, i64 a.1.resets), (10, i64 ab), (11, i64 aR), (96, .bool da)]) (σ' := [.box [i64 br, i64 bt, i64 bu, .sl false (L (cSl cU8) bv), i64 bw, .sl false (L cK bx), i64 bz, i64 bA, i64 bB, i64 bC, .sl false (L (cSl cU8) bD), i64 bE, .sl false (L cK bF), i64 bG, .bs false 1 (ai.length) 0 (ai.length), .bs false 2 (aj.length) 0 (aj.length), .bs false 3 (ak.length) 0 (ak.length), .bs false 4 (al.length) 0 (al.length), .bs false 5 (am.length) 0 (am.length), .bs false 6 (an.length) 0 (an.length), i64 bH, i64 bI] false, .buf 5 (L cK ai) false, .buf 5 (L cK aj) false, .buf 1 (L (cSl cU8) ak) false, .buf 1 (L (cSl cU8) al) false, .buf 1 (L (cSl cU8) am) false, .buf 1 (L (cSl cU8) an) false]) ?_ ?_
      · rcases Bool.eq_false_or_eq_true ((decide (aR < ab))) with ch | ch
        · replace aX := ite_t aX ch
          have e_hv_3390 := Option.some.inj aX; subst e_hv_3390
          exact ⟨_, [(5, .ref 0 0), (8, i64 a.1.resets), (10, i64 ab), (11, i64 aR), (96, .bool ((decide (aR < 50))))], [.box [i64 br, i64 bt, i64 bu, .sl false (L (cSl cU8) bv), i64 bw, .sl false (L cK bx), i64 bz, i64 bA, i64 bB, i64 bC, .sl false (L (cSl cU8) bD), i64 bE, .sl false (L cK bF), i64 bG, .bs false 1 (ai.length) 0 (ai.length), .bs false 2 (aj.length) 0 (aj.length), .bs false 3 (ak.length) 0 (ak.length), .bs false 4 (al.length) 0 (al.length), .bs false 5 (am.length) 0 (am.length), .bs false 6 (an.length) 0 (an.length), i64 bH, i64 bI] false, .buf 5 (L cK ai) false, .buf 5 (L cK aj) false, .buf 1 (L (cSl cU8) ak) false, .buf 1 (L (cSl cU8) al) false, .buf 1 (L (cSl cU8) am) false, .buf 1 (L (cSl cU8) an) false], orcs_nil, by simp only [go_sem, ch], (weak_sel [0, 1, 2, 3, 4, 5, 6] (by decide) rfl (by simp only [go_sem]) (by simp only [go_sem]))⟩
        · replace aX := ite_f aX ch
          have e_hv_3390 := Option.some.inj aX; subst e_hv_3390
          exact ⟨_, [(5, .ref 0 0), (8, i64 a.1.resets), (10, i64 ab), (11, i64 aR), (96, .bool false)], [.box [i64 br, i64 bt, i64 bu, .sl false (L (cSl cU8) bv), i64 bw, .sl false (L cK bx), i64 bz, i64 bA, i64 bB, i64 bC, .sl false (L (cSl cU8) bD), i64 bE, .sl false (L cK bF), i64 bG, .bs false 1 (ai.length) 0 (ai.length), .bs false 2 (aj.length) 0 (aj.length), .bs false 3 (ak.length) 0 (ak.length), .bs false 4 (al.length) 0 (al.length), .bs false 5 (am.length) 0 (am.length), .bs false 6 (an.length) 0 (an.length), i64 bH, i64 bI] false, .buf 5 (L cK ai) false, .buf 5 (L cK aj) false, .buf 1 (L (cSl cU8) ak) false, .buf 1 (L (cSl cU8) al) false, .buf 1 (L (cSl cU8) am) false, .buf 1 (L (cSl cU8) an) false], orcs_nil, by simp only [go_sem, ch], (weak_sel [0, 1, 2, 3, 4, 5, 6] (by decide) rfl (by simp only [go_sem]) (by simp only [go_sem]))⟩
      refine run_condL (b := da) rfl (by decide) (fun hb => ?_) (fun hb => ?_)
      · replace h := ite_t h hb
        refine run_skip ?_
        refine thenK_n ?_
        refine run_seq ?_
        refine run_block ?_
        replace h := bind_some1 h; obtain ⟨g, dQ, h⟩ := h
        replace h := lt1_some h; obtain ⟨bJ, dR, h⟩ := h
        replace h := lt1_some h; obtain ⟨bK, dS, h⟩ := h
        replace h := lt1_some h; obtain ⟨bL, dT, h⟩ := h
        replace h := lt1_some h; obtain ⟨bM, dU, h⟩ := h
        replace h := lt1_some h; obtain ⟨bN, dV, h⟩ := h
        replace h := lt1_some h; obtain ⟨bO, dW, h⟩ := h
        refine run_textE0 hE (wk_block wk_then) [5, 8, 10, 11] (fr' := [(5, .ref 0 0), (8, i64 a.1.resets), (10, i64 ab), (11, i64 aR)]) (σ' := [.box [i64 g.1.p.1.Epoch, i64 g.1.p.1.Other, i64 g.1.p.1.First, .sl false (L (cSl cU8) g.1.p.1.Queue), i64 g.1.p.1.Next, .sl false (L cK g.1.p.1.Early), i64 g.1.p.1.SentAt, i64 g.1.p.2.Epoch, i64 g.1.p.2.Other, i64 g.1.p.2.First, .sl false (L (cSl cU8) g.1.p.2.Queue), i64 g.1.p.2.Next, .sl false (L cK g.1.p.2.Early), i64 g.1.p.2.SentAt, .bs false 7 (bJ.length) 0 (bJ.length), .bs false 8 (bK.length) 0 (bK.length), .bs false 9 (bL.length) 0 (bL.length), .bs false 10 (bM.length) 0 (bM.length), .bs false 11 (bN.length) 0 (bN.length), .bs false 12 (bO.length) 0 (bO.length), i64 g.1.now, i64 g.1.resets] false, deadB g.2.1, deadB g.2.2.1, deadB g.2.2.2.1, deadB g.2.2.2.2.1, deadB g.2.2.2.2.2.1, deadB g.2.2.2.2.2.2, .buf 5 (L cK bJ) false, .buf 5 (L cK bK) false, .buf 1 (L (cSl cU8) bL) false, .buf 1 (L (cSl cU8) bM) false, .buf 1 (L (cSl cU8) bN) false, .buf 1 (L (cSl cU8) bO) false]) ⟨_, orcs_ok2 (l := []) (m := [(100, 26, [.ref 0 0], [.box [i64 br, i64 bt, i64 bu, .sl false (L (cSl cU8) bv), i64 bw, .sl false (L cK bx), i64 bz, i64 bA, i64 bB, i64 bC, .sl false (L (cSl cU8) bD), i64 bE, .sl false (L cK bF), i64 bG, .bs false 1 (ai.length) 0 (ai.length), .bs false 2 (aj.length) 0 (aj.length), .bs false 3 (ak.length) 0 (ak.length), .bs false 4 (al.length) 0 (al.length), .bs false 5 (am.length) 0 (am.length), .bs false 6 (an.length) 0 (an.length), i64 bH, i64 bI] false, .buf 5 (L cK ai) false, .buf 5 (L cK aj) false, .buf 1 (L (cSl cU8) ak) false, .buf 1 (L (cSl cU8) al) false, .buf 1 (L (cSl cU8) am) false, .buf 1 (L (cSl cU8) an) false], .tup [], [.box [i64 g.1.p.1.Epoch, i64 g.1.p.1.Other, i64 g.1.p.1.First, .sl false (L (cSl cU8) g.1.p.1.Queue), i64 g.1.p.1.Next, .sl false (L cK g.1.p.1.Early), i64 g.1.p.1.SentAt, i64 g.1.p.2.Epoch, i64 g.1.p.2.Other, i64 g.1.p.2.First, .sl false (L (cSl cU8) g.1.p.2.Queue), i64 g.1.p.2.Next, .sl false (L cK g.1.p.2.Early), i64 g.1.p.2.SentAt, .bs false 7 (g.1.way.1.length) 0 (g.1.way.1.length), .bs false 8 (g.1.way.2.length) 0 (g.1.way.2.length), .bs false 9 (g.1.oz.1.length) 0 (g.1.oz.1.length), .bs false 10 (g.1.oz.2.length) 0 (g.1.oz.2.length), .bs false 11 (g.1.dz.1.length) 0 (g.1.dz.1.length), .bs false 12 (g.1.dz.2.length) 0 (g.1.dz.2.length), i64 g.1.now, i64 g.1.resets] false, deadB g.2.1, deadB g.2.2.1, deadB g.2.2.2.1, deadB g.2.2.2.2.1, deadB g.2.2.2.2.2.1, deadB g.2.2.2.2.2.2, .buf 5 (L cK g.1.way.1) false, .buf 5 (L cK g.1.way.2) false, .buf 1 (L (cSl cU8) g.1.oz.1) false, .buf 1 (L (cSl cU8) g.1.oz.2) false, .buf 1 (L (cSl cU8) g.1.dz.1) false, .buf 1 (L (cSl cU8) g.1.dz.2) false])]) trivial ⟨(wcon_call (law12_pair_swap_con dQ) [0, 1, 2, 3, 4, 5, 6] (by decide) (by simp only [go_sem]) (by simp only [go_sem]) (by simp only [go_sem]) (by simp only [go_sem]) (by simp only [go_sem])), trivial⟩, ?_⟩ ?_
        · subst dW; subst dV; subst dU; subst dT; subst dS; subst dR; simp only [go_sem]
        refine blockK_n ?_
        refine thenK_n ?_
        refine run_textE0 hE wk_lp [5, 8, 10, 11] (fr' := [(5, .ref 0 0), (8, i64 a.1.resets), (10, i64 ab), (11, i64 ((w64 (aR + 1))))]) (σ' := [.box [i64 g.1.p.1.Epoch, i64 g.1.p.1.Other, i64 g.1.p.1.First, .sl false (L (cSl cU8) g.1.p.1.Queue), i64 g.1.p.1.Next, .sl false (L cK g.1.p.1.Early), i64 g.1.p.1.SentAt, i64 g.1.p.2.Epoch, i64 g.1.p.2.Other, i64 g.1.p.2.First, .sl false (L (cSl cU8) g.1.p.2.Queue), i64 g.1.p.2.Next, .sl false (L cK g.1.p.2.Early), i64 g.1.p.2.SentAt, .bs false 7 (bJ.length) 0 (bJ.length), .bs false 8 (bK.length) 0 (bK.length), .bs false 9 (bL.length) 0 (bL.length), .bs false 10 (bM.length) 0 (bM.length), .bs false 11 (bN.length) 0 (bN.length), .bs false 12 (bO.length) 0 (bO.length), i64 g.1.now, i64 g.1.resets] false, deadB g.2.1, deadB g.2.2.1, deadB g.2.2.2.1, deadB g.2.2.2.2.1, deadB g.2.2.2.2.2.1, deadB g.2.2.2.2.2.2, .buf 5 (L cK bJ) false, .buf 5 (L cK bK) false, .buf 1 (L (cSl cU8) bL) false, .buf 1 (L (cSl cU8) bM) false, .buf 1 (L (cSl cU8) bN) false, .buf 1 (L (cSl cU8) bO) false]) ⟨_, orcs_nil, ?_⟩ ?_
        · simp only [go_sem]
        obtain rfl := Option.some.inj h
        exact lpK_n (((w64 (aR + 1)), g.1.p.1.Epoch, g.1.p.1.Other, g.1.p.1.First, g.1.p.1.Queue, g.1.p.1.Next, g.1.p.1.Early, g.1.p.1.SentAt, g.1.p.2.Epoch, g.1.p.2.Other, g.1.p.2.First, g.1.p.2.Queue, g.1.p.2.Next, g.1.p.2.Early, g.1.p.2.SentAt, g.1.now, g.1.resets, bJ, bK, bL, bM, bN, bO)) rfl (weak_sel [0, 7, 8, 9, 10, 11, 12] (by decide) rfl (by simp only [go_sem]) (by simp only [go_sem]))
      · replace h := ite_f h hb
        refine run_exit ?_
        refine thenK_x ?_
        obtain rfl := Option.some.inj h
        have ex_x_3384 := de _ rfl
        subst ex_x_3384
        have h := cL; clear cL
        refine lpK_x ?_
        refine blockK_x ?_
        obtain rfl := Option.some.inj h
        exact joinK_n ((br, bt, bu, bv, bw, bx, bz, bA, bB, bC, bD, bE, bF, bG, bH, bI, ai, aj, ak, al, am, an)) rfl ((weak_sel (l' := [(5, .ref 0 0), (8, i64 a.1.resets)]) (σ' := [.box [i64 br, i64 bt, i64 bu, .sl false (L (cSl cU8) bv), i64 bw, .sl false (L cK bx), i64 bz, i64 bA, i64 bB, i64 bC, .sl false (L (cSl cU8) bD), i64 bE, .sl false (L cK bF), i64 bG, .bs false 1 (ai.length) 0 (ai.length), .bs false 2 (aj.length) 0 (aj.length), .bs false 3 (ak.length) 0 (ak.length), .bs false 4 (al.length) 0 (al.length), .bs false 5 (am.length) 0 (am.length), .bs false 6 (an.length) 0 (an.length), i64 bH, i64 bI] false, .buf 5 (L cK ai) false, .buf 5 (L cK aj) false, .buf 1 (L (cSl cU8) ak) false, .buf 1 (L (cSl cU8) al) false, .buf 1 (L (cSl cU8) am) false, .buf 1 (L (cSl cU8) an) false]) [0, 1, 2, 3, 4, 5, 6] (by decide) rfl (by simp only [go_sem]) (by simp only [go_sem])).trans (weak_sel [0, 1, 2, 3, 4, 5, 6] (by decide) rfl (by simp only [go_sem]) (by simp only [go_sem])))
    rintro ⟨bP, bQ, bR, aS, bS, bT, bU, bV, bW, bX, aT, bY, bZ, b0, b1, aU, z, aa, x, u, w, y⟩ rfl
    have h := cJ; clear cJ
    refine run_seq ?_
    replace h := bind_some1 h; obtain ⟨db, aq, h⟩ := h
    refine run_textW hE [5, 126] (fr' := [(5, .ref 0 0), (126, .bool db)]) (σ' := [.box [i64 bP, i64 bQ, i64 bR, .sl false (L (cSl cU8) aS), i64 bS, .sl false (L cK bT), i64 bU, i64 bV, i64 bW, i64 bX, .sl false (L (cSl cU8) aT), i64 bY, .sl false (L cK bZ), i64 b0, .bs false 1 (z.length) 0 (z.length), .bs false 2 (aa.length) 0 (aa.length), .bs false 3 (x.length) 0 (x.length), .bs false 4 (u.length) 0 (u.length), .bs false 5 (w.length) 0 (w.length), .bs false 6 (y.length) 0 (y.length), i64 b1, i64 aU] false, .buf 5 (L cK z) false, .buf 5 (L cK aa) false, .buf 1 (L (cSl cU8) x) false, .buf 1 (L (cSl cU8) u) false, .buf 1 (L (cSl cU8) w) false, .buf 1 (L (cSl cU8) y) false]) ?_ ?_
    · rcases Bool.eq_false_or_eq_true ((aU != a.1.resets)) with aY | aY
      · replace aq := ite_t aq aY
        have e_hv_3407 := Option.some.inj aq; subst e_hv_3407
        exact ⟨_, [(5, .ref 0 0), (126, .bool true)], [.box [i64 bP, i64 bQ, i64 bR, .sl false (L (cSl cU8) aS), i64 bS, .sl false (L cK bT), i64 bU, i64 bV, i64 bW, i64 bX, .sl false (L (cSl cU8) aT), i64 bY, .sl false (L cK bZ), i64 b0, .bs false 1 (z.length) 0 (z.length), .bs false 2 (aa.length) 0 (aa.length), .bs false 3 (x.length) 0 (x.length), .bs false 4 (u.length) 0 (u.length), .bs false 5 (w.length) 0 (w.length), .bs false 6 (y.length) 0 (y.length), i64 b1, i64 aU] false, .buf 5 (L cK z) false, .buf 5 (L cK aa) false, .buf 1 (L (cSl cU8) x) false, .buf 1 (L (cSl cU8) u) false, .buf 1 (L (cSl cU8) w) false, .buf 1 (L (cSl cU8) y) false], orcs_nil, by simp only [go_sem, Int.reduceToNat, aY], (weak_sel [0, 1, 2, 3, 4, 5, 6] (by decide) rfl (by simp only [go_sem]) (by simp only [go_sem]))⟩
      · replace aq := ite_f aq aY
        have ck : InR 0 2 := by decide
        rcases Bool.eq_false_or_eq_true (((aS.length : Int) != 0)) with ci | ci
        · replace aq := ite_t aq ci
          have e_hv_3407 := Option.some.inj aq; subst e_hv_3407
          exact ⟨_, [(5, .ref 0 0), (126, .bool true)], [.box [i64 bP, i64 bQ, i64 bR, .sl false (L (cSl cU8) aS), i64 bS, .sl false (L cK bT), i64 bU, i64 bV, i64 bW, i64 bX, .sl false (L (cSl cU8) aT), i64 bY, .sl false (L cK bZ), i64 b0, .bs false 1 (z.length) 0 (z.length), .bs false 2 (aa.length) 0 (aa.length), .bs false 3 (x.length) 0 (x.length), .bs false 4 (u.length) 0 (u.length), .bs false 5 (w.length) 0 (w.length), .bs false 6 (y.length) 0 (y.length), i64 b1, i64 aU] false, .buf 5 (L cK z) false, .buf 5 (L cK aa) false, .buf 1 (L (cSl cU8) x) false, .buf 1 (L (cSl cU8) u) false, .buf 1 (L (cSl cU8) w) false, .buf 1 (L (cSl cU8) y) false], orcs_nil, by simp only [go_sem, Int.reduceToNat, aY, ck, ck.2, ci], (weak_sel [0, 1, 2, 3, 4, 5, 6] (by decide) rfl (by simp only [go_sem]) (by simp only [go_sem]))⟩
        · replace aq := ite_f aq ci
          have cM : InR 1 2 := by decide
          have e_hv_3407 := Option.some.inj aq; subst e_hv_3407
          exact ⟨_, [(5, .ref 0 0), (126, .bool (((aT.length : Int) != 0)))], [.box [i64 bP, i64 bQ, i64 bR, .sl false (L (cSl cU8) aS), i64 bS, .sl false (L cK bT), i64 bU, i64 bV, i64 bW, i64 bX, .sl false (L (cSl cU8) aT), i64 bY, .sl false (L cK bZ), i64 b0, .bs false 1 (z.length) 0 (z.length), .bs false 2 (aa.length) 0 (aa.length), .bs false 3 (x.length) 0 (x.length), .bs false 4 (u.length) 0 (u.length), .bs false 5 (w.length) 0 (w.length), .bs false 6 (y.length) 0 (y.length), i64 b1, i64 aU] false, .buf 5 (L cK z) false, .buf 5 (L cK aa) false, .buf 1 (L (cSl cU8) x) false, .buf 1 (L (cSl cU8) u) false, .buf 1 (L (cSl cU8) w) false, .buf 1 (L (cSl cU8) y) false], orcs_nil, by simp only [go_sem, Int.reduceToNat, aY, ck, ck.2, ci, cM, cM.2], (weak_sel [0, 1, 2, 3, 4, 5, 6] (by decide) rfl (by simp only [go_sem]) (by simp only [go_sem]))⟩
    refine run_condL (b := db) rfl (by decide) (fun hb => ?_) (fun hb => ?_)
    · replace h := ite_t h hb
      refine run_textE hE [4] (fr' := [(4, .bool false)]) (σ' := [.box [i64 bP, i64 bQ, i64 bR, .sl false (L (cSl cU8) aS), i64 bS, .sl false (L cK bT), i64 bU, i64 bV, i64 bW, i64 bX, .sl false (L (cSl cU8) aT), i64 bY, .sl false (L cK bZ), i64 b0, .bs false 1 (z.length) 0 (z.length), .bs false 2 (aa.length) 0 (aa.length), .bs false 3 (x.length) 0 (x.length), .bs false 4 (u.length) 0 (u.length), .bs false 5 (w.length) 0 (w.length), .bs false 6 (y.length) 0 (y.length), i64 b1, i64 aU] false, .buf 5 (L cK z) false, .buf 5 (L cK aa) false, .buf 1 (L (cSl cU8) x) false, .buf 1 (L (cSl cU8) u) false, .buf 1 (L (cSl cU8) w) false, .buf 1 (L (cSl cU8) y) false]) ⟨_, orcs_nil, ?_⟩ ?_
      · simp only [go_sem]
      refine run_ret ?_
      refine thenK_r ?_
      obtain rfl := Option.some.inj h
      refine wkP_of (Weak.refl _ _) ?_
      refine ret_ok (.inr rfl) ?_
      simp only [go_sem]
    · replace h := ite_f h hb
      refine run_skip ?_
      refine thenK_n ?_
      replace h := bind_some1 h; obtain ⟨ek, ao, h⟩ := h
      refine run_drawW hE mixed [[], [0], [0, 1], [0, 1, 2], [0, 1, 2, 3], [], [5], [5, 6], [5, 6, 7], [5, 6, 7, 8], [0, 1, 2, 3, 4, 5, 6, 7, 8, 9], [0, 1, 2, 3, 4, 5, 6, 7, 8, 9, 10], [0, 1, 2, 3, 4, 5, 6, 7, 8, 9, 10, 11], [0, 1, 2, 3, 4, 5, 6, 7, 8, 9, 10, 11, 12], [0, 1, 2, 3, 4, 5, 6, 7, 8, 9, 10, 11, 12, 13], [0, 1, 2, 3, 4, 5, 6, 7, 8, 9, 10, 11, 12, 13, 14], [0, 1, 2, 3, 4, 5, 6, 7, 8, 9, 10, 11, 12, 13, 14, 15], [0, 1, 2, 3, 4, 5, 6, 7, 8, 9, 10, 11], [0, 1, 2, 3, 4, 5, 6, 7, 8, 9, 10, 11, 17], [0, 1, 2, 3, 4, 5, 6, 7, 8, 9, 10, 11, 17, 18], [0, 1, 2, 3, 4, 5, 6, 7, 8, 9, 10, 11, 17, 18, 19], [0, 1, 2, 3, 4, 5, 6, 7, 8, 9, 10, 11, 17, 18, 19, 20], [0, 1, 2, 3, 4, 5, 6, 7, 8, 9, 10, 11, 12, 13, 14, 15, 16, 17, 18, 19, 20, 21], [0, 1, 2, 3, 4, 5, 6, 7, 8, 9, 10, 11, 12, 13, 14, 15, 16, 17, 18, 19, 20, 21, 22], [0, 1, 2, 3, 4, 5, 6, 7, 8, 9, 10, 11, 12, 13, 14, 15, 16, 17, 18, 19, 20, 21, 22, 23]] (by kernel_rfl) (by kernel_rfl) [4] (fr' := [(4, .bool ek)]) (σ' := []) ?_ ?_
      · have cl : InR 0 2 := by decide
        have cm : InR 1 2 := by decide
        replace ao := bind_some1 ao; obtain ⟨cA, cN, ao⟩ := ao
        rcases Bool.eq_false_or_eq_true cA with cj | cj
        · replace ao := ite_t ao cj
          have cO : InR 1 2 := by decide
          have cP : InR 0 2 := by decide
          replace ao := bind_some1 ao; obtain ⟨dc, dX, ao⟩ := ao
          have e_hv_3415 := Option.some.inj ao; subst e_hv_3415
          exact ⟨_, [(4, .bool dc)], [.box [i64 bP, i64 bQ, i64 bR, .sl false (L (cSl cU8) aS), i64 bS, .sl false (L cK bT), i64 bU, i64 bV, i64 bW, i64 bX, .sl false (L (cSl cU8) aT), i64 bY, .sl false (L cK bZ), i64 b0, .bs false 1 (z.length) 0 (z.length), .bs false 2 (aa.length) 0 (aa.length), .bs false 3 (x.length) 0 (x.length), .bs false 4 (u.length) 0 (u.length), .bs false 5 (w.length) 0 (w.length), .bs false 6 (y.length) 0 (y.length), i64 b1, i64 aU] false, .buf 5 (L cK z) false, .buf 5 (L cK aa) false, .buf 1 (L (cSl cU8) x) false, .buf 1 (L (cSl cU8) u) false, .buf 1 (L (cSl cU8) w) false, .buf 1 (L (cSl cU8) y) false], orcs_ok (l := [(137, 22, [.sl false (L (cSl cU8) w), .sl false (L (cSl cU8) u)], .bool cA), (149, 22, [.sl false (L (cSl cU8) y), .sl false (L (cSl cU8) x)], .bool dc)]) ⟨r12_SameMessages_con  cN, r12_SameMessages_con  dX, trivial⟩, by simp only [go_sem, Int.reduceToNat, cl, cl.2, cm, cm.2, cj, cO, cO.2, cP, cP.2], (weak_sel [] (by decide) rfl (by simp only [go_sem]) (by simp only [go_sem]))⟩
        · replace ao := ite_f ao cj
          have e_hv_3415 := Option.some.inj ao; subst e_hv_3415
          exact ⟨_, [(4, .bool false)], [.box [i64 bP, i64 bQ, i64 bR, .sl false (L (cSl cU8) aS), i64 bS, .sl false (L cK bT), i64 bU, i64 bV, i64 bW, i64 bX, .sl false (L (cSl cU8) aT), i64 bY, .sl false (L cK bZ), i64 b0, .bs false 1 (z.length) 0 (z.length), .bs false 2 (aa.length) 0 (aa.length), .bs false 3 (x.length) 0 (x.length), .bs false 4 (u.length) 0 (u.length), .bs false 5 (w.length) 0 (w.length), .bs false 6 (y.length) 0 (y.length), i64 b1, i64 aU] false, .buf 5 (L cK z) false, .buf 5 (L cK aa) false, .buf 1 (L (cSl cU8) x) false, .buf 1 (L (cSl cU8) u) false, .buf 1 (L (cSl cU8) w) false, .buf 1 (L (cSl cU8) y) false], orcs_ok (l := [(137, 22, [.sl false (L (cSl cU8) w), .sl false (L (cSl cU8) u)], .bool cA)]) ⟨r12_SameMessages_con  cN, trivial⟩, by simp only [go_sem, Int.reduceToNat, cl, cl.2, cm, cm.2, cj], (weak_sel [] (by decide) rfl (by simp only [go_sem]) (by simp only [go_sem]))⟩
      refine run_ret ?_
      obtain rfl := Option.some.inj h
      refine wkP_of (Weak.refl _ _) ?_
      refine ret_ok (.inr rfl) ?_
      simp only [go_sem]

end Go.Proofs.Ytomjphpnpcgacaa
/-
  The examples of the documentation: computed.
-/
namespace Go.Proofs.Ytomjphpnpcgacaa
open Go.Rv
theorem sane_ok : law12_sane = some true := by decide +kernel
end Go.Proofs.Ytomjphpnpcgacaa
/-
  Both sides' checks, New, Offer and Emit.
-/
namespace Go.Proofs.Ytomjphpnpcgacaa
open Go.Rv
set_option linter.unusedVariables false
set_option linter.unusedSimpArgs false

theorem w64_one {k : Nat} (h : k + 1 < 9223372036854775807) : w64 ((k : Int) + 1) = ((k + 1 : Nat) : Int) := by rw [w64_id (by omega)]; omega
theorem bindT {α β : Type} {o : Option α} {a : α} {f : α → Option β} (h : o = some a) : o.bind f = f a := by rw [h]; rfl
theorem fits24 {n : Nat} (h : n ≤ 100000) : Fits n 24 := by unfold Fits maxLen roomB; omega
theorem fits56 {n : Nat} (h : n ≤ 100000) : Fits n 56 := by unfold Fits maxLen roomB; omega

theorem all_loop {β : Type} {v : β} {f : Int → Option (Int ⊕ (Unit ⊕ (Unit ⊕ β)))} (n : Nat) (p : Nat → Bool) (hn : n < 1000000000000000000) (hf : ∀ k, k < n → f (k : Int) = some (if p k = true then .inl ((k + 1 : Nat) : Int) else .inr (.inr (.inr v))))
    (he : f (n : Int) = some (.inr (.inl ()))) : loopO (fun i : Int => f i) 0 = some (if (List.range n).all p = true then .inl () else .inr (.inr v)) := by
  obtain ⟨x, hx, rfl⟩ := loopO_rule (f := fun i : Int => f i) (fun v => ∃ k : Nat, v = (k : Int) ∧ k ≤ n ∧ ∀ j, j < k → p j = true) (fun v => n - v.toNat)
    (fun x => x = if (List.range n).all p = true then .inl () else .inr (.inr v)) (by
      rintro w ⟨k, rfl, hk, hp⟩
      by_cases h : k < n
      · cases hpk : p k with
        | true =>
          left
          refine ⟨((k + 1 : Nat) : Int), by show f (k : Int) = _; rw [hf k h, hpk]; rfl, ⟨k + 1, rfl, by omega, fun j hj => ?_⟩, by simp; omega⟩
          by_cases e : j = k
          · rw [e]; exact hpk
          · exact hp j (by omega)
        | false =>
          right
          refine ⟨.inr (.inr v), by show f (k : Int) = _; rw [hf k h, hpk]; rfl, ?_⟩
          rw [if_neg]
          intro h2
          rw [List.all_eq_true] at h2
          rw [h2 k (List.mem_range.2 h)] at hpk
          cases hpk
      · right
        have : k = n := by omega
        subst this
        refine ⟨.inl (), he, ?_⟩
        rw [if_pos]
        rw [List.all_eq_true]
        intro j hj
        exact hp j (List.mem_range.1 hj)) (v0 := 0) ⟨0, rfl, Nat.zero_le _, fun j hj => absurd hj (Nat.not_lt_zero _)⟩ (by simp; omega)
  exact hx

/-! ### Is it a side? -/
def bt (n lo hi : Int) : Bool := decide (lo ≤ n ∧ n ≤ hi)

theorem between_eq (n lo hi : Int) : window_between n lo hi = some (bt n lo hi) := by
  unfold window_between bt
  by_cases h : lo ≤ n <;> by_cases h2 : n ≤ hi <;> simp [h, h2]
def okQ (p : Pe) (k : Nat) : Bool := decide ((nth p.Queue k).length ≤ 8000)

theorem queue_eq (p : Pe) (h : p.Queue.length ≤ 256) : loopO (fun v : Int => window_valid_b1 p v) 0 = some (if (List.range p.Queue.length).all (okQ p) = true then .inl () else .inr (.inr false)) :=
  all_loop (v := false) (f := fun i => window_valid_b1 p i) p.Queue.length (okQ p) (by omega) (fun k hk => by
    show window_valid_b1 p (k : Int) = _
    unfold window_valid_b1 okQ
    rw [if_pos (by simp; omega), if_pos (inR_of hk), w64_one (by omega), Int.toNat_natCast]
    by_cases h : (nth p.Queue k).length ≤ 8000
    · rw [if_neg (by simp; omega)]; simp [h]
    · rw [if_pos (by simp; omega)]; simp [h]) (by
    show window_valid_b1 p (p.Queue.length : Int) = _
    unfold window_valid_b1
    rw [if_neg (by simp)])

/-- The packet k is not right, if the one before it has the number last. -/
def badE (p : Pe) (last : Int) (k : Nat) : Bool :=
  decide ((nth p.Early k).Seq ≤ last) || decide ((nth p.Early k).Seq ≥ w64 (p.Next + 64)) || decide ((nth p.Early k).Seq ≥ 1099511627776) || decide (((nth p.Early k).Data.length : Int) > 8000) || (nth p.Early k).Epoch != 0 || (nth p.Early k).To != 0 || (nth p.Early k).Ack != 0

theorem early_step (p : Pe) (last : Int) (k : Nat) (h : k < p.Early.length) (hs : p.Early.length ≤ 100000) : window_valid_b2 p last (k : Int) = some (if badE p last k = true then .inr (.inr (.inr false)) else .inl ((nth p.Early k).Seq, ((k + 1 : Nat) : Int))) := by
  unfold window_valid_b2 badE
  rw [if_pos (by simp; omega), if_pos (inR_of h), w64_one (by omega), Int.toNat_natCast]
  simp only [lt1]
  generalize nth p.Early k = e
  have hm : (decide (e.Seq ≥ mn64 (w64 (p.Next + 64)) 1099511627776)) = (decide (e.Seq ≥ w64 (p.Next + 64)) || decide (e.Seq ≥ 1099511627776)) := by
    unfold mn64
    by_cases h1 : (1099511627776 : Int) < w64 (p.Next + 64) <;> by_cases h2 : e.Seq ≥ w64 (p.Next + 64) <;> by_cases h3 : e.Seq ≥ 1099511627776 <;> simp [h1, h2, h3] <;> omega
  rw [hm]
  cases h1 : decide (e.Seq ≤ last) <;> cases h2 : decide (e.Seq ≥ w64 (p.Next + 64)) <;> cases h3 : decide (e.Seq ≥ 1099511627776) <;> cases h4 : decide ((e.Data.length : Int) > 8000) <;> cases h5 : (e.Epoch != 0) <;> cases h6 : (e.To != 0) <;> cases h7 : (e.Ack != 0) <;> rfl

/-- The number before packet k. -/
def lastE (p : Pe) : Nat → Int
  | 0 => p.Next
  | k + 1 => (nth p.Early k).Seq

theorem pair_loop {f : Int × Int → Option ((Int × Int) ⊕ (Unit ⊕ (Unit ⊕ Bool)))} (p : Pe) (hs : p.Early.length ≤ 100000)
    (hf : ∀ k, k < p.Early.length → f (lastE p k, (k : Int)) = some (if badE p (lastE p k) k = true then .inr (.inr (.inr false)) else .inl ((nth p.Early k).Seq, ((k + 1 : Nat) : Int))))
    (he : ∀ last, f (last, (p.Early.length : Int)) = some (.inr (.inl ()))) : loopO f (p.Next, 0) = some (if (List.range p.Early.length).all (fun k => !badE p (lastE p k) k) = true then .inl () else .inr (.inr false)) := by
  obtain ⟨x, hx, rfl⟩ := loopO_rule (f := f) (fun v => ∃ k : Nat, v = (lastE p k, (k : Int)) ∧ k ≤ p.Early.length ∧ ∀ j, j < k → badE p (lastE p j) j = false) (fun v => p.Early.length - v.2.toNat)
    (fun x => x = if (List.range p.Early.length).all (fun k => !badE p (lastE p k) k) = true then .inl () else .inr (.inr false)) (by
      rintro w ⟨k, rfl, hk, hp⟩
      by_cases h : k < p.Early.length
      · cases hpk : badE p (lastE p k) k with
        | false =>
          left
          refine ⟨((nth p.Early k).Seq, ((k + 1 : Nat) : Int)), by rw [hf k h, hpk]; rfl, ⟨k + 1, rfl, by omega, fun j hj => ?_⟩, by simp; omega⟩
          by_cases e : j = k
          · rw [e]; exact hpk
          · exact hp j (by omega)
        | true =>
          right
          refine ⟨.inr (.inr false), by rw [hf k h, hpk]; rfl, ?_⟩
          rw [if_neg]
          intro h2
          rw [List.all_eq_true] at h2
          have := h2 k (List.mem_range.2 h)
          rw [hpk] at this
          cases this
      · right
        have : k = p.Early.length := by omega
        subst this
        refine ⟨.inl (), he _, ?_⟩
        rw [if_pos]
        rw [List.all_eq_true]
        intro j hj
        rw [hp j (List.mem_range.1 hj)]; rfl) (v0 := (p.Next, 0)) ⟨0, rfl, Nat.zero_le _, fun j hj => absurd hj (Nat.not_lt_zero _)⟩ (by simp; omega)
  exact hx

def okEs (p : Pe) : Bool := (List.range p.Early.length).all fun k => !badE p (lastE p k) k

theorem early_eq (p : Pe) (hs : p.Early.length ≤ 100000) : loopO (fun v : Int × Int => window_valid_b2 p v.1 v.2) (p.Next, 0) = some (if okEs p = true then .inl () else .inr (.inr false)) :=
  pair_loop (f := fun v => window_valid_b2 p v.1 v.2) p hs (fun k hk => early_step p _ k hk hs) (fun last => by
    show window_valid_b2 p last (p.Early.length : Int) = _
    unfold window_valid_b2
    rw [if_neg (by simp)])
def okH (p : Pe) : Bool := bt p.Epoch 0 1073741824 && bt p.Other (-1) 1073741824 && bt p.SentAt (-1) 1073741824 && bt p.First 0 1099511627776 && bt p.Next 0 1099511627776 && decide (p.Queue.length ≤ 256) && !decide (w64 (p.First + (p.Queue.length : Int)) > 1099511627776)

def validS (p : Pe) : Bool := okH p && (List.range p.Queue.length).all (okQ p) && okEs p

theorem valid_eq (p : Pe) (hs : p.Early.length ≤ 100000) : window_valid p = some (validS p) := by
  have hq : decide ((p.Queue.length : Int) > 256) = !decide (p.Queue.length ≤ 256) := by
    by_cases h : p.Queue.length ≤ 256
    · simp [h]; omega
    · simp [h]; omega
  unfold window_valid validS okH
  simp only [between_eq, Option.bind_some]
  rw [hq]
  by_cases h6 : p.Queue.length ≤ 256
  · simp only [queue_eq p h6, early_eq p hs]
    rw [decide_eq_true h6]
    generalize bt p.Epoch 0 1073741824 = b1
    generalize bt p.Other (-1) 1073741824 = b2
    generalize bt p.SentAt (-1) 1073741824 = b3
    generalize bt p.First 0 1099511627776 = b4
    generalize bt p.Next 0 1099511627776 = b5
    generalize decide (w64 (p.First + (p.Queue.length : Int)) > 1099511627776) = b7
    generalize (List.range p.Queue.length).all (okQ p) = b8
    generalize okEs p = b9
    cases b1 <;> cases b2 <;> cases b3 <;> cases b4 <;> cases b5 <;> cases b7 <;> cases b8 <;> cases b9 <;> rfl
  · rw [decide_eq_false h6]
    generalize bt p.Epoch 0 1073741824 = b1
    generalize bt p.Other (-1) 1073741824 = b2
    generalize bt p.SentAt (-1) 1073741824 = b3
    generalize bt p.First 0 1099511627776 = b4
    generalize bt p.Next 0 1099511627776 = b5
    cases b1 <;> cases b2 <;> cases b3 <;> cases b4 <;> cases b5 <;> rfl

theorem valid_q {p : Pe} (h : validS p = true) : p.Queue.length ≤ 256 ∧ ∀ k, k < p.Queue.length → (nth p.Queue k).length ≤ 8000 := by
  unfold validS okH at h
  simp only [Bool.and_eq_true, decide_eq_true_eq, List.all_eq_true] at h
  exact ⟨h.1.1.1.2, fun k hk => by have := h.1.2 k (List.mem_range.2 hk); simpa [okQ] using this⟩
theorem valid_t {p : Pe} (h : validS p = true) : -1 ≤ p.SentAt ∧ p.SentAt ≤ 1073741824 := by
  unfold validS okH bt at h
  simp only [Bool.and_eq_true, decide_eq_true_eq] at h
  exact h.1.1.1.1.1.1.2

/-! ### New, Offer, Emit -/
theorem own_eq {b : List UInt8} (h : b.length ≤ 100000) : window_own b = some b := by
  unfold window_own
  rw [if_pos (by unfold Mk maxLen roomB; omega)]
  simp [lt1, ovl]

def zeroPeer : Pe := { Epoch := 0, Other := 0, First := 0, Queue := [], Next := 0, Early := [], SentAt := 0 }

/-- The packet with the k-th message. -/
def pk (p : Pe) (k : Nat) : Pk := { Epoch := p.Epoch, To := p.Other, Seq := w64 (p.First + (k : Int)), Ack := p.Next, Data := nth p.Queue k }

theorem nth_take {α : Type} [Inhabited α] (l : List α) (n k : Nat) (h : k < n) : nth (l.take n) k = nth l k := by
  unfold nth
  simp [List.getD, List.getElem?_take, h]

theorem emit_loop (p : Pe) (hq : p.Queue.length ≤ 256) (hd : ∀ k, k < p.Queue.length → (nth p.Queue k).length ≤ 8000) (m : Nat) (hm : m = min 16 p.Queue.length) : loopO (fun v : Int × List Pk => window_Emit_b1 p (p.Queue.take m) (m : Int) v.1 v.2) (0, []) = some ((List.range m).map (pk p)) := by
  obtain ⟨x, hx, rfl⟩ := loopO_for (f := fun v : Int × List Pk => window_Emit_b1 p (p.Queue.take m) (m : Int) v.1 v.2) m (fun k v => v = ((k : Int), (List.range k).map (pk p))) (fun x => x = (List.range m).map (pk p)) (by omega) (by
    rintro k v hk rfl
    refine ⟨_, ?_, rfl⟩
    show window_Emit_b1 p (p.Queue.take m) (m : Int) (k : Int) _ = _
    unfold window_Emit_b1
    rw [if_pos (by simp; omega), if_pos (inR_of (by simp; omega)), Int.toNat_natCast, nth_take _ _ _ hk, own_eq (by have := hd k (by omega); omega)]
    simp only [lt1, Option.bind_some]
    rw [if_pos (fits56 (by simp; omega)), w64_one (by omega), List.range_succ, List.map_append]
    rfl) (by
    rintro v rfl
    refine ⟨_, ?_, rfl⟩
    show window_Emit_b1 p (p.Queue.take m) (m : Int) (m : Int) _ = _
    unfold window_Emit_b1
    rw [if_neg (by simp)]) (v0 := (0, [])) rfl
  exact hx

/-! ### The same -/
theorem msgs_same (l : List (List UInt8)) (h : l.length ≤ 300) : r12_SameMessages l l = some true := by
  unfold r12_SameMessages
  rw [if_neg (by simp), all_loop (v := false) (f := fun i => r12_SameMessages_b1 l l i) l.length (fun _ => true) (by omega) (fun k hk => by
    show r12_SameMessages_b1 l l (k : Int) = _
    unfold r12_SameMessages_b1
    rw [if_pos (by simp; omega), if_pos (inR_of hk), if_pos (inR_of hk), if_neg (by simp), w64_one (by omega)]
    rfl) (by
    show r12_SameMessages_b1 l l (l.length : Int) = _
    unfold r12_SameMessages_b1
    rw [if_neg (by simp)])]
  rw [if_pos (by simp)]
  rfl

end Go.Proofs.Ytomjphpnpcgacaa
/-
  Accept, of both sides, is one function on peers and packets.
-/
namespace Go.Proofs.Ytomjphpnpcgacaa
open Go.Rv
set_option linter.unusedVariables false
set_option linter.unusedSimpArgs false

/-! ### Early packets -/
def EOk (next : Int) : Int → List Pk → Prop
  | _, [] => True
  | last, e :: r => (last < e.Seq ∧ e.Seq < next + 64 ∧ e.Seq < 1099511627776 ∧ e.Data.length ≤ 8000 ∧ e.Epoch = 0 ∧ e.To = 0 ∧ e.Ack = 0) ∧ EOk next e.Seq r

def badL (next last : Int) (e : Pk) : Bool :=
  decide (e.Seq ≤ last) || decide (e.Seq ≥ w64 (next + 64)) || decide (e.Seq ≥ 1099511627776) || decide ((e.Data.length : Int) > 8000) || e.Epoch != 0 || e.To != 0 || e.Ack != 0

def lastL (last : Int) (l : List Pk) : Nat → Int
  | 0 => last
  | k + 1 => (nth l k).Seq

theorem badL_false {next last : Int} {e : Pk} (hn : 0 ≤ next ∧ next ≤ 1099511627776) : badL next last e = false ↔ (last < e.Seq ∧ e.Seq < next + 64 ∧ e.Seq < 1099511627776 ∧ e.Data.length ≤ 8000 ∧ e.Epoch = 0 ∧ e.To = 0 ∧ e.Ack = 0) := by
  unfold badL
  rw [w64_id (by omega)]
  simp only [Bool.or_eq_false_iff, decide_eq_false_iff_not, bne_eq_false_iff_eq]
  constructor
  · rintro ⟨⟨⟨⟨⟨⟨h1, h2⟩, h3⟩, h4⟩, h5⟩, h6⟩, h7⟩
    exact ⟨by omega, by omega, by omega, by omega, h5, h6, h7⟩
  · rintro ⟨h1, h2, h3, h4, h5, h6, h7⟩
    exact ⟨⟨⟨⟨⟨⟨by omega, by omega⟩, by omega⟩, by omega⟩, h5⟩, h6⟩, h7⟩

theorem eok_of {next : Int} (hn : 0 ≤ next ∧ next ≤ 1099511627776) : ∀ (l : List Pk) (last : Int), (∀ k, k < l.length → badL next (lastL last l k) (nth l k) = false) ↔ EOk next last l
  | [], last => by simp [EOk]
  | e :: r, last => by
    have ih := eok_of hn r e.Seq
    constructor
    · intro h
      refine ⟨(badL_false hn).1 (h 0 (by simp)), ih.1 fun k hk => ?_⟩
      have := h (k + 1) (by simpa using hk)
      cases k <;> exact this
    · rintro ⟨h1, h2⟩ k hk
      cases k with
      | zero => exact (badL_false hn).2 h1
      | succ k =>
        have := ih.2 h2 k (by simpa using hk)
        cases k <;> exact this

/-- What holds of a side that is valid, as far as it matters here. -/
structure Vd (p : Pe) : Prop where
  f0 : 0 ≤ p.First
  f1 : p.First ≤ 1099511627776
  n0 : 0 ≤ p.Next
  n1 : p.Next ≤ 1099511627776
  q : p.Queue.length ≤ 256
  early : EOk p.Next p.Next p.Early
  es : p.Early.length ≤ 1000

theorem vd_of {p : Pe} (h : validS p = true) (hs : p.Early.length ≤ 1000) : Vd p := by
  unfold validS okH bt okEs at h
  simp only [Bool.and_eq_true, decide_eq_true_eq, List.all_eq_true] at h
  obtain ⟨⟨⟨⟨⟨⟨⟨⟨a1, a2⟩, a3⟩, a4⟩, a5⟩, a6⟩, a7⟩, a8⟩, a9⟩ := h
  refine ⟨a4.1, a4.2, a5.1, a5.2, a6, (eok_of a5 _ _).1 fun k hk => ?_, hs⟩
  have := a9 k (List.mem_range.2 hk)
  rw [Bool.not_eq_true'] at this
  cases k <;> exact this

theorem eok_mem {next : Int} : ∀ {l : List Pk} {last : Int}, EOk next last l → ∀ e ∈ l, last < e.Seq ∧ e.Seq < next + 64 ∧ e.Seq < 1099511627776 ∧ e.Data.length ≤ 8000
  | [], _, _, _, h => by cases h
  | a :: r, last, h, e, he => by
    rcases List.mem_cons.1 he with rfl | he
    · exact ⟨h.1.1, h.1.2.1, h.1.2.2.1, h.1.2.2.2.1⟩
    · have := eok_mem h.2 e he
      exact ⟨by have := h.1.1; omega, this.2⟩

/-- Put in where it belongs, unless there is one with its number. -/
def insS : List Pk → Pk → List Pk
  | [], x => [x]
  | e :: r, x => if e.Seq < x.Seq then e :: insS r x else if e.Seq = x.Seq then e :: r else x :: e :: r

/-- How many have a smaller number. -/
def cnt (t : Int) : List Pk → Nat
  | [] => 0
  | e :: r => if e.Seq < t then cnt t r + 1 else 0

theorem cnt_spec {next t : Int} : ∀ {l : List Pk} {last : Int}, EOk next last l → cnt t l ≤ l.length ∧ (∀ x, x < cnt t l → (nth l x).Seq < t) ∧ (∀ x, cnt t l ≤ x → x < l.length → t ≤ (nth l x).Seq)
  | [], _, _ => ⟨Nat.le_refl _, fun x h => absurd h (Nat.not_lt_zero _), fun x _ h => absurd h (Nat.not_lt_zero _)⟩
  | e :: r, last, h => by
    obtain ⟨i1, i2, i3⟩ := cnt_spec (t := t) h.2
    unfold cnt
    by_cases hc : e.Seq < t
    · rw [if_pos hc]
      refine ⟨by simp; omega, fun x hx => ?_, fun x hx hl => ?_⟩
      · cases x with
        | zero => exact hc
        | succ x => exact i2 x (by omega)
      · cases x with
        | zero => omega
        | succ x => exact i3 x (by omega) (by simpa using hl)
    · rw [if_neg hc]
      refine ⟨Nat.zero_le _, fun x hx => absurd hx (Nat.not_lt_zero _), fun x _ hl => ?_⟩
      cases x with
      | zero => show t ≤ e.Seq; omega
      | succ x =>
        have hl' : x < r.length := by simpa using hl
        have hm : nth r x ∈ r := by
          unfold nth
          rw [List.getD_eq_getElem?_getD, List.getElem?_eq_getElem hl']
          exact List.getElem_mem hl'
        have := (eok_mem h.2 _ hm).1
        show t ≤ (nth r x).Seq
        omega

theorem insS_new {next : Int} {x : Pk} : ∀ {l : List Pk} {last : Int}, EOk next last l → ¬ (cnt x.Seq l < l.length ∧ (nth l (cnt x.Seq l)).Seq = x.Seq) → l.take (cnt x.Seq l) ++ [x] ++ l.drop (cnt x.Seq l) = insS l x
  | [], _, _, _ => rfl
  | e :: r, last, h, hf => by
    unfold insS
    by_cases hc : e.Seq < x.Seq
    · have e1 : cnt x.Seq (e :: r) = cnt x.Seq r + 1 := by rw [cnt, if_pos hc]
      rw [if_pos hc, ← insS_new h.2 (fun hh => hf (by rw [e1]; exact ⟨by simpa using hh.1, hh.2⟩)), e1]
      rfl
    · have e1 : cnt x.Seq (e :: r) = 0 := by rw [cnt, if_neg hc]
      rw [e1] at hf
      rw [if_neg hc, if_neg (show ¬ e.Seq = x.Seq from fun he => hf ⟨by simp, he⟩), e1]
      rfl

theorem insS_old {next : Int} {x : Pk} : ∀ {l : List Pk} {last : Int}, EOk next last l → (cnt x.Seq l < l.length ∧ (nth l (cnt x.Seq l)).Seq = x.Seq) → insS l x = l
  | [], _, _, hf => by simp at hf
  | e :: r, last, h, hf => by
    unfold insS
    by_cases hc : e.Seq < x.Seq
    · have e1 : cnt x.Seq (e :: r) = cnt x.Seq r + 1 := by rw [cnt, if_pos hc]
      rw [e1] at hf
      rw [if_pos hc, insS_old h.2 ⟨by simpa using hf.1, hf.2⟩]
    · have e1 : cnt x.Seq (e :: r) = 0 := by rw [cnt, if_neg hc]
      rw [e1] at hf
      rw [if_neg hc, if_pos (show e.Seq = x.Seq from hf.2)]

/-! ### The search -/
theorem half (n : Nat) (h : n < 9223372036854775807) : w64 (((shr64 (UInt64.ofInt (w64 (n : Int))) ((1 : UInt64)).toNat).toNat : Nat) : Int) = ((n / 2 : Nat) : Int) := by
  rw [w64_id (x := (n : Int)) (by omega)]
  have h1 : (UInt64.ofInt (n : Int)).toNat = n := by rw [UInt64.ofInt, UInt64.toNat_ofNat']; omega
  have h2 : (shr64 (UInt64.ofInt (n : Int)) ((1 : UInt64)).toNat).toNat = n / 2 := by
    show ((UInt64.ofInt (n : Int)).toBitVec >>> (1 : Nat)).toNat = n / 2
    rw [BitVec.toNat_ushiftRight, Nat.shiftRight_eq_div_pow]
    show (UInt64.ofInt (n : Int)).toNat / 2 ^ 1 = n / 2
    rw [h1]
  rw [h2, w64_id (by omega)]

theorem search_eq {next : Int} {l : List Pk} {last t : Int} (he : EOk next last l) (hl : l.length ≤ 1000) (h0 : -1 ≤ last) (ht : -1 ≤ t ∧ t ≤ 1099511627776) :
    slices_BinarySearchFunc_56 l t window_side_keep_1 = some ((cnt t l : Int), decide (cnt t l < l.length ∧ (nth l (cnt t l)).Seq = t)) := by
  obtain ⟨c1, c2, c3⟩ := cnt_spec (t := t) he
  have hb : ∀ x, x < l.length → -1 ≤ (nth l x).Seq ∧ (nth l x).Seq ≤ 1099511627776 := fun x hx => by
    have hm : nth l x ∈ l := by
      unfold nth
      rw [List.getD_eq_getElem?_getD, List.getElem?_eq_getElem hx]
      exact List.getElem_mem hx
    have := eok_mem he _ hm
    omega
  obtain ⟨x, hx, rfl⟩ := loopO_rule (f := fun v : Int × Int => slices_BinarySearchFunc_56_b1 l t window_side_keep_1 v.1 v.2) (fun v => ∃ i j : Nat, v = ((i : Int), (j : Int)) ∧ i ≤ cnt t l ∧ cnt t l ≤ j ∧ j ≤ l.length) (fun v => (v.2 - v.1).toNat)
    (fun x => x = (cnt t l : Int)) (by
      rintro v ⟨i, j, rfl, h1, h2, h3⟩
      by_cases hij : i < j
      · left
        have hm1 : i ≤ (i + j) / 2 := by omega
        have hm2 : (i + j) / 2 < j := by omega
        have hs : window_side_keep_1 (nth l ((i + j) / 2)) t = some ((nth l ((i + j) / 2)).Seq - t) := by
          have := hb ((i + j) / 2) (by omega)
          unfold window_side_keep_1
          rw [w64_id (by omega)]
        have hstep : slices_BinarySearchFunc_56_b1 l t window_side_keep_1 (i : Int) (j : Int) = some (if (nth l ((i + j) / 2)).Seq < t then .inl ((((i + j) / 2 + 1 : Nat) : Int), (j : Int)) else .inl ((i : Int), (((i + j) / 2 : Nat) : Int))) := by
          unfold slices_BinarySearchFunc_56_b1
          rw [if_pos (by simp; omega), ← Int.natCast_add, half (i + j) (by omega)]
          simp only [lt1]
          rw [if_pos (inR_of (by omega)), Int.toNat_natCast, hs, Option.bind_some, w64_one (by omega)]
          by_cases hc : (nth l ((i + j) / 2)).Seq < t
          · rw [if_pos (by simp; omega), if_pos hc]
          · rw [if_neg (by simp; omega), if_neg hc]
        by_cases hc : (nth l ((i + j) / 2)).Seq < t
        · rw [if_pos hc] at hstep
          refine ⟨_, hstep, ⟨_, _, rfl, ?_, h2, h3⟩, by simp only; omega⟩
          rcases Nat.lt_or_ge ((i + j) / 2) (cnt t l) with hh | hh
          · exact hh
          · have := c3 _ hh (by omega)
            omega
        · rw [if_neg hc] at hstep
          refine ⟨_, hstep, ⟨_, _, rfl, h1, ?_, by omega⟩, by simp only; omega⟩
          rcases Nat.lt_or_ge ((i + j) / 2) (cnt t l) with hh | hh
          · exact absurd (c2 _ hh) hc
          · exact hh
      · right
        have : i = cnt t l := by omega
        subst this
        refine ⟨_, ?_, rfl⟩
        show slices_BinarySearchFunc_56_b1 l t window_side_keep_1 (cnt t l : Int) (j : Int) = _
        unfold slices_BinarySearchFunc_56_b1
        rw [if_neg (by simp; omega)]) (v0 := (0, (l.length : Int))) ⟨0, l.length, rfl, Nat.zero_le _, c1, Nat.le_refl _⟩ (by simp; omega)
  unfold slices_BinarySearchFunc_56
  rw [hx, Option.bind_some, Option.bind_some]
  by_cases hlt : cnt t l < l.length
  · have := hb _ hlt
    rw [if_pos (by simp; omega), if_pos (inR_of hlt), Int.toNat_natCast]
    unfold window_side_keep_1
    rw [w64_id (by omega), Option.bind_some, Option.bind_some]
    congr 2
    by_cases h : (nth l (cnt t l)).Seq = t
    · simp [h, hlt]
    · simp [h]; omega
  · rw [if_neg (by simp; omega), Option.bind_some]
    simp [hlt]

/-! ### The reference's insertion -/
theorem nth_drop {l : List Pk} {k : Nat} (h : k < l.length) : l.drop k = nth l k :: l.drop (k + 1) := by
  rw [List.drop_eq_getElem_cons h]
  congr 1
  unfold nth
  rw [List.getD_eq_getElem?_getD, List.getElem?_eq_getElem h]; rfl

end Go.Proofs.Ytomjphpnpcgacaa
