/-
  The functions compute just that.
-/
import Derived.Test.YtneejmndnihaoaaGP
import Derived.KernelRfl
namespace Go.Proofs.Ytneejmndnihaoaa
open Go.Rv
set_option linter.unusedVariables false
set_option linter.unusedSimpArgs false

theorem bytes_Equal_con {a_1 : List UInt8} {b_2 : List UInt8} {r : Bool} (h : bytes_Equal a_1 b_2 = some r) : Con B 27 [.sl false (L cU8 a_1), .sl false (L cU8 b_2)] [] (fun r' σ' => r' = .bool r ∧ σ' = []) := by
  refine con_walk (N := 10) (rs := [.tmp 4]) ok Try.func27 rfl (by decide +kernel) rfl rfl (Nat.le_of_ble_eq_true rfl) (fun F => ?_)
  have hE := ok.env F
  unfold bytes_Equal at h
  show Run (B.env F) 0 _ ⟨asFr 10 [(0, .sl false (L cU8 a_1)), (1, .sl false (L cU8 b_2))], []⟩ _
  refine run_textE hE [0, 1] (fr' := [(0, .sl false (L cU8 a_1)), (1, .sl false (L cU8 b_2))]) (σ' := []) ⟨_, orcs_nil, ?_⟩ ?_
  · simp only [go_sem, reduceIte, Nat.reduceLT, Nat.reduceEqDiff, Nat.reduceAdd, Nat.reduceBEq, Nat.reduceMul, Nat.reduceSub, Nat.reduceGT, Nat.reducePow, Nat.reduceLeDiff, Int.reduceToNat]
  refine run_textE hE [4] (fr' := [(4, .bool ((a_1 == b_2)))]) (σ' := []) ⟨_, orcs_nil, ?_⟩ ?_
  · simp only [go_sem, reduceIte, Nat.reduceLT, Nat.reduceEqDiff, Nat.reduceAdd, Nat.reduceBEq, Nat.reduceMul, Nat.reduceSub, Nat.reduceGT, Nat.reducePow, Nat.reduceLeDiff, Int.reduceToNat]
  refine run_ret ?_
  obtain rfl := Option.some.inj h
  refine ret_ok (.inr rfl) ?_
  simp only [go_sem, reduceIte, Nat.reduceLT, Nat.reduceEqDiff, Nat.reduceAdd, Nat.reduceBEq, Nat.reduceMul, Nat.reduceSub, Nat.reduceGT, Nat.reducePow, Nat.reduceLeDiff, Int.reduceToNat]

theorem frame_Crc_con {b_3 : List UInt8} {r : UInt32} (h : frame_Crc b_3 = some r) : Con B 13 [.sl false (L cU8 b_3)] [] (fun r' σ' => r' = u32 r ∧ σ' = []) := by
  refine con_walk (N := 55) (rs := [.tmp 2]) ok Try.func13 rfl (by decide +kernel) rfl rfl (Nat.le_of_ble_eq_true rfl) (fun F => ?_)
  have hE := ok.env F
  unfold frame_Crc at h
  show Run (B.env F) 0 _ ⟨asFr 55 [(0, .sl false (L cU8 b_3))], []⟩ _
  refine run_textE hE [0] (fr' := [(0, .sl false (L cU8 b_3))]) (σ' := []) ⟨_, orcs_nil, ?_⟩ ?_
  · simp only [go_sem, reduceIte, Nat.reduceLT, Nat.reduceEqDiff, Nat.reduceAdd, Nat.reduceBEq, Nat.reduceMul, Nat.reduceSub, Nat.reduceGT, Nat.reducePow, Nat.reduceLeDiff, Int.reduceToNat]
  refine run_textE hE [0, 3] (fr' := [(0, .sl false (L cU8 b_3)), (3, .ref 0 0)]) (σ' := [.box (C1 u32 ((Arr.rep 16 (0 : UInt32))).l) false]) ⟨_, orcs_nil, ?_⟩ ?_
  · simp only [go_sem, reduceIte, Nat.reduceLT, Nat.reduceEqDiff, Nat.reduceAdd, Nat.reduceBEq, Nat.reduceMul, Nat.reduceSub, Nat.reduceGT, Nat.reducePow, Nat.reduceLeDiff, Int.reduceToNat]
  replace h := bind_some1 h; obtain ⟨j_233, hA_234, hj_235⟩ := h
  refine run_join (fun (v : Arr UInt32 16) => (⟨asFr 55 [(0, .sl false (L cU8 b_3)), (3, .ref 0 0)], [.box (C1 u32 v.l) false]⟩ : St)) (fun v => v = j_233) ?_ ?_
  · have h := hA_234; clear hA_234
    refine run_textE hE [0, 3, 9] (fr' := [(0, .sl false (L cU8 b_3)), (3, .ref 0 0), (9, i64 0)]) (σ' := [.box (C1 u32 ((Arr.rep 16 (0 : UInt32))).l) false]) ⟨_, orcs_nil, ?_⟩ ?_
    · simp only [go_sem, reduceIte, Nat.reduceLT, Nat.reduceEqDiff, Nat.reduceAdd, Nat.reduceBEq, Nat.reduceMul, Nat.reduceSub, Nat.reduceGT, Nat.reducePow, Nat.reduceLeDiff, Int.reduceToNat]
    refine run_block ?_
    replace h := bind_some1 h; obtain ⟨x_387, hx_388, hj_389⟩ := h
    refine run_loopO hx_388 (fun (v : Int × Arr UInt32 16) => (⟨asFr 55 [(0, .sl false (L cU8 b_3)), (3, .ref 0 0), (9, i64 v.1)], [.box (C1 u32 v.2.l) false]⟩ : St)) (weak_sel [0] (by decide) rfl (by simp only [go_sem, reduceIte, Nat.reduceLT, Nat.reduceEqDiff, Nat.reduceAdd, Nat.reduceBEq, Nat.reduceMul, Nat.reduceSub, Nat.reduceGT, Nat.reducePow, Nat.reduceLeDiff, Int.reduceToNat]) (by simp only [go_sem, reduceIte, Nat.reduceLT, Nat.reduceEqDiff, Nat.reduceAdd, Nat.reduceBEq, Nat.reduceMul, Nat.reduceSub, Nat.reduceGT, Nat.reducePow, Nat.reduceLeDiff, Int.reduceToNat])) ?_
    rintro ⟨t_310, f_311⟩ o_390 h hxx_391
    replace h : frame_Crc_b2 t_310 f_311 = some o_390 := h
    unfold frame_Crc_b2 at h
    refine run_textE hE [0, 3, 9, 10] (fr' := [(0, .sl false (L cU8 b_3)), (3, .ref 0 0), (9, i64 t_310), (10, .bool ((decide (t_310 < 16))))]) (σ' := [.box (C1 u32 f_311.l) false]) ⟨_, orcs_nil, ?_⟩ ?_
    · simp only [go_sem, reduceIte, Nat.reduceLT, Nat.reduceEqDiff, Nat.reduceAdd, Nat.reduceBEq, Nat.reduceMul, Nat.reduceSub, Nat.reduceGT, Nat.reducePow, Nat.reduceLeDiff, Int.reduceToNat]
    refine run_seq ?_
    refine run_condL (b := (decide (t_310 < 16))) rfl (by decide) (fun hb => ?_) (fun hb => ?_)
    · replace h := ite_t h hb
      refine run_skip ?_
      refine thenK_n ?_
      replace h := bind_some1 h; obtain ⟨j_428, hA_429, hj_430⟩ := h
      refine run_join (fun (v : Arr UInt32 16) => (⟨asFr 55 [(0, .sl false (L cU8 b_3)), (3, .ref 0 0), (9, i64 t_310)], [.box (C1 u32 v.l) false]⟩ : St)) (fun v => v = j_428) ?_ ?_
      · have h := hA_429; clear hA_429
        refine run_block ?_
        refine run_textE hE [0, 3, 4, 9] (fr' := [(0, .sl false (L cU8 b_3)), (3, .ref 0 0), (4, i64 t_310), (9, i64 t_310)]) (σ' := [.box (C1 u32 f_311.l) false]) ⟨_, orcs_nil, ?_⟩ ?_
        · simp only [go_sem, reduceIte, Nat.reduceLT, Nat.reduceEqDiff, Nat.reduceAdd, Nat.reduceBEq, Nat.reduceMul, Nat.reduceSub, Nat.reduceGT, Nat.reducePow, Nat.reduceLeDiff, Int.reduceToNat]
        refine run_textE hE [0, 3, 4, 5, 9] (fr' := [(0, .sl false (L cU8 b_3)), (3, .ref 0 0), (4, i64 t_310), (5, u32 ((UInt32.ofInt t_310))), (9, i64 t_310)]) (σ' := [.box (C1 u32 f_311.l) false]) ⟨_, orcs_nil, ?_⟩ ?_
        · simp only [go_sem, reduceIte, Nat.reduceLT, Nat.reduceEqDiff, Nat.reduceAdd, Nat.reduceBEq, Nat.reduceMul, Nat.reduceSub, Nat.reduceGT, Nat.reducePow, Nat.reduceLeDiff, Int.reduceToNat]
        replace h := bind_some1 h; obtain ⟨j_446, hA_447, hj_448⟩ := h
        refine run_join (fun (v : UInt32) => (⟨asFr 55 [(0, .sl false (L cU8 b_3)), (3, .ref 0 0), (4, i64 t_310), (5, u32 v), (9, i64 t_310)], [.box (C1 u32 f_311.l) false]⟩ : St)) (fun v => v = j_446) ?_ ?_
        · have h := hA_447; clear hA_447
          refine run_textE hE [0, 3, 4, 5, 9, 14] (fr' := [(0, .sl false (L cU8 b_3)), (3, .ref 0 0), (4, i64 t_310), (5, u32 ((UInt32.ofInt t_310))), (9, i64 t_310), (14, i64 0)]) (σ' := [.box (C1 u32 f_311.l) false]) ⟨_, orcs_nil, ?_⟩ ?_
          · simp only [go_sem, reduceIte, Nat.reduceLT, Nat.reduceEqDiff, Nat.reduceAdd, Nat.reduceBEq, Nat.reduceMul, Nat.reduceSub, Nat.reduceGT, Nat.reducePow, Nat.reduceLeDiff, Int.reduceToNat]
          refine run_block ?_
          replace h := bind_some1 h; obtain ⟨x_456, hx_457, hj_458⟩ := h
          refine run_loopO hx_457 (fun (v : UInt32 × Int) => (⟨asFr 55 [(0, .sl false (L cU8 b_3)), (3, .ref 0 0), (4, i64 t_310), (5, u32 v.1), (9, i64 t_310), (14, i64 v.2)], [.box (C1 u32 f_311.l) false]⟩ : St)) (weak_sel [0] (by decide) rfl (by simp only [go_sem, reduceIte, Nat.reduceLT, Nat.reduceEqDiff, Nat.reduceAdd, Nat.reduceBEq, Nat.reduceMul, Nat.reduceSub, Nat.reduceGT, Nat.reducePow, Nat.reduceLeDiff, Int.reduceToNat]) (by simp only [go_sem, reduceIte, Nat.reduceLT, Nat.reduceEqDiff, Nat.reduceAdd, Nat.reduceBEq, Nat.reduceMul, Nat.reduceSub, Nat.reduceGT, Nat.reducePow, Nat.reduceLeDiff, Int.reduceToNat])) ?_
          rintro ⟨c_451, t_452⟩ o_459 h hxx_460
          replace h : frame_Crc_b1 c_451 t_452 = some o_459 := h
          unfold frame_Crc_b1 at h
          refine run_textE hE [0, 3, 4, 5, 9, 14, 15] (fr' := [(0, .sl false (L cU8 b_3)), (3, .ref 0 0), (4, i64 t_310), (5, u32 c_451), (9, i64 t_310), (14, i64 t_452), (15, .bool ((decide (t_452 < 4))))]) (σ' := [.box (C1 u32 f_311.l) false]) ⟨_, orcs_nil, ?_⟩ ?_
          · simp only [go_sem, reduceIte, Nat.reduceLT, Nat.reduceEqDiff, Nat.reduceAdd, Nat.reduceBEq, Nat.reduceMul, Nat.reduceSub, Nat.reduceGT, Nat.reducePow, Nat.reduceLeDiff, Int.reduceToNat]
          refine run_seq ?_
          refine run_condL (b := (decide (t_452 < 4))) rfl (by decide) (fun hb => ?_) (fun hb => ?_)
          · replace h := ite_t h hb
            refine run_skip ?_
            refine thenK_n ?_
            refine run_seq ?_
            refine run_block ?_
            replace h := lt1_some h; obtain ⟨c_461, hz_462, h⟩ := h
            refine run_textE0 hE (wk_block wk_then) [0, 3, 4, 5, 9, 14] (fr' := [(0, .sl false (L cU8 b_3)), (3, .ref 0 0), (4, i64 t_310), (5, u32 c_461), (9, i64 t_310), (14, i64 t_452)]) (σ' := [.box (C1 u32 f_311.l) false]) ⟨_, orcs_nil, ?_⟩ ?_
            · subst hz_462; simp only [go_sem, reduceIte, Nat.reduceLT, Nat.reduceEqDiff, Nat.reduceAdd, Nat.reduceBEq, Nat.reduceMul, Nat.reduceSub, Nat.reduceGT, Nat.reducePow, Nat.reduceLeDiff, Int.reduceToNat]
            refine blockK_n ?_
            refine thenK_n ?_
            refine run_textE0 hE wk_lp [0, 3, 4, 5, 9, 14] (fr' := [(0, .sl false (L cU8 b_3)), (3, .ref 0 0), (4, i64 t_310), (5, u32 c_461), (9, i64 t_310), (14, i64 ((w64 (t_452 + 1))))]) (σ' := [.box (C1 u32 f_311.l) false]) ⟨_, orcs_nil, ?_⟩ ?_
            · simp only [go_sem, reduceIte, Nat.reduceLT, Nat.reduceEqDiff, Nat.reduceAdd, Nat.reduceBEq, Nat.reduceMul, Nat.reduceSub, Nat.reduceGT, Nat.reducePow, Nat.reduceLeDiff, Int.reduceToNat]
            obtain rfl := Option.some.inj h
            exact lpK_n ((c_461, (w64 (t_452 + 1)))) rfl (weak_sel [0] (by decide) rfl (by simp only [go_sem, reduceIte, Nat.reduceLT, Nat.reduceEqDiff, Nat.reduceAdd, Nat.reduceBEq, Nat.reduceMul, Nat.reduceSub, Nat.reduceGT, Nat.reducePow, Nat.reduceLeDiff, Int.reduceToNat]) (by simp only [go_sem, reduceIte, Nat.reduceLT, Nat.reduceEqDiff, Nat.reduceAdd, Nat.reduceBEq, Nat.reduceMul, Nat.reduceSub, Nat.reduceGT, Nat.reducePow, Nat.reduceLeDiff, Int.reduceToNat]))
          · replace h := ite_f h hb
            refine run_exit ?_
            refine thenK_x ?_
            obtain rfl := Option.some.inj h
            have ex_x_456 := hxx_460 _ rfl
            subst ex_x_456
            have h := hj_458; clear hj_458
            refine lpK_x ?_
            refine blockK_x ?_
            obtain rfl := Option.some.inj h
            exact joinK_n c_451 rfl ((weak_sel (l' := [(0, .sl false (L cU8 b_3)), (3, .ref 0 0), (4, i64 t_310), (5, u32 c_451), (9, i64 t_310)]) (σ' := [.box (C1 u32 f_311.l) false]) [0] (by decide) rfl (by simp only [go_sem, reduceIte, Nat.reduceLT, Nat.reduceEqDiff, Nat.reduceAdd, Nat.reduceBEq, Nat.reduceMul, Nat.reduceSub, Nat.reduceGT, Nat.reducePow, Nat.reduceLeDiff, Int.reduceToNat]) (by simp only [go_sem, reduceIte, Nat.reduceLT, Nat.reduceEqDiff, Nat.reduceAdd, Nat.reduceBEq, Nat.reduceMul, Nat.reduceSub, Nat.reduceGT, Nat.reducePow, Nat.reduceLeDiff, Int.reduceToNat])).trans (weak_sel [0] (by decide) rfl (by simp only [go_sem, reduceIte, Nat.reduceLT, Nat.reduceEqDiff, Nat.reduceAdd, Nat.reduceBEq, Nat.reduceMul, Nat.reduceSub, Nat.reduceGT, Nat.reducePow, Nat.reduceLeDiff, Int.reduceToNat]) (by simp only [go_sem, reduceIte, Nat.reduceLT, Nat.reduceEqDiff, Nat.reduceAdd, Nat.reduceBEq, Nat.reduceMul, Nat.reduceSub, Nat.reduceGT, Nat.reducePow, Nat.reduceLeDiff, Int.reduceToNat])))
        rintro c_445 rfl
        have h := hj_448; clear hj_448
        replace h := chk_some h; obtain ⟨hc_463, h⟩ := h
        replace h := lt1_some h; obtain ⟨f_464, hz_465, h⟩ := h
        refine run_textE0 hE (wk_block wk_join) [0, 3, 9] (fr' := [(0, .sl false (L cU8 b_3)), (3, .ref 0 0), (9, i64 t_310)]) (σ' := [.box (C1 u32 f_464.l) false]) ⟨_, orcs_nil, ?_⟩ ?_
        · subst hz_465; simp only [go_sem, reduceIte, Nat.reduceLT, Nat.reduceEqDiff, Nat.reduceAdd, Nat.reduceBEq, Nat.reduceMul, Nat.reduceSub, Nat.reduceGT, Nat.reducePow, Nat.reduceLeDiff, Int.reduceToNat, hc_463, hc_463.2, lt_le hc_463.2]
        refine blockK_n ?_
        obtain rfl := Option.some.inj h
        exact joinK_n f_464 rfl (weak_sel [0] (by decide) rfl (by simp only [go_sem, reduceIte, Nat.reduceLT, Nat.reduceEqDiff, Nat.reduceAdd, Nat.reduceBEq, Nat.reduceMul, Nat.reduceSub, Nat.reduceGT, Nat.reducePow, Nat.reduceLeDiff, Int.reduceToNat]) (by simp only [go_sem, reduceIte, Nat.reduceLT, Nat.reduceEqDiff, Nat.reduceAdd, Nat.reduceBEq, Nat.reduceMul, Nat.reduceSub, Nat.reduceGT, Nat.reducePow, Nat.reduceLeDiff, Int.reduceToNat]))
      rintro f_427 rfl
      have h := hj_430; clear hj_430
      refine run_textE0 hE wk_lp [0, 3, 9] (fr' := [(0, .sl false (L cU8 b_3)), (3, .ref 0 0), (9, i64 ((w64 (t_310 + 1))))]) (σ' := [.box (C1 u32 f_427.l) false]) ⟨_, orcs_nil, ?_⟩ ?_
      · simp only [go_sem, reduceIte, Nat.reduceLT, Nat.reduceEqDiff, Nat.reduceAdd, Nat.reduceBEq, Nat.reduceMul, Nat.reduceSub, Nat.reduceGT, Nat.reducePow, Nat.reduceLeDiff, Int.reduceToNat]
      obtain rfl := Option.some.inj h
      exact lpK_n (((w64 (t_310 + 1)), f_427)) rfl (weak_sel [0] (by decide) rfl (by simp only [go_sem, reduceIte, Nat.reduceLT, Nat.reduceEqDiff, Nat.reduceAdd, Nat.reduceBEq, Nat.reduceMul, Nat.reduceSub, Nat.reduceGT, Nat.reducePow, Nat.reduceLeDiff, Int.reduceToNat]) (by simp only [go_sem, reduceIte, Nat.reduceLT, Nat.reduceEqDiff, Nat.reduceAdd, Nat.reduceBEq, Nat.reduceMul, Nat.reduceSub, Nat.reduceGT, Nat.reducePow, Nat.reduceLeDiff, Int.reduceToNat]))
    · replace h := ite_f h hb
      refine run_exit ?_
      refine thenK_x ?_
      obtain rfl := Option.some.inj h
      have ex_x_387 := hxx_391 _ rfl
      subst ex_x_387
      have h := hj_389; clear hj_389
      refine lpK_x ?_
      refine blockK_x ?_
      obtain rfl := Option.some.inj h
      exact joinK_n f_311 rfl ((weak_sel (l' := [(0, .sl false (L cU8 b_3)), (3, .ref 0 0)]) (σ' := [.box (C1 u32 f_311.l) false]) [0] (by decide) rfl (by simp only [go_sem, reduceIte, Nat.reduceLT, Nat.reduceEqDiff, Nat.reduceAdd, Nat.reduceBEq, Nat.reduceMul, Nat.reduceSub, Nat.reduceGT, Nat.reducePow, Nat.reduceLeDiff, Int.reduceToNat]) (by simp only [go_sem, reduceIte, Nat.reduceLT, Nat.reduceEqDiff, Nat.reduceAdd, Nat.reduceBEq, Nat.reduceMul, Nat.reduceSub, Nat.reduceGT, Nat.reducePow, Nat.reduceLeDiff, Int.reduceToNat])).trans (weak_sel [0] (by decide) rfl (by simp only [go_sem, reduceIte, Nat.reduceLT, Nat.reduceEqDiff, Nat.reduceAdd, Nat.reduceBEq, Nat.reduceMul, Nat.reduceSub, Nat.reduceGT, Nat.reducePow, Nat.reduceLeDiff, Int.reduceToNat]) (by simp only [go_sem, reduceIte, Nat.reduceLT, Nat.reduceEqDiff, Nat.reduceAdd, Nat.reduceBEq, Nat.reduceMul, Nat.reduceSub, Nat.reduceGT, Nat.reducePow, Nat.reduceLeDiff, Int.reduceToNat])))
  rintro f_232 rfl
  have h := hj_235; clear hj_235
  refine run_textE hE [0, 3, 6] (fr' := [(0, .sl false (L cU8 b_3)), (3, .ref 0 0), (6, u32 ((4294967295 : UInt32)))]) (σ' := [.box (C1 u32 f_232.l) false]) ⟨_, orcs_nil, ?_⟩ ?_
  · simp only [go_sem, reduceIte, Nat.reduceLT, Nat.reduceEqDiff, Nat.reduceAdd, Nat.reduceBEq, Nat.reduceMul, Nat.reduceSub, Nat.reduceGT, Nat.reducePow, Nat.reduceLeDiff, Int.reduceToNat]
  replace h := bind_some1 h; obtain ⟨j_502, hA_503, hj_504⟩ := h
  refine run_join (fun (v : UInt32) => (⟨asFr 55 [(6, u32 v)], []⟩ : St)) (fun v => v = j_502) ?_ ?_
  · have h := hA_503; clear hA_503
    refine run_textE hE [3, 6, 28, 29, 30] (fr' := [(3, .ref 0 0), (6, u32 ((4294967295 : UInt32))), (28, .sl false (L cU8 b_3)), (29, i64 ((b_3.length : Int))), (30, i64 0)]) (σ' := [.box (C1 u32 f_232.l) false]) ⟨_, orcs_nil, ?_⟩ ?_
    · simp only [go_sem, reduceIte, Nat.reduceLT, Nat.reduceEqDiff, Nat.reduceAdd, Nat.reduceBEq, Nat.reduceMul, Nat.reduceSub, Nat.reduceGT, Nat.reducePow, Nat.reduceLeDiff, Int.reduceToNat]
    refine run_block ?_
    replace h := bind_some1 h; obtain ⟨x_526, hx_527, hj_528⟩ := h
    refine run_loopO hx_527 (fun (v : UInt32 × Int) => (⟨asFr 55 [(3, .ref 0 0), (6, u32 v.1), (28, .sl false (L cU8 b_3)), (29, i64 ((b_3.length : Int))), (30, i64 v.2)], [.box (C1 u32 f_232.l) false]⟩ : St)) (weak_sel [0] (by decide) rfl (by simp only [go_sem, reduceIte, Nat.reduceLT, Nat.reduceEqDiff, Nat.reduceAdd, Nat.reduceBEq, Nat.reduceMul, Nat.reduceSub, Nat.reduceGT, Nat.reducePow, Nat.reduceLeDiff, Int.reduceToNat]) (by simp only [go_sem, reduceIte, Nat.reduceLT, Nat.reduceEqDiff, Nat.reduceAdd, Nat.reduceBEq, Nat.reduceMul, Nat.reduceSub, Nat.reduceGT, Nat.reducePow, Nat.reduceLeDiff, Int.reduceToNat])) ?_
    rintro ⟨c_514, t_515⟩ o_529 h hxx_530
    replace h : frame_Crc_b3 b_3 f_232 c_514 t_515 = some o_529 := h
    unfold frame_Crc_b3 at h
    refine run_textE hE [3, 6, 28, 29, 30, 31] (fr' := [(3, .ref 0 0), (6, u32 c_514), (28, .sl false (L cU8 b_3)), (29, i64 ((b_3.length : Int))), (30, i64 t_515), (31, .bool ((decide (t_515 < (b_3.length : Int)))))]) (σ' := [.box (C1 u32 f_232.l) false]) ⟨_, orcs_nil, ?_⟩ ?_
    · simp only [go_sem, reduceIte, Nat.reduceLT, Nat.reduceEqDiff, Nat.reduceAdd, Nat.reduceBEq, Nat.reduceMul, Nat.reduceSub, Nat.reduceGT, Nat.reducePow, Nat.reduceLeDiff, Int.reduceToNat]
    refine run_seq ?_
    refine run_condL (b := (decide (t_515 < (b_3.length : Int)))) rfl (by decide) (fun hb => ?_) (fun hb => ?_)
    · replace h := ite_t h hb
      refine run_skip ?_
      refine thenK_n ?_
      refine run_seq ?_
      refine run_block ?_
      replace h := chk_some h; obtain ⟨hc_531, h⟩ := h
      refine run_textE hE [3, 6, 8, 28, 29, 30] (fr' := [(3, .ref 0 0), (6, u32 c_514), (8, u8 (nth b_3 t_515.toNat)), (28, .sl false (L cU8 b_3)), (29, i64 ((b_3.length : Int))), (30, i64 t_515)]) (σ' := [.box (C1 u32 f_232.l) false]) ⟨_, orcs_nil, ?_⟩ ?_
      · simp only [go_sem, reduceIte, Nat.reduceLT, Nat.reduceEqDiff, Nat.reduceAdd, Nat.reduceBEq, Nat.reduceMul, Nat.reduceSub, Nat.reduceGT, Nat.reducePow, Nat.reduceLeDiff, Int.reduceToNat, hc_531, hc_531.2, lt_le hc_531.2]
      replace h := lt1_some h; obtain ⟨c_532, hz_533, h⟩ := h
      refine run_textE hE [3, 6, 28, 29, 30] (fr' := [(3, .ref 0 0), (6, u32 c_532), (28, .sl false (L cU8 b_3)), (29, i64 ((b_3.length : Int))), (30, i64 t_515)]) (σ' := [.box (C1 u32 f_232.l) false]) ⟨_, orcs_nil, ?_⟩ ?_
      · subst hz_533; simp only [go_sem, reduceIte, Nat.reduceLT, Nat.reduceEqDiff, Nat.reduceAdd, Nat.reduceBEq, Nat.reduceMul, Nat.reduceSub, Nat.reduceGT, Nat.reducePow, Nat.reduceLeDiff, Int.reduceToNat]
      replace h := chk_some h; obtain ⟨hc_534, h⟩ := h
      replace h := lt1_some h; obtain ⟨c_535, hz_536, h⟩ := h
      refine run_textE hE [3, 6, 28, 29, 30] (fr' := [(3, .ref 0 0), (6, u32 c_535), (28, .sl false (L cU8 b_3)), (29, i64 ((b_3.length : Int))), (30, i64 t_515)]) (σ' := [.box (C1 u32 f_232.l) false]) ⟨_, orcs_nil, ?_⟩ ?_
      · subst hz_536; simp only [go_sem, reduceIte, Nat.reduceLT, Nat.reduceEqDiff, Nat.reduceAdd, Nat.reduceBEq, Nat.reduceMul, Nat.reduceSub, Nat.reduceGT, Nat.reducePow, Nat.reduceLeDiff, Int.reduceToNat, hc_534, inR_nat hc_534, lt_le (inR_nat hc_534)]
      replace h := chk_some h; obtain ⟨hc_537, h⟩ := h
      replace h := lt1_some h; obtain ⟨c_538, hz_539, h⟩ := h
      refine run_textE0 hE (wk_block wk_then) [3, 6, 28, 29, 30] (fr' := [(3, .ref 0 0), (6, u32 c_538), (28, .sl false (L cU8 b_3)), (29, i64 ((b_3.length : Int))), (30, i64 t_515)]) (σ' := [.box (C1 u32 f_232.l) false]) ⟨_, orcs_nil, ?_⟩ ?_
      · subst hz_539; simp only [go_sem, reduceIte, Nat.reduceLT, Nat.reduceEqDiff, Nat.reduceAdd, Nat.reduceBEq, Nat.reduceMul, Nat.reduceSub, Nat.reduceGT, Nat.reducePow, Nat.reduceLeDiff, Int.reduceToNat, hc_537, inR_nat hc_537, lt_le (inR_nat hc_537)]
      refine blockK_n ?_
      refine thenK_n ?_
      refine run_textE0 hE wk_lp [3, 6, 28, 29, 30] (fr' := [(3, .ref 0 0), (6, u32 c_538), (28, .sl false (L cU8 b_3)), (29, i64 ((b_3.length : Int))), (30, i64 ((w64 (t_515 + 1))))]) (σ' := [.box (C1 u32 f_232.l) false]) ⟨_, orcs_nil, ?_⟩ ?_
      · simp only [go_sem, reduceIte, Nat.reduceLT, Nat.reduceEqDiff, Nat.reduceAdd, Nat.reduceBEq, Nat.reduceMul, Nat.reduceSub, Nat.reduceGT, Nat.reducePow, Nat.reduceLeDiff, Int.reduceToNat]
      obtain rfl := Option.some.inj h
      exact lpK_n ((c_538, (w64 (t_515 + 1)))) rfl (weak_sel [0] (by decide) rfl (by simp only [go_sem, reduceIte, Nat.reduceLT, Nat.reduceEqDiff, Nat.reduceAdd, Nat.reduceBEq, Nat.reduceMul, Nat.reduceSub, Nat.reduceGT, Nat.reducePow, Nat.reduceLeDiff, Int.reduceToNat]) (by simp only [go_sem, reduceIte, Nat.reduceLT, Nat.reduceEqDiff, Nat.reduceAdd, Nat.reduceBEq, Nat.reduceMul, Nat.reduceSub, Nat.reduceGT, Nat.reducePow, Nat.reduceLeDiff, Int.reduceToNat]))
    · replace h := ite_f h hb
      refine run_exit ?_
      refine thenK_x ?_
      obtain rfl := Option.some.inj h
      have ex_x_526 := hxx_530 _ rfl
      subst ex_x_526
      have h := hj_528; clear hj_528
      refine lpK_x ?_
      refine blockK_x ?_
      obtain rfl := Option.some.inj h
      exact joinK_n c_514 rfl ((weak_sel (l' := [(6, u32 c_514)]) (σ' := []) [] (by decide) rfl (by simp only [go_sem, reduceIte, Nat.reduceLT, Nat.reduceEqDiff, Nat.reduceAdd, Nat.reduceBEq, Nat.reduceMul, Nat.reduceSub, Nat.reduceGT, Nat.reducePow, Nat.reduceLeDiff, Int.reduceToNat]) (by simp only [go_sem, reduceIte, Nat.reduceLT, Nat.reduceEqDiff, Nat.reduceAdd, Nat.reduceBEq, Nat.reduceMul, Nat.reduceSub, Nat.reduceGT, Nat.reducePow, Nat.reduceLeDiff, Int.reduceToNat])).trans (weak_sel [] (by decide) rfl (by simp only [go_sem, reduceIte, Nat.reduceLT, Nat.reduceEqDiff, Nat.reduceAdd, Nat.reduceBEq, Nat.reduceMul, Nat.reduceSub, Nat.reduceGT, Nat.reducePow, Nat.reduceLeDiff, Int.reduceToNat]) (by simp only [go_sem, reduceIte, Nat.reduceLT, Nat.reduceEqDiff, Nat.reduceAdd, Nat.reduceBEq, Nat.reduceMul, Nat.reduceSub, Nat.reduceGT, Nat.reducePow, Nat.reduceLeDiff, Int.reduceToNat])))
  rintro c_501 rfl
  have h := hj_504; clear hj_504
  refine run_textE hE [2] (fr' := [(2, u32 ((~~~c_501)))]) (σ' := []) ⟨_, orcs_nil, ?_⟩ ?_
  · simp only [go_sem, reduceIte, Nat.reduceLT, Nat.reduceEqDiff, Nat.reduceAdd, Nat.reduceBEq, Nat.reduceMul, Nat.reduceSub, Nat.reduceGT, Nat.reducePow, Nat.reduceLeDiff, Int.reduceToNat]
  refine run_ret ?_
  obtain rfl := Option.some.inj h
  refine ret_ok (.inr rfl) ?_
  simp only [go_sem, reduceIte, Nat.reduceLT, Nat.reduceEqDiff, Nat.reduceAdd, Nat.reduceBEq, Nat.reduceMul, Nat.reduceSub, Nat.reduceGT, Nat.reducePow, Nat.reduceLeDiff, Int.reduceToNat]

theorem r10_Crc_con {b_540 : List UInt8} {r : UInt32} (h : r10_Crc b_540 = some r) : Con B 14 [.sl false (L cU8 b_540)] [] (fun r' σ' => r' = u32 r ∧ σ' = []) := by
  refine con_walk (N := 34) (rs := [.tmp 2]) ok Try.func14 rfl (by decide +kernel) rfl rfl (Nat.le_of_ble_eq_true rfl) (fun F => ?_)
  have hE := ok.env F
  unfold r10_Crc at h
  show Run (B.env F) 0 _ ⟨asFr 34 [(0, .sl false (L cU8 b_540))], []⟩ _
  refine run_textE hE [0] (fr' := [(0, .sl false (L cU8 b_540))]) (σ' := []) ⟨_, orcs_nil, ?_⟩ ?_
  · simp only [go_sem, reduceIte, Nat.reduceLT, Nat.reduceEqDiff, Nat.reduceAdd, Nat.reduceBEq, Nat.reduceMul, Nat.reduceSub, Nat.reduceGT, Nat.reducePow, Nat.reduceLeDiff, Int.reduceToNat]
  refine run_textE hE [0, 3] (fr' := [(0, .sl false (L cU8 b_540)), (3, u32 ((4294967295 : UInt32)))]) (σ' := []) ⟨_, orcs_nil, ?_⟩ ?_
  · simp only [go_sem, reduceIte, Nat.reduceLT, Nat.reduceEqDiff, Nat.reduceAdd, Nat.reduceBEq, Nat.reduceMul, Nat.reduceSub, Nat.reduceGT, Nat.reducePow, Nat.reduceLeDiff, Int.reduceToNat]
  replace h := bind_some1 h; obtain ⟨j_916, hA_917, hj_918⟩ := h
  refine run_join (fun (v : UInt32) => (⟨asFr 34 [(3, u32 v)], []⟩ : St)) (fun v => v = j_916) ?_ ?_
  · have h := hA_917; clear hA_917
    refine run_textE hE [0, 3, 4] (fr' := [(0, .sl false (L cU8 b_540)), (3, u32 ((4294967295 : UInt32))), (4, i64 0)]) (σ' := []) ⟨_, orcs_nil, ?_⟩ ?_
    · simp only [go_sem, reduceIte, Nat.reduceLT, Nat.reduceEqDiff, Nat.reduceAdd, Nat.reduceBEq, Nat.reduceMul, Nat.reduceSub, Nat.reduceGT, Nat.reducePow, Nat.reduceLeDiff, Int.reduceToNat]
    refine run_block ?_
    replace h := bind_some1 h; obtain ⟨x_1166, hx_1167, hj_1168⟩ := h
    refine run_loopO hx_1167 (fun (v : UInt32 × Int) => (⟨asFr 34 [(0, .sl false (L cU8 b_540)), (3, u32 v.1), (4, i64 v.2)], []⟩ : St)) (weak_sel [] (by decide) rfl (by simp only [go_sem, reduceIte, Nat.reduceLT, Nat.reduceEqDiff, Nat.reduceAdd, Nat.reduceBEq, Nat.reduceMul, Nat.reduceSub, Nat.reduceGT, Nat.reducePow, Nat.reduceLeDiff, Int.reduceToNat]) (by simp only [go_sem, reduceIte, Nat.reduceLT, Nat.reduceEqDiff, Nat.reduceAdd, Nat.reduceBEq, Nat.reduceMul, Nat.reduceSub, Nat.reduceGT, Nat.reducePow, Nat.reduceLeDiff, Int.reduceToNat])) ?_
    rintro ⟨c_1041, i_1042⟩ o_1169 h hxx_1170
    replace h : r10_Crc_b2 b_540 c_1041 i_1042 = some o_1169 := h
    unfold r10_Crc_b2 at h
    refine run_seq ?_
    refine run_textE hE [0, 3, 4, 10] (fr' := [(0, .sl false (L cU8 b_540)), (3, u32 c_1041), (4, i64 i_1042), (10, .bool ((decide (i_1042 < (b_540.length : Int)))))]) (σ' := []) ⟨_, orcs_nil, ?_⟩ ?_
    · simp only [go_sem, reduceIte, Nat.reduceLT, Nat.reduceEqDiff, Nat.reduceAdd, Nat.reduceBEq, Nat.reduceMul, Nat.reduceSub, Nat.reduceGT, Nat.reducePow, Nat.reduceLeDiff, Int.reduceToNat]
    refine run_condL (b := (decide (i_1042 < (b_540.length : Int)))) rfl (by decide) (fun hb => ?_) (fun hb => ?_)
    · replace h := ite_t h hb
      refine run_skip ?_
      refine thenK_n ?_
      replace h := bind_some1 h; obtain ⟨j_1231, hA_1232, hj_1233⟩ := h
      refine run_join (fun (v : UInt32) => (⟨asFr 34 [(0, .sl false (L cU8 b_540)), (3, u32 v), (4, i64 i_1042)], []⟩ : St)) (fun v => v = j_1231) ?_ ?_
      · have h := hA_1232; clear hA_1232
        refine run_block ?_
        replace h := chk_some h; obtain ⟨hc_1234, h⟩ := h
        replace h := lt1_some h; obtain ⟨c_1235, hz_1236, h⟩ := h
        refine run_textE hE [0, 3, 4] (fr' := [(0, .sl false (L cU8 b_540)), (3, u32 c_1235), (4, i64 i_1042)]) (σ' := []) ⟨_, orcs_nil, ?_⟩ ?_
        · subst hz_1236; simp only [go_sem, reduceIte, Nat.reduceLT, Nat.reduceEqDiff, Nat.reduceAdd, Nat.reduceBEq, Nat.reduceMul, Nat.reduceSub, Nat.reduceGT, Nat.reducePow, Nat.reduceLeDiff, Int.reduceToNat, hc_1234, hc_1234.2, lt_le hc_1234.2]
        refine run_textE hE [0, 3, 4, 5] (fr' := [(0, .sl false (L cU8 b_540)), (3, u32 c_1235), (4, i64 i_1042), (5, i64 0)]) (σ' := []) ⟨_, orcs_nil, ?_⟩ ?_
        · simp only [go_sem, reduceIte, Nat.reduceLT, Nat.reduceEqDiff, Nat.reduceAdd, Nat.reduceBEq, Nat.reduceMul, Nat.reduceSub, Nat.reduceGT, Nat.reducePow, Nat.reduceLeDiff, Int.reduceToNat]
        refine run_block ?_
        replace h := bind_some1 h; obtain ⟨x_1272, hx_1273, hj_1274⟩ := h
        refine run_loopO hx_1273 (fun (v : UInt32 × Int) => (⟨asFr 34 [(0, .sl false (L cU8 b_540)), (3, u32 v.1), (4, i64 i_1042), (5, i64 v.2)], []⟩ : St)) (weak_sel [] (by decide) rfl (by simp only [go_sem, reduceIte, Nat.reduceLT, Nat.reduceEqDiff, Nat.reduceAdd, Nat.reduceBEq, Nat.reduceMul, Nat.reduceSub, Nat.reduceGT, Nat.reducePow, Nat.reduceLeDiff, Int.reduceToNat]) (by simp only [go_sem, reduceIte, Nat.reduceLT, Nat.reduceEqDiff, Nat.reduceAdd, Nat.reduceBEq, Nat.reduceMul, Nat.reduceSub, Nat.reduceGT, Nat.reducePow, Nat.reduceLeDiff, Int.reduceToNat])) ?_
        rintro ⟨c_1253, k_1254⟩ o_1275 h hxx_1276
        replace h : r10_Crc_b1 c_1253 k_1254 = some o_1275 := h
        unfold r10_Crc_b1 at h
        refine run_seq ?_
        refine run_textE hE [0, 3, 4, 5, 21] (fr' := [(0, .sl false (L cU8 b_540)), (3, u32 c_1253), (4, i64 i_1042), (5, i64 k_1254), (21, .bool ((decide (k_1254 < 8))))]) (σ' := []) ⟨_, orcs_nil, ?_⟩ ?_
        · simp only [go_sem, reduceIte, Nat.reduceLT, Nat.reduceEqDiff, Nat.reduceAdd, Nat.reduceBEq, Nat.reduceMul, Nat.reduceSub, Nat.reduceGT, Nat.reducePow, Nat.reduceLeDiff, Int.reduceToNat]
        refine run_condL (b := (decide (k_1254 < 8))) rfl (by decide) (fun hb => ?_) (fun hb => ?_)
        · replace h := ite_t h hb
          refine run_skip ?_
          refine thenK_n ?_
          replace h := bind_some1 h; obtain ⟨j_1284, hA_1285, hj_1286⟩ := h
          refine run_join (fun (v : UInt32) => (⟨asFr 34 [(0, .sl false (L cU8 b_540)), (3, u32 v), (4, i64 i_1042), (5, i64 k_1254)], []⟩ : St)) (fun v => v = j_1284) ?_ ?_
          · have h := hA_1285; clear hA_1285
            refine run_block ?_
            have hk_1287 : ¬(2 : UInt32) = 0 := by decide
            replace h := lt1_some h; obtain ⟨odd_1288, hz_1289, h⟩ := h
            refine run_textE hE [0, 3, 4, 5, 6] (fr' := [(0, .sl false (L cU8 b_540)), (3, u32 c_1253), (4, i64 i_1042), (5, i64 k_1254), (6, .bool odd_1288)]) (σ' := []) ⟨_, orcs_nil, ?_⟩ ?_
            · subst hz_1289; simp only [go_sem, reduceIte, Nat.reduceLT, Nat.reduceEqDiff, Nat.reduceAdd, Nat.reduceBEq, Nat.reduceMul, Nat.reduceSub, Nat.reduceGT, Nat.reducePow, Nat.reduceLeDiff, Int.reduceToNat, hk_1287]
            have hk_1290 : ¬(2 : UInt32) = 0 := by decide
            refine run_textE hE [0, 3, 4, 5, 6] (fr' := [(0, .sl false (L cU8 b_540)), (3, u32 ((c_1253 / (2 : UInt32)))), (4, i64 i_1042), (5, i64 k_1254), (6, .bool odd_1288)]) (σ' := []) ⟨_, orcs_nil, ?_⟩ ?_
            · simp only [go_sem, reduceIte, Nat.reduceLT, Nat.reduceEqDiff, Nat.reduceAdd, Nat.reduceBEq, Nat.reduceMul, Nat.reduceSub, Nat.reduceGT, Nat.reducePow, Nat.reduceLeDiff, Int.reduceToNat, hk_1290]
            refine run_textE hE [0, 3, 4, 5, 29] (fr' := [(0, .sl false (L cU8 b_540)), (3, u32 ((c_1253 / (2 : UInt32)))), (4, i64 i_1042), (5, i64 k_1254), (29, .bool odd_1288)]) (σ' := []) ⟨_, orcs_nil, ?_⟩ ?_
            · simp only [go_sem, reduceIte, Nat.reduceLT, Nat.reduceEqDiff, Nat.reduceAdd, Nat.reduceBEq, Nat.reduceMul, Nat.reduceSub, Nat.reduceGT, Nat.reducePow, Nat.reduceLeDiff, Int.reduceToNat]
            refine run_condL (b := odd_1288) rfl (by decide) (fun hb => ?_) (fun hb => ?_)
            · replace h := ite_t h hb
              replace h := lt1_some h; obtain ⟨c_1291, hz_1292, h⟩ := h
              refine run_textE0 hE (wk_block wk_join) [0, 3, 4, 5] (fr' := [(0, .sl false (L cU8 b_540)), (3, u32 c_1291), (4, i64 i_1042), (5, i64 k_1254)]) (σ' := []) ⟨_, orcs_nil, ?_⟩ ?_
              · subst hz_1292; simp only [go_sem, reduceIte, Nat.reduceLT, Nat.reduceEqDiff, Nat.reduceAdd, Nat.reduceBEq, Nat.reduceMul, Nat.reduceSub, Nat.reduceGT, Nat.reducePow, Nat.reduceLeDiff, Int.reduceToNat]
              refine blockK_n ?_
              obtain rfl := Option.some.inj h
              exact joinK_n c_1291 rfl (weak_sel [] (by decide) rfl (by simp only [go_sem, reduceIte, Nat.reduceLT, Nat.reduceEqDiff, Nat.reduceAdd, Nat.reduceBEq, Nat.reduceMul, Nat.reduceSub, Nat.reduceGT, Nat.reducePow, Nat.reduceLeDiff, Int.reduceToNat]) (by simp only [go_sem, reduceIte, Nat.reduceLT, Nat.reduceEqDiff, Nat.reduceAdd, Nat.reduceBEq, Nat.reduceMul, Nat.reduceSub, Nat.reduceGT, Nat.reducePow, Nat.reduceLeDiff, Int.reduceToNat]))
            · replace h := ite_f h hb
              refine run_skip ?_
              refine blockK_n ?_
              obtain rfl := Option.some.inj h
              exact joinK_n ((c_1253 / (2 : UInt32))) rfl (weak_sel [] (by decide) rfl (by simp only [go_sem, reduceIte, Nat.reduceLT, Nat.reduceEqDiff, Nat.reduceAdd, Nat.reduceBEq, Nat.reduceMul, Nat.reduceSub, Nat.reduceGT, Nat.reducePow, Nat.reduceLeDiff, Int.reduceToNat]) (by simp only [go_sem, reduceIte, Nat.reduceLT, Nat.reduceEqDiff, Nat.reduceAdd, Nat.reduceBEq, Nat.reduceMul, Nat.reduceSub, Nat.reduceGT, Nat.reducePow, Nat.reduceLeDiff, Int.reduceToNat]))
          rintro c_1283 rfl
          have h := hj_1286; clear hj_1286
          refine run_textE0 hE wk_lp [0, 3, 4, 5] (fr' := [(0, .sl false (L cU8 b_540)), (3, u32 c_1283), (4, i64 i_1042), (5, i64 ((w64 (k_1254 + 1))))]) (σ' := []) ⟨_, orcs_nil, ?_⟩ ?_
          · simp only [go_sem, reduceIte, Nat.reduceLT, Nat.reduceEqDiff, Nat.reduceAdd, Nat.reduceBEq, Nat.reduceMul, Nat.reduceSub, Nat.reduceGT, Nat.reducePow, Nat.reduceLeDiff, Int.reduceToNat]
          obtain rfl := Option.some.inj h
          exact lpK_n ((c_1283, (w64 (k_1254 + 1)))) rfl (weak_sel [] (by decide) rfl (by simp only [go_sem, reduceIte, Nat.reduceLT, Nat.reduceEqDiff, Nat.reduceAdd, Nat.reduceBEq, Nat.reduceMul, Nat.reduceSub, Nat.reduceGT, Nat.reducePow, Nat.reduceLeDiff, Int.reduceToNat]) (by simp only [go_sem, reduceIte, Nat.reduceLT, Nat.reduceEqDiff, Nat.reduceAdd, Nat.reduceBEq, Nat.reduceMul, Nat.reduceSub, Nat.reduceGT, Nat.reducePow, Nat.reduceLeDiff, Int.reduceToNat]))
        · replace h := ite_f h hb
          refine run_exit ?_
          refine thenK_x ?_
          obtain rfl := Option.some.inj h
          have ex_x_1272 := hxx_1276 _ rfl
          subst ex_x_1272
          have h := hj_1274; clear hj_1274
          refine lpK_x ?_
          refine blockK_x ?_
          refine blockK_n ?_
          obtain rfl := Option.some.inj h
          exact joinK_n c_1253 rfl ((weak_sel (l' := [(0, .sl false (L cU8 b_540)), (3, u32 c_1253), (4, i64 i_1042)]) (σ' := []) [] (by decide) rfl (by simp only [go_sem, reduceIte, Nat.reduceLT, Nat.reduceEqDiff, Nat.reduceAdd, Nat.reduceBEq, Nat.reduceMul, Nat.reduceSub, Nat.reduceGT, Nat.reducePow, Nat.reduceLeDiff, Int.reduceToNat]) (by simp only [go_sem, reduceIte, Nat.reduceLT, Nat.reduceEqDiff, Nat.reduceAdd, Nat.reduceBEq, Nat.reduceMul, Nat.reduceSub, Nat.reduceGT, Nat.reducePow, Nat.reduceLeDiff, Int.reduceToNat])).trans (weak_sel [] (by decide) rfl (by simp only [go_sem, reduceIte, Nat.reduceLT, Nat.reduceEqDiff, Nat.reduceAdd, Nat.reduceBEq, Nat.reduceMul, Nat.reduceSub, Nat.reduceGT, Nat.reducePow, Nat.reduceLeDiff, Int.reduceToNat]) (by simp only [go_sem, reduceIte, Nat.reduceLT, Nat.reduceEqDiff, Nat.reduceAdd, Nat.reduceBEq, Nat.reduceMul, Nat.reduceSub, Nat.reduceGT, Nat.reducePow, Nat.reduceLeDiff, Int.reduceToNat])))
      rintro c_1230 rfl
      have h := hj_1233; clear hj_1233
      refine run_textE0 hE wk_lp [0, 3, 4] (fr' := [(0, .sl false (L cU8 b_540)), (3, u32 c_1230), (4, i64 ((w64 (i_1042 + 1))))]) (σ' := []) ⟨_, orcs_nil, ?_⟩ ?_
      · simp only [go_sem, reduceIte, Nat.reduceLT, Nat.reduceEqDiff, Nat.reduceAdd, Nat.reduceBEq, Nat.reduceMul, Nat.reduceSub, Nat.reduceGT, Nat.reducePow, Nat.reduceLeDiff, Int.reduceToNat]
      obtain rfl := Option.some.inj h
      exact lpK_n ((c_1230, (w64 (i_1042 + 1)))) rfl (weak_sel [] (by decide) rfl (by simp only [go_sem, reduceIte, Nat.reduceLT, Nat.reduceEqDiff, Nat.reduceAdd, Nat.reduceBEq, Nat.reduceMul, Nat.reduceSub, Nat.reduceGT, Nat.reducePow, Nat.reduceLeDiff, Int.reduceToNat]) (by simp only [go_sem, reduceIte, Nat.reduceLT, Nat.reduceEqDiff, Nat.reduceAdd, Nat.reduceBEq, Nat.reduceMul, Nat.reduceSub, Nat.reduceGT, Nat.reducePow, Nat.reduceLeDiff, Int.reduceToNat]))
    · replace h := ite_f h hb
      refine run_exit ?_
      refine thenK_x ?_
      obtain rfl := Option.some.inj h
      have ex_x_1166 := hxx_1170 _ rfl
      subst ex_x_1166
      have h := hj_1168; clear hj_1168
      refine lpK_x ?_
      refine blockK_x ?_
      obtain rfl := Option.some.inj h
      exact joinK_n c_1041 rfl ((weak_sel (l' := [(3, u32 c_1041)]) (σ' := []) [] (by decide) rfl (by simp only [go_sem, reduceIte, Nat.reduceLT, Nat.reduceEqDiff, Nat.reduceAdd, Nat.reduceBEq, Nat.reduceMul, Nat.reduceSub, Nat.reduceGT, Nat.reducePow, Nat.reduceLeDiff, Int.reduceToNat]) (by simp only [go_sem, reduceIte, Nat.reduceLT, Nat.reduceEqDiff, Nat.reduceAdd, Nat.reduceBEq, Nat.reduceMul, Nat.reduceSub, Nat.reduceGT, Nat.reducePow, Nat.reduceLeDiff, Int.reduceToNat])).trans (weak_sel [] (by decide) rfl (by simp only [go_sem, reduceIte, Nat.reduceLT, Nat.reduceEqDiff, Nat.reduceAdd, Nat.reduceBEq, Nat.reduceMul, Nat.reduceSub, Nat.reduceGT, Nat.reducePow, Nat.reduceLeDiff, Int.reduceToNat]) (by simp only [go_sem, reduceIte, Nat.reduceLT, Nat.reduceEqDiff, Nat.reduceAdd, Nat.reduceBEq, Nat.reduceMul, Nat.reduceSub, Nat.reduceGT, Nat.reducePow, Nat.reduceLeDiff, Int.reduceToNat])))
  rintro c_915 rfl
  have h := hj_918; clear hj_918
  refine run_textE hE [2] (fr' := [(2, u32 ((c_915 ^^^ (4294967295 : UInt32))))]) (σ' := []) ⟨_, orcs_nil, ?_⟩ ?_
  · simp only [go_sem, reduceIte, Nat.reduceLT, Nat.reduceEqDiff, Nat.reduceAdd, Nat.reduceBEq, Nat.reduceMul, Nat.reduceSub, Nat.reduceGT, Nat.reducePow, Nat.reduceLeDiff, Int.reduceToNat]
  refine run_ret ?_
  obtain rfl := Option.some.inj h
  refine ret_ok (.inr rfl) ?_
  simp only [go_sem, reduceIte, Nat.reduceLT, Nat.reduceEqDiff, Nat.reduceAdd, Nat.reduceBEq, Nat.reduceMul, Nat.reduceSub, Nat.reduceGT, Nat.reducePow, Nat.reduceLeDiff, Int.reduceToNat]

theorem frame_seal_con {b_1293 : List UInt8} {r : List UInt8} (h : frame_seal b_1293 = some r) : Con B 23 [.sl false (L cU8 b_1293)] [] (fun r' σ' => r' = .sl false (L cU8 r) ∧ σ' = []) := by
  refine con_walk (N := 18) (rs := [.tmp 2]) ok Try.func23 rfl (by decide +kernel) rfl rfl (Nat.le_of_ble_eq_true rfl) (fun F => ?_)
  have hE := ok.env F
  unfold frame_seal at h
  show Run (B.env F) 0 _ ⟨asFr 18 [(0, .sl false (L cU8 b_1293))], []⟩ _
  refine run_textE hE [0] (fr' := [(0, .sl false (L cU8 b_1293))]) (σ' := []) ⟨_, orcs_nil, ?_⟩ ?_
  · simp only [go_sem, reduceIte, Nat.reduceLT, Nat.reduceEqDiff, Nat.reduceAdd, Nat.reduceBEq, Nat.reduceMul, Nat.reduceSub, Nat.reduceGT, Nat.reducePow, Nat.reduceLeDiff, Int.reduceToNat]
  replace h := bind_some1 h; obtain ⟨y_1294, hy_1295, h⟩ := h
  refine run_textE hE [3] (fr' := [(3, u32 y_1294)]) (σ' := []) ⟨_, orcs_ok (l := [(5, 13, [.sl false (L cU8 b_1293)], u32 y_1294)]) ⟨frame_Crc_con hy_1295, trivial⟩, ?_⟩ ?_
  · simp only [go_sem, reduceIte, Nat.reduceLT, Nat.reduceEqDiff, Nat.reduceAdd, Nat.reduceBEq, Nat.reduceMul, Nat.reduceSub, Nat.reduceGT, Nat.reducePow, Nat.reduceLeDiff, Int.reduceToNat]
  replace h := lt1_some h; obtain ⟨l_1296, hz_1297, h⟩ := h
  refine run_textE hE [2] (fr' := [(2, .bs true 0 (l_1296.length) 0 (l_1296.length))]) (σ' := [.buf 1 (L cU8 l_1296) false]) ⟨_, orcs_nil, ?_⟩ ?_
  · subst hz_1297; simp only [go_sem, reduceIte, Nat.reduceLT, Nat.reduceEqDiff, Nat.reduceAdd, Nat.reduceBEq, Nat.reduceMul, Nat.reduceSub, Nat.reduceGT, Nat.reducePow, Nat.reduceLeDiff, Int.reduceToNat]
  refine run_ret ?_
  obtain rfl := Option.some.inj h
  refine ret_ok (.inr rfl) ?_
  simp only [go_sem, reduceIte, Nat.reduceLT, Nat.reduceEqDiff, Nat.reduceAdd, Nat.reduceBEq, Nat.reduceMul, Nat.reduceSub, Nat.reduceGT, Nat.reducePow, Nat.reduceLeDiff, Int.reduceToNat]

end Go.Proofs.Ytneejmndnihaoaa
