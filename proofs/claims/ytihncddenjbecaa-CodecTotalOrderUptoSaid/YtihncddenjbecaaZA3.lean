/-
  CodecTotalOrder. Condition: the arguments are of bulk at most 1048576 (UptoSaid).
-/
import Derived.Test.YtihncddenjbecaaZA2
import Derived.KernelRfl
/-
  The functions compute just that.
-/
namespace Go.Proofs.Ytihncddenjbecaa
open Go.Rv
set_option linter.unusedVariables false
set_option linter.unusedSimpArgs false
set_option maxRecDepth 20000

theorem law01_sane_con  {r : Bool} (h : law01_sane  = some r) : Con B 13 [] [] (fun r' σ' => r' = .bool r ∧ σ' = []) := by
  refine con_walk (N := 133) (rs := [.tmp 0]) ok Try.func13 rfl (by decide +kernel) rfl rfl (Nat.le_of_ble_eq_true rfl) (fun F => ?_)
  have hE := ok.env F
  unfold law01_sane at h
  show Run (B.env F) 0 _ ⟨asFr 133 [], []⟩ _
  refine run_textE hE [] (fr' := []) (σ' := []) ⟨_, orcs_nil, ?_⟩ ?_
  · simp only [go_sem, reduceIte, Nat.reduceLT, Nat.reduceEqDiff, Nat.reduceAdd, Nat.reduceBEq, Nat.reduceMul, Nat.reduceSub, Nat.reduceGT, Nat.reducePow, Nat.reduceLeDiff, Int.reduceToNat]
  replace h := bind_some1 h; obtain ⟨y_3112, hy_3113, h⟩ := h
  refine run_textE hE [1] (fr' := [(1, .ref 0 0)]) (σ' := [.box [i64 y_3112.Kind, i64 y_3112.N, .sl false (L cU8 y_3112.B), .sl false (L cApi_Value y_3112.L)] false]) ⟨_, orcs_ok (l := [(5, 31, [.str (([97] : List UInt8))], .agg [i64 y_3112.Kind, i64 y_3112.N, .sl false (L cU8 y_3112.B), .sl false (L cApi_Value y_3112.L)])]) ⟨r01_Text_con  hy_3113, trivial⟩, ?_⟩ ?_
  · simp only [go_sem, reduceIte, Nat.reduceLT, Nat.reduceEqDiff, Nat.reduceAdd, Nat.reduceBEq, Nat.reduceMul, Nat.reduceSub, Nat.reduceGT, Nat.reducePow, Nat.reduceLeDiff, Int.reduceToNat]
  replace h := bind_some1 h; obtain ⟨y_3114, hy_3115, h⟩ := h
  refine run_textE hE [1, 2] (fr' := [(1, .ref 0 0), (2, .ref 1 0)]) (σ' := [.box [i64 y_3112.Kind, i64 y_3112.N, .sl false (L cU8 y_3112.B), .sl false (L cApi_Value y_3112.L)] false, .box [i64 y_3114.Kind, i64 y_3114.N, .sl false (L cU8 y_3114.B), .sl false (L cApi_Value y_3114.L)] false]) ⟨_, orcs_ok (l := [(6, 31, [.str (([97, 0] : List UInt8))], .agg [i64 y_3114.Kind, i64 y_3114.N, .sl false (L cU8 y_3114.B), .sl false (L cApi_Value y_3114.L)])]) ⟨r01_Text_con  hy_3115, trivial⟩, ?_⟩ ?_
  · simp only [go_sem, reduceIte, Nat.reduceLT, Nat.reduceEqDiff, Nat.reduceAdd, Nat.reduceBEq, Nat.reduceMul, Nat.reduceSub, Nat.reduceGT, Nat.reducePow, Nat.reduceLeDiff, Int.reduceToNat]
  replace h := bind_some1 h; obtain ⟨y_3116, hy_3119, h⟩ := h
  replace h := bind_some1 h; obtain ⟨y_3117, hy_3120, h⟩ := h
  replace h := bind_some1 h; obtain ⟨y_3118, hy_3121, h⟩ := h
  refine run_drawE hE mixed [[], [], [0], [0, 1, 2], [0, 1, 2, 3], [], [0, 1, 2, 3, 4, 5]] (by kernel_rfl) (by kernel_rfl) [1, 2, 3] (fr' := [(1, .ref 0 0), (2, .ref 1 0), (3, .ref 2 0)]) (σ' := [.box [i64 y_3112.Kind, i64 y_3112.N, .sl false (L cU8 y_3112.B), .sl false (L cApi_Value y_3112.L)] false, .box [i64 y_3114.Kind, i64 y_3114.N, .sl false (L cU8 y_3114.B), .sl false (L cApi_Value y_3114.L)] false, .box [i64 y_3118.Kind, i64 y_3118.N, .sl false (L cU8 y_3118.B), .sl false (L cApi_Value y_3118.L)] false]) ⟨_, orcs_ok (l := [(7, 29, [i64 1], .agg [i64 y_3116.Kind, i64 y_3116.N, .sl false (L cU8 y_3116.B), .sl false (L cApi_Value y_3116.L)]), (9, 27, [.sl false (L cApi_Value ([]))], .agg [i64 y_3117.Kind, i64 y_3117.N, .sl false (L cU8 y_3117.B), .sl false (L cApi_Value y_3117.L)]), (11, 27, [.sl false (L cApi_Value (([y_3116, y_3112, y_3117] : List Api_Value)))], .agg [i64 y_3118.Kind, i64 y_3118.N, .sl false (L cU8 y_3118.B), .sl false (L cApi_Value y_3118.L)])]) ⟨r01_Int_con  hy_3119, r01_List_con  hy_3120, r01_List_con  hy_3121, trivial⟩, ?_⟩ ?_
  · simp only [go_sem, reduceIte, Nat.reduceLT, Nat.reduceEqDiff, Nat.reduceAdd, Nat.reduceBEq, Nat.reduceMul, Nat.reduceSub, Nat.reduceGT, Nat.reducePow, Nat.reduceLeDiff, Int.reduceToNat]
  replace h := lt1_some h; obtain ⟨l_3122, hz_3123, h⟩ := h
  refine run_textE hE [1, 2, 3, 4] (fr' := [(1, .ref 0 0), (2, .ref 1 0), (3, .ref 2 0), (4, .ref 4 0)]) (σ' := [.box [i64 y_3112.Kind, i64 y_3112.N, .sl false (L cU8 y_3112.B), .sl false (L cApi_Value y_3112.L)] false, .box [i64 y_3114.Kind, i64 y_3114.N, .sl false (L cU8 y_3114.B), .sl false (L cApi_Value y_3114.L)] false, .box [i64 y_3118.Kind, i64 y_3118.N, .sl false (L cU8 y_3118.B), .sl false (L cApi_Value y_3118.L)] false, .buf 1 (L cU8 l_3122) false, .box [i64 1, i64 0, .bs true 3 (l_3122.length) 0 (l_3122.length), .sl true (L cApi_Value ([]))] false]) ⟨_, orcs_nil, ?_⟩ ?_
  · subst hz_3123; simp only [go_sem, reduceIte, Nat.reduceLT, Nat.reduceEqDiff, Nat.reduceAdd, Nat.reduceBEq, Nat.reduceMul, Nat.reduceSub, Nat.reduceGT, Nat.reducePow, Nat.reduceLeDiff, Int.reduceToNat]
  refine run_seq ?_
  replace h := bind_some1 h; obtain ⟨t_3132, hv_3133, h⟩ := h
  refine run_textW hE [1, 2, 3, 4, 32] (fr' := [(1, .ref 0 0), (2, .ref 1 0), (3, .ref 2 0), (4, .ref 3 0), (32, .bool t_3132)]) (σ' := [.box [i64 y_3112.Kind, i64 y_3112.N, .sl false (L cU8 y_3112.B), .sl false (L cApi_Value y_3112.L)] false, .box [i64 y_3114.Kind, i64 y_3114.N, .sl false (L cU8 y_3114.B), .sl false (L cApi_Value y_3114.L)] false, .box [i64 y_3118.Kind, i64 y_3118.N, .sl false (L cU8 y_3118.B), .sl false (L cApi_Value y_3118.L)] false, .box [i64 1, i64 0, .bs true 4 (l_3122.length) 0 (l_3122.length), .sl true (L cApi_Value ([]))] false, .buf 1 (L cU8 l_3122) false]) ?_ ?_
  · replace hv_3133 := bind_some1 hv_3133; obtain ⟨y_3124, hy_3134, hv_3133⟩ := hv_3133
    replace hv_3133 := bind_some1 hv_3133; obtain ⟨y_3125, hy_3135, hv_3133⟩ := hv_3133
    rcases Bool.eq_false_or_eq_true ((!y_3125)) with hb_3136 | hb_3136
    · replace hv_3133 := ite_t hv_3133 hb_3136
      have e_hv_3133 := Option.some.inj hv_3133; subst e_hv_3133
      exact ⟨_, [(1, .ref 0 0), (2, .ref 1 0), (3, .ref 2 0), (4, .ref 4 0), (32, .bool true)], [.box [i64 y_3112.Kind, i64 y_3112.N, .sl false (L cU8 y_3112.B), .sl false (L cApi_Value y_3112.L)] false, .box [i64 y_3114.Kind, i64 y_3114.N, .sl false (L cU8 y_3114.B), .sl false (L cApi_Value y_3114.L)] false, .box [i64 y_3118.Kind, i64 y_3118.N, .sl false (L cU8 y_3118.B), .sl false (L cApi_Value y_3118.L)] false, .buf 1 (L cU8 l_3122) false, .box [i64 1, i64 0, .bs true 3 (l_3122.length) 0 (l_3122.length), .sl true (L cApi_Value ([]))] false], orcs_ok (l := [(15, 29, [i64 0], .agg [i64 y_3124.Kind, i64 y_3124.N, .sl false (L cU8 y_3124.B), .sl false (L cApi_Value y_3124.L)]), (16, 32, [.agg [i64 y_3124.Kind, i64 y_3124.N, .sl false (L cU8 y_3124.B), .sl false (L cApi_Value y_3124.L)], .str (([32] : List UInt8))], .bool y_3125)]) ⟨r01_Int_con  hy_3134, law01_encodes_con  hy_3135, trivial⟩, by simp only [go_sem, reduceIte, Nat.reduceLT, Nat.reduceEqDiff, Nat.reduceAdd, Nat.reduceBEq, Nat.reduceMul, Nat.reduceSub, Nat.reduceGT, Nat.reducePow, Nat.reduceLeDiff, Int.reduceToNat, hb_3136], (weak_sel [0, 1, 2, 4, 3] (by decide) rfl (by simp only [go_sem, reduceIte, Nat.reduceLT, Nat.reduceEqDiff, Nat.reduceAdd, Nat.reduceBEq, Nat.reduceMul, Nat.reduceSub, Nat.reduceGT, Nat.reducePow, Nat.reduceLeDiff, Int.reduceToNat]) (by simp only [go_sem, reduceIte, Nat.reduceLT, Nat.reduceEqDiff, Nat.reduceAdd, Nat.reduceBEq, Nat.reduceMul, Nat.reduceSub, Nat.reduceGT, Nat.reducePow, Nat.reduceLeDiff, Int.reduceToNat]))⟩
    · replace hv_3133 := ite_f hv_3133 hb_3136
      replace hv_3133 := bind_some1 hv_3133; obtain ⟨y_3126, hy_3137, hv_3133⟩ := hv_3133
      replace hv_3133 := bind_some1 hv_3133; obtain ⟨y_3127, hy_3138, hv_3133⟩ := hv_3133
      rcases Bool.eq_false_or_eq_true ((!y_3127)) with hb_3139 | hb_3139
      · replace hv_3133 := ite_t hv_3133 hb_3139
        have e_hv_3133 := Option.some.inj hv_3133; subst e_hv_3133
        exact ⟨_, [(1, .ref 0 0), (2, .ref 1 0), (3, .ref 2 0), (4, .ref 4 0), (32, .bool true)], [.box [i64 y_3112.Kind, i64 y_3112.N, .sl false (L cU8 y_3112.B), .sl false (L cApi_Value y_3112.L)] false, .box [i64 y_3114.Kind, i64 y_3114.N, .sl false (L cU8 y_3114.B), .sl false (L cApi_Value y_3114.L)] false, .box [i64 y_3118.Kind, i64 y_3118.N, .sl false (L cU8 y_3118.B), .sl false (L cApi_Value y_3118.L)] false, .buf 1 (L cU8 l_3122) false, .box [i64 1, i64 0, .bs true 3 (l_3122.length) 0 (l_3122.length), .sl true (L cApi_Value ([]))] false], orcs_ok (l := [(15, 29, [i64 0], .agg [i64 y_3124.Kind, i64 y_3124.N, .sl false (L cU8 y_3124.B), .sl false (L cApi_Value y_3124.L)]), (16, 32, [.agg [i64 y_3124.Kind, i64 y_3124.N, .sl false (L cU8 y_3124.B), .sl false (L cApi_Value y_3124.L)], .str (([32] : List UInt8))], .bool y_3125), (19, 29, [i64 1], .agg [i64 y_3126.Kind, i64 y_3126.N, .sl false (L cU8 y_3126.B), .sl false (L cApi_Value y_3126.L)]), (20, 32, [.agg [i64 y_3126.Kind, i64 y_3126.N, .sl false (L cU8 y_3126.B), .sl false (L cApi_Value y_3126.L)], .str (([33, 1] : List UInt8))], .bool y_3127)]) ⟨r01_Int_con  hy_3134, law01_encodes_con  hy_3135, r01_Int_con  hy_3137, law01_encodes_con  hy_3138, trivial⟩, by simp only [go_sem, reduceIte, Nat.reduceLT, Nat.reduceEqDiff, Nat.reduceAdd, Nat.reduceBEq, Nat.reduceMul, Nat.reduceSub, Nat.reduceGT, Nat.reducePow, Nat.reduceLeDiff, Int.reduceToNat, hb_3136, hb_3139], (weak_sel [0, 1, 2, 4, 3] (by decide) rfl (by simp only [go_sem, reduceIte, Nat.reduceLT, Nat.reduceEqDiff, Nat.reduceAdd, Nat.reduceBEq, Nat.reduceMul, Nat.reduceSub, Nat.reduceGT, Nat.reducePow, Nat.reduceLeDiff, Int.reduceToNat]) (by simp only [go_sem, reduceIte, Nat.reduceLT, Nat.reduceEqDiff, Nat.reduceAdd, Nat.reduceBEq, Nat.reduceMul, Nat.reduceSub, Nat.reduceGT, Nat.reducePow, Nat.reduceLeDiff, Int.reduceToNat]))⟩
      · replace hv_3133 := ite_f hv_3133 hb_3139
        replace hv_3133 := bind_some1 hv_3133; obtain ⟨y_3128, hy_3140, hv_3133⟩ := hv_3133
        replace hv_3133 := bind_some1 hv_3133; obtain ⟨y_3129, hy_3141, hv_3133⟩ := hv_3133
        rcases Bool.eq_false_or_eq_true ((!y_3129)) with hb_3142 | hb_3142
        · replace hv_3133 := ite_t hv_3133 hb_3142
          have e_hv_3133 := Option.some.inj hv_3133; subst e_hv_3133
          exact ⟨_, [(1, .ref 0 0), (2, .ref 1 0), (3, .ref 2 0), (4, .ref 4 0), (32, .bool true)], [.box [i64 y_3112.Kind, i64 y_3112.N, .sl false (L cU8 y_3112.B), .sl false (L cApi_Value y_3112.L)] false, .box [i64 y_3114.Kind, i64 y_3114.N, .sl false (L cU8 y_3114.B), .sl false (L cApi_Value y_3114.L)] false, .box [i64 y_3118.Kind, i64 y_3118.N, .sl false (L cU8 y_3118.B), .sl false (L cApi_Value y_3118.L)] false, .buf 1 (L cU8 l_3122) false, .box [i64 1, i64 0, .bs true 3 (l_3122.length) 0 (l_3122.length), .sl true (L cApi_Value ([]))] false], orcs_ok (l := [(15, 29, [i64 0], .agg [i64 y_3124.Kind, i64 y_3124.N, .sl false (L cU8 y_3124.B), .sl false (L cApi_Value y_3124.L)]), (16, 32, [.agg [i64 y_3124.Kind, i64 y_3124.N, .sl false (L cU8 y_3124.B), .sl false (L cApi_Value y_3124.L)], .str (([32] : List UInt8))], .bool y_3125), (19, 29, [i64 1], .agg [i64 y_3126.Kind, i64 y_3126.N, .sl false (L cU8 y_3126.B), .sl false (L cApi_Value y_3126.L)]), (20, 32, [.agg [i64 y_3126.Kind, i64 y_3126.N, .sl false (L cU8 y_3126.B), .sl false (L cApi_Value y_3126.L)], .str (([33, 1] : List UInt8))], .bool y_3127), (24, 29, [i64 255], .agg [i64 y_3128.Kind, i64 y_3128.N, .sl false (L cU8 y_3128.B), .sl false (L cApi_Value y_3128.L)]), (25, 32, [.agg [i64 y_3128.Kind, i64 y_3128.N, .sl false (L cU8 y_3128.B), .sl false (L cApi_Value y_3128.L)], .str (([33, 255] : List UInt8))], .bool y_3129)]) ⟨r01_Int_con  hy_3134, law01_encodes_con  hy_3135, r01_Int_con  hy_3137, law01_encodes_con  hy_3138, r01_Int_con  hy_3140, law01_encodes_con  hy_3141, trivial⟩, by simp only [go_sem, reduceIte, Nat.reduceLT, Nat.reduceEqDiff, Nat.reduceAdd, Nat.reduceBEq, Nat.reduceMul, Nat.reduceSub, Nat.reduceGT, Nat.reducePow, Nat.reduceLeDiff, Int.reduceToNat, hb_3136, hb_3139, hb_3142], (weak_sel [0, 1, 2, 4, 3] (by decide) rfl (by simp only [go_sem, reduceIte, Nat.reduceLT, Nat.reduceEqDiff, Nat.reduceAdd, Nat.reduceBEq, Nat.reduceMul, Nat.reduceSub, Nat.reduceGT, Nat.reducePow, Nat.reduceLeDiff, Int.reduceToNat]) (by simp only [go_sem, reduceIte, Nat.reduceLT, Nat.reduceEqDiff, Nat.reduceAdd, Nat.reduceBEq, Nat.reduceMul, Nat.reduceSub, Nat.reduceGT, Nat.reducePow, Nat.reduceLeDiff, Int.reduceToNat]))⟩
        · replace hv_3133 := ite_f hv_3133 hb_3142
          replace hv_3133 := bind_some1 hv_3133; obtain ⟨y_3130, hy_3143, hv_3133⟩ := hv_3133
          replace hv_3133 := bind_some1 hv_3133; obtain ⟨y_3131, hy_3144, hv_3133⟩ := hv_3133
          have e_hv_3133 := Option.some.inj hv_3133; subst e_hv_3133
          exact ⟨_, [(1, .ref 0 0), (2, .ref 1 0), (3, .ref 2 0), (4, .ref 4 0), (32, .bool ((!y_3131)))], [.box [i64 y_3112.Kind, i64 y_3112.N, .sl false (L cU8 y_3112.B), .sl false (L cApi_Value y_3112.L)] false, .box [i64 y_3114.Kind, i64 y_3114.N, .sl false (L cU8 y_3114.B), .sl false (L cApi_Value y_3114.L)] false, .box [i64 y_3118.Kind, i64 y_3118.N, .sl false (L cU8 y_3118.B), .sl false (L cApi_Value y_3118.L)] false, .buf 1 (L cU8 l_3122) false, .box [i64 1, i64 0, .bs true 3 (l_3122.length) 0 (l_3122.length), .sl true (L cApi_Value ([]))] false], orcs_ok (l := [(15, 29, [i64 0], .agg [i64 y_3124.Kind, i64 y_3124.N, .sl false (L cU8 y_3124.B), .sl false (L cApi_Value y_3124.L)]), (16, 32, [.agg [i64 y_3124.Kind, i64 y_3124.N, .sl false (L cU8 y_3124.B), .sl false (L cApi_Value y_3124.L)], .str (([32] : List UInt8))], .bool y_3125), (19, 29, [i64 1], .agg [i64 y_3126.Kind, i64 y_3126.N, .sl false (L cU8 y_3126.B), .sl false (L cApi_Value y_3126.L)]), (20, 32, [.agg [i64 y_3126.Kind, i64 y_3126.N, .sl false (L cU8 y_3126.B), .sl false (L cApi_Value y_3126.L)], .str (([33, 1] : List UInt8))], .bool y_3127), (24, 29, [i64 255], .agg [i64 y_3128.Kind, i64 y_3128.N, .sl false (L cU8 y_3128.B), .sl false (L cApi_Value y_3128.L)]), (25, 32, [.agg [i64 y_3128.Kind, i64 y_3128.N, .sl false (L cU8 y_3128.B), .sl false (L cApi_Value y_3128.L)], .str (([33, 255] : List UInt8))], .bool y_3129), (29, 29, [i64 256], .agg [i64 y_3130.Kind, i64 y_3130.N, .sl false (L cU8 y_3130.B), .sl false (L cApi_Value y_3130.L)]), (30, 32, [.agg [i64 y_3130.Kind, i64 y_3130.N, .sl false (L cU8 y_3130.B), .sl false (L cApi_Value y_3130.L)], .str (([34, 1, 0] : List UInt8))], .bool y_3131)]) ⟨r01_Int_con  hy_3134, law01_encodes_con  hy_3135, r01_Int_con  hy_3137, law01_encodes_con  hy_3138, r01_Int_con  hy_3140, law01_encodes_con  hy_3141, r01_Int_con  hy_3143, law01_encodes_con  hy_3144, trivial⟩, by simp only [go_sem, reduceIte, Nat.reduceLT, Nat.reduceEqDiff, Nat.reduceAdd, Nat.reduceBEq, Nat.reduceMul, Nat.reduceSub, Nat.reduceGT, Nat.reducePow, Nat.reduceLeDiff, Int.reduceToNat, hb_3136, hb_3139, hb_3142], (weak_sel [0, 1, 2, 4, 3] (by decide) rfl (by simp only [go_sem, reduceIte, Nat.reduceLT, Nat.reduceEqDiff, Nat.reduceAdd, Nat.reduceBEq, Nat.reduceMul, Nat.reduceSub, Nat.reduceGT, Nat.reducePow, Nat.reduceLeDiff, Int.reduceToNat]) (by simp only [go_sem, reduceIte, Nat.reduceLT, Nat.reduceEqDiff, Nat.reduceAdd, Nat.reduceBEq, Nat.reduceMul, Nat.reduceSub, Nat.reduceGT, Nat.reducePow, Nat.reduceLeDiff, Int.reduceToNat]))⟩
  refine run_condL (b := t_3132) rfl (by decide) (fun hb => ?_) (fun hb => ?_)
  · replace h := ite_t h hb
    refine run_textE hE [0] (fr' := [(0, .bool false)]) (σ' := [.box [i64 y_3112.Kind, i64 y_3112.N, .sl false (L cU8 y_3112.B), .sl false (L cApi_Value y_3112.L)] false, .box [i64 y_3114.Kind, i64 y_3114.N, .sl false (L cU8 y_3114.B), .sl false (L cApi_Value y_3114.L)] false, .box [i64 y_3118.Kind, i64 y_3118.N, .sl false (L cU8 y_3118.B), .sl false (L cApi_Value y_3118.L)] false, .box [i64 1, i64 0, .bs true 4 (l_3122.length) 0 (l_3122.length), .sl true (L cApi_Value ([]))] false, .buf 1 (L cU8 l_3122) false]) ⟨_, orcs_nil, ?_⟩ ?_
    · simp only [go_sem, reduceIte, Nat.reduceLT, Nat.reduceEqDiff, Nat.reduceAdd, Nat.reduceBEq, Nat.reduceMul, Nat.reduceSub, Nat.reduceGT, Nat.reducePow, Nat.reduceLeDiff, Int.reduceToNat]
    refine run_ret ?_
    refine thenK_r ?_
    obtain rfl := Option.some.inj h
    refine ret_ok (.inr rfl) ?_
    simp only [go_sem, reduceIte, Nat.reduceLT, Nat.reduceEqDiff, Nat.reduceAdd, Nat.reduceBEq, Nat.reduceMul, Nat.reduceSub, Nat.reduceGT, Nat.reducePow, Nat.reduceLeDiff, Int.reduceToNat]
  · replace h := ite_f h hb
    refine run_skip ?_
    refine thenK_n ?_
    refine run_seq ?_
    replace h := bind_some1 h; obtain ⟨t_3153, hv_3154, h⟩ := h
    refine run_textW hE [1, 2, 3, 4, 50] (fr' := [(1, .ref 0 0), (2, .ref 1 0), (3, .ref 2 0), (4, .ref 3 0), (50, .bool t_3153)]) (σ' := [.box [i64 y_3112.Kind, i64 y_3112.N, .sl false (L cU8 y_3112.B), .sl false (L cApi_Value y_3112.L)] false, .box [i64 y_3114.Kind, i64 y_3114.N, .sl false (L cU8 y_3114.B), .sl false (L cApi_Value y_3114.L)] false, .box [i64 y_3118.Kind, i64 y_3118.N, .sl false (L cU8 y_3118.B), .sl false (L cApi_Value y_3118.L)] false, .box [i64 1, i64 0, .bs true 4 (l_3122.length) 0 (l_3122.length), .sl true (L cApi_Value ([]))] false, .buf 1 (L cU8 l_3122) false]) ?_ ?_
    · replace hv_3154 := bind_some1 hv_3154; obtain ⟨y_3145, hy_3155, hv_3154⟩ := hv_3154
      replace hv_3154 := bind_some1 hv_3154; obtain ⟨y_3146, hy_3156, hv_3154⟩ := hv_3154
      rcases Bool.eq_false_or_eq_true ((!y_3146)) with hb_3157 | hb_3157
      · replace hv_3154 := ite_t hv_3154 hb_3157
        have e_hv_3154 := Option.some.inj hv_3154; subst e_hv_3154
        exact ⟨_, [(1, .ref 0 0), (2, .ref 1 0), (3, .ref 2 0), (4, .ref 3 0), (50, .bool true)], [.box [i64 y_3112.Kind, i64 y_3112.N, .sl false (L cU8 y_3112.B), .sl false (L cApi_Value y_3112.L)] false, .box [i64 y_3114.Kind, i64 y_3114.N, .sl false (L cU8 y_3114.B), .sl false (L cApi_Value y_3114.L)] false, .box [i64 y_3118.Kind, i64 y_3118.N, .sl false (L cU8 y_3118.B), .sl false (L cApi_Value y_3118.L)] false, .box [i64 1, i64 0, .bs true 4 (l_3122.length) 0 (l_3122.length), .sl true (L cApi_Value ([]))] false, .buf 1 (L cU8 l_3122) false], orcs_ok (l := [(33, 29, [i64 ((-1))], .agg [i64 y_3145.Kind, i64 y_3145.N, .sl false (L cU8 y_3145.B), .sl false (L cApi_Value y_3145.L)]), (34, 32, [.agg [i64 y_3145.Kind, i64 y_3145.N, .sl false (L cU8 y_3145.B), .sl false (L cApi_Value y_3145.L)], .str (([31] : List UInt8))], .bool y_3146)]) ⟨r01_Int_con  hy_3155, law01_encodes_con  hy_3156, trivial⟩, by simp only [go_sem, reduceIte, Nat.reduceLT, Nat.reduceEqDiff, Nat.reduceAdd, Nat.reduceBEq, Nat.reduceMul, Nat.reduceSub, Nat.reduceGT, Nat.reducePow, Nat.reduceLeDiff, Int.reduceToNat, hb_3157], (weak_sel [0, 1, 2, 3, 4] (by decide) rfl (by simp only [go_sem, reduceIte, Nat.reduceLT, Nat.reduceEqDiff, Nat.reduceAdd, Nat.reduceBEq, Nat.reduceMul, Nat.reduceSub, Nat.reduceGT, Nat.reducePow, Nat.reduceLeDiff, Int.reduceToNat]) (by simp only [go_sem, reduceIte, Nat.reduceLT, Nat.reduceEqDiff, Nat.reduceAdd, Nat.reduceBEq, Nat.reduceMul, Nat.reduceSub, Nat.reduceGT, Nat.reducePow, Nat.reduceLeDiff, Int.reduceToNat]))⟩
      · replace hv_3154 := ite_f hv_3154 hb_3157
        replace hv_3154 := bind_some1 hv_3154; obtain ⟨y_3147, hy_3158, hv_3154⟩ := hv_3154
        replace hv_3154 := bind_some1 hv_3154; obtain ⟨y_3148, hy_3159, hv_3154⟩ := hv_3154
        rcases Bool.eq_false_or_eq_true ((!y_3148)) with hb_3160 | hb_3160
        · replace hv_3154 := ite_t hv_3154 hb_3160
          have e_hv_3154 := Option.some.inj hv_3154; subst e_hv_3154
          exact ⟨_, [(1, .ref 0 0), (2, .ref 1 0), (3, .ref 2 0), (4, .ref 3 0), (50, .bool true)], [.box [i64 y_3112.Kind, i64 y_3112.N, .sl false (L cU8 y_3112.B), .sl false (L cApi_Value y_3112.L)] false, .box [i64 y_3114.Kind, i64 y_3114.N, .sl false (L cU8 y_3114.B), .sl false (L cApi_Value y_3114.L)] false, .box [i64 y_3118.Kind, i64 y_3118.N, .sl false (L cU8 y_3118.B), .sl false (L cApi_Value y_3118.L)] false, .box [i64 1, i64 0, .bs true 4 (l_3122.length) 0 (l_3122.length), .sl true (L cApi_Value ([]))] false, .buf 1 (L cU8 l_3122) false], orcs_ok (l := [(33, 29, [i64 ((-1))], .agg [i64 y_3145.Kind, i64 y_3145.N, .sl false (L cU8 y_3145.B), .sl false (L cApi_Value y_3145.L)]), (34, 32, [.agg [i64 y_3145.Kind, i64 y_3145.N, .sl false (L cU8 y_3145.B), .sl false (L cApi_Value y_3145.L)], .str (([31] : List UInt8))], .bool y_3146), (37, 29, [i64 ((-2))], .agg [i64 y_3147.Kind, i64 y_3147.N, .sl false (L cU8 y_3147.B), .sl false (L cApi_Value y_3147.L)]), (38, 32, [.agg [i64 y_3147.Kind, i64 y_3147.N, .sl false (L cU8 y_3147.B), .sl false (L cApi_Value y_3147.L)], .str (([30, 254] : List UInt8))], .bool y_3148)]) ⟨r01_Int_con  hy_3155, law01_encodes_con  hy_3156, r01_Int_con  hy_3158, law01_encodes_con  hy_3159, trivial⟩, by simp only [go_sem, reduceIte, Nat.reduceLT, Nat.reduceEqDiff, Nat.reduceAdd, Nat.reduceBEq, Nat.reduceMul, Nat.reduceSub, Nat.reduceGT, Nat.reducePow, Nat.reduceLeDiff, Int.reduceToNat, hb_3157, hb_3160], (weak_sel [0, 1, 2, 3, 4] (by decide) rfl (by simp only [go_sem, reduceIte, Nat.reduceLT, Nat.reduceEqDiff, Nat.reduceAdd, Nat.reduceBEq, Nat.reduceMul, Nat.reduceSub, Nat.reduceGT, Nat.reducePow, Nat.reduceLeDiff, Int.reduceToNat]) (by simp only [go_sem, reduceIte, Nat.reduceLT, Nat.reduceEqDiff, Nat.reduceAdd, Nat.reduceBEq, Nat.reduceMul, Nat.reduceSub, Nat.reduceGT, Nat.reducePow, Nat.reduceLeDiff, Int.reduceToNat]))⟩
        · replace hv_3154 := ite_f hv_3154 hb_3160
          replace hv_3154 := bind_some1 hv_3154; obtain ⟨y_3149, hy_3161, hv_3154⟩ := hv_3154
          replace hv_3154 := bind_some1 hv_3154; obtain ⟨y_3150, hy_3162, hv_3154⟩ := hv_3154
          rcases Bool.eq_false_or_eq_true ((!y_3150)) with hb_3163 | hb_3163
          · replace hv_3154 := ite_t hv_3154 hb_3163
            have e_hv_3154 := Option.some.inj hv_3154; subst e_hv_3154
            exact ⟨_, [(1, .ref 0 0), (2, .ref 1 0), (3, .ref 2 0), (4, .ref 3 0), (50, .bool true)], [.box [i64 y_3112.Kind, i64 y_3112.N, .sl false (L cU8 y_3112.B), .sl false (L cApi_Value y_3112.L)] false, .box [i64 y_3114.Kind, i64 y_3114.N, .sl false (L cU8 y_3114.B), .sl false (L cApi_Value y_3114.L)] false, .box [i64 y_3118.Kind, i64 y_3118.N, .sl false (L cU8 y_3118.B), .sl false (L cApi_Value y_3118.L)] false, .box [i64 1, i64 0, .bs true 4 (l_3122.length) 0 (l_3122.length), .sl true (L cApi_Value ([]))] false, .buf 1 (L cU8 l_3122) false], orcs_ok (l := [(33, 29, [i64 ((-1))], .agg [i64 y_3145.Kind, i64 y_3145.N, .sl false (L cU8 y_3145.B), .sl false (L cApi_Value y_3145.L)]), (34, 32, [.agg [i64 y_3145.Kind, i64 y_3145.N, .sl false (L cU8 y_3145.B), .sl false (L cApi_Value y_3145.L)], .str (([31] : List UInt8))], .bool y_3146), (37, 29, [i64 ((-2))], .agg [i64 y_3147.Kind, i64 y_3147.N, .sl false (L cU8 y_3147.B), .sl false (L cApi_Value y_3147.L)]), (38, 32, [.agg [i64 y_3147.Kind, i64 y_3147.N, .sl false (L cU8 y_3147.B), .sl false (L cApi_Value y_3147.L)], .str (([30, 254] : List UInt8))], .bool y_3148), (42, 29, [i64 ((-256))], .agg [i64 y_3149.Kind, i64 y_3149.N, .sl false (L cU8 y_3149.B), .sl false (L cApi_Value y_3149.L)]), (43, 32, [.agg [i64 y_3149.Kind, i64 y_3149.N, .sl false (L cU8 y_3149.B), .sl false (L cApi_Value y_3149.L)], .str (([30, 0] : List UInt8))], .bool y_3150)]) ⟨r01_Int_con  hy_3155, law01_encodes_con  hy_3156, r01_Int_con  hy_3158, law01_encodes_con  hy_3159, r01_Int_con  hy_3161, law01_encodes_con  hy_3162, trivial⟩, by simp only [go_sem, reduceIte, Nat.reduceLT, Nat.reduceEqDiff, Nat.reduceAdd, Nat.reduceBEq, Nat.reduceMul, Nat.reduceSub, Nat.reduceGT, Nat.reducePow, Nat.reduceLeDiff, Int.reduceToNat, hb_3157, hb_3160, hb_3163], (weak_sel [0, 1, 2, 3, 4] (by decide) rfl (by simp only [go_sem, reduceIte, Nat.reduceLT, Nat.reduceEqDiff, Nat.reduceAdd, Nat.reduceBEq, Nat.reduceMul, Nat.reduceSub, Nat.reduceGT, Nat.reducePow, Nat.reduceLeDiff, Int.reduceToNat]) (by simp only [go_sem, reduceIte, Nat.reduceLT, Nat.reduceEqDiff, Nat.reduceAdd, Nat.reduceBEq, Nat.reduceMul, Nat.reduceSub, Nat.reduceGT, Nat.reducePow, Nat.reduceLeDiff, Int.reduceToNat]))⟩
          · replace hv_3154 := ite_f hv_3154 hb_3163
            replace hv_3154 := bind_some1 hv_3154; obtain ⟨y_3151, hy_3164, hv_3154⟩ := hv_3154
            replace hv_3154 := bind_some1 hv_3154; obtain ⟨y_3152, hy_3165, hv_3154⟩ := hv_3154
            have e_hv_3154 := Option.some.inj hv_3154; subst e_hv_3154
            exact ⟨_, [(1, .ref 0 0), (2, .ref 1 0), (3, .ref 2 0), (4, .ref 3 0), (50, .bool ((!y_3152)))], [.box [i64 y_3112.Kind, i64 y_3112.N, .sl false (L cU8 y_3112.B), .sl false (L cApi_Value y_3112.L)] false, .box [i64 y_3114.Kind, i64 y_3114.N, .sl false (L cU8 y_3114.B), .sl false (L cApi_Value y_3114.L)] false, .box [i64 y_3118.Kind, i64 y_3118.N, .sl false (L cU8 y_3118.B), .sl false (L cApi_Value y_3118.L)] false, .box [i64 1, i64 0, .bs true 4 (l_3122.length) 0 (l_3122.length), .sl true (L cApi_Value ([]))] false, .buf 1 (L cU8 l_3122) false], orcs_ok (l := [(33, 29, [i64 ((-1))], .agg [i64 y_3145.Kind, i64 y_3145.N, .sl false (L cU8 y_3145.B), .sl false (L cApi_Value y_3145.L)]), (34, 32, [.agg [i64 y_3145.Kind, i64 y_3145.N, .sl false (L cU8 y_3145.B), .sl false (L cApi_Value y_3145.L)], .str (([31] : List UInt8))], .bool y_3146), (37, 29, [i64 ((-2))], .agg [i64 y_3147.Kind, i64 y_3147.N, .sl false (L cU8 y_3147.B), .sl false (L cApi_Value y_3147.L)]), (38, 32, [.agg [i64 y_3147.Kind, i64 y_3147.N, .sl false (L cU8 y_3147.B), .sl false (L cApi_Value y_3147.L)], .str (([30, 254] : List UInt8))], .bool y_3148), (42, 29, [i64 ((-256))], .agg [i64 y_3149.Kind, i64 y_3149.N, .sl false (L cU8 y_3149.B), .sl false (L cApi_Value y_3149.L)]), (43, 32, [.agg [i64 y_3149.Kind, i64 y_3149.N, .sl false (L cU8 y_3149.B), .sl false (L cApi_Value y_3149.L)], .str (([30, 0] : List UInt8))], .bool y_3150), (47, 29, [i64 ((-257))], .agg [i64 y_3151.Kind, i64 y_3151.N, .sl false (L cU8 y_3151.B), .sl false (L cApi_Value y_3151.L)]), (48, 32, [.agg [i64 y_3151.Kind, i64 y_3151.N, .sl false (L cU8 y_3151.B), .sl false (L cApi_Value y_3151.L)], .str (([29, 254, 255] : List UInt8))], .bool y_3152)]) ⟨r01_Int_con  hy_3155, law01_encodes_con  hy_3156, r01_Int_con  hy_3158, law01_encodes_con  hy_3159, r01_Int_con  hy_3161, law01_encodes_con  hy_3162, r01_Int_con  hy_3164, law01_encodes_con  hy_3165, trivial⟩, by simp only [go_sem, reduceIte, Nat.reduceLT, Nat.reduceEqDiff, Nat.reduceAdd, Nat.reduceBEq, Nat.reduceMul, Nat.reduceSub, Nat.reduceGT, Nat.reducePow, Nat.reduceLeDiff, Int.reduceToNat, hb_3157, hb_3160, hb_3163], (weak_sel [0, 1, 2, 3, 4] (by decide) rfl (by simp only [go_sem, reduceIte, Nat.reduceLT, Nat.reduceEqDiff, Nat.reduceAdd, Nat.reduceBEq, Nat.reduceMul, Nat.reduceSub, Nat.reduceGT, Nat.reducePow, Nat.reduceLeDiff, Int.reduceToNat]) (by simp only [go_sem, reduceIte, Nat.reduceLT, Nat.reduceEqDiff, Nat.reduceAdd, Nat.reduceBEq, Nat.reduceMul, Nat.reduceSub, Nat.reduceGT, Nat.reducePow, Nat.reduceLeDiff, Int.reduceToNat]))⟩
    refine run_condL (b := t_3153) rfl (by decide) (fun hb => ?_) (fun hb => ?_)
    · replace h := ite_t h hb
      refine run_textE hE [0] (fr' := [(0, .bool false)]) (σ' := [.box [i64 y_3112.Kind, i64 y_3112.N, .sl false (L cU8 y_3112.B), .sl false (L cApi_Value y_3112.L)] false, .box [i64 y_3114.Kind, i64 y_3114.N, .sl false (L cU8 y_3114.B), .sl false (L cApi_Value y_3114.L)] false, .box [i64 y_3118.Kind, i64 y_3118.N, .sl false (L cU8 y_3118.B), .sl false (L cApi_Value y_3118.L)] false, .box [i64 1, i64 0, .bs true 4 (l_3122.length) 0 (l_3122.length), .sl true (L cApi_Value ([]))] false, .buf 1 (L cU8 l_3122) false]) ⟨_, orcs_nil, ?_⟩ ?_
      · simp only [go_sem, reduceIte, Nat.reduceLT, Nat.reduceEqDiff, Nat.reduceAdd, Nat.reduceBEq, Nat.reduceMul, Nat.reduceSub, Nat.reduceGT, Nat.reducePow, Nat.reduceLeDiff, Int.reduceToNat]
      refine run_ret ?_
      refine thenK_r ?_
      obtain rfl := Option.some.inj h
      refine ret_ok (.inr rfl) ?_
      simp only [go_sem, reduceIte, Nat.reduceLT, Nat.reduceEqDiff, Nat.reduceAdd, Nat.reduceBEq, Nat.reduceMul, Nat.reduceSub, Nat.reduceGT, Nat.reducePow, Nat.reduceLeDiff, Int.reduceToNat]
    · replace h := ite_f h hb
      refine run_skip ?_
      refine thenK_n ?_
      refine run_seq ?_
      replace h := bind_some1 h; obtain ⟨t_3172, hv_3173, h⟩ := h
      refine run_textW hE [1, 2, 3, 4, 68] (fr' := [(1, .ref 0 0), (2, .ref 1 0), (3, .ref 2 0), (4, .ref 3 0), (68, .bool t_3172)]) (σ' := [.box [i64 y_3112.Kind, i64 y_3112.N, .sl false (L cU8 y_3112.B), .sl false (L cApi_Value y_3112.L)] false, .box [i64 y_3114.Kind, i64 y_3114.N, .sl false (L cU8 y_3114.B), .sl false (L cApi_Value y_3114.L)] false, .box [i64 y_3118.Kind, i64 y_3118.N, .sl false (L cU8 y_3118.B), .sl false (L cApi_Value y_3118.L)] false, .box [i64 1, i64 0, .bs true 4 (l_3122.length) 0 (l_3122.length), .sl true (L cApi_Value ([]))] false, .buf 1 (L cU8 l_3122) false]) ?_ ?_
      · replace hv_3173 := bind_some1 hv_3173; obtain ⟨y_3166, hy_3174, hv_3173⟩ := hv_3173
        replace hv_3173 := bind_some1 hv_3173; obtain ⟨y_3167, hy_3175, hv_3173⟩ := hv_3173
        rcases Bool.eq_false_or_eq_true ((!y_3167)) with hb_3176 | hb_3176
        · replace hv_3173 := ite_t hv_3173 hb_3176
          have e_hv_3173 := Option.some.inj hv_3173; subst e_hv_3173
          exact ⟨_, [(1, .ref 0 0), (2, .ref 1 0), (3, .ref 2 0), (4, .ref 3 0), (68, .bool true)], [.box [i64 y_3112.Kind, i64 y_3112.N, .sl false (L cU8 y_3112.B), .sl false (L cApi_Value y_3112.L)] false, .box [i64 y_3114.Kind, i64 y_3114.N, .sl false (L cU8 y_3114.B), .sl false (L cApi_Value y_3114.L)] false, .box [i64 y_3118.Kind, i64 y_3118.N, .sl false (L cU8 y_3118.B), .sl false (L cApi_Value y_3118.L)] false, .box [i64 1, i64 0, .bs true 4 (l_3122.length) 0 (l_3122.length), .sl true (L cApi_Value ([]))] false, .buf 1 (L cU8 l_3122) false], orcs_ok (l := [(51, 31, [.str (([] : List UInt8))], .agg [i64 y_3166.Kind, i64 y_3166.N, .sl false (L cU8 y_3166.B), .sl false (L cApi_Value y_3166.L)]), (52, 32, [.agg [i64 y_3166.Kind, i64 y_3166.N, .sl false (L cU8 y_3166.B), .sl false (L cApi_Value y_3166.L)], .str (([48, 0, 0] : List UInt8))], .bool y_3167)]) ⟨r01_Text_con  hy_3174, law01_encodes_con  hy_3175, trivial⟩, by simp only [go_sem, reduceIte, Nat.reduceLT, Nat.reduceEqDiff, Nat.reduceAdd, Nat.reduceBEq, Nat.reduceMul, Nat.reduceSub, Nat.reduceGT, Nat.reducePow, Nat.reduceLeDiff, Int.reduceToNat, hb_3176], (weak_sel [0, 1, 2, 3, 4] (by decide) rfl (by simp only [go_sem, reduceIte, Nat.reduceLT, Nat.reduceEqDiff, Nat.reduceAdd, Nat.reduceBEq, Nat.reduceMul, Nat.reduceSub, Nat.reduceGT, Nat.reducePow, Nat.reduceLeDiff, Int.reduceToNat]) (by simp only [go_sem, reduceIte, Nat.reduceLT, Nat.reduceEqDiff, Nat.reduceAdd, Nat.reduceBEq, Nat.reduceMul, Nat.reduceSub, Nat.reduceGT, Nat.reducePow, Nat.reduceLeDiff, Int.reduceToNat]))⟩
        · replace hv_3173 := ite_f hv_3173 hb_3176
          replace hv_3173 := bind_some1 hv_3173; obtain ⟨y_3168, hy_3177, hv_3173⟩ := hv_3173
          rcases Bool.eq_false_or_eq_true ((!y_3168)) with hb_3178 | hb_3178
          · replace hv_3173 := ite_t hv_3173 hb_3178
            have e_hv_3173 := Option.some.inj hv_3173; subst e_hv_3173
            exact ⟨_, [(1, .ref 0 0), (2, .ref 1 0), (3, .ref 2 0), (4, .ref 3 0), (68, .bool true)], [.box [i64 y_3112.Kind, i64 y_3112.N, .sl false (L cU8 y_3112.B), .sl false (L cApi_Value y_3112.L)] false, .box [i64 y_3114.Kind, i64 y_3114.N, .sl false (L cU8 y_3114.B), .sl false (L cApi_Value y_3114.L)] false, .box [i64 y_3118.Kind, i64 y_3118.N, .sl false (L cU8 y_3118.B), .sl false (L cApi_Value y_3118.L)] false, .box [i64 1, i64 0, .bs true 4 (l_3122.length) 0 (l_3122.length), .sl true (L cApi_Value ([]))] false, .buf 1 (L cU8 l_3122) false], orcs_ok (l := [(51, 31, [.str (([] : List UInt8))], .agg [i64 y_3166.Kind, i64 y_3166.N, .sl false (L cU8 y_3166.B), .sl false (L cApi_Value y_3166.L)]), (52, 32, [.agg [i64 y_3166.Kind, i64 y_3166.N, .sl false (L cU8 y_3166.B), .sl false (L cApi_Value y_3166.L)], .str (([48, 0, 0] : List UInt8))], .bool y_3167), (56, 32, [.agg [i64 y_3114.Kind, i64 y_3114.N, .sl false (L cU8 y_3114.B), .sl false (L cApi_Value y_3114.L)], .str (([48, 97, 0, 255, 0, 0] : List UInt8))], .bool y_3168)]) ⟨r01_Text_con  hy_3174, law01_encodes_con  hy_3175, law01_encodes_con  hy_3177, trivial⟩, by simp only [go_sem, reduceIte, Nat.reduceLT, Nat.reduceEqDiff, Nat.reduceAdd, Nat.reduceBEq, Nat.reduceMul, Nat.reduceSub, Nat.reduceGT, Nat.reducePow, Nat.reduceLeDiff, Int.reduceToNat, hb_3176, hb_3178], (weak_sel [0, 1, 2, 3, 4] (by decide) rfl (by simp only [go_sem, reduceIte, Nat.reduceLT, Nat.reduceEqDiff, Nat.reduceAdd, Nat.reduceBEq, Nat.reduceMul, Nat.reduceSub, Nat.reduceGT, Nat.reducePow, Nat.reduceLeDiff, Int.reduceToNat]) (by simp only [go_sem, reduceIte, Nat.reduceLT, Nat.reduceEqDiff, Nat.reduceAdd, Nat.reduceBEq, Nat.reduceMul, Nat.reduceSub, Nat.reduceGT, Nat.reducePow, Nat.reduceLeDiff, Int.reduceToNat]))⟩
          · replace hv_3173 := ite_f hv_3173 hb_3178
            replace hv_3173 := bind_some1 hv_3173; obtain ⟨y_3169, hy_3179, hv_3173⟩ := hv_3173
            replace hv_3173 := bind_some1 hv_3173; obtain ⟨y_3170, hy_3180, hv_3173⟩ := hv_3173
            rcases Bool.eq_false_or_eq_true ((!y_3170)) with hb_3181 | hb_3181
            · replace hv_3173 := ite_t hv_3173 hb_3181
              have e_hv_3173 := Option.some.inj hv_3173; subst e_hv_3173
              exact ⟨_, [(1, .ref 0 0), (2, .ref 1 0), (3, .ref 2 0), (4, .ref 3 0), (68, .bool true)], [.box [i64 y_3112.Kind, i64 y_3112.N, .sl false (L cU8 y_3112.B), .sl false (L cApi_Value y_3112.L)] false, .box [i64 y_3114.Kind, i64 y_3114.N, .sl false (L cU8 y_3114.B), .sl false (L cApi_Value y_3114.L)] false, .box [i64 y_3118.Kind, i64 y_3118.N, .sl false (L cU8 y_3118.B), .sl false (L cApi_Value y_3118.L)] false, .box [i64 1, i64 0, .bs true 4 (l_3122.length) 0 (l_3122.length), .sl true (L cApi_Value ([]))] false, .buf 1 (L cU8 l_3122) false], orcs_ok (l := [(51, 31, [.str (([] : List UInt8))], .agg [i64 y_3166.Kind, i64 y_3166.N, .sl false (L cU8 y_3166.B), .sl false (L cApi_Value y_3166.L)]), (52, 32, [.agg [i64 y_3166.Kind, i64 y_3166.N, .sl false (L cU8 y_3166.B), .sl false (L cApi_Value y_3166.L)], .str (([48, 0, 0] : List UInt8))], .bool y_3167), (56, 32, [.agg [i64 y_3114.Kind, i64 y_3114.N, .sl false (L cU8 y_3114.B), .sl false (L cApi_Value y_3114.L)], .str (([48, 97, 0, 255, 0, 0] : List UInt8))], .bool y_3168), (60, 27, [.sl false (L cApi_Value ([]))], .agg [i64 y_3169.Kind, i64 y_3169.N, .sl false (L cU8 y_3169.B), .sl false (L cApi_Value y_3169.L)]), (61, 32, [.agg [i64 y_3169.Kind, i64 y_3169.N, .sl false (L cU8 y_3169.B), .sl false (L cApi_Value y_3169.L)], .str (([64, 0] : List UInt8))], .bool y_3170)]) ⟨r01_Text_con  hy_3174, law01_encodes_con  hy_3175, law01_encodes_con  hy_3177, r01_List_con  hy_3179, law01_encodes_con  hy_3180, trivial⟩, by simp only [go_sem, reduceIte, Nat.reduceLT, Nat.reduceEqDiff, Nat.reduceAdd, Nat.reduceBEq, Nat.reduceMul, Nat.reduceSub, Nat.reduceGT, Nat.reducePow, Nat.reduceLeDiff, Int.reduceToNat, hb_3176, hb_3178, hb_3181], (weak_sel [0, 1, 2, 3, 4] (by decide) rfl (by simp only [go_sem, reduceIte, Nat.reduceLT, Nat.reduceEqDiff, Nat.reduceAdd, Nat.reduceBEq, Nat.reduceMul, Nat.reduceSub, Nat.reduceGT, Nat.reducePow, Nat.reduceLeDiff, Int.reduceToNat]) (by simp only [go_sem, reduceIte, Nat.reduceLT, Nat.reduceEqDiff, Nat.reduceAdd, Nat.reduceBEq, Nat.reduceMul, Nat.reduceSub, Nat.reduceGT, Nat.reducePow, Nat.reduceLeDiff, Int.reduceToNat]))⟩
            · replace hv_3173 := ite_f hv_3173 hb_3181
              replace hv_3173 := bind_some1 hv_3173; obtain ⟨y_3171, hy_3182, hv_3173⟩ := hv_3173
              have e_hv_3173 := Option.some.inj hv_3173; subst e_hv_3173
              exact ⟨_, [(1, .ref 0 0), (2, .ref 1 0), (3, .ref 2 0), (4, .ref 3 0), (68, .bool ((!y_3171)))], [.box [i64 y_3112.Kind, i64 y_3112.N, .sl false (L cU8 y_3112.B), .sl false (L cApi_Value y_3112.L)] false, .box [i64 y_3114.Kind, i64 y_3114.N, .sl false (L cU8 y_3114.B), .sl false (L cApi_Value y_3114.L)] false, .box [i64 y_3118.Kind, i64 y_3118.N, .sl false (L cU8 y_3118.B), .sl false (L cApi_Value y_3118.L)] false, .box [i64 1, i64 0, .bs true 4 (l_3122.length) 0 (l_3122.length), .sl true (L cApi_Value ([]))] false, .buf 1 (L cU8 l_3122) false], orcs_ok (l := [(51, 31, [.str (([] : List UInt8))], .agg [i64 y_3166.Kind, i64 y_3166.N, .sl false (L cU8 y_3166.B), .sl false (L cApi_Value y_3166.L)]), (52, 32, [.agg [i64 y_3166.Kind, i64 y_3166.N, .sl false (L cU8 y_3166.B), .sl false (L cApi_Value y_3166.L)], .str (([48, 0, 0] : List UInt8))], .bool y_3167), (56, 32, [.agg [i64 y_3114.Kind, i64 y_3114.N, .sl false (L cU8 y_3114.B), .sl false (L cApi_Value y_3114.L)], .str (([48, 97, 0, 255, 0, 0] : List UInt8))], .bool y_3168), (60, 27, [.sl false (L cApi_Value ([]))], .agg [i64 y_3169.Kind, i64 y_3169.N, .sl false (L cU8 y_3169.B), .sl false (L cApi_Value y_3169.L)]), (61, 32, [.agg [i64 y_3169.Kind, i64 y_3169.N, .sl false (L cU8 y_3169.B), .sl false (L cApi_Value y_3169.L)], .str (([64, 0] : List UInt8))], .bool y_3170), (66, 32, [.agg [i64 y_3118.Kind, i64 y_3118.N, .sl false (L cU8 y_3118.B), .sl false (L cApi_Value y_3118.L)], .str (([64, 33, 1, 48, 97, 0, 0, 64, 0, 0] : List UInt8))], .bool y_3171)]) ⟨r01_Text_con  hy_3174, law01_encodes_con  hy_3175, law01_encodes_con  hy_3177, r01_List_con  hy_3179, law01_encodes_con  hy_3180, law01_encodes_con  hy_3182, trivial⟩, by simp only [go_sem, reduceIte, Nat.reduceLT, Nat.reduceEqDiff, Nat.reduceAdd, Nat.reduceBEq, Nat.reduceMul, Nat.reduceSub, Nat.reduceGT, Nat.reducePow, Nat.reduceLeDiff, Int.reduceToNat, hb_3176, hb_3178, hb_3181], (weak_sel [0, 1, 2, 3, 4] (by decide) rfl (by simp only [go_sem, reduceIte, Nat.reduceLT, Nat.reduceEqDiff, Nat.reduceAdd, Nat.reduceBEq, Nat.reduceMul, Nat.reduceSub, Nat.reduceGT, Nat.reducePow, Nat.reduceLeDiff, Int.reduceToNat]) (by simp only [go_sem, reduceIte, Nat.reduceLT, Nat.reduceEqDiff, Nat.reduceAdd, Nat.reduceBEq, Nat.reduceMul, Nat.reduceSub, Nat.reduceGT, Nat.reducePow, Nat.reduceLeDiff, Int.reduceToNat]))⟩
      refine run_condL (b := t_3172) rfl (by decide) (fun hb => ?_) (fun hb => ?_)
      · replace h := ite_t h hb
        refine run_textE hE [0] (fr' := [(0, .bool false)]) (σ' := [.box [i64 y_3112.Kind, i64 y_3112.N, .sl false (L cU8 y_3112.B), .sl false (L cApi_Value y_3112.L)] false, .box [i64 y_3114.Kind, i64 y_3114.N, .sl false (L cU8 y_3114.B), .sl false (L cApi_Value y_3114.L)] false, .box [i64 y_3118.Kind, i64 y_3118.N, .sl false (L cU8 y_3118.B), .sl false (L cApi_Value y_3118.L)] false, .box [i64 1, i64 0, .bs true 4 (l_3122.length) 0 (l_3122.length), .sl true (L cApi_Value ([]))] false, .buf 1 (L cU8 l_3122) false]) ⟨_, orcs_nil, ?_⟩ ?_
        · simp only [go_sem, reduceIte, Nat.reduceLT, Nat.reduceEqDiff, Nat.reduceAdd, Nat.reduceBEq, Nat.reduceMul, Nat.reduceSub, Nat.reduceGT, Nat.reducePow, Nat.reduceLeDiff, Int.reduceToNat]
        refine run_ret ?_
        refine thenK_r ?_
        obtain rfl := Option.some.inj h
        refine ret_ok (.inr rfl) ?_
        simp only [go_sem, reduceIte, Nat.reduceLT, Nat.reduceEqDiff, Nat.reduceAdd, Nat.reduceBEq, Nat.reduceMul, Nat.reduceSub, Nat.reduceGT, Nat.reducePow, Nat.reduceLeDiff, Int.reduceToNat]
      · replace h := ite_f h hb
        refine run_skip ?_
        refine thenK_n ?_
        refine run_seq ?_
        replace h := bind_some1 h; obtain ⟨t_3187, hv_3188, h⟩ := h
        refine run_textW hE [1, 2, 3, 4, 82] (fr' := [(1, .ref 0 0), (2, .ref 1 0), (3, .ref 2 0), (4, .ref 3 0), (82, .bool t_3187)]) (σ' := [.box [i64 y_3112.Kind, i64 y_3112.N, .sl false (L cU8 y_3112.B), .sl false (L cApi_Value y_3112.L)] false, .box [i64 y_3114.Kind, i64 y_3114.N, .sl false (L cU8 y_3114.B), .sl false (L cApi_Value y_3114.L)] false, .box [i64 y_3118.Kind, i64 y_3118.N, .sl false (L cU8 y_3118.B), .sl false (L cApi_Value y_3118.L)] false, .box [i64 1, i64 0, .bs true 4 (l_3122.length) 0 (l_3122.length), .sl true (L cApi_Value ([]))] false, .buf 1 (L cU8 l_3122) false]) ?_ ?_
        · replace hv_3188 := bind_some1 hv_3188; obtain ⟨y_3183, hy_3189, hv_3188⟩ := hv_3188
          rcases Bool.eq_false_or_eq_true ((!y_3183)) with hb_3190 | hb_3190
          · replace hv_3188 := ite_t hv_3188 hb_3190
            have e_hv_3188 := Option.some.inj hv_3188; subst e_hv_3188
            exact ⟨_, [(1, .ref 0 0), (2, .ref 1 0), (3, .ref 2 0), (4, .ref 3 0), (82, .bool true)], [.box [i64 y_3112.Kind, i64 y_3112.N, .sl false (L cU8 y_3112.B), .sl false (L cApi_Value y_3112.L)] false, .box [i64 y_3114.Kind, i64 y_3114.N, .sl false (L cU8 y_3114.B), .sl false (L cApi_Value y_3114.L)] false, .box [i64 y_3118.Kind, i64 y_3118.N, .sl false (L cU8 y_3118.B), .sl false (L cApi_Value y_3118.L)] false, .box [i64 1, i64 0, .bs true 4 (l_3122.length) 0 (l_3122.length), .sl true (L cApi_Value ([]))] false, .buf 1 (L cU8 l_3122) false], orcs_ok (l := [(69, 33, [.str (([] : List UInt8)), i64 5], .bool y_3183)]) ⟨law01_fails_con  hy_3189, trivial⟩, by simp only [go_sem, reduceIte, Nat.reduceLT, Nat.reduceEqDiff, Nat.reduceAdd, Nat.reduceBEq, Nat.reduceMul, Nat.reduceSub, Nat.reduceGT, Nat.reducePow, Nat.reduceLeDiff, Int.reduceToNat, hb_3190], (weak_sel [0, 1, 2, 3, 4] (by decide) rfl (by simp only [go_sem, reduceIte, Nat.reduceLT, Nat.reduceEqDiff, Nat.reduceAdd, Nat.reduceBEq, Nat.reduceMul, Nat.reduceSub, Nat.reduceGT, Nat.reducePow, Nat.reduceLeDiff, Int.reduceToNat]) (by simp only [go_sem, reduceIte, Nat.reduceLT, Nat.reduceEqDiff, Nat.reduceAdd, Nat.reduceBEq, Nat.reduceMul, Nat.reduceSub, Nat.reduceGT, Nat.reducePow, Nat.reduceLeDiff, Int.reduceToNat]))⟩
          · replace hv_3188 := ite_f hv_3188 hb_3190
            replace hv_3188 := bind_some1 hv_3188; obtain ⟨y_3184, hy_3191, hv_3188⟩ := hv_3188
            rcases Bool.eq_false_or_eq_true ((!y_3184)) with hb_3192 | hb_3192
            · replace hv_3188 := ite_t hv_3188 hb_3192
              have e_hv_3188 := Option.some.inj hv_3188; subst e_hv_3188
              exact ⟨_, [(1, .ref 0 0), (2, .ref 1 0), (3, .ref 2 0), (4, .ref 3 0), (82, .bool true)], [.box [i64 y_3112.Kind, i64 y_3112.N, .sl false (L cU8 y_3112.B), .sl false (L cApi_Value y_3112.L)] false, .box [i64 y_3114.Kind, i64 y_3114.N, .sl false (L cU8 y_3114.B), .sl false (L cApi_Value y_3114.L)] false, .box [i64 y_3118.Kind, i64 y_3118.N, .sl false (L cU8 y_3118.B), .sl false (L cApi_Value y_3118.L)] false, .box [i64 1, i64 0, .bs true 4 (l_3122.length) 0 (l_3122.length), .sl true (L cApi_Value ([]))] false, .buf 1 (L cU8 l_3122) false], orcs_ok (l := [(69, 33, [.str (([] : List UInt8)), i64 5], .bool y_3183), (72, 33, [.str (([34, 1] : List UInt8)), i64 5], .bool y_3184)]) ⟨law01_fails_con  hy_3189, law01_fails_con  hy_3191, trivial⟩, by simp only [go_sem, reduceIte, Nat.reduceLT, Nat.reduceEqDiff, Nat.reduceAdd, Nat.reduceBEq, Nat.reduceMul, Nat.reduceSub, Nat.reduceGT, Nat.reducePow, Nat.reduceLeDiff, Int.reduceToNat, hb_3190, hb_3192], (weak_sel [0, 1, 2, 3, 4] (by decide) rfl (by simp only [go_sem, reduceIte, Nat.reduceLT, Nat.reduceEqDiff, Nat.reduceAdd, Nat.reduceBEq, Nat.reduceMul, Nat.reduceSub, Nat.reduceGT, Nat.reducePow, Nat.reduceLeDiff, Int.reduceToNat]) (by simp only [go_sem, reduceIte, Nat.reduceLT, Nat.reduceEqDiff, Nat.reduceAdd, Nat.reduceBEq, Nat.reduceMul, Nat.reduceSub, Nat.reduceGT, Nat.reducePow, Nat.reduceLeDiff, Int.reduceToNat]))⟩
            · replace hv_3188 := ite_f hv_3188 hb_3192
              replace hv_3188 := bind_some1 hv_3188; obtain ⟨y_3185, hy_3193, hv_3188⟩ := hv_3188
              rcases Bool.eq_false_or_eq_true ((!y_3185)) with hb_3194 | hb_3194
              · replace hv_3188 := ite_t hv_3188 hb_3194
                have e_hv_3188 := Option.some.inj hv_3188; subst e_hv_3188
                exact ⟨_, [(1, .ref 0 0), (2, .ref 1 0), (3, .ref 2 0), (4, .ref 3 0), (82, .bool true)], [.box [i64 y_3112.Kind, i64 y_3112.N, .sl false (L cU8 y_3112.B), .sl false (L cApi_Value y_3112.L)] false, .box [i64 y_3114.Kind, i64 y_3114.N, .sl false (L cU8 y_3114.B), .sl false (L cApi_Value y_3114.L)] false, .box [i64 y_3118.Kind, i64 y_3118.N, .sl false (L cU8 y_3118.B), .sl false (L cApi_Value y_3118.L)] false, .box [i64 1, i64 0, .bs true 4 (l_3122.length) 0 (l_3122.length), .sl true (L cApi_Value ([]))] false, .buf 1 (L cU8 l_3122) false], orcs_ok (l := [(69, 33, [.str (([] : List UInt8)), i64 5], .bool y_3183), (72, 33, [.str (([34, 1] : List UInt8)), i64 5], .bool y_3184), (76, 33, [.str (([48, 97, 0] : List UInt8)), i64 5], .bool y_3185)]) ⟨law01_fails_con  hy_3189, law01_fails_con  hy_3191, law01_fails_con  hy_3193, trivial⟩, by simp only [go_sem, reduceIte, Nat.reduceLT, Nat.reduceEqDiff, Nat.reduceAdd, Nat.reduceBEq, Nat.reduceMul, Nat.reduceSub, Nat.reduceGT, Nat.reducePow, Nat.reduceLeDiff, Int.reduceToNat, hb_3190, hb_3192, hb_3194], (weak_sel [0, 1, 2, 3, 4] (by decide) rfl (by simp only [go_sem, reduceIte, Nat.reduceLT, Nat.reduceEqDiff, Nat.reduceAdd, Nat.reduceBEq, Nat.reduceMul, Nat.reduceSub, Nat.reduceGT, Nat.reducePow, Nat.reduceLeDiff, Int.reduceToNat]) (by simp only [go_sem, reduceIte, Nat.reduceLT, Nat.reduceEqDiff, Nat.reduceAdd, Nat.reduceBEq, Nat.reduceMul, Nat.reduceSub, Nat.reduceGT, Nat.reducePow, Nat.reduceLeDiff, Int.reduceToNat]))⟩
              · replace hv_3188 := ite_f hv_3188 hb_3194
                replace hv_3188 := bind_some1 hv_3188; obtain ⟨y_3186, hy_3195, hv_3188⟩ := hv_3188
                have e_hv_3188 := Option.some.inj hv_3188; subst e_hv_3188
                exact ⟨_, [(1, .ref 0 0), (2, .ref 1 0), (3, .ref 2 0), (4, .ref 3 0), (82, .bool ((!y_3186)))], [.box [i64 y_3112.Kind, i64 y_3112.N, .sl false (L cU8 y_3112.B), .sl false (L cApi_Value y_3112.L)] false, .box [i64 y_3114.Kind, i64 y_3114.N, .sl false (L cU8 y_3114.B), .sl false (L cApi_Value y_3114.L)] false, .box [i64 y_3118.Kind, i64 y_3118.N, .sl false (L cU8 y_3118.B), .sl false (L cApi_Value y_3118.L)] false, .box [i64 1, i64 0, .bs true 4 (l_3122.length) 0 (l_3122.length), .sl true (L cApi_Value ([]))] false, .buf 1 (L cU8 l_3122) false], orcs_ok (l := [(69, 33, [.str (([] : List UInt8)), i64 5], .bool y_3183), (72, 33, [.str (([34, 1] : List UInt8)), i64 5], .bool y_3184), (76, 33, [.str (([48, 97, 0] : List UInt8)), i64 5], .bool y_3185), (80, 33, [.str (([64, 32] : List UInt8)), i64 5], .bool y_3186)]) ⟨law01_fails_con  hy_3189, law01_fails_con  hy_3191, law01_fails_con  hy_3193, law01_fails_con  hy_3195, trivial⟩, by simp only [go_sem, reduceIte, Nat.reduceLT, Nat.reduceEqDiff, Nat.reduceAdd, Nat.reduceBEq, Nat.reduceMul, Nat.reduceSub, Nat.reduceGT, Nat.reducePow, Nat.reduceLeDiff, Int.reduceToNat, hb_3190, hb_3192, hb_3194], (weak_sel [0, 1, 2, 3, 4] (by decide) rfl (by simp only [go_sem, reduceIte, Nat.reduceLT, Nat.reduceEqDiff, Nat.reduceAdd, Nat.reduceBEq, Nat.reduceMul, Nat.reduceSub, Nat.reduceGT, Nat.reducePow, Nat.reduceLeDiff, Int.reduceToNat]) (by simp only [go_sem, reduceIte, Nat.reduceLT, Nat.reduceEqDiff, Nat.reduceAdd, Nat.reduceBEq, Nat.reduceMul, Nat.reduceSub, Nat.reduceGT, Nat.reducePow, Nat.reduceLeDiff, Int.reduceToNat]))⟩
        refine run_condL (b := t_3187) rfl (by decide) (fun hb => ?_) (fun hb => ?_)
        · replace h := ite_t h hb
          refine run_textE hE [0] (fr' := [(0, .bool false)]) (σ' := [.box [i64 y_3112.Kind, i64 y_3112.N, .sl false (L cU8 y_3112.B), .sl false (L cApi_Value y_3112.L)] false, .box [i64 y_3114.Kind, i64 y_3114.N, .sl false (L cU8 y_3114.B), .sl false (L cApi_Value y_3114.L)] false, .box [i64 y_3118.Kind, i64 y_3118.N, .sl false (L cU8 y_3118.B), .sl false (L cApi_Value y_3118.L)] false, .box [i64 1, i64 0, .bs true 4 (l_3122.length) 0 (l_3122.length), .sl true (L cApi_Value ([]))] false, .buf 1 (L cU8 l_3122) false]) ⟨_, orcs_nil, ?_⟩ ?_
          · simp only [go_sem, reduceIte, Nat.reduceLT, Nat.reduceEqDiff, Nat.reduceAdd, Nat.reduceBEq, Nat.reduceMul, Nat.reduceSub, Nat.reduceGT, Nat.reducePow, Nat.reduceLeDiff, Int.reduceToNat]
          refine run_ret ?_
          refine thenK_r ?_
          obtain rfl := Option.some.inj h
          refine ret_ok (.inr rfl) ?_
          simp only [go_sem, reduceIte, Nat.reduceLT, Nat.reduceEqDiff, Nat.reduceAdd, Nat.reduceBEq, Nat.reduceMul, Nat.reduceSub, Nat.reduceGT, Nat.reducePow, Nat.reduceLeDiff, Int.reduceToNat]
        · replace h := ite_f h hb
          refine run_skip ?_
          refine thenK_n ?_
          refine run_seq ?_
          replace h := bind_some1 h; obtain ⟨t_3201, hv_3202, h⟩ := h
          refine run_textW hE [1, 2, 3, 4, 100] (fr' := [(1, .ref 0 0), (2, .ref 1 0), (3, .ref 2 0), (4, .ref 3 0), (100, .bool t_3201)]) (σ' := [.box [i64 y_3112.Kind, i64 y_3112.N, .sl false (L cU8 y_3112.B), .sl false (L cApi_Value y_3112.L)] false, .box [i64 y_3114.Kind, i64 y_3114.N, .sl false (L cU8 y_3114.B), .sl false (L cApi_Value y_3114.L)] false, .box [i64 y_3118.Kind, i64 y_3118.N, .sl false (L cU8 y_3118.B), .sl false (L cApi_Value y_3118.L)] false, .box [i64 1, i64 0, .bs true 4 (l_3122.length) 0 (l_3122.length), .sl true (L cApi_Value ([]))] false, .buf 1 (L cU8 l_3122) false]) ?_ ?_
          · replace hv_3202 := bind_some1 hv_3202; obtain ⟨y_3196, hy_3203, hv_3202⟩ := hv_3202
            rcases Bool.eq_false_or_eq_true ((!y_3196)) with hb_3204 | hb_3204
            · replace hv_3202 := ite_t hv_3202 hb_3204
              have e_hv_3202 := Option.some.inj hv_3202; subst e_hv_3202
              exact ⟨_, [(1, .ref 0 0), (2, .ref 1 0), (3, .ref 2 0), (4, .ref 3 0), (100, .bool true)], [.box [i64 y_3112.Kind, i64 y_3112.N, .sl false (L cU8 y_3112.B), .sl false (L cApi_Value y_3112.L)] false, .box [i64 y_3114.Kind, i64 y_3114.N, .sl false (L cU8 y_3114.B), .sl false (L cApi_Value y_3114.L)] false, .box [i64 y_3118.Kind, i64 y_3118.N, .sl false (L cU8 y_3118.B), .sl false (L cApi_Value y_3118.L)] false, .box [i64 1, i64 0, .bs true 4 (l_3122.length) 0 (l_3122.length), .sl true (L cApi_Value ([]))] false, .buf 1 (L cU8 l_3122) false], orcs_ok (l := [(83, 33, [.str (([33, 0] : List UInt8)), i64 4], .bool y_3196)]) ⟨law01_fails_con  hy_3203, trivial⟩, by simp only [go_sem, reduceIte, Nat.reduceLT, Nat.reduceEqDiff, Nat.reduceAdd, Nat.reduceBEq, Nat.reduceMul, Nat.reduceSub, Nat.reduceGT, Nat.reducePow, Nat.reduceLeDiff, Int.reduceToNat, hb_3204], (weak_sel [0, 1, 2, 3, 4] (by decide) rfl (by simp only [go_sem, reduceIte, Nat.reduceLT, Nat.reduceEqDiff, Nat.reduceAdd, Nat.reduceBEq, Nat.reduceMul, Nat.reduceSub, Nat.reduceGT, Nat.reducePow, Nat.reduceLeDiff, Int.reduceToNat]) (by simp only [go_sem, reduceIte, Nat.reduceLT, Nat.reduceEqDiff, Nat.reduceAdd, Nat.reduceBEq, Nat.reduceMul, Nat.reduceSub, Nat.reduceGT, Nat.reducePow, Nat.reduceLeDiff, Int.reduceToNat]))⟩
            · replace hv_3202 := ite_f hv_3202 hb_3204
              replace hv_3202 := bind_some1 hv_3202; obtain ⟨y_3197, hy_3205, hv_3202⟩ := hv_3202
              rcases Bool.eq_false_or_eq_true ((!y_3197)) with hb_3206 | hb_3206
              · replace hv_3202 := ite_t hv_3202 hb_3206
                have e_hv_3202 := Option.some.inj hv_3202; subst e_hv_3202
                exact ⟨_, [(1, .ref 0 0), (2, .ref 1 0), (3, .ref 2 0), (4, .ref 3 0), (100, .bool true)], [.box [i64 y_3112.Kind, i64 y_3112.N, .sl false (L cU8 y_3112.B), .sl false (L cApi_Value y_3112.L)] false, .box [i64 y_3114.Kind, i64 y_3114.N, .sl false (L cU8 y_3114.B), .sl false (L cApi_Value y_3114.L)] false, .box [i64 y_3118.Kind, i64 y_3118.N, .sl false (L cU8 y_3118.B), .sl false (L cApi_Value y_3118.L)] false, .box [i64 1, i64 0, .bs true 4 (l_3122.length) 0 (l_3122.length), .sl true (L cApi_Value ([]))] false, .buf 1 (L cU8 l_3122) false], orcs_ok (l := [(83, 33, [.str (([33, 0] : List UInt8)), i64 4], .bool y_3196), (86, 33, [.str (([32, 32] : List UInt8)), i64 4], .bool y_3197)]) ⟨law01_fails_con  hy_3203, law01_fails_con  hy_3205, trivial⟩, by simp only [go_sem, reduceIte, Nat.reduceLT, Nat.reduceEqDiff, Nat.reduceAdd, Nat.reduceBEq, Nat.reduceMul, Nat.reduceSub, Nat.reduceGT, Nat.reducePow, Nat.reduceLeDiff, Int.reduceToNat, hb_3204, hb_3206], (weak_sel [0, 1, 2, 3, 4] (by decide) rfl (by simp only [go_sem, reduceIte, Nat.reduceLT, Nat.reduceEqDiff, Nat.reduceAdd, Nat.reduceBEq, Nat.reduceMul, Nat.reduceSub, Nat.reduceGT, Nat.reducePow, Nat.reduceLeDiff, Int.reduceToNat]) (by simp only [go_sem, reduceIte, Nat.reduceLT, Nat.reduceEqDiff, Nat.reduceAdd, Nat.reduceBEq, Nat.reduceMul, Nat.reduceSub, Nat.reduceGT, Nat.reducePow, Nat.reduceLeDiff, Int.reduceToNat]))⟩
              · replace hv_3202 := ite_f hv_3202 hb_3206
                replace hv_3202 := bind_some1 hv_3202; obtain ⟨y_3198, hy_3207, hv_3202⟩ := hv_3202
                rcases Bool.eq_false_or_eq_true ((!y_3198)) with hb_3208 | hb_3208
                · replace hv_3202 := ite_t hv_3202 hb_3208
                  have e_hv_3202 := Option.some.inj hv_3202; subst e_hv_3202
                  exact ⟨_, [(1, .ref 0 0), (2, .ref 1 0), (3, .ref 2 0), (4, .ref 3 0), (100, .bool true)], [.box [i64 y_3112.Kind, i64 y_3112.N, .sl false (L cU8 y_3112.B), .sl false (L cApi_Value y_3112.L)] false, .box [i64 y_3114.Kind, i64 y_3114.N, .sl false (L cU8 y_3114.B), .sl false (L cApi_Value y_3114.L)] false, .box [i64 y_3118.Kind, i64 y_3118.N, .sl false (L cU8 y_3118.B), .sl false (L cApi_Value y_3118.L)] false, .box [i64 1, i64 0, .bs true 4 (l_3122.length) 0 (l_3122.length), .sl true (L cApi_Value ([]))] false, .buf 1 (L cU8 l_3122) false], orcs_ok (l := [(83, 33, [.str (([33, 0] : List UInt8)), i64 4], .bool y_3196), (86, 33, [.str (([32, 32] : List UInt8)), i64 4], .bool y_3197), (90, 33, [.str (([48, 0, 1] : List UInt8)), i64 4], .bool y_3198)]) ⟨law01_fails_con  hy_3203, law01_fails_con  hy_3205, law01_fails_con  hy_3207, trivial⟩, by simp only [go_sem, reduceIte, Nat.reduceLT, Nat.reduceEqDiff, Nat.reduceAdd, Nat.reduceBEq, Nat.reduceMul, Nat.reduceSub, Nat.reduceGT, Nat.reducePow, Nat.reduceLeDiff, Int.reduceToNat, hb_3204, hb_3206, hb_3208], (weak_sel [0, 1, 2, 3, 4] (by decide) rfl (by simp only [go_sem, reduceIte, Nat.reduceLT, Nat.reduceEqDiff, Nat.reduceAdd, Nat.reduceBEq, Nat.reduceMul, Nat.reduceSub, Nat.reduceGT, Nat.reducePow, Nat.reduceLeDiff, Int.reduceToNat]) (by simp only [go_sem, reduceIte, Nat.reduceLT, Nat.reduceEqDiff, Nat.reduceAdd, Nat.reduceBEq, Nat.reduceMul, Nat.reduceSub, Nat.reduceGT, Nat.reducePow, Nat.reduceLeDiff, Int.reduceToNat]))⟩
                · replace hv_3202 := ite_f hv_3202 hb_3208
                  replace hv_3202 := bind_some1 hv_3202; obtain ⟨y_3199, hy_3209, hv_3202⟩ := hv_3202
                  rcases Bool.eq_false_or_eq_true ((!y_3199)) with hb_3210 | hb_3210
                  · replace hv_3202 := ite_t hv_3202 hb_3210
                    have e_hv_3202 := Option.some.inj hv_3202; subst e_hv_3202
                    exact ⟨_, [(1, .ref 0 0), (2, .ref 1 0), (3, .ref 2 0), (4, .ref 3 0), (100, .bool true)], [.box [i64 y_3112.Kind, i64 y_3112.N, .sl false (L cU8 y_3112.B), .sl false (L cApi_Value y_3112.L)] false, .box [i64 y_3114.Kind, i64 y_3114.N, .sl false (L cU8 y_3114.B), .sl false (L cApi_Value y_3114.L)] false, .box [i64 y_3118.Kind, i64 y_3118.N, .sl false (L cU8 y_3118.B), .sl false (L cApi_Value y_3118.L)] false, .box [i64 1, i64 0, .bs true 4 (l_3122.length) 0 (l_3122.length), .sl true (L cApi_Value ([]))] false, .buf 1 (L cU8 l_3122) false], orcs_ok (l := [(83, 33, [.str (([33, 0] : List UInt8)), i64 4], .bool y_3196), (86, 33, [.str (([32, 32] : List UInt8)), i64 4], .bool y_3197), (90, 33, [.str (([48, 0, 1] : List UInt8)), i64 4], .bool y_3198), (94, 33, [.str (([65] : List UInt8)), i64 4], .bool y_3199)]) ⟨law01_fails_con  hy_3203, law01_fails_con  hy_3205, law01_fails_con  hy_3207, law01_fails_con  hy_3209, trivial⟩, by simp only [go_sem, reduceIte, Nat.reduceLT, Nat.reduceEqDiff, Nat.reduceAdd, Nat.reduceBEq, Nat.reduceMul, Nat.reduceSub, Nat.reduceGT, Nat.reducePow, Nat.reduceLeDiff, Int.reduceToNat, hb_3204, hb_3206, hb_3208, hb_3210], (weak_sel [0, 1, 2, 3, 4] (by decide) rfl (by simp only [go_sem, reduceIte, Nat.reduceLT, Nat.reduceEqDiff, Nat.reduceAdd, Nat.reduceBEq, Nat.reduceMul, Nat.reduceSub, Nat.reduceGT, Nat.reducePow, Nat.reduceLeDiff, Int.reduceToNat]) (by simp only [go_sem, reduceIte, Nat.reduceLT, Nat.reduceEqDiff, Nat.reduceAdd, Nat.reduceBEq, Nat.reduceMul, Nat.reduceSub, Nat.reduceGT, Nat.reducePow, Nat.reduceLeDiff, Int.reduceToNat]))⟩
                  · replace hv_3202 := ite_f hv_3202 hb_3210
                    replace hv_3202 := bind_some1 hv_3202; obtain ⟨y_3200, hy_3211, hv_3202⟩ := hv_3202
                    have e_hv_3202 := Option.some.inj hv_3202; subst e_hv_3202
                    exact ⟨_, [(1, .ref 0 0), (2, .ref 1 0), (3, .ref 2 0), (4, .ref 3 0), (100, .bool ((!y_3200)))], [.box [i64 y_3112.Kind, i64 y_3112.N, .sl false (L cU8 y_3112.B), .sl false (L cApi_Value y_3112.L)] false, .box [i64 y_3114.Kind, i64 y_3114.N, .sl false (L cU8 y_3114.B), .sl false (L cApi_Value y_3114.L)] false, .box [i64 y_3118.Kind, i64 y_3118.N, .sl false (L cU8 y_3118.B), .sl false (L cApi_Value y_3118.L)] false, .box [i64 1, i64 0, .bs true 4 (l_3122.length) 0 (l_3122.length), .sl true (L cApi_Value ([]))] false, .buf 1 (L cU8 l_3122) false], orcs_ok (l := [(83, 33, [.str (([33, 0] : List UInt8)), i64 4], .bool y_3196), (86, 33, [.str (([32, 32] : List UInt8)), i64 4], .bool y_3197), (90, 33, [.str (([48, 0, 1] : List UInt8)), i64 4], .bool y_3198), (94, 33, [.str (([65] : List UInt8)), i64 4], .bool y_3199), (98, 33, [.str (([40, 128] : List UInt8)), i64 4], .bool y_3200)]) ⟨law01_fails_con  hy_3203, law01_fails_con  hy_3205, law01_fails_con  hy_3207, law01_fails_con  hy_3209, law01_fails_con  hy_3211, trivial⟩, by simp only [go_sem, reduceIte, Nat.reduceLT, Nat.reduceEqDiff, Nat.reduceAdd, Nat.reduceBEq, Nat.reduceMul, Nat.reduceSub, Nat.reduceGT, Nat.reducePow, Nat.reduceLeDiff, Int.reduceToNat, hb_3204, hb_3206, hb_3208, hb_3210], (weak_sel [0, 1, 2, 3, 4] (by decide) rfl (by simp only [go_sem, reduceIte, Nat.reduceLT, Nat.reduceEqDiff, Nat.reduceAdd, Nat.reduceBEq, Nat.reduceMul, Nat.reduceSub, Nat.reduceGT, Nat.reducePow, Nat.reduceLeDiff, Int.reduceToNat]) (by simp only [go_sem, reduceIte, Nat.reduceLT, Nat.reduceEqDiff, Nat.reduceAdd, Nat.reduceBEq, Nat.reduceMul, Nat.reduceSub, Nat.reduceGT, Nat.reducePow, Nat.reduceLeDiff, Int.reduceToNat]))⟩
          refine run_condL (b := t_3201) rfl (by decide) (fun hb => ?_) (fun hb => ?_)
          · replace h := ite_t h hb
            refine run_textE hE [0] (fr' := [(0, .bool false)]) (σ' := [.box [i64 y_3112.Kind, i64 y_3112.N, .sl false (L cU8 y_3112.B), .sl false (L cApi_Value y_3112.L)] false, .box [i64 y_3114.Kind, i64 y_3114.N, .sl false (L cU8 y_3114.B), .sl false (L cApi_Value y_3114.L)] false, .box [i64 y_3118.Kind, i64 y_3118.N, .sl false (L cU8 y_3118.B), .sl false (L cApi_Value y_3118.L)] false, .box [i64 1, i64 0, .bs true 4 (l_3122.length) 0 (l_3122.length), .sl true (L cApi_Value ([]))] false, .buf 1 (L cU8 l_3122) false]) ⟨_, orcs_nil, ?_⟩ ?_
            · simp only [go_sem, reduceIte, Nat.reduceLT, Nat.reduceEqDiff, Nat.reduceAdd, Nat.reduceBEq, Nat.reduceMul, Nat.reduceSub, Nat.reduceGT, Nat.reducePow, Nat.reduceLeDiff, Int.reduceToNat]
            refine run_ret ?_
            refine thenK_r ?_
            obtain rfl := Option.some.inj h
            refine ret_ok (.inr rfl) ?_
            simp only [go_sem, reduceIte, Nat.reduceLT, Nat.reduceEqDiff, Nat.reduceAdd, Nat.reduceBEq, Nat.reduceMul, Nat.reduceSub, Nat.reduceGT, Nat.reducePow, Nat.reduceLeDiff, Int.reduceToNat]
          · replace h := ite_f h hb
            refine run_skip ?_
            refine thenK_n ?_
            replace h := bind_some1 h; obtain ⟨t_3222, hv_3223, h⟩ := h
            refine run_textW hE [0] (fr' := [(0, .bool t_3222)]) (σ' := []) ?_ ?_
            · replace hv_3223 := bind_some1 hv_3223; obtain ⟨y_3212, hy_3224, hv_3223⟩ := hv_3223
              rcases Bool.eq_false_or_eq_true ((y_3212 == 10)) with hb_3225 | hb_3225
              · replace hv_3223 := ite_t hv_3223 hb_3225
                replace hv_3223 := bind_some1 hv_3223; obtain ⟨y_3213, hy_3226, hv_3223⟩ := hv_3223
                rcases Bool.eq_false_or_eq_true ((y_3213 == 0)) with hb_3227 | hb_3227
                · replace hv_3223 := ite_t hv_3223 hb_3227
                  replace hv_3223 := bind_some1 hv_3223; obtain ⟨y_3214, hy_3228, hv_3223⟩ := hv_3223
                  replace hv_3223 := bind_some1 hv_3223; obtain ⟨y_3215, hy_3229, hv_3223⟩ := hv_3223
                  replace hv_3223 := bind_some1 hv_3223; obtain ⟨y_3216, hy_3230, hv_3223⟩ := hv_3223
                  rcases Bool.eq_false_or_eq_true ((y_3216 == (-1))) with hb_3231 | hb_3231
                  · replace hv_3223 := ite_t hv_3223 hb_3231
                    replace hv_3223 := bind_some1 hv_3223; obtain ⟨y_3217, hy_3232, hv_3223⟩ := hv_3223
                    replace hv_3223 := bind_some1 hv_3223; obtain ⟨y_3218, hy_3233, hv_3223⟩ := hv_3223
                    replace hv_3223 := bind_some1 hv_3223; obtain ⟨y_3219, hy_3234, hv_3223⟩ := hv_3223
                    rcases Bool.eq_false_or_eq_true ((y_3219 == 1)) with hb_3235 | hb_3235
                    · replace hv_3223 := ite_t hv_3223 hb_3235
                      replace hv_3223 := bind_some1 hv_3223; obtain ⟨y_3220, hy_3236, hv_3223⟩ := hv_3223
                      rcases Bool.eq_false_or_eq_true ((y_3220 == (-1))) with hb_3237 | hb_3237
                      · replace hv_3223 := ite_t hv_3223 hb_3237
                        replace hv_3223 := bind_some1 hv_3223; obtain ⟨y_3221, hy_3238, hv_3223⟩ := hv_3223
                        have e_hv_3223 := Option.some.inj hv_3223; subst e_hv_3223
                        exact ⟨_, [(0, .bool ((y_3221 == 0)))], [.box [i64 y_3112.Kind, i64 y_3112.N, .sl false (L cU8 y_3112.B), .sl false (L cApi_Value y_3112.L)] false, .box [i64 y_3114.Kind, i64 y_3114.N, .sl false (L cU8 y_3114.B), .sl false (L cApi_Value y_3114.L)] false, .box [i64 y_3118.Kind, i64 y_3118.N, .sl false (L cU8 y_3118.B), .sl false (L cApi_Value y_3118.L)] false, .box [i64 1, i64 0, .bs true 4 (l_3122.length) 0 (l_3122.length), .sl true (L cApi_Value ([]))] false, .buf 1 (L cU8 l_3122) false], orcs_ok (l := [(102, 16, [.agg [i64 1, i64 0, .sl false (L cU8 l_3122), .sl false (L cApi_Value ([]))]], i64 y_3212), (106, 16, [.agg [i64 y_3118.Kind, i64 y_3118.N, .sl false (L cU8 y_3118.B), .sl false (L cApi_Value y_3118.L)]], i64 y_3213), (110, 29, [i64 1], .agg [i64 y_3214.Kind, i64 y_3214.N, .sl false (L cU8 y_3214.B), .sl false (L cApi_Value y_3214.L)]), (111, 29, [i64 256], .agg [i64 y_3215.Kind, i64 y_3215.N, .sl false (L cU8 y_3215.B), .sl false (L cApi_Value y_3215.L)]), (112, 19, [.agg [i64 y_3214.Kind, i64 y_3214.N, .sl false (L cU8 y_3214.B), .sl false (L cApi_Value y_3214.L)], .agg [i64 y_3215.Kind, i64 y_3215.N, .sl false (L cU8 y_3215.B), .sl false (L cApi_Value y_3215.L)]], i64 y_3216), (116, 31, [.str (([] : List UInt8))], .agg [i64 y_3217.Kind, i64 y_3217.N, .sl false (L cU8 y_3217.B), .sl false (L cApi_Value y_3217.L)]), (117, 29, [i64 256], .agg [i64 y_3218.Kind, i64 y_3218.N, .sl false (L cU8 y_3218.B), .sl false (L cApi_Value y_3218.L)]), (118, 19, [.agg [i64 y_3217.Kind, i64 y_3217.N, .sl false (L cU8 y_3217.B), .sl false (L cApi_Value y_3217.L)], .agg [i64 y_3218.Kind, i64 y_3218.N, .sl false (L cU8 y_3218.B), .sl false (L cApi_Value y_3218.L)]], i64 y_3219), (124, 19, [.agg [i64 y_3112.Kind, i64 y_3112.N, .sl false (L cU8 y_3112.B), .sl false (L cApi_Value y_3112.L)], .agg [i64 y_3114.Kind, i64 y_3114.N, .sl false (L cU8 y_3114.B), .sl false (L cApi_Value y_3114.L)]], i64 y_3220), (130, 19, [.agg [i64 y_3112.Kind, i64 y_3112.N, .sl false (L cU8 y_3112.B), .sl false (L cApi_Value y_3112.L)], .agg [i64 y_3112.Kind, i64 y_3112.N, .sl false (L cU8 y_3112.B), .sl false (L cApi_Value y_3112.L)]], i64 y_3221)]) ⟨codec_Check_con  hy_3224, codec_Check_con  hy_3226, r01_Int_con  hy_3228, r01_Int_con  hy_3229, codec_Compare_con  hy_3230, r01_Text_con  hy_3232, r01_Int_con  hy_3233, codec_Compare_con  hy_3234, codec_Compare_con  hy_3236, codec_Compare_con  hy_3238, trivial⟩, by simp only [go_sem, reduceIte, Nat.reduceLT, Nat.reduceEqDiff, Nat.reduceAdd, Nat.reduceBEq, Nat.reduceMul, Nat.reduceSub, Nat.reduceGT, Nat.reducePow, Nat.reduceLeDiff, Int.reduceToNat, hb_3225, hb_3227, hb_3231, hb_3235, hb_3237], (weak_sel [] (by decide) rfl (by simp only [go_sem, reduceIte, Nat.reduceLT, Nat.reduceEqDiff, Nat.reduceAdd, Nat.reduceBEq, Nat.reduceMul, Nat.reduceSub, Nat.reduceGT, Nat.reducePow, Nat.reduceLeDiff, Int.reduceToNat]) (by simp only [go_sem, reduceIte, Nat.reduceLT, Nat.reduceEqDiff, Nat.reduceAdd, Nat.reduceBEq, Nat.reduceMul, Nat.reduceSub, Nat.reduceGT, Nat.reducePow, Nat.reduceLeDiff, Int.reduceToNat]))⟩
                      · replace hv_3223 := ite_f hv_3223 hb_3237
                        have e_hv_3223 := Option.some.inj hv_3223; subst e_hv_3223
                        exact ⟨_, [(0, .bool false)], [.box [i64 y_3112.Kind, i64 y_3112.N, .sl false (L cU8 y_3112.B), .sl false (L cApi_Value y_3112.L)] false, .box [i64 y_3114.Kind, i64 y_3114.N, .sl false (L cU8 y_3114.B), .sl false (L cApi_Value y_3114.L)] false, .box [i64 y_3118.Kind, i64 y_3118.N, .sl false (L cU8 y_3118.B), .sl false (L cApi_Value y_3118.L)] false, .box [i64 1, i64 0, .bs true 4 (l_3122.length) 0 (l_3122.length), .sl true (L cApi_Value ([]))] false, .buf 1 (L cU8 l_3122) false], orcs_ok (l := [(102, 16, [.agg [i64 1, i64 0, .sl false (L cU8 l_3122), .sl false (L cApi_Value ([]))]], i64 y_3212), (106, 16, [.agg [i64 y_3118.Kind, i64 y_3118.N, .sl false (L cU8 y_3118.B), .sl false (L cApi_Value y_3118.L)]], i64 y_3213), (110, 29, [i64 1], .agg [i64 y_3214.Kind, i64 y_3214.N, .sl false (L cU8 y_3214.B), .sl false (L cApi_Value y_3214.L)]), (111, 29, [i64 256], .agg [i64 y_3215.Kind, i64 y_3215.N, .sl false (L cU8 y_3215.B), .sl false (L cApi_Value y_3215.L)]), (112, 19, [.agg [i64 y_3214.Kind, i64 y_3214.N, .sl false (L cU8 y_3214.B), .sl false (L cApi_Value y_3214.L)], .agg [i64 y_3215.Kind, i64 y_3215.N, .sl false (L cU8 y_3215.B), .sl false (L cApi_Value y_3215.L)]], i64 y_3216), (116, 31, [.str (([] : List UInt8))], .agg [i64 y_3217.Kind, i64 y_3217.N, .sl false (L cU8 y_3217.B), .sl false (L cApi_Value y_3217.L)]), (117, 29, [i64 256], .agg [i64 y_3218.Kind, i64 y_3218.N, .sl false (L cU8 y_3218.B), .sl false (L cApi_Value y_3218.L)]), (118, 19, [.agg [i64 y_3217.Kind, i64 y_3217.N, .sl false (L cU8 y_3217.B), .sl false (L cApi_Value y_3217.L)], .agg [i64 y_3218.Kind, i64 y_3218.N, .sl false (L cU8 y_3218.B), .sl false (L cApi_Value y_3218.L)]], i64 y_3219), (124, 19, [.agg [i64 y_3112.Kind, i64 y_3112.N, .sl false (L cU8 y_3112.B), .sl false (L cApi_Value y_3112.L)], .agg [i64 y_3114.Kind, i64 y_3114.N, .sl false (L cU8 y_3114.B), .sl false (L cApi_Value y_3114.L)]], i64 y_3220)]) ⟨codec_Check_con  hy_3224, codec_Check_con  hy_3226, r01_Int_con  hy_3228, r01_Int_con  hy_3229, codec_Compare_con  hy_3230, r01_Text_con  hy_3232, r01_Int_con  hy_3233, codec_Compare_con  hy_3234, codec_Compare_con  hy_3236, trivial⟩, by simp only [go_sem, reduceIte, Nat.reduceLT, Nat.reduceEqDiff, Nat.reduceAdd, Nat.reduceBEq, Nat.reduceMul, Nat.reduceSub, Nat.reduceGT, Nat.reducePow, Nat.reduceLeDiff, Int.reduceToNat, hb_3225, hb_3227, hb_3231, hb_3235, hb_3237], (weak_sel [] (by decide) rfl (by simp only [go_sem, reduceIte, Nat.reduceLT, Nat.reduceEqDiff, Nat.reduceAdd, Nat.reduceBEq, Nat.reduceMul, Nat.reduceSub, Nat.reduceGT, Nat.reducePow, Nat.reduceLeDiff, Int.reduceToNat]) (by simp only [go_sem, reduceIte, Nat.reduceLT, Nat.reduceEqDiff, Nat.reduceAdd, Nat.reduceBEq, Nat.reduceMul, Nat.reduceSub, Nat.reduceGT, Nat.reducePow, Nat.reduceLeDiff, Int.reduceToNat]))⟩
                    · replace hv_3223 := ite_f hv_3223 hb_3235
                      have e_hv_3223 := Option.some.inj hv_3223; subst e_hv_3223
                      exact ⟨_, [(0, .bool false)], [.box [i64 y_3112.Kind, i64 y_3112.N, .sl false (L cU8 y_3112.B), .sl false (L cApi_Value y_3112.L)] false, .box [i64 y_3114.Kind, i64 y_3114.N, .sl false (L cU8 y_3114.B), .sl false (L cApi_Value y_3114.L)] false, .box [i64 y_3118.Kind, i64 y_3118.N, .sl false (L cU8 y_3118.B), .sl false (L cApi_Value y_3118.L)] false, .box [i64 1, i64 0, .bs true 4 (l_3122.length) 0 (l_3122.length), .sl true (L cApi_Value ([]))] false, .buf 1 (L cU8 l_3122) false], orcs_ok (l := [(102, 16, [.agg [i64 1, i64 0, .sl false (L cU8 l_3122), .sl false (L cApi_Value ([]))]], i64 y_3212), (106, 16, [.agg [i64 y_3118.Kind, i64 y_3118.N, .sl false (L cU8 y_3118.B), .sl false (L cApi_Value y_3118.L)]], i64 y_3213), (110, 29, [i64 1], .agg [i64 y_3214.Kind, i64 y_3214.N, .sl false (L cU8 y_3214.B), .sl false (L cApi_Value y_3214.L)]), (111, 29, [i64 256], .agg [i64 y_3215.Kind, i64 y_3215.N, .sl false (L cU8 y_3215.B), .sl false (L cApi_Value y_3215.L)]), (112, 19, [.agg [i64 y_3214.Kind, i64 y_3214.N, .sl false (L cU8 y_3214.B), .sl false (L cApi_Value y_3214.L)], .agg [i64 y_3215.Kind, i64 y_3215.N, .sl false (L cU8 y_3215.B), .sl false (L cApi_Value y_3215.L)]], i64 y_3216), (116, 31, [.str (([] : List UInt8))], .agg [i64 y_3217.Kind, i64 y_3217.N, .sl false (L cU8 y_3217.B), .sl false (L cApi_Value y_3217.L)]), (117, 29, [i64 256], .agg [i64 y_3218.Kind, i64 y_3218.N, .sl false (L cU8 y_3218.B), .sl false (L cApi_Value y_3218.L)]), (118, 19, [.agg [i64 y_3217.Kind, i64 y_3217.N, .sl false (L cU8 y_3217.B), .sl false (L cApi_Value y_3217.L)], .agg [i64 y_3218.Kind, i64 y_3218.N, .sl false (L cU8 y_3218.B), .sl false (L cApi_Value y_3218.L)]], i64 y_3219)]) ⟨codec_Check_con  hy_3224, codec_Check_con  hy_3226, r01_Int_con  hy_3228, r01_Int_con  hy_3229, codec_Compare_con  hy_3230, r01_Text_con  hy_3232, r01_Int_con  hy_3233, codec_Compare_con  hy_3234, trivial⟩, by simp only [go_sem, reduceIte, Nat.reduceLT, Nat.reduceEqDiff, Nat.reduceAdd, Nat.reduceBEq, Nat.reduceMul, Nat.reduceSub, Nat.reduceGT, Nat.reducePow, Nat.reduceLeDiff, Int.reduceToNat, hb_3225, hb_3227, hb_3231, hb_3235], (weak_sel [] (by decide) rfl (by simp only [go_sem, reduceIte, Nat.reduceLT, Nat.reduceEqDiff, Nat.reduceAdd, Nat.reduceBEq, Nat.reduceMul, Nat.reduceSub, Nat.reduceGT, Nat.reducePow, Nat.reduceLeDiff, Int.reduceToNat]) (by simp only [go_sem, reduceIte, Nat.reduceLT, Nat.reduceEqDiff, Nat.reduceAdd, Nat.reduceBEq, Nat.reduceMul, Nat.reduceSub, Nat.reduceGT, Nat.reducePow, Nat.reduceLeDiff, Int.reduceToNat]))⟩
                  · replace hv_3223 := ite_f hv_3223 hb_3231
                    have e_hv_3223 := Option.some.inj hv_3223; subst e_hv_3223
                    exact ⟨_, [(0, .bool false)], [.box [i64 y_3112.Kind, i64 y_3112.N, .sl false (L cU8 y_3112.B), .sl false (L cApi_Value y_3112.L)] false, .box [i64 y_3114.Kind, i64 y_3114.N, .sl false (L cU8 y_3114.B), .sl false (L cApi_Value y_3114.L)] false, .box [i64 y_3118.Kind, i64 y_3118.N, .sl false (L cU8 y_3118.B), .sl false (L cApi_Value y_3118.L)] false, .box [i64 1, i64 0, .bs true 4 (l_3122.length) 0 (l_3122.length), .sl true (L cApi_Value ([]))] false, .buf 1 (L cU8 l_3122) false], orcs_ok (l := [(102, 16, [.agg [i64 1, i64 0, .sl false (L cU8 l_3122), .sl false (L cApi_Value ([]))]], i64 y_3212), (106, 16, [.agg [i64 y_3118.Kind, i64 y_3118.N, .sl false (L cU8 y_3118.B), .sl false (L cApi_Value y_3118.L)]], i64 y_3213), (110, 29, [i64 1], .agg [i64 y_3214.Kind, i64 y_3214.N, .sl false (L cU8 y_3214.B), .sl false (L cApi_Value y_3214.L)]), (111, 29, [i64 256], .agg [i64 y_3215.Kind, i64 y_3215.N, .sl false (L cU8 y_3215.B), .sl false (L cApi_Value y_3215.L)]), (112, 19, [.agg [i64 y_3214.Kind, i64 y_3214.N, .sl false (L cU8 y_3214.B), .sl false (L cApi_Value y_3214.L)], .agg [i64 y_3215.Kind, i64 y_3215.N, .sl false (L cU8 y_3215.B), .sl false (L cApi_Value y_3215.L)]], i64 y_3216)]) ⟨codec_Check_con  hy_3224, codec_Check_con  hy_3226, r01_Int_con  hy_3228, r01_Int_con  hy_3229, codec_Compare_con  hy_3230, trivial⟩, by simp only [go_sem, reduceIte, Nat.reduceLT, Nat.reduceEqDiff, Nat.reduceAdd, Nat.reduceBEq, Nat.reduceMul, Nat.reduceSub, Nat.reduceGT, Nat.reducePow, Nat.reduceLeDiff, Int.reduceToNat, hb_3225, hb_3227, hb_3231], (weak_sel [] (by decide) rfl (by simp only [go_sem, reduceIte, Nat.reduceLT, Nat.reduceEqDiff, Nat.reduceAdd, Nat.reduceBEq, Nat.reduceMul, Nat.reduceSub, Nat.reduceGT, Nat.reducePow, Nat.reduceLeDiff, Int.reduceToNat]) (by simp only [go_sem, reduceIte, Nat.reduceLT, Nat.reduceEqDiff, Nat.reduceAdd, Nat.reduceBEq, Nat.reduceMul, Nat.reduceSub, Nat.reduceGT, Nat.reducePow, Nat.reduceLeDiff, Int.reduceToNat]))⟩
                · replace hv_3223 := ite_f hv_3223 hb_3227
                  have e_hv_3223 := Option.some.inj hv_3223; subst e_hv_3223
                  exact ⟨_, [(0, .bool false)], [.box [i64 y_3112.Kind, i64 y_3112.N, .sl false (L cU8 y_3112.B), .sl false (L cApi_Value y_3112.L)] false, .box [i64 y_3114.Kind, i64 y_3114.N, .sl false (L cU8 y_3114.B), .sl false (L cApi_Value y_3114.L)] false, .box [i64 y_3118.Kind, i64 y_3118.N, .sl false (L cU8 y_3118.B), .sl false (L cApi_Value y_3118.L)] false, .box [i64 1, i64 0, .bs true 4 (l_3122.length) 0 (l_3122.length), .sl true (L cApi_Value ([]))] false, .buf 1 (L cU8 l_3122) false], orcs_ok (l := [(102, 16, [.agg [i64 1, i64 0, .sl false (L cU8 l_3122), .sl false (L cApi_Value ([]))]], i64 y_3212), (106, 16, [.agg [i64 y_3118.Kind, i64 y_3118.N, .sl false (L cU8 y_3118.B), .sl false (L cApi_Value y_3118.L)]], i64 y_3213)]) ⟨codec_Check_con  hy_3224, codec_Check_con  hy_3226, trivial⟩, by simp only [go_sem, reduceIte, Nat.reduceLT, Nat.reduceEqDiff, Nat.reduceAdd, Nat.reduceBEq, Nat.reduceMul, Nat.reduceSub, Nat.reduceGT, Nat.reducePow, Nat.reduceLeDiff, Int.reduceToNat, hb_3225, hb_3227], (weak_sel [] (by decide) rfl (by simp only [go_sem, reduceIte, Nat.reduceLT, Nat.reduceEqDiff, Nat.reduceAdd, Nat.reduceBEq, Nat.reduceMul, Nat.reduceSub, Nat.reduceGT, Nat.reducePow, Nat.reduceLeDiff, Int.reduceToNat]) (by simp only [go_sem, reduceIte, Nat.reduceLT, Nat.reduceEqDiff, Nat.reduceAdd, Nat.reduceBEq, Nat.reduceMul, Nat.reduceSub, Nat.reduceGT, Nat.reducePow, Nat.reduceLeDiff, Int.reduceToNat]))⟩
              · replace hv_3223 := ite_f hv_3223 hb_3225
                have e_hv_3223 := Option.some.inj hv_3223; subst e_hv_3223
                exact ⟨_, [(0, .bool false)], [.box [i64 y_3112.Kind, i64 y_3112.N, .sl false (L cU8 y_3112.B), .sl false (L cApi_Value y_3112.L)] false, .box [i64 y_3114.Kind, i64 y_3114.N, .sl false (L cU8 y_3114.B), .sl false (L cApi_Value y_3114.L)] false, .box [i64 y_3118.Kind, i64 y_3118.N, .sl false (L cU8 y_3118.B), .sl false (L cApi_Value y_3118.L)] false, .box [i64 1, i64 0, .bs true 4 (l_3122.length) 0 (l_3122.length), .sl true (L cApi_Value ([]))] false, .buf 1 (L cU8 l_3122) false], orcs_ok (l := [(102, 16, [.agg [i64 1, i64 0, .sl false (L cU8 l_3122), .sl false (L cApi_Value ([]))]], i64 y_3212)]) ⟨codec_Check_con  hy_3224, trivial⟩, by simp only [go_sem, reduceIte, Nat.reduceLT, Nat.reduceEqDiff, Nat.reduceAdd, Nat.reduceBEq, Nat.reduceMul, Nat.reduceSub, Nat.reduceGT, Nat.reducePow, Nat.reduceLeDiff, Int.reduceToNat, hb_3225], (weak_sel [] (by decide) rfl (by simp only [go_sem, reduceIte, Nat.reduceLT, Nat.reduceEqDiff, Nat.reduceAdd, Nat.reduceBEq, Nat.reduceMul, Nat.reduceSub, Nat.reduceGT, Nat.reducePow, Nat.reduceLeDiff, Int.reduceToNat]) (by simp only [go_sem, reduceIte, Nat.reduceLT, Nat.reduceEqDiff, Nat.reduceAdd, Nat.reduceBEq, Nat.reduceMul, Nat.reduceSub, Nat.reduceGT, Nat.reducePow, Nat.reduceLeDiff, Int.reduceToNat]))⟩
            refine run_ret ?_
            obtain rfl := Option.some.inj h
            refine ret_ok (.inr rfl) ?_
            simp only [go_sem, reduceIte, Nat.reduceLT, Nat.reduceEqDiff, Nat.reduceAdd, Nat.reduceBEq, Nat.reduceMul, Nat.reduceSub, Nat.reduceGT, Nat.reducePow, Nat.reduceLeDiff, Int.reduceToNat]

end Go.Proofs.Ytihncddenjbecaa
/-
  The functions compute just that.
-/
namespace Go.Proofs.Ytihncddenjbecaa
open Go.Rv
set_option linter.unusedVariables false
set_option linter.unusedSimpArgs false
set_option maxRecDepth 20000

theorem law01_CodecTotalOrder_con {u_3364 : Api_Value} {v_3365 : Api_Value} {w_3366 : Api_Value} {r : Bool} (h : law01_CodecTotalOrder u_3364 v_3365 w_3366 = some r) : Con B 9 [.agg [i64 u_3364.Kind, i64 u_3364.N, .sl false (L cU8 u_3364.B), .sl false (L cApi_Value u_3364.L)], .agg [i64 v_3365.Kind, i64 v_3365.N, .sl false (L cU8 v_3365.B), .sl false (L cApi_Value v_3365.L)], .agg [i64 w_3366.Kind, i64 w_3366.N, .sl false (L cU8 w_3366.B), .sl false (L cApi_Value w_3366.L)]] [] (fun r' σ' => r' = .bool r ∧ σ' = []) := by
  refine con_walk (N := 70) (rs := [.tmp 6]) ok Try.func9 rfl (by decide +kernel) rfl rfl (Nat.le_of_ble_eq_true rfl) (fun F => ?_)
  have hE := ok.env F
  unfold law01_CodecTotalOrder at h
  show Run (B.env F) 0 _ ⟨asFr 70 [(0, .agg [i64 u_3364.Kind, i64 u_3364.N, .sl false (L cU8 u_3364.B), .sl false (L cApi_Value u_3364.L)]), (1, .agg [i64 v_3365.Kind, i64 v_3365.N, .sl false (L cU8 v_3365.B), .sl false (L cApi_Value v_3365.L)]), (2, .agg [i64 w_3366.Kind, i64 w_3366.N, .sl false (L cU8 w_3366.B), .sl false (L cApi_Value w_3366.L)])], []⟩ _
  refine run_textE hE [3, 4, 5] (fr' := [(3, .ref 0 0), (4, .ref 1 0), (5, .ref 2 0)]) (σ' := [.box [i64 u_3364.Kind, i64 u_3364.N, .sl false (L cU8 u_3364.B), .sl false (L cApi_Value u_3364.L)] false, .box [i64 v_3365.Kind, i64 v_3365.N, .sl false (L cU8 v_3365.B), .sl false (L cApi_Value v_3365.L)] false, .box [i64 w_3366.Kind, i64 w_3366.N, .sl false (L cU8 w_3366.B), .sl false (L cApi_Value w_3366.L)] false]) ⟨_, orcs_nil, ?_⟩ ?_
  · simp only [go_sem, reduceIte, Nat.reduceLT, Nat.reduceEqDiff, Nat.reduceAdd, Nat.reduceBEq, Nat.reduceMul, Nat.reduceSub, Nat.reduceGT, Nat.reducePow, Nat.reduceLeDiff, Int.reduceToNat]
  refine run_seq ?_
  replace h := bind_some1 h; obtain ⟨y_3367, hy_3368, h⟩ := h
  refine run_textE hE [3, 4, 5, 11] (fr' := [(3, .ref 0 0), (4, .ref 1 0), (5, .ref 2 0), (11, .bool ((!y_3367)))]) (σ' := [.box [i64 u_3364.Kind, i64 u_3364.N, .sl false (L cU8 u_3364.B), .sl false (L cApi_Value u_3364.L)] false, .box [i64 v_3365.Kind, i64 v_3365.N, .sl false (L cU8 v_3365.B), .sl false (L cApi_Value v_3365.L)] false, .box [i64 w_3366.Kind, i64 w_3366.N, .sl false (L cU8 w_3366.B), .sl false (L cApi_Value w_3366.L)] false]) ⟨_, orcs_ok (l := [(10, 13, [], .bool y_3367)]) ⟨law01_sane_con  hy_3368, trivial⟩, ?_⟩ ?_
  · simp only [go_sem, reduceIte, Nat.reduceLT, Nat.reduceEqDiff, Nat.reduceAdd, Nat.reduceBEq, Nat.reduceMul, Nat.reduceSub, Nat.reduceGT, Nat.reducePow, Nat.reduceLeDiff, Int.reduceToNat]
  refine run_condL (b := (!y_3367)) rfl (by decide) (fun hb => ?_) (fun hb => ?_)
  · replace h := ite_t h hb
    refine run_textE hE [6] (fr' := [(6, .bool false)]) (σ' := [.box [i64 u_3364.Kind, i64 u_3364.N, .sl false (L cU8 u_3364.B), .sl false (L cApi_Value u_3364.L)] false, .box [i64 v_3365.Kind, i64 v_3365.N, .sl false (L cU8 v_3365.B), .sl false (L cApi_Value v_3365.L)] false, .box [i64 w_3366.Kind, i64 w_3366.N, .sl false (L cU8 w_3366.B), .sl false (L cApi_Value w_3366.L)] false]) ⟨_, orcs_nil, ?_⟩ ?_
    · simp only [go_sem, reduceIte, Nat.reduceLT, Nat.reduceEqDiff, Nat.reduceAdd, Nat.reduceBEq, Nat.reduceMul, Nat.reduceSub, Nat.reduceGT, Nat.reducePow, Nat.reduceLeDiff, Int.reduceToNat]
    refine run_ret ?_
    refine thenK_r ?_
    obtain rfl := Option.some.inj h
    refine ret_ok (.inr rfl) ?_
    simp only [go_sem, reduceIte, Nat.reduceLT, Nat.reduceEqDiff, Nat.reduceAdd, Nat.reduceBEq, Nat.reduceMul, Nat.reduceSub, Nat.reduceGT, Nat.reducePow, Nat.reduceLeDiff, Int.reduceToNat]
  · replace h := ite_f h hb
    refine run_skip ?_
    refine thenK_n ?_
    replace h := bind_some1 h; obtain ⟨y_3369, hy_3370, h⟩ := h
    refine run_textE hE [3, 4, 5, 7] (fr' := [(3, .ref 0 0), (4, .ref 1 0), (5, .ref 2 0), (7, i64 y_3369)]) (σ' := [.box [i64 u_3364.Kind, i64 u_3364.N, .sl false (L cU8 u_3364.B), .sl false (L cApi_Value u_3364.L)] false, .box [i64 v_3365.Kind, i64 v_3365.N, .sl false (L cU8 v_3365.B), .sl false (L cApi_Value v_3365.L)] false, .box [i64 w_3366.Kind, i64 w_3366.N, .sl false (L cU8 w_3366.B), .sl false (L cApi_Value w_3366.L)] false]) ⟨_, orcs_ok (l := [(14, 19, [.agg [i64 u_3364.Kind, i64 u_3364.N, .sl false (L cU8 u_3364.B), .sl false (L cApi_Value u_3364.L)], .agg [i64 v_3365.Kind, i64 v_3365.N, .sl false (L cU8 v_3365.B), .sl false (L cApi_Value v_3365.L)]], i64 y_3369)]) ⟨codec_Compare_con  hy_3370, trivial⟩, ?_⟩ ?_
    · simp only [go_sem, reduceIte, Nat.reduceLT, Nat.reduceEqDiff, Nat.reduceAdd, Nat.reduceBEq, Nat.reduceMul, Nat.reduceSub, Nat.reduceGT, Nat.reducePow, Nat.reduceLeDiff, Int.reduceToNat]
    replace h := bind_some1 h; obtain ⟨y_3371, hy_3372, h⟩ := h
    refine run_textE hE [3, 4, 5, 7, 8] (fr' := [(3, .ref 0 0), (4, .ref 1 0), (5, .ref 2 0), (7, i64 y_3369), (8, i64 y_3371)]) (σ' := [.box [i64 u_3364.Kind, i64 u_3364.N, .sl false (L cU8 u_3364.B), .sl false (L cApi_Value u_3364.L)] false, .box [i64 v_3365.Kind, i64 v_3365.N, .sl false (L cU8 v_3365.B), .sl false (L cApi_Value v_3365.L)] false, .box [i64 w_3366.Kind, i64 w_3366.N, .sl false (L cU8 w_3366.B), .sl false (L cApi_Value w_3366.L)] false]) ⟨_, orcs_ok (l := [(17, 19, [.agg [i64 v_3365.Kind, i64 v_3365.N, .sl false (L cU8 v_3365.B), .sl false (L cApi_Value v_3365.L)], .agg [i64 w_3366.Kind, i64 w_3366.N, .sl false (L cU8 w_3366.B), .sl false (L cApi_Value w_3366.L)]], i64 y_3371)]) ⟨codec_Compare_con  hy_3372, trivial⟩, ?_⟩ ?_
    · simp only [go_sem, reduceIte, Nat.reduceLT, Nat.reduceEqDiff, Nat.reduceAdd, Nat.reduceBEq, Nat.reduceMul, Nat.reduceSub, Nat.reduceGT, Nat.reducePow, Nat.reduceLeDiff, Int.reduceToNat]
    replace h := bind_some1 h; obtain ⟨y_3373, hy_3374, h⟩ := h
    refine run_textE hE [3, 4, 7, 8, 9] (fr' := [(3, .ref 0 0), (4, .ref 1 0), (7, i64 y_3369), (8, i64 y_3371), (9, i64 y_3373)]) (σ' := [.box [i64 u_3364.Kind, i64 u_3364.N, .sl false (L cU8 u_3364.B), .sl false (L cApi_Value u_3364.L)] false, .box [i64 v_3365.Kind, i64 v_3365.N, .sl false (L cU8 v_3365.B), .sl false (L cApi_Value v_3365.L)] false, .box [i64 w_3366.Kind, i64 w_3366.N, .sl false (L cU8 w_3366.B), .sl false (L cApi_Value w_3366.L)] false]) ⟨_, orcs_ok (l := [(20, 19, [.agg [i64 u_3364.Kind, i64 u_3364.N, .sl false (L cU8 u_3364.B), .sl false (L cApi_Value u_3364.L)], .agg [i64 w_3366.Kind, i64 w_3366.N, .sl false (L cU8 w_3366.B), .sl false (L cApi_Value w_3366.L)]], i64 y_3373)]) ⟨codec_Compare_con  hy_3374, trivial⟩, ?_⟩ ?_
    · simp only [go_sem, reduceIte, Nat.reduceLT, Nat.reduceEqDiff, Nat.reduceAdd, Nat.reduceBEq, Nat.reduceMul, Nat.reduceSub, Nat.reduceGT, Nat.reducePow, Nat.reduceLeDiff, Int.reduceToNat]
    refine run_seq ?_
    replace h := bind_some1 h; obtain ⟨t_3377, hv_3378, h⟩ := h
    refine run_textW hE [7, 8, 9, 40] (fr' := [(7, i64 y_3369), (8, i64 y_3371), (9, i64 y_3373), (40, .bool t_3377)]) (σ' := []) ?_ ?_
    · rcases Bool.eq_false_or_eq_true ((decide (y_3369 < (-1)))) with hb_3379 | hb_3379
      · replace hv_3378 := ite_t hv_3378 hb_3379
        have e_hv_3378 := Option.some.inj hv_3378; subst e_hv_3378
        exact ⟨_, [(7, i64 y_3369), (8, i64 y_3371), (9, i64 y_3373), (40, .bool true)], [.box [i64 u_3364.Kind, i64 u_3364.N, .sl false (L cU8 u_3364.B), .sl false (L cApi_Value u_3364.L)] false, .box [i64 v_3365.Kind, i64 v_3365.N, .sl false (L cU8 v_3365.B), .sl false (L cApi_Value v_3365.L)] false, .box [i64 w_3366.Kind, i64 w_3366.N, .sl false (L cU8 w_3366.B), .sl false (L cApi_Value w_3366.L)] false], orcs_nil, by simp only [go_sem, reduceIte, Nat.reduceLT, Nat.reduceEqDiff, Nat.reduceAdd, Nat.reduceBEq, Nat.reduceMul, Nat.reduceSub, Nat.reduceGT, Nat.reducePow, Nat.reduceLeDiff, Int.reduceToNat, hb_3379], (weak_sel [] (by decide) rfl (by simp only [go_sem, reduceIte, Nat.reduceLT, Nat.reduceEqDiff, Nat.reduceAdd, Nat.reduceBEq, Nat.reduceMul, Nat.reduceSub, Nat.reduceGT, Nat.reducePow, Nat.reduceLeDiff, Int.reduceToNat]) (by simp only [go_sem, reduceIte, Nat.reduceLT, Nat.reduceEqDiff, Nat.reduceAdd, Nat.reduceBEq, Nat.reduceMul, Nat.reduceSub, Nat.reduceGT, Nat.reducePow, Nat.reduceLeDiff, Int.reduceToNat]))⟩
      · replace hv_3378 := ite_f hv_3378 hb_3379
        rcases Bool.eq_false_or_eq_true ((decide (y_3369 > 1))) with hb_3380 | hb_3380
        · replace hv_3378 := ite_t hv_3378 hb_3380
          have e_hv_3378 := Option.some.inj hv_3378; subst e_hv_3378
          exact ⟨_, [(7, i64 y_3369), (8, i64 y_3371), (9, i64 y_3373), (40, .bool true)], [.box [i64 u_3364.Kind, i64 u_3364.N, .sl false (L cU8 u_3364.B), .sl false (L cApi_Value u_3364.L)] false, .box [i64 v_3365.Kind, i64 v_3365.N, .sl false (L cU8 v_3365.B), .sl false (L cApi_Value v_3365.L)] false, .box [i64 w_3366.Kind, i64 w_3366.N, .sl false (L cU8 w_3366.B), .sl false (L cApi_Value w_3366.L)] false], orcs_nil, by simp only [go_sem, reduceIte, Nat.reduceLT, Nat.reduceEqDiff, Nat.reduceAdd, Nat.reduceBEq, Nat.reduceMul, Nat.reduceSub, Nat.reduceGT, Nat.reducePow, Nat.reduceLeDiff, Int.reduceToNat, hb_3379, hb_3380], (weak_sel [] (by decide) rfl (by simp only [go_sem, reduceIte, Nat.reduceLT, Nat.reduceEqDiff, Nat.reduceAdd, Nat.reduceBEq, Nat.reduceMul, Nat.reduceSub, Nat.reduceGT, Nat.reducePow, Nat.reduceLeDiff, Int.reduceToNat]) (by simp only [go_sem, reduceIte, Nat.reduceLT, Nat.reduceEqDiff, Nat.reduceAdd, Nat.reduceBEq, Nat.reduceMul, Nat.reduceSub, Nat.reduceGT, Nat.reducePow, Nat.reduceLeDiff, Int.reduceToNat]))⟩
        · replace hv_3378 := ite_f hv_3378 hb_3380
          replace hv_3378 := bind_some1 hv_3378; obtain ⟨y_3375, hy_3381, hv_3378⟩ := hv_3378
          rcases Bool.eq_false_or_eq_true ((y_3375 != (w64 (0 - y_3369)))) with hb_3382 | hb_3382
          · replace hv_3378 := ite_t hv_3378 hb_3382
            have e_hv_3378 := Option.some.inj hv_3378; subst e_hv_3378
            exact ⟨_, [(7, i64 y_3369), (8, i64 y_3371), (9, i64 y_3373), (40, .bool true)], [.box [i64 u_3364.Kind, i64 u_3364.N, .sl false (L cU8 u_3364.B), .sl false (L cApi_Value u_3364.L)] false, .box [i64 v_3365.Kind, i64 v_3365.N, .sl false (L cU8 v_3365.B), .sl false (L cApi_Value v_3365.L)] false, .box [i64 w_3366.Kind, i64 w_3366.N, .sl false (L cU8 w_3366.B), .sl false (L cApi_Value w_3366.L)] false], orcs_ok (l := [(30, 19, [.agg [i64 v_3365.Kind, i64 v_3365.N, .sl false (L cU8 v_3365.B), .sl false (L cApi_Value v_3365.L)], .agg [i64 u_3364.Kind, i64 u_3364.N, .sl false (L cU8 u_3364.B), .sl false (L cApi_Value u_3364.L)]], i64 y_3375)]) ⟨codec_Compare_con  hy_3381, trivial⟩, by simp only [go_sem, reduceIte, Nat.reduceLT, Nat.reduceEqDiff, Nat.reduceAdd, Nat.reduceBEq, Nat.reduceMul, Nat.reduceSub, Nat.reduceGT, Nat.reducePow, Nat.reduceLeDiff, Int.reduceToNat, hb_3379, hb_3380, hb_3382], (weak_sel [] (by decide) rfl (by simp only [go_sem, reduceIte, Nat.reduceLT, Nat.reduceEqDiff, Nat.reduceAdd, Nat.reduceBEq, Nat.reduceMul, Nat.reduceSub, Nat.reduceGT, Nat.reducePow, Nat.reduceLeDiff, Int.reduceToNat]) (by simp only [go_sem, reduceIte, Nat.reduceLT, Nat.reduceEqDiff, Nat.reduceAdd, Nat.reduceBEq, Nat.reduceMul, Nat.reduceSub, Nat.reduceGT, Nat.reducePow, Nat.reduceLeDiff, Int.reduceToNat]))⟩
          · replace hv_3378 := ite_f hv_3378 hb_3382
            replace hv_3378 := bind_some1 hv_3378; obtain ⟨y_3376, hy_3383, hv_3378⟩ := hv_3378
            have e_hv_3378 := Option.some.inj hv_3378; subst e_hv_3378
            exact ⟨_, [(7, i64 y_3369), (8, i64 y_3371), (9, i64 y_3373), (40, .bool ((y_3376 != 0)))], [.box [i64 u_3364.Kind, i64 u_3364.N, .sl false (L cU8 u_3364.B), .sl false (L cApi_Value u_3364.L)] false, .box [i64 v_3365.Kind, i64 v_3365.N, .sl false (L cU8 v_3365.B), .sl false (L cApi_Value v_3365.L)] false, .box [i64 w_3366.Kind, i64 w_3366.N, .sl false (L cU8 w_3366.B), .sl false (L cApi_Value w_3366.L)] false], orcs_ok (l := [(30, 19, [.agg [i64 v_3365.Kind, i64 v_3365.N, .sl false (L cU8 v_3365.B), .sl false (L cApi_Value v_3365.L)], .agg [i64 u_3364.Kind, i64 u_3364.N, .sl false (L cU8 u_3364.B), .sl false (L cApi_Value u_3364.L)]], i64 y_3375), (38, 19, [.agg [i64 u_3364.Kind, i64 u_3364.N, .sl false (L cU8 u_3364.B), .sl false (L cApi_Value u_3364.L)], .agg [i64 u_3364.Kind, i64 u_3364.N, .sl false (L cU8 u_3364.B), .sl false (L cApi_Value u_3364.L)]], i64 y_3376)]) ⟨codec_Compare_con  hy_3381, codec_Compare_con  hy_3383, trivial⟩, by simp only [go_sem, reduceIte, Nat.reduceLT, Nat.reduceEqDiff, Nat.reduceAdd, Nat.reduceBEq, Nat.reduceMul, Nat.reduceSub, Nat.reduceGT, Nat.reducePow, Nat.reduceLeDiff, Int.reduceToNat, hb_3379, hb_3380, hb_3382], (weak_sel [] (by decide) rfl (by simp only [go_sem, reduceIte, Nat.reduceLT, Nat.reduceEqDiff, Nat.reduceAdd, Nat.reduceBEq, Nat.reduceMul, Nat.reduceSub, Nat.reduceGT, Nat.reducePow, Nat.reduceLeDiff, Int.reduceToNat]) (by simp only [go_sem, reduceIte, Nat.reduceLT, Nat.reduceEqDiff, Nat.reduceAdd, Nat.reduceBEq, Nat.reduceMul, Nat.reduceSub, Nat.reduceGT, Nat.reducePow, Nat.reduceLeDiff, Int.reduceToNat]))⟩
    refine run_condL (b := t_3377) rfl (by decide) (fun hb => ?_) (fun hb => ?_)
    · replace h := ite_t h hb
      refine run_textE hE [6] (fr' := [(6, .bool false)]) (σ' := []) ⟨_, orcs_nil, ?_⟩ ?_
      · simp only [go_sem, reduceIte, Nat.reduceLT, Nat.reduceEqDiff, Nat.reduceAdd, Nat.reduceBEq, Nat.reduceMul, Nat.reduceSub, Nat.reduceGT, Nat.reducePow, Nat.reduceLeDiff, Int.reduceToNat]
      refine run_ret ?_
      refine thenK_r ?_
      obtain rfl := Option.some.inj h
      refine ret_ok (.inr rfl) ?_
      simp only [go_sem, reduceIte, Nat.reduceLT, Nat.reduceEqDiff, Nat.reduceAdd, Nat.reduceBEq, Nat.reduceMul, Nat.reduceSub, Nat.reduceGT, Nat.reducePow, Nat.reduceLeDiff, Int.reduceToNat]
    · replace h := ite_f h hb
      refine run_skip ?_
      refine thenK_n ?_
      refine run_seq ?_
      replace h := bind_some1 h; obtain ⟨t_3384, hv_3385, h⟩ := h
      refine run_textW hE [7, 8, 9, 46] (fr' := [(7, i64 y_3369), (8, i64 y_3371), (9, i64 y_3373), (46, .bool t_3384)]) (σ' := []) ?_ ?_
      · rcases Bool.eq_false_or_eq_true ((decide (y_3369 ≤ 0))) with hb_3386 | hb_3386
        · replace hv_3385 := ite_t hv_3385 hb_3386
          have e_hv_3385 := Option.some.inj hv_3385; subst e_hv_3385
          exact ⟨_, [(7, i64 y_3369), (8, i64 y_3371), (9, i64 y_3373), (46, .bool ((decide (y_3371 ≤ 0))))], [], orcs_nil, by simp only [go_sem, reduceIte, Nat.reduceLT, Nat.reduceEqDiff, Nat.reduceAdd, Nat.reduceBEq, Nat.reduceMul, Nat.reduceSub, Nat.reduceGT, Nat.reducePow, Nat.reduceLeDiff, Int.reduceToNat, hb_3386], (weak_sel [] (by decide) rfl (by simp only [go_sem, reduceIte, Nat.reduceLT, Nat.reduceEqDiff, Nat.reduceAdd, Nat.reduceBEq, Nat.reduceMul, Nat.reduceSub, Nat.reduceGT, Nat.reducePow, Nat.reduceLeDiff, Int.reduceToNat]) (by simp only [go_sem, reduceIte, Nat.reduceLT, Nat.reduceEqDiff, Nat.reduceAdd, Nat.reduceBEq, Nat.reduceMul, Nat.reduceSub, Nat.reduceGT, Nat.reducePow, Nat.reduceLeDiff, Int.reduceToNat]))⟩
        · replace hv_3385 := ite_f hv_3385 hb_3386
          have e_hv_3385 := Option.some.inj hv_3385; subst e_hv_3385
          exact ⟨_, [(7, i64 y_3369), (8, i64 y_3371), (9, i64 y_3373), (46, .bool false)], [], orcs_nil, by simp only [go_sem, reduceIte, Nat.reduceLT, Nat.reduceEqDiff, Nat.reduceAdd, Nat.reduceBEq, Nat.reduceMul, Nat.reduceSub, Nat.reduceGT, Nat.reducePow, Nat.reduceLeDiff, Int.reduceToNat, hb_3386], (weak_sel [] (by decide) rfl (by simp only [go_sem, reduceIte, Nat.reduceLT, Nat.reduceEqDiff, Nat.reduceAdd, Nat.reduceBEq, Nat.reduceMul, Nat.reduceSub, Nat.reduceGT, Nat.reducePow, Nat.reduceLeDiff, Int.reduceToNat]) (by simp only [go_sem, reduceIte, Nat.reduceLT, Nat.reduceEqDiff, Nat.reduceAdd, Nat.reduceBEq, Nat.reduceMul, Nat.reduceSub, Nat.reduceGT, Nat.reducePow, Nat.reduceLeDiff, Int.reduceToNat]))⟩
      refine run_condL (b := t_3384) rfl (by decide) (fun hb => ?_) (fun hb => ?_)
      · replace h := ite_t h hb
        replace h := bind_some1 h; obtain ⟨t_3387, hv_3388, h⟩ := h
        refine run_textW hE [6] (fr' := [(6, .bool t_3387)]) (σ' := []) ?_ ?_
        · rcases Bool.eq_false_or_eq_true ((decide (y_3373 ≤ 0))) with hb_3389 | hb_3389
          · replace hv_3388 := ite_t hv_3388 hb_3389
            rcases Bool.eq_false_or_eq_true ((y_3369 == 0)) with hb_3390 | hb_3390
            · replace hv_3388 := ite_t hv_3388 hb_3390
              have e_hv_3388 := Option.some.inj hv_3388; subst e_hv_3388
              exact ⟨_, [(6, .bool (((y_3373 == 0) == (y_3371 == 0))))], [], orcs_nil, by simp only [go_sem, reduceIte, Nat.reduceLT, Nat.reduceEqDiff, Nat.reduceAdd, Nat.reduceBEq, Nat.reduceMul, Nat.reduceSub, Nat.reduceGT, Nat.reducePow, Nat.reduceLeDiff, Int.reduceToNat, hb_3389, hb_3390], (weak_sel [] (by decide) rfl (by simp only [go_sem, reduceIte, Nat.reduceLT, Nat.reduceEqDiff, Nat.reduceAdd, Nat.reduceBEq, Nat.reduceMul, Nat.reduceSub, Nat.reduceGT, Nat.reducePow, Nat.reduceLeDiff, Int.reduceToNat]) (by simp only [go_sem, reduceIte, Nat.reduceLT, Nat.reduceEqDiff, Nat.reduceAdd, Nat.reduceBEq, Nat.reduceMul, Nat.reduceSub, Nat.reduceGT, Nat.reducePow, Nat.reduceLeDiff, Int.reduceToNat]))⟩
            · replace hv_3388 := ite_f hv_3388 hb_3390
              have e_hv_3388 := Option.some.inj hv_3388; subst e_hv_3388
              exact ⟨_, [(6, .bool (((y_3373 == 0) == false)))], [], orcs_nil, by simp only [go_sem, reduceIte, Nat.reduceLT, Nat.reduceEqDiff, Nat.reduceAdd, Nat.reduceBEq, Nat.reduceMul, Nat.reduceSub, Nat.reduceGT, Nat.reducePow, Nat.reduceLeDiff, Int.reduceToNat, hb_3389, hb_3390], (weak_sel [] (by decide) rfl (by simp only [go_sem, reduceIte, Nat.reduceLT, Nat.reduceEqDiff, Nat.reduceAdd, Nat.reduceBEq, Nat.reduceMul, Nat.reduceSub, Nat.reduceGT, Nat.reducePow, Nat.reduceLeDiff, Int.reduceToNat]) (by simp only [go_sem, reduceIte, Nat.reduceLT, Nat.reduceEqDiff, Nat.reduceAdd, Nat.reduceBEq, Nat.reduceMul, Nat.reduceSub, Nat.reduceGT, Nat.reducePow, Nat.reduceLeDiff, Int.reduceToNat]))⟩
          · replace hv_3388 := ite_f hv_3388 hb_3389
            have e_hv_3388 := Option.some.inj hv_3388; subst e_hv_3388
            exact ⟨_, [(6, .bool false)], [], orcs_nil, by simp only [go_sem, reduceIte, Nat.reduceLT, Nat.reduceEqDiff, Nat.reduceAdd, Nat.reduceBEq, Nat.reduceMul, Nat.reduceSub, Nat.reduceGT, Nat.reducePow, Nat.reduceLeDiff, Int.reduceToNat, hb_3389], (weak_sel [] (by decide) rfl (by simp only [go_sem, reduceIte, Nat.reduceLT, Nat.reduceEqDiff, Nat.reduceAdd, Nat.reduceBEq, Nat.reduceMul, Nat.reduceSub, Nat.reduceGT, Nat.reducePow, Nat.reduceLeDiff, Int.reduceToNat]) (by simp only [go_sem, reduceIte, Nat.reduceLT, Nat.reduceEqDiff, Nat.reduceAdd, Nat.reduceBEq, Nat.reduceMul, Nat.reduceSub, Nat.reduceGT, Nat.reducePow, Nat.reduceLeDiff, Int.reduceToNat]))⟩
        refine run_ret ?_
        refine thenK_r ?_
        obtain rfl := Option.some.inj h
        refine ret_ok (.inr rfl) ?_
        simp only [go_sem, reduceIte, Nat.reduceLT, Nat.reduceEqDiff, Nat.reduceAdd, Nat.reduceBEq, Nat.reduceMul, Nat.reduceSub, Nat.reduceGT, Nat.reducePow, Nat.reduceLeDiff, Int.reduceToNat]
      · replace h := ite_f h hb
        refine run_skip ?_
        refine thenK_n ?_
        replace h := bind_some1 h; obtain ⟨t_3391, hv_3392, h⟩ := h
        refine run_textW hE [6] (fr' := [(6, .bool t_3391)]) (σ' := []) ?_ ?_
        · rcases Bool.eq_false_or_eq_true ((decide (y_3369 < 0))) with hb_3393 | hb_3393
          · replace hv_3392 := ite_t hv_3392 hb_3393
            have e_hv_3392 := Option.some.inj hv_3392; subst e_hv_3392
            exact ⟨_, [(6, .bool true)], [], orcs_nil, by simp only [go_sem, reduceIte, Nat.reduceLT, Nat.reduceEqDiff, Nat.reduceAdd, Nat.reduceBEq, Nat.reduceMul, Nat.reduceSub, Nat.reduceGT, Nat.reducePow, Nat.reduceLeDiff, Int.reduceToNat, hb_3393], (weak_sel [] (by decide) rfl (by simp only [go_sem, reduceIte, Nat.reduceLT, Nat.reduceEqDiff, Nat.reduceAdd, Nat.reduceBEq, Nat.reduceMul, Nat.reduceSub, Nat.reduceGT, Nat.reducePow, Nat.reduceLeDiff, Int.reduceToNat]) (by simp only [go_sem, reduceIte, Nat.reduceLT, Nat.reduceEqDiff, Nat.reduceAdd, Nat.reduceBEq, Nat.reduceMul, Nat.reduceSub, Nat.reduceGT, Nat.reducePow, Nat.reduceLeDiff, Int.reduceToNat]))⟩
          · replace hv_3392 := ite_f hv_3392 hb_3393
            rcases Bool.eq_false_or_eq_true ((decide (y_3371 < 0))) with hb_3394 | hb_3394
            · replace hv_3392 := ite_t hv_3392 hb_3394
              have e_hv_3392 := Option.some.inj hv_3392; subst e_hv_3392
              exact ⟨_, [(6, .bool true)], [], orcs_nil, by simp only [go_sem, reduceIte, Nat.reduceLT, Nat.reduceEqDiff, Nat.reduceAdd, Nat.reduceBEq, Nat.reduceMul, Nat.reduceSub, Nat.reduceGT, Nat.reducePow, Nat.reduceLeDiff, Int.reduceToNat, hb_3393, hb_3394], (weak_sel [] (by decide) rfl (by simp only [go_sem, reduceIte, Nat.reduceLT, Nat.reduceEqDiff, Nat.reduceAdd, Nat.reduceBEq, Nat.reduceMul, Nat.reduceSub, Nat.reduceGT, Nat.reducePow, Nat.reduceLeDiff, Int.reduceToNat]) (by simp only [go_sem, reduceIte, Nat.reduceLT, Nat.reduceEqDiff, Nat.reduceAdd, Nat.reduceBEq, Nat.reduceMul, Nat.reduceSub, Nat.reduceGT, Nat.reducePow, Nat.reduceLeDiff, Int.reduceToNat]))⟩
            · replace hv_3392 := ite_f hv_3392 hb_3394
              have e_hv_3392 := Option.some.inj hv_3392; subst e_hv_3392
              exact ⟨_, [(6, .bool ((decide (y_3373 ≥ 0))))], [], orcs_nil, by simp only [go_sem, reduceIte, Nat.reduceLT, Nat.reduceEqDiff, Nat.reduceAdd, Nat.reduceBEq, Nat.reduceMul, Nat.reduceSub, Nat.reduceGT, Nat.reducePow, Nat.reduceLeDiff, Int.reduceToNat, hb_3393, hb_3394], (weak_sel [] (by decide) rfl (by simp only [go_sem, reduceIte, Nat.reduceLT, Nat.reduceEqDiff, Nat.reduceAdd, Nat.reduceBEq, Nat.reduceMul, Nat.reduceSub, Nat.reduceGT, Nat.reducePow, Nat.reduceLeDiff, Int.reduceToNat]) (by simp only [go_sem, reduceIte, Nat.reduceLT, Nat.reduceEqDiff, Nat.reduceAdd, Nat.reduceBEq, Nat.reduceMul, Nat.reduceSub, Nat.reduceGT, Nat.reducePow, Nat.reduceLeDiff, Int.reduceToNat]))⟩
        refine run_ret ?_
        obtain rfl := Option.some.inj h
        refine ret_ok (.inr rfl) ?_
        simp only [go_sem, reduceIte, Nat.reduceLT, Nat.reduceEqDiff, Nat.reduceAdd, Nat.reduceBEq, Nat.reduceMul, Nat.reduceSub, Nat.reduceGT, Nat.reducePow, Nat.reduceLeDiff, Int.reduceToNat]

end Go.Proofs.Ytihncddenjbecaa
/-
  The encoder, the recursive functions: shape, appendValue, Encode.
-/
namespace Go.Proofs.Ytihncddenjbecaa
open Go.Rv
set_option linter.unusedVariables false
set_option linter.unusedSimpArgs false

theorem nth_mem {l : List Api_Value} {k : Nat} (h : k < l.length) : nth l k = l[k] := by simp [nth, List.getD_eq_getElem?_getD, h]

theorem len0 {α : Type} (l : List α) : ((l.length : Int) == 0) = (l.length == 0) := by
  cases l with
  | nil => rfl
  | cons a l => simp; omega
theorem shpL_nil (d : Int) : shpL d [] = (d + 1, true) := by unfold shpL; rfl
theorem shpL_cons (d : Int) (x : Api_Value) (l : List Api_Value) : shpL d (x :: l) = if (shpV x).2 = true then shpL (mx64 d (shpV x).1) l else (0, false) := by
  conv => lhs; unfold shpL

/-! ### Shape -/
theorem shape_loop (v : Api_Value) (rec_ : Api_Value → Option (Int × Bool)) (hr : ∀ x ∈ v.L, rec_ x = some (shpV x)) (hs : szV v ≤ 1099511627776) :
    ∃ x, loopO (fun (s : Int × Int) => codec_shape_b1 v rec_ s.1 s.2) (0, 0) = some x ∧
      ((∃ d : Int, shpL 0 v.L = (d + 1, true) ∧ 0 ≤ d ∧ d ≤ 1099511627776 ∧ x = .inl d) ∨ (shpL 0 v.L = (0, false) ∧ x = .inr (.inr (.inr (0, false))))) := by
  have hsz := szV_eq v
  have hlen := szVs_len v.L
  refine loopO_rule (f := fun (s : Int × Int) => codec_shape_b1 v rec_ s.1 s.2)
    (fun s => ∃ k : Nat, s.2 = (k : Int) ∧ k ≤ v.L.length ∧ 0 ≤ s.1 ∧ s.1 ≤ 1099511627776 ∧ shpL 0 v.L = shpL s.1 (v.L.drop k)) (fun s => v.L.length - s.2.toNat) _ ?_ ⟨0, rfl, Nat.zero_le _, by simp, by simp, rfl⟩ (by omega)
  rintro ⟨d, t⟩ ⟨k, ht, hk, hd0, hd1, hsp⟩
  simp only at ht hd0 hd1 hsp
  subst ht
  by_cases hkl : k < v.L.length
  · have hx : v.L.drop k = v.L[k] :: v.L.drop (k + 1) := List.drop_eq_getElem_cons hkl
    have hm : v.L[k] ∈ v.L := List.getElem_mem hkl
    have hsx := szVs_mem hm
    have hle := shpV_le v.L[k]
    rw [hx, shpL_cons] at hsp
    have hb : codec_shape_b1 v rec_ d (k : Int) = if (!(shpV v.L[k]).2) = true then some (.inr (.inr (.inr (.inr (0, false))))) else some (.inl (mx64 d (shpV v.L[k]).1, ((k + 1 : Nat) : Int))) := by
      unfold codec_shape_b1
      rw [if_pos (by simp; omega), if_pos (inR_of hkl)]
      simp only [Int.toNat_natCast, nth_mem hkl, lt1, value_eta]
      refine (e_bindT (hr _ hm)).trans ?_
      rw [e_succ (by omega)]
      rfl
    by_cases hg : (shpV v.L[k]).2 = true
    · left
      rw [if_pos hg] at hsp
      rw [if_neg (by simp [hg])] at hb
      refine ⟨_, hb, ⟨k + 1, rfl, hkl, ?_, ?_, hsp⟩, ?_⟩
      · simp only [mx64]; split <;> omega
      · simp only [mx64]; split <;> omega
      · simp only [Int.toNat_natCast]; omega
    · right
      rw [if_neg hg] at hsp
      rw [if_pos (by simp [hg])] at hb
      exact ⟨_, hb, .inr ⟨hsp, rfl⟩⟩
  · right
    have hkk : k = v.L.length := by omega
    subst hkk
    rw [List.drop_length, shpL_nil] at hsp
    refine ⟨.inl d, ?_, .inl ⟨d, hsp, hd0, hd1, rfl⟩⟩
    show codec_shape_b1 v rec_ d ((v.L.length : Nat) : Int) = _
    unfold codec_shape_b1
    rw [if_neg (by simp)]

theorem shape_n : ∀ (n : Nat) (v : Api_Value), szV v < n → szV v ≤ 1099511627776 → codec_shape_n n v = some (shpV v)
  | 0, v, h, _ => absurd h (Nat.not_lt_zero _)
  | n + 1, v, h, hs => by
    show codec_shape_F (codec_shape_n n) v = _
    have hsz := szV_eq v
    obtain ⟨x, hx, hq⟩ := shape_loop v (codec_shape_n n) (fun y hy => shape_n n y (by have := szVs_mem hy; omega) (by have := szVs_mem hy; omega)) hs
    have hv : shpV v = if v.Kind = 1 then (0, v.B.length == 0 && v.L.length == 0) else if v.Kind = 2 then (0, v.N == 0 && v.L.length == 0) else if v.Kind = 3 then (if v.N = 0 ∧ v.B.length = 0 then shpL 0 v.L else (0, false)) else (0, false) := by
      cases v with
      | mk k n b l => unfold shpV; rfl
    rw [hv]
    unfold codec_shape_F
    by_cases h1 : v.Kind = 1
    · rw [if_pos (by simp [h1]), if_pos h1]
      rw [len0, len0]
      by_cases hb : v.B.length = 0
      · simp [hb]
      · have : (v.B.length == 0) = false := by simpa using hb
        simp [this]
    · rw [if_neg (by simp [h1]), if_neg h1]
      by_cases h2 : v.Kind = 2
      · rw [if_pos (by simp [h2]), if_pos h2, len0]
        by_cases hn : v.N = 0
        · simp [hn]
        · simp [hn]
      · rw [if_neg (by simp [h2]), if_neg h2]
        by_cases h3 : v.Kind = 3
        · rw [if_pos (by simp [h3]), if_pos h3]
          by_cases hn : v.N = 0
          · by_cases hb : v.B.length = 0
            · rw [if_pos (show v.N = 0 ∧ v.B.length = 0 from ⟨hn, hb⟩)]
              have e1 : (if (v.N != 0) = true then some true else some ((v.B.length : Int) != 0) : Option Bool) = some false := by simp [hn, hb]
              refine (e_bindT (a := (.inr (shpL 0 v.L) : Unit ⊕ (Int × Bool))) ?_).trans rfl
              refine (e_bindT e1).trans ?_
              rw [if_neg (by simp)]
              rcases hq with ⟨d, e, h0, hd, rfl⟩ | ⟨e, rfl⟩
              · rw [hx, e]
                show some (Sum.inr (w64 (d + 1), true)) = _
                rw [w64_id (by omega)]
              · rw [hx, e]
                rfl
            · rw [if_neg (show ¬ (v.N = 0 ∧ v.B.length = 0) from fun h => hb h.2)]
              have e1 : (if (v.N != 0) = true then some true else some ((v.B.length : Int) != 0) : Option Bool) = some true := by
                rw [if_neg (by simp [hn])]; simp; intro e; apply hb; simp [e]
              refine (e_bindT (a := (.inr (0, false) : Unit ⊕ (Int × Bool))) ?_).trans rfl
              exact (e_bindT e1).trans rfl
          · rw [if_neg (show ¬ (v.N = 0 ∧ v.B.length = 0) from fun h => hn h.1)]
            have e1 : (if (v.N != 0) = true then some true else some ((v.B.length : Int) != 0) : Option Bool) = some true := by simp [hn]
            refine (e_bindT (a := (.inr (0, false) : Unit ⊕ (Int × Bool))) ?_).trans rfl
            exact (e_bindT e1).trans rfl
        · rw [if_neg (by simp [h3]), if_neg h3]
          rfl

/-! ### Encodings -/
def escB : List UInt8 → List UInt8
  | [] => []
  | c :: l => if c = 0 then 0 :: 255 :: escB l else c :: escB l
theorem escB_app (a b : List UInt8) : escB (a ++ b) = escB a ++ escB b := by
  induction a with
  | nil => rfl
  | cons c a ih => simp only [List.cons_append, escB]; split <;> simp [ih]
theorem escB_len (a : List UInt8) : (escB a).length ≤ 2 * a.length := by
  induction a with
  | nil => simp [escB]
  | cons c a ih => simp only [escB]; split <;> simp only [List.length_cons] <;> omega

mutual
def encV : Api_Value → List UInt8
  | .mk k n b l => if k = 1 then encI n else if k = 2 then 48 :: (escB b ++ [0, 0]) else 64 :: (encL l ++ [0])
def encL : List Api_Value → List UInt8
  | [] => []
  | x :: l => encV x ++ encL l
end
theorem encV_eq (v : Api_Value) : encV v = if v.Kind = 1 then encI v.N else if v.Kind = 2 then 48 :: (escB v.B ++ [0, 0]) else 64 :: (encL v.L ++ [0]) := by
  cases v with
  | mk k n b l => unfold encV; rfl
theorem encL_app (a b : List Api_Value) : encL (a ++ b) = encL a ++ encL b := by
  induction a with
  | nil => rfl
  | cons c a ih => simp only [List.cons_append, encL, ih, List.append_assoc]
mutual
theorem encV_len : ∀ v : Api_Value, (encV v).length ≤ 9 * szV v
  | .mk k n b l => by
    have h := encL_len l
    have h1 := encI_len n
    have h2 := nbI_le n
    have h3 := escB_len b
    unfold encV szV
    split
    · omega
    · split
      · simp only [List.length_cons, List.length_append, List.length_nil]; omega
      · simp only [List.length_cons, List.length_append, List.length_nil]; omega
theorem encL_len : ∀ l : List Api_Value, (encL l).length ≤ 9 * szVs l
  | [] => by simp [encL]
  | x :: l => by
    have h1 := encV_len x
    have h2 := encL_len l
    unfold encL szVs
    simp only [List.length_append]; omega
end
theorem encL_take (l : List Api_Value) (k : Nat) : (encL (l.take k)).length ≤ 9 * szVs l := by
  have h := encL_len l
  have : encL l = encL (l.take k) ++ encL (l.drop k) := by rw [← encL_app, List.take_append_drop]
  rw [this, List.length_append] at h
  omega

theorem bytes_loop (v : Api_Value) (a : List UInt8) (ha : a.length + 2 * v.B.length ≤ 100000000000000) :
    ∃ x, loopO (fun (s : Int × List UInt8) => codec_appendValue_b1 v s.1 s.2) (0, a) = some x ∧ x = a ++ escB v.B := by
  refine loopO_for (f := fun (s : Int × List UInt8) => codec_appendValue_b1 v s.1 s.2) v.B.length (fun k s => s = ((k : Int), a ++ escB (v.B.take k))) _ (by omega) ?_ ?_ (by simp [escB])
  · intro k s hk hs
    subst hs
    have hx : v.B.take (k + 1) = v.B.take k ++ [v.B[k]] := by rw [List.take_add_one, List.getElem?_eq_getElem hk]; rfl
    have hn : nth v.B k = v.B[k] := by simp [nth, List.getD_eq_getElem?_getD, hk]
    have hl := escB_len (v.B.take k)
    rw [List.length_take] at hl
    refine ⟨_, ?_, rfl⟩
    show codec_appendValue_b1 v (k : Int) _ = _
    unfold codec_appendValue_b1
    rw [if_pos (by simp; omega), if_pos (inR_of hk), if_pos (fits1 (by simp only [List.length_append]; omega)), e_succ (by omega)]
    simp only [Int.toNat_natCast, hn, lt1, hx, escB_app]
    by_cases h0 : v.B[k] = 0
    · rw [if_pos (by simp [h0]), if_pos (fits1 (by simp only [List.length_append, List.length_cons, List.length_nil]; omega))]
      simp [escB, h0]
    · rw [if_neg (by simp [h0])]
      simp [escB, h0]
  · intro s hs
    subst hs
    refine ⟨_, ?_, rfl⟩
    show codec_appendValue_b1 v ((v.B.length : Nat) : Int) _ = _
    unfold codec_appendValue_b1
    rw [if_neg (by simp), List.take_length]

theorem list_loop (v : Api_Value) (a : List UInt8) (rec_ : List UInt8 → Api_Value → Option (List UInt8)) (hr : ∀ x ∈ v.L, ∀ b, b.length + 9 * szV x ≤ a.length + 9 * szVs v.L → rec_ b x = some (b ++ encV x)) (hs : szV v ≤ 1099511627776) :
    ∃ x, loopO (fun (s : Int × List UInt8) => codec_appendValue_b2 v rec_ s.1 s.2) (0, a) = some x ∧ x = a ++ encL v.L := by
  have hsz := szV_eq v
  have hlen := szVs_len v.L
  refine loopO_for (f := fun (s : Int × List UInt8) => codec_appendValue_b2 v rec_ s.1 s.2) v.L.length (fun k s => s = ((k : Int), a ++ encL (v.L.take k))) _ (by omega) ?_ ?_ (by simp [encL])
  · intro k s hk hs'
    subst hs'
    have hx : v.L.take (k + 1) = v.L.take k ++ [v.L[k]] := by rw [List.take_add_one, List.getElem?_eq_getElem hk]; rfl
    have hm : v.L[k] ∈ v.L := List.getElem_mem hk
    have hsp : szVs v.L = szVs (v.L.take k) + szVs (v.L.drop k) := by
      have key : ∀ a b : List Api_Value, szVs (a ++ b) = szVs a + szVs b := by
        intro a b
        induction a with
        | nil => simp [szVs]
        | cons y a ih => simp only [List.cons_append, szVs, ih]; omega
      rw [← key, List.take_append_drop]
    rw [List.drop_eq_getElem_cons hk] at hsp
    simp only [szVs] at hsp
    have hl := encL_len (v.L.take k)
    refine ⟨_, ?_, rfl⟩
    show codec_appendValue_b2 v rec_ (k : Int) _ = _
    unfold codec_appendValue_b2
    rw [if_pos (by simp; omega), if_pos (inR_of hk), e_succ (by omega)]
    simp only [Int.toNat_natCast, nth_mem hk, lt1, value_eta]
    refine (e_bindT (hr _ hm _ (by simp only [List.length_append]; omega))).trans ?_
    rw [hx, encL_app]
    simp [encL]
  · intro s hs'
    subst hs'
    refine ⟨_, ?_, rfl⟩
    show codec_appendValue_b2 v rec_ ((v.L.length : Nat) : Int) _ = _
    unfold codec_appendValue_b2
    rw [if_neg (by simp), List.take_length]

theorem append_n : ∀ (n : Nat) (b : List UInt8) (v : Api_Value), szV v < n → b.length + 9 * szV v ≤ 1099511627776 → codec_appendValue_n n b v = some (b ++ encV v)
  | 0, b, v, h, _ => absurd h (Nat.not_lt_zero _)
  | n + 1, b, v, h, hs => by
    show codec_appendValue_F (codec_appendValue_n n) b v = _
    have hsz := szV_eq v
    rw [encV_eq]
    unfold codec_appendValue_F
    by_cases h1 : v.Kind = 1
    · rw [if_pos (by simp [h1]), if_pos h1]
      rw [appendInt_eq b v.N (by omega)]
      rfl
    · rw [if_neg (by simp [h1]), if_neg h1]
      by_cases h2 : v.Kind = 2
      · rw [if_pos (by simp [h2]), if_pos h2]
        obtain ⟨x, hx, rfl⟩ := bytes_loop v (b ++ [48]) (by simp only [List.length_append, List.length_cons, List.length_nil]; omega)
        have hl := escB_len v.B
        refine (e_bindT (a := (.inr (b ++ 48 :: (escB v.B ++ [0, 0])) : Unit ⊕ List UInt8)) ?_).trans rfl
        refine (if_pos (fits1 (by omega))).trans ?_
        refine (e_lt1 _ _ _ rfl).trans ?_
        refine (e_bindT (e_bindT hx)).trans ?_
        refine (if_pos (fits1 (by simp only [List.length_append, List.length_cons, List.length_nil]; omega))).trans ?_
        simp [lt1]
      · rw [if_neg (by simp [h2]), if_neg h2]
        obtain ⟨x, hx, rfl⟩ := list_loop v (b ++ [64]) (codec_appendValue_n n) (fun y hy c hc => append_n n c y (by have := szVs_mem hy; omega) (by simp only [List.length_append, List.length_cons, List.length_nil] at hc; omega)) (by omega)
        have hl := encL_len v.L
        refine (e_bindT (a := (.inl () : Unit ⊕ List UInt8)) rfl).trans ?_
        refine (if_pos (fits1 (by omega))).trans ?_
        refine (e_lt1 _ _ _ rfl).trans ?_
        refine (e_bindT (e_bindT hx)).trans ?_
        refine (if_pos (fits1 (by simp only [List.length_append, List.length_cons, List.length_nil]; omega))).trans ?_
        simp [lt1]

/-- What Encode answers. -/
def Enc (v : Api_Value) : List UInt8 × Int :=
  if (shpV v).2 = true then (if (shpV v).1 > 16 then ([], 2) else if (encV v).length > 65536 then ([], 2) else (encV v, 0)) else ([], 10)

theorem encode_eq (v : Api_Value) (h : szV v ≤ 100000000000) : codec_Encode v = some (Enc v) := by
  unfold codec_Encode codec_shape codec_appendValue Enc
  refine (e_bindT (shape_n 18446744073709551616 v (by omega) (by omega))).trans ?_
  by_cases h1 : (shpV v).2 = true
  · rw [if_neg (by simp [h1]), if_pos h1]
    by_cases h2 : (shpV v).1 > 16
    · rw [if_pos (by simpa using h2), if_pos h2]
    · rw [if_neg (by simpa using h2), if_neg h2]
      refine (e_bindT (append_n 18446744073709551616 [] v (by omega) (by simp; omega))).trans ?_
      by_cases h3 : (encV v).length > 65536
      · rw [if_pos (by simp; omega), if_pos h3]
      · rw [if_neg (by simp; omega), if_neg h3]
        rfl
  · rw [if_pos (by simp [h1]), if_neg h1]
end Go.Proofs.Ytihncddenjbecaa
/-
  How codec's Compare and the reference's compare values.
-/
namespace Go.Proofs.Ytihncddenjbecaa
open Go.Rv
set_option linter.unusedVariables false
set_option linter.unusedSimpArgs false

def cmpI (a b : Int) : Int := if a < b then -1 else if b < a then 1 else 0
def cmpB : List UInt8 → List UInt8 → Int
  | [], [] => 0
  | [], _ :: _ => -1
  | _ :: _, [] => 1
  | x :: l, y :: m => if x = y then cmpB l m else if x < y then -1 else 1
mutual
def cmpV : Api_Value → Api_Value → Int
  | .mk k n b l, w => if k ≠ w.Kind then cmpI k w.Kind else if k = 1 then cmpI n w.N else if k = 2 then cmpB b w.B else if k = 3 then cmpL l w.L else 0
def cmpL : List Api_Value → List Api_Value → Int
  | [], [] => 0
  | [], _ :: _ => -1
  | _ :: _, [] => 1
  | x :: l, y :: m => if cmpV x y ≠ 0 then cmpV x y else cmpL l m
end
theorem cmpV_eq (v w : Api_Value) : cmpV v w = if v.Kind ≠ w.Kind then cmpI v.Kind w.Kind else if v.Kind = 1 then cmpI v.N w.N else if v.Kind = 2 then cmpB v.B w.B else if v.Kind = 3 then cmpL v.L w.L else 0 := by
  cases v with
  | mk k n b l => rw [cmpV]; rfl

theorem cmpI_rng (a b : Int) : cmpI a b = -1 ∨ cmpI a b = 0 ∨ cmpI a b = 1 := by unfold cmpI; (repeat' split) <;> simp
theorem cmpB_rng : ∀ a b : List UInt8, cmpB a b = -1 ∨ cmpB a b = 0 ∨ cmpB a b = 1
  | [], [] => by simp [cmpB]
  | [], _ :: _ => by simp [cmpB]
  | _ :: _, [] => by simp [cmpB]
  | x :: l, y :: m => by
    unfold cmpB
    split
    · exact cmpB_rng l m
    · split <;> simp
theorem order_eq (a b : Int) : r01_Order a b = some (cmpI a b) := by
  unfold r01_Order cmpI
  by_cases h : a < b
  · rw [if_pos (by simpa using h), if_pos h]
  · rw [if_neg (by simpa using h), if_neg h]
    by_cases h2 : b < a
    · rw [if_pos (by simpa using h2), if_pos h2]
    · rw [if_neg (by simpa using h2), if_neg h2]
theorem nth_lt {α : Type} [Inhabited α] {l : List α} {k : Nat} (h : k < l.length) : nth l k = l[k] := by simp [nth, List.getD_eq_getElem?_getD, h]

/-! ### Byte strings -/
theorem cmpB_drop {a b : List UInt8} {k : Nat} (ha : k < a.length) (hb : k < b.length) : cmpB (a.drop k) (b.drop k) = if nth a k = nth b k then cmpB (a.drop (k + 1)) (b.drop (k + 1)) else if nth a k < nth b k then -1 else 1 := by
  rw [List.drop_eq_getElem_cons ha, List.drop_eq_getElem_cons hb, nth_lt ha, nth_lt hb, cmpB]

theorem u8_lt_int (x y : UInt8) : ((x.toNat : Int) < (y.toNat : Int)) = (x < y) := by
  apply propext
  rw [UInt8.lt_iff_toNat_lt]; omega

theorem cmpB_end {a b : List UInt8} {k : Nat} (hk : k ≤ a.length) (hk' : k ≤ b.length) (h : ¬ (k < a.length ∧ k < b.length)) : cmpB (a.drop k) (b.drop k) = cmpI (a.length : Int) (b.length : Int) := by
  unfold cmpI
  rcases Nat.lt_trichotomy a.length b.length with hl | hl | hl
  · have hka : k = a.length := by omega
    rw [if_pos (by omega), hka, List.drop_length, List.drop_eq_getElem_cons (by omega)]
    rfl
  · have hka : k = a.length := by omega
    rw [if_neg (by omega), if_neg (by omega), hka, List.drop_length, hl, List.drop_length]
    rfl
  · have hkb : k = b.length := by omega
    rw [if_neg (by omega), if_pos (by omega), hkb, List.drop_length, List.drop_eq_getElem_cons (by omega)]
    rfl

theorem orderBytes_eq (a b : List UInt8) (ha : a.length ≤ 1099511627776) : r01_OrderBytes a b = some (cmpB a b) := by
  have key : ∃ x, loopO (fun (v : Int) => r01_OrderBytes_b1 a b v) 0 = some x ∧ ((x = .inl () ∧ cmpB a b = cmpI (a.length : Int) (b.length : Int)) ∨ (x = .inr (.inr (cmpB a b)))) := by
    refine loopO_rule (f := fun (v : Int) => r01_OrderBytes_b1 a b v) (fun i => ∃ k : Nat, i = (k : Int) ∧ k ≤ a.length ∧ k ≤ b.length ∧ cmpB a b = cmpB (a.drop k) (b.drop k)) (fun i => a.length - i.toNat) _ ?_ ⟨0, rfl, by simp, by simp, rfl⟩ (by omega)
    rintro _ ⟨k, rfl, hka, hkb, he⟩
    show _ ∨ _
    unfold r01_OrderBytes_b1
    by_cases h : k < a.length ∧ k < b.length
    · have hc : (if decide ((k : Int) < (a.length : Int)) = true then some (decide ((k : Int) < (b.length : Int))) else some false : Option Bool) = some true := by
        rw [if_pos (by simp; omega)]; simp; omega
      have r1 : InR (k : Int) a.length := ⟨by omega, by omega⟩
      have r2 : InR (k : Int) b.length := ⟨by omega, by omega⟩
      rw [cmpB_drop h.1 h.2] at he
      by_cases hxy : nth a k = nth b k
      · left
        rw [if_pos hxy] at he
        refine ⟨_, (e_bindT hc).trans ?_, ⟨k + 1, rfl, by omega, by omega, he⟩, ?_⟩
        · rw [if_pos rfl, if_pos r1, if_pos r2, if_neg (by simp [hxy]), e_succ (by omega)]
        · simp only [Int.toNat_natCast]; omega
      · right
        rw [if_neg hxy] at he
        refine ⟨_, (e_bindT hc).trans ?_, .inr rfl⟩
        rw [if_pos rfl, if_pos r1, if_pos r2, if_pos (by simpa using hxy), if_pos r1, if_pos r2, Int.toNat_natCast, order_eq]
        have hne : nth b k ≠ nth a k := fun e => hxy e.symm
        have : cmpI ((nth a k).toNat : Int) ((nth b k).toNat : Int) = cmpB a b := by
          rw [he]
          unfold cmpI
          by_cases hlt : nth a k < nth b k
          · rw [if_pos hlt, if_pos (by rw [u8_lt_int]; exact hlt)]
          · have : nth b k < nth a k := by
              rw [UInt8.lt_iff_toNat_lt] at hlt ⊢
              have : (nth a k).toNat ≠ (nth b k).toNat := fun e => hxy (UInt8.toNat_inj.1 e)
              omega
            rw [if_neg hlt, if_neg (by rw [u8_lt_int]; exact hlt), if_pos (by rw [u8_lt_int]; exact this)]
        rw [this]; rfl
    · right
      have hc : (if decide ((k : Int) < (a.length : Int)) = true then some (decide ((k : Int) < (b.length : Int))) else some false : Option Bool) = some false := by
        by_cases hk : k < a.length
        · rw [if_pos (by simp; omega)]; simp; omega
        · rw [if_neg (by simp; omega)]
      refine ⟨_, (e_bindT hc).trans ?_, .inl ⟨rfl, ?_⟩⟩
      · rw [if_neg (by simp)]
      · rw [he]; exact cmpB_end hka hkb h
  obtain ⟨x, hx, hq⟩ := key
  unfold r01_OrderBytes
  rcases hq with ⟨rfl, he⟩ | rfl
  · refine (e_bindT (a := .inl ()) ((e_bindT hx).trans rfl)).trans ?_
    rw [he]
    exact e_bindT (order_eq _ _)
  · exact (e_bindT (a := .inr (cmpB a b)) ((e_bindT hx).trans rfl)).trans rfl

theorem sameBytes_eq (a b : List UInt8) (ha : a.length ≤ 1099511627776) : r01_SameBytes a b = some (cmpB a b == 0) := by
  unfold r01_SameBytes
  exact e_bindT (orderBytes_eq a b ha)

theorem ba_get {l : List UInt8} {i : Nat} (h : i < l.length) : (⟨l.toArray⟩ : ByteArray)[i]! = nth l i := by
  rw [nth_lt h]
  have h2 : i < (⟨l.toArray⟩ : ByteArray).size := by simpa [ByteArray.size] using h
  rw [getElem!_pos (⟨l.toArray⟩ : ByteArray) i h2]
  show l.toArray[i] = _
  simp

theorem cmp_from (a b : List UInt8) : ∀ (m k : Nat), k + m = min a.length b.length →
    (match (List.range' k m).find? fun i => (⟨a.toArray⟩ : ByteArray)[i]! != (⟨b.toArray⟩ : ByteArray)[i]! with
      | some i => if (⟨a.toArray⟩ : ByteArray)[i]! < (⟨b.toArray⟩ : ByteArray)[i]! then -1 else 1
      | none => if (⟨a.toArray⟩ : ByteArray).size < (⟨b.toArray⟩ : ByteArray).size then (-1 : Int) else if (⟨a.toArray⟩ : ByteArray).size > (⟨b.toArray⟩ : ByteArray).size then 1 else 0) = cmpB (a.drop k) (b.drop k)
  | 0, k, h => by
    rw [List.range'_zero, List.find?_nil, cmpB_end (by omega) (by omega) (by omega)]
    have e : ∀ l : List UInt8, (⟨l.toArray⟩ : ByteArray).size = l.length := fun l => by simp [ByteArray.size]
    simp only [e, cmpI, Int.ofNat_lt, gt_iff_lt]
  | m + 1, k, h => by
    have ha : k < a.length := by omega
    have hb : k < b.length := by omega
    rw [List.range'_succ, List.find?_cons, cmpB_drop ha hb, ba_get ha, ba_get hb]
    by_cases he : nth a k = nth b k
    · have : (nth a k != nth b k) = false := by simp [he]
      rw [this, if_pos he]
      exact cmp_from a b m (k + 1) (by omega)
    · have : (nth a k != nth b k) = true := by simp [he]
      rw [this, if_neg he]
      show (if (⟨a.toArray⟩ : ByteArray)[k]! < (⟨b.toArray⟩ : ByteArray)[k]! then (-1 : Int) else 1) = _
      rw [ba_get ha, ba_get hb]

theorem bytesCmp_eq (a b : List UInt8) : bytesCmp a b = cmpB a b := by
  have h := cmp_from a b (min a.length b.length) 0 (by omega)
  rw [← List.range_eq_range'] at h
  unfold bytesCmp Extern.BytealgCompare.cmp
  have e : ∀ l : List UInt8, (⟨l.toArray⟩ : ByteArray).size = l.length := fun l => by simp [ByteArray.size]
  rw [e, e]
  rw [e, e] at h
  exact h

theorem bytesCompare_eq (a b : List UInt8) : bytes_Compare a b = some (cmpB a b) := by
  unfold bytes_Compare bytealg_Compare bytesCmpO
  rw [bytesCmp_eq]; rfl
theorem cmpInt_eq (a b : Int) : cmp_Compare a b = some (cmpI a b) := by
  unfold cmp_Compare cmp_isNaN cmpI
  by_cases h : a < b
  · simp [h]
  · by_cases h2 : b < a <;> simp [h, h2]

/-! ### Values -/
theorem cmpL_drop {a b : List Api_Value} {k : Nat} (ha : k < a.length) (hb : k < b.length) : cmpL (a.drop k) (b.drop k) = if cmpV (nth a k) (nth b k) ≠ 0 then cmpV (nth a k) (nth b k) else cmpL (a.drop (k + 1)) (b.drop (k + 1)) := by
  rw [List.drop_eq_getElem_cons ha, List.drop_eq_getElem_cons hb, nth_lt ha, nth_lt hb, cmpL]
theorem cmpL_end {a b : List Api_Value} {k : Nat} (hk : k ≤ a.length) (hk' : k ≤ b.length) (h : ¬ (k < a.length ∧ k < b.length)) : cmpL (a.drop k) (b.drop k) = cmpI (a.length : Int) (b.length : Int) := by
  unfold cmpI
  rcases Nat.lt_trichotomy a.length b.length with hl | hl | hl
  · have hka : k = a.length := by omega
    rw [if_pos (by omega), hka, List.drop_length, List.drop_eq_getElem_cons (by omega), cmpL]
  · have hka : k = a.length := by omega
    rw [if_neg (by omega), if_neg (by omega), hka, List.drop_length, hl, List.drop_length, cmpL]
  · have hkb : k = b.length := by omega
    rw [if_neg (by omega), if_pos (by omega), hkb, List.drop_length, List.drop_eq_getElem_cons (by omega), cmpL]

theorem compareFunc_eq (a b : List Api_Value) (f : Api_Value → Api_Value → Option Int) (hf : ∀ x ∈ a, ∀ y, f x y = some (cmpV x y)) (ha : a.length ≤ 1099511627776) : slices_CompareFunc a b f = some (cmpL a b) := by
  have key : ∃ x, loopO (fun (v : Int) => slices_CompareFunc_b1 a b f v) 0 = some x ∧ ((x = .inl () ∧ a.length ≤ b.length ∧ cmpL a b = cmpI (a.length : Int) (b.length : Int)) ∨ (x = .inr (.inr (cmpL a b)))) := by
    refine loopO_rule (f := fun (v : Int) => slices_CompareFunc_b1 a b f v) (fun i => ∃ k : Nat, i = (k : Int) ∧ k ≤ a.length ∧ k ≤ b.length ∧ cmpL a b = cmpL (a.drop k) (b.drop k)) (fun i => a.length - i.toNat) _ ?_ ⟨0, rfl, by simp, by simp, rfl⟩ (by omega)
    rintro _ ⟨k, rfl, hka, hkb, he⟩
    show _ ∨ _
    unfold slices_CompareFunc_b1
    by_cases h1 : k < a.length
    · have r1 : InR (k : Int) a.length := ⟨by omega, by omega⟩
      rw [if_pos (by simp; omega), if_pos r1]
      simp only [lt1, Int.toNat_natCast]
      by_cases h2 : k < b.length
      · have r2 : InR (k : Int) b.length := ⟨by omega, by omega⟩
        rw [if_neg (by simp; omega), if_pos r2]
        rw [value_eta, value_eta, hf _ (by rw [nth_lt h1]; exact List.getElem_mem h1)]
        rw [cmpL_drop h1 h2] at he
        by_cases hz : cmpV (nth a k) (nth b k) = 0
        · left
          rw [if_neg (by simpa using hz)] at he
          refine ⟨_, (e_bindT rfl).trans ?_, ⟨k + 1, rfl, by omega, by omega, he⟩, ?_⟩
          · rw [if_neg (by simp [hz]), e_succ (by omega)]
          · simp only [Int.toNat_natCast]; omega
        · right
          rw [if_pos hz] at he
          refine ⟨_, (e_bindT rfl).trans ?_, .inr rfl⟩
          rw [if_pos (by simpa using hz), he]; rfl
      · right
        rw [if_pos (by simp; omega)]
        refine ⟨_, rfl, .inr ?_⟩
        rw [he, cmpL_end hka hkb (by omega)]
        unfold cmpI
        rw [if_neg (by omega), if_pos (by omega)]
    · right
      rw [if_neg (by simp; omega)]
      exact ⟨_, rfl, .inl ⟨rfl, by omega, by rw [he]; exact cmpL_end hka hkb (by omega)⟩⟩
  obtain ⟨x, hx, hq⟩ := key
  unfold slices_CompareFunc
  rcases hq with ⟨rfl, hl, he⟩ | rfl
  · refine (e_bindT (a := .inl ()) ((e_bindT hx).trans rfl)).trans ?_
    rw [he]
    unfold cmpI
    by_cases h : (a.length : Int) < (b.length : Int)
    · simp [h]
    · have : ¬ (b.length : Int) < (a.length : Int) := by omega
      simp [h, this]
  · exact (e_bindT (a := .inr (cmpL a b)) ((e_bindT hx).trans rfl)).trans rfl

theorem compare_n : ∀ (n : Nat) (a b : Api_Value), szV a < n → szV a ≤ 1099511627776 → codec_Compare_n n a b = some (cmpV a b)
  | 0, a, b, h, _ => absurd h (Nat.not_lt_zero _)
  | n + 1, a, b, h, hs => by
    show codec_Compare_F (codec_Compare_n n) a b = _
    have hsz := szV_eq a
    have hlen := szVs_len a.L
    unfold codec_Compare_F
    rw [cmpV_eq]
    refine (e_bindT (cmpInt_eq _ _)).trans ?_
    by_cases hk : a.Kind = b.Kind
    · have hz : cmpI a.Kind b.Kind = 0 := by unfold cmpI; simp [hk]
      rw [if_neg (show ¬ (cmpI a.Kind b.Kind != 0) = true by simp [hz]), if_neg (show ¬ (a.Kind ≠ b.Kind) by simpa using hk)]
      by_cases h1 : a.Kind = 1
      · rw [if_pos (show (a.Kind == 1) = true by simp [h1]), if_pos h1]; exact e_bindT (cmpInt_eq _ _)
      · rw [if_neg (show ¬ (a.Kind == 1) = true by simp [h1]), if_neg h1]
        by_cases h2 : a.Kind = 2
        · rw [if_pos (show (a.Kind == 2) = true by simp [h2]), if_pos h2]; exact e_bindT (bytesCompare_eq _ _)
        · rw [if_neg (show ¬ (a.Kind == 2) = true by simp [h2]), if_neg h2]
          by_cases h3 : a.Kind = 3
          · rw [if_pos (show (a.Kind == 3) = true by simp [h3]), if_pos h3]
            exact e_bindT (compareFunc_eq _ _ _ (fun x hx y => compare_n n x y (by have := szVs_mem hx; omega) (by have := szVs_mem hx; omega)) (by omega))
          · rw [if_neg (show ¬ (a.Kind == 3) = true by simp [h3]), if_neg h3]
    · have hz : cmpI a.Kind b.Kind ≠ 0 := by
        unfold cmpI
        rcases Int.lt_trichotomy a.Kind b.Kind with h | h | h
        · rw [if_pos h]; decide
        · exact (hk h).elim
        · rw [if_neg (by omega), if_pos h]; decide
      rw [if_pos (show (cmpI a.Kind b.Kind != 0) = true by simpa using hz), if_pos (show a.Kind ≠ b.Kind from hk)]

theorem compare_eq (a b : Api_Value) (h : szV a ≤ 100000000000) : codec_Compare a b = some (cmpV a b) := compare_n _ a b (by omega) (by omega)

/-! ### The order -/
theorem cmpI_refl (a : Int) : cmpI a a = 0 := by simp [cmpI]
theorem cmpI_anti (a b : Int) : cmpI b a = - cmpI a b := by
  unfold cmpI
  rcases Int.lt_trichotomy a b with h | h | h
  · rw [if_neg (by omega), if_pos h, if_pos h]; rfl
  · subst h; simp
  · rw [if_pos h, if_neg (by omega), if_pos h]
theorem cmpI_zero {a b : Int} : cmpI a b = 0 ↔ a = b := by
  unfold cmpI
  by_cases h : a < b
  · rw [if_pos h]; constructor
    · intro h; cases h
    · intro h; omega
  · rw [if_neg h]
    by_cases h2 : b < a
    · rw [if_pos h2]; constructor
      · intro h; cases h
      · intro h; omega
    · rw [if_neg h2]; constructor <;> intros <;> omega
end Go.Proofs.Ytihncddenjbecaa
/-
  The examples of the documentation: computed.
-/
namespace Go.Proofs.Ytihncddenjbecaa
open Go.Rv
theorem sane_ok : law01_sane = some true := by decide +kernel
end Go.Proofs.Ytihncddenjbecaa
/-
  Compare is a total order; the law CodecTotalOrder in plain terms.
-/
namespace Go.Proofs.Ytihncddenjbecaa
open Go.Rv
set_option linter.unusedVariables false
set_option linter.unusedSimpArgs false

/-- Three answers that fit an order: of x to y, of y to z, of x to z. -/
def Tri (a b c : Int) : Prop := (a ≤ 0 → b ≤ 0 → c ≤ 0 ∧ (c = 0 ↔ a = 0 ∧ b = 0)) ∧ (0 ≤ a → 0 ≤ b → 0 ≤ c ∧ (c = 0 ↔ a = 0 ∧ b = 0))

theorem tri_cmpI (a b c : Int) : Tri (cmpI a b) (cmpI b c) (cmpI a c) := by
  unfold Tri cmpI
  constructor <;> intro h1 h2 <;> (repeat' split at h1) <;> (repeat' split at h2) <;> (repeat' split) <;> constructor <;> (try constructor) <;> omega
theorem tri_first {a b c x y z : Int} (h : Tri a b c) (g : Tri x y z) : Tri (if a ≠ 0 then a else x) (if b ≠ 0 then b else y) (if c ≠ 0 then c else z) := by
  obtain ⟨h1, h2⟩ := h
  obtain ⟨g1, g2⟩ := g
  unfold Tri
  constructor
  · intro p q
    by_cases ha : a = 0 <;> by_cases hb : b = 0 <;> simp only [ha, hb, ne_eq, not_true_eq_false, not_false_eq_true, if_true, if_false] at p q ⊢
    · have hc : c = 0 := by have := h1 (by omega) (by omega); exact this.2.2 ⟨ha, hb⟩
      simp only [hc, ne_eq, not_true_eq_false, if_false]
      exact g1 p q
    · have := h1 (by omega) q
      have hc : c ≠ 0 := fun e => hb (this.2.1 e).2
      simp only [hc, ne_eq, not_false_eq_true, if_true]
      exact ⟨this.1, ⟨fun e => e.elim, fun e => e.2.elim⟩⟩
    · have := h1 p (by omega)
      have hc : c ≠ 0 := fun e => ha (this.2.1 e).1
      simp only [hc, ne_eq, not_false_eq_true, if_true]
      exact ⟨this.1, ⟨fun e => e.elim, fun e => e.1.elim⟩⟩
    · have := h1 p q
      have hc : c ≠ 0 := fun e => ha (this.2.1 e).1
      simp only [hc, ne_eq, not_false_eq_true, if_true]
      exact ⟨this.1, ⟨fun e => e.elim, fun e => e.1.elim⟩⟩
  · intro p q
    by_cases ha : a = 0 <;> by_cases hb : b = 0 <;> simp only [ha, hb, ne_eq, not_true_eq_false, not_false_eq_true, if_true, if_false] at p q ⊢
    · have hc : c = 0 := by have := h2 (by omega) (by omega); exact this.2.2 ⟨ha, hb⟩
      simp only [hc, ne_eq, not_true_eq_false, if_false]
      exact g2 p q
    · have := h2 (by omega) q
      have hc : c ≠ 0 := fun e => hb (this.2.1 e).2
      simp only [hc, ne_eq, not_false_eq_true, if_true]
      exact ⟨this.1, ⟨fun e => e.elim, fun e => e.2.elim⟩⟩
    · have := h2 p (by omega)
      have hc : c ≠ 0 := fun e => ha (this.2.1 e).1
      simp only [hc, ne_eq, not_false_eq_true, if_true]
      exact ⟨this.1, ⟨fun e => e.elim, fun e => e.1.elim⟩⟩
    · have := h2 p q
      have hc : c ≠ 0 := fun e => ha (this.2.1 e).1
      simp only [hc, ne_eq, not_false_eq_true, if_true]
      exact ⟨this.1, ⟨fun e => e.elim, fun e => e.1.elim⟩⟩

def cmpU (x y : UInt8) : Int := cmpI (x.toNat : Int) (y.toNat : Int)
theorem cmpB_cons (x y : UInt8) (l m : List UInt8) : cmpB (x :: l) (y :: m) = if cmpU x y ≠ 0 then cmpU x y else cmpB l m := by
  rw [cmpB]
  by_cases h : x = y
  · subst h
    have : cmpU x x = 0 := cmpI_refl _
    rw [this, if_pos rfl, if_neg (by simp)]
  · by_cases h2 : x < y
    · have : cmpU x y = -1 := if_pos (by rw [u8_lt_int]; exact h2)
      rw [this, if_neg h, if_pos h2, if_pos (by decide)]
    · have h3 : y < x := by
        rw [UInt8.lt_iff_toNat_lt] at h2 ⊢
        have : x.toNat ≠ y.toNat := fun e => h (UInt8.toNat_inj.1 e)
        omega
      have : cmpU x y = 1 := (if_neg (by rw [u8_lt_int]; exact h2)).trans (if_pos (by rw [u8_lt_int]; exact h3))
      rw [this, if_neg h, if_neg h2, if_pos (by decide)]
theorem cmpL_cons (x y : Api_Value) (l m : List Api_Value) : cmpL (x :: l) (y :: m) = if cmpV x y ≠ 0 then cmpV x y else cmpL l m := by rw [cmpL]

theorem tri_zero : Tri 0 0 0 := by unfold Tri; omega
theorem tri_cmpB : ∀ a b c : List UInt8, Tri (cmpB a b) (cmpB b c) (cmpB a c)
  | [], [], [] => tri_zero
  | [], [], _ :: _ => by simp only [cmpB]; unfold Tri; omega
  | [], _ :: _, [] => by simp only [cmpB]; unfold Tri; omega
  | _ :: _, [], [] => by simp only [cmpB]; unfold Tri; omega
  | [], y :: m, z :: k => by
    have := cmpB_rng (y :: m) (z :: k)
    simp only [cmpB] at this ⊢; unfold Tri; omega
  | x :: l, [], z :: k => by
    have := cmpB_rng (x :: l) (z :: k)
    rw [show cmpB (x :: l) [] = 1 from rfl, show cmpB [] (z :: k) = -1 from rfl]; unfold Tri; omega
  | x :: l, y :: m, [] => by
    have := cmpB_rng (x :: l) (y :: m)
    rw [show cmpB (x :: l) [] = 1 from rfl, show cmpB (y :: m) [] = 1 from rfl]; unfold Tri; omega
  | x :: l, y :: m, z :: k => by
    rw [cmpB_cons, cmpB_cons, cmpB_cons]
    exact tri_first (tri_cmpI _ _ _) (tri_cmpB l m k)

mutual
theorem cmpV_rng : ∀ a b : Api_Value, cmpV a b = -1 ∨ cmpV a b = 0 ∨ cmpV a b = 1
  | .mk k n b l, w => by
    rw [cmpV]
    split
    · exact cmpI_rng _ _
    split
    · exact cmpI_rng _ _
    split
    · exact cmpB_rng _ _
    split
    · exact cmpL_rng l w.L
    · simp
theorem cmpL_rng : ∀ a b : List Api_Value, cmpL a b = -1 ∨ cmpL a b = 0 ∨ cmpL a b = 1
  | [], [] => by simp [cmpL]
  | [], _ :: _ => by simp [cmpL]
  | _ :: _, [] => by simp [cmpL]
  | x :: l, y :: m => by
    rw [cmpL]
    split
    · exact cmpV_rng x y
    · exact cmpL_rng l m
end

theorem ite_hz (x y : Int) {α : Type} (a b : α) : (if x ≠ y then a else b) = if cmpI x y ≠ 0 then a else b := by
  by_cases h : x = y
  · rw [if_neg (by simpa using h), if_neg (by simpa using cmpI_zero.2 h)]
  · rw [if_pos h, if_pos (fun e => h (cmpI_zero.1 e))]

mutual
theorem tri_cmpV : ∀ a b c : Api_Value, Tri (cmpV a b) (cmpV b c) (cmpV a c)
  | .mk k n b l, v, w => by
    have hk := tri_cmpI k v.Kind w.Kind
    rw [cmpV_eq v w, cmpV, cmpV]
    rw [ite_hz k v.Kind, ite_hz v.Kind w.Kind, ite_hz k w.Kind]
    have inner : k = v.Kind → v.Kind = w.Kind → Tri (if k = 1 then cmpI n v.N else if k = 2 then cmpB b v.B else if k = 3 then cmpL l v.L else 0)
        (if v.Kind = 1 then cmpI v.N w.N else if v.Kind = 2 then cmpB v.B w.B else if v.Kind = 3 then cmpL v.L w.L else 0) (if k = 1 then cmpI n w.N else if k = 2 then cmpB b w.B else if k = 3 then cmpL l w.L else 0) := by
      intro e1 e2
      rw [← e1]
      by_cases h1 : k = 1
      · simp only [h1, if_true]; exact tri_cmpI _ _ _
      · simp only [h1, if_false]
        by_cases h2 : k = 2
        · simp only [h2, if_true]; exact tri_cmpB _ _ _
        · simp only [h2, if_false]
          by_cases h3 : k = 3
          · simp only [h3, if_true]; exact tri_cmpL l v.L w.L
          · simp only [h3, if_false]; exact tri_zero
    by_cases e1 : cmpI k v.Kind = 0
    · by_cases e2 : cmpI v.Kind w.Kind = 0
      · exact tri_first hk (inner (cmpI_zero.1 e1) (cmpI_zero.1 e2))
      · have hkv := cmpI_zero.1 e1
        have e3 : cmpI k w.Kind = cmpI v.Kind w.Kind := by rw [hkv]
        have r := cmpI_rng v.Kind w.Kind
        have q := cmpV_rng (.mk k n b l) v
        rw [cmpV, ite_hz] at q
        simp only [e3, e2, ne_eq, not_false_eq_true, if_true] at q ⊢
        rw [e1] at q ⊢
        simp only [ne_eq, not_true_eq_false, if_false] at q ⊢
        unfold Tri
        omega
    · by_cases e2 : cmpI v.Kind w.Kind = 0
      · have hvw := cmpI_zero.1 e2
        have e3 : cmpI k w.Kind = cmpI k v.Kind := by rw [← hvw]
        have r := cmpI_rng k v.Kind
        have q := cmpV_rng v w
        rw [cmpV_eq, ite_hz] at q
        simp only [e3, e1, e2, ne_eq, not_false_eq_true, not_true_eq_false, if_true, if_false] at q ⊢
        unfold Tri
        omega
      · have q := tri_first hk tri_zero
        by_cases e3 : cmpI k w.Kind = 0
        · simp only [e1, e2, ne_eq, not_false_eq_true, if_true]
          have r := cmpI_rng k v.Kind
          have r2 := cmpI_rng v.Kind w.Kind
          obtain ⟨k1, k2⟩ := hk
          unfold Tri
          omega
        · simp only [e1, e2, e3, ne_eq, not_false_eq_true, if_true]
          exact hk
theorem tri_cmpL : ∀ a b c : List Api_Value, Tri (cmpL a b) (cmpL b c) (cmpL a c)
  | [], [], [] => by simp only [cmpL]; exact tri_zero
  | [], [], _ :: _ => by simp only [cmpL]; unfold Tri; omega
  | [], _ :: _, [] => by simp only [cmpL]; unfold Tri; omega
  | _ :: _, [], [] => by simp only [cmpL]; unfold Tri; omega
  | [], y :: m, z :: k => by
    have := cmpL_rng (y :: m) (z :: k)
    have e1 : cmpL [] (y :: m) = -1 := by rw [cmpL]
    have e2 : cmpL [] (z :: k) = -1 := by rw [cmpL]
    rw [e1, e2]; unfold Tri; omega
  | x :: l, [], z :: k => by
    have := cmpL_rng (x :: l) (z :: k)
    have e1 : cmpL (x :: l) [] = 1 := by rw [cmpL]
    have e2 : cmpL [] (z :: k) = -1 := by rw [cmpL]
    rw [e1, e2]; unfold Tri; omega
  | x :: l, y :: m, [] => by
    have := cmpL_rng (x :: l) (y :: m)
    have e1 : cmpL (x :: l) [] = 1 := by rw [cmpL]
    have e2 : cmpL (y :: m) [] = 1 := by rw [cmpL]
    rw [e1, e2]; unfold Tri; omega
  | x :: l, y :: m, z :: k => by
    rw [cmpL_cons, cmpL_cons, cmpL_cons]
    exact tri_first (tri_cmpV x y z) (tri_cmpL l m k)
end

theorem cmpB_anti : ∀ a b : List UInt8, cmpB b a = - cmpB a b
  | [], [] => rfl
  | [], _ :: _ => rfl
  | _ :: _, [] => rfl
  | x :: l, y :: m => by
    rw [cmpB_cons, cmpB_cons, show cmpU y x = - cmpU x y from cmpI_anti _ _, cmpB_anti l m]
    by_cases h : cmpU x y = 0
    · simp [h]
    · have : - cmpU x y ≠ 0 := by omega
      rw [if_pos this, if_pos h]
mutual
theorem cmpV_anti : ∀ a b : Api_Value, cmpV b a = - cmpV a b
  | .mk k n b l, w => by
    rw [cmpV_eq w, cmpV]
    show (if w.Kind ≠ k then cmpI w.Kind k else _) = _
    by_cases hk : k = w.Kind
    · rw [if_neg (show ¬ (w.Kind ≠ k) by simpa using hk.symm), if_neg (show ¬ (k ≠ w.Kind) by simpa using hk), ← hk]
      show (if k = 1 then cmpI w.N n else if k = 2 then cmpB w.B b else if k = 3 then cmpL w.L l else 0) = _
      by_cases h1 : k = 1
      · simp only [h1, if_true]; exact cmpI_anti _ _
      · simp only [h1, if_false]
        by_cases h2 : k = 2
        · simp only [h2, if_true]; exact cmpB_anti _ _
        · simp only [h2, if_false]
          by_cases h3 : k = 3
          · simp only [h3, if_true]; exact cmpL_anti l w.L
          · simp only [h3, if_false]; rfl
    · rw [if_pos (show w.Kind ≠ k from fun e => hk e.symm), if_pos (show k ≠ w.Kind from hk)]; exact cmpI_anti _ _
theorem cmpL_anti : ∀ a b : List Api_Value, cmpL b a = - cmpL a b
  | [], [] => by simp [cmpL]
  | [], _ :: _ => by simp [cmpL]
  | _ :: _, [] => by simp [cmpL]
  | x :: l, y :: m => by
    rw [cmpL_cons, cmpL_cons, cmpV_anti x y, cmpL_anti l m]
    by_cases h : cmpV x y = 0
    · simp [h]
    · have : - cmpV x y ≠ 0 := by omega
      rw [if_pos this, if_pos h]
end
theorem cmpV_refl (a : Api_Value) : cmpV a a = 0 := by have := cmpV_anti a a; omega

theorem law_totalOrder (u v w : Api_Value) (hu0 : szV u ≤ 1048576) (_ : okV u) (hv0 : szV v ≤ 1048576) (_ : okV v) (hw0 : szV w ≤ 1048576) (_ : okV w) : law01_CodecTotalOrder u v w = some true := by
  have hu : szV u ≤ 100000000000 := by omega
  have hv : szV v ≤ 100000000000 := by omega
  have hw : szV w ≤ 100000000000 := by omega
  unfold law01_CodecTotalOrder
  rw [sane_ok]
  refine (e_bindT rfl).trans ?_
  rw [if_neg (by simp)]
  refine (e_bindT (compare_eq u v hu)).trans ?_
  refine (e_bindT (compare_eq v w hv)).trans ?_
  refine (e_bindT (compare_eq u w hu)).trans ?_
  rw [compare_eq v u hv, compare_eq u u hu, cmpV_refl, cmpV_anti u v]
  have ra := cmpV_rng u v
  have rb := cmpV_rng v w
  have rc := cmpV_rng u w
  obtain ⟨t1, t2⟩ := tri_cmpV u v w
  generalize cmpV u v = a at *
  generalize cmpV v w = b at *
  generalize cmpV u w = c at *
  have h0 : (if decide (a < -1) = true then some true else if decide (a > 1) = true then some true else
      (some (-a)).bind fun y => if (y != w64 (0 - a)) = true then some true else (some (0 : Int)).bind fun z => some (z != 0) : Option Bool) = some false := by
    rw [if_neg (by simp; omega), if_neg (by simp; omega), w64_id (by omega)]
    refine (e_bindT rfl).trans ?_
    rw [if_neg (by simp)]
    rfl
  refine (e_bindT h0).trans ?_
  rw [if_neg (by simp)]
  rcases ra with rfl | rfl | rfl <;> rcases rb with rfl | rfl | rfl <;> rcases rc with rfl | rfl | rfl <;> first | decide | (exfalso; omega)
end Go.Proofs.Ytihncddenjbecaa
namespace Go.Proofs.Ytihncddenjbecaa
open Go.Rv Go.ChangeShapes Go.WideShapes Go.ChangeAt Go.RowKit
set_option linter.unusedVariables false

theorem codecTotalOrder_contract (H : Type) (enc : TypeId × Value → H) (W : World) (base : Nat) (args : Array Value) (ds gs : List (DataW H)) (before : List MemPlace)
    (hval0 : ∀ (j : Nat) t v, Try.f9.params[j]? = some t → args[j]? = some v → Value.okWide Try.prog W .any base t v)
    (hW : DataW.Whole enc Try.prog Try.f9.params.toList Rows.codecTotalOrderSpec.vars false W args.toList ds gs before) (hk : Rows.uptoSmall H (ds ++ gs) = true) :
    Calls Try.prog 9 args W fun e W' => ∃ v, e = .returned v ∧ Rows.codecTotalOrderSpec.post enc Try.prog Try.f9 false true false false W args v W' := by
  have hval : ∀ (j : Nat) t v, Try.f9.params[j]? = some t → args[j]? = some v → Value.okWide Try.prog W .any base t v := hval0
  have hW' := hW
  obtain ⟨p, q, hA0, hV, rfl, hfz, hnd⟩ := hW
  have hA : DataW.TrodAll enc Try.prog W 0 (fun _ => true) true Try.f9.params.toList args.toList ds p := hA0
  rw [Try.params9] at hA hval
  obtain ⟨v0, vs0, d0, ds0, p0, q0, hargs, rfl, rfl, h0, r0⟩ := trodAll_cons hA
  obtain ⟨v1, vs1, d1, ds1, p1, q1, rfl, rfl, rfl, h1, r1⟩ := trodAll_cons r0
  obtain ⟨v2, vs2, d2, ds2, p2, q2, rfl, rfl, rfl, h2, r2⟩ := trodAll_cons r1
  obtain ⟨rfl, rfl, rfl⟩ := trodAll_nil r2
  obtain rfl : args = #[v0, v1, v2] := by cases args; simp_all
  obtain ⟨rfl, rfl⟩ := trodVars_none hV
  have hbulk : Rows.uptoBulk d0 + (Rows.uptoBulk d1 + (Rows.uptoBulk d2)) ≤ 1048576 := by
    have := of_decide_eq_true hk
    simpa [Rows.uptoBulkAll] using this
  obtain ⟨x0, hsz0, hok0, hrep0⟩ := arg_agg Try.underlying25 (hval 0 25 v0 rfl rfl) opens25 h0 (pr := prot (B.env fun _ => False) []) (fun a => prot_empty a)
  have hs0 : szV x0 ≤ Rows.uptoBulk d0 := hsz0
  rw [cApi_Value_eq] at hrep0
  obtain ⟨x1, hsz1, hok1, hrep1⟩ := arg_agg Try.underlying25 (hval 1 25 v1 rfl rfl) opens25 h1 (pr := prot (B.env fun _ => False) []) (fun a => prot_empty a)
  have hs1 : szV x1 ≤ Rows.uptoBulk d1 := hsz1
  rw [cApi_Value_eq] at hrep1
  obtain ⟨x2, hsz2, hok2, hrep2⟩ := arg_agg Try.underlying25 (hval 2 25 v2 rfl rfl) opens25 h2 (pr := prot (B.env fun _ => False) []) (fun a => prot_empty a)
  have hs2 : szV x2 ≤ Rows.uptoBulk d2 := hsz2
  rw [cApi_Value_eq] at hrep2
  refine (law_calls G_none (law01_CodecTotalOrder_con (law_totalOrder x0 x1 x2 (by omega) hok0 (by omega) hok1 (by omega) hok2)) Try.func9 rfl (by decide +kernel) (W := W) (args := #[v0, v1, v2]) ⟨hrep0, hrep1, hrep2, trivial⟩).mono fun e W' ⟨he, hbel⟩ => ?_
  exact ⟨_, he, law_post hW' rfl rfl rfl Try.underlying4 laid_ok (by decide +kernel) hbel⟩

set_option maxRecDepth 100000 in
theorem codecTotalOrder_lifted (os : Os) (started : os.Started) (H : Type) (enc : TypeId × Value → H) (F : Stop.Interp) :
    ReturnsInHanded {} Try.checked os 9 .any ((Rows.OpenSpec.upto Rows.codecTotalOrderSpec).pre6 enc Try.prog Try.f9 Rows.codecTotalOrderUptoRow.domain false) (((Rows.OpenSpec.upto Rows.codecTotalOrderSpec).at F).post enc Try.prog Try.f9 false true false false) := by
  refine returnsInHanded_of_cond (C := Try.checked) (s := Rows.OpenSpec.upto Rows.codecTotalOrderSpec) (k := Rows.uptoSmall) rfl own started (by kernel_rfl) Try.func9
    (OpenSpec.witness (enc := enc) (C := Try.checked) (s := Rows.OpenSpec.upto Rows.codecTotalOrderSpec) (k := Rows.uptoSmall) rfl false ⟨#[], #[.agg #[.int .i64 0, .int .i64 0, .slice none 0 0, .slice none 0 0], .agg #[.int .i64 0, .int .i64 0, .slice none 0 0, .slice none 0 0], .agg #[.int .i64 0, .int .i64 0, .slice none 0 0, .slice none 0 0]], []⟩ 8 (by kernel_rfl) (by kernel_rfl) (by kernel_rfl)
      (x := ([.agg [.lit (.int .i64 0), .lit (.int .i64 0), .nil, .nil], .agg [.lit (.int .i64 0), .lit (.int .i64 0), .nil, .nil], .agg [.lit (.int .i64 0), .lit (.int .i64 0), .nil, .nil]], [], [])) (by kernel_rfl) rfl (by kernel_rfl)) ?_
  intro W base args ds gs before hval hW _ hk _
  exact codecTotalOrder_contract H enc W base args ds gs before hval hW hk

theorem codecTotalOrder_upto : Rows.CodecTotalOrderUptoSaid :=
  OpenClaim.holds_of_cond 9 Try.f9 rfl rfl rfl rfl rfl rfl rfl ⟨rfl, rfl, rfl, rfl, rfl⟩ rfl rfl rfl rfl rfl (by kernel_rfl) Try.func9 (by kernel_rfl)
    (of_decide_eq_true (by kernel_rfl)) (by unfold Func.isWrapper; first | (rw [if_pos (by decide +kernel)]; kernel_rfl) | (rw [if_neg (by decide +kernel)]; exact ⟨rfl, rfl⟩))
    (fun os started H enc _ F => codecTotalOrder_lifted os started H enc F)

end Go.Proofs.Ytihncddenjbecaa
