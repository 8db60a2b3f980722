/-
  The library and the walks, part 2.
-/
import Derived.Test.YtihncddenjbecaaZC1
import Derived.KernelRfl
/-
  The functions compute just that.
-/
namespace Go.Proofs.Ytihncddenjbecaa
open Go.Rv
set_option linter.unusedVariables false
set_option linter.unusedSimpArgs false
set_option maxRecDepth 20000

theorem r01_Same_F_con {rec_ : Api_Value → Api_Value → Option (Bool)} (hrec : ∀ {a_2097 : Api_Value} {b_2098 : Api_Value} {r : Bool}, rec_ a_2097 b_2098 = some r → Con B 23 [.agg [i64 a_2097.Kind, i64 a_2097.N, .sl false (L cU8 a_2097.B), .sl false (L cApi_Value a_2097.L)], .agg [i64 b_2098.Kind, i64 b_2098.N, .sl false (L cU8 b_2098.B), .sl false (L cApi_Value b_2098.L)]] [] (fun r' σ' => r' = .bool r ∧ σ' = [])) {a_2097 : Api_Value} {b_2098 : Api_Value} {r : Bool} (h : r01_Same_F rec_ a_2097 b_2098 = some r) : Con B 23 [.agg [i64 a_2097.Kind, i64 a_2097.N, .sl false (L cU8 a_2097.B), .sl false (L cApi_Value a_2097.L)], .agg [i64 b_2098.Kind, i64 b_2098.N, .sl false (L cU8 b_2098.B), .sl false (L cApi_Value b_2098.L)]] [] (fun r' σ' => r' = .bool r ∧ σ' = []) := by
  refine con_walk (N := 54) (rs := [.tmp 4]) ok Try.func23 rfl (by decide +kernel) rfl rfl (Nat.le_of_ble_eq_true rfl) (fun F => ?_)
  have hE := ok.env F
  unfold r01_Same_F at h
  show Run (B.env F) 0 _ ⟨asFr 54 [(0, .agg [i64 a_2097.Kind, i64 a_2097.N, .sl false (L cU8 a_2097.B), .sl false (L cApi_Value a_2097.L)]), (1, .agg [i64 b_2098.Kind, i64 b_2098.N, .sl false (L cU8 b_2098.B), .sl false (L cApi_Value b_2098.L)])], []⟩ _
  refine run_textE hE [2, 3] (fr' := [(2, .ref 0 0), (3, .ref 1 0)]) (σ' := [.box [i64 a_2097.Kind, i64 a_2097.N, .sl false (L cU8 a_2097.B), .sl false (L cApi_Value a_2097.L)] false, .box [i64 b_2098.Kind, i64 b_2098.N, .sl false (L cU8 b_2098.B), .sl false (L cApi_Value b_2098.L)] false]) ⟨_, orcs_nil, ?_⟩ ?_
  · simp only [go_sem, reduceIte, Nat.reduceLT, Nat.reduceEqDiff, Nat.reduceAdd]
  refine run_seq ?_
  replace h := bind_some1 h; obtain ⟨t_2100, hv_2101, h⟩ := h
  refine run_textW hE [2, 3, 34] (fr' := [(2, .ref 0 0), (3, .ref 1 0), (34, .bool t_2100)]) (σ' := [.box [i64 a_2097.Kind, i64 a_2097.N, .sl false (L cU8 a_2097.B), .sl false (L cApi_Value a_2097.L)] false, .box [i64 b_2098.Kind, i64 b_2098.N, .sl false (L cU8 b_2098.B), .sl false (L cApi_Value b_2098.L)] false]) ?_ ?_
  · rcases Bool.eq_false_or_eq_true ((a_2097.Kind != b_2098.Kind)) with hb_2102 | hb_2102
    · replace hv_2101 := ite_t hv_2101 hb_2102
      have e_hv_2101 := Option.some.inj hv_2101; subst e_hv_2101
      exact ⟨_, [(2, .ref 0 0), (3, .ref 1 0), (34, .bool true)], [.box [i64 a_2097.Kind, i64 a_2097.N, .sl false (L cU8 a_2097.B), .sl false (L cApi_Value a_2097.L)] false, .box [i64 b_2098.Kind, i64 b_2098.N, .sl false (L cU8 b_2098.B), .sl false (L cApi_Value b_2098.L)] false], orcs_nil, by simp only [go_sem, reduceIte, Nat.reduceLT, Nat.reduceEqDiff, Nat.reduceAdd, hb_2102], (weak_sel [0, 1] (by decide) rfl (by simp only [go_sem, reduceIte, Nat.reduceLT, Nat.reduceEqDiff, Nat.reduceAdd]) (by simp only [go_sem, reduceIte, Nat.reduceLT, Nat.reduceEqDiff, Nat.reduceAdd]))⟩
    · replace hv_2101 := ite_f hv_2101 hb_2102
      rcases Bool.eq_false_or_eq_true ((a_2097.N != b_2098.N)) with hb_2103 | hb_2103
      · replace hv_2101 := ite_t hv_2101 hb_2103
        have e_hv_2101 := Option.some.inj hv_2101; subst e_hv_2101
        exact ⟨_, [(2, .ref 0 0), (3, .ref 1 0), (34, .bool true)], [.box [i64 a_2097.Kind, i64 a_2097.N, .sl false (L cU8 a_2097.B), .sl false (L cApi_Value a_2097.L)] false, .box [i64 b_2098.Kind, i64 b_2098.N, .sl false (L cU8 b_2098.B), .sl false (L cApi_Value b_2098.L)] false], orcs_nil, by simp only [go_sem, reduceIte, Nat.reduceLT, Nat.reduceEqDiff, Nat.reduceAdd, hb_2102, hb_2103], (weak_sel [0, 1] (by decide) rfl (by simp only [go_sem, reduceIte, Nat.reduceLT, Nat.reduceEqDiff, Nat.reduceAdd]) (by simp only [go_sem, reduceIte, Nat.reduceLT, Nat.reduceEqDiff, Nat.reduceAdd]))⟩
      · replace hv_2101 := ite_f hv_2101 hb_2103
        replace hv_2101 := bind_some1 hv_2101; obtain ⟨y_2099, hy_2104, hv_2101⟩ := hv_2101
        rcases Bool.eq_false_or_eq_true ((y_2099 != 0)) with hb_2105 | hb_2105
        · replace hv_2101 := ite_t hv_2101 hb_2105
          have e_hv_2101 := Option.some.inj hv_2101; subst e_hv_2101
          exact ⟨_, [(2, .ref 0 0), (3, .ref 1 0), (34, .bool true)], [.box [i64 a_2097.Kind, i64 a_2097.N, .sl false (L cU8 a_2097.B), .sl false (L cApi_Value a_2097.L)] false, .box [i64 b_2098.Kind, i64 b_2098.N, .sl false (L cU8 b_2098.B), .sl false (L cApi_Value b_2098.L)] false], orcs_ok (l := [(23, 24, [.sl false (L cU8 a_2097.B), .sl false (L cU8 b_2098.B)], i64 y_2099)]) ⟨r01_OrderBytes_con  hy_2104, trivial⟩, by simp only [go_sem, reduceIte, Nat.reduceLT, Nat.reduceEqDiff, Nat.reduceAdd, hb_2102, hb_2103, hb_2105], (weak_sel [0, 1] (by decide) rfl (by simp only [go_sem, reduceIte, Nat.reduceLT, Nat.reduceEqDiff, Nat.reduceAdd]) (by simp only [go_sem, reduceIte, Nat.reduceLT, Nat.reduceEqDiff, Nat.reduceAdd]))⟩
        · replace hv_2101 := ite_f hv_2101 hb_2105
          have e_hv_2101 := Option.some.inj hv_2101; subst e_hv_2101
          exact ⟨_, [(2, .ref 0 0), (3, .ref 1 0), (34, .bool (((a_2097.L.length : Int) != (b_2098.L.length : Int))))], [.box [i64 a_2097.Kind, i64 a_2097.N, .sl false (L cU8 a_2097.B), .sl false (L cApi_Value a_2097.L)] false, .box [i64 b_2098.Kind, i64 b_2098.N, .sl false (L cU8 b_2098.B), .sl false (L cApi_Value b_2098.L)] false], orcs_ok (l := [(23, 24, [.sl false (L cU8 a_2097.B), .sl false (L cU8 b_2098.B)], i64 y_2099)]) ⟨r01_OrderBytes_con  hy_2104, trivial⟩, by simp only [go_sem, reduceIte, Nat.reduceLT, Nat.reduceEqDiff, Nat.reduceAdd, hb_2102, hb_2103, hb_2105], (weak_sel [0, 1] (by decide) rfl (by simp only [go_sem, reduceIte, Nat.reduceLT, Nat.reduceEqDiff, Nat.reduceAdd]) (by simp only [go_sem, reduceIte, Nat.reduceLT, Nat.reduceEqDiff, Nat.reduceAdd]))⟩
  refine run_condL (b := t_2100) rfl (by decide) (fun hb => ?_) (fun hb => ?_)
  · replace h := ite_t h hb
    refine run_textE hE [4] (fr' := [(4, .bool false)]) (σ' := [.box [i64 a_2097.Kind, i64 a_2097.N, .sl false (L cU8 a_2097.B), .sl false (L cApi_Value a_2097.L)] false, .box [i64 b_2098.Kind, i64 b_2098.N, .sl false (L cU8 b_2098.B), .sl false (L cApi_Value b_2098.L)] false]) ⟨_, orcs_nil, ?_⟩ ?_
    · simp only [go_sem, reduceIte, Nat.reduceLT, Nat.reduceEqDiff, Nat.reduceAdd]
    refine run_ret ?_
    refine thenK_r ?_
    obtain rfl := Option.some.inj h
    refine ret_ok (.inr rfl) ?_
    simp only [go_sem, reduceIte, Nat.reduceLT, Nat.reduceEqDiff, Nat.reduceAdd]
  · replace h := ite_f h hb
    refine run_skip ?_
    refine thenK_n ?_
    replace h := bind_some1 h; obtain ⟨j_2130, hA_2131, hj_2132⟩ := h
    refine run_join (fun (v : Unit) => (⟨asFr 54 [], []⟩ : St)) (fun v => .inl v = j_2130) ?_ ?_
    · have h := hA_2131; clear hA_2131
      refine run_textE hE [2, 3, 5] (fr' := [(2, .ref 0 0), (3, .ref 1 0), (5, i64 0)]) (σ' := [.box [i64 a_2097.Kind, i64 a_2097.N, .sl false (L cU8 a_2097.B), .sl false (L cApi_Value a_2097.L)] false, .box [i64 b_2098.Kind, i64 b_2098.N, .sl false (L cU8 b_2098.B), .sl false (L cApi_Value b_2098.L)] false]) ⟨_, orcs_nil, ?_⟩ ?_
      · simp only [go_sem, reduceIte, Nat.reduceLT, Nat.reduceEqDiff, Nat.reduceAdd]
      refine run_block ?_
      replace h := bind_some1 h; obtain ⟨x_2146, hx_2147, hj_2148⟩ := h
      refine run_loopO hx_2147 (fun (v : Int) => (⟨asFr 54 [(2, .ref 0 0), (3, .ref 1 0), (5, i64 v)], [.box [i64 a_2097.Kind, i64 a_2097.N, .sl false (L cU8 a_2097.B), .sl false (L cApi_Value a_2097.L)] false, .box [i64 b_2098.Kind, i64 b_2098.N, .sl false (L cU8 b_2098.B), .sl false (L cApi_Value b_2098.L)] false]⟩ : St)) (weak_sel [0, 1] (by decide) rfl (by simp only [go_sem, reduceIte, Nat.reduceLT, Nat.reduceEqDiff, Nat.reduceAdd]) (by simp only [go_sem, reduceIte, Nat.reduceLT, Nat.reduceEqDiff, Nat.reduceAdd])) ?_
      rintro i_2139 o_2149 h hxx_2150
      replace h : r01_Same_b1 a_2097 b_2098 rec_ i_2139 = some o_2149 := h
      unfold r01_Same_b1 at h
      refine run_seq ?_
      refine run_textE hE [2, 3, 5, 39] (fr' := [(2, .ref 0 0), (3, .ref 1 0), (5, i64 i_2139), (39, .bool ((decide (i_2139 < (a_2097.L.length : Int)))))]) (σ' := [.box [i64 a_2097.Kind, i64 a_2097.N, .sl false (L cU8 a_2097.B), .sl false (L cApi_Value a_2097.L)] false, .box [i64 b_2098.Kind, i64 b_2098.N, .sl false (L cU8 b_2098.B), .sl false (L cApi_Value b_2098.L)] false]) ⟨_, orcs_nil, ?_⟩ ?_
      · simp only [go_sem, reduceIte, Nat.reduceLT, Nat.reduceEqDiff, Nat.reduceAdd]
      refine run_condL (b := (decide (i_2139 < (a_2097.L.length : Int)))) rfl (by decide) (fun hb => ?_) (fun hb => ?_)
      · replace h := ite_t h hb
        refine run_skip ?_
        refine thenK_n ?_
        refine run_seq ?_
        refine run_block ?_
        replace h := chk_some h; obtain ⟨hc_2152, h⟩ := h
        replace h := chk_some h; obtain ⟨hc_2153, h⟩ := h
        replace h := bind_some1 h; obtain ⟨y_2151, hy_2154, h⟩ := h
        refine run_drawE hE mixed [[], [0], [], [0, 1, 2], [0, 1, 2, 3], [], [5], [], [5, 6, 7], [5, 6, 7, 8], [0, 1, 2, 3, 4, 5, 6, 7, 8, 9], [0, 1, 2, 3, 4, 5, 6, 7, 8, 9, 10]] (by kernel_rfl) (by kernel_rfl) [2, 3, 5, 53] (fr' := [(2, .ref 0 0), (3, .ref 1 0), (5, i64 i_2139), (53, .bool ((!y_2151)))]) (σ' := [.box [i64 a_2097.Kind, i64 a_2097.N, .sl false (L cU8 a_2097.B), .sl false (L cApi_Value a_2097.L)] false, .box [i64 b_2098.Kind, i64 b_2098.N, .sl false (L cU8 b_2098.B), .sl false (L cApi_Value b_2098.L)] false]) ⟨_, orcs_ok (l := [(52, 23, [.agg [i64 ((nth a_2097.L i_2139.toNat).Kind), i64 ((nth a_2097.L i_2139.toNat).N), .sl false (L cU8 ((nth a_2097.L i_2139.toNat).B)), .sl false (L cApi_Value ((nth a_2097.L i_2139.toNat).L))], .agg [i64 ((nth b_2098.L i_2139.toNat).Kind), i64 ((nth b_2098.L i_2139.toNat).N), .sl false (L cU8 ((nth b_2098.L i_2139.toNat).B)), .sl false (L cApi_Value ((nth b_2098.L i_2139.toNat).L))]], .bool y_2151)]) ⟨hrec  hy_2154, trivial⟩, ?_⟩ ?_
        · simp only [go_sem, reduceIte, Nat.reduceLT, Nat.reduceEqDiff, Nat.reduceAdd, Int.reduceToNat, hc_2152, hc_2152.2, lt_le hc_2152.2, hc_2153, hc_2153.2, lt_le hc_2153.2]
        refine run_condL (b := (!y_2151)) rfl (by decide) (fun hb => ?_) (fun hb => ?_)
        · replace h := ite_t h hb
          refine run_textE hE [4] (fr' := [(4, .bool false)]) (σ' := [.box [i64 a_2097.Kind, i64 a_2097.N, .sl false (L cU8 a_2097.B), .sl false (L cApi_Value a_2097.L)] false, .box [i64 b_2098.Kind, i64 b_2098.N, .sl false (L cU8 b_2098.B), .sl false (L cApi_Value b_2098.L)] false]) ⟨_, orcs_nil, ?_⟩ ?_
          · simp only [go_sem, reduceIte, Nat.reduceLT, Nat.reduceEqDiff, Nat.reduceAdd]
          refine run_ret ?_
          refine blockK_r ?_
          refine thenK_r ?_
          refine lpK_r ?_
          replace h := bind_some1 h; obtain ⟨z_2156, h, e_z_2156⟩ := h
          obtain rfl := Option.some.inj e_z_2156
          have ex_z_2156 := hxx_2150 _ rfl
          subst ex_z_2156
          obtain rfl := Option.some.inj hj_2148
          refine blockK_r ?_
          refine joinK_r ?_
          replace h := bind_some1 h; obtain ⟨z_2155, h, e_z_2155⟩ := h
          obtain rfl := Option.some.inj e_z_2155
          obtain rfl := Option.some.inj hj_2132
          obtain rfl := Option.some.inj h
          refine ret_ok (.inr rfl) ?_
          simp only [go_sem, reduceIte, Nat.reduceLT, Nat.reduceEqDiff, Nat.reduceAdd]
        · replace h := ite_f h hb
          refine run_skip ?_
          refine blockK_n ?_
          refine thenK_n ?_
          refine run_textE0 hE wk_lp [2, 3, 5] (fr' := [(2, .ref 0 0), (3, .ref 1 0), (5, i64 ((w64 (i_2139 + 1))))]) (σ' := [.box [i64 a_2097.Kind, i64 a_2097.N, .sl false (L cU8 a_2097.B), .sl false (L cApi_Value a_2097.L)] false, .box [i64 b_2098.Kind, i64 b_2098.N, .sl false (L cU8 b_2098.B), .sl false (L cApi_Value b_2098.L)] false]) ⟨_, orcs_nil, ?_⟩ ?_
          · simp only [go_sem, reduceIte, Nat.reduceLT, Nat.reduceEqDiff, Nat.reduceAdd]
          obtain rfl := Option.some.inj h
          exact lpK_n ((w64 (i_2139 + 1))) rfl (weak_sel [0, 1] (by decide) rfl (by simp only [go_sem, reduceIte, Nat.reduceLT, Nat.reduceEqDiff, Nat.reduceAdd]) (by simp only [go_sem, reduceIte, Nat.reduceLT, Nat.reduceEqDiff, Nat.reduceAdd]))
      · replace h := ite_f h hb
        refine run_exit ?_
        refine thenK_x ?_
        obtain rfl := Option.some.inj h
        have ex_x_2146 := hxx_2150 _ rfl
        subst ex_x_2146
        have h := hj_2148; clear hj_2148
        refine lpK_x ?_
        refine blockK_x ?_
        obtain rfl := Option.some.inj h
        exact joinK_n (()) rfl ((weak_sel (l' := []) (σ' := []) [] (by decide) rfl (by simp only [go_sem, reduceIte, Nat.reduceLT, Nat.reduceEqDiff, Nat.reduceAdd]) (by simp only [go_sem, reduceIte, Nat.reduceLT, Nat.reduceEqDiff, Nat.reduceAdd])).trans (weak_sel [] (by decide) rfl (by simp only [go_sem, reduceIte, Nat.reduceLT, Nat.reduceEqDiff, Nat.reduceAdd]) (by simp only [go_sem, reduceIte, Nat.reduceLT, Nat.reduceEqDiff, Nat.reduceAdd])))
    rintro ⟨⟩ rfl
    have h := hj_2132; clear hj_2132
    refine run_textE hE [4] (fr' := [(4, .bool true)]) (σ' := []) ⟨_, orcs_nil, ?_⟩ ?_
    · simp only [go_sem, reduceIte, Nat.reduceLT, Nat.reduceEqDiff, Nat.reduceAdd]
    refine run_ret ?_
    obtain rfl := Option.some.inj h
    refine ret_ok (.inr rfl) ?_
    simp only [go_sem, reduceIte, Nat.reduceLT, Nat.reduceEqDiff, Nat.reduceAdd]
theorem r01_Same_n_con (n : Nat) : ∀ {a_2097 : Api_Value} {b_2098 : Api_Value} {r : Bool}, r01_Same_n n a_2097 b_2098 = some r → Con B 23 [.agg [i64 a_2097.Kind, i64 a_2097.N, .sl false (L cU8 a_2097.B), .sl false (L cApi_Value a_2097.L)], .agg [i64 b_2098.Kind, i64 b_2098.N, .sl false (L cU8 b_2098.B), .sl false (L cApi_Value b_2098.L)]] [] (fun r' σ' => r' = .bool r ∧ σ' = []) := by
  induction n with
  | zero => intro a_2097 b_2098 r h; cases h
  | succ n ih => intro a_2097 b_2098 r h; exact r01_Same_F_con ih h
theorem r01_Same_con {a_2097 : Api_Value} {b_2098 : Api_Value} {r : Bool} (h : r01_Same a_2097 b_2098 = some r) : Con B 23 [.agg [i64 a_2097.Kind, i64 a_2097.N, .sl false (L cU8 a_2097.B), .sl false (L cApi_Value a_2097.L)], .agg [i64 b_2098.Kind, i64 b_2098.N, .sl false (L cU8 b_2098.B), .sl false (L cApi_Value b_2098.L)]] [] (fun r' σ' => r' = .bool r ∧ σ' = []) := r01_Same_n_con _ h

theorem r01_Around_con {x_2157 : Int} {n_2158 : Int} {r : Int} (h : r01_Around x_2157 n_2158 = some r) : Con B 25 [i64 x_2157, i64 n_2158] [] (fun r' σ' => r' = i64 r ∧ σ' = []) := by
  refine con_walk (N := 14) (rs := [.tmp 4]) ok Try.func25 rfl (by decide +kernel) rfl rfl (Nat.le_of_ble_eq_true rfl) (fun F => ?_)
  have hE := ok.env F
  unfold r01_Around at h
  show Run (B.env F) 0 _ ⟨asFr 14 [(0, i64 x_2157), (1, i64 n_2158)], []⟩ _
  refine run_textE hE [0, 1] (fr' := [(0, i64 x_2157), (1, i64 n_2158)]) (σ' := []) ⟨_, orcs_nil, ?_⟩ ?_
  · simp only [go_sem, reduceIte, Nat.reduceLT, Nat.reduceEqDiff, Nat.reduceAdd]
  replace h := chk_some h; obtain ⟨hc_2159, h⟩ := h
  replace h := lt1_some h; obtain ⟨x_2160, hz_2161, h⟩ := h
  refine run_textE hE [0, 1] (fr' := [(0, i64 x_2160), (1, i64 n_2158)]) (σ' := []) ⟨_, orcs_nil, ?_⟩ ?_
  · subst hz_2161; simp only [go_sem, reduceIte, Nat.reduceLT, Nat.reduceEqDiff, Nat.reduceAdd, hc_2159]
  replace h := bind_some1 h; obtain ⟨j_2163, hA_2164, hj_2165⟩ := h
  refine run_join (fun (v : Int) => (⟨asFr 14 [(0, i64 v)], []⟩ : St)) (fun v => v = j_2163) ?_ ?_
  · have h := hA_2164; clear hA_2164
    refine run_textE hE [0, 1, 9] (fr' := [(0, i64 x_2160), (1, i64 n_2158), (9, .bool ((decide (x_2160 < 0))))]) (σ' := []) ⟨_, orcs_nil, ?_⟩ ?_
    · simp only [go_sem, reduceIte, Nat.reduceLT, Nat.reduceEqDiff, Nat.reduceAdd]
    refine run_condL (b := (decide (x_2160 < 0))) rfl (by decide) (fun hb => ?_) (fun hb => ?_)
    · replace h := ite_t h hb
      refine run_textE0 hE wk_join [0] (fr' := [(0, i64 ((w64 (x_2160 + n_2158))))]) (σ' := []) ⟨_, orcs_nil, ?_⟩ ?_
      · simp only [go_sem, reduceIte, Nat.reduceLT, Nat.reduceEqDiff, Nat.reduceAdd]
      obtain rfl := Option.some.inj h
      exact joinK_n ((w64 (x_2160 + n_2158))) rfl (weak_sel [] (by decide) rfl (by simp only [go_sem, reduceIte, Nat.reduceLT, Nat.reduceEqDiff, Nat.reduceAdd]) (by simp only [go_sem, reduceIte, Nat.reduceLT, Nat.reduceEqDiff, Nat.reduceAdd]))
    · replace h := ite_f h hb
      refine run_skip ?_
      obtain rfl := Option.some.inj h
      exact joinK_n x_2160 rfl (weak_sel [] (by decide) rfl (by simp only [go_sem, reduceIte, Nat.reduceLT, Nat.reduceEqDiff, Nat.reduceAdd]) (by simp only [go_sem, reduceIte, Nat.reduceLT, Nat.reduceEqDiff, Nat.reduceAdd]))
  rintro x_2162 rfl
  have h := hj_2165; clear hj_2165
  refine run_textE hE [4] (fr' := [(4, i64 x_2162)]) (σ' := []) ⟨_, orcs_nil, ?_⟩ ?_
  · simp only [go_sem, reduceIte, Nat.reduceLT, Nat.reduceEqDiff, Nat.reduceAdd]
  refine run_ret ?_
  obtain rfl := Option.some.inj h
  refine ret_ok (.inr rfl) ?_
  simp only [go_sem, reduceIte, Nat.reduceLT, Nat.reduceEqDiff, Nat.reduceAdd]

theorem r01_Joined_con {a_2166 : List UInt8} {b_2167 : List UInt8} {r : List UInt8} (h : r01_Joined a_2166 b_2167 = some r) : Con B 26 [.sl false (L cU8 a_2166), .sl false (L cU8 b_2167)] [] (fun r' σ' => r' = .bs false 0 (r.length) 0 (r.length) ∧ σ' = [.buf 1 (L cU8 r) false]) := by
  refine con_walk_own (N := 13) (rs := [.tmp 4]) 0 rfl ok Try.func26 rfl (by decide +kernel) rfl rfl (Nat.le_of_ble_eq_true rfl) (fun F => ?_)
  have hE := ok.env F
  unfold r01_Joined at h
  show Run (B.env F) 0 _ ⟨asFr 13 [(0, .sl false (L cU8 a_2166)), (1, .sl false (L cU8 b_2167))], []⟩ _
  refine run_textE hE [0, 1] (fr' := [(0, .sl false (L cU8 a_2166)), (1, .sl false (L cU8 b_2167))]) (σ' := []) ⟨_, orcs_nil, ?_⟩ ?_
  · simp only [go_sem, reduceIte, Nat.reduceLT, Nat.reduceEqDiff, Nat.reduceAdd]
  replace h := lt1_some h; obtain ⟨l_2176, hz_2177, h⟩ := h
  refine run_textE hE [0, 1, 5] (fr' := [(0, .sl false (L cU8 a_2166)), (1, .sl false (L cU8 b_2167)), (5, .bs true 0 (l_2176.length) 0 (l_2176.length))]) (σ' := [.buf 1 (L cU8 l_2176) false]) ⟨_, orcs_nil, ?_⟩ ?_
  · subst hz_2177; simp only [go_sem, reduceIte, Nat.reduceLT, Nat.reduceEqDiff, Nat.reduceAdd, Nat.reduceBEq, Nat.reduceMul, Nat.reduceSub, Nat.reduceGT, Nat.reducePow, Nat.reduceLeDiff, Int.reduceToNat]
  replace h := chk_some h; obtain ⟨hc_2178, h⟩ := h
  replace h := lt1_some h; obtain ⟨l_2179, hz_2180, h⟩ := h
  refine run_textE hE [1, 5] (fr' := [(1, .sl false (L cU8 b_2167)), (5, .bs false 0 (l_2179.length) 0 (l_2179.length))]) (σ' := [.buf 1 (L cU8 l_2179) false]) ⟨_, orcs_nil, ?_⟩ ?_
  · subst hz_2180; simp only [go_sem, reduceIte, Nat.reduceLT, Nat.reduceEqDiff, Nat.reduceAdd, hc_2178]
  replace h := chk_some h; obtain ⟨hc_2181, h⟩ := h
  replace h := lt1_some h; obtain ⟨l_2182, hz_2183, h⟩ := h
  refine run_textE hE [4] (fr' := [(4, .bs false 0 (l_2182.length) 0 (l_2182.length))]) (σ' := [.buf 1 (L cU8 l_2182) false]) ⟨_, orcs_nil, ?_⟩ ?_
  · subst hz_2183; simp only [go_sem, reduceIte, Nat.reduceLT, Nat.reduceEqDiff, Nat.reduceAdd, hc_2181]
  refine run_ret ?_
  obtain rfl := Option.some.inj h
  refine ret_own (.inr rfl) [0] (by decide) rfl ?_ ?_
  · simp only [go_sem, reduceIte, Nat.reduceLT, Nat.reduceEqDiff, Nat.reduceAdd]
  · simp only [go_sem, reduceIte, Nat.reduceLT, Nat.reduceEqDiff, Nat.reduceAdd]

theorem r01_Int_con {n_2184 : Int} {r : Api_Value} (h : r01_Int n_2184 = some r) : Con B 29 [i64 n_2184] [] (fun r' σ' => r' = .agg [i64 r.Kind, i64 r.N, .sl false (L cU8 r.B), .sl false (L cApi_Value r.L)] ∧ σ' = []) := by
  refine con_walk (N := 5) (rs := [.cell 2 25]) ok Try.func29 rfl (by decide +kernel) rfl rfl (Nat.le_of_ble_eq_true rfl) (fun F => ?_)
  have hE := ok.env F
  unfold r01_Int at h
  show Run (B.env F) 0 _ ⟨asFr 5 [(0, i64 n_2184)], []⟩ _
  refine run_textE hE [0, 2] (fr' := [(0, i64 n_2184), (2, .ref 0 0)]) (σ' := [.box [i64 0, i64 0, .sl true (L cU8 ([])), .sl true (L cApi_Value ([]))] false]) ⟨_, orcs_nil, ?_⟩ ?_
  · simp only [go_sem, reduceIte, Nat.reduceLT, Nat.reduceEqDiff, Nat.reduceAdd]
  refine run_textE hE [2] (fr' := [(2, .ref 0 0)]) (σ' := [.box [i64 1, i64 n_2184, .sl true (L cU8 ([])), .sl true (L cApi_Value ([]))] false]) ⟨_, orcs_nil, ?_⟩ ?_
  · simp only [go_sem, reduceIte, Nat.reduceLT, Nat.reduceEqDiff, Nat.reduceAdd, Nat.reduceGT]
  refine run_ret ?_
  obtain rfl := Option.some.inj h
  refine ret_ok (.inr rfl) ?_
  simp only [go_sem, reduceIte, Nat.reduceLT, Nat.reduceEqDiff, Nat.reduceAdd]

theorem r01_Text_con {s_2185 : List UInt8} {r : Api_Value} (h : r01_Text s_2185 = some r) : Con B 31 [.str s_2185] [] (fun r' σ' => r' = .agg [i64 r.Kind, i64 r.N, .sl false (L cU8 r.B), .sl false (L cApi_Value r.L)] ∧ σ' = []) := by
  refine con_walk (N := 6) (rs := [.cell 2 25]) ok Try.func31 rfl (by decide +kernel) rfl rfl (Nat.le_of_ble_eq_true rfl) (fun F => ?_)
  have hE := ok.env F
  unfold r01_Text at h
  show Run (B.env F) 0 _ ⟨asFr 6 [(0, .str s_2185)], []⟩ _
  refine run_textE hE [0, 2] (fr' := [(0, .str s_2185), (2, .ref 0 0)]) (σ' := [.box [i64 0, i64 0, .sl true (L cU8 ([])), .sl true (L cApi_Value ([]))] false]) ⟨_, orcs_nil, ?_⟩ ?_
  · simp only [go_sem, reduceIte, Nat.reduceLT, Nat.reduceEqDiff, Nat.reduceAdd]
  refine run_textE hE [2] (fr' := [(2, .ref 0 0)]) (σ' := [.box [i64 2, i64 0, .bs false 1 (s_2185.length) 0 (s_2185.length), .sl true (L cApi_Value ([]))] false, .buf 1 (L cU8 s_2185) false]) ⟨_, orcs_nil, ?_⟩ ?_
  · simp only [go_sem, reduceIte, Nat.reduceLT, Nat.reduceEqDiff, Nat.reduceAdd, Nat.reduceGT]
  refine run_ret ?_
  obtain rfl := Option.some.inj h
  refine ret_ok (.inr rfl) ?_
  simp only [go_sem, reduceIte, Nat.reduceLT, Nat.reduceEqDiff, Nat.reduceAdd]

theorem r01_List_con {l_2186 : List Api_Value} {r : Api_Value} (h : r01_List l_2186 = some r) : Con B 27 [.sl false (L cApi_Value l_2186)] [] (fun r' σ' => r' = .agg [i64 r.Kind, i64 r.N, .sl false (L cU8 r.B), .sl false (L cApi_Value r.L)] ∧ σ' = []) := by
  refine con_walk (N := 5) (rs := [.cell 2 25]) ok Try.func27 rfl (by decide +kernel) rfl rfl (Nat.le_of_ble_eq_true rfl) (fun F => ?_)
  have hE := ok.env F
  unfold r01_List at h
  show Run (B.env F) 0 _ ⟨asFr 5 [(0, .sl false (L cApi_Value l_2186))], []⟩ _
  refine run_textE hE [0, 2] (fr' := [(0, .sl false (L cApi_Value l_2186)), (2, .ref 0 0)]) (σ' := [.box [i64 0, i64 0, .sl true (L cU8 ([])), .sl true (L cApi_Value ([]))] false]) ⟨_, orcs_nil, ?_⟩ ?_
  · simp only [go_sem, reduceIte, Nat.reduceLT, Nat.reduceEqDiff, Nat.reduceAdd]
  refine run_textE hE [2] (fr' := [(2, .ref 0 0)]) (σ' := [.box [i64 3, i64 0, .sl true (L cU8 ([])), .sl false (L cApi_Value l_2186)] false]) ⟨_, orcs_nil, ?_⟩ ?_
  · simp only [go_sem, reduceIte, Nat.reduceLT, Nat.reduceEqDiff, Nat.reduceAdd, Nat.reduceGT]
  refine run_ret ?_
  obtain rfl := Option.some.inj h
  refine ret_ok (.inr rfl) ?_
  simp only [go_sem, reduceIte, Nat.reduceLT, Nat.reduceEqDiff, Nat.reduceAdd]

end Go.Proofs.Ytihncddenjbecaa
/-
  The functions compute just that.
-/
namespace Go.Proofs.Ytihncddenjbecaa
open Go.Rv
set_option linter.unusedVariables false
set_option linter.unusedSimpArgs false
set_option maxRecDepth 20000

theorem r01_readInt_con {b_2187 : List UInt8} {at_2188 : Int} {t_2189 : Int} {r : Api_Value × Int × Int} (h : r01_readInt b_2187 at_2188 t_2189 = some r) : Con B 51 [.sl false (L cU8 b_2187), i64 at_2188, i64 t_2189] [] (fun r' σ' => r' = .tup [.agg [i64 r.1.Kind, i64 r.1.N, .sl false (L cU8 r.1.B), .sl false (L cApi_Value r.1.L)], i64 r.2.1, i64 r.2.2] ∧ σ' = []) := by
  refine con_walk (N := 69) (rs := [.cell 6 25, .tmp 7, .tmp 8]) ok Try.func51 rfl (by decide +kernel) rfl rfl (Nat.le_of_ble_eq_true rfl) (fun F => ?_)
  have hE := ok.env F
  unfold r01_readInt at h
  show Run (B.env F) 0 _ ⟨asFr 69 [(0, .sl false (L cU8 b_2187)), (1, i64 at_2188), (2, i64 t_2189)], []⟩ _
  refine run_textE hE [0, 1, 2, 6] (fr' := [(0, .sl false (L cU8 b_2187)), (1, i64 at_2188), (2, i64 t_2189), (6, .ref 0 0)]) (σ' := [.box [i64 0, i64 0, .sl true (L cU8 ([])), .sl true (L cApi_Value ([]))] false]) ⟨_, orcs_nil, ?_⟩ ?_
  · simp only [go_sem, reduceIte, Nat.reduceLT, Nat.reduceEqDiff, Nat.reduceAdd]
  refine run_textE hE [0, 1, 2, 6, 9] (fr' := [(0, .sl false (L cU8 b_2187)), (1, i64 at_2188), (2, i64 t_2189), (6, .ref 0 0), (9, i64 ((w64 (t_2189 - 32))))]) (σ' := [.box [i64 0, i64 0, .sl true (L cU8 ([])), .sl true (L cApi_Value ([]))] false]) ⟨_, orcs_nil, ?_⟩ ?_
  · simp only [go_sem, reduceIte, Nat.reduceLT, Nat.reduceEqDiff, Nat.reduceAdd]
  replace h := bind_some1 h; obtain ⟨j_2191, hA_2192, hj_2193⟩ := h
  refine run_join (fun (v : Int) => (⟨asFr 69 [(0, .sl false (L cU8 b_2187)), (1, i64 at_2188), (2, i64 t_2189), (6, .ref 0 0), (9, i64 v)], [.box [i64 0, i64 0, .sl true (L cU8 ([])), .sl true (L cApi_Value ([]))] false]⟩ : St)) (fun v => v = j_2191) ?_ ?_
  · have h := hA_2192; clear hA_2192
    refine run_textE hE [0, 1, 2, 6, 9, 16] (fr' := [(0, .sl false (L cU8 b_2187)), (1, i64 at_2188), (2, i64 t_2189), (6, .ref 0 0), (9, i64 ((w64 (t_2189 - 32)))), (16, .bool ((decide (t_2189 < 32))))]) (σ' := [.box [i64 0, i64 0, .sl true (L cU8 ([])), .sl true (L cApi_Value ([]))] false]) ⟨_, orcs_nil, ?_⟩ ?_
    · simp only [go_sem, reduceIte, Nat.reduceLT, Nat.reduceEqDiff, Nat.reduceAdd]
    refine run_condL (b := (decide (t_2189 < 32))) rfl (by decide) (fun hb => ?_) (fun hb => ?_)
    · replace h := ite_t h hb
      refine run_textE0 hE wk_join [0, 1, 2, 6, 9] (fr' := [(0, .sl false (L cU8 b_2187)), (1, i64 at_2188), (2, i64 t_2189), (6, .ref 0 0), (9, i64 ((w64 (31 - t_2189))))]) (σ' := [.box [i64 0, i64 0, .sl true (L cU8 ([])), .sl true (L cApi_Value ([]))] false]) ⟨_, orcs_nil, ?_⟩ ?_
      · simp only [go_sem, reduceIte, Nat.reduceLT, Nat.reduceEqDiff, Nat.reduceAdd]
      obtain rfl := Option.some.inj h
      exact joinK_n ((w64 (31 - t_2189))) rfl (weak_sel [0] (by decide) rfl (by simp only [go_sem, reduceIte, Nat.reduceLT, Nat.reduceEqDiff, Nat.reduceAdd]) (by simp only [go_sem, reduceIte, Nat.reduceLT, Nat.reduceEqDiff, Nat.reduceAdd]))
    · replace h := ite_f h hb
      refine run_skip ?_
      obtain rfl := Option.some.inj h
      exact joinK_n ((w64 (t_2189 - 32))) rfl (weak_sel [0] (by decide) rfl (by simp only [go_sem, reduceIte, Nat.reduceLT, Nat.reduceEqDiff, Nat.reduceAdd]) (by simp only [go_sem, reduceIte, Nat.reduceLT, Nat.reduceEqDiff, Nat.reduceAdd]))
  rintro k_2190 rfl
  have h := hj_2193; clear hj_2193
  refine run_textE hE [0, 1, 2, 6, 9, 10] (fr' := [(0, .sl false (L cU8 b_2187)), (1, i64 at_2188), (2, i64 t_2189), (6, .ref 0 0), (9, i64 k_2190), (10, i64 0)]) (σ' := [.box [i64 0, i64 0, .sl true (L cU8 ([])), .sl true (L cApi_Value ([]))] false]) ⟨_, orcs_nil, ?_⟩ ?_
  · simp only [go_sem, reduceIte, Nat.reduceLT, Nat.reduceEqDiff, Nat.reduceAdd]
  replace h := bind_some1 h; obtain ⟨j_2260, hA_2261, hj_2262⟩ := h
  refine run_join (fun (v : Int × Int) => (⟨asFr 69 [(1, i64 v.1), (2, i64 t_2189), (6, .ref 0 0), (10, i64 v.2)], [.box [i64 0, i64 0, .sl true (L cU8 ([])), .sl true (L cApi_Value ([]))] false]⟩ : St)) (fun v => .inl v = j_2260) ?_ ?_
  · have h := hA_2261; clear hA_2261
    refine run_textE hE [0, 1, 2, 6, 9, 10, 11] (fr' := [(0, .sl false (L cU8 b_2187)), (1, i64 at_2188), (2, i64 t_2189), (6, .ref 0 0), (9, i64 k_2190), (10, i64 0), (11, i64 0)]) (σ' := [.box [i64 0, i64 0, .sl true (L cU8 ([])), .sl true (L cApi_Value ([]))] false]) ⟨_, orcs_nil, ?_⟩ ?_
    · simp only [go_sem, reduceIte, Nat.reduceLT, Nat.reduceEqDiff, Nat.reduceAdd]
    refine run_block ?_
    replace h := bind_some1 h; obtain ⟨x_2304, hx_2305, hj_2306⟩ := h
    refine run_loopO hx_2305 (fun (v : Int × Int × Int) => (⟨asFr 69 [(0, .sl false (L cU8 b_2187)), (1, i64 v.1), (2, i64 t_2189), (6, .ref 0 0), (9, i64 k_2190), (10, i64 v.2.1), (11, i64 v.2.2)], [.box [i64 0, i64 0, .sl true (L cU8 ([])), .sl true (L cApi_Value ([]))] false]⟩ : St)) (weak_sel [0] (by decide) rfl (by simp only [go_sem, reduceIte, Nat.reduceLT, Nat.reduceEqDiff, Nat.reduceAdd]) (by simp only [go_sem, reduceIte, Nat.reduceLT, Nat.reduceEqDiff, Nat.reduceAdd])) ?_
    rintro ⟨at_2281, n_2282, i_2283⟩ o_2307 h hxx_2308
    replace h : r01_readInt_b1 b_2187 t_2189 k_2190 at_2281 n_2282 i_2283 = some o_2307 := h
    unfold r01_readInt_b1 at h
    refine run_seq ?_
    refine run_textE hE [0, 1, 2, 6, 9, 10, 11, 21] (fr' := [(0, .sl false (L cU8 b_2187)), (1, i64 at_2281), (2, i64 t_2189), (6, .ref 0 0), (9, i64 k_2190), (10, i64 n_2282), (11, i64 i_2283), (21, .bool ((decide (i_2283 < k_2190))))]) (σ' := [.box [i64 0, i64 0, .sl true (L cU8 ([])), .sl true (L cApi_Value ([]))] false]) ⟨_, orcs_nil, ?_⟩ ?_
    · simp only [go_sem, reduceIte, Nat.reduceLT, Nat.reduceEqDiff, Nat.reduceAdd]
    refine run_condL (b := (decide (i_2283 < k_2190))) rfl (by decide) (fun hb => ?_) (fun hb => ?_)
    · replace h := ite_t h hb
      refine run_skip ?_
      refine thenK_n ?_
      refine run_seq ?_
      refine run_block ?_
      refine run_seq ?_
      refine run_textE hE [0, 1, 2, 6, 9, 10, 11, 27] (fr' := [(0, .sl false (L cU8 b_2187)), (1, i64 at_2281), (2, i64 t_2189), (6, .ref 0 0), (9, i64 k_2190), (10, i64 n_2282), (11, i64 i_2283), (27, .bool ((decide (at_2281 ≥ (b_2187.length : Int)))))]) (σ' := [.box [i64 0, i64 0, .sl true (L cU8 ([])), .sl true (L cApi_Value ([]))] false]) ⟨_, orcs_nil, ?_⟩ ?_
      · simp only [go_sem, reduceIte, Nat.reduceLT, Nat.reduceEqDiff, Nat.reduceAdd]
      refine run_condL (b := (decide (at_2281 ≥ (b_2187.length : Int)))) rfl (by decide) (fun hb => ?_) (fun hb => ?_)
      · replace h := ite_t h hb
        refine run_textE hE [6, 7, 8] (fr' := [(6, .ref 0 0), (7, i64 at_2281), (8, i64 5)]) (σ' := [.box [i64 0, i64 0, .sl true (L cU8 ([])), .sl true (L cApi_Value ([]))] false]) ⟨_, orcs_nil, ?_⟩ ?_
        · simp only [go_sem, reduceIte, Nat.reduceLT, Nat.reduceEqDiff, Nat.reduceAdd, Nat.reduceGT]
        refine run_ret ?_
        refine thenK_r ?_
        refine blockK_r ?_
        refine thenK_r ?_
        refine lpK_r ?_
        replace h := bind_some1 h; obtain ⟨z_2310, h, e_z_2310⟩ := h
        obtain rfl := Option.some.inj e_z_2310
        have ex_z_2310 := hxx_2308 _ rfl
        subst ex_z_2310
        obtain rfl := Option.some.inj hj_2306
        refine blockK_r ?_
        refine joinK_r ?_
        replace h := bind_some1 h; obtain ⟨z_2309, h, e_z_2309⟩ := h
        obtain rfl := Option.some.inj e_z_2309
        obtain rfl := Option.some.inj hj_2262
        obtain rfl := Option.some.inj h
        refine ret_ok (.inr rfl) ?_
        simp only [go_sem, reduceIte, Nat.reduceLT, Nat.reduceEqDiff, Nat.reduceAdd]
      · replace h := ite_f h hb
        refine run_skip ?_
        refine thenK_n ?_
        replace h := chk_some h; obtain ⟨hc_2311, h⟩ := h
        replace h := lt1_some h; obtain ⟨x_2312, hz_2313, h⟩ := h
        refine run_textE hE [0, 1, 2, 6, 9, 10, 11, 12] (fr' := [(0, .sl false (L cU8 b_2187)), (1, i64 at_2281), (2, i64 t_2189), (6, .ref 0 0), (9, i64 k_2190), (10, i64 n_2282), (11, i64 i_2283), (12, i64 x_2312)]) (σ' := [.box [i64 0, i64 0, .sl true (L cU8 ([])), .sl true (L cApi_Value ([]))] false]) ⟨_, orcs_nil, ?_⟩ ?_
        · subst hz_2313; simp only [go_sem, reduceIte, Nat.reduceLT, Nat.reduceEqDiff, Nat.reduceAdd, Int.reduceToNat, hc_2311, hc_2311.2, lt_le hc_2311.2]
        replace h := bind_some1 h; obtain ⟨j_2315, hA_2316, hj_2317⟩ := h
        refine run_join (fun (v : Int) => (⟨asFr 69 [(0, .sl false (L cU8 b_2187)), (1, i64 at_2281), (2, i64 t_2189), (6, .ref 0 0), (9, i64 k_2190), (10, i64 n_2282), (11, i64 i_2283), (12, i64 v)], [.box [i64 0, i64 0, .sl true (L cU8 ([])), .sl true (L cApi_Value ([]))] false]⟩ : St)) (fun v => v = j_2315) ?_ ?_
        · have h := hA_2316; clear hA_2316
          refine run_textE hE [0, 1, 2, 6, 9, 10, 11, 12, 36] (fr' := [(0, .sl false (L cU8 b_2187)), (1, i64 at_2281), (2, i64 t_2189), (6, .ref 0 0), (9, i64 k_2190), (10, i64 n_2282), (11, i64 i_2283), (12, i64 x_2312), (36, .bool ((decide (t_2189 < 32))))]) (σ' := [.box [i64 0, i64 0, .sl true (L cU8 ([])), .sl true (L cApi_Value ([]))] false]) ⟨_, orcs_nil, ?_⟩ ?_
          · simp only [go_sem, reduceIte, Nat.reduceLT, Nat.reduceEqDiff, Nat.reduceAdd]
          refine run_condL (b := (decide (t_2189 < 32))) rfl (by decide) (fun hb => ?_) (fun hb => ?_)
          · replace h := ite_t h hb
            refine run_textE0 hE wk_join [0, 1, 2, 6, 9, 10, 11, 12] (fr' := [(0, .sl false (L cU8 b_2187)), (1, i64 at_2281), (2, i64 t_2189), (6, .ref 0 0), (9, i64 k_2190), (10, i64 n_2282), (11, i64 i_2283), (12, i64 ((w64 (255 - x_2312))))]) (σ' := [.box [i64 0, i64 0, .sl true (L cU8 ([])), .sl true (L cApi_Value ([]))] false]) ⟨_, orcs_nil, ?_⟩ ?_
            · simp only [go_sem, reduceIte, Nat.reduceLT, Nat.reduceEqDiff, Nat.reduceAdd]
            obtain rfl := Option.some.inj h
            exact joinK_n ((w64 (255 - x_2312))) rfl (weak_sel [0] (by decide) rfl (by simp only [go_sem, reduceIte, Nat.reduceLT, Nat.reduceEqDiff, Nat.reduceAdd]) (by simp only [go_sem, reduceIte, Nat.reduceLT, Nat.reduceEqDiff, Nat.reduceAdd]))
          · replace h := ite_f h hb
            refine run_skip ?_
            obtain rfl := Option.some.inj h
            exact joinK_n x_2312 rfl (weak_sel [0] (by decide) rfl (by simp only [go_sem, reduceIte, Nat.reduceLT, Nat.reduceEqDiff, Nat.reduceAdd]) (by simp only [go_sem, reduceIte, Nat.reduceLT, Nat.reduceEqDiff, Nat.reduceAdd]))
        rintro x_2314 rfl
        have h := hj_2317; clear hj_2317
        refine run_seq ?_
        replace h := bind_some1 h; obtain ⟨t_2318, hv_2319, h⟩ := h
        refine run_textW hE [0, 1, 2, 6, 9, 10, 11, 12, 52] (fr' := [(0, .sl false (L cU8 b_2187)), (1, i64 at_2281), (2, i64 t_2189), (6, .ref 0 0), (9, i64 k_2190), (10, i64 n_2282), (11, i64 i_2283), (12, i64 x_2314), (52, .bool t_2318)]) (σ' := [.box [i64 0, i64 0, .sl true (L cU8 ([])), .sl true (L cApi_Value ([]))] false]) ?_ ?_
        · rcases Bool.eq_false_or_eq_true ((i_2283 == 0)) with hb_2320 | hb_2320
          · replace hv_2319 := ite_t hv_2319 hb_2320
            rcases Bool.eq_false_or_eq_true ((x_2314 == 0)) with hb_2321 | hb_2321
            · replace hv_2319 := ite_t hv_2319 hb_2321
              have e_hv_2319 := Option.some.inj hv_2319; subst e_hv_2319
              exact ⟨_, [(0, .sl false (L cU8 b_2187)), (1, i64 at_2281), (2, i64 t_2189), (6, .ref 0 0), (9, i64 k_2190), (10, i64 n_2282), (11, i64 i_2283), (12, i64 x_2314), (52, .bool true)], [.box [i64 0, i64 0, .sl true (L cU8 ([])), .sl true (L cApi_Value ([]))] false], orcs_nil, by simp only [go_sem, reduceIte, Nat.reduceLT, Nat.reduceEqDiff, Nat.reduceAdd, hb_2320, hb_2321], (weak_sel [0] (by decide) rfl (by simp only [go_sem, reduceIte, Nat.reduceLT, Nat.reduceEqDiff, Nat.reduceAdd]) (by simp only [go_sem, reduceIte, Nat.reduceLT, Nat.reduceEqDiff, Nat.reduceAdd]))⟩
            · replace hv_2319 := ite_f hv_2319 hb_2321
              rcases Bool.eq_false_or_eq_true ((k_2190 == 8)) with hb_2322 | hb_2322
              · replace hv_2319 := ite_t hv_2319 hb_2322
                have e_hv_2319 := Option.some.inj hv_2319; subst e_hv_2319
                exact ⟨_, [(0, .sl false (L cU8 b_2187)), (1, i64 at_2281), (2, i64 t_2189), (6, .ref 0 0), (9, i64 k_2190), (10, i64 n_2282), (11, i64 i_2283), (12, i64 x_2314), (52, .bool ((decide (x_2314 > 127))))], [.box [i64 0, i64 0, .sl true (L cU8 ([])), .sl true (L cApi_Value ([]))] false], orcs_nil, by simp only [go_sem, reduceIte, Nat.reduceLT, Nat.reduceEqDiff, Nat.reduceAdd, hb_2320, hb_2321, hb_2322], (weak_sel [0] (by decide) rfl (by simp only [go_sem, reduceIte, Nat.reduceLT, Nat.reduceEqDiff, Nat.reduceAdd]) (by simp only [go_sem, reduceIte, Nat.reduceLT, Nat.reduceEqDiff, Nat.reduceAdd]))⟩
              · replace hv_2319 := ite_f hv_2319 hb_2322
                have e_hv_2319 := Option.some.inj hv_2319; subst e_hv_2319
                exact ⟨_, [(0, .sl false (L cU8 b_2187)), (1, i64 at_2281), (2, i64 t_2189), (6, .ref 0 0), (9, i64 k_2190), (10, i64 n_2282), (11, i64 i_2283), (12, i64 x_2314), (52, .bool false)], [.box [i64 0, i64 0, .sl true (L cU8 ([])), .sl true (L cApi_Value ([]))] false], orcs_nil, by simp only [go_sem, reduceIte, Nat.reduceLT, Nat.reduceEqDiff, Nat.reduceAdd, hb_2320, hb_2321, hb_2322], (weak_sel [0] (by decide) rfl (by simp only [go_sem, reduceIte, Nat.reduceLT, Nat.reduceEqDiff, Nat.reduceAdd]) (by simp only [go_sem, reduceIte, Nat.reduceLT, Nat.reduceEqDiff, Nat.reduceAdd]))⟩
          · replace hv_2319 := ite_f hv_2319 hb_2320
            have e_hv_2319 := Option.some.inj hv_2319; subst e_hv_2319
            exact ⟨_, [(0, .sl false (L cU8 b_2187)), (1, i64 at_2281), (2, i64 t_2189), (6, .ref 0 0), (9, i64 k_2190), (10, i64 n_2282), (11, i64 i_2283), (12, i64 x_2314), (52, .bool false)], [.box [i64 0, i64 0, .sl true (L cU8 ([])), .sl true (L cApi_Value ([]))] false], orcs_nil, by simp only [go_sem, reduceIte, Nat.reduceLT, Nat.reduceEqDiff, Nat.reduceAdd, hb_2320], (weak_sel [0] (by decide) rfl (by simp only [go_sem, reduceIte, Nat.reduceLT, Nat.reduceEqDiff, Nat.reduceAdd]) (by simp only [go_sem, reduceIte, Nat.reduceLT, Nat.reduceEqDiff, Nat.reduceAdd]))⟩
        refine run_condL (b := t_2318) rfl (by decide) (fun hb => ?_) (fun hb => ?_)
        · replace h := ite_t h hb
          refine run_textE hE [6, 7, 8] (fr' := [(6, .ref 0 0), (7, i64 at_2281), (8, i64 4)]) (σ' := [.box [i64 0, i64 0, .sl true (L cU8 ([])), .sl true (L cApi_Value ([]))] false]) ⟨_, orcs_nil, ?_⟩ ?_
          · simp only [go_sem, reduceIte, Nat.reduceLT, Nat.reduceEqDiff, Nat.reduceAdd, Nat.reduceGT]
          refine run_ret ?_
          refine thenK_r ?_
          refine blockK_r ?_
          refine thenK_r ?_
          refine lpK_r ?_
          replace h := bind_some1 h; obtain ⟨z_2324, h, e_z_2324⟩ := h
          obtain rfl := Option.some.inj e_z_2324
          have ex_z_2324 := hxx_2308 _ rfl
          subst ex_z_2324
          obtain rfl := Option.some.inj hj_2306
          refine blockK_r ?_
          refine joinK_r ?_
          replace h := bind_some1 h; obtain ⟨z_2323, h, e_z_2323⟩ := h
          obtain rfl := Option.some.inj e_z_2323
          obtain rfl := Option.some.inj hj_2262
          obtain rfl := Option.some.inj h
          refine ret_ok (.inr rfl) ?_
          simp only [go_sem, reduceIte, Nat.reduceLT, Nat.reduceEqDiff, Nat.reduceAdd]
        · replace h := ite_f h hb
          refine run_skip ?_
          refine thenK_n ?_
          replace h := lt1_some h; obtain ⟨n_2325, hz_2326, h⟩ := h
          refine run_textE hE [0, 1, 2, 6, 9, 10, 11] (fr' := [(0, .sl false (L cU8 b_2187)), (1, i64 at_2281), (2, i64 t_2189), (6, .ref 0 0), (9, i64 k_2190), (10, i64 n_2325), (11, i64 i_2283)]) (σ' := [.box [i64 0, i64 0, .sl true (L cU8 ([])), .sl true (L cApi_Value ([]))] false]) ⟨_, orcs_nil, ?_⟩ ?_
          · subst hz_2326; simp only [go_sem, reduceIte, Nat.reduceLT, Nat.reduceEqDiff, Nat.reduceAdd]
          refine run_textE0 hE (wk_block wk_then) [0, 1, 2, 6, 9, 10, 11] (fr' := [(0, .sl false (L cU8 b_2187)), (1, i64 ((w64 (at_2281 + 1)))), (2, i64 t_2189), (6, .ref 0 0), (9, i64 k_2190), (10, i64 n_2325), (11, i64 i_2283)]) (σ' := [.box [i64 0, i64 0, .sl true (L cU8 ([])), .sl true (L cApi_Value ([]))] false]) ⟨_, orcs_nil, ?_⟩ ?_
          · simp only [go_sem, reduceIte, Nat.reduceLT, Nat.reduceEqDiff, Nat.reduceAdd]
          refine blockK_n ?_
          refine thenK_n ?_
          refine run_textE0 hE wk_lp [0, 1, 2, 6, 9, 10, 11] (fr' := [(0, .sl false (L cU8 b_2187)), (1, i64 ((w64 (at_2281 + 1)))), (2, i64 t_2189), (6, .ref 0 0), (9, i64 k_2190), (10, i64 n_2325), (11, i64 ((w64 (i_2283 + 1))))]) (σ' := [.box [i64 0, i64 0, .sl true (L cU8 ([])), .sl true (L cApi_Value ([]))] false]) ⟨_, orcs_nil, ?_⟩ ?_
          · simp only [go_sem, reduceIte, Nat.reduceLT, Nat.reduceEqDiff, Nat.reduceAdd]
          obtain rfl := Option.some.inj h
          exact lpK_n (((w64 (at_2281 + 1)), n_2325, (w64 (i_2283 + 1)))) rfl (weak_sel [0] (by decide) rfl (by simp only [go_sem, reduceIte, Nat.reduceLT, Nat.reduceEqDiff, Nat.reduceAdd]) (by simp only [go_sem, reduceIte, Nat.reduceLT, Nat.reduceEqDiff, Nat.reduceAdd]))
    · replace h := ite_f h hb
      refine run_exit ?_
      refine thenK_x ?_
      obtain rfl := Option.some.inj h
      have ex_x_2304 := hxx_2308 _ rfl
      subst ex_x_2304
      have h := hj_2306; clear hj_2306
      refine lpK_x ?_
      refine blockK_x ?_
      obtain rfl := Option.some.inj h
      exact joinK_n ((at_2281, n_2282)) rfl ((weak_sel (l' := [(1, i64 at_2281), (2, i64 t_2189), (6, .ref 0 0), (10, i64 n_2282)]) (σ' := [.box [i64 0, i64 0, .sl true (L cU8 ([])), .sl true (L cApi_Value ([]))] false]) [0] (by decide) rfl (by simp only [go_sem, reduceIte, Nat.reduceLT, Nat.reduceEqDiff, Nat.reduceAdd]) (by simp only [go_sem, reduceIte, Nat.reduceLT, Nat.reduceEqDiff, Nat.reduceAdd])).trans (weak_sel [0] (by decide) rfl (by simp only [go_sem, reduceIte, Nat.reduceLT, Nat.reduceEqDiff, Nat.reduceAdd]) (by simp only [go_sem, reduceIte, Nat.reduceLT, Nat.reduceEqDiff, Nat.reduceAdd])))
  rintro ⟨at_2258, n_2259⟩ rfl
  have h := hj_2262; clear hj_2262
  replace h := bind_some1 h; obtain ⟨j_2330, hA_2331, hj_2332⟩ := h
  refine run_join (fun (v : Int) => (⟨asFr 69 [(1, i64 at_2258), (6, .ref 0 0), (10, i64 v)], [.box [i64 0, i64 0, .sl true (L cU8 ([])), .sl true (L cApi_Value ([]))] false]⟩ : St)) (fun v => v = j_2330) ?_ ?_
  · have h := hA_2331; clear hA_2331
    refine run_textE hE [1, 6, 10, 62] (fr' := [(1, i64 at_2258), (6, .ref 0 0), (10, i64 n_2259), (62, .bool ((decide (t_2189 < 32))))]) (σ' := [.box [i64 0, i64 0, .sl true (L cU8 ([])), .sl true (L cApi_Value ([]))] false]) ⟨_, orcs_nil, ?_⟩ ?_
    · simp only [go_sem, reduceIte, Nat.reduceLT, Nat.reduceEqDiff, Nat.reduceAdd]
    refine run_condL (b := (decide (t_2189 < 32))) rfl (by decide) (fun hb => ?_) (fun hb => ?_)
    · replace h := ite_t h hb
      replace h := lt1_some h; obtain ⟨n_2333, hz_2334, h⟩ := h
      refine run_textE0 hE wk_join [1, 6, 10] (fr' := [(1, i64 at_2258), (6, .ref 0 0), (10, i64 n_2333)]) (σ' := [.box [i64 0, i64 0, .sl true (L cU8 ([])), .sl true (L cApi_Value ([]))] false]) ⟨_, orcs_nil, ?_⟩ ?_
      · subst hz_2334; simp only [go_sem, reduceIte, Nat.reduceLT, Nat.reduceEqDiff, Nat.reduceAdd]
      obtain rfl := Option.some.inj h
      exact joinK_n n_2333 rfl (weak_sel [0] (by decide) rfl (by simp only [go_sem, reduceIte, Nat.reduceLT, Nat.reduceEqDiff, Nat.reduceAdd]) (by simp only [go_sem, reduceIte, Nat.reduceLT, Nat.reduceEqDiff, Nat.reduceAdd]))
    · replace h := ite_f h hb
      refine run_skip ?_
      obtain rfl := Option.some.inj h
      exact joinK_n n_2259 rfl (weak_sel [0] (by decide) rfl (by simp only [go_sem, reduceIte, Nat.reduceLT, Nat.reduceEqDiff, Nat.reduceAdd]) (by simp only [go_sem, reduceIte, Nat.reduceLT, Nat.reduceEqDiff, Nat.reduceAdd]))
  rintro n_2329 rfl
  have h := hj_2332; clear hj_2332
  refine run_textE hE [6, 7, 8] (fr' := [(6, .ref 0 0), (7, i64 at_2258), (8, i64 0)]) (σ' := [.box [i64 1, i64 n_2329, .sl true (L cU8 ([])), .sl true (L cApi_Value ([]))] false]) ⟨_, orcs_nil, ?_⟩ ?_
  · simp only [go_sem, reduceIte, Nat.reduceLT, Nat.reduceEqDiff, Nat.reduceAdd, Nat.reduceGT]
  refine run_ret ?_
  obtain rfl := Option.some.inj h
  refine ret_ok (.inr rfl) ?_
  simp only [go_sem, reduceIte, Nat.reduceLT, Nat.reduceEqDiff, Nat.reduceAdd]

end Go.Proofs.Ytihncddenjbecaa
/-
  The functions compute just that.
-/
namespace Go.Proofs.Ytihncddenjbecaa
open Go.Rv
set_option linter.unusedVariables false
set_option linter.unusedSimpArgs false
set_option maxRecDepth 20000

theorem r01_readBytes_con {b_2335 : List UInt8} {at_2336 : Int} {r : Api_Value × Int × Int} (h : r01_readBytes b_2335 at_2336 = some r) : Con B 52 [.sl false (L cU8 b_2335), i64 at_2336] [] (fun r' σ' => r' = .tup [.agg [i64 r.1.Kind, i64 r.1.N, .sl false (L cU8 r.1.B), .sl false (L cApi_Value r.1.L)], i64 r.2.1, i64 r.2.2] ∧ σ' = []) := by
  refine con_walk (N := 59) (rs := [.cell 4 25, .tmp 5, .tmp 6]) ok Try.func52 rfl (by decide +kernel) rfl rfl (Nat.le_of_ble_eq_true rfl) (fun F => ?_)
  have hE := ok.env F
  unfold r01_readBytes at h
  show Run (B.env F) 0 _ ⟨asFr 59 [(0, .sl false (L cU8 b_2335)), (1, i64 at_2336)], []⟩ _
  refine run_textE hE [0, 1, 4] (fr' := [(0, .sl false (L cU8 b_2335)), (1, i64 at_2336), (4, .ref 0 0)]) (σ' := [.box [i64 0, i64 0, .sl true (L cU8 ([])), .sl true (L cApi_Value ([]))] false]) ⟨_, orcs_nil, ?_⟩ ?_
  · simp only [go_sem, reduceIte, Nat.reduceLT, Nat.reduceEqDiff, Nat.reduceAdd]
  replace h := lt1_some h; obtain ⟨l_2337, hz_2338, h⟩ := h
  refine run_textE hE [0, 1, 4, 7] (fr' := [(0, .sl false (L cU8 b_2335)), (1, i64 at_2336), (4, .ref 0 0), (7, .bs true 1 (l_2337.length) 0 (l_2337.length))]) (σ' := [.box [i64 0, i64 0, .sl true (L cU8 ([])), .sl true (L cApi_Value ([]))] false, .buf 1 (L cU8 l_2337) false]) ⟨_, orcs_nil, ?_⟩ ?_
  · subst hz_2338; simp only [go_sem, reduceIte, Nat.reduceLT, Nat.reduceEqDiff, Nat.reduceAdd, Nat.reduceBEq, Nat.reduceMul, Nat.reduceSub, Nat.reduceGT, Nat.reducePow, Nat.reduceLeDiff, Int.reduceToNat]
  replace h := bind_some1 h; obtain ⟨j_2396, hA_2397, hj_2398⟩ := h
  refine run_join (fun (v : Int) => (⟨asFr 59 [(1, i64 v), (4, .ref 0 0)], [.box [i64 0, i64 0, .sl true (L cU8 ([])), .sl true (L cApi_Value ([]))] false]⟩ : St)) (fun v => .inl v = j_2396) ?_ ?_
  · have h := hA_2397; clear hA_2397
    refine run_block ?_
    replace h := bind_some1 h; obtain ⟨x_2434, hx_2435, hj_2436⟩ := h
    refine run_loopO hx_2435 (fun (v : Int × List UInt8) => (⟨asFr 59 [(0, .sl false (L cU8 b_2335)), (1, i64 v.1), (4, .ref 0 0), (7, .bs false 1 (v.2.length) 0 (v.2.length))], [.box [i64 0, i64 0, .sl true (L cU8 ([])), .sl true (L cApi_Value ([]))] false, .buf 1 (L cU8 v.2) false]⟩ : St)) (weak_sel [0, 1] (by decide) rfl (by simp only [go_sem, reduceIte, Nat.reduceLT, Nat.reduceEqDiff, Nat.reduceAdd]) (by simp only [go_sem, reduceIte, Nat.reduceLT, Nat.reduceEqDiff, Nat.reduceAdd])) ?_
    rintro ⟨at_2415, l_2416⟩ o_2437 h hxx_2438
    replace h : r01_readBytes_b1 b_2335 at_2415 l_2416 = some o_2437 := h
    unfold r01_readBytes_b1 at h
    refine run_seq ?_
    refine run_textE hE [0, 1, 4, 7, 12] (fr' := [(0, .sl false (L cU8 b_2335)), (1, i64 at_2415), (4, .ref 0 0), (7, .bs false 1 (l_2416.length) 0 (l_2416.length)), (12, .bool ((decide (at_2415 < (b_2335.length : Int)))))]) (σ' := [.box [i64 0, i64 0, .sl true (L cU8 ([])), .sl true (L cApi_Value ([]))] false, .buf 1 (L cU8 l_2416) false]) ⟨_, orcs_nil, ?_⟩ ?_
    · simp only [go_sem, reduceIte, Nat.reduceLT, Nat.reduceEqDiff, Nat.reduceAdd]
    refine run_condL (b := (decide (at_2415 < (b_2335.length : Int)))) rfl (by decide) (fun hb => ?_) (fun hb => ?_)
    · replace h := ite_t h hb
      refine run_skip ?_
      refine thenK_n ?_
      refine run_block ?_
      refine run_seq ?_
      replace h := chk_some h; obtain ⟨hc_2439, h⟩ := h
      refine run_textE hE [0, 1, 4, 7, 17] (fr' := [(0, .sl false (L cU8 b_2335)), (1, i64 at_2415), (4, .ref 0 0), (7, .bs false 1 (l_2416.length) 0 (l_2416.length)), (17, .bool ((nth b_2335 at_2415.toNat != (0 : UInt8))))]) (σ' := [.box [i64 0, i64 0, .sl true (L cU8 ([])), .sl true (L cApi_Value ([]))] false, .buf 1 (L cU8 l_2416) false]) ⟨_, orcs_nil, ?_⟩ ?_
      · simp only [go_sem, reduceIte, Nat.reduceLT, Nat.reduceEqDiff, Nat.reduceAdd, Int.reduceToNat, hc_2439, hc_2439.2, lt_le hc_2439.2]
      refine run_condL (b := (nth b_2335 at_2415.toNat != (0 : UInt8))) rfl (by decide) (fun hb => ?_) (fun hb => ?_)
      · replace h := ite_t h hb
        replace h := chk_some h; obtain ⟨hc_2440, h⟩ := h
        replace h := chk_some h; obtain ⟨hc_2441, h⟩ := h
        replace h := lt1_some h; obtain ⟨l_2442, hz_2443, h⟩ := h
        refine run_textE hE [0, 1, 4, 7] (fr' := [(0, .sl false (L cU8 b_2335)), (1, i64 at_2415), (4, .ref 0 0), (7, .bs false 1 (l_2442.length) 0 (l_2442.length))]) (σ' := [.box [i64 0, i64 0, .sl true (L cU8 ([])), .sl true (L cApi_Value ([]))] false, .buf 1 (L cU8 l_2442) false, .buf 1 (L cU8 (([nth b_2335 at_2415.toNat] : List UInt8))) false]) ⟨_, orcs_nil, ?_⟩ ?_
        · subst hz_2443; simp only [go_sem, reduceIte, Nat.reduceLT, Nat.reduceEqDiff, Nat.reduceAdd, Nat.reduceBEq, Nat.reduceMul, Nat.reduceSub, Nat.reduceGT, Nat.reducePow, Nat.reduceLeDiff, Int.reduceToNat, hc_2440, hc_2440.2, lt_le hc_2440.2, hc_2441]
        refine run_textE hE [0, 1, 4, 7] (fr' := [(0, .sl false (L cU8 b_2335)), (1, i64 ((w64 (at_2415 + 1)))), (4, .ref 0 0), (7, .bs false 1 (l_2442.length) 0 (l_2442.length))]) (σ' := [.box [i64 0, i64 0, .sl true (L cU8 ([])), .sl true (L cApi_Value ([]))] false, .buf 1 (L cU8 l_2442) false, .buf 1 (L cU8 (([nth b_2335 at_2415.toNat] : List UInt8))) false]) ⟨_, orcs_nil, ?_⟩ ?_
        · simp only [go_sem, reduceIte, Nat.reduceLT, Nat.reduceEqDiff, Nat.reduceAdd]
        refine run_exit ?_
        refine thenK_x ?_
        refine blockK_x ?_
        obtain rfl := Option.some.inj h
        exact lpK_n (((w64 (at_2415 + 1)), l_2442)) rfl (weak_sel [0, 1] (by decide) rfl (by simp only [go_sem, reduceIte, Nat.reduceLT, Nat.reduceEqDiff, Nat.reduceAdd]) (by simp only [go_sem, reduceIte, Nat.reduceLT, Nat.reduceEqDiff, Nat.reduceAdd]))
      · replace h := ite_f h hb
        refine run_skip ?_
        refine thenK_n ?_
        refine run_seq ?_
        refine run_textE hE [0, 1, 4, 7, 31] (fr' := [(0, .sl false (L cU8 b_2335)), (1, i64 at_2415), (4, .ref 0 0), (7, .bs false 1 (l_2416.length) 0 (l_2416.length)), (31, .bool ((decide ((w64 (at_2415 + 1)) ≥ (b_2335.length : Int)))))]) (σ' := [.box [i64 0, i64 0, .sl true (L cU8 ([])), .sl true (L cApi_Value ([]))] false, .buf 1 (L cU8 l_2416) false]) ⟨_, orcs_nil, ?_⟩ ?_
        · simp only [go_sem, reduceIte, Nat.reduceLT, Nat.reduceEqDiff, Nat.reduceAdd]
        refine run_condL (b := (decide ((w64 (at_2415 + 1)) ≥ (b_2335.length : Int)))) rfl (by decide) (fun hb => ?_) (fun hb => ?_)
        · replace h := ite_t h hb
          refine run_textE hE [4, 5, 6] (fr' := [(4, .ref 0 0), (5, i64 at_2415), (6, i64 5)]) (σ' := [.box [i64 0, i64 0, .sl true (L cU8 ([])), .sl true (L cApi_Value ([]))] false, .buf 1 (L cU8 l_2416) false]) ⟨_, orcs_nil, ?_⟩ ?_
          · simp only [go_sem, reduceIte, Nat.reduceLT, Nat.reduceEqDiff, Nat.reduceAdd, Nat.reduceGT]
          refine run_ret ?_
          refine thenK_r ?_
          refine blockK_r ?_
          refine lpK_r ?_
          replace h := bind_some1 h; obtain ⟨z_2445, h, e_z_2445⟩ := h
          obtain rfl := Option.some.inj e_z_2445
          have ex_z_2445 := hxx_2438 _ rfl
          subst ex_z_2445
          obtain rfl := Option.some.inj hj_2436
          refine blockK_r ?_
          refine joinK_r ?_
          replace h := bind_some1 h; obtain ⟨z_2444, h, e_z_2444⟩ := h
          obtain rfl := Option.some.inj e_z_2444
          obtain rfl := Option.some.inj hj_2398
          obtain rfl := Option.some.inj h
          refine ret_ok (.inr rfl) ?_
          simp only [go_sem, reduceIte, Nat.reduceLT, Nat.reduceEqDiff, Nat.reduceAdd]
        · replace h := ite_f h hb
          refine run_skip ?_
          refine thenK_n ?_
          refine run_seq ?_
          replace h := chk_some h; obtain ⟨hc_2446, h⟩ := h
          refine run_textE hE [0, 1, 4, 7, 39] (fr' := [(0, .sl false (L cU8 b_2335)), (1, i64 at_2415), (4, .ref 0 0), (7, .bs false 1 (l_2416.length) 0 (l_2416.length)), (39, .bool ((nth b_2335 (((w64 (at_2415 + 1))).toNat) == (0 : UInt8))))]) (σ' := [.box [i64 0, i64 0, .sl true (L cU8 ([])), .sl true (L cApi_Value ([]))] false, .buf 1 (L cU8 l_2416) false]) ⟨_, orcs_nil, ?_⟩ ?_
          · simp only [go_sem, reduceIte, Nat.reduceLT, Nat.reduceEqDiff, Nat.reduceAdd, Int.reduceToNat, hc_2446, hc_2446.2, lt_le hc_2446.2]
          refine run_condL (b := (nth b_2335 (((w64 (at_2415 + 1))).toNat) == (0 : UInt8))) rfl (by decide) (fun hb => ?_) (fun hb => ?_)
          · replace h := ite_t h hb
            refine run_textE hE [4, 5, 6] (fr' := [(4, .ref 0 0), (5, i64 ((w64 (at_2415 + 2)))), (6, i64 0)]) (σ' := [.box [i64 2, i64 0, .bs false 1 (l_2416.length) 0 (l_2416.length), .sl true (L cApi_Value ([]))] false, .buf 1 (L cU8 l_2416) false]) ⟨_, orcs_nil, ?_⟩ ?_
            · simp only [go_sem, reduceIte, Nat.reduceLT, Nat.reduceEqDiff, Nat.reduceAdd, Nat.reduceGT]
            refine run_ret ?_
            refine thenK_r ?_
            refine blockK_r ?_
            refine lpK_r ?_
            replace h := bind_some1 h; obtain ⟨z_2448, h, e_z_2448⟩ := h
            obtain rfl := Option.some.inj e_z_2448
            have ex_z_2448 := hxx_2438 _ rfl
            subst ex_z_2448
            obtain rfl := Option.some.inj hj_2436
            refine blockK_r ?_
            refine joinK_r ?_
            replace h := bind_some1 h; obtain ⟨z_2447, h, e_z_2447⟩ := h
            obtain rfl := Option.some.inj e_z_2447
            obtain rfl := Option.some.inj hj_2398
            obtain rfl := Option.some.inj h
            refine ret_ok (.inr rfl) ?_
            simp only [go_sem, reduceIte, Nat.reduceLT, Nat.reduceEqDiff, Nat.reduceAdd]
          · replace h := ite_f h hb
            refine run_skip ?_
            refine thenK_n ?_
            refine run_seq ?_
            replace h := chk_some h; obtain ⟨hc_2449, h⟩ := h
            refine run_textE hE [0, 1, 4, 7, 49] (fr' := [(0, .sl false (L cU8 b_2335)), (1, i64 at_2415), (4, .ref 0 0), (7, .bs false 1 (l_2416.length) 0 (l_2416.length)), (49, .bool ((nth b_2335 (((w64 (at_2415 + 1))).toNat) != (255 : UInt8))))]) (σ' := [.box [i64 0, i64 0, .sl true (L cU8 ([])), .sl true (L cApi_Value ([]))] false, .buf 1 (L cU8 l_2416) false]) ⟨_, orcs_nil, ?_⟩ ?_
            · simp only [go_sem, reduceIte, Nat.reduceLT, Nat.reduceEqDiff, Nat.reduceAdd, Int.reduceToNat, hc_2449, hc_2449.2, lt_le hc_2449.2]
            refine run_condL (b := (nth b_2335 (((w64 (at_2415 + 1))).toNat) != (255 : UInt8))) rfl (by decide) (fun hb => ?_) (fun hb => ?_)
            · replace h := ite_t h hb
              refine run_textE hE [4, 5, 6] (fr' := [(4, .ref 0 0), (5, i64 at_2415), (6, i64 4)]) (σ' := [.box [i64 0, i64 0, .sl true (L cU8 ([])), .sl true (L cApi_Value ([]))] false, .buf 1 (L cU8 l_2416) false]) ⟨_, orcs_nil, ?_⟩ ?_
              · simp only [go_sem, reduceIte, Nat.reduceLT, Nat.reduceEqDiff, Nat.reduceAdd, Nat.reduceGT]
              refine run_ret ?_
              refine thenK_r ?_
              refine blockK_r ?_
              refine lpK_r ?_
              replace h := bind_some1 h; obtain ⟨z_2451, h, e_z_2451⟩ := h
              obtain rfl := Option.some.inj e_z_2451
              have ex_z_2451 := hxx_2438 _ rfl
              subst ex_z_2451
              obtain rfl := Option.some.inj hj_2436
              refine blockK_r ?_
              refine joinK_r ?_
              replace h := bind_some1 h; obtain ⟨z_2450, h, e_z_2450⟩ := h
              obtain rfl := Option.some.inj e_z_2450
              obtain rfl := Option.some.inj hj_2398
              obtain rfl := Option.some.inj h
              refine ret_ok (.inr rfl) ?_
              simp only [go_sem, reduceIte, Nat.reduceLT, Nat.reduceEqDiff, Nat.reduceAdd]
            · replace h := ite_f h hb
              refine run_skip ?_
              refine thenK_n ?_
              replace h := chk_some h; obtain ⟨hc_2452, h⟩ := h
              replace h := lt1_some h; obtain ⟨l_2453, hz_2454, h⟩ := h
              refine run_textE hE [0, 1, 4, 7] (fr' := [(0, .sl false (L cU8 b_2335)), (1, i64 at_2415), (4, .ref 0 0), (7, .bs false 1 (l_2453.length) 0 (l_2453.length))]) (σ' := [.box [i64 0, i64 0, .sl true (L cU8 ([])), .sl true (L cApi_Value ([]))] false, .buf 1 (L cU8 l_2453) false, .buf 1 (L cU8 (([(0 : UInt8)] : List UInt8))) false]) ⟨_, orcs_nil, ?_⟩ ?_
              · subst hz_2454; simp only [go_sem, reduceIte, Nat.reduceLT, Nat.reduceEqDiff, Nat.reduceAdd, Nat.reduceBEq, Nat.reduceMul, Nat.reduceSub, Nat.reduceGT, Nat.reducePow, Nat.reduceLeDiff, Int.reduceToNat, hc_2452]
              refine run_textE0 hE (wk_block wk_lp) [0, 1, 4, 7] (fr' := [(0, .sl false (L cU8 b_2335)), (1, i64 ((w64 (at_2415 + 2)))), (4, .ref 0 0), (7, .bs false 1 (l_2453.length) 0 (l_2453.length))]) (σ' := [.box [i64 0, i64 0, .sl true (L cU8 ([])), .sl true (L cApi_Value ([]))] false, .buf 1 (L cU8 l_2453) false, .buf 1 (L cU8 (([(0 : UInt8)] : List UInt8))) false]) ⟨_, orcs_nil, ?_⟩ ?_
              · simp only [go_sem, reduceIte, Nat.reduceLT, Nat.reduceEqDiff, Nat.reduceAdd]
              refine blockK_n ?_
              obtain rfl := Option.some.inj h
              exact lpK_n (((w64 (at_2415 + 2)), l_2453)) rfl (weak_sel [0, 1] (by decide) rfl (by simp only [go_sem, reduceIte, Nat.reduceLT, Nat.reduceEqDiff, Nat.reduceAdd]) (by simp only [go_sem, reduceIte, Nat.reduceLT, Nat.reduceEqDiff, Nat.reduceAdd]))
    · replace h := ite_f h hb
      refine run_exit ?_
      refine thenK_x ?_
      obtain rfl := Option.some.inj h
      have ex_x_2434 := hxx_2438 _ rfl
      subst ex_x_2434
      have h := hj_2436; clear hj_2436
      refine lpK_x ?_
      refine blockK_x ?_
      obtain rfl := Option.some.inj h
      exact joinK_n at_2415 rfl ((weak_sel (l' := [(1, i64 at_2415), (4, .ref 0 0)]) (σ' := [.box [i64 0, i64 0, .sl true (L cU8 ([])), .sl true (L cApi_Value ([]))] false]) [0] (by decide) rfl (by simp only [go_sem, reduceIte, Nat.reduceLT, Nat.reduceEqDiff, Nat.reduceAdd]) (by simp only [go_sem, reduceIte, Nat.reduceLT, Nat.reduceEqDiff, Nat.reduceAdd])).trans (weak_sel [0] (by decide) rfl (by simp only [go_sem, reduceIte, Nat.reduceLT, Nat.reduceEqDiff, Nat.reduceAdd]) (by simp only [go_sem, reduceIte, Nat.reduceLT, Nat.reduceEqDiff, Nat.reduceAdd])))
  rintro at_2395 rfl
  have h := hj_2398; clear hj_2398
  refine run_textE hE [4, 5, 6] (fr' := [(4, .ref 0 0), (5, i64 at_2395), (6, i64 5)]) (σ' := [.box [i64 0, i64 0, .sl true (L cU8 ([])), .sl true (L cApi_Value ([]))] false]) ⟨_, orcs_nil, ?_⟩ ?_
  · simp only [go_sem, reduceIte, Nat.reduceLT, Nat.reduceEqDiff, Nat.reduceAdd, Nat.reduceGT]
  refine run_ret ?_
  obtain rfl := Option.some.inj h
  refine ret_ok (.inr rfl) ?_
  simp only [go_sem, reduceIte, Nat.reduceLT, Nat.reduceEqDiff, Nat.reduceAdd]

end Go.Proofs.Ytihncddenjbecaa
/-
  The functions compute just that.
-/
namespace Go.Proofs.Ytihncddenjbecaa
open Go.Rv
set_option linter.unusedVariables false
set_option linter.unusedSimpArgs false
set_option maxRecDepth 20000

theorem r01_readList_con {rec_2455 : (List UInt8) → Int → Option (Api_Value × Int × Int)} {b_2456 : List UInt8} {at_2457 : Int} (h44 : ∀ {a0 : List UInt8} {a1 : Int} {r : Api_Value × Int × Int}, rec_2455 a0 a1 = some r → Con B 44 [.sl false (L cU8 a0), i64 a1] [] (fun r' σ' => r' = .tup [.agg [i64 r.1.Kind, i64 r.1.N, .sl false (L cU8 r.1.B), .sl false (L cApi_Value r.1.L)], i64 r.2.1, i64 r.2.2] ∧ σ' = [])) {r : Api_Value × Int × Int} (h : r01_readList rec_2455 b_2456 at_2457 = some r) : Con B 53 [.sl false (L cU8 b_2456), i64 at_2457] [] (fun r' σ' => r' = .tup [.agg [i64 r.1.Kind, i64 r.1.N, .sl false (L cU8 r.1.B), .sl false (L cApi_Value r.1.L)], i64 r.2.1, i64 r.2.2] ∧ σ' = []) := by
  refine con_walk (N := 44) (rs := [.cell 4 25, .tmp 5, .tmp 6]) ok Try.func53 rfl (by decide +kernel) rfl rfl (Nat.le_of_ble_eq_true rfl) (fun F => ?_)
  have hE := ok.env F
  unfold r01_readList at h
  show Run (B.env F) 0 _ ⟨asFr 44 [(0, .sl false (L cU8 b_2456)), (1, i64 at_2457)], []⟩ _
  refine run_textE hE [0, 1, 4] (fr' := [(0, .sl false (L cU8 b_2456)), (1, i64 at_2457), (4, .ref 0 0)]) (σ' := [.box [i64 0, i64 0, .sl true (L cU8 ([])), .sl true (L cApi_Value ([]))] false]) ⟨_, orcs_nil, ?_⟩ ?_
  · simp only [go_sem, reduceIte, Nat.reduceLT, Nat.reduceEqDiff, Nat.reduceAdd]
  replace h := lt1_some h; obtain ⟨l_2458, hz_2459, h⟩ := h
  refine run_textE hE [0, 1, 4, 7] (fr' := [(0, .sl false (L cU8 b_2456)), (1, i64 at_2457), (4, .ref 0 0), (7, .bs true 1 (l_2458.length) 0 (l_2458.length))]) (σ' := [.box [i64 0, i64 0, .sl true (L cU8 ([])), .sl true (L cApi_Value ([]))] false, .buf 4 (L cApi_Value l_2458) false]) ⟨_, orcs_nil, ?_⟩ ?_
  · subst hz_2459; simp only [go_sem, reduceIte, Nat.reduceLT, Nat.reduceEqDiff, Nat.reduceAdd, Nat.reduceBEq, Nat.reduceMul, Nat.reduceSub, Nat.reduceGT, Nat.reducePow, Nat.reduceLeDiff, Int.reduceToNat]
  replace h := bind_some1 h; obtain ⟨j_2499, hA_2500, hj_2501⟩ := h
  refine run_join (fun (v : Int) => (⟨asFr 44 [(1, i64 v), (4, .ref 0 0)], [.box [i64 0, i64 0, .sl true (L cU8 ([])), .sl true (L cApi_Value ([]))] false]⟩ : St)) (fun v => .inl v = j_2499) ?_ ?_
  · have h := hA_2500; clear hA_2500
    refine run_block ?_
    replace h := bind_some1 h; obtain ⟨x_2525, hx_2526, hj_2527⟩ := h
    refine run_loopO hx_2526 (fun (v : Int × List Api_Value) => (⟨asFr 44 [(0, .sl false (L cU8 b_2456)), (1, i64 v.1), (4, .ref 0 0), (7, .bs false 1 (v.2.length) 0 (v.2.length))], [.box [i64 0, i64 0, .sl true (L cU8 ([])), .sl true (L cApi_Value ([]))] false, .buf 4 (L cApi_Value v.2) false]⟩ : St)) (weak_sel [0, 1] (by decide) rfl (by simp only [go_sem, reduceIte, Nat.reduceLT, Nat.reduceEqDiff, Nat.reduceAdd]) (by simp only [go_sem, reduceIte, Nat.reduceLT, Nat.reduceEqDiff, Nat.reduceAdd])) ?_
    rintro ⟨at_2512, l_2513⟩ o_2528 h hxx_2529
    replace h : r01_readList_b1 rec_2455 b_2456 at_2512 l_2513 = some o_2528 := h
    unfold r01_readList_b1 at h
    refine run_seq ?_
    refine run_textE hE [0, 1, 4, 7, 15] (fr' := [(0, .sl false (L cU8 b_2456)), (1, i64 at_2512), (4, .ref 0 0), (7, .bs false 1 (l_2513.length) 0 (l_2513.length)), (15, .bool ((decide (at_2512 < (b_2456.length : Int)))))]) (σ' := [.box [i64 0, i64 0, .sl true (L cU8 ([])), .sl true (L cApi_Value ([]))] false, .buf 4 (L cApi_Value l_2513) false]) ⟨_, orcs_nil, ?_⟩ ?_
    · simp only [go_sem, reduceIte, Nat.reduceLT, Nat.reduceEqDiff, Nat.reduceAdd]
    refine run_condL (b := (decide (at_2512 < (b_2456.length : Int)))) rfl (by decide) (fun hb => ?_) (fun hb => ?_)
    · replace h := ite_t h hb
      refine run_skip ?_
      refine thenK_n ?_
      refine run_block ?_
      refine run_seq ?_
      replace h := chk_some h; obtain ⟨hc_2530, h⟩ := h
      refine run_textE hE [0, 1, 4, 7, 20] (fr' := [(0, .sl false (L cU8 b_2456)), (1, i64 at_2512), (4, .ref 0 0), (7, .bs false 1 (l_2513.length) 0 (l_2513.length)), (20, .bool ((nth b_2456 at_2512.toNat == (0 : UInt8))))]) (σ' := [.box [i64 0, i64 0, .sl true (L cU8 ([])), .sl true (L cApi_Value ([]))] false, .buf 4 (L cApi_Value l_2513) false]) ⟨_, orcs_nil, ?_⟩ ?_
      · simp only [go_sem, reduceIte, Nat.reduceLT, Nat.reduceEqDiff, Nat.reduceAdd, Int.reduceToNat, hc_2530, hc_2530.2, lt_le hc_2530.2]
      refine run_condL (b := (nth b_2456 at_2512.toNat == (0 : UInt8))) rfl (by decide) (fun hb => ?_) (fun hb => ?_)
      · replace h := ite_t h hb
        refine run_textE hE [4, 5, 6] (fr' := [(4, .ref 0 0), (5, i64 ((w64 (at_2512 + 1)))), (6, i64 0)]) (σ' := [.box [i64 3, i64 0, .sl true (L cU8 ([])), .bs false 1 (l_2513.length) 0 (l_2513.length)] false, .buf 4 (L cApi_Value l_2513) false]) ⟨_, orcs_nil, ?_⟩ ?_
        · simp only [go_sem, reduceIte, Nat.reduceLT, Nat.reduceEqDiff, Nat.reduceAdd, Nat.reduceGT]
        refine run_ret ?_
        refine thenK_r ?_
        refine blockK_r ?_
        refine lpK_r ?_
        replace h := bind_some1 h; obtain ⟨z_2532, h, e_z_2532⟩ := h
        obtain rfl := Option.some.inj e_z_2532
        have ex_z_2532 := hxx_2529 _ rfl
        subst ex_z_2532
        obtain rfl := Option.some.inj hj_2527
        refine blockK_r ?_
        refine joinK_r ?_
        replace h := bind_some1 h; obtain ⟨z_2531, h, e_z_2531⟩ := h
        obtain rfl := Option.some.inj e_z_2531
        obtain rfl := Option.some.inj hj_2501
        obtain rfl := Option.some.inj h
        refine ret_ok (.inr rfl) ?_
        simp only [go_sem, reduceIte, Nat.reduceLT, Nat.reduceEqDiff, Nat.reduceAdd]
      · replace h := ite_f h hb
        refine run_skip ?_
        refine thenK_n ?_
        replace h := bind_some1 h; obtain ⟨y_2533, hy_2534, h⟩ := h
        refine run_textE hE [0, 1, 4, 7, 8, 9, 10] (fr' := [(0, .sl false (L cU8 b_2456)), (1, i64 at_2512), (4, .ref 0 0), (7, .bs false 1 (l_2513.length) 0 (l_2513.length)), (8, .ref 2 0), (9, i64 y_2533.2.1), (10, i64 y_2533.2.2)]) (σ' := [.box [i64 0, i64 0, .sl true (L cU8 ([])), .sl true (L cApi_Value ([]))] false, .buf 4 (L cApi_Value l_2513) false, .box [i64 y_2533.1.Kind, i64 y_2533.1.N, .sl false (L cU8 y_2533.1.B), .sl false (L cApi_Value y_2533.1.L)] false]) ⟨_, orcs_ok (l := [(28, 44, [.sl false (L cU8 b_2456), i64 at_2512], .tup [.agg [i64 y_2533.1.Kind, i64 y_2533.1.N, .sl false (L cU8 y_2533.1.B), .sl false (L cApi_Value y_2533.1.L)], i64 y_2533.2.1, i64 y_2533.2.2])]) ⟨h44  hy_2534, trivial⟩, ?_⟩ ?_
        · simp only [go_sem, reduceIte, Nat.reduceLT, Nat.reduceEqDiff, Nat.reduceAdd]
        refine run_seq ?_
        refine run_textE hE [0, 1, 4, 7, 8, 9, 10, 33] (fr' := [(0, .sl false (L cU8 b_2456)), (1, i64 at_2512), (4, .ref 0 0), (7, .bs false 1 (l_2513.length) 0 (l_2513.length)), (8, .ref 2 0), (9, i64 y_2533.2.1), (10, i64 y_2533.2.2), (33, .bool ((y_2533.2.2 != 0)))]) (σ' := [.box [i64 0, i64 0, .sl true (L cU8 ([])), .sl true (L cApi_Value ([]))] false, .buf 4 (L cApi_Value l_2513) false, .box [i64 y_2533.1.Kind, i64 y_2533.1.N, .sl false (L cU8 y_2533.1.B), .sl false (L cApi_Value y_2533.1.L)] false]) ⟨_, orcs_nil, ?_⟩ ?_
        · simp only [go_sem, reduceIte, Nat.reduceLT, Nat.reduceEqDiff, Nat.reduceAdd]
        refine run_condL (b := (y_2533.2.2 != 0)) rfl (by decide) (fun hb => ?_) (fun hb => ?_)
        · replace h := ite_t h hb
          refine run_textE hE [4, 5, 6] (fr' := [(4, .ref 0 0), (5, i64 at_2512), (6, i64 y_2533.2.2)]) (σ' := [.box [i64 0, i64 0, .sl true (L cU8 ([])), .sl true (L cApi_Value ([]))] false, .buf 4 (L cApi_Value l_2513) false, .box [i64 y_2533.1.Kind, i64 y_2533.1.N, .sl false (L cU8 y_2533.1.B), .sl false (L cApi_Value y_2533.1.L)] false]) ⟨_, orcs_nil, ?_⟩ ?_
          · simp only [go_sem, reduceIte, Nat.reduceLT, Nat.reduceEqDiff, Nat.reduceAdd, Nat.reduceGT]
          refine run_ret ?_
          refine thenK_r ?_
          refine blockK_r ?_
          refine lpK_r ?_
          replace h := bind_some1 h; obtain ⟨z_2536, h, e_z_2536⟩ := h
          obtain rfl := Option.some.inj e_z_2536
          have ex_z_2536 := hxx_2529 _ rfl
          subst ex_z_2536
          obtain rfl := Option.some.inj hj_2527
          refine blockK_r ?_
          refine joinK_r ?_
          replace h := bind_some1 h; obtain ⟨z_2535, h, e_z_2535⟩ := h
          obtain rfl := Option.some.inj e_z_2535
          obtain rfl := Option.some.inj hj_2501
          obtain rfl := Option.some.inj h
          refine ret_ok (.inr rfl) ?_
          simp only [go_sem, reduceIte, Nat.reduceLT, Nat.reduceEqDiff, Nat.reduceAdd]
        · replace h := ite_f h hb
          refine run_skip ?_
          refine thenK_n ?_
          replace h := chk_some h; obtain ⟨hc_2537, h⟩ := h
          replace h := lt1_some h; obtain ⟨l_2538, hz_2539, h⟩ := h
          refine run_textE hE [0, 4, 7, 9] (fr' := [(0, .sl false (L cU8 b_2456)), (4, .ref 0 0), (7, .bs false 1 (l_2538.length) 0 (l_2538.length)), (9, i64 y_2533.2.1)]) (σ' := [.box [i64 0, i64 0, .sl true (L cU8 ([])), .sl true (L cApi_Value ([]))] false, .buf 4 (L cApi_Value l_2538) false, .box [i64 y_2533.1.Kind, i64 y_2533.1.N, .sl false (L cU8 y_2533.1.B), .sl false (L cApi_Value y_2533.1.L)] false, .buf 4 (L cApi_Value (([y_2533.1] : List Api_Value))) false]) ⟨_, orcs_nil, ?_⟩ ?_
          · subst hz_2539; simp only [go_sem, reduceIte, Nat.reduceLT, Nat.reduceEqDiff, Nat.reduceAdd, Nat.reduceBEq, Nat.reduceMul, Nat.reduceSub, Nat.reduceGT, Nat.reducePow, Nat.reduceLeDiff, Int.reduceToNat, hc_2537]
          refine run_textE0 hE (wk_block wk_lp) [0, 1, 4, 7] (fr' := [(0, .sl false (L cU8 b_2456)), (1, i64 y_2533.2.1), (4, .ref 0 0), (7, .bs false 1 (l_2538.length) 0 (l_2538.length))]) (σ' := [.box [i64 0, i64 0, .sl true (L cU8 ([])), .sl true (L cApi_Value ([]))] false, .buf 4 (L cApi_Value l_2538) false, .box [i64 y_2533.1.Kind, i64 y_2533.1.N, .sl false (L cU8 y_2533.1.B), .sl false (L cApi_Value y_2533.1.L)] false, .buf 4 (L cApi_Value (([y_2533.1] : List Api_Value))) false]) ⟨_, orcs_nil, ?_⟩ ?_
          · simp only [go_sem, reduceIte, Nat.reduceLT, Nat.reduceEqDiff, Nat.reduceAdd]
          refine blockK_n ?_
          obtain rfl := Option.some.inj h
          exact lpK_n ((y_2533.2.1, l_2538)) rfl (weak_sel [0, 1] (by decide) rfl (by simp only [go_sem, reduceIte, Nat.reduceLT, Nat.reduceEqDiff, Nat.reduceAdd]) (by simp only [go_sem, reduceIte, Nat.reduceLT, Nat.reduceEqDiff, Nat.reduceAdd]))
    · replace h := ite_f h hb
      refine run_exit ?_
      refine thenK_x ?_
      obtain rfl := Option.some.inj h
      have ex_x_2525 := hxx_2529 _ rfl
      subst ex_x_2525
      have h := hj_2527; clear hj_2527
      refine lpK_x ?_
      refine blockK_x ?_
      obtain rfl := Option.some.inj h
      exact joinK_n at_2512 rfl ((weak_sel (l' := [(1, i64 at_2512), (4, .ref 0 0)]) (σ' := [.box [i64 0, i64 0, .sl true (L cU8 ([])), .sl true (L cApi_Value ([]))] false]) [0] (by decide) rfl (by simp only [go_sem, reduceIte, Nat.reduceLT, Nat.reduceEqDiff, Nat.reduceAdd]) (by simp only [go_sem, reduceIte, Nat.reduceLT, Nat.reduceEqDiff, Nat.reduceAdd])).trans (weak_sel [0] (by decide) rfl (by simp only [go_sem, reduceIte, Nat.reduceLT, Nat.reduceEqDiff, Nat.reduceAdd]) (by simp only [go_sem, reduceIte, Nat.reduceLT, Nat.reduceEqDiff, Nat.reduceAdd])))
  rintro at_2498 rfl
  have h := hj_2501; clear hj_2501
  refine run_textE hE [4, 5, 6] (fr' := [(4, .ref 0 0), (5, i64 at_2498), (6, i64 5)]) (σ' := [.box [i64 0, i64 0, .sl true (L cU8 ([])), .sl true (L cApi_Value ([]))] false]) ⟨_, orcs_nil, ?_⟩ ?_
  · simp only [go_sem, reduceIte, Nat.reduceLT, Nat.reduceEqDiff, Nat.reduceAdd, Nat.reduceGT]
  refine run_ret ?_
  obtain rfl := Option.some.inj h
  refine ret_ok (.inr rfl) ?_
  simp only [go_sem, reduceIte, Nat.reduceLT, Nat.reduceEqDiff, Nat.reduceAdd]

theorem r01_read_F_con {rec_ : (List UInt8) → Int → Option (Api_Value × Int × Int)} (hrec : ∀ {b_2540 : List UInt8} {at_2541 : Int} {r : Api_Value × Int × Int}, rec_ b_2540 at_2541 = some r → Con B 44 [.sl false (L cU8 b_2540), i64 at_2541] [] (fun r' σ' => r' = .tup [.agg [i64 r.1.Kind, i64 r.1.N, .sl false (L cU8 r.1.B), .sl false (L cApi_Value r.1.L)], i64 r.2.1, i64 r.2.2] ∧ σ' = [])) {b_2540 : List UInt8} {at_2541 : Int} {r : Api_Value × Int × Int} (h : r01_read_F rec_ b_2540 at_2541 = some r) : Con B 44 [.sl false (L cU8 b_2540), i64 at_2541] [] (fun r' σ' => r' = .tup [.agg [i64 r.1.Kind, i64 r.1.N, .sl false (L cU8 r.1.B), .sl false (L cApi_Value r.1.L)], i64 r.2.1, i64 r.2.2] ∧ σ' = []) := by
  refine con_walk (N := 53) (rs := [.cell 4 25, .tmp 5, .tmp 6]) ok Try.func44 rfl (by decide +kernel) rfl rfl (Nat.le_of_ble_eq_true rfl) (fun F => ?_)
  have hE := ok.env F
  unfold r01_read_F at h
  show Run (B.env F) 0 _ ⟨asFr 53 [(0, .sl false (L cU8 b_2540)), (1, i64 at_2541)], []⟩ _
  refine run_textE hE [0, 1, 4] (fr' := [(0, .sl false (L cU8 b_2540)), (1, i64 at_2541), (4, .ref 0 0)]) (σ' := [.box [i64 0, i64 0, .sl true (L cU8 ([])), .sl true (L cApi_Value ([]))] false]) ⟨_, orcs_nil, ?_⟩ ?_
  · simp only [go_sem, reduceIte, Nat.reduceLT, Nat.reduceEqDiff, Nat.reduceAdd]
  refine run_seq ?_
  refine run_textE hE [0, 1, 4, 11] (fr' := [(0, .sl false (L cU8 b_2540)), (1, i64 at_2541), (4, .ref 0 0), (11, .bool ((decide (at_2541 ≥ (b_2540.length : Int)))))]) (σ' := [.box [i64 0, i64 0, .sl true (L cU8 ([])), .sl true (L cApi_Value ([]))] false]) ⟨_, orcs_nil, ?_⟩ ?_
  · simp only [go_sem, reduceIte, Nat.reduceLT, Nat.reduceEqDiff, Nat.reduceAdd]
  refine run_condL (b := (decide (at_2541 ≥ (b_2540.length : Int)))) rfl (by decide) (fun hb => ?_) (fun hb => ?_)
  · replace h := ite_t h hb
    refine run_textE hE [4, 5, 6] (fr' := [(4, .ref 0 0), (5, i64 at_2541), (6, i64 5)]) (σ' := [.box [i64 0, i64 0, .sl true (L cU8 ([])), .sl true (L cApi_Value ([]))] false]) ⟨_, orcs_nil, ?_⟩ ?_
    · simp only [go_sem, reduceIte, Nat.reduceLT, Nat.reduceEqDiff, Nat.reduceAdd, Nat.reduceGT]
    refine run_ret ?_
    refine thenK_r ?_
    obtain rfl := Option.some.inj h
    refine ret_ok (.inr rfl) ?_
    simp only [go_sem, reduceIte, Nat.reduceLT, Nat.reduceEqDiff, Nat.reduceAdd]
  · replace h := ite_f h hb
    refine run_skip ?_
    refine thenK_n ?_
    replace h := chk_some h; obtain ⟨hc_2542, h⟩ := h
    refine run_textE hE [0, 1, 4, 7] (fr' := [(0, .sl false (L cU8 b_2540)), (1, i64 at_2541), (4, .ref 0 0), (7, i64 (((nth b_2540 at_2541.toNat).toNat : Int)))]) (σ' := [.box [i64 0, i64 0, .sl true (L cU8 ([])), .sl true (L cApi_Value ([]))] false]) ⟨_, orcs_nil, ?_⟩ ?_
    · simp only [go_sem, reduceIte, Nat.reduceLT, Nat.reduceEqDiff, Nat.reduceAdd, Int.reduceToNat, hc_2542, hc_2542.2, lt_le hc_2542.2]
    refine run_seq ?_
    replace h := bind_some1 h; obtain ⟨t_2543, hv_2544, h⟩ := h
    refine run_textW hE [0, 1, 4, 7, 24] (fr' := [(0, .sl false (L cU8 b_2540)), (1, i64 at_2541), (4, .ref 0 0), (7, i64 (((nth b_2540 at_2541.toNat).toNat : Int))), (24, .bool t_2543)]) (σ' := [.box [i64 0, i64 0, .sl true (L cU8 ([])), .sl true (L cApi_Value ([]))] false]) ?_ ?_
    · rcases Bool.eq_false_or_eq_true ((decide (((nth b_2540 at_2541.toNat).toNat : Int) ≥ 23))) with hb_2545 | hb_2545
      · replace hv_2544 := ite_t hv_2544 hb_2545
        have e_hv_2544 := Option.some.inj hv_2544; subst e_hv_2544
        exact ⟨_, [(0, .sl false (L cU8 b_2540)), (1, i64 at_2541), (4, .ref 0 0), (7, i64 (((nth b_2540 at_2541.toNat).toNat : Int))), (24, .bool ((decide (((nth b_2540 at_2541.toNat).toNat : Int) ≤ 40))))], [.box [i64 0, i64 0, .sl true (L cU8 ([])), .sl true (L cApi_Value ([]))] false], orcs_nil, by simp only [go_sem, reduceIte, Nat.reduceLT, Nat.reduceEqDiff, Nat.reduceAdd, hb_2545], (weak_sel [0] (by decide) rfl (by simp only [go_sem, reduceIte, Nat.reduceLT, Nat.reduceEqDiff, Nat.reduceAdd]) (by simp only [go_sem, reduceIte, Nat.reduceLT, Nat.reduceEqDiff, Nat.reduceAdd]))⟩
      · replace hv_2544 := ite_f hv_2544 hb_2545
        have e_hv_2544 := Option.some.inj hv_2544; subst e_hv_2544
        exact ⟨_, [(0, .sl false (L cU8 b_2540)), (1, i64 at_2541), (4, .ref 0 0), (7, i64 (((nth b_2540 at_2541.toNat).toNat : Int))), (24, .bool false)], [.box [i64 0, i64 0, .sl true (L cU8 ([])), .sl true (L cApi_Value ([]))] false], orcs_nil, by simp only [go_sem, reduceIte, Nat.reduceLT, Nat.reduceEqDiff, Nat.reduceAdd, hb_2545], (weak_sel [0] (by decide) rfl (by simp only [go_sem, reduceIte, Nat.reduceLT, Nat.reduceEqDiff, Nat.reduceAdd]) (by simp only [go_sem, reduceIte, Nat.reduceLT, Nat.reduceEqDiff, Nat.reduceAdd]))⟩
    refine run_condL (b := t_2543) rfl (by decide) (fun hb => ?_) (fun hb => ?_)
    · replace h := ite_t h hb
      replace h := bind_some1 h; obtain ⟨y_2546, hy_2547, h⟩ := h
      refine run_textE hE [4, 5, 6] (fr' := [(4, .ref 0 0), (5, i64 y_2546.2.1), (6, i64 y_2546.2.2)]) (σ' := [.box [i64 y_2546.1.Kind, i64 y_2546.1.N, .sl false (L cU8 y_2546.1.B), .sl false (L cApi_Value y_2546.1.L)] false]) ⟨_, orcs_ok (l := [(29, 51, [.sl false (L cU8 b_2540), i64 ((w64 (at_2541 + 1))), i64 (((nth b_2540 at_2541.toNat).toNat : Int))], .tup [.agg [i64 y_2546.1.Kind, i64 y_2546.1.N, .sl false (L cU8 y_2546.1.B), .sl false (L cApi_Value y_2546.1.L)], i64 y_2546.2.1, i64 y_2546.2.2])]) ⟨r01_readInt_con  hy_2547, trivial⟩, ?_⟩ ?_
      · simp only [go_sem, reduceIte, Nat.reduceLT, Nat.reduceEqDiff, Nat.reduceAdd]
      refine run_ret ?_
      refine thenK_r ?_
      obtain rfl := Option.some.inj h
      refine ret_ok (.inr rfl) ?_
      simp only [go_sem, reduceIte, Nat.reduceLT, Nat.reduceEqDiff, Nat.reduceAdd]
    · replace h := ite_f h hb
      refine run_skip ?_
      refine thenK_n ?_
      refine run_seq ?_
      refine run_textE hE [0, 1, 4, 7, 34] (fr' := [(0, .sl false (L cU8 b_2540)), (1, i64 at_2541), (4, .ref 0 0), (7, i64 (((nth b_2540 at_2541.toNat).toNat : Int))), (34, .bool ((((nth b_2540 at_2541.toNat).toNat : Int) == 48)))]) (σ' := [.box [i64 0, i64 0, .sl true (L cU8 ([])), .sl true (L cApi_Value ([]))] false]) ⟨_, orcs_nil, ?_⟩ ?_
      · simp only [go_sem, reduceIte, Nat.reduceLT, Nat.reduceEqDiff, Nat.reduceAdd]
      refine run_condL (b := (((nth b_2540 at_2541.toNat).toNat : Int) == 48)) rfl (by decide) (fun hb => ?_) (fun hb => ?_)
      · replace h := ite_t h hb
        replace h := bind_some1 h; obtain ⟨y_2548, hy_2549, h⟩ := h
        refine run_textE hE [4, 5, 6] (fr' := [(4, .ref 0 0), (5, i64 y_2548.2.1), (6, i64 y_2548.2.2)]) (σ' := [.box [i64 y_2548.1.Kind, i64 y_2548.1.N, .sl false (L cU8 y_2548.1.B), .sl false (L cApi_Value y_2548.1.L)] false]) ⟨_, orcs_ok (l := [(38, 52, [.sl false (L cU8 b_2540), i64 ((w64 (at_2541 + 1)))], .tup [.agg [i64 y_2548.1.Kind, i64 y_2548.1.N, .sl false (L cU8 y_2548.1.B), .sl false (L cApi_Value y_2548.1.L)], i64 y_2548.2.1, i64 y_2548.2.2])]) ⟨r01_readBytes_con  hy_2549, trivial⟩, ?_⟩ ?_
        · simp only [go_sem, reduceIte, Nat.reduceLT, Nat.reduceEqDiff, Nat.reduceAdd]
        refine run_ret ?_
        refine thenK_r ?_
        obtain rfl := Option.some.inj h
        refine ret_ok (.inr rfl) ?_
        simp only [go_sem, reduceIte, Nat.reduceLT, Nat.reduceEqDiff, Nat.reduceAdd]
      · replace h := ite_f h hb
        refine run_skip ?_
        refine thenK_n ?_
        refine run_seq ?_
        refine run_textE hE [0, 1, 4, 43] (fr' := [(0, .sl false (L cU8 b_2540)), (1, i64 at_2541), (4, .ref 0 0), (43, .bool ((((nth b_2540 at_2541.toNat).toNat : Int) == 64)))]) (σ' := [.box [i64 0, i64 0, .sl true (L cU8 ([])), .sl true (L cApi_Value ([]))] false]) ⟨_, orcs_nil, ?_⟩ ?_
        · simp only [go_sem, reduceIte, Nat.reduceLT, Nat.reduceEqDiff, Nat.reduceAdd]
        refine run_condL (b := (((nth b_2540 at_2541.toNat).toNat : Int) == 64)) rfl (by decide) (fun hb => ?_) (fun hb => ?_)
        · replace h := ite_t h hb
          replace h := bind_some1 h; obtain ⟨y_2550, hy_2551, h⟩ := h
          refine run_textE hE [4, 5, 6] (fr' := [(4, .ref 0 0), (5, i64 y_2550.2.1), (6, i64 y_2550.2.2)]) (σ' := [.box [i64 y_2550.1.Kind, i64 y_2550.1.N, .sl false (L cU8 y_2550.1.B), .sl false (L cApi_Value y_2550.1.L)] false]) ⟨_, orcs_ok (l := [(47, 53, [.sl false (L cU8 b_2540), i64 ((w64 (at_2541 + 1)))], .tup [.agg [i64 y_2550.1.Kind, i64 y_2550.1.N, .sl false (L cU8 y_2550.1.B), .sl false (L cApi_Value y_2550.1.L)], i64 y_2550.2.1, i64 y_2550.2.2])]) ⟨r01_readList_con (fun h => hrec h) hy_2551, trivial⟩, ?_⟩ ?_
          · simp only [go_sem, reduceIte, Nat.reduceLT, Nat.reduceEqDiff, Nat.reduceAdd]
          refine run_ret ?_
          refine thenK_r ?_
          obtain rfl := Option.some.inj h
          refine ret_ok (.inr rfl) ?_
          simp only [go_sem, reduceIte, Nat.reduceLT, Nat.reduceEqDiff, Nat.reduceAdd]
        · replace h := ite_f h hb
          refine run_skip ?_
          refine thenK_n ?_
          refine run_textE hE [4, 5, 6] (fr' := [(4, .ref 0 0), (5, i64 at_2541), (6, i64 4)]) (σ' := [.box [i64 0, i64 0, .sl true (L cU8 ([])), .sl true (L cApi_Value ([]))] false]) ⟨_, orcs_nil, ?_⟩ ?_
          · simp only [go_sem, reduceIte, Nat.reduceLT, Nat.reduceEqDiff, Nat.reduceAdd, Nat.reduceGT]
          refine run_ret ?_
          obtain rfl := Option.some.inj h
          refine ret_ok (.inr rfl) ?_
          simp only [go_sem, reduceIte, Nat.reduceLT, Nat.reduceEqDiff, Nat.reduceAdd]
theorem r01_read_n_con (n : Nat) : ∀ {b_2540 : List UInt8} {at_2541 : Int} {r : Api_Value × Int × Int}, r01_read_n n b_2540 at_2541 = some r → Con B 44 [.sl false (L cU8 b_2540), i64 at_2541] [] (fun r' σ' => r' = .tup [.agg [i64 r.1.Kind, i64 r.1.N, .sl false (L cU8 r.1.B), .sl false (L cApi_Value r.1.L)], i64 r.2.1, i64 r.2.2] ∧ σ' = []) := by
  induction n with
  | zero => intro b_2540 at_2541 r h; cases h
  | succ n ih => intro b_2540 at_2541 r h; exact r01_read_F_con ih h
theorem r01_read_con {b_2540 : List UInt8} {at_2541 : Int} {r : Api_Value × Int × Int} (h : r01_read b_2540 at_2541 = some r) : Con B 44 [.sl false (L cU8 b_2540), i64 at_2541] [] (fun r' σ' => r' = .tup [.agg [i64 r.1.Kind, i64 r.1.N, .sl false (L cU8 r.1.B), .sl false (L cApi_Value r.1.L)], i64 r.2.1, i64 r.2.2] ∧ σ' = []) := r01_read_n_con _ h

end Go.Proofs.Ytihncddenjbecaa
/-
  The functions compute just that.
-/
namespace Go.Proofs.Ytihncddenjbecaa
open Go.Rv
set_option linter.unusedVariables false
set_option linter.unusedSimpArgs false
set_option maxRecDepth 20000

theorem r01_Decode_con {b_2552 : List UInt8} {r : Api_Value × Int} (h : r01_Decode b_2552 = some r) : Con B 22 [.sl false (L cU8 b_2552)] [] (fun r' σ' => r' = .tup [.agg [i64 r.1.Kind, i64 r.1.N, .sl false (L cU8 r.1.B), .sl false (L cApi_Value r.1.L)], i64 r.2] ∧ σ' = []) := by
  refine con_walk (N := 31) (rs := [.cell 2 25, .tmp 3]) ok Try.func22 rfl (by decide +kernel) rfl rfl (Nat.le_of_ble_eq_true rfl) (fun F => ?_)
  have hE := ok.env F
  unfold r01_Decode at h
  show Run (B.env F) 0 _ ⟨asFr 31 [(0, .sl false (L cU8 b_2552))], []⟩ _
  refine run_textE hE [0, 2] (fr' := [(0, .sl false (L cU8 b_2552)), (2, .ref 0 0)]) (σ' := [.box [i64 0, i64 0, .sl true (L cU8 ([])), .sl true (L cApi_Value ([]))] false]) ⟨_, orcs_nil, ?_⟩ ?_
  · simp only [go_sem, reduceIte, Nat.reduceLT, Nat.reduceEqDiff, Nat.reduceAdd]
  refine run_seq ?_
  refine run_textE hE [0, 2, 9] (fr' := [(0, .sl false (L cU8 b_2552)), (2, .ref 0 0), (9, .bool ((decide ((b_2552.length : Int) > 65536))))]) (σ' := [.box [i64 0, i64 0, .sl true (L cU8 ([])), .sl true (L cApi_Value ([]))] false]) ⟨_, orcs_nil, ?_⟩ ?_
  · simp only [go_sem, reduceIte, Nat.reduceLT, Nat.reduceEqDiff, Nat.reduceAdd]
  refine run_condL (b := (decide ((b_2552.length : Int) > 65536))) rfl (by decide) (fun hb => ?_) (fun hb => ?_)
  · replace h := ite_t h hb
    refine run_textE hE [2, 3] (fr' := [(2, .ref 0 0), (3, i64 2)]) (σ' := [.box [i64 0, i64 0, .sl true (L cU8 ([])), .sl true (L cApi_Value ([]))] false]) ⟨_, orcs_nil, ?_⟩ ?_
    · simp only [go_sem, reduceIte, Nat.reduceLT, Nat.reduceEqDiff, Nat.reduceAdd, Nat.reduceGT]
    refine run_ret ?_
    refine thenK_r ?_
    obtain rfl := Option.some.inj h
    refine ret_ok (.inr rfl) ?_
    simp only [go_sem, reduceIte, Nat.reduceLT, Nat.reduceEqDiff, Nat.reduceAdd]
  · replace h := ite_f h hb
    refine run_skip ?_
    refine thenK_n ?_
    replace h := bind_some1 h; obtain ⟨y_2553, hy_2554, h⟩ := h
    refine run_textE hE [0, 2, 4, 5, 6] (fr' := [(0, .sl false (L cU8 b_2552)), (2, .ref 0 0), (4, .ref 1 0), (5, i64 y_2553.2.1), (6, i64 y_2553.2.2)]) (σ' := [.box [i64 0, i64 0, .sl true (L cU8 ([])), .sl true (L cApi_Value ([]))] false, .box [i64 y_2553.1.Kind, i64 y_2553.1.N, .sl false (L cU8 y_2553.1.B), .sl false (L cApi_Value y_2553.1.L)] false]) ⟨_, orcs_ok (l := [(13, 44, [.sl false (L cU8 b_2552), i64 0], .tup [.agg [i64 y_2553.1.Kind, i64 y_2553.1.N, .sl false (L cU8 y_2553.1.B), .sl false (L cApi_Value y_2553.1.L)], i64 y_2553.2.1, i64 y_2553.2.2])]) ⟨r01_read_con  hy_2554, trivial⟩, ?_⟩ ?_
    · simp only [go_sem, reduceIte, Nat.reduceLT, Nat.reduceEqDiff, Nat.reduceAdd]
    refine run_seq ?_
    refine run_textE hE [0, 2, 4, 5, 6, 18] (fr' := [(0, .sl false (L cU8 b_2552)), (2, .ref 0 0), (4, .ref 1 0), (5, i64 y_2553.2.1), (6, i64 y_2553.2.2), (18, .bool ((y_2553.2.2 != 0)))]) (σ' := [.box [i64 0, i64 0, .sl true (L cU8 ([])), .sl true (L cApi_Value ([]))] false, .box [i64 y_2553.1.Kind, i64 y_2553.1.N, .sl false (L cU8 y_2553.1.B), .sl false (L cApi_Value y_2553.1.L)] false]) ⟨_, orcs_nil, ?_⟩ ?_
    · simp only [go_sem, reduceIte, Nat.reduceLT, Nat.reduceEqDiff, Nat.reduceAdd]
    refine run_condL (b := (y_2553.2.2 != 0)) rfl (by decide) (fun hb => ?_) (fun hb => ?_)
    · replace h := ite_t h hb
      refine run_textE hE [2, 3] (fr' := [(2, .ref 0 0), (3, i64 y_2553.2.2)]) (σ' := [.box [i64 0, i64 0, .sl true (L cU8 ([])), .sl true (L cApi_Value ([]))] false, .box [i64 y_2553.1.Kind, i64 y_2553.1.N, .sl false (L cU8 y_2553.1.B), .sl false (L cApi_Value y_2553.1.L)] false]) ⟨_, orcs_nil, ?_⟩ ?_
      · simp only [go_sem, reduceIte, Nat.reduceLT, Nat.reduceEqDiff, Nat.reduceAdd, Nat.reduceGT]
      refine run_ret ?_
      refine thenK_r ?_
      obtain rfl := Option.some.inj h
      refine ret_ok (.inr rfl) ?_
      simp only [go_sem, reduceIte, Nat.reduceLT, Nat.reduceEqDiff, Nat.reduceAdd]
    · replace h := ite_f h hb
      refine run_skip ?_
      refine thenK_n ?_
      refine run_seq ?_
      refine run_textE hE [2, 4, 24] (fr' := [(2, .ref 0 0), (4, .ref 1 0), (24, .bool ((decide (y_2553.2.1 < (b_2552.length : Int)))))]) (σ' := [.box [i64 0, i64 0, .sl true (L cU8 ([])), .sl true (L cApi_Value ([]))] false, .box [i64 y_2553.1.Kind, i64 y_2553.1.N, .sl false (L cU8 y_2553.1.B), .sl false (L cApi_Value y_2553.1.L)] false]) ⟨_, orcs_nil, ?_⟩ ?_
      · simp only [go_sem, reduceIte, Nat.reduceLT, Nat.reduceEqDiff, Nat.reduceAdd]
      refine run_condL (b := (decide (y_2553.2.1 < (b_2552.length : Int)))) rfl (by decide) (fun hb => ?_) (fun hb => ?_)
      · replace h := ite_t h hb
        refine run_textE hE [2, 3] (fr' := [(2, .ref 0 0), (3, i64 4)]) (σ' := [.box [i64 0, i64 0, .sl true (L cU8 ([])), .sl true (L cApi_Value ([]))] false, .box [i64 y_2553.1.Kind, i64 y_2553.1.N, .sl false (L cU8 y_2553.1.B), .sl false (L cApi_Value y_2553.1.L)] false]) ⟨_, orcs_nil, ?_⟩ ?_
        · simp only [go_sem, reduceIte, Nat.reduceLT, Nat.reduceEqDiff, Nat.reduceAdd, Nat.reduceGT]
        refine run_ret ?_
        refine thenK_r ?_
        obtain rfl := Option.some.inj h
        refine ret_ok (.inr rfl) ?_
        simp only [go_sem, reduceIte, Nat.reduceLT, Nat.reduceEqDiff, Nat.reduceAdd]
      · replace h := ite_f h hb
        refine run_skip ?_
        refine thenK_n ?_
        refine run_seq ?_
        replace h := bind_some1 h; obtain ⟨y_2555, hy_2556, h⟩ := h
        refine run_textE hE [2, 4, 28] (fr' := [(2, .ref 0 0), (4, .ref 1 0), (28, .bool ((decide (y_2555 > 16))))]) (σ' := [.box [i64 0, i64 0, .sl true (L cU8 ([])), .sl true (L cApi_Value ([]))] false, .box [i64 y_2553.1.Kind, i64 y_2553.1.N, .sl false (L cU8 y_2553.1.B), .sl false (L cApi_Value y_2553.1.L)] false]) ⟨_, orcs_ok (l := [(27, 28, [.agg [i64 y_2553.1.Kind, i64 y_2553.1.N, .sl false (L cU8 y_2553.1.B), .sl false (L cApi_Value y_2553.1.L)]], i64 y_2555)]) ⟨r01_Nesting_con  hy_2556, trivial⟩, ?_⟩ ?_
        · simp only [go_sem, reduceIte, Nat.reduceLT, Nat.reduceEqDiff, Nat.reduceAdd]
        refine run_condL (b := (decide (y_2555 > 16))) rfl (by decide) (fun hb => ?_) (fun hb => ?_)
        · replace h := ite_t h hb
          refine run_textE hE [2, 3] (fr' := [(2, .ref 0 0), (3, i64 2)]) (σ' := [.box [i64 0, i64 0, .sl true (L cU8 ([])), .sl true (L cApi_Value ([]))] false, .box [i64 y_2553.1.Kind, i64 y_2553.1.N, .sl false (L cU8 y_2553.1.B), .sl false (L cApi_Value y_2553.1.L)] false]) ⟨_, orcs_nil, ?_⟩ ?_
          · simp only [go_sem, reduceIte, Nat.reduceLT, Nat.reduceEqDiff, Nat.reduceAdd, Nat.reduceGT]
          refine run_ret ?_
          refine thenK_r ?_
          obtain rfl := Option.some.inj h
          refine ret_ok (.inr rfl) ?_
          simp only [go_sem, reduceIte, Nat.reduceLT, Nat.reduceEqDiff, Nat.reduceAdd]
        · replace h := ite_f h hb
          refine run_skip ?_
          refine thenK_n ?_
          refine run_textE hE [2, 3] (fr' := [(2, .ref 0 0), (3, i64 0)]) (σ' := [.box [i64 y_2553.1.Kind, i64 y_2553.1.N, .sl false (L cU8 y_2553.1.B), .sl false (L cApi_Value y_2553.1.L)] false, .box [i64 y_2553.1.Kind, i64 y_2553.1.N, .sl false (L cU8 y_2553.1.B), .sl false (L cApi_Value y_2553.1.L)] false]) ⟨_, orcs_nil, ?_⟩ ?_
          · simp only [go_sem, reduceIte, Nat.reduceLT, Nat.reduceEqDiff, Nat.reduceAdd]
          refine run_ret ?_
          obtain rfl := Option.some.inj h
          refine ret_ok (.inr rfl) ?_
          simp only [go_sem, reduceIte, Nat.reduceLT, Nat.reduceEqDiff, Nat.reduceAdd]

theorem codec_decoder_next_con {d_2557 : Codec_decoder} {r : (UInt8 × Codec_decoder) ⊕ (Int × Codec_decoder)} (h : codec_decoder_next d_2557 = some r) : PCon B 43 [.ref 0 0] [.box [.sl false (L cU8 d_2557.b)] false] (codec_decoder_next_out r) := by
  refine con_walk_pan (N := 26) (rs := [.tmp 2]) 1 rfl ok Try.func43 rfl (by decide +kernel) rfl rfl (Nat.le_of_ble_eq_true rfl) (fun F => ?_)
  have hE := ok.env F
  unfold codec_decoder_next at h
  show Run (B.env F) 1 _ ⟨asFr 26 [(0, .ref 0 0)], [.box [.sl false (L cU8 d_2557.b)] false]⟩ _
  refine run_textE hE [0] (fr' := [(0, .ref 0 0)]) (σ' := [.box [.sl false (L cU8 d_2557.b)] false]) ⟨_, orcs_nil, ?_⟩ ?_
  · simp only [go_sem, reduceIte, Nat.reduceLT, Nat.reduceEqDiff, Nat.reduceAdd]
  refine run_seq ?_
  refine run_textE hE [0, 9] (fr' := [(0, .ref 0 0), (9, .bool (((d_2557.b.length : Int) == 0)))]) (σ' := [.box [.sl false (L cU8 d_2557.b)] false]) ⟨_, orcs_nil, ?_⟩ ?_
  · simp only [go_sem, reduceIte, Nat.reduceLT, Nat.reduceEqDiff, Nat.reduceAdd]
  refine run_condL (b := ((d_2557.b.length : Int) == 0)) rfl (by decide) (fun hb => ?_) (fun hb => ?_)
  · replace h := ite_t h hb
    refine run_panT0 hE [] 1 _ (v := .iface 57 (.int .i64 5)) (σ2 := [.box [.sl false (L cU8 d_2557.b)] false]) (vals := []) rfl rfl ⟨_, [], orcs_nil, trivial, ?_⟩ (fun fr_ hlen_ hfr_ => ?_)
    · simp only [go_sem, reduceIte, Nat.reduceLT, Nat.reduceEqDiff, Nat.reduceAdd]
    refine thenK_p ?_
    obtain rfl := Option.some.inj h
    refine retP_pan rfl [0] (by decide) rfl ?_
    simp only [go_sem, reduceIte, Nat.reduceLT, Nat.reduceEqDiff, Nat.reduceAdd]
  · replace h := ite_f h hb
    refine run_skip ?_
    refine thenK_n ?_
    replace h := chk_some h; obtain ⟨hc_2558, h⟩ := h
    refine run_textE hE [0, 3] (fr' := [(0, .ref 0 0), (3, u8 (nth d_2557.b 0))]) (σ' := [.box [.sl false (L cU8 d_2557.b)] false]) ⟨_, orcs_nil, ?_⟩ ?_
    · simp only [go_sem, reduceIte, Nat.reduceLT, Nat.reduceEqDiff, Nat.reduceAdd, Int.reduceToNat, hc_2558, (show 0 < d_2557.b.length from hc_2558.2)]
    replace h := chk_some h; obtain ⟨hc_2559, h⟩ := h
    replace h := lt1_some h; obtain ⟨f_2560, hz_2561, h⟩ := h
    refine run_textE hE [3] (fr' := [(3, u8 (nth d_2557.b 0))]) (σ' := [.box [.sl false (L cU8 f_2560)] false]) ⟨_, orcs_nil, ?_⟩ ?_
    · subst hz_2561; simp only [go_sem, reduceIte, Nat.reduceLT, Nat.reduceEqDiff, Nat.reduceAdd, Int.reduceToNat, hc_2559]
    refine run_textE hE [2] (fr' := [(2, u8 (nth d_2557.b 0))]) (σ' := [.box [.sl false (L cU8 f_2560)] false]) ⟨_, orcs_nil, ?_⟩ ?_
    · simp only [go_sem, reduceIte, Nat.reduceLT, Nat.reduceEqDiff, Nat.reduceAdd]
    refine run_ret ?_
    obtain rfl := Option.some.inj h
    refine retP_fz rfl (ret_fz (.inr rfl) ?_ rfl ?_)
    · simp only [go_sem, reduceIte, Nat.reduceLT, Nat.reduceEqDiff, Nat.reduceAdd]
    · show stUp [0] _ [0] _; simp only [go_sem, reduceIte, Nat.reduceLT, Nat.reduceEqDiff, Nat.reduceAdd]

end Go.Proofs.Ytihncddenjbecaa
/-
  The functions compute just that.
-/
namespace Go.Proofs.Ytihncddenjbecaa
open Go.Rv
set_option linter.unusedVariables false
set_option linter.unusedSimpArgs false
set_option maxRecDepth 20000

theorem codec_decoder_integer_con {d_2562 : Codec_decoder} {k_2563 : Int} {flip_2564 : UInt8} {r : (Api_Value × Codec_decoder) ⊕ (Int × Codec_decoder)} (h : codec_decoder_integer d_2562 k_2563 flip_2564 = some r) : PCon B 49 [.ref 0 0, i64 k_2563, u8 flip_2564] [.box [.sl false (L cU8 d_2562.b)] false] (codec_decoder_integer_out r) := by
  refine con_walk_pan (N := 46) (rs := [.cell 6 25]) 1 rfl ok Try.func49 rfl (by decide +kernel) rfl rfl (Nat.le_of_ble_eq_true rfl) (fun F => ?_)
  have hE := ok.env F
  unfold codec_decoder_integer at h
  show Run (B.env F) 1 _ ⟨asFr 46 [(0, .ref 0 0), (1, i64 k_2563), (2, u8 flip_2564)], [.box [.sl false (L cU8 d_2562.b)] false]⟩ _
  refine run_textE hE [0, 1, 2, 6] (fr' := [(0, .ref 0 0), (1, i64 k_2563), (2, u8 flip_2564), (6, .ref 1 0)]) (σ' := [.box [.sl false (L cU8 d_2562.b)] false, .box [i64 0, i64 0, .sl true (L cU8 ([])), .sl true (L cApi_Value ([]))] false]) ⟨_, orcs_nil, ?_⟩ ?_
  · simp only [go_sem, reduceIte, Nat.reduceLT, Nat.reduceEqDiff, Nat.reduceAdd]
  refine run_textE hE [0, 1, 2, 6, 7] (fr' := [(0, .ref 0 0), (1, i64 k_2563), (2, u8 flip_2564), (6, .ref 1 0), (7, u64 ((0 : UInt64)))]) (σ' := [.box [.sl false (L cU8 d_2562.b)] false, .box [i64 0, i64 0, .sl true (L cU8 ([])), .sl true (L cApi_Value ([]))] false]) ⟨_, orcs_nil, ?_⟩ ?_
  · simp only [go_sem, reduceIte, Nat.reduceLT, Nat.reduceEqDiff, Nat.reduceAdd]
  replace h := bind_some1 h; obtain ⟨j_2622, hA_2623, hj_2624⟩ := h
  refine run_join (fun (v : UInt64 × List UInt8) => (⟨asFr 46 [(2, u8 flip_2564), (6, .ref 1 0), (7, u64 v.1)], [.box [.sl false (L cU8 v.2)] false, .box [i64 0, i64 0, .sl true (L cU8 ([])), .sl true (L cApi_Value ([]))] false]⟩ : St)) (fun v => .inl v = j_2622) ?_ ?_
  · have h := hA_2623; clear hA_2623
    refine run_textE hE [0, 1, 2, 6, 7, 10, 11] (fr' := [(0, .ref 0 0), (1, i64 k_2563), (2, u8 flip_2564), (6, .ref 1 0), (7, u64 ((0 : UInt64))), (10, i64 k_2563), (11, i64 0)]) (σ' := [.box [.sl false (L cU8 d_2562.b)] false, .box [i64 0, i64 0, .sl true (L cU8 ([])), .sl true (L cApi_Value ([]))] false]) ⟨_, orcs_nil, ?_⟩ ?_
    · simp only [go_sem, reduceIte, Nat.reduceLT, Nat.reduceEqDiff, Nat.reduceAdd]
    refine run_block ?_
    replace h := bind_some1 h; obtain ⟨x_2660, hx_2661, hj_2662⟩ := h
    refine run_loopO hx_2661 (fun (v : UInt64 × Int × List UInt8) => (⟨asFr 46 [(0, .ref 0 0), (1, i64 k_2563), (2, u8 flip_2564), (6, .ref 1 0), (7, u64 v.1), (10, i64 k_2563), (11, i64 v.2.1)], [.box [.sl false (L cU8 v.2.2)] false, .box [i64 0, i64 0, .sl true (L cU8 ([])), .sl true (L cApi_Value ([]))] false]⟩ : St)) (weak_sel [0, 1] (by decide) rfl (by simp only [go_sem, reduceIte, Nat.reduceLT, Nat.reduceEqDiff, Nat.reduceAdd]) (by simp only [go_sem, reduceIte, Nat.reduceLT, Nat.reduceEqDiff, Nat.reduceAdd])) ?_
    rintro ⟨u_2640, t_2641, f_2642⟩ o_2663 h hxx_2664
    replace h : codec_decoder_integer_b1 k_2563 flip_2564 u_2640 t_2641 f_2642 = some o_2663 := h
    unfold codec_decoder_integer_b1 at h
    refine run_textE hE [0, 1, 2, 6, 7, 10, 11, 12] (fr' := [(0, .ref 0 0), (1, i64 k_2563), (2, u8 flip_2564), (6, .ref 1 0), (7, u64 u_2640), (10, i64 k_2563), (11, i64 t_2641), (12, .bool ((decide (t_2641 < k_2563))))]) (σ' := [.box [.sl false (L cU8 f_2642)] false, .box [i64 0, i64 0, .sl true (L cU8 ([])), .sl true (L cApi_Value ([]))] false]) ⟨_, orcs_nil, ?_⟩ ?_
    · simp only [go_sem, reduceIte, Nat.reduceLT, Nat.reduceEqDiff, Nat.reduceAdd]
    refine run_seq ?_
    refine run_condL (b := (decide (t_2641 < k_2563))) rfl (by decide) (fun hb => ?_) (fun hb => ?_)
    · replace h := ite_t h hb
      refine run_skip ?_
      refine thenK_n ?_
      refine run_seq ?_
      refine run_block ?_
      refine run_textE hE [0, 1, 2, 6, 7, 8, 10, 11] (fr' := [(0, .ref 0 0), (1, i64 k_2563), (2, u8 flip_2564), (6, .ref 1 0), (7, u64 u_2640), (8, i64 t_2641), (10, i64 k_2563), (11, i64 t_2641)]) (σ' := [.box [.sl false (L cU8 f_2642)] false, .box [i64 0, i64 0, .sl true (L cU8 ([])), .sl true (L cApi_Value ([]))] false]) ⟨_, orcs_nil, ?_⟩ ?_
      · simp only [go_sem, reduceIte, Nat.reduceLT, Nat.reduceEqDiff, Nat.reduceAdd]
      replace h := bind_some1 h; obtain ⟨y_2665, hy_2668, h⟩ := h
      rcases y_2665 with v_2666 | v_2667
      rotate_left
      · dsimp only at h
        refine run_panT hE [] 1 _ (v := .iface 57 (.int .i64 v_2667.1)) (σ2 := [.box [.sl false (L cU8 v_2667.2.b)] false, .box [i64 0, i64 0, .sl true (L cU8 ([])), .sl true (L cApi_Value ([]))] false]) (vals := []) rfl rfl ⟨_, [(15, 43, [.ref 0 0], [.box [.sl false (L cU8 f_2642)] false, .box [i64 0, i64 0, .sl true (L cU8 ([])), .sl true (L cApi_Value ([]))] false], .val (.iface 57 (.int .i64 v_2667.1)), [.box [.sl false (L cU8 v_2667.2.b)] false, .box [i64 0, i64 0, .sl true (L cU8 ([])), .sl true (L cApi_Value ([]))] false])], orcs_nil, ⟨fun v hv => by cases hv; exact wpan_call (PCon.pan (codec_decoder_next_con hy_2668) rfl) [0] (by decide) (by simp only [go_sem, reduceIte, Nat.reduceLT, Nat.reduceEqDiff, Nat.reduceAdd]) (by simp only [go_sem, reduceIte, Nat.reduceLT, Nat.reduceEqDiff, Nat.reduceAdd]) (by simp only [go_sem, reduceIte, Nat.reduceLT, Nat.reduceEqDiff, Nat.reduceAdd]) (by simp only [go_sem, reduceIte, Nat.reduceLT, Nat.reduceEqDiff, Nat.reduceAdd]), trivial⟩, ?_⟩ (fun fr_ hlen_ hfr_ => ?_)
        · simp only [go_sem, reduceIte, Nat.reduceLT, Nat.reduceEqDiff, Nat.reduceAdd]
        refine blockK_p ?_
        refine thenK_p ?_
        refine lpK_p ?_
        replace h := bind_some1 h; obtain ⟨z_2670, h, e_z_2670⟩ := h
        obtain rfl := Option.some.inj e_z_2670
        have ex_z_2670 := hxx_2664 _ rfl
        subst ex_z_2670
        obtain rfl := Option.some.inj hj_2662
        refine blockK_p ?_
        refine joinK_p ?_
        replace h := bind_some1 h; obtain ⟨z_2669, h, e_z_2669⟩ := h
        obtain rfl := Option.some.inj e_z_2669
        obtain rfl := Option.some.inj hj_2624
        obtain rfl := Option.some.inj h
        refine retP_pan rfl [0] (by decide) rfl ?_
        simp only [go_sem, reduceIte, Nat.reduceLT, Nat.reduceEqDiff, Nat.reduceAdd]
      dsimp only at h
      refine run_textE hE [0, 1, 2, 6, 7, 8, 9, 10, 11] (fr' := [(0, .ref 0 0), (1, i64 k_2563), (2, u8 flip_2564), (6, .ref 1 0), (7, u64 u_2640), (8, i64 t_2641), (9, u8 ((v_2666.1 ^^^ flip_2564))), (10, i64 k_2563), (11, i64 t_2641)]) (σ' := [.box [.sl false (L cU8 v_2666.2.b)] false, .box [i64 0, i64 0, .sl true (L cU8 ([])), .sl true (L cApi_Value ([]))] false]) ⟨_, orcs_ok2 (l := []) (m := [(15, 43, [.ref 0 0], [.box [.sl false (L cU8 f_2642)] false, .box [i64 0, i64 0, .sl true (L cU8 ([])), .sl true (L cApi_Value ([]))] false], u8 v_2666.1, [.box [.sl false (L cU8 v_2666.2.b)] false, .box [i64 0, i64 0, .sl true (L cU8 ([])), .sl true (L cApi_Value ([]))] false])]) trivial ⟨(wcon_call (PCon.to (codec_decoder_next_con hy_2668) rfl) [0] (by decide) (by simp only [go_sem, reduceIte, Nat.reduceLT, Nat.reduceEqDiff, Nat.reduceAdd]) (by simp only [go_sem, reduceIte, Nat.reduceLT, Nat.reduceEqDiff, Nat.reduceAdd]) (by simp only [go_sem, reduceIte, Nat.reduceLT, Nat.reduceEqDiff, Nat.reduceAdd]) (by simp only [go_sem, reduceIte, Nat.reduceLT, Nat.reduceEqDiff, Nat.reduceAdd]) (by simp only [go_sem, reduceIte, Nat.reduceLT, Nat.reduceEqDiff, Nat.reduceAdd])), trivial⟩, ?_⟩ ?_
      · simp only [go_sem, reduceIte, Nat.reduceLT, Nat.reduceEqDiff, Nat.reduceAdd]
      refine run_seq ?_
      replace h := bind_some1 h; obtain ⟨t_2671, hv_2672, h⟩ := h
      refine run_textW hE [0, 1, 2, 6, 7, 9, 10, 11, 31] (fr' := [(0, .ref 0 0), (1, i64 k_2563), (2, u8 flip_2564), (6, .ref 1 0), (7, u64 u_2640), (9, u8 ((v_2666.1 ^^^ flip_2564))), (10, i64 k_2563), (11, i64 t_2641), (31, .bool t_2671)]) (σ' := [.box [.sl false (L cU8 v_2666.2.b)] false, .box [i64 0, i64 0, .sl true (L cU8 ([])), .sl true (L cApi_Value ([]))] false]) ?_ ?_
      · rcases Bool.eq_false_or_eq_true ((t_2641 == 0)) with hb_2673 | hb_2673
        · replace hv_2672 := ite_t hv_2672 hb_2673
          rcases Bool.eq_false_or_eq_true (((v_2666.1 ^^^ flip_2564) == (0 : UInt8))) with hb_2674 | hb_2674
          · replace hv_2672 := ite_t hv_2672 hb_2674
            have e_hv_2672 := Option.some.inj hv_2672; subst e_hv_2672
            exact ⟨_, [(0, .ref 0 0), (1, i64 k_2563), (2, u8 flip_2564), (6, .ref 1 0), (7, u64 u_2640), (9, u8 ((v_2666.1 ^^^ flip_2564))), (10, i64 k_2563), (11, i64 t_2641), (31, .bool true)], [.box [.sl false (L cU8 v_2666.2.b)] false, .box [i64 0, i64 0, .sl true (L cU8 ([])), .sl true (L cApi_Value ([]))] false], orcs_nil, by simp only [go_sem, reduceIte, Nat.reduceLT, Nat.reduceEqDiff, Nat.reduceAdd, hb_2673, hb_2674], (weak_sel [0, 1] (by decide) rfl (by simp only [go_sem, reduceIte, Nat.reduceLT, Nat.reduceEqDiff, Nat.reduceAdd]) (by simp only [go_sem, reduceIte, Nat.reduceLT, Nat.reduceEqDiff, Nat.reduceAdd]))⟩
          · replace hv_2672 := ite_f hv_2672 hb_2674
            rcases Bool.eq_false_or_eq_true ((k_2563 == 8)) with hb_2675 | hb_2675
            · replace hv_2672 := ite_t hv_2672 hb_2675
              have e_hv_2672 := Option.some.inj hv_2672; subst e_hv_2672
              exact ⟨_, [(0, .ref 0 0), (1, i64 k_2563), (2, u8 flip_2564), (6, .ref 1 0), (7, u64 u_2640), (9, u8 ((v_2666.1 ^^^ flip_2564))), (10, i64 k_2563), (11, i64 t_2641), (31, .bool ((decide ((v_2666.1 ^^^ flip_2564) > (127 : UInt8)))))], [.box [.sl false (L cU8 v_2666.2.b)] false, .box [i64 0, i64 0, .sl true (L cU8 ([])), .sl true (L cApi_Value ([]))] false], orcs_nil, by simp only [go_sem, reduceIte, Nat.reduceLT, Nat.reduceEqDiff, Nat.reduceAdd, hb_2673, hb_2674, hb_2675], (weak_sel [0, 1] (by decide) rfl (by simp only [go_sem, reduceIte, Nat.reduceLT, Nat.reduceEqDiff, Nat.reduceAdd]) (by simp only [go_sem, reduceIte, Nat.reduceLT, Nat.reduceEqDiff, Nat.reduceAdd]))⟩
            · replace hv_2672 := ite_f hv_2672 hb_2675
              have e_hv_2672 := Option.some.inj hv_2672; subst e_hv_2672
              exact ⟨_, [(0, .ref 0 0), (1, i64 k_2563), (2, u8 flip_2564), (6, .ref 1 0), (7, u64 u_2640), (9, u8 ((v_2666.1 ^^^ flip_2564))), (10, i64 k_2563), (11, i64 t_2641), (31, .bool false)], [.box [.sl false (L cU8 v_2666.2.b)] false, .box [i64 0, i64 0, .sl true (L cU8 ([])), .sl true (L cApi_Value ([]))] false], orcs_nil, by simp only [go_sem, reduceIte, Nat.reduceLT, Nat.reduceEqDiff, Nat.reduceAdd, hb_2673, hb_2674, hb_2675], (weak_sel [0, 1] (by decide) rfl (by simp only [go_sem, reduceIte, Nat.reduceLT, Nat.reduceEqDiff, Nat.reduceAdd]) (by simp only [go_sem, reduceIte, Nat.reduceLT, Nat.reduceEqDiff, Nat.reduceAdd]))⟩
        · replace hv_2672 := ite_f hv_2672 hb_2673
          have e_hv_2672 := Option.some.inj hv_2672; subst e_hv_2672
          exact ⟨_, [(0, .ref 0 0), (1, i64 k_2563), (2, u8 flip_2564), (6, .ref 1 0), (7, u64 u_2640), (9, u8 ((v_2666.1 ^^^ flip_2564))), (10, i64 k_2563), (11, i64 t_2641), (31, .bool false)], [.box [.sl false (L cU8 v_2666.2.b)] false, .box [i64 0, i64 0, .sl true (L cU8 ([])), .sl true (L cApi_Value ([]))] false], orcs_nil, by simp only [go_sem, reduceIte, Nat.reduceLT, Nat.reduceEqDiff, Nat.reduceAdd, hb_2673], (weak_sel [0, 1] (by decide) rfl (by simp only [go_sem, reduceIte, Nat.reduceLT, Nat.reduceEqDiff, Nat.reduceAdd]) (by simp only [go_sem, reduceIte, Nat.reduceLT, Nat.reduceEqDiff, Nat.reduceAdd]))⟩
      refine run_condL (b := t_2671) rfl (by decide) (fun hb => ?_) (fun hb => ?_)
      · replace h := ite_t h hb
        refine run_panT0 hE [] 1 _ (v := .iface 57 (.int .i64 4)) (σ2 := [.box [.sl false (L cU8 v_2666.2.b)] false, .box [i64 0, i64 0, .sl true (L cU8 ([])), .sl true (L cApi_Value ([]))] false]) (vals := []) rfl rfl ⟨_, [], orcs_nil, trivial, ?_⟩ (fun fr_ hlen_ hfr_ => ?_)
        · simp only [go_sem, reduceIte, Nat.reduceLT, Nat.reduceEqDiff, Nat.reduceAdd]
        refine thenK_p ?_
        refine blockK_p ?_
        refine thenK_p ?_
        refine lpK_p ?_
        replace h := bind_some1 h; obtain ⟨z_2677, h, e_z_2677⟩ := h
        obtain rfl := Option.some.inj e_z_2677
        have ex_z_2677 := hxx_2664 _ rfl
        subst ex_z_2677
        obtain rfl := Option.some.inj hj_2662
        refine blockK_p ?_
        refine joinK_p ?_
        replace h := bind_some1 h; obtain ⟨z_2676, h, e_z_2676⟩ := h
        obtain rfl := Option.some.inj e_z_2676
        obtain rfl := Option.some.inj hj_2624
        obtain rfl := Option.some.inj h
        refine retP_pan rfl [0] (by decide) rfl ?_
        simp only [go_sem, reduceIte, Nat.reduceLT, Nat.reduceEqDiff, Nat.reduceAdd]
      · replace h := ite_f h hb
        refine run_skip ?_
        refine thenK_n ?_
        replace h := lt1_some h; obtain ⟨u_2678, hz_2679, h⟩ := h
        refine run_textE0 hE (wk_block wk_then) [0, 1, 2, 6, 7, 10, 11] (fr' := [(0, .ref 0 0), (1, i64 k_2563), (2, u8 flip_2564), (6, .ref 1 0), (7, u64 u_2678), (10, i64 k_2563), (11, i64 t_2641)]) (σ' := [.box [.sl false (L cU8 v_2666.2.b)] false, .box [i64 0, i64 0, .sl true (L cU8 ([])), .sl true (L cApi_Value ([]))] false]) ⟨_, orcs_nil, ?_⟩ ?_
        · subst hz_2679; simp only [go_sem, reduceIte, Nat.reduceLT, Nat.reduceEqDiff, Nat.reduceAdd]
        refine blockK_n ?_
        refine thenK_n ?_
        refine run_textE0 hE wk_lp [0, 1, 2, 6, 7, 10, 11] (fr' := [(0, .ref 0 0), (1, i64 k_2563), (2, u8 flip_2564), (6, .ref 1 0), (7, u64 u_2678), (10, i64 k_2563), (11, i64 ((w64 (t_2641 + 1))))]) (σ' := [.box [.sl false (L cU8 v_2666.2.b)] false, .box [i64 0, i64 0, .sl true (L cU8 ([])), .sl true (L cApi_Value ([]))] false]) ⟨_, orcs_nil, ?_⟩ ?_
        · simp only [go_sem, reduceIte, Nat.reduceLT, Nat.reduceEqDiff, Nat.reduceAdd]
        obtain rfl := Option.some.inj h
        exact lpK_n ((u_2678, (w64 (t_2641 + 1)), v_2666.2.b)) rfl (weak_sel [0, 1] (by decide) rfl (by simp only [go_sem, reduceIte, Nat.reduceLT, Nat.reduceEqDiff, Nat.reduceAdd]) (by simp only [go_sem, reduceIte, Nat.reduceLT, Nat.reduceEqDiff, Nat.reduceAdd]))
    · replace h := ite_f h hb
      refine run_exit ?_
      refine thenK_x ?_
      obtain rfl := Option.some.inj h
      have ex_x_2660 := hxx_2664 _ rfl
      subst ex_x_2660
      have h := hj_2662; clear hj_2662
      refine lpK_x ?_
      refine blockK_x ?_
      obtain rfl := Option.some.inj h
      exact joinK_n ((u_2640, f_2642)) rfl ((weak_sel (l' := [(2, u8 flip_2564), (6, .ref 1 0), (7, u64 u_2640)]) (σ' := [.box [.sl false (L cU8 f_2642)] false, .box [i64 0, i64 0, .sl true (L cU8 ([])), .sl true (L cApi_Value ([]))] false]) [0, 1] (by decide) rfl (by simp only [go_sem, reduceIte, Nat.reduceLT, Nat.reduceEqDiff, Nat.reduceAdd]) (by simp only [go_sem, reduceIte, Nat.reduceLT, Nat.reduceEqDiff, Nat.reduceAdd])).trans (weak_sel [0, 1] (by decide) rfl (by simp only [go_sem, reduceIte, Nat.reduceLT, Nat.reduceEqDiff, Nat.reduceAdd]) (by simp only [go_sem, reduceIte, Nat.reduceLT, Nat.reduceEqDiff, Nat.reduceAdd])))
  rintro ⟨u_2620, f_2621⟩ rfl
  have h := hj_2624; clear hj_2624
  replace h := bind_some1 h; obtain ⟨j_2681, hA_2682, hj_2683⟩ := h
  refine run_join (fun (v : UInt64) => (⟨asFr 46 [(6, .ref 1 0), (7, u64 v)], [.box [.sl false (L cU8 f_2621)] false, .box [i64 0, i64 0, .sl true (L cU8 ([])), .sl true (L cApi_Value ([]))] false]⟩ : St)) (fun v => v = j_2681) ?_ ?_
  · have h := hA_2682; clear hA_2682
    refine run_textE hE [6, 7, 40] (fr' := [(6, .ref 1 0), (7, u64 u_2620), (40, .bool ((flip_2564 != (0 : UInt8))))]) (σ' := [.box [.sl false (L cU8 f_2621)] false, .box [i64 0, i64 0, .sl true (L cU8 ([])), .sl true (L cApi_Value ([]))] false]) ⟨_, orcs_nil, ?_⟩ ?_
    · simp only [go_sem, reduceIte, Nat.reduceLT, Nat.reduceEqDiff, Nat.reduceAdd]
    refine run_condL (b := (flip_2564 != (0 : UInt8))) rfl (by decide) (fun hb => ?_) (fun hb => ?_)
    · replace h := ite_t h hb
      refine run_textE0 hE wk_join [6, 7] (fr' := [(6, .ref 1 0), (7, u64 ((~~~u_2620)))]) (σ' := [.box [.sl false (L cU8 f_2621)] false, .box [i64 0, i64 0, .sl true (L cU8 ([])), .sl true (L cApi_Value ([]))] false]) ⟨_, orcs_nil, ?_⟩ ?_
      · simp only [go_sem, reduceIte, Nat.reduceLT, Nat.reduceEqDiff, Nat.reduceAdd]
      obtain rfl := Option.some.inj h
      exact joinK_n ((~~~u_2620)) rfl (weak_sel [0, 1] (by decide) rfl (by simp only [go_sem, reduceIte, Nat.reduceLT, Nat.reduceEqDiff, Nat.reduceAdd]) (by simp only [go_sem, reduceIte, Nat.reduceLT, Nat.reduceEqDiff, Nat.reduceAdd]))
    · replace h := ite_f h hb
      refine run_skip ?_
      obtain rfl := Option.some.inj h
      exact joinK_n u_2620 rfl (weak_sel [0, 1] (by decide) rfl (by simp only [go_sem, reduceIte, Nat.reduceLT, Nat.reduceEqDiff, Nat.reduceAdd]) (by simp only [go_sem, reduceIte, Nat.reduceLT, Nat.reduceEqDiff, Nat.reduceAdd]))
  rintro u_2680 rfl
  have h := hj_2683; clear hj_2683
  refine run_textE hE [6] (fr' := [(6, .ref 1 0)]) (σ' := [.box [.sl false (L cU8 f_2621)] false, .box [i64 1, i64 ((w64 (u_2680.toNat : Int))), .sl true (L cU8 ([])), .sl true (L cApi_Value ([]))] false]) ⟨_, orcs_nil, ?_⟩ ?_
  · simp only [go_sem, reduceIte, Nat.reduceLT, Nat.reduceEqDiff, Nat.reduceAdd, Nat.reduceGT]
  refine run_ret ?_
  obtain rfl := Option.some.inj h
  refine retP_fz rfl (ret_fz (.inr rfl) ?_ rfl ?_)
  · simp only [go_sem, reduceIte, Nat.reduceLT, Nat.reduceEqDiff, Nat.reduceAdd]
  · show stUp [0] _ [0] _; simp only [go_sem, reduceIte, Nat.reduceLT, Nat.reduceEqDiff, Nat.reduceAdd]

end Go.Proofs.Ytihncddenjbecaa
/-
  The functions compute just that.
-/
namespace Go.Proofs.Ytihncddenjbecaa
open Go.Rv
set_option linter.unusedVariables false
set_option linter.unusedSimpArgs false
set_option maxRecDepth 20000

theorem codec_decoder_text_con {d_2684 : Codec_decoder} {r : (Api_Value × Codec_decoder) ⊕ (Int × Codec_decoder)} (h : codec_decoder_text d_2684 = some r) : PCon B 50 [.ref 0 0] [.box [.sl false (L cU8 d_2684.b)] false] (codec_decoder_text_out r) := by
  refine con_walk_pan (N := 29) (rs := [.cell 2 25]) 1 rfl ok Try.func50 rfl (by decide +kernel) rfl rfl (Nat.le_of_ble_eq_true rfl) (fun F => ?_)
  have hE := ok.env F
  unfold codec_decoder_text at h
  show Run (B.env F) 1 _ ⟨asFr 29 [(0, .ref 0 0)], [.box [.sl false (L cU8 d_2684.b)] false]⟩ _
  refine run_textE hE [0, 2] (fr' := [(0, .ref 0 0), (2, .ref 1 0)]) (σ' := [.box [.sl false (L cU8 d_2684.b)] false, .box [i64 0, i64 0, .sl true (L cU8 ([])), .sl true (L cApi_Value ([]))] false]) ⟨_, orcs_nil, ?_⟩ ?_
  · simp only [go_sem, reduceIte, Nat.reduceLT, Nat.reduceEqDiff, Nat.reduceAdd]
  refine run_textE hE [0, 2, 3] (fr' := [(0, .ref 0 0), (2, .ref 1 0), (3, .ref 2 0)]) (σ' := [.box [.sl false (L cU8 d_2684.b)] false, .box [i64 0, i64 0, .sl true (L cU8 ([])), .sl true (L cApi_Value ([]))] false, .box [i64 2, i64 0, .sl true (L cU8 ([])), .sl true (L cApi_Value ([]))] false]) ⟨_, orcs_nil, ?_⟩ ?_
  · simp only [go_sem, reduceIte, Nat.reduceLT, Nat.reduceEqDiff, Nat.reduceAdd, Nat.reduceGT]
  refine run_block ?_
  replace h := bind_some1 h; obtain ⟨x_2723, hx_2724, hj_2725⟩ := h
  refine run_loopO hx_2724 (fun (v : List UInt8 × List UInt8) => (⟨asFr 29 [(0, .ref 0 0), (2, .ref 1 0), (3, .ref 2 0)], [.box [.sl false (L cU8 v.1)] false, .box [i64 0, i64 0, .sl true (L cU8 ([])), .sl true (L cApi_Value ([]))] false, .box [i64 2, i64 0, .bs false 3 (v.2.length) 0 (v.2.length), .sl true (L cApi_Value ([]))] false, .buf 1 (L cU8 v.2) false]⟩ : St)) ((weak_nil_box 2 2 1 rfl rfl).trans (weak_sel [0, 1, 2, 3] (by decide) rfl (by simp only [go_sem, reduceIte, Nat.reduceLT, Nat.reduceEqDiff, Nat.reduceAdd]) (by simp only [go_sem, reduceIte, Nat.reduceLT, Nat.reduceEqDiff, Nat.reduceAdd]))) ?_
  rintro ⟨f_2703, l_2704⟩ o_2726 h hxx_2727
  replace h : codec_decoder_text_b1 f_2703 l_2704 = some o_2726 := h
  unfold codec_decoder_text_b1 at h
  refine run_block ?_
  replace h := bind_some1 h; obtain ⟨y_2728, hy_2731, h⟩ := h
  rcases y_2728 with v_2729 | v_2730
  rotate_left
  · dsimp only at h
    refine run_panT hE [] 1 _ (v := .iface 57 (.int .i64 v_2730.1)) (σ2 := [.box [.sl false (L cU8 v_2730.2.b)] false, .box [i64 0, i64 0, .sl true (L cU8 ([])), .sl true (L cApi_Value ([]))] false, .box [i64 2, i64 0, .bs false 3 (l_2704.length) 0 (l_2704.length), .sl true (L cApi_Value ([]))] false, .buf 1 (L cU8 l_2704) false]) (vals := []) rfl rfl ⟨_, [(7, 43, [.ref 0 0], [.box [.sl false (L cU8 f_2703)] false, .box [i64 0, i64 0, .sl true (L cU8 ([])), .sl true (L cApi_Value ([]))] false, .box [i64 2, i64 0, .bs false 3 (l_2704.length) 0 (l_2704.length), .sl true (L cApi_Value ([]))] false, .buf 1 (L cU8 l_2704) false], .val (.iface 57 (.int .i64 v_2730.1)), [.box [.sl false (L cU8 v_2730.2.b)] false, .box [i64 0, i64 0, .sl true (L cU8 ([])), .sl true (L cApi_Value ([]))] false, .box [i64 2, i64 0, .bs false 3 (l_2704.length) 0 (l_2704.length), .sl true (L cApi_Value ([]))] false, .buf 1 (L cU8 l_2704) false])], orcs_nil, ⟨fun v hv => by cases hv; exact wpan_call (PCon.pan (codec_decoder_next_con hy_2731) rfl) [0] (by decide) (by simp only [go_sem, reduceIte, Nat.reduceLT, Nat.reduceEqDiff, Nat.reduceAdd]) (by simp only [go_sem, reduceIte, Nat.reduceLT, Nat.reduceEqDiff, Nat.reduceAdd]) (by simp only [go_sem, reduceIte, Nat.reduceLT, Nat.reduceEqDiff, Nat.reduceAdd]) (by simp only [go_sem, reduceIte, Nat.reduceLT, Nat.reduceEqDiff, Nat.reduceAdd]), trivial⟩, ?_⟩ (fun fr_ hlen_ hfr_ => ?_)
    · simp only [go_sem, reduceIte, Nat.reduceLT, Nat.reduceEqDiff, Nat.reduceAdd]
    refine blockK_p ?_
    refine lpK_p ?_
    replace h := bind_some1 h; obtain ⟨z_2732, h, e_z_2732⟩ := h
    obtain rfl := Option.some.inj e_z_2732
    have ex_z_2732 := hxx_2727 _ rfl
    subst ex_z_2732
    obtain rfl := Option.some.inj hj_2725
    refine blockK_p ?_
    obtain rfl := Option.some.inj h
    refine retP_pan rfl [0] (by decide) rfl ?_
    simp only [go_sem, reduceIte, Nat.reduceLT, Nat.reduceEqDiff, Nat.reduceAdd]
  dsimp only at h
  refine run_textE hE [0, 2, 3, 4] (fr' := [(0, .ref 0 0), (2, .ref 1 0), (3, .ref 2 0), (4, u8 v_2729.1)]) (σ' := [.box [.sl false (L cU8 v_2729.2.b)] false, .box [i64 0, i64 0, .sl true (L cU8 ([])), .sl true (L cApi_Value ([]))] false, .box [i64 2, i64 0, .bs false 3 (l_2704.length) 0 (l_2704.length), .sl true (L cApi_Value ([]))] false, .buf 1 (L cU8 l_2704) false]) ⟨_, orcs_ok2 (l := []) (m := [(7, 43, [.ref 0 0], [.box [.sl false (L cU8 f_2703)] false, .box [i64 0, i64 0, .sl true (L cU8 ([])), .sl true (L cApi_Value ([]))] false, .box [i64 2, i64 0, .bs false 3 (l_2704.length) 0 (l_2704.length), .sl true (L cApi_Value ([]))] false, .buf 1 (L cU8 l_2704) false], u8 v_2729.1, [.box [.sl false (L cU8 v_2729.2.b)] false, .box [i64 0, i64 0, .sl true (L cU8 ([])), .sl true (L cApi_Value ([]))] false, .box [i64 2, i64 0, .bs false 3 (l_2704.length) 0 (l_2704.length), .sl true (L cApi_Value ([]))] false, .buf 1 (L cU8 l_2704) false])]) trivial ⟨(wcon_call (PCon.to (codec_decoder_next_con hy_2731) rfl) [0] (by decide) (by simp only [go_sem, reduceIte, Nat.reduceLT, Nat.reduceEqDiff, Nat.reduceAdd]) (by simp only [go_sem, reduceIte, Nat.reduceLT, Nat.reduceEqDiff, Nat.reduceAdd]) (by simp only [go_sem, reduceIte, Nat.reduceLT, Nat.reduceEqDiff, Nat.reduceAdd]) (by simp only [go_sem, reduceIte, Nat.reduceLT, Nat.reduceEqDiff, Nat.reduceAdd]) (by simp only [go_sem, reduceIte, Nat.reduceLT, Nat.reduceEqDiff, Nat.reduceAdd])), trivial⟩, ?_⟩ ?_
  · simp only [go_sem, reduceIte, Nat.reduceLT, Nat.reduceEqDiff, Nat.reduceAdd]
  refine run_seq ?_
  refine run_textE hE [0, 2, 3, 4, 9] (fr' := [(0, .ref 0 0), (2, .ref 1 0), (3, .ref 2 0), (4, u8 v_2729.1), (9, .bool ((v_2729.1 != (0 : UInt8))))]) (σ' := [.box [.sl false (L cU8 v_2729.2.b)] false, .box [i64 0, i64 0, .sl true (L cU8 ([])), .sl true (L cApi_Value ([]))] false, .box [i64 2, i64 0, .bs false 3 (l_2704.length) 0 (l_2704.length), .sl true (L cApi_Value ([]))] false, .buf 1 (L cU8 l_2704) false]) ⟨_, orcs_nil, ?_⟩ ?_
  · simp only [go_sem, reduceIte, Nat.reduceLT, Nat.reduceEqDiff, Nat.reduceAdd]
  refine run_condL (b := (v_2729.1 != (0 : UInt8))) rfl (by decide) (fun hb => ?_) (fun hb => ?_)
  · replace h := ite_t h hb
    replace h := chk_some h; obtain ⟨hc_2733, h⟩ := h
    replace h := lt1_some h; obtain ⟨l_2734, hz_2735, h⟩ := h
    refine run_textE hE [0, 2, 3] (fr' := [(0, .ref 0 0), (2, .ref 1 0), (3, .ref 2 0)]) (σ' := [.box [.sl false (L cU8 v_2729.2.b)] false, .box [i64 0, i64 0, .sl true (L cU8 ([])), .sl true (L cApi_Value ([]))] false, .box [i64 2, i64 0, .bs false 3 (l_2734.length) 0 (l_2734.length), .sl true (L cApi_Value ([]))] false, .buf 1 (L cU8 l_2734) false, .buf 1 (L cU8 (([v_2729.1] : List UInt8))) false]) ⟨_, orcs_nil, ?_⟩ ?_
    · subst hz_2735; simp only [go_sem, reduceIte, Nat.reduceLT, Nat.reduceEqDiff, Nat.reduceAdd, Nat.reduceBEq, Nat.reduceMul, Nat.reduceSub, Nat.reduceGT, Nat.reducePow, Nat.reduceLeDiff, Int.reduceToNat, hc_2733]
    refine run_exit ?_
    refine thenK_x ?_
    refine blockK_x ?_
    obtain rfl := Option.some.inj h
    exact lpK_n ((v_2729.2.b, l_2734)) rfl (weak_sel [0, 1, 2, 3] (by decide) rfl (by simp only [go_sem, reduceIte, Nat.reduceLT, Nat.reduceEqDiff, Nat.reduceAdd]) (by simp only [go_sem, reduceIte, Nat.reduceLT, Nat.reduceEqDiff, Nat.reduceAdd]))
  · replace h := ite_f h hb
    refine run_skip ?_
    refine thenK_n ?_
    replace h := bind_some1 h; obtain ⟨y_2736, hy_2739, h⟩ := h
    rcases y_2736 with v_2737 | v_2738
    rotate_left
    · dsimp only at h
      refine run_panT hE [] 1 _ (v := .iface 57 (.int .i64 v_2738.1)) (σ2 := [.box [.sl false (L cU8 v_2738.2.b)] false, .box [i64 0, i64 0, .sl true (L cU8 ([])), .sl true (L cApi_Value ([]))] false, .box [i64 2, i64 0, .bs false 3 (l_2704.length) 0 (l_2704.length), .sl true (L cApi_Value ([]))] false, .buf 1 (L cU8 l_2704) false]) (vals := []) rfl rfl ⟨_, [(17, 43, [.ref 0 0], [.box [.sl false (L cU8 v_2729.2.b)] false, .box [i64 0, i64 0, .sl true (L cU8 ([])), .sl true (L cApi_Value ([]))] false, .box [i64 2, i64 0, .bs false 3 (l_2704.length) 0 (l_2704.length), .sl true (L cApi_Value ([]))] false, .buf 1 (L cU8 l_2704) false], .val (.iface 57 (.int .i64 v_2738.1)), [.box [.sl false (L cU8 v_2738.2.b)] false, .box [i64 0, i64 0, .sl true (L cU8 ([])), .sl true (L cApi_Value ([]))] false, .box [i64 2, i64 0, .bs false 3 (l_2704.length) 0 (l_2704.length), .sl true (L cApi_Value ([]))] false, .buf 1 (L cU8 l_2704) false])], orcs_nil, ⟨fun v hv => by cases hv; exact wpan_call (PCon.pan (codec_decoder_next_con hy_2739) rfl) [0] (by decide) (by simp only [go_sem, reduceIte, Nat.reduceLT, Nat.reduceEqDiff, Nat.reduceAdd]) (by simp only [go_sem, reduceIte, Nat.reduceLT, Nat.reduceEqDiff, Nat.reduceAdd]) (by simp only [go_sem, reduceIte, Nat.reduceLT, Nat.reduceEqDiff, Nat.reduceAdd]) (by simp only [go_sem, reduceIte, Nat.reduceLT, Nat.reduceEqDiff, Nat.reduceAdd]), trivial⟩, ?_⟩ (fun fr_ hlen_ hfr_ => ?_)
      · simp only [go_sem, reduceIte, Nat.reduceLT, Nat.reduceEqDiff, Nat.reduceAdd]
      refine blockK_p ?_
      refine lpK_p ?_
      replace h := bind_some1 h; obtain ⟨z_2740, h, e_z_2740⟩ := h
      obtain rfl := Option.some.inj e_z_2740
      have ex_z_2740 := hxx_2727 _ rfl
      subst ex_z_2740
      obtain rfl := Option.some.inj hj_2725
      refine blockK_p ?_
      obtain rfl := Option.some.inj h
      refine retP_pan rfl [0] (by decide) rfl ?_
      simp only [go_sem, reduceIte, Nat.reduceLT, Nat.reduceEqDiff, Nat.reduceAdd]
    dsimp only at h
    refine run_textE hE [0, 2, 3, 17] (fr' := [(0, .ref 0 0), (2, .ref 1 0), (3, .ref 2 0), (17, u8 v_2737.1)]) (σ' := [.box [.sl false (L cU8 v_2737.2.b)] false, .box [i64 0, i64 0, .sl true (L cU8 ([])), .sl true (L cApi_Value ([]))] false, .box [i64 2, i64 0, .bs false 3 (l_2704.length) 0 (l_2704.length), .sl true (L cApi_Value ([]))] false, .buf 1 (L cU8 l_2704) false]) ⟨_, orcs_ok2 (l := []) (m := [(17, 43, [.ref 0 0], [.box [.sl false (L cU8 v_2729.2.b)] false, .box [i64 0, i64 0, .sl true (L cU8 ([])), .sl true (L cApi_Value ([]))] false, .box [i64 2, i64 0, .bs false 3 (l_2704.length) 0 (l_2704.length), .sl true (L cApi_Value ([]))] false, .buf 1 (L cU8 l_2704) false], u8 v_2737.1, [.box [.sl false (L cU8 v_2737.2.b)] false, .box [i64 0, i64 0, .sl true (L cU8 ([])), .sl true (L cApi_Value ([]))] false, .box [i64 2, i64 0, .bs false 3 (l_2704.length) 0 (l_2704.length), .sl true (L cApi_Value ([]))] false, .buf 1 (L cU8 l_2704) false])]) trivial ⟨(wcon_call (PCon.to (codec_decoder_next_con hy_2739) rfl) [0] (by decide) (by simp only [go_sem, reduceIte, Nat.reduceLT, Nat.reduceEqDiff, Nat.reduceAdd]) (by simp only [go_sem, reduceIte, Nat.reduceLT, Nat.reduceEqDiff, Nat.reduceAdd]) (by simp only [go_sem, reduceIte, Nat.reduceLT, Nat.reduceEqDiff, Nat.reduceAdd]) (by simp only [go_sem, reduceIte, Nat.reduceLT, Nat.reduceEqDiff, Nat.reduceAdd]) (by simp only [go_sem, reduceIte, Nat.reduceLT, Nat.reduceEqDiff, Nat.reduceAdd])), trivial⟩, ?_⟩ ?_
    · simp only [go_sem, reduceIte, Nat.reduceLT, Nat.reduceEqDiff, Nat.reduceAdd]
    refine run_block ?_
    refine run_textE hE [0, 2, 3, 17, 19] (fr' := [(0, .ref 0 0), (2, .ref 1 0), (3, .ref 2 0), (17, u8 v_2737.1), (19, .bool ((v_2737.1 == (0 : UInt8))))]) (σ' := [.box [.sl false (L cU8 v_2737.2.b)] false, .box [i64 0, i64 0, .sl true (L cU8 ([])), .sl true (L cApi_Value ([]))] false, .box [i64 2, i64 0, .bs false 3 (l_2704.length) 0 (l_2704.length), .sl true (L cApi_Value ([]))] false, .buf 1 (L cU8 l_2704) false]) ⟨_, orcs_nil, ?_⟩ ?_
    · simp only [go_sem, reduceIte, Nat.reduceLT, Nat.reduceEqDiff, Nat.reduceAdd]
    refine run_condL (b := (v_2737.1 == (0 : UInt8))) rfl (by decide) (fun hb => ?_) (fun hb => ?_)
    · replace h := ite_t h hb
      refine run_textE hE [2] (fr' := [(2, .ref 1 0)]) (σ' := [.box [.sl false (L cU8 v_2737.2.b)] false, .box [i64 2, i64 0, .bs false 3 (l_2704.length) 0 (l_2704.length), .sl true (L cApi_Value ([]))] false, .box [i64 2, i64 0, .bs false 3 (l_2704.length) 0 (l_2704.length), .sl true (L cApi_Value ([]))] false, .buf 1 (L cU8 l_2704) false]) ⟨_, orcs_nil, ?_⟩ ?_
      · simp only [go_sem, reduceIte, Nat.reduceLT, Nat.reduceEqDiff, Nat.reduceAdd]
      refine run_ret ?_
      refine blockK_r ?_
      refine blockK_r ?_
      refine lpK_r ?_
      replace h := bind_some1 h; obtain ⟨z_2741, h, e_z_2741⟩ := h
      obtain rfl := Option.some.inj e_z_2741
      have ex_z_2741 := hxx_2727 _ rfl
      subst ex_z_2741
      obtain rfl := Option.some.inj hj_2725
      refine blockK_r ?_
      obtain rfl := Option.some.inj h
      refine retP_fz rfl (ret_fz (.inr rfl) ?_ rfl ?_)
      · simp only [go_sem, reduceIte, Nat.reduceLT, Nat.reduceEqDiff, Nat.reduceAdd]
      · show stUp [0] _ [0] _; simp only [go_sem, reduceIte, Nat.reduceLT, Nat.reduceEqDiff, Nat.reduceAdd]
    · replace h := ite_f h hb
      refine run_textE hE [0, 2, 3, 22] (fr' := [(0, .ref 0 0), (2, .ref 1 0), (3, .ref 2 0), (22, .bool ((v_2737.1 == (255 : UInt8))))]) (σ' := [.box [.sl false (L cU8 v_2737.2.b)] false, .box [i64 0, i64 0, .sl true (L cU8 ([])), .sl true (L cApi_Value ([]))] false, .box [i64 2, i64 0, .bs false 3 (l_2704.length) 0 (l_2704.length), .sl true (L cApi_Value ([]))] false, .buf 1 (L cU8 l_2704) false]) ⟨_, orcs_nil, ?_⟩ ?_
      · simp only [go_sem, reduceIte, Nat.reduceLT, Nat.reduceEqDiff, Nat.reduceAdd]
      refine run_condL (b := (v_2737.1 == (255 : UInt8))) rfl (by decide) (fun hb => ?_) (fun hb => ?_)
      · replace h := ite_t h hb
        replace h := chk_some h; obtain ⟨hc_2742, h⟩ := h
        replace h := lt1_some h; obtain ⟨l_2743, hz_2744, h⟩ := h
        refine run_textE0 hE (wk_block (wk_block wk_lp)) [0, 2, 3] (fr' := [(0, .ref 0 0), (2, .ref 1 0), (3, .ref 2 0)]) (σ' := [.box [.sl false (L cU8 v_2737.2.b)] false, .box [i64 0, i64 0, .sl true (L cU8 ([])), .sl true (L cApi_Value ([]))] false, .box [i64 2, i64 0, .bs false 3 (l_2743.length) 0 (l_2743.length), .sl true (L cApi_Value ([]))] false, .buf 1 (L cU8 l_2743) false, .buf 1 (L cU8 (([(0 : UInt8)] : List UInt8))) false]) ⟨_, orcs_nil, ?_⟩ ?_
        · subst hz_2744; simp only [go_sem, reduceIte, Nat.reduceLT, Nat.reduceEqDiff, Nat.reduceAdd, Nat.reduceBEq, Nat.reduceMul, Nat.reduceSub, Nat.reduceGT, Nat.reducePow, Nat.reduceLeDiff, Int.reduceToNat, hc_2742]
        refine blockK_n ?_
        refine blockK_n ?_
        obtain rfl := Option.some.inj h
        exact lpK_n ((v_2737.2.b, l_2743)) rfl (weak_sel [0, 1, 2, 3] (by decide) rfl (by simp only [go_sem, reduceIte, Nat.reduceLT, Nat.reduceEqDiff, Nat.reduceAdd]) (by simp only [go_sem, reduceIte, Nat.reduceLT, Nat.reduceEqDiff, Nat.reduceAdd]))
      · replace h := ite_f h hb
        refine run_panT0 hE [] 1 _ (v := .iface 57 (.int .i64 4)) (σ2 := [.box [.sl false (L cU8 v_2737.2.b)] false, .box [i64 0, i64 0, .sl true (L cU8 ([])), .sl true (L cApi_Value ([]))] false, .box [i64 2, i64 0, .bs false 3 (l_2704.length) 0 (l_2704.length), .sl true (L cApi_Value ([]))] false, .buf 1 (L cU8 l_2704) false]) (vals := []) rfl rfl ⟨_, [], orcs_nil, trivial, ?_⟩ (fun fr_ hlen_ hfr_ => ?_)
        · simp only [go_sem, reduceIte, Nat.reduceLT, Nat.reduceEqDiff, Nat.reduceAdd]
        refine blockK_p ?_
        refine blockK_p ?_
        refine lpK_p ?_
        replace h := bind_some1 h; obtain ⟨z_2745, h, e_z_2745⟩ := h
        obtain rfl := Option.some.inj e_z_2745
        have ex_z_2745 := hxx_2727 _ rfl
        subst ex_z_2745
        obtain rfl := Option.some.inj hj_2725
        refine blockK_p ?_
        obtain rfl := Option.some.inj h
        refine retP_pan rfl [0] (by decide) rfl ?_
        simp only [go_sem, reduceIte, Nat.reduceLT, Nat.reduceEqDiff, Nat.reduceAdd]

end Go.Proofs.Ytihncddenjbecaa
/-
  The functions compute just that.
-/
namespace Go.Proofs.Ytihncddenjbecaa
open Go.Rv
set_option linter.unusedVariables false
set_option linter.unusedSimpArgs false
set_option maxRecDepth 20000

theorem codec_decoder_value_F_con {rec_ : Codec_decoder → UInt8 → Option ((Api_Value × Codec_decoder) ⊕ (Int × Codec_decoder))} (hrec : ∀ {d_2746 : Codec_decoder} {t_2747 : UInt8} {r : (Api_Value × Codec_decoder) ⊕ (Int × Codec_decoder)}, rec_ d_2746 t_2747 = some r → PCon B 42 [.ref 0 0, u8 t_2747] [.box [.sl false (L cU8 d_2746.b)] false] (codec_decoder_value_out r)) {d_2746 : Codec_decoder} {t_2747 : UInt8} {r : (Api_Value × Codec_decoder) ⊕ (Int × Codec_decoder)} (h : codec_decoder_value_F rec_ d_2746 t_2747 = some r) : PCon B 42 [.ref 0 0, u8 t_2747] [.box [.sl false (L cU8 d_2746.b)] false] (codec_decoder_value_out r) := by
  refine con_walk_pan (N := 56) (rs := [.cell 4 25]) 1 rfl ok Try.func42 rfl (by decide +kernel) rfl rfl (Nat.le_of_ble_eq_true rfl) (fun F => ?_)
  have hE := ok.env F
  unfold codec_decoder_value_F at h
  show Run (B.env F) 1 _ ⟨asFr 56 [(0, .ref 0 0), (1, u8 t_2747)], [.box [.sl false (L cU8 d_2746.b)] false]⟩ _
  refine run_textE hE [0, 1, 4] (fr' := [(0, .ref 0 0), (1, u8 t_2747), (4, .ref 1 0)]) (σ' := [.box [.sl false (L cU8 d_2746.b)] false, .box [i64 0, i64 0, .sl true (L cU8 ([])), .sl true (L cApi_Value ([]))] false]) ⟨_, orcs_nil, ?_⟩ ?_
  · simp only [go_sem, reduceIte, Nat.reduceLT, Nat.reduceEqDiff, Nat.reduceAdd]
  replace h := bind_some1 h; obtain ⟨j_2912, hA_2913, hj_2914⟩ := h
  refine run_join (fun (v : Unit) => (⟨asFr 56 [(4, .ref 1 0)], [.box [.sl false (L cU8 d_2746.b)] false, .box [i64 0, i64 0, .sl true (L cU8 ([])), .sl true (L cApi_Value ([]))] false]⟩ : St)) (fun v => .inl v = j_2912) ?_ ?_
  · have h := hA_2913; clear hA_2913
    refine run_block ?_
    replace h := bind_some1 h; obtain ⟨t_2915, hv_2916, h⟩ := h
    refine run_textW hE [0, 1, 4, 7] (fr' := [(0, .ref 0 0), (1, u8 t_2747), (4, .ref 1 0), (7, .bool t_2915)]) (σ' := [.box [.sl false (L cU8 d_2746.b)] false, .box [i64 0, i64 0, .sl true (L cU8 ([])), .sl true (L cApi_Value ([]))] false]) ?_ ?_
    · rcases Bool.eq_false_or_eq_true ((decide (t_2747 ≥ (32 : UInt8)))) with hb_2917 | hb_2917
      · replace hv_2916 := ite_t hv_2916 hb_2917
        have e_hv_2916 := Option.some.inj hv_2916; subst e_hv_2916
        exact ⟨_, [(0, .ref 0 0), (1, u8 t_2747), (4, .ref 1 0), (7, .bool ((decide (t_2747 ≤ (40 : UInt8)))))], [.box [.sl false (L cU8 d_2746.b)] false, .box [i64 0, i64 0, .sl true (L cU8 ([])), .sl true (L cApi_Value ([]))] false], orcs_nil, by simp only [go_sem, reduceIte, Nat.reduceLT, Nat.reduceEqDiff, Nat.reduceAdd, hb_2917], (weak_sel [0, 1] (by decide) rfl (by simp only [go_sem, reduceIte, Nat.reduceLT, Nat.reduceEqDiff, Nat.reduceAdd]) (by simp only [go_sem, reduceIte, Nat.reduceLT, Nat.reduceEqDiff, Nat.reduceAdd]))⟩
      · replace hv_2916 := ite_f hv_2916 hb_2917
        have e_hv_2916 := Option.some.inj hv_2916; subst e_hv_2916
        exact ⟨_, [(0, .ref 0 0), (1, u8 t_2747), (4, .ref 1 0), (7, .bool false)], [.box [.sl false (L cU8 d_2746.b)] false, .box [i64 0, i64 0, .sl true (L cU8 ([])), .sl true (L cApi_Value ([]))] false], orcs_nil, by simp only [go_sem, reduceIte, Nat.reduceLT, Nat.reduceEqDiff, Nat.reduceAdd, hb_2917], (weak_sel [0, 1] (by decide) rfl (by simp only [go_sem, reduceIte, Nat.reduceLT, Nat.reduceEqDiff, Nat.reduceAdd]) (by simp only [go_sem, reduceIte, Nat.reduceLT, Nat.reduceEqDiff, Nat.reduceAdd]))⟩
    refine run_condL (b := t_2915) rfl (by decide) (fun hb => ?_) (fun hb => ?_)
    · replace h := ite_t h hb
      replace h := bind_some1 h; obtain ⟨y_2918, hy_2921, h⟩ := h
      rcases y_2918 with v_2919 | v_2920
      rotate_left
      · dsimp only at h
        refine run_panT hE [] 4 _ (v := .iface 57 (.int .i64 v_2920.1)) (σ2 := [.box [.sl false (L cU8 v_2920.2.b)] false, .box [i64 0, i64 0, .sl true (L cU8 ([])), .sl true (L cApi_Value ([]))] false]) (vals := []) rfl rfl ⟨_, [(18, 49, [.ref 0 0, i64 ((((t_2747 - (32 : UInt8))).toNat : Int)), u8 ((0 : UInt8))], [.box [.sl false (L cU8 d_2746.b)] false, .box [i64 0, i64 0, .sl true (L cU8 ([])), .sl true (L cApi_Value ([]))] false], .val (.iface 57 (.int .i64 v_2920.1)), [.box [.sl false (L cU8 v_2920.2.b)] false, .box [i64 0, i64 0, .sl true (L cU8 ([])), .sl true (L cApi_Value ([]))] false])], orcs_nil, ⟨fun v hv => by cases hv; exact wpan_call (PCon.pan (codec_decoder_integer_con hy_2921) rfl) [0] (by decide) (by simp only [go_sem, reduceIte, Nat.reduceLT, Nat.reduceEqDiff, Nat.reduceAdd]) (by simp only [go_sem, reduceIte, Nat.reduceLT, Nat.reduceEqDiff, Nat.reduceAdd]) (by simp only [go_sem, reduceIte, Nat.reduceLT, Nat.reduceEqDiff, Nat.reduceAdd]) (by simp only [go_sem, reduceIte, Nat.reduceLT, Nat.reduceEqDiff, Nat.reduceAdd]), trivial⟩, ?_⟩ (fun fr_ hlen_ hfr_ => ?_)
        · simp only [go_sem, reduceIte, Nat.reduceLT, Nat.reduceEqDiff, Nat.reduceAdd]
        refine blockK_p ?_
        refine joinK_p ?_
        replace h := bind_some1 h; obtain ⟨z_2922, h, e_z_2922⟩ := h
        obtain rfl := Option.some.inj e_z_2922
        obtain rfl := Option.some.inj hj_2914
        obtain rfl := Option.some.inj h
        refine retP_pan rfl [0] (by decide) rfl ?_
        simp only [go_sem, reduceIte, Nat.reduceLT, Nat.reduceEqDiff, Nat.reduceAdd]
      dsimp only at h
      refine run_textE hE [4] (fr' := [(4, .ref 1 0)]) (σ' := [.box [.sl false (L cU8 v_2919.2.b)] false, .box [i64 v_2919.1.Kind, i64 v_2919.1.N, .sl false (L cU8 v_2919.1.B), .sl false (L cApi_Value v_2919.1.L)] false]) ⟨_, orcs_ok2 (l := []) (m := [(18, 49, [.ref 0 0, i64 ((((t_2747 - (32 : UInt8))).toNat : Int)), u8 ((0 : UInt8))], [.box [.sl false (L cU8 d_2746.b)] false, .box [i64 0, i64 0, .sl true (L cU8 ([])), .sl true (L cApi_Value ([]))] false], .agg [i64 v_2919.1.Kind, i64 v_2919.1.N, .sl false (L cU8 v_2919.1.B), .sl false (L cApi_Value v_2919.1.L)], [.box [.sl false (L cU8 v_2919.2.b)] false, .box [i64 0, i64 0, .sl true (L cU8 ([])), .sl true (L cApi_Value ([]))] false])]) trivial ⟨(wcon_call (PCon.to (codec_decoder_integer_con hy_2921) rfl) [0] (by decide) (by simp only [go_sem, reduceIte, Nat.reduceLT, Nat.reduceEqDiff, Nat.reduceAdd]) (by simp only [go_sem, reduceIte, Nat.reduceLT, Nat.reduceEqDiff, Nat.reduceAdd]) (by simp only [go_sem, reduceIte, Nat.reduceLT, Nat.reduceEqDiff, Nat.reduceAdd]) (by simp only [go_sem, reduceIte, Nat.reduceLT, Nat.reduceEqDiff, Nat.reduceAdd]) (by simp only [go_sem, reduceIte, Nat.reduceLT, Nat.reduceEqDiff, Nat.reduceAdd])), trivial⟩, ?_⟩ ?_
      · simp only [go_sem, reduceIte, Nat.reduceLT, Nat.reduceEqDiff, Nat.reduceAdd]
      refine run_ret ?_
      refine blockK_r ?_
      refine joinK_r ?_
      replace h := bind_some1 h; obtain ⟨z_2923, h, e_z_2923⟩ := h
      obtain rfl := Option.some.inj e_z_2923
      obtain rfl := Option.some.inj hj_2914
      obtain rfl := Option.some.inj h
      refine retP_fz rfl (ret_fz (.inr rfl) ?_ rfl ?_)
      · simp only [go_sem, reduceIte, Nat.reduceLT, Nat.reduceEqDiff, Nat.reduceAdd]
      · show stUp [0] _ [0] _; simp only [go_sem, reduceIte, Nat.reduceLT, Nat.reduceEqDiff, Nat.reduceAdd]
    · replace h := ite_f h hb
      replace h := bind_some1 h; obtain ⟨t_2924, hv_2925, h⟩ := h
      refine run_textW hE [0, 1, 4, 19] (fr' := [(0, .ref 0 0), (1, u8 t_2747), (4, .ref 1 0), (19, .bool t_2924)]) (σ' := [.box [.sl false (L cU8 d_2746.b)] false, .box [i64 0, i64 0, .sl true (L cU8 ([])), .sl true (L cApi_Value ([]))] false]) ?_ ?_
      · rcases Bool.eq_false_or_eq_true ((decide (t_2747 < (32 : UInt8)))) with hb_2926 | hb_2926
        · replace hv_2925 := ite_t hv_2925 hb_2926
          have e_hv_2925 := Option.some.inj hv_2925; subst e_hv_2925
          exact ⟨_, [(0, .ref 0 0), (1, u8 t_2747), (4, .ref 1 0), (19, .bool ((decide (t_2747 ≥ (23 : UInt8)))))], [.box [.sl false (L cU8 d_2746.b)] false, .box [i64 0, i64 0, .sl true (L cU8 ([])), .sl true (L cApi_Value ([]))] false], orcs_nil, by simp only [go_sem, reduceIte, Nat.reduceLT, Nat.reduceEqDiff, Nat.reduceAdd, hb_2926], (weak_sel [0, 1] (by decide) rfl (by simp only [go_sem, reduceIte, Nat.reduceLT, Nat.reduceEqDiff, Nat.reduceAdd]) (by simp only [go_sem, reduceIte, Nat.reduceLT, Nat.reduceEqDiff, Nat.reduceAdd]))⟩
        · replace hv_2925 := ite_f hv_2925 hb_2926
          have e_hv_2925 := Option.some.inj hv_2925; subst e_hv_2925
          exact ⟨_, [(0, .ref 0 0), (1, u8 t_2747), (4, .ref 1 0), (19, .bool false)], [.box [.sl false (L cU8 d_2746.b)] false, .box [i64 0, i64 0, .sl true (L cU8 ([])), .sl true (L cApi_Value ([]))] false], orcs_nil, by simp only [go_sem, reduceIte, Nat.reduceLT, Nat.reduceEqDiff, Nat.reduceAdd, hb_2926], (weak_sel [0, 1] (by decide) rfl (by simp only [go_sem, reduceIte, Nat.reduceLT, Nat.reduceEqDiff, Nat.reduceAdd]) (by simp only [go_sem, reduceIte, Nat.reduceLT, Nat.reduceEqDiff, Nat.reduceAdd]))⟩
      refine run_condL (b := t_2924) rfl (by decide) (fun hb => ?_) (fun hb => ?_)
      · replace h := ite_t h hb
        replace h := bind_some1 h; obtain ⟨y_2927, hy_2930, h⟩ := h
        rcases y_2927 with v_2928 | v_2929
        rotate_left
        · dsimp only at h
          refine run_panT hE [] 4 _ (v := .iface 57 (.int .i64 v_2929.1)) (σ2 := [.box [.sl false (L cU8 v_2929.2.b)] false, .box [i64 0, i64 0, .sl true (L cU8 ([])), .sl true (L cApi_Value ([]))] false]) (vals := []) rfl rfl ⟨_, [(30, 49, [.ref 0 0, i64 (((((31 : UInt8) - t_2747)).toNat : Int)), u8 ((255 : UInt8))], [.box [.sl false (L cU8 d_2746.b)] false, .box [i64 0, i64 0, .sl true (L cU8 ([])), .sl true (L cApi_Value ([]))] false], .val (.iface 57 (.int .i64 v_2929.1)), [.box [.sl false (L cU8 v_2929.2.b)] false, .box [i64 0, i64 0, .sl true (L cU8 ([])), .sl true (L cApi_Value ([]))] false])], orcs_nil, ⟨fun v hv => by cases hv; exact wpan_call (PCon.pan (codec_decoder_integer_con hy_2930) rfl) [0] (by decide) (by simp only [go_sem, reduceIte, Nat.reduceLT, Nat.reduceEqDiff, Nat.reduceAdd]) (by simp only [go_sem, reduceIte, Nat.reduceLT, Nat.reduceEqDiff, Nat.reduceAdd]) (by simp only [go_sem, reduceIte, Nat.reduceLT, Nat.reduceEqDiff, Nat.reduceAdd]) (by simp only [go_sem, reduceIte, Nat.reduceLT, Nat.reduceEqDiff, Nat.reduceAdd]), trivial⟩, ?_⟩ (fun fr_ hlen_ hfr_ => ?_)
          · simp only [go_sem, reduceIte, Nat.reduceLT, Nat.reduceEqDiff, Nat.reduceAdd]
          refine blockK_p ?_
          refine joinK_p ?_
          replace h := bind_some1 h; obtain ⟨z_2931, h, e_z_2931⟩ := h
          obtain rfl := Option.some.inj e_z_2931
          obtain rfl := Option.some.inj hj_2914
          obtain rfl := Option.some.inj h
          refine retP_pan rfl [0] (by decide) rfl ?_
          simp only [go_sem, reduceIte, Nat.reduceLT, Nat.reduceEqDiff, Nat.reduceAdd]
        dsimp only at h
        refine run_textE hE [4] (fr' := [(4, .ref 1 0)]) (σ' := [.box [.sl false (L cU8 v_2928.2.b)] false, .box [i64 v_2928.1.Kind, i64 v_2928.1.N, .sl false (L cU8 v_2928.1.B), .sl false (L cApi_Value v_2928.1.L)] false]) ⟨_, orcs_ok2 (l := []) (m := [(30, 49, [.ref 0 0, i64 (((((31 : UInt8) - t_2747)).toNat : Int)), u8 ((255 : UInt8))], [.box [.sl false (L cU8 d_2746.b)] false, .box [i64 0, i64 0, .sl true (L cU8 ([])), .sl true (L cApi_Value ([]))] false], .agg [i64 v_2928.1.Kind, i64 v_2928.1.N, .sl false (L cU8 v_2928.1.B), .sl false (L cApi_Value v_2928.1.L)], [.box [.sl false (L cU8 v_2928.2.b)] false, .box [i64 0, i64 0, .sl true (L cU8 ([])), .sl true (L cApi_Value ([]))] false])]) trivial ⟨(wcon_call (PCon.to (codec_decoder_integer_con hy_2930) rfl) [0] (by decide) (by simp only [go_sem, reduceIte, Nat.reduceLT, Nat.reduceEqDiff, Nat.reduceAdd]) (by simp only [go_sem, reduceIte, Nat.reduceLT, Nat.reduceEqDiff, Nat.reduceAdd]) (by simp only [go_sem, reduceIte, Nat.reduceLT, Nat.reduceEqDiff, Nat.reduceAdd]) (by simp only [go_sem, reduceIte, Nat.reduceLT, Nat.reduceEqDiff, Nat.reduceAdd]) (by simp only [go_sem, reduceIte, Nat.reduceLT, Nat.reduceEqDiff, Nat.reduceAdd])), trivial⟩, ?_⟩ ?_
        · simp only [go_sem, reduceIte, Nat.reduceLT, Nat.reduceEqDiff, Nat.reduceAdd]
        refine run_ret ?_
        refine blockK_r ?_
        refine joinK_r ?_
        replace h := bind_some1 h; obtain ⟨z_2932, h, e_z_2932⟩ := h
        obtain rfl := Option.some.inj e_z_2932
        obtain rfl := Option.some.inj hj_2914
        obtain rfl := Option.some.inj h
        refine retP_fz rfl (ret_fz (.inr rfl) ?_ rfl ?_)
        · simp only [go_sem, reduceIte, Nat.reduceLT, Nat.reduceEqDiff, Nat.reduceAdd]
        · show stUp [0] _ [0] _; simp only [go_sem, reduceIte, Nat.reduceLT, Nat.reduceEqDiff, Nat.reduceAdd]
      · replace h := ite_f h hb
        refine run_textE hE [0, 1, 4, 31] (fr' := [(0, .ref 0 0), (1, u8 t_2747), (4, .ref 1 0), (31, .bool ((t_2747 == (48 : UInt8))))]) (σ' := [.box [.sl false (L cU8 d_2746.b)] false, .box [i64 0, i64 0, .sl true (L cU8 ([])), .sl true (L cApi_Value ([]))] false]) ⟨_, orcs_nil, ?_⟩ ?_
        · simp only [go_sem, reduceIte, Nat.reduceLT, Nat.reduceEqDiff, Nat.reduceAdd]
        refine run_condL (b := (t_2747 == (48 : UInt8))) rfl (by decide) (fun hb => ?_) (fun hb => ?_)
        · replace h := ite_t h hb
          replace h := bind_some1 h; obtain ⟨y_2933, hy_2936, h⟩ := h
          rcases y_2933 with v_2934 | v_2935
          rotate_left
          · dsimp only at h
            refine run_panT hE [] 1 _ (v := .iface 57 (.int .i64 v_2935.1)) (σ2 := [.box [.sl false (L cU8 v_2935.2.b)] false, .box [i64 0, i64 0, .sl true (L cU8 ([])), .sl true (L cApi_Value ([]))] false]) (vals := []) rfl rfl ⟨_, [(35, 50, [.ref 0 0], [.box [.sl false (L cU8 d_2746.b)] false, .box [i64 0, i64 0, .sl true (L cU8 ([])), .sl true (L cApi_Value ([]))] false], .val (.iface 57 (.int .i64 v_2935.1)), [.box [.sl false (L cU8 v_2935.2.b)] false, .box [i64 0, i64 0, .sl true (L cU8 ([])), .sl true (L cApi_Value ([]))] false])], orcs_nil, ⟨fun v hv => by cases hv; exact wpan_call (PCon.pan (codec_decoder_text_con hy_2936) rfl) [0] (by decide) (by simp only [go_sem, reduceIte, Nat.reduceLT, Nat.reduceEqDiff, Nat.reduceAdd]) (by simp only [go_sem, reduceIte, Nat.reduceLT, Nat.reduceEqDiff, Nat.reduceAdd]) (by simp only [go_sem, reduceIte, Nat.reduceLT, Nat.reduceEqDiff, Nat.reduceAdd]) (by simp only [go_sem, reduceIte, Nat.reduceLT, Nat.reduceEqDiff, Nat.reduceAdd]), trivial⟩, ?_⟩ (fun fr_ hlen_ hfr_ => ?_)
            · simp only [go_sem, reduceIte, Nat.reduceLT, Nat.reduceEqDiff, Nat.reduceAdd]
            refine blockK_p ?_
            refine joinK_p ?_
            replace h := bind_some1 h; obtain ⟨z_2937, h, e_z_2937⟩ := h
            obtain rfl := Option.some.inj e_z_2937
            obtain rfl := Option.some.inj hj_2914
            obtain rfl := Option.some.inj h
            refine retP_pan rfl [0] (by decide) rfl ?_
            simp only [go_sem, reduceIte, Nat.reduceLT, Nat.reduceEqDiff, Nat.reduceAdd]
          dsimp only at h
          refine run_textE hE [4] (fr' := [(4, .ref 1 0)]) (σ' := [.box [.sl false (L cU8 v_2934.2.b)] false, .box [i64 v_2934.1.Kind, i64 v_2934.1.N, .sl false (L cU8 v_2934.1.B), .sl false (L cApi_Value v_2934.1.L)] false]) ⟨_, orcs_ok2 (l := []) (m := [(35, 50, [.ref 0 0], [.box [.sl false (L cU8 d_2746.b)] false, .box [i64 0, i64 0, .sl true (L cU8 ([])), .sl true (L cApi_Value ([]))] false], .agg [i64 v_2934.1.Kind, i64 v_2934.1.N, .sl false (L cU8 v_2934.1.B), .sl false (L cApi_Value v_2934.1.L)], [.box [.sl false (L cU8 v_2934.2.b)] false, .box [i64 0, i64 0, .sl true (L cU8 ([])), .sl true (L cApi_Value ([]))] false])]) trivial ⟨(wcon_call (PCon.to (codec_decoder_text_con hy_2936) rfl) [0] (by decide) (by simp only [go_sem, reduceIte, Nat.reduceLT, Nat.reduceEqDiff, Nat.reduceAdd]) (by simp only [go_sem, reduceIte, Nat.reduceLT, Nat.reduceEqDiff, Nat.reduceAdd]) (by simp only [go_sem, reduceIte, Nat.reduceLT, Nat.reduceEqDiff, Nat.reduceAdd]) (by simp only [go_sem, reduceIte, Nat.reduceLT, Nat.reduceEqDiff, Nat.reduceAdd]) (by simp only [go_sem, reduceIte, Nat.reduceLT, Nat.reduceEqDiff, Nat.reduceAdd])), trivial⟩, ?_⟩ ?_
          · simp only [go_sem, reduceIte, Nat.reduceLT, Nat.reduceEqDiff, Nat.reduceAdd]
          refine run_ret ?_
          refine blockK_r ?_
          refine joinK_r ?_
          replace h := bind_some1 h; obtain ⟨z_2938, h, e_z_2938⟩ := h
          obtain rfl := Option.some.inj e_z_2938
          obtain rfl := Option.some.inj hj_2914
          obtain rfl := Option.some.inj h
          refine retP_fz rfl (ret_fz (.inr rfl) ?_ rfl ?_)
          · simp only [go_sem, reduceIte, Nat.reduceLT, Nat.reduceEqDiff, Nat.reduceAdd]
          · show stUp [0] _ [0] _; simp only [go_sem, reduceIte, Nat.reduceLT, Nat.reduceEqDiff, Nat.reduceAdd]
        · replace h := ite_f h hb
          refine run_textE hE [0, 4, 36] (fr' := [(0, .ref 0 0), (4, .ref 1 0), (36, .bool ((t_2747 == (64 : UInt8))))]) (σ' := [.box [.sl false (L cU8 d_2746.b)] false, .box [i64 0, i64 0, .sl true (L cU8 ([])), .sl true (L cApi_Value ([]))] false]) ⟨_, orcs_nil, ?_⟩ ?_
          · simp only [go_sem, reduceIte, Nat.reduceLT, Nat.reduceEqDiff, Nat.reduceAdd]
          refine run_condL (b := (t_2747 == (64 : UInt8))) rfl (by decide) (fun hb => ?_) (fun hb => ?_)
          · replace h := ite_t h hb
            refine run_textE hE [0, 4, 5] (fr' := [(0, .ref 0 0), (4, .ref 1 0), (5, .ref 2 0)]) (σ' := [.box [.sl false (L cU8 d_2746.b)] false, .box [i64 0, i64 0, .sl true (L cU8 ([])), .sl true (L cApi_Value ([]))] false, .box [i64 3, i64 0, .sl true (L cU8 ([])), .sl true (L cApi_Value ([]))] false]) ⟨_, orcs_nil, ?_⟩ ?_
            · simp only [go_sem, reduceIte, Nat.reduceLT, Nat.reduceEqDiff, Nat.reduceAdd, Nat.reduceGT]
            replace h := bind_some1 h; obtain ⟨j_3008, hA_3009, hj_3010⟩ := h
            refine run_join (fun (v : List UInt8 × List Api_Value) => (⟨asFr 56 [(4, .ref 1 0), (5, .ref 2 0)], [.box [.sl false (L cU8 v.1)] false, .box [i64 0, i64 0, .sl true (L cU8 ([])), .sl true (L cApi_Value ([]))] false, .box [i64 3, i64 0, .sl true (L cU8 ([])), .bs false 3 (v.2.length) 0 (v.2.length)] false, .buf 4 (L cApi_Value v.2) false]⟩ : St)) (fun v => .inl v = j_3008) ?_ ?_
            · have h := hA_3009; clear hA_3009
              replace h := bind_some1 h; obtain ⟨y_3011, hy_3014, h⟩ := h
              rcases y_3011 with v_3012 | v_3013
              rotate_left
              · dsimp only at h
                refine run_panT hE [] 1 _ (v := .iface 57 (.int .i64 v_3013.1)) (σ2 := [.box [.sl false (L cU8 v_3013.2.b)] false, .box [i64 0, i64 0, .sl true (L cU8 ([])), .sl true (L cApi_Value ([]))] false, .box [i64 3, i64 0, .sl true (L cU8 ([])), .sl true (L cApi_Value ([]))] false]) (vals := []) rfl rfl ⟨_, [(41, 43, [.ref 0 0], [.box [.sl false (L cU8 d_2746.b)] false, .box [i64 0, i64 0, .sl true (L cU8 ([])), .sl true (L cApi_Value ([]))] false, .box [i64 3, i64 0, .sl true (L cU8 ([])), .sl true (L cApi_Value ([]))] false], .val (.iface 57 (.int .i64 v_3013.1)), [.box [.sl false (L cU8 v_3013.2.b)] false, .box [i64 0, i64 0, .sl true (L cU8 ([])), .sl true (L cApi_Value ([]))] false, .box [i64 3, i64 0, .sl true (L cU8 ([])), .sl true (L cApi_Value ([]))] false])], orcs_nil, ⟨fun v hv => by cases hv; exact wpan_call (PCon.pan (codec_decoder_next_con hy_3014) rfl) [0] (by decide) (by simp only [go_sem, reduceIte, Nat.reduceLT, Nat.reduceEqDiff, Nat.reduceAdd]) (by simp only [go_sem, reduceIte, Nat.reduceLT, Nat.reduceEqDiff, Nat.reduceAdd]) (by simp only [go_sem, reduceIte, Nat.reduceLT, Nat.reduceEqDiff, Nat.reduceAdd]) (by simp only [go_sem, reduceIte, Nat.reduceLT, Nat.reduceEqDiff, Nat.reduceAdd]), trivial⟩, ?_⟩ (fun fr_ hlen_ hfr_ => ?_)
                · simp only [go_sem, reduceIte, Nat.reduceLT, Nat.reduceEqDiff, Nat.reduceAdd]
                refine joinK_p ?_
                replace h := bind_some1 h; obtain ⟨z_3016, h, e_z_3016⟩ := h
                obtain rfl := Option.some.inj e_z_3016
                obtain rfl := Option.some.inj hj_3010
                refine blockK_p ?_
                refine joinK_p ?_
                replace h := bind_some1 h; obtain ⟨z_3015, h, e_z_3015⟩ := h
                obtain rfl := Option.some.inj e_z_3015
                obtain rfl := Option.some.inj hj_2914
                obtain rfl := Option.some.inj h
                refine retP_pan rfl [0] (by decide) rfl ?_
                simp only [go_sem, reduceIte, Nat.reduceLT, Nat.reduceEqDiff, Nat.reduceAdd]
              dsimp only at h
              refine run_textE hE [0, 4, 5, 6] (fr' := [(0, .ref 0 0), (4, .ref 1 0), (5, .ref 2 0), (6, u8 v_3012.1)]) (σ' := [.box [.sl false (L cU8 v_3012.2.b)] false, .box [i64 0, i64 0, .sl true (L cU8 ([])), .sl true (L cApi_Value ([]))] false, .box [i64 3, i64 0, .sl true (L cU8 ([])), .sl true (L cApi_Value ([]))] false]) ⟨_, orcs_ok2 (l := []) (m := [(41, 43, [.ref 0 0], [.box [.sl false (L cU8 d_2746.b)] false, .box [i64 0, i64 0, .sl true (L cU8 ([])), .sl true (L cApi_Value ([]))] false, .box [i64 3, i64 0, .sl true (L cU8 ([])), .sl true (L cApi_Value ([]))] false], u8 v_3012.1, [.box [.sl false (L cU8 v_3012.2.b)] false, .box [i64 0, i64 0, .sl true (L cU8 ([])), .sl true (L cApi_Value ([]))] false, .box [i64 3, i64 0, .sl true (L cU8 ([])), .sl true (L cApi_Value ([]))] false])]) trivial ⟨(wcon_call (PCon.to (codec_decoder_next_con hy_3014) rfl) [0] (by decide) (by simp only [go_sem, reduceIte, Nat.reduceLT, Nat.reduceEqDiff, Nat.reduceAdd]) (by simp only [go_sem, reduceIte, Nat.reduceLT, Nat.reduceEqDiff, Nat.reduceAdd]) (by simp only [go_sem, reduceIte, Nat.reduceLT, Nat.reduceEqDiff, Nat.reduceAdd]) (by simp only [go_sem, reduceIte, Nat.reduceLT, Nat.reduceEqDiff, Nat.reduceAdd]) (by simp only [go_sem, reduceIte, Nat.reduceLT, Nat.reduceEqDiff, Nat.reduceAdd])), trivial⟩, ?_⟩ ?_
              · simp only [go_sem, reduceIte, Nat.reduceLT, Nat.reduceEqDiff, Nat.reduceAdd]
              refine run_block ?_
              replace h := bind_some1 h; obtain ⟨x_3056, hx_3057, hj_3058⟩ := h
              refine run_loopO hx_3057 (fun (v : UInt8 × List UInt8 × List Api_Value) => (⟨asFr 56 [(0, .ref 0 0), (4, .ref 1 0), (5, .ref 2 0), (6, u8 v.1)], [.box [.sl false (L cU8 v.2.1)] false, .box [i64 0, i64 0, .sl true (L cU8 ([])), .sl true (L cApi_Value ([]))] false, .box [i64 3, i64 0, .sl true (L cU8 ([])), .bs false 3 (v.2.2.length) 0 (v.2.2.length)] false, .buf 4 (L cApi_Value v.2.2) false]⟩ : St)) ((weak_nil_box 2 3 4 rfl rfl).trans (weak_sel [0, 1, 2, 3] (by decide) rfl (by simp only [go_sem, reduceIte, Nat.reduceLT, Nat.reduceEqDiff, Nat.reduceAdd]) (by simp only [go_sem, reduceIte, Nat.reduceLT, Nat.reduceEqDiff, Nat.reduceAdd]))) ?_
              rintro ⟨c_3034, f_3035, l_3036⟩ o_3059 h hxx_3060
              replace h : codec_decoder_value_b1 rec_ c_3034 f_3035 l_3036 = some o_3059 := h
              unfold codec_decoder_value_b1 at h
              refine run_seq ?_
              refine run_textE hE [0, 4, 5, 6, 43] (fr' := [(0, .ref 0 0), (4, .ref 1 0), (5, .ref 2 0), (6, u8 c_3034), (43, .bool ((c_3034 != (0 : UInt8))))]) (σ' := [.box [.sl false (L cU8 f_3035)] false, .box [i64 0, i64 0, .sl true (L cU8 ([])), .sl true (L cApi_Value ([]))] false, .box [i64 3, i64 0, .sl true (L cU8 ([])), .bs false 3 (l_3036.length) 0 (l_3036.length)] false, .buf 4 (L cApi_Value l_3036) false]) ⟨_, orcs_nil, ?_⟩ ?_
              · simp only [go_sem, reduceIte, Nat.reduceLT, Nat.reduceEqDiff, Nat.reduceAdd]
              refine run_condL (b := (c_3034 != (0 : UInt8))) rfl (by decide) (fun hb => ?_) (fun hb => ?_)
              · replace h := ite_t h hb
                refine run_skip ?_
                refine thenK_n ?_
                refine run_seq ?_
                refine run_block ?_
                replace h := bind_some1 h; obtain ⟨y_3061, hy_3064, h⟩ := h
                rcases y_3061 with v_3062 | v_3063
                rotate_left
                · dsimp only at h
                  refine run_panD0 hE mixed [] rfl [[], [0], [], [], [2, 3], [2, 3, 4], [0, 1, 2, 3, 4, 5], [0, 1, 2, 3, 4, 5, 6], [0, 1, 2, 3, 4, 5, 6, 7]] (by kernel_rfl) 4 (by kernel_rfl) (by kernel_rfl) _ (v := .iface 57 (.int .i64 v_3063.1)) (σ2 := [.box [.sl false (L cU8 v_3063.2.b)] false, .box [i64 0, i64 0, .sl true (L cU8 ([])), .sl true (L cApi_Value ([]))] false, .box [i64 3, i64 0, .sl true (L cU8 ([])), .bs false 3 (l_3036.length) 0 (l_3036.length)] false, .buf 4 (L cApi_Value l_3036) false]) (vals := []) rfl rfl ⟨_, [(50, 42, [.ref 0 0, u8 c_3034], [.box [.sl false (L cU8 f_3035)] false, .box [i64 0, i64 0, .sl true (L cU8 ([])), .sl true (L cApi_Value ([]))] false, .box [i64 3, i64 0, .sl true (L cU8 ([])), .bs false 3 (l_3036.length) 0 (l_3036.length)] false, .buf 4 (L cApi_Value l_3036) false], .val (.iface 57 (.int .i64 v_3063.1)), [.box [.sl false (L cU8 v_3063.2.b)] false, .box [i64 0, i64 0, .sl true (L cU8 ([])), .sl true (L cApi_Value ([]))] false, .box [i64 3, i64 0, .sl true (L cU8 ([])), .bs false 3 (l_3036.length) 0 (l_3036.length)] false, .buf 4 (L cApi_Value l_3036) false])], orcs_nil, ⟨fun v hv => by cases hv; exact wpan_call (PCon.pan (hrec hy_3064) rfl) [0] (by decide) (by simp only [go_sem, reduceIte, Nat.reduceLT, Nat.reduceEqDiff, Nat.reduceAdd]) (by simp only [go_sem, reduceIte, Nat.reduceLT, Nat.reduceEqDiff, Nat.reduceAdd]) (by simp only [go_sem, reduceIte, Nat.reduceLT, Nat.reduceEqDiff, Nat.reduceAdd]) (by simp only [go_sem, reduceIte, Nat.reduceLT, Nat.reduceEqDiff, Nat.reduceAdd]), trivial⟩, ?_⟩ (fun fr_ hlen_ hfr_ => ?_)
                  · simp only [go_sem, reduceIte, Nat.reduceLT, Nat.reduceEqDiff, Nat.reduceAdd]
                  refine blockK_p ?_
                  refine thenK_p ?_
                  refine lpK_p ?_
                  replace h := bind_some1 h; obtain ⟨z_3067, h, e_z_3067⟩ := h
                  obtain rfl := Option.some.inj e_z_3067
                  have ex_z_3067 := hxx_3060 _ rfl
                  subst ex_z_3067
                  obtain rfl := Option.some.inj hj_3058
                  refine blockK_p ?_
                  refine joinK_p ?_
                  replace h := bind_some1 h; obtain ⟨z_3066, h, e_z_3066⟩ := h
                  obtain rfl := Option.some.inj e_z_3066
                  obtain rfl := Option.some.inj hj_3010
                  refine blockK_p ?_
                  refine joinK_p ?_
                  replace h := bind_some1 h; obtain ⟨z_3065, h, e_z_3065⟩ := h
                  obtain rfl := Option.some.inj e_z_3065
                  obtain rfl := Option.some.inj hj_2914
                  obtain rfl := Option.some.inj h
                  refine retP_pan rfl [0] (by decide) rfl ?_
                  simp only [go_sem, reduceIte, Nat.reduceLT, Nat.reduceEqDiff, Nat.reduceAdd]
                dsimp only at h
                replace h := chk_some h; obtain ⟨hc_3068, h⟩ := h
                replace h := lt1_some h; obtain ⟨l_3069, hz_3070, h⟩ := h
                refine run_drawY0 hE mixed [[], [0], [], [], [2, 3], [2, 3, 4], [0, 1, 2, 3, 4, 5], [0, 1, 2, 3, 4, 5, 6], [0, 1, 2, 3, 4, 5, 6, 7]] (by kernel_rfl) 4 [0, 1] [0, 4, 5, 46] (by kernel_rfl) (wk_block wk_then) (fr' := [(0, .ref 0 0), (4, .ref 1 0), (5, .ref 2 0), (46, .ref 2 3)]) (σ' := [.box [.sl false (L cU8 v_3062.2.b)] false, .box [i64 0, i64 0, .sl true (L cU8 ([])), .sl true (L cApi_Value ([]))] false, .box [i64 3, i64 0, .sl true (L cU8 ([])), .bs false 3 (l_3069.length) 0 (l_3069.length)] false, .buf 4 (L cApi_Value l_3069) false, .buf 4 (L cApi_Value (([v_3062.1] : List Api_Value))) false]) ⟨_, _, _, _, _, _, _, rfl, ?_, orcs_ok2 (l := []) (m := [(50, 42, [.ref 0 0, u8 c_3034], [.box [.sl false (L cU8 f_3035)] false, .box [i64 0, i64 0, .sl true (L cU8 ([])), .sl true (L cApi_Value ([]))] false, .box [i64 3, i64 0, .sl true (L cU8 ([])), .bs false 3 (l_3036.length) 0 (l_3036.length)] false, .buf 4 (L cApi_Value l_3036) false], .agg [i64 v_3062.1.Kind, i64 v_3062.1.N, .sl false (L cU8 v_3062.1.B), .sl false (L cApi_Value v_3062.1.L)], [.box [.sl false (L cU8 v_3062.2.b)] false, .box [i64 0, i64 0, .sl true (L cU8 ([])), .sl true (L cApi_Value ([]))] false, .box [i64 3, i64 0, .sl true (L cU8 ([])), .bs false 3 (l_3036.length) 0 (l_3036.length)] false, .buf 4 (L cApi_Value l_3036) false])]) trivial ⟨(wcon_call (PCon.to (hrec hy_3064) rfl) [0] (by decide) (by simp only [go_sem, reduceIte, Nat.reduceLT, Nat.reduceEqDiff, Nat.reduceAdd]) (by simp only [go_sem, reduceIte, Nat.reduceLT, Nat.reduceEqDiff, Nat.reduceAdd]) (by simp only [go_sem, reduceIte, Nat.reduceLT, Nat.reduceEqDiff, Nat.reduceAdd]) (by simp only [go_sem, reduceIte, Nat.reduceLT, Nat.reduceEqDiff, Nat.reduceAdd]) (by simp only [go_sem, reduceIte, Nat.reduceLT, Nat.reduceEqDiff, Nat.reduceAdd])), trivial⟩, ?_⟩ ?_
                · subst hz_3070; simp only [go_sem, reduceIte, Nat.reduceLT, Nat.reduceEqDiff, Nat.reduceAdd, Nat.reduceBEq, Nat.reduceMul, Nat.reduceSub, Nat.reduceGT, Nat.reducePow, Nat.reduceLeDiff, Int.reduceToNat, hc_3068]
                · subst hz_3070; simp only [go_sem, reduceIte, Nat.reduceLT, Nat.reduceEqDiff, Nat.reduceAdd, Nat.reduceBEq, Nat.reduceMul, Nat.reduceSub, Nat.reduceGT, Nat.reducePow, Nat.reduceLeDiff, Int.reduceToNat, hc_3068]
                refine blockK_n ?_
                refine thenK_n ?_
                replace h := bind_some1 h; obtain ⟨y_3071, hy_3074, h⟩ := h
                rcases y_3071 with v_3072 | v_3073
                rotate_left
                · dsimp only at h
                  refine run_panT0 hE [] 1 _ (v := .iface 57 (.int .i64 v_3073.1)) (σ2 := [.box [.sl false (L cU8 v_3073.2.b)] false, .box [i64 0, i64 0, .sl true (L cU8 ([])), .sl true (L cApi_Value ([]))] false, .box [i64 3, i64 0, .sl true (L cU8 ([])), .bs false 3 (l_3069.length) 0 (l_3069.length)] false, .buf 4 (L cApi_Value l_3069) false, .buf 4 (L cApi_Value (([v_3062.1] : List Api_Value))) false]) (vals := []) rfl rfl ⟨_, [(45, 43, [.ref 0 0], [.box [.sl false (L cU8 v_3062.2.b)] false, .box [i64 0, i64 0, .sl true (L cU8 ([])), .sl true (L cApi_Value ([]))] false, .box [i64 3, i64 0, .sl true (L cU8 ([])), .bs false 3 (l_3069.length) 0 (l_3069.length)] false, .buf 4 (L cApi_Value l_3069) false, .buf 4 (L cApi_Value (([v_3062.1] : List Api_Value))) false], .val (.iface 57 (.int .i64 v_3073.1)), [.box [.sl false (L cU8 v_3073.2.b)] false, .box [i64 0, i64 0, .sl true (L cU8 ([])), .sl true (L cApi_Value ([]))] false, .box [i64 3, i64 0, .sl true (L cU8 ([])), .bs false 3 (l_3069.length) 0 (l_3069.length)] false, .buf 4 (L cApi_Value l_3069) false, .buf 4 (L cApi_Value (([v_3062.1] : List Api_Value))) false])], orcs_nil, ⟨fun v hv => by cases hv; exact wpan_call (PCon.pan (codec_decoder_next_con hy_3074) rfl) [0] (by decide) (by simp only [go_sem, reduceIte, Nat.reduceLT, Nat.reduceEqDiff, Nat.reduceAdd]) (by simp only [go_sem, reduceIte, Nat.reduceLT, Nat.reduceEqDiff, Nat.reduceAdd]) (by simp only [go_sem, reduceIte, Nat.reduceLT, Nat.reduceEqDiff, Nat.reduceAdd]) (by simp only [go_sem, reduceIte, Nat.reduceLT, Nat.reduceEqDiff, Nat.reduceAdd]), trivial⟩, ?_⟩ (fun fr_ hlen_ hfr_ => ?_)
                  · simp only [go_sem, reduceIte, Nat.reduceLT, Nat.reduceEqDiff, Nat.reduceAdd]
                  refine lpK_p ?_
                  replace h := bind_some1 h; obtain ⟨z_3077, h, e_z_3077⟩ := h
                  obtain rfl := Option.some.inj e_z_3077
                  have ex_z_3077 := hxx_3060 _ rfl
                  subst ex_z_3077
                  obtain rfl := Option.some.inj hj_3058
                  refine blockK_p ?_
                  refine joinK_p ?_
                  replace h := bind_some1 h; obtain ⟨z_3076, h, e_z_3076⟩ := h
                  obtain rfl := Option.some.inj e_z_3076
                  obtain rfl := Option.some.inj hj_3010
                  refine blockK_p ?_
                  refine joinK_p ?_
                  replace h := bind_some1 h; obtain ⟨z_3075, h, e_z_3075⟩ := h
                  obtain rfl := Option.some.inj e_z_3075
                  obtain rfl := Option.some.inj hj_2914
                  obtain rfl := Option.some.inj h
                  refine retP_pan rfl [0] (by decide) rfl ?_
                  simp only [go_sem, reduceIte, Nat.reduceLT, Nat.reduceEqDiff, Nat.reduceAdd]
                dsimp only at h
                refine run_textE0 hE wk_lp [0, 4, 5, 6] (fr' := [(0, .ref 0 0), (4, .ref 1 0), (5, .ref 2 0), (6, u8 v_3072.1)]) (σ' := [.box [.sl false (L cU8 v_3072.2.b)] false, .box [i64 0, i64 0, .sl true (L cU8 ([])), .sl true (L cApi_Value ([]))] false, .box [i64 3, i64 0, .sl true (L cU8 ([])), .bs false 3 (l_3069.length) 0 (l_3069.length)] false, .buf 4 (L cApi_Value l_3069) false, .buf 4 (L cApi_Value (([v_3062.1] : List Api_Value))) false]) ⟨_, orcs_ok2 (l := []) (m := [(45, 43, [.ref 0 0], [.box [.sl false (L cU8 v_3062.2.b)] false, .box [i64 0, i64 0, .sl true (L cU8 ([])), .sl true (L cApi_Value ([]))] false, .box [i64 3, i64 0, .sl true (L cU8 ([])), .bs false 3 (l_3069.length) 0 (l_3069.length)] false, .buf 4 (L cApi_Value l_3069) false, .buf 4 (L cApi_Value (([v_3062.1] : List Api_Value))) false], u8 v_3072.1, [.box [.sl false (L cU8 v_3072.2.b)] false, .box [i64 0, i64 0, .sl true (L cU8 ([])), .sl true (L cApi_Value ([]))] false, .box [i64 3, i64 0, .sl true (L cU8 ([])), .bs false 3 (l_3069.length) 0 (l_3069.length)] false, .buf 4 (L cApi_Value l_3069) false, .buf 4 (L cApi_Value (([v_3062.1] : List Api_Value))) false])]) trivial ⟨(wcon_call (PCon.to (codec_decoder_next_con hy_3074) rfl) [0] (by decide) (by simp only [go_sem, reduceIte, Nat.reduceLT, Nat.reduceEqDiff, Nat.reduceAdd]) (by simp only [go_sem, reduceIte, Nat.reduceLT, Nat.reduceEqDiff, Nat.reduceAdd]) (by simp only [go_sem, reduceIte, Nat.reduceLT, Nat.reduceEqDiff, Nat.reduceAdd]) (by simp only [go_sem, reduceIte, Nat.reduceLT, Nat.reduceEqDiff, Nat.reduceAdd]) (by simp only [go_sem, reduceIte, Nat.reduceLT, Nat.reduceEqDiff, Nat.reduceAdd])), trivial⟩, ?_⟩ ?_
                · simp only [go_sem, reduceIte, Nat.reduceLT, Nat.reduceEqDiff, Nat.reduceAdd]
                obtain rfl := Option.some.inj h
                exact lpK_n ((v_3072.1, v_3072.2.b, l_3069)) rfl (weak_sel [0, 1, 2, 3] (by decide) rfl (by simp only [go_sem, reduceIte, Nat.reduceLT, Nat.reduceEqDiff, Nat.reduceAdd]) (by simp only [go_sem, reduceIte, Nat.reduceLT, Nat.reduceEqDiff, Nat.reduceAdd]))
              · replace h := ite_f h hb
                refine run_exit ?_
                refine thenK_x ?_
                obtain rfl := Option.some.inj h
                have ex_x_3056 := hxx_3060 _ rfl
                subst ex_x_3056
                have h := hj_3058; clear hj_3058
                refine lpK_x ?_
                refine blockK_x ?_
                obtain rfl := Option.some.inj h
                exact joinK_n ((f_3035, l_3036)) rfl ((weak_sel (l' := [(4, .ref 1 0), (5, .ref 2 0)]) (σ' := [.box [.sl false (L cU8 f_3035)] false, .box [i64 0, i64 0, .sl true (L cU8 ([])), .sl true (L cApi_Value ([]))] false, .box [i64 3, i64 0, .sl true (L cU8 ([])), .bs false 3 (l_3036.length) 0 (l_3036.length)] false, .buf 4 (L cApi_Value l_3036) false]) [0, 1, 2, 3] (by decide) rfl (by simp only [go_sem, reduceIte, Nat.reduceLT, Nat.reduceEqDiff, Nat.reduceAdd]) (by simp only [go_sem, reduceIte, Nat.reduceLT, Nat.reduceEqDiff, Nat.reduceAdd])).trans (weak_sel [0, 1, 2, 3] (by decide) rfl (by simp only [go_sem, reduceIte, Nat.reduceLT, Nat.reduceEqDiff, Nat.reduceAdd]) (by simp only [go_sem, reduceIte, Nat.reduceLT, Nat.reduceEqDiff, Nat.reduceAdd])))
            rintro ⟨f_3006, l_3007⟩ rfl
            have h := hj_3010; clear hj_3010
            refine run_textE hE [4] (fr' := [(4, .ref 1 0)]) (σ' := [.box [.sl false (L cU8 f_3006)] false, .box [i64 3, i64 0, .sl true (L cU8 ([])), .bs false 3 (l_3007.length) 0 (l_3007.length)] false, .box [i64 3, i64 0, .sl true (L cU8 ([])), .bs false 3 (l_3007.length) 0 (l_3007.length)] false, .buf 4 (L cApi_Value l_3007) false]) ⟨_, orcs_nil, ?_⟩ ?_
            · simp only [go_sem, reduceIte, Nat.reduceLT, Nat.reduceEqDiff, Nat.reduceAdd]
            refine run_ret ?_
            refine blockK_r ?_
            refine joinK_r ?_
            replace h := bind_some1 h; obtain ⟨z_3078, h, e_z_3078⟩ := h
            obtain rfl := Option.some.inj e_z_3078
            obtain rfl := Option.some.inj hj_2914
            obtain rfl := Option.some.inj h
            refine retP_fz rfl (ret_fz (.inr rfl) ?_ rfl ?_)
            · simp only [go_sem, reduceIte, Nat.reduceLT, Nat.reduceEqDiff, Nat.reduceAdd]
            · show stUp [0] _ [0] _; simp only [go_sem, reduceIte, Nat.reduceLT, Nat.reduceEqDiff, Nat.reduceAdd]
          · replace h := ite_f h hb
            refine run_skip ?_
            refine blockK_n ?_
            obtain rfl := Option.some.inj h
            exact joinK_n (()) rfl (weak_sel [0, 1] (by decide) rfl (by simp only [go_sem, reduceIte, Nat.reduceLT, Nat.reduceEqDiff, Nat.reduceAdd]) (by simp only [go_sem, reduceIte, Nat.reduceLT, Nat.reduceEqDiff, Nat.reduceAdd]))
  rintro ⟨⟩ rfl
  have h := hj_2914; clear hj_2914
  refine run_panT0 hE [] 1 _ (v := .iface 57 (.int .i64 4)) (σ2 := [.box [.sl false (L cU8 d_2746.b)] false, .box [i64 0, i64 0, .sl true (L cU8 ([])), .sl true (L cApi_Value ([]))] false]) (vals := []) rfl rfl ⟨_, [], orcs_nil, trivial, ?_⟩ (fun fr_ hlen_ hfr_ => ?_)
  · simp only [go_sem, reduceIte, Nat.reduceLT, Nat.reduceEqDiff, Nat.reduceAdd]
  obtain rfl := Option.some.inj h
  refine retP_pan rfl [0] (by decide) rfl ?_
  simp only [go_sem, reduceIte, Nat.reduceLT, Nat.reduceEqDiff, Nat.reduceAdd]
theorem codec_decoder_value_n_con (n : Nat) : ∀ {d_2746 : Codec_decoder} {t_2747 : UInt8} {r : (Api_Value × Codec_decoder) ⊕ (Int × Codec_decoder)}, codec_decoder_value_n n d_2746 t_2747 = some r → PCon B 42 [.ref 0 0, u8 t_2747] [.box [.sl false (L cU8 d_2746.b)] false] (codec_decoder_value_out r) := by
  induction n with
  | zero => intro d_2746 t_2747 r h; cases h
  | succ n ih => intro d_2746 t_2747 r h; exact codec_decoder_value_F_con ih h
theorem codec_decoder_value_con {d_2746 : Codec_decoder} {t_2747 : UInt8} {r : (Api_Value × Codec_decoder) ⊕ (Int × Codec_decoder)} (h : codec_decoder_value d_2746 t_2747 = some r) : PCon B 42 [.ref 0 0, u8 t_2747] [.box [.sl false (L cU8 d_2746.b)] false] (codec_decoder_value_out r) := codec_decoder_value_n_con _ h

end Go.Proofs.Ytihncddenjbecaa
/-
  The functions compute just that.
-/
namespace Go.Proofs.Ytihncddenjbecaa
open Go.Rv
set_option linter.unusedVariables false
set_option linter.unusedSimpArgs false
set_option maxRecDepth 20000

theorem codec_Decode_1_pan {a0 : AV} {a1 : AV} {a2 : AV} {a3 : AV} {b0 : AV} {x_ : Int} : DCon B 41 (refsTo 2) [.box [a0, a1, a2, a3] false, .box [b0] false] (.panicking (one1 (.iface 57 (.int .i64 x_)))) (.panicking [{ v := (.iface 57 (.int .i64 x_)), recovered := true }]) [.box [i64 0, i64 0, .sl true (L cU8 ([])), .sl true (L cApi_Value ([]))] false, .box [i64 x_] false] := by
  intro F w g vs hm ha
  have hE := ok.env F
  obtain ⟨vs⟩ := vs
  match vs, ha with
  | [p_, q_], ⟨hp, hq, _⟩ =>
    refine callsD_of_wpS Try.func41 rfl fun c₀ cs hu => ?_
    refine wpS_seq (wpS_region ?_)
    show wpOpsS B.P _ _ [0, 1, 2, 3, 4, 5, 6] _ _ _
    refine opsS_caught _ (.iface 57 (.int .i64 x_)) [] ⟨#[p_, q_, undef, undef, undef, (.iface 57 (.int .i64 x_)), undef, undef, undef, undef, undef, undef], []⟩ rfl rfl rfl hu rfl ?_
    refine opsS_val (w' := w) _ (.tuple #[.int .i64 x_, .bool true]) ⟨#[p_, q_, undef, undef, undef, (.iface 57 (.int .i64 x_)), (.tuple #[.int .i64 x_, .bool true]), undef, undef, undef, undef, undef], []⟩ rfl rfl ?_ rfl ?_
    · show ((Instr.typeAssert (.iface 57 (.int .i64 x_)) 20 57 true).run B.P w).andThen (fun v w => Result.ok (Next.value v) w) = _
      have h2 : (Instr.typeAssert (.iface 57 (.int .i64 x_)) 20 57 true).run B.P w = _ := run_assert_hit hE (tb57 F) (.int .i64 x_) 20 w
      rw [h2]; rfl
    refine opsS_val (w' := w) _ (.tuple #[.int .i64 x_, .bool true]) ⟨#[p_, q_, undef, undef, (.tuple #[.int .i64 x_, .bool true]), (.iface 57 (.int .i64 x_)), (.tuple #[.int .i64 x_, .bool true]), undef, undef, undef, undef, undef], []⟩ rfl rfl rfl rfl ?_
    refine opsS_val (w' := w) _ (.int .i64 x_) ⟨#[p_, q_, undef, undef, (.tuple #[.int .i64 x_, .bool true]), (.iface 57 (.int .i64 x_)), (.tuple #[.int .i64 x_, .bool true]), (.int .i64 x_), undef, undef, undef, undef], []⟩ rfl rfl rfl rfl ?_
    refine opsS_val (w' := w) _ (.bool true) ⟨#[p_, q_, undef, undef, (.tuple #[.int .i64 x_, .bool true]), (.iface 57 (.int .i64 x_)), (.tuple #[.int .i64 x_, .bool true]), (.int .i64 x_), (.bool true), undef, undef, undef], []⟩ rfl rfl rfl rfl ?_
    refine opsS_val (w' := w) _ (.int .i64 x_) ⟨#[p_, q_, (.int .i64 x_), undef, (.tuple #[.int .i64 x_, .bool true]), (.iface 57 (.int .i64 x_)), (.tuple #[.int .i64 x_, .bool true]), (.int .i64 x_), (.bool true), undef, undef, undef], []⟩ rfl rfl rfl rfl ?_
    refine opsS_val (w' := w) _ (.bool true) ⟨#[p_, q_, (.int .i64 x_), (.bool true), (.tuple #[.int .i64 x_, .bool true]), (.iface 57 (.int .i64 x_)), (.tuple #[.int .i64 x_, .bool true]), (.int .i64 x_), (.bool true), undef, undef, undef], []⟩ rfl rfl rfl rfl ?_
    refine opsS_nil ?_
    refine dcon_rest (B := B) (F := F) (g := g) (w := w) (fn := Try.f41) (c₀ := c₀) (a := ⟨#[p_, q_, (.int .i64 x_), (.bool true), (.tuple #[.int .i64 x_, .bool true]), (.iface 57 (.int .i64 x_)), (.tuple #[.int .i64 x_, .bool true]), (.int .i64 x_), (.bool true), undef, undef, undef], []⟩) (n := 2) (N := 12) (l := [(0, .ref 0 0), (1, .ref 1 0), (2, i64 x_), (3, .bool true)]) rfl rfl rfl rfl hm ?_ ?_
    · intro p h
      simp only [List.mem_cons, List.not_mem_nil, or_false] at h
      rcases h with rfl | rfl | rfl | rfl
      · exact hp
      · exact hq
      · exact .int _ _ _
      · exact .bool _ _
    · refine run_textE hE [0, 1, 2, 3, 9] (fr' := [(0, .ref 0 0), (1, .ref 1 0), (2, i64 x_), (3, .bool true), (9, .bool true)]) (σ' := [.box [a0, a1, a2, a3] false, .box [b0] false]) ⟨_, orcs_nil, by simp only [go_sem, reduceIte, Nat.reduceLT, Nat.reduceEqDiff, Nat.reduceAdd]⟩ ?_
      refine run_condL (b := true) rfl (by decide) (fun hb => ?_) (fun hb => ?_)
      · refine run_textK hE [] (fr' := []) (σ' := [.box [i64 0, i64 0, .sl true (L cU8 ([])), .sl true (L cApi_Value ([]))] false, .box [i64 x_] false]) ⟨_, orcs_nil, by simp only [go_sem, reduceIte, Nat.reduceLT, Nat.reduceEqDiff, Nat.reduceAdd]⟩ (fun _ => ⟨rfl, rfl⟩)
      · cases hb
theorem codec_Decode_1_idle {a0 : AV} {a1 : AV} {a2 : AV} {a3 : AV} {b0 : AV} : DCon B 41 (refsTo 2) [.box [a0, a1, a2, a3] false, .box [b0] false] .returning .returning [.box [a0, a1, a2, a3] false, .box [b0] false] := by
  intro F w g vs hm ha
  have hE := ok.env F
  obtain ⟨vs⟩ := vs
  match vs, ha with
  | [p_, q_], ⟨hp, hq, _⟩ =>
    refine callsD_of_wpS Try.func41 rfl fun c₀ cs hu => ?_
    refine wpS_seq (wpS_region ?_)
    show wpOpsS B.P _ _ [0, 1, 2, 3, 4, 5, 6] _ _ _
    obtain ⟨u_, hu_⟩ := run_assert_nil hE (tb57 F) 20 w
    refine opsS_idle _ ⟨#[p_, q_, undef, undef, undef, .nilIface, undef, undef, undef, undef, undef, undef], []⟩ rfl rfl rfl hu rfl ?_
    refine opsS_val (w' := w) _ (.tuple #[u_, .bool false]) ⟨#[p_, q_, undef, undef, undef, .nilIface, (.tuple #[u_, .bool false]), undef, undef, undef, undef, undef], []⟩ rfl rfl ?_ rfl ?_
    · show ((Instr.typeAssert .nilIface 20 57 true).run B.P w).andThen (fun v w => Result.ok (Next.value v) w) = _
      have h2 : (Instr.typeAssert .nilIface 20 57 true).run B.P w = _ := hu_
      rw [h2]; rfl
    refine opsS_val (w' := w) _ (.tuple #[u_, .bool false]) ⟨#[p_, q_, undef, undef, (.tuple #[u_, .bool false]), .nilIface, (.tuple #[u_, .bool false]), undef, undef, undef, undef, undef], []⟩ rfl rfl rfl rfl ?_
    refine opsS_val (w' := w) _ u_ ⟨#[p_, q_, undef, undef, (.tuple #[u_, .bool false]), .nilIface, (.tuple #[u_, .bool false]), u_, undef, undef, undef, undef], []⟩ rfl rfl rfl rfl ?_
    refine opsS_val (w' := w) _ (.bool false) ⟨#[p_, q_, undef, undef, (.tuple #[u_, .bool false]), .nilIface, (.tuple #[u_, .bool false]), u_, (.bool false), undef, undef, undef], []⟩ rfl rfl rfl rfl ?_
    refine opsS_val (w' := w) _ u_ ⟨#[p_, q_, u_, undef, (.tuple #[u_, .bool false]), .nilIface, (.tuple #[u_, .bool false]), u_, (.bool false), undef, undef, undef], []⟩ rfl rfl rfl rfl ?_
    refine opsS_val (w' := w) _ (.bool false) ⟨#[p_, q_, u_, (.bool false), (.tuple #[u_, .bool false]), .nilIface, (.tuple #[u_, .bool false]), u_, (.bool false), undef, undef, undef], []⟩ rfl rfl rfl rfl ?_
    refine opsS_nil ?_
    refine dcon_rest (B := B) (F := F) (g := g) (w := w) (fn := Try.f41) (c₀ := c₀) (a := ⟨#[p_, q_, u_, (.bool false), (.tuple #[u_, .bool false]), .nilIface, (.tuple #[u_, .bool false]), u_, (.bool false), undef, undef, undef], []⟩) (n := 2) (N := 12) (l := [(0, .ref 0 0), (1, .ref 1 0), (3, .bool false)]) rfl rfl rfl rfl hm ?_ ?_
    · intro p h
      simp only [List.mem_cons, List.not_mem_nil, or_false] at h
      rcases h with rfl | rfl | rfl
      · exact hp
      · exact hq
      · exact .bool _ _
    · refine run_textE hE [0, 1, 3, 9] (fr' := [(0, .ref 0 0), (1, .ref 1 0), (3, .bool false), (9, .bool false)]) (σ' := [.box [a0, a1, a2, a3] false, .box [b0] false]) ⟨_, orcs_nil, by simp only [go_sem, reduceIte, Nat.reduceLT, Nat.reduceEqDiff, Nat.reduceAdd]⟩ ?_
      refine run_condL (b := false) rfl (by decide) (fun hb => ?_) (fun hb => ?_)
      · cases hb
      · exact run_skip ⟨rfl, rfl⟩
theorem codec_Decode_con {b_3079 : List UInt8} {r : Api_Value × Int} (h : codec_Decode b_3079 = some r) : Con B 21 [.sl false (L cU8 b_3079)] [] (fun r' σ' => r' = .tup [.agg [i64 r.1.Kind, i64 r.1.N, .sl false (L cU8 r.1.B), .sl false (L cApi_Value r.1.L)], i64 r.2] ∧ σ' = []) := by
  refine con_defer (cf := 41) (rs := [.cell 2 25, .cell 3 27]) (N := 35) (t7 := 7) (m := 2) (rfr := [(2, .ref 0 0), (3, .ref 1 0)]) (fr1 := [(3, .ref 1 0), (2, .ref 0 0), (0, .sl false (L cU8 b_3079))]) (σ1 := [.box [i64 0, i64 0, .sl true (L cU8 ([])), .sl true (L cApi_Value ([]))] false, .box [i64 0] false]) ok Try.func21 rfl (by decide +kernel) rfl rfl (Nat.le_of_ble_eq_true rfl) rfl rfl rfl rfl rfl rfl (by decide) (fun F => ?_) rfl ?_ rfl Try.func41 rfl (by decide +kernel) (fun F D => ?_)
  · have hE := ok.env F; refine (stepsO_eq _ _).symm.trans ?_; simp only [go_sem, reduceIte, Nat.reduceLT, Nat.reduceEqDiff, Nat.reduceAdd]; rfl
  · simp only [go_sem, reduceIte, Nat.reduceLT, Nat.reduceEqDiff, Nat.reduceAdd]; rfl
  have hE : ({ B.env F with D := D } : Env).Ok := ⟨(ok.env F).desc, (ok.env F).info⟩
  unfold codec_Decode at h
  refine run_weak (weak_keep _ _ [0, 2, 3] _ _) ?_
  show Run _ 2 _ ⟨asFr 35 [(0, .sl false (L cU8 b_3079)), (2, .ref 0 0), (3, .ref 1 0)], [.box [i64 0, i64 0, .sl true (L cU8 ([])), .sl true (L cApi_Value ([]))] false, .box [i64 0] false]⟩ _
  refine run_seq ?_
  refine run_textE hE [0, 2, 3, 10] (fr' := [(0, .sl false (L cU8 b_3079)), (2, .ref 0 0), (3, .ref 1 0), (10, .bool ((decide ((b_3079.length : Int) > 65536))))]) (σ' := [.box [i64 0, i64 0, .sl true (L cU8 ([])), .sl true (L cApi_Value ([]))] false, .box [i64 0] false]) ⟨_, orcs_nil, ?_⟩ ?_
  · simp only [go_sem, reduceIte, Nat.reduceLT, Nat.reduceEqDiff, Nat.reduceAdd]
  refine run_condL (b := (decide ((b_3079.length : Int) > 65536))) rfl (by decide) (fun hb => ?_) (fun hb => ?_)
  · replace h := ite_t h hb
    refine run_textE hE [2, 3] (fr' := [(2, .ref 0 0), (3, .ref 1 0)]) (σ' := [.box [i64 0, i64 0, .sl true (L cU8 ([])), .sl true (L cApi_Value ([]))] false, .box [i64 2] false]) ⟨_, orcs_nil, ?_⟩ ?_
    · simp only [go_sem, reduceIte, Nat.reduceLT, Nat.reduceEqDiff, Nat.reduceAdd, Nat.reduceGT]
    refine run_ret ?_
    refine thenK_r ?_
    obtain rfl := Option.some.inj h
    refine ⟨_, [.box [i64 0, i64 0, .sl false (L cU8 ([])), .sl false (L cApi_Value ([]))] false, .box [i64 2] false], _, [.box [i64 0, i64 0, .sl false (L cU8 ([])), .sl false (L cApi_Value ([]))] false, .box [i64 2] false], [.agg [i64 0, i64 0, .sl false (L cU8 ([])), .sl false (L cApi_Value ([]))], i64 2], asFr_len _ _, .inl ⟨.inr rfl, rfl⟩, ?_, codec_Decode_1_idle, rfl, ?_, resD ?_, ?_⟩
    · show stUp [0, 1] _ [0, 1] _; simp only [go_sem, reduceIte, Nat.reduceLT, Nat.reduceEqDiff, Nat.reduceAdd]
    · simp only [go_sem, reduceIte, Nat.reduceLT, Nat.reduceEqDiff, Nat.reduceAdd]
    · simp only [go_sem, reduceIte, Nat.reduceLT, Nat.reduceEqDiff, Nat.reduceAdd]
    · simp only [go_sem, reduceIte, Nat.reduceLT, Nat.reduceEqDiff, Nat.reduceAdd]
  · replace h := ite_f h hb
    refine run_skip ?_
    refine thenK_n ?_
    refine run_textE hE [2, 3, 4] (fr' := [(2, .ref 0 0), (3, .ref 1 0), (4, .ref 2 0)]) (σ' := [.box [i64 0, i64 0, .sl true (L cU8 ([])), .sl true (L cApi_Value ([]))] false, .box [i64 0] false, .box [.sl false (L cU8 b_3079)] false]) ⟨_, orcs_nil, ?_⟩ ?_
    · simp only [go_sem, reduceIte, Nat.reduceLT, Nat.reduceEqDiff, Nat.reduceAdd, Nat.reduceGT]
    replace h := bind_some1 h; obtain ⟨y_3080, hy_3086, h⟩ := h
    rcases y_3080 with v_3081 | v_3085
    rotate_left
    · dsimp only at h
      refine run_panT hE [2, 3] 2 _ (v := .iface 57 (.int .i64 v_3085.1)) (σ2 := [.box [i64 0, i64 0, .sl true (L cU8 ([])), .sl true (L cApi_Value ([]))] false, .box [i64 0] false, .box [.sl false (L cU8 v_3085.2.b)] false]) (vals := [.ref 0 0, .ref 1 0]) rfl rfl ⟨_, [(17, 43, [.ref 2 0], [.box [i64 0, i64 0, .sl true (L cU8 ([])), .sl true (L cApi_Value ([]))] false, .box [i64 0] false, .box [.sl false (L cU8 b_3079)] false], .val (.iface 57 (.int .i64 v_3085.1)), [.box [i64 0, i64 0, .sl true (L cU8 ([])), .sl true (L cApi_Value ([]))] false, .box [i64 0] false, .box [.sl false (L cU8 v_3085.2.b)] false])], orcs_nil, ⟨fun v hv => by cases hv; exact wpan_call (PCon.pan (codec_decoder_next_con hy_3086) rfl) [2] (by decide) (by simp only [go_sem, reduceIte, Nat.reduceLT, Nat.reduceEqDiff, Nat.reduceAdd]) (by simp only [go_sem, reduceIte, Nat.reduceLT, Nat.reduceEqDiff, Nat.reduceAdd]) (by simp only [go_sem, reduceIte, Nat.reduceLT, Nat.reduceEqDiff, Nat.reduceAdd]) (by simp only [go_sem, reduceIte, Nat.reduceLT, Nat.reduceEqDiff, Nat.reduceAdd]), trivial⟩, ?_⟩ (fun fr_ hlen_ hfr_ => ?_)
      · simp only [go_sem, reduceIte, Nat.reduceLT, Nat.reduceEqDiff, Nat.reduceAdd]
      obtain rfl := Option.some.inj h
      refine ⟨_, [.box [i64 0, i64 0, .sl false (L cU8 ([])), .sl false (L cApi_Value ([]))] false, .box [i64 0] false], _, [.box [i64 0, i64 0, .sl true (L cU8 ([])), .sl true (L cApi_Value ([]))] false, .box [i64 v_3085.1] false], [.agg [i64 0, i64 0, .sl true (L cU8 ([])), .sl true (L cApi_Value ([]))], i64 v_3085.1], hlen_, .inr ⟨_, rfl, rfl⟩, ?_, codec_Decode_1_pan, rfl, ?_, resD ?_, ?_⟩
      · show stUp [0, 1] _ [0, 1] _; simp only [go_sem, reduceIte, Nat.reduceLT, Nat.reduceEqDiff, Nat.reduceAdd]
      · simp only [List.map_cons, List.map_nil, List.cons.injEq] at hfr_; exact ⟨hfr_.1, hfr_.2.1, trivial⟩
      · simp only [go_sem, reduceIte, Nat.reduceLT, Nat.reduceEqDiff, Nat.reduceAdd]
      · simp only [go_sem, reduceIte, Nat.reduceLT, Nat.reduceEqDiff, Nat.reduceAdd]
    dsimp only at h
    replace h := bind_some1 h; obtain ⟨y_3082, hy_3087, h⟩ := h
    rcases y_3082 with v_3083 | v_3084
    rotate_left
    · dsimp only at h
      refine run_panT hE [2, 3] 3 _ (v := .iface 57 (.int .i64 v_3084.1)) (σ2 := [.box [i64 0, i64 0, .sl true (L cU8 ([])), .sl true (L cApi_Value ([]))] false, .box [i64 0] false, .box [.sl false (L cU8 v_3084.2.b)] false]) (vals := [.ref 0 0, .ref 1 0]) rfl rfl ⟨_, [(18, 42, [.ref 2 0, u8 v_3081.1], [.box [i64 0, i64 0, .sl true (L cU8 ([])), .sl true (L cApi_Value ([]))] false, .box [i64 0] false, .box [.sl false (L cU8 v_3081.2.b)] false], .val (.iface 57 (.int .i64 v_3084.1)), [.box [i64 0, i64 0, .sl true (L cU8 ([])), .sl true (L cApi_Value ([]))] false, .box [i64 0] false, .box [.sl false (L cU8 v_3084.2.b)] false])], orcs_ok2 (l := []) (m := [(17, 43, [.ref 2 0], [.box [i64 0, i64 0, .sl true (L cU8 ([])), .sl true (L cApi_Value ([]))] false, .box [i64 0] false, .box [.sl false (L cU8 b_3079)] false], u8 v_3081.1, [.box [i64 0, i64 0, .sl true (L cU8 ([])), .sl true (L cApi_Value ([]))] false, .box [i64 0] false, .box [.sl false (L cU8 v_3081.2.b)] false])]) trivial ⟨(wcon_call (PCon.to (codec_decoder_next_con hy_3086) rfl) [2] (by decide) (by simp only [go_sem, reduceIte, Nat.reduceLT, Nat.reduceEqDiff, Nat.reduceAdd]) (by simp only [go_sem, reduceIte, Nat.reduceLT, Nat.reduceEqDiff, Nat.reduceAdd]) (by simp only [go_sem, reduceIte, Nat.reduceLT, Nat.reduceEqDiff, Nat.reduceAdd]) (by simp only [go_sem, reduceIte, Nat.reduceLT, Nat.reduceEqDiff, Nat.reduceAdd]) (by simp only [go_sem, reduceIte, Nat.reduceLT, Nat.reduceEqDiff, Nat.reduceAdd])), trivial⟩, ⟨fun v hv => by cases hv; exact wpan_call (PCon.pan (codec_decoder_value_con hy_3087) rfl) [2] (by decide) (by simp only [go_sem, reduceIte, Nat.reduceLT, Nat.reduceEqDiff, Nat.reduceAdd]) (by simp only [go_sem, reduceIte, Nat.reduceLT, Nat.reduceEqDiff, Nat.reduceAdd]) (by simp only [go_sem, reduceIte, Nat.reduceLT, Nat.reduceEqDiff, Nat.reduceAdd]) (by simp only [go_sem, reduceIte, Nat.reduceLT, Nat.reduceEqDiff, Nat.reduceAdd]), trivial⟩, ?_⟩ (fun fr_ hlen_ hfr_ => ?_)
      · simp only [go_sem, reduceIte, Nat.reduceLT, Nat.reduceEqDiff, Nat.reduceAdd]
      obtain rfl := Option.some.inj h
      refine ⟨_, [.box [i64 0, i64 0, .sl false (L cU8 ([])), .sl false (L cApi_Value ([]))] false, .box [i64 0] false], _, [.box [i64 0, i64 0, .sl true (L cU8 ([])), .sl true (L cApi_Value ([]))] false, .box [i64 v_3084.1] false], [.agg [i64 0, i64 0, .sl true (L cU8 ([])), .sl true (L cApi_Value ([]))], i64 v_3084.1], hlen_, .inr ⟨_, rfl, rfl⟩, ?_, codec_Decode_1_pan, rfl, ?_, resD ?_, ?_⟩
      · show stUp [0, 1] _ [0, 1] _; simp only [go_sem, reduceIte, Nat.reduceLT, Nat.reduceEqDiff, Nat.reduceAdd]
      · simp only [List.map_cons, List.map_nil, List.cons.injEq] at hfr_; exact ⟨hfr_.1, hfr_.2.1, trivial⟩
      · simp only [go_sem, reduceIte, Nat.reduceLT, Nat.reduceEqDiff, Nat.reduceAdd]
      · simp only [go_sem, reduceIte, Nat.reduceLT, Nat.reduceEqDiff, Nat.reduceAdd]
    dsimp only at h
    refine run_textE hE [2, 3, 4] (fr' := [(2, .ref 0 0), (3, .ref 1 0), (4, .ref 2 0)]) (σ' := [.box [i64 v_3083.1.Kind, i64 v_3083.1.N, .sl false (L cU8 v_3083.1.B), .sl false (L cApi_Value v_3083.1.L)] false, .box [i64 0] false, .box [.sl false (L cU8 v_3083.2.b)] false]) ⟨_, orcs_ok2 (l := []) (m := [(17, 43, [.ref 2 0], [.box [i64 0, i64 0, .sl true (L cU8 ([])), .sl true (L cApi_Value ([]))] false, .box [i64 0] false, .box [.sl false (L cU8 b_3079)] false], u8 v_3081.1, [.box [i64 0, i64 0, .sl true (L cU8 ([])), .sl true (L cApi_Value ([]))] false, .box [i64 0] false, .box [.sl false (L cU8 v_3081.2.b)] false]), (18, 42, [.ref 2 0, u8 v_3081.1], [.box [i64 0, i64 0, .sl true (L cU8 ([])), .sl true (L cApi_Value ([]))] false, .box [i64 0] false, .box [.sl false (L cU8 v_3081.2.b)] false], .agg [i64 v_3083.1.Kind, i64 v_3083.1.N, .sl false (L cU8 v_3083.1.B), .sl false (L cApi_Value v_3083.1.L)], [.box [i64 0, i64 0, .sl true (L cU8 ([])), .sl true (L cApi_Value ([]))] false, .box [i64 0] false, .box [.sl false (L cU8 v_3083.2.b)] false])]) trivial ⟨(wcon_call (PCon.to (codec_decoder_next_con hy_3086) rfl) [2] (by decide) (by simp only [go_sem, reduceIte, Nat.reduceLT, Nat.reduceEqDiff, Nat.reduceAdd]) (by simp only [go_sem, reduceIte, Nat.reduceLT, Nat.reduceEqDiff, Nat.reduceAdd]) (by simp only [go_sem, reduceIte, Nat.reduceLT, Nat.reduceEqDiff, Nat.reduceAdd]) (by simp only [go_sem, reduceIte, Nat.reduceLT, Nat.reduceEqDiff, Nat.reduceAdd]) (by simp only [go_sem, reduceIte, Nat.reduceLT, Nat.reduceEqDiff, Nat.reduceAdd])), (wcon_call (PCon.to (codec_decoder_value_con hy_3087) rfl) [2] (by decide) (by simp only [go_sem, reduceIte, Nat.reduceLT, Nat.reduceEqDiff, Nat.reduceAdd]) (by simp only [go_sem, reduceIte, Nat.reduceLT, Nat.reduceEqDiff, Nat.reduceAdd]) (by simp only [go_sem, reduceIte, Nat.reduceLT, Nat.reduceEqDiff, Nat.reduceAdd]) (by simp only [go_sem, reduceIte, Nat.reduceLT, Nat.reduceEqDiff, Nat.reduceAdd]) (by simp only [go_sem, reduceIte, Nat.reduceLT, Nat.reduceEqDiff, Nat.reduceAdd])), trivial⟩, ?_⟩ ?_
    · simp only [go_sem, reduceIte, Nat.reduceLT, Nat.reduceEqDiff, Nat.reduceAdd]
    refine run_seq ?_
    refine run_textE hE [2, 3, 24] (fr' := [(2, .ref 0 0), (3, .ref 1 0), (24, .bool ((decide ((v_3083.2.b.length : Int) > 0))))]) (σ' := [.box [i64 v_3083.1.Kind, i64 v_3083.1.N, .sl false (L cU8 v_3083.1.B), .sl false (L cApi_Value v_3083.1.L)] false, .box [i64 0] false, .box [.sl false (L cU8 v_3083.2.b)] false]) ⟨_, orcs_nil, ?_⟩ ?_
    · simp only [go_sem, reduceIte, Nat.reduceLT, Nat.reduceEqDiff, Nat.reduceAdd]
    refine run_condL (b := (decide ((v_3083.2.b.length : Int) > 0))) rfl (by decide) (fun hb => ?_) (fun hb => ?_)
    · replace h := ite_t h hb
      refine run_textE hE [2, 3] (fr' := [(2, .ref 0 0), (3, .ref 1 0)]) (σ' := [.box [i64 0, i64 0, .sl true (L cU8 ([])), .sl true (L cApi_Value ([]))] false, .box [i64 4] false, .box [.sl false (L cU8 v_3083.2.b)] false]) ⟨_, orcs_nil, ?_⟩ ?_
      · simp only [go_sem, reduceIte, Nat.reduceLT, Nat.reduceEqDiff, Nat.reduceAdd, Nat.reduceGT]
      refine run_ret ?_
      refine thenK_r ?_
      obtain rfl := Option.some.inj h
      refine ⟨_, [.box [i64 0, i64 0, .sl false (L cU8 ([])), .sl false (L cApi_Value ([]))] false, .box [i64 4] false], _, [.box [i64 0, i64 0, .sl false (L cU8 ([])), .sl false (L cApi_Value ([]))] false, .box [i64 4] false], [.agg [i64 0, i64 0, .sl false (L cU8 ([])), .sl false (L cApi_Value ([]))], i64 4], asFr_len _ _, .inl ⟨.inr rfl, rfl⟩, ?_, codec_Decode_1_idle, rfl, ?_, resD ?_, ?_⟩
      · show stUp [0, 1] _ [0, 1] _; simp only [go_sem, reduceIte, Nat.reduceLT, Nat.reduceEqDiff, Nat.reduceAdd]
      · simp only [go_sem, reduceIte, Nat.reduceLT, Nat.reduceEqDiff, Nat.reduceAdd]
      · simp only [go_sem, reduceIte, Nat.reduceLT, Nat.reduceEqDiff, Nat.reduceAdd]
      · simp only [go_sem, reduceIte, Nat.reduceLT, Nat.reduceEqDiff, Nat.reduceAdd]
    · replace h := ite_f h hb
      refine run_skip ?_
      refine thenK_n ?_
      refine run_seq ?_
      replace h := bind_some1 h; obtain ⟨y_3088, hy_3089, h⟩ := h
      refine run_textE hE [2, 3, 5] (fr' := [(2, .ref 0 0), (3, .ref 1 0), (5, i64 y_3088.1)]) (σ' := [.box [i64 v_3083.1.Kind, i64 v_3083.1.N, .sl false (L cU8 v_3083.1.B), .sl false (L cApi_Value v_3083.1.L)] false, .box [i64 0] false, .box [.sl false (L cU8 v_3083.2.b)] false]) ⟨_, orcs_ok (l := [(28, 34, [.agg [i64 v_3083.1.Kind, i64 v_3083.1.N, .sl false (L cU8 v_3083.1.B), .sl false (L cApi_Value v_3083.1.L)]], .tup [i64 y_3088.1, .bool y_3088.2])]) ⟨codec_shape_con  hy_3089, trivial⟩, ?_⟩ ?_
      · simp only [go_sem, reduceIte, Nat.reduceLT, Nat.reduceEqDiff, Nat.reduceAdd]
      refine run_textE hE [2, 3, 32] (fr' := [(2, .ref 0 0), (3, .ref 1 0), (32, .bool ((decide (y_3088.1 > 16))))]) (σ' := [.box [i64 v_3083.1.Kind, i64 v_3083.1.N, .sl false (L cU8 v_3083.1.B), .sl false (L cApi_Value v_3083.1.L)] false, .box [i64 0] false, .box [.sl false (L cU8 v_3083.2.b)] false]) ⟨_, orcs_nil, ?_⟩ ?_
      · simp only [go_sem, reduceIte, Nat.reduceLT, Nat.reduceEqDiff, Nat.reduceAdd]
      refine run_condL (b := (decide (y_3088.1 > 16))) rfl (by decide) (fun hb => ?_) (fun hb => ?_)
      · replace h := ite_t h hb
        refine run_textE hE [2, 3] (fr' := [(2, .ref 0 0), (3, .ref 1 0)]) (σ' := [.box [i64 0, i64 0, .sl true (L cU8 ([])), .sl true (L cApi_Value ([]))] false, .box [i64 2] false, .box [.sl false (L cU8 v_3083.2.b)] false]) ⟨_, orcs_nil, ?_⟩ ?_
        · simp only [go_sem, reduceIte, Nat.reduceLT, Nat.reduceEqDiff, Nat.reduceAdd, Nat.reduceGT]
        refine run_ret ?_
        refine thenK_r ?_
        obtain rfl := Option.some.inj h
        refine ⟨_, [.box [i64 0, i64 0, .sl false (L cU8 ([])), .sl false (L cApi_Value ([]))] false, .box [i64 2] false], _, [.box [i64 0, i64 0, .sl false (L cU8 ([])), .sl false (L cApi_Value ([]))] false, .box [i64 2] false], [.agg [i64 0, i64 0, .sl false (L cU8 ([])), .sl false (L cApi_Value ([]))], i64 2], asFr_len _ _, .inl ⟨.inr rfl, rfl⟩, ?_, codec_Decode_1_idle, rfl, ?_, resD ?_, ?_⟩
        · show stUp [0, 1] _ [0, 1] _; simp only [go_sem, reduceIte, Nat.reduceLT, Nat.reduceEqDiff, Nat.reduceAdd]
        · simp only [go_sem, reduceIte, Nat.reduceLT, Nat.reduceEqDiff, Nat.reduceAdd]
        · simp only [go_sem, reduceIte, Nat.reduceLT, Nat.reduceEqDiff, Nat.reduceAdd]
        · simp only [go_sem, reduceIte, Nat.reduceLT, Nat.reduceEqDiff, Nat.reduceAdd]
      · replace h := ite_f h hb
        refine run_skip ?_
        refine thenK_n ?_
        refine run_textE hE [2, 3] (fr' := [(2, .ref 0 0), (3, .ref 1 0)]) (σ' := [.box [i64 v_3083.1.Kind, i64 v_3083.1.N, .sl false (L cU8 v_3083.1.B), .sl false (L cApi_Value v_3083.1.L)] false, .box [i64 0] false, .box [.sl false (L cU8 v_3083.2.b)] false]) ⟨_, orcs_nil, ?_⟩ ?_
        · simp only [go_sem, reduceIte, Nat.reduceLT, Nat.reduceEqDiff, Nat.reduceAdd]
        refine run_ret ?_
        obtain rfl := Option.some.inj h
        refine ⟨_, [.box [i64 v_3083.1.Kind, i64 v_3083.1.N, .sl false (L cU8 v_3083.1.B), .sl false (L cApi_Value v_3083.1.L)] false, .box [i64 0] false], _, [.box [i64 v_3083.1.Kind, i64 v_3083.1.N, .sl false (L cU8 v_3083.1.B), .sl false (L cApi_Value v_3083.1.L)] false, .box [i64 0] false], [.agg [i64 v_3083.1.Kind, i64 v_3083.1.N, .sl false (L cU8 v_3083.1.B), .sl false (L cApi_Value v_3083.1.L)], i64 0], asFr_len _ _, .inl ⟨.inr rfl, rfl⟩, ?_, codec_Decode_1_idle, rfl, ?_, resD ?_, ?_⟩
        · show stUp [0, 1] _ [0, 1] _; simp only [go_sem, reduceIte, Nat.reduceLT, Nat.reduceEqDiff, Nat.reduceAdd]
        · simp only [go_sem, reduceIte, Nat.reduceLT, Nat.reduceEqDiff, Nat.reduceAdd]
        · simp only [go_sem, reduceIte, Nat.reduceLT, Nat.reduceEqDiff, Nat.reduceAdd]
        · simp only [go_sem, reduceIte, Nat.reduceLT, Nat.reduceEqDiff, Nat.reduceAdd]

end Go.Proofs.Ytihncddenjbecaa
/-
  The functions compute just that.
-/
namespace Go.Proofs.Ytihncddenjbecaa
open Go.Rv
set_option linter.unusedVariables false
set_option linter.unusedSimpArgs false
set_option maxRecDepth 20000

theorem law01_encodes_con {v_3090 : Api_Value} {want_3091 : List UInt8} {r : Bool} (h : law01_encodes v_3090 want_3091 = some r) : Con B 32 [.agg [i64 v_3090.Kind, i64 v_3090.N, .sl false (L cU8 v_3090.B), .sl false (L cApi_Value v_3090.L)], .str want_3091] [] (fun r' σ' => r' = .bool r ∧ σ' = []) := by
  refine con_walk (N := 37) (rs := [.tmp 4]) ok Try.func32 rfl (by decide +kernel) rfl rfl (Nat.le_of_ble_eq_true rfl) (fun F => ?_)
  have hE := ok.env F
  unfold law01_encodes at h
  show Run (B.env F) 0 _ ⟨asFr 37 [(0, .agg [i64 v_3090.Kind, i64 v_3090.N, .sl false (L cU8 v_3090.B), .sl false (L cApi_Value v_3090.L)]), (1, .str want_3091)], []⟩ _
  refine run_textE hE [1, 2] (fr' := [(1, .str want_3091), (2, .ref 0 0)]) (σ' := [.box [i64 v_3090.Kind, i64 v_3090.N, .sl false (L cU8 v_3090.B), .sl false (L cApi_Value v_3090.L)] false]) ⟨_, orcs_nil, ?_⟩ ?_
  · simp only [go_sem, reduceIte, Nat.reduceLT, Nat.reduceEqDiff, Nat.reduceAdd]
  replace h := bind_some1 h; obtain ⟨y_3092, hy_3093, h⟩ := h
  refine run_textE hE [1, 2, 5, 6] (fr' := [(1, .str want_3091), (2, .ref 0 0), (5, .sl false (L cU8 y_3092.1)), (6, i64 y_3092.2)]) (σ' := [.box [i64 v_3090.Kind, i64 v_3090.N, .sl false (L cU8 v_3090.B), .sl false (L cApi_Value v_3090.L)] false]) ⟨_, orcs_ok (l := [(11, 14, [.agg [i64 v_3090.Kind, i64 v_3090.N, .sl false (L cU8 v_3090.B), .sl false (L cApi_Value v_3090.L)]], .tup [.sl false (L cU8 y_3092.1), i64 y_3092.2])]) ⟨codec_Encode_con  hy_3093, trivial⟩, ?_⟩ ?_
  · simp only [go_sem, reduceIte, Nat.reduceLT, Nat.reduceEqDiff, Nat.reduceAdd]
  replace h := bind_some1 h; obtain ⟨y_3094, hy_3095, h⟩ := h
  refine run_textE hE [1, 2, 5, 6, 7, 8] (fr' := [(1, .str want_3091), (2, .ref 0 0), (5, .sl false (L cU8 y_3092.1)), (6, i64 y_3092.2), (7, .ref 2 0), (8, i64 y_3094.2)]) (σ' := [.box [i64 v_3090.Kind, i64 v_3090.N, .sl false (L cU8 v_3090.B), .sl false (L cApi_Value v_3090.L)] false, .buf 1 (L cU8 want_3091) true, .box [i64 y_3094.1.Kind, i64 y_3094.1.N, .sl false (L cU8 y_3094.1.B), .sl false (L cApi_Value y_3094.1.L)] false]) ⟨_, orcs_ok (l := [(17, 21, [.sl false (L cU8 want_3091)], .tup [.agg [i64 y_3094.1.Kind, i64 y_3094.1.N, .sl false (L cU8 y_3094.1.B), .sl false (L cApi_Value y_3094.1.L)], i64 y_3094.2])]) ⟨codec_Decode_con  hy_3095, trivial⟩, ?_⟩ ?_
  · simp only [go_sem, reduceIte, Nat.reduceLT, Nat.reduceEqDiff, Nat.reduceAdd]
  replace h := bind_some1 h; obtain ⟨t_3097, hv_3098, h⟩ := h
  refine run_textW hE [4] (fr' := [(4, .bool t_3097)]) (σ' := []) ?_ ?_
  · rcases Bool.eq_false_or_eq_true ((y_3092.2 == 0)) with hb_3099 | hb_3099
    · replace hv_3098 := ite_t hv_3098 hb_3099
      rcases Bool.eq_false_or_eq_true ((y_3092.1 == want_3091)) with hb_3100 | hb_3100
      · replace hv_3098 := ite_t hv_3098 hb_3100
        rcases Bool.eq_false_or_eq_true ((y_3094.2 == 0)) with hb_3101 | hb_3101
        · replace hv_3098 := ite_t hv_3098 hb_3101
          replace hv_3098 := bind_some1 hv_3098; obtain ⟨y_3096, hy_3102, hv_3098⟩ := hv_3098
          have e_hv_3098 := Option.some.inj hv_3098; subst e_hv_3098
          exact ⟨_, [(4, .bool y_3096)], [.box [i64 v_3090.Kind, i64 v_3090.N, .sl false (L cU8 v_3090.B), .sl false (L cApi_Value v_3090.L)] false, .buf 1 (L cU8 want_3091) true, .box [i64 y_3094.1.Kind, i64 y_3094.1.N, .sl false (L cU8 y_3094.1.B), .sl false (L cApi_Value y_3094.1.L)] false], orcs_ok (l := [(35, 23, [.agg [i64 v_3090.Kind, i64 v_3090.N, .sl false (L cU8 v_3090.B), .sl false (L cApi_Value v_3090.L)], .agg [i64 y_3094.1.Kind, i64 y_3094.1.N, .sl false (L cU8 y_3094.1.B), .sl false (L cApi_Value y_3094.1.L)]], .bool y_3096)]) ⟨r01_Same_con  hy_3102, trivial⟩, by simp only [go_sem, reduceIte, Nat.reduceLT, Nat.reduceEqDiff, Nat.reduceAdd, hb_3099, hb_3100, hb_3101], (weak_sel [] (by decide) rfl (by simp only [go_sem, reduceIte, Nat.reduceLT, Nat.reduceEqDiff, Nat.reduceAdd]) (by simp only [go_sem, reduceIte, Nat.reduceLT, Nat.reduceEqDiff, Nat.reduceAdd]))⟩
        · replace hv_3098 := ite_f hv_3098 hb_3101
          have e_hv_3098 := Option.some.inj hv_3098; subst e_hv_3098
          exact ⟨_, [(4, .bool false)], [.box [i64 v_3090.Kind, i64 v_3090.N, .sl false (L cU8 v_3090.B), .sl false (L cApi_Value v_3090.L)] false, .buf 1 (L cU8 want_3091) true, .box [i64 y_3094.1.Kind, i64 y_3094.1.N, .sl false (L cU8 y_3094.1.B), .sl false (L cApi_Value y_3094.1.L)] false], orcs_nil, by simp only [go_sem, reduceIte, Nat.reduceLT, Nat.reduceEqDiff, Nat.reduceAdd, hb_3099, hb_3100, hb_3101], (weak_sel [] (by decide) rfl (by simp only [go_sem, reduceIte, Nat.reduceLT, Nat.reduceEqDiff, Nat.reduceAdd]) (by simp only [go_sem, reduceIte, Nat.reduceLT, Nat.reduceEqDiff, Nat.reduceAdd]))⟩
      · replace hv_3098 := ite_f hv_3098 hb_3100
        have e_hv_3098 := Option.some.inj hv_3098; subst e_hv_3098
        exact ⟨_, [(4, .bool false)], [.box [i64 v_3090.Kind, i64 v_3090.N, .sl false (L cU8 v_3090.B), .sl false (L cApi_Value v_3090.L)] false, .buf 1 (L cU8 want_3091) true, .box [i64 y_3094.1.Kind, i64 y_3094.1.N, .sl false (L cU8 y_3094.1.B), .sl false (L cApi_Value y_3094.1.L)] false], orcs_nil, by simp only [go_sem, reduceIte, Nat.reduceLT, Nat.reduceEqDiff, Nat.reduceAdd, hb_3099, hb_3100], (weak_sel [] (by decide) rfl (by simp only [go_sem, reduceIte, Nat.reduceLT, Nat.reduceEqDiff, Nat.reduceAdd]) (by simp only [go_sem, reduceIte, Nat.reduceLT, Nat.reduceEqDiff, Nat.reduceAdd]))⟩
    · replace hv_3098 := ite_f hv_3098 hb_3099
      have e_hv_3098 := Option.some.inj hv_3098; subst e_hv_3098
      exact ⟨_, [(4, .bool false)], [.box [i64 v_3090.Kind, i64 v_3090.N, .sl false (L cU8 v_3090.B), .sl false (L cApi_Value v_3090.L)] false, .buf 1 (L cU8 want_3091) true, .box [i64 y_3094.1.Kind, i64 y_3094.1.N, .sl false (L cU8 y_3094.1.B), .sl false (L cApi_Value y_3094.1.L)] false], orcs_nil, by simp only [go_sem, reduceIte, Nat.reduceLT, Nat.reduceEqDiff, Nat.reduceAdd, hb_3099], (weak_sel [] (by decide) rfl (by simp only [go_sem, reduceIte, Nat.reduceLT, Nat.reduceEqDiff, Nat.reduceAdd]) (by simp only [go_sem, reduceIte, Nat.reduceLT, Nat.reduceEqDiff, Nat.reduceAdd]))⟩
  refine run_ret ?_
  obtain rfl := Option.some.inj h
  refine ret_ok (.inr rfl) ?_
  simp only [go_sem, reduceIte, Nat.reduceLT, Nat.reduceEqDiff, Nat.reduceAdd]

theorem law01_fails_con {s_3103 : List UInt8} {want_3104 : Int} {r : Bool} (h : law01_fails s_3103 want_3104 = some r) : Con B 33 [.str s_3103, i64 want_3104] [] (fun r' σ' => r' = .bool r ∧ σ' = []) := by
  refine con_walk (N := 21) (rs := [.tmp 4]) ok Try.func33 rfl (by decide +kernel) rfl rfl (Nat.le_of_ble_eq_true rfl) (fun F => ?_)
  have hE := ok.env F
  unfold law01_fails at h
  show Run (B.env F) 0 _ ⟨asFr 21 [(0, .str s_3103), (1, i64 want_3104)], []⟩ _
  refine run_textE hE [0, 1] (fr' := [(0, .str s_3103), (1, i64 want_3104)]) (σ' := []) ⟨_, orcs_nil, ?_⟩ ?_
  · simp only [go_sem, reduceIte, Nat.reduceLT, Nat.reduceEqDiff, Nat.reduceAdd]
  replace h := bind_some1 h; obtain ⟨y_3105, hy_3106, h⟩ := h
  refine run_textE hE [1, 5, 6] (fr' := [(1, i64 want_3104), (5, .ref 1 0), (6, i64 y_3105.2)]) (σ' := [.buf 1 (L cU8 s_3103) true, .box [i64 y_3105.1.Kind, i64 y_3105.1.N, .sl false (L cU8 y_3105.1.B), .sl false (L cApi_Value y_3105.1.L)] false]) ⟨_, orcs_ok (l := [(10, 21, [.sl false (L cU8 s_3103)], .tup [.agg [i64 y_3105.1.Kind, i64 y_3105.1.N, .sl false (L cU8 y_3105.1.B), .sl false (L cApi_Value y_3105.1.L)], i64 y_3105.2])]) ⟨codec_Decode_con  hy_3106, trivial⟩, ?_⟩ ?_
  · simp only [go_sem, reduceIte, Nat.reduceLT, Nat.reduceEqDiff, Nat.reduceAdd]
  replace h := bind_some1 h; obtain ⟨t_3108, hv_3109, h⟩ := h
  refine run_textW hE [4] (fr' := [(4, .bool t_3108)]) (σ' := []) ?_ ?_
  · rcases Bool.eq_false_or_eq_true ((y_3105.2 == want_3104)) with hb_3110 | hb_3110
    · replace hv_3109 := ite_t hv_3109 hb_3110
      replace hv_3109 := bind_some1 hv_3109; obtain ⟨y_3107, hy_3111, hv_3109⟩ := hv_3109
      have e_hv_3109 := Option.some.inj hv_3109; subst e_hv_3109
      exact ⟨_, [(4, .bool y_3107)], [.buf 1 (L cU8 s_3103) true, .box [i64 y_3105.1.Kind, i64 y_3105.1.N, .sl false (L cU8 y_3105.1.B), .sl false (L cApi_Value y_3105.1.L)] false], orcs_ok (l := [(19, 23, [.agg [i64 y_3105.1.Kind, i64 y_3105.1.N, .sl false (L cU8 y_3105.1.B), .sl false (L cApi_Value y_3105.1.L)], .agg [i64 0, i64 0, .sl false (L cU8 ([])), .sl false (L cApi_Value ([]))]], .bool y_3107)]) ⟨r01_Same_con  hy_3111, trivial⟩, by simp only [go_sem, reduceIte, Nat.reduceLT, Nat.reduceEqDiff, Nat.reduceAdd, Nat.reduceGT, hb_3110], (weak_sel [] (by decide) rfl (by simp only [go_sem, reduceIte, Nat.reduceLT, Nat.reduceEqDiff, Nat.reduceAdd]) (by simp only [go_sem, reduceIte, Nat.reduceLT, Nat.reduceEqDiff, Nat.reduceAdd]))⟩
    · replace hv_3109 := ite_f hv_3109 hb_3110
      have e_hv_3109 := Option.some.inj hv_3109; subst e_hv_3109
      exact ⟨_, [(4, .bool false)], [.buf 1 (L cU8 s_3103) true, .box [i64 y_3105.1.Kind, i64 y_3105.1.N, .sl false (L cU8 y_3105.1.B), .sl false (L cApi_Value y_3105.1.L)] false], orcs_nil, by simp only [go_sem, reduceIte, Nat.reduceLT, Nat.reduceEqDiff, Nat.reduceAdd, Nat.reduceGT, hb_3110], (weak_sel [] (by decide) rfl (by simp only [go_sem, reduceIte, Nat.reduceLT, Nat.reduceEqDiff, Nat.reduceAdd]) (by simp only [go_sem, reduceIte, Nat.reduceLT, Nat.reduceEqDiff, Nat.reduceAdd]))⟩
  refine run_ret ?_
  obtain rfl := Option.some.inj h
  refine ret_ok (.inr rfl) ?_
  simp only [go_sem, reduceIte, Nat.reduceLT, Nat.reduceEqDiff, Nat.reduceAdd]

end Go.Proofs.Ytihncddenjbecaa
/-
  The functions compute just that.
-/
namespace Go.Proofs.Ytihncddenjbecaa
open Go.Rv
set_option linter.unusedVariables false
set_option linter.unusedSimpArgs false
set_option maxRecDepth 20000

theorem law01_sane_con  {r : Bool} (h : law01_sane  = some r) : Con B 13 [] [] (fun r' σ' => r' = .bool r ∧ σ' = []) := by
  refine con_walk (N := 133) (rs := [.tmp 0]) ok Try.func13 rfl (by decide +kernel) rfl rfl (Nat.le_of_ble_eq_true rfl) (fun F => ?_)
  have hE := ok.env F
  unfold law01_sane at h
  show Run (B.env F) 0 _ ⟨asFr 133 [], []⟩ _
  refine run_textE hE [] (fr' := []) (σ' := []) ⟨_, orcs_nil, ?_⟩ ?_
  · simp only [go_sem, reduceIte, Nat.reduceLT, Nat.reduceEqDiff, Nat.reduceAdd]
  replace h := bind_some1 h; obtain ⟨y_3112, hy_3113, h⟩ := h
  refine run_textE hE [1] (fr' := [(1, .ref 0 0)]) (σ' := [.box [i64 y_3112.Kind, i64 y_3112.N, .sl false (L cU8 y_3112.B), .sl false (L cApi_Value y_3112.L)] false]) ⟨_, orcs_ok (l := [(5, 31, [.str (([97] : List UInt8))], .agg [i64 y_3112.Kind, i64 y_3112.N, .sl false (L cU8 y_3112.B), .sl false (L cApi_Value y_3112.L)])]) ⟨r01_Text_con  hy_3113, trivial⟩, ?_⟩ ?_
  · simp only [go_sem, reduceIte, Nat.reduceLT, Nat.reduceEqDiff, Nat.reduceAdd]
  replace h := bind_some1 h; obtain ⟨y_3114, hy_3115, h⟩ := h
  refine run_textE hE [1, 2] (fr' := [(1, .ref 0 0), (2, .ref 1 0)]) (σ' := [.box [i64 y_3112.Kind, i64 y_3112.N, .sl false (L cU8 y_3112.B), .sl false (L cApi_Value y_3112.L)] false, .box [i64 y_3114.Kind, i64 y_3114.N, .sl false (L cU8 y_3114.B), .sl false (L cApi_Value y_3114.L)] false]) ⟨_, orcs_ok (l := [(6, 31, [.str (([97, 0] : List UInt8))], .agg [i64 y_3114.Kind, i64 y_3114.N, .sl false (L cU8 y_3114.B), .sl false (L cApi_Value y_3114.L)])]) ⟨r01_Text_con  hy_3115, trivial⟩, ?_⟩ ?_
  · simp only [go_sem, reduceIte, Nat.reduceLT, Nat.reduceEqDiff, Nat.reduceAdd]
  replace h := bind_some1 h; obtain ⟨y_3116, hy_3119, h⟩ := h
  replace h := bind_some1 h; obtain ⟨y_3117, hy_3120, h⟩ := h
  replace h := bind_some1 h; obtain ⟨y_3118, hy_3121, h⟩ := h
  refine run_drawE hE mixed [[], [], [0], [0, 1, 2], [0, 1, 2, 3], [], [0, 1, 2, 3, 4, 5]] (by kernel_rfl) (by kernel_rfl) [1, 2, 3] (fr' := [(1, .ref 0 0), (2, .ref 1 0), (3, .ref 2 0)]) (σ' := [.box [i64 y_3112.Kind, i64 y_3112.N, .sl false (L cU8 y_3112.B), .sl false (L cApi_Value y_3112.L)] false, .box [i64 y_3114.Kind, i64 y_3114.N, .sl false (L cU8 y_3114.B), .sl false (L cApi_Value y_3114.L)] false, .box [i64 y_3118.Kind, i64 y_3118.N, .sl false (L cU8 y_3118.B), .sl false (L cApi_Value y_3118.L)] false]) ⟨_, orcs_ok (l := [(7, 29, [i64 1], .agg [i64 y_3116.Kind, i64 y_3116.N, .sl false (L cU8 y_3116.B), .sl false (L cApi_Value y_3116.L)]), (9, 27, [.sl false (L cApi_Value ([]))], .agg [i64 y_3117.Kind, i64 y_3117.N, .sl false (L cU8 y_3117.B), .sl false (L cApi_Value y_3117.L)]), (11, 27, [.sl false (L cApi_Value (([y_3116, y_3112, y_3117] : List Api_Value)))], .agg [i64 y_3118.Kind, i64 y_3118.N, .sl false (L cU8 y_3118.B), .sl false (L cApi_Value y_3118.L)])]) ⟨r01_Int_con  hy_3119, r01_List_con  hy_3120, r01_List_con  hy_3121, trivial⟩, ?_⟩ ?_
  · simp only [go_sem, reduceIte, Nat.reduceLT, Nat.reduceEqDiff, Nat.reduceAdd, Nat.reduceBEq, Nat.reduceMul, Nat.reduceSub, Nat.reduceGT, Nat.reducePow, Nat.reduceLeDiff, Int.reduceToNat]
  replace h := lt1_some h; obtain ⟨l_3122, hz_3123, h⟩ := h
  refine run_textE hE [1, 2, 3, 4] (fr' := [(1, .ref 0 0), (2, .ref 1 0), (3, .ref 2 0), (4, .ref 4 0)]) (σ' := [.box [i64 y_3112.Kind, i64 y_3112.N, .sl false (L cU8 y_3112.B), .sl false (L cApi_Value y_3112.L)] false, .box [i64 y_3114.Kind, i64 y_3114.N, .sl false (L cU8 y_3114.B), .sl false (L cApi_Value y_3114.L)] false, .box [i64 y_3118.Kind, i64 y_3118.N, .sl false (L cU8 y_3118.B), .sl false (L cApi_Value y_3118.L)] false, .buf 1 (L cU8 l_3122) false, .box [i64 1, i64 0, .bs true 3 (l_3122.length) 0 (l_3122.length), .sl true (L cApi_Value ([]))] false]) ⟨_, orcs_nil, ?_⟩ ?_
  · subst hz_3123; simp only [go_sem, reduceIte, Nat.reduceLT, Nat.reduceEqDiff, Nat.reduceAdd, Nat.reduceBEq, Nat.reduceMul, Nat.reduceSub, Nat.reduceGT, Nat.reducePow, Nat.reduceLeDiff, Int.reduceToNat]
  refine run_seq ?_
  replace h := bind_some1 h; obtain ⟨t_3132, hv_3133, h⟩ := h
  refine run_textW hE [1, 2, 3, 4, 32] (fr' := [(1, .ref 0 0), (2, .ref 1 0), (3, .ref 2 0), (4, .ref 3 0), (32, .bool t_3132)]) (σ' := [.box [i64 y_3112.Kind, i64 y_3112.N, .sl false (L cU8 y_3112.B), .sl false (L cApi_Value y_3112.L)] false, .box [i64 y_3114.Kind, i64 y_3114.N, .sl false (L cU8 y_3114.B), .sl false (L cApi_Value y_3114.L)] false, .box [i64 y_3118.Kind, i64 y_3118.N, .sl false (L cU8 y_3118.B), .sl false (L cApi_Value y_3118.L)] false, .box [i64 1, i64 0, .bs true 4 (l_3122.length) 0 (l_3122.length), .sl true (L cApi_Value ([]))] false, .buf 1 (L cU8 l_3122) false]) ?_ ?_
  · replace hv_3133 := bind_some1 hv_3133; obtain ⟨y_3124, hy_3134, hv_3133⟩ := hv_3133
    replace hv_3133 := bind_some1 hv_3133; obtain ⟨y_3125, hy_3135, hv_3133⟩ := hv_3133
    rcases Bool.eq_false_or_eq_true ((!y_3125)) with hb_3136 | hb_3136
    · replace hv_3133 := ite_t hv_3133 hb_3136
      have e_hv_3133 := Option.some.inj hv_3133; subst e_hv_3133
      exact ⟨_, [(1, .ref 0 0), (2, .ref 1 0), (3, .ref 2 0), (4, .ref 4 0), (32, .bool true)], [.box [i64 y_3112.Kind, i64 y_3112.N, .sl false (L cU8 y_3112.B), .sl false (L cApi_Value y_3112.L)] false, .box [i64 y_3114.Kind, i64 y_3114.N, .sl false (L cU8 y_3114.B), .sl false (L cApi_Value y_3114.L)] false, .box [i64 y_3118.Kind, i64 y_3118.N, .sl false (L cU8 y_3118.B), .sl false (L cApi_Value y_3118.L)] false, .buf 1 (L cU8 l_3122) false, .box [i64 1, i64 0, .bs true 3 (l_3122.length) 0 (l_3122.length), .sl true (L cApi_Value ([]))] false], orcs_ok (l := [(15, 29, [i64 0], .agg [i64 y_3124.Kind, i64 y_3124.N, .sl false (L cU8 y_3124.B), .sl false (L cApi_Value y_3124.L)]), (16, 32, [.agg [i64 y_3124.Kind, i64 y_3124.N, .sl false (L cU8 y_3124.B), .sl false (L cApi_Value y_3124.L)], .str (([32] : List UInt8))], .bool y_3125)]) ⟨r01_Int_con  hy_3134, law01_encodes_con  hy_3135, trivial⟩, by simp only [go_sem, reduceIte, Nat.reduceLT, Nat.reduceEqDiff, Nat.reduceAdd, hb_3136], (weak_sel [0, 1, 2, 4, 3] (by decide) rfl (by simp only [go_sem, reduceIte, Nat.reduceLT, Nat.reduceEqDiff, Nat.reduceAdd]) (by simp only [go_sem, reduceIte, Nat.reduceLT, Nat.reduceEqDiff, Nat.reduceAdd]))⟩
    · replace hv_3133 := ite_f hv_3133 hb_3136
      replace hv_3133 := bind_some1 hv_3133; obtain ⟨y_3126, hy_3137, hv_3133⟩ := hv_3133
      replace hv_3133 := bind_some1 hv_3133; obtain ⟨y_3127, hy_3138, hv_3133⟩ := hv_3133
      rcases Bool.eq_false_or_eq_true ((!y_3127)) with hb_3139 | hb_3139
      · replace hv_3133 := ite_t hv_3133 hb_3139
        have e_hv_3133 := Option.some.inj hv_3133; subst e_hv_3133
        exact ⟨_, [(1, .ref 0 0), (2, .ref 1 0), (3, .ref 2 0), (4, .ref 4 0), (32, .bool true)], [.box [i64 y_3112.Kind, i64 y_3112.N, .sl false (L cU8 y_3112.B), .sl false (L cApi_Value y_3112.L)] false, .box [i64 y_3114.Kind, i64 y_3114.N, .sl false (L cU8 y_3114.B), .sl false (L cApi_Value y_3114.L)] false, .box [i64 y_3118.Kind, i64 y_3118.N, .sl false (L cU8 y_3118.B), .sl false (L cApi_Value y_3118.L)] false, .buf 1 (L cU8 l_3122) false, .box [i64 1, i64 0, .bs true 3 (l_3122.length) 0 (l_3122.length), .sl true (L cApi_Value ([]))] false], orcs_ok (l := [(15, 29, [i64 0], .agg [i64 y_3124.Kind, i64 y_3124.N, .sl false (L cU8 y_3124.B), .sl false (L cApi_Value y_3124.L)]), (16, 32, [.agg [i64 y_3124.Kind, i64 y_3124.N, .sl false (L cU8 y_3124.B), .sl false (L cApi_Value y_3124.L)], .str (([32] : List UInt8))], .bool y_3125), (19, 29, [i64 1], .agg [i64 y_3126.Kind, i64 y_3126.N, .sl false (L cU8 y_3126.B), .sl false (L cApi_Value y_3126.L)]), (20, 32, [.agg [i64 y_3126.Kind, i64 y_3126.N, .sl false (L cU8 y_3126.B), .sl false (L cApi_Value y_3126.L)], .str (([33, 1] : List UInt8))], .bool y_3127)]) ⟨r01_Int_con  hy_3134, law01_encodes_con  hy_3135, r01_Int_con  hy_3137, law01_encodes_con  hy_3138, trivial⟩, by simp only [go_sem, reduceIte, Nat.reduceLT, Nat.reduceEqDiff, Nat.reduceAdd, hb_3136, hb_3139], (weak_sel [0, 1, 2, 4, 3] (by decide) rfl (by simp only [go_sem, reduceIte, Nat.reduceLT, Nat.reduceEqDiff, Nat.reduceAdd]) (by simp only [go_sem, reduceIte, Nat.reduceLT, Nat.reduceEqDiff, Nat.reduceAdd]))⟩
      · replace hv_3133 := ite_f hv_3133 hb_3139
        replace hv_3133 := bind_some1 hv_3133; obtain ⟨y_3128, hy_3140, hv_3133⟩ := hv_3133
        replace hv_3133 := bind_some1 hv_3133; obtain ⟨y_3129, hy_3141, hv_3133⟩ := hv_3133
        rcases Bool.eq_false_or_eq_true ((!y_3129)) with hb_3142 | hb_3142
        · replace hv_3133 := ite_t hv_3133 hb_3142
          have e_hv_3133 := Option.some.inj hv_3133; subst e_hv_3133
          exact ⟨_, [(1, .ref 0 0), (2, .ref 1 0), (3, .ref 2 0), (4, .ref 4 0), (32, .bool true)], [.box [i64 y_3112.Kind, i64 y_3112.N, .sl false (L cU8 y_3112.B), .sl false (L cApi_Value y_3112.L)] false, .box [i64 y_3114.Kind, i64 y_3114.N, .sl false (L cU8 y_3114.B), .sl false (L cApi_Value y_3114.L)] false, .box [i64 y_3118.Kind, i64 y_3118.N, .sl false (L cU8 y_3118.B), .sl false (L cApi_Value y_3118.L)] false, .buf 1 (L cU8 l_3122) false, .box [i64 1, i64 0, .bs true 3 (l_3122.length) 0 (l_3122.length), .sl true (L cApi_Value ([]))] false], orcs_ok (l := [(15, 29, [i64 0], .agg [i64 y_3124.Kind, i64 y_3124.N, .sl false (L cU8 y_3124.B), .sl false (L cApi_Value y_3124.L)]), (16, 32, [.agg [i64 y_3124.Kind, i64 y_3124.N, .sl false (L cU8 y_3124.B), .sl false (L cApi_Value y_3124.L)], .str (([32] : List UInt8))], .bool y_3125), (19, 29, [i64 1], .agg [i64 y_3126.Kind, i64 y_3126.N, .sl false (L cU8 y_3126.B), .sl false (L cApi_Value y_3126.L)]), (20, 32, [.agg [i64 y_3126.Kind, i64 y_3126.N, .sl false (L cU8 y_3126.B), .sl false (L cApi_Value y_3126.L)], .str (([33, 1] : List UInt8))], .bool y_3127), (24, 29, [i64 255], .agg [i64 y_3128.Kind, i64 y_3128.N, .sl false (L cU8 y_3128.B), .sl false (L cApi_Value y_3128.L)]), (25, 32, [.agg [i64 y_3128.Kind, i64 y_3128.N, .sl false (L cU8 y_3128.B), .sl false (L cApi_Value y_3128.L)], .str (([33, 255] : List UInt8))], .bool y_3129)]) ⟨r01_Int_con  hy_3134, law01_encodes_con  hy_3135, r01_Int_con  hy_3137, law01_encodes_con  hy_3138, r01_Int_con  hy_3140, law01_encodes_con  hy_3141, trivial⟩, by simp only [go_sem, reduceIte, Nat.reduceLT, Nat.reduceEqDiff, Nat.reduceAdd, hb_3136, hb_3139, hb_3142], (weak_sel [0, 1, 2, 4, 3] (by decide) rfl (by simp only [go_sem, reduceIte, Nat.reduceLT, Nat.reduceEqDiff, Nat.reduceAdd]) (by simp only [go_sem, reduceIte, Nat.reduceLT, Nat.reduceEqDiff, Nat.reduceAdd]))⟩
        · replace hv_3133 := ite_f hv_3133 hb_3142
          replace hv_3133 := bind_some1 hv_3133; obtain ⟨y_3130, hy_3143, hv_3133⟩ := hv_3133
          replace hv_3133 := bind_some1 hv_3133; obtain ⟨y_3131, hy_3144, hv_3133⟩ := hv_3133
          have e_hv_3133 := Option.some.inj hv_3133; subst e_hv_3133
          exact ⟨_, [(1, .ref 0 0), (2, .ref 1 0), (3, .ref 2 0), (4, .ref 4 0), (32, .bool ((!y_3131)))], [.box [i64 y_3112.Kind, i64 y_3112.N, .sl false (L cU8 y_3112.B), .sl false (L cApi_Value y_3112.L)] false, .box [i64 y_3114.Kind, i64 y_3114.N, .sl false (L cU8 y_3114.B), .sl false (L cApi_Value y_3114.L)] false, .box [i64 y_3118.Kind, i64 y_3118.N, .sl false (L cU8 y_3118.B), .sl false (L cApi_Value y_3118.L)] false, .buf 1 (L cU8 l_3122) false, .box [i64 1, i64 0, .bs true 3 (l_3122.length) 0 (l_3122.length), .sl true (L cApi_Value ([]))] false], orcs_ok (l := [(15, 29, [i64 0], .agg [i64 y_3124.Kind, i64 y_3124.N, .sl false (L cU8 y_3124.B), .sl false (L cApi_Value y_3124.L)]), (16, 32, [.agg [i64 y_3124.Kind, i64 y_3124.N, .sl false (L cU8 y_3124.B), .sl false (L cApi_Value y_3124.L)], .str (([32] : List UInt8))], .bool y_3125), (19, 29, [i64 1], .agg [i64 y_3126.Kind, i64 y_3126.N, .sl false (L cU8 y_3126.B), .sl false (L cApi_Value y_3126.L)]), (20, 32, [.agg [i64 y_3126.Kind, i64 y_3126.N, .sl false (L cU8 y_3126.B), .sl false (L cApi_Value y_3126.L)], .str (([33, 1] : List UInt8))], .bool y_3127), (24, 29, [i64 255], .agg [i64 y_3128.Kind, i64 y_3128.N, .sl false (L cU8 y_3128.B), .sl false (L cApi_Value y_3128.L)]), (25, 32, [.agg [i64 y_3128.Kind, i64 y_3128.N, .sl false (L cU8 y_3128.B), .sl false (L cApi_Value y_3128.L)], .str (([33, 255] : List UInt8))], .bool y_3129), (29, 29, [i64 256], .agg [i64 y_3130.Kind, i64 y_3130.N, .sl false (L cU8 y_3130.B), .sl false (L cApi_Value y_3130.L)]), (30, 32, [.agg [i64 y_3130.Kind, i64 y_3130.N, .sl false (L cU8 y_3130.B), .sl false (L cApi_Value y_3130.L)], .str (([34, 1, 0] : List UInt8))], .bool y_3131)]) ⟨r01_Int_con  hy_3134, law01_encodes_con  hy_3135, r01_Int_con  hy_3137, law01_encodes_con  hy_3138, r01_Int_con  hy_3140, law01_encodes_con  hy_3141, r01_Int_con  hy_3143, law01_encodes_con  hy_3144, trivial⟩, by simp only [go_sem, reduceIte, Nat.reduceLT, Nat.reduceEqDiff, Nat.reduceAdd, hb_3136, hb_3139, hb_3142], (weak_sel [0, 1, 2, 4, 3] (by decide) rfl (by simp only [go_sem, reduceIte, Nat.reduceLT, Nat.reduceEqDiff, Nat.reduceAdd]) (by simp only [go_sem, reduceIte, Nat.reduceLT, Nat.reduceEqDiff, Nat.reduceAdd]))⟩
  refine run_condL (b := t_3132) rfl (by decide) (fun hb => ?_) (fun hb => ?_)
  · replace h := ite_t h hb
    refine run_textE hE [0] (fr' := [(0, .bool false)]) (σ' := [.box [i64 y_3112.Kind, i64 y_3112.N, .sl false (L cU8 y_3112.B), .sl false (L cApi_Value y_3112.L)] false, .box [i64 y_3114.Kind, i64 y_3114.N, .sl false (L cU8 y_3114.B), .sl false (L cApi_Value y_3114.L)] false, .box [i64 y_3118.Kind, i64 y_3118.N, .sl false (L cU8 y_3118.B), .sl false (L cApi_Value y_3118.L)] false, .box [i64 1, i64 0, .bs true 4 (l_3122.length) 0 (l_3122.length), .sl true (L cApi_Value ([]))] false, .buf 1 (L cU8 l_3122) false]) ⟨_, orcs_nil, ?_⟩ ?_
    · simp only [go_sem, reduceIte, Nat.reduceLT, Nat.reduceEqDiff, Nat.reduceAdd]
    refine run_ret ?_
    refine thenK_r ?_
    obtain rfl := Option.some.inj h
    refine ret_ok (.inr rfl) ?_
    simp only [go_sem, reduceIte, Nat.reduceLT, Nat.reduceEqDiff, Nat.reduceAdd]
  · replace h := ite_f h hb
    refine run_skip ?_
    refine thenK_n ?_
    refine run_seq ?_
    replace h := bind_some1 h; obtain ⟨t_3153, hv_3154, h⟩ := h
    refine run_textW hE [1, 2, 3, 4, 50] (fr' := [(1, .ref 0 0), (2, .ref 1 0), (3, .ref 2 0), (4, .ref 3 0), (50, .bool t_3153)]) (σ' := [.box [i64 y_3112.Kind, i64 y_3112.N, .sl false (L cU8 y_3112.B), .sl false (L cApi_Value y_3112.L)] false, .box [i64 y_3114.Kind, i64 y_3114.N, .sl false (L cU8 y_3114.B), .sl false (L cApi_Value y_3114.L)] false, .box [i64 y_3118.Kind, i64 y_3118.N, .sl false (L cU8 y_3118.B), .sl false (L cApi_Value y_3118.L)] false, .box [i64 1, i64 0, .bs true 4 (l_3122.length) 0 (l_3122.length), .sl true (L cApi_Value ([]))] false, .buf 1 (L cU8 l_3122) false]) ?_ ?_
    · replace hv_3154 := bind_some1 hv_3154; obtain ⟨y_3145, hy_3155, hv_3154⟩ := hv_3154
      replace hv_3154 := bind_some1 hv_3154; obtain ⟨y_3146, hy_3156, hv_3154⟩ := hv_3154
      rcases Bool.eq_false_or_eq_true ((!y_3146)) with hb_3157 | hb_3157
      · replace hv_3154 := ite_t hv_3154 hb_3157
        have e_hv_3154 := Option.some.inj hv_3154; subst e_hv_3154
        exact ⟨_, [(1, .ref 0 0), (2, .ref 1 0), (3, .ref 2 0), (4, .ref 3 0), (50, .bool true)], [.box [i64 y_3112.Kind, i64 y_3112.N, .sl false (L cU8 y_3112.B), .sl false (L cApi_Value y_3112.L)] false, .box [i64 y_3114.Kind, i64 y_3114.N, .sl false (L cU8 y_3114.B), .sl false (L cApi_Value y_3114.L)] false, .box [i64 y_3118.Kind, i64 y_3118.N, .sl false (L cU8 y_3118.B), .sl false (L cApi_Value y_3118.L)] false, .box [i64 1, i64 0, .bs true 4 (l_3122.length) 0 (l_3122.length), .sl true (L cApi_Value ([]))] false, .buf 1 (L cU8 l_3122) false], orcs_ok (l := [(33, 29, [i64 ((-1))], .agg [i64 y_3145.Kind, i64 y_3145.N, .sl false (L cU8 y_3145.B), .sl false (L cApi_Value y_3145.L)]), (34, 32, [.agg [i64 y_3145.Kind, i64 y_3145.N, .sl false (L cU8 y_3145.B), .sl false (L cApi_Value y_3145.L)], .str (([31] : List UInt8))], .bool y_3146)]) ⟨r01_Int_con  hy_3155, law01_encodes_con  hy_3156, trivial⟩, by simp only [go_sem, reduceIte, Nat.reduceLT, Nat.reduceEqDiff, Nat.reduceAdd, hb_3157], (weak_sel [0, 1, 2, 3, 4] (by decide) rfl (by simp only [go_sem, reduceIte, Nat.reduceLT, Nat.reduceEqDiff, Nat.reduceAdd]) (by simp only [go_sem, reduceIte, Nat.reduceLT, Nat.reduceEqDiff, Nat.reduceAdd]))⟩
      · replace hv_3154 := ite_f hv_3154 hb_3157
        replace hv_3154 := bind_some1 hv_3154; obtain ⟨y_3147, hy_3158, hv_3154⟩ := hv_3154
        replace hv_3154 := bind_some1 hv_3154; obtain ⟨y_3148, hy_3159, hv_3154⟩ := hv_3154
        rcases Bool.eq_false_or_eq_true ((!y_3148)) with hb_3160 | hb_3160
        · replace hv_3154 := ite_t hv_3154 hb_3160
          have e_hv_3154 := Option.some.inj hv_3154; subst e_hv_3154
          exact ⟨_, [(1, .ref 0 0), (2, .ref 1 0), (3, .ref 2 0), (4, .ref 3 0), (50, .bool true)], [.box [i64 y_3112.Kind, i64 y_3112.N, .sl false (L cU8 y_3112.B), .sl false (L cApi_Value y_3112.L)] false, .box [i64 y_3114.Kind, i64 y_3114.N, .sl false (L cU8 y_3114.B), .sl false (L cApi_Value y_3114.L)] false, .box [i64 y_3118.Kind, i64 y_3118.N, .sl false (L cU8 y_3118.B), .sl false (L cApi_Value y_3118.L)] false, .box [i64 1, i64 0, .bs true 4 (l_3122.length) 0 (l_3122.length), .sl true (L cApi_Value ([]))] false, .buf 1 (L cU8 l_3122) false], orcs_ok (l := [(33, 29, [i64 ((-1))], .agg [i64 y_3145.Kind, i64 y_3145.N, .sl false (L cU8 y_3145.B), .sl false (L cApi_Value y_3145.L)]), (34, 32, [.agg [i64 y_3145.Kind, i64 y_3145.N, .sl false (L cU8 y_3145.B), .sl false (L cApi_Value y_3145.L)], .str (([31] : List UInt8))], .bool y_3146), (37, 29, [i64 ((-2))], .agg [i64 y_3147.Kind, i64 y_3147.N, .sl false (L cU8 y_3147.B), .sl false (L cApi_Value y_3147.L)]), (38, 32, [.agg [i64 y_3147.Kind, i64 y_3147.N, .sl false (L cU8 y_3147.B), .sl false (L cApi_Value y_3147.L)], .str (([30, 254] : List UInt8))], .bool y_3148)]) ⟨r01_Int_con  hy_3155, law01_encodes_con  hy_3156, r01_Int_con  hy_3158, law01_encodes_con  hy_3159, trivial⟩, by simp only [go_sem, reduceIte, Nat.reduceLT, Nat.reduceEqDiff, Nat.reduceAdd, hb_3157, hb_3160], (weak_sel [0, 1, 2, 3, 4] (by decide) rfl (by simp only [go_sem, reduceIte, Nat.reduceLT, Nat.reduceEqDiff, Nat.reduceAdd]) (by simp only [go_sem, reduceIte, Nat.reduceLT, Nat.reduceEqDiff, Nat.reduceAdd]))⟩
        · replace hv_3154 := ite_f hv_3154 hb_3160
          replace hv_3154 := bind_some1 hv_3154; obtain ⟨y_3149, hy_3161, hv_3154⟩ := hv_3154
          replace hv_3154 := bind_some1 hv_3154; obtain ⟨y_3150, hy_3162, hv_3154⟩ := hv_3154
          rcases Bool.eq_false_or_eq_true ((!y_3150)) with hb_3163 | hb_3163
          · replace hv_3154 := ite_t hv_3154 hb_3163
            have e_hv_3154 := Option.some.inj hv_3154; subst e_hv_3154
            exact ⟨_, [(1, .ref 0 0), (2, .ref 1 0), (3, .ref 2 0), (4, .ref 3 0), (50, .bool true)], [.box [i64 y_3112.Kind, i64 y_3112.N, .sl false (L cU8 y_3112.B), .sl false (L cApi_Value y_3112.L)] false, .box [i64 y_3114.Kind, i64 y_3114.N, .sl false (L cU8 y_3114.B), .sl false (L cApi_Value y_3114.L)] false, .box [i64 y_3118.Kind, i64 y_3118.N, .sl false (L cU8 y_3118.B), .sl false (L cApi_Value y_3118.L)] false, .box [i64 1, i64 0, .bs true 4 (l_3122.length) 0 (l_3122.length), .sl true (L cApi_Value ([]))] false, .buf 1 (L cU8 l_3122) false], orcs_ok (l := [(33, 29, [i64 ((-1))], .agg [i64 y_3145.Kind, i64 y_3145.N, .sl false (L cU8 y_3145.B), .sl false (L cApi_Value y_3145.L)]), (34, 32, [.agg [i64 y_3145.Kind, i64 y_3145.N, .sl false (L cU8 y_3145.B), .sl false (L cApi_Value y_3145.L)], .str (([31] : List UInt8))], .bool y_3146), (37, 29, [i64 ((-2))], .agg [i64 y_3147.Kind, i64 y_3147.N, .sl false (L cU8 y_3147.B), .sl false (L cApi_Value y_3147.L)]), (38, 32, [.agg [i64 y_3147.Kind, i64 y_3147.N, .sl false (L cU8 y_3147.B), .sl false (L cApi_Value y_3147.L)], .str (([30, 254] : List UInt8))], .bool y_3148), (42, 29, [i64 ((-256))], .agg [i64 y_3149.Kind, i64 y_3149.N, .sl false (L cU8 y_3149.B), .sl false (L cApi_Value y_3149.L)]), (43, 32, [.agg [i64 y_3149.Kind, i64 y_3149.N, .sl false (L cU8 y_3149.B), .sl false (L cApi_Value y_3149.L)], .str (([30, 0] : List UInt8))], .bool y_3150)]) ⟨r01_Int_con  hy_3155, law01_encodes_con  hy_3156, r01_Int_con  hy_3158, law01_encodes_con  hy_3159, r01_Int_con  hy_3161, law01_encodes_con  hy_3162, trivial⟩, by simp only [go_sem, reduceIte, Nat.reduceLT, Nat.reduceEqDiff, Nat.reduceAdd, hb_3157, hb_3160, hb_3163], (weak_sel [0, 1, 2, 3, 4] (by decide) rfl (by simp only [go_sem, reduceIte, Nat.reduceLT, Nat.reduceEqDiff, Nat.reduceAdd]) (by simp only [go_sem, reduceIte, Nat.reduceLT, Nat.reduceEqDiff, Nat.reduceAdd]))⟩
          · replace hv_3154 := ite_f hv_3154 hb_3163
            replace hv_3154 := bind_some1 hv_3154; obtain ⟨y_3151, hy_3164, hv_3154⟩ := hv_3154
            replace hv_3154 := bind_some1 hv_3154; obtain ⟨y_3152, hy_3165, hv_3154⟩ := hv_3154
            have e_hv_3154 := Option.some.inj hv_3154; subst e_hv_3154
            exact ⟨_, [(1, .ref 0 0), (2, .ref 1 0), (3, .ref 2 0), (4, .ref 3 0), (50, .bool ((!y_3152)))], [.box [i64 y_3112.Kind, i64 y_3112.N, .sl false (L cU8 y_3112.B), .sl false (L cApi_Value y_3112.L)] false, .box [i64 y_3114.Kind, i64 y_3114.N, .sl false (L cU8 y_3114.B), .sl false (L cApi_Value y_3114.L)] false, .box [i64 y_3118.Kind, i64 y_3118.N, .sl false (L cU8 y_3118.B), .sl false (L cApi_Value y_3118.L)] false, .box [i64 1, i64 0, .bs true 4 (l_3122.length) 0 (l_3122.length), .sl true (L cApi_Value ([]))] false, .buf 1 (L cU8 l_3122) false], orcs_ok (l := [(33, 29, [i64 ((-1))], .agg [i64 y_3145.Kind, i64 y_3145.N, .sl false (L cU8 y_3145.B), .sl false (L cApi_Value y_3145.L)]), (34, 32, [.agg [i64 y_3145.Kind, i64 y_3145.N, .sl false (L cU8 y_3145.B), .sl false (L cApi_Value y_3145.L)], .str (([31] : List UInt8))], .bool y_3146), (37, 29, [i64 ((-2))], .agg [i64 y_3147.Kind, i64 y_3147.N, .sl false (L cU8 y_3147.B), .sl false (L cApi_Value y_3147.L)]), (38, 32, [.agg [i64 y_3147.Kind, i64 y_3147.N, .sl false (L cU8 y_3147.B), .sl false (L cApi_Value y_3147.L)], .str (([30, 254] : List UInt8))], .bool y_3148), (42, 29, [i64 ((-256))], .agg [i64 y_3149.Kind, i64 y_3149.N, .sl false (L cU8 y_3149.B), .sl false (L cApi_Value y_3149.L)]), (43, 32, [.agg [i64 y_3149.Kind, i64 y_3149.N, .sl false (L cU8 y_3149.B), .sl false (L cApi_Value y_3149.L)], .str (([30, 0] : List UInt8))], .bool y_3150), (47, 29, [i64 ((-257))], .agg [i64 y_3151.Kind, i64 y_3151.N, .sl false (L cU8 y_3151.B), .sl false (L cApi_Value y_3151.L)]), (48, 32, [.agg [i64 y_3151.Kind, i64 y_3151.N, .sl false (L cU8 y_3151.B), .sl false (L cApi_Value y_3151.L)], .str (([29, 254, 255] : List UInt8))], .bool y_3152)]) ⟨r01_Int_con  hy_3155, law01_encodes_con  hy_3156, r01_Int_con  hy_3158, law01_encodes_con  hy_3159, r01_Int_con  hy_3161, law01_encodes_con  hy_3162, r01_Int_con  hy_3164, law01_encodes_con  hy_3165, trivial⟩, by simp only [go_sem, reduceIte, Nat.reduceLT, Nat.reduceEqDiff, Nat.reduceAdd, hb_3157, hb_3160, hb_3163], (weak_sel [0, 1, 2, 3, 4] (by decide) rfl (by simp only [go_sem, reduceIte, Nat.reduceLT, Nat.reduceEqDiff, Nat.reduceAdd]) (by simp only [go_sem, reduceIte, Nat.reduceLT, Nat.reduceEqDiff, Nat.reduceAdd]))⟩
    refine run_condL (b := t_3153) rfl (by decide) (fun hb => ?_) (fun hb => ?_)
    · replace h := ite_t h hb
      refine run_textE hE [0] (fr' := [(0, .bool false)]) (σ' := [.box [i64 y_3112.Kind, i64 y_3112.N, .sl false (L cU8 y_3112.B), .sl false (L cApi_Value y_3112.L)] false, .box [i64 y_3114.Kind, i64 y_3114.N, .sl false (L cU8 y_3114.B), .sl false (L cApi_Value y_3114.L)] false, .box [i64 y_3118.Kind, i64 y_3118.N, .sl false (L cU8 y_3118.B), .sl false (L cApi_Value y_3118.L)] false, .box [i64 1, i64 0, .bs true 4 (l_3122.length) 0 (l_3122.length), .sl true (L cApi_Value ([]))] false, .buf 1 (L cU8 l_3122) false]) ⟨_, orcs_nil, ?_⟩ ?_
      · simp only [go_sem, reduceIte, Nat.reduceLT, Nat.reduceEqDiff, Nat.reduceAdd]
      refine run_ret ?_
      refine thenK_r ?_
      obtain rfl := Option.some.inj h
      refine ret_ok (.inr rfl) ?_
      simp only [go_sem, reduceIte, Nat.reduceLT, Nat.reduceEqDiff, Nat.reduceAdd]
    · replace h := ite_f h hb
      refine run_skip ?_
      refine thenK_n ?_
      refine run_seq ?_
      replace h := bind_some1 h; obtain ⟨t_3172, hv_3173, h⟩ := h
      refine run_textW hE [1, 2, 3, 4, 68] (fr' := [(1, .ref 0 0), (2, .ref 1 0), (3, .ref 2 0), (4, .ref 3 0), (68, .bool t_3172)]) (σ' := [.box [i64 y_3112.Kind, i64 y_3112.N, .sl false (L cU8 y_3112.B), .sl false (L cApi_Value y_3112.L)] false, .box [i64 y_3114.Kind, i64 y_3114.N, .sl false (L cU8 y_3114.B), .sl false (L cApi_Value y_3114.L)] false, .box [i64 y_3118.Kind, i64 y_3118.N, .sl false (L cU8 y_3118.B), .sl false (L cApi_Value y_3118.L)] false, .box [i64 1, i64 0, .bs true 4 (l_3122.length) 0 (l_3122.length), .sl true (L cApi_Value ([]))] false, .buf 1 (L cU8 l_3122) false]) ?_ ?_
      · replace hv_3173 := bind_some1 hv_3173; obtain ⟨y_3166, hy_3174, hv_3173⟩ := hv_3173
        replace hv_3173 := bind_some1 hv_3173; obtain ⟨y_3167, hy_3175, hv_3173⟩ := hv_3173
        rcases Bool.eq_false_or_eq_true ((!y_3167)) with hb_3176 | hb_3176
        · replace hv_3173 := ite_t hv_3173 hb_3176
          have e_hv_3173 := Option.some.inj hv_3173; subst e_hv_3173
          exact ⟨_, [(1, .ref 0 0), (2, .ref 1 0), (3, .ref 2 0), (4, .ref 3 0), (68, .bool true)], [.box [i64 y_3112.Kind, i64 y_3112.N, .sl false (L cU8 y_3112.B), .sl false (L cApi_Value y_3112.L)] false, .box [i64 y_3114.Kind, i64 y_3114.N, .sl false (L cU8 y_3114.B), .sl false (L cApi_Value y_3114.L)] false, .box [i64 y_3118.Kind, i64 y_3118.N, .sl false (L cU8 y_3118.B), .sl false (L cApi_Value y_3118.L)] false, .box [i64 1, i64 0, .bs true 4 (l_3122.length) 0 (l_3122.length), .sl true (L cApi_Value ([]))] false, .buf 1 (L cU8 l_3122) false], orcs_ok (l := [(51, 31, [.str (([] : List UInt8))], .agg [i64 y_3166.Kind, i64 y_3166.N, .sl false (L cU8 y_3166.B), .sl false (L cApi_Value y_3166.L)]), (52, 32, [.agg [i64 y_3166.Kind, i64 y_3166.N, .sl false (L cU8 y_3166.B), .sl false (L cApi_Value y_3166.L)], .str (([48, 0, 0] : List UInt8))], .bool y_3167)]) ⟨r01_Text_con  hy_3174, law01_encodes_con  hy_3175, trivial⟩, by simp only [go_sem, reduceIte, Nat.reduceLT, Nat.reduceEqDiff, Nat.reduceAdd, hb_3176], (weak_sel [0, 1, 2, 3, 4] (by decide) rfl (by simp only [go_sem, reduceIte, Nat.reduceLT, Nat.reduceEqDiff, Nat.reduceAdd]) (by simp only [go_sem, reduceIte, Nat.reduceLT, Nat.reduceEqDiff, Nat.reduceAdd]))⟩
        · replace hv_3173 := ite_f hv_3173 hb_3176
          replace hv_3173 := bind_some1 hv_3173; obtain ⟨y_3168, hy_3177, hv_3173⟩ := hv_3173
          rcases Bool.eq_false_or_eq_true ((!y_3168)) with hb_3178 | hb_3178
          · replace hv_3173 := ite_t hv_3173 hb_3178
            have e_hv_3173 := Option.some.inj hv_3173; subst e_hv_3173
            exact ⟨_, [(1, .ref 0 0), (2, .ref 1 0), (3, .ref 2 0), (4, .ref 3 0), (68, .bool true)], [.box [i64 y_3112.Kind, i64 y_3112.N, .sl false (L cU8 y_3112.B), .sl false (L cApi_Value y_3112.L)] false, .box [i64 y_3114.Kind, i64 y_3114.N, .sl false (L cU8 y_3114.B), .sl false (L cApi_Value y_3114.L)] false, .box [i64 y_3118.Kind, i64 y_3118.N, .sl false (L cU8 y_3118.B), .sl false (L cApi_Value y_3118.L)] false, .box [i64 1, i64 0, .bs true 4 (l_3122.length) 0 (l_3122.length), .sl true (L cApi_Value ([]))] false, .buf 1 (L cU8 l_3122) false], orcs_ok (l := [(51, 31, [.str (([] : List UInt8))], .agg [i64 y_3166.Kind, i64 y_3166.N, .sl false (L cU8 y_3166.B), .sl false (L cApi_Value y_3166.L)]), (52, 32, [.agg [i64 y_3166.Kind, i64 y_3166.N, .sl false (L cU8 y_3166.B), .sl false (L cApi_Value y_3166.L)], .str (([48, 0, 0] : List UInt8))], .bool y_3167), (56, 32, [.agg [i64 y_3114.Kind, i64 y_3114.N, .sl false (L cU8 y_3114.B), .sl false (L cApi_Value y_3114.L)], .str (([48, 97, 0, 255, 0, 0] : List UInt8))], .bool y_3168)]) ⟨r01_Text_con  hy_3174, law01_encodes_con  hy_3175, law01_encodes_con  hy_3177, trivial⟩, by simp only [go_sem, reduceIte, Nat.reduceLT, Nat.reduceEqDiff, Nat.reduceAdd, hb_3176, hb_3178], (weak_sel [0, 1, 2, 3, 4] (by decide) rfl (by simp only [go_sem, reduceIte, Nat.reduceLT, Nat.reduceEqDiff, Nat.reduceAdd]) (by simp only [go_sem, reduceIte, Nat.reduceLT, Nat.reduceEqDiff, Nat.reduceAdd]))⟩
          · replace hv_3173 := ite_f hv_3173 hb_3178
            replace hv_3173 := bind_some1 hv_3173; obtain ⟨y_3169, hy_3179, hv_3173⟩ := hv_3173
            replace hv_3173 := bind_some1 hv_3173; obtain ⟨y_3170, hy_3180, hv_3173⟩ := hv_3173
            rcases Bool.eq_false_or_eq_true ((!y_3170)) with hb_3181 | hb_3181
            · replace hv_3173 := ite_t hv_3173 hb_3181
              have e_hv_3173 := Option.some.inj hv_3173; subst e_hv_3173
              exact ⟨_, [(1, .ref 0 0), (2, .ref 1 0), (3, .ref 2 0), (4, .ref 3 0), (68, .bool true)], [.box [i64 y_3112.Kind, i64 y_3112.N, .sl false (L cU8 y_3112.B), .sl false (L cApi_Value y_3112.L)] false, .box [i64 y_3114.Kind, i64 y_3114.N, .sl false (L cU8 y_3114.B), .sl false (L cApi_Value y_3114.L)] false, .box [i64 y_3118.Kind, i64 y_3118.N, .sl false (L cU8 y_3118.B), .sl false (L cApi_Value y_3118.L)] false, .box [i64 1, i64 0, .bs true 4 (l_3122.length) 0 (l_3122.length), .sl true (L cApi_Value ([]))] false, .buf 1 (L cU8 l_3122) false], orcs_ok (l := [(51, 31, [.str (([] : List UInt8))], .agg [i64 y_3166.Kind, i64 y_3166.N, .sl false (L cU8 y_3166.B), .sl false (L cApi_Value y_3166.L)]), (52, 32, [.agg [i64 y_3166.Kind, i64 y_3166.N, .sl false (L cU8 y_3166.B), .sl false (L cApi_Value y_3166.L)], .str (([48, 0, 0] : List UInt8))], .bool y_3167), (56, 32, [.agg [i64 y_3114.Kind, i64 y_3114.N, .sl false (L cU8 y_3114.B), .sl false (L cApi_Value y_3114.L)], .str (([48, 97, 0, 255, 0, 0] : List UInt8))], .bool y_3168), (60, 27, [.sl false (L cApi_Value ([]))], .agg [i64 y_3169.Kind, i64 y_3169.N, .sl false (L cU8 y_3169.B), .sl false (L cApi_Value y_3169.L)]), (61, 32, [.agg [i64 y_3169.Kind, i64 y_3169.N, .sl false (L cU8 y_3169.B), .sl false (L cApi_Value y_3169.L)], .str (([64, 0] : List UInt8))], .bool y_3170)]) ⟨r01_Text_con  hy_3174, law01_encodes_con  hy_3175, law01_encodes_con  hy_3177, r01_List_con  hy_3179, law01_encodes_con  hy_3180, trivial⟩, by simp only [go_sem, reduceIte, Nat.reduceLT, Nat.reduceEqDiff, Nat.reduceAdd, hb_3176, hb_3178, hb_3181], (weak_sel [0, 1, 2, 3, 4] (by decide) rfl (by simp only [go_sem, reduceIte, Nat.reduceLT, Nat.reduceEqDiff, Nat.reduceAdd]) (by simp only [go_sem, reduceIte, Nat.reduceLT, Nat.reduceEqDiff, Nat.reduceAdd]))⟩
            · replace hv_3173 := ite_f hv_3173 hb_3181
              replace hv_3173 := bind_some1 hv_3173; obtain ⟨y_3171, hy_3182, hv_3173⟩ := hv_3173
              have e_hv_3173 := Option.some.inj hv_3173; subst e_hv_3173
              exact ⟨_, [(1, .ref 0 0), (2, .ref 1 0), (3, .ref 2 0), (4, .ref 3 0), (68, .bool ((!y_3171)))], [.box [i64 y_3112.Kind, i64 y_3112.N, .sl false (L cU8 y_3112.B), .sl false (L cApi_Value y_3112.L)] false, .box [i64 y_3114.Kind, i64 y_3114.N, .sl false (L cU8 y_3114.B), .sl false (L cApi_Value y_3114.L)] false, .box [i64 y_3118.Kind, i64 y_3118.N, .sl false (L cU8 y_3118.B), .sl false (L cApi_Value y_3118.L)] false, .box [i64 1, i64 0, .bs true 4 (l_3122.length) 0 (l_3122.length), .sl true (L cApi_Value ([]))] false, .buf 1 (L cU8 l_3122) false], orcs_ok (l := [(51, 31, [.str (([] : List UInt8))], .agg [i64 y_3166.Kind, i64 y_3166.N, .sl false (L cU8 y_3166.B), .sl false (L cApi_Value y_3166.L)]), (52, 32, [.agg [i64 y_3166.Kind, i64 y_3166.N, .sl false (L cU8 y_3166.B), .sl false (L cApi_Value y_3166.L)], .str (([48, 0, 0] : List UInt8))], .bool y_3167), (56, 32, [.agg [i64 y_3114.Kind, i64 y_3114.N, .sl false (L cU8 y_3114.B), .sl false (L cApi_Value y_3114.L)], .str (([48, 97, 0, 255, 0, 0] : List UInt8))], .bool y_3168), (60, 27, [.sl false (L cApi_Value ([]))], .agg [i64 y_3169.Kind, i64 y_3169.N, .sl false (L cU8 y_3169.B), .sl false (L cApi_Value y_3169.L)]), (61, 32, [.agg [i64 y_3169.Kind, i64 y_3169.N, .sl false (L cU8 y_3169.B), .sl false (L cApi_Value y_3169.L)], .str (([64, 0] : List UInt8))], .bool y_3170), (66, 32, [.agg [i64 y_3118.Kind, i64 y_3118.N, .sl false (L cU8 y_3118.B), .sl false (L cApi_Value y_3118.L)], .str (([64, 33, 1, 48, 97, 0, 0, 64, 0, 0] : List UInt8))], .bool y_3171)]) ⟨r01_Text_con  hy_3174, law01_encodes_con  hy_3175, law01_encodes_con  hy_3177, r01_List_con  hy_3179, law01_encodes_con  hy_3180, law01_encodes_con  hy_3182, trivial⟩, by simp only [go_sem, reduceIte, Nat.reduceLT, Nat.reduceEqDiff, Nat.reduceAdd, hb_3176, hb_3178, hb_3181], (weak_sel [0, 1, 2, 3, 4] (by decide) rfl (by simp only [go_sem, reduceIte, Nat.reduceLT, Nat.reduceEqDiff, Nat.reduceAdd]) (by simp only [go_sem, reduceIte, Nat.reduceLT, Nat.reduceEqDiff, Nat.reduceAdd]))⟩
      refine run_condL (b := t_3172) rfl (by decide) (fun hb => ?_) (fun hb => ?_)
      · replace h := ite_t h hb
        refine run_textE hE [0] (fr' := [(0, .bool false)]) (σ' := [.box [i64 y_3112.Kind, i64 y_3112.N, .sl false (L cU8 y_3112.B), .sl false (L cApi_Value y_3112.L)] false, .box [i64 y_3114.Kind, i64 y_3114.N, .sl false (L cU8 y_3114.B), .sl false (L cApi_Value y_3114.L)] false, .box [i64 y_3118.Kind, i64 y_3118.N, .sl false (L cU8 y_3118.B), .sl false (L cApi_Value y_3118.L)] false, .box [i64 1, i64 0, .bs true 4 (l_3122.length) 0 (l_3122.length), .sl true (L cApi_Value ([]))] false, .buf 1 (L cU8 l_3122) false]) ⟨_, orcs_nil, ?_⟩ ?_
        · simp only [go_sem, reduceIte, Nat.reduceLT, Nat.reduceEqDiff, Nat.reduceAdd]
        refine run_ret ?_
        refine thenK_r ?_
        obtain rfl := Option.some.inj h
        refine ret_ok (.inr rfl) ?_
        simp only [go_sem, reduceIte, Nat.reduceLT, Nat.reduceEqDiff, Nat.reduceAdd]
      · replace h := ite_f h hb
        refine run_skip ?_
        refine thenK_n ?_
        refine run_seq ?_
        replace h := bind_some1 h; obtain ⟨t_3187, hv_3188, h⟩ := h
        refine run_textW hE [1, 2, 3, 4, 82] (fr' := [(1, .ref 0 0), (2, .ref 1 0), (3, .ref 2 0), (4, .ref 3 0), (82, .bool t_3187)]) (σ' := [.box [i64 y_3112.Kind, i64 y_3112.N, .sl false (L cU8 y_3112.B), .sl false (L cApi_Value y_3112.L)] false, .box [i64 y_3114.Kind, i64 y_3114.N, .sl false (L cU8 y_3114.B), .sl false (L cApi_Value y_3114.L)] false, .box [i64 y_3118.Kind, i64 y_3118.N, .sl false (L cU8 y_3118.B), .sl false (L cApi_Value y_3118.L)] false, .box [i64 1, i64 0, .bs true 4 (l_3122.length) 0 (l_3122.length), .sl true (L cApi_Value ([]))] false, .buf 1 (L cU8 l_3122) false]) ?_ ?_
        · replace hv_3188 := bind_some1 hv_3188; obtain ⟨y_3183, hy_3189, hv_3188⟩ := hv_3188
          rcases Bool.eq_false_or_eq_true ((!y_3183)) with hb_3190 | hb_3190
          · replace hv_3188 := ite_t hv_3188 hb_3190
            have e_hv_3188 := Option.some.inj hv_3188; subst e_hv_3188
            exact ⟨_, [(1, .ref 0 0), (2, .ref 1 0), (3, .ref 2 0), (4, .ref 3 0), (82, .bool true)], [.box [i64 y_3112.Kind, i64 y_3112.N, .sl false (L cU8 y_3112.B), .sl false (L cApi_Value y_3112.L)] false, .box [i64 y_3114.Kind, i64 y_3114.N, .sl false (L cU8 y_3114.B), .sl false (L cApi_Value y_3114.L)] false, .box [i64 y_3118.Kind, i64 y_3118.N, .sl false (L cU8 y_3118.B), .sl false (L cApi_Value y_3118.L)] false, .box [i64 1, i64 0, .bs true 4 (l_3122.length) 0 (l_3122.length), .sl true (L cApi_Value ([]))] false, .buf 1 (L cU8 l_3122) false], orcs_ok (l := [(69, 33, [.str (([] : List UInt8)), i64 5], .bool y_3183)]) ⟨law01_fails_con  hy_3189, trivial⟩, by simp only [go_sem, reduceIte, Nat.reduceLT, Nat.reduceEqDiff, Nat.reduceAdd, hb_3190], (weak_sel [0, 1, 2, 3, 4] (by decide) rfl (by simp only [go_sem, reduceIte, Nat.reduceLT, Nat.reduceEqDiff, Nat.reduceAdd]) (by simp only [go_sem, reduceIte, Nat.reduceLT, Nat.reduceEqDiff, Nat.reduceAdd]))⟩
          · replace hv_3188 := ite_f hv_3188 hb_3190
            replace hv_3188 := bind_some1 hv_3188; obtain ⟨y_3184, hy_3191, hv_3188⟩ := hv_3188
            rcases Bool.eq_false_or_eq_true ((!y_3184)) with hb_3192 | hb_3192
            · replace hv_3188 := ite_t hv_3188 hb_3192
              have e_hv_3188 := Option.some.inj hv_3188; subst e_hv_3188
              exact ⟨_, [(1, .ref 0 0), (2, .ref 1 0), (3, .ref 2 0), (4, .ref 3 0), (82, .bool true)], [.box [i64 y_3112.Kind, i64 y_3112.N, .sl false (L cU8 y_3112.B), .sl false (L cApi_Value y_3112.L)] false, .box [i64 y_3114.Kind, i64 y_3114.N, .sl false (L cU8 y_3114.B), .sl false (L cApi_Value y_3114.L)] false, .box [i64 y_3118.Kind, i64 y_3118.N, .sl false (L cU8 y_3118.B), .sl false (L cApi_Value y_3118.L)] false, .box [i64 1, i64 0, .bs true 4 (l_3122.length) 0 (l_3122.length), .sl true (L cApi_Value ([]))] false, .buf 1 (L cU8 l_3122) false], orcs_ok (l := [(69, 33, [.str (([] : List UInt8)), i64 5], .bool y_3183), (72, 33, [.str (([34, 1] : List UInt8)), i64 5], .bool y_3184)]) ⟨law01_fails_con  hy_3189, law01_fails_con  hy_3191, trivial⟩, by simp only [go_sem, reduceIte, Nat.reduceLT, Nat.reduceEqDiff, Nat.reduceAdd, hb_3190, hb_3192], (weak_sel [0, 1, 2, 3, 4] (by decide) rfl (by simp only [go_sem, reduceIte, Nat.reduceLT, Nat.reduceEqDiff, Nat.reduceAdd]) (by simp only [go_sem, reduceIte, Nat.reduceLT, Nat.reduceEqDiff, Nat.reduceAdd]))⟩
            · replace hv_3188 := ite_f hv_3188 hb_3192
              replace hv_3188 := bind_some1 hv_3188; obtain ⟨y_3185, hy_3193, hv_3188⟩ := hv_3188
              rcases Bool.eq_false_or_eq_true ((!y_3185)) with hb_3194 | hb_3194
              · replace hv_3188 := ite_t hv_3188 hb_3194
                have e_hv_3188 := Option.some.inj hv_3188; subst e_hv_3188
                exact ⟨_, [(1, .ref 0 0), (2, .ref 1 0), (3, .ref 2 0), (4, .ref 3 0), (82, .bool true)], [.box [i64 y_3112.Kind, i64 y_3112.N, .sl false (L cU8 y_3112.B), .sl false (L cApi_Value y_3112.L)] false, .box [i64 y_3114.Kind, i64 y_3114.N, .sl false (L cU8 y_3114.B), .sl false (L cApi_Value y_3114.L)] false, .box [i64 y_3118.Kind, i64 y_3118.N, .sl false (L cU8 y_3118.B), .sl false (L cApi_Value y_3118.L)] false, .box [i64 1, i64 0, .bs true 4 (l_3122.length) 0 (l_3122.length), .sl true (L cApi_Value ([]))] false, .buf 1 (L cU8 l_3122) false], orcs_ok (l := [(69, 33, [.str (([] : List UInt8)), i64 5], .bool y_3183), (72, 33, [.str (([34, 1] : List UInt8)), i64 5], .bool y_3184), (76, 33, [.str (([48, 97, 0] : List UInt8)), i64 5], .bool y_3185)]) ⟨law01_fails_con  hy_3189, law01_fails_con  hy_3191, law01_fails_con  hy_3193, trivial⟩, by simp only [go_sem, reduceIte, Nat.reduceLT, Nat.reduceEqDiff, Nat.reduceAdd, hb_3190, hb_3192, hb_3194], (weak_sel [0, 1, 2, 3, 4] (by decide) rfl (by simp only [go_sem, reduceIte, Nat.reduceLT, Nat.reduceEqDiff, Nat.reduceAdd]) (by simp only [go_sem, reduceIte, Nat.reduceLT, Nat.reduceEqDiff, Nat.reduceAdd]))⟩
              · replace hv_3188 := ite_f hv_3188 hb_3194
                replace hv_3188 := bind_some1 hv_3188; obtain ⟨y_3186, hy_3195, hv_3188⟩ := hv_3188
                have e_hv_3188 := Option.some.inj hv_3188; subst e_hv_3188
                exact ⟨_, [(1, .ref 0 0), (2, .ref 1 0), (3, .ref 2 0), (4, .ref 3 0), (82, .bool ((!y_3186)))], [.box [i64 y_3112.Kind, i64 y_3112.N, .sl false (L cU8 y_3112.B), .sl false (L cApi_Value y_3112.L)] false, .box [i64 y_3114.Kind, i64 y_3114.N, .sl false (L cU8 y_3114.B), .sl false (L cApi_Value y_3114.L)] false, .box [i64 y_3118.Kind, i64 y_3118.N, .sl false (L cU8 y_3118.B), .sl false (L cApi_Value y_3118.L)] false, .box [i64 1, i64 0, .bs true 4 (l_3122.length) 0 (l_3122.length), .sl true (L cApi_Value ([]))] false, .buf 1 (L cU8 l_3122) false], orcs_ok (l := [(69, 33, [.str (([] : List UInt8)), i64 5], .bool y_3183), (72, 33, [.str (([34, 1] : List UInt8)), i64 5], .bool y_3184), (76, 33, [.str (([48, 97, 0] : List UInt8)), i64 5], .bool y_3185), (80, 33, [.str (([64, 32] : List UInt8)), i64 5], .bool y_3186)]) ⟨law01_fails_con  hy_3189, law01_fails_con  hy_3191, law01_fails_con  hy_3193, law01_fails_con  hy_3195, trivial⟩, by simp only [go_sem, reduceIte, Nat.reduceLT, Nat.reduceEqDiff, Nat.reduceAdd, hb_3190, hb_3192, hb_3194], (weak_sel [0, 1, 2, 3, 4] (by decide) rfl (by simp only [go_sem, reduceIte, Nat.reduceLT, Nat.reduceEqDiff, Nat.reduceAdd]) (by simp only [go_sem, reduceIte, Nat.reduceLT, Nat.reduceEqDiff, Nat.reduceAdd]))⟩
        refine run_condL (b := t_3187) rfl (by decide) (fun hb => ?_) (fun hb => ?_)
        · replace h := ite_t h hb
          refine run_textE hE [0] (fr' := [(0, .bool false)]) (σ' := [.box [i64 y_3112.Kind, i64 y_3112.N, .sl false (L cU8 y_3112.B), .sl false (L cApi_Value y_3112.L)] false, .box [i64 y_3114.Kind, i64 y_3114.N, .sl false (L cU8 y_3114.B), .sl false (L cApi_Value y_3114.L)] false, .box [i64 y_3118.Kind, i64 y_3118.N, .sl false (L cU8 y_3118.B), .sl false (L cApi_Value y_3118.L)] false, .box [i64 1, i64 0, .bs true 4 (l_3122.length) 0 (l_3122.length), .sl true (L cApi_Value ([]))] false, .buf 1 (L cU8 l_3122) false]) ⟨_, orcs_nil, ?_⟩ ?_
          · simp only [go_sem, reduceIte, Nat.reduceLT, Nat.reduceEqDiff, Nat.reduceAdd]
          refine run_ret ?_
          refine thenK_r ?_
          obtain rfl := Option.some.inj h
          refine ret_ok (.inr rfl) ?_
          simp only [go_sem, reduceIte, Nat.reduceLT, Nat.reduceEqDiff, Nat.reduceAdd]
        · replace h := ite_f h hb
          refine run_skip ?_
          refine thenK_n ?_
          refine run_seq ?_
          replace h := bind_some1 h; obtain ⟨t_3201, hv_3202, h⟩ := h
          refine run_textW hE [1, 2, 3, 4, 100] (fr' := [(1, .ref 0 0), (2, .ref 1 0), (3, .ref 2 0), (4, .ref 3 0), (100, .bool t_3201)]) (σ' := [.box [i64 y_3112.Kind, i64 y_3112.N, .sl false (L cU8 y_3112.B), .sl false (L cApi_Value y_3112.L)] false, .box [i64 y_3114.Kind, i64 y_3114.N, .sl false (L cU8 y_3114.B), .sl false (L cApi_Value y_3114.L)] false, .box [i64 y_3118.Kind, i64 y_3118.N, .sl false (L cU8 y_3118.B), .sl false (L cApi_Value y_3118.L)] false, .box [i64 1, i64 0, .bs true 4 (l_3122.length) 0 (l_3122.length), .sl true (L cApi_Value ([]))] false, .buf 1 (L cU8 l_3122) false]) ?_ ?_
          · replace hv_3202 := bind_some1 hv_3202; obtain ⟨y_3196, hy_3203, hv_3202⟩ := hv_3202
            rcases Bool.eq_false_or_eq_true ((!y_3196)) with hb_3204 | hb_3204
            · replace hv_3202 := ite_t hv_3202 hb_3204
              have e_hv_3202 := Option.some.inj hv_3202; subst e_hv_3202
              exact ⟨_, [(1, .ref 0 0), (2, .ref 1 0), (3, .ref 2 0), (4, .ref 3 0), (100, .bool true)], [.box [i64 y_3112.Kind, i64 y_3112.N, .sl false (L cU8 y_3112.B), .sl false (L cApi_Value y_3112.L)] false, .box [i64 y_3114.Kind, i64 y_3114.N, .sl false (L cU8 y_3114.B), .sl false (L cApi_Value y_3114.L)] false, .box [i64 y_3118.Kind, i64 y_3118.N, .sl false (L cU8 y_3118.B), .sl false (L cApi_Value y_3118.L)] false, .box [i64 1, i64 0, .bs true 4 (l_3122.length) 0 (l_3122.length), .sl true (L cApi_Value ([]))] false, .buf 1 (L cU8 l_3122) false], orcs_ok (l := [(83, 33, [.str (([33, 0] : List UInt8)), i64 4], .bool y_3196)]) ⟨law01_fails_con  hy_3203, trivial⟩, by simp only [go_sem, reduceIte, Nat.reduceLT, Nat.reduceEqDiff, Nat.reduceAdd, hb_3204], (weak_sel [0, 1, 2, 3, 4] (by decide) rfl (by simp only [go_sem, reduceIte, Nat.reduceLT, Nat.reduceEqDiff, Nat.reduceAdd]) (by simp only [go_sem, reduceIte, Nat.reduceLT, Nat.reduceEqDiff, Nat.reduceAdd]))⟩
            · replace hv_3202 := ite_f hv_3202 hb_3204
              replace hv_3202 := bind_some1 hv_3202; obtain ⟨y_3197, hy_3205, hv_3202⟩ := hv_3202
              rcases Bool.eq_false_or_eq_true ((!y_3197)) with hb_3206 | hb_3206
              · replace hv_3202 := ite_t hv_3202 hb_3206
                have e_hv_3202 := Option.some.inj hv_3202; subst e_hv_3202
                exact ⟨_, [(1, .ref 0 0), (2, .ref 1 0), (3, .ref 2 0), (4, .ref 3 0), (100, .bool true)], [.box [i64 y_3112.Kind, i64 y_3112.N, .sl false (L cU8 y_3112.B), .sl false (L cApi_Value y_3112.L)] false, .box [i64 y_3114.Kind, i64 y_3114.N, .sl false (L cU8 y_3114.B), .sl false (L cApi_Value y_3114.L)] false, .box [i64 y_3118.Kind, i64 y_3118.N, .sl false (L cU8 y_3118.B), .sl false (L cApi_Value y_3118.L)] false, .box [i64 1, i64 0, .bs true 4 (l_3122.length) 0 (l_3122.length), .sl true (L cApi_Value ([]))] false, .buf 1 (L cU8 l_3122) false], orcs_ok (l := [(83, 33, [.str (([33, 0] : List UInt8)), i64 4], .bool y_3196), (86, 33, [.str (([32, 32] : List UInt8)), i64 4], .bool y_3197)]) ⟨law01_fails_con  hy_3203, law01_fails_con  hy_3205, trivial⟩, by simp only [go_sem, reduceIte, Nat.reduceLT, Nat.reduceEqDiff, Nat.reduceAdd, hb_3204, hb_3206], (weak_sel [0, 1, 2, 3, 4] (by decide) rfl (by simp only [go_sem, reduceIte, Nat.reduceLT, Nat.reduceEqDiff, Nat.reduceAdd]) (by simp only [go_sem, reduceIte, Nat.reduceLT, Nat.reduceEqDiff, Nat.reduceAdd]))⟩
              · replace hv_3202 := ite_f hv_3202 hb_3206
                replace hv_3202 := bind_some1 hv_3202; obtain ⟨y_3198, hy_3207, hv_3202⟩ := hv_3202
                rcases Bool.eq_false_or_eq_true ((!y_3198)) with hb_3208 | hb_3208
                · replace hv_3202 := ite_t hv_3202 hb_3208
                  have e_hv_3202 := Option.some.inj hv_3202; subst e_hv_3202
                  exact ⟨_, [(1, .ref 0 0), (2, .ref 1 0), (3, .ref 2 0), (4, .ref 3 0), (100, .bool true)], [.box [i64 y_3112.Kind, i64 y_3112.N, .sl false (L cU8 y_3112.B), .sl false (L cApi_Value y_3112.L)] false, .box [i64 y_3114.Kind, i64 y_3114.N, .sl false (L cU8 y_3114.B), .sl false (L cApi_Value y_3114.L)] false, .box [i64 y_3118.Kind, i64 y_3118.N, .sl false (L cU8 y_3118.B), .sl false (L cApi_Value y_3118.L)] false, .box [i64 1, i64 0, .bs true 4 (l_3122.length) 0 (l_3122.length), .sl true (L cApi_Value ([]))] false, .buf 1 (L cU8 l_3122) false], orcs_ok (l := [(83, 33, [.str (([33, 0] : List UInt8)), i64 4], .bool y_3196), (86, 33, [.str (([32, 32] : List UInt8)), i64 4], .bool y_3197), (90, 33, [.str (([48, 0, 1] : List UInt8)), i64 4], .bool y_3198)]) ⟨law01_fails_con  hy_3203, law01_fails_con  hy_3205, law01_fails_con  hy_3207, trivial⟩, by simp only [go_sem, reduceIte, Nat.reduceLT, Nat.reduceEqDiff, Nat.reduceAdd, hb_3204, hb_3206, hb_3208], (weak_sel [0, 1, 2, 3, 4] (by decide) rfl (by simp only [go_sem, reduceIte, Nat.reduceLT, Nat.reduceEqDiff, Nat.reduceAdd]) (by simp only [go_sem, reduceIte, Nat.reduceLT, Nat.reduceEqDiff, Nat.reduceAdd]))⟩
                · replace hv_3202 := ite_f hv_3202 hb_3208
                  replace hv_3202 := bind_some1 hv_3202; obtain ⟨y_3199, hy_3209, hv_3202⟩ := hv_3202
                  rcases Bool.eq_false_or_eq_true ((!y_3199)) with hb_3210 | hb_3210
                  · replace hv_3202 := ite_t hv_3202 hb_3210
                    have e_hv_3202 := Option.some.inj hv_3202; subst e_hv_3202
                    exact ⟨_, [(1, .ref 0 0), (2, .ref 1 0), (3, .ref 2 0), (4, .ref 3 0), (100, .bool true)], [.box [i64 y_3112.Kind, i64 y_3112.N, .sl false (L cU8 y_3112.B), .sl false (L cApi_Value y_3112.L)] false, .box [i64 y_3114.Kind, i64 y_3114.N, .sl false (L cU8 y_3114.B), .sl false (L cApi_Value y_3114.L)] false, .box [i64 y_3118.Kind, i64 y_3118.N, .sl false (L cU8 y_3118.B), .sl false (L cApi_Value y_3118.L)] false, .box [i64 1, i64 0, .bs true 4 (l_3122.length) 0 (l_3122.length), .sl true (L cApi_Value ([]))] false, .buf 1 (L cU8 l_3122) false], orcs_ok (l := [(83, 33, [.str (([33, 0] : List UInt8)), i64 4], .bool y_3196), (86, 33, [.str (([32, 32] : List UInt8)), i64 4], .bool y_3197), (90, 33, [.str (([48, 0, 1] : List UInt8)), i64 4], .bool y_3198), (94, 33, [.str (([65] : List UInt8)), i64 4], .bool y_3199)]) ⟨law01_fails_con  hy_3203, law01_fails_con  hy_3205, law01_fails_con  hy_3207, law01_fails_con  hy_3209, trivial⟩, by simp only [go_sem, reduceIte, Nat.reduceLT, Nat.reduceEqDiff, Nat.reduceAdd, hb_3204, hb_3206, hb_3208, hb_3210], (weak_sel [0, 1, 2, 3, 4] (by decide) rfl (by simp only [go_sem, reduceIte, Nat.reduceLT, Nat.reduceEqDiff, Nat.reduceAdd]) (by simp only [go_sem, reduceIte, Nat.reduceLT, Nat.reduceEqDiff, Nat.reduceAdd]))⟩
                  · replace hv_3202 := ite_f hv_3202 hb_3210
                    replace hv_3202 := bind_some1 hv_3202; obtain ⟨y_3200, hy_3211, hv_3202⟩ := hv_3202
                    have e_hv_3202 := Option.some.inj hv_3202; subst e_hv_3202
                    exact ⟨_, [(1, .ref 0 0), (2, .ref 1 0), (3, .ref 2 0), (4, .ref 3 0), (100, .bool ((!y_3200)))], [.box [i64 y_3112.Kind, i64 y_3112.N, .sl false (L cU8 y_3112.B), .sl false (L cApi_Value y_3112.L)] false, .box [i64 y_3114.Kind, i64 y_3114.N, .sl false (L cU8 y_3114.B), .sl false (L cApi_Value y_3114.L)] false, .box [i64 y_3118.Kind, i64 y_3118.N, .sl false (L cU8 y_3118.B), .sl false (L cApi_Value y_3118.L)] false, .box [i64 1, i64 0, .bs true 4 (l_3122.length) 0 (l_3122.length), .sl true (L cApi_Value ([]))] false, .buf 1 (L cU8 l_3122) false], orcs_ok (l := [(83, 33, [.str (([33, 0] : List UInt8)), i64 4], .bool y_3196), (86, 33, [.str (([32, 32] : List UInt8)), i64 4], .bool y_3197), (90, 33, [.str (([48, 0, 1] : List UInt8)), i64 4], .bool y_3198), (94, 33, [.str (([65] : List UInt8)), i64 4], .bool y_3199), (98, 33, [.str (([40, 128] : List UInt8)), i64 4], .bool y_3200)]) ⟨law01_fails_con  hy_3203, law01_fails_con  hy_3205, law01_fails_con  hy_3207, law01_fails_con  hy_3209, law01_fails_con  hy_3211, trivial⟩, by simp only [go_sem, reduceIte, Nat.reduceLT, Nat.reduceEqDiff, Nat.reduceAdd, hb_3204, hb_3206, hb_3208, hb_3210], (weak_sel [0, 1, 2, 3, 4] (by decide) rfl (by simp only [go_sem, reduceIte, Nat.reduceLT, Nat.reduceEqDiff, Nat.reduceAdd]) (by simp only [go_sem, reduceIte, Nat.reduceLT, Nat.reduceEqDiff, Nat.reduceAdd]))⟩
          refine run_condL (b := t_3201) rfl (by decide) (fun hb => ?_) (fun hb => ?_)
          · replace h := ite_t h hb
            refine run_textE hE [0] (fr' := [(0, .bool false)]) (σ' := [.box [i64 y_3112.Kind, i64 y_3112.N, .sl false (L cU8 y_3112.B), .sl false (L cApi_Value y_3112.L)] false, .box [i64 y_3114.Kind, i64 y_3114.N, .sl false (L cU8 y_3114.B), .sl false (L cApi_Value y_3114.L)] false, .box [i64 y_3118.Kind, i64 y_3118.N, .sl false (L cU8 y_3118.B), .sl false (L cApi_Value y_3118.L)] false, .box [i64 1, i64 0, .bs true 4 (l_3122.length) 0 (l_3122.length), .sl true (L cApi_Value ([]))] false, .buf 1 (L cU8 l_3122) false]) ⟨_, orcs_nil, ?_⟩ ?_
            · simp only [go_sem, reduceIte, Nat.reduceLT, Nat.reduceEqDiff, Nat.reduceAdd]
            refine run_ret ?_
            refine thenK_r ?_
            obtain rfl := Option.some.inj h
            refine ret_ok (.inr rfl) ?_
            simp only [go_sem, reduceIte, Nat.reduceLT, Nat.reduceEqDiff, Nat.reduceAdd]
          · replace h := ite_f h hb
            refine run_skip ?_
            refine thenK_n ?_
            replace h := bind_some1 h; obtain ⟨t_3222, hv_3223, h⟩ := h
            refine run_textW hE [0] (fr' := [(0, .bool t_3222)]) (σ' := []) ?_ ?_
            · replace hv_3223 := bind_some1 hv_3223; obtain ⟨y_3212, hy_3224, hv_3223⟩ := hv_3223
              rcases Bool.eq_false_or_eq_true ((y_3212 == 10)) with hb_3225 | hb_3225
              · replace hv_3223 := ite_t hv_3223 hb_3225
                replace hv_3223 := bind_some1 hv_3223; obtain ⟨y_3213, hy_3226, hv_3223⟩ := hv_3223
                rcases Bool.eq_false_or_eq_true ((y_3213 == 0)) with hb_3227 | hb_3227
                · replace hv_3223 := ite_t hv_3223 hb_3227
                  replace hv_3223 := bind_some1 hv_3223; obtain ⟨y_3214, hy_3228, hv_3223⟩ := hv_3223
                  replace hv_3223 := bind_some1 hv_3223; obtain ⟨y_3215, hy_3229, hv_3223⟩ := hv_3223
                  replace hv_3223 := bind_some1 hv_3223; obtain ⟨y_3216, hy_3230, hv_3223⟩ := hv_3223
                  rcases Bool.eq_false_or_eq_true ((y_3216 == (-1))) with hb_3231 | hb_3231
                  · replace hv_3223 := ite_t hv_3223 hb_3231
                    replace hv_3223 := bind_some1 hv_3223; obtain ⟨y_3217, hy_3232, hv_3223⟩ := hv_3223
                    replace hv_3223 := bind_some1 hv_3223; obtain ⟨y_3218, hy_3233, hv_3223⟩ := hv_3223
                    replace hv_3223 := bind_some1 hv_3223; obtain ⟨y_3219, hy_3234, hv_3223⟩ := hv_3223
                    rcases Bool.eq_false_or_eq_true ((y_3219 == 1)) with hb_3235 | hb_3235
                    · replace hv_3223 := ite_t hv_3223 hb_3235
                      replace hv_3223 := bind_some1 hv_3223; obtain ⟨y_3220, hy_3236, hv_3223⟩ := hv_3223
                      rcases Bool.eq_false_or_eq_true ((y_3220 == (-1))) with hb_3237 | hb_3237
                      · replace hv_3223 := ite_t hv_3223 hb_3237
                        replace hv_3223 := bind_some1 hv_3223; obtain ⟨y_3221, hy_3238, hv_3223⟩ := hv_3223
                        have e_hv_3223 := Option.some.inj hv_3223; subst e_hv_3223
                        exact ⟨_, [(0, .bool ((y_3221 == 0)))], [.box [i64 y_3112.Kind, i64 y_3112.N, .sl false (L cU8 y_3112.B), .sl false (L cApi_Value y_3112.L)] false, .box [i64 y_3114.Kind, i64 y_3114.N, .sl false (L cU8 y_3114.B), .sl false (L cApi_Value y_3114.L)] false, .box [i64 y_3118.Kind, i64 y_3118.N, .sl false (L cU8 y_3118.B), .sl false (L cApi_Value y_3118.L)] false, .box [i64 1, i64 0, .bs true 4 (l_3122.length) 0 (l_3122.length), .sl true (L cApi_Value ([]))] false, .buf 1 (L cU8 l_3122) false], orcs_ok (l := [(102, 16, [.agg [i64 1, i64 0, .sl false (L cU8 l_3122), .sl false (L cApi_Value ([]))]], i64 y_3212), (106, 16, [.agg [i64 y_3118.Kind, i64 y_3118.N, .sl false (L cU8 y_3118.B), .sl false (L cApi_Value y_3118.L)]], i64 y_3213), (110, 29, [i64 1], .agg [i64 y_3214.Kind, i64 y_3214.N, .sl false (L cU8 y_3214.B), .sl false (L cApi_Value y_3214.L)]), (111, 29, [i64 256], .agg [i64 y_3215.Kind, i64 y_3215.N, .sl false (L cU8 y_3215.B), .sl false (L cApi_Value y_3215.L)]), (112, 19, [.agg [i64 y_3214.Kind, i64 y_3214.N, .sl false (L cU8 y_3214.B), .sl false (L cApi_Value y_3214.L)], .agg [i64 y_3215.Kind, i64 y_3215.N, .sl false (L cU8 y_3215.B), .sl false (L cApi_Value y_3215.L)]], i64 y_3216), (116, 31, [.str (([] : List UInt8))], .agg [i64 y_3217.Kind, i64 y_3217.N, .sl false (L cU8 y_3217.B), .sl false (L cApi_Value y_3217.L)]), (117, 29, [i64 256], .agg [i64 y_3218.Kind, i64 y_3218.N, .sl false (L cU8 y_3218.B), .sl false (L cApi_Value y_3218.L)]), (118, 19, [.agg [i64 y_3217.Kind, i64 y_3217.N, .sl false (L cU8 y_3217.B), .sl false (L cApi_Value y_3217.L)], .agg [i64 y_3218.Kind, i64 y_3218.N, .sl false (L cU8 y_3218.B), .sl false (L cApi_Value y_3218.L)]], i64 y_3219), (124, 19, [.agg [i64 y_3112.Kind, i64 y_3112.N, .sl false (L cU8 y_3112.B), .sl false (L cApi_Value y_3112.L)], .agg [i64 y_3114.Kind, i64 y_3114.N, .sl false (L cU8 y_3114.B), .sl false (L cApi_Value y_3114.L)]], i64 y_3220), (130, 19, [.agg [i64 y_3112.Kind, i64 y_3112.N, .sl false (L cU8 y_3112.B), .sl false (L cApi_Value y_3112.L)], .agg [i64 y_3112.Kind, i64 y_3112.N, .sl false (L cU8 y_3112.B), .sl false (L cApi_Value y_3112.L)]], i64 y_3221)]) ⟨codec_Check_con  hy_3224, codec_Check_con  hy_3226, r01_Int_con  hy_3228, r01_Int_con  hy_3229, codec_Compare_con  hy_3230, r01_Text_con  hy_3232, r01_Int_con  hy_3233, codec_Compare_con  hy_3234, codec_Compare_con  hy_3236, codec_Compare_con  hy_3238, trivial⟩, by simp only [go_sem, reduceIte, Nat.reduceLT, Nat.reduceEqDiff, Nat.reduceAdd, hb_3225, hb_3227, hb_3231, hb_3235, hb_3237], (weak_sel [] (by decide) rfl (by simp only [go_sem, reduceIte, Nat.reduceLT, Nat.reduceEqDiff, Nat.reduceAdd]) (by simp only [go_sem, reduceIte, Nat.reduceLT, Nat.reduceEqDiff, Nat.reduceAdd]))⟩
                      · replace hv_3223 := ite_f hv_3223 hb_3237
                        have e_hv_3223 := Option.some.inj hv_3223; subst e_hv_3223
                        exact ⟨_, [(0, .bool false)], [.box [i64 y_3112.Kind, i64 y_3112.N, .sl false (L cU8 y_3112.B), .sl false (L cApi_Value y_3112.L)] false, .box [i64 y_3114.Kind, i64 y_3114.N, .sl false (L cU8 y_3114.B), .sl false (L cApi_Value y_3114.L)] false, .box [i64 y_3118.Kind, i64 y_3118.N, .sl false (L cU8 y_3118.B), .sl false (L cApi_Value y_3118.L)] false, .box [i64 1, i64 0, .bs true 4 (l_3122.length) 0 (l_3122.length), .sl true (L cApi_Value ([]))] false, .buf 1 (L cU8 l_3122) false], orcs_ok (l := [(102, 16, [.agg [i64 1, i64 0, .sl false (L cU8 l_3122), .sl false (L cApi_Value ([]))]], i64 y_3212), (106, 16, [.agg [i64 y_3118.Kind, i64 y_3118.N, .sl false (L cU8 y_3118.B), .sl false (L cApi_Value y_3118.L)]], i64 y_3213), (110, 29, [i64 1], .agg [i64 y_3214.Kind, i64 y_3214.N, .sl false (L cU8 y_3214.B), .sl false (L cApi_Value y_3214.L)]), (111, 29, [i64 256], .agg [i64 y_3215.Kind, i64 y_3215.N, .sl false (L cU8 y_3215.B), .sl false (L cApi_Value y_3215.L)]), (112, 19, [.agg [i64 y_3214.Kind, i64 y_3214.N, .sl false (L cU8 y_3214.B), .sl false (L cApi_Value y_3214.L)], .agg [i64 y_3215.Kind, i64 y_3215.N, .sl false (L cU8 y_3215.B), .sl false (L cApi_Value y_3215.L)]], i64 y_3216), (116, 31, [.str (([] : List UInt8))], .agg [i64 y_3217.Kind, i64 y_3217.N, .sl false (L cU8 y_3217.B), .sl false (L cApi_Value y_3217.L)]), (117, 29, [i64 256], .agg [i64 y_3218.Kind, i64 y_3218.N, .sl false (L cU8 y_3218.B), .sl false (L cApi_Value y_3218.L)]), (118, 19, [.agg [i64 y_3217.Kind, i64 y_3217.N, .sl false (L cU8 y_3217.B), .sl false (L cApi_Value y_3217.L)], .agg [i64 y_3218.Kind, i64 y_3218.N, .sl false (L cU8 y_3218.B), .sl false (L cApi_Value y_3218.L)]], i64 y_3219), (124, 19, [.agg [i64 y_3112.Kind, i64 y_3112.N, .sl false (L cU8 y_3112.B), .sl false (L cApi_Value y_3112.L)], .agg [i64 y_3114.Kind, i64 y_3114.N, .sl false (L cU8 y_3114.B), .sl false (L cApi_Value y_3114.L)]], i64 y_3220)]) ⟨codec_Check_con  hy_3224, codec_Check_con  hy_3226, r01_Int_con  hy_3228, r01_Int_con  hy_3229, codec_Compare_con  hy_3230, r01_Text_con  hy_3232, r01_Int_con  hy_3233, codec_Compare_con  hy_3234, codec_Compare_con  hy_3236, trivial⟩, by simp only [go_sem, reduceIte, Nat.reduceLT, Nat.reduceEqDiff, Nat.reduceAdd, hb_3225, hb_3227, hb_3231, hb_3235, hb_3237], (weak_sel [] (by decide) rfl (by simp only [go_sem, reduceIte, Nat.reduceLT, Nat.reduceEqDiff, Nat.reduceAdd]) (by simp only [go_sem, reduceIte, Nat.reduceLT, Nat.reduceEqDiff, Nat.reduceAdd]))⟩
                    · replace hv_3223 := ite_f hv_3223 hb_3235
                      have e_hv_3223 := Option.some.inj hv_3223; subst e_hv_3223
                      exact ⟨_, [(0, .bool false)], [.box [i64 y_3112.Kind, i64 y_3112.N, .sl false (L cU8 y_3112.B), .sl false (L cApi_Value y_3112.L)] false, .box [i64 y_3114.Kind, i64 y_3114.N, .sl false (L cU8 y_3114.B), .sl false (L cApi_Value y_3114.L)] false, .box [i64 y_3118.Kind, i64 y_3118.N, .sl false (L cU8 y_3118.B), .sl false (L cApi_Value y_3118.L)] false, .box [i64 1, i64 0, .bs true 4 (l_3122.length) 0 (l_3122.length), .sl true (L cApi_Value ([]))] false, .buf 1 (L cU8 l_3122) false], orcs_ok (l := [(102, 16, [.agg [i64 1, i64 0, .sl false (L cU8 l_3122), .sl false (L cApi_Value ([]))]], i64 y_3212), (106, 16, [.agg [i64 y_3118.Kind, i64 y_3118.N, .sl false (L cU8 y_3118.B), .sl false (L cApi_Value y_3118.L)]], i64 y_3213), (110, 29, [i64 1], .agg [i64 y_3214.Kind, i64 y_3214.N, .sl false (L cU8 y_3214.B), .sl false (L cApi_Value y_3214.L)]), (111, 29, [i64 256], .agg [i64 y_3215.Kind, i64 y_3215.N, .sl false (L cU8 y_3215.B), .sl false (L cApi_Value y_3215.L)]), (112, 19, [.agg [i64 y_3214.Kind, i64 y_3214.N, .sl false (L cU8 y_3214.B), .sl false (L cApi_Value y_3214.L)], .agg [i64 y_3215.Kind, i64 y_3215.N, .sl false (L cU8 y_3215.B), .sl false (L cApi_Value y_3215.L)]], i64 y_3216), (116, 31, [.str (([] : List UInt8))], .agg [i64 y_3217.Kind, i64 y_3217.N, .sl false (L cU8 y_3217.B), .sl false (L cApi_Value y_3217.L)]), (117, 29, [i64 256], .agg [i64 y_3218.Kind, i64 y_3218.N, .sl false (L cU8 y_3218.B), .sl false (L cApi_Value y_3218.L)]), (118, 19, [.agg [i64 y_3217.Kind, i64 y_3217.N, .sl false (L cU8 y_3217.B), .sl false (L cApi_Value y_3217.L)], .agg [i64 y_3218.Kind, i64 y_3218.N, .sl false (L cU8 y_3218.B), .sl false (L cApi_Value y_3218.L)]], i64 y_3219)]) ⟨codec_Check_con  hy_3224, codec_Check_con  hy_3226, r01_Int_con  hy_3228, r01_Int_con  hy_3229, codec_Compare_con  hy_3230, r01_Text_con  hy_3232, r01_Int_con  hy_3233, codec_Compare_con  hy_3234, trivial⟩, by simp only [go_sem, reduceIte, Nat.reduceLT, Nat.reduceEqDiff, Nat.reduceAdd, hb_3225, hb_3227, hb_3231, hb_3235], (weak_sel [] (by decide) rfl (by simp only [go_sem, reduceIte, Nat.reduceLT, Nat.reduceEqDiff, Nat.reduceAdd]) (by simp only [go_sem, reduceIte, Nat.reduceLT, Nat.reduceEqDiff, Nat.reduceAdd]))⟩
                  · replace hv_3223 := ite_f hv_3223 hb_3231
                    have e_hv_3223 := Option.some.inj hv_3223; subst e_hv_3223
                    exact ⟨_, [(0, .bool false)], [.box [i64 y_3112.Kind, i64 y_3112.N, .sl false (L cU8 y_3112.B), .sl false (L cApi_Value y_3112.L)] false, .box [i64 y_3114.Kind, i64 y_3114.N, .sl false (L cU8 y_3114.B), .sl false (L cApi_Value y_3114.L)] false, .box [i64 y_3118.Kind, i64 y_3118.N, .sl false (L cU8 y_3118.B), .sl false (L cApi_Value y_3118.L)] false, .box [i64 1, i64 0, .bs true 4 (l_3122.length) 0 (l_3122.length), .sl true (L cApi_Value ([]))] false, .buf 1 (L cU8 l_3122) false], orcs_ok (l := [(102, 16, [.agg [i64 1, i64 0, .sl false (L cU8 l_3122), .sl false (L cApi_Value ([]))]], i64 y_3212), (106, 16, [.agg [i64 y_3118.Kind, i64 y_3118.N, .sl false (L cU8 y_3118.B), .sl false (L cApi_Value y_3118.L)]], i64 y_3213), (110, 29, [i64 1], .agg [i64 y_3214.Kind, i64 y_3214.N, .sl false (L cU8 y_3214.B), .sl false (L cApi_Value y_3214.L)]), (111, 29, [i64 256], .agg [i64 y_3215.Kind, i64 y_3215.N, .sl false (L cU8 y_3215.B), .sl false (L cApi_Value y_3215.L)]), (112, 19, [.agg [i64 y_3214.Kind, i64 y_3214.N, .sl false (L cU8 y_3214.B), .sl false (L cApi_Value y_3214.L)], .agg [i64 y_3215.Kind, i64 y_3215.N, .sl false (L cU8 y_3215.B), .sl false (L cApi_Value y_3215.L)]], i64 y_3216)]) ⟨codec_Check_con  hy_3224, codec_Check_con  hy_3226, r01_Int_con  hy_3228, r01_Int_con  hy_3229, codec_Compare_con  hy_3230, trivial⟩, by simp only [go_sem, reduceIte, Nat.reduceLT, Nat.reduceEqDiff, Nat.reduceAdd, hb_3225, hb_3227, hb_3231], (weak_sel [] (by decide) rfl (by simp only [go_sem, reduceIte, Nat.reduceLT, Nat.reduceEqDiff, Nat.reduceAdd]) (by simp only [go_sem, reduceIte, Nat.reduceLT, Nat.reduceEqDiff, Nat.reduceAdd]))⟩
                · replace hv_3223 := ite_f hv_3223 hb_3227
                  have e_hv_3223 := Option.some.inj hv_3223; subst e_hv_3223
                  exact ⟨_, [(0, .bool false)], [.box [i64 y_3112.Kind, i64 y_3112.N, .sl false (L cU8 y_3112.B), .sl false (L cApi_Value y_3112.L)] false, .box [i64 y_3114.Kind, i64 y_3114.N, .sl false (L cU8 y_3114.B), .sl false (L cApi_Value y_3114.L)] false, .box [i64 y_3118.Kind, i64 y_3118.N, .sl false (L cU8 y_3118.B), .sl false (L cApi_Value y_3118.L)] false, .box [i64 1, i64 0, .bs true 4 (l_3122.length) 0 (l_3122.length), .sl true (L cApi_Value ([]))] false, .buf 1 (L cU8 l_3122) false], orcs_ok (l := [(102, 16, [.agg [i64 1, i64 0, .sl false (L cU8 l_3122), .sl false (L cApi_Value ([]))]], i64 y_3212), (106, 16, [.agg [i64 y_3118.Kind, i64 y_3118.N, .sl false (L cU8 y_3118.B), .sl false (L cApi_Value y_3118.L)]], i64 y_3213)]) ⟨codec_Check_con  hy_3224, codec_Check_con  hy_3226, trivial⟩, by simp only [go_sem, reduceIte, Nat.reduceLT, Nat.reduceEqDiff, Nat.reduceAdd, hb_3225, hb_3227], (weak_sel [] (by decide) rfl (by simp only [go_sem, reduceIte, Nat.reduceLT, Nat.reduceEqDiff, Nat.reduceAdd]) (by simp only [go_sem, reduceIte, Nat.reduceLT, Nat.reduceEqDiff, Nat.reduceAdd]))⟩
              · replace hv_3223 := ite_f hv_3223 hb_3225
                have e_hv_3223 := Option.some.inj hv_3223; subst e_hv_3223
                exact ⟨_, [(0, .bool false)], [.box [i64 y_3112.Kind, i64 y_3112.N, .sl false (L cU8 y_3112.B), .sl false (L cApi_Value y_3112.L)] false, .box [i64 y_3114.Kind, i64 y_3114.N, .sl false (L cU8 y_3114.B), .sl false (L cApi_Value y_3114.L)] false, .box [i64 y_3118.Kind, i64 y_3118.N, .sl false (L cU8 y_3118.B), .sl false (L cApi_Value y_3118.L)] false, .box [i64 1, i64 0, .bs true 4 (l_3122.length) 0 (l_3122.length), .sl true (L cApi_Value ([]))] false, .buf 1 (L cU8 l_3122) false], orcs_ok (l := [(102, 16, [.agg [i64 1, i64 0, .sl false (L cU8 l_3122), .sl false (L cApi_Value ([]))]], i64 y_3212)]) ⟨codec_Check_con  hy_3224, trivial⟩, by simp only [go_sem, reduceIte, Nat.reduceLT, Nat.reduceEqDiff, Nat.reduceAdd, hb_3225], (weak_sel [] (by decide) rfl (by simp only [go_sem, reduceIte, Nat.reduceLT, Nat.reduceEqDiff, Nat.reduceAdd]) (by simp only [go_sem, reduceIte, Nat.reduceLT, Nat.reduceEqDiff, Nat.reduceAdd]))⟩
            refine run_ret ?_
            obtain rfl := Option.some.inj h
            refine ret_ok (.inr rfl) ?_
            simp only [go_sem, reduceIte, Nat.reduceLT, Nat.reduceEqDiff, Nat.reduceAdd]

end Go.Proofs.Ytihncddenjbecaa
