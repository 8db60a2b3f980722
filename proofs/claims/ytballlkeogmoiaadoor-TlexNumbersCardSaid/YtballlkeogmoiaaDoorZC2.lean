/-
  The library and the walks, part 2.
-/
import Derived.Test.YtballlkeogmoiaaDoorZC1
import Derived.KernelRfl
import Derived.Shelf.Strconv.Itoa3
import Derived.Test.YtballlkeogmoiaaDoorProg
import Derived.Lib.AppendIntMem
import Derived.Test.YtballlkeogmoiaaDoorR28
import Derived.Lib.Bytealg
import Derived.Lib.Join
import Derived.Test.YtballlkeogmoiaaDoorRows
import Derived.Test.YtballlkeogmoiaaDoorR38
import Derived.Lib.LaidTab
import Derived.WalkKit
import Derived.ProofKit
import Derived.OpenShut
import Derived.JoinedCond
import Derived.LaidMore
import Derived.Lay
import Derived.SevenTiedAt
import Derived.Stop.Joined
/-
  The functions compute just that.
-/
namespace Go.Proofs.YtballlkeogmoiaaDoor
open Go.Rv
set_option linter.unusedVariables false
set_option linter.unusedSimpArgs false
set_option maxRecDepth 20000
variable {rs : Nat → Nat}
set_option maxHeartbeats 4000000

theorem law15_sane_con  {r : Bool} (h : law15_sane  = some r) : Con (B rs) 10 [] [] (fun r' σ' => r' = .bool r ∧ σ' = []) := by
  refine con_walk (N := 143) (rs := [.tmp 0]) ok Tryd.func10 rfl (by decide +kernel) rfl rfl (Nat.le_of_ble_eq_true rfl) (fun F => ?_)
  have hE := (ok (rs := rs)).env F
  unfold law15_sane at h
  show Run ((B rs).env F) 0 _ ⟨asFr 143 [], []⟩ _
  refine run_textE hE [] (fr' := []) (σ' := []) ⟨_, orcs_nil, ?_⟩ ?_
  · simp only [go_sem, reduceIte, Nat.reduceLT, Nat.reduceEqDiff, Nat.reduceAdd]
  replace h := bind_some1 h; obtain ⟨y_1330, hy_1331, h⟩ := h
  refine run_textE hE [1, 2, 3] (fr' := [(1, .sl false (L cApi_Token y_1330.1)), (2, i64 y_1330.2.1), (3, i64 y_1330.2.2)]) (σ' := []) ⟨_, orcs_ok (l := [(20, 11, [.str (([112, 97, 121, 32, 49, 50, 32, 109, 111, 110, 101, 121, 59] : List UInt8))], .tup [.sl false (L cApi_Token y_1330.1), i64 y_1330.2.1, i64 y_1330.2.2])]) ⟨tlex_Tokens_con  hy_1331, trivial⟩, ?_⟩ ?_
  · simp only [go_sem, reduceIte, Nat.reduceLT, Nat.reduceEqDiff, Nat.reduceAdd]
  replace h := bind_some1 h; obtain ⟨y_1332, hy_1333, h⟩ := h
  refine run_textE hE [1, 2, 3, 4, 6] (fr' := [(1, .sl false (L cApi_Token y_1330.1)), (2, i64 y_1330.2.1), (3, i64 y_1330.2.2), (4, .sl false (L cApi_Token y_1332.1)), (6, i64 y_1332.2.2)]) (σ' := []) ⟨_, orcs_ok (l := [(25, 11, [.str (([49, 46, 46, 50, 48, 32, 35, 32, 100, 97, 121, 115] : List UInt8))], .tup [.sl false (L cApi_Token y_1332.1), i64 y_1332.2.1, i64 y_1332.2.2])]) ⟨tlex_Tokens_con  hy_1333, trivial⟩, ?_⟩ ?_
  · simp only [go_sem, reduceIte, Nat.reduceLT, Nat.reduceEqDiff, Nat.reduceAdd]
  replace h := bind_some1 h; obtain ⟨y_1334, hy_1335, h⟩ := h
  refine run_textE hE [1, 2, 3, 4, 6, 7, 9] (fr' := [(1, .sl false (L cApi_Token y_1330.1)), (2, i64 y_1330.2.1), (3, i64 y_1330.2.2), (4, .sl false (L cApi_Token y_1332.1)), (6, i64 y_1332.2.2), (7, .sl false (L cApi_Token y_1334.1)), (9, i64 y_1334.2.2)]) (σ' := []) ⟨_, orcs_ok (l := [(30, 11, [.str (([49, 50, 107, 109] : List UInt8))], .tup [.sl false (L cApi_Token y_1334.1), i64 y_1334.2.1, i64 y_1334.2.2])]) ⟨tlex_Tokens_con  hy_1335, trivial⟩, ?_⟩ ?_
  · simp only [go_sem, reduceIte, Nat.reduceLT, Nat.reduceEqDiff, Nat.reduceAdd]
  replace h := bind_some1 h; obtain ⟨y_1336, hy_1337, h⟩ := h
  refine run_textE hE [1, 2, 3, 4, 6, 7, 9, 11, 12] (fr' := [(1, .sl false (L cApi_Token y_1330.1)), (2, i64 y_1330.2.1), (3, i64 y_1330.2.2), (4, .sl false (L cApi_Token y_1332.1)), (6, i64 y_1332.2.2), (7, .sl false (L cApi_Token y_1334.1)), (9, i64 y_1334.2.2), (11, i64 y_1336.2.1), (12, i64 y_1336.2.2)]) (σ' := []) ⟨_, orcs_ok (l := [(35, 11, [.str (([97, 46, 98] : List UInt8))], .tup [.sl false (L cApi_Token y_1336.1), i64 y_1336.2.1, i64 y_1336.2.2])]) ⟨tlex_Tokens_con  hy_1337, trivial⟩, ?_⟩ ?_
  · simp only [go_sem, reduceIte, Nat.reduceLT, Nat.reduceEqDiff, Nat.reduceAdd]
  replace h := bind_some1 h; obtain ⟨y_1338, hy_1339, h⟩ := h
  refine run_textE hE [1, 2, 3, 4, 6, 7, 9, 11, 12, 14, 15] (fr' := [(1, .sl false (L cApi_Token y_1330.1)), (2, i64 y_1330.2.1), (3, i64 y_1330.2.2), (4, .sl false (L cApi_Token y_1332.1)), (6, i64 y_1332.2.2), (7, .sl false (L cApi_Token y_1334.1)), (9, i64 y_1334.2.2), (11, i64 y_1336.2.1), (12, i64 y_1336.2.2), (14, i64 y_1338.2.1), (15, i64 y_1338.2.2)]) (σ' := []) ⟨_, orcs_ok (l := [(40, 11, [.str (([120, 32, 48, 48, 55] : List UInt8))], .tup [.sl false (L cApi_Token y_1338.1), i64 y_1338.2.1, i64 y_1338.2.2])]) ⟨tlex_Tokens_con  hy_1339, trivial⟩, ?_⟩ ?_
  · simp only [go_sem, reduceIte, Nat.reduceLT, Nat.reduceEqDiff, Nat.reduceAdd]
  replace h := bind_some1 h; obtain ⟨y_1340, hy_1341, h⟩ := h
  refine run_textE hE [1, 2, 3, 4, 6, 7, 9, 11, 12, 14, 15, 18] (fr' := [(1, .sl false (L cApi_Token y_1330.1)), (2, i64 y_1330.2.1), (3, i64 y_1330.2.2), (4, .sl false (L cApi_Token y_1332.1)), (6, i64 y_1332.2.2), (7, .sl false (L cApi_Token y_1334.1)), (9, i64 y_1334.2.2), (11, i64 y_1336.2.1), (12, i64 y_1336.2.2), (14, i64 y_1338.2.1), (15, i64 y_1338.2.2), (18, i64 y_1340.2.2)]) (σ' := []) ⟨_, orcs_ok (l := [(45, 11, [.str (([49, 48, 57, 57, 53, 49, 49, 54, 50, 55, 55, 55, 55] : List UInt8))], .tup [.sl false (L cApi_Token y_1340.1), i64 y_1340.2.1, i64 y_1340.2.2])]) ⟨tlex_Tokens_con  hy_1341, trivial⟩, ?_⟩ ?_
  · simp only [go_sem, reduceIte, Nat.reduceLT, Nat.reduceEqDiff, Nat.reduceAdd]
  refine run_seq ?_
  replace h := bind_some1 h; obtain ⟨t_1342, hv_1343, h⟩ := h
  refine run_textW hE [1, 4, 6, 7, 9, 11, 12, 14, 15, 18, 73] (fr' := [(1, .sl false (L cApi_Token y_1330.1)), (4, .sl false (L cApi_Token y_1332.1)), (6, i64 y_1332.2.2), (7, .sl false (L cApi_Token y_1334.1)), (9, i64 y_1334.2.2), (11, i64 y_1336.2.1), (12, i64 y_1336.2.2), (14, i64 y_1338.2.1), (15, i64 y_1338.2.2), (18, i64 y_1340.2.2), (73, .bool t_1342)]) (σ' := []) ?_ ?_
  · rcases Bool.eq_false_or_eq_true ((y_1330.2.2 != 0)) with hb_1344 | hb_1344
    · replace hv_1343 := ite_t hv_1343 hb_1344
      have e_hv_1343 := Option.some.inj hv_1343; subst e_hv_1343
      exact ⟨_, [(1, .sl false (L cApi_Token y_1330.1)), (4, .sl false (L cApi_Token y_1332.1)), (6, i64 y_1332.2.2), (7, .sl false (L cApi_Token y_1334.1)), (9, i64 y_1334.2.2), (11, i64 y_1336.2.1), (12, i64 y_1336.2.2), (14, i64 y_1338.2.1), (15, i64 y_1338.2.2), (18, i64 y_1340.2.2), (73, .bool true)], [], orcs_nil, by simp only [go_sem, reduceIte, Nat.reduceLT, Nat.reduceEqDiff, Nat.reduceAdd, Nat.reduceGT, Int.reduceToNat, hb_1344], (weak_sel [] (by decide) rfl (by simp only [go_sem, reduceIte, Nat.reduceLT, Nat.reduceEqDiff, Nat.reduceAdd]) (by simp only [go_sem, reduceIte, Nat.reduceLT, Nat.reduceEqDiff, Nat.reduceAdd]))⟩
    · replace hv_1343 := ite_f hv_1343 hb_1344
      rcases Bool.eq_false_or_eq_true ((y_1330.2.1 != 0)) with hb_1345 | hb_1345
      · replace hv_1343 := ite_t hv_1343 hb_1345
        have e_hv_1343 := Option.some.inj hv_1343; subst e_hv_1343
        exact ⟨_, [(1, .sl false (L cApi_Token y_1330.1)), (4, .sl false (L cApi_Token y_1332.1)), (6, i64 y_1332.2.2), (7, .sl false (L cApi_Token y_1334.1)), (9, i64 y_1334.2.2), (11, i64 y_1336.2.1), (12, i64 y_1336.2.2), (14, i64 y_1338.2.1), (15, i64 y_1338.2.2), (18, i64 y_1340.2.2), (73, .bool true)], [], orcs_nil, by simp only [go_sem, reduceIte, Nat.reduceLT, Nat.reduceEqDiff, Nat.reduceAdd, Nat.reduceGT, Int.reduceToNat, hb_1344, hb_1345], (weak_sel [] (by decide) rfl (by simp only [go_sem, reduceIte, Nat.reduceLT, Nat.reduceEqDiff, Nat.reduceAdd]) (by simp only [go_sem, reduceIte, Nat.reduceLT, Nat.reduceEqDiff, Nat.reduceAdd]))⟩
      · replace hv_1343 := ite_f hv_1343 hb_1345
        rcases Bool.eq_false_or_eq_true (((y_1330.1.length : Int) != 4)) with hb_1346 | hb_1346
        · replace hv_1343 := ite_t hv_1343 hb_1346
          have e_hv_1343 := Option.some.inj hv_1343; subst e_hv_1343
          exact ⟨_, [(1, .sl false (L cApi_Token y_1330.1)), (4, .sl false (L cApi_Token y_1332.1)), (6, i64 y_1332.2.2), (7, .sl false (L cApi_Token y_1334.1)), (9, i64 y_1334.2.2), (11, i64 y_1336.2.1), (12, i64 y_1336.2.2), (14, i64 y_1338.2.1), (15, i64 y_1338.2.2), (18, i64 y_1340.2.2), (73, .bool true)], [], orcs_nil, by simp only [go_sem, reduceIte, Nat.reduceLT, Nat.reduceEqDiff, Nat.reduceAdd, Nat.reduceGT, Int.reduceToNat, hb_1344, hb_1345, hb_1346], (weak_sel [] (by decide) rfl (by simp only [go_sem, reduceIte, Nat.reduceLT, Nat.reduceEqDiff, Nat.reduceAdd]) (by simp only [go_sem, reduceIte, Nat.reduceLT, Nat.reduceEqDiff, Nat.reduceAdd]))⟩
        · replace hv_1343 := ite_f hv_1343 hb_1346
          replace hv_1343 := chk_some hv_1343; obtain ⟨hc_1347, hv_1343⟩ := hv_1343
          rcases Bool.eq_false_or_eq_true ((!(((nth y_1330.1 1).Kind == 2) && (((nth y_1330.1 1).Text == ([49, 50] : List UInt8)) && (((nth y_1330.1 1).N == 12) && ((nth y_1330.1 1).At == 4)))))) with hb_1348 | hb_1348
          · replace hv_1343 := ite_t hv_1343 hb_1348
            have e_hv_1343 := Option.some.inj hv_1343; subst e_hv_1343
            exact ⟨_, [(1, .sl false (L cApi_Token y_1330.1)), (4, .sl false (L cApi_Token y_1332.1)), (6, i64 y_1332.2.2), (7, .sl false (L cApi_Token y_1334.1)), (9, i64 y_1334.2.2), (11, i64 y_1336.2.1), (12, i64 y_1336.2.2), (14, i64 y_1338.2.1), (15, i64 y_1338.2.2), (18, i64 y_1340.2.2), (73, .bool true)], [], orcs_nil, by simp only [go_sem, reduceIte, Nat.reduceLT, Nat.reduceEqDiff, Nat.reduceAdd, Nat.reduceGT, Int.reduceToNat, hb_1344, hb_1345, hb_1346, hc_1347, (show 1 < y_1330.1.length from hc_1347.2), hb_1348], (weak_sel [] (by decide) rfl (by simp only [go_sem, reduceIte, Nat.reduceLT, Nat.reduceEqDiff, Nat.reduceAdd]) (by simp only [go_sem, reduceIte, Nat.reduceLT, Nat.reduceEqDiff, Nat.reduceAdd]))⟩
          · replace hv_1343 := ite_f hv_1343 hb_1348
            replace hv_1343 := chk_some hv_1343; obtain ⟨hc_1349, hv_1343⟩ := hv_1343
            have e_hv_1343 := Option.some.inj hv_1343; subst e_hv_1343
            exact ⟨_, [(1, .sl false (L cApi_Token y_1330.1)), (4, .sl false (L cApi_Token y_1332.1)), (6, i64 y_1332.2.2), (7, .sl false (L cApi_Token y_1334.1)), (9, i64 y_1334.2.2), (11, i64 y_1336.2.1), (12, i64 y_1336.2.2), (14, i64 y_1338.2.1), (15, i64 y_1338.2.2), (18, i64 y_1340.2.2), (73, .bool ((!(((nth y_1330.1 3).Kind == 3) && (((nth y_1330.1 3).Text == ([59] : List UInt8)) && (((nth y_1330.1 3).N == 0) && ((nth y_1330.1 3).At == 12)))))))], [], orcs_nil, by simp only [go_sem, reduceIte, Nat.reduceLT, Nat.reduceEqDiff, Nat.reduceAdd, Nat.reduceGT, Int.reduceToNat, hb_1344, hb_1345, hb_1346, hc_1347, (show 1 < y_1330.1.length from hc_1347.2), hb_1348, hc_1349, (show 3 < y_1330.1.length from hc_1349.2)], (weak_sel [] (by decide) rfl (by simp only [go_sem, reduceIte, Nat.reduceLT, Nat.reduceEqDiff, Nat.reduceAdd]) (by simp only [go_sem, reduceIte, Nat.reduceLT, Nat.reduceEqDiff, Nat.reduceAdd]))⟩
  refine run_condL (b := t_1342) rfl (by decide) (fun hb => ?_) (fun hb => ?_)
  · replace h := ite_t h hb
    refine run_textE hE [0] (fr' := [(0, .bool false)]) (σ' := []) ⟨_, orcs_nil, ?_⟩ ?_
    · simp only [go_sem, reduceIte, Nat.reduceLT, Nat.reduceEqDiff, Nat.reduceAdd]
    refine run_ret ?_
    refine thenK_r ?_
    obtain rfl := Option.some.inj h
    refine ret_ok (.inr rfl) ?_
    simp only [go_sem, reduceIte, Nat.reduceLT, Nat.reduceEqDiff, Nat.reduceAdd]
  · replace h := ite_f h hb
    refine run_skip ?_
    refine thenK_n ?_
    replace h := bind_some1 h; obtain ⟨t_1353, hv_1354, h⟩ := h
    refine run_textW hE [0] (fr' := [(0, .bool t_1353)]) (σ' := []) ?_ ?_
    · rcases Bool.eq_false_or_eq_true ((y_1332.2.2 == 0)) with hb_1355 | hb_1355
      · replace hv_1354 := ite_t hv_1354 hb_1355
        rcases Bool.eq_false_or_eq_true (((y_1332.1.length : Int) == 3)) with hb_1356 | hb_1356
        · replace hv_1354 := ite_t hv_1354 hb_1356
          replace hv_1354 := chk_some hv_1354; obtain ⟨hc_1357, hv_1354⟩ := hv_1354
          rcases Bool.eq_false_or_eq_true ((((nth y_1332.1 1).Text) == (([46, 46] : List UInt8)))) with hb_1358 | hb_1358
          · replace hv_1354 := ite_t hv_1354 hb_1358
            replace hv_1354 := chk_some hv_1354; obtain ⟨hc_1359, hv_1354⟩ := hv_1354
            rcases Bool.eq_false_or_eq_true (((nth y_1332.1 2).N == 20)) with hb_1360 | hb_1360
            · replace hv_1354 := ite_t hv_1354 hb_1360
              rcases Bool.eq_false_or_eq_true ((y_1334.2.2 == 0)) with hb_1361 | hb_1361
              · replace hv_1354 := ite_t hv_1354 hb_1361
                rcases Bool.eq_false_or_eq_true (((y_1334.1.length : Int) == 2)) with hb_1362 | hb_1362
                · replace hv_1354 := ite_t hv_1354 hb_1362
                  replace hv_1354 := chk_some hv_1354; obtain ⟨hc_1363, hv_1354⟩ := hv_1354
                  rcases Bool.eq_false_or_eq_true ((((nth y_1334.1 1).Kind == 1) && (((nth y_1334.1 1).Text == ([107, 109] : List UInt8)) && (((nth y_1334.1 1).N == 0) && ((nth y_1334.1 1).At == 2))))) with hb_1364 | hb_1364
                  · replace hv_1354 := ite_t hv_1354 hb_1364
                    rcases Bool.eq_false_or_eq_true ((y_1336.2.2 == 150)) with hb_1365 | hb_1365
                    · replace hv_1354 := ite_t hv_1354 hb_1365
                      rcases Bool.eq_false_or_eq_true ((y_1336.2.1 == 1)) with hb_1366 | hb_1366
                      · replace hv_1354 := ite_t hv_1354 hb_1366
                        rcases Bool.eq_false_or_eq_true ((y_1338.2.2 == 150)) with hb_1367 | hb_1367
                        · replace hv_1354 := ite_t hv_1354 hb_1367
                          rcases Bool.eq_false_or_eq_true ((y_1338.2.1 == 2)) with hb_1368 | hb_1368
                          · replace hv_1354 := ite_t hv_1354 hb_1368
                            rcases Bool.eq_false_or_eq_true ((y_1340.2.2 == 2)) with hb_1369 | hb_1369
                            · replace hv_1354 := ite_t hv_1354 hb_1369
                              replace hv_1354 := bind_some1 hv_1354; obtain ⟨y_1350, hy_1370, hv_1354⟩ := hv_1354
                              rcases Bool.eq_false_or_eq_true ((y_1350 == (([112, 97, 121, 32, 49, 50, 32, 109, 111, 110, 101, 121, 32, 59] : List UInt8)))) with hb_1371 | hb_1371
                              · replace hv_1354 := ite_t hv_1354 hb_1371
                                replace hv_1354 := bind_some1 hv_1354; obtain ⟨y_1351, hy_1372, hv_1354⟩ := hv_1354
                                rcases Bool.eq_false_or_eq_true y_1351 with hb_1373 | hb_1373
                                · replace hv_1354 := ite_t hv_1354 hb_1373
                                  replace hv_1354 := bind_some1 hv_1354; obtain ⟨y_1352, hy_1374, hv_1354⟩ := hv_1354
                                  have e_hv_1354 := Option.some.inj hv_1354; subst e_hv_1354
                                  exact ⟨_, [(0, .bool ((!y_1352)))], [], orcs_ok (l := [(133, 14, [.sl false (L cApi_Token y_1330.1)], .str y_1350), (137, 16, [.str (([107, 109] : List UInt8))], .bool y_1351), (140, 16, [.str (([100, 97, 121, 115] : List UInt8))], .bool y_1352)]) ⟨tlex_Text_con  hy_1370, tlex_Reserved_con  hy_1372, tlex_Reserved_con  hy_1374, trivial⟩, by simp only [go_sem, reduceIte, Nat.reduceLT, Nat.reduceEqDiff, Nat.reduceAdd, Nat.reduceGT, Int.reduceToNat, hb_1355, hb_1356, hc_1357, (show 1 < y_1332.1.length from hc_1357.2), hb_1358, hc_1359, (show 2 < y_1332.1.length from hc_1359.2), hb_1360, hb_1361, hb_1362, hc_1363, (show 1 < y_1334.1.length from hc_1363.2), hb_1364, hb_1365, hb_1366, hb_1367, hb_1368, hb_1369, hb_1371, hb_1373], (weak_sel [] (by decide) rfl (by simp only [go_sem, reduceIte, Nat.reduceLT, Nat.reduceEqDiff, Nat.reduceAdd]) (by simp only [go_sem, reduceIte, Nat.reduceLT, Nat.reduceEqDiff, Nat.reduceAdd]))⟩
                                · replace hv_1354 := ite_f hv_1354 hb_1373
                                  have e_hv_1354 := Option.some.inj hv_1354; subst e_hv_1354
                                  exact ⟨_, [(0, .bool false)], [], orcs_ok (l := [(133, 14, [.sl false (L cApi_Token y_1330.1)], .str y_1350), (137, 16, [.str (([107, 109] : List UInt8))], .bool y_1351)]) ⟨tlex_Text_con  hy_1370, tlex_Reserved_con  hy_1372, trivial⟩, by simp only [go_sem, reduceIte, Nat.reduceLT, Nat.reduceEqDiff, Nat.reduceAdd, Nat.reduceGT, Int.reduceToNat, hb_1355, hb_1356, hc_1357, (show 1 < y_1332.1.length from hc_1357.2), hb_1358, hc_1359, (show 2 < y_1332.1.length from hc_1359.2), hb_1360, hb_1361, hb_1362, hc_1363, (show 1 < y_1334.1.length from hc_1363.2), hb_1364, hb_1365, hb_1366, hb_1367, hb_1368, hb_1369, hb_1371, hb_1373], (weak_sel [] (by decide) rfl (by simp only [go_sem, reduceIte, Nat.reduceLT, Nat.reduceEqDiff, Nat.reduceAdd]) (by simp only [go_sem, reduceIte, Nat.reduceLT, Nat.reduceEqDiff, Nat.reduceAdd]))⟩
                              · replace hv_1354 := ite_f hv_1354 hb_1371
                                have e_hv_1354 := Option.some.inj hv_1354; subst e_hv_1354
                                exact ⟨_, [(0, .bool false)], [], orcs_ok (l := [(133, 14, [.sl false (L cApi_Token y_1330.1)], .str y_1350)]) ⟨tlex_Text_con  hy_1370, trivial⟩, by simp only [go_sem, reduceIte, Nat.reduceLT, Nat.reduceEqDiff, Nat.reduceAdd, Nat.reduceGT, Int.reduceToNat, hb_1355, hb_1356, hc_1357, (show 1 < y_1332.1.length from hc_1357.2), hb_1358, hc_1359, (show 2 < y_1332.1.length from hc_1359.2), hb_1360, hb_1361, hb_1362, hc_1363, (show 1 < y_1334.1.length from hc_1363.2), hb_1364, hb_1365, hb_1366, hb_1367, hb_1368, hb_1369, hb_1371], (weak_sel [] (by decide) rfl (by simp only [go_sem, reduceIte, Nat.reduceLT, Nat.reduceEqDiff, Nat.reduceAdd]) (by simp only [go_sem, reduceIte, Nat.reduceLT, Nat.reduceEqDiff, Nat.reduceAdd]))⟩
                            · replace hv_1354 := ite_f hv_1354 hb_1369
                              have e_hv_1354 := Option.some.inj hv_1354; subst e_hv_1354
                              exact ⟨_, [(0, .bool false)], [], orcs_nil, by simp only [go_sem, reduceIte, Nat.reduceLT, Nat.reduceEqDiff, Nat.reduceAdd, Nat.reduceGT, Int.reduceToNat, hb_1355, hb_1356, hc_1357, (show 1 < y_1332.1.length from hc_1357.2), hb_1358, hc_1359, (show 2 < y_1332.1.length from hc_1359.2), hb_1360, hb_1361, hb_1362, hc_1363, (show 1 < y_1334.1.length from hc_1363.2), hb_1364, hb_1365, hb_1366, hb_1367, hb_1368, hb_1369], (weak_sel [] (by decide) rfl (by simp only [go_sem, reduceIte, Nat.reduceLT, Nat.reduceEqDiff, Nat.reduceAdd]) (by simp only [go_sem, reduceIte, Nat.reduceLT, Nat.reduceEqDiff, Nat.reduceAdd]))⟩
                          · replace hv_1354 := ite_f hv_1354 hb_1368
                            have e_hv_1354 := Option.some.inj hv_1354; subst e_hv_1354
                            exact ⟨_, [(0, .bool false)], [], orcs_nil, by simp only [go_sem, reduceIte, Nat.reduceLT, Nat.reduceEqDiff, Nat.reduceAdd, Nat.reduceGT, Int.reduceToNat, hb_1355, hb_1356, hc_1357, (show 1 < y_1332.1.length from hc_1357.2), hb_1358, hc_1359, (show 2 < y_1332.1.length from hc_1359.2), hb_1360, hb_1361, hb_1362, hc_1363, (show 1 < y_1334.1.length from hc_1363.2), hb_1364, hb_1365, hb_1366, hb_1367, hb_1368], (weak_sel [] (by decide) rfl (by simp only [go_sem, reduceIte, Nat.reduceLT, Nat.reduceEqDiff, Nat.reduceAdd]) (by simp only [go_sem, reduceIte, Nat.reduceLT, Nat.reduceEqDiff, Nat.reduceAdd]))⟩
                        · replace hv_1354 := ite_f hv_1354 hb_1367
                          have e_hv_1354 := Option.some.inj hv_1354; subst e_hv_1354
                          exact ⟨_, [(0, .bool false)], [], orcs_nil, by simp only [go_sem, reduceIte, Nat.reduceLT, Nat.reduceEqDiff, Nat.reduceAdd, Nat.reduceGT, Int.reduceToNat, hb_1355, hb_1356, hc_1357, (show 1 < y_1332.1.length from hc_1357.2), hb_1358, hc_1359, (show 2 < y_1332.1.length from hc_1359.2), hb_1360, hb_1361, hb_1362, hc_1363, (show 1 < y_1334.1.length from hc_1363.2), hb_1364, hb_1365, hb_1366, hb_1367], (weak_sel [] (by decide) rfl (by simp only [go_sem, reduceIte, Nat.reduceLT, Nat.reduceEqDiff, Nat.reduceAdd]) (by simp only [go_sem, reduceIte, Nat.reduceLT, Nat.reduceEqDiff, Nat.reduceAdd]))⟩
                      · replace hv_1354 := ite_f hv_1354 hb_1366
                        have e_hv_1354 := Option.some.inj hv_1354; subst e_hv_1354
                        exact ⟨_, [(0, .bool false)], [], orcs_nil, by simp only [go_sem, reduceIte, Nat.reduceLT, Nat.reduceEqDiff, Nat.reduceAdd, Nat.reduceGT, Int.reduceToNat, hb_1355, hb_1356, hc_1357, (show 1 < y_1332.1.length from hc_1357.2), hb_1358, hc_1359, (show 2 < y_1332.1.length from hc_1359.2), hb_1360, hb_1361, hb_1362, hc_1363, (show 1 < y_1334.1.length from hc_1363.2), hb_1364, hb_1365, hb_1366], (weak_sel [] (by decide) rfl (by simp only [go_sem, reduceIte, Nat.reduceLT, Nat.reduceEqDiff, Nat.reduceAdd]) (by simp only [go_sem, reduceIte, Nat.reduceLT, Nat.reduceEqDiff, Nat.reduceAdd]))⟩
                    · replace hv_1354 := ite_f hv_1354 hb_1365
                      have e_hv_1354 := Option.some.inj hv_1354; subst e_hv_1354
                      exact ⟨_, [(0, .bool false)], [], orcs_nil, by simp only [go_sem, reduceIte, Nat.reduceLT, Nat.reduceEqDiff, Nat.reduceAdd, Nat.reduceGT, Int.reduceToNat, hb_1355, hb_1356, hc_1357, (show 1 < y_1332.1.length from hc_1357.2), hb_1358, hc_1359, (show 2 < y_1332.1.length from hc_1359.2), hb_1360, hb_1361, hb_1362, hc_1363, (show 1 < y_1334.1.length from hc_1363.2), hb_1364, hb_1365], (weak_sel [] (by decide) rfl (by simp only [go_sem, reduceIte, Nat.reduceLT, Nat.reduceEqDiff, Nat.reduceAdd]) (by simp only [go_sem, reduceIte, Nat.reduceLT, Nat.reduceEqDiff, Nat.reduceAdd]))⟩
                  · replace hv_1354 := ite_f hv_1354 hb_1364
                    have e_hv_1354 := Option.some.inj hv_1354; subst e_hv_1354
                    exact ⟨_, [(0, .bool false)], [], orcs_nil, by simp only [go_sem, reduceIte, Nat.reduceLT, Nat.reduceEqDiff, Nat.reduceAdd, Nat.reduceGT, Int.reduceToNat, hb_1355, hb_1356, hc_1357, (show 1 < y_1332.1.length from hc_1357.2), hb_1358, hc_1359, (show 2 < y_1332.1.length from hc_1359.2), hb_1360, hb_1361, hb_1362, hc_1363, (show 1 < y_1334.1.length from hc_1363.2), hb_1364], (weak_sel [] (by decide) rfl (by simp only [go_sem, reduceIte, Nat.reduceLT, Nat.reduceEqDiff, Nat.reduceAdd]) (by simp only [go_sem, reduceIte, Nat.reduceLT, Nat.reduceEqDiff, Nat.reduceAdd]))⟩
                · replace hv_1354 := ite_f hv_1354 hb_1362
                  have e_hv_1354 := Option.some.inj hv_1354; subst e_hv_1354
                  exact ⟨_, [(0, .bool false)], [], orcs_nil, by simp only [go_sem, reduceIte, Nat.reduceLT, Nat.reduceEqDiff, Nat.reduceAdd, Nat.reduceGT, Int.reduceToNat, hb_1355, hb_1356, hc_1357, (show 1 < y_1332.1.length from hc_1357.2), hb_1358, hc_1359, (show 2 < y_1332.1.length from hc_1359.2), hb_1360, hb_1361, hb_1362], (weak_sel [] (by decide) rfl (by simp only [go_sem, reduceIte, Nat.reduceLT, Nat.reduceEqDiff, Nat.reduceAdd]) (by simp only [go_sem, reduceIte, Nat.reduceLT, Nat.reduceEqDiff, Nat.reduceAdd]))⟩
              · replace hv_1354 := ite_f hv_1354 hb_1361
                have e_hv_1354 := Option.some.inj hv_1354; subst e_hv_1354
                exact ⟨_, [(0, .bool false)], [], orcs_nil, by simp only [go_sem, reduceIte, Nat.reduceLT, Nat.reduceEqDiff, Nat.reduceAdd, Nat.reduceGT, Int.reduceToNat, hb_1355, hb_1356, hc_1357, (show 1 < y_1332.1.length from hc_1357.2), hb_1358, hc_1359, (show 2 < y_1332.1.length from hc_1359.2), hb_1360, hb_1361], (weak_sel [] (by decide) rfl (by simp only [go_sem, reduceIte, Nat.reduceLT, Nat.reduceEqDiff, Nat.reduceAdd]) (by simp only [go_sem, reduceIte, Nat.reduceLT, Nat.reduceEqDiff, Nat.reduceAdd]))⟩
            · replace hv_1354 := ite_f hv_1354 hb_1360
              have e_hv_1354 := Option.some.inj hv_1354; subst e_hv_1354
              exact ⟨_, [(0, .bool false)], [], orcs_nil, by simp only [go_sem, reduceIte, Nat.reduceLT, Nat.reduceEqDiff, Nat.reduceAdd, Nat.reduceGT, Int.reduceToNat, hb_1355, hb_1356, hc_1357, (show 1 < y_1332.1.length from hc_1357.2), hb_1358, hc_1359, (show 2 < y_1332.1.length from hc_1359.2), hb_1360], (weak_sel [] (by decide) rfl (by simp only [go_sem, reduceIte, Nat.reduceLT, Nat.reduceEqDiff, Nat.reduceAdd]) (by simp only [go_sem, reduceIte, Nat.reduceLT, Nat.reduceEqDiff, Nat.reduceAdd]))⟩
          · replace hv_1354 := ite_f hv_1354 hb_1358
            have e_hv_1354 := Option.some.inj hv_1354; subst e_hv_1354
            exact ⟨_, [(0, .bool false)], [], orcs_nil, by simp only [go_sem, reduceIte, Nat.reduceLT, Nat.reduceEqDiff, Nat.reduceAdd, Nat.reduceGT, Int.reduceToNat, hb_1355, hb_1356, hc_1357, (show 1 < y_1332.1.length from hc_1357.2), hb_1358], (weak_sel [] (by decide) rfl (by simp only [go_sem, reduceIte, Nat.reduceLT, Nat.reduceEqDiff, Nat.reduceAdd]) (by simp only [go_sem, reduceIte, Nat.reduceLT, Nat.reduceEqDiff, Nat.reduceAdd]))⟩
        · replace hv_1354 := ite_f hv_1354 hb_1356
          have e_hv_1354 := Option.some.inj hv_1354; subst e_hv_1354
          exact ⟨_, [(0, .bool false)], [], orcs_nil, by simp only [go_sem, reduceIte, Nat.reduceLT, Nat.reduceEqDiff, Nat.reduceAdd, Nat.reduceGT, Int.reduceToNat, hb_1355, hb_1356], (weak_sel [] (by decide) rfl (by simp only [go_sem, reduceIte, Nat.reduceLT, Nat.reduceEqDiff, Nat.reduceAdd]) (by simp only [go_sem, reduceIte, Nat.reduceLT, Nat.reduceEqDiff, Nat.reduceAdd]))⟩
      · replace hv_1354 := ite_f hv_1354 hb_1355
        have e_hv_1354 := Option.some.inj hv_1354; subst e_hv_1354
        exact ⟨_, [(0, .bool false)], [], orcs_nil, by simp only [go_sem, reduceIte, Nat.reduceLT, Nat.reduceEqDiff, Nat.reduceAdd, Nat.reduceGT, Int.reduceToNat, hb_1355], (weak_sel [] (by decide) rfl (by simp only [go_sem, reduceIte, Nat.reduceLT, Nat.reduceEqDiff, Nat.reduceAdd]) (by simp only [go_sem, reduceIte, Nat.reduceLT, Nat.reduceEqDiff, Nat.reduceAdd]))⟩
    refine run_ret ?_
    obtain rfl := Option.some.inj h
    refine ret_ok (.inr rfl) ?_
    simp only [go_sem, reduceIte, Nat.reduceLT, Nat.reduceEqDiff, Nat.reduceAdd]

end Go.Proofs.YtballlkeogmoiaaDoor
/-
  The closure of strconv.Itoa at this program, laid by the kit's lay-plain.mjs.
-/
namespace Go.Proofs.YtballlkeogmoiaaDoor
open Go.Shelf
def Tryd.laysM171_ren : Go.Shelf.Ren := ⟨fun | 171 => 20 | 243 => 27 | 246 => 41 | 283 => 46 | 284 => 47 | 285 => 48 | 286 => 49 | 129 => 53 | 317 => 52 | 318 => 54 | 319 => 55 | 320 => 56 | 337 => 57 | 338 => 58 | n => n, fun | 3 => 3 | 9 => 9 | 2 => 2 | 4 => 4 | 171 => 66 | 0 => 0 | 53 => 35 | 37 => 55 | 5 => 5 | 173 => 69 | 212 => 76 | 51 => 77 | 20 => 20 | 213 => 78 | 46 => 37 | 232 => 81 | 233 => 82 | n => n, fun | 17 => 3 | 18 => 4 | 19 => 5 | n => n⟩
theorem Tryd.laysM171 : Go.Proofs.LaysM.n171 Tryd.prog Tryd.laysM171_ren := {
  mixed := by kernel_rfl
  f129 := Tryd.func53.trans (congrArg some (by kernel_rfl))
  f171 := Tryd.func20.trans (congrArg some (by kernel_rfl))
  f243 := Tryd.func27.trans (congrArg some (by kernel_rfl))
  f246 := Tryd.func41.trans (congrArg some (by kernel_rfl))
  f283 := Tryd.func46.trans (congrArg some (by kernel_rfl))
  f284 := Tryd.func47.trans (congrArg some (by kernel_rfl))
  f285 := Tryd.func48.trans (congrArg some (by kernel_rfl))
  f286 := Tryd.func49.trans (congrArg some (by kernel_rfl))
  f317 := Tryd.func52.trans (congrArg some (by kernel_rfl))
  f318 := Tryd.func54.trans (congrArg some (by kernel_rfl))
  f319 := Tryd.func55.trans (congrArg some (by kernel_rfl))
  f320 := Tryd.func56.trans (congrArg some (by kernel_rfl))
  f337 := Tryd.func57.trans (congrArg some (by kernel_rfl))
  f338 := Tryd.func58.trans (congrArg some (by kernel_rfl))
  t0 := Tryd.underlying0
  a0 := Tryd.isAgg0
  z0 := Tryd.sizeOf0
  v0 := Tryd.zeroValue0
  t2 := Tryd.underlying2
  a2 := Tryd.isAgg2
  z2 := Tryd.sizeOf2
  v2 := Tryd.zeroValue2
  t3 := Tryd.underlying3
  a3 := Tryd.isAgg3
  z3 := Tryd.sizeOf3
  v3 := Tryd.zeroValue3
  t4 := Tryd.underlying4
  a4 := Tryd.isAgg4
  z4 := Tryd.sizeOf4
  v4 := Tryd.zeroValue4
  t5 := Tryd.underlying5
  a5 := Tryd.isAgg5
  z5 := Tryd.sizeOf5
  v5 := Tryd.zeroValue5
  t9 := Tryd.underlying9
  a9 := Tryd.isAgg9
  z9 := Tryd.sizeOf9
  v9 := Tryd.zeroValue9
  t20 := Tryd.underlying20
  a20 := Tryd.isAgg20
  z20 := Tryd.sizeOf20
  v20 := Tryd.zeroValue20
  t37 := Tryd.underlying55
  a37 := Tryd.isAgg55
  z37 := Tryd.sizeOf55
  v37 := Tryd.zeroValue55
  t46 := Tryd.underlying37
  a46 := Tryd.isAgg37
  z46 := Tryd.sizeOf37
  v46 := Tryd.zeroValue37
  t51 := Tryd.underlying77
  a51 := Tryd.isAgg77
  z51 := Tryd.sizeOf77
  v51 := Tryd.zeroValue77
  t53 := Tryd.underlying35
  a53 := Tryd.isAgg35
  z53 := Tryd.sizeOf35
  v53 := Tryd.zeroValue35
  t171 := Tryd.underlying66
  a171 := Tryd.isAgg66
  z171 := Tryd.sizeOf66
  v171 := Tryd.zeroValue66
  t173 := Tryd.underlying69
  a173 := Tryd.isAgg69
  z173 := Tryd.sizeOf69
  v173 := Tryd.zeroValue69
  t212 := Tryd.underlying76
  a212 := Tryd.isAgg76
  z212 := Tryd.sizeOf76
  v212 := Tryd.zeroValue76
  t213 := Tryd.underlying78
  a213 := Tryd.isAgg78
  z213 := Tryd.sizeOf78
  t232 := Tryd.underlying81
  a232 := Tryd.isAgg81
  z232 := Tryd.sizeOf81
  v232 := Tryd.zeroValue81
  t233 := Tryd.underlying82
  a233 := Tryd.isAgg82
  z233 := Tryd.sizeOf82
  v233 := Tryd.zeroValue82
  g17 := by kernel_rfl
  g18 := by kernel_rfl
  g19 := by kernel_rfl
  i0 := by kernel_rfl
  i2 := by kernel_rfl
  i3 := by kernel_rfl
  i4 := by kernel_rfl
  i5 := by kernel_rfl
  i9 := by kernel_rfl
  i20 := by kernel_rfl
  i37 := by kernel_rfl
  i46 := by kernel_rfl
  i51 := by kernel_rfl
  i53 := by kernel_rfl
  i171 := by kernel_rfl
  i173 := by kernel_rfl
  i212 := by kernel_rfl
  i232 := by kernel_rfl
  i233 := by kernel_rfl
  m17 := by kernel_rfl
  m18 := by kernel_rfl
  m19 := by kernel_rfl }
end Go.Proofs.YtballlkeogmoiaaDoor
/-
  strconv.Itoa as a contract of the library R.
-/
namespace Go.Proofs.YtballlkeogmoiaaDoor
open Go.Rv Go.RowKit
set_option linter.unusedVariables false
set_option linter.unusedSimpArgs false

theorem con_itoa {rs : Nat → Nat} {n : Int} {r : List UInt8} (h : itoaO n = some r) : Con (B rs) 20 [i64 n] [] (fun r' σ' => r' = .str r ∧ σ' = []) := by
  unfold itoaO at h
  split at h
  case isFalse => cases h
  rename_i hl
  obtain ⟨hl1, hl2⟩ := hl
  simp only [Option.some.injEq] at h
  subst h
  refine ⟨fun F w g vs hm ha => .inl ⟨⟨Tryd.f20, _, Tryd.func20, rfl, by decide +kernel⟩, ?_⟩⟩
  have hg : g = [] := List.length_eq_zero_iff.1 hm.len
  subst hg
  obtain ⟨vs⟩ := vs
  match vs, ha with
  | [u], ⟨h1, _⟩ =>
    have hu := rep_int h1
    subst hu
    have htab : Lib.TabIs Tryd.prog w "internal/strconv.uint64pow10" .u64 Lib.pow10Tab := by
      obtain ⟨_, t, o, hw⟩ := hm.whole 3 _ rfl
      unfold Lib.TabIs World.var?
      rw [show Tryd.prog.globalNamed "internal/strconv.uint64pow10" = some 3 by kernel_rfl, Option.bind_some, hw]
    have key : Calls Tryd.prog 20 #[.int .i64 n] w fun e w' => e = .returned (.string ⟨(Lib.itoa n).toArray⟩) ∧ Below w.heap.size w w' :=
      (Any.strconv_Itoa Tryd.laysM171 n hl1 hl2 w htab).mono fun e w' ⟨e1, k, os, e2⟩ => ⟨e1, by
        rw [e2]
        exact Lib.below_grow _ w (Nat.le_refl _) k os⟩
    refine key.mono fun e w' ⟨he, hb⟩ => ?_
    have evo : Evo ((B rs).env F) 0 w [] w' [] := ⟨hb.os, hb.tape, hb.output, hb.size, fun a u hc hp => ⟨by
      rw [← hc]
      simp only [World.cell?, hb.block _ (cell?_lt hc)], hp⟩, fun β hβ hn => ⟨hb.block β hβ, hn⟩, fun _ hh => absurd hh (Nat.not_lt_zero _)⟩
    exact ⟨_, _, [], [], he, ⟨rfl, rfl⟩, (mem_back hm evo).1, evo, .str _ _ _ (by simp)⟩
end Go.Proofs.YtballlkeogmoiaaDoor
/-
  The functions compute just that.
-/
namespace Go.Proofs.YtballlkeogmoiaaDoor
open Go.Rv
set_option linter.unusedVariables false
set_option linter.unusedSimpArgs false
set_option maxRecDepth 20000
variable {rs : Nat → Nat}
set_option maxHeartbeats 4000000

theorem strconv_Itoa_con {n : Int} {r : List UInt8} (h : strconv_Itoa n = some r) : Con (B rs) 20 [i64 n] [] (fun r' σ' => r' = .str r ∧ σ' = []) :=
  con_itoa h

theorem law15_TlexNumbers_con {n_1375 : Int} {r : Bool} (h : law15_TlexNumbers n_1375 = some r) : Con (B rs) 9 [i64 n_1375] [] (fun r' σ' => r' = .bool r ∧ σ' = []) := by
  refine con_walk (N := 83) (rs := [.tmp 2]) ok Tryd.func9 rfl (by decide +kernel) rfl rfl (Nat.le_of_ble_eq_true rfl) (fun F => ?_)
  have hE := (ok (rs := rs)).env F
  unfold law15_TlexNumbers at h
  show Run ((B rs).env F) 0 _ ⟨asFr 83 [(0, i64 n_1375)], []⟩ _
  refine run_textE hE [0] (fr' := [(0, i64 n_1375)]) (σ' := []) ⟨_, orcs_nil, ?_⟩ ?_
  · simp only [go_sem, reduceIte, Nat.reduceLT, Nat.reduceEqDiff, Nat.reduceAdd]
  refine run_seq ?_
  replace h := bind_some1 h; obtain ⟨y_1376, hy_1377, h⟩ := h
  refine run_textE hE [0, 11] (fr' := [(0, i64 n_1375), (11, .bool ((!y_1376)))]) (σ' := []) ⟨_, orcs_ok (l := [(10, 10, [], .bool y_1376)]) ⟨law15_sane_con  hy_1377, trivial⟩, ?_⟩ ?_
  · simp only [go_sem, reduceIte, Nat.reduceLT, Nat.reduceEqDiff, Nat.reduceAdd]
  refine run_condL (b := (!y_1376)) rfl (by decide) (fun hb => ?_) (fun hb => ?_)
  · replace h := ite_t h hb
    refine run_textE hE [2] (fr' := [(2, .bool false)]) (σ' := []) ⟨_, orcs_nil, ?_⟩ ?_
    · simp only [go_sem, reduceIte, Nat.reduceLT, Nat.reduceEqDiff, Nat.reduceAdd]
    refine run_ret ?_
    refine thenK_r ?_
    obtain rfl := Option.some.inj h
    refine ret_ok (.inr rfl) ?_
    simp only [go_sem, reduceIte, Nat.reduceLT, Nat.reduceEqDiff, Nat.reduceAdd]
  · replace h := ite_f h hb
    refine run_skip ?_
    refine thenK_n ?_
    refine run_seq ?_
    refine run_textE hE [0, 13] (fr' := [(0, i64 n_1375), (13, .bool ((decide (n_1375 < 0))))]) (σ' := []) ⟨_, orcs_nil, ?_⟩ ?_
    · simp only [go_sem, reduceIte, Nat.reduceLT, Nat.reduceEqDiff, Nat.reduceAdd]
    refine run_condL (b := (decide (n_1375 < 0))) rfl (by decide) (fun hb => ?_) (fun hb => ?_)
    · replace h := ite_t h hb
      refine run_textE hE [2] (fr' := [(2, .bool true)]) (σ' := []) ⟨_, orcs_nil, ?_⟩ ?_
      · simp only [go_sem, reduceIte, Nat.reduceLT, Nat.reduceEqDiff, Nat.reduceAdd]
      refine run_ret ?_
      refine thenK_r ?_
      obtain rfl := Option.some.inj h
      refine ret_ok (.inr rfl) ?_
      simp only [go_sem, reduceIte, Nat.reduceLT, Nat.reduceEqDiff, Nat.reduceAdd]
    · replace h := ite_f h hb
      refine run_skip ?_
      refine thenK_n ?_
      replace h := bind_some1 h; obtain ⟨y_1378, hy_1379, h⟩ := h
      refine run_textE hE [0, 3] (fr' := [(0, i64 n_1375), (3, .str y_1378)]) (σ' := []) ⟨_, orcs_ok (l := [(15, 20, [i64 n_1375], .str y_1378)]) ⟨strconv_Itoa_con  hy_1379, trivial⟩, ?_⟩ ?_
      · simp only [go_sem, reduceIte, Nat.reduceLT, Nat.reduceEqDiff, Nat.reduceAdd]
      replace h := chk_some h; obtain ⟨hc_1381, h⟩ := h
      replace h := chk_some h; obtain ⟨hc_1382, h⟩ := h
      have hcn_1383 := hc_1382; simp only [List.cons_append, List.nil_append, List.length_append, List.length_cons, List.length_nil, Nat.zero_add, Nat.reduceAdd] at hcn_1383
      replace h := bind_some1 h; obtain ⟨y_1380, hy_1384, h⟩ := h
      refine run_textE hE [0, 3, 4, 5, 6] (fr' := [(0, i64 n_1375), (3, .str y_1378), (4, .sl false (L cApi_Token y_1380.1)), (5, i64 y_1380.2.1), (6, i64 y_1380.2.2)]) (σ' := []) ⟨_, orcs_ok (l := [(20, 11, [.str (((((([107, 109, 32] : List UInt8)) ++ y_1378)) ++ (([107, 109] : List UInt8))))], .tup [.sl false (L cApi_Token y_1380.1), i64 y_1380.2.1, i64 y_1380.2.2])]) ⟨tlex_Tokens_con  hy_1384, trivial⟩, ?_⟩ ?_
      · simp only [go_sem, reduceIte, Nat.reduceLT, Nat.reduceEqDiff, Nat.reduceAdd, hc_1381, hc_1382, hcn_1383]
      replace h := chk_some h; obtain ⟨hc_1386, h⟩ := h
      replace h := bind_some1 h; obtain ⟨y_1385, hy_1387, h⟩ := h
      refine run_textE hE [0, 3, 4, 5, 6, 8, 9] (fr' := [(0, i64 n_1375), (3, .str y_1378), (4, .sl false (L cApi_Token y_1380.1)), (5, i64 y_1380.2.1), (6, i64 y_1380.2.2), (8, i64 y_1385.2.1), (9, i64 y_1385.2.2)]) (σ' := []) ⟨_, orcs_ok (l := [(27, 11, [.str (((([32, 32, 48] : List UInt8)) ++ y_1378))], .tup [.sl false (L cApi_Token y_1385.1), i64 y_1385.2.1, i64 y_1385.2.2])]) ⟨tlex_Tokens_con  hy_1387, trivial⟩, ?_⟩ ?_
      · simp only [go_sem, reduceIte, Nat.reduceLT, Nat.reduceEqDiff, Nat.reduceAdd, hc_1386]
      refine run_seq ?_
      replace h := bind_some1 h; obtain ⟨t_1388, hv_1389, h⟩ := h
      refine run_textW hE [0, 3, 4, 5, 6, 36] (fr' := [(0, i64 n_1375), (3, .str y_1378), (4, .sl false (L cApi_Token y_1380.1)), (5, i64 y_1380.2.1), (6, i64 y_1380.2.2), (36, .bool t_1388)]) (σ' := []) ?_ ?_
      · rcases Bool.eq_false_or_eq_true ((y_1385.2.2 != 150)) with hb_1390 | hb_1390
        · replace hv_1389 := ite_t hv_1389 hb_1390
          have e_hv_1389 := Option.some.inj hv_1389; subst e_hv_1389
          exact ⟨_, [(0, i64 n_1375), (3, .str y_1378), (4, .sl false (L cApi_Token y_1380.1)), (5, i64 y_1380.2.1), (6, i64 y_1380.2.2), (36, .bool true)], [], orcs_nil, by simp only [go_sem, reduceIte, Nat.reduceLT, Nat.reduceEqDiff, Nat.reduceAdd, hb_1390], (weak_sel [] (by decide) rfl (by simp only [go_sem, reduceIte, Nat.reduceLT, Nat.reduceEqDiff, Nat.reduceAdd]) (by simp only [go_sem, reduceIte, Nat.reduceLT, Nat.reduceEqDiff, Nat.reduceAdd]))⟩
        · replace hv_1389 := ite_f hv_1389 hb_1390
          have e_hv_1389 := Option.some.inj hv_1389; subst e_hv_1389
          exact ⟨_, [(0, i64 n_1375), (3, .str y_1378), (4, .sl false (L cApi_Token y_1380.1)), (5, i64 y_1380.2.1), (6, i64 y_1380.2.2), (36, .bool ((y_1385.2.1 != 2)))], [], orcs_nil, by simp only [go_sem, reduceIte, Nat.reduceLT, Nat.reduceEqDiff, Nat.reduceAdd, hb_1390], (weak_sel [] (by decide) rfl (by simp only [go_sem, reduceIte, Nat.reduceLT, Nat.reduceEqDiff, Nat.reduceAdd]) (by simp only [go_sem, reduceIte, Nat.reduceLT, Nat.reduceEqDiff, Nat.reduceAdd]))⟩
      refine run_condL (b := t_1388) rfl (by decide) (fun hb => ?_) (fun hb => ?_)
      · replace h := ite_t h hb
        refine run_textE hE [2] (fr' := [(2, .bool false)]) (σ' := []) ⟨_, orcs_nil, ?_⟩ ?_
        · simp only [go_sem, reduceIte, Nat.reduceLT, Nat.reduceEqDiff, Nat.reduceAdd]
        refine run_ret ?_
        refine thenK_r ?_
        obtain rfl := Option.some.inj h
        refine ret_ok (.inr rfl) ?_
        simp only [go_sem, reduceIte, Nat.reduceLT, Nat.reduceEqDiff, Nat.reduceAdd]
      · replace h := ite_f h hb
        refine run_skip ?_
        refine thenK_n ?_
        refine run_seq ?_
        refine run_textE hE [0, 3, 4, 5, 6, 38] (fr' := [(0, i64 n_1375), (3, .str y_1378), (4, .sl false (L cApi_Token y_1380.1)), (5, i64 y_1380.2.1), (6, i64 y_1380.2.2), (38, .bool ((decide (n_1375 > 1099511627776))))]) (σ' := []) ⟨_, orcs_nil, ?_⟩ ?_
        · simp only [go_sem, reduceIte, Nat.reduceLT, Nat.reduceEqDiff, Nat.reduceAdd]
        refine run_condL (b := (decide (n_1375 > 1099511627776))) rfl (by decide) (fun hb => ?_) (fun hb => ?_)
        · replace h := ite_t h hb
          replace h := bind_some1 h; obtain ⟨t_1391, hv_1392, h⟩ := h
          refine run_textW hE [2] (fr' := [(2, .bool t_1391)]) (σ' := []) ?_ ?_
          · rcases Bool.eq_false_or_eq_true ((y_1380.2.2 == 2)) with hb_1393 | hb_1393
            · replace hv_1392 := ite_t hv_1392 hb_1393
              rcases Bool.eq_false_or_eq_true ((y_1380.2.1 == 3)) with hb_1394 | hb_1394
              · replace hv_1392 := ite_t hv_1392 hb_1394
                have e_hv_1392 := Option.some.inj hv_1392; subst e_hv_1392
                exact ⟨_, [(2, .bool (((y_1380.1.length : Int) == 0)))], [], orcs_nil, by simp only [go_sem, reduceIte, Nat.reduceLT, Nat.reduceEqDiff, Nat.reduceAdd, hb_1393, hb_1394], (weak_sel [] (by decide) rfl (by simp only [go_sem, reduceIte, Nat.reduceLT, Nat.reduceEqDiff, Nat.reduceAdd]) (by simp only [go_sem, reduceIte, Nat.reduceLT, Nat.reduceEqDiff, Nat.reduceAdd]))⟩
              · replace hv_1392 := ite_f hv_1392 hb_1394
                have e_hv_1392 := Option.some.inj hv_1392; subst e_hv_1392
                exact ⟨_, [(2, .bool false)], [], orcs_nil, by simp only [go_sem, reduceIte, Nat.reduceLT, Nat.reduceEqDiff, Nat.reduceAdd, hb_1393, hb_1394], (weak_sel [] (by decide) rfl (by simp only [go_sem, reduceIte, Nat.reduceLT, Nat.reduceEqDiff, Nat.reduceAdd]) (by simp only [go_sem, reduceIte, Nat.reduceLT, Nat.reduceEqDiff, Nat.reduceAdd]))⟩
            · replace hv_1392 := ite_f hv_1392 hb_1393
              have e_hv_1392 := Option.some.inj hv_1392; subst e_hv_1392
              exact ⟨_, [(2, .bool false)], [], orcs_nil, by simp only [go_sem, reduceIte, Nat.reduceLT, Nat.reduceEqDiff, Nat.reduceAdd, hb_1393], (weak_sel [] (by decide) rfl (by simp only [go_sem, reduceIte, Nat.reduceLT, Nat.reduceEqDiff, Nat.reduceAdd]) (by simp only [go_sem, reduceIte, Nat.reduceLT, Nat.reduceEqDiff, Nat.reduceAdd]))⟩
          refine run_ret ?_
          refine thenK_r ?_
          obtain rfl := Option.some.inj h
          refine ret_ok (.inr rfl) ?_
          simp only [go_sem, reduceIte, Nat.reduceLT, Nat.reduceEqDiff, Nat.reduceAdd]
        · replace h := ite_f h hb
          refine run_skip ?_
          refine thenK_n ?_
          replace h := bind_some1 h; obtain ⟨t_1395, hv_1396, h⟩ := h
          refine run_textW hE [2] (fr' := [(2, .bool t_1395)]) (σ' := []) ?_ ?_
          · rcases Bool.eq_false_or_eq_true ((y_1380.2.2 == 0)) with hb_1397 | hb_1397
            · replace hv_1396 := ite_t hv_1396 hb_1397
              rcases Bool.eq_false_or_eq_true (((y_1380.1.length : Int) == 3)) with hb_1398 | hb_1398
              · replace hv_1396 := ite_t hv_1396 hb_1398
                replace hv_1396 := chk_some hv_1396; obtain ⟨hc_1399, hv_1396⟩ := hv_1396
                rcases Bool.eq_false_or_eq_true ((((nth y_1380.1 1).Kind == 2) && (((nth y_1380.1 1).Text == y_1378) && (((nth y_1380.1 1).N == n_1375) && ((nth y_1380.1 1).At == 3))))) with hb_1400 | hb_1400
                · replace hv_1396 := ite_t hv_1396 hb_1400
                  replace hv_1396 := chk_some hv_1396; obtain ⟨hc_1401, hv_1396⟩ := hv_1396
                  rcases Bool.eq_false_or_eq_true ((((nth y_1380.1 2).Text) == (([107, 109] : List UInt8)))) with hb_1402 | hb_1402
                  · replace hv_1396 := ite_t hv_1396 hb_1402
                    replace hv_1396 := chk_some hv_1396; obtain ⟨hc_1403, hv_1396⟩ := hv_1396
                    have e_hv_1396 := Option.some.inj hv_1396; subst e_hv_1396
                    exact ⟨_, [(2, .bool (((nth y_1380.1 2).At == (w64 (3 + (y_1378.length : Int))))))], [], orcs_nil, by simp only [go_sem, reduceIte, Nat.reduceLT, Nat.reduceEqDiff, Nat.reduceAdd, Nat.reduceGT, Int.reduceToNat, hb_1397, hb_1398, hc_1399, (show 1 < y_1380.1.length from hc_1399.2), hb_1400, hc_1401, (show 2 < y_1380.1.length from hc_1401.2), hb_1402, hc_1403, (show 2 < y_1380.1.length from hc_1403.2)], (weak_sel [] (by decide) rfl (by simp only [go_sem, reduceIte, Nat.reduceLT, Nat.reduceEqDiff, Nat.reduceAdd]) (by simp only [go_sem, reduceIte, Nat.reduceLT, Nat.reduceEqDiff, Nat.reduceAdd]))⟩
                  · replace hv_1396 := ite_f hv_1396 hb_1402
                    have e_hv_1396 := Option.some.inj hv_1396; subst e_hv_1396
                    exact ⟨_, [(2, .bool false)], [], orcs_nil, by simp only [go_sem, reduceIte, Nat.reduceLT, Nat.reduceEqDiff, Nat.reduceAdd, Nat.reduceGT, Int.reduceToNat, hb_1397, hb_1398, hc_1399, (show 1 < y_1380.1.length from hc_1399.2), hb_1400, hc_1401, (show 2 < y_1380.1.length from hc_1401.2), hb_1402], (weak_sel [] (by decide) rfl (by simp only [go_sem, reduceIte, Nat.reduceLT, Nat.reduceEqDiff, Nat.reduceAdd]) (by simp only [go_sem, reduceIte, Nat.reduceLT, Nat.reduceEqDiff, Nat.reduceAdd]))⟩
                · replace hv_1396 := ite_f hv_1396 hb_1400
                  have e_hv_1396 := Option.some.inj hv_1396; subst e_hv_1396
                  exact ⟨_, [(2, .bool false)], [], orcs_nil, by simp only [go_sem, reduceIte, Nat.reduceLT, Nat.reduceEqDiff, Nat.reduceAdd, Nat.reduceGT, Int.reduceToNat, hb_1397, hb_1398, hc_1399, (show 1 < y_1380.1.length from hc_1399.2), hb_1400], (weak_sel [] (by decide) rfl (by simp only [go_sem, reduceIte, Nat.reduceLT, Nat.reduceEqDiff, Nat.reduceAdd]) (by simp only [go_sem, reduceIte, Nat.reduceLT, Nat.reduceEqDiff, Nat.reduceAdd]))⟩
              · replace hv_1396 := ite_f hv_1396 hb_1398
                have e_hv_1396 := Option.some.inj hv_1396; subst e_hv_1396
                exact ⟨_, [(2, .bool false)], [], orcs_nil, by simp only [go_sem, reduceIte, Nat.reduceLT, Nat.reduceEqDiff, Nat.reduceAdd, Nat.reduceGT, Int.reduceToNat, hb_1397, hb_1398], (weak_sel [] (by decide) rfl (by simp only [go_sem, reduceIte, Nat.reduceLT, Nat.reduceEqDiff, Nat.reduceAdd]) (by simp only [go_sem, reduceIte, Nat.reduceLT, Nat.reduceEqDiff, Nat.reduceAdd]))⟩
            · replace hv_1396 := ite_f hv_1396 hb_1397
              have e_hv_1396 := Option.some.inj hv_1396; subst e_hv_1396
              exact ⟨_, [(2, .bool false)], [], orcs_nil, by simp only [go_sem, reduceIte, Nat.reduceLT, Nat.reduceEqDiff, Nat.reduceAdd, Nat.reduceGT, Int.reduceToNat, hb_1397], (weak_sel [] (by decide) rfl (by simp only [go_sem, reduceIte, Nat.reduceLT, Nat.reduceEqDiff, Nat.reduceAdd]) (by simp only [go_sem, reduceIte, Nat.reduceLT, Nat.reduceEqDiff, Nat.reduceAdd]))⟩
          refine run_ret ?_
          obtain rfl := Option.some.inj h
          refine ret_ok (.inr rfl) ?_
          simp only [go_sem, reduceIte, Nat.reduceLT, Nat.reduceEqDiff, Nat.reduceAdd]

end Go.Proofs.YtballlkeogmoiaaDoor
/-
  All walks.
-/

/-
  One token, as the specification has it; the program's token.
-/
namespace Go.Proofs.YtballlkeogmoiaaDoor
open Go.Rv
set_option linter.unusedVariables false

theorem bindS {α β : Type} {o : Option α} {a : α} {f : α → Option β} (h : o = some a) : (o.bind fun x => some x).bind f = f a := by rw [h]; rfl
theorem bindT {α β : Type} {o : Option α} {a : α} {f : α → Option β} (h : o = some a) : o.bind f = f a := by rw [h]; rfl
theorem w64_nat {k : Nat} (h : k < 9223372036854775807) : w64 (k : Int) = (k : Int) := w64_id (by omega)
theorem w64_add {j k : Nat} (h : j + k < 9223372036854775807) : w64 ((j : Int) + (k : Int)) = ((j + k : Nat) : Int) := by rw [w64_id (by omega)]; omega
theorem w64_one {k : Nat} (h : k + 1 < 9223372036854775807) : w64 ((k : Int) + 1) = ((k + 1 : Nat) : Int) := by rw [w64_id (by omega)]; omega
theorem inB_of {k n : Nat} (h : k ≤ n) : InB (k : Int) n := by unfold InB; omega

/-! ### Bytes -/
def isL (c : UInt8) : Bool := decide ((97 : UInt8) ≤ c) && decide (c ≤ (122 : UInt8))
def isD (c : UInt8) : Bool := decide ((48 : UInt8) ≤ c) && decide (c ≤ (57 : UInt8))
def isLD (c : UInt8) : Bool := isL c || isD c
def isB (c : UInt8) : Bool := c == 32 || (c == 9 || (c == 13 || c == 10))

theorem letter_eq (c : UInt8) : tlex_letter c = some (isL c) := by
  unfold tlex_letter isL
  cases decide ((97 : UInt8) ≤ c) <;> simp
theorem digit_eq (c : UInt8) : tlex_digit c = some (isD c) := by
  unfold tlex_digit isD
  cases decide ((48 : UInt8) ≤ c) <;> simp
theorem token1_eq (c : UInt8) : tlex_token_1 c = some (isLD c) := by
  unfold tlex_token_1 isLD
  rw [letter_eq, digit_eq]
  cases isL c <;> simp
theorem rletter_eq (c : UInt8) : r15_letter c = some (isL c) := by
  unfold r15_letter isL
  simp only [ge_iff_le]
  cases decide ((97 : UInt8) ≤ c) <;> simp
theorem rdigit_eq (c : UInt8) : r15_digit c = some (isD c) := by
  unfold r15_digit isD
  simp only [ge_iff_le]
  cases decide ((48 : UInt8) ≤ c) <;> simp
theorem blank_eq (c : UInt8) : r15_Blank c = some (isB c) := by
  unfold r15_Blank isB
  cases c == 32 <;> cases c == 9 <;> cases c == 13 <;> simp

/-! ### Spans -/
theorem tw_nth (p : UInt8 → Bool) : ∀ (l : List UInt8) (k : Nat), (k < (l.takeWhile p).length → p (nth l k) = true) ∧ (k = (l.takeWhile p).length → k < l.length → p (nth l k) = false)
  | [], k => by simp
  | a :: l, k => by
    rw [List.takeWhile_cons]
    cases ha : p a with
    | false =>
      simp only [Bool.false_eq_true, if_false, List.length_nil, List.length_cons]
      refine ⟨fun h => absurd h (by omega), fun h _ => ?_⟩
      subst h
      simpa [nth] using ha
    | true =>
      simp only [if_true, List.length_cons]
      cases k with
      | zero => exact ⟨fun _ => by simpa [nth] using ha, fun h => absurd h (by omega)⟩
      | succ k =>
        have := tw_nth p l k
        have e : nth (a :: l) (k + 1) = nth l k := by simp [nth]
        rw [e]
        exact ⟨fun h => this.1 (by omega), fun h1 h2 => this.2 (by omega) (by omega)⟩
theorem tw_len (p : UInt8 → Bool) : ∀ l : List UInt8, (l.takeWhile p).length ≤ l.length
  | [] => by simp
  | a :: l => by
    rw [List.takeWhile_cons]
    have := tw_len p l
    cases p a <;> simp <;> omega
theorem tw_take (p : UInt8 → Bool) : ∀ l : List UInt8, l.take (l.takeWhile p).length = l.takeWhile p
  | [] => by simp
  | a :: l => by
    rw [List.takeWhile_cons]
    have := tw_take p l
    cases p a <;> simp [this]

theorem span_eq (s : List UInt8) (f : UInt8 → Option Bool) (p : UInt8 → Bool) (hf : ∀ c, f c = some (p c)) (hs : s.length ≤ 1000000) : tlex_span s f = some ((s.takeWhile p).length : Int) := by
  unfold tlex_span
  have hl := tw_len p s
  obtain ⟨x, hx, hq⟩ := loopO_rule (f := fun v : Int => tlex_span_b1 s f v) (fun v => ∃ k : Nat, v = (k : Int) ∧ k ≤ (s.takeWhile p).length) (fun v => s.length - v.toNat)
    (fun x : Unit ⊕ (Unit ⊕ Int) => (match x with | .inl () => (s.length : Int) | .inr (.inl ()) => (s.length : Int) | .inr (.inr z) => z) = ((s.takeWhile p).length : Int)) (by
      rintro v ⟨k, rfl, hk⟩
      have ht := tw_nth p s k
      by_cases h1 : k < s.length
      · have e1 : decide ((k : Int) < (s.length : Int)) = true := by simp; omega
        by_cases h2 : k < (s.takeWhile p).length
        · left
          refine ⟨((k + 1 : Nat) : Int), ?_, ⟨k + 1, rfl, by omega⟩, by simp; omega⟩
          show tlex_span_b1 s f (k : Int) = _
          unfold tlex_span_b1
          rw [if_pos e1, if_pos (inR_of h1), Int.toNat_natCast, hf, ht.1 h2, w64_one (by omega)]
          rfl
        · right
          refine ⟨.inr (.inr (k : Int)), ?_, ?_⟩
          · show tlex_span_b1 s f (k : Int) = _
            unfold tlex_span_b1
            rw [if_pos e1, if_pos (inR_of h1), Int.toNat_natCast, hf, ht.2 (by omega) h1]
            rfl
          · show (k : Int) = _
            omega
      · right
        refine ⟨.inl (), ?_, ?_⟩
        · show tlex_span_b1 s f (k : Int) = _
          unfold tlex_span_b1
          rw [if_neg (by simp; omega)]
        · show (s.length : Int) = _
          omega) (v0 := (0 : Int)) ⟨0, rfl, by omega⟩ (by show s.length - 0 < _; omega)
  rw [hx]
  rcases x with u | (u | z)
  · simpa using hq
  · simpa using hq
  · simpa using hq

/-! ### Numbers -/
def dg (n : Nat) (c : UInt8) : Nat := 10 * n + (c - 48).toNat
def dval (d : List UInt8) : Nat := d.foldl dg 0
theorem dval_snoc (d : List UInt8) (c : UInt8) : dval (d ++ [c]) = dg (dval d) c := by simp [dval]
theorem dg_fold (l : List UInt8) : ∀ n, n ≤ l.foldl dg n := by
  induction l with
  | nil => intro n; exact Nat.le_refl _
  | cons c l ih => intro n; exact Nat.le_trans (by unfold dg; omega) (ih (dg n c))
theorem dval_app (a b : List UInt8) : dval a ≤ dval (a ++ b) := by
  unfold dval
  rw [List.foldl_append]
  exact dg_fold b _
theorem dval_take (d : List UInt8) (k : Nat) : dval (d.take k) ≤ dval d := by
  have := dval_app (d.take k) (d.drop k)
  rwa [List.take_append_drop] at this
theorem take_nth {α : Type} [Inhabited α] {l : List α} {k : Nat} (h : k < l.length) : l.take (k + 1) = l.take k ++ [nth l k] := by
  rw [List.take_succ_eq_append_getElem h]
  congr 2
  simp [nth, h]
theorem dg_lt (n : Nat) (c : UInt8) : dg n c ≤ 10 * n + 255 := by
  have := UInt8.toNat_lt (c - 48)
  unfold dg; omega

def num (d : List UInt8) : Int × Int := if d.length > 1 ∧ nth d 0 = 48 then (0, 150) else if 1099511627776 < dval d then (0, 2) else ((dval d : Int), 0)

theorem number_eq (d : List UInt8) (hd : d.length ≤ 1000000) : tlex_number d = some (num d) := by
  unfold tlex_number num
  have h1 : (if (decide ((d.length : Int) > 1)) = true then if InR 0 d.length then some (((nth d 0) == (48 : UInt8))) else none else some false : Option Bool) = some (decide (d.length > 1 ∧ nth d 0 = 48)) := by
    by_cases h : d.length > 1
    · rw [if_pos (by simp; omega), if_pos (by unfold InR; omega)]
      by_cases h2 : nth d 0 = 48 <;> simp [h, h2]
    · rw [if_neg (by simp; omega)]; simp [h]
  rw [bindT h1]
  by_cases hz : d.length > 1 ∧ nth d 0 = 48
  · simp [hz]
  · rw [if_neg (by simpa using hz), if_neg hz]
    obtain ⟨x, hx, hq⟩ := loopO_rule (f := fun v : Int × Int => tlex_number_b1 d v.1 v.2) (fun v => ∃ k : Nat, v = ((dval (d.take k) : Int), (k : Int)) ∧ k ≤ d.length ∧ dval (d.take k) ≤ 1099511627776) (fun v => d.length - v.2.toNat)
      (fun x : Int ⊕ (Int ⊕ (Int × Int)) => (match x with | .inl n => (n, (0 : Int)) | .inr (.inl n) => (n, (0 : Int)) | .inr (.inr z) => z) = if 1099511627776 < dval d then (0, 2) else ((dval d : Int), 0)) (by
        rintro v ⟨k, rfl, hk, hv⟩
        by_cases h1 : k < d.length
        · have e1 : decide ((k : Int) < (d.length : Int)) = true := by simp; omega
          have hb := dg_lt (dval (d.take k)) (nth d k)
          have e2 : w64 ((w64 (10 * (dval (d.take k) : Int))) + ((((nth d k) - (48 : UInt8))).toNat : Int)) = (dval (d.take (k + 1)) : Int) := by
            rw [take_nth h1, dval_snoc]
            unfold dg at hb ⊢
            have := UInt8.toNat_lt (nth d k - 48)
            have e0 : w64 (10 * (dval (d.take k) : Int)) = 10 * (dval (d.take k) : Int) := w64_id (by omega)
            rw [e0, w64_id (by omega)]
            omega
          have e3 : tlex_number_b1 d (dval (d.take k) : Int) (k : Int) = if (decide ((dval (d.take (k + 1)) : Int) > 1099511627776)) = true then some (.inr (.inr (.inr (0, 2)))) else some (.inl ((dval (d.take (k + 1)) : Int), ((k + 1 : Nat) : Int))) := by
            unfold tlex_number_b1
            rw [if_pos e1, if_pos (inR_of h1), Int.toNat_natCast]
            show (if _ then _ else _) = _
            rw [e2, w64_one (by omega)]
            rfl
          by_cases h3 : dval (d.take (k + 1)) ≤ 1099511627776
          · left
            refine ⟨((dval (d.take (k + 1)) : Int), ((k + 1 : Nat) : Int)), ?_, ⟨k + 1, rfl, by omega, h3⟩, by simp; omega⟩
            show tlex_number_b1 d _ _ = _
            rw [e3, if_neg (by simp; omega)]
          · right
            refine ⟨.inr (.inr (0, 2)), ?_, ?_⟩
            · show tlex_number_b1 d _ _ = _
              rw [e3, if_pos (by simp; omega)]
            · have := dval_take d (k + 1)
              show ((0 : Int), (2 : Int)) = _
              rw [if_pos (by omega)]
        · right
          have hk' : k = d.length := by omega
          subst hk'
          rw [List.take_length] at hv ⊢
          refine ⟨.inl (dval d : Int), ?_, ?_⟩
          · show tlex_number_b1 d _ _ = _
            unfold tlex_number_b1
            rw [if_neg (by simp)]
          · show ((dval d : Int), (0 : Int)) = _
            rw [if_neg (by omega)]) (v0 := ((0, 0) : Int × Int)) ⟨0, rfl, by omega, by simp [dval]⟩ (by show d.length - 0 < _; omega)
    rw [hx]
    rcases x with n | (n | z)
    · simpa using hq
    · simpa using hq
    · simpa using hq

/-! ### Signs -/
def sgn (c : UInt8) : List UInt8 := tabGet ([] : List UInt8) tab1 c

theorem hasPrefix_eq (s p : List UInt8) : strings_HasPrefix s p = some (decide (s.take p.length = p)) := by
  unfold strings_HasPrefix stringslite_HasPrefix
  by_cases h : p.length ≤ s.length
  · rw [if_pos (by simp; omega), if_pos (by unfold InB; omega), Int.toNat_natCast]
    by_cases h2 : s.take p.length = p
    · simp [h2]
    · simp [h2]
  · rw [if_neg (by simp; omega)]
    have : ¬ s.take p.length = p := fun e => by
      have := congrArg List.length e
      simp at this
      omega
    simp [this]

/-! ### A token -/
def tok (s : List UInt8) : Api_Token × Int :=
  if isL (nth s 0) = true then
    if 32 < (s.takeWhile isLD).length then (⟨0, [], 0, 0⟩, 2) else (⟨1, s.takeWhile isLD, 0, 0⟩, 0)
  else if isD (nth s 0) = true then (⟨2, s.takeWhile isD, (num (s.takeWhile isD)).1, 0⟩, (num (s.takeWhile isD)).2)
  else if sgn (nth s 0) ≠ [] ∧ s.take (sgn (nth s 0)).length = sgn (nth s 0) then (⟨3, sgn (nth s 0), 0, 0⟩, 0)
  else (⟨0, [], 0, 0⟩, 150)

theorem token_eq (s : List UInt8) (h0 : 0 < s.length) (hs : s.length ≤ 1000000) : tlex_token s = some (tok s) := by
  unfold tlex_token tok
  have hR : InR 0 s.length := by unfold InR; omega
  have hw := tw_len isLD s
  have hd := tw_len isD s
  rw [if_pos hR, letter_eq]
  show (if isL (nth s 0) = true then _ else _) = _
  by_cases h1 : isL (nth s 0) = true
  · rw [if_pos h1, if_pos h1, bindT (span_eq s _ isLD token1_eq hs), if_pos (inB_of hw), Int.toNat_natCast, tw_take]
    by_cases h2 : 32 < (s.takeWhile isLD).length
    · rw [if_pos (by simp; omega), if_pos h2]
    · rw [if_neg (by simp; omega), if_neg h2]
  · rw [if_neg h1, if_neg h1, digit_eq]
    show (if isD (nth s 0) = true then _ else _) = _
    by_cases h2 : isD (nth s 0) = true
    · rw [if_pos h2, if_pos h2, bindT (span_eq s _ isD digit_eq hs), if_pos (inB_of hd), Int.toNat_natCast, tw_take, bindT (number_eq _ (by omega))]
    · rw [if_neg h2, if_neg h2, if_pos hR]
      show ((if (!(sgn (nth s 0) == [])) = true then (strings_HasPrefix s (sgn (nth s 0))).bind fun y => some y else some false : Option Bool).bind fun t => if t = true then some (({ Kind := 3, Text := sgn (nth s 0), N := 0, At := 0 } : Api_Token), (0 : Int)) else some (({ Kind := 0, Text := ([] : List UInt8), N := 0, At := 0 } : Api_Token), 150)) = _
      rw [hasPrefix_eq]
      by_cases h3 : sgn (nth s 0) = []
      · simp [h3]
      · by_cases h4 : s.take (sgn (nth s 0)).length = sgn (nth s 0)
        · simp [h3, h4]
        · simp [h3, h4]

end Go.Proofs.YtballlkeogmoiaaDoor
/-
  All tokens, as a relation on bytes; the program's tokens.
-/
namespace Go.Proofs.YtballlkeogmoiaaDoor
open Go.Rv
set_option linter.unusedVariables false

/-! ### Signs -/
theorem sgn_fin : ∀ n : Fin 256, sgn (UInt8.ofNat n.val) = [] ∨ (nth (sgn (UInt8.ofNat n.val)) 0 = UInt8.ofNat n.val ∧ isL (UInt8.ofNat n.val) = false ∧ isD (UInt8.ofNat n.val) = false ∧ isB (UInt8.ofNat n.val) = false ∧ UInt8.ofNat n.val ≠ 35 ∧ (sgn (UInt8.ofNat n.val)).length ≤ 2) := by decide +kernel
theorem sgn_ok (c : UInt8) (h : sgn c ≠ []) : nth (sgn c) 0 = c ∧ isL c = false ∧ isD c = false ∧ isB c = false ∧ c ≠ 35 ∧ (sgn c).length ≤ 2 := by
  have := sgn_fin ⟨c.toNat, UInt8.toNat_lt c⟩
  have e : UInt8.ofNat c.toNat = c := UInt8.ofNat_toNat
  simp only [e] at this
  exact this.resolve_left h

theorem char_fin : ∀ n : Fin 256, (isL (UInt8.ofNat n.val) = true → isB (UInt8.ofNat n.val) = false ∧ UInt8.ofNat n.val ≠ 35 ∧ isD (UInt8.ofNat n.val) = false) ∧ (isD (UInt8.ofNat n.val) = true → isB (UInt8.ofNat n.val) = false ∧ UInt8.ofNat n.val ≠ 35 ∧ isL (UInt8.ofNat n.val) = false) ∧ (isB (UInt8.ofNat n.val) = true → isLD (UInt8.ofNat n.val) = false) := by decide +kernel
theorem char_ok (c : UInt8) : (isL c = true → isB c = false ∧ c ≠ 35 ∧ isD c = false) ∧ (isD c = true → isB c = false ∧ c ≠ 35 ∧ isL c = false) ∧ (isB c = true → isLD c = false) := by
  have := char_fin ⟨c.toNat, UInt8.toNat_lt c⟩
  have e : UInt8.ofNat c.toNat = c := UInt8.ofNat_toNat
  simpa only [e] using this

/-! ### What a token is, and where it ends -/
def cont (k : Int) (x : UInt8) : Bool := if k = 1 then isLD x else if k = 2 then isD x else false
def Tk (t : Api_Token) : Prop := t.Text ≠ [] ∧ t.At = 0 ∧ ((t.Kind = 1 ∧ isL (nth t.Text 0) = true ∧ (∀ x ∈ t.Text, isLD x = true) ∧ t.Text.length ≤ 32 ∧ t.N = 0)
  ∨ (t.Kind = 2 ∧ isL (nth t.Text 0) = false ∧ isD (nth t.Text 0) = true ∧ (∀ x ∈ t.Text, isD x = true) ∧ num t.Text = (t.N, 0))
  ∨ (t.Kind = 3 ∧ isL (nth t.Text 0) = false ∧ isD (nth t.Text 0) = false ∧ t.Text = sgn (nth t.Text 0) ∧ t.N = 0))
/-- No further byte of the token stands there. -/
def Ends (k : Int) (r : List UInt8) : Prop := ∀ x, r.head? = some x → cont k x = false

theorem tw_all (p : UInt8 → Bool) : ∀ l : List UInt8, (∀ x ∈ l.takeWhile p, p x = true) ∧ ∀ x, (l.drop (l.takeWhile p).length).head? = some x → p x = false
  | [] => by simp
  | a :: l => by
    rw [List.takeWhile_cons]
    have := tw_all p l
    cases ha : p a with
    | false => simp [ha]
    | true => simpa [ha] using this
theorem tw_app (p : UInt8 → Bool) : ∀ (t r : List UInt8), (∀ x ∈ t, p x = true) → (∀ x, r.head? = some x → p x = false) → (t ++ r).takeWhile p = t
  | [], [], _, _ => rfl
  | [], x :: r, _, h => by
    have := h x rfl
    simp [this]
  | a :: t, r, h1, h2 => by
    have h3 := h1 a (by simp)
    show List.takeWhile p (a :: (t ++ r)) = _
    rw [List.takeWhile_cons, h3, if_pos rfl, tw_app p t r (fun x hx => h1 x (by simp [hx])) h2]

theorem tw_ne (p : UInt8 → Bool) {s : List UInt8} (h0 : 0 < s.length) (h : p (nth s 0) = true) : s.takeWhile p ≠ [] ∧ nth (s.takeWhile p) 0 = nth s 0 := by
  cases s with
  | nil => simp at h0
  | cons a s =>
    have e : nth (a :: s) 0 = a := rfl
    rw [e] at h ⊢
    rw [List.takeWhile_cons, h, if_pos rfl]
    exact ⟨by simp, rfl⟩
theorem nth_app {t : List UInt8} (r : List UInt8) (h : t ≠ []) : nth (t ++ r) 0 = nth t 0 := by
  cases t with
  | nil => exact absurd rfl h
  | cons a t => rfl

theorem tok_inv {s : List UInt8} (h0 : 0 < s.length) (h : (tok s).2 = 0) : Tk (tok s).1 ∧ s = (tok s).1.Text ++ s.drop (tok s).1.Text.length ∧ Ends (tok s).1.Kind (s.drop (tok s).1.Text.length) ∧ nth (tok s).1.Text 0 = nth s 0 := by
  unfold tok at h ⊢
  by_cases h1 : isL (nth s 0) = true
  · have hp : isLD (nth s 0) = true := by unfold isLD; rw [h1]; rfl
    obtain ⟨n1, n2⟩ := tw_ne isLD h0 hp
    by_cases h2 : 32 < (s.takeWhile isLD).length
    · rw [if_pos h1, if_pos h2] at h; cases h
    · rw [if_pos h1, if_neg h2]
      refine ⟨⟨n1, rfl, .inl ⟨rfl, by simpa [n2] using h1, (tw_all isLD s).1, by simp only; omega, rfl⟩⟩, ?_, (tw_all isLD s).2, n2⟩
      show s = s.takeWhile isLD ++ s.drop (s.takeWhile isLD).length
      conv => lhs; rw [← List.take_append_drop (s.takeWhile isLD).length s, tw_take]
  · rw [if_neg h1] at h ⊢
    have h1' : isL (nth s 0) = false := by simpa using h1
    by_cases h2 : isD (nth s 0) = true
    · obtain ⟨n1, n2⟩ := tw_ne isD h0 h2
      rw [if_pos h2] at h ⊢
      refine ⟨⟨n1, rfl, .inr (.inl ⟨rfl, by simpa [n2] using h1', by simpa [n2] using h2, (tw_all isD s).1, Prod.ext rfl h⟩)⟩, ?_, (tw_all isD s).2, n2⟩
      show s = s.takeWhile isD ++ s.drop (s.takeWhile isD).length
      conv => lhs; rw [← List.take_append_drop (s.takeWhile isD).length s, tw_take]
    · rw [if_neg h2] at h ⊢
      have h2' : isD (nth s 0) = false := by simpa using h2
      by_cases h3 : sgn (nth s 0) ≠ [] ∧ s.take (sgn (nth s 0)).length = sgn (nth s 0)
      · rw [if_pos h3]
        have h4 := (sgn_ok _ h3.1).1
        refine ⟨⟨h3.1, rfl, .inr (.inr ⟨rfl, by simpa [h4] using h1', by simpa [h4] using h2', by simp only [h4], rfl⟩)⟩, ?_, fun x _ => rfl, h4⟩
        show s = sgn (nth s 0) ++ s.drop (sgn (nth s 0)).length
        conv => lhs; rw [← List.take_append_drop (sgn (nth s 0)).length s, h3.2]
      · rw [if_neg h3] at h; cases h

theorem tok_of {t : Api_Token} (r : List UInt8) (h : Tk t) (he : Ends t.Kind r) : tok (t.Text ++ r) = (t, 0) := by
  obtain ⟨k, x, n, a⟩ := t
  obtain ⟨h1, h2, h3⟩ := h
  simp only at h1 h2 h3 he
  subst h2
  unfold tok
  simp only
  rw [nth_app r h1]
  rcases h3 with ⟨rfl, a1, a2, a3, rfl⟩ | ⟨rfl, a0, a1, a2, a3⟩ | ⟨rfl, a0, a1, a2, rfl⟩
  · rw [tw_app isLD x r a2 he, if_pos a1, if_neg (by omega)]
  · rw [tw_app isD x r a2 he, a0, if_neg (by simp), if_pos a1, a3]
  · rw [a0, a1, if_neg (by simp), if_neg (by simp), ← a2, if_pos ⟨h1, by simp⟩]

/-! ### Blanks and comments -/
def gb (c : Bool) (b : UInt8) : Option Bool := if (if b = 10 then false else if b = 35 then true else c) = true then some true else if isB b = true then some false else none

theorem gb_tok {b : UInt8} {c : Bool} (h : gb c b = none) : c = false ∧ isB b = false ∧ b ≠ 35 ∧ b ≠ 10 := by
  unfold gb at h
  by_cases h1 : (if b = 10 then false else if b = 35 then true else c) = true
  · rw [if_pos h1] at h; cases h
  · rw [if_neg h1] at h
    by_cases h2 : isB b = true
    · rw [if_pos h2] at h; cases h
    · have h2' : isB b = false := by simpa using h2
      by_cases h3 : b = 10
      · subst h3; exact absurd h2' (by decide)
      · rw [if_neg h3] at h1
        by_cases h4 : b = 35
        · rw [if_pos h4] at h1; exact absurd rfl h1
        · rw [if_neg h4] at h1; exact ⟨by simpa using h1, h2', h4, h3⟩
theorem gb_none {b : UInt8} (h1 : isB b = false) (h2 : b ≠ 35) : gb false b = none := by
  unfold gb
  have h3 : b ≠ 10 := fun e => by subst e; exact absurd h1 (by decide)
  rw [if_neg h3, if_neg h2, if_neg (by simp), if_neg (by simp [h1])]
theorem gb_lf (c : Bool) : gb c 10 = some false := by unfold gb; rw [if_pos rfl]; rfl
theorem gb_hash (c : Bool) : gb c 35 = some true := rfl
theorem gb_true {b : UInt8} (h : b ≠ 10) : gb true b = some true := by unfold gb; rw [if_neg h]; by_cases h2 : b = 35 <;> simp [h2]
theorem gb_blank {b : UInt8} (h : isB b = true) : gb false b = some false := by
  unfold gb
  have h2 : b ≠ 35 := fun e => by subst e; exact absurd h (by decide)
  by_cases h3 : b = 10
  · rw [if_pos h3, if_neg (by simp), if_pos h]
  · rw [if_neg h3, if_neg h2, if_neg (by simp), if_pos h]

/-! ### All tokens of a source -/
inductive Rt : Bool → Nat → List UInt8 → List Api_Token → Option (Nat × Int) → Prop
  | nil (c : Bool) (o : Nat) : Rt c o [] [] none
  | skip {c c' : Bool} {o : Nat} {b : UInt8} {s : List UInt8} {l : List Api_Token} {e : Option (Nat × Int)} (h : gb c b = some c') (r : Rt c' (o + 1) s l e) : Rt c o (b :: s) l e
  | tok {c : Bool} {o : Nat} {b : UInt8} {s : List UInt8} {t : Api_Token} {l : List Api_Token} {e : Option (Nat × Int)} (h : gb c b = none) (ht : tok (b :: s) = (t, 0)) (r : Rt false (o + t.Text.length) ((b :: s).drop t.Text.length) l e) : Rt c o (b :: s) ({ t with At := o } :: l) e
  | err {c : Bool} {o : Nat} {b : UInt8} {s : List UInt8} {x : Int} (h : gb c b = none) (ht : (tok (b :: s)).2 = x) (hx : x ≠ 0) : Rt c o (b :: s) [] (some (o, x))

theorem tok_pair {s : List UInt8} (h : (tok s).2 = 0) : tok s = ((tok s).1, 0) := Prod.ext rfl h

theorem Rt.total : ∀ (n : Nat) (s : List UInt8) (c : Bool) (o : Nat), s.length ≤ n → ∃ l e, Rt c o s l e
  | _, [], c, o, _ => ⟨_, _, .nil c o⟩
  | 0, b :: s, c, o, h => absurd h (by simp)
  | n + 1, b :: s, c, o, h => by
    simp only [List.length_cons] at h
    cases hg : gb c b with
    | some c' =>
      obtain ⟨l, e, hr⟩ := Rt.total n s c' (o + 1) (by omega)
      exact ⟨l, e, .skip hg hr⟩
    | none =>
      by_cases hx : (Go.Proofs.YtballlkeogmoiaaDoor.tok (b :: s)).2 = 0
      · have hi := (tok_inv (by simp) hx).1.1
        have hp := List.length_pos_iff.2 hi
        obtain ⟨l, e, hr⟩ := Rt.total n ((b :: s).drop (Go.Proofs.YtballlkeogmoiaaDoor.tok (b :: s)).1.Text.length) false (o + (Go.Proofs.YtballlkeogmoiaaDoor.tok (b :: s)).1.Text.length) (by simp only [List.length_drop, List.length_cons]; omega)
        exact ⟨_, e, .tok hg (tok_pair hx) hr⟩
      · exact ⟨[], _, .err hg rfl hx⟩

theorem tok_pos {b : UInt8} {s : List UInt8} {t : Api_Token} (h : tok (b :: s) = (t, 0)) : 0 < t.Text.length ∧ t.Text.length ≤ s.length + 1 := by
  have h2 : (tok (b :: s)).2 = 0 := by rw [h]
  obtain ⟨hk, hs, _⟩ := tok_inv (by simp) h2
  rw [h] at hk hs
  have := congrArg List.length hs
  simp only [List.length_cons, List.length_append] at this
  exact ⟨List.length_pos_iff.2 hk.1, by omega⟩

theorem Rt.len {c : Bool} {o : Nat} {s : List UInt8} {l : List Api_Token} {e : Option (Nat × Int)} (h : Rt c o s l e) : l.length ≤ s.length := by
  induction h with
  | nil => simp
  | skip h r ih => simp only [List.length_cons]; omega
  | tok h ht r ih =>
    have := tok_pos ht
    simp only [List.length_drop, List.length_cons] at ih ⊢
    omega
  | err => simp

theorem Rt.comment : ∀ {s : List UInt8} {o : Nat} {l : List Api_Token} {e : Option (Nat × Int)}, Rt true o s l e → (Lib.indexByte s 10 = -1 ∧ l = [] ∧ e = none) ∨ ∃ n : Nat, Lib.indexByte s 10 = (n : Int) ∧ n < s.length ∧ Rt false (o + (n + 1)) (s.drop (n + 1)) l e
  | [], o, l, e, h => by
    cases h
    exact .inl ⟨rfl, rfl, rfl⟩
  | b :: s, o, l, e, h => by
    unfold Lib.indexByte
    cases h with
    | tok h ht r => exact absurd (gb_tok h).1 (by simp)
    | err h ht hx => exact absurd (gb_tok h).1 (by simp)
    | skip h r =>
      by_cases hb : b = 10
      · subst hb
        rw [gb_lf] at h
        obtain rfl := Option.some.inj h
        exact .inr ⟨0, by rw [if_pos (by simp)]; rfl, by simp, by simpa using r⟩
      · rw [gb_true hb] at h
        obtain rfl := Option.some.inj h
        rw [if_neg (by simpa using hb)]
        rcases Rt.comment r with ⟨h1, h2, h3⟩ | ⟨n, h1, h2, h3⟩
        · exact .inl ⟨by rw [h1]; rfl, h2, h3⟩
        · refine .inr ⟨n + 1, ?_, by simp only [List.length_cons]; omega, ?_⟩
          · rw [h1, if_neg (show ¬ (((n : Int) == -1) = true) by rw [beq_iff_eq]; omega)]; omega
          · have e : o + 1 + (n + 1) = o + (n + 1 + 1) := by omega
            rw [e] at h3
            exact h3

/-! ### The program's tokens -/
def res (l : List Api_Token) : Option (Nat × Int) → List Api_Token × Int × Int
  | none => (l, 0, 0)
  | some (o, x) => ([], (o : Int), x)

theorem drop_cons {s : List UInt8} {k : Nat} (h : k < s.length) : s.drop k = nth s k :: s.drop (k + 1) := by
  rw [List.drop_eq_getElem_cons h]
  congr 1
  simp [nth, h]

theorem index_eq (s : List UInt8) : strings_IndexByte s 10 = some (Lib.indexByte s 10) := by
  unfold strings_IndexByte stringslite_IndexByte bytealg_IndexByteString indexBO indexB
  rw [Lib.firstIdx_eq]
  rfl

theorem take_rest (s : List UInt8) (k : Nat) : (s.drop k).take (s.length - k) = s.drop k := List.take_of_length_le (by simp)

theorem blankB (c : UInt8) : (if (c == (32 : UInt8)) = true then some (c == (32 : UInt8)) else if (c == (9 : UInt8)) = true then some (c == (9 : UInt8)) else if (c == (13 : UInt8)) = true then some (c == (13 : UInt8)) else some (c == (10 : UInt8)) : Option Bool) = some (isB c) := by
  unfold isB
  cases c == 32 <;> cases c == 9 <;> cases c == 13 <;> simp

theorem fits40 {n : Nat} (h : n ≤ 1000000) : Fits n 40 := by unfold Fits maxLen roomB; omega

theorem tokens_eq {src : List UInt8} {l : List Api_Token} {e : Option (Nat × Int)} (h : Rt false 0 src l e) (hs : src.length ≤ 2000) : tlex_Tokens src = some (res l e) := by
  unfold tlex_Tokens
  rw [if_neg (by simp; omega)]
  have hll := h.len
  obtain ⟨x, hx, hq⟩ := loopO_rule (f := fun v : Int × List Api_Token => tlex_Tokens_b1 src v.1 v.2) (fun v => ∃ (k : Nat) (acc l2 : List Api_Token), v = ((k : Int), acc) ∧ k ≤ src.length ∧ acc ++ l2 = l ∧ Rt false k (src.drop k) l2 e) (fun v => src.length - v.1.toNat)
    (fun x : List Api_Token ⊕ (List Api_Token ⊕ (List Api_Token × Int × Int)) => (match x with | .inl n => (n, (0 : Int), (0 : Int)) | .inr (.inl n) => (n, (0 : Int), (0 : Int)) | .inr (.inr z) => z) = res l e) (by
      rintro v ⟨k, acc, l2, rfl, hk, hacc, hr⟩
      have hl := congrArg List.length hacc
      simp only [List.length_append] at hl
      by_cases h1 : k < src.length
      · have e1 : decide ((k : Int) < (src.length : Int)) = true := by simp; omega
        have hB : InB (k : Int) src.length := inB_of hk
        rw [drop_cons h1] at hr
        have step : tlex_Tokens_b1 src (k : Int) acc = if isB (nth src k) = true then some (.inl (((k + 1 : Nat) : Int), acc)) else if (nth src k == (35 : UInt8)) = true then
            (strings_IndexByte (nth src k :: src.drop (k + 1)) 10).bind fun y => if (decide (y < 0)) = true then some (.inr (.inl acc)) else some (.inl (w64 ((k : Int) + w64 (y + 1)), acc))
            else (tlex_token (nth src k :: src.drop (k + 1))).bind fun y => if (y.2 != 0) = true then some (.inr (.inr (.inr ([], (k : Int), y.2)))) else some (.inl (w64 ((k : Int) + (y.1.Text.length : Int)), acc ++ [{ y.1 with At := (k : Int) }])) := by
          unfold tlex_Tokens_b1
          rw [if_pos e1, if_pos (inR_of h1), Int.toNat_natCast, bindT (blankB _), w64_one (by omega), if_pos hB, take_rest, drop_cons h1, if_pos hB]
          simp only [if_pos (show Fits (acc.length + 1) 40 from fits40 (by omega))]
          rfl
        cases hr with
        | skip hg hr =>
          by_cases hb : isB (nth src k) = true
          · rw [gb_blank hb] at hg
            obtain rfl := Option.some.inj hg
            left
            refine ⟨(((k + 1 : Nat) : Int), acc), ?_, ⟨k + 1, acc, l2, rfl, by omega, hacc, hr⟩, by simp; omega⟩
            show tlex_Tokens_b1 src (k : Int) acc = _
            rw [step, if_pos hb]
          · have hc : nth src k = 35 := by
              have h0 := hg
              unfold gb at h0
              by_cases e10 : nth src k = 10
              · rw [e10] at hb; exact absurd (by decide) hb
              · rw [if_neg e10] at h0
                by_cases e35 : nth src k = 35
                · exact e35
                · rw [if_neg e35, if_neg (by simp), if_neg hb] at h0; cases h0
            rw [hc, gb_hash] at hg
            obtain rfl := Option.some.inj hg
            have hcm : Rt true k (nth src k :: src.drop (k + 1)) l2 e := .skip (by rw [hc]; exact gb_true (by decide)) hr
            have hstep : tlex_Tokens_b1 src (k : Int) acc = if (decide (Lib.indexByte (nth src k :: src.drop (k + 1)) 10 < 0)) = true then some (.inr (.inl acc)) else some (.inl (w64 ((k : Int) + w64 (Lib.indexByte (nth src k :: src.drop (k + 1)) 10 + 1)), acc)) := by
              rw [step, if_neg hb, if_pos (by simp [hc]), bindT (index_eq _)]
            rcases hcm.comment with ⟨i1, i2, i3⟩ | ⟨n, i1, i2, i3⟩
            · right
              subst i2 i3
              refine ⟨.inl acc, ?_, by rw [List.append_nil] at hacc; rw [hacc]; rfl⟩
              show tlex_Tokens_b1 src (k : Int) acc = _
              rw [hstep, i1, if_pos (by decide)]
            · left
              simp only [List.length_cons, List.length_drop] at i2
              refine ⟨(((k + (n + 1) : Nat) : Int), acc), ?_, ⟨k + (n + 1), acc, l2, rfl, by omega, hacc, ?_⟩, by simp; omega⟩
              · show tlex_Tokens_b1 src (k : Int) acc = _
                rw [hstep, i1, if_neg (by simp), w64_one (by omega), w64_add (by omega)]
              · rw [← drop_cons h1, List.drop_drop] at i3
                exact i3
        | tok hg ht hr =>
          rename_i t l2
          have hb := gb_tok hg
          have hp := tok_pos ht
          simp only [List.length_drop] at hp
          left
          refine ⟨(((k + t.Text.length : Nat) : Int), acc ++ [{ t with At := (k : Int) }]), ?_, ⟨k + t.Text.length, _, l2, rfl, by omega, by rw [List.append_assoc]; exact hacc, ?_⟩, by simp; omega⟩
          · show tlex_Tokens_b1 src (k : Int) acc = _
            rw [step, if_neg (by simp [hb.2.1]), if_neg (by simp [hb.2.2.1]), bindT (token_eq _ (by simp) (by simp; omega)), ht]
            dsimp only
            rw [if_neg (by simp), w64_add (by omega)]
          · rw [← drop_cons h1, List.drop_drop] at hr
            exact hr
        | err hg ht hx =>
          rename_i x
          have hb := gb_tok hg
          right
          refine ⟨.inr (.inr ([], (k : Int), x)), ?_, rfl⟩
          show tlex_Tokens_b1 src (k : Int) acc = _
          rw [step, if_neg (by simp [hb.2.1]), if_neg (by simp [hb.2.2.1]), bindT (token_eq _ (by simp) (by simp; omega)), ht, if_pos (by simpa using hx)]
      · right
        have hk' : k = src.length := by omega
        subst hk'
        rw [List.drop_length] at hr
        cases hr
        refine ⟨.inl acc, ?_, by rw [List.append_nil] at hacc; rw [hacc]; rfl⟩
        show tlex_Tokens_b1 src (src.length : Int) acc = _
        unfold tlex_Tokens_b1
        rw [if_neg (by simp)]) (v0 := ((0, []) : Int × List Api_Token)) ⟨0, [], l, rfl, by omega, rfl, h⟩ (by show src.length - 0 < _; omega)
  rw [hx]
  rcases x with n | (n | z)
  · simpa using hq
  · simpa using hq
  · simpa using hq

theorem tokens_long {src : List UInt8} (hs : 2000 < src.length) : tlex_Tokens src = some ([], 0, 2) := by
  unfold tlex_Tokens
  rw [if_pos (by simp; omega)]

end Go.Proofs.YtballlkeogmoiaaDoor
/-
  The reference's tokens.
-/
namespace Go.Proofs.YtballlkeogmoiaaDoor
open Go.Rv
set_option linter.unusedVariables false

def chain (c : UInt8) : Option Bool :=
  if (c == (123 : UInt8)) = true then some ((c == (123 : UInt8))) else if (c == (125 : UInt8)) = true then some ((c == (125 : UInt8))) else if (c == (40 : UInt8)) = true then some ((c == (40 : UInt8))) else if (c == (41 : UInt8)) = true then some ((c == (41 : UInt8))) else if (c == (59 : UInt8)) = true then some ((c == (59 : UInt8)))
  else if (c == (44 : UInt8)) = true then some ((c == (44 : UInt8))) else if (c == (43 : UInt8)) = true then some ((c == (43 : UInt8))) else if (c == (45 : UInt8)) = true then some ((c == (45 : UInt8))) else if (c == (42 : UInt8)) = true then some ((c == (42 : UInt8))) else some ((c == (60 : UInt8)))
theorem chain_fin : ∀ n : Fin 256, (chain (UInt8.ofNat n.val) = some true ∧ sgn (UInt8.ofNat n.val) = [UInt8.ofNat n.val]) ∨ (chain (UInt8.ofNat n.val) = some false ∧ UInt8.ofNat n.val = 46 ∧ sgn (UInt8.ofNat n.val) = [46, 46]) ∨ (chain (UInt8.ofNat n.val) = some false ∧ UInt8.ofNat n.val ≠ 46 ∧ sgn (UInt8.ofNat n.val) = []) := by decide +kernel
theorem chain_ok (c : UInt8) : (chain c = some true ∧ sgn c = [c]) ∨ (chain c = some false ∧ c = 46 ∧ sgn c = [46, 46]) ∨ (chain c = some false ∧ c ≠ 46 ∧ sgn c = []) := by
  have := chain_fin ⟨c.toNat, UInt8.toNat_lt c⟩
  have e : UInt8.ofNat c.toNat = c := UInt8.ofNat_toNat
  simpa only [e] using this

theorem nth_drop {s : List UInt8} (j k : Nat) : nth (s.drop k) j = nth s (k + j) := by simp [nth, List.getD_eq_getElem?_getD]
theorem nth_take {s : List UInt8} {j k : Nat} (h : j < k) : nth (s.take k) j = nth s j := by simp [nth, List.getD_eq_getElem?_getD, h]

theorem sign_eq (src : List UInt8) (k : Nat) (h : k < src.length) (hs : src.length ≤ 1000000) :
    r15_sign src (k : Int) = some (if sgn (nth src k) ≠ [] ∧ (src.drop k).take (sgn (nth src k)).length = sgn (nth src k) then ((sgn (nth src k)).length : Int) else 0) := by
  have hd := drop_cons h
  have e0 : r15_sign src (k : Int) = ((chain (nth src k)).bind fun t => if t = true then some (.inr 1) else if (nth src k == (46 : UInt8)) = true then
      ((if decide (w64 ((k : Int) + 1) < (src.length : Int)) = true then if InR (w64 ((k : Int) + 1)) src.length then some (nth src (w64 ((k : Int) + 1)).toNat == (46 : UInt8)) else none else some false : Option Bool).bind fun t => if t = true then some (.inr 2) else some (.inl ())) else some (.inl ()) : Option (Unit ⊕ Int)).bind fun x => match x with
      | .inl () => some 0
      | .inr z => some z := by
    unfold r15_sign
    rw [if_pos (inR_of h), Int.toNat_natCast]
    rfl
  rw [e0, w64_one (by omega), Int.toNat_natCast]
  rcases chain_ok (nth src k) with ⟨h1, h2⟩ | ⟨h1, h2, h3⟩ | ⟨h1, h2, h3⟩
  · have hv : (if sgn (nth src k) ≠ [] ∧ (src.drop k).take (sgn (nth src k)).length = sgn (nth src k) then ((sgn (nth src k)).length : Int) else 0) = 1 := by
      rw [h2, if_pos ⟨by simp, by rw [hd]; rfl⟩]; rfl
    rw [hv, h1]
    rfl
  · rw [h1]
    show (if (nth src k == (46 : UInt8)) = true then _ else _ : Option (Unit ⊕ Int)).bind _ = _
    rw [if_pos (by simp [h2])]
    by_cases hk : k + 1 < src.length
    · have hd2 := drop_cons hk
      rw [if_pos (show decide (((k + 1 : Nat) : Int) < (src.length : Int)) = true by simp; omega), if_pos (inR_of hk)]
      by_cases h4 : nth src (k + 1) = 46
      · have hv : (if sgn (nth src k) ≠ [] ∧ (src.drop k).take (sgn (nth src k)).length = sgn (nth src k) then ((sgn (nth src k)).length : Int) else 0) = 2 := by
          rw [h3, if_pos ⟨by simp, by rw [hd, hd2, h2, h4]; rfl⟩]; rfl
        rw [hv, h4]
        rfl
      · have hv : (if sgn (nth src k) ≠ [] ∧ (src.drop k).take (sgn (nth src k)).length = sgn (nth src k) then ((sgn (nth src k)).length : Int) else 0) = 0 := by
          rw [h3, if_neg (fun hh => h4 (by
            have := hh.2
            rw [hd, hd2] at this
            simp at this
            exact this.2))]
        have : (nth src (k + 1) == (46 : UInt8)) = false := by simpa using h4
        rw [hv, this]
        rfl
    · have hv : (if sgn (nth src k) ≠ [] ∧ (src.drop k).take (sgn (nth src k)).length = sgn (nth src k) then ((sgn (nth src k)).length : Int) else 0) = 0 := by
        rw [h3, if_neg (fun hh => by
          have := congrArg List.length hh.2
          simp at this
          omega)]
      rw [hv, if_neg (show ¬ decide (((k + 1 : Nat) : Int) < (src.length : Int)) = true by simp; omega)]
      rfl
  · have hv : (if sgn (nth src k) ≠ [] ∧ (src.drop k).take (sgn (nth src k)).length = sgn (nth src k) then ((sgn (nth src k)).length : Int) else 0) = 0 := if_neg (fun hh => hh.1 h3)
    rw [hv, h1]
    show (if (nth src k == (46 : UInt8)) = true then _ else _ : Option (Unit ⊕ Int)).bind _ = _
    rw [if_neg (by simpa using h2)]
    rfl

theorem isLD_false {c : UInt8} (h : isLD c = false) : isL c = false ∧ isD c = false := by
  unfold isLD at h
  rwa [Bool.or_eq_false_iff] at h

theorem next_b1 (src : List UInt8) (k : Nat) (h : k ≤ src.length) (hs : src.length ≤ 1000000) : loopO (fun v : Int => r15_next_b1 src v) (k : Int) = some ((k + ((src.drop k).takeWhile isLD).length : Nat) : Int) := by
  have hl := tw_len isLD (src.drop k)
  simp only [List.length_drop] at hl
  obtain ⟨x, hx, hq⟩ := loopO_for (f := fun v : Int => r15_next_b1 src v) ((src.drop k).takeWhile isLD).length (fun j v => v = ((k + j : Nat) : Int)) (fun x => x = ((k + ((src.drop k).takeWhile isLD).length : Nat) : Int)) (by omega) (by
      rintro j v hj rfl
      have ht := (tw_nth isLD (src.drop k) j).1 hj
      rw [nth_drop] at ht
      refine ⟨_, ?_, rfl⟩
      show r15_next_b1 src ((k + j : Nat) : Int) = _
      unfold r15_next_b1
      rw [if_pos (by simp; omega), if_pos (inR_of (by omega)), Int.toNat_natCast, rletter_eq, w64_one (by omega)]
      unfold isLD at ht
      cases hL : isL (nth src (k + j)) with
      | true => rfl
      | false =>
        rw [hL, Bool.false_or] at ht
        rw [Option.bind_some, if_neg (by simp), rdigit_eq, ht, if_pos (inR_of (by omega))]
        rfl) (by
      rintro v rfl
      refine ⟨_, ?_, rfl⟩
      show r15_next_b1 src ((k + ((src.drop k).takeWhile isLD).length : Nat) : Int) = _
      unfold r15_next_b1
      by_cases h1 : k + ((src.drop k).takeWhile isLD).length < src.length
      · have ht := (tw_nth isLD (src.drop k) _).2 rfl (by simp only [List.length_drop]; omega)
        rw [nth_drop] at ht
        replace ht := isLD_false ht
        rw [if_pos (by simp; omega), if_pos (inR_of h1), Int.toNat_natCast, rletter_eq, rdigit_eq]
        rw [ht.1, ht.2, Option.bind_some, if_neg (by simp), if_pos (inR_of h1)]
        rfl
      · rw [if_neg (by simp; omega)]
        rfl) (v0 := (k : Int)) (by simp)
  rw [hx, hq]

theorem next_b2 (src : List UInt8) (k : Nat) (h : k ≤ src.length) (hs : src.length ≤ 1000000) : ∃ f : Int, loopO (fun v : Int × Int => r15_next_b2 src v.1 v.2) ((k : Int), 0) = some (((k + ((src.drop k).takeWhile isD).length : Nat) : Int), f) ∧
    (f = (dval ((src.drop k).takeWhile isD) : Int) ∨ (1099511627776 < f ∧ 1099511627776 < dval ((src.drop k).takeWhile isD))) := by
  have hl := tw_len isD (src.drop k)
  simp only [List.length_drop] at hl
  have htk := tw_take isD (src.drop k)
  generalize hd : (src.drop k).takeWhile isD = d at hl htk
  obtain ⟨x, hx, f, rfl, hq⟩ := loopO_for (f := fun v : Int × Int => r15_next_b2 src v.1 v.2) d.length (fun j v => v.1 = ((k + j : Nat) : Int) ∧ 0 ≤ v.2 ∧ v.2 ≤ 1099511627776000 ∧ (v.2 = (dval (d.take j) : Int) ∨ (1099511627776 < v.2 ∧ 1099511627776 < dval (d.take j)))) (fun x => ∃ f : Int, x = (((k + d.length : Nat) : Int), f) ∧ (f = (dval d : Int) ∨ (1099511627776 < f ∧ 1099511627776 < dval d))) (by omega) (by
      rintro j ⟨i, f⟩ hj ⟨hi, h0, h1, h2⟩
      obtain rfl : i = ((k + j : Nat) : Int) := hi
      simp only at h0 h1 h2
      have ht := (tw_nth isD (src.drop k) j).1 (by rw [hd]; exact hj)
      have hn : nth d j = nth src (k + j) := by rw [← nth_drop, ← htk, nth_take hj]
      rw [nth_drop] at ht
      have hu := UInt8.toNat_lt (nth src (k + j) - 48)
      have hmono : dval (d.take j) ≤ dval (d.take (j + 1)) := by
        have := dval_take (d.take (j + 1)) j
        rwa [List.take_take, Nat.min_eq_left (by omega)] at this
      have hstep : r15_next_b2 src ((k + j : Nat) : Int) f = some (.inl (((k + j + 1 : Nat) : Int), if f ≤ 1099511627776 then 10 * f + ((nth src (k + j) - 48).toNat : Int) else f)) := by
        unfold r15_next_b2
        rw [if_pos (by simp; omega), if_pos (inR_of (by omega)), Int.toNat_natCast, rdigit_eq, ht, w64_one (by omega)]
        by_cases hf : f ≤ 1099511627776
        · have e1 : w64 (10 * f) = 10 * f := w64_id (by omega)
          have e2 : w64 (10 * f + (((nth src (k + j)) - (48 : UInt8)).toNat : Int)) = 10 * f + ((nth src (k + j) - 48).toNat : Int) := w64_id (by omega)
          show (if decide (f ≤ 1099511627776) = true then _ else _ : Option Int).bind _ = _
          rw [if_pos (by simpa using hf), if_pos (inR_of (by omega)), e1, if_pos hf]
          show some (Sum.inl (_, w64 (10 * f + (((nth src (k + j)) - (48 : UInt8)).toNat : Int)))) = _
          rw [e2]
        · show (if decide (f ≤ 1099511627776) = true then _ else _ : Option Int).bind _ = _
          rw [if_neg (by simpa using hf), if_neg hf]
          rfl
      refine ⟨_, hstep, rfl, ?_, ?_, ?_⟩
      · show 0 ≤ (if f ≤ 1099511627776 then 10 * f + ((nth src (k + j) - 48).toNat : Int) else f)
        split <;> omega
      · show (if f ≤ 1099511627776 then 10 * f + ((nth src (k + j) - 48).toNat : Int) else f) ≤ _
        split <;> omega
      · show (if f ≤ 1099511627776 then 10 * f + ((nth src (k + j) - 48).toNat : Int) else f) = _ ∨ 1099511627776 < (if f ≤ 1099511627776 then 10 * f + ((nth src (k + j) - 48).toNat : Int) else f) ∧ _
        by_cases hf : f ≤ 1099511627776
        · rw [if_pos hf]
          left
          rcases h2 with h2 | h2
          · rw [take_nth hj, dval_snoc, hn]; unfold dg; rw [h2]; omega
          · exact absurd hf (by omega)
        · rw [if_neg hf]
          right
          refine ⟨by omega, ?_⟩
          rcases h2 with h2 | h2 <;> omega) (by
      rintro ⟨i, f⟩ ⟨hi, h0, h1, h2⟩
      obtain rfl : i = ((k + d.length : Nat) : Int) := hi
      rw [List.take_length] at h2
      refine ⟨_, ?_, f, rfl, h2⟩
      show r15_next_b2 src ((k + d.length : Nat) : Int) f = _
      unfold r15_next_b2
      by_cases h3 : k + d.length < src.length
      · have ht := (tw_nth isD (src.drop k) d.length).2 (by rw [hd]) (by simp only [List.length_drop]; omega)
        rw [nth_drop] at ht
        rw [if_pos (by simp; omega), if_pos (inR_of h3), Int.toNat_natCast, rdigit_eq, ht]
        rfl
      · rw [if_neg (by simp; omega)]
        rfl) (v0 := ((k : Int), (0 : Int))) ⟨by simp, by simp, by simp, .inl (by simp [dval])⟩
  exact ⟨f, hx, hq⟩

theorem next_eq (src : List UInt8) (k : Nat) (h : k < src.length) (hs : src.length ≤ 1000000) : ∃ t', r15_next src (k : Int) = some (t', (tok (src.drop k)).2) ∧ ((tok (src.drop k)).2 = 0 → t' = { (tok (src.drop k)).1 with At := (k : Int) }) := by
  have hn : nth (src.drop k) 0 = nth src k := by rw [nth_drop]; rfl
  have hR := inR_of h
  have hl := tw_len isLD (src.drop k)
  have hl2 := tw_len isD (src.drop k)
  simp only [List.length_drop] at hl hl2
  unfold r15_next tok
  rw [hn, if_pos hR, Int.toNat_natCast, rletter_eq, rdigit_eq]
  by_cases h1 : isL (nth src k) = true
  · rw [h1, if_pos rfl, Option.bind_some, if_pos rfl, next_b1 src k (by omega) hs]
    have e1 : w64 (((k + ((src.drop k).takeWhile isLD).length : Nat) : Int) - (k : Int)) = (((src.drop k).takeWhile isLD).length : Int) := by rw [w64_id (by omega)]; omega
    have e2 : k + ((src.drop k).takeWhile isLD).length - k = ((src.drop k).takeWhile isLD).length := by omega
    simp only [Option.bind_some, Int.toNat_natCast, if_pos (inB_of (show k + ((src.drop k).takeWhile isLD).length ≤ src.length by omega)), if_pos (inB_of (show k ≤ k + ((src.drop k).takeWhile isLD).length by omega)), e1, e2, tw_take, lt1]
    by_cases h2 : 32 < ((src.drop k).takeWhile isLD).length
    · rw [if_pos (by simp; omega), if_pos h2]
      exact ⟨_, rfl, fun hh => by cases hh⟩
    · rw [if_neg (by simp; omega), if_neg h2]
      exact ⟨_, rfl, fun _ => rfl⟩
  · have h1' : isL (nth src k) = false := by simpa using h1
    simp only [h1', Bool.false_eq_true, if_false, Option.bind_some, if_pos hR]
    by_cases h2 : isD (nth src k) = true
    · obtain ⟨f, hf, hq⟩ := next_b2 src k (by omega) hs
      simp only [h2, Bool.not_true, Bool.false_eq_true, if_false, if_true, hf]
      have e1 : w64 (((k + ((src.drop k).takeWhile isD).length : Nat) : Int) - (k : Int)) = (((src.drop k).takeWhile isD).length : Int) := by rw [w64_id (by omega)]; omega
      have e2 : k + ((src.drop k).takeWhile isD).length - k = ((src.drop k).takeWhile isD).length := by omega
      have hn2 : nth ((src.drop k).takeWhile isD) 0 = nth src k := by rw [(tw_ne isD (by simp only [List.length_drop]; omega) (by rw [hn]; exact h2)).2, hn]
      simp only [Option.bind_some, Int.toNat_natCast, if_pos (inB_of (show k + ((src.drop k).takeWhile isD).length ≤ src.length by omega)), if_pos (inB_of (show k ≤ k + ((src.drop k).takeWhile isD).length by omega)), e1, e2, tw_take, lt1]
      unfold num
      rw [hn2]
      generalize (src.drop k).takeWhile isD = d at hq
      have hC : decide (f > 1099511627776) = decide (1099511627776 < dval d) := by
        rcases hq with hq | hq
        · rw [hq]; by_cases h5 : 1099511627776 < dval d <;> simp <;> omega
        · rw [decide_eq_true (show f > 1099511627776 by omega), decide_eq_true hq.2]
      have hf' : ¬ 1099511627776 < dval d → f = (dval d : Int) := fun h5 => by rcases hq with hq | hq <;> omega
      rw [hC]
      by_cases hP : d.length > 1 ∧ nth src k = 48
      · have hA : decide ((d.length : Int) > 1) = true := by simp; omega
        have hB : (nth src k == (48 : UInt8)) = true := by simpa using hP.2
        simp only [hA, hB, if_pos hP, if_true, Option.bind_some]
        exact ⟨_, rfl, fun hh => by cases hh⟩
      · have hA : (if decide ((d.length : Int) > 1) = true then some (nth src k == (48 : UInt8)) else some false : Option Bool) = some false := by
          by_cases h3 : d.length > 1
          · rw [if_pos (by simp; omega)]
            have : ¬ nth src k = 48 := fun h => hP ⟨h3, h⟩
            simpa using this
          · rw [if_neg (by simp; omega)]
        rw [hA, if_neg hP]
        by_cases h5 : 1099511627776 < dval d
        · simp only [Option.bind_some, if_pos h5, decide_eq_true h5, Bool.false_eq_true, if_false, if_true]
          exact ⟨_, rfl, fun hh => by cases hh⟩
        · simp only [Option.bind_some, if_neg h5, decide_eq_false h5, Bool.false_eq_true, if_false]
          exact ⟨_, rfl, fun _ => by rw [hf' h5]⟩
    · have h2' : isD (nth src k) = false := by simpa using h2
      simp only [h2', Bool.not_false, Bool.false_eq_true, if_false, if_true, sign_eq src k h hs, Option.bind_some]
      by_cases h3 : sgn (nth src k) ≠ [] ∧ (src.drop k).take (sgn (nth src k)).length = sgn (nth src k)
      · have hp := List.length_pos_iff.2 h3.1
        have hlen := congrArg List.length h3.2
        simp only [List.length_take, List.length_drop] at hlen
        have hz : (((sgn (nth src k)).length : Int) == 0) = false := by simp; exact h3.1
        have hw : w64 ((k : Int) + ((sgn (nth src k)).length : Int)) = ((k + (sgn (nth src k)).length : Nat) : Int) := w64_add (by omega)
        simp only [if_pos h3, hz, hw, Bool.false_eq_true, if_false]
        have e2 : k + (sgn (nth src k)).length - k = (sgn (nth src k)).length := by omega
        simp only [Int.toNat_natCast, if_pos (inB_of (show k + (sgn (nth src k)).length ≤ src.length by omega)), if_pos (inB_of (show k ≤ k + (sgn (nth src k)).length by omega)), e2, h3.2, lt1]
        exact ⟨_, rfl, fun _ => rfl⟩
      · simp only [if_neg h3, show ((0 : Int) == 0) = true from rfl, if_true]
        exact ⟨_, rfl, fun hh => by cases hh⟩

theorem rtokens_eq {src : List UInt8} {l : List Api_Token} {e : Option (Nat × Int)} (h : Rt false 0 src l e) (hs : src.length ≤ 2000) : r15_Tokens src = some (res l e) := by
  unfold r15_Tokens
  rw [if_neg (by simp; omega)]
  have hll := h.len
  obtain ⟨x, hx, hq⟩ := loopO_rule (f := fun v : Bool × Int × List Api_Token => r15_Tokens_b1 src v.1 v.2.1 v.2.2) (fun v => ∃ (c : Bool) (k : Nat) (acc l2 : List Api_Token), v = (c, (k : Int), acc) ∧ k ≤ src.length ∧ acc ++ l2 = l ∧ Rt c k (src.drop k) l2 e) (fun v => src.length - v.2.1.toNat)
    (fun x : List Api_Token ⊕ (List Api_Token ⊕ (List Api_Token × Int × Int)) => (match x with | .inl n => (n, (0 : Int), (0 : Int)) | .inr (.inl n) => (n, (0 : Int), (0 : Int)) | .inr (.inr z) => z) = res l e) (by
      rintro v ⟨c, k, acc, l2, rfl, hk, hacc, hr⟩
      have hl := congrArg List.length hacc
      simp only [List.length_append] at hl
      by_cases h1 : k < src.length
      · rw [drop_cons h1] at hr
        obtain ⟨t', hn1, hn2⟩ := next_eq src k h1 (by omega)
        rw [drop_cons h1] at hn1 hn2
        have step : r15_Tokens_b1 src c (k : Int) acc = match gb c (nth src k) with
            | some c' => some (.inl (c', ((k + 1 : Nat) : Int), acc))
            | none => (r15_next src (k : Int)).bind fun y => if (y.2 != 0) = true then some (.inr (.inr (.inr ([], (k : Int), y.2)))) else some (.inl (false, w64 ((k : Int) + (y.1.Text.length : Int)), acc ++ [y.1])) := by
          unfold r15_Tokens_b1
          rw [if_pos (by simp; omega), if_pos (inR_of h1), Int.toNat_natCast, w64_one (by omega), blank_eq]
          simp only [if_pos (show Fits (acc.length + 1) 40 from fits40 (by omega))]
          have hg : gb c (nth src k) = if (if nth src k = 10 then false else if nth src k = 35 then true else c) = true then some true else if isB (nth src k) = true then some false else none := rfl
          rw [hg]
          generalize nth src k = b
          by_cases hb1 : b = 10
          · subst hb1; rfl
          · have e1 : (b == (10 : UInt8)) = false := by simpa using hb1
            rw [e1]
            by_cases hb2 : b = 35
            · subst hb2; rfl
            · have e2 : (b == (35 : UInt8)) = false := by simpa using hb2
              rw [e2, if_neg hb1, if_neg hb2]
              cases c
              · cases isB b <;> rfl
              · rfl
        cases hr with
        | skip hg hr =>
          left
          refine ⟨_, ?_, ⟨_, k + 1, acc, l2, rfl, by omega, hacc, hr⟩, by simp; omega⟩
          show r15_Tokens_b1 src c (k : Int) acc = _
          rw [step, hg]
        | tok hg ht hr =>
          rename_i t l2
          have hp := tok_pos ht
          simp only [List.length_drop] at hp
          left
          rw [ht] at hn1 hn2
          obtain rfl := hn2 rfl
          refine ⟨(false, ((k + t.Text.length : Nat) : Int), acc ++ [{ t with At := (k : Int) }]), ?_, ⟨false, k + t.Text.length, _, l2, rfl, by omega, by rw [List.append_assoc]; exact hacc, ?_⟩, by simp; omega⟩
          · show r15_Tokens_b1 src c (k : Int) acc = _
            rw [step, hg]
            simp only
            rw [hn1, Option.bind_some, if_neg (by simp)]
            dsimp only
            rw [w64_add (by omega)]
          · rw [← drop_cons h1, List.drop_drop] at hr
            exact hr
        | err hg ht hx =>
          rename_i x
          right
          refine ⟨.inr (.inr ([], (k : Int), x)), ?_, rfl⟩
          show r15_Tokens_b1 src c (k : Int) acc = _
          rw [step, hg]
          simp only
          rw [hn1, ht, Option.bind_some, if_pos (by simpa using hx)]
      · right
        have hk' : k = src.length := by omega
        subst hk'
        rw [List.drop_length] at hr
        cases hr
        refine ⟨.inl acc, ?_, by rw [List.append_nil] at hacc; rw [hacc]; rfl⟩
        show r15_Tokens_b1 src c (src.length : Int) acc = _
        unfold r15_Tokens_b1
        rw [if_neg (by simp)]) (v0 := ((false, 0, []) : Bool × Int × List Api_Token)) ⟨false, 0, [], l, rfl, by omega, rfl, h⟩ (by show src.length - 0 < _; omega)
  rw [hx]
  rcases x with n | (n | z)
  · simpa using hq
  · simpa using hq
  · simpa using hq

theorem rtokens_long {src : List UInt8} (hs : 2000 < src.length) : r15_Tokens src = some ([], 0, 2) := by
  unfold r15_Tokens
  rw [if_pos (by simp; omega)]

end Go.Proofs.YtballlkeogmoiaaDoor
/-
  Tokens of joined and of changed sources.
-/
namespace Go.Proofs.YtballlkeogmoiaaDoor
open Go.Rv
set_option linter.unusedVariables false

def er (t : Api_Token) : Api_Token := { t with At := 0 }
def sh (k : Nat) (t : Api_Token) : Api_Token := { t with At := t.At + (k : Int) }
theorem er_sh (k : Nat) (l : List Api_Token) : (l.map (sh k)).map er = l.map er := by simp [er, sh, Function.comp_def]

/-- Bytes at which every token ends. -/
def Stop (x : UInt8) : Prop := isB x = true ∨ x = 35
theorem stop_ld {x : UInt8} (h : Stop x) : isLD x = false ∧ isD x = false := by
  have h1 : isLD x = false := by
    rcases h with h | rfl
    · exact (char_ok x).2.2 h
    · decide
  exact ⟨h1, (isLD_false h1).2⟩
theorem stop_cont {x : UInt8} (h : Stop x) (k : Int) : cont k x = false := by
  unfold cont
  split
  · exact (stop_ld h).1
  · split
    · exact (stop_ld h).2
    · rfl
theorem sgn_fin2 : ∀ n : Fin 256, ∀ y ∈ sgn (UInt8.ofNat n.val), isB y = false ∧ y ≠ 35 := by decide +kernel
theorem sgn_stop {c x : UInt8} (h : Stop x) : x ∉ sgn c := fun hx => by
  have := sgn_fin2 ⟨c.toNat, UInt8.toNat_lt c⟩
  have e : UInt8.ofNat c.toNat = c := UInt8.ofNat_toNat
  simp only [e] at this
  have h2 := this x hx
  rcases h with h | h
  · rw [h2.1] at h; cases h
  · exact h2.2 h

theorem tw_ext (p : UInt8 → Bool) (x : UInt8) (r : List UInt8) (hx : p x = false) : ∀ s : List UInt8, (s ++ x :: r).takeWhile p = s.takeWhile p
  | [] => by simp [hx]
  | a :: s => by
    show List.takeWhile p (a :: (s ++ x :: r)) = _
    rw [List.takeWhile_cons, List.takeWhile_cons, tw_ext p x r hx s]

theorem take_ext {s w r : List UInt8} {x : UInt8} (hx : x ∉ w) : ((s ++ x :: r).take w.length = w) ↔ (s.take w.length = w) := by
  by_cases h : w.length ≤ s.length
  · rw [List.take_append_of_le_length h]
  · constructor
    · intro h2
      refine absurd ?_ hx
      rw [← h2, List.take_append]
      refine List.mem_append_right _ ?_
      obtain ⟨j, hj⟩ : ∃ j, w.length - s.length = j + 1 := ⟨w.length - s.length - 1, by omega⟩
      rw [hj, List.take_succ_cons]
      exact List.mem_cons_self
    · intro h2
      have := congrArg List.length h2
      simp only [List.length_take] at this
      omega

theorem tok_ext {s r : List UInt8} {x : UInt8} (h0 : s ≠ []) (hx : Stop x) : tok (s ++ x :: r) = tok s := by
  unfold tok
  rw [nth_app _ h0, tw_ext isLD x r (stop_ld hx).1, tw_ext isD x r (stop_ld hx).2]
  have := take_ext (s := s) (r := r) (sgn_stop (c := nth s 0) hx)
  simp only [this]

theorem Rt.shift {c : Bool} {o : Nat} {s : List UInt8} {l : List Api_Token} {e : Option (Nat × Int)} (k : Nat) (h : Rt c o s l e) : Rt c (o + k) s (l.map (sh k)) (e.map fun p => (p.1 + k, p.2)) := by
  induction h with
  | nil c o => exact .nil c (o + k)
  | skip h r ih =>
    rw [Nat.add_right_comm] at ih
    exact .skip h ih
  | tok h ht r ih =>
    rw [Nat.add_right_comm] at ih
    have := Rt.tok h ht ih
    rw [List.map_cons]
    exact this
  | err h ht hx => exact .err h ht hx

theorem Rt.join {b : List UInt8} {m : List Api_Token} {e : Option (Nat × Int)} {c : Bool} {o : Nat} {a : List UInt8} {l : List Api_Token} {e0 : Option (Nat × Int)} (h : Rt c o a l e0) : e0 = none → Rt false (o + a.length + 1) b m e → Rt c o (a ++ 10 :: b) (l ++ m) e := by
  induction h with
  | nil c o => exact fun _ h => .skip (gb_lf c) h
  | skip h r ih =>
    intro h0 h2
    refine .skip h (ih h0 ?_)
    rw [List.length_cons] at h2
    rw [show ∀ a b : Nat, a + 1 + b + 1 = a + (b + 1) + 1 by omega]
    exact h2
  | tok h ht r ih =>
    intro h0 h2
    have hp := tok_pos ht
    rename_i c o b1 s t l e
    have e1 : (b1 :: s ++ 10 :: b).drop t.Text.length = (b1 :: s).drop t.Text.length ++ 10 :: b := List.drop_append_of_le_length (by simp only [List.length_cons]; omega)
    refine Rt.tok (s := s ++ 10 :: b) h ?_ ?_
    · rw [← ht]
      exact tok_ext (s := b1 :: s) (by simp) (.inl (by decide))
    · show Rt false _ ((b1 :: s ++ 10 :: b).drop t.Text.length) _ _
      rw [e1]
      refine ih h0 ?_
      rw [List.length_drop, List.length_cons]
      rw [List.length_cons] at h2
      have e2 : o + t.Text.length + (s.length + 1 - t.Text.length) + 1 = o + (s.length + 1) + 1 := by omega
      rw [e2]
      exact h2
  | err h ht hx => exact fun h0 => by cases h0

theorem Rt.join_err {b : List UInt8} {c : Bool} {o : Nat} {a : List UInt8} {l : List Api_Token} {e0 : Option (Nat × Int)} {q : Nat × Int} (h : Rt c o a l e0) : e0 = some q → Rt c o (a ++ 10 :: b) l e0 := by
  induction h with
  | nil c o => exact fun h => by cases h
  | skip h r ih => exact fun h0 => .skip h (ih h0)
  | tok h ht r ih =>
    intro h0
    have hp := tok_pos ht
    rename_i c o b1 s t l e
    have e1 : (b1 :: s ++ 10 :: b).drop t.Text.length = (b1 :: s).drop t.Text.length ++ 10 :: b := List.drop_append_of_le_length (by simp only [List.length_cons]; omega)
    refine Rt.tok (s := s ++ 10 :: b) h ?_ ?_
    · rw [← ht]
      exact tok_ext (s := b1 :: s) (by simp) (.inl (by decide))
    · show Rt false _ ((b1 :: s ++ 10 :: b).drop t.Text.length) _ _
      rw [e1]
      exact ih h0
  | err h ht hx =>
    intro he0
    rename_i c o b1 s x0
    refine Rt.err (s := s ++ 10 :: b) h ?_ hx
    rw [← ht]
    exact congrArg Prod.snd (tok_ext (s := b1 :: s) (r := b) (by simp) (.inl (by decide)))

/-! ### Gaps -/
def gapRun : Bool → List UInt8 → Option Bool
  | c, [] => some c
  | c, b :: s => match gb c b with
    | some c' => gapRun c' s
    | none => none
theorem gapRun_app : ∀ (a b : List UInt8) (c : Bool), gapRun c (a ++ b) = (gapRun c a).bind fun c' => gapRun c' b
  | [], b, c => rfl
  | x :: a, b, c => by
    show (match gb c x with | some c' => gapRun c' (a ++ b) | none => none) = (match gb c x with | some c' => gapRun c' a | none => none).bind fun c' => gapRun c' b
    cases gb c x with
    | none => rfl
    | some c' => exact gapRun_app a b c'
theorem Rt.gap {s : List UInt8} {l : List Api_Token} {e : Option (Nat × Int)} {c' : Bool} : ∀ (p : List UInt8) (c : Bool) (o : Nat), gapRun c p = some c' → Rt c' (o + p.length) s l e → Rt c o (p ++ s) l e
  | [], c, o, h, r => by
    obtain rfl := Option.some.inj h
    exact r
  | b :: p, c, o, h, r => by
    unfold gapRun at h
    cases hg : gb c b with
    | none => rw [hg] at h; cases h
    | some c2 =>
      rw [hg] at h
      rw [List.length_cons, Nat.add_comm p.length 1, ← Nat.add_assoc] at r
      exact .skip hg (Rt.gap p c2 (o + 1) h r)

theorem tk_head {t : Api_Token} (h : Tk t) : gb false (nth t.Text 0) = none := by
  obtain ⟨h1, _, h3⟩ := h
  rcases h3 with ⟨_, a, _⟩ | ⟨_, _, a, _⟩ | ⟨_, _, _, a, _⟩
  · have := (char_ok (nth t.Text 0)).1 a
    exact gb_none this.1 this.2.1
  · have := (char_ok (nth t.Text 0)).2.1 a
    exact gb_none this.1 this.2.1
  · have := sgn_ok (nth t.Text 0) (by rw [← a]; exact h1)
    exact gb_none this.2.2.2.1 this.2.2.2.2.1

theorem Rt.tok' {o : Nat} {r : List UInt8} {t : Api_Token} {l : List Api_Token} {e : Option (Nat × Int)} (h : Tk t) (he : Ends t.Kind r) (hr : Rt false (o + t.Text.length) r l e) : Rt false o (t.Text ++ r) ({ t with At := (o : Int) } :: l) e := by
  have hh := tk_head h
  have ht := tok_of r h he
  have hd : (t.Text ++ r).drop t.Text.length = r := List.drop_left
  obtain ⟨b, x, hx⟩ : ∃ b x, t.Text = b :: x := by
    cases hx : t.Text with
    | nil => exact absurd hx h.1
    | cons b x => exact ⟨b, x, rfl⟩
  have e0 : t.Text ++ r = b :: (x ++ r) := by rw [hx]; rfl
  have e1 : nth t.Text 0 = b := by rw [hx]; rfl
  rw [e1] at hh
  rw [e0] at ht hd ⊢
  refine Rt.tok hh ht ?_
  rw [hd]
  exact hr

theorem Rt.tks {c : Bool} {o : Nat} {s : List UInt8} {l : List Api_Token} {e : Option (Nat × Int)} (h : Rt c o s l e) : ∀ t ∈ l, Tk (er t) := by
  induction h with
  | nil => intro t ht; cases ht
  | skip h r ih => exact ih
  | tok h ht r ih =>
    rename_i c o b s t l e
    intro t' ht'
    rcases List.mem_cons.1 ht' with rfl | ht'
    · have := (tok_inv (s := b :: s) (by simp) (by rw [ht])).1
      rw [ht] at this
      have e1 : er { t with At := (o : Int) } = t := by
        have := this.2.1
        obtain ⟨k, x, n, a⟩ := t
        simp only at this
        subst this
        rfl
      rw [e1]
      exact this
    · exact ih t' ht'
  | err => intro t ht; cases ht

theorem Rt.sum {c : Bool} {o : Nat} {s : List UInt8} {l : List Api_Token} {e : Option (Nat × Int)} (h : Rt c o s l e) : (l.map fun t => t.Text.length).sum ≤ s.length := by
  induction h with
  | nil => simp
  | skip h r ih => simp only [List.length_cons]; omega
  | tok h ht r ih =>
    have := tok_pos ht
    simp only [List.length_drop, List.length_cons, List.map_cons, List.sum_cons] at ih ⊢
    omega
  | err => simp

/-! ### The text of tokens -/
def texts (l : List Api_Token) : List (List UInt8) := l.map fun t => t.Text
theorem tail_cons (x : List UInt8) (r : List (List UInt8)) : Lib.joinTail [32] (x :: r) = 32 :: (x ++ Lib.joinTail [32] r) := by simp [Lib.joinTail]
theorem ends_tail (k : Int) (r : List (List UInt8)) : Ends k (Lib.joinTail [32] r) := by
  cases r with
  | nil => intro x hx; simp [Lib.joinTail] at hx
  | cons a r =>
    rw [tail_cons]
    intro x hx
    obtain rfl := Option.some.inj hx
    exact stop_cont (.inl (by decide)) k
theorem rt_tail : ∀ (l : List Api_Token) (o : Nat), (∀ t ∈ l, Tk (er t)) → ∃ m, Rt false o (Lib.joinTail [32] (texts l)) m none ∧ m.map er = l.map er
  | [], o, _ => ⟨[], .nil _ _, rfl⟩
  | t :: l, o, h => by
    obtain ⟨m, h1, h2⟩ := rt_tail l (o + 1 + t.Text.length) (fun t' ht' => h t' (by simp [ht']))
    refine ⟨{ er t with At := ((o + 1 : Nat) : Int) } :: m, ?_, by rw [List.map_cons, List.map_cons, h2]; rfl⟩
    show Rt false o (Lib.joinTail [32] (t.Text :: texts l)) _ _
    rw [tail_cons]
    exact .skip (by decide) (Rt.tok' (t := er t) (h t (by simp)) (ends_tail _ _) h1)
theorem rt_join (l : List Api_Token) (h : ∀ t ∈ l, Tk (er t)) : ∃ m, Rt false 0 (Lib.join (texts l) [32]) m none ∧ m.map er = l.map er := by
  cases l with
  | nil => exact ⟨[], .nil _ _, rfl⟩
  | cons t l =>
    obtain ⟨m, h1, h2⟩ := rt_tail l (0 + t.Text.length) (fun t' ht' => h t' (by simp [ht']))
    refine ⟨{ er t with At := ((0 : Nat) : Int) } :: m, ?_, by rw [List.map_cons, List.map_cons, h2]; rfl⟩
    show Rt false 0 (Lib.join (t.Text :: texts l) [32]) _ _
    rw [Lib.join_cons]
    exact Rt.tok' (t := er t) (h t (by simp)) (ends_tail _ _) h1
theorem tail_len (l : List Api_Token) : (Lib.joinTail [32] (texts l)).length = (l.map fun t => t.Text.length).sum + l.length := by
  induction l with
  | nil => rfl
  | cons t l ih =>
    show (Lib.joinTail [32] (t.Text :: texts l)).length = _
    rw [tail_cons]
    simp only [List.length_cons, List.length_append, List.map_cons, List.sum_cons, ih]
    omega
theorem join_len (l : List Api_Token) : (Lib.join (texts l) [32]).length ≤ (l.map fun t => t.Text.length).sum + l.length := by
  cases l with
  | nil => exact Nat.le_refl _
  | cons t l =>
    show (Lib.join (t.Text :: texts l) [32]).length ≤ _
    rw [Lib.join_cons]
    simp only [List.length_cons, List.length_append, List.map_cons, List.sum_cons, tail_len]
    omega

/-! ### A gap put in -/
theorem Rt.insert {p : List UInt8} (hp : gapRun false p = some false) (hs : ∃ x r, p = x :: r ∧ Stop x) {c : Bool} {o : Nat} {s : List UInt8} {l : List Api_Token} {e : Option (Nat × Int)} (h : Rt c o s l e) :
    e = none → ∀ n, n < l.length → ∃ k m, (nth l n).At = ((o + k : Nat) : Int) ∧ k ≤ s.length ∧ Rt c o (s.take k ++ (p ++ s.drop k)) m none ∧ m.map er = l.map er := by
  induction h with
  | nil c o => intro _ n hn; simp at hn
  | skip h r ih =>
    intro he n hn
    obtain ⟨k, m, h1, h2, h3, h4⟩ := ih he n hn
    refine ⟨k + 1, m, by rw [h1]; omega, by simp only [List.length_cons]; omega, ?_, h4⟩
    exact .skip h h3
  | tok h ht r ih =>
    intro he n hn
    subst he
    rename_i c o b s t l
    have hi := tok_inv (s := b :: s) (by simp) (by rw [ht])
    rw [ht] at hi
    obtain ⟨hk, hsplit, hends, hhead⟩ := hi
    obtain rfl := (gb_tok h).1
    cases n with
    | zero =>
      refine ⟨0, ({ t with At := (o : Int) } :: l).map (sh p.length), rfl, by simp, ?_, er_sh _ _⟩
      show Rt false o (p ++ b :: s) _ none
      exact Rt.gap p false o hp ((Rt.tok h ht r).shift p.length)
    | succ n =>
      obtain ⟨k, m, h1, h2, h3, h4⟩ := ih rfl n (by simpa using hn)
      have hlen := congrArg List.length hsplit
      simp only [List.length_append, List.length_cons] at hlen
      refine ⟨t.Text.length + k, { t with At := (o : Int) } :: m, ?_, by simp only [List.length_cons]; omega, ?_, by rw [List.map_cons, List.map_cons, h4]⟩
      · show (nth l n).At = _
        rw [h1]; omega
      · have e1 : (b :: s).take (t.Text.length + k) ++ (p ++ (b :: s).drop (t.Text.length + k)) = t.Text ++ (((b :: s).drop t.Text.length).take k ++ (p ++ ((b :: s).drop t.Text.length).drop k)) := by
          rw [List.drop_drop, ← List.append_assoc t.Text]
          congr 1
          rw [List.take_add]
          congr 1
          conv => lhs; rw [hsplit]
          exact List.take_left
        rw [e1]
        refine Rt.tok' hk ?_ h3
        intro x hx
        cases k with
        | zero =>
          obtain ⟨y, q, rfl, hy⟩ := hs
          obtain rfl := Option.some.inj hx
          exact stop_cont hy _
        | succ k =>
          cases hd : (b :: s).drop t.Text.length with
          | nil => rw [hd] at h2; simp at h2
          | cons y q =>
            rw [hd] at hx hends
            exact hends x hx
  | err h ht hx => intro he; cases he

theorem gap_comment : ∀ (l : List UInt8), (10 : UInt8) ∉ l → gapRun true l = some true
  | [], _ => rfl
  | b :: l, h => by
    unfold gapRun
    rw [gb_true (fun e => h (by simp [e]))]
    exact gap_comment l (fun e => h (by simp [e]))

/-! ### What stands between tokens -/
theorem Rt.head {c : Bool} {o : Nat} {s : List UInt8} {l : List Api_Token} {e : Option (Nat × Int)} (h : Rt c o s l e) : e = none → match l with
    | [] => ∃ c', gapRun c s = some c'
    | t :: l' => ∃ g r, s = g ++ (t.Text ++ r) ∧ gapRun c g = some false ∧ t.At = ((o + g.length : Nat) : Int) ∧ t.Text ≠ [] ∧ Rt false (o + g.length + t.Text.length) r l' none := by
  induction h with
  | nil c o => exact fun _ => ⟨c, rfl⟩
  | skip h r ih =>
    intro he
    have := ih he
    rename_i c c' o b s l e
    cases l with
    | nil =>
      obtain ⟨c2, h2⟩ := this
      exact ⟨c2, by unfold gapRun; rw [h]; exact h2⟩
    | cons t l =>
      obtain ⟨g, q, h1, h2, h3, h4, h5⟩ := this
      have e1 : ∀ n, o + 1 + g.length + n = o + (b :: g).length + n := fun n => by simp only [List.length_cons]; omega
      refine ⟨b :: g, q, by rw [h1]; rfl, by unfold gapRun; rw [h]; exact h2, ?_, h4, ?_⟩
      · rw [h3]; simp only [List.length_cons]; omega
      · rw [← e1]; exact h5
  | tok h ht r ih =>
    intro he
    subst he
    rename_i c o b s t l
    have hi := tok_inv (s := b :: s) (by simp) (by rw [ht])
    rw [ht] at hi
    obtain ⟨hk, hsplit, hends, hhead⟩ := hi
    exact ⟨[], _, hsplit, by rw [(gb_tok h).1]; rfl, rfl, hk.1, r⟩
  | err h ht hx => intro he; cases he

end Go.Proofs.YtballlkeogmoiaaDoor
/-
  Lists of tokens compared, texts, reserved words.
-/
namespace Go.Proofs.YtballlkeogmoiaaDoor
open Go.Rv
set_option linter.unusedVariables false

theorem all_loop {β : Type} {v : β} {f : Int → Option (Int ⊕ (Unit ⊕ (Unit ⊕ β)))} (n : Nat) (p : Nat → Bool) (hn : n < 1000000000000000000) (hf : ∀ k, k < n → f (k : Int) = some (if p k = true then .inl ((k + 1 : Nat) : Int) else .inr (.inr (.inr v))))
    (he : f (n : Int) = some (.inr (.inl ()))) : loopO (fun i : Int => f i) 0 = some (if (List.range n).all p = true then .inl () else .inr (.inr v)) := by
  obtain ⟨x, hx, rfl⟩ := loopO_rule (f := fun i : Int => f i) (fun v => ∃ k : Nat, v = (k : Int) ∧ k ≤ n ∧ ∀ j, j < k → p j = true) (fun v => n - v.toNat)
    (fun x => x = if (List.range n).all p = true then .inl () else .inr (.inr v)) (by
      rintro w ⟨k, rfl, hk, hp⟩
      by_cases h : k < n
      · cases hpk : p k with
        | true =>
          left
          refine ⟨((k + 1 : Nat) : Int), by show f (k : Int) = _; rw [hf k h, hpk]; rfl, ⟨k + 1, rfl, by omega, fun j hj => ?_⟩, by simp; omega⟩
          by_cases e : j = k
          · rw [e]; exact hpk
          · exact hp j (by omega)
        | false =>
          right
          refine ⟨.inr (.inr v), by show f (k : Int) = _; rw [hf k h, hpk]; rfl, ?_⟩
          rw [if_neg]
          intro h2
          rw [List.all_eq_true] at h2
          rw [h2 k (List.mem_range.2 h)] at hpk
          cases hpk
      · right
        have : k = n := by omega
        subst this
        refine ⟨.inl (), he, ?_⟩
        rw [if_pos]
        rw [List.all_eq_true]
        exact fun j hj => hp j (List.mem_range.1 hj)) (v0 := (0 : Int)) ⟨0, rfl, by omega, fun j hj => by omega⟩ (by show n - 0 < _; omega)
  exact hx

theorem all_ext {α : Type} [Inhabited α] {a b : List α} (h : a.length = b.length) : a = b ↔ ∀ k, k < a.length → nth a k = nth b k := by
  constructor
  · rintro rfl k _; rfl
  · intro h2
    apply List.ext_getElem h
    intro i h3 h4
    have := h2 i h3
    simpa [nth, h3, h4] using this

theorem tok_beq (a b : Api_Token) : (a.Kind == b.Kind && (a.Text == b.Text && (a.N == b.N && a.At == b.At))) = decide (a = b) := by
  obtain ⟨k, x, n, o⟩ := a
  obtain ⟨k', x', n', o'⟩ := b
  rw [Bool.eq_iff_iff]
  simp

theorem same_eq (a b : List Api_Token) (h : a.length < 100000000000) (h2 : b.length < 100000000000) : r15_Same a b = some (decide (a = b)) := by
  unfold r15_Same
  by_cases hl : a.length = b.length
  · rw [if_neg (by simp; omega)]
    have := all_loop (v := false) (f := fun i => r15_Same_b1 a b i) a.length (fun k => decide (nth a k = nth b k)) (by omega) (fun k hk => by
      show r15_Same_b1 a b (k : Int) = _
      unfold r15_Same_b1
      rw [if_pos (by simp; omega), if_pos (inR_of hk), if_pos (inR_of (by omega)), w64_one (by omega)]
      simp only [lt1, Int.toNat_natCast, tok_beq]
      by_cases h : nth a k = nth b k <;> simp [h]) (by
      show r15_Same_b1 a b (a.length : Int) = _
      unfold r15_Same_b1
      rw [if_neg (by simp)])
    rw [this]
    by_cases he : a = b
    · have : (List.range a.length).all (fun k => decide (nth a k = nth b k)) = true := by subst he; simp
      rw [if_pos this, decide_eq_true he]; rfl
    · have : ¬ (List.range a.length).all (fun k => decide (nth a k = nth b k)) = true := by
        intro h3
        rw [List.all_eq_true] at h3
        exact he ((all_ext hl).2 fun k hk => by simpa using h3 k (List.mem_range.2 hk))
      rw [if_neg this, decide_eq_false he]; rfl
  · rw [if_pos (by simp; omega), decide_eq_false (fun e => hl (by rw [e]))]

theorem nth_map {α β : Type} [Inhabited α] [Inhabited β] (f : α → β) (l : List α) {k : Nat} (h : k < l.length) : nth (l.map f) k = f (nth l k) := by simp [nth, h]

theorem er_ext (a b : Api_Token) : er a = er b ↔ (a.Kind = b.Kind ∧ a.Text = b.Text ∧ a.N = b.N) := by
  obtain ⟨k, x, n, o⟩ := a
  obtain ⟨k', x', n', o'⟩ := b
  simp [er]

theorem alike_eq (a b : List Api_Token) (h : a.length < 100000000000) (h2 : b.length < 100000000000) : r15_Alike a b = some (decide (a.map er = b.map er)) := by
  unfold r15_Alike
  by_cases hl : a.length = b.length
  · rw [if_neg (by simp; omega)]
    have := all_loop (v := false) (f := fun i => r15_Alike_b1 a b i) a.length (fun k => decide (er (nth a k) = er (nth b k))) (by omega) (fun k hk => by
      show r15_Alike_b1 a b (k : Int) = _
      unfold r15_Alike_b1
      rw [if_pos (by simp; omega), w64_one (by omega)]
      simp only [if_pos (inR_of hk), if_pos (inR_of (show k < b.length by omega)), Int.toNat_natCast]
      by_cases e1 : (nth a k).Kind = (nth b k).Kind
      · by_cases e2 : (nth a k).Text = (nth b k).Text
        · by_cases e3 : (nth a k).N = (nth b k).N <;> simp [er_ext, e1, e2, e3]
        · simp [er_ext, e1, e2]
      · simp [er_ext, e1]) (by
      show r15_Alike_b1 a b (a.length : Int) = _
      unfold r15_Alike_b1
      rw [if_neg (by simp)])
    rw [this]
    by_cases he : a.map er = b.map er
    · have : (List.range a.length).all (fun k => decide (er (nth a k) = er (nth b k))) = true := by
        rw [List.all_eq_true]
        intro k hk
        have hk' := List.mem_range.1 hk
        rw [← nth_map er a hk', ← nth_map er b (by omega), he]
        simp
      rw [if_pos this, decide_eq_true he]; rfl
    · have : ¬ (List.range a.length).all (fun k => decide (er (nth a k) = er (nth b k))) = true := by
        intro h3
        rw [List.all_eq_true] at h3
        refine he ((all_ext (by simpa using hl)).2 fun k hk => ?_)
        rw [List.length_map] at hk
        rw [nth_map er a hk, nth_map er b (by omega)]
        simpa using h3 k (List.mem_range.2 hk)
      rw [if_neg this, decide_eq_false he]; rfl
  · rw [if_pos (by simp; omega), decide_eq_false (fun e => hl (by simpa using congrArg List.length e))]

theorem gapRun_cons (b : UInt8) (c : Bool) (s : List UInt8) : gapRun c (b :: s) = match gb c b with | some c' => gapRun c' s | none => none := rfl

theorem gap_step (b : UInt8) (c : Bool) (j : Int) : ((if (b == 35) = true then some true else some c : Option Bool).bind fun c1 => (if (b == 10) = true then some false else some c1 : Option Bool).bind fun c2 =>
    (if (!c2) = true then (some (isB b)).bind fun y => some (!y) else some false : Option Bool).bind fun t => if t = true then ((some false).bind fun z => some (Sum.inr z)).bind fun z => some (Sum.inr (Sum.inr z)) else some (Sum.inl (c2, j)) : Option ((Bool × Int) ⊕ (Bool ⊕ (Bool ⊕ Bool)))) =
    match gb c b with
    | some c' => some (.inl (c', j))
    | none => some (.inr (.inr (.inr false))) := by
  unfold gb
  by_cases hb1 : b = 10
  · subst hb1; rfl
  · have e1 : (b == (10 : UInt8)) = false := by simpa using hb1
    rw [e1]
    by_cases hb2 : b = 35
    · subst hb2; rfl
    · have e2 : (b == (35 : UInt8)) = false := by simpa using hb2
      rw [e2, if_neg hb1, if_neg hb2]
      cases c
      · cases isB b <;> rfl
      · rfl

theorem gap_eq (s : List UInt8) (last : Bool) (hs : s.length ≤ 1000000) : law15_gap s last = some (match gapRun false s with | none => false | some c => last || !c) := by
  unfold law15_gap
  obtain ⟨x, hx, hq⟩ := loopO_rule (f := fun v : Bool × Int => law15_gap_b1 s v.1 v.2) (fun v => ∃ (k : Nat), v.2 = (k : Int) ∧ k ≤ s.length ∧ gapRun v.1 (s.drop k) = gapRun false s) (fun v => s.length - v.2.toNat)
    (fun x : Bool ⊕ (Bool ⊕ Bool) => (match x with | .inl c => last || !c | .inr (.inl c) => last || !c | .inr (.inr z) => z) = (match gapRun false s with | none => false | some c => last || !c)) (by
      rintro ⟨c, i⟩ ⟨k, hi, hk, hg⟩
      obtain rfl : i = (k : Int) := hi
      simp only at hg
      by_cases h1 : k < s.length
      · have step : law15_gap_b1 s c (k : Int) = match gb c (nth s k) with
            | some c' => some (.inl (c', ((k + 1 : Nat) : Int)))
            | none => some (.inr (.inr (.inr false))) := by
          unfold law15_gap_b1
          rw [if_pos (by simp; omega), w64_one (by omega)]
          simp only [if_pos (inR_of h1), Int.toNat_natCast, blank_eq]
          exact gap_step (nth s k) c _
        rw [drop_cons h1, gapRun_cons] at hg
        cases hb : gb c (nth s k) with
        | some c' =>
          left
          refine ⟨(c', ((k + 1 : Nat) : Int)), by show law15_gap_b1 s c (k : Int) = _; rw [step, hb], ⟨k + 1, rfl, by omega, ?_⟩, by simp; omega⟩
          rw [hb] at hg
          exact hg
        | none =>
          right
          refine ⟨.inr (.inr false), by show law15_gap_b1 s c (k : Int) = _; rw [step, hb], ?_⟩
          rw [hb] at hg
          have hg' : gapRun false s = none := hg.symm
          rw [hg']
      · right
        have : k = s.length := by omega
        subst this
        rw [List.drop_length] at hg
        refine ⟨.inl c, ?_, ?_⟩
        · show law15_gap_b1 s c (s.length : Int) = _
          unfold law15_gap_b1
          rw [if_neg (by simp)]
        · rw [← hg]
          rfl) (v0 := ((false, 0) : Bool × Int)) ⟨0, rfl, by omega, rfl⟩ (by show s.length - 0 < _; omega)
  rw [hx]
  rcases x with c | (c | z)
  · rw [← hq]; cases last <;> rfl
  · rw [← hq]; cases last <;> rfl
  · rw [← hq]; rfl

/-! ### Texts -/
theorem text_eq (l : List Api_Token) (h : l.length ≤ 1000000) (h2 : (Lib.join (texts l) [32]).length ≤ 140737488355328) : tlex_Text l = some (Lib.join (texts l) [32]) := by
  unfold tlex_Text
  rw [if_pos (by unfold Mk maxLen roomB; omega)]
  have htl : (texts l).length = l.length := by simp [texts]
  obtain ⟨x, hx, rfl⟩ := loopO_for (f := fun v : Int × List (List UInt8) => tlex_Text_b1 l v.1 v.2) l.length (fun k v => v = ((k : Int), (texts l).take k ++ List.replicate (l.length - k) [])) (fun x => x = texts l) (by omega) (by
      rintro k v hk rfl
      refine ⟨_, ?_, rfl⟩
      show tlex_Text_b1 l (k : Int) ((texts l).take k ++ List.replicate (l.length - k) []) = _
      unfold tlex_Text_b1
      rw [if_pos (by simp; omega), if_pos (inR_of hk), w64_one (by omega)]
      simp only [lt1, Int.toNat_natCast]
      rw [if_pos (inR_of (by simp [htl]; omega))]
      have e1 : l.length - k = (l.length - (k + 1)) + 1 := by omega
      have e2 : ((texts l).take k ++ List.replicate (l.length - k) []).set k (nth l k).Text = (texts l).take (k + 1) ++ List.replicate (l.length - (k + 1)) [] := by
        rw [e1, List.replicate_succ, List.set_append, if_neg (by simp [htl]; omega), take_nth (l := texts l) (by omega)]
        have e3 : k - ((texts l).take k).length = 0 := by simp [htl]; omega
        rw [e3, List.set_cons_zero, List.append_assoc]
        unfold texts
        rw [nth_map _ l hk]
        rfl
      rw [e2]) (by
      rintro v rfl
      refine ⟨texts l, ?_, rfl⟩
      show tlex_Text_b1 l (l.length : Int) ((texts l).take l.length ++ List.replicate (l.length - l.length) []) = _
      unfold tlex_Text_b1
      rw [if_neg (by simp), Nat.sub_self, ← htl, List.take_length]
      simp) (v0 := ((0, List.replicate l.length []) : Int × List (List UInt8))) (by simp)
  show ((((loopO (fun v : Int × List (List UInt8) => tlex_Text_b1 l v.1 v.2) (0, List.replicate ((l.length : Int)).toNat [])).bind fun y => some y).bind fun y => (strings_Join y [32]).bind fun z => some z) : Option (List UInt8)) = _
  rw [Int.toNat_natCast, hx]
  show ((strings_Join (texts l) [32]).bind fun z => some z) = _
  unfold strings_Join joinO
  rw [if_pos ⟨h2, by omega⟩]
  rfl

theorem joinT_snoc (xs : List (List UInt8)) (x : List UInt8) : Lib.join (xs ++ [x]) [32] = if xs = [] then x else Lib.join xs [32] ++ 32 :: x := by
  cases xs with
  | nil => simp [Lib.join_one]
  | cons a r =>
    rw [if_neg (by simp), List.cons_append, Lib.join_cons, Lib.join_cons]
    simp [Lib.joinTail]

theorem joinT_mono (xs ys : List (List UInt8)) : (Lib.join xs [32]).length ≤ (Lib.join (xs ++ ys) [32]).length := by
  cases xs with
  | nil => simp [Lib.join_nil]
  | cons a r =>
    rw [List.cons_append, Lib.join_cons, Lib.join_cons]
    simp [Lib.joinTail]

theorem rtext_eq (l : List Api_Token) (h : l.length ≤ 1000000) (h2 : (Lib.join (texts l) [32]).length ≤ 140737488355328) : r15_Text l = some (Lib.join (texts l) [32]) := by
  unfold r15_Text
  have htl : (texts l).length = l.length := by simp [texts]
  obtain ⟨x, hx, rfl⟩ := loopO_for (f := fun v : List UInt8 × Int => r15_Text_b1 l v.1 v.2) l.length (fun k v => v = (Lib.join ((texts l).take k) [32], (k : Int))) (fun x => x = Lib.join (texts l) [32]) (by omega) (by
      rintro k v hk rfl
      refine ⟨_, ?_, rfl⟩
      show r15_Text_b1 l (Lib.join ((texts l).take k) [32]) (k : Int) = _
      have hn : nth (texts l) k = (nth l k).Text := nth_map _ l hk
      have hj := joinT_snoc ((texts l).take k) (nth l k).Text
      rw [← hn, ← take_nth (by omega), hn] at hj
      have hm := joinT_mono ((texts l).take (k + 1)) ((texts l).drop (k + 1))
      rw [List.take_append_drop] at hm
      unfold r15_Text_b1
      rw [if_pos (by simp; omega), w64_one (by omega)]
      simp only [if_pos (inR_of hk), Int.toNat_natCast, lt1]
      by_cases h0 : k = 0
      · subst h0
        rw [if_pos (by simp)] at hj
        rw [hj] at hm ⊢
        rw [if_neg (by simp)]
        have hl0 : Lib.join ((texts l).take 0) [32] = [] := rfl
        rw [hl0, Option.bind_some, if_pos (show FitS (([] : List UInt8).length + (nth l 0).Text.length) by unfold FitS; simp; omega)]
        rfl
      · rw [if_neg (by
          intro e
          have := congrArg List.length e
          rw [List.length_take, htl, List.length_nil] at this
          omega)] at hj
        rw [hj] at hm ⊢
        simp only [List.length_append, List.length_cons] at hm
        have hF : FitS ((Lib.join ((texts l).take k) [32] ++ [(32 : UInt8)]).length + (nth l k).Text.length) := by
          unfold FitS
          rw [List.length_append]
          simp only [List.length_cons, List.length_nil]
          omega
        rw [if_pos (by simp; omega), if_pos (show FitS ((Lib.join ((texts l).take k) [32]).length + 1) by unfold FitS; omega), Option.bind_some, if_pos hF]
        simp) (by
      rintro v rfl
      refine ⟨Lib.join (texts l) [32], ?_, rfl⟩
      show r15_Text_b1 l (Lib.join ((texts l).take l.length) [32]) (l.length : Int) = _
      unfold r15_Text_b1
      rw [if_neg (by simp), ← htl, List.take_length]) (v0 := (([], 0) : List UInt8 × Int)) (by simp [Lib.join_nil])
  show (((loopO (fun v : List UInt8 × Int => r15_Text_b1 l v.1 v.2) ([], 0)).bind fun y => some y).bind fun y => some y) = _
  rw [hx]
  rfl

/-! ### Reserved words -/
theorem tab_true {s : List UInt8} : ∀ {t : List (List UInt8 × Bool)}, (∀ p ∈ t, p.2 = true) → tabGet false t s = decide (s ∈ t.map (·.1))
  | [], _ => rfl
  | p :: t, h => by
    unfold tabGet
    have ih := tab_true (s := s) (t := t) (fun q hq => h q (by simp [hq]))
    by_cases e : (p.1 == s) = true
    · have e' : p.1 = s := by simpa using e
      rw [if_pos e, h p (by simp)]
      simp [e']
    · have e' : ¬ s = p.1 := fun e2 => e (by simp [e2])
      rw [if_neg e, ih]
      simp [e']

theorem words_ok : ∃ w, r15_Words = some w ∧ w.length = 40 ∧ (w.all fun x => (tab0.map (·.1)).contains x) = true ∧ ((tab0.map (·.1)).all fun x => w.contains x) = true ∧ (tab0.all fun p => p.2) = true := by
  exact ⟨_, rfl, by decide, by decide +kernel, by decide +kernel, by decide +kernel⟩

theorem reserved_eq (s : List UInt8) : ∃ b, tlex_Reserved s = some b ∧ r15_Reserved s = some b := by
  obtain ⟨w, hw, hl, h1, h2, h3⟩ := words_ok
  refine ⟨_, rfl, ?_⟩
  rw [tab_true (fun p hp => by simpa using List.all_eq_true.1 h3 p hp)]
  unfold r15_Reserved
  rw [hw]
  have := all_loop (v := true) (f := fun i => r15_Reserved_b1 s w i) w.length (fun k => !decide (nth w k = s)) (by omega) (fun k hk => by
      show r15_Reserved_b1 s w (k : Int) = _
      unfold r15_Reserved_b1
      rw [if_pos (by simp; omega), if_pos (inR_of hk), w64_one (by omega), Int.toNat_natCast]
      by_cases h : nth w k = s <;> simp [h]) (by
      show r15_Reserved_b1 s w (w.length : Int) = _
      unfold r15_Reserved_b1
      rw [if_neg (by simp)])
  rw [Option.bind_some, this]
  by_cases he : s ∈ tab0.map (·.1)
  · have hm : s ∈ w := by simpa using List.all_eq_true.1 h2 s he
    have : ¬ (List.range w.length).all (fun k => !decide (nth w k = s)) = true := by
      intro h4
      rw [List.all_eq_true] at h4
      obtain ⟨k, hk, e⟩ := List.mem_iff_getElem.1 hm
      have := h4 k (List.mem_range.2 hk)
      have e2 : nth w k = s := by simp [nth, hk, e]
      rw [e2] at this
      simp at this
    rw [if_neg this, decide_eq_true he]; rfl
  · have hm : s ∉ w := fun hm => he (by simpa using List.all_eq_true.1 h1 s hm)
    have : (List.range w.length).all (fun k => !decide (nth w k = s)) = true := by
      rw [List.all_eq_true]
      intro k hk
      have hk' := List.mem_range.1 hk
      have : ¬ nth w k = s := fun e => hm (by rw [← e]; simp [nth, hk'])
      simp [this]
    rw [if_pos this, decide_eq_false he]; rfl

end Go.Proofs.YtballlkeogmoiaaDoor
/-
  The examples.
-/
namespace Go.Proofs.YtballlkeogmoiaaDoor
open Go.Rv
set_option linter.unusedVariables false

theorem sane_ok : law15_sane = some true := by decide +kernel

end Go.Proofs.YtballlkeogmoiaaDoor
/-
  The law TlexNumbers as a plain program.
-/
namespace Go.Proofs.YtballlkeogmoiaaDoor
open Go.Rv
set_option linter.unusedVariables false

theorem dig_fin : ∀ k : Fin 10, isD (UInt8.ofNat (48 + k.val)) = true ∧ (UInt8.ofNat (48 + k.val) - 48).toNat = k.val ∧ (0 < k.val → UInt8.ofNat (48 + k.val) ≠ 48) := by decide
theorem dig_ok {k : Nat} (h : k < 10) : isD (UInt8.ofNat (48 + k)) = true ∧ (UInt8.ofNat (48 + k) - 48).toNat = k ∧ (0 < k → UInt8.ofNat (48 + k) ≠ 48) := dig_fin ⟨k, h⟩

theorem dec_ok (u : Nat) : (∀ x ∈ Lib.decDigits u, isD x = true) ∧ dval (Lib.decDigits u) = u ∧ Lib.decDigits u ≠ [] ∧ (0 < u → nth (Lib.decDigits u) 0 ≠ 48) := by
  induction u using Nat.strongRecOn with
  | _ u ih =>
    rw [Lib.decDigits]
    by_cases h : u < 10
    · rw [dif_pos h]
      obtain ⟨h1, h2, h3⟩ := dig_ok h
      refine ⟨fun x hx => by rw [List.mem_singleton.1 hx]; exact h1, ?_, by simp, fun h0 => h3 h0⟩
      show 10 * 0 + (UInt8.ofNat (48 + u) - 48).toNat = u
      rw [h2]; omega
    · rw [dif_neg h]
      obtain ⟨i1, i2, i3, i4⟩ := ih (u / 10) (by omega)
      obtain ⟨h1, h2, h3⟩ := dig_ok (k := u % 10) (by omega)
      refine ⟨fun x hx => ?_, ?_, by simp, fun h0 => ?_⟩
      · rcases List.mem_append.1 hx with hx | hx
        · exact i1 x hx
        · rw [List.mem_singleton.1 hx]; exact h1
      · rw [dval_snoc, i2]
        unfold dg
        rw [h2]
        omega
      · rw [nth_app _ i3]
        exact i4 (by omega)

theorem dec_len : ∀ (k u : Nat), u < 10 ^ (k + 1) → (Lib.decDigits u).length ≤ k + 1
  | 0, u, h => by
    rw [Lib.decDigits, dif_pos (by simpa using h)]
    simp
  | k + 1, u, h => by
    rw [Lib.decDigits]
    by_cases h1 : u < 10
    · rw [dif_pos h1]; simp
    · rw [dif_neg h1]
      have := dec_len k (u / 10) (by rw [Nat.pow_succ] at h; omega)
      simp
      omega

theorem rt_num {o : Nat} {d : List UInt8} {n : Nat} (hd : ∀ x ∈ d, isD x = true) (hne : d ≠ []) (hn : num d = ((n : Int), 0)) {r : List UInt8} {l : List Api_Token} {e : Option (Nat × Int)} (hr : Ends 2 r) (h : Rt false (o + d.length) r l e) :
    Rt false o (d ++ r) (⟨2, d, (n : Int), (o : Int)⟩ :: l) e := by
  have h0 : isD (nth d 0) = true := by
    cases d with
    | nil => exact absurd rfl hne
    | cons a d => exact hd a (by simp)
  exact Rt.tok' (t := ⟨2, d, (n : Int), 0⟩) ⟨hne, rfl, .inr (.inl ⟨rfl, ((char_ok _).2.1 h0).2.2, h0, hd, hn⟩)⟩ hr h
theorem rt_km {o : Nat} {r : List UInt8} {l : List Api_Token} {e : Option (Nat × Int)} (hr : Ends 1 r) (h : Rt false (o + 2) r l e) : Rt false o ([107, 109] ++ r) (⟨1, [107, 109], 0, (o : Int)⟩ :: l) e :=
  Rt.tok' (t := ⟨1, [107, 109], 0, 0⟩) ⟨by simp, rfl, .inl ⟨rfl, rfl, by decide, by decide, rfl⟩⟩ hr h
theorem ends_cons {k : Int} {x : UInt8} {r : List UInt8} (h : cont k x = false) : Ends k (x :: r) := fun y hy => by
  obtain rfl := Option.some.inj hy
  exact h

theorem law_numbers (n : Int) (hn : -9223372036854775808 ≤ n ∧ n ≤ 9223372036854775807) : law15_TlexNumbers n = some true := by
  unfold law15_TlexNumbers
  rw [sane_ok, Option.bind_some, if_neg (by simp)]
  by_cases h0 : n < 0
  · rw [if_pos (by simpa using h0)]
  rw [if_neg (by simpa using h0)]
  have hi : strconv_Itoa n = some (Lib.decDigits n.toNat) := by
    unfold strconv_Itoa itoaO
    rw [if_pos hn]
    unfold Lib.itoa
    rw [if_neg h0]
  obtain ⟨d1, d2, d3, d4⟩ := dec_ok n.toNat
  have d5 := dec_len 18 n.toNat (by omega)
  generalize Lib.decDigits n.toNat = d at hi d1 d2 d3 d4 d5
  have hpos := List.length_pos_iff.2 d3
  have hb : (([107, 109, 32] : List UInt8) ++ d) ++ ([107, 109] : List UInt8) = [107, 109] ++ (32 :: (d ++ [107, 109])) := by simp
  have hlen : (([107, 109] : List UInt8) ++ (32 :: (d ++ [107, 109]))).length ≤ 2000 := by simp; omega
  have hb2 : ([32, 32, 48] : List UInt8) ++ d = 32 :: 32 :: 48 :: d := rfl
  have hlen2 : (32 :: 32 :: 48 :: d : List UInt8).length ≤ 2000 := by simp; omega
  have hd0 : isD (nth d 0) = true := by
    cases d with
    | nil => exact absurd rfl d3
    | cons a d => exact d1 a (by simp)
  -- the number with a 0 in front
  have r2 : Rt false 0 (32 :: 32 :: 48 :: d) [] (some (2, 150)) := by
    refine .skip (c' := false) (by decide) (.skip (c' := false) (by decide) (.err (by decide) ?_ (by decide)))
    unfold tok
    have e1 : nth (48 :: d) 0 = (48 : UInt8) := rfl
    have e2 : (48 :: d).takeWhile isD = 48 :: d := by
      have := tw_app isD (48 :: d) [] (fun x hx => by
        rcases List.mem_cons.1 hx with rfl | hx
        · decide
        · exact d1 x hx) (fun x hx => by cases hx)
      simpa using this
    show (if isL (nth (48 :: d) 0) = true then _ else _ : Api_Token × Int).2 = 150
    rw [e1, if_neg (by decide), if_pos (by decide), e2]
    unfold num
    rw [if_pos ⟨by simp; omega, rfl⟩]
  have t2 := tokens_eq r2 hlen2
  have hF1 : FitS (3 + d.length) := by unfold FitS; omega
  have hF2 : FitS ((([107, 109, 32] : List UInt8) ++ d).length + 2) := by unfold FitS; simp; omega
  by_cases hbig : n > 1099511627776
  · have r1 : Rt false 0 (([107, 109] : List UInt8) ++ (32 :: (d ++ [107, 109]))) [⟨1, [107, 109], 0, 0⟩] (some (3, 2)) := by
      refine rt_km (o := 0) (ends_cons (by decide)) (.skip (c' := false) (by decide) ?_)
      cases hdd : d with
      | nil => exact absurd hdd d3
      | cons a d' =>
        rw [hdd] at d1 hd0 d2 d4
        have ha : isD a = true := hd0
        have hc := (char_ok a).2.1 ha
        show Rt false 3 (a :: (d' ++ [107, 109])) [] (some (3, 2))
        refine Rt.err (gb_none hc.1 hc.2.1) ?_ (by decide)
        have e2 : (a :: (d' ++ [107, 109])).takeWhile isD = a :: d' := tw_app isD (a :: d') [107, 109] d1 (ends_cons (k := 2) (by decide))
        unfold tok
        have e1 : nth (a :: (d' ++ [107, 109])) 0 = a := rfl
        rw [e1, e2, if_neg (by rw [hc.2.2]; simp), if_pos ha]
        unfold num
        rw [if_neg (fun hh => d4 (by omega) hh.2), if_pos (by rw [d2]; omega)]
    have t1 := tokens_eq r1 hlen
    simp only [res] at t1 t2
    simp only [hi, hb, hb2, t1, t2, Option.bind_some, if_pos hF1, if_pos hF2, decide_eq_true hbig]
    simp
  · have hnum : num d = ((n.toNat : Int), 0) := by
      unfold num
      have hz : ¬ (d.length > 1 ∧ nth d 0 = 48) := by
        rintro ⟨z1, z2⟩
        by_cases hp : 0 < n.toNat
        · exact d4 hp z2
        · have : n.toNat = 0 := by omega
          have e0 : hi = hi := rfl
          have e1 : Lib.decDigits n.toNat = [48] := by rw [this, Lib.decDigits, dif_pos (by omega)]; rfl
          have e2 : strconv_Itoa n = some [48] := by
            unfold strconv_Itoa itoaO
            rw [if_pos hn]
            unfold Lib.itoa
            rw [if_neg h0, e1]
          rw [e2] at hi
          obtain rfl := Option.some.inj hi
          simp at z1
      rw [if_neg hz, if_neg (by rw [d2]; omega), d2]
    have r1 : Rt false 0 (([107, 109] : List UInt8) ++ (32 :: (d ++ [107, 109]))) [⟨1, [107, 109], 0, 0⟩, ⟨2, d, (n.toNat : Int), 3⟩, ⟨1, [107, 109], 0, ((3 + d.length : Nat) : Int)⟩] none := by
      refine rt_km (o := 0) (ends_cons (by decide)) (.skip (c' := false) (by decide) ?_)
      refine rt_num (o := 3) d1 d3 hnum (ends_cons (by decide)) ?_
      have := rt_km (o := 3 + d.length) (r := []) (fun x hx => by cases hx) (.nil _ _)
      exact this
    have t1 := tokens_eq r1 hlen
    have hnn : (n.toNat : Int) = n := by omega
    have hw : w64 (3 + (d.length : Int)) = ((3 + d.length : Nat) : Int) := by rw [w64_id (by omega)]; omega
    have hR1 : InR 1 3 := by unfold InR; omega
    have hR2 : InR 2 3 := by unfold InR; omega
    simp only [res] at t1 t2
    simp only [hi, hb, hb2, t1, t2, Option.bind_some, if_pos hF1, if_pos hF2, decide_eq_false hbig, hw, hnn]
    simp [hR1, hR2, nth]

end Go.Proofs.YtballlkeogmoiaaDoor
/-
  Readings of arguments of chapter 15, and of the variables that the row of TlexNumbers lists.
-/
namespace Go.Proofs.YtballlkeogmoiaaDoor
open Go.Rv Go.ChangeShapes Go.WideShapes Go.ChangeAt Go.RowKit
set_option linter.unusedVariables false

theorem bulk_all (H : Type) (l : List (DataW H)) : (l.map (Rows.uptoBulk (H := H))).sum = Rows.uptoBulkAll l := by
  induction l with
  | nil => rfl
  | cons x l ih => simp only [List.map_cons, List.sum_cons, ih, Rows.uptoBulkAll]

theorem bulk_ok : BulkOk (fun H => Rows.uptoBulk (H := H)) where
  one := fun H d => by
    cases d with
    | lit l => cases l <;> simp [Rows.uptoBulk]
    | _ => simp [Rows.uptoBulk]
  str := fun H l => by simp [Rows.uptoBulk]
  slice := fun H e s => by rw [bulk_all]; simp only [Rows.uptoBulk]; omega
  agg := fun H p => by rw [bulk_all]; simp only [Rows.uptoBulk]; omega

theorem cells_of_3 : Tryd.prog.cellsOf 3 = 1 := by kernel_rfl
theorem cells_of_9 : Tryd.prog.cellsOf 9 = 1 := by kernel_rfl
theorem cells_of_32 : Tryd.prog.cellsOf 32 = 4 := by kernel_rfl
theorem opens3 : Opens Tryd.prog (fun H => Rows.uptoBulk (H := H)) 3 cI64 (fun _ => 1) (fun x => -9223372036854775808 ≤ x ∧ x ≤ 9223372036854775807) := opens_i64 bulk_ok Tryd.underlying3
theorem opens9 : Opens Tryd.prog (fun H => Rows.uptoBulk (H := H)) 9 cStr (fun l => l.length + 1) (fun l => l.length ≤ maxLen) := opens_str bulk_ok Tryd.underlying9
theorem opens32 : Opens Tryd.prog (fun H => Rows.uptoBulk (H := H)) 32 cApi_Token (fun t => t.Text.length + 1) (fun _ => True) :=
  opens_struct bulk_ok Tryd.underlying32 (n := 4) cells_of_32
    (opensFs_cons (k := 1) rfl cells_of_3 (fun _ => rfl) opens3 (opensFs_cons (k := 1) rfl cells_of_9 (fun _ => rfl) opens9 (opensFs_cons (k := 1) rfl cells_of_3 (fun _ => rfl) opens3 (opensFs_cons (k := 1) rfl cells_of_3 (fun _ => rfl) opens3 opensFs_nil))))
    (fun x => (⟨x.1, x.2.1, x.2.2.1, x.2.2.2.1⟩ : Api_Token)) (fun _ => rfl) (fun _ => rfl)
    (fun x => by show x.2.1.length + 1 ≤ 1 + (x.2.1.length + 1 + _); omega)
    (fun _ _ => trivial)
theorem opens23 : Opens Tryd.prog (fun H => Rows.uptoBulk (H := H)) 23 (cSl cApi_Token) (szL fun t => t.Text.length + 1) (fun l => l.length ≤ maxLen ∧ ∀ x ∈ l, True) :=
  opens_slice bulk_ok Tryd.underlying23 cells_of_32 (fun _ => rfl) opens32

theorem own : ownKnob Tryd.prog.godebug = none := by kernel_rfl
theorem laid_ok : laidOutB Tryd.prog = true := by kernel_rfl

abbrev laidN : List (String × DataW Unit) := [("math/bits.deBruijn32tab", Rows.laid_math_bits_deBruijn32tab), ("math/bits.deBruijn64tab", Rows.laid_math_bits_deBruijn64tab), ("internal/strconv.uint64pow10", Rows.laid_internal_strconv_uint64pow10), ("wagonpool/tlex.signs", Rows.laid_wagonpool_tlex_signs), ("wagonpool/tlex.reserved", Rows.laid_wagonpool_tlex_reserved)]
theorem laid_s : (Rows.laid_wagonpool_tlex_signs : DataW Unit) = .map (tab1.map fun p => (Lit.int .u8 (p.1.toNat : Int), .lit (.string p.2))) := by kernel_rfl
theorem laid_r : (Rows.laid_wagonpool_tlex_reserved : DataW Unit) = .map (tab0.map fun p => (Lit.string p.1, .lit (.bool p.2))) := by kernel_rfl

theorem door_metN (os : Os) (args : Array Value) : laidMetH Tryd.prog laidN ((World.doorLaid Tryd.prog 289 os).forCall (fun _ _ => 0) ⟨#[], args, []⟩).memory :=
  laidMetH_of_parts3 (fuel := 8) (laidMet_of_run' 8 (by kernel_rfl) (by kernel_rfl)) (by kernel_rfl) (by kernel_rfl)

theorem ans0 : ∀ p ∈ tab0, ansT (fun k => .str k) (fun x => .bool x) tab0 (.str p.1) = some (.bool p.2) := by
  have h : (tab0.all fun p => match ansT (fun k => .str k) (fun x => .bool x) tab0 (.str p.1) with | some (.bool b) => b == p.2 | _ => false) = true := by decide +kernel
  intro p hp
  have := List.all_eq_true.1 h p hp
  split at this
  · rename_i b hb; rw [hb]; rw [beq_iff_eq] at this; rw [this]
  · cases this
theorem ans1 : ∀ p ∈ tab1, ansT (fun k => u8 k) (fun x => .str x) tab1 (u8 p.1) = some (.str p.2) := by
  have h : (tab1.all fun p => match ansT (fun k => u8 k) (fun x => .str x) tab1 (u8 p.1) with | some (.str b) => b == p.2 | _ => false) = true := by decide +kernel
  intro p hp
  have := List.all_eq_true.1 h p hp
  split at this
  · rename_i b hb; rw [hb]; rw [beq_iff_eq] at this; rw [this]
  · cases this

theorem laid_p : (Rows.laid_internal_strconv_uint64pow10 : DataW Unit) = Lib.tabData .u64 Lib.pow10Tab := by kernel_rfl

/-- The three variables of the row that are read. -/
theorem mem_two {W : World} (hw : ∃ t o, W.heap[3]? = some (.cells ((Lib.pow10Tab.map fun z => Value.int .u64 z).toArray) t o)) {c0 c1 : Array Value} {f0 f1 : Nat} {p0 p1 : List MemPlace} (hv0 : W.var? Tryd.prog "wagonpool/tlex.signs" = some c0) (hv1 : W.var? Tryd.prog "wagonpool/tlex.reserved" = some c1)
    (hd0 : DataW.trod (fun _ => ()) Tryd.prog W 0 (fun _ => true) false f0 52 c0.toList = some (Rows.laid_wagonpool_tlex_signs, p0)) (hd1 : DataW.trod (fun _ => ()) Tryd.prog W 0 (fun _ => true) false f1 47 c1.toList = some (Rows.laid_wagonpool_tlex_reserved, p1)) :
    ∃ rs : Nat → Nat, Mem ((B rs).env fun _ => False) W [] [] := by
  rw [laid_s] at hd0
  rw [laid_r] at hd1
  obtain ⟨r1, e1, m1⟩ := mapOk_tab (cK := fun k => u8 k) (cV := fun x => .str x) (lK := fun k : UInt8 => Lit.int .u8 (k.toNat : Int)) (lV := fun x : List UInt8 => Lit.string x) (zv := .str []) Tryd.underlying52 Tryd.underlying5 (fun w => by kernel_rfl) rfl hd0 (fun _ => rfl) (fun _ => rfl)
    (fun v a h => key_u8 Tryd.underlying5 h) (fun n v b pl h => val_str Tryd.underlying9 h) ans1
  obtain ⟨r0, e0, m0⟩ := mapOk_tab (cK := fun k => .str k) (cV := fun x => .bool x) (lK := fun k : List UInt8 => Lit.string k) (lV := fun x : Bool => Lit.bool x) (zv := .bool false) Tryd.underlying47 Tryd.underlying9 (fun w => by kernel_rfl) rfl hd1 (fun _ => rfl) (fun _ => rfl)
    (fun v a h => key_str Tryd.underlying9 h) (fun n v b pl h => val_bool Tryd.underlying4 h) ans0
  have g0 : W.cell? ⟨0, 0, none⟩ = some (.map (some r0)) := by
    have := World.var?_cell (show Tryd.prog.globalNamed "wagonpool/tlex.reserved" = some 0 by kernel_rfl) hv1 0
    rw [this, Array.eq_one_of_toList e0]; rfl
  have g1 : W.cell? ⟨1, 0, none⟩ = some (.map (some r1)) := by
    have := World.var?_cell (show Tryd.prog.globalNamed "wagonpool/tlex.signs" = some 1 by kernel_rfl) hv0 0
    rw [this, Array.eq_one_of_toList e1]; rfl
  refine ⟨fun i => if i = 0 then r0 else r1, rfl, fun id b ab h => by simp at h, fun id id' b b' β h => by simp at h, fun a h => h.elim, fun i cs hG => ?_, fun t m h => ?_, fun i p h => ?_⟩
  · have hG' : (if i = 0 then some [AV.val (.map (some r0))] else if i = 1 then some [AV.val (.map (some r1))] else none) = some cs := hG
    by_cases hi : i = 0
    · rw [if_pos hi] at hG'
      cases hG'
      subst hi
      refine ⟨cell?_lt g0, (by rintro ⟨id, b, hb, _⟩; simp at hb), fun _ hf => hf, fun j => .map (some r0), fun j x hj => ?_⟩
      cases j with
      | zero => cases hj; exact ⟨g0, .val _ _ rfl, rfl⟩
      | succ j => simp at hj
    · rw [if_neg hi] at hG'
      by_cases hi1 : i = 1
      · rw [if_pos hi1] at hG'
        cases hG'
        subst hi1
        refine ⟨cell?_lt g1, (by rintro ⟨id, b, hb, _⟩; simp at hb), fun _ hf => hf, fun j => .map (some r1), fun j x hj => ?_⟩
        cases j with
        | zero => cases hj; exact ⟨g1, .val _ _ rfl, rfl⟩
        | succ j => simp at hj
      · rw [if_neg hi1] at hG'; cases hG'
  · have h' : (if t = 47 then some (⟨r0, 9, 4, .string, .bool false, ansT (fun k => .str k) (fun x => .bool x) tab0⟩ : MapS) else if t = 52 then some ⟨r1, 5, 9, .int .u8, .str ([] : List UInt8), ansT (fun k => u8 k) (fun x => .str x) tab1⟩ else none) = some m := h
    by_cases ht : t = 47
    · rw [if_pos ht] at h'
      cases h'
      subst ht
      exact m0
    · rw [if_neg ht] at h'
      by_cases ht2 : t = 52
      · rw [if_pos ht2] at h'
        cases h'
        subst ht2
        exact m1
      · rw [if_neg ht2] at h'; cases h'
  · have h' : (if i = 3 then some ((Lib.pow10Tab.map fun z => Value.int .u64 z).toArray) else none) = some p := h
    by_cases hi : i = 3
    · rw [if_pos hi] at h'
      cases h'
      subst hi
      exact ⟨(by rintro ⟨id, b, hb, _⟩; simp at hb), hw⟩
    · rw [if_neg hi] at h'; cases h'

theorem mem_mapsN {W : World} (h : laidMetH Tryd.prog laidN W) : ∃ rs : Nat → Nat, Mem ((B rs).env fun _ => False) W [] [] := by
  rw [MakeChecks.laidMetH_plain _ _ _ (by kernel_rfl)] at h
  have htab : Lib.TabIs Tryd.prog W "internal/strconv.uint64pow10" .u64 Lib.pow10Tab := by
    obtain ⟨ps, ⟨_, _, _, _, _, _, _, _, _, _, ⟨_, _, _, _, _, _, _, _, _, _, ⟨g0, t0, cs0, f0, p0, q0, hg0, ht0, hv0, hd0, _⟩, _⟩, _⟩, _, _⟩ := h
    obtain rfl := Option.some.inj ((show Tryd.prog.globalNamed "internal/strconv.uint64pow10" = some 3 by kernel_rfl).symm.trans hg0)
    obtain rfl := Option.some.inj ((show (Tryd.prog.globals[3]?).map (·.type) = some 76 by kernel_rfl).symm.trans ht0)
    rw [laid_p] at hd0
    have hc := Lib.cells_of_tab (n := 20) Tryd.underlying76 Tryd.underlying35 (by kernel_rfl) (by kernel_rfl) hd0
    unfold Lib.TabIs
    rw [hv0, ← hc]
  obtain ⟨ps, ⟨_, _, _, _, _, _, _, _, _, _, ⟨_, _, _, _, _, _, _, _, _, _, ⟨_, _, _, _, _, _, _, _, _, _, ⟨g0, t0, cs0, f0, p0, q0, hg0, ht0, hv0, hd0, ⟨g1, t1, cs1, f1, p1, q1, hg1, ht1, hv1, hd1, _, _⟩, _⟩, _⟩, _⟩, _⟩, _, _⟩ := h
  obtain rfl := Option.some.inj ((show Tryd.prog.globalNamed "wagonpool/tlex.signs" = some 1 by kernel_rfl).symm.trans hg0)
  obtain rfl := Option.some.inj ((show Tryd.prog.globalNamed "wagonpool/tlex.reserved" = some 0 by kernel_rfl).symm.trans hg1)
  obtain rfl := Option.some.inj ((show (Tryd.prog.globals[1]?).map (·.type) = some 52 by kernel_rfl).symm.trans ht0)
  obtain rfl := Option.some.inj ((show (Tryd.prog.globals[0]?).map (·.type) = some 47 by kernel_rfl).symm.trans ht1)
  refine mem_two ?_ hv0 hv1 hd0 hd1
  unfold Lib.TabIs World.var? at htab
  rw [show Tryd.prog.globalNamed "internal/strconv.uint64pow10" = some 3 by kernel_rfl, Option.bind_some] at htab
  split at htab
  · rename_i c t o hc
    cases htab
    exact ⟨t, o, hc⟩
  · cases htab

/-- A law whose contract says true: the call returns true, and below the heap's old size nothing turns. -/
theorem law_callsM {rs : Nat → Nat} {f : FuncId} {avs : List AV} (h : Con (B rs) f avs [] (fun r σ' => r = .bool true ∧ σ' = [])) {fn : Func} {c : Code} (hf : Tryd.prog.funcs[f]? = some fn) (hb : fn.body = some c) (hn : (fn.name == "runtime.NumGoroutine") = false) {W : World} (hm : Mem ((B rs).env fun _ => False) W [] []) {args : Array Value}
    (ha : AllRep W (prot ((B rs).env fun _ => False) []) [] args.toList avs) : Calls Tryd.prog f args W fun e W' => e = .returned (.bool true) ∧ Below W.heap.size W W' := by
  refine ((h.call (fun _ => False) W [] args hm ha).calls hf hb hn).mono ?_
  rintro e w' ⟨v, r, σ', g', rfl, ⟨rfl, rfl⟩, hm, he, hr⟩
  exact ⟨by rw [rep_bool hr], he.below⟩

end Go.Proofs.YtballlkeogmoiaaDoor
