/-
  DigestBindsValues, the row and the tied card of its second form. The row lists the package variable digest.k with the round constants; the card ties it to the program's text. Conditions: the arguments are of bulk at most 1048576 (Upto) and no value holds itself (the row's 'loops').
-/
import Derived.Test.YtgdiabbgiiemcaaDoorZC2
import Derived.Test.YtgdiabbgiiemcaaDoorRows
import Derived.Test.YtgdiabbgiiemcaaDoorR28
import Derived.WalkKit
import Derived.ProofKit
import Derived.OpenShut
import Derived.JoinedCond
import Derived.LaidMore
import Derived.Lay
import Derived.SevenTiedAt
import Derived.Stop.Joined
import Derived.KernelRfl
import Derived.Test.YtgdiabbgiiemcaaDoorR29
import Derived.Test.YtgdiabbgiiemcaaDoorR35
import Derived.Test.YtgdiabbgiiemcaaDoorCards
import Derived.Test.YtgdiabbgiiemcaaDoorTie
/-
  Readings of arguments of chapter 02, and of the package variable that the row lists.
-/
namespace Go.Proofs.YtgdiabbgiiemcaaDoor
open Go.Rv Go.ChangeShapes Go.WideShapes Go.ChangeAt Go.RowKit
set_option linter.unusedVariables false

theorem bulk_all (H : Type) (l : List (DataW H)) : (l.map (Rows.uptoBulk (H := H))).sum = Rows.uptoBulkAll l := by
  induction l with
  | nil => rfl
  | cons x l ih => simp only [List.map_cons, List.sum_cons, ih, Rows.uptoBulkAll]

theorem bulk_ok : BulkOk (fun H => Rows.uptoBulk (H := H)) where
  one := fun H d => by
    cases d with
    | lit l => cases l <;> simp [Rows.uptoBulk]
    | _ => simp [Rows.uptoBulk]
  str := fun H l => by simp [Rows.uptoBulk]
  slice := fun H e s => by rw [bulk_all]; simp only [Rows.uptoBulk]; omega
  agg := fun H p => by rw [bulk_all]; simp only [Rows.uptoBulk]; omega

theorem cells_of_5 : Tryd.prog.cellsOf 5 = 1 := by kernel_rfl
theorem cells_of_22 : Tryd.prog.cellsOf 22 = 1 := by kernel_rfl
theorem cells_of_25 : Tryd.prog.cellsOf 25 = 32 := by kernel_rfl
theorem opens22 : Opens Tryd.prog (fun H => Rows.uptoBulk (H := H)) 22 (cSl cU8) (szL fun _ => 1) (fun l => l.length ≤ maxLen ∧ ∀ x ∈ l, True) :=
  opens_slice bulk_ok Tryd.underlying22 cells_of_5 (fun _ => rfl) (opens_u8 bulk_ok Tryd.underlying5)
theorem opens45 : Opens Tryd.prog (fun H => Rows.uptoBulk (H := H)) 45 (cSl (cSl cU8)) (szL (szL fun _ => 1)) (fun l => l.length ≤ maxLen ∧ ∀ x ∈ l, x.length ≤ maxLen ∧ ∀ y ∈ x, True) :=
  opens_slice bulk_ok Tryd.underlying45 cells_of_22 (fun _ => rfl) opens22
theorem opens9 : Opens Tryd.prog (fun H => Rows.uptoBulk (H := H)) 9 cStr (fun l => l.length + 1) (fun l => l.length ≤ maxLen) := opens_str bulk_ok Tryd.underlying9
theorem opens25 : Opens Tryd.prog (fun H => Rows.uptoBulk (H := H)) 25 (fun a : Arr UInt8 32 => C1 u8 a.l) (fun a => (a.l.map fun _ => 1).sum) (fun a => ∀ x ∈ a.l, True) :=
  opens_arr bulk_ok Tryd.underlying25 cells_of_25 cells_of_5 (opens_u8 bulk_ok Tryd.underlying5)

theorem own : ownKnob Tryd.prog.godebug = none := by kernel_rfl
theorem laid_ok : laidOutB Tryd.prog = true := by kernel_rfl

abbrev laidK : List (String × DataW Unit) := [("wagonpool/digest.k", Rows.laid_wagonpool_digest_k)]
def kz : List Int := glob0.l.map fun x => (x.toNat : Int)
theorem kz_len : kz.length = 64 := by simp [kz, glob0.h]
theorem laid_kz : (Rows.laid_wagonpool_digest_k : DataW Unit) = .agg (kz.map fun n => .lit (.int .u32 n)) := by kernel_rfl

theorem k_cell {W : World} (h : laidMetH Tryd.prog laidK W) (r : Nat) (hr : r < 64) : W.cell? ⟨0, r, none⟩ = some (.int .u32 (kz.getD r 0)) := by
  rw [MakeChecks.laidMetH_plain _ _ _ (by kernel_rfl)] at h
  obtain ⟨ps, ⟨g, t, cs, fuel, p, q, hg, ht, hv, hd, _, _⟩, _, _⟩ := h
  obtain rfl := Option.some.inj ((show Tryd.prog.globalNamed "wagonpool/digest.k" = some 0 by kernel_rfl).symm.trans hg)
  obtain rfl := Option.some.inj ((show (Tryd.prog.globals[0]?).map (·.type) = some 66 by kernel_rfl).symm.trans ht)
  rw [laid_kz] at hd
  obtain ⟨xs, m, _, ex, _, hl, hel⟩ := DataW.trod_array Tryd.underlying66 hd
  have c5 : Tryd.prog.cellsOf 55 = 1 := by kernel_rfl
  have hE := hel r hr
  rw [c5, Nat.mul_one, List.getElem?_eq_getElem (by omega)] at hE
  obtain ⟨z, e1, e2, _⟩ := DataW.trod_int Tryd.underlying55 hE
  have hlen := kz_len
  have e3 : (xs.map (·.1)) = kz.map fun n => .lit (.int .u32 n) := (DataW.agg.inj (Prod.mk.inj ex).1).symm
  have e4 : (xs.map (·.1))[r]? = (kz.map fun n => (DataW.lit (.int .u32 n) : DataW Unit))[r]? := by rw [e3]
  rw [List.getElem?_map, List.getElem?_map, List.getElem?_eq_getElem (by omega : r < xs.length), List.getElem?_eq_getElem (by omega : r < kz.length), e2] at e4
  have hz : z = kz.getD r 0 := by
    simp only [Option.map_some, Option.some.injEq, DataW.lit.injEq, Lit.int.injEq, true_and] at e4
    rw [e4, List.getD, List.getElem?_eq_getElem (by omega : r < kz.length)]; rfl
  rw [World.var?_cell hg hv r, ← hz]
  have : cs.toList[r]? = some (.int .u32 z) := by
    have h0 : ((cs.toList.drop r).take 1)[0]? = some (.int .u32 z) := by rw [e1]; rfl
    simpa using h0
  simpa using this

theorem mem_k {W : World} (h : laidMetH Tryd.prog laidK W) : Mem (B.env fun _ => False) W [] [] := by
  refine ⟨rfl, fun id b ab h => by simp at h, fun id id' b b' β h => by simp at h, fun a h => h.elim, fun i cs hG => ?_⟩
  have hG' : (if i = 0 then some (C1 u32 glob0.l) else none) = some cs := hG
  by_cases hi : i = 0
  · rw [if_pos hi] at hG'
    cases hG'
    subst hi
    refine ⟨cell?_lt (k_cell h 0 (by omega)), (by rintro ⟨id, b, hb, _⟩; simp at hb), fun _ hf => hf, fun j => .int .u32 (kz.getD j 0), fun j x hj => ?_⟩
    have hj64 : j < 64 := by
      have := (List.getElem?_eq_some_iff.1 hj).1
      rwa [C1_len] at this
    have hx : x = .int .u32 (kz.getD j 0) := by
      simp only [C1, List.getElem?_map, Option.map_eq_some_iff] at hj
      obtain ⟨y, hy, rfl⟩ := hj
      simp [kz, u32, List.getD_eq_getElem?_getD, hy]
    subst hx
    exact ⟨k_cell h j hj64, .int _ _ _, rfl⟩
  · rw [if_neg hi] at hG'; cases hG'

/-- A law whose contract says true: the call returns true, and below the heap's old size nothing turns. -/
theorem law_callsK {f : FuncId} {avs : List AV} (h : Con B f avs [] (fun r σ' => r = .bool true ∧ σ' = [])) {fn : Func} {c : Code} (hf : B.P.funcs[f]? = some fn) (hb : fn.body = some c) (hn : (fn.name == "runtime.NumGoroutine") = false) {W : World} (hL : laidMetH Tryd.prog laidK W) {args : Array Value}
    (ha : AllRep W (prot (B.env fun _ => False) []) [] args.toList avs) : Calls B.P f args W fun e W' => e = .returned (.bool true) ∧ Below W.heap.size W W' := by
  refine ((h.call (fun _ => False) W [] args (mem_k hL) ha).calls hf hb hn).mono ?_
  rintro e w' ⟨v, r, σ', g', rfl, ⟨rfl, rfl⟩, hm, he, hr⟩
  exact ⟨by rw [rep_bool hr], he.below⟩

end Go.Proofs.YtgdiabbgiiemcaaDoor
/-
  The functions compute just that.
-/
namespace Go.Proofs.YtgdiabbgiiemcaaDoor
open Go.Rv
set_option linter.unusedVariables false
set_option linter.unusedSimpArgs false
set_option maxRecDepth 20000

theorem cmp_Compare_con {x_2829 : Int} {y_2830 : Int} {r : Int} (h : cmp_Compare x_2829 y_2830 = some r) : Con B 33 [i64 x_2829, i64 y_2830] [] (fun r' σ' => r' = i64 r ∧ σ' = []) := by
  refine con_walk (N := 20) (rs := [.tmp 4]) ok Tryd.func33 rfl (by decide +kernel) rfl rfl (Nat.le_of_ble_eq_true rfl) (fun F => ?_)
  have hE := ok.env F
  unfold cmp_Compare at h
  show Run (B.env F) 0 _ ⟨asFr 20 [(0, i64 x_2829), (1, i64 y_2830)], []⟩ _
  refine run_textE hE [0, 1] (fr' := [(0, i64 x_2829), (1, i64 y_2830)]) (σ' := []) ⟨_, orcs_nil, ?_⟩ ?_
  · simp only [go_sem, reduceIte, Nat.reduceLT, Nat.reduceEqDiff, Nat.reduceAdd]
  replace h := bind_some1 h; obtain ⟨y_2831, hy_2832, h⟩ := h
  refine run_textE hE [0, 1, 5] (fr' := [(0, i64 x_2829), (1, i64 y_2830), (5, .bool y_2831)]) (σ' := []) ⟨_, orcs_ok (l := [(8, 41, [i64 x_2829], .bool y_2831)]) ⟨cmp_isNaN_con  hy_2832, trivial⟩, ?_⟩ ?_
  · simp only [go_sem, reduceIte, Nat.reduceLT, Nat.reduceEqDiff, Nat.reduceAdd]
  replace h := bind_some1 h; obtain ⟨y_2833, hy_2834, h⟩ := h
  refine run_textE hE [0, 1, 5, 6] (fr' := [(0, i64 x_2829), (1, i64 y_2830), (5, .bool y_2831), (6, .bool y_2833)]) (σ' := []) ⟨_, orcs_ok (l := [(10, 41, [i64 y_2830], .bool y_2833)]) ⟨cmp_isNaN_con  hy_2834, trivial⟩, ?_⟩ ?_
  · simp only [go_sem, reduceIte, Nat.reduceLT, Nat.reduceEqDiff, Nat.reduceAdd]
  refine run_seq ?_
  refine run_textE hE [0, 1, 6, 11] (fr' := [(0, i64 x_2829), (1, i64 y_2830), (6, .bool y_2833), (11, .bool y_2831)]) (σ' := []) ⟨_, orcs_nil, ?_⟩ ?_
  · simp only [go_sem, reduceIte, Nat.reduceLT, Nat.reduceEqDiff, Nat.reduceAdd]
  refine run_condL (b := y_2831) rfl (by decide) (fun hb => ?_) (fun hb => ?_)
  · replace h := ite_t h hb
    refine run_seq ?_
    refine run_textE hE [12] (fr' := [(12, .bool y_2833)]) (σ' := []) ⟨_, orcs_nil, ?_⟩ ?_
    · simp only [go_sem, reduceIte, Nat.reduceLT, Nat.reduceEqDiff, Nat.reduceAdd]
    refine run_condL (b := y_2833) rfl (by decide) (fun hb => ?_) (fun hb => ?_)
    · replace h := ite_t h hb
      refine run_textE hE [4] (fr' := [(4, i64 0)]) (σ' := []) ⟨_, orcs_nil, ?_⟩ ?_
      · simp only [go_sem, reduceIte, Nat.reduceLT, Nat.reduceEqDiff, Nat.reduceAdd]
      refine run_ret ?_
      refine thenK_r ?_
      refine thenK_r ?_
      obtain rfl := Option.some.inj h
      refine ret_ok (.inr rfl) ?_
      simp only [go_sem, reduceIte, Nat.reduceLT, Nat.reduceEqDiff, Nat.reduceAdd]
    · replace h := ite_f h hb
      refine run_skip ?_
      refine thenK_n ?_
      refine run_textE hE [4] (fr' := [(4, i64 ((-1)))]) (σ' := []) ⟨_, orcs_nil, ?_⟩ ?_
      · simp only [go_sem, reduceIte, Nat.reduceLT, Nat.reduceEqDiff, Nat.reduceAdd]
      refine run_ret ?_
      refine thenK_r ?_
      obtain rfl := Option.some.inj h
      refine ret_ok (.inr rfl) ?_
      simp only [go_sem, reduceIte, Nat.reduceLT, Nat.reduceEqDiff, Nat.reduceAdd]
  · replace h := ite_f h hb
    refine run_skip ?_
    refine thenK_n ?_
    refine run_seq ?_
    refine run_textE hE [0, 1, 13] (fr' := [(0, i64 x_2829), (1, i64 y_2830), (13, .bool y_2833)]) (σ' := []) ⟨_, orcs_nil, ?_⟩ ?_
    · simp only [go_sem, reduceIte, Nat.reduceLT, Nat.reduceEqDiff, Nat.reduceAdd]
    refine run_condL (b := y_2833) rfl (by decide) (fun hb => ?_) (fun hb => ?_)
    · replace h := ite_t h hb
      refine run_textE hE [4] (fr' := [(4, i64 1)]) (σ' := []) ⟨_, orcs_nil, ?_⟩ ?_
      · simp only [go_sem, reduceIte, Nat.reduceLT, Nat.reduceEqDiff, Nat.reduceAdd]
      refine run_ret ?_
      refine thenK_r ?_
      obtain rfl := Option.some.inj h
      refine ret_ok (.inr rfl) ?_
      simp only [go_sem, reduceIte, Nat.reduceLT, Nat.reduceEqDiff, Nat.reduceAdd]
    · replace h := ite_f h hb
      refine run_skip ?_
      refine thenK_n ?_
      refine run_seq ?_
      refine run_textE hE [0, 1, 16] (fr' := [(0, i64 x_2829), (1, i64 y_2830), (16, .bool ((decide (x_2829 < y_2830))))]) (σ' := []) ⟨_, orcs_nil, ?_⟩ ?_
      · simp only [go_sem, reduceIte, Nat.reduceLT, Nat.reduceEqDiff, Nat.reduceAdd]
      refine run_condL (b := (decide (x_2829 < y_2830))) rfl (by decide) (fun hb => ?_) (fun hb => ?_)
      · replace h := ite_t h hb
        refine run_textE hE [4] (fr' := [(4, i64 ((-1)))]) (σ' := []) ⟨_, orcs_nil, ?_⟩ ?_
        · simp only [go_sem, reduceIte, Nat.reduceLT, Nat.reduceEqDiff, Nat.reduceAdd]
        refine run_ret ?_
        refine thenK_r ?_
        obtain rfl := Option.some.inj h
        refine ret_ok (.inr rfl) ?_
        simp only [go_sem, reduceIte, Nat.reduceLT, Nat.reduceEqDiff, Nat.reduceAdd]
      · replace h := ite_f h hb
        refine run_skip ?_
        refine thenK_n ?_
        refine run_seq ?_
        refine run_textE hE [19] (fr' := [(19, .bool ((decide (x_2829 > y_2830))))]) (σ' := []) ⟨_, orcs_nil, ?_⟩ ?_
        · simp only [go_sem, reduceIte, Nat.reduceLT, Nat.reduceEqDiff, Nat.reduceAdd]
        refine run_condL (b := (decide (x_2829 > y_2830))) rfl (by decide) (fun hb => ?_) (fun hb => ?_)
        · replace h := ite_t h hb
          refine run_textE hE [4] (fr' := [(4, i64 1)]) (σ' := []) ⟨_, orcs_nil, ?_⟩ ?_
          · simp only [go_sem, reduceIte, Nat.reduceLT, Nat.reduceEqDiff, Nat.reduceAdd]
          refine run_ret ?_
          refine thenK_r ?_
          obtain rfl := Option.some.inj h
          refine ret_ok (.inr rfl) ?_
          simp only [go_sem, reduceIte, Nat.reduceLT, Nat.reduceEqDiff, Nat.reduceAdd]
        · replace h := ite_f h hb
          refine run_skip ?_
          refine thenK_n ?_
          refine run_textE hE [4] (fr' := [(4, i64 0)]) (σ' := []) ⟨_, orcs_nil, ?_⟩ ?_
          · simp only [go_sem, reduceIte, Nat.reduceLT, Nat.reduceEqDiff, Nat.reduceAdd]
          refine run_ret ?_
          obtain rfl := Option.some.inj h
          refine ret_ok (.inr rfl) ?_
          simp only [go_sem, reduceIte, Nat.reduceLT, Nat.reduceEqDiff, Nat.reduceAdd]

theorem slices_CompareFunc_con {s1_2835 : List Api_Value} {s2_2836 : List Api_Value} {cmp_2837 : Api_Value → Api_Value → Option (Int)} {fcmp_2837 : Nat} (hfcmp_2837 : ∀ {a0 : Api_Value} {a1 : Api_Value} {r : Int}, cmp_2837 a0 a1 = some r → Con B fcmp_2837 [.agg [i64 a0.Kind, i64 a0.N, .sl false (L cU8 a0.B), .sl false (L cApi_Value a0.L)], .agg [i64 a1.Kind, i64 a1.N, .sl false (L cU8 a1.B), .sl false (L cApi_Value a1.L)]] [] (fun r' σ' => r' = i64 r ∧ σ' = [])) {r : Int} (h : slices_CompareFunc s1_2835 s2_2836 cmp_2837 = some r) : Con B 35 [.sl false (L cApi_Value s1_2835), .sl false (L cApi_Value s2_2836), .fn fcmp_2837 []] [] (fun r' σ' => r' = i64 r ∧ σ' = []) := by
  refine con_walk (N := 39) (rs := [.tmp 6]) ok Tryd.func35 rfl (by decide +kernel) rfl rfl (Nat.le_of_ble_eq_true rfl) (fun F => ?_)
  have hE := ok.env F
  unfold slices_CompareFunc at h
  show Run (B.env F) 0 _ ⟨asFr 39 [(0, .sl false (L cApi_Value s1_2835)), (1, .sl false (L cApi_Value s2_2836)), (2, .fn fcmp_2837 [])], []⟩ _
  refine run_textE hE [0, 1, 2] (fr' := [(0, .sl false (L cApi_Value s1_2835)), (1, .sl false (L cApi_Value s2_2836)), (2, .fn fcmp_2837 [])]) (σ' := []) ⟨_, orcs_nil, ?_⟩ ?_
  · simp only [go_sem, reduceIte, Nat.reduceLT, Nat.reduceEqDiff, Nat.reduceAdd]
  replace h := bind_some1 h; obtain ⟨j_2900, hA_2901, hj_2902⟩ := h
  refine run_join (fun (v : Unit) => (⟨asFr 39 [(0, .sl false (L cApi_Value s1_2835)), (1, .sl false (L cApi_Value s2_2836))], []⟩ : St)) (fun v => .inl v = j_2900) ?_ ?_
  · have h := hA_2901; clear hA_2901
    refine run_textE hE [0, 1, 2, 11, 12, 13] (fr' := [(0, .sl false (L cApi_Value s1_2835)), (1, .sl false (L cApi_Value s2_2836)), (2, .fn fcmp_2837 []), (11, .sl false (L cApi_Value s1_2835)), (12, i64 ((s1_2835.length : Int))), (13, i64 0)]) (σ' := []) ⟨_, orcs_nil, ?_⟩ ?_
    · simp only [go_sem, reduceIte, Nat.reduceLT, Nat.reduceEqDiff, Nat.reduceAdd]
    refine run_block ?_
    replace h := bind_some1 h; obtain ⟨x_2936, hx_2937, hj_2938⟩ := h
    refine run_loopO hx_2937 (fun (v : Int) => (⟨asFr 39 [(0, .sl false (L cApi_Value s1_2835)), (1, .sl false (L cApi_Value s2_2836)), (2, .fn fcmp_2837 []), (11, .sl false (L cApi_Value s1_2835)), (12, i64 ((s1_2835.length : Int))), (13, i64 v)], []⟩ : St)) (weak_sel [] (by decide) rfl (by simp only [go_sem, reduceIte, Nat.reduceLT, Nat.reduceEqDiff, Nat.reduceAdd]) (by simp only [go_sem, reduceIte, Nat.reduceLT, Nat.reduceEqDiff, Nat.reduceAdd])) ?_
    rintro t_2911 o_2939 h hxx_2940
    replace h : slices_CompareFunc_b1 s1_2835 s2_2836 cmp_2837 t_2911 = some o_2939 := h
    unfold slices_CompareFunc_b1 at h
    refine run_textE hE [0, 1, 2, 11, 12, 13, 14] (fr' := [(0, .sl false (L cApi_Value s1_2835)), (1, .sl false (L cApi_Value s2_2836)), (2, .fn fcmp_2837 []), (11, .sl false (L cApi_Value s1_2835)), (12, i64 ((s1_2835.length : Int))), (13, i64 t_2911), (14, .bool ((decide (t_2911 < (s1_2835.length : Int)))))]) (σ' := []) ⟨_, orcs_nil, ?_⟩ ?_
    · simp only [go_sem, reduceIte, Nat.reduceLT, Nat.reduceEqDiff, Nat.reduceAdd]
    refine run_seq ?_
    refine run_condL (b := (decide (t_2911 < (s1_2835.length : Int)))) rfl (by decide) (fun hb => ?_) (fun hb => ?_)
    · replace h := ite_t h hb
      refine run_skip ?_
      refine thenK_n ?_
      refine run_seq ?_
      refine run_block ?_
      replace h := chk_some h; obtain ⟨hc_2941, h⟩ := h
      replace h := lt1_some h; obtain ⟨f_2942, hz_2946, h⟩ := h
      replace h := lt1_some h; obtain ⟨f_2943, hz_2947, h⟩ := h
      replace h := lt1_some h; obtain ⟨f_2944, hz_2948, h⟩ := h
      replace h := lt1_some h; obtain ⟨f_2945, hz_2949, h⟩ := h
      refine run_textE hE [0, 1, 2, 7, 8, 11, 12, 13] (fr' := [(0, .sl false (L cApi_Value s1_2835)), (1, .sl false (L cApi_Value s2_2836)), (2, .fn fcmp_2837 []), (7, i64 t_2911), (8, .ref 0 0), (11, .sl false (L cApi_Value s1_2835)), (12, i64 ((s1_2835.length : Int))), (13, i64 t_2911)]) (σ' := [.box [i64 f_2942, i64 f_2943, .sl false (L cU8 f_2944), .sl false (L cApi_Value f_2945)] false]) ⟨_, orcs_nil, ?_⟩ ?_
      · subst hz_2949; subst hz_2948; subst hz_2947; subst hz_2946; simp only [go_sem, reduceIte, Nat.reduceLT, Nat.reduceEqDiff, Nat.reduceAdd, Int.reduceToNat, Nat.reduceLeDiff, hc_2941, hc_2941.2, lt_le hc_2941.2]
      refine run_seq ?_
      refine run_textE hE [0, 1, 2, 7, 8, 11, 12, 13, 21] (fr' := [(0, .sl false (L cApi_Value s1_2835)), (1, .sl false (L cApi_Value s2_2836)), (2, .fn fcmp_2837 []), (7, i64 t_2911), (8, .ref 0 0), (11, .sl false (L cApi_Value s1_2835)), (12, i64 ((s1_2835.length : Int))), (13, i64 t_2911), (21, .bool ((decide (t_2911 ≥ (s2_2836.length : Int)))))]) (σ' := [.box [i64 f_2942, i64 f_2943, .sl false (L cU8 f_2944), .sl false (L cApi_Value f_2945)] false]) ⟨_, orcs_nil, ?_⟩ ?_
      · simp only [go_sem, reduceIte, Nat.reduceLT, Nat.reduceEqDiff, Nat.reduceAdd]
      refine run_condL (b := (decide (t_2911 ≥ (s2_2836.length : Int)))) rfl (by decide) (fun hb => ?_) (fun hb => ?_)
      · replace h := ite_t h hb
        refine run_textE hE [6] (fr' := [(6, i64 1)]) (σ' := [.box [i64 f_2942, i64 f_2943, .sl false (L cU8 f_2944), .sl false (L cApi_Value f_2945)] false]) ⟨_, orcs_nil, ?_⟩ ?_
        · simp only [go_sem, reduceIte, Nat.reduceLT, Nat.reduceEqDiff, Nat.reduceAdd]
        refine run_ret ?_
        refine thenK_r ?_
        refine blockK_r ?_
        refine thenK_r ?_
        refine lpK_r ?_
        replace h := bind_some1 h; obtain ⟨z_2951, h, e_z_2951⟩ := h
        obtain rfl := Option.some.inj e_z_2951
        have ex_z_2951 := hxx_2940 _ rfl
        subst ex_z_2951
        obtain rfl := Option.some.inj hj_2938
        refine blockK_r ?_
        refine joinK_r ?_
        replace h := bind_some1 h; obtain ⟨z_2950, h, e_z_2950⟩ := h
        obtain rfl := Option.some.inj e_z_2950
        obtain rfl := Option.some.inj hj_2902
        obtain rfl := Option.some.inj h
        refine ret_ok (.inr rfl) ?_
        simp only [go_sem, reduceIte, Nat.reduceLT, Nat.reduceEqDiff, Nat.reduceAdd]
      · replace h := ite_f h hb
        refine run_skip ?_
        refine thenK_n ?_
        replace h := chk_some h; obtain ⟨hc_2952, h⟩ := h
        replace h := lt1_some h; obtain ⟨f_2953, hz_2957, h⟩ := h
        replace h := lt1_some h; obtain ⟨f_2954, hz_2958, h⟩ := h
        replace h := lt1_some h; obtain ⟨f_2955, hz_2959, h⟩ := h
        replace h := lt1_some h; obtain ⟨f_2956, hz_2960, h⟩ := h
        refine run_textE hE [0, 1, 2, 8, 9, 11, 12, 13] (fr' := [(0, .sl false (L cApi_Value s1_2835)), (1, .sl false (L cApi_Value s2_2836)), (2, .fn fcmp_2837 []), (8, .ref 0 0), (9, .ref 1 0), (11, .sl false (L cApi_Value s1_2835)), (12, i64 ((s1_2835.length : Int))), (13, i64 t_2911)]) (σ' := [.box [i64 f_2942, i64 f_2943, .sl false (L cU8 f_2944), .sl false (L cApi_Value f_2945)] false, .box [i64 f_2953, i64 f_2954, .sl false (L cU8 f_2955), .sl false (L cApi_Value f_2956)] false]) ⟨_, orcs_nil, ?_⟩ ?_
        · subst hz_2960; subst hz_2959; subst hz_2958; subst hz_2957; simp only [go_sem, reduceIte, Nat.reduceLT, Nat.reduceEqDiff, Nat.reduceAdd, Int.reduceToNat, Nat.reduceLeDiff, hc_2952, hc_2952.2, lt_le hc_2952.2]
        replace h := bind_some1 h; obtain ⟨y_2961, hy_2962, h⟩ := h
        refine run_textE hE [0, 1, 2, 10, 11, 12, 13] (fr' := [(0, .sl false (L cApi_Value s1_2835)), (1, .sl false (L cApi_Value s2_2836)), (2, .fn fcmp_2837 []), (10, i64 y_2961), (11, .sl false (L cApi_Value s1_2835)), (12, i64 ((s1_2835.length : Int))), (13, i64 t_2911)]) (σ' := [.box [i64 f_2942, i64 f_2943, .sl false (L cU8 f_2944), .sl false (L cApi_Value f_2945)] false, .box [i64 f_2953, i64 f_2954, .sl false (L cU8 f_2955), .sl false (L cApi_Value f_2956)] false]) ⟨_, orcs_ok (l := [(29, fcmp_2837, [.agg [i64 f_2942, i64 f_2943, .sl false (L cU8 f_2944), .sl false (L cApi_Value f_2945)], .agg [i64 f_2953, i64 f_2954, .sl false (L cU8 f_2955), .sl false (L cApi_Value f_2956)]], i64 y_2961)]) ⟨hfcmp_2837  hy_2962, trivial⟩, ?_⟩ ?_
        · simp only [go_sem, reduceIte, Nat.reduceLT, Nat.reduceEqDiff, Nat.reduceAdd]
        refine run_textE hE [0, 1, 2, 10, 11, 12, 13, 31] (fr' := [(0, .sl false (L cApi_Value s1_2835)), (1, .sl false (L cApi_Value s2_2836)), (2, .fn fcmp_2837 []), (10, i64 y_2961), (11, .sl false (L cApi_Value s1_2835)), (12, i64 ((s1_2835.length : Int))), (13, i64 t_2911), (31, .bool ((y_2961 != 0)))]) (σ' := [.box [i64 f_2942, i64 f_2943, .sl false (L cU8 f_2944), .sl false (L cApi_Value f_2945)] false, .box [i64 f_2953, i64 f_2954, .sl false (L cU8 f_2955), .sl false (L cApi_Value f_2956)] false]) ⟨_, orcs_nil, ?_⟩ ?_
        · simp only [go_sem, reduceIte, Nat.reduceLT, Nat.reduceEqDiff, Nat.reduceAdd]
        refine run_condL (b := (y_2961 != 0)) rfl (by decide) (fun hb => ?_) (fun hb => ?_)
        · replace h := ite_t h hb
          refine run_textE hE [6] (fr' := [(6, i64 y_2961)]) (σ' := [.box [i64 f_2942, i64 f_2943, .sl false (L cU8 f_2944), .sl false (L cApi_Value f_2945)] false, .box [i64 f_2953, i64 f_2954, .sl false (L cU8 f_2955), .sl false (L cApi_Value f_2956)] false]) ⟨_, orcs_nil, ?_⟩ ?_
          · simp only [go_sem, reduceIte, Nat.reduceLT, Nat.reduceEqDiff, Nat.reduceAdd]
          refine run_ret ?_
          refine blockK_r ?_
          refine thenK_r ?_
          refine lpK_r ?_
          replace h := bind_some1 h; obtain ⟨z_2964, h, e_z_2964⟩ := h
          obtain rfl := Option.some.inj e_z_2964
          have ex_z_2964 := hxx_2940 _ rfl
          subst ex_z_2964
          obtain rfl := Option.some.inj hj_2938
          refine blockK_r ?_
          refine joinK_r ?_
          replace h := bind_some1 h; obtain ⟨z_2963, h, e_z_2963⟩ := h
          obtain rfl := Option.some.inj e_z_2963
          obtain rfl := Option.some.inj hj_2902
          obtain rfl := Option.some.inj h
          refine ret_ok (.inr rfl) ?_
          simp only [go_sem, reduceIte, Nat.reduceLT, Nat.reduceEqDiff, Nat.reduceAdd]
        · replace h := ite_f h hb
          refine run_skip ?_
          refine blockK_n ?_
          refine thenK_n ?_
          refine run_textE0 hE wk_lp [0, 1, 2, 11, 12, 13] (fr' := [(0, .sl false (L cApi_Value s1_2835)), (1, .sl false (L cApi_Value s2_2836)), (2, .fn fcmp_2837 []), (11, .sl false (L cApi_Value s1_2835)), (12, i64 ((s1_2835.length : Int))), (13, i64 ((w64 (t_2911 + 1))))]) (σ' := [.box [i64 f_2942, i64 f_2943, .sl false (L cU8 f_2944), .sl false (L cApi_Value f_2945)] false, .box [i64 f_2953, i64 f_2954, .sl false (L cU8 f_2955), .sl false (L cApi_Value f_2956)] false]) ⟨_, orcs_nil, ?_⟩ ?_
          · simp only [go_sem, reduceIte, Nat.reduceLT, Nat.reduceEqDiff, Nat.reduceAdd]
          obtain rfl := Option.some.inj h
          exact lpK_n ((w64 (t_2911 + 1))) rfl (weak_sel [] (by decide) rfl (by simp only [go_sem, reduceIte, Nat.reduceLT, Nat.reduceEqDiff, Nat.reduceAdd]) (by simp only [go_sem, reduceIte, Nat.reduceLT, Nat.reduceEqDiff, Nat.reduceAdd]))
    · replace h := ite_f h hb
      refine run_exit ?_
      refine thenK_x ?_
      obtain rfl := Option.some.inj h
      have ex_x_2936 := hxx_2940 _ rfl
      subst ex_x_2936
      have h := hj_2938; clear hj_2938
      refine lpK_x ?_
      refine blockK_x ?_
      obtain rfl := Option.some.inj h
      exact joinK_n (()) rfl ((weak_sel (l' := [(0, .sl false (L cApi_Value s1_2835)), (1, .sl false (L cApi_Value s2_2836))]) (σ' := []) [] (by decide) rfl (by simp only [go_sem, reduceIte, Nat.reduceLT, Nat.reduceEqDiff, Nat.reduceAdd]) (by simp only [go_sem, reduceIte, Nat.reduceLT, Nat.reduceEqDiff, Nat.reduceAdd])).trans (weak_sel [] (by decide) rfl (by simp only [go_sem, reduceIte, Nat.reduceLT, Nat.reduceEqDiff, Nat.reduceAdd]) (by simp only [go_sem, reduceIte, Nat.reduceLT, Nat.reduceEqDiff, Nat.reduceAdd])))
  rintro ⟨⟩ rfl
  have h := hj_2902; clear hj_2902
  refine run_seq ?_
  refine run_textE hE [38] (fr' := [(38, .bool ((decide ((s1_2835.length : Int) < (s2_2836.length : Int)))))]) (σ' := []) ⟨_, orcs_nil, ?_⟩ ?_
  · simp only [go_sem, reduceIte, Nat.reduceLT, Nat.reduceEqDiff, Nat.reduceAdd]
  refine run_condL (b := (decide ((s1_2835.length : Int) < (s2_2836.length : Int)))) rfl (by decide) (fun hb => ?_) (fun hb => ?_)
  · replace h := ite_t h hb
    refine run_textE hE [6] (fr' := [(6, i64 ((-1)))]) (σ' := []) ⟨_, orcs_nil, ?_⟩ ?_
    · simp only [go_sem, reduceIte, Nat.reduceLT, Nat.reduceEqDiff, Nat.reduceAdd]
    refine run_ret ?_
    refine thenK_r ?_
    obtain rfl := Option.some.inj h
    refine ret_ok (.inr rfl) ?_
    simp only [go_sem, reduceIte, Nat.reduceLT, Nat.reduceEqDiff, Nat.reduceAdd]
  · replace h := ite_f h hb
    refine run_skip ?_
    refine thenK_n ?_
    refine run_textE hE [6] (fr' := [(6, i64 0)]) (σ' := []) ⟨_, orcs_nil, ?_⟩ ?_
    · simp only [go_sem, reduceIte, Nat.reduceLT, Nat.reduceEqDiff, Nat.reduceAdd]
    refine run_ret ?_
    obtain rfl := Option.some.inj h
    refine ret_ok (.inr rfl) ?_
    simp only [go_sem, reduceIte, Nat.reduceLT, Nat.reduceEqDiff, Nat.reduceAdd]

end Go.Proofs.YtgdiabbgiiemcaaDoor
/-
  The functions compute just that.
-/
namespace Go.Proofs.YtgdiabbgiiemcaaDoor
open Go.Rv
set_option linter.unusedVariables false
set_option linter.unusedSimpArgs false
set_option maxRecDepth 20000

theorem codec_Compare_F_con {rec_ : Api_Value → Api_Value → Option (Int)} (hrec : ∀ {a_2965 : Api_Value} {b_2966 : Api_Value} {r : Int}, rec_ a_2965 b_2966 = some r → Con B 26 [.agg [i64 a_2965.Kind, i64 a_2965.N, .sl false (L cU8 a_2965.B), .sl false (L cApi_Value a_2965.L)], .agg [i64 b_2966.Kind, i64 b_2966.N, .sl false (L cU8 b_2966.B), .sl false (L cApi_Value b_2966.L)]] [] (fun r' σ' => r' = i64 r ∧ σ' = [])) {a_2965 : Api_Value} {b_2966 : Api_Value} {r : Int} (h : codec_Compare_F rec_ a_2965 b_2966 = some r) : Con B 26 [.agg [i64 a_2965.Kind, i64 a_2965.N, .sl false (L cU8 a_2965.B), .sl false (L cApi_Value a_2965.L)], .agg [i64 b_2966.Kind, i64 b_2966.N, .sl false (L cU8 b_2966.B), .sl false (L cApi_Value b_2966.L)]] [] (fun r' σ' => r' = i64 r ∧ σ' = []) := by
  refine con_walk (N := 37) (rs := [.tmp 4]) ok Tryd.func26 rfl (by decide +kernel) rfl rfl (Nat.le_of_ble_eq_true rfl) (fun F => ?_)
  have hE := ok.env F
  unfold codec_Compare_F at h
  show Run (B.env F) 0 _ ⟨asFr 37 [(0, .agg [i64 a_2965.Kind, i64 a_2965.N, .sl false (L cU8 a_2965.B), .sl false (L cApi_Value a_2965.L)]), (1, .agg [i64 b_2966.Kind, i64 b_2966.N, .sl false (L cU8 b_2966.B), .sl false (L cApi_Value b_2966.L)])], []⟩ _
  refine run_textE hE [2, 3] (fr' := [(2, .ref 0 0), (3, .ref 1 0)]) (σ' := [.box [i64 a_2965.Kind, i64 a_2965.N, .sl false (L cU8 a_2965.B), .sl false (L cApi_Value a_2965.L)] false, .box [i64 b_2966.Kind, i64 b_2966.N, .sl false (L cU8 b_2966.B), .sl false (L cApi_Value b_2966.L)] false]) ⟨_, orcs_nil, ?_⟩ ?_
  · simp only [go_sem, reduceIte, Nat.reduceLT, Nat.reduceEqDiff, Nat.reduceAdd]
  refine run_seq ?_
  replace h := bind_some1 h; obtain ⟨y_2967, hy_2968, h⟩ := h
  refine run_textE hE [2, 3, 5] (fr' := [(2, .ref 0 0), (3, .ref 1 0), (5, i64 y_2967)]) (σ' := [.box [i64 a_2965.Kind, i64 a_2965.N, .sl false (L cU8 a_2965.B), .sl false (L cApi_Value a_2965.L)] false, .box [i64 b_2966.Kind, i64 b_2966.N, .sl false (L cU8 b_2966.B), .sl false (L cApi_Value b_2966.L)] false]) ⟨_, orcs_ok (l := [(10, 33, [i64 a_2965.Kind, i64 b_2966.Kind], i64 y_2967)]) ⟨cmp_Compare_con  hy_2968, trivial⟩, ?_⟩ ?_
  · simp only [go_sem, reduceIte, Nat.reduceLT, Nat.reduceEqDiff, Nat.reduceAdd]
  refine run_textE hE [2, 3, 5, 12] (fr' := [(2, .ref 0 0), (3, .ref 1 0), (5, i64 y_2967), (12, .bool ((y_2967 != 0)))]) (σ' := [.box [i64 a_2965.Kind, i64 a_2965.N, .sl false (L cU8 a_2965.B), .sl false (L cApi_Value a_2965.L)] false, .box [i64 b_2966.Kind, i64 b_2966.N, .sl false (L cU8 b_2966.B), .sl false (L cApi_Value b_2966.L)] false]) ⟨_, orcs_nil, ?_⟩ ?_
  · simp only [go_sem, reduceIte, Nat.reduceLT, Nat.reduceEqDiff, Nat.reduceAdd]
  refine run_condL (b := (y_2967 != 0)) rfl (by decide) (fun hb => ?_) (fun hb => ?_)
  · replace h := ite_t h hb
    refine run_textE hE [4] (fr' := [(4, i64 y_2967)]) (σ' := [.box [i64 a_2965.Kind, i64 a_2965.N, .sl false (L cU8 a_2965.B), .sl false (L cApi_Value a_2965.L)] false, .box [i64 b_2966.Kind, i64 b_2966.N, .sl false (L cU8 b_2966.B), .sl false (L cApi_Value b_2966.L)] false]) ⟨_, orcs_nil, ?_⟩ ?_
    · simp only [go_sem, reduceIte, Nat.reduceLT, Nat.reduceEqDiff, Nat.reduceAdd]
    refine run_ret ?_
    refine thenK_r ?_
    obtain rfl := Option.some.inj h
    refine ret_ok (.inr rfl) ?_
    simp only [go_sem, reduceIte, Nat.reduceLT, Nat.reduceEqDiff, Nat.reduceAdd]
  · replace h := ite_f h hb
    refine run_skip ?_
    refine thenK_n ?_
    refine run_seq ?_
    refine run_textE hE [2, 3, 15] (fr' := [(2, .ref 0 0), (3, .ref 1 0), (15, i64 a_2965.Kind)]) (σ' := [.box [i64 a_2965.Kind, i64 a_2965.N, .sl false (L cU8 a_2965.B), .sl false (L cApi_Value a_2965.L)] false, .box [i64 b_2966.Kind, i64 b_2966.N, .sl false (L cU8 b_2966.B), .sl false (L cApi_Value b_2966.L)] false]) ⟨_, orcs_nil, ?_⟩ ?_
    · simp only [go_sem, reduceIte, Nat.reduceLT, Nat.reduceEqDiff, Nat.reduceAdd]
    refine run_block ?_
    refine run_textE hE [2, 3, 15, 16] (fr' := [(2, .ref 0 0), (3, .ref 1 0), (15, i64 a_2965.Kind), (16, .bool ((a_2965.Kind == 1)))]) (σ' := [.box [i64 a_2965.Kind, i64 a_2965.N, .sl false (L cU8 a_2965.B), .sl false (L cApi_Value a_2965.L)] false, .box [i64 b_2966.Kind, i64 b_2966.N, .sl false (L cU8 b_2966.B), .sl false (L cApi_Value b_2966.L)] false]) ⟨_, orcs_nil, ?_⟩ ?_
    · simp only [go_sem, reduceIte, Nat.reduceLT, Nat.reduceEqDiff, Nat.reduceAdd]
    refine run_condL (b := (a_2965.Kind == 1)) rfl (by decide) (fun hb => ?_) (fun hb => ?_)
    · replace h := ite_t h hb
      replace h := bind_some1 h; obtain ⟨y_2969, hy_2970, h⟩ := h
      refine run_textE hE [4] (fr' := [(4, i64 y_2969)]) (σ' := [.box [i64 a_2965.Kind, i64 a_2965.N, .sl false (L cU8 a_2965.B), .sl false (L cApi_Value a_2965.L)] false, .box [i64 b_2966.Kind, i64 b_2966.N, .sl false (L cU8 b_2966.B), .sl false (L cApi_Value b_2966.L)] false]) ⟨_, orcs_ok (l := [(22, 33, [i64 a_2965.N, i64 b_2966.N], i64 y_2969)]) ⟨cmp_Compare_con  hy_2970, trivial⟩, ?_⟩ ?_
      · simp only [go_sem, reduceIte, Nat.reduceLT, Nat.reduceEqDiff, Nat.reduceAdd]
      refine run_ret ?_
      refine blockK_r ?_
      refine thenK_r ?_
      obtain rfl := Option.some.inj h
      refine ret_ok (.inr rfl) ?_
      simp only [go_sem, reduceIte, Nat.reduceLT, Nat.reduceEqDiff, Nat.reduceAdd]
    · replace h := ite_f h hb
      refine run_textE hE [2, 3, 15, 23] (fr' := [(2, .ref 0 0), (3, .ref 1 0), (15, i64 a_2965.Kind), (23, .bool ((a_2965.Kind == 2)))]) (σ' := [.box [i64 a_2965.Kind, i64 a_2965.N, .sl false (L cU8 a_2965.B), .sl false (L cApi_Value a_2965.L)] false, .box [i64 b_2966.Kind, i64 b_2966.N, .sl false (L cU8 b_2966.B), .sl false (L cApi_Value b_2966.L)] false]) ⟨_, orcs_nil, ?_⟩ ?_
      · simp only [go_sem, reduceIte, Nat.reduceLT, Nat.reduceEqDiff, Nat.reduceAdd]
      refine run_condL (b := (a_2965.Kind == 2)) rfl (by decide) (fun hb => ?_) (fun hb => ?_)
      · replace h := ite_t h hb
        replace h := bind_some1 h; obtain ⟨y_2971, hy_2972, h⟩ := h
        refine run_textE hE [4] (fr' := [(4, i64 y_2971)]) (σ' := [.box [i64 a_2965.Kind, i64 a_2965.N, .sl false (L cU8 a_2965.B), .sl false (L cApi_Value a_2965.L)] false, .box [i64 b_2966.Kind, i64 b_2966.N, .sl false (L cU8 b_2966.B), .sl false (L cApi_Value b_2966.L)] false]) ⟨_, orcs_ok (l := [(29, 34, [.sl false (L cU8 a_2965.B), .sl false (L cU8 b_2966.B)], i64 y_2971)]) ⟨bytes_Compare_con  hy_2972, trivial⟩, ?_⟩ ?_
        · simp only [go_sem, reduceIte, Nat.reduceLT, Nat.reduceEqDiff, Nat.reduceAdd]
        refine run_ret ?_
        refine blockK_r ?_
        refine thenK_r ?_
        obtain rfl := Option.some.inj h
        refine ret_ok (.inr rfl) ?_
        simp only [go_sem, reduceIte, Nat.reduceLT, Nat.reduceEqDiff, Nat.reduceAdd]
      · replace h := ite_f h hb
        refine run_textE hE [2, 3, 30] (fr' := [(2, .ref 0 0), (3, .ref 1 0), (30, .bool ((a_2965.Kind == 3)))]) (σ' := [.box [i64 a_2965.Kind, i64 a_2965.N, .sl false (L cU8 a_2965.B), .sl false (L cApi_Value a_2965.L)] false, .box [i64 b_2966.Kind, i64 b_2966.N, .sl false (L cU8 b_2966.B), .sl false (L cApi_Value b_2966.L)] false]) ⟨_, orcs_nil, ?_⟩ ?_
        · simp only [go_sem, reduceIte, Nat.reduceLT, Nat.reduceEqDiff, Nat.reduceAdd]
        refine run_condL (b := (a_2965.Kind == 3)) rfl (by decide) (fun hb => ?_) (fun hb => ?_)
        · replace h := ite_t h hb
          replace h := bind_some1 h; obtain ⟨y_2973, hy_2974, h⟩ := h
          refine run_textE hE [4] (fr' := [(4, i64 y_2973)]) (σ' := [.box [i64 a_2965.Kind, i64 a_2965.N, .sl false (L cU8 a_2965.B), .sl false (L cApi_Value a_2965.L)] false, .box [i64 b_2966.Kind, i64 b_2966.N, .sl false (L cU8 b_2966.B), .sl false (L cApi_Value b_2966.L)] false]) ⟨_, orcs_ok (l := [(36, 35, [.sl false (L cApi_Value a_2965.L), .sl false (L cApi_Value b_2966.L), .fn 26 []], i64 y_2973)]) ⟨slices_CompareFunc_con (fun h => hrec h) hy_2974, trivial⟩, ?_⟩ ?_
          · simp only [go_sem, reduceIte, Nat.reduceLT, Nat.reduceEqDiff, Nat.reduceAdd]
          refine run_ret ?_
          refine blockK_r ?_
          refine thenK_r ?_
          obtain rfl := Option.some.inj h
          refine ret_ok (.inr rfl) ?_
          simp only [go_sem, reduceIte, Nat.reduceLT, Nat.reduceEqDiff, Nat.reduceAdd]
        · replace h := ite_f h hb
          refine run_skip ?_
          refine blockK_n ?_
          refine thenK_n ?_
          refine run_textE hE [4] (fr' := [(4, i64 0)]) (σ' := [.box [i64 a_2965.Kind, i64 a_2965.N, .sl false (L cU8 a_2965.B), .sl false (L cApi_Value a_2965.L)] false, .box [i64 b_2966.Kind, i64 b_2966.N, .sl false (L cU8 b_2966.B), .sl false (L cApi_Value b_2966.L)] false]) ⟨_, orcs_nil, ?_⟩ ?_
          · simp only [go_sem, reduceIte, Nat.reduceLT, Nat.reduceEqDiff, Nat.reduceAdd]
          refine run_ret ?_
          obtain rfl := Option.some.inj h
          refine ret_ok (.inr rfl) ?_
          simp only [go_sem, reduceIte, Nat.reduceLT, Nat.reduceEqDiff, Nat.reduceAdd]
theorem codec_Compare_n_con (n : Nat) : ∀ {a_2965 : Api_Value} {b_2966 : Api_Value} {r : Int}, codec_Compare_n n a_2965 b_2966 = some r → Con B 26 [.agg [i64 a_2965.Kind, i64 a_2965.N, .sl false (L cU8 a_2965.B), .sl false (L cApi_Value a_2965.L)], .agg [i64 b_2966.Kind, i64 b_2966.N, .sl false (L cU8 b_2966.B), .sl false (L cApi_Value b_2966.L)]] [] (fun r' σ' => r' = i64 r ∧ σ' = []) := by
  induction n with
  | zero => intro a_2965 b_2966 r h; cases h
  | succ n ih => intro a_2965 b_2966 r h; exact codec_Compare_F_con ih h
theorem codec_Compare_con {a_2965 : Api_Value} {b_2966 : Api_Value} {r : Int} (h : codec_Compare a_2965 b_2966 = some r) : Con B 26 [.agg [i64 a_2965.Kind, i64 a_2965.N, .sl false (L cU8 a_2965.B), .sl false (L cApi_Value a_2965.L)], .agg [i64 b_2966.Kind, i64 b_2966.N, .sl false (L cU8 b_2966.B), .sl false (L cApi_Value b_2966.L)]] [] (fun r' σ' => r' = i64 r ∧ σ' = []) := codec_Compare_n_con _ h

theorem law02_DigestSumMatchesReference_con {b_2975 : List UInt8} {r : Bool} (h : law02_DigestSumMatchesReference b_2975 = some r) : Con B 3 [.sl false (L cU8 b_2975)] [] (fun r' σ' => r' = .bool r ∧ σ' = []) := by
  refine con_walk (N := 13) (rs := [.tmp 2]) ok Tryd.func3 rfl (by decide +kernel) rfl rfl (Nat.le_of_ble_eq_true rfl) (fun F => ?_)
  have hE := ok.env F
  unfold law02_DigestSumMatchesReference at h
  show Run (B.env F) 0 _ ⟨asFr 13 [(0, .sl false (L cU8 b_2975))], []⟩ _
  refine run_textE hE [0] (fr' := [(0, .sl false (L cU8 b_2975))]) (σ' := []) ⟨_, orcs_nil, ?_⟩ ?_
  · simp only [go_sem, reduceIte, Nat.reduceLT, Nat.reduceEqDiff, Nat.reduceAdd]
  refine run_seq ?_
  replace h := bind_some1 h; obtain ⟨y_2976, hy_2977, h⟩ := h
  refine run_textE hE [0, 4] (fr' := [(0, .sl false (L cU8 b_2975)), (4, .bool ((!y_2976)))]) (σ' := []) ⟨_, orcs_ok (l := [(3, 11, [], .bool y_2976)]) ⟨law02_sane_con  hy_2977, trivial⟩, ?_⟩ ?_
  · simp only [go_sem, reduceIte, Nat.reduceLT, Nat.reduceEqDiff, Nat.reduceAdd]
  refine run_condL (b := (!y_2976)) rfl (by decide) (fun hb => ?_) (fun hb => ?_)
  · replace h := ite_t h hb
    refine run_textE hE [2] (fr' := [(2, .bool false)]) (σ' := []) ⟨_, orcs_nil, ?_⟩ ?_
    · simp only [go_sem, reduceIte, Nat.reduceLT, Nat.reduceEqDiff, Nat.reduceAdd]
    refine run_ret ?_
    refine thenK_r ?_
    obtain rfl := Option.some.inj h
    refine ret_ok (.inr rfl) ?_
    simp only [go_sem, reduceIte, Nat.reduceLT, Nat.reduceEqDiff, Nat.reduceAdd]
  · replace h := ite_f h hb
    refine run_skip ?_
    refine thenK_n ?_
    refine run_seq ?_
    refine run_textE hE [0, 7] (fr' := [(0, .sl false (L cU8 b_2975)), (7, .bool ((decide ((b_2975.length : Int) > 1000))))]) (σ' := []) ⟨_, orcs_nil, ?_⟩ ?_
    · simp only [go_sem, reduceIte, Nat.reduceLT, Nat.reduceEqDiff, Nat.reduceAdd]
    refine run_condL (b := (decide ((b_2975.length : Int) > 1000))) rfl (by decide) (fun hb => ?_) (fun hb => ?_)
    · replace h := ite_t h hb
      refine run_textE hE [2] (fr' := [(2, .bool true)]) (σ' := []) ⟨_, orcs_nil, ?_⟩ ?_
      · simp only [go_sem, reduceIte, Nat.reduceLT, Nat.reduceEqDiff, Nat.reduceAdd]
      refine run_ret ?_
      refine thenK_r ?_
      obtain rfl := Option.some.inj h
      refine ret_ok (.inr rfl) ?_
      simp only [go_sem, reduceIte, Nat.reduceLT, Nat.reduceEqDiff, Nat.reduceAdd]
    · replace h := ite_f h hb
      refine run_skip ?_
      refine thenK_n ?_
      replace h := bind_some1 h; obtain ⟨y_2978, hy_2980, h⟩ := h
      replace h := bind_some1 h; obtain ⟨y_2979, hy_2981, h⟩ := h
      refine run_textE hE [2] (fr' := [(2, .bool ((y_2978 == y_2979)))]) (σ' := []) ⟨_, orcs_ok (l := [(9, 12, [.sl false (L cU8 b_2975)], .agg (C1 u8 y_2978.l)), (11, 13, [.sl false (L cU8 b_2975)], .agg (C1 u8 y_2979.l))]) ⟨digest_Sum_con  hy_2980, r02_Sum_con  hy_2981, trivial⟩, ?_⟩ ?_
      · simp only [go_sem, reduceIte, Nat.reduceLT, Nat.reduceEqDiff, Nat.reduceAdd]
      refine run_ret ?_
      obtain rfl := Option.some.inj h
      refine ret_ok (.inr rfl) ?_
      simp only [go_sem, reduceIte, Nat.reduceLT, Nat.reduceEqDiff, Nat.reduceAdd]

theorem law02_DigestMatchesReference_con {tag_2982 : List UInt8} {b_2983 : List UInt8} {d_2984 : Arr UInt8 32} {r : Bool} (h : law02_DigestMatchesReference tag_2982 b_2983 d_2984 = some r) : Con B 4 [.str tag_2982, .sl false (L cU8 b_2983), .agg (C1 u8 d_2984.l)] [] (fun r' σ' => r' = .bool r ∧ σ' = []) := by
  refine con_walk (N := 40) (rs := [.tmp 6]) ok Tryd.func4 rfl (by decide +kernel) rfl rfl (Nat.le_of_ble_eq_true rfl) (fun F => ?_)
  have hE := ok.env F
  unfold law02_DigestMatchesReference at h
  show Run (B.env F) 0 _ ⟨asFr 40 [(0, .str tag_2982), (1, .sl false (L cU8 b_2983)), (2, .agg (C1 u8 d_2984.l))], []⟩ _
  refine run_textE hE [0, 1, 5] (fr' := [(0, .str tag_2982), (1, .sl false (L cU8 b_2983)), (5, .ref 0 0)]) (σ' := [.box (C1 u8 d_2984.l) false]) ⟨_, orcs_nil, ?_⟩ ?_
  · simp only [go_sem, reduceIte, Nat.reduceLT, Nat.reduceEqDiff, Nat.reduceAdd]
  refine run_seq ?_
  replace h := bind_some1 h; obtain ⟨y_2985, hy_2986, h⟩ := h
  refine run_textE hE [0, 1, 5, 8] (fr' := [(0, .str tag_2982), (1, .sl false (L cU8 b_2983)), (5, .ref 0 0), (8, .bool ((!y_2985)))]) (σ' := [.box (C1 u8 d_2984.l) false]) ⟨_, orcs_ok (l := [(7, 11, [], .bool y_2985)]) ⟨law02_sane_con  hy_2986, trivial⟩, ?_⟩ ?_
  · simp only [go_sem, reduceIte, Nat.reduceLT, Nat.reduceEqDiff, Nat.reduceAdd]
  refine run_condL (b := (!y_2985)) rfl (by decide) (fun hb => ?_) (fun hb => ?_)
  · replace h := ite_t h hb
    refine run_textE hE [6] (fr' := [(6, .bool false)]) (σ' := [.box (C1 u8 d_2984.l) false]) ⟨_, orcs_nil, ?_⟩ ?_
    · simp only [go_sem, reduceIte, Nat.reduceLT, Nat.reduceEqDiff, Nat.reduceAdd]
    refine run_ret ?_
    refine thenK_r ?_
    obtain rfl := Option.some.inj h
    refine ret_ok (.inr rfl) ?_
    simp only [go_sem, reduceIte, Nat.reduceLT, Nat.reduceEqDiff, Nat.reduceAdd]
  · replace h := ite_f h hb
    refine run_skip ?_
    refine thenK_n ?_
    refine run_seq ?_
    replace h := bind_some1 h; obtain ⟨t_2987, hv_2988, h⟩ := h
    refine run_textW hE [0, 1, 5, 16] (fr' := [(0, .str tag_2982), (1, .sl false (L cU8 b_2983)), (5, .ref 0 0), (16, .bool t_2987)]) (σ' := [.box (C1 u8 d_2984.l) false]) ?_ ?_
    · rcases Bool.eq_false_or_eq_true ((decide ((tag_2982.length : Int) > 600))) with hb_2989 | hb_2989
      · replace hv_2988 := ite_t hv_2988 hb_2989
        have e_hv_2988 := Option.some.inj hv_2988; subst e_hv_2988
        exact ⟨_, [(0, .str tag_2982), (1, .sl false (L cU8 b_2983)), (5, .ref 0 0), (16, .bool true)], [.box (C1 u8 d_2984.l) false], orcs_nil, by simp only [go_sem, reduceIte, Nat.reduceLT, Nat.reduceEqDiff, Nat.reduceAdd, hb_2989], (weak_sel [0] (by decide) rfl (by simp only [go_sem, reduceIte, Nat.reduceLT, Nat.reduceEqDiff, Nat.reduceAdd]) (by simp only [go_sem, reduceIte, Nat.reduceLT, Nat.reduceEqDiff, Nat.reduceAdd]))⟩
      · replace hv_2988 := ite_f hv_2988 hb_2989
        have e_hv_2988 := Option.some.inj hv_2988; subst e_hv_2988
        exact ⟨_, [(0, .str tag_2982), (1, .sl false (L cU8 b_2983)), (5, .ref 0 0), (16, .bool ((decide ((b_2983.length : Int) > 600))))], [.box (C1 u8 d_2984.l) false], orcs_nil, by simp only [go_sem, reduceIte, Nat.reduceLT, Nat.reduceEqDiff, Nat.reduceAdd, hb_2989], (weak_sel [0] (by decide) rfl (by simp only [go_sem, reduceIte, Nat.reduceLT, Nat.reduceEqDiff, Nat.reduceAdd]) (by simp only [go_sem, reduceIte, Nat.reduceLT, Nat.reduceEqDiff, Nat.reduceAdd]))⟩
    refine run_condL (b := t_2987) rfl (by decide) (fun hb => ?_) (fun hb => ?_)
    · replace h := ite_t h hb
      refine run_textE hE [6] (fr' := [(6, .bool true)]) (σ' := [.box (C1 u8 d_2984.l) false]) ⟨_, orcs_nil, ?_⟩ ?_
      · simp only [go_sem, reduceIte, Nat.reduceLT, Nat.reduceEqDiff, Nat.reduceAdd]
      refine run_ret ?_
      refine thenK_r ?_
      obtain rfl := Option.some.inj h
      refine ret_ok (.inr rfl) ?_
      simp only [go_sem, reduceIte, Nat.reduceLT, Nat.reduceEqDiff, Nat.reduceAdd]
    · replace h := ite_f h hb
      refine run_skip ?_
      refine thenK_n ?_
      replace h := bind_some1 h; obtain ⟨t_2996, hv_2997, h⟩ := h
      refine run_drawW hE mixed [[], [], [0, 1], [], [], [0, 1, 2, 3, 4], [0, 1, 2, 3, 4, 5], [0, 1, 2, 3, 4, 5, 6], [0, 1, 2, 3, 4, 5, 6, 7], [0, 1, 2, 3, 4, 5, 6, 7], [0, 1, 2, 3, 4, 5, 6, 7, 8, 9], [0, 1, 2, 3, 4, 5, 6, 7], [0, 1, 2, 3, 4, 5, 6, 7], [0, 1, 2, 3, 4, 5, 6, 7, 8, 9, 10, 11, 12], [0, 1, 2, 3, 4, 5, 6, 7, 8, 9, 10, 11, 12, 13], [0, 1, 2, 3, 4, 5, 6, 7, 8, 9, 10, 11, 12, 13, 14], [0, 1, 2, 3, 4, 5, 6, 7, 8, 9, 10, 11, 12, 13, 14, 15], [0, 1, 2, 3, 4, 5, 6, 7, 8, 9, 10, 11, 12, 13, 14, 15, 16], [0, 1, 2, 3, 4, 5, 6, 7, 8, 9, 10, 11, 12, 13, 14, 15, 16, 17], [0, 1, 2, 3, 4, 5, 6, 7, 8, 9, 10, 11, 12, 13, 14, 15, 16], [0, 1, 2, 3, 4, 5, 6, 7, 8, 9, 10, 11, 12, 13, 14, 15, 16, 17, 18, 19], [0, 1, 2, 3, 4, 5, 6, 7, 8, 9, 10, 11, 12, 13, 14, 15, 16, 17, 18, 19, 20], [0, 1, 2, 3, 4, 5, 6, 7, 8, 9, 10, 11, 12, 13, 14, 15, 16, 17, 18, 19, 20, 21], [0, 1, 2, 3, 4, 5, 6, 7, 8, 9, 10, 11, 12, 13, 14, 15, 16, 17, 18, 19, 20, 21, 22]] (by kernel_rfl) (by kernel_rfl) [6] (fr' := [(6, .bool t_2996)]) (σ' := []) ?_ ?_
      · replace hv_2997 := bind_some1 hv_2997; obtain ⟨y_2990, hy_2998, hv_2997⟩ := hv_2997
        replace hv_2997 := bind_some1 hv_2997; obtain ⟨y_2991, hy_2999, hv_2997⟩ := hv_2997
        rcases Bool.eq_false_or_eq_true ((y_2990 == y_2991)) with hb_3000 | hb_3000
        · replace hv_2997 := ite_t hv_2997 hb_3000
          replace hv_2997 := bind_some1 hv_2997; obtain ⟨y_2992, hy_3001, hv_2997⟩ := hv_2997
          replace hv_2997 := bind_some1 hv_2997; obtain ⟨y_2993, hy_3002, hv_2997⟩ := hv_2997
          rcases Bool.eq_false_or_eq_true ((y_2992 == y_2993)) with hb_3003 | hb_3003
          · replace hv_2997 := ite_t hv_2997 hb_3003
            replace hv_2997 := bind_some1 hv_2997; obtain ⟨y_2994, hy_3004, hv_2997⟩ := hv_2997
            replace hv_2997 := bind_some1 hv_2997; obtain ⟨y_2995, hy_3005, hv_2997⟩ := hv_2997
            have e_hv_2997 := Option.some.inj hv_2997; subst e_hv_2997
            exact ⟨_, [(6, .bool ((y_2994 == y_2995)))], [.box (C1 u8 d_2984.l) false], orcs_ok (l := [(19, 14, [.str tag_2982, .sl false (L cU8 b_2983)], .agg (C1 u8 y_2990.l)), (22, 15, [.str tag_2982, .sl false (L cU8 b_2983)], .agg (C1 u8 y_2991.l)), (27, 16, [.agg (C1 u8 d_2984.l), .sl false (L cU8 b_2983)], .agg (C1 u8 y_2992.l)), (30, 17, [.agg (C1 u8 d_2984.l), .sl false (L cU8 b_2983)], .agg (C1 u8 y_2993.l)), (35, 18, [.agg (C1 u8 d_2984.l)], u64 y_2994), (37, 19, [.agg (C1 u8 d_2984.l)], u64 y_2995)]) ⟨digest_Tagged_con  hy_2998, r02_Tagged_con  hy_2999, digest_Next_con  hy_3001, r02_Next_con  hy_3002, digest_Number_con  hy_3004, r02_Number_con  hy_3005, trivial⟩, by simp only [go_sem, reduceIte, Nat.reduceLT, Nat.reduceEqDiff, Nat.reduceAdd, hb_3000, hb_3003], (weak_sel [] (by decide) rfl (by simp only [go_sem, reduceIte, Nat.reduceLT, Nat.reduceEqDiff, Nat.reduceAdd]) (by simp only [go_sem, reduceIte, Nat.reduceLT, Nat.reduceEqDiff, Nat.reduceAdd]))⟩
          · replace hv_2997 := ite_f hv_2997 hb_3003
            have e_hv_2997 := Option.some.inj hv_2997; subst e_hv_2997
            exact ⟨_, [(6, .bool false)], [.box (C1 u8 d_2984.l) false], orcs_ok (l := [(19, 14, [.str tag_2982, .sl false (L cU8 b_2983)], .agg (C1 u8 y_2990.l)), (22, 15, [.str tag_2982, .sl false (L cU8 b_2983)], .agg (C1 u8 y_2991.l)), (27, 16, [.agg (C1 u8 d_2984.l), .sl false (L cU8 b_2983)], .agg (C1 u8 y_2992.l)), (30, 17, [.agg (C1 u8 d_2984.l), .sl false (L cU8 b_2983)], .agg (C1 u8 y_2993.l))]) ⟨digest_Tagged_con  hy_2998, r02_Tagged_con  hy_2999, digest_Next_con  hy_3001, r02_Next_con  hy_3002, trivial⟩, by simp only [go_sem, reduceIte, Nat.reduceLT, Nat.reduceEqDiff, Nat.reduceAdd, hb_3000, hb_3003], (weak_sel [] (by decide) rfl (by simp only [go_sem, reduceIte, Nat.reduceLT, Nat.reduceEqDiff, Nat.reduceAdd]) (by simp only [go_sem, reduceIte, Nat.reduceLT, Nat.reduceEqDiff, Nat.reduceAdd]))⟩
        · replace hv_2997 := ite_f hv_2997 hb_3000
          have e_hv_2997 := Option.some.inj hv_2997; subst e_hv_2997
          exact ⟨_, [(6, .bool false)], [.box (C1 u8 d_2984.l) false], orcs_ok (l := [(19, 14, [.str tag_2982, .sl false (L cU8 b_2983)], .agg (C1 u8 y_2990.l)), (22, 15, [.str tag_2982, .sl false (L cU8 b_2983)], .agg (C1 u8 y_2991.l))]) ⟨digest_Tagged_con  hy_2998, r02_Tagged_con  hy_2999, trivial⟩, by simp only [go_sem, reduceIte, Nat.reduceLT, Nat.reduceEqDiff, Nat.reduceAdd, hb_3000], (weak_sel [] (by decide) rfl (by simp only [go_sem, reduceIte, Nat.reduceLT, Nat.reduceEqDiff, Nat.reduceAdd]) (by simp only [go_sem, reduceIte, Nat.reduceLT, Nat.reduceEqDiff, Nat.reduceAdd]))⟩
      refine run_ret ?_
      obtain rfl := Option.some.inj h
      refine ret_ok (.inr rfl) ?_
      simp only [go_sem, reduceIte, Nat.reduceLT, Nat.reduceEqDiff, Nat.reduceAdd]

end Go.Proofs.YtgdiabbgiiemcaaDoor
/-
  The functions compute just that.
-/
namespace Go.Proofs.YtgdiabbgiiemcaaDoor
open Go.Rv
set_option linter.unusedVariables false
set_option linter.unusedSimpArgs false
set_option maxRecDepth 20000

theorem law02_DigestBindsValues_con {tag_3072 : List UInt8} {v_3073 : Api_Value} {w_3074 : Api_Value} {r : Bool} (h : law02_DigestBindsValues tag_3072 v_3073 w_3074 = some r) : Con B 10 [.str tag_3072, .agg [i64 v_3073.Kind, i64 v_3073.N, .sl false (L cU8 v_3073.B), .sl false (L cApi_Value v_3073.L)], .agg [i64 w_3074.Kind, i64 w_3074.N, .sl false (L cU8 w_3074.B), .sl false (L cApi_Value w_3074.L)]] [] (fun r' σ' => r' = .bool r ∧ σ' = []) := by
  refine con_walk (N := 89) (rs := [.tmp 6]) ok Tryd.func10 rfl (by decide +kernel) rfl rfl (Nat.le_of_ble_eq_true rfl) (fun F => ?_)
  have hE := ok.env F
  unfold law02_DigestBindsValues at h
  show Run (B.env F) 0 _ ⟨asFr 89 [(0, .str tag_3072), (1, .agg [i64 v_3073.Kind, i64 v_3073.N, .sl false (L cU8 v_3073.B), .sl false (L cApi_Value v_3073.L)]), (2, .agg [i64 w_3074.Kind, i64 w_3074.N, .sl false (L cU8 w_3074.B), .sl false (L cApi_Value w_3074.L)])], []⟩ _
  refine run_textE hE [0, 4, 5] (fr' := [(0, .str tag_3072), (4, .ref 0 0), (5, .ref 1 0)]) (σ' := [.box [i64 v_3073.Kind, i64 v_3073.N, .sl false (L cU8 v_3073.B), .sl false (L cApi_Value v_3073.L)] false, .box [i64 w_3074.Kind, i64 w_3074.N, .sl false (L cU8 w_3074.B), .sl false (L cApi_Value w_3074.L)] false]) ⟨_, orcs_nil, ?_⟩ ?_
  · simp only [go_sem, reduceIte, Nat.reduceLT, Nat.reduceEqDiff, Nat.reduceAdd]
  refine run_seq ?_
  replace h := bind_some1 h; obtain ⟨y_3075, hy_3076, h⟩ := h
  refine run_textE hE [0, 4, 5, 17] (fr' := [(0, .str tag_3072), (4, .ref 0 0), (5, .ref 1 0), (17, .bool ((!y_3075)))]) (σ' := [.box [i64 v_3073.Kind, i64 v_3073.N, .sl false (L cU8 v_3073.B), .sl false (L cApi_Value v_3073.L)] false, .box [i64 w_3074.Kind, i64 w_3074.N, .sl false (L cU8 w_3074.B), .sl false (L cApi_Value w_3074.L)] false]) ⟨_, orcs_ok (l := [(16, 11, [], .bool y_3075)]) ⟨law02_sane_con  hy_3076, trivial⟩, ?_⟩ ?_
  · simp only [go_sem, reduceIte, Nat.reduceLT, Nat.reduceEqDiff, Nat.reduceAdd]
  refine run_condL (b := (!y_3075)) rfl (by decide) (fun hb => ?_) (fun hb => ?_)
  · replace h := ite_t h hb
    refine run_textE hE [6] (fr' := [(6, .bool false)]) (σ' := [.box [i64 v_3073.Kind, i64 v_3073.N, .sl false (L cU8 v_3073.B), .sl false (L cApi_Value v_3073.L)] false, .box [i64 w_3074.Kind, i64 w_3074.N, .sl false (L cU8 w_3074.B), .sl false (L cApi_Value w_3074.L)] false]) ⟨_, orcs_nil, ?_⟩ ?_
    · simp only [go_sem, reduceIte, Nat.reduceLT, Nat.reduceEqDiff, Nat.reduceAdd]
    refine run_ret ?_
    refine thenK_r ?_
    obtain rfl := Option.some.inj h
    refine ret_ok (.inr rfl) ?_
    simp only [go_sem, reduceIte, Nat.reduceLT, Nat.reduceEqDiff, Nat.reduceAdd]
  · replace h := ite_f h hb
    refine run_skip ?_
    refine thenK_n ?_
    replace h := bind_some1 h; obtain ⟨y_3077, hy_3078, h⟩ := h
    refine run_textE hE [0, 4, 5, 7, 8] (fr' := [(0, .str tag_3072), (4, .ref 0 0), (5, .ref 1 0), (7, .sl false (L cU8 y_3077.1)), (8, i64 y_3077.2)]) (σ' := [.box [i64 v_3073.Kind, i64 v_3073.N, .sl false (L cU8 v_3073.B), .sl false (L cApi_Value v_3073.L)] false, .box [i64 w_3074.Kind, i64 w_3074.N, .sl false (L cU8 w_3074.B), .sl false (L cApi_Value w_3074.L)] false]) ⟨_, orcs_ok (l := [(20, 22, [.agg [i64 v_3073.Kind, i64 v_3073.N, .sl false (L cU8 v_3073.B), .sl false (L cApi_Value v_3073.L)]], .tup [.sl false (L cU8 y_3077.1), i64 y_3077.2])]) ⟨codec_Encode_con  hy_3078, trivial⟩, ?_⟩ ?_
    · simp only [go_sem, reduceIte, Nat.reduceLT, Nat.reduceEqDiff, Nat.reduceAdd]
    replace h := bind_some1 h; obtain ⟨y_3079, hy_3080, h⟩ := h
    refine run_textE hE [0, 4, 5, 7, 8, 9, 10] (fr' := [(0, .str tag_3072), (4, .ref 0 0), (5, .ref 1 0), (7, .sl false (L cU8 y_3077.1)), (8, i64 y_3077.2), (9, .sl false (L cU8 y_3079.1)), (10, i64 y_3079.2)]) (σ' := [.box [i64 v_3073.Kind, i64 v_3073.N, .sl false (L cU8 v_3073.B), .sl false (L cApi_Value v_3073.L)] false, .box [i64 w_3074.Kind, i64 w_3074.N, .sl false (L cU8 w_3074.B), .sl false (L cApi_Value w_3074.L)] false]) ⟨_, orcs_ok (l := [(25, 22, [.agg [i64 w_3074.Kind, i64 w_3074.N, .sl false (L cU8 w_3074.B), .sl false (L cApi_Value w_3074.L)]], .tup [.sl false (L cU8 y_3079.1), i64 y_3079.2])]) ⟨codec_Encode_con  hy_3080, trivial⟩, ?_⟩ ?_
    · simp only [go_sem, reduceIte, Nat.reduceLT, Nat.reduceEqDiff, Nat.reduceAdd]
    refine run_seq ?_
    replace h := bind_some1 h; obtain ⟨t_3081, hv_3082, h⟩ := h
    refine run_textW hE [0, 4, 5, 7, 9, 48] (fr' := [(0, .str tag_3072), (4, .ref 0 0), (5, .ref 1 0), (7, .sl false (L cU8 y_3077.1)), (9, .sl false (L cU8 y_3079.1)), (48, .bool t_3081)]) (σ' := [.box [i64 v_3073.Kind, i64 v_3073.N, .sl false (L cU8 v_3073.B), .sl false (L cApi_Value v_3073.L)] false, .box [i64 w_3074.Kind, i64 w_3074.N, .sl false (L cU8 w_3074.B), .sl false (L cApi_Value w_3074.L)] false]) ?_ ?_
    · rcases Bool.eq_false_or_eq_true ((y_3077.2 != 0)) with hb_3083 | hb_3083
      · replace hv_3082 := ite_t hv_3082 hb_3083
        have e_hv_3082 := Option.some.inj hv_3082; subst e_hv_3082
        exact ⟨_, [(0, .str tag_3072), (4, .ref 0 0), (5, .ref 1 0), (7, .sl false (L cU8 y_3077.1)), (9, .sl false (L cU8 y_3079.1)), (48, .bool true)], [.box [i64 v_3073.Kind, i64 v_3073.N, .sl false (L cU8 v_3073.B), .sl false (L cApi_Value v_3073.L)] false, .box [i64 w_3074.Kind, i64 w_3074.N, .sl false (L cU8 w_3074.B), .sl false (L cApi_Value w_3074.L)] false], orcs_nil, by simp only [go_sem, reduceIte, Nat.reduceLT, Nat.reduceEqDiff, Nat.reduceAdd, hb_3083], (weak_sel [0, 1] (by decide) rfl (by simp only [go_sem, reduceIte, Nat.reduceLT, Nat.reduceEqDiff, Nat.reduceAdd]) (by simp only [go_sem, reduceIte, Nat.reduceLT, Nat.reduceEqDiff, Nat.reduceAdd]))⟩
      · replace hv_3082 := ite_f hv_3082 hb_3083
        rcases Bool.eq_false_or_eq_true ((y_3079.2 != 0)) with hb_3084 | hb_3084
        · replace hv_3082 := ite_t hv_3082 hb_3084
          have e_hv_3082 := Option.some.inj hv_3082; subst e_hv_3082
          exact ⟨_, [(0, .str tag_3072), (4, .ref 0 0), (5, .ref 1 0), (7, .sl false (L cU8 y_3077.1)), (9, .sl false (L cU8 y_3079.1)), (48, .bool true)], [.box [i64 v_3073.Kind, i64 v_3073.N, .sl false (L cU8 v_3073.B), .sl false (L cApi_Value v_3073.L)] false, .box [i64 w_3074.Kind, i64 w_3074.N, .sl false (L cU8 w_3074.B), .sl false (L cApi_Value w_3074.L)] false], orcs_nil, by simp only [go_sem, reduceIte, Nat.reduceLT, Nat.reduceEqDiff, Nat.reduceAdd, hb_3083, hb_3084], (weak_sel [0, 1] (by decide) rfl (by simp only [go_sem, reduceIte, Nat.reduceLT, Nat.reduceEqDiff, Nat.reduceAdd]) (by simp only [go_sem, reduceIte, Nat.reduceLT, Nat.reduceEqDiff, Nat.reduceAdd]))⟩
        · replace hv_3082 := ite_f hv_3082 hb_3084
          rcases Bool.eq_false_or_eq_true ((decide ((tag_3072.length : Int) > 400))) with hb_3085 | hb_3085
          · replace hv_3082 := ite_t hv_3082 hb_3085
            have e_hv_3082 := Option.some.inj hv_3082; subst e_hv_3082
            exact ⟨_, [(0, .str tag_3072), (4, .ref 0 0), (5, .ref 1 0), (7, .sl false (L cU8 y_3077.1)), (9, .sl false (L cU8 y_3079.1)), (48, .bool true)], [.box [i64 v_3073.Kind, i64 v_3073.N, .sl false (L cU8 v_3073.B), .sl false (L cApi_Value v_3073.L)] false, .box [i64 w_3074.Kind, i64 w_3074.N, .sl false (L cU8 w_3074.B), .sl false (L cApi_Value w_3074.L)] false], orcs_nil, by simp only [go_sem, reduceIte, Nat.reduceLT, Nat.reduceEqDiff, Nat.reduceAdd, hb_3083, hb_3084, hb_3085], (weak_sel [0, 1] (by decide) rfl (by simp only [go_sem, reduceIte, Nat.reduceLT, Nat.reduceEqDiff, Nat.reduceAdd]) (by simp only [go_sem, reduceIte, Nat.reduceLT, Nat.reduceEqDiff, Nat.reduceAdd]))⟩
          · replace hv_3082 := ite_f hv_3082 hb_3085
            rcases Bool.eq_false_or_eq_true ((decide ((y_3077.1.length : Int) > 600))) with hb_3086 | hb_3086
            · replace hv_3082 := ite_t hv_3082 hb_3086
              have e_hv_3082 := Option.some.inj hv_3082; subst e_hv_3082
              exact ⟨_, [(0, .str tag_3072), (4, .ref 0 0), (5, .ref 1 0), (7, .sl false (L cU8 y_3077.1)), (9, .sl false (L cU8 y_3079.1)), (48, .bool true)], [.box [i64 v_3073.Kind, i64 v_3073.N, .sl false (L cU8 v_3073.B), .sl false (L cApi_Value v_3073.L)] false, .box [i64 w_3074.Kind, i64 w_3074.N, .sl false (L cU8 w_3074.B), .sl false (L cApi_Value w_3074.L)] false], orcs_nil, by simp only [go_sem, reduceIte, Nat.reduceLT, Nat.reduceEqDiff, Nat.reduceAdd, hb_3083, hb_3084, hb_3085, hb_3086], (weak_sel [0, 1] (by decide) rfl (by simp only [go_sem, reduceIte, Nat.reduceLT, Nat.reduceEqDiff, Nat.reduceAdd]) (by simp only [go_sem, reduceIte, Nat.reduceLT, Nat.reduceEqDiff, Nat.reduceAdd]))⟩
            · replace hv_3082 := ite_f hv_3082 hb_3086
              have e_hv_3082 := Option.some.inj hv_3082; subst e_hv_3082
              exact ⟨_, [(0, .str tag_3072), (4, .ref 0 0), (5, .ref 1 0), (7, .sl false (L cU8 y_3077.1)), (9, .sl false (L cU8 y_3079.1)), (48, .bool ((decide ((y_3079.1.length : Int) > 600))))], [.box [i64 v_3073.Kind, i64 v_3073.N, .sl false (L cU8 v_3073.B), .sl false (L cApi_Value v_3073.L)] false, .box [i64 w_3074.Kind, i64 w_3074.N, .sl false (L cU8 w_3074.B), .sl false (L cApi_Value w_3074.L)] false], orcs_nil, by simp only [go_sem, reduceIte, Nat.reduceLT, Nat.reduceEqDiff, Nat.reduceAdd, hb_3083, hb_3084, hb_3085, hb_3086], (weak_sel [0, 1] (by decide) rfl (by simp only [go_sem, reduceIte, Nat.reduceLT, Nat.reduceEqDiff, Nat.reduceAdd]) (by simp only [go_sem, reduceIte, Nat.reduceLT, Nat.reduceEqDiff, Nat.reduceAdd]))⟩
    refine run_condL (b := t_3081) rfl (by decide) (fun hb => ?_) (fun hb => ?_)
    · replace h := ite_t h hb
      refine run_textE hE [6] (fr' := [(6, .bool true)]) (σ' := [.box [i64 v_3073.Kind, i64 v_3073.N, .sl false (L cU8 v_3073.B), .sl false (L cApi_Value v_3073.L)] false, .box [i64 w_3074.Kind, i64 w_3074.N, .sl false (L cU8 w_3074.B), .sl false (L cApi_Value w_3074.L)] false]) ⟨_, orcs_nil, ?_⟩ ?_
      · simp only [go_sem, reduceIte, Nat.reduceLT, Nat.reduceEqDiff, Nat.reduceAdd]
      refine run_ret ?_
      refine thenK_r ?_
      obtain rfl := Option.some.inj h
      refine ret_ok (.inr rfl) ?_
      simp only [go_sem, reduceIte, Nat.reduceLT, Nat.reduceEqDiff, Nat.reduceAdd]
    · replace h := ite_f h hb
      refine run_skip ?_
      refine thenK_n ?_
      replace h := bind_some1 h; obtain ⟨y_3087, hy_3088, h⟩ := h
      refine run_textE hE [0, 4, 5, 7, 9, 11] (fr' := [(0, .str tag_3072), (4, .ref 0 0), (5, .ref 1 0), (7, .sl false (L cU8 y_3077.1)), (9, .sl false (L cU8 y_3079.1)), (11, .ref 2 0)]) (σ' := [.box [i64 v_3073.Kind, i64 v_3073.N, .sl false (L cU8 v_3073.B), .sl false (L cApi_Value v_3073.L)] false, .box [i64 w_3074.Kind, i64 w_3074.N, .sl false (L cU8 w_3074.B), .sl false (L cApi_Value w_3074.L)] false, .box (C1 u8 y_3087.1.l) false]) ⟨_, orcs_ok (l := [(52, 23, [.str tag_3072, .agg [i64 v_3073.Kind, i64 v_3073.N, .sl false (L cU8 v_3073.B), .sl false (L cApi_Value v_3073.L)]], .tup [.agg (C1 u8 y_3087.1.l), i64 y_3087.2])]) ⟨digest_Value_con  hy_3088, trivial⟩, ?_⟩ ?_
      · simp only [go_sem, reduceIte, Nat.reduceLT, Nat.reduceEqDiff, Nat.reduceAdd]
      replace h := bind_some1 h; obtain ⟨y_3089, hy_3090, h⟩ := h
      refine run_textE hE [0, 4, 5, 7, 9, 11, 13] (fr' := [(0, .str tag_3072), (4, .ref 0 0), (5, .ref 1 0), (7, .sl false (L cU8 y_3077.1)), (9, .sl false (L cU8 y_3079.1)), (11, .ref 2 0), (13, .ref 3 0)]) (σ' := [.box [i64 v_3073.Kind, i64 v_3073.N, .sl false (L cU8 v_3073.B), .sl false (L cApi_Value v_3073.L)] false, .box [i64 w_3074.Kind, i64 w_3074.N, .sl false (L cU8 w_3074.B), .sl false (L cApi_Value w_3074.L)] false, .box (C1 u8 y_3087.1.l) false, .box (C1 u8 y_3089.1.l) false]) ⟨_, orcs_ok (l := [(58, 23, [.str tag_3072, .agg [i64 w_3074.Kind, i64 w_3074.N, .sl false (L cU8 w_3074.B), .sl false (L cApi_Value w_3074.L)]], .tup [.agg (C1 u8 y_3089.1.l), i64 y_3089.2])]) ⟨digest_Value_con  hy_3090, trivial⟩, ?_⟩ ?_
      · simp only [go_sem, reduceIte, Nat.reduceLT, Nat.reduceEqDiff, Nat.reduceAdd]
      replace h := bind_some1 h; obtain ⟨y_3091, hy_3092, h⟩ := h
      refine run_textE hE [0, 7, 9, 11, 13, 15] (fr' := [(0, .str tag_3072), (7, .sl false (L cU8 y_3077.1)), (9, .sl false (L cU8 y_3079.1)), (11, .ref 2 0), (13, .ref 3 0), (15, .bool ((y_3091 == 0)))]) (σ' := [.box [i64 v_3073.Kind, i64 v_3073.N, .sl false (L cU8 v_3073.B), .sl false (L cApi_Value v_3073.L)] false, .box [i64 w_3074.Kind, i64 w_3074.N, .sl false (L cU8 w_3074.B), .sl false (L cApi_Value w_3074.L)] false, .box (C1 u8 y_3087.1.l) false, .box (C1 u8 y_3089.1.l) false]) ⟨_, orcs_ok (l := [(63, 26, [.agg [i64 v_3073.Kind, i64 v_3073.N, .sl false (L cU8 v_3073.B), .sl false (L cApi_Value v_3073.L)], .agg [i64 w_3074.Kind, i64 w_3074.N, .sl false (L cU8 w_3074.B), .sl false (L cApi_Value w_3074.L)]], i64 y_3091)]) ⟨codec_Compare_con  hy_3092, trivial⟩, ?_⟩ ?_
      · simp only [go_sem, reduceIte, Nat.reduceLT, Nat.reduceEqDiff, Nat.reduceAdd]
      refine run_seq ?_
      refine run_textE hE [0, 7, 9, 11, 13, 65] (fr' := [(0, .str tag_3072), (7, .sl false (L cU8 y_3077.1)), (9, .sl false (L cU8 y_3079.1)), (11, .ref 2 0), (13, .ref 3 0), (65, .bool ((y_3091 == 0)))]) (σ' := [.box [i64 v_3073.Kind, i64 v_3073.N, .sl false (L cU8 v_3073.B), .sl false (L cApi_Value v_3073.L)] false, .box [i64 w_3074.Kind, i64 w_3074.N, .sl false (L cU8 w_3074.B), .sl false (L cApi_Value w_3074.L)] false, .box (C1 u8 y_3087.1.l) false, .box (C1 u8 y_3089.1.l) false]) ⟨_, orcs_nil, ?_⟩ ?_
      · simp only [go_sem, reduceIte, Nat.reduceLT, Nat.reduceEqDiff, Nat.reduceAdd]
      refine run_condL (b := (y_3091 == 0)) rfl (by decide) (fun hb => ?_) (fun hb => ?_)
      · replace h := ite_t h hb
        refine run_textE hE [6] (fr' := [(6, .bool ((y_3087.1 == y_3089.1)))]) (σ' := [.box [i64 v_3073.Kind, i64 v_3073.N, .sl false (L cU8 v_3073.B), .sl false (L cApi_Value v_3073.L)] false, .box [i64 w_3074.Kind, i64 w_3074.N, .sl false (L cU8 w_3074.B), .sl false (L cApi_Value w_3074.L)] false, .box (C1 u8 y_3087.1.l) false, .box (C1 u8 y_3089.1.l) false]) ⟨_, orcs_nil, ?_⟩ ?_
        · simp only [go_sem, reduceIte, Nat.reduceLT, Nat.reduceEqDiff, Nat.reduceAdd]
        refine run_ret ?_
        refine thenK_r ?_
        obtain rfl := Option.some.inj h
        refine ret_ok (.inr rfl) ?_
        simp only [go_sem, reduceIte, Nat.reduceLT, Nat.reduceEqDiff, Nat.reduceAdd]
      · replace h := ite_f h hb
        refine run_skip ?_
        refine thenK_n ?_
        replace h := bind_some1 h; obtain ⟨t_3098, hv_3099, h⟩ := h
        refine run_textW hE [6] (fr' := [(6, .bool t_3098)]) (σ' := []) ?_ ?_
        · rcases Bool.eq_false_or_eq_true ((!(y_3087.1 == y_3089.1))) with hb_3100 | hb_3100
          · replace hv_3099 := ite_t hv_3099 hb_3100
            have e_hv_3099 := Option.some.inj hv_3099; subst e_hv_3099
            exact ⟨_, [(6, .bool true)], [.box [i64 v_3073.Kind, i64 v_3073.N, .sl false (L cU8 v_3073.B), .sl false (L cApi_Value v_3073.L)] false, .box [i64 w_3074.Kind, i64 w_3074.N, .sl false (L cU8 w_3074.B), .sl false (L cApi_Value w_3074.L)] false, .box (C1 u8 y_3087.1.l) false, .box (C1 u8 y_3089.1.l) false], orcs_nil, by simp only [go_sem, reduceIte, Nat.reduceLT, Nat.reduceEqDiff, Nat.reduceAdd, hb_3100], (weak_sel [] (by decide) rfl (by simp only [go_sem, reduceIte, Nat.reduceLT, Nat.reduceEqDiff, Nat.reduceAdd]) (by simp only [go_sem, reduceIte, Nat.reduceLT, Nat.reduceEqDiff, Nat.reduceAdd]))⟩
          · replace hv_3099 := ite_f hv_3099 hb_3100
            replace hv_3099 := bind_some1 hv_3099; obtain ⟨y_3093, hy_3101, hv_3099⟩ := hv_3099
            replace hv_3099 := bind_some1 hv_3099; obtain ⟨y_3094, hy_3102, hv_3099⟩ := hv_3099
            replace hv_3099 := bind_some1 hv_3099; obtain ⟨y_3095, hy_3103, hv_3099⟩ := hv_3099
            replace hv_3099 := bind_some1 hv_3099; obtain ⟨y_3096, hy_3104, hv_3099⟩ := hv_3099
            rcases Bool.eq_false_or_eq_true ((y_3094 == y_3096)) with hb_3105 | hb_3105
            · replace hv_3099 := ite_t hv_3099 hb_3105
              replace hv_3099 := bind_some1 hv_3099; obtain ⟨y_3097, hy_3106, hv_3099⟩ := hv_3099
              have e_hv_3099 := Option.some.inj hv_3099; subst e_hv_3099
              exact ⟨_, [(6, .bool ((!y_3097)))], [.box [i64 v_3073.Kind, i64 v_3073.N, .sl false (L cU8 v_3073.B), .sl false (L cApi_Value v_3073.L)] false, .box [i64 w_3074.Kind, i64 w_3074.N, .sl false (L cU8 w_3074.B), .sl false (L cApi_Value w_3074.L)] false, .box (C1 u8 y_3087.1.l) false, .box (C1 u8 y_3089.1.l) false], orcs_ok (l := [(75, 20, [.str tag_3072, .sl false (L cU8 y_3077.1)], .sl false (L cU8 y_3093)), (76, 12, [.sl false (L cU8 y_3093)], .agg (C1 u8 y_3094.l)), (79, 20, [.str tag_3072, .sl false (L cU8 y_3079.1)], .sl false (L cU8 y_3095)), (80, 12, [.sl false (L cU8 y_3095)], .agg (C1 u8 y_3096.l)), (85, 21, [.sl false (L cU8 y_3077.1), .sl false (L cU8 y_3079.1)], .bool y_3097)]) ⟨r02_Hashed_con  hy_3101, digest_Sum_con  hy_3102, r02_Hashed_con  hy_3103, digest_Sum_con  hy_3104, r02_Same_con  hy_3106, trivial⟩, by simp only [go_sem, reduceIte, Nat.reduceLT, Nat.reduceEqDiff, Nat.reduceAdd, hb_3100, hb_3105], (weak_sel [] (by decide) rfl (by simp only [go_sem, reduceIte, Nat.reduceLT, Nat.reduceEqDiff, Nat.reduceAdd]) (by simp only [go_sem, reduceIte, Nat.reduceLT, Nat.reduceEqDiff, Nat.reduceAdd]))⟩
            · replace hv_3099 := ite_f hv_3099 hb_3105
              have e_hv_3099 := Option.some.inj hv_3099; subst e_hv_3099
              exact ⟨_, [(6, .bool false)], [.box [i64 v_3073.Kind, i64 v_3073.N, .sl false (L cU8 v_3073.B), .sl false (L cApi_Value v_3073.L)] false, .box [i64 w_3074.Kind, i64 w_3074.N, .sl false (L cU8 w_3074.B), .sl false (L cApi_Value w_3074.L)] false, .box (C1 u8 y_3087.1.l) false, .box (C1 u8 y_3089.1.l) false], orcs_ok (l := [(75, 20, [.str tag_3072, .sl false (L cU8 y_3077.1)], .sl false (L cU8 y_3093)), (76, 12, [.sl false (L cU8 y_3093)], .agg (C1 u8 y_3094.l)), (79, 20, [.str tag_3072, .sl false (L cU8 y_3079.1)], .sl false (L cU8 y_3095)), (80, 12, [.sl false (L cU8 y_3095)], .agg (C1 u8 y_3096.l))]) ⟨r02_Hashed_con  hy_3101, digest_Sum_con  hy_3102, r02_Hashed_con  hy_3103, digest_Sum_con  hy_3104, trivial⟩, by simp only [go_sem, reduceIte, Nat.reduceLT, Nat.reduceEqDiff, Nat.reduceAdd, hb_3100, hb_3105], (weak_sel [] (by decide) rfl (by simp only [go_sem, reduceIte, Nat.reduceLT, Nat.reduceEqDiff, Nat.reduceAdd]) (by simp only [go_sem, reduceIte, Nat.reduceLT, Nat.reduceEqDiff, Nat.reduceAdd]))⟩
        refine run_ret ?_
        obtain rfl := Option.some.inj h
        refine ret_ok (.inr rfl) ?_
        simp only [go_sem, reduceIte, Nat.reduceLT, Nat.reduceEqDiff, Nat.reduceAdd]

end Go.Proofs.YtgdiabbgiiemcaaDoor
/-
  The program's block function is the reference's, and a sum depends on the bytes alone.
-/
namespace Go.Proofs.YtgdiabbgiiemcaaDoor
open Go.Rv
set_option linter.unusedVariables false
set_option linter.unusedSimpArgs false

/-! ### Rotations -/
def ror (x : UInt32) (k : Nat) : UInt32 := shr32 x k ||| shl32 x (32 - k)

theorem rot_l (x : UInt32) (k : Nat) (hk : 0 < k ∧ k < 32) : bits_RotateLeft32 x (-(k : Int)) = some (ror x k) := by
  have key : ∀ j : Fin 32, 0 < j.val → ((UInt64.ofInt (-(j.val : Int))) &&& 31).toNat = 32 - j.val ∧ ((32 : UInt64) - ((UInt64.ofInt (-(j.val : Int))) &&& 31)).toNat = j.val := by decide
  obtain ⟨h1, h2⟩ := key ⟨k, hk.2⟩ hk.1
  unfold bits_RotateLeft32 ror
  simp only [lt1]
  rw [h1, h2, UInt32.or_comm]

theorem rot_r (x : UInt32) (k : Nat) (hk : 0 < k ∧ k < 32) : r02_rotr x (k : Int) = some (ror x k) := by
  unfold r02_rotr ror
  have e : w64 (32 - (k : Int)) = ((32 - k : Nat) : Int) := by rw [w64_id (by omega)]; omega
  rw [e, if_pos (by unfold NotNeg; omega), if_pos (by unfold NotNeg; omega)]
  rfl

theorem l2 (x : UInt32) : bits_RotateLeft32 x (-2) = some (ror x 2) := rot_l x 2 (by decide)
theorem l6 (x : UInt32) : bits_RotateLeft32 x (-6) = some (ror x 6) := rot_l x 6 (by decide)
theorem l7 (x : UInt32) : bits_RotateLeft32 x (-7) = some (ror x 7) := rot_l x 7 (by decide)
theorem l11 (x : UInt32) : bits_RotateLeft32 x (-11) = some (ror x 11) := rot_l x 11 (by decide)
theorem l13 (x : UInt32) : bits_RotateLeft32 x (-13) = some (ror x 13) := rot_l x 13 (by decide)
theorem l17 (x : UInt32) : bits_RotateLeft32 x (-17) = some (ror x 17) := rot_l x 17 (by decide)
theorem l18 (x : UInt32) : bits_RotateLeft32 x (-18) = some (ror x 18) := rot_l x 18 (by decide)
theorem l19 (x : UInt32) : bits_RotateLeft32 x (-19) = some (ror x 19) := rot_l x 19 (by decide)
theorem l22 (x : UInt32) : bits_RotateLeft32 x (-22) = some (ror x 22) := rot_l x 22 (by decide)
theorem l25 (x : UInt32) : bits_RotateLeft32 x (-25) = some (ror x 25) := rot_l x 25 (by decide)
theorem r2 (x : UInt32) : r02_rotr x 2 = some (ror x 2) := rot_r x 2 (by decide)
theorem r6 (x : UInt32) : r02_rotr x 6 = some (ror x 6) := rot_r x 6 (by decide)
theorem r7 (x : UInt32) : r02_rotr x 7 = some (ror x 7) := rot_r x 7 (by decide)
theorem r11 (x : UInt32) : r02_rotr x 11 = some (ror x 11) := rot_r x 11 (by decide)
theorem r13 (x : UInt32) : r02_rotr x 13 = some (ror x 13) := rot_r x 13 (by decide)
theorem r17 (x : UInt32) : r02_rotr x 17 = some (ror x 17) := rot_r x 17 (by decide)
theorem r18 (x : UInt32) : r02_rotr x 18 = some (ror x 18) := rot_r x 18 (by decide)
theorem r19 (x : UInt32) : r02_rotr x 19 = some (ror x 19) := rot_r x 19 (by decide)
theorem r22 (x : UInt32) : r02_rotr x 22 = some (ror x 22) := rot_r x 22 (by decide)
theorem r25 (x : UInt32) : r02_rotr x 25 = some (ror x 25) := rot_r x 25 (by decide)

/-! ### Blocks -/
theorem consts : r02_constants = some glob0 := by unfold r02_constants glob0; rfl

theorem sched2 (i : Int) (f : Arr UInt32 64) : digest_block_b2 i f = r02_schedule_b2 i f := by
  unfold digest_block_b2 r02_schedule_b2
  simp only [l7, l18, l17, l19, r7, r18, r17, r19, Option.bind_some, lt1]
  by_cases h1 : InR (w64 (i - 15)) 64 <;> by_cases h2 : InR (w64 (i - 2)) 64 <;> simp only [h1, h2, if_true, if_false]

theorem rounds (w : Arr UInt32 64) (i : Int) (f : Arr UInt32 8) : digest_block_b3 w i f = r02_block_b1 w glob0 i f := by
  unfold digest_block_b3 r02_block_b1
  simp only [l6, l11, l25, l2, l13, l22, r6, r11, r25, r2, r13, r22, Option.bind_some, lt1]

theorem lt1_at {α β : Type} (x y : α) (f : α → Option β) (h : x = y) : lt1 x f = f y := by rw [h]; rfl

theorem sched_eq (b : List UInt8) : r02_schedule b = (loopO (fun (v : Int × Arr UInt32 64) => digest_block_b1 b v.1 v.2) (0, Arr.rep 64 (0 : UInt32))).bind fun f => loopO (fun (v : Int × Arr UInt32 64) => digest_block_b2 v.1 v.2) (16, f) := by
  have e1 : (fun v : Int × Arr UInt32 64 => r02_schedule_b1 b v.1 v.2) = fun v => digest_block_b1 b v.1 v.2 := by funext v; unfold digest_block_b1 r02_schedule_b1; rfl
  have e2 : (fun v : Int × Arr UInt32 64 => r02_schedule_b2 v.1 v.2) = fun v => digest_block_b2 v.1 v.2 := funext fun v => (sched2 _ _).symm
  unfold r02_schedule
  refine (lt1_at _ (Arr.rep 64 0) _ (Arr.ext' rfl)).trans ?_
  simp only [obind_some]
  rw [e1, e2]

theorem block_eq (h : Arr UInt32 8) (b : List UInt8) : digest_block h b = r02_block h b := by
  have e3 : ∀ w : Arr UInt32 64, (fun v : Int × Arr UInt32 8 => digest_block_b3 w v.1 v.2) = fun v => r02_block_b1 w glob0 v.1 v.2 := fun w => funext fun v => rounds _ _ _
  have e4 : ∀ w : Arr UInt32 8, (fun v : Int × Arr UInt32 8 => digest_block_b4 w v.1 v.2) = fun v => r02_block_b2 w v.1 v.2 := fun w => by funext v; unfold digest_block_b4 r02_block_b2; rfl
  unfold r02_block
  rw [consts, sched_eq]
  unfold digest_block
  simp only [obind_some, Option.bind_some, Option.bind_assoc, e3, e4]

/-! ### A block of 64 bytes has a result -/
theorem loop1 (b : List UInt8) (hb : 64 ≤ b.length) (f0 : Arr UInt32 64) : ∃ x, loopO (fun (v : Int × Arr UInt32 64) => digest_block_b1 b v.1 v.2) (0, f0) = some x := by
  obtain ⟨x, hx, _⟩ := loopO_for (f := fun (v : Int × Arr UInt32 64) => digest_block_b1 b v.1 v.2) 16 (fun k v => v.1 = ((k : Nat) : Int)) (fun _ => True) (by omega)
    (fun k v hk hi => by
      obtain ⟨i, f⟩ := v
      have hi' : i = ((k : Nat) : Int) := hi
      subst hi'
      have e0 : w64 ((4 : Int) * ((k : Nat) : Int)) = ((4 * k : Nat) : Int) := by rw [w64_id (by omega)]; omega
      have e1 : w64 (((4 * k : Nat) : Int) + 1) = ((4 * k + 1 : Nat) : Int) := by rw [w64_id (by omega)]; omega
      have e2 : w64 (((4 * k : Nat) : Int) + 2) = ((4 * k + 2 : Nat) : Int) := by rw [w64_id (by omega)]; omega
      have e3 : w64 (((4 * k : Nat) : Int) + 3) = ((4 * k + 3 : Nat) : Int) := by rw [w64_id (by omega)]; omega
      exact ⟨_, by
        show digest_block_b1 b ((k : Nat) : Int) f = _
        unfold digest_block_b1
        simp only [e0, e1, e2, e3, lt1]
        rw [if_pos (by simp; omega), if_pos (inR_of (by omega)), if_pos (inR_of (by omega)), if_pos (inR_of (by omega)), if_pos (inR_of (by omega)), if_pos (inR_of (by omega))], by
        show w64 (((k : Nat) : Int) + 1) = (((k + 1) : Nat) : Int)
        rw [w64_id (by omega)]; omega⟩)
    (fun v hi => by
      obtain ⟨i, f⟩ := v
      have hi' : i = ((16 : Nat) : Int) := hi
      subst hi'
      exact ⟨f, by show digest_block_b1 b ((16 : Nat) : Int) f = _; unfold digest_block_b1; rw [if_neg (by simp)], trivial⟩) (v0 := (0, f0)) rfl
  exact ⟨x, hx⟩

theorem loop2  (f0 : Arr UInt32 64) : ∃ x, loopO (fun (v : Int × Arr UInt32 64) => digest_block_b2 v.1 v.2) (16, f0) = some x := by
  obtain ⟨x, hx, _⟩ := loopO_for (f := fun (v : Int × Arr UInt32 64) => digest_block_b2 v.1 v.2) 48 (fun k v => v.1 = ((16 + k : Nat) : Int)) (fun _ => True) (by omega)
    (fun k v hk hi => by
      obtain ⟨i, f⟩ := v
      have hi' : i = ((16 + k : Nat) : Int) := hi
      subst hi'
      have e15 : w64 (((16 + k : Nat) : Int) - 15) = ((1 + k : Nat) : Int) := by rw [w64_id (by omega)]; omega
      have e2 : w64 (((16 + k : Nat) : Int) - 2) = ((14 + k : Nat) : Int) := by rw [w64_id (by omega)]; omega
      have e16 : w64 (((16 + k : Nat) : Int) - 16) = ((k : Nat) : Int) := by rw [w64_id (by omega)]; omega
      have e7 : w64 (((16 + k : Nat) : Int) - 7) = ((9 + k : Nat) : Int) := by rw [w64_id (by omega)]; omega
      exact ⟨_, by
        show digest_block_b2 ((16 + k : Nat) : Int) f = _
        unfold digest_block_b2
        simp only [e15, e2, e16, e7, lt1, l7, l18, l17, l19, Option.bind_some]
        rw [if_pos (by simp; omega), if_pos (inR_of (by omega)), if_pos (inR_of (by omega)), if_pos (inR_of (by omega)), if_pos (inR_of (by omega)), if_pos (inR_of (by omega))], by
        show w64 (((16 + k : Nat) : Int) + 1) = ((16 + (k + 1) : Nat) : Int)
        rw [w64_id (by omega)]; omega⟩)
    (fun v hi => by
      obtain ⟨i, f⟩ := v
      have hi' : i = ((16 + 48 : Nat) : Int) := hi
      subst hi'
      exact ⟨f, by show digest_block_b2 ((16 + 48 : Nat) : Int) f = _; unfold digest_block_b2; rw [if_neg (by simp)], trivial⟩) (v0 := (16, f0)) rfl
  exact ⟨x, hx⟩

theorem loop3 (w : Arr UInt32 64) (f0 : Arr UInt32 8) : ∃ x, loopO (fun (v : Int × Arr UInt32 8) => digest_block_b3 w v.1 v.2) (0, f0) = some x := by
  obtain ⟨x, hx, _⟩ := loopO_for (f := fun (v : Int × Arr UInt32 8) => digest_block_b3 w v.1 v.2) 64 (fun k v => v.1 = ((k : Nat) : Int)) (fun _ => True) (by omega)
    (fun k v hk hi => by
      obtain ⟨i, f⟩ := v
      have hi' : i = ((k : Nat) : Int) := hi
      subst hi'

      exact ⟨_, by
        show digest_block_b3 w ((k : Nat) : Int) f = _
        unfold digest_block_b3
        simp only [lt1, l6, l11, l25, l2, l13, l22, Option.bind_some]
        rw [if_pos (by simp; omega), if_pos (inR_of hk), if_pos (inR_of hk)], by
        show w64 (((k : Nat) : Int) + 1) = (((k + 1) : Nat) : Int)
        rw [w64_id (by omega)]; omega⟩)
    (fun v hi => by
      obtain ⟨i, f⟩ := v
      have hi' : i = ((64 : Nat) : Int) := hi
      subst hi'
      exact ⟨f, by show digest_block_b3 w ((64 : Nat) : Int) f = _; unfold digest_block_b3; rw [if_neg (by simp)], trivial⟩) (v0 := (0, f0)) rfl
  exact ⟨x, hx⟩

theorem loop4 (w : Arr UInt32 8) (f0 : Arr UInt32 8) : ∃ x, loopO (fun (v : Int × Arr UInt32 8) => digest_block_b4 w v.1 v.2) (0, f0) = some x := by
  obtain ⟨x, hx, _⟩ := loopO_for (f := fun (v : Int × Arr UInt32 8) => digest_block_b4 w v.1 v.2) 8 (fun k v => v.1 = ((k : Nat) : Int)) (fun _ => True) (by omega)
    (fun k v hk hi => by
      obtain ⟨i, f⟩ := v
      have hi' : i = ((k : Nat) : Int) := hi
      subst hi'

      exact ⟨_, by
        show digest_block_b4 w ((k : Nat) : Int) f = _
        unfold digest_block_b4
        simp only [lt1]
        rw [if_pos (by simp; omega), if_pos (inR_of hk), if_pos (inR_of hk), if_pos (inR_of hk)], by
        show w64 (((k : Nat) : Int) + 1) = (((k + 1) : Nat) : Int)
        rw [w64_id (by omega)]; omega⟩)
    (fun v hi => by
      obtain ⟨i, f⟩ := v
      have hi' : i = ((8 : Nat) : Int) := hi
      subst hi'
      exact ⟨f, by show digest_block_b4 w ((8 : Nat) : Int) f = _; unfold digest_block_b4; rw [if_neg (by simp)], trivial⟩) (v0 := (0, f0)) rfl
  exact ⟨x, hx⟩

theorem bind4 {A C : Type} (o1 : Option A) (g2 : A → Option A) (g3 : A → Option C) (g4 : C → Option C) (h1 : ∃ a, o1 = some a) (h2 : ∀ a, ∃ x, g2 a = some x) (h3 : ∀ a, ∃ x, g3 a = some x) (h4 : ∀ a, ∃ x, g4 a = some x) :
    ∃ r, ((o1.bind fun f => some f).bind fun f => ((g2 f).bind fun f => some f).bind fun f => ((g3 f).bind fun f => some f).bind fun f => ((g4 f).bind fun f => some f).bind fun f => some f) = some r := by
  obtain ⟨a, rfl⟩ := h1
  obtain ⟨b, hb⟩ := h2 a
  obtain ⟨c, hc⟩ := h3 b
  obtain ⟨d, hd⟩ := h4 c
  exact ⟨d, by simp [hb, hc, hd]⟩

theorem block_some (h : Arr UInt32 8) (b : List UInt8) (hb : 64 ≤ b.length) : ∃ r, digest_block h b = some r := by
  unfold digest_block
  exact bind4 (loopO (fun (v : Int × Arr UInt32 64) => digest_block_b1 b v.1 v.2) (0, Arr.rep 64 (0 : UInt32))) (fun w => loopO (fun (v : Int × Arr UInt32 64) => digest_block_b2 v.1 v.2) (16, w)) (fun w => loopO (fun (v : Int × Arr UInt32 8) => digest_block_b3 w v.1 v.2) (0, h)) (fun w => loopO (fun (v : Int × Arr UInt32 8) => digest_block_b4 w v.1 v.2) (0, h))
    (loop1 b hb _) (fun w => loop2 w) (fun w => loop3 w h) (fun w => loop4 w h)

noncomputable def blk (h : Arr UInt32 8) (b : List UInt8) : Arr UInt32 8 := (digest_block h b).getD h
theorem blk_eq (h : Arr UInt32 8) (b : List UInt8) (hb : 64 ≤ b.length) : digest_block h b = some (blk h b) := by
  obtain ⟨r, hr⟩ := block_some h b hb
  have e : blk h b = r := by unfold blk; rw [hr]; exact Option.getD_some
  rw [e]; exact hr

end Go.Proofs.YtgdiabbgiiemcaaDoor
/-
  Sums: of the program and of the reference.
-/
namespace Go.Proofs.YtgdiabbgiiemcaaDoor
open Go.Rv
set_option linter.unusedVariables false
set_option linter.unusedSimpArgs false

theorem bindS {α β : Type} {o : Option α} {a : α} {f : α → Option β} (h : o = some a) : (o.bind fun x => some x).bind f = f a := by rw [h]; rfl
theorem bindT {α β : Type} {o : Option α} {a : α} {f : α → Option β} (h : o = some a) : o.bind f = f a := by rw [h]; rfl
theorem if_fits {α : Type} {c : Prop} [Decidable c] {x y : α} (h : c) : (if c then x else y) = x := if_pos h

theorem fitsS {n : Nat} (h : n ≤ 100000) : Fits n 1 := fits1 (by omega)

/-! ### Padding -/
theorem pad_same : (fun v : List UInt8 => r02_padded_b1 v) = fun v => digest_sum_b2 v := by funext v; unfold r02_padded_b1 digest_sum_b2; rfl

theorem tmod64 (n : Nat) : ((n : Int) : Int).tmod 64 = ((n % 64 : Nat) : Int) := rfl

theorem pad_loop (l : List UInt8) (hl : l.length ≤ 5000) : ∃ p, loopO (fun v : List UInt8 => digest_sum_b2 v) l = some p ∧ (p.length % 64 = 56 ∧ p.length ≤ l.length + 64) := by
  refine loopO_rule (f := fun v : List UInt8 => digest_sum_b2 v) (fun v => v.length + (120 - v.length % 64) % 64 ≤ l.length + 63) (fun v => (120 - v.length % 64) % 64) (fun p => p.length % 64 = 56 ∧ p.length ≤ l.length + 64) ?_ (v0 := l) (by show l.length + (120 - l.length % 64) % 64 ≤ l.length + 63; omega) (by show (120 - l.length % 64) % 64 < _; omega)
  intro v hv
  have hv' : v.length + (120 - v.length % 64) % 64 ≤ l.length + 63 := hv
  by_cases h : v.length % 64 = 56
  · right
    refine ⟨v, ?_, h, by omega⟩
    show digest_sum_b2 v = _
    unfold digest_sum_b2
    rw [tmod64, h]
    rfl
  · left
    refine ⟨v ++ [0], ?_, ?_, ?_⟩
    · show digest_sum_b2 v = _
      unfold digest_sum_b2
      rw [tmod64, if_pos (by simp; omega), if_pos (fitsS (by omega))]
      rfl
    · show (v ++ [0]).length + (120 - (v ++ [0]).length % 64) % 64 ≤ l.length + 63
      simp only [List.length_append, List.length_cons, List.length_nil]
      omega
    · show (120 - (v ++ [0]).length % 64) % 64 < (120 - v.length % 64) % 64
      simp only [List.length_append, List.length_cons, List.length_nil]
      omega

/-! ### The length in eight bytes -/
def lenB (n : UInt64) (k : Nat) : UInt8 := (shr64 n (56 - 8 * k)).toUInt8

theorem len_loop (n : UInt64) (p : List UInt8) (hp : p.length ≤ 5100) : loopO (fun v : Int × List UInt8 => digest_sum_b3 n v.1 v.2) (56, p) = some (p ++ (List.range 8).map (lenB n)) := by
  obtain ⟨x, hx, rfl⟩ := loopO_for (f := fun v : Int × List UInt8 => digest_sum_b3 n v.1 v.2) 8 (fun k v => v = (56 - 8 * (k : Int), p ++ (List.range k).map (lenB n))) (fun x => x = p ++ (List.range 8).map (lenB n)) (by omega)
    (fun k v hk hv => by
      subst hv
      refine ⟨_, ?_, rfl⟩
      show digest_sum_b3 n (56 - 8 * (k : Int)) (p ++ (List.range k).map (lenB n)) = _
      unfold digest_sum_b3
      have e1 : w64 (56 - 8 * (k : Int) - 8) = 56 - 8 * ((k + 1 : Nat) : Int) := by rw [w64_id (by omega)]; omega
      have e2 : (56 - 8 * (k : Int)).toNat = 56 - 8 * k := by omega
      rw [if_pos (by simp; omega), if_pos (by unfold NotNeg; omega), if_pos (fitsS (by simp; omega)), e1, e2, List.range_succ, List.map_append, ← List.append_assoc]
      rfl)
    (fun v hv => by
      subst hv
      refine ⟨_, ?_, rfl⟩
      show digest_sum_b3 n (56 - 8 * ((8 : Nat) : Int)) _ = _
      unfold digest_sum_b3
      rw [if_neg (by decide)]) (v0 := (56, p)) (by simp)
  exact hx

theorem len_loop_r (n : UInt64) (p : List UInt8) (hp : p.length ≤ 5100) : loopO (fun v : Int × List UInt8 => r02_padded_b2 n v.1 v.2) (0, p) = some (p ++ (List.range 8).map (lenB n)) := by
  obtain ⟨x, hx, rfl⟩ := loopO_for (f := fun v : Int × List UInt8 => r02_padded_b2 n v.1 v.2) 8 (fun k v => v = ((k : Int), p ++ (List.range k).map (lenB n))) (fun x => x = p ++ (List.range 8).map (lenB n)) (by omega)
    (fun k v hk hv => by
      subst hv
      refine ⟨_, ?_, rfl⟩
      show r02_padded_b2 n (k : Int) (p ++ (List.range k).map (lenB n)) = _
      unfold r02_padded_b2
      have e0 : w64 (8 * (k : Int)) = ((8 * k : Nat) : Int) := by rw [w64_id (by omega)]; omega
      have e3 : w64 (56 - ((8 * k : Nat) : Int)) = ((56 - 8 * k : Nat) : Int) := by rw [w64_id (by omega)]; omega
      have e1 : w64 ((k : Int) + 1) = ((k + 1 : Nat) : Int) := by rw [w64_id (by omega)]; omega
      have e2 : (((56 - 8 * k : Nat) : Int)).toNat = 56 - 8 * k := by omega
      rw [e0, e3, if_pos (by simp; omega), if_pos (by unfold NotNeg; omega), if_pos (fitsS (by simp; omega)), e1, e2, List.range_succ, List.map_append, ← List.append_assoc]
      rfl)
    (fun v hv => by
      subst hv
      refine ⟨_, ?_, rfl⟩
      show r02_padded_b2 n ((8 : Nat) : Int) _ = _
      unfold r02_padded_b2
      rw [if_neg (by decide)]) (v0 := (0, p)) (by simp)
  exact hx

/-! ### All blocks -/
noncomputable def Hs (h0 : Arr UInt32 8) (q : List UInt8) : Nat → Arr UInt32 8
  | 0 => h0
  | k + 1 => blk (Hs h0 q k) ((q.drop (64 * k)).take 64)

theorem blocks_d (h0 : Arr UInt32 8) (q : List UInt8) (n : Nat) (hq : q.length = 64 * n) (hn : n ≤ 1000) :
    loopO (fun v : Nat × Nat × Arr UInt32 8 => digest_sum_b4 q v.1 v.2.1 v.2.2) (0, q.length, h0) = some (Hs h0 q n) := by
  obtain ⟨x, hx, rfl⟩ := loopO_for (f := fun v : Nat × Nat × Arr UInt32 8 => digest_sum_b4 q v.1 v.2.1 v.2.2) n (fun k v => v = (64 * k, q.length - 64 * k, Hs h0 q k)) (fun x => x = Hs h0 q n) (by omega)
    (fun k v hk hv => by
      subst hv
      refine ⟨_, ?_, rfl⟩
      show digest_sum_b4 q (64 * k) (q.length - 64 * k) (Hs h0 q k) = _
      unfold digest_sum_b4
      rw [if_pos (by simp; omega), if_pos (by unfold InB; omega), bindT (blk_eq _ _ (by simp; omega)), if_pos (by unfold InB; omega)]
      have e1 : 64 * k + 64 = 64 * (k + 1) := by omega
      have e2 : q.length - 64 * k - 64 = q.length - 64 * (k + 1) := by omega
      rw [e1, e2]
      rfl)
    (fun v hv => by
      subst hv
      refine ⟨_, ?_, rfl⟩
      show digest_sum_b4 q (64 * n) (q.length - 64 * n) (Hs h0 q n) = _
      unfold digest_sum_b4
      rw [if_neg (by simp; omega)]) (v0 := (0, q.length, h0)) (by simp [Hs])
  exact hx

theorem blocks_r (h0 : Arr UInt32 8) (q : List UInt8) (n : Nat) (hq : q.length = 64 * n) (hn : n ≤ 1000) :
    loopO (fun v : Int × Arr UInt32 8 => r02_Sum_b1 q v.1 v.2) (0, h0) = some (Hs h0 q n) := by
  obtain ⟨x, hx, rfl⟩ := loopO_for (f := fun v : Int × Arr UInt32 8 => r02_Sum_b1 q v.1 v.2) n (fun k v => v = (((64 * k : Nat) : Int), Hs h0 q k)) (fun x => x = Hs h0 q n) (by omega)
    (fun k v hk hv => by
      subst hv
      refine ⟨_, ?_, rfl⟩
      show r02_Sum_b1 q ((64 * k : Nat) : Int) (Hs h0 q k) = _
      unfold r02_Sum_b1
      have e1 : w64 (((64 * k : Nat) : Int) + 64) = ((64 * (k + 1) : Nat) : Int) := by rw [w64_id (by omega)]; omega
      have e2 : (((64 * (k + 1) : Nat) : Int)).toNat - (((64 * k : Nat) : Int)).toNat = 64 := by omega
      have e3 : (((64 * k : Nat) : Int)).toNat = 64 * k := by omega
      rw [e1, if_pos (by simp; omega), if_pos (by unfold InB; omega), if_pos (by unfold InB; omega), e2, e3, ← block_eq, bindT (blk_eq _ _ (by simp; omega))]
      rfl)
    (fun v hv => by
      subst hv
      refine ⟨_, ?_, rfl⟩
      show r02_Sum_b1 q ((64 * n : Nat) : Int) (Hs h0 q n) = _
      unfold r02_Sum_b1
      rw [if_neg (by simp; omega)]) (v0 := (0, h0)) (by simp [Hs])
  exact hx

/-! ### The digest out of the state -/
theorem fin_same (f : Arr UInt32 8) : (fun v : Int × Arr UInt8 32 => r02_Sum_b2 f v.1 v.2) = fun v => digest_sum_b5 f v.1 v.2 := by funext v; unfold r02_Sum_b2 digest_sum_b5; rfl

theorem fin_loop (f : Arr UInt32 8) : ∃ d, loopO (fun v : Int × Arr UInt8 32 => digest_sum_b5 f v.1 v.2) (0, Arr.rep 32 (0 : UInt8)) = some d := by
  obtain ⟨x, hx, _⟩ := loopO_for (f := fun v : Int × Arr UInt8 32 => digest_sum_b5 f v.1 v.2) 32 (fun k v => v.1 = (k : Int)) (fun _ => True) (by omega)
    (fun k v hk hi => by
      obtain ⟨i, d⟩ := v
      have hi' : i = (k : Int) := hi
      subst hi'
      have e4 : ((k : Int) : Int).tdiv 4 = ((k / 4 : Nat) : Int) := rfl
      have e5 : ((k : Int) : Int).tmod 4 = ((k % 4 : Nat) : Int) := rfl
      have e6 : w64 ((k / 4 : Nat) : Int) = ((k / 4 : Nat) : Int) := w64_id (by omega)
      have e7 : w64 (8 * ((k % 4 : Nat) : Int)) = ((8 * (k % 4) : Nat) : Int) := by rw [w64_id (by omega)]; omega
      have e8 : w64 (24 - ((8 * (k % 4) : Nat) : Int)) = ((24 - 8 * (k % 4) : Nat) : Int) := by rw [w64_id (by omega)]; omega
      exact ⟨_, by
        show digest_sum_b5 f (k : Int) d = _
        unfold digest_sum_b5
        rw [e4, e5, e6, e7, e8, if_pos (by simp; omega), if_pos (inR_of (by omega)), if_pos (by unfold NotNeg; omega), if_pos (inR_of hk)]
        rfl, by
        show w64 ((k : Int) + 1) = ((k + 1 : Nat) : Int)
        rw [w64_id (by omega)]; omega⟩)
    (fun v hi => by
      obtain ⟨i, d⟩ := v
      have hi' : i = ((32 : Nat) : Int) := hi
      subst hi'
      exact ⟨d, by show digest_sum_b5 f ((32 : Nat) : Int) d = _; unfold digest_sum_b5; rw [if_neg (by simp)], trivial⟩) (v0 := (0, Arr.rep 32 (0 : UInt8))) rfl
  exact ⟨x, hx⟩

/-! ### The parts -/
theorem parts_loop (ps : List (List UInt8)) (hl : ps.length ≤ 100) (h : ps.flatten.length ≤ 5000) : loopO (fun v : Int × List UInt8 => digest_sum_b1 ps v.1 v.2) (0, []) = some ps.flatten := by
  obtain ⟨x, hx, rfl⟩ := loopO_for (f := fun v : Int × List UInt8 => digest_sum_b1 ps v.1 v.2) ps.length (fun k v => v = ((k : Int), (ps.take k).flatten)) (fun x => x = ps.flatten) (by omega)
    (fun k v hk hv => by
      subst hv
      refine ⟨_, ?_, rfl⟩
      show digest_sum_b1 ps (k : Int) (ps.take k).flatten = _
      unfold digest_sum_b1
      have e1 : w64 ((k : Int) + 1) = ((k + 1 : Nat) : Int) := by rw [w64_id (by omega)]; omega
      have e2 : nth ps ((k : Int)).toNat = ps[k] := by simp [nth, hk]
      have e3 : (ps.take (k + 1)).flatten = (ps.take k).flatten ++ ps[k] := by rw [List.take_succ_eq_append_getElem hk, List.flatten_append, List.flatten_cons, List.flatten_nil, List.append_nil]
      have e4 : (ps.take (k + 1)).flatten.length ≤ 5000 := by
        have : ps.flatten = (ps.take (k + 1)).flatten ++ (ps.drop (k + 1)).flatten := by rw [← List.flatten_append, List.take_append_drop]
        rw [this, List.length_append] at h
        omega
      rw [e3, List.length_append] at e4
      rw [if_pos (by simp; omega), if_pos (inR_of hk), e2]
      show (if Fits ((ps.take k).flatten.length + ps[k].length) 1 then _ else none) = _
      rw [if_pos (fitsS (by omega)), e1, e3]
      rfl)
    (fun v hv => by
      subst hv
      refine ⟨ps.flatten, ?_, rfl⟩
      show digest_sum_b1 ps (ps.length : Int) (ps.take ps.length).flatten = _
      unfold digest_sum_b1
      rw [if_neg (by simp), List.take_length]) (v0 := (0, [])) (by simp)
  exact hx

/-- What both sums come to. -/
theorem sum_spec : ∃ R : List UInt8 → Option (Arr UInt8 32), (∀ ps, digest_sum ps = (loopO (fun v : Int × List UInt8 => digest_sum_b1 ps v.1 v.2) (0, [])).bind R) ∧ ∀ m : List UInt8, m.length ≤ 4000 → ∃ d, R m = some d ∧ r02_Sum m = some d := by
  refine ⟨_, fun ps => by unfold digest_sum; rw [obind_some], fun m hm => ?_⟩
  obtain ⟨p, hp, hp1, hp2⟩ := pad_loop (m ++ [128]) (by simp; omega)
  simp only [List.length_append, List.length_cons, List.length_nil] at hp2
  have hq : (p ++ (List.range 8).map (lenB (UInt64.ofInt (m.length : Int) * 8))).length = 64 * ((p.length + 8) / 64) := by simp; omega
  obtain ⟨d, hd⟩ := fin_loop (Hs ⟨[(1779033703 : UInt32), (3144134277 : UInt32), (1013904242 : UInt32), (2773480762 : UInt32), (1359893119 : UInt32), (2600822924 : UInt32), (528734635 : UInt32), (1541459225 : UInt32)], rfl⟩ (p ++ (List.range 8).map (lenB (UInt64.ofInt (m.length : Int) * 8))) ((p.length + 8) / 64))
  have hlb := len_loop (UInt64.ofInt (m.length : Int) * 8) p (by omega)
  have hlr := len_loop_r (UInt64.ofInt (m.length : Int) * 8) p (by omega)
  refine ⟨d, ?_, ?_⟩
  · refine (lt1_at _ _ _ rfl).trans ?_
    refine (if_fits (fitsS (by omega))).trans ?_
    refine (lt1_at _ _ _ rfl).trans ?_
    refine (bindS hp).trans ?_
    refine (bindS hlb).trans ?_
    refine (lt1_at _ _ _ rfl).trans ?_
    refine (bindS (blocks_d _ _ _ hq (by omega))).trans ?_
    exact bindS hd
  · unfold r02_Sum
    refine (lt1_at _ _ _ rfl).trans ?_
    have hpad : r02_padded m = some (p ++ (List.range 8).map (lenB (UInt64.ofInt (m.length : Int) * 8))) := by
      unfold r02_padded
      refine (lt1_at _ _ _ rfl).trans ?_
      refine (if_fits (fitsS (by simp; omega))).trans ?_
      refine (lt1_at _ _ _ rfl).trans ?_
      refine (if_fits (fitsS (by simp; omega))).trans ?_
      refine (lt1_at _ _ _ rfl).trans ?_
      rw [pad_same]
      refine (bindS (o := loopO (fun v : List UInt8 => digest_sum_b2 v) (([] ++ m) ++ [128])) hp).trans ?_
      refine (lt1_at _ _ _ rfl).trans ?_
      exact bindS hlr
    refine (bindT hpad).trans ?_
    refine (bindS (blocks_r _ _ _ hq (by omega))).trans ?_
    refine (lt1_at _ (Arr.rep 32 0) _ (Arr.ext' rfl)).trans ?_
    have hd' := hd
    rw [← fin_same] at hd'
    exact bindS hd'

noncomputable def DS (m : List UInt8) : Arr UInt8 32 := (r02_Sum m).getD default

theorem r02_sum (m : List UInt8) (h : m.length ≤ 4000) : r02_Sum m = some (DS m) := by
  obtain ⟨R, _, hR⟩ := sum_spec
  obtain ⟨d, _, hd⟩ := hR m h
  have : DS m = d := by unfold DS; rw [hd]; exact Option.getD_some
  rw [this]; exact hd

theorem digest_parts (ps : List (List UInt8)) (hl : ps.length ≤ 100) (h : ps.flatten.length ≤ 4000) : digest_sum ps = some (DS ps.flatten) := by
  obtain ⟨R, h1, hR⟩ := sum_spec
  obtain ⟨d, hd, hd2⟩ := hR ps.flatten h
  rw [h1 ps, bindT (parts_loop ps hl (by omega)), hd]
  have : DS ps.flatten = d := by unfold DS; rw [hd2]; exact Option.getD_some
  rw [this]

theorem digest_Sum_eq (b : List UInt8) (h : b.length ≤ 4000) : digest_Sum b = some (DS b) := by
  unfold digest_Sum
  have := digest_parts [b] (by simp) (by simpa using h)
  rw [this]
  simp

end Go.Proofs.YtgdiabbgiiemcaaDoor
/-
  The published test vectors.
-/
namespace Go.Proofs.YtgdiabbgiiemcaaDoor
open Go.Rv
set_option linter.unusedVariables false

theorem sane_ok : law02_sane = some true := by decide +kernel

end Go.Proofs.YtgdiabbgiiemcaaDoor
/-
  The laws of digests: sums, tagged digests, chains' links, numbers.
-/
namespace Go.Proofs.YtgdiabbgiiemcaaDoor
open Go.Rv
set_option linter.unusedVariables false
set_option linter.unusedSimpArgs false

def cut (tag : List UInt8) : List UInt8 := tag.take (min tag.length 255)
def hsh (tag b : List UInt8) : List UInt8 := [UInt8.ofInt ((cut tag).length : Int)] ++ cut tag ++ b

theorem cut_len (tag : List UInt8) : (cut tag).length ≤ 255 := by simp [cut]; omega
theorem hsh_len (tag b : List UInt8) : (hsh tag b).length ≤ 256 + b.length := by
  have := cut_len tag
  simp only [hsh, List.length_append, List.length_cons, List.length_nil]
  omega

theorem mn_eq (n : Nat) : mn64 (n : Int) 255 = ((min n 255 : Nat) : Int) := by unfold mn64; split <;> omega
theorem inb_cut (tag : List UInt8) : InB (((min tag.length 255 : Nat) : Int)) tag.length := by unfold InB; omega

theorem hashed (tag b : List UInt8) (hb : b.length ≤ 4000) : r02_Hashed tag b = some (hsh tag b) := by
  have hc := cut_len tag
  unfold r02_Hashed
  rw [mn_eq, if_pos (inb_cut tag)]
  refine (lt1_at _ (cut tag) _ (by simp [cut])).trans ?_
  refine (lt1_at _ _ _ rfl).trans ?_
  refine (if_fits (fitsS (by simp only [List.length_cons, List.length_nil]; omega))).trans ?_
  refine (lt1_at _ _ _ rfl).trans ?_
  refine (if_fits (fitsS (by simp only [List.length_append, List.length_cons, List.length_nil]; omega))).trans ?_
  exact lt1_at _ _ _ rfl

theorem tagged (tag b : List UInt8) (hb : b.length ≤ 3000) : digest_Tagged tag b = some (DS (hsh tag b)) := by
  have hl := hsh_len tag b
  unfold digest_Tagged
  rw [mn_eq, if_pos (inb_cut tag)]
  refine (lt1_at _ (cut tag) _ (by simp [cut])).trans ?_
  have e : ([[UInt8.ofInt ((cut tag).length : Int)], cut tag, b] : List (List UInt8)).flatten = hsh tag b := by simp [hsh]
  have h := digest_parts [[UInt8.ofInt ((cut tag).length : Int)], cut tag, b] (by simp) (by rw [e]; omega)
  rw [e] at h
  exact bindT h

theorem r_tagged (tag b : List UInt8) (hb : b.length ≤ 3000) : r02_Tagged tag b = some (DS (hsh tag b)) := by
  have hl := hsh_len tag b
  unfold r02_Tagged
  refine (bindT (hashed tag b (by omega))).trans ?_
  exact bindT (r02_sum _ (by omega))

theorem next_hsh (m : List UInt8) : hsh [110, 101, 120, 116] m = [4, 110, 101, 120, 116] ++ m := rfl

theorem next_d (d : Arr UInt8 32) (b : List UInt8) (hb : b.length ≤ 3000) : digest_Next d b = some (DS (hsh [110, 101, 120, 116] (d.l ++ b))) := by
  have e : ([[(4 : UInt8)], [(110 : UInt8), (101 : UInt8), (120 : UInt8), (116 : UInt8)], d.l, b] : List (List UInt8)).flatten = hsh [110, 101, 120, 116] (d.l ++ b) := by
    rw [next_hsh]; simp
  have hl := hsh_len [110, 101, 120, 116] (d.l ++ b)
  rw [List.length_append, d.h] at hl
  unfold digest_Next
  have h := digest_parts [[(4 : UInt8)], [(110 : UInt8), (101 : UInt8), (120 : UInt8), (116 : UInt8)], d.l, b] (by simp) (by rw [e]; omega)
  rw [e] at h
  exact bindT h

theorem next_r (d : Arr UInt8 32) (b : List UInt8) (hb : b.length ≤ 2900) : r02_Next d b = some (DS (hsh [110, 101, 120, 116] (d.l ++ b))) := by
  unfold r02_Next
  refine (lt1_at _ _ _ rfl).trans ?_
  refine (if_fits (fitsS (by simp [d.h]))).trans ?_
  refine (lt1_at _ d.l _ (by simp)).trans ?_
  refine (if_fits (fitsS (by rw [d.h]; omega))).trans ?_
  refine (lt1_at _ _ _ rfl).trans ?_
  exact bindT (r_tagged _ _ (by rw [List.length_append, d.h]; omega))

/-! ### Numbers -/
def numK (d : Arr UInt8 32) : Nat → UInt64
  | 0 => 0
  | k + 1 => shl64 (numK d k) ((8 : UInt64)).toNat ||| (d.get k).toUInt64

theorem number_d (d : Arr UInt8 32) : digest_Number d = some (numK d 8) := by
  have hl : (d.l.take 8).length = 8 := by rw [List.length_take, d.h]; rfl
  obtain ⟨x, hx, rfl⟩ := loopO_for (f := fun v : UInt64 × Int => digest_Number_b1 d v.1 v.2) 8 (fun k v => v = (numK d k, (k : Int))) (fun x => x = numK d 8) (by omega)
    (fun k v hk hv => by
      subst hv
      refine ⟨_, ?_, rfl⟩
      show digest_Number_b1 d (numK d k) (k : Int) = _
      unfold digest_Number_b1
      have e1 : w64 ((k : Int) + 1) = ((k + 1 : Nat) : Int) := by rw [w64_id (by omega)]; omega
      have e2 : nth (d.l.take 8) k = d.get k := by
        have h32 : k < d.l.length := by rw [d.h]; omega
        simp [nth, Arr.get, List.getD_eq_getElem?_getD, List.getElem?_take, hk]
      rw [hl, if_pos (by simp; omega), if_pos (inR_of hk), e1]
      simp only [Int.toNat_natCast]
      rw [e2]
      rfl)
    (fun v hv => by
      subst hv
      refine ⟨_, ?_, rfl⟩
      show digest_Number_b1 d (numK d 8) ((8 : Nat) : Int) = _
      unfold digest_Number_b1
      rw [hl, if_neg (by simp)]) (v0 := (0, 0)) rfl
  unfold digest_Number
  refine (bindS hx).trans rfl

theorem number_r (d : Arr UInt8 32) : r02_Number d = some (numK d 8) := by
  obtain ⟨x, hx, rfl⟩ := loopO_for (f := fun v : UInt64 × Int => r02_Number_b1 d v.1 v.2) 8 (fun k v => v = (numK d k, (k : Int))) (fun x => x = numK d 8) (by omega)
    (fun k v hk hv => by
      subst hv
      refine ⟨_, ?_, rfl⟩
      show r02_Number_b1 d (numK d k) (k : Int) = _
      unfold r02_Number_b1
      have e1 : w64 ((k : Int) + 1) = ((k + 1 : Nat) : Int) := by rw [w64_id (by omega)]; omega
      rw [if_pos (by simp; omega), if_pos (inR_of (by omega)), e1]
      rfl)
    (fun v hv => by
      subst hv
      refine ⟨_, ?_, rfl⟩
      show r02_Number_b1 d (numK d 8) ((8 : Nat) : Int) = _
      unfold r02_Number_b1
      rw [if_neg (by simp)]) (v0 := (0, 0)) rfl
  unfold r02_Number
  refine (bindS hx).trans rfl

/-! ### The laws -/
theorem law_sum (b : List UInt8) : law02_DigestSumMatchesReference b = some true := by
  unfold law02_DigestSumMatchesReference
  rw [sane_ok]
  simp only [Option.bind_some, Bool.not_true, Bool.false_eq_true, if_false]
  by_cases h : (b.length : Int) > 1000
  · simp [h]
  · rw [digest_Sum_eq b (by omega), r02_sum b (by omega)]
    simp [h]

theorem law_matches (tag b : List UInt8) (d : Arr UInt8 32) : law02_DigestMatchesReference tag b d = some true := by
  unfold law02_DigestMatchesReference
  rw [sane_ok]
  simp only [Option.bind_some, Bool.not_true, Bool.false_eq_true, if_false]
  by_cases h1 : (tag.length : Int) > 600
  · simp [h1]
  by_cases h2 : (b.length : Int) > 600
  · simp [h1, h2]
  rw [tagged tag b (by omega), r_tagged tag b (by omega), next_d d b (by omega), next_r d b (by omega), number_d, number_r]
  simp [h1, h2]

theorem law_taggedIsSum (tag b : List UInt8) (d : Arr UInt8 32) : law02_DigestTaggedIsSum tag b d = some true := by
  unfold law02_DigestTaggedIsSum
  rw [sane_ok]
  simp only [Option.bind_some, Bool.not_true, Bool.false_eq_true, if_false]
  by_cases h1 : (tag.length : Int) > 600
  · simp [h1]
  by_cases h2 : (b.length : Int) > 600
  · simp [h1, h2]
  have hl := hsh_len tag b
  have e1 : (d.l ++ b).length ≤ 3000 := by rw [List.length_append, d.h]; omega
  rw [tagged tag b (by omega), hashed tag b (by omega), next_d d b (by omega)]
  simp only [h1, h2, decide_false, Option.bind_some, Bool.false_eq_true, if_false, lt1, List.nil_append, List.length_nil, Nat.zero_add]
  rw [if_pos (fitsS (by rw [d.h]; omega)), if_pos (fitsS (by rw [d.h]; omega)), digest_Sum_eq _ (by omega), tagged _ _ e1]
  simp

theorem ofInt_inj {a b : Nat} (ha : a ≤ 255) (hb : b ≤ 255) (h : UInt8.ofInt (a : Int) = UInt8.ofInt (b : Int)) : a = b := by
  have key : ∀ n : Fin 256, (UInt8.ofInt (n.val : Int)).toNat = n.val := by decide +kernel
  have h1 := key ⟨a, by omega⟩
  have h2 := key ⟨b, by omega⟩
  simp only at h1 h2
  rw [← h1, ← h2, h]

theorem hsh_inj (t b u c : List UInt8) : hsh t b = hsh u c ↔ cut t = cut u ∧ b = c := by
  constructor
  · intro h
    have h1 : UInt8.ofInt ((cut t).length : Int) :: (cut t ++ b) = UInt8.ofInt ((cut u).length : Int) :: (cut u ++ c) := by simpa [hsh] using h
    have h2 := List.cons.inj h1
    have hl := ofInt_inj (cut_len t) (cut_len u) h2.1
    exact List.append_inj h2.2 hl
  · rintro ⟨h1, rfl⟩
    unfold hsh
    rw [h1]

theorem law_separate (t b u c : List UInt8) : law02_DigestTagsSeparate t b u c = some true := by
  unfold law02_DigestTagsSeparate
  rw [sane_ok]
  simp only [Option.bind_some, Bool.not_true, Bool.false_eq_true, if_false]
  by_cases h1 : (t.length : Int) > 400
  · simp [h1]
  by_cases h2 : (b.length : Int) > 400
  · simp [h1, h2]
  by_cases h3 : (u.length : Int) > 400
  · simp [h1, h2, h3]
  by_cases h4 : (c.length : Int) > 400
  · simp [h1, h2, h3, h4]
  have hl1 := hsh_len t b
  have hl2 := hsh_len u c
  rw [hashed t b (by omega), hashed u c (by omega), tagged t b (by omega), tagged u c (by omega)]
  simp only [h1, h2, h3, h4, decide_false, Option.bind_some, Bool.false_eq_true, if_false]
  rw [mn_eq, mn_eq, if_pos (inb_cut t), if_pos (inb_cut u)]
  have hct : t.take (((min t.length 255 : Nat) : Int)).toNat = cut t := by simp [cut]
  have hcu : u.take (((min u.length 255 : Nat) : Int)).toNat = cut u := by simp [cut]
  have hd1 := digest_Sum_eq (hsh t b) (by omega)
  have hd2 := digest_Sum_eq (hsh u c) (by omega)
  simp only [hct, hcu, hd1, hd2]
  unfold r02_Same
  have hi := hsh_inj t b u c
  by_cases hc : cut t = cut u
  · by_cases hb : b = c
    · have : hsh t b = hsh u c := hi.2 ⟨hc, hb⟩
      subst hb
      simp [hc, this]
    · have : hsh t b ≠ hsh u c := fun h => hb (hi.1 h).2
      have e1 : (hsh t b == hsh u c) = false := by simp [this]
      have e2 : (b == c) = false := by simp [hb]
      simp [hc, e1, e2]
  · have : hsh t b ≠ hsh u c := fun h => hc (hi.1 h).1
    simp [hc, this]

end Go.Proofs.YtgdiabbgiiemcaaDoor
/-
  The encoder: what codec's shape, appendInt, appendValue and Encode compute.
-/
namespace Go.Proofs.YtgdiabbgiiemcaaDoor
open Go.Rv
set_option linter.unusedVariables false
set_option linter.unusedSimpArgs false

theorem e_bindS {α β : Type} {o : Option α} {a : α} {f : α → Option β} (h : o = some a) : (o.bind fun x => some x).bind f = f a := by rw [h]; rfl
theorem e_bindT {α β : Type} {o : Option α} {a : α} {f : α → Option β} (h : o = some a) : o.bind f = f a := by rw [h]; rfl
theorem e_lt1 {α β : Type} (x y : α) (f : α → Option β) (h : x = y) : lt1 x f = f y := by rw [h]; rfl
theorem e_shr64 (x : UInt64) (n : Nat) : (shr64 x n).toNat = x.toNat / 2 ^ n := by
  show (x.toBitVec >>> n).toNat = _
  rw [BitVec.toNat_ushiftRight, Nat.shiftRight_eq_div_pow]; rfl
theorem e_succ {k : Nat} (h : k < 9223372036854775807) : w64 ((k : Int) + 1) = ((k + 1 : Nat) : Int) := by
  rw [w64_id (by omega)]; rfl

/-! ### Values and their size -/
theorem value_eta (x : Api_Value) : Api_Value.mk x.Kind x.N x.B x.L = x := by cases x; rfl

mutual
def szV : Api_Value → Nat
  | .mk _ _ b l => b.length + 1 + szVs l
def szVs : List Api_Value → Nat
  | [] => 0
  | x :: l => szV x + szVs l
end

theorem szV_pos (x : Api_Value) : 0 < szV x := by
  cases x with
  | mk k n b l => simp only [szV]; omega
theorem szVs_mem {l : List Api_Value} {x : Api_Value} (h : x ∈ l) : szV x ≤ szVs l := by
  induction l with
  | nil => cases h
  | cons y l ih =>
    simp only [szVs]
    rcases List.mem_cons.1 h with rfl | h
    · omega
    · have := ih h; omega
theorem szVs_len (l : List Api_Value) : l.length ≤ szVs l := by
  induction l with
  | nil => simp [szVs]
  | cons y l ih =>
    have := szV_pos y
    simp only [szVs, List.length_cons]; omega
theorem szVs_drop (l : List Api_Value) (k : Nat) : szVs (l.drop k) ≤ szVs l := by
  induction l generalizing k with
  | nil => simp
  | cons y l ih =>
    cases k with
    | zero => simp
    | succ k => have := ih k; simp only [List.drop_succ_cons, szVs]; omega
theorem szV_eq (x : Api_Value) : szV x = x.B.length + 1 + szVs x.L := by
  cases x with
  | mk k n b l => rfl

/-! ### Integers -/
def nbF : Nat → Nat → Nat
  | 0, _ => 0
  | f + 1, u => if u = 0 then 0 else nbF f (u / 256) + 1
/-- The number of bytes that u needs. -/
def nb (u : Nat) : Nat := nbF 8 u

theorem nbF_le (f u : Nat) : nbF f u ≤ f := by
  induction f generalizing u with
  | zero => exact Nat.le_refl _
  | succ f ih =>
    unfold nbF
    split
    · omega
    · have := ih (u / 256); omega
theorem nbF_up (f u : Nat) (h : u < 256 ^ f) (m : Nat) : nbF (f + m) u = nbF f u := by
  induction f generalizing u with
  | zero =>
    have : u = 0 := by simpa using h
    subst this
    cases m with
    | zero => rfl
    | succ m => rw [Nat.zero_add]; unfold nbF; simp
  | succ f ih =>
    rw [show f + 1 + m = (f + m) + 1 by omega]
    unfold nbF
    split
    · rfl
    · rw [ih (u / 256) (by rw [Nat.pow_succ] at h; omega)]
theorem nb_le (u : Nat) : nb u ≤ 8 := nbF_le 8 u
theorem nb_zero : nb 0 = 0 := rfl
theorem nb_step (u : Nat) (h : u ≠ 0) (hu : u < 256 ^ 8) : nb u = nb (u / 256) + 1 := by
  unfold nb
  rw [show (8 : Nat) = 7 + 1 from rfl]
  rw [nbF_up 7 (u / 256) (by have : (256 : Nat) ^ 8 = 256 ^ 7 * 256 := rfl; omega) 1]
  conv => lhs; unfold nbF
  rw [if_neg h]

theorem size_eq (u : UInt64) : codec_appendInt_1 u = some ((nb u.toNat : Nat) : Int) := by
  obtain ⟨x, hx, hq⟩ := loopO_rule (f := fun (v : UInt64 × Int) => codec_appendInt_1_b1 v.1 v.2)
    (fun v => ∃ k : Nat, v.2 = (k : Int) ∧ k + nb v.1.toNat = nb u.toNat) (fun v => v.1.toNat) (fun x => x = ((nb u.toNat : Nat) : Int))
    (by
      rintro ⟨u', k'⟩ ⟨k, hk, hkn⟩
      simp only at hk hkn
      subst hk
      have hlt : u'.toNat < 256 ^ 8 := by have := u'.toNat_lt; exact this
      by_cases h0 : u'.toNat = 0
      · right
        refine ⟨(k : Int), ?_, ?_⟩
        · show codec_appendInt_1_b1 u' (k : Int) = _
          unfold codec_appendInt_1_b1
          rw [if_neg]
          simp only [decide_eq_true_eq, gt_iff_lt, UInt64.lt_iff_toNat_lt]
          show ¬ 0 < u'.toNat
          omega
        · rw [h0, nb_zero] at hkn; rw [← hkn]; rfl
      · left
        have hs : (shr64 u' ((8 : UInt64)).toNat).toNat = u'.toNat / 256 := by rw [e_shr64]; rfl
        refine ⟨(shr64 u' ((8 : UInt64)).toNat, ((k + 1 : Nat) : Int)), ?_, ⟨k + 1, rfl, ?_⟩, ?_⟩
        · show codec_appendInt_1_b1 u' (k : Int) = _
          unfold codec_appendInt_1_b1
          have := nb_le u.toNat
          rw [if_pos, e_succ (by omega)]
          · rfl
          · simp only [decide_eq_true_eq, gt_iff_lt, UInt64.lt_iff_toNat_lt]
            show 0 < u'.toNat
            omega
        · simp only [hs]
          have := nb_step _ h0 hlt
          omega
        · simp only [hs]
          omega) (v0 := (u, 0)) ⟨0, rfl, by simp⟩ (by have := u.toNat_lt; omega)
  subst hq
  unfold codec_appendInt_1
  exact (e_bindT (e_bindT hx)).trans rfl

/-- How many bytes the magnitude of n needs. -/
def nbI (n : Int) : Nat := if n < 0 then nb (~~~(UInt64.ofInt n)).toNat else nb (UInt64.ofInt n).toNat
def tagI (n : Int) : UInt8 := if n < 0 then UInt8.ofInt (31 - (nbI n : Int)) else UInt8.ofInt (32 + (nbI n : Int))
def byteI (n : Int) (k i : Nat) : UInt8 := (shr64 (UInt64.ofInt n) (8 * (k - 1 - i))).toUInt8
def encI (n : Int) : List UInt8 := tagI n :: (List.range (nbI n)).map (byteI n (nbI n))
theorem nbI_le (n : Int) : nbI n ≤ 8 := by unfold nbI; split <;> exact nb_le _
theorem encI_len (n : Int) : (encI n).length = nbI n + 1 := by simp [encI]

theorem appendInt_eq (b : List UInt8) (n : Int) (hb : b.length ≤ 1099511627776) : codec_appendInt b n = some (b ++ encI n) := by
  have h8 := nbI_le n
  have key : ∃ x, loopO (fun (v : Int × List UInt8) => codec_appendInt_b1 n ((nbI n : Nat) : Int) v.1 v.2) (0, b ++ [tagI n]) = some x ∧ x = b ++ encI n :=
    loopO_for (f := fun (v : Int × List UInt8) => codec_appendInt_b1 n ((nbI n : Nat) : Int) v.1 v.2) (nbI n)
      (fun k v => v = ((k : Int), b ++ tagI n :: (List.range k).map (byteI n (nbI n)))) (fun x => x = b ++ encI n) (by omega)
      (fun k v hk hv => by
        subst hv
        refine ⟨_, ?_, rfl⟩
        show codec_appendInt_b1 n ((nbI n : Nat) : Int) (k : Int) _ = _
        unfold codec_appendInt_b1
        have e1 : w64 (((nbI n : Nat) : Int) - 1) = ((nbI n - 1 : Nat) : Int) := by rw [w64_id (by omega)]; omega
        have e2 : w64 (((nbI n - 1 : Nat) : Int) - (k : Int)) = ((nbI n - 1 - k : Nat) : Int) := by rw [w64_id (by omega)]; omega
        have e3 : w64 (8 * ((nbI n - 1 - k : Nat) : Int)) = ((8 * (nbI n - 1 - k) : Nat) : Int) := by rw [w64_id (by omega)]; omega
        rw [if_pos (by simp; omega), e1, e2, e3, if_pos (by unfold NotNeg; omega), if_pos (fits1 (by simp; omega)), e_succ (by omega)]
        simp only [lt1, List.range_succ, List.map_append, List.map_cons, List.map_nil, List.append_assoc, List.cons_append]
        rfl)
      (fun v hv => by
        subst hv
        refine ⟨_, ?_, rfl⟩
        show codec_appendInt_b1 n ((nbI n : Nat) : Int) ((nbI n : Nat) : Int) _ = _
        unfold codec_appendInt_b1
        rw [if_neg (by simp)]
        rfl) (v0 := (0, b ++ [tagI n])) rfl
  obtain ⟨x, hx, rfl⟩ := key
  have hp : (if decide (n < 0) = true then
      (codec_appendInt_1 (~~~UInt64.ofInt n)).bind fun y => lt1 (UInt8.ofInt (w64 (31 - y))) fun (tag : UInt8) => some (y, tag)
    else some (((nb (UInt64.ofInt n).toNat : Nat) : Int), UInt8.ofInt (w64 (32 + ((nb (UInt64.ofInt n).toNat : Nat) : Int)))) : Option (Int × UInt8)) = some (((nbI n : Nat) : Int), tagI n) := by
    by_cases h : n < 0
    · rw [if_pos (by simpa using h), size_eq]
      have e : nbI n = nb (~~~(UInt64.ofInt n)).toNat := if_pos h
      rw [← e]
      show some (((nbI n : Nat) : Int), UInt8.ofInt (w64 (31 - ((nbI n : Nat) : Int)))) = _
      rw [w64_id (by omega)]
      unfold tagI
      rw [if_pos h]
    · rw [if_neg (by simpa using h)]
      have e : nbI n = nb (UInt64.ofInt n).toNat := if_neg h
      rw [← e, w64_id (by omega)]
      unfold tagI
      rw [if_neg h]
  unfold codec_appendInt
  refine (e_bindT (size_eq _)).trans ?_
  refine (e_lt1 _ _ _ rfl).trans ?_
  refine (e_bindT hp).trans ?_
  refine (if_pos (fits1 (by omega))).trans ?_
  refine (e_lt1 _ _ _ rfl).trans ?_
  exact (e_bindT (e_bindT hx)).trans rfl

/-! ### Shape -/
mutual
def shpV : Api_Value → Int × Bool
  | .mk k n b l =>
    if k = 1 then (0, b.length == 0 && l.length == 0)
    else if k = 2 then (0, n == 0 && l.length == 0)
    else if k = 3 then (if n = 0 ∧ b.length = 0 then shpL 0 l else (0, false))
    else (0, false)
def shpL (d : Int) : List Api_Value → Int × Bool
  | [] => (d + 1, true)
  | x :: l => if (shpV x).2 = true then shpL (mx64 d (shpV x).1) l else (0, false)
end

mutual
theorem shpV_le : ∀ v : Api_Value, 0 ≤ (shpV v).1 ∧ (shpV v).1 ≤ szV v
  | .mk k n b l => by
    have h := shpL_le 0 l
    unfold shpV szV
    split
    · simp; omega
    · split
      · simp; omega
      · split
        · split
          · omega
          · simp; omega
        · simp; omega
theorem shpL_le : ∀ (d : Int) (l : List Api_Value), 0 ≤ d → 0 ≤ (shpL d l).1 ∧ (shpL d l).1 ≤ max d (szVs l) + 1
  | d, [] => by intro h; simp [shpL, szVs]; omega
  | d, x :: l => by
    intro h
    have h1 := shpV_le x
    have hm : 0 ≤ mx64 d (shpV x).1 ∧ mx64 d (shpV x).1 ≤ max d (szV x) := by unfold mx64; split <;> omega
    have h2 := shpL_le (mx64 d (shpV x).1) l hm.1
    unfold shpL szVs
    split
    · omega
    · simp; omega
end
end Go.Proofs.YtgdiabbgiiemcaaDoor
/-
  The encoder, the recursive functions: shape, appendValue, Encode.
-/
namespace Go.Proofs.YtgdiabbgiiemcaaDoor
open Go.Rv
set_option linter.unusedVariables false
set_option linter.unusedSimpArgs false

theorem nth_mem {l : List Api_Value} {k : Nat} (h : k < l.length) : nth l k = l[k] := by simp [nth, List.getD_eq_getElem?_getD, h]

theorem len0 {α : Type} (l : List α) : ((l.length : Int) == 0) = (l.length == 0) := by
  cases l with
  | nil => rfl
  | cons a l => simp; omega
theorem shpL_nil (d : Int) : shpL d [] = (d + 1, true) := by unfold shpL; rfl
theorem shpL_cons (d : Int) (x : Api_Value) (l : List Api_Value) : shpL d (x :: l) = if (shpV x).2 = true then shpL (mx64 d (shpV x).1) l else (0, false) := by
  conv => lhs; unfold shpL

/-! ### Shape -/
theorem shape_loop (v : Api_Value) (rec_ : Api_Value → Option (Int × Bool)) (hr : ∀ x ∈ v.L, rec_ x = some (shpV x)) (hs : szV v ≤ 1099511627776) :
    ∃ x, loopO (fun (s : Int × Int) => codec_shape_b1 v rec_ s.1 s.2) (0, 0) = some x ∧
      ((∃ d : Int, shpL 0 v.L = (d + 1, true) ∧ 0 ≤ d ∧ d ≤ 1099511627776 ∧ x = .inl d) ∨ (shpL 0 v.L = (0, false) ∧ x = .inr (.inr (.inr (0, false))))) := by
  have hsz := szV_eq v
  have hlen := szVs_len v.L
  refine loopO_rule (f := fun (s : Int × Int) => codec_shape_b1 v rec_ s.1 s.2)
    (fun s => ∃ k : Nat, s.2 = (k : Int) ∧ k ≤ v.L.length ∧ 0 ≤ s.1 ∧ s.1 ≤ 1099511627776 ∧ shpL 0 v.L = shpL s.1 (v.L.drop k)) (fun s => v.L.length - s.2.toNat) _ ?_ ⟨0, rfl, Nat.zero_le _, by simp, by simp, rfl⟩ (by omega)
  rintro ⟨d, t⟩ ⟨k, ht, hk, hd0, hd1, hsp⟩
  simp only at ht hd0 hd1 hsp
  subst ht
  by_cases hkl : k < v.L.length
  · have hx : v.L.drop k = v.L[k] :: v.L.drop (k + 1) := List.drop_eq_getElem_cons hkl
    have hm : v.L[k] ∈ v.L := List.getElem_mem hkl
    have hsx := szVs_mem hm
    have hle := shpV_le v.L[k]
    rw [hx, shpL_cons] at hsp
    have hb : codec_shape_b1 v rec_ d (k : Int) = if (!(shpV v.L[k]).2) = true then some (.inr (.inr (.inr (.inr (0, false))))) else some (.inl (mx64 d (shpV v.L[k]).1, ((k + 1 : Nat) : Int))) := by
      unfold codec_shape_b1
      rw [if_pos (by simp; omega), if_pos (inR_of hkl)]
      simp only [Int.toNat_natCast, nth_mem hkl, lt1, value_eta]
      refine (e_bindT (hr _ hm)).trans ?_
      rw [e_succ (by omega)]
      rfl
    by_cases hg : (shpV v.L[k]).2 = true
    · left
      rw [if_pos hg] at hsp
      rw [if_neg (by simp [hg])] at hb
      refine ⟨_, hb, ⟨k + 1, rfl, hkl, ?_, ?_, hsp⟩, ?_⟩
      · simp only [mx64]; split <;> omega
      · simp only [mx64]; split <;> omega
      · simp only [Int.toNat_natCast]; omega
    · right
      rw [if_neg hg] at hsp
      rw [if_pos (by simp [hg])] at hb
      exact ⟨_, hb, .inr ⟨hsp, rfl⟩⟩
  · right
    have hkk : k = v.L.length := by omega
    subst hkk
    rw [List.drop_length, shpL_nil] at hsp
    refine ⟨.inl d, ?_, .inl ⟨d, hsp, hd0, hd1, rfl⟩⟩
    show codec_shape_b1 v rec_ d ((v.L.length : Nat) : Int) = _
    unfold codec_shape_b1
    rw [if_neg (by simp)]

theorem shape_n : ∀ (n : Nat) (v : Api_Value), szV v < n → szV v ≤ 1099511627776 → codec_shape_n n v = some (shpV v)
  | 0, v, h, _ => absurd h (Nat.not_lt_zero _)
  | n + 1, v, h, hs => by
    show codec_shape_F (codec_shape_n n) v = _
    have hsz := szV_eq v
    obtain ⟨x, hx, hq⟩ := shape_loop v (codec_shape_n n) (fun y hy => shape_n n y (by have := szVs_mem hy; omega) (by have := szVs_mem hy; omega)) hs
    have hv : shpV v = if v.Kind = 1 then (0, v.B.length == 0 && v.L.length == 0) else if v.Kind = 2 then (0, v.N == 0 && v.L.length == 0) else if v.Kind = 3 then (if v.N = 0 ∧ v.B.length = 0 then shpL 0 v.L else (0, false)) else (0, false) := by
      cases v with
      | mk k n b l => unfold shpV; rfl
    rw [hv]
    unfold codec_shape_F
    by_cases h1 : v.Kind = 1
    · rw [if_pos (by simp [h1]), if_pos h1]
      rw [len0, len0]
      by_cases hb : v.B.length = 0
      · simp [hb]
      · have : (v.B.length == 0) = false := by simpa using hb
        simp [this]
    · rw [if_neg (by simp [h1]), if_neg h1]
      by_cases h2 : v.Kind = 2
      · rw [if_pos (by simp [h2]), if_pos h2, len0]
        by_cases hn : v.N = 0
        · simp [hn]
        · simp [hn]
      · rw [if_neg (by simp [h2]), if_neg h2]
        by_cases h3 : v.Kind = 3
        · rw [if_pos (by simp [h3]), if_pos h3]
          by_cases hn : v.N = 0
          · by_cases hb : v.B.length = 0
            · rw [if_pos (show v.N = 0 ∧ v.B.length = 0 from ⟨hn, hb⟩)]
              have e1 : (if (v.N != 0) = true then some true else some ((v.B.length : Int) != 0) : Option Bool) = some false := by simp [hn, hb]
              refine (e_bindT (a := (.inr (shpL 0 v.L) : Unit ⊕ (Int × Bool))) ?_).trans rfl
              refine (e_bindT e1).trans ?_
              rw [if_neg (by simp)]
              rcases hq with ⟨d, e, h0, hd, rfl⟩ | ⟨e, rfl⟩
              · rw [hx, e]
                show some (Sum.inr (w64 (d + 1), true)) = _
                rw [w64_id (by omega)]
              · rw [hx, e]
                rfl
            · rw [if_neg (show ¬ (v.N = 0 ∧ v.B.length = 0) from fun h => hb h.2)]
              have e1 : (if (v.N != 0) = true then some true else some ((v.B.length : Int) != 0) : Option Bool) = some true := by
                rw [if_neg (by simp [hn])]; simp; intro e; apply hb; simp [e]
              refine (e_bindT (a := (.inr (0, false) : Unit ⊕ (Int × Bool))) ?_).trans rfl
              exact (e_bindT e1).trans rfl
          · rw [if_neg (show ¬ (v.N = 0 ∧ v.B.length = 0) from fun h => hn h.1)]
            have e1 : (if (v.N != 0) = true then some true else some ((v.B.length : Int) != 0) : Option Bool) = some true := by simp [hn]
            refine (e_bindT (a := (.inr (0, false) : Unit ⊕ (Int × Bool))) ?_).trans rfl
            exact (e_bindT e1).trans rfl
        · rw [if_neg (by simp [h3]), if_neg h3]
          rfl

/-! ### Encodings -/
def escB : List UInt8 → List UInt8
  | [] => []
  | c :: l => if c = 0 then 0 :: 255 :: escB l else c :: escB l
theorem escB_app (a b : List UInt8) : escB (a ++ b) = escB a ++ escB b := by
  induction a with
  | nil => rfl
  | cons c a ih => simp only [List.cons_append, escB]; split <;> simp [ih]
theorem escB_len (a : List UInt8) : (escB a).length ≤ 2 * a.length := by
  induction a with
  | nil => simp [escB]
  | cons c a ih => simp only [escB]; split <;> simp only [List.length_cons] <;> omega

mutual
def encV : Api_Value → List UInt8
  | .mk k n b l => if k = 1 then encI n else if k = 2 then 48 :: (escB b ++ [0, 0]) else 64 :: (encL l ++ [0])
def encL : List Api_Value → List UInt8
  | [] => []
  | x :: l => encV x ++ encL l
end
theorem encV_eq (v : Api_Value) : encV v = if v.Kind = 1 then encI v.N else if v.Kind = 2 then 48 :: (escB v.B ++ [0, 0]) else 64 :: (encL v.L ++ [0]) := by
  cases v with
  | mk k n b l => unfold encV; rfl
theorem encL_app (a b : List Api_Value) : encL (a ++ b) = encL a ++ encL b := by
  induction a with
  | nil => rfl
  | cons c a ih => simp only [List.cons_append, encL, ih, List.append_assoc]
mutual
theorem encV_len : ∀ v : Api_Value, (encV v).length ≤ 9 * szV v
  | .mk k n b l => by
    have h := encL_len l
    have h1 := encI_len n
    have h2 := nbI_le n
    have h3 := escB_len b
    unfold encV szV
    split
    · omega
    · split
      · simp only [List.length_cons, List.length_append, List.length_nil]; omega
      · simp only [List.length_cons, List.length_append, List.length_nil]; omega
theorem encL_len : ∀ l : List Api_Value, (encL l).length ≤ 9 * szVs l
  | [] => by simp [encL]
  | x :: l => by
    have h1 := encV_len x
    have h2 := encL_len l
    unfold encL szVs
    simp only [List.length_append]; omega
end
theorem encL_take (l : List Api_Value) (k : Nat) : (encL (l.take k)).length ≤ 9 * szVs l := by
  have h := encL_len l
  have : encL l = encL (l.take k) ++ encL (l.drop k) := by rw [← encL_app, List.take_append_drop]
  rw [this, List.length_append] at h
  omega

theorem bytes_loop (v : Api_Value) (a : List UInt8) (ha : a.length + 2 * v.B.length ≤ 100000000000000) :
    ∃ x, loopO (fun (s : Int × List UInt8) => codec_appendValue_b1 v s.1 s.2) (0, a) = some x ∧ x = a ++ escB v.B := by
  refine loopO_for (f := fun (s : Int × List UInt8) => codec_appendValue_b1 v s.1 s.2) v.B.length (fun k s => s = ((k : Int), a ++ escB (v.B.take k))) _ (by omega) ?_ ?_ (by simp [escB])
  · intro k s hk hs
    subst hs
    have hx : v.B.take (k + 1) = v.B.take k ++ [v.B[k]] := by rw [List.take_add_one, List.getElem?_eq_getElem hk]; rfl
    have hn : nth v.B k = v.B[k] := by simp [nth, List.getD_eq_getElem?_getD, hk]
    have hl := escB_len (v.B.take k)
    rw [List.length_take] at hl
    refine ⟨_, ?_, rfl⟩
    show codec_appendValue_b1 v (k : Int) _ = _
    unfold codec_appendValue_b1
    rw [if_pos (by simp; omega), if_pos (inR_of hk), if_pos (fits1 (by simp only [List.length_append]; omega)), e_succ (by omega)]
    simp only [Int.toNat_natCast, hn, lt1, hx, escB_app]
    by_cases h0 : v.B[k] = 0
    · rw [if_pos (by simp [h0]), if_pos (fits1 (by simp only [List.length_append, List.length_cons, List.length_nil]; omega))]
      simp [escB, h0]
    · rw [if_neg (by simp [h0])]
      simp [escB, h0]
  · intro s hs
    subst hs
    refine ⟨_, ?_, rfl⟩
    show codec_appendValue_b1 v ((v.B.length : Nat) : Int) _ = _
    unfold codec_appendValue_b1
    rw [if_neg (by simp), List.take_length]

theorem list_loop (v : Api_Value) (a : List UInt8) (rec_ : List UInt8 → Api_Value → Option (List UInt8)) (hr : ∀ x ∈ v.L, ∀ b, b.length + 9 * szV x ≤ a.length + 9 * szVs v.L → rec_ b x = some (b ++ encV x)) (hs : szV v ≤ 1099511627776) :
    ∃ x, loopO (fun (s : Int × List UInt8) => codec_appendValue_b2 v rec_ s.1 s.2) (0, a) = some x ∧ x = a ++ encL v.L := by
  have hsz := szV_eq v
  have hlen := szVs_len v.L
  refine loopO_for (f := fun (s : Int × List UInt8) => codec_appendValue_b2 v rec_ s.1 s.2) v.L.length (fun k s => s = ((k : Int), a ++ encL (v.L.take k))) _ (by omega) ?_ ?_ (by simp [encL])
  · intro k s hk hs'
    subst hs'
    have hx : v.L.take (k + 1) = v.L.take k ++ [v.L[k]] := by rw [List.take_add_one, List.getElem?_eq_getElem hk]; rfl
    have hm : v.L[k] ∈ v.L := List.getElem_mem hk
    have hsp : szVs v.L = szVs (v.L.take k) + szVs (v.L.drop k) := by
      have key : ∀ a b : List Api_Value, szVs (a ++ b) = szVs a + szVs b := by
        intro a b
        induction a with
        | nil => simp [szVs]
        | cons y a ih => simp only [List.cons_append, szVs, ih]; omega
      rw [← key, List.take_append_drop]
    rw [List.drop_eq_getElem_cons hk] at hsp
    simp only [szVs] at hsp
    have hl := encL_len (v.L.take k)
    refine ⟨_, ?_, rfl⟩
    show codec_appendValue_b2 v rec_ (k : Int) _ = _
    unfold codec_appendValue_b2
    rw [if_pos (by simp; omega), if_pos (inR_of hk), e_succ (by omega)]
    simp only [Int.toNat_natCast, nth_mem hk, lt1, value_eta]
    refine (e_bindT (hr _ hm _ (by simp only [List.length_append]; omega))).trans ?_
    rw [hx, encL_app]
    simp [encL]
  · intro s hs'
    subst hs'
    refine ⟨_, ?_, rfl⟩
    show codec_appendValue_b2 v rec_ ((v.L.length : Nat) : Int) _ = _
    unfold codec_appendValue_b2
    rw [if_neg (by simp), List.take_length]

theorem append_n : ∀ (n : Nat) (b : List UInt8) (v : Api_Value), szV v < n → b.length + 9 * szV v ≤ 1099511627776 → codec_appendValue_n n b v = some (b ++ encV v)
  | 0, b, v, h, _ => absurd h (Nat.not_lt_zero _)
  | n + 1, b, v, h, hs => by
    show codec_appendValue_F (codec_appendValue_n n) b v = _
    have hsz := szV_eq v
    rw [encV_eq]
    unfold codec_appendValue_F
    by_cases h1 : v.Kind = 1
    · rw [if_pos (by simp [h1]), if_pos h1]
      rw [appendInt_eq b v.N (by omega)]
      rfl
    · rw [if_neg (by simp [h1]), if_neg h1]
      by_cases h2 : v.Kind = 2
      · rw [if_pos (by simp [h2]), if_pos h2]
        obtain ⟨x, hx, rfl⟩ := bytes_loop v (b ++ [48]) (by simp only [List.length_append, List.length_cons, List.length_nil]; omega)
        have hl := escB_len v.B
        refine (e_bindT (a := (.inr (b ++ 48 :: (escB v.B ++ [0, 0])) : Unit ⊕ List UInt8)) ?_).trans rfl
        refine (if_pos (fits1 (by omega))).trans ?_
        refine (e_lt1 _ _ _ rfl).trans ?_
        refine (e_bindT (e_bindT hx)).trans ?_
        refine (if_pos (fits1 (by simp only [List.length_append, List.length_cons, List.length_nil]; omega))).trans ?_
        simp [lt1]
      · rw [if_neg (by simp [h2]), if_neg h2]
        obtain ⟨x, hx, rfl⟩ := list_loop v (b ++ [64]) (codec_appendValue_n n) (fun y hy c hc => append_n n c y (by have := szVs_mem hy; omega) (by simp only [List.length_append, List.length_cons, List.length_nil] at hc; omega)) (by omega)
        have hl := encL_len v.L
        refine (e_bindT (a := (.inl () : Unit ⊕ List UInt8)) rfl).trans ?_
        refine (if_pos (fits1 (by omega))).trans ?_
        refine (e_lt1 _ _ _ rfl).trans ?_
        refine (e_bindT (e_bindT hx)).trans ?_
        refine (if_pos (fits1 (by simp only [List.length_append, List.length_cons, List.length_nil]; omega))).trans ?_
        simp [lt1]

/-- What Encode answers. -/
def Enc (v : Api_Value) : List UInt8 × Int :=
  if (shpV v).2 = true then (if (shpV v).1 > 16 then ([], 2) else if (encV v).length > 65536 then ([], 2) else (encV v, 0)) else ([], 10)

theorem encode_eq (v : Api_Value) (h : szV v ≤ 100000000000) : codec_Encode v = some (Enc v) := by
  unfold codec_Encode codec_shape codec_appendValue Enc
  refine (e_bindT (shape_n 18446744073709551616 v (by omega) (by omega))).trans ?_
  by_cases h1 : (shpV v).2 = true
  · rw [if_neg (by simp [h1]), if_pos h1]
    by_cases h2 : (shpV v).1 > 16
    · rw [if_pos (by simpa using h2), if_pos h2]
    · rw [if_neg (by simpa using h2), if_neg h2]
      refine (e_bindT (append_n 18446744073709551616 [] v (by omega) (by simp; omega))).trans ?_
      by_cases h3 : (encV v).length > 65536
      · rw [if_pos (by simp; omega), if_pos h3]
      · rw [if_neg (by simp; omega), if_neg h3]
        rfl
  · rw [if_pos (by simp [h1]), if_neg h1]
end Go.Proofs.YtgdiabbgiiemcaaDoor
/-
  Readings of values (api.Value, a type that holds slices of itself).
-/
namespace Go.Proofs.YtgdiabbgiiemcaaDoor
open Go.Rv
set_option linter.unusedVariables false

def rangeI (x : Int) : Prop := -9223372036854775808 ≤ x ∧ x ≤ 9223372036854775807
mutual
def okV : Api_Value → Prop
  | .mk k n b l => rangeI k ∧ rangeI n ∧ okVs l
def okVs : List Api_Value → Prop
  | [] => True
  | x :: l => okV x ∧ okVs l
end
theorem okVs_all (l : List Api_Value) : okVs l ↔ ∀ x ∈ l, okV x := by
  induction l with
  | nil => simp [okVs]
  | cons x l ih => simp [okVs, ih]
theorem okV_eq (v : Api_Value) : okV v ↔ rangeI v.Kind ∧ rangeI v.N ∧ ∀ x ∈ v.L, okV x := by
  rw [← okVs_all]
  cases v with
  | mk k n b l => simp only [okV]; rfl

theorem szL_one (b : List UInt8) : b.length ≤ szL (fun _ => 1) b := by
  unfold szL
  induction b with
  | nil => simp
  | cons x b ih => simp only [List.map_cons, List.sum_cons, List.length_cons] at ih ⊢; omega
theorem szL_szV (l : List Api_Value) : szVs l + 1 ≤ szL szV l := by
  unfold szL
  induction l with
  | nil => simp [szVs]
  | cons x b ih => simp only [List.map_cons, List.sum_cons, szVs] at ih ⊢; omega

theorem opensAt_value {P : Program} {BB : ∀ H : Type, DataW H → Nat} {t tI tB tL : TypeId} {fs : Array Field} (hB : BulkOk BB) (ht : P.underlying t = some (.struct fs))
    (hfs : fs.toList = [⟨"Kind", tI, 0, false, "", "", 0⟩, ⟨"N", tI, 1, false, "", "", 8⟩, ⟨"B", tB, 2, false, "", "", 16⟩, ⟨"L", tL, 3, false, "", "", 40⟩])
    (hn : P.cellsOf t = 4) (cI : P.cellsOf tI = 1) (cB : P.cellsOf tB = 1) (cL : P.cellsOf tL = 1)
    (oI : Opens P BB tI cI64 (fun _ => 1) (fun x => -9223372036854775808 ≤ x ∧ x ≤ 9223372036854775807))
    (oB : Opens P BB tB (cSl cU8) (szL fun _ => 1) (fun l => l.length ≤ maxLen ∧ ∀ x ∈ l, True))
    (hL : P.underlying tL = some (.slice t)) : ∀ fuel, OpensAt P BB fuel t cApi_Value szV okV
  | 0 => opensAt_zero
  | fuel + 1 => by
    have hl : OpensAt P BB fuel tL (cSl cApi_Value) (szL szV) (fun l => l.length ≤ maxLen ∧ ∀ x ∈ l, okV x) := by
      cases fuel with
      | zero => exact opensAt_zero
      | succ n => exact opensAt_slice hB hL hn (fun x => by rw [cApi_Value_eq]; rfl) (opensAt_value hB ht hfs hn cI cB cL oI oB hL n)
    refine opensAt_struct hB ht hn (c := fun x : Int × Int × List UInt8 × List Api_Value × Unit => cI64 x.1 ++ (cI64 x.2.1 ++ (cSl cU8 x.2.2.1 ++ (cSl cApi_Value x.2.2.2.1 ++ []))))
      (by
        rw [hfs]
        exact opensFsAt_cons (k := 1) rfl cI (fun _ => rfl) (oI.at fuel) (opensFsAt_cons (k := 1) rfl cI (fun _ => rfl) (oI.at fuel) (opensFsAt_cons (k := 1) rfl cB (fun _ => rfl) (oB.at fuel) (opensFsAt_cons (k := 1) rfl cL (fun _ => rfl) hl opensFsAt_nil))))
      (fun x => (Api_Value.mk x.1 x.2.1 x.2.2.1 x.2.2.2.1)) (fun x => by rw [cApi_Value_eq]; rfl) (fun x => by rw [cApi_Value_eq]; rfl) (fun x => ?_) (fun x h => ?_)
    · have h1 := szL_one x.2.2.1
      have h2 := szL_szV x.2.2.2.1
      simp only [szV]
      omega
    · exact (okV_eq _).2 ⟨h.1, h.2.1, h.2.2.2.1.2⟩
  termination_by fuel => fuel
end Go.Proofs.YtgdiabbgiiemcaaDoor
/-
  Of chapter 01: what needs neither the reference nor the decoder.
-/
namespace Go.Proofs.YtgdiabbgiiemcaaDoor
open Go.Rv
set_option linter.unusedVariables false
set_option linter.unusedSimpArgs false

def cmpI (a b : Int) : Int := if a < b then -1 else if b < a then 1 else 0
def cmpB : List UInt8 → List UInt8 → Int
  | [], [] => 0
  | [], _ :: _ => -1
  | _ :: _, [] => 1
  | x :: l, y :: m => if x = y then cmpB l m else if x < y then -1 else 1
mutual
def cmpV : Api_Value → Api_Value → Int
  | .mk k n b l, w => if k ≠ w.Kind then cmpI k w.Kind else if k = 1 then cmpI n w.N else if k = 2 then cmpB b w.B else if k = 3 then cmpL l w.L else 0
def cmpL : List Api_Value → List Api_Value → Int
  | [], [] => 0
  | [], _ :: _ => -1
  | _ :: _, [] => 1
  | x :: l, y :: m => if cmpV x y ≠ 0 then cmpV x y else cmpL l m
end
theorem cmpV_eq (v w : Api_Value) : cmpV v w = if v.Kind ≠ w.Kind then cmpI v.Kind w.Kind else if v.Kind = 1 then cmpI v.N w.N else if v.Kind = 2 then cmpB v.B w.B else if v.Kind = 3 then cmpL v.L w.L else 0 := by
  cases v with
  | mk k n b l => rw [cmpV]; rfl

theorem cmpI_rng (a b : Int) : cmpI a b = -1 ∨ cmpI a b = 0 ∨ cmpI a b = 1 := by unfold cmpI; (repeat' split) <;> simp
theorem cmpB_rng : ∀ a b : List UInt8, cmpB a b = -1 ∨ cmpB a b = 0 ∨ cmpB a b = 1
  | [], [] => by simp [cmpB]
  | [], _ :: _ => by simp [cmpB]
  | _ :: _, [] => by simp [cmpB]
  | x :: l, y :: m => by
    unfold cmpB
    split
    · exact cmpB_rng l m
    · split <;> simp
theorem nth_lt {α : Type} [Inhabited α] {l : List α} {k : Nat} (h : k < l.length) : nth l k = l[k] := by simp [nth, List.getD_eq_getElem?_getD, h]

theorem cmpB_drop {a b : List UInt8} {k : Nat} (ha : k < a.length) (hb : k < b.length) : cmpB (a.drop k) (b.drop k) = if nth a k = nth b k then cmpB (a.drop (k + 1)) (b.drop (k + 1)) else if nth a k < nth b k then -1 else 1 := by
  rw [List.drop_eq_getElem_cons ha, List.drop_eq_getElem_cons hb, nth_lt ha, nth_lt hb, cmpB]

theorem u8_lt_int (x y : UInt8) : ((x.toNat : Int) < (y.toNat : Int)) = (x < y) := by
  apply propext
  rw [UInt8.lt_iff_toNat_lt]; omega

theorem cmpB_end {a b : List UInt8} {k : Nat} (hk : k ≤ a.length) (hk' : k ≤ b.length) (h : ¬ (k < a.length ∧ k < b.length)) : cmpB (a.drop k) (b.drop k) = cmpI (a.length : Int) (b.length : Int) := by
  unfold cmpI
  rcases Nat.lt_trichotomy a.length b.length with hl | hl | hl
  · have hka : k = a.length := by omega
    rw [if_pos (by omega), hka, List.drop_length, List.drop_eq_getElem_cons (by omega)]
    rfl
  · have hka : k = a.length := by omega
    rw [if_neg (by omega), if_neg (by omega), hka, List.drop_length, hl, List.drop_length]
    rfl
  · have hkb : k = b.length := by omega
    rw [if_neg (by omega), if_pos (by omega), hkb, List.drop_length, List.drop_eq_getElem_cons (by omega)]
    rfl

theorem ba_get {l : List UInt8} {i : Nat} (h : i < l.length) : (⟨l.toArray⟩ : ByteArray)[i]! = nth l i := by
  rw [nth_lt h]
  have h2 : i < (⟨l.toArray⟩ : ByteArray).size := by simpa [ByteArray.size] using h
  rw [getElem!_pos (⟨l.toArray⟩ : ByteArray) i h2]
  show l.toArray[i] = _
  simp

theorem cmp_from (a b : List UInt8) : ∀ (m k : Nat), k + m = min a.length b.length →
    (match (List.range' k m).find? fun i => (⟨a.toArray⟩ : ByteArray)[i]! != (⟨b.toArray⟩ : ByteArray)[i]! with
      | some i => if (⟨a.toArray⟩ : ByteArray)[i]! < (⟨b.toArray⟩ : ByteArray)[i]! then -1 else 1
      | none => if (⟨a.toArray⟩ : ByteArray).size < (⟨b.toArray⟩ : ByteArray).size then (-1 : Int) else if (⟨a.toArray⟩ : ByteArray).size > (⟨b.toArray⟩ : ByteArray).size then 1 else 0) = cmpB (a.drop k) (b.drop k)
  | 0, k, h => by
    rw [List.range'_zero, List.find?_nil, cmpB_end (by omega) (by omega) (by omega)]
    have e : ∀ l : List UInt8, (⟨l.toArray⟩ : ByteArray).size = l.length := fun l => by simp [ByteArray.size]
    simp only [e, cmpI, Int.ofNat_lt, gt_iff_lt]
  | m + 1, k, h => by
    have ha : k < a.length := by omega
    have hb : k < b.length := by omega
    rw [List.range'_succ, List.find?_cons, cmpB_drop ha hb, ba_get ha, ba_get hb]
    by_cases he : nth a k = nth b k
    · have : (nth a k != nth b k) = false := by simp [he]
      rw [this, if_pos he]
      exact cmp_from a b m (k + 1) (by omega)
    · have : (nth a k != nth b k) = true := by simp [he]
      rw [this, if_neg he]
      show (if (⟨a.toArray⟩ : ByteArray)[k]! < (⟨b.toArray⟩ : ByteArray)[k]! then (-1 : Int) else 1) = _
      rw [ba_get ha, ba_get hb]

theorem bytesCmp_eq (a b : List UInt8) : bytesCmp a b = cmpB a b := by
  have h := cmp_from a b (min a.length b.length) 0 (by omega)
  rw [← List.range_eq_range'] at h
  unfold bytesCmp Extern.BytealgCompare.cmp
  have e : ∀ l : List UInt8, (⟨l.toArray⟩ : ByteArray).size = l.length := fun l => by simp [ByteArray.size]
  rw [e, e]
  rw [e, e] at h
  exact h

theorem bytesCompare_eq (a b : List UInt8) : bytes_Compare a b = some (cmpB a b) := by
  unfold bytes_Compare bytealg_Compare bytesCmpO
  rw [bytesCmp_eq]; rfl
theorem cmpInt_eq (a b : Int) : cmp_Compare a b = some (cmpI a b) := by
  unfold cmp_Compare cmp_isNaN cmpI
  by_cases h : a < b
  · simp [h]
  · by_cases h2 : b < a <;> simp [h, h2]

theorem cmpL_drop {a b : List Api_Value} {k : Nat} (ha : k < a.length) (hb : k < b.length) : cmpL (a.drop k) (b.drop k) = if cmpV (nth a k) (nth b k) ≠ 0 then cmpV (nth a k) (nth b k) else cmpL (a.drop (k + 1)) (b.drop (k + 1)) := by
  rw [List.drop_eq_getElem_cons ha, List.drop_eq_getElem_cons hb, nth_lt ha, nth_lt hb, cmpL]
theorem cmpL_end {a b : List Api_Value} {k : Nat} (hk : k ≤ a.length) (hk' : k ≤ b.length) (h : ¬ (k < a.length ∧ k < b.length)) : cmpL (a.drop k) (b.drop k) = cmpI (a.length : Int) (b.length : Int) := by
  unfold cmpI
  rcases Nat.lt_trichotomy a.length b.length with hl | hl | hl
  · have hka : k = a.length := by omega
    rw [if_pos (by omega), hka, List.drop_length, List.drop_eq_getElem_cons (by omega), cmpL]
  · have hka : k = a.length := by omega
    rw [if_neg (by omega), if_neg (by omega), hka, List.drop_length, hl, List.drop_length, cmpL]
  · have hkb : k = b.length := by omega
    rw [if_neg (by omega), if_pos (by omega), hkb, List.drop_length, List.drop_eq_getElem_cons (by omega), cmpL]

theorem compareFunc_eq (a b : List Api_Value) (f : Api_Value → Api_Value → Option Int) (hf : ∀ x ∈ a, ∀ y, f x y = some (cmpV x y)) (ha : a.length ≤ 1099511627776) : slices_CompareFunc a b f = some (cmpL a b) := by
  have key : ∃ x, loopO (fun (v : Int) => slices_CompareFunc_b1 a b f v) 0 = some x ∧ ((x = .inl () ∧ a.length ≤ b.length ∧ cmpL a b = cmpI (a.length : Int) (b.length : Int)) ∨ (x = .inr (.inr (cmpL a b)))) := by
    refine loopO_rule (f := fun (v : Int) => slices_CompareFunc_b1 a b f v) (fun i => ∃ k : Nat, i = (k : Int) ∧ k ≤ a.length ∧ k ≤ b.length ∧ cmpL a b = cmpL (a.drop k) (b.drop k)) (fun i => a.length - i.toNat) _ ?_ ⟨0, rfl, by simp, by simp, rfl⟩ (by omega)
    rintro _ ⟨k, rfl, hka, hkb, he⟩
    show _ ∨ _
    unfold slices_CompareFunc_b1
    by_cases h1 : k < a.length
    · have r1 : InR (k : Int) a.length := ⟨by omega, by omega⟩
      rw [if_pos (by simp; omega), if_pos r1]
      simp only [lt1, Int.toNat_natCast]
      by_cases h2 : k < b.length
      · have r2 : InR (k : Int) b.length := ⟨by omega, by omega⟩
        rw [if_neg (by simp; omega), if_pos r2]
        rw [value_eta, value_eta, hf _ (by rw [nth_lt h1]; exact List.getElem_mem h1)]
        rw [cmpL_drop h1 h2] at he
        by_cases hz : cmpV (nth a k) (nth b k) = 0
        · left
          rw [if_neg (by simpa using hz)] at he
          refine ⟨_, (e_bindT rfl).trans ?_, ⟨k + 1, rfl, by omega, by omega, he⟩, ?_⟩
          · rw [if_neg (by simp [hz]), e_succ (by omega)]
          · simp only [Int.toNat_natCast]; omega
        · right
          rw [if_pos hz] at he
          refine ⟨_, (e_bindT rfl).trans ?_, .inr rfl⟩
          rw [if_pos (by simpa using hz), he]; rfl
      · right
        rw [if_pos (by simp; omega)]
        refine ⟨_, rfl, .inr ?_⟩
        rw [he, cmpL_end hka hkb (by omega)]
        unfold cmpI
        rw [if_neg (by omega), if_pos (by omega)]
    · right
      rw [if_neg (by simp; omega)]
      exact ⟨_, rfl, .inl ⟨rfl, by omega, by rw [he]; exact cmpL_end hka hkb (by omega)⟩⟩
  obtain ⟨x, hx, hq⟩ := key
  unfold slices_CompareFunc
  rcases hq with ⟨rfl, hl, he⟩ | rfl
  · refine (e_bindT (a := .inl ()) ((e_bindT hx).trans rfl)).trans ?_
    rw [he]
    unfold cmpI
    by_cases h : (a.length : Int) < (b.length : Int)
    · simp [h]
    · have : ¬ (b.length : Int) < (a.length : Int) := by omega
      simp [h, this]
  · exact (e_bindT (a := .inr (cmpL a b)) ((e_bindT hx).trans rfl)).trans rfl

theorem compare_n : ∀ (n : Nat) (a b : Api_Value), szV a < n → szV a ≤ 1099511627776 → codec_Compare_n n a b = some (cmpV a b)
  | 0, a, b, h, _ => absurd h (Nat.not_lt_zero _)
  | n + 1, a, b, h, hs => by
    show codec_Compare_F (codec_Compare_n n) a b = _
    have hsz := szV_eq a
    have hlen := szVs_len a.L
    unfold codec_Compare_F
    rw [cmpV_eq]
    refine (e_bindT (cmpInt_eq _ _)).trans ?_
    by_cases hk : a.Kind = b.Kind
    · have hz : cmpI a.Kind b.Kind = 0 := by unfold cmpI; simp [hk]
      rw [if_neg (show ¬ (cmpI a.Kind b.Kind != 0) = true by simp [hz]), if_neg (show ¬ (a.Kind ≠ b.Kind) by simpa using hk)]
      by_cases h1 : a.Kind = 1
      · rw [if_pos (show (a.Kind == 1) = true by simp [h1]), if_pos h1]; exact e_bindT (cmpInt_eq _ _)
      · rw [if_neg (show ¬ (a.Kind == 1) = true by simp [h1]), if_neg h1]
        by_cases h2 : a.Kind = 2
        · rw [if_pos (show (a.Kind == 2) = true by simp [h2]), if_pos h2]; exact e_bindT (bytesCompare_eq _ _)
        · rw [if_neg (show ¬ (a.Kind == 2) = true by simp [h2]), if_neg h2]
          by_cases h3 : a.Kind = 3
          · rw [if_pos (show (a.Kind == 3) = true by simp [h3]), if_pos h3]
            exact e_bindT (compareFunc_eq _ _ _ (fun x hx y => compare_n n x y (by have := szVs_mem hx; omega) (by have := szVs_mem hx; omega)) (by omega))
          · rw [if_neg (show ¬ (a.Kind == 3) = true by simp [h3]), if_neg h3]
    · have hz : cmpI a.Kind b.Kind ≠ 0 := by
        unfold cmpI
        rcases Int.lt_trichotomy a.Kind b.Kind with h | h | h
        · rw [if_pos h]; decide
        · exact (hk h).elim
        · rw [if_neg (by omega), if_pos h]; decide
      rw [if_pos (show (cmpI a.Kind b.Kind != 0) = true by simpa using hz), if_pos (show a.Kind ≠ b.Kind from hk)]

theorem compare_eq (a b : Api_Value) (h : szV a ≤ 100000000000) : codec_Compare a b = some (cmpV a b) := compare_n _ a b (by omega) (by omega)

theorem cmpI_refl (a : Int) : cmpI a a = 0 := by simp [cmpI]
theorem cmpI_anti (a b : Int) : cmpI b a = - cmpI a b := by
  unfold cmpI
  rcases Int.lt_trichotomy a b with h | h | h
  · rw [if_neg (by omega), if_pos h, if_pos h]; rfl
  · subst h; simp
  · rw [if_pos h, if_neg (by omega), if_pos h]
theorem cmpI_zero {a b : Int} : cmpI a b = 0 ↔ a = b := by
  unfold cmpI
  by_cases h : a < b
  · rw [if_pos h]; constructor
    · intro h; cases h
    · intro h; omega
  · rw [if_neg h]
    by_cases h2 : b < a
    · rw [if_pos h2]; constructor
      · intro h; cases h
      · intro h; omega
    · rw [if_neg h2]; constructor <;> intros <;> omega
/-- Three answers that fit an order: of x to y, of y to z, of x to z. -/
def Tri (a b c : Int) : Prop := (a ≤ 0 → b ≤ 0 → c ≤ 0 ∧ (c = 0 ↔ a = 0 ∧ b = 0)) ∧ (0 ≤ a → 0 ≤ b → 0 ≤ c ∧ (c = 0 ↔ a = 0 ∧ b = 0))

theorem tri_cmpI (a b c : Int) : Tri (cmpI a b) (cmpI b c) (cmpI a c) := by
  unfold Tri cmpI
  constructor <;> intro h1 h2 <;> (repeat' split at h1) <;> (repeat' split at h2) <;> (repeat' split) <;> constructor <;> (try constructor) <;> omega
theorem tri_first {a b c x y z : Int} (h : Tri a b c) (g : Tri x y z) : Tri (if a ≠ 0 then a else x) (if b ≠ 0 then b else y) (if c ≠ 0 then c else z) := by
  obtain ⟨h1, h2⟩ := h
  obtain ⟨g1, g2⟩ := g
  unfold Tri
  constructor
  · intro p q
    by_cases ha : a = 0 <;> by_cases hb : b = 0 <;> simp only [ha, hb, ne_eq, not_true_eq_false, not_false_eq_true, if_true, if_false] at p q ⊢
    · have hc : c = 0 := by have := h1 (by omega) (by omega); exact this.2.2 ⟨ha, hb⟩
      simp only [hc, ne_eq, not_true_eq_false, if_false]
      exact g1 p q
    · have := h1 (by omega) q
      have hc : c ≠ 0 := fun e => hb (this.2.1 e).2
      simp only [hc, ne_eq, not_false_eq_true, if_true]
      exact ⟨this.1, ⟨fun e => e.elim, fun e => e.2.elim⟩⟩
    · have := h1 p (by omega)
      have hc : c ≠ 0 := fun e => ha (this.2.1 e).1
      simp only [hc, ne_eq, not_false_eq_true, if_true]
      exact ⟨this.1, ⟨fun e => e.elim, fun e => e.1.elim⟩⟩
    · have := h1 p q
      have hc : c ≠ 0 := fun e => ha (this.2.1 e).1
      simp only [hc, ne_eq, not_false_eq_true, if_true]
      exact ⟨this.1, ⟨fun e => e.elim, fun e => e.1.elim⟩⟩
  · intro p q
    by_cases ha : a = 0 <;> by_cases hb : b = 0 <;> simp only [ha, hb, ne_eq, not_true_eq_false, not_false_eq_true, if_true, if_false] at p q ⊢
    · have hc : c = 0 := by have := h2 (by omega) (by omega); exact this.2.2 ⟨ha, hb⟩
      simp only [hc, ne_eq, not_true_eq_false, if_false]
      exact g2 p q
    · have := h2 (by omega) q
      have hc : c ≠ 0 := fun e => hb (this.2.1 e).2
      simp only [hc, ne_eq, not_false_eq_true, if_true]
      exact ⟨this.1, ⟨fun e => e.elim, fun e => e.2.elim⟩⟩
    · have := h2 p (by omega)
      have hc : c ≠ 0 := fun e => ha (this.2.1 e).1
      simp only [hc, ne_eq, not_false_eq_true, if_true]
      exact ⟨this.1, ⟨fun e => e.elim, fun e => e.1.elim⟩⟩
    · have := h2 p q
      have hc : c ≠ 0 := fun e => ha (this.2.1 e).1
      simp only [hc, ne_eq, not_false_eq_true, if_true]
      exact ⟨this.1, ⟨fun e => e.elim, fun e => e.1.elim⟩⟩

def cmpU (x y : UInt8) : Int := cmpI (x.toNat : Int) (y.toNat : Int)
theorem cmpB_cons (x y : UInt8) (l m : List UInt8) : cmpB (x :: l) (y :: m) = if cmpU x y ≠ 0 then cmpU x y else cmpB l m := by
  rw [cmpB]
  by_cases h : x = y
  · subst h
    have : cmpU x x = 0 := cmpI_refl _
    rw [this, if_pos rfl, if_neg (by simp)]
  · by_cases h2 : x < y
    · have : cmpU x y = -1 := if_pos (by rw [u8_lt_int]; exact h2)
      rw [this, if_neg h, if_pos h2, if_pos (by decide)]
    · have h3 : y < x := by
        rw [UInt8.lt_iff_toNat_lt] at h2 ⊢
        have : x.toNat ≠ y.toNat := fun e => h (UInt8.toNat_inj.1 e)
        omega
      have : cmpU x y = 1 := (if_neg (by rw [u8_lt_int]; exact h2)).trans (if_pos (by rw [u8_lt_int]; exact h3))
      rw [this, if_neg h, if_neg h2, if_pos (by decide)]
theorem cmpL_cons (x y : Api_Value) (l m : List Api_Value) : cmpL (x :: l) (y :: m) = if cmpV x y ≠ 0 then cmpV x y else cmpL l m := by rw [cmpL]

theorem tri_zero : Tri 0 0 0 := by unfold Tri; omega
theorem tri_cmpB : ∀ a b c : List UInt8, Tri (cmpB a b) (cmpB b c) (cmpB a c)
  | [], [], [] => tri_zero
  | [], [], _ :: _ => by simp only [cmpB]; unfold Tri; omega
  | [], _ :: _, [] => by simp only [cmpB]; unfold Tri; omega
  | _ :: _, [], [] => by simp only [cmpB]; unfold Tri; omega
  | [], y :: m, z :: k => by
    have := cmpB_rng (y :: m) (z :: k)
    simp only [cmpB] at this ⊢; unfold Tri; omega
  | x :: l, [], z :: k => by
    have := cmpB_rng (x :: l) (z :: k)
    rw [show cmpB (x :: l) [] = 1 from rfl, show cmpB [] (z :: k) = -1 from rfl]; unfold Tri; omega
  | x :: l, y :: m, [] => by
    have := cmpB_rng (x :: l) (y :: m)
    rw [show cmpB (x :: l) [] = 1 from rfl, show cmpB (y :: m) [] = 1 from rfl]; unfold Tri; omega
  | x :: l, y :: m, z :: k => by
    rw [cmpB_cons, cmpB_cons, cmpB_cons]
    exact tri_first (tri_cmpI _ _ _) (tri_cmpB l m k)

mutual
theorem cmpV_rng : ∀ a b : Api_Value, cmpV a b = -1 ∨ cmpV a b = 0 ∨ cmpV a b = 1
  | .mk k n b l, w => by
    rw [cmpV]
    split
    · exact cmpI_rng _ _
    split
    · exact cmpI_rng _ _
    split
    · exact cmpB_rng _ _
    split
    · exact cmpL_rng l w.L
    · simp
theorem cmpL_rng : ∀ a b : List Api_Value, cmpL a b = -1 ∨ cmpL a b = 0 ∨ cmpL a b = 1
  | [], [] => by simp [cmpL]
  | [], _ :: _ => by simp [cmpL]
  | _ :: _, [] => by simp [cmpL]
  | x :: l, y :: m => by
    rw [cmpL]
    split
    · exact cmpV_rng x y
    · exact cmpL_rng l m
end

theorem ite_hz (x y : Int) {α : Type} (a b : α) : (if x ≠ y then a else b) = if cmpI x y ≠ 0 then a else b := by
  by_cases h : x = y
  · rw [if_neg (by simpa using h), if_neg (by simpa using cmpI_zero.2 h)]
  · rw [if_pos h, if_pos (fun e => h (cmpI_zero.1 e))]

mutual
theorem tri_cmpV : ∀ a b c : Api_Value, Tri (cmpV a b) (cmpV b c) (cmpV a c)
  | .mk k n b l, v, w => by
    have hk := tri_cmpI k v.Kind w.Kind
    rw [cmpV_eq v w, cmpV, cmpV]
    rw [ite_hz k v.Kind, ite_hz v.Kind w.Kind, ite_hz k w.Kind]
    have inner : k = v.Kind → v.Kind = w.Kind → Tri (if k = 1 then cmpI n v.N else if k = 2 then cmpB b v.B else if k = 3 then cmpL l v.L else 0)
        (if v.Kind = 1 then cmpI v.N w.N else if v.Kind = 2 then cmpB v.B w.B else if v.Kind = 3 then cmpL v.L w.L else 0) (if k = 1 then cmpI n w.N else if k = 2 then cmpB b w.B else if k = 3 then cmpL l w.L else 0) := by
      intro e1 e2
      rw [← e1]
      by_cases h1 : k = 1
      · simp only [h1, if_true]; exact tri_cmpI _ _ _
      · simp only [h1, if_false]
        by_cases h2 : k = 2
        · simp only [h2, if_true]; exact tri_cmpB _ _ _
        · simp only [h2, if_false]
          by_cases h3 : k = 3
          · simp only [h3, if_true]; exact tri_cmpL l v.L w.L
          · simp only [h3, if_false]; exact tri_zero
    by_cases e1 : cmpI k v.Kind = 0
    · by_cases e2 : cmpI v.Kind w.Kind = 0
      · exact tri_first hk (inner (cmpI_zero.1 e1) (cmpI_zero.1 e2))
      · have hkv := cmpI_zero.1 e1
        have e3 : cmpI k w.Kind = cmpI v.Kind w.Kind := by rw [hkv]
        have r := cmpI_rng v.Kind w.Kind
        have q := cmpV_rng (.mk k n b l) v
        rw [cmpV, ite_hz] at q
        simp only [e3, e2, ne_eq, not_false_eq_true, if_true] at q ⊢
        rw [e1] at q ⊢
        simp only [ne_eq, not_true_eq_false, if_false] at q ⊢
        unfold Tri
        omega
    · by_cases e2 : cmpI v.Kind w.Kind = 0
      · have hvw := cmpI_zero.1 e2
        have e3 : cmpI k w.Kind = cmpI k v.Kind := by rw [← hvw]
        have r := cmpI_rng k v.Kind
        have q := cmpV_rng v w
        rw [cmpV_eq, ite_hz] at q
        simp only [e3, e1, e2, ne_eq, not_false_eq_true, not_true_eq_false, if_true, if_false] at q ⊢
        unfold Tri
        omega
      · have q := tri_first hk tri_zero
        by_cases e3 : cmpI k w.Kind = 0
        · simp only [e1, e2, ne_eq, not_false_eq_true, if_true]
          have r := cmpI_rng k v.Kind
          have r2 := cmpI_rng v.Kind w.Kind
          obtain ⟨k1, k2⟩ := hk
          unfold Tri
          omega
        · simp only [e1, e2, e3, ne_eq, not_false_eq_true, if_true]
          exact hk
theorem tri_cmpL : ∀ a b c : List Api_Value, Tri (cmpL a b) (cmpL b c) (cmpL a c)
  | [], [], [] => by simp only [cmpL]; exact tri_zero
  | [], [], _ :: _ => by simp only [cmpL]; unfold Tri; omega
  | [], _ :: _, [] => by simp only [cmpL]; unfold Tri; omega
  | _ :: _, [], [] => by simp only [cmpL]; unfold Tri; omega
  | [], y :: m, z :: k => by
    have := cmpL_rng (y :: m) (z :: k)
    have e1 : cmpL [] (y :: m) = -1 := by rw [cmpL]
    have e2 : cmpL [] (z :: k) = -1 := by rw [cmpL]
    rw [e1, e2]; unfold Tri; omega
  | x :: l, [], z :: k => by
    have := cmpL_rng (x :: l) (z :: k)
    have e1 : cmpL (x :: l) [] = 1 := by rw [cmpL]
    have e2 : cmpL [] (z :: k) = -1 := by rw [cmpL]
    rw [e1, e2]; unfold Tri; omega
  | x :: l, y :: m, [] => by
    have := cmpL_rng (x :: l) (y :: m)
    have e1 : cmpL (x :: l) [] = 1 := by rw [cmpL]
    have e2 : cmpL (y :: m) [] = 1 := by rw [cmpL]
    rw [e1, e2]; unfold Tri; omega
  | x :: l, y :: m, z :: k => by
    rw [cmpL_cons, cmpL_cons, cmpL_cons]
    exact tri_first (tri_cmpV x y z) (tri_cmpL l m k)
end

theorem cmpB_anti : ∀ a b : List UInt8, cmpB b a = - cmpB a b
  | [], [] => rfl
  | [], _ :: _ => rfl
  | _ :: _, [] => rfl
  | x :: l, y :: m => by
    rw [cmpB_cons, cmpB_cons, show cmpU y x = - cmpU x y from cmpI_anti _ _, cmpB_anti l m]
    by_cases h : cmpU x y = 0
    · simp [h]
    · have : - cmpU x y ≠ 0 := by omega
      rw [if_pos this, if_pos h]
mutual
theorem cmpV_anti : ∀ a b : Api_Value, cmpV b a = - cmpV a b
  | .mk k n b l, w => by
    rw [cmpV_eq w, cmpV]
    show (if w.Kind ≠ k then cmpI w.Kind k else _) = _
    by_cases hk : k = w.Kind
    · rw [if_neg (show ¬ (w.Kind ≠ k) by simpa using hk.symm), if_neg (show ¬ (k ≠ w.Kind) by simpa using hk), ← hk]
      show (if k = 1 then cmpI w.N n else if k = 2 then cmpB w.B b else if k = 3 then cmpL w.L l else 0) = _
      by_cases h1 : k = 1
      · simp only [h1, if_true]; exact cmpI_anti _ _
      · simp only [h1, if_false]
        by_cases h2 : k = 2
        · simp only [h2, if_true]; exact cmpB_anti _ _
        · simp only [h2, if_false]
          by_cases h3 : k = 3
          · simp only [h3, if_true]; exact cmpL_anti l w.L
          · simp only [h3, if_false]; rfl
    · rw [if_pos (show w.Kind ≠ k from fun e => hk e.symm), if_pos (show k ≠ w.Kind from hk)]; exact cmpI_anti _ _
theorem cmpL_anti : ∀ a b : List Api_Value, cmpL b a = - cmpL a b
  | [], [] => by simp [cmpL]
  | [], _ :: _ => by simp [cmpL]
  | _ :: _, [] => by simp [cmpL]
  | x :: l, y :: m => by
    rw [cmpL_cons, cmpL_cons, cmpV_anti x y, cmpL_anti l m]
    by_cases h : cmpV x y = 0
    · simp [h]
    · have : - cmpV x y ≠ 0 := by omega
      rw [if_pos this, if_pos h]
end
theorem cmpV_refl (a : Api_Value) : cmpV a a = 0 := by have := cmpV_anti a a; omega

theorem revInd {α : Type} {p : List α → Prop} (h0 : p []) (hs : ∀ l c, p l → p (l ++ [c])) (l : List α) : p l := by
  have : ∀ l : List α, p l.reverse := by
    intro l
    induction l with
    | nil => exact h0
    | cons c l ih => rw [List.reverse_cons]; exact hs _ _ ih
  simpa using this l.reverse

/-- k digits, the greatest first. -/
def dig : Nat → Nat → List UInt8
  | 0, _ => []
  | k + 1, u => dig k (u / 256) ++ [UInt8.ofNat u]
def valD (l : List UInt8) : Nat := l.foldl (fun a c => a * 256 + c.toNat) 0

theorem dig_len : ∀ k u, (dig k u).length = k
  | 0, _ => rfl
  | k + 1, u => by simp [dig, dig_len k]
theorem valD_app (l : List UInt8) (c : UInt8) : valD (l ++ [c]) = valD l * 256 + c.toNat := by simp [valD]
theorem toNat_ofNat8 (u : Nat) : (UInt8.ofNat u).toNat = u % 256 := by simp
theorem valD_dig : ∀ k u, u < 256 ^ k → valD (dig k u) = u
  | 0, u, h => by have : u = 0 := by simpa using h
                  subst this; rfl
  | k + 1, u, h => by
    rw [dig, valD_app, valD_dig k (u / 256) (by rw [Nat.pow_succ] at h; exact Nat.div_lt_of_lt_mul (by rw [Nat.mul_comm]; exact h)), toNat_ofNat8]
    omega
theorem valD_lt (l : List UInt8) : valD l < 256 ^ l.length := by
  refine revInd (p := fun l => valD l < 256 ^ l.length) (by simp [valD]) (fun l c ih => ?_) l
  · rw [valD_app, List.length_append, List.length_singleton, Nat.pow_succ]
    have := c.toNat_lt
    omega
theorem dig_valD (l : List UInt8) : dig l.length (valD l) = l := by
  refine revInd (p := fun l => dig l.length (valD l) = l) rfl (fun l c ih => ?_) l
  · rw [valD_app, List.length_append, List.length_singleton, dig]
    have hc := c.toNat_lt
    have e1 : (valD l * 256 + c.toNat) / 256 = valD l := by omega
    have e2 : UInt8.ofNat (valD l * 256 + c.toNat) = c := by
      apply UInt8.toNat_inj.1
      rw [toNat_ofNat8]; omega
    rw [e1, e2, ih]

def magI (n : Int) : Nat := if n < 0 then (-(n + 1)).toNat else n.toNat
theorem magI_lt {n : Int} (h : rangeI n) : magI n < 9223372036854775808 := by
  unfold magI; obtain ⟨h1, h2⟩ := h; split <;> omega
theorem u64_of (n : Int) : ((UInt64.ofInt n).toNat : Int) = n % 18446744073709551616 := by rw [UInt64.ofInt, UInt64.toNat_ofNat']; omega
theorem u64_not (x : UInt64) : (~~~x).toNat = 18446744073709551615 - x.toNat := by rw [UInt64.toNat_not]; rfl
theorem magU {n : Int} (h : rangeI n) : (if n < 0 then (~~~(UInt64.ofInt n)).toNat else (UInt64.ofInt n).toNat) = magI n := by
  obtain ⟨h1, h2⟩ := h
  unfold magI
  by_cases hn : n < 0
  · rw [if_pos hn, if_pos hn, u64_not]
    have := u64_of n
    omega
  · rw [if_neg hn, if_neg hn]
    have := u64_of n
    omega
theorem nbI_mag {n : Int} (h : rangeI n) : nbI n = nb (magI n) := by
  have := magU h
  unfold nbI
  by_cases hn : n < 0
  · rw [if_pos hn] at this ⊢; rw [this]
  · rw [if_neg hn] at this ⊢; rw [this]

theorem dig_get : ∀ (k u i : Nat), i < k → (dig k u)[i]? = some (UInt8.ofNat (u / 256 ^ (k - 1 - i)))
  | 0, _, _, h => absurd h (Nat.not_lt_zero _)
  | k + 1, u, i, h => by
    rw [dig]
    by_cases hi : i < k
    · rw [List.getElem?_append_left (by rw [dig_len]; exact hi), dig_get k (u / 256) i hi, Nat.div_div_eq_div_mul]
      have : k + 1 - 1 - i = (k - 1 - i) + 1 := by omega
      rw [this, Nat.pow_succ, Nat.mul_comm]
    · have : i = k := by omega
      subst this
      rw [List.getElem?_append_right (by rw [dig_len]; exact Nat.le_refl _), dig_len]
      simp

theorem pow2_256 (j : Nat) : 2 ^ (8 * j) = 256 ^ j := by rw [Nat.pow_mul]

def flip8 (n : Int) (c : UInt8) : UInt8 := if n < 0 then ~~~c else c
theorem not8 (c : UInt8) : (~~~c).toNat = 255 - c.toNat := by rw [UInt8.toNat_not]; rfl

theorem byteI_eq {n : Int} (h : rangeI n) {k i : Nat} (hk : k ≤ 8) (hi : i < k) : byteI n k i = flip8 n (UInt8.ofNat (magI n / 256 ^ (k - 1 - i))) := by
  have hm := magI_lt h
  have hu := magU h
  apply UInt8.toNat_inj.1
  unfold byteI flip8
  rw [UInt64.toNat_toUInt8, e_shr64, pow2_256]
  generalize hj : k - 1 - i = j
  have hj8 : j < 8 := by omega
  by_cases hn : n < 0
  · rw [if_pos hn] at hu ⊢
    rw [u64_not] at hu
    rw [not8, toNat_ofNat8]
    have hlt := (UInt64.ofInt n).toNat_lt
    generalize (UInt64.ofInt n).toNat = U at *
    generalize magI n = m at *
    match j, hj8 with
    | 0, _ => simp; omega
    | 1, _ => simp; omega
    | 2, _ => simp; omega
    | 3, _ => simp; omega
    | 4, _ => simp; omega
    | 5, _ => simp; omega
    | 6, _ => simp; omega
    | 7, _ => simp; omega
  · rw [if_neg hn] at hu ⊢
    rw [toNat_ofNat8, hu]

theorem encI_eq {n : Int} (h : rangeI n) : encI n = tagI n :: (dig (nb (magI n)) (magI n)).map (flip8 n) := by
  unfold encI
  rw [nbI_mag h]
  congr 1
  refine List.ext_getElem? fun i => ?_
  by_cases hi : i < nb (magI n)
  · rw [List.getElem?_map, List.getElem?_map, List.getElem?_range hi, dig_get _ _ _ hi]
    simp only [Option.map_some]
    rw [byteI_eq h (nb_le _) hi]
  · rw [List.getElem?_eq_none (by simp; omega), List.getElem?_eq_none (by simp [dig_len]; omega)]

theorem nb_lt (u : Nat) (h : u < 256 ^ 8) : u < 256 ^ nb u := by
  unfold nb
  have key : ∀ f u, u < 256 ^ f → u < 256 ^ nbF f u := by
    intro f
    induction f with
    | zero => intro u h; simpa [nbF] using h
    | succ f ih =>
      intro u h
      unfold nbF
      split
      · rename_i e; subst e; simp
      · rename_i e
        have := ih (u / 256) (by rw [Nat.pow_succ] at h; exact Nat.div_lt_of_lt_mul (by rw [Nat.mul_comm]; exact h))
        rw [Nat.pow_succ]
        omega
  exact key 8 u h
theorem nb_ge (u : Nat) (h : u < 256 ^ 8) (h0 : u ≠ 0) : 256 ^ (nb u - 1) ≤ u := by
  unfold nb
  have key : ∀ f u, u < 256 ^ f → u ≠ 0 → 256 ^ (nbF f u - 1) ≤ u ∧ 0 < nbF f u := by
    intro f
    induction f with
    | zero => intro u h h0; exact absurd (by simpa using h) h0
    | succ f ih =>
      intro u h h0
      unfold nbF
      rw [if_neg h0]
      by_cases h1 : u / 256 = 0
      · have : nbF f (u / 256) = 0 := by
          rw [h1]
          cases f with
          | zero => rfl
          | succ f => simp [nbF]
        rw [this]
        simp; omega
      · obtain ⟨i1, i2⟩ := ih (u / 256) (by rw [Nat.pow_succ] at h; exact Nat.div_lt_of_lt_mul (by rw [Nat.mul_comm]; exact h)) h1
        obtain ⟨m, hm⟩ : ∃ m, nbF f (u / 256) = m + 1 := ⟨nbF f (u / 256) - 1, by omega⟩
        rw [hm] at i1 ⊢
        simp only [Nat.add_sub_cancel] at i1 ⊢
        refine ⟨?_, by omega⟩
        rw [Nat.pow_succ]; omega
  exact (key 8 u h h0).1
theorem nb_zero_iff (u : Nat) (h : u < 256 ^ 8) : nb u = 0 ↔ u = 0 := by
  constructor
  · intro e
    have := nb_lt u h
    rw [e] at this
    simpa using this
  · rintro rfl; rfl

theorem shrI_nat {n s : Nat} (hs : s ≤ 64) : shrI (n : Int) (s : Int) = ((n / 2 ^ s : Nat) : Int) := by
  unfold shrI
  have : min (s : Int).toNat 64 = s := by omega
  rw [this, Int.fdiv_eq_ediv_of_nonneg _ (by exact Int.le_of_lt (Int.pow_pos (by decide)))]
  norm_cast

theorem byte_nat (x : Nat) : UInt8.ofInt (x : Int) = UInt8.ofNat x := by
  apply UInt8.toNat_inj.1
  rw [UInt8.ofInt, UInt8.toNat_ofNat', toNat_ofNat8]
  omega

theorem tagI_eq {n : Int} (h : rangeI n) : tagI n = if n < 0 then UInt8.ofInt (31 - (nb (magI n) : Int)) else UInt8.ofInt (32 + (nb (magI n) : Int)) := by
  unfold tagI
  rw [nbI_mag h]

theorem shpV_eq (v : Api_Value) : shpV v = if v.Kind = 1 then (0, v.B.length == 0 && v.L.length == 0) else if v.Kind = 2 then (0, v.N == 0 && v.L.length == 0) else if v.Kind = 3 then (if v.N = 0 ∧ v.B.length = 0 then shpL 0 v.L else (0, false)) else (0, false) := by
  cases v with
  | mk k n b l => unfold shpV; rfl
theorem shpL_all : ∀ (l : List Api_Value) (d : Int), (shpL d l).2 = l.all fun x => (shpV x).2
  | [], d => by rw [shpL_nil]; rfl
  | x :: l, d => by
    rw [shpL_cons, List.all_cons]
    cases h : (shpV x).2
    · rw [if_neg (by simp)]; rfl
    · rw [if_pos rfl, shpL_all l]; rfl

theorem all_drop {l : List Api_Value} {p : Api_Value → Bool} {k : Nat} (h : k < l.length) : (l.drop k).all p = (p (nth l k) && (l.drop (k + 1)).all p) := by
  rw [List.drop_eq_getElem_cons h, List.all_cons, nth_lt h]

mutual
def nestV : Api_Value → Int
  | .mk k n b l => if k = 3 then nestL 0 l + 1 else nestL 0 l
def nestL (d : Int) : List Api_Value → Int
  | [] => d
  | x :: l => nestL (mx64 d (nestV x)) l
end
theorem nestV_eq (v : Api_Value) : nestV v = if v.Kind = 3 then nestL 0 v.L + 1 else nestL 0 v.L := by
  cases v with
  | mk k n b l => rw [nestV]; rfl
mutual
theorem nestV_le : ∀ v : Api_Value, 0 ≤ nestV v ∧ nestV v ≤ szV v
  | .mk k n b l => by
    have h := nestL_le 0 l
    rw [nestV, szV]
    split <;> omega
theorem nestL_le : ∀ (d : Int) (l : List Api_Value), 0 ≤ d → 0 ≤ nestL d l ∧ nestL d l ≤ max d (szVs l)
  | d, [] => by intro h; rw [nestL]; omega
  | d, x :: l => by
    intro h
    have h1 := nestV_le x
    have hm : 0 ≤ mx64 d (nestV x) ∧ mx64 d (nestV x) ≤ max d (szV x) := by unfold mx64; split <;> omega
    have h2 := nestL_le (mx64 d (nestV x)) l hm.1
    rw [nestL, szVs]
    omega
end
theorem nestL_drop {d : Int} {l : List Api_Value} {k : Nat} (h : k < l.length) : nestL d (l.drop k) = nestL (mx64 d (nestV (nth l k))) (l.drop (k + 1)) := by
  rw [List.drop_eq_getElem_cons h, nestL, nth_lt h]

mutual
theorem nest_shp : ∀ v : Api_Value, (shpV v).2 = true → nestV v = (shpV v).1
  | .mk k n b l => by
    intro h
    rw [shpV] at h ⊢
    rw [nestV]
    by_cases k1 : k = 1
    · rw [if_pos k1] at h ⊢
      have hl : l.length = 0 := by simp at h; simp [h.2]
      have : l = [] := List.length_eq_zero_iff.1 hl
      subst this
      rw [if_neg (by omega), nestL]
    · rw [if_neg k1] at h ⊢
      by_cases k2 : k = 2
      · rw [if_pos k2] at h ⊢
        have hl : l.length = 0 := by simp at h; simp [h.2]
        have : l = [] := List.length_eq_zero_iff.1 hl
        subst this
        rw [if_neg (by omega), nestL]
      · rw [if_neg k2] at h ⊢
        by_cases k3 : k = 3
        · rw [if_pos k3] at h ⊢
          rw [if_pos k3]
          by_cases hc : n = 0 ∧ b.length = 0
          · rw [if_pos hc] at h ⊢
            exact nest_shpL l 0 h
          · rw [if_neg hc] at h; cases h
        · rw [if_neg k3] at h; cases h
theorem nest_shpL : ∀ (l : List Api_Value) (d : Int), (shpL d l).2 = true → nestL d l + 1 = (shpL d l).1
  | [], d => by intro _; rw [shpL_nil, nestL]
  | x :: l, d => by
    intro h
    rw [shpL_cons] at h ⊢
    by_cases hx : (shpV x).2 = true
    · rw [if_pos hx] at h ⊢
      rw [nestL, nest_shp x hx]
      exact nest_shpL l _ h
    · rw [if_neg hx] at h; cases h
end
theorem escB_take {b : List UInt8} {k : Nat} (h : k < b.length) : escB (b.take (k + 1)) = if nth b k = 0 then escB (b.take k) ++ [0, 255] else escB (b.take k) ++ [nth b k] := by
  rw [List.take_succ_eq_append_getElem h, escB_app, nth_lt h, escB]
  split <;> simp [escB, *]
theorem encL_take1 {l : List Api_Value} {k : Nat} (h : k < l.length) : encL (l.take (k + 1)) = encL (l.take k) ++ encV (nth l k) := by
  rw [List.take_succ_eq_append_getElem h, encL_app, nth_lt h, encL, encL, List.append_nil]
theorem escB_take_len (b : List UInt8) (k : Nat) : (escB (b.take k)).length ≤ 2 * b.length := by
  have := escB_len (b.take k)
  have h2 : (b.take k).length ≤ b.length := by simp; omega
  omega

mutual
def sameV : Api_Value → Api_Value → Bool
  | .mk k n b l, w => k == w.Kind && n == w.N && b == w.B && sameL l w.L
def sameL : List Api_Value → List Api_Value → Bool
  | [], [] => true
  | x :: l, y :: m => sameV x y && sameL l m
  | [], _ :: _ => false
  | _ :: _, [] => false
end
mutual
theorem sameV_iff : ∀ v w : Api_Value, sameV v w = true ↔ v = w
  | .mk k n b l, .mk k' n' b' l' => by
    rw [sameV]
    simp only [Bool.and_eq_true, beq_iff_eq]
    rw [sameL_iff l _]
    show ((k = k' ∧ n = n') ∧ b = b') ∧ l = l' ↔ _
    constructor
    · rintro ⟨⟨⟨rfl, rfl⟩, rfl⟩, rfl⟩; rfl
    · intro h; cases h; exact ⟨⟨⟨rfl, rfl⟩, rfl⟩, rfl⟩
theorem sameL_iff : ∀ l m : List Api_Value, sameL l m = true ↔ l = m
  | [], [] => by simp [sameL]
  | [], _ :: _ => by simp [sameL]
  | _ :: _, [] => by simp [sameL]
  | x :: l, y :: m => by
    rw [sameL, Bool.and_eq_true, sameV_iff x y, sameL_iff l m]
    simp
end
theorem sameV_eq (v w : Api_Value) : sameV v w = (v.Kind == w.Kind && v.N == w.N && v.B == w.B && sameL v.L w.L) := by
  cases v with
  | mk k n b l => rw [sameV]; rfl
theorem cmpB_zero (a b : List UInt8) : cmpB a b = 0 ↔ a = b := by
  constructor
  · intro h
    induction a generalizing b with
    | nil => cases b with
      | nil => rfl
      | cons y m => cases h
    | cons x l ih => cases b with
      | nil => cases h
      | cons y m =>
        rw [cmpB] at h
        by_cases hxy : x = y
        · rw [if_pos hxy] at h
          rw [hxy, ih m h]
        · rw [if_neg hxy] at h
          split at h <;> cases h
  · rintro rfl
    have := cmpB_anti a a
    omega
theorem sameL_drop {a b : List Api_Value} {k : Nat} (ha : k < a.length) (hb : k < b.length) : sameL (a.drop k) (b.drop k) = (sameV (nth a k) (nth b k) && sameL (a.drop (k + 1)) (b.drop (k + 1))) := by
  rw [List.drop_eq_getElem_cons ha, List.drop_eq_getElem_cons hb, nth_lt ha, nth_lt hb, sameL]

theorem sameV_self (a : Api_Value) : sameV a a = true := (sameV_iff a a).2 rfl
abbrev DRes := (Api_Value × List UInt8) ⊕ Int
def vInt (n : Int) : Api_Value := .mk 1 n [] []
def vText (b : List UInt8) : Api_Value := .mk 2 0 b []
def vList (l : List Api_Value) : Api_Value := .mk 3 0 [] l
def vZero : Api_Value := .mk 0 0 [] []

def rdT : List UInt8 → List UInt8 → DRes
  | acc, [] => .inr 5
  | acc, [c] => .inr 5
  | acc, c :: d :: b => if c ≠ 0 then rdT (acc ++ [c]) (d :: b) else if d = 0 then .inl (vText acc, b) else if d = 255 then rdT (acc ++ [0]) b else .inr 4

def rdN (k : Nat) (fl : Bool) : Nat → Nat → List UInt8 → (Nat × List UInt8) ⊕ Int
  | 0, u, b => .inl (u, b)
  | m + 1, u, [] => .inr 5
  | m + 1, u, c :: b => if k = m + 1 ∧ ((if fl then ~~~c else c) = 0 ∨ (k = 8 ∧ (if fl then ~~~c else c) > 127)) then .inr 4 else rdN k fl m (u * 256 + (if fl then ~~~c else c).toNat) b

def isInt (t : UInt8) : Prop := 23 ≤ t.toNat ∧ t.toNat ≤ 40
def kOf (t : UInt8) : Nat := if t.toNat < 32 then 31 - t.toNat else t.toNat - 32
def negOf (t : UInt8) : Bool := decide (t.toNat < 32)
def rdI (t : UInt8) (b : List UInt8) : DRes := match rdN (kOf t) (negOf t) (kOf t) 0 b with
  | .inl (u, r) => .inl (vInt (if negOf t = true then -(u : Int) - 1 else (u : Int)), r)
  | .inr e => .inr e

inductive Rd : UInt8 ⊕ List Api_Value → List UInt8 → DRes → Prop
  | int (t b) (h : isInt t) : Rd (.inl t) b (rdI t b)
  | text (b) : Rd (.inl 48) b (rdT [] b)
  | lst (b o) (h : Rd (.inr []) b o) : Rd (.inl 64) b o
  | bad (t b) (h : ¬ isInt t) (h1 : t ≠ 48) (h2 : t ≠ 64) : Rd (.inl t) b (.inr 4)
  | lend (acc) : Rd (.inr acc) [] (.inr 5)
  | lfin (acc b) : Rd (.inr acc) (0 :: b) (.inl (vList acc, b))
  | lerr (acc c b e) (hc : c ≠ 0) (h : Rd (.inl c) b (.inr e)) : Rd (.inr acc) (c :: b) (.inr e)
  | lstep (acc c b v b' o) (hc : c ≠ 0) (h : Rd (.inl c) b (.inl (v, b'))) (h2 : Rd (.inr (acc ++ [v])) b' o) : Rd (.inr acc) (c :: b) o

theorem rd_det {s : UInt8 ⊕ List Api_Value} {b : List UInt8} {o : DRes} (h : Rd s b o) : ∀ {o' : DRes}, Rd s b o' → o = o' := by
  induction h with
  | int t b h =>
    intro o' h'
    cases h' with
    | int => rfl
    | text => exact absurd h.2 (by decide)
    | lst => exact absurd h.2 (by decide)
    | bad _ _ h1 => exact (h1 h).elim
  | text b =>
    intro o' h'
    cases h' with
    | int _ _ h => exact absurd h.2 (by decide)
    | text => rfl
    | bad _ _ _ h1 => exact (h1 rfl).elim
  | lst b o h ih =>
    intro o' h'
    cases h' with
    | int _ _ h => exact absurd h.2 (by decide)
    | lst _ _ h2 => exact ih h2
    | bad _ _ _ _ h2 => exact (h2 rfl).elim
  | bad t b h h1 h2 =>
    intro o' h'
    cases h' with
    | int _ _ h' => exact (h h').elim
    | text => exact (h1 rfl).elim
    | lst => exact (h2 rfl).elim
    | bad => rfl
  | lend acc => intro o' h'; cases h'; rfl
  | lfin acc b =>
    intro o' h'
    cases h' with
    | lfin => rfl
    | lerr _ _ _ _ hc => exact (hc rfl).elim
    | lstep _ _ _ _ _ _ hc => exact (hc rfl).elim
  | lerr acc c b e hc h ih =>
    intro o' h'
    cases h' with
    | lfin => exact (hc rfl).elim
    | lerr _ _ _ _ _ h2 => exact congrArg _ (Sum.inr.inj (ih h2))
    | lstep _ _ _ _ _ _ _ h2 => cases ih h2
  | lstep acc c b v b' o hc h h2 ih ih2 =>
    intro o' h'
    cases h' with
    | lfin => exact (hc rfl).elim
    | lerr _ _ _ _ _ h3 => cases ih h3
    | lstep _ _ _ _ _ _ _ h3 h4 => cases ih h3; exact ih2 h4

theorem rdT_cons {acc : List UInt8} {c : UInt8} {b : List UInt8} (hc : c ≠ 0) : rdT acc (c :: b) = rdT (acc ++ [c]) b := by
  cases b with
  | nil => simp [rdT]
  | cons d b => rw [rdT, if_pos hc]
theorem rdT_esc : ∀ (a acc r : List UInt8), rdT acc (escB a ++ 0 :: 0 :: r) = .inl (vText (acc ++ a), r)
  | [], acc, r => by simp [escB, rdT]
  | c :: a, acc, r => by
    by_cases hc : c = 0
    · subst hc
      rw [escB, if_pos rfl]
      show rdT acc (0 :: 255 :: (escB a ++ 0 :: 0 :: r)) = _
      rw [rdT, if_neg (by simp), if_neg (by decide), if_pos rfl, rdT_esc a (acc ++ [0]) r]
      simp
    · rw [escB, if_neg hc]
      show rdT acc (c :: (escB a ++ 0 :: 0 :: r)) = _
      rw [rdT_cons hc, rdT_esc a (acc ++ [c]) r]
      simp
theorem rdT_inv : ∀ (acc b : List UInt8) {v : Api_Value} {r : List UInt8}, rdT acc b = .inl (v, r) → ∃ a, v = vText (acc ++ a) ∧ b = escB a ++ 0 :: 0 :: r
  | acc, [], v, r, h => by simp [rdT] at h
  | acc, [c], v, r, h => by simp [rdT] at h
  | acc, c :: d :: b, v, r, h => by
    rw [rdT] at h
    by_cases hc : c = 0
    · rw [if_neg (by simp [hc])] at h
      by_cases hd : d = 0
      · rw [if_pos hd] at h
        cases h
        exact ⟨[], by simp, by simp [escB, hc, hd]⟩
      · rw [if_neg hd] at h
        by_cases hd2 : d = 255
        · rw [if_pos hd2] at h
          obtain ⟨a, e1, e2⟩ := rdT_inv _ b h
          exact ⟨0 :: a, by rw [e1]; simp, by simp [escB, hc, hd2, e2]⟩
        · rw [if_neg hd2] at h; cases h
    · rw [if_pos hc] at h
      obtain ⟨a, e1, e2⟩ := rdT_inv _ (d :: b) h
      exact ⟨c :: a, by rw [e1]; simp, by simp [escB, hc, e2]⟩
theorem rdT_pre : ∀ (a acc p : List UInt8), p.length < (escB a).length + 2 → p <+: escB a ++ [0, 0] → rdT acc p = .inr 5
  | a, acc, [], _, _ => by simp [rdT]
  | a, acc, [c], _, _ => by simp [rdT]
  | [], acc, c :: d :: p, hl, _ => by
    simp only [escB, List.length_cons, List.length_nil] at hl
    omega
  | x :: a, acc, c :: d :: p, hl, hp => by
    by_cases hx : x = 0
    · subst hx
      rw [escB, if_pos rfl] at hl hp
      simp only [List.cons_append, List.cons_prefix_cons] at hp
      obtain ⟨rfl, rfl, hp⟩ := hp
      rw [rdT, if_neg (by simp), if_neg (by decide), if_pos rfl]
      exact rdT_pre a _ p (by simp at hl; omega) hp
    · rw [escB, if_neg hx] at hl hp
      simp only [List.cons_append, List.cons_prefix_cons] at hp
      obtain ⟨rfl, hp⟩ := hp
      rw [rdT, if_pos hx]
      exact rdT_pre a _ (d :: p) (by simp at hl ⊢; omega) hp

def fl8 (fl : Bool) (c : UInt8) : UInt8 := if fl then ~~~c else c
theorem fl8_fl8 (fl : Bool) (c : UInt8) : fl8 fl (fl8 fl c) = c := by cases fl <;> simp [fl8]
theorem rdN_cons {k : Nat} {fl : Bool} {m u : Nat} {c : UInt8} {b : List UInt8} : rdN k fl (m + 1) u (c :: b) = if k = m + 1 ∧ (fl8 fl c = 0 ∨ (k = 8 ∧ fl8 fl c > 127)) then .inr 4 else rdN k fl m (u * 256 + (fl8 fl c).toNat) b := rfl
theorem valF (u : Nat) : ∀ d : List UInt8, d.foldl (fun a c => a * 256 + c.toNat) u = u * 256 ^ d.length + valD d := by
  intro d
  refine revInd (p := fun d => d.foldl (fun a c => a * 256 + c.toNat) u = u * 256 ^ d.length + valD d) (by simp [valD]) (fun l c ih => ?_) d
  rw [List.foldl_append, List.foldl_cons, List.foldl_nil, ih, valD_app, List.length_append, List.length_singleton, Nat.pow_succ]
  have : u * (256 ^ l.length * 256) = u * 256 ^ l.length * 256 := by rw [Nat.mul_assoc]
  omega
/-- The digits read. -/
theorem rdN_run {k : Nat} {fl : Bool} : ∀ (d : List UInt8) (u : Nat) (r : List UInt8), (d.length = k → ∀ c t, d = c :: t → ¬ (c = 0 ∨ (k = 8 ∧ c > 127))) → d.length ≤ k →
    rdN k fl d.length u (d.map (fl8 fl) ++ r) = .inl (d.foldl (fun a c => a * 256 + c.toNat) u, r)
  | [], u, r, _, _ => rfl
  | c :: d, u, r, h, hk => by
    show rdN k fl (d.length + 1) u (fl8 fl c :: (d.map (fl8 fl) ++ r)) = _
    rw [rdN_cons, fl8_fl8, if_neg (fun hh => h (by simpa using hh.1.symm) c d rfl hh.2), rdN_run d _ r (fun e => by simp at hk; omega) (by simp at hk; omega)]
    rfl
theorem rdN_inv {k : Nat} {fl : Bool} : ∀ (m u : Nat) (b : List UInt8) {x : Nat} {r : List UInt8}, rdN k fl m u b = .inl (x, r) →
    ∃ d : List UInt8, d.length = m ∧ b = d.map (fl8 fl) ++ r ∧ x = d.foldl (fun a c => a * 256 + c.toNat) u ∧ (k = m → ∀ c t, d = c :: t → ¬ (c = 0 ∨ (k = 8 ∧ c > 127)))
  | 0, u, b, x, r, h => by
    cases h
    exact ⟨[], rfl, rfl, rfl, fun _ c t e => by cases e⟩
  | m + 1, u, [], x, r, h => by cases h
  | m + 1, u, c :: b, x, r, h => by
    rw [rdN_cons] at h
    split at h
    · cases h
    · rename_i hc
      obtain ⟨d, e1, e2, e3, e4⟩ := rdN_inv m _ b h
      refine ⟨fl8 fl c :: d, by simp [e1], by simp [e2, fl8_fl8], by simp [e3], fun hk c' t e => ?_⟩
      cases e
      exact fun hh => hc ⟨hk, hh⟩
theorem rdN_pre {k : Nat} {fl : Bool} : ∀ (d : List UInt8) (u : Nat) (p : List UInt8), (d.length = k → ∀ c t, d = c :: t → ¬ (c = 0 ∨ (k = 8 ∧ c > 127))) → d.length ≤ k → p.length < d.length → p <+: d.map (fl8 fl) → rdN k fl d.length u p = .inr 5
  | [], u, p, _, _, hl, _ => by simp at hl
  | c :: d, u, [], _, _, _, _ => rfl
  | c :: d, u, x :: p, h, hk, hl, hp => by
    simp only [List.map_cons, List.cons_prefix_cons] at hp
    obtain ⟨rfl, hp⟩ := hp
    show rdN k fl (d.length + 1) u (fl8 fl c :: p) = _
    rw [rdN_cons, fl8_fl8, if_neg (fun hh => h (by simpa using hh.1.symm) c d rfl hh.2)]
    exact rdN_pre d _ p (fun e => by simp at hk; omega) (by simp at hk; omega) (by simpa using hl) hp
theorem tag_nat {n : Int} (h : rangeI n) : (tagI n).toNat = if n < 0 then 31 - nb (magI n) else 32 + nb (magI n) := by
  have h8 := nb_le (magI n)
  rw [tagI_eq h]
  by_cases hn : n < 0
  · rw [if_pos hn, if_pos hn, UInt8.ofInt, UInt8.toNat_ofNat']; omega
  · rw [if_neg hn, if_neg hn, UInt8.ofInt, UInt8.toNat_ofNat']; omega
theorem tag_int {n : Int} (h : rangeI n) : isInt (tagI n) ∧ kOf (tagI n) = nb (magI n) ∧ negOf (tagI n) = decide (n < 0) := by
  have h8 := nb_le (magI n)
  have ht := tag_nat h
  unfold isInt kOf negOf
  by_cases hn : n < 0
  · rw [if_pos hn] at ht
    rw [ht]
    refine ⟨by omega, ?_, ?_⟩
    · rw [if_pos (by omega)]; omega
    · simp [hn]; omega
  · rw [if_neg hn] at ht
    rw [ht]
    refine ⟨by omega, ?_, ?_⟩
    · rw [if_neg (by omega)]; omega
    · simp [hn]
theorem magI_back {n : Int} : (if n < 0 then -((magI n : Nat) : Int) - 1 else ((magI n : Nat) : Int)) = n := by
  unfold magI
  by_cases hn : n < 0
  · rw [if_pos hn, if_pos hn]; omega
  · rw [if_neg hn, if_neg hn]; omega
theorem flip_fl (n : Int) : flip8 n = fl8 (decide (n < 0)) := by
  funext c
  unfold flip8 fl8
  by_cases hn : n < 0 <;> simp [hn]

/-- The first digit of a number of so many digits is not 0, and below 128 if there are eight. -/
theorem dig_head {u : Nat} (hu : u < 9223372036854775808) {c : UInt8} {t : List UInt8} (h : dig (nb u) u = c :: t) : ¬ (c = 0 ∨ (nb u = 8 ∧ c > 127)) := by
  have hu8 : u < 256 ^ 8 := Nat.lt_trans hu (by decide)
  have hl := dig_len (nb u) u
  rw [h, List.length_cons] at hl
  have hv := valD_dig (nb u) u (nb_lt u hu8)
  rw [h] at hv
  have e : valD (c :: t) = c.toNat * 256 ^ t.length + valD t := by
    unfold valD
    rw [List.foldl_cons, valF]
    simp [valD]
  rw [e] at hv
  have hvt := valD_lt t
  have h0 : u ≠ 0 := fun e => by rw [e, nb_zero] at hl; omega
  have hge := nb_ge u hu8 h0
  rw [show nb u - 1 = t.length by omega] at hge
  rintro (rfl | ⟨h8, hc⟩)
  · simp at hv; omega
  · rw [h8] at hl
    have ht : t.length = 7 := by omega
    rw [ht] at hv
    have : c.toNat > 127 := by rw [gt_iff_lt, UInt8.lt_iff_toNat_lt] at hc; exact hc
    have h7 : (256 : Nat) ^ 7 = 72057594037927936 := by decide
    rw [h7] at hv
    omega

theorem rdI_enc {n : Int} (h : rangeI n) (r : List UInt8) : rdI (tagI n) ((dig (nb (magI n)) (magI n)).map (flip8 n) ++ r) = .inl (vInt n, r) := by
  obtain ⟨_, hk, hn⟩ := tag_int h
  have hm := magI_lt h
  unfold rdI
  rw [hk, hn, flip_fl]
  have := rdN_run (k := nb (magI n)) (fl := decide (n < 0)) (dig (nb (magI n)) (magI n)) 0 r (fun _ c t e => dig_head hm e) (by rw [dig_len]; exact Nat.le_refl _)
  rw [dig_len] at this
  rw [this]
  simp only
  rw [valF, Nat.zero_mul, Nat.zero_add, valD_dig _ _ (nb_lt _ (Nat.lt_trans hm (by decide)))]
  have hb := magI_back (n := n)
  by_cases hn0 : n < 0
  · rw [if_pos hn0] at hb; simp [hn0, hb]
  · rw [if_neg hn0] at hb; simp [hn0, hb]

theorem rdI_pre {n : Int} (h : rangeI n) {p : List UInt8} (hl : p.length < nb (magI n)) (hp : p <+: (dig (nb (magI n)) (magI n)).map (flip8 n)) : rdI (tagI n) p = .inr 5 := by
  obtain ⟨_, hk, hn⟩ := tag_int h
  have hm := magI_lt h
  unfold rdI
  rw [hk, hn]
  rw [flip_fl] at hp
  have := rdN_pre (k := nb (magI n)) (fl := decide (n < 0)) (dig (nb (magI n)) (magI n)) 0 p (fun _ c t e => dig_head hm e) (by rw [dig_len]; exact Nat.le_refl _) (by rw [dig_len]; exact hl) hp
  rw [dig_len] at this
  rw [this]

theorem nb_val {d : List UInt8} (hd : d.length ≤ 8) (h0 : ∀ c t, d = c :: t → c ≠ 0) : nb (valD d) = d.length := by
  have hlt := valD_lt d
  have h8 : valD d < 256 ^ 8 := Nat.lt_of_lt_of_le hlt (Nat.pow_le_pow_right (by decide) hd)
  cases d with
  | nil => rfl
  | cons c t =>
    have hc := h0 c t rfl
    have hc' : c.toNat ≠ 0 := fun e => hc (UInt8.toNat_inj.1 (by rw [e]; rfl))
    have e : valD (c :: t) = c.toNat * 256 ^ t.length + valD t := by
      show List.foldl _ _ _ = _
      rw [List.foldl_cons, valF]
      simp [valD]
    have hge : 256 ^ t.length ≤ valD (c :: t) := by
      rw [e]
      have : 1 * 256 ^ t.length ≤ c.toNat * 256 ^ t.length := Nat.mul_le_mul_right _ (by omega)
      omega
    have h1 := nb_lt _ h8
    have hnz : valD (c :: t) ≠ 0 := by
      have : 0 < 256 ^ t.length := Nat.pow_pos (by decide)
      omega
    have h2 := nb_ge _ h8 hnz
    rw [List.length_cons] at hlt ⊢
    have a1 : t.length < nb (valD (c :: t)) := (Nat.pow_lt_pow_iff_right (by decide : 1 < 256)).1 (Nat.lt_of_le_of_lt hge h1)
    have a2 : nb (valD (c :: t)) - 1 < t.length + 1 := (Nat.pow_lt_pow_iff_right (by decide : 1 < 256)).1 (Nat.lt_of_le_of_lt h2 hlt)
    omega

theorem rdI_inv {t : UInt8} {b r : List UInt8} {v : Api_Value} (ht : isInt t) (h : rdI t b = .inl (v, r)) : ∃ n, rangeI n ∧ v = vInt n ∧ t :: b = encI n ++ r := by
  unfold rdI at h
  have hk : kOf t ≤ 8 := by unfold kOf; obtain ⟨h1, h2⟩ := ht; split <;> omega
  split at h
  case h_2 => cases h
  rename_i u r' hr
  cases h
  obtain ⟨d, hd, hb, hu, hc⟩ := rdN_inv _ _ _ hr
  rw [valF, Nat.zero_mul, Nat.zero_add] at hu
  have hcc := hc rfl
  have hnb : nb (valD d) = d.length := nb_val (by omega) (fun c t e => fun e0 => hcc c t e (.inl e0))
  have hlt := valD_lt d
  have hlt63 : valD d < 9223372036854775808 := by
    rcases Nat.lt_or_ge d.length 8 with h7 | h8
    · have : (256 : Nat) ^ d.length ≤ 256 ^ 7 := Nat.pow_le_pow_right (by decide) (by omega)
      have h7' : (256 : Nat) ^ 7 = 72057594037927936 := by decide
      omega
    · cases d with
      | nil => simp at h8
      | cons c t =>
        have h3 := hcc c t rfl
        have hl : t.length = 7 := by simp at hd h8; omega
        have hcv : ¬ c > 127 := fun hh => h3 (.inr ⟨by simp at hd; omega, hh⟩)
        have hcn : c.toNat ≤ 127 := by
          rw [gt_iff_lt, UInt8.lt_iff_toNat_lt] at hcv
          have : (127 : UInt8).toNat = 127 := rfl
          omega
        have e : valD (c :: t) = c.toNat * 256 ^ t.length + valD t := by
          show List.foldl _ _ _ = _
          rw [List.foldl_cons, valF]
          simp [valD]
        have hvt := valD_lt t
        have h7' : (256 : Nat) ^ 7 = 72057594037927936 := by decide
        rw [hl, h7'] at hvt
        rw [e, hl, h7']
        omega
  subst hu
  have hdd := dig_valD d
  rw [← hnb] at hdd
  by_cases hneg : negOf t = true
  · rw [if_pos hneg] at *
    have h32 : t.toNat < 32 := by simpa [negOf] using hneg
    refine ⟨-(valD d : Int) - 1, ⟨by omega, by omega⟩, rfl, ?_⟩
    have hm : magI (-(valD d : Int) - 1) = valD d := by unfold magI; rw [if_pos (by omega)]; omega
    rw [encI_eq ⟨by omega, by omega⟩, hm, hdd, hb, flip_fl, hneg, List.cons_append]
    have e1 : decide (-(valD d : Int) - 1 < 0) = true := by simp; omega
    rw [e1]
    congr 1
    apply UInt8.toNat_inj.1
    rw [tag_nat ⟨by omega, by omega⟩, if_pos (by omega), hm, hnb, hd]
    unfold kOf
    rw [if_pos h32]
    obtain ⟨q1, q2⟩ := ht
    omega
  · have hneg' : negOf t = false := by simpa using hneg
    rw [if_neg hneg] at *
    have h32 : ¬ t.toNat < 32 := by simpa [negOf] using hneg
    refine ⟨(valD d : Int), ⟨by omega, by omega⟩, rfl, ?_⟩
    have hm : magI (valD d : Int) = valD d := by unfold magI; rw [if_neg (by omega)]; omega
    rw [encI_eq ⟨by omega, by omega⟩, hm, hdd, hb, flip_fl, hneg', List.cons_append]
    have e1 : decide ((valD d : Int) < 0) = false := by simp
    rw [e1]
    congr 1
    apply UInt8.toNat_inj.1
    rw [tag_nat ⟨by omega, by omega⟩, if_neg (by omega), hm, hnb, hd]
    unfold kOf
    rw [if_neg h32]
    obtain ⟨q1, q2⟩ := ht
    omega

def wfV (v : Api_Value) : Prop := (shpV v).2 = true
theorem wf_list {l : List Api_Value} : wfV (vList l) ↔ ∀ x ∈ l, wfV x := by
  unfold wfV vList
  rw [shpV_eq]
  show ((if (3 : Int) = 1 then _ else if (3 : Int) = 2 then _ else if (3 : Int) = 3 then (if (0 : Int) = 0 ∧ ([] : List UInt8).length = 0 then shpL 0 l else (0, false)) else (0, false) : Int × Bool).2 = true) ↔ _
  rw [if_neg (by decide), if_neg (by decide), if_pos rfl, if_pos ⟨rfl, rfl⟩, shpL_all, List.all_eq_true]
theorem wf_cases {v : Api_Value} (h : wfV v) : v = vInt v.N ∨ v = vText v.B ∨ (v = vList v.L ∧ ∀ x ∈ v.L, wfV x) := by
  unfold wfV at h
  rw [shpV_eq] at h
  cases v with
  | mk k n b l =>
    change (if k = 1 then ((0 : Int), b.length == 0 && l.length == 0) else if k = 2 then (0, n == 0 && l.length == 0) else if k = 3 then (if n = 0 ∧ b.length = 0 then shpL 0 l else (0, false)) else (0, false)).2 = true at h
    by_cases h1 : k = 1
    · rw [if_pos h1] at h
      simp at h
      left; rw [h1, h.1, h.2]; rfl
    · rw [if_neg h1] at h
      by_cases h2 : k = 2
      · rw [if_pos h2] at h
        simp at h
        right; left; rw [h2, h.1, h.2]; rfl
      · rw [if_neg h2] at h
        by_cases h3 : k = 3
        · rw [if_pos h3] at h
          by_cases hc : n = 0 ∧ b.length = 0
          · rw [if_pos hc, shpL_all, List.all_eq_true] at h
            right; right
            have hb : b = [] := List.length_eq_zero_iff.1 hc.2
            subst h3
            obtain ⟨rfl, _⟩ := hc
            subst hb
            exact ⟨rfl, h⟩
          · rw [if_neg hc] at h; cases h
        · rw [if_neg h3] at h; cases h
theorem wf_int (n : Int) : wfV (vInt n) := by unfold wfV vInt; rw [shpV_eq]; rfl
theorem wf_text (b : List UInt8) : wfV (vText b) := by unfold wfV vText; rw [shpV_eq]; rfl
theorem enc_int (n : Int) : encV (vInt n) = encI n := by rw [encV_eq]; rfl
theorem enc_text (b : List UInt8) : encV (vText b) = 48 :: (escB b ++ [0, 0]) := by rw [encV_eq]; rfl
theorem enc_list (l : List Api_Value) : encV (vList l) = 64 :: (encL l ++ [0]) := by rw [encV_eq]; rfl
theorem ok_list {l : List Api_Value} (h : okV (vList l)) : ∀ x ∈ l, okV x := ((okV_eq _).1 h).2.2
theorem rng (n : Nat) (h : n ≤ 10) : rangeI (n : Int) := ⟨by omega, by omega⟩
theorem ok_listI {l : List Api_Value} (h : ∀ x ∈ l, okV x) : okV (vList l) := (okV_eq _).2 ⟨rng 3 (by decide), rng 0 (by decide), h⟩
theorem ok_intI {n : Int} (h : rangeI n) : okV (vInt n) := (okV_eq _).2 ⟨rng 1 (by decide), h, fun x hx => by cases hx⟩
theorem ok_textI (b : List UInt8) : okV (vText b) := (okV_eq _).2 ⟨rng 2 (by decide), rng 0 (by decide), fun x hx => by cases hx⟩
theorem ok_int {n : Int} (h : okV (vInt n)) : rangeI n := ((okV_eq _).1 h).2.1

/-- The encoding's first byte, and the rest; the decoder reads it whole, and no proper beginning of it. -/
def Good (v : Api_Value) : Prop := ∃ t tl, encV v = t :: tl ∧ t ≠ 0 ∧ (∀ r, Rd (.inl t) (tl ++ r) (.inl (v, r))) ∧ ∀ p, p.length < tl.length → p <+: tl → Rd (.inl t) p (.inr 5)

theorem good_int {n : Int} (h : rangeI n) : Good (vInt n) := by
  obtain ⟨hi, _, _⟩ := tag_int h
  refine ⟨tagI n, (dig (nb (magI n)) (magI n)).map (flip8 n), by rw [enc_int, encI_eq h], ?_, fun r => ?_, fun p hl hp => ?_⟩
  · intro e
    rw [e] at hi
    exact absurd hi.1 (by decide)
  · have := Rd.int (tagI n) ((dig (nb (magI n)) (magI n)).map (flip8 n) ++ r) hi
    rwa [rdI_enc h r] at this
  · have := Rd.int (tagI n) p hi
    rwa [rdI_pre h (by simpa [dig_len] using hl) hp] at this
theorem good_text (b : List UInt8) : Good (vText b) := by
  refine ⟨48, escB b ++ [0, 0], enc_text b, by decide, fun r => ?_, fun p hl hp => ?_⟩
  · have := Rd.text ((escB b ++ [0, 0]) ++ r)
    have e := rdT_esc b [] r
    have e2 : (escB b ++ [0, 0]) ++ r = escB b ++ 0 :: 0 :: r := by simp
    rw [e2] at this ⊢
    rw [e] at this
    exact this
  · have := Rd.text p
    rwa [rdT_pre b [] p (by simpa using hl) hp] at this
theorem good_elems : ∀ (l : List Api_Value), (∀ x ∈ l, Good x) → (∀ acc r, Rd (.inr acc) (encL l ++ 0 :: r) (.inl (vList (acc ++ l), r))) ∧
    ∀ acc p, p.length < (encL l).length + 1 → p <+: encL l ++ [0] → Rd (.inr acc) p (.inr 5)
  | [], _ => ⟨fun acc r => by simpa [encL] using Rd.lfin acc r, fun acc p hl hp => by
      have : p = [] := List.length_eq_zero_iff.1 (by simp [encL] at hl; exact hl ▸ rfl)
      subst this
      exact Rd.lend acc⟩
  | x :: l, h => by
    obtain ⟨h1, h2⟩ := good_elems l (fun y hy => h y (List.mem_cons_of_mem _ hy))
    obtain ⟨t, tl, e, ht, g1, g2⟩ := h x List.mem_cons_self
    constructor
    · intro acc r
      have e2 : encL (x :: l) ++ 0 :: r = t :: (tl ++ (encL l ++ 0 :: r)) := by rw [encL, e]; simp
      rw [e2]
      refine Rd.lstep acc t _ x _ _ ht (g1 _) ?_
      have := h1 (acc ++ [x]) r
      simpa using this
    · intro acc p hl hp
      cases p with
      | nil => exact Rd.lend acc
      | cons c p =>
        have e2 : encL (x :: l) ++ [0] = t :: (tl ++ (encL l ++ [0])) := by rw [encL, e]; simp
        rw [e2, List.cons_prefix_cons] at hp
        obtain ⟨rfl, hp⟩ := hp
        have hl2 : p.length < tl.length + (encL l).length + 1 := by
          rw [encL, e] at hl
          simp at hl; omega
        by_cases hlt : p.length < tl.length
        · refine Rd.lerr acc c p 5 ht (g2 p hlt ?_)
          exact List.prefix_of_prefix_length_le hp (List.prefix_append _ _) (by omega)
        · have htp : tl <+: p := List.prefix_of_prefix_length_le (List.prefix_append _ _) hp (by omega)
          obtain ⟨q, rfl⟩ := htp
          have hq : q <+: encL l ++ [0] := (List.prefix_append_right_inj tl).1 hp
          refine Rd.lstep acc c _ x q _ ht (g1 q) ?_
          exact h2 _ q (by simp at hl2; omega) hq
theorem good_list {l : List Api_Value} (h : ∀ x ∈ l, Good x) : Good (vList l) := by
  obtain ⟨h1, h2⟩ := good_elems l h
  refine ⟨64, encL l ++ [0], enc_list l, by decide, fun r => ?_, fun p hl hp => ?_⟩
  · refine Rd.lst _ _ ?_
    have := h1 [] r
    simpa using this
  · exact Rd.lst _ _ (h2 [] p (by simpa using hl) hp)

mutual
theorem good_wf : ∀ v : Api_Value, wfV v → okV v → Good v
  | .mk k n b l => by
    intro h ok
    rcases wf_cases h with e | e | ⟨e, hl⟩
    · rw [e] at ok ⊢
      exact good_int (ok_int ok)
    · rw [e]
      exact good_text _
    · rw [e] at ok ⊢
      exact good_list (good_wfs l hl (ok_list ok))
theorem good_wfs : ∀ l : List Api_Value, (∀ x ∈ l, wfV x) → (∀ x ∈ l, okV x) → ∀ x ∈ l, Good x
  | [] => fun _ _ x hx => by cases hx
  | y :: l => fun h ok x hx => by
    rcases List.mem_cons.1 hx with hx | hx
    · rw [hx]
      exact good_wf y (h y List.mem_cons_self) (ok y List.mem_cons_self)
    · exact good_wfs l (fun z hz => h z (List.mem_cons_of_mem _ hz)) (fun z hz => ok z (List.mem_cons_of_mem _ hz)) x hx
end

/-- What is read is well-formed, and is encoded so. -/
def InvR : UInt8 ⊕ List Api_Value → List UInt8 → DRes → Prop
  | .inl t, b, .inl (v, r) => wfV v ∧ okV v ∧ t :: b = encV v ++ r
  | .inr acc, b, .inl (v, r) => ∃ l, v = vList (acc ++ l) ∧ (∀ x ∈ l, wfV x ∧ okV x) ∧ b = encL l ++ 0 :: r
  | _, _, .inr e => e = 4 ∨ e = 5
theorem rdN_err {k : Nat} {fl : Bool} : ∀ (m u : Nat) (b : List UInt8) {e : Int}, rdN k fl m u b = .inr e → e = 4 ∨ e = 5
  | 0, u, b, e, h => by cases h
  | m + 1, u, [], e, h => by cases h; exact .inr rfl
  | m + 1, u, c :: b, e, h => by
    rw [rdN_cons] at h
    split at h
    · cases h; exact .inl rfl
    · exact rdN_err m _ b h
theorem rdT_err : ∀ (acc b : List UInt8) {e : Int}, rdT acc b = .inr e → e = 4 ∨ e = 5
  | acc, [], e, h => by simp [rdT] at h; exact .inr h.symm
  | acc, [c], e, h => by simp [rdT] at h; exact .inr h.symm
  | acc, c :: d :: b, e, h => by
    rw [rdT] at h
    split at h
    · exact rdT_err _ (d :: b) h
    · split at h
      · cases h
      · split at h
        · exact rdT_err _ b h
        · cases h; exact .inl rfl
theorem rd_inv {s : UInt8 ⊕ List Api_Value} {b : List UInt8} {o : DRes} (h : Rd s b o) : InvR s b o := by
  induction h with
  | int t b h =>
    cases hr : rdI t b with
    | inl x =>
      obtain ⟨v, r⟩ := x
      obtain ⟨n, hn, rfl, e⟩ := rdI_inv h hr
      exact ⟨wf_int n, ok_intI hn, by rw [enc_int]; exact e⟩
    | inr e =>
      unfold rdI at hr
      split at hr
      · cases hr
      · rename_i e' he; cases hr; exact rdN_err _ _ _ he
  | text b =>
    cases hr : rdT [] b with
    | inl x =>
      obtain ⟨v, r⟩ := x
      obtain ⟨a, rfl, e⟩ := rdT_inv _ _ hr
      refine ⟨wf_text _, ok_textI _, ?_⟩
      rw [enc_text, e]; simp
    | inr e => exact rdT_err _ _ hr
  | lst b o h ih =>
    cases o with
    | inl x =>
      obtain ⟨v, r⟩ := x
      obtain ⟨l, rfl, hl, e⟩ := ih
      refine ⟨?_, ?_, ?_⟩
      · exact wf_list.2 (fun x hx => (hl x (by simpa using hx)).1)
      · exact ok_listI (fun x hx => (hl x (by simpa using hx)).2)
      · rw [List.nil_append, enc_list, e]; simp
    | inr e => exact ih
  | bad => exact .inl rfl
  | lend => exact .inr rfl
  | lfin acc b => exact ⟨[], by simp, fun x hx => (by cases hx), by simp [encL]⟩
  | lerr acc c b e hc h ih => exact ih
  | lstep acc c b v b' o hc h h2 ih ih2 =>
    cases o with
    | inl x =>
      obtain ⟨w, r⟩ := x
      obtain ⟨l, rfl, hl, e⟩ := ih2
      obtain ⟨w1, w2, w3⟩ := ih
      refine ⟨v :: l, by simp, fun x hx => ?_, ?_⟩
      · rcases List.mem_cons.1 hx with rfl | hx
        · exact ⟨w1, w2⟩
        · exact hl x hx
      · rw [w3, encL, e]; simp
    | inr e => exact ih2
theorem enc_pos (v : Api_Value) : 0 < (encV v).length := by
  rw [encV_eq]
  split
  · rw [encI_len]; omega
  · split <;> simp
theorem rd_total : ∀ (n : Nat) (s : UInt8 ⊕ List Api_Value) (b : List UInt8), 2 * b.length + (match s with | .inl _ => 1 | .inr _ => 0) < n → ∃ o, Rd s b o
  | 0, s, b, h => absurd h (Nat.not_lt_zero _)
  | n + 1, .inl t, b, h => by
    by_cases hi : isInt t
    · exact ⟨_, Rd.int t b hi⟩
    · by_cases h1 : t = 48
      · subst h1; exact ⟨_, Rd.text b⟩
      · by_cases h2 : t = 64
        · subst h2
          obtain ⟨o, ho⟩ := rd_total n (.inr []) b (by simp at h ⊢; omega)
          exact ⟨o, Rd.lst b o ho⟩
        · exact ⟨_, Rd.bad t b hi h1 h2⟩
  | n + 1, .inr acc, [], h => ⟨_, Rd.lend acc⟩
  | n + 1, .inr acc, c :: b, h => by
    by_cases hc : c = 0
    · subst hc; exact ⟨_, Rd.lfin acc b⟩
    · obtain ⟨o, ho⟩ := rd_total n (.inl c) b (by simp at h ⊢; omega)
      cases o with
      | inr e => exact ⟨_, Rd.lerr acc c b e hc ho⟩
      | inl x =>
        obtain ⟨v, b'⟩ := x
        have hi : c :: b = encV v ++ b' := (rd_inv ho).2.2
        have hl : b.length + 1 = (encV v).length + b'.length := by
          have := congrArg List.length hi
          simpa using this
        have hp := enc_pos v
        obtain ⟨o2, ho2⟩ := rd_total n (.inr (acc ++ [v])) b' (by simp at h ⊢; omega)
        exact ⟨o2, Rd.lstep acc c b v b' o2 hc ho ho2⟩
theorem cmpB_app : ∀ p a b : List UInt8, cmpB (p ++ a) (p ++ b) = cmpB a b
  | [], a, b => rfl
  | c :: p, a, b => by
    show cmpB (c :: (p ++ a)) (c :: (p ++ b)) = _
    rw [cmpB, if_pos rfl, cmpB_app p]
theorem cmpB_lt {x y : UInt8} (h : x.toNat < y.toNat) (a b : List UInt8) : cmpB (x :: a) (y :: b) = -1 := by
  rw [cmpB, if_neg (fun e => by subst e; omega), if_pos (UInt8.lt_iff_toNat_lt.2 h)]
theorem cmpB_gt {x y : UInt8} (h : y.toNat < x.toNat) (a b : List UInt8) : cmpB (x :: a) (y :: b) = 1 := by
  rw [cmpB, if_neg (fun e => by subst e; omega), if_neg (fun hh => by have := UInt8.lt_iff_toNat_lt.1 hh; omega)]

theorem dig_cmp {f : UInt8 → UInt8} {σ : Int} (hf : ∀ (x y : UInt8) a b, x.toNat < y.toNat → cmpB (f x :: a) (f y :: b) = σ) :
    ∀ (k u w : Nat) (r s : List UInt8), u < w → w < 256 ^ k → cmpB ((dig k u).map f ++ r) ((dig k w).map f ++ s) = σ
  | 0, u, w, r, s, h, hw => by simp at hw; omega
  | k + 1, u, w, r, s, h, hw => by
    rw [dig, dig, List.map_append, List.map_append, List.append_assoc, List.append_assoc]
    by_cases hq : u / 256 < w / 256
    · exact dig_cmp hf k (u / 256) (w / 256) _ _ hq (by rw [Nat.pow_succ] at hw; omega)
    · have : u / 256 = w / 256 := by omega
      rw [this, cmpB_app]
      exact hf _ _ _ _ (by rw [toNat_ofNat8, toNat_ofNat8]; omega)

theorem nb_mono {u w : Nat} (h : u ≤ w) (hw : w < 256 ^ 8) : nb u ≤ nb w := by
  rcases Nat.lt_or_ge (nb w) (nb u) with hl | hl
  · have h0 : u ≠ 0 := fun e => by
      have := (nb_zero_iff u (by omega)).2 e
      omega
    have h1 := nb_ge u (by omega) h0
    have h2 := nb_lt w hw
    have h3 : 256 ^ nb w ≤ 256 ^ (nb u - 1) := Nat.pow_le_pow_right (by decide) (by omega)
    omega
  · exact hl

theorem encI_lt {m n : Int} (hm : rangeI m) (hn : rangeI n) (h : m < n) (r s : List UInt8) : cmpB (encI m ++ r) (encI n ++ s) = -1 := by
  have t1 := tag_nat hm
  have t2 := tag_nat hn
  have b1 := magI_lt hm
  have b2 := magI_lt hn
  have p8 : (256 : Nat) ^ 8 = 18446744073709551616 := by decide
  have n1 := nb_le (magI m)
  have n2 := nb_le (magI n)
  rw [encI_eq hm, encI_eq hn]
  show cmpB (tagI m :: (_ ++ r)) (tagI n :: (_ ++ s)) = -1
  by_cases hm0 : m < 0
  · rw [if_pos hm0] at t1
    by_cases hn0 : n < 0
    · rw [if_pos hn0] at t2
      have hmag : magI n < magI m := by unfold magI; rw [if_pos hm0, if_pos hn0]; omega
      have hmono := nb_mono (Nat.le_of_lt hmag) (by omega)
      by_cases he : nb (magI n) = nb (magI m)
      · have ht : tagI m = tagI n := UInt8.toNat_inj.1 (by omega)
        rw [ht, cmpB, if_pos rfl, he]
        have f1 : flip8 m = fun c => ~~~c := by funext c; unfold flip8; rw [if_pos hm0]
        have f2 : flip8 n = fun c => ~~~c := by funext c; unfold flip8; rw [if_pos hn0]
        rw [f1, f2, cmpB_anti, dig_cmp (σ := 1) (fun x y a b h => cmpB_gt (by have := x.toNat_lt; have := y.toNat_lt; rw [not8, not8]; omega) a b) _ _ _ _ _ hmag (nb_lt _ (by omega))]
      · exact cmpB_lt (by omega) _ _
    · rw [if_neg hn0] at t2
      exact cmpB_lt (by omega) _ _
  · rw [if_neg hm0] at t1
    have hn0 : ¬ n < 0 := by omega
    rw [if_neg hn0] at t2
    have hmag : magI m < magI n := by unfold magI; rw [if_neg hm0, if_neg hn0]; omega
    have hmono := nb_mono (Nat.le_of_lt hmag) (by omega)
    by_cases he : nb (magI m) = nb (magI n)
    · have ht : tagI m = tagI n := UInt8.toNat_inj.1 (by omega)
      rw [ht, cmpB, if_pos rfl, he]
      have f1 : flip8 m = id := by funext c; unfold flip8; rw [if_neg hm0]; rfl
      have f2 : flip8 n = id := by funext c; unfold flip8; rw [if_neg hn0]; rfl
      rw [f1, f2]
      exact dig_cmp (σ := -1) (fun x y a b h => cmpB_lt h a b) _ _ _ _ _ hmag (nb_lt _ (by omega))
    · exact cmpB_lt (by omega) _ _
theorem encI_cmp {m n : Int} (hm : rangeI m) (hn : rangeI n) (h : m ≠ n) (r s : List UInt8) : cmpB (encI m ++ r) (encI n ++ s) = cmpI m n := by
  unfold cmpI
  by_cases h1 : m < n
  · rw [if_pos h1]; exact encI_lt hm hn h1 r s
  · rw [if_neg h1, if_pos (by omega), cmpB_anti, encI_lt hn hm (by omega) s r]; rfl

theorem esc0 (a : List UInt8) : escB (0 :: a) = 0 :: 255 :: escB a := by rw [escB]; rfl
theorem escN {c : UInt8} (h : c ≠ 0) (a : List UInt8) : escB (c :: a) = c :: escB a := by rw [escB, if_neg h]
theorem pos8 {c : UInt8} (h : c ≠ 0) : (0 : UInt8).toNat < c.toNat := by
  rcases Nat.eq_zero_or_pos c.toNat with e | e
  · exact (h (UInt8.toNat_inj.1 e)).elim
  · exact e
theorem esc_cmp : ∀ (a b r s : List UInt8), a ≠ b → cmpB (escB a ++ 0 :: 0 :: r) (escB b ++ 0 :: 0 :: s) = cmpB a b
  | [], [], r, s, h => (h rfl).elim
  | [], c :: b, r, s, h => by
    by_cases hc : c = 0
    · subst hc
      rw [esc0]
      show cmpB (0 :: 0 :: r) (0 :: 255 :: (escB b ++ 0 :: 0 :: s)) = -1
      rw [cmpB, if_pos rfl]
      exact cmpB_lt (by decide) _ _
    · rw [escN hc]
      exact cmpB_lt (pos8 hc) _ _
  | c :: a, [], r, s, h => by
    by_cases hc : c = 0
    · subst hc
      rw [esc0]
      show cmpB (0 :: 255 :: (escB a ++ 0 :: 0 :: r)) (0 :: 0 :: s) = 1
      rw [cmpB, if_pos rfl]
      exact cmpB_gt (by decide) _ _
    · rw [escN hc]
      exact cmpB_gt (pos8 hc) _ _
  | c :: a, d :: b, r, s, h => by
    by_cases he : c = d
    · subst he
      have hab : a ≠ b := fun e => h (by rw [e])
      have ih := esc_cmp a b r s hab
      have e1 : cmpB (c :: a) (c :: b) = cmpB a b := by rw [cmpB, if_pos rfl]
      rw [e1, ← ih]
      by_cases hc : c = 0
      · subst hc
        rw [esc0, esc0]
        exact cmpB_app [0, 255] _ _
      · rw [escN hc, escN hc]
        exact cmpB_app [c] _ _
    · have hne : c.toNat ≠ d.toNat := fun e => he (UInt8.toNat_inj.1 e)
      have hh : ∀ x y : List UInt8, cmpB (c :: x) (d :: y) = cmpB (c :: a) (d :: b) := fun x y => by
        rw [cmpB, cmpB, if_neg he, if_neg he]
      by_cases hc : c = 0
      · subst hc
        rw [esc0, escN (fun e => he e.symm)]
        exact hh _ _
      · by_cases hd : d = 0
        · subst hd
          rw [escN hc, esc0]
          exact hh _ _
        · rw [escN hc, escN hd]
          exact hh _ _

def OrdP (v w : Api_Value) : Prop := (cmpV v w = 0 ∧ v = w) ∨ (cmpV v w ≠ 0 ∧ ∀ r s, cmpB (encV v ++ r) (encV w ++ s) = cmpV v w)
theorem ord_kind {v w : Api_Value} {x y : UInt8} {a b : List UInt8} (hv : encV v = x :: a) (hw : encV w = y :: b) (hk : (v.Kind < w.Kind ∧ x.toNat < y.toNat) ∨ (w.Kind < v.Kind ∧ y.toNat < x.toNat)) : OrdP v w := by
  have e : cmpV v w = cmpI v.Kind w.Kind := by rw [cmpV_eq, if_pos (by omega)]
  right
  rcases hk with ⟨h1, h2⟩ | ⟨h1, h2⟩
  · have e2 : cmpI v.Kind w.Kind = -1 := by unfold cmpI; rw [if_pos h1]
    rw [e, e2]
    refine ⟨by decide, fun r s => ?_⟩
    rw [hv, hw]
    exact cmpB_lt h2 _ _
  · have e2 : cmpI v.Kind w.Kind = 1 := by unfold cmpI; rw [if_neg (by omega), if_pos h1]
    rw [e, e2]
    refine ⟨by decide, fun r s => ?_⟩
    rw [hv, hw]
    exact cmpB_gt h2 _ _
theorem tag_hd (n : Int) : encI n = tagI n :: (encI n).tail := rfl
theorem ord_ii {m n : Int} (hm : rangeI m) (hn : rangeI n) : OrdP (vInt m) (vInt n) := by
  have e : cmpV (vInt m) (vInt n) = cmpI m n := by rw [cmpV_eq]; rfl
  by_cases h : m = n
  · subst h
    exact .inl ⟨by rw [e]; unfold cmpI; rw [if_neg (by omega), if_neg (by omega)], rfl⟩
  · right
    refine ⟨?_, fun r s => ?_⟩
    · rw [e]; unfold cmpI
      split
      · decide
      · rw [if_pos (by omega)]; decide
    · rw [e, enc_int, enc_int]; exact encI_cmp hm hn h r s
theorem ord_tt (a b : List UInt8) : OrdP (vText a) (vText b) := by
  have e : cmpV (vText a) (vText b) = cmpB a b := by rw [cmpV_eq]; rfl
  by_cases h : a = b
  · subst h
    exact .inl ⟨by rw [e]; exact (cmpB_zero _ _).2 rfl, rfl⟩
  · right
    refine ⟨by rw [e]; exact fun hh => h ((cmpB_zero _ _).1 hh), fun r s => ?_⟩
    rw [e, enc_text, enc_text]
    show cmpB (48 :: ((escB a ++ [0, 0]) ++ r)) (48 :: ((escB b ++ [0, 0]) ++ s)) = _
    rw [cmpB, if_pos rfl, List.append_assoc, List.append_assoc]
    exact esc_cmp a b r s h

mutual
theorem ord_wf : ∀ v w : Api_Value, wfV v → okV v → wfV w → okV w → OrdP v w
  | .mk k n b l, w => by
    intro h ok h' ok'
    rcases wf_cases h with e | e | ⟨e, hl⟩ <;> rcases wf_cases h' with e' | e' | ⟨e', hl'⟩
    · rw [e] at ok ⊢
      rw [e'] at ok' ⊢
      exact ord_ii (ok_int ok) (ok_int ok')
    · rw [e] at ok ⊢
      rw [e']
      have ht := (tag_int (ok_int ok)).1.2
      exact ord_kind ((enc_int _).trans (tag_hd _)) (enc_text _) (.inl ⟨by show (1 : Int) < 2; decide, by show _ < 48; omega⟩)
    · rw [e] at ok ⊢
      rw [e']
      have ht := (tag_int (ok_int ok)).1.2
      exact ord_kind ((enc_int _).trans (tag_hd _)) (enc_list _) (.inl ⟨by show (1 : Int) < 3; decide, by show _ < 64; omega⟩)
    · rw [e]
      rw [e'] at ok' ⊢
      have ht := (tag_int (ok_int ok')).1.2
      exact ord_kind (enc_text _) ((enc_int _).trans (tag_hd _)) (.inr ⟨by show (1 : Int) < 2; decide, by show _ < 48; omega⟩)
    · rw [e, e']
      exact ord_tt _ _
    · rw [e, e']
      exact ord_kind (enc_text _) (enc_list _) (.inl ⟨by show (2 : Int) < 3; decide, by decide⟩)
    · rw [e]
      rw [e'] at ok' ⊢
      have ht := (tag_int (ok_int ok')).1.2
      exact ord_kind (enc_list _) ((enc_int _).trans (tag_hd _)) (.inr ⟨by show (1 : Int) < 3; decide, by show _ < 64; omega⟩)
    · rw [e, e']
      exact ord_kind (enc_list _) (enc_text _) (.inr ⟨by show (2 : Int) < 3; decide, by decide⟩)
    · rw [e] at ok ⊢
      rw [e'] at ok' ⊢
      have ec : cmpV (vList l) (vList w.L) = cmpL l w.L := by rw [cmpV_eq]; rfl
      rcases ord_wfs l w.L hl (ok_list ok) hl' (ok_list ok') with ⟨h1, h2⟩ | ⟨h1, h2⟩
      · exact .inl ⟨ec.trans h1, congrArg vList h2⟩
      · refine .inr ⟨fun hh => h1 (ec.symm.trans hh), fun r s => ?_⟩
        have e1 : encV (vList l) = 64 :: (encL l ++ [0]) := enc_list l
        refine Eq.trans ?_ ((h2 r s).trans ec.symm)
        show cmpB (encV (vList l) ++ r) (encV (vList w.L) ++ s) = _
        rw [e1, enc_list]
        show cmpB (64 :: ((encL l ++ [0]) ++ r)) (64 :: ((encL w.L ++ [0]) ++ s)) = _
        rw [cmpB, if_pos rfl, List.append_assoc, List.append_assoc]
        rfl
theorem ord_wfs : ∀ l m : List Api_Value, (∀ x ∈ l, wfV x) → (∀ x ∈ l, okV x) → (∀ x ∈ m, wfV x) → (∀ x ∈ m, okV x) →
    (cmpL l m = 0 ∧ l = m) ∨ (cmpL l m ≠ 0 ∧ ∀ r s, cmpB (encL l ++ 0 :: r) (encL m ++ 0 :: s) = cmpL l m)
  | [], [] => fun _ _ _ _ => .inl ⟨by rw [cmpL], rfl⟩
  | [], y :: m => fun _ _ h ok => by
    obtain ⟨t, tl, e, ht, _, _⟩ := good_wf y (h y List.mem_cons_self) (ok y List.mem_cons_self)
    have ec : cmpL [] (y :: m) = -1 := by rw [cmpL]
    refine .inr ⟨by rw [ec]; decide, fun r s => ?_⟩
    rw [ec, encL, encL, e]
    exact cmpB_lt (pos8 ht) _ _
  | x :: l, [] => fun h ok _ _ => by
    obtain ⟨t, tl, e, ht, _, _⟩ := good_wf x (h x List.mem_cons_self) (ok x List.mem_cons_self)
    have ec : cmpL (x :: l) [] = 1 := by rw [cmpL]
    refine .inr ⟨by rw [ec]; decide, fun r s => ?_⟩
    rw [ec, encL, encL, e]
    exact cmpB_gt (pos8 ht) _ _
  | x :: l, y :: m => fun h ok h' ok' => by
    have ec : cmpL (x :: l) (y :: m) = if cmpV x y ≠ 0 then cmpV x y else cmpL l m := by rw [cmpL]
    rcases ord_wf x y (h x List.mem_cons_self) (ok x List.mem_cons_self) (h' y List.mem_cons_self) (ok' y List.mem_cons_self) with ⟨h1, h2⟩ | ⟨h1, h2⟩
    · rw [if_neg (by simpa using h1)] at ec
      rcases ord_wfs l m (fun z hz => h z (List.mem_cons_of_mem _ hz)) (fun z hz => ok z (List.mem_cons_of_mem _ hz)) (fun z hz => h' z (List.mem_cons_of_mem _ hz)) (fun z hz => ok' z (List.mem_cons_of_mem _ hz)) with ⟨g1, g2⟩ | ⟨g1, g2⟩
      · exact .inl ⟨ec.trans g1, by rw [h2, g2]⟩
      · refine .inr ⟨by rw [ec]; exact g1, fun r s => ?_⟩
        rw [ec, encL, encL, h2, List.append_assoc, List.append_assoc, cmpB_app]
        exact g2 r s
    · rw [if_pos h1] at ec
      refine .inr ⟨by rw [ec]; exact h1, fun r s => ?_⟩
      rw [ec, encL, encL, List.append_assoc, List.append_assoc]
      exact h2 _ _
end
theorem enc_ok {n : Int} (h : rangeI n) : Enc (vInt n) = (encI n, 0) := by
  have e : shpV (vInt n) = (0, true) := by rw [shpV_eq]; rfl
  have h1 := encI_len n
  have h2 := nbI_le n
  unfold Enc
  rw [e, enc_int, if_pos rfl, if_neg (by simp), if_neg (by omega)]

theorem wf_shape {l : List Api_Value} (h : ∀ x ∈ l, wfV x) : wfV (vList l) := wf_list.2 h
end Go.Proofs.YtgdiabbgiiemcaaDoor
/-
  DigestBindsValues, the plain law.
-/
namespace Go.Proofs.YtgdiabbgiiemcaaDoor
open Go.Rv
set_option linter.unusedVariables false
set_option linter.unusedSimpArgs false

theorem value_good (tag : List UInt8) (v : Api_Value) (h : szV v ≤ 100000000000) (he : (Enc v).2 = 0) (hl : (Enc v).1.length ≤ 3000) : digest_Value tag v = some (DS (hsh tag (Enc v).1), 0) := by
  unfold digest_Value
  refine (bindT (encode_eq v h)).trans ?_
  rw [if_neg (by simp [he])]
  exact bindT (tagged tag _ hl)

theorem enc_cases (v : Api_Value) : (∃ e, (e = 10 ∨ e = 2) ∧ Enc v = ([], e)) ∨ (wfV v ∧ (shpV v).1 ≤ 16 ∧ (encV v).length ≤ 65536 ∧ Enc v = (encV v, 0)) := by
  unfold Enc
  by_cases h : (shpV v).2 = true
  · rw [if_pos h]
    by_cases h2 : (shpV v).1 > 16
    · rw [if_pos h2]; exact .inl ⟨2, .inr rfl, rfl⟩
    · rw [if_neg h2]
      by_cases h3 : (encV v).length > 65536
      · rw [if_pos h3]; exact .inl ⟨2, .inr rfl, rfl⟩
      · rw [if_neg h3]; exact .inr ⟨h, by omega, by omega, rfl⟩
  · rw [if_neg h]; exact .inl ⟨10, .inl rfl, rfl⟩

theorem law_binds (tag : List UInt8) (v w : Api_Value) (hv : szV v ≤ 1048576) (ok : okV v) (hw : szV w ≤ 1048576) (ok' : okV w) : law02_DigestBindsValues tag v w = some true := by
  have h : szV v ≤ 100000000000 := by omega
  have h' : szV w ≤ 100000000000 := by omega
  unfold law02_DigestBindsValues
  rw [sane_ok]
  refine (bindT rfl).trans ?_
  rw [if_neg (by simp)]
  refine (bindT (encode_eq v h)).trans ((bindT (encode_eq w h')).trans ?_)
  rcases enc_cases v with ⟨e, he, hE⟩ | ⟨w1, w2, w3, hE⟩
  · rw [hE]
    rcases he with rfl | rfl <;> rfl
  rcases enc_cases w with ⟨e, he, hE'⟩ | ⟨w1', w2', w3', hE'⟩
  · rw [hE, hE']
    rcases he with rfl | rfl <;> rfl
  have hz : (Enc v).2 = 0 := by rw [hE]
  have hz' : (Enc w).2 = 0 := by rw [hE']
  have hb : (Enc v).1 = encV v := by rw [hE]
  have hb' : (Enc w).1 = encV w := by rw [hE']
  by_cases h1 : (tag.length : Int) > 400
  · rw [hz, hz']; simp [h1]
  by_cases h2 : (((Enc v).1).length : Int) > 600
  · rw [hz, hz']; simp [h1, h2]
  by_cases h3 : (((Enc w).1).length : Int) > 600
  · rw [hz, hz']; simp [h1, h2, h3]
  refine (bindT (a := false) (by rw [hz, hz']; simp [h1, h2, h3])).trans ?_
  rw [if_neg (by simp)]
  have hl2 : (Enc v).1.length ≤ 600 := by omega
  have hl3 : (Enc w).1.length ≤ 600 := by omega
  refine (bindT (value_good tag v h hz (by omega))).trans ((bindT (value_good tag w h' hz' (by omega))).trans ?_)
  refine (bindT (compare_eq v w h)).trans ?_
  rcases ord_wf v w w1 ok w1' ok' with ⟨g1, g2⟩ | ⟨g1, g2⟩
  · subst g2
    rw [g1, if_pos (by simp)]
    simp
  · rw [if_neg (by simpa using g1)]
    have hne : (Enc v).1 ≠ (Enc w).1 := by
      rw [hb, hb']
      intro e
      have := g2 [] []
      rw [e] at this
      exact g1 (this.symm.trans ((cmpB_zero _ _).2 rfl))
    refine (bindT (a := true) ?_).trans rfl
    by_cases hd : DS (hsh tag (Enc v).1) = DS (hsh tag (Enc w).1)
    · have e1 : (DS (hsh tag (Enc v).1) == DS (hsh tag (Enc w).1)) = true := by rw [hd]; simp
      have k1 := hsh_len tag (Enc v).1
      have k2 := hsh_len tag (Enc w).1
      refine (if_neg (by simp only [e1]; decide)).trans ?_
      refine (bindT (hashed tag (Enc v).1 (by omega))).trans ((bindT (digest_Sum_eq _ (by omega))).trans ?_)
      refine (bindT (hashed tag (Enc w).1 (by omega))).trans ((bindT (digest_Sum_eq _ (by omega))).trans ?_)
      rw [if_pos e1]
      unfold r02_Same
      have e2 : ((Enc v).1 == (Enc w).1) = false := by simp [hne]
      simp [e2, hne]
    · have e1 : (DS (hsh tag (Enc v).1) == DS (hsh tag (Enc w).1)) = false := by simp [hd]
      exact if_pos (by simp only [e1]; decide)
end Go.Proofs.YtgdiabbgiiemcaaDoor
namespace Go.Proofs.YtgdiabbgiiemcaaDoor
open Go.Rv Go.ChangeShapes Go.WideShapes Go.ChangeAt Go.RowKit
set_option linter.unusedVariables false

theorem cells_of_38 : Tryd.prog.cellsOf 38 = 4 := by kernel_rfl
theorem cells_of_3 : Tryd.prog.cellsOf 3 = 1 := by kernel_rfl
theorem cells_of_36 : Tryd.prog.cellsOf 36 = 1 := by kernel_rfl
theorem opens38 : Opens Tryd.prog (fun H => Rows.uptoBulk (H := H)) 38 cApi_Value szV okV :=
  opens_of_at (opensAt_value bulk_ok Tryd.underlying38 rfl cells_of_38 cells_of_3 cells_of_22 cells_of_36 (opens_i64 bulk_ok Tryd.underlying3) opens22 Tryd.underlying36)

theorem digestBindsValues_contract (H : Type) (enc : TypeId × Value → H) (W : World) (base : Nat) (args : Array Value) (ds gs : List (DataW H)) (before : List MemPlace)
    (hval0 : ∀ (j : Nat) t v, Tryd.f10.params[j]? = some t → args[j]? = some v → Value.okWide Tryd.prog W .any base t v)
    (hW : DataW.Whole enc Tryd.prog Tryd.f10.params.toList Rows.digestBindsValuesSpec.vars false W args.toList ds gs before) (hk : Rows.uptoSmall H (ds ++ gs) = true) (hL : laidMetH Tryd.prog laidK W) :
    Calls Tryd.prog 10 args W fun e W' => ∃ v, e = .returned v ∧ Rows.digestBindsValuesSpec.post enc Tryd.prog Tryd.f10 false true false false W args v W' := by
  have hval : ∀ (j : Nat) t v, Tryd.f10.params[j]? = some t → args[j]? = some v → Value.okWide Tryd.prog W .any base t v := hval0
  have hW' := hW
  obtain ⟨p, q, hA0, hV, rfl, hfz, hnd⟩ := hW
  have hA : DataW.TrodAll enc Tryd.prog W 0 (fun _ => true) true Tryd.f10.params.toList args.toList ds p := hA0
  rw [Tryd.params10] at hA hval
  obtain ⟨v0, vs0, d0, ds0, p0, q0, hargs, rfl, rfl, h0, r0⟩ := trodAll_cons hA
  obtain ⟨v1, vs1, d1, ds1, p1, q1, rfl, rfl, rfl, h1, r1⟩ := trodAll_cons r0
  obtain ⟨v2, vs2, d2, ds2, p2, q2, rfl, rfl, rfl, h2, r2⟩ := trodAll_cons r1
  obtain ⟨rfl, rfl, rfl⟩ := trodAll_nil r2
  obtain rfl : args = #[v0, v1, v2] := by cases args; simp_all
  obtain ⟨rfl, rfl⟩ := trodVars_none hV
  obtain ⟨x0, _, _, hrep0⟩ := arg_one opens9 (fun x => ⟨_, rfl⟩) (vcells_string Tryd.underlying9 (hval 0 9 v0 rfl rfl)) h0 (pr := prot (B.env fun _ => False) []) (fun a => prot_empty a)
  obtain ⟨x1, hsz1, hok1, hrep1⟩ := arg_agg Tryd.underlying38 (hval 1 38 v1 rfl rfl) opens38 h1 (pr := prot (B.env fun _ => False) []) (fun a => prot_empty a)
  obtain ⟨x2, hsz2, hok2, hrep2⟩ := arg_agg Tryd.underlying38 (hval 2 38 v2 rfl rfl) opens38 h2 (pr := prot (B.env fun _ => False) []) (fun a => prot_empty a)
  have hbulk : Rows.uptoBulk d0 + (Rows.uptoBulk d1 + Rows.uptoBulk d2) ≤ 1048576 := by
    have := of_decide_eq_true hk
    simpa [Rows.uptoBulkAll] using this
  have hsz1' : szV x1 ≤ Rows.uptoBulk d1 := hsz1
  have hsz2' : szV x2 ≤ Rows.uptoBulk d2 := hsz2
  rw [cApi_Value_eq] at hrep1 hrep2
  refine (law_callsK (law02_DigestBindsValues_con (law_binds x0 x1 x2 (by omega) hok1 (by omega) hok2)) Tryd.func10 rfl (by decide +kernel) hL (args := #[v0, v1, v2]) ⟨hrep0 _ rfl, hrep1, hrep2, trivial⟩).mono fun e W' ⟨he, hbel⟩ => ?_
  exact ⟨_, he, law_post hW' rfl rfl rfl Tryd.underlying4 laid_ok (by decide +kernel) hbel⟩

set_option maxRecDepth 100000 in
theorem digestBindsValues_lifted (os : Os) (started : os.Started) (H : Type) (enc : TypeId × Value → H) (F : Stop.Interp) :
    ReturnsInHanded {} Tryd.checked os 10 .any ((Rows.OpenSpec.upto Rows.digestBindsValuesSpec).preRow enc Tryd.prog Tryd.f10 Rows.digestBindsValuesUptoRow.domain false Rows.digestBindsValuesUptoRow.laid) (((Rows.OpenSpec.upto Rows.digestBindsValuesSpec).at F).post enc Tryd.prog Tryd.f10 false true false false) := by
  have hx : DataW.whole enc Tryd.prog ((World.laidAll Tryd.prog os laidK).forCall (fun _ _ => 0) ⟨#[], #[.string ⟨#[]⟩, .agg #[.int .i64 0, .int .i64 0, .slice none 0 0, .slice none 0 0], .agg #[.int .i64 0, .int .i64 0, .slice none 0 0, .slice none 0 0]], []⟩).memory Tryd.f10.params.toList (Rows.OpenSpec.upto Rows.digestBindsValuesSpec).vars false
      (#[.string ⟨#[]⟩, .agg #[.int .i64 0, .int .i64 0, .slice none 0 0, .slice none 0 0], .agg #[.int .i64 0, .int .i64 0, .slice none 0 0, .slice none 0 0]] : Array Value).toList 8 = some ([.lit (.string []), .agg [.lit (.int .i64 0), .lit (.int .i64 0), .nil, .nil], .agg [.lit (.int .i64 0), .lit (.int .i64 0), .nil, .nil]], [], []) := by kernel_rfl
  refine returnsInHanded_of_row (C := Tryd.checked) (s := Rows.OpenSpec.upto Rows.digestBindsValuesSpec) own started (by kernel_rfl) Tryd.func10
    (witness_row_shaped (enc := enc) (C := Tryd.checked) false (World.laidAll Tryd.prog os laidK) #[.string ⟨#[]⟩, .agg #[.int .i64 0, .int .i64 0, .slice none 0 0, .slice none 0 0], .agg #[.int .i64 0, .int .i64 0, .slice none 0 0, .slice none 0 0]] (World.laidAll_os _ _ _)
      (World.shaped_of_ZipB (by kernel_rfl) (by kernel_rfl)) (by kernel_rfl)
      (OpenSpec.preRow_of_cond 8 hx (by kernel_rfl) (fun k hk => by cases hk; kernel_rfl) (by kernel_rfl)
        (by
          show laidMetH Tryd.prog laidK _
          rw [MakeChecks.laidMetH_plain _ _ _ (by kernel_rfl)]; exact laidMet_laidAll _ (by kernel_rfl) (by kernel_rfl)))) ?_
  intro W base args ds gs before hval hW _ hcond _ hL _ _
  exact digestBindsValues_contract H enc W base args ds gs before hval hW (hcond _ rfl) hL

theorem digestBindsValues_upto : Rows.DigestBindsValuesUptoSaid :=
  OpenClaim.holds_of_cond 10 Tryd.f10 rfl rfl rfl rfl rfl rfl rfl ⟨rfl, rfl, rfl, rfl, rfl⟩ rfl rfl rfl rfl rfl (by kernel_rfl) Tryd.func10 (by kernel_rfl)
    (of_decide_eq_true (by kernel_rfl)) (by unfold Func.isWrapper; first | (rw [if_pos (by decide +kernel)]; kernel_rfl) | (rw [if_neg (by decide +kernel)]; exact ⟨rfl, rfl⟩))
    (fun os started H enc _ F => by rw [OpenClaim.pre_eq_preRow]; exact digestBindsValues_lifted os started H enc F)

theorem digestBindsValues_uptoCard : Rows.DigestBindsValuesUptoCardSaid :=
  Claim7.holds_tied_plain_at .later [] [.data] true (true, "a1c244332572b145f00de350d6ccd962b4588ef0f273993736dea75cc4c474ad") false digestBindsValues_upto (fun _ h => by cases h) (by kernel_rfl) (fun _ h => by cases h) digestBindsValuesUpto_row_tie rfl ⟨rfl, rfl⟩ (by kernel_rfl) rfl
    (fun f fn hf hfn => by
      obtain rfl : f = 10 := Option.some.inj ((show Tryd.prog.funcNamed "wagonpool/wagonpoollaw02.DigestBindsValues" = some 10 by kernel_rfl).symm.trans hf) |>.symm
      obtain rfl : fn = Tryd.f10 := (Option.some.inj (Tryd.func10.symm.trans hfn)).symm
      exact ⟨by kernel_rfl, fun j t ht => by
        rw [Tryd.params10] at ht
        have hm : t ∈ [9, 38, 38] := by simpa using Array.mem_of_getElem? ht
        have hall : ([9, 38, 38].all fun u => !Tryd.prog.wantsStandIn u) = true := by kernel_rfl
        exact (show Tryd.prog.wantsStandIn t = false by simpa using List.all_eq_true.1 hall t hm)⟩)
    (by kernel_rfl)

end Go.Proofs.YtgdiabbgiiemcaaDoor
