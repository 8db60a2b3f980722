/-
  CodecCanonical. No condition.
-/
import Derived.Test.YtihncddenjbecaaZC2
import Derived.Test.YtihncddenjbecaaR29
import Derived.Test.YtihncddenjbecaaRows
import Derived.Test.YtihncddenjbecaaR30
import Derived.WalkKit
import Derived.ProofKit
import Derived.OpenShut
import Derived.JoinedCond
import Derived.KernelRfl
/-
  The encoder: what codec's shape, appendInt, appendValue and Encode compute.
-/
namespace Go.Proofs.Ytihncddenjbecaa
open Go.Rv
set_option linter.unusedVariables false
set_option linter.unusedSimpArgs false

theorem e_bindS {α β : Type} {o : Option α} {a : α} {f : α → Option β} (h : o = some a) : (o.bind fun x => some x).bind f = f a := by rw [h]; rfl
theorem e_bindT {α β : Type} {o : Option α} {a : α} {f : α → Option β} (h : o = some a) : o.bind f = f a := by rw [h]; rfl
theorem e_lt1 {α β : Type} (x y : α) (f : α → Option β) (h : x = y) : lt1 x f = f y := by rw [h]; rfl
theorem e_shr64 (x : UInt64) (n : Nat) : (shr64 x n).toNat = x.toNat / 2 ^ n := by
  show (x.toBitVec >>> n).toNat = _
  rw [BitVec.toNat_ushiftRight, Nat.shiftRight_eq_div_pow]; rfl
theorem e_succ {k : Nat} (h : k < 9223372036854775807) : w64 ((k : Int) + 1) = ((k + 1 : Nat) : Int) := by
  rw [w64_id (by omega)]; rfl

/-! ### Values and their size -/
theorem value_eta (x : Api_Value) : Api_Value.mk x.Kind x.N x.B x.L = x := by cases x; rfl

mutual
def szV : Api_Value → Nat
  | .mk _ _ b l => b.length + 1 + szVs l
def szVs : List Api_Value → Nat
  | [] => 0
  | x :: l => szV x + szVs l
end

theorem szV_pos (x : Api_Value) : 0 < szV x := by
  cases x with
  | mk k n b l => simp only [szV]; omega
theorem szVs_mem {l : List Api_Value} {x : Api_Value} (h : x ∈ l) : szV x ≤ szVs l := by
  induction l with
  | nil => cases h
  | cons y l ih =>
    simp only [szVs]
    rcases List.mem_cons.1 h with rfl | h
    · omega
    · have := ih h; omega
theorem szVs_len (l : List Api_Value) : l.length ≤ szVs l := by
  induction l with
  | nil => simp [szVs]
  | cons y l ih =>
    have := szV_pos y
    simp only [szVs, List.length_cons]; omega
theorem szVs_drop (l : List Api_Value) (k : Nat) : szVs (l.drop k) ≤ szVs l := by
  induction l generalizing k with
  | nil => simp
  | cons y l ih =>
    cases k with
    | zero => simp
    | succ k => have := ih k; simp only [List.drop_succ_cons, szVs]; omega
theorem szV_eq (x : Api_Value) : szV x = x.B.length + 1 + szVs x.L := by
  cases x with
  | mk k n b l => rfl

/-! ### Integers -/
def nbF : Nat → Nat → Nat
  | 0, _ => 0
  | f + 1, u => if u = 0 then 0 else nbF f (u / 256) + 1
/-- The number of bytes that u needs. -/
def nb (u : Nat) : Nat := nbF 8 u

theorem nbF_le (f u : Nat) : nbF f u ≤ f := by
  induction f generalizing u with
  | zero => exact Nat.le_refl _
  | succ f ih =>
    unfold nbF
    split
    · omega
    · have := ih (u / 256); omega
theorem nbF_up (f u : Nat) (h : u < 256 ^ f) (m : Nat) : nbF (f + m) u = nbF f u := by
  induction f generalizing u with
  | zero =>
    have : u = 0 := by simpa using h
    subst this
    cases m with
    | zero => rfl
    | succ m => rw [Nat.zero_add]; unfold nbF; simp
  | succ f ih =>
    rw [show f + 1 + m = (f + m) + 1 by omega]
    unfold nbF
    split
    · rfl
    · rw [ih (u / 256) (by rw [Nat.pow_succ] at h; omega)]
theorem nb_le (u : Nat) : nb u ≤ 8 := nbF_le 8 u
theorem nb_zero : nb 0 = 0 := rfl
theorem nb_step (u : Nat) (h : u ≠ 0) (hu : u < 256 ^ 8) : nb u = nb (u / 256) + 1 := by
  unfold nb
  rw [show (8 : Nat) = 7 + 1 from rfl]
  rw [nbF_up 7 (u / 256) (by have : (256 : Nat) ^ 8 = 256 ^ 7 * 256 := rfl; omega) 1]
  conv => lhs; unfold nbF
  rw [if_neg h]

theorem size_eq (u : UInt64) : codec_appendInt_1 u = some ((nb u.toNat : Nat) : Int) := by
  obtain ⟨x, hx, hq⟩ := loopO_rule (f := fun (v : UInt64 × Int) => codec_appendInt_1_b1 v.1 v.2)
    (fun v => ∃ k : Nat, v.2 = (k : Int) ∧ k + nb v.1.toNat = nb u.toNat) (fun v => v.1.toNat) (fun x => x = ((nb u.toNat : Nat) : Int))
    (by
      rintro ⟨u', k'⟩ ⟨k, hk, hkn⟩
      simp only at hk hkn
      subst hk
      have hlt : u'.toNat < 256 ^ 8 := by have := u'.toNat_lt; exact this
      by_cases h0 : u'.toNat = 0
      · right
        refine ⟨(k : Int), ?_, ?_⟩
        · show codec_appendInt_1_b1 u' (k : Int) = _
          unfold codec_appendInt_1_b1
          rw [if_neg]
          simp only [decide_eq_true_eq, gt_iff_lt, UInt64.lt_iff_toNat_lt]
          show ¬ 0 < u'.toNat
          omega
        · rw [h0, nb_zero] at hkn; rw [← hkn]; rfl
      · left
        have hs : (shr64 u' ((8 : UInt64)).toNat).toNat = u'.toNat / 256 := by rw [e_shr64]; rfl
        refine ⟨(shr64 u' ((8 : UInt64)).toNat, ((k + 1 : Nat) : Int)), ?_, ⟨k + 1, rfl, ?_⟩, ?_⟩
        · show codec_appendInt_1_b1 u' (k : Int) = _
          unfold codec_appendInt_1_b1
          have := nb_le u.toNat
          rw [if_pos, e_succ (by omega)]
          · rfl
          · simp only [decide_eq_true_eq, gt_iff_lt, UInt64.lt_iff_toNat_lt]
            show 0 < u'.toNat
            omega
        · simp only [hs]
          have := nb_step _ h0 hlt
          omega
        · simp only [hs]
          omega) (v0 := (u, 0)) ⟨0, rfl, by simp⟩ (by have := u.toNat_lt; omega)
  subst hq
  unfold codec_appendInt_1
  exact (e_bindT (e_bindT hx)).trans rfl

/-- How many bytes the magnitude of n needs. -/
def nbI (n : Int) : Nat := if n < 0 then nb (~~~(UInt64.ofInt n)).toNat else nb (UInt64.ofInt n).toNat
def tagI (n : Int) : UInt8 := if n < 0 then UInt8.ofInt (31 - (nbI n : Int)) else UInt8.ofInt (32 + (nbI n : Int))
def byteI (n : Int) (k i : Nat) : UInt8 := (shr64 (UInt64.ofInt n) (8 * (k - 1 - i))).toUInt8
def encI (n : Int) : List UInt8 := tagI n :: (List.range (nbI n)).map (byteI n (nbI n))
theorem nbI_le (n : Int) : nbI n ≤ 8 := by unfold nbI; split <;> exact nb_le _
theorem encI_len (n : Int) : (encI n).length = nbI n + 1 := by simp [encI]

theorem appendInt_eq (b : List UInt8) (n : Int) (hb : b.length ≤ 1099511627776) : codec_appendInt b n = some (b ++ encI n) := by
  have h8 := nbI_le n
  have key : ∃ x, loopO (fun (v : Int × List UInt8) => codec_appendInt_b1 n ((nbI n : Nat) : Int) v.1 v.2) (0, b ++ [tagI n]) = some x ∧ x = b ++ encI n :=
    loopO_for (f := fun (v : Int × List UInt8) => codec_appendInt_b1 n ((nbI n : Nat) : Int) v.1 v.2) (nbI n)
      (fun k v => v = ((k : Int), b ++ tagI n :: (List.range k).map (byteI n (nbI n)))) (fun x => x = b ++ encI n) (by omega)
      (fun k v hk hv => by
        subst hv
        refine ⟨_, ?_, rfl⟩
        show codec_appendInt_b1 n ((nbI n : Nat) : Int) (k : Int) _ = _
        unfold codec_appendInt_b1
        have e1 : w64 (((nbI n : Nat) : Int) - 1) = ((nbI n - 1 : Nat) : Int) := by rw [w64_id (by omega)]; omega
        have e2 : w64 (((nbI n - 1 : Nat) : Int) - (k : Int)) = ((nbI n - 1 - k : Nat) : Int) := by rw [w64_id (by omega)]; omega
        have e3 : w64 (8 * ((nbI n - 1 - k : Nat) : Int)) = ((8 * (nbI n - 1 - k) : Nat) : Int) := by rw [w64_id (by omega)]; omega
        rw [if_pos (by simp; omega), e1, e2, e3, if_pos (by unfold NotNeg; omega), if_pos (fits1 (by simp; omega)), e_succ (by omega)]
        simp only [lt1, List.range_succ, List.map_append, List.map_cons, List.map_nil, List.append_assoc, List.cons_append]
        rfl)
      (fun v hv => by
        subst hv
        refine ⟨_, ?_, rfl⟩
        show codec_appendInt_b1 n ((nbI n : Nat) : Int) ((nbI n : Nat) : Int) _ = _
        unfold codec_appendInt_b1
        rw [if_neg (by simp)]
        rfl) (v0 := (0, b ++ [tagI n])) rfl
  obtain ⟨x, hx, rfl⟩ := key
  have hp : (if decide (n < 0) = true then
      (codec_appendInt_1 (~~~UInt64.ofInt n)).bind fun y => lt1 (UInt8.ofInt (w64 (31 - y))) fun (tag : UInt8) => some (y, tag)
    else some (((nb (UInt64.ofInt n).toNat : Nat) : Int), UInt8.ofInt (w64 (32 + ((nb (UInt64.ofInt n).toNat : Nat) : Int)))) : Option (Int × UInt8)) = some (((nbI n : Nat) : Int), tagI n) := by
    by_cases h : n < 0
    · rw [if_pos (by simpa using h), size_eq]
      have e : nbI n = nb (~~~(UInt64.ofInt n)).toNat := if_pos h
      rw [← e]
      show some (((nbI n : Nat) : Int), UInt8.ofInt (w64 (31 - ((nbI n : Nat) : Int)))) = _
      rw [w64_id (by omega)]
      unfold tagI
      rw [if_pos h]
    · rw [if_neg (by simpa using h)]
      have e : nbI n = nb (UInt64.ofInt n).toNat := if_neg h
      rw [← e, w64_id (by omega)]
      unfold tagI
      rw [if_neg h]
  unfold codec_appendInt
  refine (e_bindT (size_eq _)).trans ?_
  refine (e_lt1 _ _ _ rfl).trans ?_
  refine (e_bindT hp).trans ?_
  refine (if_pos (fits1 (by omega))).trans ?_
  refine (e_lt1 _ _ _ rfl).trans ?_
  exact (e_bindT (e_bindT hx)).trans rfl

/-! ### Shape -/
mutual
def shpV : Api_Value → Int × Bool
  | .mk k n b l =>
    if k = 1 then (0, b.length == 0 && l.length == 0)
    else if k = 2 then (0, n == 0 && l.length == 0)
    else if k = 3 then (if n = 0 ∧ b.length = 0 then shpL 0 l else (0, false))
    else (0, false)
def shpL (d : Int) : List Api_Value → Int × Bool
  | [] => (d + 1, true)
  | x :: l => if (shpV x).2 = true then shpL (mx64 d (shpV x).1) l else (0, false)
end

mutual
theorem shpV_le : ∀ v : Api_Value, 0 ≤ (shpV v).1 ∧ (shpV v).1 ≤ szV v
  | .mk k n b l => by
    have h := shpL_le 0 l
    unfold shpV szV
    split
    · simp; omega
    · split
      · simp; omega
      · split
        · split
          · omega
          · simp; omega
        · simp; omega
theorem shpL_le : ∀ (d : Int) (l : List Api_Value), 0 ≤ d → 0 ≤ (shpL d l).1 ∧ (shpL d l).1 ≤ max d (szVs l) + 1
  | d, [] => by intro h; simp [shpL, szVs]; omega
  | d, x :: l => by
    intro h
    have h1 := shpV_le x
    have hm : 0 ≤ mx64 d (shpV x).1 ∧ mx64 d (shpV x).1 ≤ max d (szV x) := by unfold mx64; split <;> omega
    have h2 := shpL_le (mx64 d (shpV x).1) l hm.1
    unfold shpL szVs
    split
    · omega
    · simp; omega
end
end Go.Proofs.Ytihncddenjbecaa
/-
  Readings of values (api.Value, a type that holds slices of itself).
-/
namespace Go.Proofs.Ytihncddenjbecaa
open Go.Rv
set_option linter.unusedVariables false

def rangeI (x : Int) : Prop := -9223372036854775808 ≤ x ∧ x ≤ 9223372036854775807
mutual
def okV : Api_Value → Prop
  | .mk k n b l => rangeI k ∧ rangeI n ∧ okVs l
def okVs : List Api_Value → Prop
  | [] => True
  | x :: l => okV x ∧ okVs l
end
theorem okVs_all (l : List Api_Value) : okVs l ↔ ∀ x ∈ l, okV x := by
  induction l with
  | nil => simp [okVs]
  | cons x l ih => simp [okVs, ih]
theorem okV_eq (v : Api_Value) : okV v ↔ rangeI v.Kind ∧ rangeI v.N ∧ ∀ x ∈ v.L, okV x := by
  rw [← okVs_all]
  cases v with
  | mk k n b l => simp only [okV]; rfl

theorem szL_one (b : List UInt8) : b.length ≤ szL (fun _ => 1) b := by
  unfold szL
  induction b with
  | nil => simp
  | cons x b ih => simp only [List.map_cons, List.sum_cons, List.length_cons] at ih ⊢; omega
theorem szL_szV (l : List Api_Value) : szVs l + 1 ≤ szL szV l := by
  unfold szL
  induction l with
  | nil => simp [szVs]
  | cons x b ih => simp only [List.map_cons, List.sum_cons, szVs] at ih ⊢; omega

theorem opensAt_value {P : Program} {BB : ∀ H : Type, DataW H → Nat} {t tI tB tL : TypeId} {fs : Array Field} (hB : BulkOk BB) (ht : P.underlying t = some (.struct fs))
    (hfs : fs.toList = [⟨"Kind", tI, 0, false, "", "", 0⟩, ⟨"N", tI, 1, false, "", "", 8⟩, ⟨"B", tB, 2, false, "", "", 16⟩, ⟨"L", tL, 3, false, "", "", 40⟩])
    (hn : P.cellsOf t = 4) (cI : P.cellsOf tI = 1) (cB : P.cellsOf tB = 1) (cL : P.cellsOf tL = 1)
    (oI : Opens P BB tI cI64 (fun _ => 1) (fun x => -9223372036854775808 ≤ x ∧ x ≤ 9223372036854775807))
    (oB : Opens P BB tB (cSl cU8) (szL fun _ => 1) (fun l => l.length ≤ maxLen ∧ ∀ x ∈ l, True))
    (hL : P.underlying tL = some (.slice t)) : ∀ fuel, OpensAt P BB fuel t cApi_Value szV okV
  | 0 => opensAt_zero
  | fuel + 1 => by
    have hl : OpensAt P BB fuel tL (cSl cApi_Value) (szL szV) (fun l => l.length ≤ maxLen ∧ ∀ x ∈ l, okV x) := by
      cases fuel with
      | zero => exact opensAt_zero
      | succ n => exact opensAt_slice hB hL hn (fun x => by rw [cApi_Value_eq]; rfl) (opensAt_value hB ht hfs hn cI cB cL oI oB hL n)
    refine opensAt_struct hB ht hn (c := fun x : Int × Int × List UInt8 × List Api_Value × Unit => cI64 x.1 ++ (cI64 x.2.1 ++ (cSl cU8 x.2.2.1 ++ (cSl cApi_Value x.2.2.2.1 ++ []))))
      (by
        rw [hfs]
        exact opensFsAt_cons (k := 1) rfl cI (fun _ => rfl) (oI.at fuel) (opensFsAt_cons (k := 1) rfl cI (fun _ => rfl) (oI.at fuel) (opensFsAt_cons (k := 1) rfl cB (fun _ => rfl) (oB.at fuel) (opensFsAt_cons (k := 1) rfl cL (fun _ => rfl) hl opensFsAt_nil))))
      (fun x => (Api_Value.mk x.1 x.2.1 x.2.2.1 x.2.2.2.1)) (fun x => by rw [cApi_Value_eq]; rfl) (fun x => by rw [cApi_Value_eq]; rfl) (fun x => ?_) (fun x h => ?_)
    · have h1 := szL_one x.2.2.1
      have h2 := szL_szV x.2.2.2.1
      simp only [szV]
      omega
    · exact (okV_eq _).2 ⟨h.1, h.2.1, h.2.2.2.1.2⟩
  termination_by fuel => fuel
end Go.Proofs.Ytihncddenjbecaa
/-
  Readings of arguments of chapter 01.
-/
namespace Go.Proofs.Ytihncddenjbecaa
open Go.Rv Go.ChangeShapes Go.WideShapes Go.ChangeAt Go.RowKit
set_option linter.unusedVariables false

theorem bulk_all (H : Type) (l : List (DataW H)) : (l.map (Rows.uptoBulk (H := H))).sum = Rows.uptoBulkAll l := by
  induction l with
  | nil => rfl
  | cons x l ih => simp only [List.map_cons, List.sum_cons, ih, Rows.uptoBulkAll]

theorem bulk_ok : BulkOk (fun H => Rows.uptoBulk (H := H)) where
  one := fun H d => by
    cases d with
    | lit l => cases l <;> simp [Rows.uptoBulk]
    | _ => simp [Rows.uptoBulk]
  str := fun H l => by simp [Rows.uptoBulk]
  slice := fun H e s => by rw [bulk_all]; simp only [Rows.uptoBulk]; omega
  agg := fun H p => by rw [bulk_all]; simp only [Rows.uptoBulk]; omega

theorem cells_of_5 : Try.prog.cellsOf 5 = 1 := by kernel_rfl
theorem cells_of_3 : Try.prog.cellsOf 3 = 1 := by kernel_rfl
theorem cells_of_22 : Try.prog.cellsOf 22 = 1 := by kernel_rfl
theorem cells_of_23 : Try.prog.cellsOf 23 = 1 := by kernel_rfl
theorem cells_of_25 : Try.prog.cellsOf 25 = 4 := by kernel_rfl
theorem opens5 : Opens Try.prog (fun H => Rows.uptoBulk (H := H)) 5 cU8 (fun _ => 1) (fun _ => True) := opens_u8 bulk_ok Try.underlying5
theorem opens3 : Opens Try.prog (fun H => Rows.uptoBulk (H := H)) 3 cI64 (fun _ => 1) (fun x => -9223372036854775808 ≤ x ∧ x ≤ 9223372036854775807) := opens_i64 bulk_ok Try.underlying3
theorem opens22 : Opens Try.prog (fun H => Rows.uptoBulk (H := H)) 22 (cSl cU8) (szL fun _ => 1) (fun l => l.length ≤ maxLen ∧ ∀ x ∈ l, True) :=
  opens_slice bulk_ok Try.underlying22 cells_of_5 (fun _ => rfl) (opens_u8 bulk_ok Try.underlying5)
theorem opens25 : Opens Try.prog (fun H => Rows.uptoBulk (H := H)) 25 cApi_Value szV okV :=
  opens_of_at (opensAt_value bulk_ok Try.underlying25 rfl cells_of_25 cells_of_3 cells_of_22 cells_of_23 (opens_i64 bulk_ok Try.underlying3) opens22 Try.underlying23)
theorem opens23 : Opens Try.prog (fun H => Rows.uptoBulk (H := H)) 23 (cSl cApi_Value) (szL szV) (fun l => l.length ≤ maxLen ∧ ∀ x ∈ l, okV x) :=
  opens_slice bulk_ok Try.underlying23 cells_of_25 (fun x => by rw [cApi_Value_eq]; rfl) opens25

theorem szL_len (b : List UInt8) : b.length ≤ szL (fun _ => 1) b := szL_one b
theorem own : ownKnob Try.prog.godebug = none := by kernel_rfl
theorem laid_ok : laidOutB Try.prog = true := by kernel_rfl
theorem G_none : ∀ i, B.G i = none := fun _ => rfl
end Go.Proofs.Ytihncddenjbecaa
/-
  The functions compute just that.
-/
namespace Go.Proofs.Ytihncddenjbecaa
open Go.Rv
set_option linter.unusedVariables false
set_option linter.unusedSimpArgs false
set_option maxRecDepth 20000

theorem law01_CodecRoundTrip_con {v_3274 : Api_Value} {r : Bool} (h : law01_CodecRoundTrip v_3274 = some r) : Con B 5 [.agg [i64 v_3274.Kind, i64 v_3274.N, .sl false (L cU8 v_3274.B), .sl false (L cApi_Value v_3274.L)]] [] (fun r' σ' => r' = .bool r ∧ σ' = []) := by
  refine con_walk (N := 56) (rs := [.tmp 2]) ok Try.func5 rfl (by decide +kernel) rfl rfl (Nat.le_of_ble_eq_true rfl) (fun F => ?_)
  have hE := ok.env F
  unfold law01_CodecRoundTrip at h
  show Run (B.env F) 0 _ ⟨asFr 56 [(0, .agg [i64 v_3274.Kind, i64 v_3274.N, .sl false (L cU8 v_3274.B), .sl false (L cApi_Value v_3274.L)])], []⟩ _
  refine run_textE hE [1] (fr' := [(1, .ref 0 0)]) (σ' := [.box [i64 v_3274.Kind, i64 v_3274.N, .sl false (L cU8 v_3274.B), .sl false (L cApi_Value v_3274.L)] false]) ⟨_, orcs_nil, ?_⟩ ?_
  · simp only [go_sem, reduceIte, Nat.reduceLT, Nat.reduceEqDiff, Nat.reduceAdd]
  refine run_seq ?_
  replace h := bind_some1 h; obtain ⟨y_3275, hy_3276, h⟩ := h
  refine run_textE hE [1, 9] (fr' := [(1, .ref 0 0), (9, .bool ((!y_3275)))]) (σ' := [.box [i64 v_3274.Kind, i64 v_3274.N, .sl false (L cU8 v_3274.B), .sl false (L cApi_Value v_3274.L)] false]) ⟨_, orcs_ok (l := [(8, 13, [], .bool y_3275)]) ⟨law01_sane_con  hy_3276, trivial⟩, ?_⟩ ?_
  · simp only [go_sem, reduceIte, Nat.reduceLT, Nat.reduceEqDiff, Nat.reduceAdd]
  refine run_condL (b := (!y_3275)) rfl (by decide) (fun hb => ?_) (fun hb => ?_)
  · replace h := ite_t h hb
    refine run_textE hE [2] (fr' := [(2, .bool false)]) (σ' := [.box [i64 v_3274.Kind, i64 v_3274.N, .sl false (L cU8 v_3274.B), .sl false (L cApi_Value v_3274.L)] false]) ⟨_, orcs_nil, ?_⟩ ?_
    · simp only [go_sem, reduceIte, Nat.reduceLT, Nat.reduceEqDiff, Nat.reduceAdd]
    refine run_ret ?_
    refine thenK_r ?_
    obtain rfl := Option.some.inj h
    refine ret_ok (.inr rfl) ?_
    simp only [go_sem, reduceIte, Nat.reduceLT, Nat.reduceEqDiff, Nat.reduceAdd]
  · replace h := ite_f h hb
    refine run_skip ?_
    refine thenK_n ?_
    replace h := bind_some1 h; obtain ⟨y_3277, hy_3278, h⟩ := h
    refine run_textE hE [1, 3] (fr' := [(1, .ref 0 0), (3, i64 y_3277)]) (σ' := [.box [i64 v_3274.Kind, i64 v_3274.N, .sl false (L cU8 v_3274.B), .sl false (L cApi_Value v_3274.L)] false]) ⟨_, orcs_ok (l := [(11, 16, [.agg [i64 v_3274.Kind, i64 v_3274.N, .sl false (L cU8 v_3274.B), .sl false (L cApi_Value v_3274.L)]], i64 y_3277)]) ⟨codec_Check_con  hy_3278, trivial⟩, ?_⟩ ?_
    · simp only [go_sem, reduceIte, Nat.reduceLT, Nat.reduceEqDiff, Nat.reduceAdd]
    replace h := bind_some1 h; obtain ⟨y_3279, hy_3280, h⟩ := h
    refine run_textE hE [1, 3, 4, 5] (fr' := [(1, .ref 0 0), (3, i64 y_3277), (4, .sl false (L cU8 y_3279.1)), (5, i64 y_3279.2)]) (σ' := [.box [i64 v_3274.Kind, i64 v_3274.N, .sl false (L cU8 v_3274.B), .sl false (L cApi_Value v_3274.L)] false]) ⟨_, orcs_ok (l := [(14, 14, [.agg [i64 v_3274.Kind, i64 v_3274.N, .sl false (L cU8 v_3274.B), .sl false (L cApi_Value v_3274.L)]], .tup [.sl false (L cU8 y_3279.1), i64 y_3279.2])]) ⟨codec_Encode_con  hy_3280, trivial⟩, ?_⟩ ?_
    · simp only [go_sem, reduceIte, Nat.reduceLT, Nat.reduceEqDiff, Nat.reduceAdd]
    refine run_seq ?_
    refine run_textE hE [1, 3, 4, 5, 18] (fr' := [(1, .ref 0 0), (3, i64 y_3277), (4, .sl false (L cU8 y_3279.1)), (5, i64 y_3279.2), (18, .bool ((y_3277 != 0)))]) (σ' := [.box [i64 v_3274.Kind, i64 v_3274.N, .sl false (L cU8 v_3274.B), .sl false (L cApi_Value v_3274.L)] false]) ⟨_, orcs_nil, ?_⟩ ?_
    · simp only [go_sem, reduceIte, Nat.reduceLT, Nat.reduceEqDiff, Nat.reduceAdd]
    refine run_condL (b := (y_3277 != 0)) rfl (by decide) (fun hb => ?_) (fun hb => ?_)
    · replace h := ite_t h hb
      replace h := bind_some1 h; obtain ⟨t_3281, hv_3282, h⟩ := h
      refine run_textW hE [2] (fr' := [(2, .bool t_3281)]) (σ' := []) ?_ ?_
      · rcases Bool.eq_false_or_eq_true ((y_3279.2 == y_3277)) with hb_3283 | hb_3283
        · replace hv_3282 := ite_t hv_3282 hb_3283
          rcases Bool.eq_false_or_eq_true (((y_3279.1.length : Int) == 0)) with hb_3284 | hb_3284
          · replace hv_3282 := ite_t hv_3282 hb_3284
            rcases Bool.eq_false_or_eq_true ((y_3277 == 10)) with hb_3285 | hb_3285
            · replace hv_3282 := ite_t hv_3282 hb_3285
              have e_hv_3282 := Option.some.inj hv_3282; subst e_hv_3282
              exact ⟨_, [(2, .bool true)], [.box [i64 v_3274.Kind, i64 v_3274.N, .sl false (L cU8 v_3274.B), .sl false (L cApi_Value v_3274.L)] false], orcs_nil, by simp only [go_sem, reduceIte, Nat.reduceLT, Nat.reduceEqDiff, Nat.reduceAdd, hb_3283, hb_3284, hb_3285], (weak_sel [] (by decide) rfl (by simp only [go_sem, reduceIte, Nat.reduceLT, Nat.reduceEqDiff, Nat.reduceAdd]) (by simp only [go_sem, reduceIte, Nat.reduceLT, Nat.reduceEqDiff, Nat.reduceAdd]))⟩
            · replace hv_3282 := ite_f hv_3282 hb_3285
              have e_hv_3282 := Option.some.inj hv_3282; subst e_hv_3282
              exact ⟨_, [(2, .bool ((y_3277 == 2)))], [.box [i64 v_3274.Kind, i64 v_3274.N, .sl false (L cU8 v_3274.B), .sl false (L cApi_Value v_3274.L)] false], orcs_nil, by simp only [go_sem, reduceIte, Nat.reduceLT, Nat.reduceEqDiff, Nat.reduceAdd, hb_3283, hb_3284, hb_3285], (weak_sel [] (by decide) rfl (by simp only [go_sem, reduceIte, Nat.reduceLT, Nat.reduceEqDiff, Nat.reduceAdd]) (by simp only [go_sem, reduceIte, Nat.reduceLT, Nat.reduceEqDiff, Nat.reduceAdd]))⟩
          · replace hv_3282 := ite_f hv_3282 hb_3284
            have e_hv_3282 := Option.some.inj hv_3282; subst e_hv_3282
            exact ⟨_, [(2, .bool false)], [.box [i64 v_3274.Kind, i64 v_3274.N, .sl false (L cU8 v_3274.B), .sl false (L cApi_Value v_3274.L)] false], orcs_nil, by simp only [go_sem, reduceIte, Nat.reduceLT, Nat.reduceEqDiff, Nat.reduceAdd, hb_3283, hb_3284], (weak_sel [] (by decide) rfl (by simp only [go_sem, reduceIte, Nat.reduceLT, Nat.reduceEqDiff, Nat.reduceAdd]) (by simp only [go_sem, reduceIte, Nat.reduceLT, Nat.reduceEqDiff, Nat.reduceAdd]))⟩
        · replace hv_3282 := ite_f hv_3282 hb_3283
          have e_hv_3282 := Option.some.inj hv_3282; subst e_hv_3282
          exact ⟨_, [(2, .bool false)], [.box [i64 v_3274.Kind, i64 v_3274.N, .sl false (L cU8 v_3274.B), .sl false (L cApi_Value v_3274.L)] false], orcs_nil, by simp only [go_sem, reduceIte, Nat.reduceLT, Nat.reduceEqDiff, Nat.reduceAdd, hb_3283], (weak_sel [] (by decide) rfl (by simp only [go_sem, reduceIte, Nat.reduceLT, Nat.reduceEqDiff, Nat.reduceAdd]) (by simp only [go_sem, reduceIte, Nat.reduceLT, Nat.reduceEqDiff, Nat.reduceAdd]))⟩
      refine run_ret ?_
      refine thenK_r ?_
      obtain rfl := Option.some.inj h
      refine ret_ok (.inr rfl) ?_
      simp only [go_sem, reduceIte, Nat.reduceLT, Nat.reduceEqDiff, Nat.reduceAdd]
    · replace h := ite_f h hb
      refine run_skip ?_
      refine thenK_n ?_
      replace h := bind_some1 h; obtain ⟨y_3286, hy_3287, h⟩ := h
      refine run_textE hE [1, 4, 5, 6, 7] (fr' := [(1, .ref 0 0), (4, .sl false (L cU8 y_3279.1)), (5, i64 y_3279.2), (6, .ref 1 0), (7, i64 y_3286.2)]) (σ' := [.box [i64 v_3274.Kind, i64 v_3274.N, .sl false (L cU8 v_3274.B), .sl false (L cApi_Value v_3274.L)] false, .box [i64 y_3286.1.Kind, i64 y_3286.1.N, .sl false (L cU8 y_3286.1.B), .sl false (L cApi_Value y_3286.1.L)] false]) ⟨_, orcs_ok (l := [(37, 21, [.sl false (L cU8 y_3279.1)], .tup [.agg [i64 y_3286.1.Kind, i64 y_3286.1.N, .sl false (L cU8 y_3286.1.B), .sl false (L cApi_Value y_3286.1.L)], i64 y_3286.2])]) ⟨codec_Decode_con  hy_3287, trivial⟩, ?_⟩ ?_
      · simp only [go_sem, reduceIte, Nat.reduceLT, Nat.reduceEqDiff, Nat.reduceAdd]
      replace h := bind_some1 h; obtain ⟨t_3289, hv_3290, h⟩ := h
      refine run_textW hE [2] (fr' := [(2, .bool t_3289)]) (σ' := []) ?_ ?_
      · rcases Bool.eq_false_or_eq_true ((y_3279.2 == 0)) with hb_3291 | hb_3291
        · replace hv_3290 := ite_t hv_3290 hb_3291
          rcases Bool.eq_false_or_eq_true ((y_3286.2 == 0)) with hb_3292 | hb_3292
          · replace hv_3290 := ite_t hv_3290 hb_3292
            replace hv_3290 := bind_some1 hv_3290; obtain ⟨y_3288, hy_3293, hv_3290⟩ := hv_3290
            rcases Bool.eq_false_or_eq_true y_3288 with hb_3294 | hb_3294
            · replace hv_3290 := ite_t hv_3290 hb_3294
              have e_hv_3290 := Option.some.inj hv_3290; subst e_hv_3290
              exact ⟨_, [(2, .bool ((decide ((y_3279.1.length : Int) ≤ 65536))))], [.box [i64 v_3274.Kind, i64 v_3274.N, .sl false (L cU8 v_3274.B), .sl false (L cApi_Value v_3274.L)] false, .box [i64 y_3286.1.Kind, i64 y_3286.1.N, .sl false (L cU8 y_3286.1.B), .sl false (L cApi_Value y_3286.1.L)] false], orcs_ok (l := [(49, 23, [.agg [i64 v_3274.Kind, i64 v_3274.N, .sl false (L cU8 v_3274.B), .sl false (L cApi_Value v_3274.L)], .agg [i64 y_3286.1.Kind, i64 y_3286.1.N, .sl false (L cU8 y_3286.1.B), .sl false (L cApi_Value y_3286.1.L)]], .bool y_3288)]) ⟨r01_Same_con  hy_3293, trivial⟩, by simp only [go_sem, reduceIte, Nat.reduceLT, Nat.reduceEqDiff, Nat.reduceAdd, hb_3291, hb_3292, hb_3294], (weak_sel [] (by decide) rfl (by simp only [go_sem, reduceIte, Nat.reduceLT, Nat.reduceEqDiff, Nat.reduceAdd]) (by simp only [go_sem, reduceIte, Nat.reduceLT, Nat.reduceEqDiff, Nat.reduceAdd]))⟩
            · replace hv_3290 := ite_f hv_3290 hb_3294
              have e_hv_3290 := Option.some.inj hv_3290; subst e_hv_3290
              exact ⟨_, [(2, .bool false)], [.box [i64 v_3274.Kind, i64 v_3274.N, .sl false (L cU8 v_3274.B), .sl false (L cApi_Value v_3274.L)] false, .box [i64 y_3286.1.Kind, i64 y_3286.1.N, .sl false (L cU8 y_3286.1.B), .sl false (L cApi_Value y_3286.1.L)] false], orcs_ok (l := [(49, 23, [.agg [i64 v_3274.Kind, i64 v_3274.N, .sl false (L cU8 v_3274.B), .sl false (L cApi_Value v_3274.L)], .agg [i64 y_3286.1.Kind, i64 y_3286.1.N, .sl false (L cU8 y_3286.1.B), .sl false (L cApi_Value y_3286.1.L)]], .bool y_3288)]) ⟨r01_Same_con  hy_3293, trivial⟩, by simp only [go_sem, reduceIte, Nat.reduceLT, Nat.reduceEqDiff, Nat.reduceAdd, hb_3291, hb_3292, hb_3294], (weak_sel [] (by decide) rfl (by simp only [go_sem, reduceIte, Nat.reduceLT, Nat.reduceEqDiff, Nat.reduceAdd]) (by simp only [go_sem, reduceIte, Nat.reduceLT, Nat.reduceEqDiff, Nat.reduceAdd]))⟩
          · replace hv_3290 := ite_f hv_3290 hb_3292
            have e_hv_3290 := Option.some.inj hv_3290; subst e_hv_3290
            exact ⟨_, [(2, .bool false)], [.box [i64 v_3274.Kind, i64 v_3274.N, .sl false (L cU8 v_3274.B), .sl false (L cApi_Value v_3274.L)] false, .box [i64 y_3286.1.Kind, i64 y_3286.1.N, .sl false (L cU8 y_3286.1.B), .sl false (L cApi_Value y_3286.1.L)] false], orcs_nil, by simp only [go_sem, reduceIte, Nat.reduceLT, Nat.reduceEqDiff, Nat.reduceAdd, hb_3291, hb_3292], (weak_sel [] (by decide) rfl (by simp only [go_sem, reduceIte, Nat.reduceLT, Nat.reduceEqDiff, Nat.reduceAdd]) (by simp only [go_sem, reduceIte, Nat.reduceLT, Nat.reduceEqDiff, Nat.reduceAdd]))⟩
        · replace hv_3290 := ite_f hv_3290 hb_3291
          have e_hv_3290 := Option.some.inj hv_3290; subst e_hv_3290
          exact ⟨_, [(2, .bool false)], [.box [i64 v_3274.Kind, i64 v_3274.N, .sl false (L cU8 v_3274.B), .sl false (L cApi_Value v_3274.L)] false, .box [i64 y_3286.1.Kind, i64 y_3286.1.N, .sl false (L cU8 y_3286.1.B), .sl false (L cApi_Value y_3286.1.L)] false], orcs_nil, by simp only [go_sem, reduceIte, Nat.reduceLT, Nat.reduceEqDiff, Nat.reduceAdd, hb_3291], (weak_sel [] (by decide) rfl (by simp only [go_sem, reduceIte, Nat.reduceLT, Nat.reduceEqDiff, Nat.reduceAdd]) (by simp only [go_sem, reduceIte, Nat.reduceLT, Nat.reduceEqDiff, Nat.reduceAdd]))⟩
      refine run_ret ?_
      obtain rfl := Option.some.inj h
      refine ret_ok (.inr rfl) ?_
      simp only [go_sem, reduceIte, Nat.reduceLT, Nat.reduceEqDiff, Nat.reduceAdd]

theorem law01_CodecCanonical_con {b_3295 : List UInt8} {r : Bool} (h : law01_CodecCanonical b_3295 = some r) : Con B 6 [.sl false (L cU8 b_3295)] [] (fun r' σ' => r' = .bool r ∧ σ' = []) := by
  refine con_walk (N := 48) (rs := [.tmp 2]) ok Try.func6 rfl (by decide +kernel) rfl rfl (Nat.le_of_ble_eq_true rfl) (fun F => ?_)
  have hE := ok.env F
  unfold law01_CodecCanonical at h
  show Run (B.env F) 0 _ ⟨asFr 48 [(0, .sl false (L cU8 b_3295))], []⟩ _
  refine run_textE hE [0] (fr' := [(0, .sl false (L cU8 b_3295))]) (σ' := []) ⟨_, orcs_nil, ?_⟩ ?_
  · simp only [go_sem, reduceIte, Nat.reduceLT, Nat.reduceEqDiff, Nat.reduceAdd]
  refine run_seq ?_
  replace h := bind_some1 h; obtain ⟨y_3296, hy_3297, h⟩ := h
  refine run_textE hE [0, 8] (fr' := [(0, .sl false (L cU8 b_3295)), (8, .bool ((!y_3296)))]) (σ' := []) ⟨_, orcs_ok (l := [(7, 13, [], .bool y_3296)]) ⟨law01_sane_con  hy_3297, trivial⟩, ?_⟩ ?_
  · simp only [go_sem, reduceIte, Nat.reduceLT, Nat.reduceEqDiff, Nat.reduceAdd]
  refine run_condL (b := (!y_3296)) rfl (by decide) (fun hb => ?_) (fun hb => ?_)
  · replace h := ite_t h hb
    refine run_textE hE [2] (fr' := [(2, .bool false)]) (σ' := []) ⟨_, orcs_nil, ?_⟩ ?_
    · simp only [go_sem, reduceIte, Nat.reduceLT, Nat.reduceEqDiff, Nat.reduceAdd]
    refine run_ret ?_
    refine thenK_r ?_
    obtain rfl := Option.some.inj h
    refine ret_ok (.inr rfl) ?_
    simp only [go_sem, reduceIte, Nat.reduceLT, Nat.reduceEqDiff, Nat.reduceAdd]
  · replace h := ite_f h hb
    refine run_skip ?_
    refine thenK_n ?_
    replace h := bind_some1 h; obtain ⟨y_3298, hy_3299, h⟩ := h
    refine run_textE hE [0, 3, 4] (fr' := [(0, .sl false (L cU8 b_3295)), (3, .ref 0 0), (4, i64 y_3298.2)]) (σ' := [.box [i64 y_3298.1.Kind, i64 y_3298.1.N, .sl false (L cU8 y_3298.1.B), .sl false (L cApi_Value y_3298.1.L)] false]) ⟨_, orcs_ok (l := [(11, 21, [.sl false (L cU8 b_3295)], .tup [.agg [i64 y_3298.1.Kind, i64 y_3298.1.N, .sl false (L cU8 y_3298.1.B), .sl false (L cApi_Value y_3298.1.L)], i64 y_3298.2])]) ⟨codec_Decode_con  hy_3299, trivial⟩, ?_⟩ ?_
    · simp only [go_sem, reduceIte, Nat.reduceLT, Nat.reduceEqDiff, Nat.reduceAdd]
    refine run_seq ?_
    refine run_textE hE [0, 3, 4, 15] (fr' := [(0, .sl false (L cU8 b_3295)), (3, .ref 0 0), (4, i64 y_3298.2), (15, .bool ((y_3298.2 != 0)))]) (σ' := [.box [i64 y_3298.1.Kind, i64 y_3298.1.N, .sl false (L cU8 y_3298.1.B), .sl false (L cApi_Value y_3298.1.L)] false]) ⟨_, orcs_nil, ?_⟩ ?_
    · simp only [go_sem, reduceIte, Nat.reduceLT, Nat.reduceEqDiff, Nat.reduceAdd]
    refine run_condL (b := (y_3298.2 != 0)) rfl (by decide) (fun hb => ?_) (fun hb => ?_)
    · replace h := ite_t h hb
      replace h := bind_some1 h; obtain ⟨t_3301, hv_3302, h⟩ := h
      refine run_textW hE [2] (fr' := [(2, .bool t_3301)]) (σ' := []) ?_ ?_
      · replace hv_3302 := bind_some1 hv_3302; obtain ⟨y_3300, hy_3303, hv_3302⟩ := hv_3302
        rcases Bool.eq_false_or_eq_true y_3300 with hb_3304 | hb_3304
        · replace hv_3302 := ite_t hv_3302 hb_3304
          rcases Bool.eq_false_or_eq_true ((y_3298.2 == 2)) with hb_3305 | hb_3305
          · replace hv_3302 := ite_t hv_3302 hb_3305
            have e_hv_3302 := Option.some.inj hv_3302; subst e_hv_3302
            exact ⟨_, [(2, .bool true)], [.box [i64 y_3298.1.Kind, i64 y_3298.1.N, .sl false (L cU8 y_3298.1.B), .sl false (L cApi_Value y_3298.1.L)] false], orcs_ok (l := [(18, 23, [.agg [i64 y_3298.1.Kind, i64 y_3298.1.N, .sl false (L cU8 y_3298.1.B), .sl false (L cApi_Value y_3298.1.L)], .agg [i64 0, i64 0, .sl false (L cU8 ([])), .sl false (L cApi_Value ([]))]], .bool y_3300)]) ⟨r01_Same_con  hy_3303, trivial⟩, by simp only [go_sem, reduceIte, Nat.reduceLT, Nat.reduceEqDiff, Nat.reduceAdd, Nat.reduceGT, hb_3304, hb_3305], (weak_sel [] (by decide) rfl (by simp only [go_sem, reduceIte, Nat.reduceLT, Nat.reduceEqDiff, Nat.reduceAdd]) (by simp only [go_sem, reduceIte, Nat.reduceLT, Nat.reduceEqDiff, Nat.reduceAdd]))⟩
          · replace hv_3302 := ite_f hv_3302 hb_3305
            rcases Bool.eq_false_or_eq_true ((y_3298.2 == 5)) with hb_3306 | hb_3306
            · replace hv_3302 := ite_t hv_3302 hb_3306
              have e_hv_3302 := Option.some.inj hv_3302; subst e_hv_3302
              exact ⟨_, [(2, .bool true)], [.box [i64 y_3298.1.Kind, i64 y_3298.1.N, .sl false (L cU8 y_3298.1.B), .sl false (L cApi_Value y_3298.1.L)] false], orcs_ok (l := [(18, 23, [.agg [i64 y_3298.1.Kind, i64 y_3298.1.N, .sl false (L cU8 y_3298.1.B), .sl false (L cApi_Value y_3298.1.L)], .agg [i64 0, i64 0, .sl false (L cU8 ([])), .sl false (L cApi_Value ([]))]], .bool y_3300)]) ⟨r01_Same_con  hy_3303, trivial⟩, by simp only [go_sem, reduceIte, Nat.reduceLT, Nat.reduceEqDiff, Nat.reduceAdd, Nat.reduceGT, hb_3304, hb_3305, hb_3306], (weak_sel [] (by decide) rfl (by simp only [go_sem, reduceIte, Nat.reduceLT, Nat.reduceEqDiff, Nat.reduceAdd]) (by simp only [go_sem, reduceIte, Nat.reduceLT, Nat.reduceEqDiff, Nat.reduceAdd]))⟩
            · replace hv_3302 := ite_f hv_3302 hb_3306
              have e_hv_3302 := Option.some.inj hv_3302; subst e_hv_3302
              exact ⟨_, [(2, .bool ((y_3298.2 == 4)))], [.box [i64 y_3298.1.Kind, i64 y_3298.1.N, .sl false (L cU8 y_3298.1.B), .sl false (L cApi_Value y_3298.1.L)] false], orcs_ok (l := [(18, 23, [.agg [i64 y_3298.1.Kind, i64 y_3298.1.N, .sl false (L cU8 y_3298.1.B), .sl false (L cApi_Value y_3298.1.L)], .agg [i64 0, i64 0, .sl false (L cU8 ([])), .sl false (L cApi_Value ([]))]], .bool y_3300)]) ⟨r01_Same_con  hy_3303, trivial⟩, by simp only [go_sem, reduceIte, Nat.reduceLT, Nat.reduceEqDiff, Nat.reduceAdd, Nat.reduceGT, hb_3304, hb_3305, hb_3306], (weak_sel [] (by decide) rfl (by simp only [go_sem, reduceIte, Nat.reduceLT, Nat.reduceEqDiff, Nat.reduceAdd]) (by simp only [go_sem, reduceIte, Nat.reduceLT, Nat.reduceEqDiff, Nat.reduceAdd]))⟩
        · replace hv_3302 := ite_f hv_3302 hb_3304
          have e_hv_3302 := Option.some.inj hv_3302; subst e_hv_3302
          exact ⟨_, [(2, .bool false)], [.box [i64 y_3298.1.Kind, i64 y_3298.1.N, .sl false (L cU8 y_3298.1.B), .sl false (L cApi_Value y_3298.1.L)] false], orcs_ok (l := [(18, 23, [.agg [i64 y_3298.1.Kind, i64 y_3298.1.N, .sl false (L cU8 y_3298.1.B), .sl false (L cApi_Value y_3298.1.L)], .agg [i64 0, i64 0, .sl false (L cU8 ([])), .sl false (L cApi_Value ([]))]], .bool y_3300)]) ⟨r01_Same_con  hy_3303, trivial⟩, by simp only [go_sem, reduceIte, Nat.reduceLT, Nat.reduceEqDiff, Nat.reduceAdd, Nat.reduceGT, hb_3304], (weak_sel [] (by decide) rfl (by simp only [go_sem, reduceIte, Nat.reduceLT, Nat.reduceEqDiff, Nat.reduceAdd]) (by simp only [go_sem, reduceIte, Nat.reduceLT, Nat.reduceEqDiff, Nat.reduceAdd]))⟩
      refine run_ret ?_
      refine thenK_r ?_
      obtain rfl := Option.some.inj h
      refine ret_ok (.inr rfl) ?_
      simp only [go_sem, reduceIte, Nat.reduceLT, Nat.reduceEqDiff, Nat.reduceAdd]
    · replace h := ite_f h hb
      refine run_skip ?_
      refine thenK_n ?_
      replace h := bind_some1 h; obtain ⟨y_3307, hy_3308, h⟩ := h
      refine run_textE hE [0, 3, 5, 6] (fr' := [(0, .sl false (L cU8 b_3295)), (3, .ref 0 0), (5, .sl false (L cU8 y_3307.1)), (6, i64 y_3307.2)]) (σ' := [.box [i64 y_3298.1.Kind, i64 y_3298.1.N, .sl false (L cU8 y_3298.1.B), .sl false (L cApi_Value y_3298.1.L)] false]) ⟨_, orcs_ok (l := [(33, 14, [.agg [i64 y_3298.1.Kind, i64 y_3298.1.N, .sl false (L cU8 y_3298.1.B), .sl false (L cApi_Value y_3298.1.L)]], .tup [.sl false (L cU8 y_3307.1), i64 y_3307.2])]) ⟨codec_Encode_con  hy_3308, trivial⟩, ?_⟩ ?_
      · simp only [go_sem, reduceIte, Nat.reduceLT, Nat.reduceEqDiff, Nat.reduceAdd]
      replace h := bind_some1 h; obtain ⟨t_3311, hv_3312, h⟩ := h
      refine run_textW hE [2] (fr' := [(2, .bool t_3311)]) (σ' := []) ?_ ?_
      · rcases Bool.eq_false_or_eq_true ((y_3307.2 == 0)) with hb_3313 | hb_3313
        · replace hv_3312 := ite_t hv_3312 hb_3313
          replace hv_3312 := bind_some1 hv_3312; obtain ⟨y_3309, hy_3314, hv_3312⟩ := hv_3312
          rcases Bool.eq_false_or_eq_true y_3309 with hb_3315 | hb_3315
          · replace hv_3312 := ite_t hv_3312 hb_3315
            replace hv_3312 := bind_some1 hv_3312; obtain ⟨y_3310, hy_3316, hv_3312⟩ := hv_3312
            have e_hv_3312 := Option.some.inj hv_3312; subst e_hv_3312
            exact ⟨_, [(2, .bool ((y_3310 == 0)))], [.box [i64 y_3298.1.Kind, i64 y_3298.1.N, .sl false (L cU8 y_3298.1.B), .sl false (L cApi_Value y_3298.1.L)] false], orcs_ok (l := [(41, 18, [.sl false (L cU8 b_3295), .sl false (L cU8 y_3307.1)], .bool y_3309), (45, 16, [.agg [i64 y_3298.1.Kind, i64 y_3298.1.N, .sl false (L cU8 y_3298.1.B), .sl false (L cApi_Value y_3298.1.L)]], i64 y_3310)]) ⟨r01_SameBytes_con  hy_3314, codec_Check_con  hy_3316, trivial⟩, by simp only [go_sem, reduceIte, Nat.reduceLT, Nat.reduceEqDiff, Nat.reduceAdd, hb_3313, hb_3315], (weak_sel [] (by decide) rfl (by simp only [go_sem, reduceIte, Nat.reduceLT, Nat.reduceEqDiff, Nat.reduceAdd]) (by simp only [go_sem, reduceIte, Nat.reduceLT, Nat.reduceEqDiff, Nat.reduceAdd]))⟩
          · replace hv_3312 := ite_f hv_3312 hb_3315
            have e_hv_3312 := Option.some.inj hv_3312; subst e_hv_3312
            exact ⟨_, [(2, .bool false)], [.box [i64 y_3298.1.Kind, i64 y_3298.1.N, .sl false (L cU8 y_3298.1.B), .sl false (L cApi_Value y_3298.1.L)] false], orcs_ok (l := [(41, 18, [.sl false (L cU8 b_3295), .sl false (L cU8 y_3307.1)], .bool y_3309)]) ⟨r01_SameBytes_con  hy_3314, trivial⟩, by simp only [go_sem, reduceIte, Nat.reduceLT, Nat.reduceEqDiff, Nat.reduceAdd, hb_3313, hb_3315], (weak_sel [] (by decide) rfl (by simp only [go_sem, reduceIte, Nat.reduceLT, Nat.reduceEqDiff, Nat.reduceAdd]) (by simp only [go_sem, reduceIte, Nat.reduceLT, Nat.reduceEqDiff, Nat.reduceAdd]))⟩
        · replace hv_3312 := ite_f hv_3312 hb_3313
          have e_hv_3312 := Option.some.inj hv_3312; subst e_hv_3312
          exact ⟨_, [(2, .bool false)], [.box [i64 y_3298.1.Kind, i64 y_3298.1.N, .sl false (L cU8 y_3298.1.B), .sl false (L cApi_Value y_3298.1.L)] false], orcs_nil, by simp only [go_sem, reduceIte, Nat.reduceLT, Nat.reduceEqDiff, Nat.reduceAdd, hb_3313], (weak_sel [] (by decide) rfl (by simp only [go_sem, reduceIte, Nat.reduceLT, Nat.reduceEqDiff, Nat.reduceAdd]) (by simp only [go_sem, reduceIte, Nat.reduceLT, Nat.reduceEqDiff, Nat.reduceAdd]))⟩
      refine run_ret ?_
      obtain rfl := Option.some.inj h
      refine ret_ok (.inr rfl) ?_
      simp only [go_sem, reduceIte, Nat.reduceLT, Nat.reduceEqDiff, Nat.reduceAdd]

end Go.Proofs.Ytihncddenjbecaa
/-
  The encoder, the recursive functions: shape, appendValue, Encode.
-/
namespace Go.Proofs.Ytihncddenjbecaa
open Go.Rv
set_option linter.unusedVariables false
set_option linter.unusedSimpArgs false

theorem nth_mem {l : List Api_Value} {k : Nat} (h : k < l.length) : nth l k = l[k] := by simp [nth, List.getD_eq_getElem?_getD, h]

theorem len0 {α : Type} (l : List α) : ((l.length : Int) == 0) = (l.length == 0) := by
  cases l with
  | nil => rfl
  | cons a l => simp; omega
theorem shpL_nil (d : Int) : shpL d [] = (d + 1, true) := by unfold shpL; rfl
theorem shpL_cons (d : Int) (x : Api_Value) (l : List Api_Value) : shpL d (x :: l) = if (shpV x).2 = true then shpL (mx64 d (shpV x).1) l else (0, false) := by
  conv => lhs; unfold shpL

/-! ### Shape -/
theorem shape_loop (v : Api_Value) (rec_ : Api_Value → Option (Int × Bool)) (hr : ∀ x ∈ v.L, rec_ x = some (shpV x)) (hs : szV v ≤ 1099511627776) :
    ∃ x, loopO (fun (s : Int × Int) => codec_shape_b1 v rec_ s.1 s.2) (0, 0) = some x ∧
      ((∃ d : Int, shpL 0 v.L = (d + 1, true) ∧ 0 ≤ d ∧ d ≤ 1099511627776 ∧ x = .inl d) ∨ (shpL 0 v.L = (0, false) ∧ x = .inr (.inr (.inr (0, false))))) := by
  have hsz := szV_eq v
  have hlen := szVs_len v.L
  refine loopO_rule (f := fun (s : Int × Int) => codec_shape_b1 v rec_ s.1 s.2)
    (fun s => ∃ k : Nat, s.2 = (k : Int) ∧ k ≤ v.L.length ∧ 0 ≤ s.1 ∧ s.1 ≤ 1099511627776 ∧ shpL 0 v.L = shpL s.1 (v.L.drop k)) (fun s => v.L.length - s.2.toNat) _ ?_ ⟨0, rfl, Nat.zero_le _, by simp, by simp, rfl⟩ (by omega)
  rintro ⟨d, t⟩ ⟨k, ht, hk, hd0, hd1, hsp⟩
  simp only at ht hd0 hd1 hsp
  subst ht
  by_cases hkl : k < v.L.length
  · have hx : v.L.drop k = v.L[k] :: v.L.drop (k + 1) := List.drop_eq_getElem_cons hkl
    have hm : v.L[k] ∈ v.L := List.getElem_mem hkl
    have hsx := szVs_mem hm
    have hle := shpV_le v.L[k]
    rw [hx, shpL_cons] at hsp
    have hb : codec_shape_b1 v rec_ d (k : Int) = if (!(shpV v.L[k]).2) = true then some (.inr (.inr (.inr (.inr (0, false))))) else some (.inl (mx64 d (shpV v.L[k]).1, ((k + 1 : Nat) : Int))) := by
      unfold codec_shape_b1
      rw [if_pos (by simp; omega), if_pos (inR_of hkl)]
      simp only [Int.toNat_natCast, nth_mem hkl, lt1, value_eta]
      refine (e_bindT (hr _ hm)).trans ?_
      rw [e_succ (by omega)]
      rfl
    by_cases hg : (shpV v.L[k]).2 = true
    · left
      rw [if_pos hg] at hsp
      rw [if_neg (by simp [hg])] at hb
      refine ⟨_, hb, ⟨k + 1, rfl, hkl, ?_, ?_, hsp⟩, ?_⟩
      · simp only [mx64]; split <;> omega
      · simp only [mx64]; split <;> omega
      · simp only [Int.toNat_natCast]; omega
    · right
      rw [if_neg hg] at hsp
      rw [if_pos (by simp [hg])] at hb
      exact ⟨_, hb, .inr ⟨hsp, rfl⟩⟩
  · right
    have hkk : k = v.L.length := by omega
    subst hkk
    rw [List.drop_length, shpL_nil] at hsp
    refine ⟨.inl d, ?_, .inl ⟨d, hsp, hd0, hd1, rfl⟩⟩
    show codec_shape_b1 v rec_ d ((v.L.length : Nat) : Int) = _
    unfold codec_shape_b1
    rw [if_neg (by simp)]

theorem shape_n : ∀ (n : Nat) (v : Api_Value), szV v < n → szV v ≤ 1099511627776 → codec_shape_n n v = some (shpV v)
  | 0, v, h, _ => absurd h (Nat.not_lt_zero _)
  | n + 1, v, h, hs => by
    show codec_shape_F (codec_shape_n n) v = _
    have hsz := szV_eq v
    obtain ⟨x, hx, hq⟩ := shape_loop v (codec_shape_n n) (fun y hy => shape_n n y (by have := szVs_mem hy; omega) (by have := szVs_mem hy; omega)) hs
    have hv : shpV v = if v.Kind = 1 then (0, v.B.length == 0 && v.L.length == 0) else if v.Kind = 2 then (0, v.N == 0 && v.L.length == 0) else if v.Kind = 3 then (if v.N = 0 ∧ v.B.length = 0 then shpL 0 v.L else (0, false)) else (0, false) := by
      cases v with
      | mk k n b l => unfold shpV; rfl
    rw [hv]
    unfold codec_shape_F
    by_cases h1 : v.Kind = 1
    · rw [if_pos (by simp [h1]), if_pos h1]
      rw [len0, len0]
      by_cases hb : v.B.length = 0
      · simp [hb]
      · have : (v.B.length == 0) = false := by simpa using hb
        simp [this]
    · rw [if_neg (by simp [h1]), if_neg h1]
      by_cases h2 : v.Kind = 2
      · rw [if_pos (by simp [h2]), if_pos h2, len0]
        by_cases hn : v.N = 0
        · simp [hn]
        · simp [hn]
      · rw [if_neg (by simp [h2]), if_neg h2]
        by_cases h3 : v.Kind = 3
        · rw [if_pos (by simp [h3]), if_pos h3]
          by_cases hn : v.N = 0
          · by_cases hb : v.B.length = 0
            · rw [if_pos (show v.N = 0 ∧ v.B.length = 0 from ⟨hn, hb⟩)]
              have e1 : (if (v.N != 0) = true then some true else some ((v.B.length : Int) != 0) : Option Bool) = some false := by simp [hn, hb]
              refine (e_bindT (a := (.inr (shpL 0 v.L) : Unit ⊕ (Int × Bool))) ?_).trans rfl
              refine (e_bindT e1).trans ?_
              rw [if_neg (by simp)]
              rcases hq with ⟨d, e, h0, hd, rfl⟩ | ⟨e, rfl⟩
              · rw [hx, e]
                show some (Sum.inr (w64 (d + 1), true)) = _
                rw [w64_id (by omega)]
              · rw [hx, e]
                rfl
            · rw [if_neg (show ¬ (v.N = 0 ∧ v.B.length = 0) from fun h => hb h.2)]
              have e1 : (if (v.N != 0) = true then some true else some ((v.B.length : Int) != 0) : Option Bool) = some true := by
                rw [if_neg (by simp [hn])]; simp; intro e; apply hb; simp [e]
              refine (e_bindT (a := (.inr (0, false) : Unit ⊕ (Int × Bool))) ?_).trans rfl
              exact (e_bindT e1).trans rfl
          · rw [if_neg (show ¬ (v.N = 0 ∧ v.B.length = 0) from fun h => hn h.1)]
            have e1 : (if (v.N != 0) = true then some true else some ((v.B.length : Int) != 0) : Option Bool) = some true := by simp [hn]
            refine (e_bindT (a := (.inr (0, false) : Unit ⊕ (Int × Bool))) ?_).trans rfl
            exact (e_bindT e1).trans rfl
        · rw [if_neg (by simp [h3]), if_neg h3]
          rfl

/-! ### Encodings -/
def escB : List UInt8 → List UInt8
  | [] => []
  | c :: l => if c = 0 then 0 :: 255 :: escB l else c :: escB l
theorem escB_app (a b : List UInt8) : escB (a ++ b) = escB a ++ escB b := by
  induction a with
  | nil => rfl
  | cons c a ih => simp only [List.cons_append, escB]; split <;> simp [ih]
theorem escB_len (a : List UInt8) : (escB a).length ≤ 2 * a.length := by
  induction a with
  | nil => simp [escB]
  | cons c a ih => simp only [escB]; split <;> simp only [List.length_cons] <;> omega

mutual
def encV : Api_Value → List UInt8
  | .mk k n b l => if k = 1 then encI n else if k = 2 then 48 :: (escB b ++ [0, 0]) else 64 :: (encL l ++ [0])
def encL : List Api_Value → List UInt8
  | [] => []
  | x :: l => encV x ++ encL l
end
theorem encV_eq (v : Api_Value) : encV v = if v.Kind = 1 then encI v.N else if v.Kind = 2 then 48 :: (escB v.B ++ [0, 0]) else 64 :: (encL v.L ++ [0]) := by
  cases v with
  | mk k n b l => unfold encV; rfl
theorem encL_app (a b : List Api_Value) : encL (a ++ b) = encL a ++ encL b := by
  induction a with
  | nil => rfl
  | cons c a ih => simp only [List.cons_append, encL, ih, List.append_assoc]
mutual
theorem encV_len : ∀ v : Api_Value, (encV v).length ≤ 9 * szV v
  | .mk k n b l => by
    have h := encL_len l
    have h1 := encI_len n
    have h2 := nbI_le n
    have h3 := escB_len b
    unfold encV szV
    split
    · omega
    · split
      · simp only [List.length_cons, List.length_append, List.length_nil]; omega
      · simp only [List.length_cons, List.length_append, List.length_nil]; omega
theorem encL_len : ∀ l : List Api_Value, (encL l).length ≤ 9 * szVs l
  | [] => by simp [encL]
  | x :: l => by
    have h1 := encV_len x
    have h2 := encL_len l
    unfold encL szVs
    simp only [List.length_append]; omega
end
theorem encL_take (l : List Api_Value) (k : Nat) : (encL (l.take k)).length ≤ 9 * szVs l := by
  have h := encL_len l
  have : encL l = encL (l.take k) ++ encL (l.drop k) := by rw [← encL_app, List.take_append_drop]
  rw [this, List.length_append] at h
  omega

theorem bytes_loop (v : Api_Value) (a : List UInt8) (ha : a.length + 2 * v.B.length ≤ 100000000000000) :
    ∃ x, loopO (fun (s : Int × List UInt8) => codec_appendValue_b1 v s.1 s.2) (0, a) = some x ∧ x = a ++ escB v.B := by
  refine loopO_for (f := fun (s : Int × List UInt8) => codec_appendValue_b1 v s.1 s.2) v.B.length (fun k s => s = ((k : Int), a ++ escB (v.B.take k))) _ (by omega) ?_ ?_ (by simp [escB])
  · intro k s hk hs
    subst hs
    have hx : v.B.take (k + 1) = v.B.take k ++ [v.B[k]] := by rw [List.take_add_one, List.getElem?_eq_getElem hk]; rfl
    have hn : nth v.B k = v.B[k] := by simp [nth, List.getD_eq_getElem?_getD, hk]
    have hl := escB_len (v.B.take k)
    rw [List.length_take] at hl
    refine ⟨_, ?_, rfl⟩
    show codec_appendValue_b1 v (k : Int) _ = _
    unfold codec_appendValue_b1
    rw [if_pos (by simp; omega), if_pos (inR_of hk), if_pos (fits1 (by simp only [List.length_append]; omega)), e_succ (by omega)]
    simp only [Int.toNat_natCast, hn, lt1, hx, escB_app]
    by_cases h0 : v.B[k] = 0
    · rw [if_pos (by simp [h0]), if_pos (fits1 (by simp only [List.length_append, List.length_cons, List.length_nil]; omega))]
      simp [escB, h0]
    · rw [if_neg (by simp [h0])]
      simp [escB, h0]
  · intro s hs
    subst hs
    refine ⟨_, ?_, rfl⟩
    show codec_appendValue_b1 v ((v.B.length : Nat) : Int) _ = _
    unfold codec_appendValue_b1
    rw [if_neg (by simp), List.take_length]

theorem list_loop (v : Api_Value) (a : List UInt8) (rec_ : List UInt8 → Api_Value → Option (List UInt8)) (hr : ∀ x ∈ v.L, ∀ b, b.length + 9 * szV x ≤ a.length + 9 * szVs v.L → rec_ b x = some (b ++ encV x)) (hs : szV v ≤ 1099511627776) :
    ∃ x, loopO (fun (s : Int × List UInt8) => codec_appendValue_b2 v rec_ s.1 s.2) (0, a) = some x ∧ x = a ++ encL v.L := by
  have hsz := szV_eq v
  have hlen := szVs_len v.L
  refine loopO_for (f := fun (s : Int × List UInt8) => codec_appendValue_b2 v rec_ s.1 s.2) v.L.length (fun k s => s = ((k : Int), a ++ encL (v.L.take k))) _ (by omega) ?_ ?_ (by simp [encL])
  · intro k s hk hs'
    subst hs'
    have hx : v.L.take (k + 1) = v.L.take k ++ [v.L[k]] := by rw [List.take_add_one, List.getElem?_eq_getElem hk]; rfl
    have hm : v.L[k] ∈ v.L := List.getElem_mem hk
    have hsp : szVs v.L = szVs (v.L.take k) + szVs (v.L.drop k) := by
      have key : ∀ a b : List Api_Value, szVs (a ++ b) = szVs a + szVs b := by
        intro a b
        induction a with
        | nil => simp [szVs]
        | cons y a ih => simp only [List.cons_append, szVs, ih]; omega
      rw [← key, List.take_append_drop]
    rw [List.drop_eq_getElem_cons hk] at hsp
    simp only [szVs] at hsp
    have hl := encL_len (v.L.take k)
    refine ⟨_, ?_, rfl⟩
    show codec_appendValue_b2 v rec_ (k : Int) _ = _
    unfold codec_appendValue_b2
    rw [if_pos (by simp; omega), if_pos (inR_of hk), e_succ (by omega)]
    simp only [Int.toNat_natCast, nth_mem hk, lt1, value_eta]
    refine (e_bindT (hr _ hm _ (by simp only [List.length_append]; omega))).trans ?_
    rw [hx, encL_app]
    simp [encL]
  · intro s hs'
    subst hs'
    refine ⟨_, ?_, rfl⟩
    show codec_appendValue_b2 v rec_ ((v.L.length : Nat) : Int) _ = _
    unfold codec_appendValue_b2
    rw [if_neg (by simp), List.take_length]

theorem append_n : ∀ (n : Nat) (b : List UInt8) (v : Api_Value), szV v < n → b.length + 9 * szV v ≤ 1099511627776 → codec_appendValue_n n b v = some (b ++ encV v)
  | 0, b, v, h, _ => absurd h (Nat.not_lt_zero _)
  | n + 1, b, v, h, hs => by
    show codec_appendValue_F (codec_appendValue_n n) b v = _
    have hsz := szV_eq v
    rw [encV_eq]
    unfold codec_appendValue_F
    by_cases h1 : v.Kind = 1
    · rw [if_pos (by simp [h1]), if_pos h1]
      rw [appendInt_eq b v.N (by omega)]
      rfl
    · rw [if_neg (by simp [h1]), if_neg h1]
      by_cases h2 : v.Kind = 2
      · rw [if_pos (by simp [h2]), if_pos h2]
        obtain ⟨x, hx, rfl⟩ := bytes_loop v (b ++ [48]) (by simp only [List.length_append, List.length_cons, List.length_nil]; omega)
        have hl := escB_len v.B
        refine (e_bindT (a := (.inr (b ++ 48 :: (escB v.B ++ [0, 0])) : Unit ⊕ List UInt8)) ?_).trans rfl
        refine (if_pos (fits1 (by omega))).trans ?_
        refine (e_lt1 _ _ _ rfl).trans ?_
        refine (e_bindT (e_bindT hx)).trans ?_
        refine (if_pos (fits1 (by simp only [List.length_append, List.length_cons, List.length_nil]; omega))).trans ?_
        simp [lt1]
      · rw [if_neg (by simp [h2]), if_neg h2]
        obtain ⟨x, hx, rfl⟩ := list_loop v (b ++ [64]) (codec_appendValue_n n) (fun y hy c hc => append_n n c y (by have := szVs_mem hy; omega) (by simp only [List.length_append, List.length_cons, List.length_nil] at hc; omega)) (by omega)
        have hl := encL_len v.L
        refine (e_bindT (a := (.inl () : Unit ⊕ List UInt8)) rfl).trans ?_
        refine (if_pos (fits1 (by omega))).trans ?_
        refine (e_lt1 _ _ _ rfl).trans ?_
        refine (e_bindT (e_bindT hx)).trans ?_
        refine (if_pos (fits1 (by simp only [List.length_append, List.length_cons, List.length_nil]; omega))).trans ?_
        simp [lt1]

/-- What Encode answers. -/
def Enc (v : Api_Value) : List UInt8 × Int :=
  if (shpV v).2 = true then (if (shpV v).1 > 16 then ([], 2) else if (encV v).length > 65536 then ([], 2) else (encV v, 0)) else ([], 10)

theorem encode_eq (v : Api_Value) (h : szV v ≤ 100000000000) : codec_Encode v = some (Enc v) := by
  unfold codec_Encode codec_shape codec_appendValue Enc
  refine (e_bindT (shape_n 18446744073709551616 v (by omega) (by omega))).trans ?_
  by_cases h1 : (shpV v).2 = true
  · rw [if_neg (by simp [h1]), if_pos h1]
    by_cases h2 : (shpV v).1 > 16
    · rw [if_pos (by simpa using h2), if_pos h2]
    · rw [if_neg (by simpa using h2), if_neg h2]
      refine (e_bindT (append_n 18446744073709551616 [] v (by omega) (by simp; omega))).trans ?_
      by_cases h3 : (encV v).length > 65536
      · rw [if_pos (by simp; omega), if_pos h3]
      · rw [if_neg (by simp; omega), if_neg h3]
        rfl
  · rw [if_pos (by simp [h1]), if_neg h1]
end Go.Proofs.Ytihncddenjbecaa
/-
  How codec's Compare and the reference's compare values.
-/
namespace Go.Proofs.Ytihncddenjbecaa
open Go.Rv
set_option linter.unusedVariables false
set_option linter.unusedSimpArgs false

def cmpI (a b : Int) : Int := if a < b then -1 else if b < a then 1 else 0
def cmpB : List UInt8 → List UInt8 → Int
  | [], [] => 0
  | [], _ :: _ => -1
  | _ :: _, [] => 1
  | x :: l, y :: m => if x = y then cmpB l m else if x < y then -1 else 1
mutual
def cmpV : Api_Value → Api_Value → Int
  | .mk k n b l, w => if k ≠ w.Kind then cmpI k w.Kind else if k = 1 then cmpI n w.N else if k = 2 then cmpB b w.B else if k = 3 then cmpL l w.L else 0
def cmpL : List Api_Value → List Api_Value → Int
  | [], [] => 0
  | [], _ :: _ => -1
  | _ :: _, [] => 1
  | x :: l, y :: m => if cmpV x y ≠ 0 then cmpV x y else cmpL l m
end
theorem cmpV_eq (v w : Api_Value) : cmpV v w = if v.Kind ≠ w.Kind then cmpI v.Kind w.Kind else if v.Kind = 1 then cmpI v.N w.N else if v.Kind = 2 then cmpB v.B w.B else if v.Kind = 3 then cmpL v.L w.L else 0 := by
  cases v with
  | mk k n b l => rw [cmpV]; rfl

theorem cmpI_rng (a b : Int) : cmpI a b = -1 ∨ cmpI a b = 0 ∨ cmpI a b = 1 := by unfold cmpI; (repeat' split) <;> simp
theorem cmpB_rng : ∀ a b : List UInt8, cmpB a b = -1 ∨ cmpB a b = 0 ∨ cmpB a b = 1
  | [], [] => by simp [cmpB]
  | [], _ :: _ => by simp [cmpB]
  | _ :: _, [] => by simp [cmpB]
  | x :: l, y :: m => by
    unfold cmpB
    split
    · exact cmpB_rng l m
    · split <;> simp
theorem order_eq (a b : Int) : r01_Order a b = some (cmpI a b) := by
  unfold r01_Order cmpI
  by_cases h : a < b
  · rw [if_pos (by simpa using h), if_pos h]
  · rw [if_neg (by simpa using h), if_neg h]
    by_cases h2 : b < a
    · rw [if_pos (by simpa using h2), if_pos h2]
    · rw [if_neg (by simpa using h2), if_neg h2]
theorem nth_lt {α : Type} [Inhabited α] {l : List α} {k : Nat} (h : k < l.length) : nth l k = l[k] := by simp [nth, List.getD_eq_getElem?_getD, h]

/-! ### Byte strings -/
theorem cmpB_drop {a b : List UInt8} {k : Nat} (ha : k < a.length) (hb : k < b.length) : cmpB (a.drop k) (b.drop k) = if nth a k = nth b k then cmpB (a.drop (k + 1)) (b.drop (k + 1)) else if nth a k < nth b k then -1 else 1 := by
  rw [List.drop_eq_getElem_cons ha, List.drop_eq_getElem_cons hb, nth_lt ha, nth_lt hb, cmpB]

theorem u8_lt_int (x y : UInt8) : ((x.toNat : Int) < (y.toNat : Int)) = (x < y) := by
  apply propext
  rw [UInt8.lt_iff_toNat_lt]; omega

theorem cmpB_end {a b : List UInt8} {k : Nat} (hk : k ≤ a.length) (hk' : k ≤ b.length) (h : ¬ (k < a.length ∧ k < b.length)) : cmpB (a.drop k) (b.drop k) = cmpI (a.length : Int) (b.length : Int) := by
  unfold cmpI
  rcases Nat.lt_trichotomy a.length b.length with hl | hl | hl
  · have hka : k = a.length := by omega
    rw [if_pos (by omega), hka, List.drop_length, List.drop_eq_getElem_cons (by omega)]
    rfl
  · have hka : k = a.length := by omega
    rw [if_neg (by omega), if_neg (by omega), hka, List.drop_length, hl, List.drop_length]
    rfl
  · have hkb : k = b.length := by omega
    rw [if_neg (by omega), if_pos (by omega), hkb, List.drop_length, List.drop_eq_getElem_cons (by omega)]
    rfl

theorem orderBytes_eq (a b : List UInt8) (ha : a.length ≤ 1099511627776) : r01_OrderBytes a b = some (cmpB a b) := by
  have key : ∃ x, loopO (fun (v : Int) => r01_OrderBytes_b1 a b v) 0 = some x ∧ ((x = .inl () ∧ cmpB a b = cmpI (a.length : Int) (b.length : Int)) ∨ (x = .inr (.inr (cmpB a b)))) := by
    refine loopO_rule (f := fun (v : Int) => r01_OrderBytes_b1 a b v) (fun i => ∃ k : Nat, i = (k : Int) ∧ k ≤ a.length ∧ k ≤ b.length ∧ cmpB a b = cmpB (a.drop k) (b.drop k)) (fun i => a.length - i.toNat) _ ?_ ⟨0, rfl, by simp, by simp, rfl⟩ (by omega)
    rintro _ ⟨k, rfl, hka, hkb, he⟩
    show _ ∨ _
    unfold r01_OrderBytes_b1
    by_cases h : k < a.length ∧ k < b.length
    · have hc : (if decide ((k : Int) < (a.length : Int)) = true then some (decide ((k : Int) < (b.length : Int))) else some false : Option Bool) = some true := by
        rw [if_pos (by simp; omega)]; simp; omega
      have r1 : InR (k : Int) a.length := ⟨by omega, by omega⟩
      have r2 : InR (k : Int) b.length := ⟨by omega, by omega⟩
      rw [cmpB_drop h.1 h.2] at he
      by_cases hxy : nth a k = nth b k
      · left
        rw [if_pos hxy] at he
        refine ⟨_, (e_bindT hc).trans ?_, ⟨k + 1, rfl, by omega, by omega, he⟩, ?_⟩
        · rw [if_pos rfl, if_pos r1, if_pos r2, if_neg (by simp [hxy]), e_succ (by omega)]
        · simp only [Int.toNat_natCast]; omega
      · right
        rw [if_neg hxy] at he
        refine ⟨_, (e_bindT hc).trans ?_, .inr rfl⟩
        rw [if_pos rfl, if_pos r1, if_pos r2, if_pos (by simpa using hxy), if_pos r1, if_pos r2, Int.toNat_natCast, order_eq]
        have hne : nth b k ≠ nth a k := fun e => hxy e.symm
        have : cmpI ((nth a k).toNat : Int) ((nth b k).toNat : Int) = cmpB a b := by
          rw [he]
          unfold cmpI
          by_cases hlt : nth a k < nth b k
          · rw [if_pos hlt, if_pos (by rw [u8_lt_int]; exact hlt)]
          · have : nth b k < nth a k := by
              rw [UInt8.lt_iff_toNat_lt] at hlt ⊢
              have : (nth a k).toNat ≠ (nth b k).toNat := fun e => hxy (UInt8.toNat_inj.1 e)
              omega
            rw [if_neg hlt, if_neg (by rw [u8_lt_int]; exact hlt), if_pos (by rw [u8_lt_int]; exact this)]
        rw [this]; rfl
    · right
      have hc : (if decide ((k : Int) < (a.length : Int)) = true then some (decide ((k : Int) < (b.length : Int))) else some false : Option Bool) = some false := by
        by_cases hk : k < a.length
        · rw [if_pos (by simp; omega)]; simp; omega
        · rw [if_neg (by simp; omega)]
      refine ⟨_, (e_bindT hc).trans ?_, .inl ⟨rfl, ?_⟩⟩
      · rw [if_neg (by simp)]
      · rw [he]; exact cmpB_end hka hkb h
  obtain ⟨x, hx, hq⟩ := key
  unfold r01_OrderBytes
  rcases hq with ⟨rfl, he⟩ | rfl
  · refine (e_bindT (a := .inl ()) ((e_bindT hx).trans rfl)).trans ?_
    rw [he]
    exact e_bindT (order_eq _ _)
  · exact (e_bindT (a := .inr (cmpB a b)) ((e_bindT hx).trans rfl)).trans rfl

theorem sameBytes_eq (a b : List UInt8) (ha : a.length ≤ 1099511627776) : r01_SameBytes a b = some (cmpB a b == 0) := by
  unfold r01_SameBytes
  exact e_bindT (orderBytes_eq a b ha)

theorem ba_get {l : List UInt8} {i : Nat} (h : i < l.length) : (⟨l.toArray⟩ : ByteArray)[i]! = nth l i := by
  rw [nth_lt h]
  have h2 : i < (⟨l.toArray⟩ : ByteArray).size := by simpa [ByteArray.size] using h
  rw [getElem!_pos (⟨l.toArray⟩ : ByteArray) i h2]
  show l.toArray[i] = _
  simp

theorem cmp_from (a b : List UInt8) : ∀ (m k : Nat), k + m = min a.length b.length →
    (match (List.range' k m).find? fun i => (⟨a.toArray⟩ : ByteArray)[i]! != (⟨b.toArray⟩ : ByteArray)[i]! with
      | some i => if (⟨a.toArray⟩ : ByteArray)[i]! < (⟨b.toArray⟩ : ByteArray)[i]! then -1 else 1
      | none => if (⟨a.toArray⟩ : ByteArray).size < (⟨b.toArray⟩ : ByteArray).size then (-1 : Int) else if (⟨a.toArray⟩ : ByteArray).size > (⟨b.toArray⟩ : ByteArray).size then 1 else 0) = cmpB (a.drop k) (b.drop k)
  | 0, k, h => by
    rw [List.range'_zero, List.find?_nil, cmpB_end (by omega) (by omega) (by omega)]
    have e : ∀ l : List UInt8, (⟨l.toArray⟩ : ByteArray).size = l.length := fun l => by simp [ByteArray.size]
    simp only [e, cmpI, Int.ofNat_lt, gt_iff_lt]
  | m + 1, k, h => by
    have ha : k < a.length := by omega
    have hb : k < b.length := by omega
    rw [List.range'_succ, List.find?_cons, cmpB_drop ha hb, ba_get ha, ba_get hb]
    by_cases he : nth a k = nth b k
    · have : (nth a k != nth b k) = false := by simp [he]
      rw [this, if_pos he]
      exact cmp_from a b m (k + 1) (by omega)
    · have : (nth a k != nth b k) = true := by simp [he]
      rw [this, if_neg he]
      show (if (⟨a.toArray⟩ : ByteArray)[k]! < (⟨b.toArray⟩ : ByteArray)[k]! then (-1 : Int) else 1) = _
      rw [ba_get ha, ba_get hb]

theorem bytesCmp_eq (a b : List UInt8) : bytesCmp a b = cmpB a b := by
  have h := cmp_from a b (min a.length b.length) 0 (by omega)
  rw [← List.range_eq_range'] at h
  unfold bytesCmp Extern.BytealgCompare.cmp
  have e : ∀ l : List UInt8, (⟨l.toArray⟩ : ByteArray).size = l.length := fun l => by simp [ByteArray.size]
  rw [e, e]
  rw [e, e] at h
  exact h

theorem bytesCompare_eq (a b : List UInt8) : bytes_Compare a b = some (cmpB a b) := by
  unfold bytes_Compare bytealg_Compare bytesCmpO
  rw [bytesCmp_eq]; rfl
theorem cmpInt_eq (a b : Int) : cmp_Compare a b = some (cmpI a b) := by
  unfold cmp_Compare cmp_isNaN cmpI
  by_cases h : a < b
  · simp [h]
  · by_cases h2 : b < a <;> simp [h, h2]

/-! ### Values -/
theorem cmpL_drop {a b : List Api_Value} {k : Nat} (ha : k < a.length) (hb : k < b.length) : cmpL (a.drop k) (b.drop k) = if cmpV (nth a k) (nth b k) ≠ 0 then cmpV (nth a k) (nth b k) else cmpL (a.drop (k + 1)) (b.drop (k + 1)) := by
  rw [List.drop_eq_getElem_cons ha, List.drop_eq_getElem_cons hb, nth_lt ha, nth_lt hb, cmpL]
theorem cmpL_end {a b : List Api_Value} {k : Nat} (hk : k ≤ a.length) (hk' : k ≤ b.length) (h : ¬ (k < a.length ∧ k < b.length)) : cmpL (a.drop k) (b.drop k) = cmpI (a.length : Int) (b.length : Int) := by
  unfold cmpI
  rcases Nat.lt_trichotomy a.length b.length with hl | hl | hl
  · have hka : k = a.length := by omega
    rw [if_pos (by omega), hka, List.drop_length, List.drop_eq_getElem_cons (by omega), cmpL]
  · have hka : k = a.length := by omega
    rw [if_neg (by omega), if_neg (by omega), hka, List.drop_length, hl, List.drop_length, cmpL]
  · have hkb : k = b.length := by omega
    rw [if_neg (by omega), if_pos (by omega), hkb, List.drop_length, List.drop_eq_getElem_cons (by omega), cmpL]

theorem compareFunc_eq (a b : List Api_Value) (f : Api_Value → Api_Value → Option Int) (hf : ∀ x ∈ a, ∀ y, f x y = some (cmpV x y)) (ha : a.length ≤ 1099511627776) : slices_CompareFunc a b f = some (cmpL a b) := by
  have key : ∃ x, loopO (fun (v : Int) => slices_CompareFunc_b1 a b f v) 0 = some x ∧ ((x = .inl () ∧ a.length ≤ b.length ∧ cmpL a b = cmpI (a.length : Int) (b.length : Int)) ∨ (x = .inr (.inr (cmpL a b)))) := by
    refine loopO_rule (f := fun (v : Int) => slices_CompareFunc_b1 a b f v) (fun i => ∃ k : Nat, i = (k : Int) ∧ k ≤ a.length ∧ k ≤ b.length ∧ cmpL a b = cmpL (a.drop k) (b.drop k)) (fun i => a.length - i.toNat) _ ?_ ⟨0, rfl, by simp, by simp, rfl⟩ (by omega)
    rintro _ ⟨k, rfl, hka, hkb, he⟩
    show _ ∨ _
    unfold slices_CompareFunc_b1
    by_cases h1 : k < a.length
    · have r1 : InR (k : Int) a.length := ⟨by omega, by omega⟩
      rw [if_pos (by simp; omega), if_pos r1]
      simp only [lt1, Int.toNat_natCast]
      by_cases h2 : k < b.length
      · have r2 : InR (k : Int) b.length := ⟨by omega, by omega⟩
        rw [if_neg (by simp; omega), if_pos r2]
        rw [value_eta, value_eta, hf _ (by rw [nth_lt h1]; exact List.getElem_mem h1)]
        rw [cmpL_drop h1 h2] at he
        by_cases hz : cmpV (nth a k) (nth b k) = 0
        · left
          rw [if_neg (by simpa using hz)] at he
          refine ⟨_, (e_bindT rfl).trans ?_, ⟨k + 1, rfl, by omega, by omega, he⟩, ?_⟩
          · rw [if_neg (by simp [hz]), e_succ (by omega)]
          · simp only [Int.toNat_natCast]; omega
        · right
          rw [if_pos hz] at he
          refine ⟨_, (e_bindT rfl).trans ?_, .inr rfl⟩
          rw [if_pos (by simpa using hz), he]; rfl
      · right
        rw [if_pos (by simp; omega)]
        refine ⟨_, rfl, .inr ?_⟩
        rw [he, cmpL_end hka hkb (by omega)]
        unfold cmpI
        rw [if_neg (by omega), if_pos (by omega)]
    · right
      rw [if_neg (by simp; omega)]
      exact ⟨_, rfl, .inl ⟨rfl, by omega, by rw [he]; exact cmpL_end hka hkb (by omega)⟩⟩
  obtain ⟨x, hx, hq⟩ := key
  unfold slices_CompareFunc
  rcases hq with ⟨rfl, hl, he⟩ | rfl
  · refine (e_bindT (a := .inl ()) ((e_bindT hx).trans rfl)).trans ?_
    rw [he]
    unfold cmpI
    by_cases h : (a.length : Int) < (b.length : Int)
    · simp [h]
    · have : ¬ (b.length : Int) < (a.length : Int) := by omega
      simp [h, this]
  · exact (e_bindT (a := .inr (cmpL a b)) ((e_bindT hx).trans rfl)).trans rfl

theorem compare_n : ∀ (n : Nat) (a b : Api_Value), szV a < n → szV a ≤ 1099511627776 → codec_Compare_n n a b = some (cmpV a b)
  | 0, a, b, h, _ => absurd h (Nat.not_lt_zero _)
  | n + 1, a, b, h, hs => by
    show codec_Compare_F (codec_Compare_n n) a b = _
    have hsz := szV_eq a
    have hlen := szVs_len a.L
    unfold codec_Compare_F
    rw [cmpV_eq]
    refine (e_bindT (cmpInt_eq _ _)).trans ?_
    by_cases hk : a.Kind = b.Kind
    · have hz : cmpI a.Kind b.Kind = 0 := by unfold cmpI; simp [hk]
      rw [if_neg (show ¬ (cmpI a.Kind b.Kind != 0) = true by simp [hz]), if_neg (show ¬ (a.Kind ≠ b.Kind) by simpa using hk)]
      by_cases h1 : a.Kind = 1
      · rw [if_pos (show (a.Kind == 1) = true by simp [h1]), if_pos h1]; exact e_bindT (cmpInt_eq _ _)
      · rw [if_neg (show ¬ (a.Kind == 1) = true by simp [h1]), if_neg h1]
        by_cases h2 : a.Kind = 2
        · rw [if_pos (show (a.Kind == 2) = true by simp [h2]), if_pos h2]; exact e_bindT (bytesCompare_eq _ _)
        · rw [if_neg (show ¬ (a.Kind == 2) = true by simp [h2]), if_neg h2]
          by_cases h3 : a.Kind = 3
          · rw [if_pos (show (a.Kind == 3) = true by simp [h3]), if_pos h3]
            exact e_bindT (compareFunc_eq _ _ _ (fun x hx y => compare_n n x y (by have := szVs_mem hx; omega) (by have := szVs_mem hx; omega)) (by omega))
          · rw [if_neg (show ¬ (a.Kind == 3) = true by simp [h3]), if_neg h3]
    · have hz : cmpI a.Kind b.Kind ≠ 0 := by
        unfold cmpI
        rcases Int.lt_trichotomy a.Kind b.Kind with h | h | h
        · rw [if_pos h]; decide
        · exact (hk h).elim
        · rw [if_neg (by omega), if_pos h]; decide
      rw [if_pos (show (cmpI a.Kind b.Kind != 0) = true by simpa using hz), if_pos (show a.Kind ≠ b.Kind from hk)]

theorem compare_eq (a b : Api_Value) (h : szV a ≤ 100000000000) : codec_Compare a b = some (cmpV a b) := compare_n _ a b (by omega) (by omega)

/-! ### The order -/
theorem cmpI_refl (a : Int) : cmpI a a = 0 := by simp [cmpI]
theorem cmpI_anti (a b : Int) : cmpI b a = - cmpI a b := by
  unfold cmpI
  rcases Int.lt_trichotomy a b with h | h | h
  · rw [if_neg (by omega), if_pos h, if_pos h]; rfl
  · subst h; simp
  · rw [if_pos h, if_neg (by omega), if_pos h]
theorem cmpI_zero {a b : Int} : cmpI a b = 0 ↔ a = b := by
  unfold cmpI
  by_cases h : a < b
  · rw [if_pos h]; constructor
    · intro h; cases h
    · intro h; omega
  · rw [if_neg h]
    by_cases h2 : b < a
    · rw [if_pos h2]; constructor
      · intro h; cases h
      · intro h; omega
    · rw [if_neg h2]; constructor <;> intros <;> omega
end Go.Proofs.Ytihncddenjbecaa
/-
  The examples of the documentation: computed.
-/
namespace Go.Proofs.Ytihncddenjbecaa
open Go.Rv
theorem sane_ok : law01_sane = some true := by decide +kernel
end Go.Proofs.Ytihncddenjbecaa
/-
  Compare is a total order; the law CodecTotalOrder in plain terms.
-/
namespace Go.Proofs.Ytihncddenjbecaa
open Go.Rv
set_option linter.unusedVariables false
set_option linter.unusedSimpArgs false

/-- Three answers that fit an order: of x to y, of y to z, of x to z. -/
def Tri (a b c : Int) : Prop := (a ≤ 0 → b ≤ 0 → c ≤ 0 ∧ (c = 0 ↔ a = 0 ∧ b = 0)) ∧ (0 ≤ a → 0 ≤ b → 0 ≤ c ∧ (c = 0 ↔ a = 0 ∧ b = 0))

theorem tri_cmpI (a b c : Int) : Tri (cmpI a b) (cmpI b c) (cmpI a c) := by
  unfold Tri cmpI
  constructor <;> intro h1 h2 <;> (repeat' split at h1) <;> (repeat' split at h2) <;> (repeat' split) <;> constructor <;> (try constructor) <;> omega
theorem tri_first {a b c x y z : Int} (h : Tri a b c) (g : Tri x y z) : Tri (if a ≠ 0 then a else x) (if b ≠ 0 then b else y) (if c ≠ 0 then c else z) := by
  obtain ⟨h1, h2⟩ := h
  obtain ⟨g1, g2⟩ := g
  unfold Tri
  constructor
  · intro p q
    by_cases ha : a = 0 <;> by_cases hb : b = 0 <;> simp only [ha, hb, ne_eq, not_true_eq_false, not_false_eq_true, if_true, if_false] at p q ⊢
    · have hc : c = 0 := by have := h1 (by omega) (by omega); exact this.2.2 ⟨ha, hb⟩
      simp only [hc, ne_eq, not_true_eq_false, if_false]
      exact g1 p q
    · have := h1 (by omega) q
      have hc : c ≠ 0 := fun e => hb (this.2.1 e).2
      simp only [hc, ne_eq, not_false_eq_true, if_true]
      exact ⟨this.1, ⟨fun e => e.elim, fun e => e.2.elim⟩⟩
    · have := h1 p (by omega)
      have hc : c ≠ 0 := fun e => ha (this.2.1 e).1
      simp only [hc, ne_eq, not_false_eq_true, if_true]
      exact ⟨this.1, ⟨fun e => e.elim, fun e => e.1.elim⟩⟩
    · have := h1 p q
      have hc : c ≠ 0 := fun e => ha (this.2.1 e).1
      simp only [hc, ne_eq, not_false_eq_true, if_true]
      exact ⟨this.1, ⟨fun e => e.elim, fun e => e.1.elim⟩⟩
  · intro p q
    by_cases ha : a = 0 <;> by_cases hb : b = 0 <;> simp only [ha, hb, ne_eq, not_true_eq_false, not_false_eq_true, if_true, if_false] at p q ⊢
    · have hc : c = 0 := by have := h2 (by omega) (by omega); exact this.2.2 ⟨ha, hb⟩
      simp only [hc, ne_eq, not_true_eq_false, if_false]
      exact g2 p q
    · have := h2 (by omega) q
      have hc : c ≠ 0 := fun e => hb (this.2.1 e).2
      simp only [hc, ne_eq, not_false_eq_true, if_true]
      exact ⟨this.1, ⟨fun e => e.elim, fun e => e.2.elim⟩⟩
    · have := h2 p (by omega)
      have hc : c ≠ 0 := fun e => ha (this.2.1 e).1
      simp only [hc, ne_eq, not_false_eq_true, if_true]
      exact ⟨this.1, ⟨fun e => e.elim, fun e => e.1.elim⟩⟩
    · have := h2 p q
      have hc : c ≠ 0 := fun e => ha (this.2.1 e).1
      simp only [hc, ne_eq, not_false_eq_true, if_true]
      exact ⟨this.1, ⟨fun e => e.elim, fun e => e.1.elim⟩⟩

def cmpU (x y : UInt8) : Int := cmpI (x.toNat : Int) (y.toNat : Int)
theorem cmpB_cons (x y : UInt8) (l m : List UInt8) : cmpB (x :: l) (y :: m) = if cmpU x y ≠ 0 then cmpU x y else cmpB l m := by
  rw [cmpB]
  by_cases h : x = y
  · subst h
    have : cmpU x x = 0 := cmpI_refl _
    rw [this, if_pos rfl, if_neg (by simp)]
  · by_cases h2 : x < y
    · have : cmpU x y = -1 := if_pos (by rw [u8_lt_int]; exact h2)
      rw [this, if_neg h, if_pos h2, if_pos (by decide)]
    · have h3 : y < x := by
        rw [UInt8.lt_iff_toNat_lt] at h2 ⊢
        have : x.toNat ≠ y.toNat := fun e => h (UInt8.toNat_inj.1 e)
        omega
      have : cmpU x y = 1 := (if_neg (by rw [u8_lt_int]; exact h2)).trans (if_pos (by rw [u8_lt_int]; exact h3))
      rw [this, if_neg h, if_neg h2, if_pos (by decide)]
theorem cmpL_cons (x y : Api_Value) (l m : List Api_Value) : cmpL (x :: l) (y :: m) = if cmpV x y ≠ 0 then cmpV x y else cmpL l m := by rw [cmpL]

theorem tri_zero : Tri 0 0 0 := by unfold Tri; omega
theorem tri_cmpB : ∀ a b c : List UInt8, Tri (cmpB a b) (cmpB b c) (cmpB a c)
  | [], [], [] => tri_zero
  | [], [], _ :: _ => by simp only [cmpB]; unfold Tri; omega
  | [], _ :: _, [] => by simp only [cmpB]; unfold Tri; omega
  | _ :: _, [], [] => by simp only [cmpB]; unfold Tri; omega
  | [], y :: m, z :: k => by
    have := cmpB_rng (y :: m) (z :: k)
    simp only [cmpB] at this ⊢; unfold Tri; omega
  | x :: l, [], z :: k => by
    have := cmpB_rng (x :: l) (z :: k)
    rw [show cmpB (x :: l) [] = 1 from rfl, show cmpB [] (z :: k) = -1 from rfl]; unfold Tri; omega
  | x :: l, y :: m, [] => by
    have := cmpB_rng (x :: l) (y :: m)
    rw [show cmpB (x :: l) [] = 1 from rfl, show cmpB (y :: m) [] = 1 from rfl]; unfold Tri; omega
  | x :: l, y :: m, z :: k => by
    rw [cmpB_cons, cmpB_cons, cmpB_cons]
    exact tri_first (tri_cmpI _ _ _) (tri_cmpB l m k)

mutual
theorem cmpV_rng : ∀ a b : Api_Value, cmpV a b = -1 ∨ cmpV a b = 0 ∨ cmpV a b = 1
  | .mk k n b l, w => by
    rw [cmpV]
    split
    · exact cmpI_rng _ _
    split
    · exact cmpI_rng _ _
    split
    · exact cmpB_rng _ _
    split
    · exact cmpL_rng l w.L
    · simp
theorem cmpL_rng : ∀ a b : List Api_Value, cmpL a b = -1 ∨ cmpL a b = 0 ∨ cmpL a b = 1
  | [], [] => by simp [cmpL]
  | [], _ :: _ => by simp [cmpL]
  | _ :: _, [] => by simp [cmpL]
  | x :: l, y :: m => by
    rw [cmpL]
    split
    · exact cmpV_rng x y
    · exact cmpL_rng l m
end

theorem ite_hz (x y : Int) {α : Type} (a b : α) : (if x ≠ y then a else b) = if cmpI x y ≠ 0 then a else b := by
  by_cases h : x = y
  · rw [if_neg (by simpa using h), if_neg (by simpa using cmpI_zero.2 h)]
  · rw [if_pos h, if_pos (fun e => h (cmpI_zero.1 e))]

mutual
theorem tri_cmpV : ∀ a b c : Api_Value, Tri (cmpV a b) (cmpV b c) (cmpV a c)
  | .mk k n b l, v, w => by
    have hk := tri_cmpI k v.Kind w.Kind
    rw [cmpV_eq v w, cmpV, cmpV]
    rw [ite_hz k v.Kind, ite_hz v.Kind w.Kind, ite_hz k w.Kind]
    have inner : k = v.Kind → v.Kind = w.Kind → Tri (if k = 1 then cmpI n v.N else if k = 2 then cmpB b v.B else if k = 3 then cmpL l v.L else 0)
        (if v.Kind = 1 then cmpI v.N w.N else if v.Kind = 2 then cmpB v.B w.B else if v.Kind = 3 then cmpL v.L w.L else 0) (if k = 1 then cmpI n w.N else if k = 2 then cmpB b w.B else if k = 3 then cmpL l w.L else 0) := by
      intro e1 e2
      rw [← e1]
      by_cases h1 : k = 1
      · simp only [h1, if_true]; exact tri_cmpI _ _ _
      · simp only [h1, if_false]
        by_cases h2 : k = 2
        · simp only [h2, if_true]; exact tri_cmpB _ _ _
        · simp only [h2, if_false]
          by_cases h3 : k = 3
          · simp only [h3, if_true]; exact tri_cmpL l v.L w.L
          · simp only [h3, if_false]; exact tri_zero
    by_cases e1 : cmpI k v.Kind = 0
    · by_cases e2 : cmpI v.Kind w.Kind = 0
      · exact tri_first hk (inner (cmpI_zero.1 e1) (cmpI_zero.1 e2))
      · have hkv := cmpI_zero.1 e1
        have e3 : cmpI k w.Kind = cmpI v.Kind w.Kind := by rw [hkv]
        have r := cmpI_rng v.Kind w.Kind
        have q := cmpV_rng (.mk k n b l) v
        rw [cmpV, ite_hz] at q
        simp only [e3, e2, ne_eq, not_false_eq_true, if_true] at q ⊢
        rw [e1] at q ⊢
        simp only [ne_eq, not_true_eq_false, if_false] at q ⊢
        unfold Tri
        omega
    · by_cases e2 : cmpI v.Kind w.Kind = 0
      · have hvw := cmpI_zero.1 e2
        have e3 : cmpI k w.Kind = cmpI k v.Kind := by rw [← hvw]
        have r := cmpI_rng k v.Kind
        have q := cmpV_rng v w
        rw [cmpV_eq, ite_hz] at q
        simp only [e3, e1, e2, ne_eq, not_false_eq_true, not_true_eq_false, if_true, if_false] at q ⊢
        unfold Tri
        omega
      · have q := tri_first hk tri_zero
        by_cases e3 : cmpI k w.Kind = 0
        · simp only [e1, e2, ne_eq, not_false_eq_true, if_true]
          have r := cmpI_rng k v.Kind
          have r2 := cmpI_rng v.Kind w.Kind
          obtain ⟨k1, k2⟩ := hk
          unfold Tri
          omega
        · simp only [e1, e2, e3, ne_eq, not_false_eq_true, if_true]
          exact hk
theorem tri_cmpL : ∀ a b c : List Api_Value, Tri (cmpL a b) (cmpL b c) (cmpL a c)
  | [], [], [] => by simp only [cmpL]; exact tri_zero
  | [], [], _ :: _ => by simp only [cmpL]; unfold Tri; omega
  | [], _ :: _, [] => by simp only [cmpL]; unfold Tri; omega
  | _ :: _, [], [] => by simp only [cmpL]; unfold Tri; omega
  | [], y :: m, z :: k => by
    have := cmpL_rng (y :: m) (z :: k)
    have e1 : cmpL [] (y :: m) = -1 := by rw [cmpL]
    have e2 : cmpL [] (z :: k) = -1 := by rw [cmpL]
    rw [e1, e2]; unfold Tri; omega
  | x :: l, [], z :: k => by
    have := cmpL_rng (x :: l) (z :: k)
    have e1 : cmpL (x :: l) [] = 1 := by rw [cmpL]
    have e2 : cmpL [] (z :: k) = -1 := by rw [cmpL]
    rw [e1, e2]; unfold Tri; omega
  | x :: l, y :: m, [] => by
    have := cmpL_rng (x :: l) (y :: m)
    have e1 : cmpL (x :: l) [] = 1 := by rw [cmpL]
    have e2 : cmpL (y :: m) [] = 1 := by rw [cmpL]
    rw [e1, e2]; unfold Tri; omega
  | x :: l, y :: m, z :: k => by
    rw [cmpL_cons, cmpL_cons, cmpL_cons]
    exact tri_first (tri_cmpV x y z) (tri_cmpL l m k)
end

theorem cmpB_anti : ∀ a b : List UInt8, cmpB b a = - cmpB a b
  | [], [] => rfl
  | [], _ :: _ => rfl
  | _ :: _, [] => rfl
  | x :: l, y :: m => by
    rw [cmpB_cons, cmpB_cons, show cmpU y x = - cmpU x y from cmpI_anti _ _, cmpB_anti l m]
    by_cases h : cmpU x y = 0
    · simp [h]
    · have : - cmpU x y ≠ 0 := by omega
      rw [if_pos this, if_pos h]
mutual
theorem cmpV_anti : ∀ a b : Api_Value, cmpV b a = - cmpV a b
  | .mk k n b l, w => by
    rw [cmpV_eq w, cmpV]
    show (if w.Kind ≠ k then cmpI w.Kind k else _) = _
    by_cases hk : k = w.Kind
    · rw [if_neg (show ¬ (w.Kind ≠ k) by simpa using hk.symm), if_neg (show ¬ (k ≠ w.Kind) by simpa using hk), ← hk]
      show (if k = 1 then cmpI w.N n else if k = 2 then cmpB w.B b else if k = 3 then cmpL w.L l else 0) = _
      by_cases h1 : k = 1
      · simp only [h1, if_true]; exact cmpI_anti _ _
      · simp only [h1, if_false]
        by_cases h2 : k = 2
        · simp only [h2, if_true]; exact cmpB_anti _ _
        · simp only [h2, if_false]
          by_cases h3 : k = 3
          · simp only [h3, if_true]; exact cmpL_anti l w.L
          · simp only [h3, if_false]; rfl
    · rw [if_pos (show w.Kind ≠ k from fun e => hk e.symm), if_pos (show k ≠ w.Kind from hk)]; exact cmpI_anti _ _
theorem cmpL_anti : ∀ a b : List Api_Value, cmpL b a = - cmpL a b
  | [], [] => by simp [cmpL]
  | [], _ :: _ => by simp [cmpL]
  | _ :: _, [] => by simp [cmpL]
  | x :: l, y :: m => by
    rw [cmpL_cons, cmpL_cons, cmpV_anti x y, cmpL_anti l m]
    by_cases h : cmpV x y = 0
    · simp [h]
    · have : - cmpV x y ≠ 0 := by omega
      rw [if_pos this, if_pos h]
end
theorem cmpV_refl (a : Api_Value) : cmpV a a = 0 := by have := cmpV_anti a a; omega

theorem law_totalOrder (u v w : Api_Value) (hu0 : szV u ≤ 1048576) (_ : okV u) (hv0 : szV v ≤ 1048576) (_ : okV v) (hw0 : szV w ≤ 1048576) (_ : okV w) : law01_CodecTotalOrder u v w = some true := by
  have hu : szV u ≤ 100000000000 := by omega
  have hv : szV v ≤ 100000000000 := by omega
  have hw : szV w ≤ 100000000000 := by omega
  unfold law01_CodecTotalOrder
  rw [sane_ok]
  refine (e_bindT rfl).trans ?_
  rw [if_neg (by simp)]
  refine (e_bindT (compare_eq u v hu)).trans ?_
  refine (e_bindT (compare_eq v w hv)).trans ?_
  refine (e_bindT (compare_eq u w hu)).trans ?_
  rw [compare_eq v u hv, compare_eq u u hu, cmpV_refl, cmpV_anti u v]
  have ra := cmpV_rng u v
  have rb := cmpV_rng v w
  have rc := cmpV_rng u w
  obtain ⟨t1, t2⟩ := tri_cmpV u v w
  generalize cmpV u v = a at *
  generalize cmpV v w = b at *
  generalize cmpV u w = c at *
  have h0 : (if decide (a < -1) = true then some true else if decide (a > 1) = true then some true else
      (some (-a)).bind fun y => if (y != w64 (0 - a)) = true then some true else (some (0 : Int)).bind fun z => some (z != 0) : Option Bool) = some false := by
    rw [if_neg (by simp; omega), if_neg (by simp; omega), w64_id (by omega)]
    refine (e_bindT rfl).trans ?_
    rw [if_neg (by simp)]
    rfl
  refine (e_bindT h0).trans ?_
  rw [if_neg (by simp)]
  rcases ra with rfl | rfl | rfl <;> rcases rb with rfl | rfl | rfl <;> rcases rc with rfl | rfl | rfl <;> first | decide | (exfalso; omega)
end Go.Proofs.Ytihncddenjbecaa
/-
  Integers as digits to the base 256; the reference's digits and integers.
-/
namespace Go.Proofs.Ytihncddenjbecaa
open Go.Rv
set_option linter.unusedVariables false
set_option linter.unusedSimpArgs false

theorem revInd {α : Type} {p : List α → Prop} (h0 : p []) (hs : ∀ l c, p l → p (l ++ [c])) (l : List α) : p l := by
  have : ∀ l : List α, p l.reverse := by
    intro l
    induction l with
    | nil => exact h0
    | cons c l ih => rw [List.reverse_cons]; exact hs _ _ ih
  simpa using this l.reverse

/-- k digits, the greatest first. -/
def dig : Nat → Nat → List UInt8
  | 0, _ => []
  | k + 1, u => dig k (u / 256) ++ [UInt8.ofNat u]
def valD (l : List UInt8) : Nat := l.foldl (fun a c => a * 256 + c.toNat) 0

theorem dig_len : ∀ k u, (dig k u).length = k
  | 0, _ => rfl
  | k + 1, u => by simp [dig, dig_len k]
theorem valD_app (l : List UInt8) (c : UInt8) : valD (l ++ [c]) = valD l * 256 + c.toNat := by simp [valD]
theorem toNat_ofNat8 (u : Nat) : (UInt8.ofNat u).toNat = u % 256 := by simp
theorem valD_dig : ∀ k u, u < 256 ^ k → valD (dig k u) = u
  | 0, u, h => by have : u = 0 := by simpa using h
                  subst this; rfl
  | k + 1, u, h => by
    rw [dig, valD_app, valD_dig k (u / 256) (by rw [Nat.pow_succ] at h; exact Nat.div_lt_of_lt_mul (by rw [Nat.mul_comm]; exact h)), toNat_ofNat8]
    omega
theorem valD_lt (l : List UInt8) : valD l < 256 ^ l.length := by
  refine revInd (p := fun l => valD l < 256 ^ l.length) (by simp [valD]) (fun l c ih => ?_) l
  · rw [valD_app, List.length_append, List.length_singleton, Nat.pow_succ]
    have := c.toNat_lt
    omega
theorem dig_valD (l : List UInt8) : dig l.length (valD l) = l := by
  refine revInd (p := fun l => dig l.length (valD l) = l) rfl (fun l c ih => ?_) l
  · rw [valD_app, List.length_append, List.length_singleton, dig]
    have hc := c.toNat_lt
    have e1 : (valD l * 256 + c.toNat) / 256 = valD l := by omega
    have e2 : UInt8.ofNat (valD l * 256 + c.toNat) = c := by
      apply UInt8.toNat_inj.1
      rw [toNat_ofNat8]; omega
    rw [e1, e2, ih]

def magI (n : Int) : Nat := if n < 0 then (-(n + 1)).toNat else n.toNat
theorem magI_lt {n : Int} (h : rangeI n) : magI n < 9223372036854775808 := by
  unfold magI; obtain ⟨h1, h2⟩ := h; split <;> omega
theorem u64_of (n : Int) : ((UInt64.ofInt n).toNat : Int) = n % 18446744073709551616 := by rw [UInt64.ofInt, UInt64.toNat_ofNat']; omega
theorem u64_not (x : UInt64) : (~~~x).toNat = 18446744073709551615 - x.toNat := by rw [UInt64.toNat_not]; rfl
theorem magU {n : Int} (h : rangeI n) : (if n < 0 then (~~~(UInt64.ofInt n)).toNat else (UInt64.ofInt n).toNat) = magI n := by
  obtain ⟨h1, h2⟩ := h
  unfold magI
  by_cases hn : n < 0
  · rw [if_pos hn, if_pos hn, u64_not]
    have := u64_of n
    omega
  · rw [if_neg hn, if_neg hn]
    have := u64_of n
    omega
theorem nbI_mag {n : Int} (h : rangeI n) : nbI n = nb (magI n) := by
  have := magU h
  unfold nbI
  by_cases hn : n < 0
  · rw [if_pos hn] at this ⊢; rw [this]
  · rw [if_neg hn] at this ⊢; rw [this]

theorem dig_get : ∀ (k u i : Nat), i < k → (dig k u)[i]? = some (UInt8.ofNat (u / 256 ^ (k - 1 - i)))
  | 0, _, _, h => absurd h (Nat.not_lt_zero _)
  | k + 1, u, i, h => by
    rw [dig]
    by_cases hi : i < k
    · rw [List.getElem?_append_left (by rw [dig_len]; exact hi), dig_get k (u / 256) i hi, Nat.div_div_eq_div_mul]
      have : k + 1 - 1 - i = (k - 1 - i) + 1 := by omega
      rw [this, Nat.pow_succ, Nat.mul_comm]
    · have : i = k := by omega
      subst this
      rw [List.getElem?_append_right (by rw [dig_len]; exact Nat.le_refl _), dig_len]
      simp

theorem pow2_256 (j : Nat) : 2 ^ (8 * j) = 256 ^ j := by rw [Nat.pow_mul]

def flip8 (n : Int) (c : UInt8) : UInt8 := if n < 0 then ~~~c else c
theorem not8 (c : UInt8) : (~~~c).toNat = 255 - c.toNat := by rw [UInt8.toNat_not]; rfl

theorem byteI_eq {n : Int} (h : rangeI n) {k i : Nat} (hk : k ≤ 8) (hi : i < k) : byteI n k i = flip8 n (UInt8.ofNat (magI n / 256 ^ (k - 1 - i))) := by
  have hm := magI_lt h
  have hu := magU h
  apply UInt8.toNat_inj.1
  unfold byteI flip8
  rw [UInt64.toNat_toUInt8, e_shr64, pow2_256]
  generalize hj : k - 1 - i = j
  have hj8 : j < 8 := by omega
  by_cases hn : n < 0
  · rw [if_pos hn] at hu ⊢
    rw [u64_not] at hu
    rw [not8, toNat_ofNat8]
    have hlt := (UInt64.ofInt n).toNat_lt
    generalize (UInt64.ofInt n).toNat = U at *
    generalize magI n = m at *
    match j, hj8 with
    | 0, _ => simp; omega
    | 1, _ => simp; omega
    | 2, _ => simp; omega
    | 3, _ => simp; omega
    | 4, _ => simp; omega
    | 5, _ => simp; omega
    | 6, _ => simp; omega
    | 7, _ => simp; omega
  · rw [if_neg hn] at hu ⊢
    rw [toNat_ofNat8, hu]

theorem encI_eq {n : Int} (h : rangeI n) : encI n = tagI n :: (dig (nb (magI n)) (magI n)).map (flip8 n) := by
  unfold encI
  rw [nbI_mag h]
  congr 1
  refine List.ext_getElem? fun i => ?_
  by_cases hi : i < nb (magI n)
  · rw [List.getElem?_map, List.getElem?_map, List.getElem?_range hi, dig_get _ _ _ hi]
    simp only [Option.map_some]
    rw [byteI_eq h (nb_le _) hi]
  · rw [List.getElem?_eq_none (by simp; omega), List.getElem?_eq_none (by simp [dig_len]; omega)]

theorem nb_lt (u : Nat) (h : u < 256 ^ 8) : u < 256 ^ nb u := by
  unfold nb
  have key : ∀ f u, u < 256 ^ f → u < 256 ^ nbF f u := by
    intro f
    induction f with
    | zero => intro u h; simpa [nbF] using h
    | succ f ih =>
      intro u h
      unfold nbF
      split
      · rename_i e; subst e; simp
      · rename_i e
        have := ih (u / 256) (by rw [Nat.pow_succ] at h; exact Nat.div_lt_of_lt_mul (by rw [Nat.mul_comm]; exact h))
        rw [Nat.pow_succ]
        omega
  exact key 8 u h
theorem nb_ge (u : Nat) (h : u < 256 ^ 8) (h0 : u ≠ 0) : 256 ^ (nb u - 1) ≤ u := by
  unfold nb
  have key : ∀ f u, u < 256 ^ f → u ≠ 0 → 256 ^ (nbF f u - 1) ≤ u ∧ 0 < nbF f u := by
    intro f
    induction f with
    | zero => intro u h h0; exact absurd (by simpa using h) h0
    | succ f ih =>
      intro u h h0
      unfold nbF
      rw [if_neg h0]
      by_cases h1 : u / 256 = 0
      · have : nbF f (u / 256) = 0 := by
          rw [h1]
          cases f with
          | zero => rfl
          | succ f => simp [nbF]
        rw [this]
        simp; omega
      · obtain ⟨i1, i2⟩ := ih (u / 256) (by rw [Nat.pow_succ] at h; exact Nat.div_lt_of_lt_mul (by rw [Nat.mul_comm]; exact h)) h1
        obtain ⟨m, hm⟩ : ∃ m, nbF f (u / 256) = m + 1 := ⟨nbF f (u / 256) - 1, by omega⟩
        rw [hm] at i1 ⊢
        simp only [Nat.add_sub_cancel] at i1 ⊢
        refine ⟨?_, by omega⟩
        rw [Nat.pow_succ]; omega
  exact (key 8 u h h0).1
theorem nb_zero_iff (u : Nat) (h : u < 256 ^ 8) : nb u = 0 ↔ u = 0 := by
  constructor
  · intro e
    have := nb_lt u h
    rw [e] at this
    simpa using this
  · rintro rfl; rfl

/-! ### The reference's digits -/
theorem shrI_nat {n s : Nat} (hs : s ≤ 64) : shrI (n : Int) (s : Int) = ((n / 2 ^ s : Nat) : Int) := by
  unfold shrI
  have : min (s : Int).toNat 64 = s := by omega
  rw [this, Int.fdiv_eq_ediv_of_nonneg _ (by exact Int.le_of_lt (Int.pow_pos (by decide)))]
  norm_cast

theorem byte_nat (x : Nat) : UInt8.ofInt (x : Int) = UInt8.ofNat x := by
  apply UInt8.toNat_inj.1
  rw [UInt8.ofInt, UInt8.toNat_ofNat', toNat_ofNat8]
  omega

theorem digits_eq (n : Nat) (hn : n < 9223372036854775808) : r01_digits (n : Int) = some (dig (nb n) n) := by
  have key : ∃ x, loopO (fun (v : Int × List UInt8) => r01_digits_b1 (n : Int) v.1 v.2) (56, []) = some x ∧ x = dig (nb n) n :=
    loopO_for (f := fun (v : Int × List UInt8) => r01_digits_b1 (n : Int) v.1 v.2) 8
      (fun j v => v = (56 - 8 * (j : Int), dig (nb (n / 256 ^ (8 - j))) (n / 256 ^ (8 - j)))) (fun x => x = dig (nb n) n) (by omega)
      (fun j v hj hv => by
        subst hv
        refine ⟨_, ?_, rfl⟩
        show r01_digits_b1 (n : Int) (56 - 8 * (j : Int)) _ = _
        unfold r01_digits_b1
        have e0 : (56 - 8 * (j : Int)) = ((8 * (7 - j) : Nat) : Int) := by omega
        have e1 : 8 - j = (8 - (j + 1)) + 1 := by omega
        have e2 : w64 (56 - 8 * (j : Int) - 8) = 56 - 8 * ((j + 1 : Nat) : Int) := by rw [w64_id (by omega)]; omega
        have e3 : 7 - j = 8 - (j + 1) := by omega
        rw [if_pos (by simp; omega), e2, e0, if_pos (by unfold NotNeg; omega), shrI_nat (by omega), pow2_256, e3, byte_nat, e1, Nat.pow_succ, ← Nat.div_div_eq_div_mul]
        generalize hx : n / 256 ^ (8 - (j + 1)) = x
        have hxl : x < 256 ^ 8 := by rw [← hx]; exact Nat.lt_of_le_of_lt (Nat.div_le_self _ _) (Nat.lt_trans hn (by decide))
        simp only [lt1]
        have hc : (if (UInt8.ofNat x != 0) = true then some true else some (decide (((dig (nb (x / 256)) (x / 256)).length : Int) > 0)) : Option Bool) = some (decide (x ≠ 0)) := by
          rw [dig_len]
          by_cases hb : UInt8.ofNat x = 0
          · have hb' : x % 256 = 0 := by rw [← toNat_ofNat8, hb]; rfl
            rw [if_neg (by simp [hb])]
            congr 1
            by_cases h0 : x = 0
            · subst h0; rfl
            · have h1 : x / 256 ≠ 0 := by omega
              have : nb (x / 256) ≠ 0 := fun e => h1 ((nb_zero_iff _ (by omega)).1 e)
              simp [h0]; omega
          · have h0 : x ≠ 0 := fun e => hb (by subst e; rfl)
            rw [if_pos (by simpa using hb)]; simp [h0]
        refine (e_bindT (a := dig (nb x) x) ?_).trans rfl
        refine (e_bindT hc).trans ?_
        by_cases h0 : x = 0
        · subst h0
          rw [if_neg (by simp)]
        · rw [if_pos (by simpa using h0), if_pos (fits1 (by rw [dig_len]; have := nb_le (x / 256); omega)), nb_step x h0 hxl]
          rfl)
      (fun v hv => by
        subst hv
        refine ⟨_, ?_, rfl⟩
        show r01_digits_b1 (n : Int) (56 - 8 * ((8 : Nat) : Int)) _ = _
        unfold r01_digits_b1
        rw [if_neg (by decide)]
        simp) (v0 := (56, [])) (by
          have : n / 256 ^ (8 - 0) = 0 := Nat.div_eq_of_lt (Nat.lt_trans hn (by decide))
          rw [this]; rfl)
  obtain ⟨x, hx, rfl⟩ := key
  unfold r01_digits
  exact (e_lt1 _ _ _ rfl).trans (e_bindT (e_bindT hx))

theorem tagI_eq {n : Int} (h : rangeI n) : tagI n = if n < 0 then UInt8.ofInt (31 - (nb (magI n) : Int)) else UInt8.ofInt (32 + (nb (magI n) : Int)) := by
  unfold tagI
  rw [nbI_mag h]

theorem integer_eq {n : Int} (h : rangeI n) : r01_integer n = some (encI n) := by
  have hm := magI_lt h
  have h8 := nb_le (magI n)
  obtain ⟨r1, r2⟩ := id h
  unfold r01_integer
  rw [encI_eq h, tagI_eq h]
  by_cases hn : n < 0
  · have e : w64 (0 - w64 (n + 1)) = ((magI n : Nat) : Int) := by
      unfold magI
      rw [if_pos hn, w64_id (x := n + 1) (by omega), w64_id (by omega)]; omega
    rw [if_neg (by simp; omega), e, digits_eq _ hm, if_pos hn]
    refine (e_bindT rfl).trans ?_
    rw [dig_len, w64_id (by omega)]
    refine (e_lt1 _ _ _ rfl).trans ?_
    generalize hd : dig (nb (magI n)) (magI n) = D
    have hdl : D.length ≤ 8 := by rw [← hd, dig_len]; exact h8
    have key : ∃ x, loopO (fun (v : Int × List UInt8) => r01_integer_b1 D v.1 v.2) (0, [UInt8.ofInt (31 - (nb (magI n) : Int))]) = some x ∧ x = UInt8.ofInt (31 - (nb (magI n) : Int)) :: D.map (flip8 n) :=
      loopO_for (f := fun (v : Int × List UInt8) => r01_integer_b1 D v.1 v.2) D.length
        (fun j v => v = ((j : Int), UInt8.ofInt (31 - (nb (magI n) : Int)) :: (D.take j).map (flip8 n))) _ (by omega)
        (fun j v hj hv => by
          subst hv
          refine ⟨_, ?_, rfl⟩
          show r01_integer_b1 D (j : Int) _ = _
          unfold r01_integer_b1
          have r : InR (j : Int) D.length := ⟨by omega, by omega⟩
          rw [if_pos (by simp; omega), if_pos r, if_pos (fits1 (by simp; omega)), e_succ (by omega)]
          simp only [lt1, Int.toNat_natCast]
          congr 3
          rw [List.take_succ_eq_append_getElem hj, List.map_append, nth_lt hj]
          have : (255 : UInt8) - D[j] = flip8 n D[j] := by
            unfold flip8
            rw [if_pos hn]
            apply UInt8.toNat_inj.1
            rw [not8, UInt8.toNat_sub]
            have := D[j].toNat_lt
            have : (255 : UInt8).toNat = 255 := rfl
            omega
          rw [this]; rfl)
        (fun v hv => by
          subst hv
          refine ⟨_, ?_, rfl⟩
          show r01_integer_b1 D (D.length : Int) _ = _
          unfold r01_integer_b1
          rw [if_neg (by simp), List.take_length]) (v0 := (0, [_])) rfl
    obtain ⟨x, hx, rfl⟩ := key
    exact e_bindT (e_bindT hx)
  · have e : n = ((magI n : Nat) : Int) := by
      unfold magI
      rw [if_neg hn]; omega
    rw [if_pos (by simp; omega), if_neg hn]
    conv => lhs; rw [e]
    rw [digits_eq _ hm]
    refine (e_bindT rfl).trans ?_
    rw [dig_len, w64_id (by omega)]
    refine (e_lt1 _ _ _ rfl).trans ?_
    rw [if_pos (fits1 (by simp; omega))]
    simp only [lt1]
    have : (dig (nb (magI n)) (magI n)).map (flip8 n) = dig (nb (magI n)) (magI n) := by
      refine (List.map_congr_left fun c _ => ?_).trans (List.map_id _)
      unfold flip8; rw [if_neg hn]; rfl
    rw [this]; rfl
end Go.Proofs.Ytihncddenjbecaa
/-
  The reference's functions on values: Shape, Nesting, Bytes, Check, Encode, Compare, Same.
-/
namespace Go.Proofs.Ytihncddenjbecaa
open Go.Rv
set_option linter.unusedVariables false
set_option linter.unusedSimpArgs false

/-! ### Shape -/
theorem shpV_eq (v : Api_Value) : shpV v = if v.Kind = 1 then (0, v.B.length == 0 && v.L.length == 0) else if v.Kind = 2 then (0, v.N == 0 && v.L.length == 0) else if v.Kind = 3 then (if v.N = 0 ∧ v.B.length = 0 then shpL 0 v.L else (0, false)) else (0, false) := by
  cases v with
  | mk k n b l => unfold shpV; rfl
theorem shpL_all : ∀ (l : List Api_Value) (d : Int), (shpL d l).2 = l.all fun x => (shpV x).2
  | [], d => by rw [shpL_nil]; rfl
  | x :: l, d => by
    rw [shpL_cons, List.all_cons]
    cases h : (shpV x).2
    · rw [if_neg (by simp)]; rfl
    · rw [if_pos rfl, shpL_all l]; rfl

theorem all_drop {l : List Api_Value} {p : Api_Value → Bool} {k : Nat} (h : k < l.length) : (l.drop k).all p = (p (nth l k) && (l.drop (k + 1)).all p) := by
  rw [List.drop_eq_getElem_cons h, List.all_cons, nth_lt h]

theorem shape_loopR (v : Api_Value) (rec_ : Api_Value → Option Bool) (hr : ∀ x ∈ v.L, rec_ x = some (shpV x).2) (hs : v.L.length ≤ 1099511627776) :
    ∃ x, loopO (fun (i : Int) => r01_Shape_b1 v rec_ i) 0 = some x ∧ ((x = .inl () ∧ (v.L.all fun x => (shpV x).2) = true) ∨ (x = .inr (.inr false) ∧ (v.L.all fun x => (shpV x).2) = false)) := by
  refine loopO_rule (f := fun (i : Int) => r01_Shape_b1 v rec_ i) (fun i => ∃ k : Nat, i = (k : Int) ∧ k ≤ v.L.length ∧ (v.L.all fun x => (shpV x).2) = ((v.L.drop k).all fun x => (shpV x).2)) (fun i => v.L.length - i.toNat) _ ?_ ⟨0, rfl, Nat.zero_le _, rfl⟩ (by omega)
  rintro _ ⟨k, rfl, hk, he⟩
  show _ ∨ _
  unfold r01_Shape_b1
  by_cases h : k < v.L.length
  · rw [if_pos (by simp; omega), if_pos (show InR (k : Int) v.L.length from ⟨by omega, by omega⟩), Int.toNat_natCast, hr _ (by rw [nth_lt h]; exact List.getElem_mem h)]
    rw [all_drop h] at he
    cases hx : (shpV (nth v.L k)).2
    · right
      rw [hx] at he
      exact ⟨_, rfl, .inr ⟨rfl, he⟩⟩
    · left
      rw [hx] at he
      refine ⟨_, (e_bindT rfl).trans ?_, ⟨k + 1, rfl, h, by simpa using he⟩, ?_⟩
      · rw [if_neg (by simp), e_succ (by omega)]
      · simp only [Int.toNat_natCast]; omega
  · right
    rw [if_neg (by simp; omega)]
    have : k = v.L.length := by omega
    subst this
    exact ⟨_, rfl, .inl ⟨rfl, by rw [he, List.drop_length]; rfl⟩⟩

theorem shapeR_n : ∀ (n : Nat) (v : Api_Value), szV v < n → szV v ≤ 1099511627776 → r01_Shape_n n v = some (shpV v).2
  | 0, v, h, _ => absurd h (Nat.not_lt_zero _)
  | n + 1, v, h, hs => by
    show r01_Shape_F (r01_Shape_n n) v = _
    have hsz := szV_eq v
    have hlen := szVs_len v.L
    obtain ⟨x, hx, hq⟩ := shape_loopR v (r01_Shape_n n) (fun y hy => shapeR_n n y (by have := szVs_mem hy; omega) (by have := szVs_mem hy; omega)) (by omega)
    unfold r01_Shape_F
    have hb0 : ((v.B.length : Int) > 0) = (v.B.length ≠ 0) := by apply propext; omega
    have hl0 : ((v.L.length : Int) > 0) = (v.L.length ≠ 0) := by apply propext; omega
    have hc := (show (if (v.Kind != 1) = true then
    if (v.N != 0) = true then
      some true
    else
      if (v.Kind != 2) = true then
        if (decide ((v.B.length : Int) > 0)) = true then
          some true
        else
          if (v.Kind != 3) = true then
            some ((decide ((v.L.length : Int) > 0)))
          else
            some false
      else
        if (v.Kind != 3) = true then
          some ((decide ((v.L.length : Int) > 0)))
        else
          some false
  else
    if (v.Kind != 2) = true then
      if (decide ((v.B.length : Int) > 0)) = true then
        some true
      else
        if (v.Kind != 3) = true then
          some ((decide ((v.L.length : Int) > 0)))
        else
          some false
    else
      if (v.Kind != 3) = true then
        some ((decide ((v.L.length : Int) > 0)))
      else
        some false : Option (Bool)) = some (decide ((v.Kind ≠ 1 ∧ v.N ≠ 0) ∨ (v.Kind ≠ 2 ∧ v.B.length ≠ 0) ∨ (v.Kind ≠ 3 ∧ v.L.length ≠ 0))) by
      simp only [hb0, hl0]
      by_cases k1 : v.Kind = 1
      · have k2 : v.Kind ≠ 2 := by omega
        have k3 : v.Kind ≠ 3 := by omega
        by_cases hb : v.B.length = 0 <;> by_cases hl : v.L.length = 0 <;> simp [k1, hb, hl]
      · by_cases k2 : v.Kind = 2
        · have k3 : v.Kind ≠ 3 := by omega
          by_cases hn : v.N = 0 <;> by_cases hl : v.L.length = 0 <;> simp [k2, hn, hl]
        · by_cases k3 : v.Kind = 3
          · by_cases hn : v.N = 0 <;> by_cases hb : v.B.length = 0 <;> simp [k3, hn, hb]
          · by_cases hn : v.N = 0 <;> by_cases hb : v.B.length = 0 <;> by_cases hl : v.L.length = 0 <;> simp [k1, k2, k3, hn, hb, hl])
    refine (e_bindT hc).trans ?_
    rw [shpV_eq]
    by_cases hbad : (v.Kind ≠ 1 ∧ v.N ≠ 0) ∨ (v.Kind ≠ 2 ∧ v.B.length ≠ 0) ∨ (v.Kind ≠ 3 ∧ v.L.length ≠ 0)
    · rw [if_pos (by simpa using hbad)]
      congr 1
      by_cases k1 : v.Kind = 1
      · have : v.B.length ≠ 0 ∨ v.L.length ≠ 0 := by omega
        rw [if_pos k1]
        rcases this with h | h <;> simp [h]
      · rw [if_neg k1]
        by_cases k2 : v.Kind = 2
        · have : v.N ≠ 0 ∨ v.L.length ≠ 0 := by omega
          rw [if_pos k2]
          rcases this with h | h <;> simp [h]
        · rw [if_neg k2]
          by_cases k3 : v.Kind = 3
          · rw [if_pos k3, if_neg (by omega)]
          · rw [if_neg k3]
    · rw [if_neg (by simpa using hbad)]
      by_cases k1 : v.Kind = 1
      · have hl : v.L.length = 0 := by omega
        have hb : v.B.length = 0 := by omega
        have hL : v.L = [] := List.length_eq_zero_iff.1 hl
        rcases hq with ⟨rfl, _⟩ | ⟨_, e⟩
        · refine (e_bindT (a := .inl ()) ((e_bindT hx).trans rfl)).trans ?_
          simp [k1, hl, hb]
        · rw [hL] at e; cases e
      · by_cases k2 : v.Kind = 2
        · have hl : v.L.length = 0 := by omega
          have hn : v.N = 0 := by omega
          have hL : v.L = [] := List.length_eq_zero_iff.1 hl
          rcases hq with ⟨rfl, _⟩ | ⟨_, e⟩
          · refine (e_bindT (a := .inl ()) ((e_bindT hx).trans rfl)).trans ?_
            simp [k2, hl, hn]
          · rw [hL] at e; cases e
        · by_cases k3 : v.Kind = 3
          · have hn : v.N = 0 := by omega
            have hb : v.B.length = 0 := by omega
            conv => rhs; rw [if_neg k1, if_neg k2, if_pos k3, if_pos (show v.N = 0 ∧ v.B.length = 0 from ⟨hn, hb⟩), shpL_all]
            rcases hq with ⟨rfl, e⟩ | ⟨rfl, e⟩
            · refine (e_bindT (a := .inl ()) ((e_bindT hx).trans rfl)).trans ?_
              rw [e]; simp [k3]
            · rw [e]
              exact (e_bindT (a := .inr false) ((e_bindT hx).trans rfl)).trans rfl
          · have hl : v.L.length = 0 := by omega
            have hL : v.L = [] := List.length_eq_zero_iff.1 hl
            rcases hq with ⟨rfl, _⟩ | ⟨_, e⟩
            · refine (e_bindT (a := .inl ()) ((e_bindT hx).trans rfl)).trans ?_
              simp [k1, k2, k3]
            · rw [hL] at e; cases e
theorem shapeR_eq (v : Api_Value) (h : szV v ≤ 100000000000) : r01_Shape v = some (shpV v).2 := shapeR_n _ v (by omega) (by omega)

/-! ### Nesting -/
mutual
def nestV : Api_Value → Int
  | .mk k n b l => if k = 3 then nestL 0 l + 1 else nestL 0 l
def nestL (d : Int) : List Api_Value → Int
  | [] => d
  | x :: l => nestL (mx64 d (nestV x)) l
end
theorem nestV_eq (v : Api_Value) : nestV v = if v.Kind = 3 then nestL 0 v.L + 1 else nestL 0 v.L := by
  cases v with
  | mk k n b l => rw [nestV]; rfl
mutual
theorem nestV_le : ∀ v : Api_Value, 0 ≤ nestV v ∧ nestV v ≤ szV v
  | .mk k n b l => by
    have h := nestL_le 0 l
    rw [nestV, szV]
    split <;> omega
theorem nestL_le : ∀ (d : Int) (l : List Api_Value), 0 ≤ d → 0 ≤ nestL d l ∧ nestL d l ≤ max d (szVs l)
  | d, [] => by intro h; rw [nestL]; omega
  | d, x :: l => by
    intro h
    have h1 := nestV_le x
    have hm : 0 ≤ mx64 d (nestV x) ∧ mx64 d (nestV x) ≤ max d (szV x) := by unfold mx64; split <;> omega
    have h2 := nestL_le (mx64 d (nestV x)) l hm.1
    rw [nestL, szVs]
    omega
end
theorem nestL_drop {d : Int} {l : List Api_Value} {k : Nat} (h : k < l.length) : nestL d (l.drop k) = nestL (mx64 d (nestV (nth l k))) (l.drop (k + 1)) := by
  rw [List.drop_eq_getElem_cons h, nestL, nth_lt h]

theorem nestR_n : ∀ (n : Nat) (v : Api_Value), szV v < n → szV v ≤ 1099511627776 → r01_Nesting_n n v = some (nestV v)
  | 0, v, h, _ => absurd h (Nat.not_lt_zero _)
  | n + 1, v, h, hs => by
    show r01_Nesting_F (r01_Nesting_n n) v = _
    have hsz := szV_eq v
    have hlen := szVs_len v.L
    have hr : ∀ x ∈ v.L, r01_Nesting_n n x = some (nestV x) := fun y hy => nestR_n n y (by have := szVs_mem hy; omega) (by have := szVs_mem hy; omega)
    have key : ∃ x, loopO (fun (s : Int × Int) => r01_Nesting_b1 v (r01_Nesting_n n) s.1 s.2) (0, 0) = some x ∧ x = nestL 0 v.L := by
      refine loopO_rule (f := fun (s : Int × Int) => r01_Nesting_b1 v (r01_Nesting_n n) s.1 s.2) (fun s => ∃ k : Nat, s.2 = (k : Int) ∧ k ≤ v.L.length ∧ nestL 0 v.L = nestL s.1 (v.L.drop k)) (fun s => v.L.length - s.2.toNat) _ ?_ ⟨0, rfl, Nat.zero_le _, rfl⟩ (by omega)
      rintro ⟨d, t⟩ ⟨k, ht, hk, he⟩
      simp only at ht he
      subst ht
      show _ ∨ _
      simp only
      unfold r01_Nesting_b1
      by_cases h : k < v.L.length
      · left
        rw [if_pos (by simp; omega), if_pos (show InR (k : Int) v.L.length from ⟨by omega, by omega⟩), Int.toNat_natCast, hr _ (by rw [nth_lt h]; exact List.getElem_mem h), e_succ (by omega)]
        rw [nestL_drop h] at he
        refine ⟨_, rfl, ⟨k + 1, rfl, h, he⟩, ?_⟩
        simp only [Int.toNat_natCast]; omega
      · right
        rw [if_neg (by simp; omega)]
        have : k = v.L.length := by omega
        subst this
        refine ⟨_, rfl, ?_⟩
        rw [he, List.drop_length, nestL]
    obtain ⟨x, hx, rfl⟩ := key
    unfold r01_Nesting_F
    refine (e_bindT (e_bindT hx)).trans ?_
    have hn := nestL_le 0 v.L (by omega)
    rw [nestV_eq]
    by_cases k3 : v.Kind = 3
    · rw [if_pos (show (v.Kind == 3) = true by simp [k3]), if_pos k3, w64_id (by omega)]
    · rw [if_neg (show ¬ (v.Kind == 3) = true by simp [k3]), if_neg k3]
theorem nestR_eq (v : Api_Value) (h : szV v ≤ 100000000000) : r01_Nesting v = some (nestV v) := nestR_n _ v (by omega) (by omega)

mutual
theorem nest_shp : ∀ v : Api_Value, (shpV v).2 = true → nestV v = (shpV v).1
  | .mk k n b l => by
    intro h
    rw [shpV] at h ⊢
    rw [nestV]
    by_cases k1 : k = 1
    · rw [if_pos k1] at h ⊢
      have hl : l.length = 0 := by simp at h; simp [h.2]
      have : l = [] := List.length_eq_zero_iff.1 hl
      subst this
      rw [if_neg (by omega), nestL]
    · rw [if_neg k1] at h ⊢
      by_cases k2 : k = 2
      · rw [if_pos k2] at h ⊢
        have hl : l.length = 0 := by simp at h; simp [h.2]
        have : l = [] := List.length_eq_zero_iff.1 hl
        subst this
        rw [if_neg (by omega), nestL]
      · rw [if_neg k2] at h ⊢
        by_cases k3 : k = 3
        · rw [if_pos k3] at h ⊢
          rw [if_pos k3]
          by_cases hc : n = 0 ∧ b.length = 0
          · rw [if_pos hc] at h ⊢
            exact nest_shpL l 0 h
          · rw [if_neg hc] at h; cases h
        · rw [if_neg k3] at h; cases h
theorem nest_shpL : ∀ (l : List Api_Value) (d : Int), (shpL d l).2 = true → nestL d l + 1 = (shpL d l).1
  | [], d => by intro _; rw [shpL_nil, nestL]
  | x :: l, d => by
    intro h
    rw [shpL_cons] at h ⊢
    by_cases hx : (shpV x).2 = true
    · rw [if_pos hx] at h ⊢
      rw [nestL, nest_shp x hx]
      exact nest_shpL l _ h
    · rw [if_neg hx] at h; cases h
end
end Go.Proofs.Ytihncddenjbecaa
/-
  The reference's Bytes, Check, Encode, Compare, Same.
-/
namespace Go.Proofs.Ytihncddenjbecaa
open Go.Rv
set_option linter.unusedVariables false
set_option linter.unusedSimpArgs false

/-! ### Bytes -/
theorem escB_take {b : List UInt8} {k : Nat} (h : k < b.length) : escB (b.take (k + 1)) = if nth b k = 0 then escB (b.take k) ++ [0, 255] else escB (b.take k) ++ [nth b k] := by
  rw [List.take_succ_eq_append_getElem h, escB_app, nth_lt h, escB]
  split <;> simp [escB, *]
theorem encL_take1 {l : List Api_Value} {k : Nat} (h : k < l.length) : encL (l.take (k + 1)) = encL (l.take k) ++ encV (nth l k) := by
  rw [List.take_succ_eq_append_getElem h, encL_app, nth_lt h, encL, encL, List.append_nil]
theorem escB_take_len (b : List UInt8) (k : Nat) : (escB (b.take k)).length ≤ 2 * b.length := by
  have := escB_len (b.take k)
  have h2 : (b.take k).length ≤ b.length := by simp; omega
  omega

theorem bytesR_loop (v : Api_Value) (hs : v.B.length ≤ 1099511627776) : ∃ x, loopO (fun (s : Int × List UInt8) => r01_Bytes_b1 v s.1 s.2) (0, [48]) = some x ∧ x = 48 :: escB v.B := by
  refine loopO_for (f := fun (s : Int × List UInt8) => r01_Bytes_b1 v s.1 s.2) v.B.length (fun k s => s = ((k : Int), 48 :: escB (v.B.take k))) _ (by omega) ?_ ?_ (v0 := (0, [48])) rfl
  · rintro k s hk rfl
    have hl := escB_take_len v.B k
    have r : InR (k : Int) v.B.length := ⟨by omega, by omega⟩
    refine ⟨_, ?_, rfl⟩
    show r01_Bytes_b1 v (k : Int) _ = _
    unfold r01_Bytes_b1
    rw [if_pos (by simp; omega), e_succ (by omega), escB_take hk]
    refine (e_bindT (a := 48 :: (if nth v.B k = 0 then escB (v.B.take k) ++ [0, 255] else escB (v.B.take k) ++ [nth v.B k])) ?_).trans rfl
    rw [if_pos r, if_pos (fits1 (by simp only [List.length_cons]; omega))]
    simp only [lt1, Int.toNat_natCast]
    rw [if_pos r]
    by_cases h0 : nth v.B k = 0
    · rw [if_pos (by simpa using h0), if_pos (fits1 (by simp only [List.length_append, List.length_cons, List.length_nil]; omega)), if_pos h0, h0]
      simp
    · rw [if_neg (by simpa using h0), if_neg h0]
      simp
  · rintro s rfl
    refine ⟨_, ?_, rfl⟩
    show r01_Bytes_b1 v (v.B.length : Int) _ = _
    unfold r01_Bytes_b1
    rw [if_neg (by simp), List.take_length]

theorem listR_loop (v : Api_Value) (rec_ : Api_Value → Option (List UInt8)) (hr : ∀ x ∈ v.L, rec_ x = some (encV x)) (hs : szV v ≤ 1099511627776) : ∃ x, loopO (fun (s : Int × List UInt8) => r01_Bytes_b2 v rec_ s.1 s.2) (0, [64]) = some x ∧ x = 64 :: encL v.L := by
  have hsz := szV_eq v
  have hlen := szVs_len v.L
  refine loopO_for (f := fun (s : Int × List UInt8) => r01_Bytes_b2 v rec_ s.1 s.2) v.L.length (fun k s => s = ((k : Int), 64 :: encL (v.L.take k))) _ (by omega) ?_ ?_ (v0 := (0, [64])) (by simp [encL])
  · rintro k s hk rfl
    have hl := encL_take v.L k
    have hm : nth v.L k ∈ v.L := by rw [nth_lt hk]; exact List.getElem_mem hk
    have h1 := encV_len (nth v.L k)
    have h2 := szVs_mem hm
    refine ⟨_, ?_, rfl⟩
    show r01_Bytes_b2 v rec_ (k : Int) _ = _
    unfold r01_Bytes_b2
    rw [if_pos (by simp; omega), e_succ (by omega), encL_take1 hk, if_pos (show InR (k : Int) v.L.length from ⟨by omega, by omega⟩), Int.toNat_natCast, hr _ hm]
    refine (e_bindT rfl).trans ?_
    rw [if_pos (fits1 (by simp only [List.length_cons]; omega))]
    simp [lt1]
  · rintro s rfl
    refine ⟨_, ?_, rfl⟩
    show r01_Bytes_b2 v rec_ (v.L.length : Int) _ = _
    unfold r01_Bytes_b2
    rw [if_neg (by simp), List.take_length]

theorem bytesR_n : ∀ (n : Nat) (v : Api_Value), szV v < n → szV v ≤ 100000000000 → okV v → r01_Bytes_n n v = some (encV v)
  | 0, v, h, _, _ => absurd h (Nat.not_lt_zero _)
  | n + 1, v, h, hs, hok => by
    show r01_Bytes_F (r01_Bytes_n n) v = _
    have hsz := szV_eq v
    have hlen := szVs_len v.L
    obtain ⟨_, hN, hL⟩ := (okV_eq v).1 hok
    have he := escB_len v.B
    have hl := encL_len v.L
    unfold r01_Bytes_F
    rw [encV_eq]
    by_cases h1 : v.Kind = 1
    · rw [if_pos (show (v.Kind == 1) = true by simp [h1]), if_pos h1]
      exact e_bindT (integer_eq hN)
    · rw [if_neg (show ¬ (v.Kind == 1) = true by simp [h1]), if_neg h1]
      refine (e_lt1 _ _ _ rfl).trans ?_
      by_cases h2 : v.Kind = 2
      · obtain ⟨x, hx, rfl⟩ := bytesR_loop v (by omega)
        rw [if_pos (show (v.Kind == 2) = true by simp [h2]), if_pos h2]
        refine (e_bindT (a := .inr (48 :: (escB v.B ++ [0, 0]))) ?_).trans rfl
        rw [if_pos (fits1 (by simp))]
        refine (e_lt1 _ _ _ rfl).trans ?_
        refine (e_bindT (e_bindT hx)).trans ?_
        rw [if_pos (fits1 (by simp only [List.length_cons]; omega))]
        simp [lt1]
      · obtain ⟨x, hx, rfl⟩ := listR_loop v (r01_Bytes_n n) (fun y hy => bytesR_n n y (by have := szVs_mem hy; omega) (by have := szVs_mem hy; omega) (hL y hy)) (by omega)
        rw [if_neg (show ¬ (v.Kind == 2) = true by simp [h2]), if_neg h2]
        refine (e_bindT (a := (.inl () : Unit ⊕ List UInt8)) rfl).trans ?_
        simp only
        rw [if_pos (fits1 (by simp))]
        refine (e_lt1 _ _ _ rfl).trans ?_
        refine (e_bindT (e_bindT hx)).trans ?_
        rw [if_pos (fits1 (by simp only [List.length_cons]; omega))]
        simp [lt1]
theorem bytesR_eq (v : Api_Value) (h : szV v ≤ 100000000000) (hok : okV v) : r01_Bytes v = some (encV v) := bytesR_n _ v (by omega) (by omega) hok

theorem checkR_eq (v : Api_Value) (h : szV v ≤ 100000000000) (hok : okV v) : r01_Check v = some (Enc v).2 := by
  unfold r01_Check Enc
  refine (e_bindT (shapeR_eq v h)).trans ?_
  cases h1 : (shpV v).2
  · rw [if_pos (by simp), if_neg (by simp)]
  · rw [if_neg (by simp), if_pos rfl, nestR_eq v h, nest_shp v h1]
    by_cases h2 : (shpV v).1 > 16
    · rw [if_pos h2]
      refine (e_bindT (a := true) ((e_bindT rfl).trans ?_)).trans rfl
      rw [if_pos (by simpa using h2)]
    · rw [if_neg h2, bytesR_eq v h hok]
      by_cases h3 : (encV v).length > 65536
      · rw [if_pos h3]
        refine (e_bindT (a := true) ((e_bindT rfl).trans ?_)).trans rfl
        rw [if_neg (by simpa using h2)]
        refine (e_bindT rfl).trans ?_
        simp; omega
      · rw [if_neg h3]
        refine (e_bindT (a := false) ((e_bindT rfl).trans ?_)).trans rfl
        rw [if_neg (by simpa using h2)]
        refine (e_bindT rfl).trans ?_
        simp; omega

theorem encodeR_eq (v : Api_Value) (h : szV v ≤ 100000000000) (hok : okV v) : r01_Encode v = some (Enc v) := by
  unfold r01_Encode
  refine (e_bindT (checkR_eq v h hok)).trans ?_
  rw [bytesR_eq v h hok]
  unfold Enc
  by_cases h1 : (shpV v).2 = true
  · rw [if_pos h1]
    by_cases h2 : (shpV v).1 > 16
    · rw [if_pos h2]; rfl
    · rw [if_neg h2]
      by_cases h3 : (encV v).length > 65536
      · rw [if_pos h3]; rfl
      · rw [if_neg h3]; rfl
  · rw [if_neg h1]; rfl
theorem check_eq (v : Api_Value) (h : szV v ≤ 100000000000) : codec_Check v = some (Enc v).2 := by
  unfold codec_Check
  exact e_bindT (encode_eq v h)

/-! ### Compare -/
theorem compareR_n : ∀ (n : Nat) (a b : Api_Value), szV a < n → szV a ≤ 1099511627776 → r01_Compare_n n a b = some (cmpV a b)
  | 0, a, b, h, _ => absurd h (Nat.not_lt_zero _)
  | n + 1, a, b, h, hs => by
    show r01_Compare_F (r01_Compare_n n) a b = _
    have hsz := szV_eq a
    have hlen := szVs_len a.L
    have hr : ∀ x ∈ a.L, ∀ y, r01_Compare_n n x y = some (cmpV x y) := fun x hx y => compareR_n n x y (by have := szVs_mem hx; omega) (by have := szVs_mem hx; omega)
    have key : ∃ x, loopO (fun (v : Int) => r01_Compare_b1 a b (r01_Compare_n n) v) 0 = some x ∧ ((x = .inl () ∧ cmpL a.L b.L = cmpI (a.L.length : Int) (b.L.length : Int)) ∨ (x = .inr (.inr (.inr (cmpL a.L b.L))))) := by
      refine loopO_rule (f := fun (v : Int) => r01_Compare_b1 a b (r01_Compare_n n) v) (fun i => ∃ k : Nat, i = (k : Int) ∧ k ≤ a.L.length ∧ k ≤ b.L.length ∧ cmpL a.L b.L = cmpL (a.L.drop k) (b.L.drop k)) (fun i => a.L.length - i.toNat) _ ?_ ⟨0, rfl, by simp, by simp, rfl⟩ (by omega)
      rintro _ ⟨k, rfl, hka, hkb, he⟩
      show _ ∨ _
      unfold r01_Compare_b1
      by_cases h : k < a.L.length ∧ k < b.L.length
      · have hc : (if decide ((k : Int) < (a.L.length : Int)) = true then some (decide ((k : Int) < (b.L.length : Int))) else some false : Option Bool) = some true := by
          rw [if_pos (by simp; omega)]; simp; omega
        have r1 : InR (k : Int) a.L.length := ⟨by omega, by omega⟩
        have r2 : InR (k : Int) b.L.length := ⟨by omega, by omega⟩
        rw [cmpL_drop h.1 h.2] at he
        have hrk := hr (nth a.L k) (by rw [nth_lt h.1]; exact List.getElem_mem h.1) (nth b.L k)
        by_cases hz : cmpV (nth a.L k) (nth b.L k) = 0
        · left
          rw [if_neg (by simpa using hz)] at he
          refine ⟨_, (e_bindT hc).trans ?_, ⟨k + 1, rfl, by omega, by omega, he⟩, ?_⟩
          · rw [if_pos rfl, if_pos r1, if_pos r2, Int.toNat_natCast, hrk]
            refine (e_bindT rfl).trans ?_
            rw [if_neg (by simp [hz]), e_succ (by omega)]
          · simp only [Int.toNat_natCast]; omega
        · right
          rw [if_pos hz] at he
          refine ⟨_, (e_bindT hc).trans ?_, .inr rfl⟩
          rw [if_pos rfl, if_pos r1, if_pos r2, Int.toNat_natCast, hrk]
          refine (e_bindT rfl).trans ?_
          rw [if_pos (by simpa using hz), he]; rfl
      · right
        have hc : (if decide ((k : Int) < (a.L.length : Int)) = true then some (decide ((k : Int) < (b.L.length : Int))) else some false : Option Bool) = some false := by
          by_cases hk : k < a.L.length
          · rw [if_pos (by simp; omega)]; simp; omega
          · rw [if_neg (by simp; omega)]
        refine ⟨_, (e_bindT hc).trans ?_, .inl ⟨rfl, ?_⟩⟩
        · rw [if_neg (by simp)]
        · rw [he]; exact cmpL_end hka hkb h
    obtain ⟨x, hx, hq⟩ := key
    unfold r01_Compare_F
    rw [cmpV_eq]
    by_cases hk : a.Kind = b.Kind
    · rw [if_neg (show ¬ (a.Kind != b.Kind) = true by simp [hk]), if_neg (show ¬ (a.Kind ≠ b.Kind) by simpa using hk)]
      by_cases h1 : a.Kind = 1
      · rw [if_pos (show (a.Kind == 1) = true by simp [h1]), if_pos h1, order_eq]; rfl
      · rw [if_neg (show ¬ (a.Kind == 1) = true by simp [h1]), if_neg h1]
        by_cases h2 : a.Kind = 2
        · rw [if_pos (show (a.Kind == 2) = true by simp [h2]), if_pos h2, orderBytes_eq _ _ (by omega)]; rfl
        · rw [if_neg (show ¬ (a.Kind == 2) = true by simp [h2]), if_neg h2]
          by_cases h3 : a.Kind = 3
          · rw [if_pos (show (a.Kind == 3) = true by simp [h3]), if_pos h3]
            rcases hq with ⟨rfl, he⟩ | rfl
            · rw [hx, he, order_eq]; rfl
            · rw [hx]; rfl
          · rw [if_neg (show ¬ (a.Kind == 3) = true by simp [h3]), if_neg h3]; rfl
    · rw [if_pos (show (a.Kind != b.Kind) = true by simpa using hk), if_pos (show a.Kind ≠ b.Kind from hk), order_eq]; rfl
theorem compareR_eq (a b : Api_Value) (h : szV a ≤ 100000000000) : r01_Compare a b = some (cmpV a b) := compareR_n _ a b (by omega) (by omega)

theorem law_matches (v w : Api_Value) (hv : szV v ≤ 1048576) (ok : okV v) (hw : szV w ≤ 1048576) (_ : okV w) : law01_CodecMatchesReference v w = some true := by
  have h : szV v ≤ 100000000000 := by omega
  unfold law01_CodecMatchesReference
  rw [sane_ok]
  refine (e_bindT rfl).trans ?_
  rw [if_neg (by simp)]
  refine (e_bindT (encode_eq v h)).trans ?_
  refine (e_bindT (encodeR_eq v h ok)).trans ?_
  rw [check_eq v h, checkR_eq v h ok, compare_eq v w h, compareR_eq v w h]
  have hl : (Enc v).1.length ≤ 1099511627776 := by
    have := encV_len v
    unfold Enc
    split
    · split
      · simp
      · split
        · simp
        · simp only; omega
    · simp
  have hz : ∀ a : List UInt8, cmpB a a = 0 := fun a => by have := cmpB_anti a a; omega
  rw [sameBytes_eq _ _ hl, hz]
  refine (e_bindT (a := true) ?_).trans rfl
  refine (e_bindT rfl).trans ((e_bindT rfl).trans ?_)
  rw [if_pos (by simp), if_pos (by simp)]
  refine (e_bindT rfl).trans ?_
  refine (if_pos (by simp)).trans ?_
  refine (e_bindT rfl).trans ((e_bindT rfl).trans ?_)
  simp

/-! ### Same -/
mutual
def sameV : Api_Value → Api_Value → Bool
  | .mk k n b l, w => k == w.Kind && n == w.N && b == w.B && sameL l w.L
def sameL : List Api_Value → List Api_Value → Bool
  | [], [] => true
  | x :: l, y :: m => sameV x y && sameL l m
  | [], _ :: _ => false
  | _ :: _, [] => false
end
mutual
theorem sameV_iff : ∀ v w : Api_Value, sameV v w = true ↔ v = w
  | .mk k n b l, .mk k' n' b' l' => by
    rw [sameV]
    simp only [Bool.and_eq_true, beq_iff_eq]
    rw [sameL_iff l _]
    show ((k = k' ∧ n = n') ∧ b = b') ∧ l = l' ↔ _
    constructor
    · rintro ⟨⟨⟨rfl, rfl⟩, rfl⟩, rfl⟩; rfl
    · intro h; cases h; exact ⟨⟨⟨rfl, rfl⟩, rfl⟩, rfl⟩
theorem sameL_iff : ∀ l m : List Api_Value, sameL l m = true ↔ l = m
  | [], [] => by simp [sameL]
  | [], _ :: _ => by simp [sameL]
  | _ :: _, [] => by simp [sameL]
  | x :: l, y :: m => by
    rw [sameL, Bool.and_eq_true, sameV_iff x y, sameL_iff l m]
    simp
end
theorem sameV_eq (v w : Api_Value) : sameV v w = (v.Kind == w.Kind && v.N == w.N && v.B == w.B && sameL v.L w.L) := by
  cases v with
  | mk k n b l => rw [sameV]; rfl
theorem cmpB_zero (a b : List UInt8) : cmpB a b = 0 ↔ a = b := by
  constructor
  · intro h
    induction a generalizing b with
    | nil => cases b with
      | nil => rfl
      | cons y m => cases h
    | cons x l ih => cases b with
      | nil => cases h
      | cons y m =>
        rw [cmpB] at h
        by_cases hxy : x = y
        · rw [if_pos hxy] at h
          rw [hxy, ih m h]
        · rw [if_neg hxy] at h
          split at h <;> cases h
  · rintro rfl
    have := cmpB_anti a a
    omega
theorem sameL_drop {a b : List Api_Value} {k : Nat} (ha : k < a.length) (hb : k < b.length) : sameL (a.drop k) (b.drop k) = (sameV (nth a k) (nth b k) && sameL (a.drop (k + 1)) (b.drop (k + 1))) := by
  rw [List.drop_eq_getElem_cons ha, List.drop_eq_getElem_cons hb, nth_lt ha, nth_lt hb, sameL]

theorem sameR_n : ∀ (n : Nat) (a b : Api_Value), szV a < n → szV a ≤ 1099511627776 → r01_Same_n n a b = some (sameV a b)
  | 0, a, b, h, _ => absurd h (Nat.not_lt_zero _)
  | n + 1, a, b, h, hs => by
    show r01_Same_F (r01_Same_n n) a b = _
    have hsz := szV_eq a
    have hlen := szVs_len a.L
    have hr : ∀ x ∈ a.L, ∀ y, r01_Same_n n x y = some (sameV x y) := fun x hx y => sameR_n n x y (by have := szVs_mem hx; omega) (by have := szVs_mem hx; omega)
    unfold r01_Same_F
    rw [sameV_eq, orderBytes_eq _ _ (by omega)]
    by_cases h1 : a.Kind = b.Kind
    · by_cases h2 : a.N = b.N
      · by_cases h3 : a.B = b.B
        · by_cases h4 : a.L.length = b.L.length
          · have key : ∃ x, loopO (fun (v : Int) => r01_Same_b1 a b (r01_Same_n n) v) 0 = some x ∧ ((x = .inl () ∧ sameL a.L b.L = true) ∨ (x = .inr (.inr false) ∧ sameL a.L b.L = false)) := by
              refine loopO_rule (f := fun (v : Int) => r01_Same_b1 a b (r01_Same_n n) v) (fun i => ∃ k : Nat, i = (k : Int) ∧ k ≤ a.L.length ∧ sameL a.L b.L = sameL (a.L.drop k) (b.L.drop k)) (fun i => a.L.length - i.toNat) _ ?_ ⟨0, rfl, by simp, rfl⟩ (by omega)
              rintro _ ⟨k, rfl, hka, he⟩
              show _ ∨ _
              unfold r01_Same_b1
              by_cases hk : k < a.L.length
              · have r1 : InR (k : Int) a.L.length := ⟨by omega, by omega⟩
                have r2 : InR (k : Int) b.L.length := ⟨by omega, by omega⟩
                rw [sameL_drop hk (by omega)] at he
                have hrk := hr (nth a.L k) (by rw [nth_lt hk]; exact List.getElem_mem hk) (nth b.L k)
                rw [if_pos (by simp; omega), if_pos r1, if_pos r2, Int.toNat_natCast, hrk]
                cases hx : sameV (nth a.L k) (nth b.L k)
                · right
                  rw [hx] at he
                  exact ⟨_, rfl, .inr ⟨rfl, he⟩⟩
                · left
                  rw [hx] at he
                  refine ⟨_, (e_bindT rfl).trans ?_, ⟨k + 1, rfl, hk, by simpa using he⟩, ?_⟩
                  · rw [if_neg (by simp), e_succ (by omega)]
                  · simp only [Int.toNat_natCast]; omega
              · right
                rw [if_neg (by simp; omega)]
                have : k = a.L.length := by omega
                subst this
                exact ⟨_, rfl, .inl ⟨rfl, by rw [he, List.drop_length, h4, List.drop_length]; rw [sameL]⟩⟩
            obtain ⟨x, hx, hq⟩ := key
            have hc : (if (a.Kind != b.Kind) = true then some true else if (a.N != b.N) = true then some true else (some (cmpB a.B b.B)).bind fun y => if (y != 0) = true then some true else some ((a.L.length : Int) != (b.L.length : Int)) : Option Bool) = some false := by
              rw [if_neg (by simp [h1]), if_neg (by simp [h2])]
              refine (e_bindT rfl).trans ?_
              rw [if_neg (by simp [(cmpB_zero _ _).2 h3]), h4]
              simp
            refine (e_bindT hc).trans ?_
            rw [if_neg (by simp)]
            have e1 : (a.Kind == b.Kind && a.N == b.N && a.B == b.B) = true := by simp [h1, h2, h3]
            rw [e1, Bool.true_and]
            rcases hq with ⟨rfl, e⟩ | ⟨rfl, e⟩
            · rw [hx, e]; rfl
            · rw [hx, e]; rfl
          · have hc : (if (a.Kind != b.Kind) = true then some true else if (a.N != b.N) = true then some true else (some (cmpB a.B b.B)).bind fun y => if (y != 0) = true then some true else some ((a.L.length : Int) != (b.L.length : Int)) : Option Bool) = some true := by
              rw [if_neg (by simp [h1]), if_neg (by simp [h2])]
              refine (e_bindT rfl).trans ?_
              rw [if_neg (by simp [(cmpB_zero _ _).2 h3])]
              simp; omega
            refine (e_bindT hc).trans ?_
            rw [if_pos rfl]
            have : sameL a.L b.L = false := by
              cases hh : sameL a.L b.L
              · rfl
              · exact (h4 (by rw [(sameL_iff _ _).1 hh])).elim
            simp [this]
        · have hc : (if (a.Kind != b.Kind) = true then some true else if (a.N != b.N) = true then some true else (some (cmpB a.B b.B)).bind fun y => if (y != 0) = true then some true else some ((a.L.length : Int) != (b.L.length : Int)) : Option Bool) = some true := by
            rw [if_neg (by simp [h1]), if_neg (by simp [h2])]
            refine (e_bindT rfl).trans ?_
            rw [if_pos (by simpa using fun e => h3 ((cmpB_zero _ _).1 e))]
          refine (e_bindT hc).trans ?_
          simp [h3]
      · refine (e_bindT (a := true) ?_).trans ?_
        · rw [if_neg (by simp [h1]), if_pos (by simpa using h2)]
        · simp [h2]
    · refine (e_bindT (a := true) ?_).trans ?_
      · rw [if_pos (by simpa using h1)]
      · simp [h1]
theorem sameR_eq (a b : Api_Value) (h : szV a ≤ 100000000000) : r01_Same a b = some (sameV a b) := sameR_n _ a b (by omega) (by omega)
theorem sameV_self (a : Api_Value) : sameV a a = true := (sameV_iff a a).2 rfl
end Go.Proofs.Ytihncddenjbecaa
/-
  What a decoder reads: a relation, and its laws.
-/
namespace Go.Proofs.Ytihncddenjbecaa
open Go.Rv
set_option linter.unusedVariables false
set_option linter.unusedSimpArgs false

abbrev DRes := (Api_Value × List UInt8) ⊕ Int
def vInt (n : Int) : Api_Value := .mk 1 n [] []
def vText (b : List UInt8) : Api_Value := .mk 2 0 b []
def vList (l : List Api_Value) : Api_Value := .mk 3 0 [] l
def vZero : Api_Value := .mk 0 0 [] []

def rdT : List UInt8 → List UInt8 → DRes
  | acc, [] => .inr 5
  | acc, [c] => .inr 5
  | acc, c :: d :: b => if c ≠ 0 then rdT (acc ++ [c]) (d :: b) else if d = 0 then .inl (vText acc, b) else if d = 255 then rdT (acc ++ [0]) b else .inr 4

def rdN (k : Nat) (fl : Bool) : Nat → Nat → List UInt8 → (Nat × List UInt8) ⊕ Int
  | 0, u, b => .inl (u, b)
  | m + 1, u, [] => .inr 5
  | m + 1, u, c :: b => if k = m + 1 ∧ ((if fl then ~~~c else c) = 0 ∨ (k = 8 ∧ (if fl then ~~~c else c) > 127)) then .inr 4 else rdN k fl m (u * 256 + (if fl then ~~~c else c).toNat) b

def isInt (t : UInt8) : Prop := 23 ≤ t.toNat ∧ t.toNat ≤ 40
def kOf (t : UInt8) : Nat := if t.toNat < 32 then 31 - t.toNat else t.toNat - 32
def negOf (t : UInt8) : Bool := decide (t.toNat < 32)
def rdI (t : UInt8) (b : List UInt8) : DRes := match rdN (kOf t) (negOf t) (kOf t) 0 b with
  | .inl (u, r) => .inl (vInt (if negOf t = true then -(u : Int) - 1 else (u : Int)), r)
  | .inr e => .inr e

inductive Rd : UInt8 ⊕ List Api_Value → List UInt8 → DRes → Prop
  | int (t b) (h : isInt t) : Rd (.inl t) b (rdI t b)
  | text (b) : Rd (.inl 48) b (rdT [] b)
  | lst (b o) (h : Rd (.inr []) b o) : Rd (.inl 64) b o
  | bad (t b) (h : ¬ isInt t) (h1 : t ≠ 48) (h2 : t ≠ 64) : Rd (.inl t) b (.inr 4)
  | lend (acc) : Rd (.inr acc) [] (.inr 5)
  | lfin (acc b) : Rd (.inr acc) (0 :: b) (.inl (vList acc, b))
  | lerr (acc c b e) (hc : c ≠ 0) (h : Rd (.inl c) b (.inr e)) : Rd (.inr acc) (c :: b) (.inr e)
  | lstep (acc c b v b' o) (hc : c ≠ 0) (h : Rd (.inl c) b (.inl (v, b'))) (h2 : Rd (.inr (acc ++ [v])) b' o) : Rd (.inr acc) (c :: b) o

theorem rd_det {s : UInt8 ⊕ List Api_Value} {b : List UInt8} {o : DRes} (h : Rd s b o) : ∀ {o' : DRes}, Rd s b o' → o = o' := by
  induction h with
  | int t b h =>
    intro o' h'
    cases h' with
    | int => rfl
    | text => exact absurd h.2 (by decide)
    | lst => exact absurd h.2 (by decide)
    | bad _ _ h1 => exact (h1 h).elim
  | text b =>
    intro o' h'
    cases h' with
    | int _ _ h => exact absurd h.2 (by decide)
    | text => rfl
    | bad _ _ _ h1 => exact (h1 rfl).elim
  | lst b o h ih =>
    intro o' h'
    cases h' with
    | int _ _ h => exact absurd h.2 (by decide)
    | lst _ _ h2 => exact ih h2
    | bad _ _ _ _ h2 => exact (h2 rfl).elim
  | bad t b h h1 h2 =>
    intro o' h'
    cases h' with
    | int _ _ h' => exact (h h').elim
    | text => exact (h1 rfl).elim
    | lst => exact (h2 rfl).elim
    | bad => rfl
  | lend acc => intro o' h'; cases h'; rfl
  | lfin acc b =>
    intro o' h'
    cases h' with
    | lfin => rfl
    | lerr _ _ _ _ hc => exact (hc rfl).elim
    | lstep _ _ _ _ _ _ hc => exact (hc rfl).elim
  | lerr acc c b e hc h ih =>
    intro o' h'
    cases h' with
    | lfin => exact (hc rfl).elim
    | lerr _ _ _ _ _ h2 => exact congrArg _ (Sum.inr.inj (ih h2))
    | lstep _ _ _ _ _ _ _ h2 => cases ih h2
  | lstep acc c b v b' o hc h h2 ih ih2 =>
    intro o' h'
    cases h' with
    | lfin => exact (hc rfl).elim
    | lerr _ _ _ _ _ h3 => cases ih h3
    | lstep _ _ _ _ _ _ _ h3 h4 => cases ih h3; exact ih2 h4

/-! ### Byte strings -/
theorem rdT_cons {acc : List UInt8} {c : UInt8} {b : List UInt8} (hc : c ≠ 0) : rdT acc (c :: b) = rdT (acc ++ [c]) b := by
  cases b with
  | nil => simp [rdT]
  | cons d b => rw [rdT, if_pos hc]
theorem rdT_esc : ∀ (a acc r : List UInt8), rdT acc (escB a ++ 0 :: 0 :: r) = .inl (vText (acc ++ a), r)
  | [], acc, r => by simp [escB, rdT]
  | c :: a, acc, r => by
    by_cases hc : c = 0
    · subst hc
      rw [escB, if_pos rfl]
      show rdT acc (0 :: 255 :: (escB a ++ 0 :: 0 :: r)) = _
      rw [rdT, if_neg (by simp), if_neg (by decide), if_pos rfl, rdT_esc a (acc ++ [0]) r]
      simp
    · rw [escB, if_neg hc]
      show rdT acc (c :: (escB a ++ 0 :: 0 :: r)) = _
      rw [rdT_cons hc, rdT_esc a (acc ++ [c]) r]
      simp
theorem rdT_inv : ∀ (acc b : List UInt8) {v : Api_Value} {r : List UInt8}, rdT acc b = .inl (v, r) → ∃ a, v = vText (acc ++ a) ∧ b = escB a ++ 0 :: 0 :: r
  | acc, [], v, r, h => by simp [rdT] at h
  | acc, [c], v, r, h => by simp [rdT] at h
  | acc, c :: d :: b, v, r, h => by
    rw [rdT] at h
    by_cases hc : c = 0
    · rw [if_neg (by simp [hc])] at h
      by_cases hd : d = 0
      · rw [if_pos hd] at h
        cases h
        exact ⟨[], by simp, by simp [escB, hc, hd]⟩
      · rw [if_neg hd] at h
        by_cases hd2 : d = 255
        · rw [if_pos hd2] at h
          obtain ⟨a, e1, e2⟩ := rdT_inv _ b h
          exact ⟨0 :: a, by rw [e1]; simp, by simp [escB, hc, hd2, e2]⟩
        · rw [if_neg hd2] at h; cases h
    · rw [if_pos hc] at h
      obtain ⟨a, e1, e2⟩ := rdT_inv _ (d :: b) h
      exact ⟨c :: a, by rw [e1]; simp, by simp [escB, hc, e2]⟩
theorem rdT_pre : ∀ (a acc p : List UInt8), p.length < (escB a).length + 2 → p <+: escB a ++ [0, 0] → rdT acc p = .inr 5
  | a, acc, [], _, _ => by simp [rdT]
  | a, acc, [c], _, _ => by simp [rdT]
  | [], acc, c :: d :: p, hl, _ => by
    simp only [escB, List.length_cons, List.length_nil] at hl
    omega
  | x :: a, acc, c :: d :: p, hl, hp => by
    by_cases hx : x = 0
    · subst hx
      rw [escB, if_pos rfl] at hl hp
      simp only [List.cons_append, List.cons_prefix_cons] at hp
      obtain ⟨rfl, rfl, hp⟩ := hp
      rw [rdT, if_neg (by simp), if_neg (by decide), if_pos rfl]
      exact rdT_pre a _ p (by simp at hl; omega) hp
    · rw [escB, if_neg hx] at hl hp
      simp only [List.cons_append, List.cons_prefix_cons] at hp
      obtain ⟨rfl, hp⟩ := hp
      rw [rdT, if_pos hx]
      exact rdT_pre a _ (d :: p) (by simp at hl ⊢; omega) hp

/-! ### Integers -/
def fl8 (fl : Bool) (c : UInt8) : UInt8 := if fl then ~~~c else c
theorem fl8_fl8 (fl : Bool) (c : UInt8) : fl8 fl (fl8 fl c) = c := by cases fl <;> simp [fl8]
theorem rdN_cons {k : Nat} {fl : Bool} {m u : Nat} {c : UInt8} {b : List UInt8} : rdN k fl (m + 1) u (c :: b) = if k = m + 1 ∧ (fl8 fl c = 0 ∨ (k = 8 ∧ fl8 fl c > 127)) then .inr 4 else rdN k fl m (u * 256 + (fl8 fl c).toNat) b := rfl
theorem valF (u : Nat) : ∀ d : List UInt8, d.foldl (fun a c => a * 256 + c.toNat) u = u * 256 ^ d.length + valD d := by
  intro d
  refine revInd (p := fun d => d.foldl (fun a c => a * 256 + c.toNat) u = u * 256 ^ d.length + valD d) (by simp [valD]) (fun l c ih => ?_) d
  rw [List.foldl_append, List.foldl_cons, List.foldl_nil, ih, valD_app, List.length_append, List.length_singleton, Nat.pow_succ]
  have : u * (256 ^ l.length * 256) = u * 256 ^ l.length * 256 := by rw [Nat.mul_assoc]
  omega
/-- The digits read. -/
theorem rdN_run {k : Nat} {fl : Bool} : ∀ (d : List UInt8) (u : Nat) (r : List UInt8), (d.length = k → ∀ c t, d = c :: t → ¬ (c = 0 ∨ (k = 8 ∧ c > 127))) → d.length ≤ k →
    rdN k fl d.length u (d.map (fl8 fl) ++ r) = .inl (d.foldl (fun a c => a * 256 + c.toNat) u, r)
  | [], u, r, _, _ => rfl
  | c :: d, u, r, h, hk => by
    show rdN k fl (d.length + 1) u (fl8 fl c :: (d.map (fl8 fl) ++ r)) = _
    rw [rdN_cons, fl8_fl8, if_neg (fun hh => h (by simpa using hh.1.symm) c d rfl hh.2), rdN_run d _ r (fun e => by simp at hk; omega) (by simp at hk; omega)]
    rfl
theorem rdN_inv {k : Nat} {fl : Bool} : ∀ (m u : Nat) (b : List UInt8) {x : Nat} {r : List UInt8}, rdN k fl m u b = .inl (x, r) →
    ∃ d : List UInt8, d.length = m ∧ b = d.map (fl8 fl) ++ r ∧ x = d.foldl (fun a c => a * 256 + c.toNat) u ∧ (k = m → ∀ c t, d = c :: t → ¬ (c = 0 ∨ (k = 8 ∧ c > 127)))
  | 0, u, b, x, r, h => by
    cases h
    exact ⟨[], rfl, rfl, rfl, fun _ c t e => by cases e⟩
  | m + 1, u, [], x, r, h => by cases h
  | m + 1, u, c :: b, x, r, h => by
    rw [rdN_cons] at h
    split at h
    · cases h
    · rename_i hc
      obtain ⟨d, e1, e2, e3, e4⟩ := rdN_inv m _ b h
      refine ⟨fl8 fl c :: d, by simp [e1], by simp [e2, fl8_fl8], by simp [e3], fun hk c' t e => ?_⟩
      cases e
      exact fun hh => hc ⟨hk, hh⟩
theorem rdN_pre {k : Nat} {fl : Bool} : ∀ (d : List UInt8) (u : Nat) (p : List UInt8), (d.length = k → ∀ c t, d = c :: t → ¬ (c = 0 ∨ (k = 8 ∧ c > 127))) → d.length ≤ k → p.length < d.length → p <+: d.map (fl8 fl) → rdN k fl d.length u p = .inr 5
  | [], u, p, _, _, hl, _ => by simp at hl
  | c :: d, u, [], _, _, _, _ => rfl
  | c :: d, u, x :: p, h, hk, hl, hp => by
    simp only [List.map_cons, List.cons_prefix_cons] at hp
    obtain ⟨rfl, hp⟩ := hp
    show rdN k fl (d.length + 1) u (fl8 fl c :: p) = _
    rw [rdN_cons, fl8_fl8, if_neg (fun hh => h (by simpa using hh.1.symm) c d rfl hh.2)]
    exact rdN_pre d _ p (fun e => by simp at hk; omega) (by simp at hk; omega) (by simpa using hl) hp
end Go.Proofs.Ytihncddenjbecaa
/-
  The decoder's relation and the encoder: round trip, canonical form, prefixes.
-/
namespace Go.Proofs.Ytihncddenjbecaa
open Go.Rv
set_option linter.unusedVariables false
set_option linter.unusedSimpArgs false

/-! ### Integers -/
theorem tag_nat {n : Int} (h : rangeI n) : (tagI n).toNat = if n < 0 then 31 - nb (magI n) else 32 + nb (magI n) := by
  have h8 := nb_le (magI n)
  rw [tagI_eq h]
  by_cases hn : n < 0
  · rw [if_pos hn, if_pos hn, UInt8.ofInt, UInt8.toNat_ofNat']; omega
  · rw [if_neg hn, if_neg hn, UInt8.ofInt, UInt8.toNat_ofNat']; omega
theorem tag_int {n : Int} (h : rangeI n) : isInt (tagI n) ∧ kOf (tagI n) = nb (magI n) ∧ negOf (tagI n) = decide (n < 0) := by
  have h8 := nb_le (magI n)
  have ht := tag_nat h
  unfold isInt kOf negOf
  by_cases hn : n < 0
  · rw [if_pos hn] at ht
    rw [ht]
    refine ⟨by omega, ?_, ?_⟩
    · rw [if_pos (by omega)]; omega
    · simp [hn]; omega
  · rw [if_neg hn] at ht
    rw [ht]
    refine ⟨by omega, ?_, ?_⟩
    · rw [if_neg (by omega)]; omega
    · simp [hn]
theorem magI_back {n : Int} : (if n < 0 then -((magI n : Nat) : Int) - 1 else ((magI n : Nat) : Int)) = n := by
  unfold magI
  by_cases hn : n < 0
  · rw [if_pos hn, if_pos hn]; omega
  · rw [if_neg hn, if_neg hn]; omega
theorem flip_fl (n : Int) : flip8 n = fl8 (decide (n < 0)) := by
  funext c
  unfold flip8 fl8
  by_cases hn : n < 0 <;> simp [hn]

/-- The first digit of a number of so many digits is not 0, and below 128 if there are eight. -/
theorem dig_head {u : Nat} (hu : u < 9223372036854775808) {c : UInt8} {t : List UInt8} (h : dig (nb u) u = c :: t) : ¬ (c = 0 ∨ (nb u = 8 ∧ c > 127)) := by
  have hu8 : u < 256 ^ 8 := Nat.lt_trans hu (by decide)
  have hl := dig_len (nb u) u
  rw [h, List.length_cons] at hl
  have hv := valD_dig (nb u) u (nb_lt u hu8)
  rw [h] at hv
  have e : valD (c :: t) = c.toNat * 256 ^ t.length + valD t := by
    unfold valD
    rw [List.foldl_cons, valF]
    simp [valD]
  rw [e] at hv
  have hvt := valD_lt t
  have h0 : u ≠ 0 := fun e => by rw [e, nb_zero] at hl; omega
  have hge := nb_ge u hu8 h0
  rw [show nb u - 1 = t.length by omega] at hge
  rintro (rfl | ⟨h8, hc⟩)
  · simp at hv; omega
  · rw [h8] at hl
    have ht : t.length = 7 := by omega
    rw [ht] at hv
    have : c.toNat > 127 := by rw [gt_iff_lt, UInt8.lt_iff_toNat_lt] at hc; exact hc
    have h7 : (256 : Nat) ^ 7 = 72057594037927936 := by decide
    rw [h7] at hv
    omega

theorem rdI_enc {n : Int} (h : rangeI n) (r : List UInt8) : rdI (tagI n) ((dig (nb (magI n)) (magI n)).map (flip8 n) ++ r) = .inl (vInt n, r) := by
  obtain ⟨_, hk, hn⟩ := tag_int h
  have hm := magI_lt h
  unfold rdI
  rw [hk, hn, flip_fl]
  have := rdN_run (k := nb (magI n)) (fl := decide (n < 0)) (dig (nb (magI n)) (magI n)) 0 r (fun _ c t e => dig_head hm e) (by rw [dig_len]; exact Nat.le_refl _)
  rw [dig_len] at this
  rw [this]
  simp only
  rw [valF, Nat.zero_mul, Nat.zero_add, valD_dig _ _ (nb_lt _ (Nat.lt_trans hm (by decide)))]
  have hb := magI_back (n := n)
  by_cases hn0 : n < 0
  · rw [if_pos hn0] at hb; simp [hn0, hb]
  · rw [if_neg hn0] at hb; simp [hn0, hb]

theorem rdI_pre {n : Int} (h : rangeI n) {p : List UInt8} (hl : p.length < nb (magI n)) (hp : p <+: (dig (nb (magI n)) (magI n)).map (flip8 n)) : rdI (tagI n) p = .inr 5 := by
  obtain ⟨_, hk, hn⟩ := tag_int h
  have hm := magI_lt h
  unfold rdI
  rw [hk, hn]
  rw [flip_fl] at hp
  have := rdN_pre (k := nb (magI n)) (fl := decide (n < 0)) (dig (nb (magI n)) (magI n)) 0 p (fun _ c t e => dig_head hm e) (by rw [dig_len]; exact Nat.le_refl _) (by rw [dig_len]; exact hl) hp
  rw [dig_len] at this
  rw [this]

theorem nb_val {d : List UInt8} (hd : d.length ≤ 8) (h0 : ∀ c t, d = c :: t → c ≠ 0) : nb (valD d) = d.length := by
  have hlt := valD_lt d
  have h8 : valD d < 256 ^ 8 := Nat.lt_of_lt_of_le hlt (Nat.pow_le_pow_right (by decide) hd)
  cases d with
  | nil => rfl
  | cons c t =>
    have hc := h0 c t rfl
    have hc' : c.toNat ≠ 0 := fun e => hc (UInt8.toNat_inj.1 (by rw [e]; rfl))
    have e : valD (c :: t) = c.toNat * 256 ^ t.length + valD t := by
      show List.foldl _ _ _ = _
      rw [List.foldl_cons, valF]
      simp [valD]
    have hge : 256 ^ t.length ≤ valD (c :: t) := by
      rw [e]
      have : 1 * 256 ^ t.length ≤ c.toNat * 256 ^ t.length := Nat.mul_le_mul_right _ (by omega)
      omega
    have h1 := nb_lt _ h8
    have hnz : valD (c :: t) ≠ 0 := by
      have : 0 < 256 ^ t.length := Nat.pow_pos (by decide)
      omega
    have h2 := nb_ge _ h8 hnz
    rw [List.length_cons] at hlt ⊢
    have a1 : t.length < nb (valD (c :: t)) := (Nat.pow_lt_pow_iff_right (by decide : 1 < 256)).1 (Nat.lt_of_le_of_lt hge h1)
    have a2 : nb (valD (c :: t)) - 1 < t.length + 1 := (Nat.pow_lt_pow_iff_right (by decide : 1 < 256)).1 (Nat.lt_of_le_of_lt h2 hlt)
    omega

theorem rdI_inv {t : UInt8} {b r : List UInt8} {v : Api_Value} (ht : isInt t) (h : rdI t b = .inl (v, r)) : ∃ n, rangeI n ∧ v = vInt n ∧ t :: b = encI n ++ r := by
  unfold rdI at h
  have hk : kOf t ≤ 8 := by unfold kOf; obtain ⟨h1, h2⟩ := ht; split <;> omega
  split at h
  case h_2 => cases h
  rename_i u r' hr
  cases h
  obtain ⟨d, hd, hb, hu, hc⟩ := rdN_inv _ _ _ hr
  rw [valF, Nat.zero_mul, Nat.zero_add] at hu
  have hcc := hc rfl
  have hnb : nb (valD d) = d.length := nb_val (by omega) (fun c t e => fun e0 => hcc c t e (.inl e0))
  have hlt := valD_lt d
  have hlt63 : valD d < 9223372036854775808 := by
    rcases Nat.lt_or_ge d.length 8 with h7 | h8
    · have : (256 : Nat) ^ d.length ≤ 256 ^ 7 := Nat.pow_le_pow_right (by decide) (by omega)
      have h7' : (256 : Nat) ^ 7 = 72057594037927936 := by decide
      omega
    · cases d with
      | nil => simp at h8
      | cons c t =>
        have h3 := hcc c t rfl
        have hl : t.length = 7 := by simp at hd h8; omega
        have hcv : ¬ c > 127 := fun hh => h3 (.inr ⟨by simp at hd; omega, hh⟩)
        have hcn : c.toNat ≤ 127 := by
          rw [gt_iff_lt, UInt8.lt_iff_toNat_lt] at hcv
          have : (127 : UInt8).toNat = 127 := rfl
          omega
        have e : valD (c :: t) = c.toNat * 256 ^ t.length + valD t := by
          show List.foldl _ _ _ = _
          rw [List.foldl_cons, valF]
          simp [valD]
        have hvt := valD_lt t
        have h7' : (256 : Nat) ^ 7 = 72057594037927936 := by decide
        rw [hl, h7'] at hvt
        rw [e, hl, h7']
        omega
  subst hu
  have hdd := dig_valD d
  rw [← hnb] at hdd
  by_cases hneg : negOf t = true
  · rw [if_pos hneg] at *
    have h32 : t.toNat < 32 := by simpa [negOf] using hneg
    refine ⟨-(valD d : Int) - 1, ⟨by omega, by omega⟩, rfl, ?_⟩
    have hm : magI (-(valD d : Int) - 1) = valD d := by unfold magI; rw [if_pos (by omega)]; omega
    rw [encI_eq ⟨by omega, by omega⟩, hm, hdd, hb, flip_fl, hneg, List.cons_append]
    have e1 : decide (-(valD d : Int) - 1 < 0) = true := by simp; omega
    rw [e1]
    congr 1
    apply UInt8.toNat_inj.1
    rw [tag_nat ⟨by omega, by omega⟩, if_pos (by omega), hm, hnb, hd]
    unfold kOf
    rw [if_pos h32]
    obtain ⟨q1, q2⟩ := ht
    omega
  · have hneg' : negOf t = false := by simpa using hneg
    rw [if_neg hneg] at *
    have h32 : ¬ t.toNat < 32 := by simpa [negOf] using hneg
    refine ⟨(valD d : Int), ⟨by omega, by omega⟩, rfl, ?_⟩
    have hm : magI (valD d : Int) = valD d := by unfold magI; rw [if_neg (by omega)]; omega
    rw [encI_eq ⟨by omega, by omega⟩, hm, hdd, hb, flip_fl, hneg', List.cons_append]
    have e1 : decide ((valD d : Int) < 0) = false := by simp
    rw [e1]
    congr 1
    apply UInt8.toNat_inj.1
    rw [tag_nat ⟨by omega, by omega⟩, if_neg (by omega), hm, hnb, hd]
    unfold kOf
    rw [if_neg h32]
    obtain ⟨q1, q2⟩ := ht
    omega

/-! ### Values -/
def wfV (v : Api_Value) : Prop := (shpV v).2 = true
theorem wf_list {l : List Api_Value} : wfV (vList l) ↔ ∀ x ∈ l, wfV x := by
  unfold wfV vList
  rw [shpV_eq]
  show ((if (3 : Int) = 1 then _ else if (3 : Int) = 2 then _ else if (3 : Int) = 3 then (if (0 : Int) = 0 ∧ ([] : List UInt8).length = 0 then shpL 0 l else (0, false)) else (0, false) : Int × Bool).2 = true) ↔ _
  rw [if_neg (by decide), if_neg (by decide), if_pos rfl, if_pos ⟨rfl, rfl⟩, shpL_all, List.all_eq_true]
theorem wf_cases {v : Api_Value} (h : wfV v) : v = vInt v.N ∨ v = vText v.B ∨ (v = vList v.L ∧ ∀ x ∈ v.L, wfV x) := by
  unfold wfV at h
  rw [shpV_eq] at h
  cases v with
  | mk k n b l =>
    change (if k = 1 then ((0 : Int), b.length == 0 && l.length == 0) else if k = 2 then (0, n == 0 && l.length == 0) else if k = 3 then (if n = 0 ∧ b.length = 0 then shpL 0 l else (0, false)) else (0, false)).2 = true at h
    by_cases h1 : k = 1
    · rw [if_pos h1] at h
      simp at h
      left; rw [h1, h.1, h.2]; rfl
    · rw [if_neg h1] at h
      by_cases h2 : k = 2
      · rw [if_pos h2] at h
        simp at h
        right; left; rw [h2, h.1, h.2]; rfl
      · rw [if_neg h2] at h
        by_cases h3 : k = 3
        · rw [if_pos h3] at h
          by_cases hc : n = 0 ∧ b.length = 0
          · rw [if_pos hc, shpL_all, List.all_eq_true] at h
            right; right
            have hb : b = [] := List.length_eq_zero_iff.1 hc.2
            subst h3
            obtain ⟨rfl, _⟩ := hc
            subst hb
            exact ⟨rfl, h⟩
          · rw [if_neg hc] at h; cases h
        · rw [if_neg h3] at h; cases h
theorem wf_int (n : Int) : wfV (vInt n) := by unfold wfV vInt; rw [shpV_eq]; rfl
theorem wf_text (b : List UInt8) : wfV (vText b) := by unfold wfV vText; rw [shpV_eq]; rfl
theorem enc_int (n : Int) : encV (vInt n) = encI n := by rw [encV_eq]; rfl
theorem enc_text (b : List UInt8) : encV (vText b) = 48 :: (escB b ++ [0, 0]) := by rw [encV_eq]; rfl
theorem enc_list (l : List Api_Value) : encV (vList l) = 64 :: (encL l ++ [0]) := by rw [encV_eq]; rfl
theorem ok_list {l : List Api_Value} (h : okV (vList l)) : ∀ x ∈ l, okV x := ((okV_eq _).1 h).2.2
theorem rng (n : Nat) (h : n ≤ 10) : rangeI (n : Int) := ⟨by omega, by omega⟩
theorem ok_listI {l : List Api_Value} (h : ∀ x ∈ l, okV x) : okV (vList l) := (okV_eq _).2 ⟨rng 3 (by decide), rng 0 (by decide), h⟩
theorem ok_intI {n : Int} (h : rangeI n) : okV (vInt n) := (okV_eq _).2 ⟨rng 1 (by decide), h, fun x hx => by cases hx⟩
theorem ok_textI (b : List UInt8) : okV (vText b) := (okV_eq _).2 ⟨rng 2 (by decide), rng 0 (by decide), fun x hx => by cases hx⟩
theorem ok_int {n : Int} (h : okV (vInt n)) : rangeI n := ((okV_eq _).1 h).2.1

/-- The encoding's first byte, and the rest; the decoder reads it whole, and no proper beginning of it. -/
def Good (v : Api_Value) : Prop := ∃ t tl, encV v = t :: tl ∧ t ≠ 0 ∧ (∀ r, Rd (.inl t) (tl ++ r) (.inl (v, r))) ∧ ∀ p, p.length < tl.length → p <+: tl → Rd (.inl t) p (.inr 5)

theorem good_int {n : Int} (h : rangeI n) : Good (vInt n) := by
  obtain ⟨hi, _, _⟩ := tag_int h
  refine ⟨tagI n, (dig (nb (magI n)) (magI n)).map (flip8 n), by rw [enc_int, encI_eq h], ?_, fun r => ?_, fun p hl hp => ?_⟩
  · intro e
    rw [e] at hi
    exact absurd hi.1 (by decide)
  · have := Rd.int (tagI n) ((dig (nb (magI n)) (magI n)).map (flip8 n) ++ r) hi
    rwa [rdI_enc h r] at this
  · have := Rd.int (tagI n) p hi
    rwa [rdI_pre h (by simpa [dig_len] using hl) hp] at this
theorem good_text (b : List UInt8) : Good (vText b) := by
  refine ⟨48, escB b ++ [0, 0], enc_text b, by decide, fun r => ?_, fun p hl hp => ?_⟩
  · have := Rd.text ((escB b ++ [0, 0]) ++ r)
    have e := rdT_esc b [] r
    have e2 : (escB b ++ [0, 0]) ++ r = escB b ++ 0 :: 0 :: r := by simp
    rw [e2] at this ⊢
    rw [e] at this
    exact this
  · have := Rd.text p
    rwa [rdT_pre b [] p (by simpa using hl) hp] at this
theorem good_elems : ∀ (l : List Api_Value), (∀ x ∈ l, Good x) → (∀ acc r, Rd (.inr acc) (encL l ++ 0 :: r) (.inl (vList (acc ++ l), r))) ∧
    ∀ acc p, p.length < (encL l).length + 1 → p <+: encL l ++ [0] → Rd (.inr acc) p (.inr 5)
  | [], _ => ⟨fun acc r => by simpa [encL] using Rd.lfin acc r, fun acc p hl hp => by
      have : p = [] := List.length_eq_zero_iff.1 (by simp [encL] at hl; exact hl ▸ rfl)
      subst this
      exact Rd.lend acc⟩
  | x :: l, h => by
    obtain ⟨h1, h2⟩ := good_elems l (fun y hy => h y (List.mem_cons_of_mem _ hy))
    obtain ⟨t, tl, e, ht, g1, g2⟩ := h x List.mem_cons_self
    constructor
    · intro acc r
      have e2 : encL (x :: l) ++ 0 :: r = t :: (tl ++ (encL l ++ 0 :: r)) := by rw [encL, e]; simp
      rw [e2]
      refine Rd.lstep acc t _ x _ _ ht (g1 _) ?_
      have := h1 (acc ++ [x]) r
      simpa using this
    · intro acc p hl hp
      cases p with
      | nil => exact Rd.lend acc
      | cons c p =>
        have e2 : encL (x :: l) ++ [0] = t :: (tl ++ (encL l ++ [0])) := by rw [encL, e]; simp
        rw [e2, List.cons_prefix_cons] at hp
        obtain ⟨rfl, hp⟩ := hp
        have hl2 : p.length < tl.length + (encL l).length + 1 := by
          rw [encL, e] at hl
          simp at hl; omega
        by_cases hlt : p.length < tl.length
        · refine Rd.lerr acc c p 5 ht (g2 p hlt ?_)
          exact List.prefix_of_prefix_length_le hp (List.prefix_append _ _) (by omega)
        · have htp : tl <+: p := List.prefix_of_prefix_length_le (List.prefix_append _ _) hp (by omega)
          obtain ⟨q, rfl⟩ := htp
          have hq : q <+: encL l ++ [0] := (List.prefix_append_right_inj tl).1 hp
          refine Rd.lstep acc c _ x q _ ht (g1 q) ?_
          exact h2 _ q (by simp at hl2; omega) hq
theorem good_list {l : List Api_Value} (h : ∀ x ∈ l, Good x) : Good (vList l) := by
  obtain ⟨h1, h2⟩ := good_elems l h
  refine ⟨64, encL l ++ [0], enc_list l, by decide, fun r => ?_, fun p hl hp => ?_⟩
  · refine Rd.lst _ _ ?_
    have := h1 [] r
    simpa using this
  · exact Rd.lst _ _ (h2 [] p (by simpa using hl) hp)

mutual
theorem good_wf : ∀ v : Api_Value, wfV v → okV v → Good v
  | .mk k n b l => by
    intro h ok
    rcases wf_cases h with e | e | ⟨e, hl⟩
    · rw [e] at ok ⊢
      exact good_int (ok_int ok)
    · rw [e]
      exact good_text _
    · rw [e] at ok ⊢
      exact good_list (good_wfs l hl (ok_list ok))
theorem good_wfs : ∀ l : List Api_Value, (∀ x ∈ l, wfV x) → (∀ x ∈ l, okV x) → ∀ x ∈ l, Good x
  | [] => fun _ _ x hx => by cases hx
  | y :: l => fun h ok x hx => by
    rcases List.mem_cons.1 hx with hx | hx
    · rw [hx]
      exact good_wf y (h y List.mem_cons_self) (ok y List.mem_cons_self)
    · exact good_wfs l (fun z hz => h z (List.mem_cons_of_mem _ hz)) (fun z hz => ok z (List.mem_cons_of_mem _ hz)) x hx
end

/-- What is read is well-formed, and is encoded so. -/
def InvR : UInt8 ⊕ List Api_Value → List UInt8 → DRes → Prop
  | .inl t, b, .inl (v, r) => wfV v ∧ okV v ∧ t :: b = encV v ++ r
  | .inr acc, b, .inl (v, r) => ∃ l, v = vList (acc ++ l) ∧ (∀ x ∈ l, wfV x ∧ okV x) ∧ b = encL l ++ 0 :: r
  | _, _, .inr e => e = 4 ∨ e = 5
theorem rdN_err {k : Nat} {fl : Bool} : ∀ (m u : Nat) (b : List UInt8) {e : Int}, rdN k fl m u b = .inr e → e = 4 ∨ e = 5
  | 0, u, b, e, h => by cases h
  | m + 1, u, [], e, h => by cases h; exact .inr rfl
  | m + 1, u, c :: b, e, h => by
    rw [rdN_cons] at h
    split at h
    · cases h; exact .inl rfl
    · exact rdN_err m _ b h
theorem rdT_err : ∀ (acc b : List UInt8) {e : Int}, rdT acc b = .inr e → e = 4 ∨ e = 5
  | acc, [], e, h => by simp [rdT] at h; exact .inr h.symm
  | acc, [c], e, h => by simp [rdT] at h; exact .inr h.symm
  | acc, c :: d :: b, e, h => by
    rw [rdT] at h
    split at h
    · exact rdT_err _ (d :: b) h
    · split at h
      · cases h
      · split at h
        · exact rdT_err _ b h
        · cases h; exact .inl rfl
theorem rd_inv {s : UInt8 ⊕ List Api_Value} {b : List UInt8} {o : DRes} (h : Rd s b o) : InvR s b o := by
  induction h with
  | int t b h =>
    cases hr : rdI t b with
    | inl x =>
      obtain ⟨v, r⟩ := x
      obtain ⟨n, hn, rfl, e⟩ := rdI_inv h hr
      exact ⟨wf_int n, ok_intI hn, by rw [enc_int]; exact e⟩
    | inr e =>
      unfold rdI at hr
      split at hr
      · cases hr
      · rename_i e' he; cases hr; exact rdN_err _ _ _ he
  | text b =>
    cases hr : rdT [] b with
    | inl x =>
      obtain ⟨v, r⟩ := x
      obtain ⟨a, rfl, e⟩ := rdT_inv _ _ hr
      refine ⟨wf_text _, ok_textI _, ?_⟩
      rw [enc_text, e]; simp
    | inr e => exact rdT_err _ _ hr
  | lst b o h ih =>
    cases o with
    | inl x =>
      obtain ⟨v, r⟩ := x
      obtain ⟨l, rfl, hl, e⟩ := ih
      refine ⟨?_, ?_, ?_⟩
      · exact wf_list.2 (fun x hx => (hl x (by simpa using hx)).1)
      · exact ok_listI (fun x hx => (hl x (by simpa using hx)).2)
      · rw [List.nil_append, enc_list, e]; simp
    | inr e => exact ih
  | bad => exact .inl rfl
  | lend => exact .inr rfl
  | lfin acc b => exact ⟨[], by simp, fun x hx => (by cases hx), by simp [encL]⟩
  | lerr acc c b e hc h ih => exact ih
  | lstep acc c b v b' o hc h h2 ih ih2 =>
    cases o with
    | inl x =>
      obtain ⟨w, r⟩ := x
      obtain ⟨l, rfl, hl, e⟩ := ih2
      obtain ⟨w1, w2, w3⟩ := ih
      refine ⟨v :: l, by simp, fun x hx => ?_, ?_⟩
      · rcases List.mem_cons.1 hx with rfl | hx
        · exact ⟨w1, w2⟩
        · exact hl x hx
      · rw [w3, encL, e]; simp
    | inr e => exact ih2
theorem enc_pos (v : Api_Value) : 0 < (encV v).length := by
  rw [encV_eq]
  split
  · rw [encI_len]; omega
  · split <;> simp
theorem rd_total : ∀ (n : Nat) (s : UInt8 ⊕ List Api_Value) (b : List UInt8), 2 * b.length + (match s with | .inl _ => 1 | .inr _ => 0) < n → ∃ o, Rd s b o
  | 0, s, b, h => absurd h (Nat.not_lt_zero _)
  | n + 1, .inl t, b, h => by
    by_cases hi : isInt t
    · exact ⟨_, Rd.int t b hi⟩
    · by_cases h1 : t = 48
      · subst h1; exact ⟨_, Rd.text b⟩
      · by_cases h2 : t = 64
        · subst h2
          obtain ⟨o, ho⟩ := rd_total n (.inr []) b (by simp at h ⊢; omega)
          exact ⟨o, Rd.lst b o ho⟩
        · exact ⟨_, Rd.bad t b hi h1 h2⟩
  | n + 1, .inr acc, [], h => ⟨_, Rd.lend acc⟩
  | n + 1, .inr acc, c :: b, h => by
    by_cases hc : c = 0
    · subst hc; exact ⟨_, Rd.lfin acc b⟩
    · obtain ⟨o, ho⟩ := rd_total n (.inl c) b (by simp at h ⊢; omega)
      cases o with
      | inr e => exact ⟨_, Rd.lerr acc c b e hc ho⟩
      | inl x =>
        obtain ⟨v, b'⟩ := x
        have hi : c :: b = encV v ++ b' := (rd_inv ho).2.2
        have hl : b.length + 1 = (encV v).length + b'.length := by
          have := congrArg List.length hi
          simpa using this
        have hp := enc_pos v
        obtain ⟨o2, ho2⟩ := rd_total n (.inr (acc ++ [v])) b' (by simp at h ⊢; omega)
        exact ⟨o2, Rd.lstep acc c b v b' o2 hc ho ho2⟩
end Go.Proofs.Ytihncddenjbecaa
/-
  codec's decoder computes what the relation says.
-/
namespace Go.Proofs.Ytihncddenjbecaa
open Go.Rv
set_option linter.unusedVariables false
set_option linter.unusedSimpArgs false

abbrev CR := (Api_Value × Codec_decoder) ⊕ (Int × Codec_decoder)
def oc : DRes → CR → Prop
  | .inl (v, r), x => x = .inl (v, ⟨r⟩)
  | .inr e, x => ∃ d, x = .inr (e, d)

theorem next_nil : codec_decoder_next ⟨[]⟩ = some (.inr (5, ⟨[]⟩)) := rfl
theorem next_cons (c : UInt8) (b : List UInt8) : codec_decoder_next ⟨c :: b⟩ = some (.inl (c, ⟨b⟩)) := by
  unfold codec_decoder_next
  rw [if_neg (by simp; omega), if_pos (show InR 0 (c :: b).length from ⟨by decide, by simp⟩), if_pos (show InB 1 (c :: b).length from ⟨by decide, by simp⟩)]
  simp [lt1, nth]
theorem loopF_go {V X : Type} {f : V → Option (V ⊕ X)} {m : Nat} {v v' : V} (h : f v = some (.inl v')) : loopF f (m + 1) v = loopF f m v' := by
  rw [loopF, h]
theorem loopF_end {V X : Type} {f : V → Option (V ⊕ X)} {m : Nat} {v : V} {x : X} (h : f v = some (.inr x)) : loopF f (m + 1) v = some x := by
  rw [loopF, h]

/-! ### Byte strings -/
theorem text_loop : ∀ (b acc : List UInt8) (m : Nat), b.length < m → b.length + acc.length ≤ 1000000000 → ∃ x, loopF (fun (v : List UInt8 × List UInt8) => codec_decoder_text_b1 v.1 v.2) m (b, acc) = some x ∧ oc (rdT acc b) x
  | b, acc, 0, h, _ => absurd h (Nat.not_lt_zero _)
  | [], acc, m + 1, _, _ => ⟨_, loopF_end (show codec_decoder_text_b1 [] acc = some (.inr (.inr (5, ⟨[]⟩))) from rfl), by simp [rdT, oc]⟩
  | [c], acc, m + 1, h, hs => by
    by_cases hc : c = 0
    · subst hc
      refine ⟨.inr (5, ⟨[]⟩), loopF_end ?_, by simp [rdT, oc]⟩
      show codec_decoder_text_b1 [0] acc = _
      unfold codec_decoder_text_b1
      rw [next_cons]
      refine (e_bindT rfl).trans ?_
      simp only
      rw [if_neg (by decide), next_nil]
      rfl
    · obtain ⟨x, hx, hq⟩ := text_loop [] (acc ++ [c]) m (by simp at h ⊢; omega) (by simp at hs ⊢; omega)
      refine ⟨x, (loopF_go ?_).trans hx, by simpa [rdT] using hq⟩
      show codec_decoder_text_b1 [c] acc = _
      unfold codec_decoder_text_b1
      rw [next_cons]
      refine (e_bindT rfl).trans ?_
      simp only
      rw [if_pos (by simpa using hc), if_pos (fits1 (by simp at hs; omega))]
      rfl
  | c :: d :: b, acc, m + 1, h, hs => by
    by_cases hc : c = 0
    · have e0 : codec_decoder_text_b1 (c :: d :: b) acc = if (d == 0) = true then some (.inr (.inl (vText acc, ⟨b⟩))) else if (d == 255) = true then some (.inl (b, acc ++ [0])) else some (.inr (.inr (4, ⟨b⟩))) := by
        subst hc
        unfold codec_decoder_text_b1
        rw [next_cons]
        refine (e_bindT rfl).trans ?_
        simp only
        rw [if_neg (by decide), next_cons]
        refine (e_bindT rfl).trans ?_
        simp only
        by_cases hd : d = 0
        · have p : (d == 0) = true := by simp [hd]
          rw [if_pos p, if_pos p]; rfl
        · have p : ¬ (d == 0) = true := by simpa using hd
          rw [if_neg p, if_neg p]
          by_cases hd2 : d = 255
          · have q : (d == 255) = true := by simp [hd2]
            rw [if_pos q, if_pos q, if_pos (fits1 (by simp at hs; omega))]; rfl
          · have q : ¬ (d == 255) = true := by simpa using hd2
            rw [if_neg q, if_neg q]; rfl
      rw [rdT, if_neg (by simp [hc])]
      by_cases hd : d = 0
      · rw [if_pos (by simp [hd])] at e0
        rw [if_pos hd]
        exact ⟨_, loopF_end e0, rfl⟩
      · rw [if_neg (by simpa using hd)] at e0
        rw [if_neg hd]
        by_cases hd2 : d = 255
        · rw [if_pos (by simp [hd2])] at e0
          rw [if_pos hd2]
          obtain ⟨x, hx, hq⟩ := text_loop b (acc ++ [0]) m (by simp at h ⊢; omega) (by simp at hs ⊢; omega)
          exact ⟨x, (loopF_go e0).trans hx, hq⟩
        · rw [if_neg (by simpa using hd2)] at e0
          rw [if_neg hd2]
          exact ⟨_, loopF_end e0, ⟨_, rfl⟩⟩
    · rw [rdT, if_pos hc]
      obtain ⟨x, hx, hq⟩ := text_loop (d :: b) (acc ++ [c]) m (by simp at h ⊢; omega) (by simp at hs ⊢; omega)
      refine ⟨x, (loopF_go ?_).trans hx, hq⟩
      show codec_decoder_text_b1 (c :: d :: b) acc = _
      unfold codec_decoder_text_b1
      rw [next_cons]
      refine (e_bindT rfl).trans ?_
      simp only
      rw [if_pos (by simpa using hc), if_pos (fits1 (by simp at hs; omega))]
      rfl

/-! ### Integers -/
def flB (fl : Bool) : UInt8 := if fl then 255 else 0
theorem xor_fl (fl : Bool) (c : UInt8) : c ^^^ flB fl = fl8 fl c := by
  cases fl
  · simp [flB, fl8]
  · unfold flB fl8
    rw [if_pos rfl, if_pos rfl]
    apply UInt8.toBitVec_inj.1
    show c.toBitVec ^^^ BitVec.allOnes 8 = ~~~c.toBitVec
    exact BitVec.xor_allOnes
theorem shl_or (u : UInt64) (x : UInt8) (h : u.toNat < 256 ^ 7) : (shl64 u (8 : UInt64).toNat ||| x.toUInt64).toNat = u.toNat * 256 + x.toNat := by
  have hx := x.toNat_lt
  have e1 : (shl64 u (8 : UInt64).toNat).toNat = 2 ^ 8 * u.toNat := by
    show (u.toBitVec <<< (8 : Nat)).toNat = _
    rw [BitVec.toNat_shiftLeft, Nat.shiftLeft_eq, Nat.mod_eq_of_lt]
    · show u.toNat * 2 ^ 8 = _; omega
    · have : (256 : Nat) ^ 7 = 72057594037927936 := by decide
      show u.toNat * 2 ^ 8 < 2 ^ 64
      omega
  rw [UInt64.toNat_or, e1, UInt8.toNat_toUInt64, ← Nat.two_pow_add_eq_or_of_lt (by omega)]
  omega

abbrev IX := (UInt64 × List UInt8) ⊕ ((UInt64 × List UInt8) ⊕ CR)
def ic : (Nat × List UInt8) ⊕ Int → IX → Prop
  | .inl (n, r), x => ∃ u : UInt64, u.toNat = n ∧ x = .inl (u, r)
  | .inr e, x => ∃ d, x = .inr (.inr (.inr (e, d)))

theorem int_loop {k : Nat} (hk : k ≤ 8) (fl : Bool) : ∀ (j : Nat) (u : UInt64) (b : List UInt8) (m : Nat), j ≤ k → j < m → u.toNat < 256 ^ (k - j) →
    ∃ x, loopF (fun (v : UInt64 × Int × List UInt8) => codec_decoder_integer_b1 (k : Int) (flB fl) v.1 v.2.1 v.2.2) m (u, ((k - j : Nat) : Int), b) = some x ∧ ic (rdN k fl j u.toNat b) x
  | j, u, b, 0, _, h, _ => absurd h (Nat.not_lt_zero _)
  | 0, u, b, m + 1, _, _, _ => by
    refine ⟨.inl (u, b), loopF_end ?_, ⟨u, rfl, rfl⟩⟩
    show codec_decoder_integer_b1 (k : Int) (flB fl) u ((k - 0 : Nat) : Int) b = _
    unfold codec_decoder_integer_b1
    rw [if_neg (by simp)]
  | j + 1, u, [], m + 1, hj, _, _ => by
    refine ⟨.inr (.inr (.inr (5, ⟨[]⟩))), loopF_end ?_, ⟨_, rfl⟩⟩
    show codec_decoder_integer_b1 (k : Int) (flB fl) u ((k - (j + 1) : Nat) : Int) [] = _
    unfold codec_decoder_integer_b1
    rw [if_pos (by simp; omega), next_nil]
    rfl
  | j + 1, u, c :: b, m + 1, hj, hm, hu => by
    have e0 : codec_decoder_integer_b1 (k : Int) (flB fl) u ((k - (j + 1) : Nat) : Int) (c :: b) =
        if k = j + 1 ∧ (fl8 fl c = 0 ∨ (k = 8 ∧ fl8 fl c > 127)) then some (.inr (.inr (.inr (.inr (4, ⟨b⟩))))) else some (.inl (shl64 u (8 : UInt64).toNat ||| (fl8 fl c).toUInt64, ((k - j : Nat) : Int), b)) := by
      unfold codec_decoder_integer_b1
      rw [if_pos (by simp; omega), next_cons]
      refine (e_bindT rfl).trans ?_
      simp only
      rw [xor_fl]
      have hc : (if (((k - (j + 1) : Nat) : Int) == 0) = true then if (fl8 fl c == 0) = true then some true else if ((k : Int) == 8) = true then some (decide (fl8 fl c > 127)) else some false else some false : Option Bool) =
          some (decide (k = j + 1 ∧ (fl8 fl c = 0 ∨ (k = 8 ∧ fl8 fl c > 127)))) := by
        by_cases h1 : k = j + 1
        · rw [if_pos (by simp; omega)]
          by_cases h2 : fl8 fl c = 0
          · rw [if_pos (by simpa using h2)]; simp [h1, h2]
          · rw [if_neg (by simpa using h2)]
            by_cases h3 : k = 8
            · rw [if_pos (by simp; omega)]; simp [h1, h2]; omega
            · rw [if_neg (by simp; omega)]; simp [h2, h3]
        · rw [if_neg (by simp; omega)]; simp [h1]
      refine (e_bindT hc).trans ?_
      have ei : w64 (((k - (j + 1) : Nat) : Int) + 1) = ((k - j : Nat) : Int) := by rw [w64_id (by omega)]; omega
      by_cases hcond : k = j + 1 ∧ (fl8 fl c = 0 ∨ (k = 8 ∧ fl8 fl c > 127))
      · rw [if_pos (by simpa using hcond), if_pos hcond]; rfl
      · rw [if_neg (by simpa using hcond), if_neg hcond, ei]; rfl
    rw [rdN_cons]
    by_cases hcond : k = j + 1 ∧ (fl8 fl c = 0 ∨ (k = 8 ∧ fl8 fl c > 127))
    · rw [if_pos hcond] at e0 ⊢
      exact ⟨_, loopF_end e0, ⟨_, rfl⟩⟩
    · rw [if_neg hcond] at e0 ⊢
      have hu7 : u.toNat < 256 ^ 7 := Nat.lt_of_lt_of_le hu (Nat.pow_le_pow_right (by decide) (by omega))
      have hs := shl_or u (fl8 fl c) hu7
      have hx := (fl8 fl c).toNat_lt
      obtain ⟨x, hx2, hq⟩ := int_loop hk fl j (shl64 u (8 : UInt64).toNat ||| (fl8 fl c).toUInt64) b m (by omega) (by omega) (by
        rw [hs, show k - j = (k - (j + 1)) + 1 by omega, Nat.pow_succ]; omega)
      rw [hs] at hq
      exact ⟨x, (loopF_go e0).trans hx2, hq⟩

theorem integer_rd {t : UInt8} (ht : isInt t) (b : List UInt8) : ∃ x, codec_decoder_integer ⟨b⟩ (kOf t : Int) (flB (negOf t)) = some x ∧ oc (rdI t b) x := by
  have hk : kOf t ≤ 8 := by unfold kOf; obtain ⟨h1, h2⟩ := ht; split <;> omega
  obtain ⟨x, hx, hq⟩ := int_loop hk (negOf t) (kOf t) 0 b 18446744073709551616 (Nat.le_refl _) (by omega) (by simp)
  rw [Nat.sub_self] at hx
  have hx' : loopO (fun (v : UInt64 × Int × List UInt8) => codec_decoder_integer_b1 (kOf t : Int) (flB (negOf t)) v.1 v.2.1 v.2.2) (0, 0, b) = some x := hx
  have hz : (0 : UInt64).toNat = 0 := rfl
  rw [hz] at hq
  unfold codec_decoder_integer rdI
  cases hr : rdN (kOf t) (negOf t) (kOf t) 0 b with
  | inr e =>
    rw [hr] at hq
    obtain ⟨d, rfl⟩ := hq
    refine ⟨.inr (e, d), ?_, ⟨d, rfl⟩⟩
    refine (e_bindT (a := .inr (.inr (e, d))) ((e_bindT hx').trans rfl)).trans rfl
  | inl y =>
    obtain ⟨n, r⟩ := y
    rw [hr] at hq
    obtain ⟨u, hu, rfl⟩ := hq
    have hinv : rdI t b = .inl (vInt (if negOf t = true then -(n : Int) - 1 else (n : Int)), r) := by unfold rdI; rw [hr]
    obtain ⟨n', hn', e1, _⟩ := rdI_inv ht hinv
    have e1' : (if negOf t = true then -(n : Int) - 1 else (n : Int)) = n' := congrArg Api_Value.N e1
    obtain ⟨r1, r2⟩ := hn'
    refine ⟨.inl (vInt (if negOf t = true then -(n : Int) - 1 else (n : Int)), ⟨r⟩), ?_, rfl⟩
    refine (e_bindT (a := .inl (u, r)) ((e_bindT hx').trans rfl)).trans ?_
    cases hng : negOf t
    · rw [hng] at e1'
      simp only [Bool.false_eq_true, if_false] at e1'
      have : flB false = 0 := rfl
      rw [this]
      simp only [bne_self_eq_false, Bool.false_eq_true, if_false]
      refine (e_bindT rfl).trans ?_
      rw [hu, w64_id (by omega)]; rfl
    · rw [hng] at e1'
      simp only [if_true] at e1'
      have : flB true = 255 := rfl
      rw [this, if_pos (by decide)]
      refine (e_bindT rfl).trans ?_
      have e2 : w64 ((~~~u).toNat : Int) = -(n : Int) - 1 := by
        rw [u64_not, hu]
        have hlt := u.toNat_lt
        unfold w64 IntKind.wrap
        simp [IntKind.signed, IntKind.bits]
        split <;> omega
      rw [e2]; rfl
end Go.Proofs.Ytihncddenjbecaa
/-
  codec's Decode.
-/
namespace Go.Proofs.Ytihncddenjbecaa
open Go.Rv
set_option linter.unusedVariables false
set_option linter.unusedSimpArgs false

abbrev LX := (List UInt8 × List Api_Value) ⊕ ((List UInt8 × List Api_Value) ⊕ (Unit ⊕ CR))
def lc : DRes → LX → Prop
  | .inl (v, r), x => ∃ l, v = vList l ∧ x = .inl (r, l)
  | .inr e, x => ∃ d, x = .inr (.inr (.inr (.inr (e, d))))

def PC (o : DRes) : UInt8 ⊕ List Api_Value → List UInt8 → Prop
  | .inl t, b => ∀ n, b.length < n → ∃ x, codec_decoder_value_n n ⟨b⟩ t = some x ∧ oc o x
  | .inr acc, [] => o = .inr 5
  | .inr acc, c :: b => ∀ n, b.length < n → acc.length + b.length ≤ 1000000 → ∀ m, b.length < m → ∃ x, loopF (fun (v : UInt8 × List UInt8 × List Api_Value) => codec_decoder_value_b1 (codec_decoder_value_n n) v.1 v.2.1 v.2.2) m (c, b, acc) = some x ∧ lc o x

theorem fits64 {n : Nat} (h : n ≤ 2000000) : Fits n 64 := by unfold Fits maxLen roomB; omega

theorem rd_codec {s : UInt8 ⊕ List Api_Value} {b : List UInt8} {o : DRes} (h : Rd s b o) : b.length ≤ 65536 → PC o s b := by
  induction h with
  | int t b h =>
    intro hb n hn
    obtain ⟨n, rfl⟩ : ∃ m, n = m + 1 := ⟨n - 1, by omega⟩
    show ∃ x, codec_decoder_value_F (codec_decoder_value_n n) ⟨b⟩ t = some x ∧ _
    obtain ⟨x, hx, hq⟩ := integer_rd h b
    refine ⟨x, ?_, hq⟩
    obtain ⟨h1, h2⟩ := id h
    unfold codec_decoder_value_F
    have hn32 : (negOf t = true) = (t.toNat < 32) := by unfold negOf; simp
    by_cases h32 : t.toNat < 32
    · have hc : (if decide (t ≥ (32 : UInt8)) = true then some (decide (t ≤ (40 : UInt8))) else some false : Option Bool) = some false := by
        rw [if_neg (by simp [UInt8.le_iff_toNat_le]; omega)]
      have hc2 : (if decide (t < (32 : UInt8)) = true then some (decide (t ≥ (23 : UInt8))) else some false : Option Bool) = some true := by
        rw [if_pos (by simp [UInt8.lt_iff_toNat_lt]; omega)]; simp [UInt8.le_iff_toNat_le]; omega
      have hng : negOf t = true := by rw [hn32]; exact h32
      have hk : (((31 : UInt8) - t).toNat : Int) = (kOf t : Int) := by
        unfold kOf
        rw [if_pos h32, UInt8.toNat_sub]
        have : (31 : UInt8).toNat = 31 := rfl
        omega
      rw [hng] at hx
      have hfl : flB true = 255 := rfl
      rw [hfl, ← hk] at hx
      refine (e_bindT (a := .inr x) ?_).trans rfl
      refine (e_bindT hc).trans ?_
      rw [if_neg (by simp)]
      refine (e_bindT hc2).trans ?_
      rw [if_pos rfl]
      refine (e_bindT hx).trans ?_
      cases x <;> rfl
    · have hc : (if decide (t ≥ (32 : UInt8)) = true then some (decide (t ≤ (40 : UInt8))) else some false : Option Bool) = some true := by
        rw [if_pos (by simp [UInt8.le_iff_toNat_le]; omega)]; simp [UInt8.le_iff_toNat_le]; omega
      have hng : negOf t = false := by cases hh : negOf t; rfl; exact (h32 (hn32 ▸ hh)).elim
      have hk : ((t - (32 : UInt8)).toNat : Int) = (kOf t : Int) := by
        unfold kOf
        rw [if_neg h32, UInt8.toNat_sub]
        have : (32 : UInt8).toNat = 32 := rfl
        omega
      rw [hng] at hx
      have hfl : flB false = 0 := rfl
      rw [hfl, ← hk] at hx
      refine (e_bindT (a := .inr x) ?_).trans rfl
      refine (e_bindT hc).trans ?_
      rw [if_pos rfl]
      refine (e_bindT hx).trans ?_
      cases x <;> rfl
  | text b =>
    intro hb n hn
    obtain ⟨n, rfl⟩ : ∃ m, n = m + 1 := ⟨n - 1, by omega⟩
    show ∃ x, codec_decoder_value_F (codec_decoder_value_n n) ⟨b⟩ 48 = some x ∧ _
    obtain ⟨x, hx, hq⟩ := text_loop b [] 18446744073709551616 (by omega) (by simp; omega)
    have hx' : loopO (fun (v : List UInt8 × List UInt8) => codec_decoder_text_b1 v.1 v.2) (b, []) = some x := hx
    refine ⟨x, ?_, hq⟩
    unfold codec_decoder_value_F codec_decoder_text
    rw [hx']
    cases x <;> rfl
  | lst b o h ih =>
    intro hb n hn
    obtain ⟨n, rfl⟩ : ∃ m, n = m + 1 := ⟨n - 1, by omega⟩
    show ∃ x, codec_decoder_value_F (codec_decoder_value_n n) ⟨b⟩ 64 = some x ∧ _
    have hi := ih hb
    cases b with
    | nil =>
      have : o = .inr 5 := hi
      subst this
      exact ⟨.inr (5, ⟨[]⟩), rfl, ⟨_, rfl⟩⟩
    | cons c b =>
      obtain ⟨x, hx, hq⟩ := hi n (by simp at hn; omega) (by simp at hb ⊢; omega) 18446744073709551616 (by simp at hb; omega)
      have hx' : loopO (fun (v : UInt8 × List UInt8 × List Api_Value) => codec_decoder_value_b1 (codec_decoder_value_n n) v.1 v.2.1 v.2.2) (c, b, []) = some x := hx
      unfold codec_decoder_value_F
      cases o with
      | inl y =>
        obtain ⟨v, r⟩ := y
        obtain ⟨l, rfl, rfl⟩ := hq
        refine ⟨.inl (vList l, ⟨r⟩), ?_, rfl⟩
        refine (e_bindT (a := .inr (.inl (vList l, ⟨r⟩))) ?_).trans rfl
        show (((codec_decoder_next ⟨c :: b⟩).bind _).bind _) = _
        rw [next_cons]
        refine (e_bindT (a := .inl (r, l)) ((e_bindT rfl).trans ?_)).trans rfl
        exact (e_bindT hx').trans rfl
      | inr e =>
        obtain ⟨d, rfl⟩ := hq
        refine ⟨.inr (e, d), ?_, ⟨d, rfl⟩⟩
        refine (e_bindT (a := .inr (.inr (e, d))) ?_).trans rfl
        show (((codec_decoder_next ⟨c :: b⟩).bind _).bind _) = _
        rw [next_cons]
        refine (e_bindT (a := .inr (.inr (.inr (e, d)))) ((e_bindT rfl).trans ?_)).trans rfl
        exact (e_bindT hx').trans rfl
  | bad t b h h1 h2 =>
    intro hb n hn
    obtain ⟨n, rfl⟩ : ∃ m, n = m + 1 := ⟨n - 1, by omega⟩
    refine ⟨.inr (4, ⟨b⟩), ?_, ⟨_, rfl⟩⟩
    show codec_decoder_value_F (codec_decoder_value_n n) ⟨b⟩ t = _
    unfold codec_decoder_value_F
    unfold isInt at h
    have hc : (if decide (t ≥ (32 : UInt8)) = true then some (decide (t ≤ (40 : UInt8))) else some false : Option Bool) = some false := by
      by_cases h32 : t.toNat < 32
      · rw [if_neg (by simp [UInt8.le_iff_toNat_le]; omega)]
      · rw [if_pos (by simp [UInt8.le_iff_toNat_le]; omega)]; simp [UInt8.le_iff_toNat_le]; omega
    have hc2 : (if decide (t < (32 : UInt8)) = true then some (decide (t ≥ (23 : UInt8))) else some false : Option Bool) = some false := by
      by_cases h32 : t.toNat < 32
      · rw [if_pos (by simp [UInt8.lt_iff_toNat_lt]; omega)]; simp [UInt8.le_iff_toNat_le]; omega
      · rw [if_neg (by simp [UInt8.lt_iff_toNat_lt]; omega)]
    refine (e_bindT (a := (.inl () : Unit ⊕ CR)) ?_).trans rfl
    refine (e_bindT hc).trans ?_
    rw [if_neg (by simp)]
    refine (e_bindT hc2).trans ?_
    rw [if_neg (by simp), if_neg (by simpa using h1), if_neg (by simpa using h2)]
  | lend acc => intro _; rfl
  | lfin acc b =>
    intro hb n hn ha m hm
    obtain ⟨m, rfl⟩ : ∃ k, m = k + 1 := ⟨m - 1, by omega⟩
    exact ⟨.inl (b, acc), loopF_end rfl, ⟨acc, rfl, rfl⟩⟩
  | lerr acc c b e hc h ih =>
    intro hb n hn ha m hm
    obtain ⟨m, rfl⟩ : ∃ k, m = k + 1 := ⟨m - 1, by omega⟩
    obtain ⟨x, hx, d, rfl⟩ := ih (by simp at hb; omega) n hn
    refine ⟨.inr (.inr (.inr (.inr (e, d)))), loopF_end ?_, ⟨d, rfl⟩⟩
    show codec_decoder_value_b1 (codec_decoder_value_n n) c b acc = _
    unfold codec_decoder_value_b1
    rw [if_pos (by simpa using hc), hx]
    rfl
  | lstep acc c b v b' o hc h h2 ih ih2 =>
    intro hb n hn ha m hm
    obtain ⟨m, rfl⟩ : ∃ k, m = k + 1 := ⟨m - 1, by omega⟩
    have hb0 : b.length ≤ 65536 := by simp at hb; omega
    obtain ⟨x, hx, hxe⟩ := ih hb0 n hn
    have hxe' : x = .inl (v, ⟨b'⟩) := hxe
    subst hxe'
    have hinv : c :: b = encV v ++ b' := (rd_inv h).2.2
    have hl : b.length + 1 = (encV v).length + b'.length := by
      have := congrArg List.length hinv
      simpa using this
    have hp := enc_pos v
    have hi2 := ih2 (by omega)
    have e0 : ∀ o' , (codec_decoder_next ⟨b'⟩ = o') → codec_decoder_value_b1 (codec_decoder_value_n n) c b acc = o'.bind fun y => match y with
        | .inl w => some (.inl (w.1, w.2.b, acc ++ [v]))
        | .inr w => some (.inr (.inr (.inr (.inr (.inr (w.1, w.2)))))) := by
      intro o' ho
      unfold codec_decoder_value_b1
      rw [if_pos (by simpa using hc), hx]
      refine (e_bindT rfl).trans ?_
      simp only
      rw [if_pos (fits64 (by omega)), ho]
      rfl
    cases b' with
    | nil =>
      have : o = .inr 5 := hi2
      subst this
      refine ⟨.inr (.inr (.inr (.inr (5, ⟨[]⟩)))), loopF_end ?_, ⟨_, rfl⟩⟩
      exact (e0 _ next_nil).trans rfl
    | cons c2 b2 =>
      obtain ⟨x, hx2, hq⟩ := hi2 n (by simp at hl; omega) (by simp at hl ⊢; omega) m (by simp at hl; omega)
      exact ⟨x, (loopF_go ((e0 _ (next_cons c2 b2)).trans rfl)).trans hx2, hq⟩

/-! ### Decode -/
/-- What Decode answers. -/
def DecS (b : List UInt8) (r : Api_Value × Int) : Prop :=
  (b.length > 65536 ∧ r = (vZero, 2)) ∨ (b.length ≤ 65536 ∧ ((b = [] ∧ r = (vZero, 5)) ∨ ∃ t b' o, b = t :: b' ∧ Rd (.inl t) b' o ∧
    ((∃ e, o = .inr e ∧ r = (vZero, e)) ∨ ∃ v rest, o = .inl (v, rest) ∧ ((rest ≠ [] ∧ r = (vZero, 4)) ∨ (rest = [] ∧ ((nestV v > 16 ∧ r = (vZero, 2)) ∨ (nestV v ≤ 16 ∧ r = (v, 0))))))))

mutual
theorem sz_enc : ∀ v : Api_Value, wfV v → szV v ≤ (encV v).length
  | .mk k n b l => by
    intro h
    rcases wf_cases h with e | e | ⟨e, hl⟩
    · rw [e, enc_int, encI_len]
      simp [vInt, szV, szVs]
    · rw [e, enc_text]
      have he : ∀ b : List UInt8, b.length ≤ (escB b).length := by
        intro b
        induction b with
        | nil => simp
        | cons c b ih => simp only [escB]; split <;> simp <;> omega
      have := he (Api_Value.mk k n b l).B
      simp only [vText, szV, szVs, List.length_cons, List.length_append, List.length_nil]
      omega
    · rw [e, enc_list]
      have := sz_encs l hl
      simp only [vList, szV, List.length_cons, List.length_append, List.length_nil]
      show ([] : List UInt8).length + 1 + szVs l ≤ (encL l).length + 1 + 1
      simp; omega
theorem sz_encs : ∀ l : List Api_Value, (∀ x ∈ l, wfV x) → szVs l ≤ (encL l).length
  | [] => fun _ => by simp [szVs]
  | x :: l => fun h => by
    have h1 := sz_enc x (h x List.mem_cons_self)
    have h2 := sz_encs l (fun y hy => h y (List.mem_cons_of_mem _ hy))
    rw [szVs, encL, List.length_append]
    omega
end

theorem shape_eq (v : Api_Value) (h : szV v ≤ 100000000000) : codec_shape v = some (shpV v) := shape_n 18446744073709551616 v (by omega) (by omega)

theorem decode_ex (b : List UInt8) : ∃ r, DecS b r ∧ codec_Decode b = some r := by
  by_cases hb : b.length > 65536
  · refine ⟨_, .inl ⟨hb, rfl⟩, ?_⟩
    unfold codec_Decode
    rw [if_pos (by simp; omega)]; rfl
  · have hb' : b.length ≤ 65536 := by omega
    have e1 : ∀ o, codec_decoder_next ⟨b⟩ = o → codec_Decode b = o.bind fun y => match y with
        | .inl v => (codec_decoder_value v.2 v.1).bind fun y => match y with
          | .inl v => if (decide ((v.2.b.length : Int) > 0)) = true then some (vZero, 4) else
              (codec_shape v.1).bind fun y => if (decide (y.1 > 16)) = true then some (vZero, 2) else some (v.1, 0)
          | .inr v => some (vZero, v.1)
        | .inr v => some (vZero, v.1) := by
      intro o ho
      subst ho
      unfold codec_Decode
      rw [if_neg (by simp; omega)]
      rfl
    cases b with
    | nil => exact ⟨_, .inr ⟨hb', .inl ⟨rfl, rfl⟩⟩, (e1 _ next_nil).trans rfl⟩
    | cons t b =>
      obtain ⟨o, ho⟩ := rd_total _ (.inl t) b (Nat.lt_succ_self _)
      have hbl : b.length ≤ 65536 := by simp at hb'; omega
      obtain ⟨x, hx, hq⟩ := (rd_codec ho hbl : ∀ n, b.length < n → ∃ x, codec_decoder_value_n n ⟨b⟩ t = some x ∧ oc o x) 18446744073709551616 (by omega)
      have hx' : codec_decoder_value ⟨b⟩ t = some x := hx
      have e1 := e1 _ (next_cons t b)
      cases o with
      | inr e =>
        obtain ⟨d, rfl⟩ := hq
        refine ⟨(vZero, e), .inr ⟨hb', .inr ⟨t, b, _, rfl, ho, .inl ⟨e, rfl, rfl⟩⟩⟩, ?_⟩
        refine e1.trans ((e_bindT rfl).trans ?_)
        exact (e_bindT hx').trans rfl
      | inl y =>
        obtain ⟨v, rest⟩ := y
        have hq' : x = .inl (v, ⟨rest⟩) := hq
        subst hq'
        obtain ⟨w1, w2, w3⟩ := rd_inv ho
        have hlen : b.length + 1 = (encV v).length + rest.length := by
          have := congrArg List.length w3
          simpa using this
        have hsz := sz_enc v w1
        by_cases hr : rest = []
        · subst hr
          have hsh := shape_eq v (by simp at hlen; omega)
          have hn := nest_shp v w1
          by_cases hd : nestV v > 16
          · refine ⟨(vZero, 2), .inr ⟨hb', .inr ⟨t, b, _, rfl, ho, .inr ⟨v, [], rfl, .inr ⟨rfl, .inl ⟨hd, rfl⟩⟩⟩⟩⟩, ?_⟩
            refine e1.trans ((e_bindT rfl).trans ?_)
            refine (e_bindT hx').trans ?_
            simp only
            rw [if_neg (by simp), hsh]
            refine (e_bindT rfl).trans ?_
            rw [if_pos (by simp; omega)]
          · refine ⟨(v, 0), .inr ⟨hb', .inr ⟨t, b, _, rfl, ho, .inr ⟨v, [], rfl, .inr ⟨rfl, .inr ⟨by omega, rfl⟩⟩⟩⟩⟩, ?_⟩
            refine e1.trans ((e_bindT rfl).trans ?_)
            refine (e_bindT hx').trans ?_
            simp only
            rw [if_neg (by simp), hsh]
            refine (e_bindT rfl).trans ?_
            rw [if_neg (by simp; omega)]
        · refine ⟨(vZero, 4), .inr ⟨hb', .inr ⟨t, b, _, rfl, ho, .inr ⟨v, rest, rfl, .inl ⟨hr, rfl⟩⟩⟩⟩, ?_⟩
          refine e1.trans ((e_bindT rfl).trans ?_)
          refine (e_bindT hx').trans ?_
          simp only
          have : rest.length ≠ 0 := fun e => hr (List.length_eq_zero_iff.1 e)
          rw [if_pos (by simp; omega)]

theorem decS_det {b : List UInt8} {r r' : Api_Value × Int} (h : DecS b r) (h' : DecS b r') : r = r' := by
  rcases h with ⟨h1, rfl⟩ | ⟨h1, h⟩ <;> rcases h' with ⟨h1', rfl⟩ | ⟨h1', h'⟩
  · rfl
  · omega
  · omega
  · rcases h with ⟨h2, rfl⟩ | ⟨t, b1, o, h2, h3, h4⟩ <;> rcases h' with ⟨h2', rfl⟩ | ⟨t', b1', o', h2', h3', h4'⟩
    · rfl
    · rw [h2] at h2'; cases h2'
    · rw [h2'] at h2; cases h2
    · rw [h2] at h2'
      cases h2'
      have := rd_det h3 h3'
      subst this
      rcases h4 with ⟨e, rfl, rfl⟩ | ⟨v, rest, rfl, h4⟩
      · rcases h4' with ⟨e', he, rfl⟩ | ⟨v', rest', he, _⟩
        · cases he; rfl
        · cases he
      · rcases h4' with ⟨e', he, rfl⟩ | ⟨v', rest', he, h4'⟩
        · cases he
        · cases he
          rcases h4 with ⟨h5, rfl⟩ | ⟨h5, h4⟩ <;> rcases h4' with ⟨h5', rfl⟩ | ⟨h5', h4'⟩
          · rfl
          · exact (h5 h5').elim
          · exact (h5' h5).elim
          · rcases h4 with ⟨h6, rfl⟩ | ⟨h6, rfl⟩ <;> rcases h4' with ⟨h6', rfl⟩ | ⟨h6', rfl⟩
            · rfl
            · omega
            · omega
            · rfl
theorem decode_eq {b : List UInt8} {r : Api_Value × Int} (h : DecS b r) : codec_Decode b = some r := by
  obtain ⟨r', h', e⟩ := decode_ex b
  rw [e, decS_det h h']
end Go.Proofs.Ytihncddenjbecaa
/-
  The laws RoundTrip, Canonical, Spoiled, PrefixFree.
-/
namespace Go.Proofs.Ytihncddenjbecaa
open Go.Rv
set_option linter.unusedVariables false
set_option linter.unusedSimpArgs false

theorem enc_cases (v : Api_Value) : (∃ e, (e = 10 ∨ e = 2) ∧ Enc v = ([], e)) ∨ (wfV v ∧ (shpV v).1 ≤ 16 ∧ (encV v).length ≤ 65536 ∧ Enc v = (encV v, 0)) := by
  unfold Enc
  by_cases h : (shpV v).2 = true
  · rw [if_pos h]
    by_cases h2 : (shpV v).1 > 16
    · rw [if_pos h2]; exact .inl ⟨2, .inr rfl, rfl⟩
    · rw [if_neg h2]
      by_cases h3 : (encV v).length > 65536
      · rw [if_pos h3]; exact .inl ⟨2, .inr rfl, rfl⟩
      · rw [if_neg h3]; exact .inr ⟨h, by omega, by omega, rfl⟩
  · rw [if_neg h]; exact .inl ⟨10, .inl rfl, rfl⟩

theorem decode_enc {v : Api_Value} (h : wfV v) (ok : okV v) (hd : (shpV v).1 ≤ 16) (hl : (encV v).length ≤ 65536) : codec_Decode (encV v) = some (v, 0) := by
  obtain ⟨t, tl, e, _, g1, _⟩ := good_wf v h ok
  have := g1 []
  rw [List.append_nil] at this
  refine decode_eq (.inr ⟨hl, .inr ⟨t, tl, _, e, this, .inr ⟨v, [], rfl, .inr ⟨rfl, .inr ⟨?_, rfl⟩⟩⟩⟩⟩)
  rw [nest_shp v h]; exact hd
theorem decode_pre {v : Api_Value} (h : wfV v) (ok : okV v) {p : List UInt8} (hp : p <+: encV v) (hlt : p.length < (encV v).length) (hl : (encV v).length ≤ 65536) : codec_Decode p = some (vZero, 5) := by
  obtain ⟨t, tl, e, _, _, g2⟩ := good_wf v h ok
  refine decode_eq (.inr ⟨by omega, ?_⟩)
  cases p with
  | nil => exact .inl ⟨rfl, rfl⟩
  | cons c p =>
    rw [e, List.cons_prefix_cons] at hp
    obtain ⟨rfl, hp⟩ := hp
    rw [e] at hlt
    exact .inr ⟨c, p, _, rfl, g2 p (by simpa using hlt) hp, .inl ⟨5, rfl, rfl⟩⟩
theorem decode_more {v : Api_Value} (h : wfV v) (ok : okV v) {m : List UInt8} (hm : m ≠ []) : codec_Decode (encV v ++ m) = some (vZero, if (encV v ++ m).length > 65536 then 2 else 4) := by
  by_cases hl : (encV v ++ m).length > 65536
  · rw [if_pos hl]; exact decode_eq (.inl ⟨hl, rfl⟩)
  · rw [if_neg hl]
    obtain ⟨t, tl, e, _, g1, _⟩ := good_wf v h ok
    refine decode_eq (.inr ⟨by omega, .inr ⟨t, tl ++ m, _, by rw [e]; rfl, g1 m, .inr ⟨v, m, rfl, .inl ⟨hm, rfl⟩⟩⟩⟩)
theorem dec_inv {b : List UInt8} {r : Api_Value × Int} (h : DecS b r) : (r.1 = vZero ∧ (r.2 = 2 ∨ r.2 = 5 ∨ r.2 = 4)) ∨ (r.2 = 0 ∧ wfV r.1 ∧ okV r.1 ∧ b = encV r.1 ∧ (shpV r.1).1 ≤ 16 ∧ b.length ≤ 65536) := by
  rcases h with ⟨_, rfl⟩ | ⟨h1, ⟨_, rfl⟩ | ⟨t, b', o, rfl, h2, h3⟩⟩
  · exact .inl ⟨rfl, .inl rfl⟩
  · exact .inl ⟨rfl, .inr (.inl rfl)⟩
  · rcases h3 with ⟨e, rfl, rfl⟩ | ⟨v, rest, rfl, h3⟩
    · have : e = 4 ∨ e = 5 := rd_inv h2
      rcases this with rfl | rfl
      · exact .inl ⟨rfl, .inr (.inr rfl)⟩
      · exact .inl ⟨rfl, .inr (.inl rfl)⟩
    · rcases h3 with ⟨_, rfl⟩ | ⟨rfl, ⟨_, rfl⟩ | ⟨h4, rfl⟩⟩
      · exact .inl ⟨rfl, .inr (.inr rfl)⟩
      · exact .inl ⟨rfl, .inl rfl⟩
      · obtain ⟨w1, w2, w3⟩ := rd_inv h2
        rw [List.append_nil] at w3
        exact .inr ⟨rfl, w1, w2, w3, by rw [← nest_shp v w1]; exact h4, h1⟩

theorem joined_eq (a b : List UInt8) (ha : a.length + b.length ≤ 1099511627776) : r01_Joined a b = some (a ++ b) := by
  unfold r01_Joined
  refine (e_lt1 _ [] _ rfl).trans ?_
  rw [if_pos (fits1 (by simp; omega))]
  refine (e_lt1 _ a _ rfl).trans ?_
  rw [if_pos (fits1 (by omega))]
  rfl
theorem around_eq (x : Int) {n : Nat} (h : 0 < n) (hn : n ≤ 1099511627776) : ∃ k : Nat, k < n ∧ r01_Around x (n : Int) = some (k : Int) := by
  unfold r01_Around
  rw [if_pos (by omega)]
  have h1 := Int.tmod_lt_of_pos x (show (0 : Int) < (n : Int) by omega)
  have h2 := Int.lt_tmod_of_pos x (show (0 : Int) < (n : Int) by omega)
  refine (show ∃ k : Nat, k < n ∧ ((if (decide (x.tmod (n : Int) < 0)) = true then some (w64 (x.tmod (n : Int) + (n : Int))) else some (x.tmod (n : Int)) : Option Int).bind fun y => some y) = some (k : Int) from ?_)
  by_cases h0 : x.tmod (n : Int) < 0
  · refine ⟨(x.tmod (n : Int) + n).toNat, by omega, ?_⟩
    rw [if_pos (by simpa using h0), w64_id (by omega)]
    show some _ = some _
    congr 1
    omega
  · refine ⟨(x.tmod (n : Int)).toNat, by omega, ?_⟩
    rw [if_neg (by simpa using h0)]
    show some _ = some _
    congr 1
    omega

theorem law_round (v : Api_Value) (hv : szV v ≤ 1048576) (ok : okV v) : law01_CodecRoundTrip v = some true := by
  have h : szV v ≤ 100000000000 := by omega
  unfold law01_CodecRoundTrip
  rw [sane_ok]
  refine (e_bindT rfl).trans ?_
  rw [if_neg (by simp)]
  refine (e_bindT (check_eq v h)).trans ((e_bindT (encode_eq v h)).trans ?_)
  rcases enc_cases v with ⟨e, he, hE⟩ | ⟨hw, hd, hl, hE⟩
  · rw [hE]
    rcases he with rfl | rfl <;> rfl
  · rw [hE]
    rw [if_neg (by simp)]
    refine (e_bindT (decode_enc hw ok hd hl)).trans ?_
    rw [if_pos (by simp), if_pos (by simp)]
    refine (e_bindT (a := true) ?_).trans rfl
    refine (e_bindT (sameR_eq v v h)).trans ?_
    rw [sameV_self, if_pos rfl, decide_eq_true (by show ((encV v).length : Int) ≤ 65536; omega)]

theorem law_canonicalS (b : List UInt8) : law01_CodecCanonical b = some true := by
  unfold law01_CodecCanonical
  rw [sane_ok]
  refine (e_bindT rfl).trans ?_
  rw [if_neg (by simp)]
  obtain ⟨r, hr, hd⟩ := decode_ex b
  refine (e_bindT hd).trans ?_
  rcases dec_inv hr with ⟨h1, h2⟩ | ⟨h0, hw, ok, he, hd', hl⟩
  · have hz : r01_Same r.1 (Api_Value.mk 0 0 [] []) = some true := by
      rw [h1, sameR_eq _ _ (by decide)]
      exact congrArg some (sameV_self vZero)
    obtain ⟨x, c⟩ := r
    rcases h2 with h2 | h2 | h2 <;> (have h2' : c = _ := h2; subst h2'; refine (if_pos rfl).trans ?_; refine (e_bindT (a := true) ?_).trans rfl; refine (e_bindT hz).trans ?_; rfl)
  · obtain ⟨x, c⟩ := r
    have h0' : c = 0 := h0
    subst h0'
    have he' : b = encV x := he
    have hs : szV x ≤ 100000000000 := by
      have := sz_enc x hw
      rw [← he'] at this; omega
    have hE : Enc x = (encV x, 0) := by
      unfold Enc
      rw [if_pos (show (shpV x).2 = true from hw), if_neg (by have : (shpV x).1 ≤ 16 := hd'; omega), if_neg (by rw [← he']; omega)]
    rw [if_neg (by simp)]
    refine (e_bindT (encode_eq x hs)).trans ?_
    rw [hE]
    rw [if_pos (by simp)]
    refine (e_bindT (a := true) ?_).trans rfl
    rw [sameBytes_eq _ _ (by omega), he', (cmpB_zero _ _).2 rfl]
    refine (e_bindT rfl).trans ?_
    rw [if_pos (by simp)]
    refine (e_bindT (check_eq x hs)).trans ?_
    rw [hE]
    rfl

theorem law_canonical (b : List UInt8) (hb : b.length ≤ 1048576) : law01_CodecCanonical b = some true := law_canonicalS b

theorem law_prefix (v : Api_Value) (x : Int) (more : List UInt8) (hv : szV v ≤ 1048576) (ok : okV v) (_ : rangeI x) (hm : more.length ≤ 1048576) : law01_CodecPrefixFree v x more = some true := by
  have h : szV v ≤ 100000000000 := by omega
  unfold law01_CodecPrefixFree
  rw [sane_ok]
  refine (e_bindT rfl).trans ?_
  rw [if_neg (by simp)]
  refine (e_bindT (encode_eq v h)).trans ?_
  rcases enc_cases v with ⟨e, he, hE⟩ | ⟨hw, hd, hl, hE⟩
  · rw [check_eq v h, hE]
    rcases he with rfl | rfl <;> rfl
  · rw [hE]
    have hp := enc_pos v
    rw [if_neg (by simp)]
    show (if (((encV v).length : Int) == 0) = true then some false else _) = _
    rw [if_neg (by simp; intro e; rw [e] at hp; simp at hp)]
    obtain ⟨k, hk, hkx⟩ := around_eq x hp (by omega)
    refine (e_bindT hkx).trans ?_
    rw [if_pos (show InB (k : Int) (encV v).length from ⟨by omega, by omega⟩), Int.toNat_natCast]
    refine (e_bindT (decode_pre hw ok (List.take_prefix k (encV v)) (by simp; omega) hl)).trans ?_
    refine (e_bindT (joined_eq (encV v) more (by omega))).trans ?_
    by_cases hme : more = []
    · subst hme
      rw [List.append_nil]
      refine (e_bindT (decode_enc hw ok hd hl)).trans ?_
      rfl
    · refine (e_bindT (decode_more hw ok hme)).trans ?_
      rw [if_neg (by simp), if_neg (by simp [hme])]
      have hc : (decide ((more.length : Int) > w64 (65536 - ((encV v).length : Int)))) = decide ((encV v ++ more).length > 65536) := by
        rw [w64_id (by omega)]
        rw [decide_eq_decide, List.length_append]
        omega
      refine (e_lt1 _ _ _ hc).trans ?_
      by_cases hg : (encV v ++ more).length > 65536
      · rw [if_pos (by simpa using hg), if_pos hg]; rfl
      · rw [if_neg (by simpa using hg), if_neg hg]; rfl

theorem law_spoiled (v : Api_Value) (x : Int) (by_ : UInt8) (hv : szV v ≤ 1048576) (ok : okV v) (_ : rangeI x) : law01_CodecSpoiled v x by_ = some true := by
  have h : szV v ≤ 100000000000 := by omega
  unfold law01_CodecSpoiled
  rw [sane_ok]
  refine (e_bindT rfl).trans ?_
  rw [if_neg (by simp)]
  refine (e_bindT (encode_eq v h)).trans ?_
  rcases enc_cases v with ⟨e, he, hE⟩ | ⟨hw, hd, hl, hE⟩
  · rw [check_eq v h, hE]
    rcases he with rfl | rfl <;> rfl
  · rw [hE]
    have hp := enc_pos v
    rw [if_neg (by simp)]
    show (if (((encV v).length : Int) == 0) = true then some false else _) = _
    rw [if_neg (by simp; intro e; rw [e] at hp; simp at hp)]
    refine (e_bindT (joined_eq (encV v) [] (by simp; omega))).trans ?_
    rw [List.append_nil]
    obtain ⟨k, hk, hkx⟩ := around_eq x hp (by omega)
    refine (e_bindT hkx).trans ?_
    rw [if_pos (show InR (k : Int) (encV v).length from ⟨by omega, by omega⟩), Int.toNat_natCast]
    refine (e_lt1 _ ((encV v).set k by_) _ rfl).trans ?_
    have hset : ((encV v).set k by_).length = (encV v).length := List.length_set
    obtain ⟨r, hr, hdec⟩ := decode_ex ((encV v).set k by_)
    refine (e_bindT hdec).trans ((e_bindT (sameBytes_eq _ _ (by omega))).trans ?_)
    by_cases hs : (encV v).set k by_ = encV v
    · rw [hs, (cmpB_zero _ _).2 rfl, if_pos (by simp)]
      rw [hs] at hdec
      have := hdec.symm.trans (decode_enc hw ok hd hl)
      cases this
      rw [if_pos (by simp)]
      refine (e_bindT (a := true) ?_).trans rfl
      refine (e_bindT (sameR_eq v v h)).trans ?_
      rw [sameV_self]
    · have hz : ¬ cmpB ((encV v).set k by_) (encV v) = 0 := fun e => hs ((cmpB_zero _ _).1 e)
      rw [if_neg (by simpa using hz)]
      rcases dec_inv hr with ⟨h1, h2⟩ | ⟨h0, hw', ok', he, hd', hl'⟩
      · obtain ⟨y, c⟩ := r
        rcases h2 with h2 | h2 | h2 <;> (have h2' : c = _ := h2; subst h2'; rfl)
      · rw [if_neg (by simp [h0])]
        refine (e_bindT (a := true) ?_).trans rfl
        refine (e_bindT (sameR_eq v r.1 h)).trans ?_
        have : sameV v r.1 = false := by
          cases hh : sameV v r.1
          · rfl
          · have := (sameV_iff _ _).1 hh
            rw [← this] at he
            exact (hs he).elim
        rw [this]; rfl
end Go.Proofs.Ytihncddenjbecaa
namespace Go.Proofs.Ytihncddenjbecaa
open Go.Rv Go.ChangeShapes Go.WideShapes Go.ChangeAt Go.RowKit
set_option linter.unusedVariables false

theorem codecCanonical_contract (H : Type) (enc : TypeId × Value → H) (W : World) (base : Nat) (args : Array Value) (ds gs : List (DataW H)) (before : List MemPlace)
    (hval0 : ∀ (j : Nat) t v, Try.f6.params[j]? = some t → args[j]? = some v → Value.okWide Try.prog W .any base t v)
    (hW : DataW.Whole enc Try.prog Try.f6.params.toList Rows.codecCanonicalSpec.vars false W args.toList ds gs before) :
    Calls Try.prog 6 args W fun e W' => ∃ v, e = .returned v ∧ Rows.codecCanonicalSpec.post enc Try.prog Try.f6 false true false false W args v W' := by
  have hval : ∀ (j : Nat) t v, Try.f6.params[j]? = some t → args[j]? = some v → Value.okWide Try.prog W .any base t v := hval0
  have hW' := hW
  obtain ⟨p, q, hA0, hV, rfl, hfz, hnd⟩ := hW
  have hA : DataW.TrodAll enc Try.prog W 0 (fun _ => true) true Try.f6.params.toList args.toList ds p := hA0
  rw [Try.params6] at hA hval
  obtain ⟨v0, vs0, d0, ds0, p0, q0, hargs, rfl, rfl, h0, r0⟩ := trodAll_cons hA
  obtain ⟨rfl, rfl, rfl⟩ := trodAll_nil r0
  obtain rfl : args = #[v0] := by cases args; simp_all
  obtain ⟨rfl, rfl⟩ := trodVars_none hV
  obtain ⟨x0, hsz0, hok0, hrep0⟩ := arg_one opens22 (fun x => ⟨_, rfl⟩) (vcells_slice Try.underlying22 (hval 0 22 v0 rfl rfl)) h0 (pr := prot (B.env fun _ => False) []) (fun a => prot_empty a)
  refine (law_calls G_none (law01_CodecCanonical_con (law_canonicalS x0 )) Try.func6 rfl (by decide +kernel) (W := W) (args := #[v0]) ⟨hrep0 _ rfl, trivial⟩).mono fun e W' ⟨he, hbel⟩ => ?_
  exact ⟨_, he, law_post hW' rfl rfl rfl Try.underlying4 laid_ok (by decide +kernel) hbel⟩

set_option maxRecDepth 100000 in
theorem codecCanonical_lifted (os : Os) (started : os.Started) (H : Type) (enc : TypeId × Value → H) :
    ReturnsInHanded {} Try.checked os 6 .any (Rows.codecCanonicalSpec.pre6 enc Try.prog Try.f6 Rows.codecCanonicalRow.domain false) (Rows.codecCanonicalSpec.post enc Try.prog Try.f6 false true false false) := by
  refine returnsInHanded_of_change (C := Try.checked) own started (by kernel_rfl) Try.func6
    (ChangeSpec.witness6 (enc := enc) (C := Try.checked) false ⟨#[], #[.slice none 0 0], []⟩ 8 (by kernel_rfl) (by kernel_rfl) (by kernel_rfl) (by kernel_rfl)) ?_
  intro W base args ds gs before hval hW _ _
  exact codecCanonical_contract H enc W base args ds gs before hval hW

theorem codecCanonical_said : Rows.CodecCanonicalSaid :=
  OpenClaim.holds_of_wide 6 Try.f6 rfl rfl rfl rfl rfl rfl rfl ⟨rfl, rfl, rfl, rfl, rfl⟩ rfl rfl rfl rfl rfl (by kernel_rfl) Try.func6 (by kernel_rfl)
    (of_decide_eq_true (by kernel_rfl)) (by unfold Func.isWrapper; first | (rw [if_pos (by decide +kernel)]; kernel_rfl) | (rw [if_neg (by decide +kernel)]; exact ⟨rfl, rfl⟩))
    (fun os started H enc _ => codecCanonical_lifted os started H enc)

end Go.Proofs.Ytihncddenjbecaa
