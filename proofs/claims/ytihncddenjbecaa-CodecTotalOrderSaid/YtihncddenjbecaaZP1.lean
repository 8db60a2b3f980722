/-
  CodecTotalOrder. No condition but that no value holds itself (the row's 'loops').
-/
import Derived.Test.YtihncddenjbecaaZC2
import Derived.Test.YtihncddenjbecaaR29
import Derived.Test.YtihncddenjbecaaRows
import Derived.Test.YtihncddenjbecaaR30
import Derived.WalkKit
import Derived.ProofKit
import Derived.OpenShut
import Derived.JoinedCond
import Derived.KernelRfl
/-
  The encoder: what codec's shape, appendInt, appendValue and Encode compute.
-/
namespace Go.Proofs.Ytihncddenjbecaa
open Go.Rv
set_option linter.unusedVariables false
set_option linter.unusedSimpArgs false

theorem e_bindS {α β : Type} {o : Option α} {a : α} {f : α → Option β} (h : o = some a) : (o.bind fun x => some x).bind f = f a := by rw [h]; rfl
theorem e_bindT {α β : Type} {o : Option α} {a : α} {f : α → Option β} (h : o = some a) : o.bind f = f a := by rw [h]; rfl
theorem e_lt1 {α β : Type} (x y : α) (f : α → Option β) (h : x = y) : lt1 x f = f y := by rw [h]; rfl
theorem e_shr64 (x : UInt64) (n : Nat) : (shr64 x n).toNat = x.toNat / 2 ^ n := by
  show (x.toBitVec >>> n).toNat = _
  rw [BitVec.toNat_ushiftRight, Nat.shiftRight_eq_div_pow]; rfl
theorem e_succ {k : Nat} (h : k < 9223372036854775807) : w64 ((k : Int) + 1) = ((k + 1 : Nat) : Int) := by
  rw [w64_id (by omega)]; rfl

/-! ### Values and their size -/
theorem value_eta (x : Api_Value) : Api_Value.mk x.Kind x.N x.B x.L = x := by cases x; rfl

mutual
def szV : Api_Value → Nat
  | .mk _ _ b l => b.length + 1 + szVs l
def szVs : List Api_Value → Nat
  | [] => 0
  | x :: l => szV x + szVs l
end

theorem szV_pos (x : Api_Value) : 0 < szV x := by
  cases x with
  | mk k n b l => simp only [szV]; omega
theorem szVs_mem {l : List Api_Value} {x : Api_Value} (h : x ∈ l) : szV x ≤ szVs l := by
  induction l with
  | nil => cases h
  | cons y l ih =>
    simp only [szVs]
    rcases List.mem_cons.1 h with rfl | h
    · omega
    · have := ih h; omega
theorem szVs_len (l : List Api_Value) : l.length ≤ szVs l := by
  induction l with
  | nil => simp [szVs]
  | cons y l ih =>
    have := szV_pos y
    simp only [szVs, List.length_cons]; omega
theorem szVs_drop (l : List Api_Value) (k : Nat) : szVs (l.drop k) ≤ szVs l := by
  induction l generalizing k with
  | nil => simp
  | cons y l ih =>
    cases k with
    | zero => simp
    | succ k => have := ih k; simp only [List.drop_succ_cons, szVs]; omega
theorem szV_eq (x : Api_Value) : szV x = x.B.length + 1 + szVs x.L := by
  cases x with
  | mk k n b l => rfl

/-! ### Integers -/
def nbF : Nat → Nat → Nat
  | 0, _ => 0
  | f + 1, u => if u = 0 then 0 else nbF f (u / 256) + 1
/-- The number of bytes that u needs. -/
def nb (u : Nat) : Nat := nbF 8 u

theorem nbF_le (f u : Nat) : nbF f u ≤ f := by
  induction f generalizing u with
  | zero => exact Nat.le_refl _
  | succ f ih =>
    unfold nbF
    split
    · omega
    · have := ih (u / 256); omega
theorem nbF_up (f u : Nat) (h : u < 256 ^ f) (m : Nat) : nbF (f + m) u = nbF f u := by
  induction f generalizing u with
  | zero =>
    have : u = 0 := by simpa using h
    subst this
    cases m with
    | zero => rfl
    | succ m => rw [Nat.zero_add]; unfold nbF; simp
  | succ f ih =>
    rw [show f + 1 + m = (f + m) + 1 by omega]
    unfold nbF
    split
    · rfl
    · rw [ih (u / 256) (by rw [Nat.pow_succ] at h; omega)]
theorem nb_le (u : Nat) : nb u ≤ 8 := nbF_le 8 u
theorem nb_zero : nb 0 = 0 := rfl
theorem nb_step (u : Nat) (h : u ≠ 0) (hu : u < 256 ^ 8) : nb u = nb (u / 256) + 1 := by
  unfold nb
  rw [show (8 : Nat) = 7 + 1 from rfl]
  rw [nbF_up 7 (u / 256) (by have : (256 : Nat) ^ 8 = 256 ^ 7 * 256 := rfl; omega) 1]
  conv => lhs; unfold nbF
  rw [if_neg h]

theorem size_eq (u : UInt64) : codec_appendInt_1 u = some ((nb u.toNat : Nat) : Int) := by
  obtain ⟨x, hx, hq⟩ := loopO_rule (f := fun (v : UInt64 × Int) => codec_appendInt_1_b1 v.1 v.2)
    (fun v => ∃ k : Nat, v.2 = (k : Int) ∧ k + nb v.1.toNat = nb u.toNat) (fun v => v.1.toNat) (fun x => x = ((nb u.toNat : Nat) : Int))
    (by
      rintro ⟨u', k'⟩ ⟨k, hk, hkn⟩
      simp only at hk hkn
      subst hk
      have hlt : u'.toNat < 256 ^ 8 := by have := u'.toNat_lt; exact this
      by_cases h0 : u'.toNat = 0
      · right
        refine ⟨(k : Int), ?_, ?_⟩
        · show codec_appendInt_1_b1 u' (k : Int) = _
          unfold codec_appendInt_1_b1
          rw [if_neg]
          simp only [decide_eq_true_eq, gt_iff_lt, UInt64.lt_iff_toNat_lt]
          show ¬ 0 < u'.toNat
          omega
        · rw [h0, nb_zero] at hkn; rw [← hkn]; rfl
      · left
        have hs : (shr64 u' ((8 : UInt64)).toNat).toNat = u'.toNat / 256 := by rw [e_shr64]; rfl
        refine ⟨(shr64 u' ((8 : UInt64)).toNat, ((k + 1 : Nat) : Int)), ?_, ⟨k + 1, rfl, ?_⟩, ?_⟩
        · show codec_appendInt_1_b1 u' (k : Int) = _
          unfold codec_appendInt_1_b1
          have := nb_le u.toNat
          rw [if_pos, e_succ (by omega)]
          · rfl
          · simp only [decide_eq_true_eq, gt_iff_lt, UInt64.lt_iff_toNat_lt]
            show 0 < u'.toNat
            omega
        · simp only [hs]
          have := nb_step _ h0 hlt
          omega
        · simp only [hs]
          omega) (v0 := (u, 0)) ⟨0, rfl, by simp⟩ (by have := u.toNat_lt; omega)
  subst hq
  unfold codec_appendInt_1
  exact (e_bindT (e_bindT hx)).trans rfl

/-- How many bytes the magnitude of n needs. -/
def nbI (n : Int) : Nat := if n < 0 then nb (~~~(UInt64.ofInt n)).toNat else nb (UInt64.ofInt n).toNat
def tagI (n : Int) : UInt8 := if n < 0 then UInt8.ofInt (31 - (nbI n : Int)) else UInt8.ofInt (32 + (nbI n : Int))
def byteI (n : Int) (k i : Nat) : UInt8 := (shr64 (UInt64.ofInt n) (8 * (k - 1 - i))).toUInt8
def encI (n : Int) : List UInt8 := tagI n :: (List.range (nbI n)).map (byteI n (nbI n))
theorem nbI_le (n : Int) : nbI n ≤ 8 := by unfold nbI; split <;> exact nb_le _
theorem encI_len (n : Int) : (encI n).length = nbI n + 1 := by simp [encI]

theorem appendInt_eq (b : List UInt8) (n : Int) (hb : b.length ≤ 1099511627776) : codec_appendInt b n = some (b ++ encI n) := by
  have h8 := nbI_le n
  have key : ∃ x, loopO (fun (v : Int × List UInt8) => codec_appendInt_b1 n ((nbI n : Nat) : Int) v.1 v.2) (0, b ++ [tagI n]) = some x ∧ x = b ++ encI n :=
    loopO_for (f := fun (v : Int × List UInt8) => codec_appendInt_b1 n ((nbI n : Nat) : Int) v.1 v.2) (nbI n)
      (fun k v => v = ((k : Int), b ++ tagI n :: (List.range k).map (byteI n (nbI n)))) (fun x => x = b ++ encI n) (by omega)
      (fun k v hk hv => by
        subst hv
        refine ⟨_, ?_, rfl⟩
        show codec_appendInt_b1 n ((nbI n : Nat) : Int) (k : Int) _ = _
        unfold codec_appendInt_b1
        have e1 : w64 (((nbI n : Nat) : Int) - 1) = ((nbI n - 1 : Nat) : Int) := by rw [w64_id (by omega)]; omega
        have e2 : w64 (((nbI n - 1 : Nat) : Int) - (k : Int)) = ((nbI n - 1 - k : Nat) : Int) := by rw [w64_id (by omega)]; omega
        have e3 : w64 (8 * ((nbI n - 1 - k : Nat) : Int)) = ((8 * (nbI n - 1 - k) : Nat) : Int) := by rw [w64_id (by omega)]; omega
        rw [if_pos (by simp; omega), e1, e2, e3, if_pos (by unfold NotNeg; omega), if_pos (fits1 (by simp; omega)), e_succ (by omega)]
        simp only [lt1, List.range_succ, List.map_append, List.map_cons, List.map_nil, List.append_assoc, List.cons_append]
        rfl)
      (fun v hv => by
        subst hv
        refine ⟨_, ?_, rfl⟩
        show codec_appendInt_b1 n ((nbI n : Nat) : Int) ((nbI n : Nat) : Int) _ = _
        unfold codec_appendInt_b1
        rw [if_neg (by simp)]
        rfl) (v0 := (0, b ++ [tagI n])) rfl
  obtain ⟨x, hx, rfl⟩ := key
  have hp : (if decide (n < 0) = true then
      (codec_appendInt_1 (~~~UInt64.ofInt n)).bind fun y => lt1 (UInt8.ofInt (w64 (31 - y))) fun (tag : UInt8) => some (y, tag)
    else some (((nb (UInt64.ofInt n).toNat : Nat) : Int), UInt8.ofInt (w64 (32 + ((nb (UInt64.ofInt n).toNat : Nat) : Int)))) : Option (Int × UInt8)) = some (((nbI n : Nat) : Int), tagI n) := by
    by_cases h : n < 0
    · rw [if_pos (by simpa using h), size_eq]
      have e : nbI n = nb (~~~(UInt64.ofInt n)).toNat := if_pos h
      rw [← e]
      show some (((nbI n : Nat) : Int), UInt8.ofInt (w64 (31 - ((nbI n : Nat) : Int)))) = _
      rw [w64_id (by omega)]
      unfold tagI
      rw [if_pos h]
    · rw [if_neg (by simpa using h)]
      have e : nbI n = nb (UInt64.ofInt n).toNat := if_neg h
      rw [← e, w64_id (by omega)]
      unfold tagI
      rw [if_neg h]
  unfold codec_appendInt
  refine (e_bindT (size_eq _)).trans ?_
  refine (e_lt1 _ _ _ rfl).trans ?_
  refine (e_bindT hp).trans ?_
  refine (if_pos (fits1 (by omega))).trans ?_
  refine (e_lt1 _ _ _ rfl).trans ?_
  exact (e_bindT (e_bindT hx)).trans rfl

/-! ### Shape -/
mutual
def shpV : Api_Value → Int × Bool
  | .mk k n b l =>
    if k = 1 then (0, b.length == 0 && l.length == 0)
    else if k = 2 then (0, n == 0 && l.length == 0)
    else if k = 3 then (if n = 0 ∧ b.length = 0 then shpL 0 l else (0, false))
    else (0, false)
def shpL (d : Int) : List Api_Value → Int × Bool
  | [] => (d + 1, true)
  | x :: l => if (shpV x).2 = true then shpL (mx64 d (shpV x).1) l else (0, false)
end

mutual
theorem shpV_le : ∀ v : Api_Value, 0 ≤ (shpV v).1 ∧ (shpV v).1 ≤ szV v
  | .mk k n b l => by
    have h := shpL_le 0 l
    unfold shpV szV
    split
    · simp; omega
    · split
      · simp; omega
      · split
        · split
          · omega
          · simp; omega
        · simp; omega
theorem shpL_le : ∀ (d : Int) (l : List Api_Value), 0 ≤ d → 0 ≤ (shpL d l).1 ∧ (shpL d l).1 ≤ max d (szVs l) + 1
  | d, [] => by intro h; simp [shpL, szVs]; omega
  | d, x :: l => by
    intro h
    have h1 := shpV_le x
    have hm : 0 ≤ mx64 d (shpV x).1 ∧ mx64 d (shpV x).1 ≤ max d (szV x) := by unfold mx64; split <;> omega
    have h2 := shpL_le (mx64 d (shpV x).1) l hm.1
    unfold shpL szVs
    split
    · omega
    · simp; omega
end
end Go.Proofs.Ytihncddenjbecaa
/-
  Readings of values (api.Value, a type that holds slices of itself).
-/
namespace Go.Proofs.Ytihncddenjbecaa
open Go.Rv
set_option linter.unusedVariables false

def rangeI (x : Int) : Prop := -9223372036854775808 ≤ x ∧ x ≤ 9223372036854775807
mutual
def okV : Api_Value → Prop
  | .mk k n b l => rangeI k ∧ rangeI n ∧ okVs l
def okVs : List Api_Value → Prop
  | [] => True
  | x :: l => okV x ∧ okVs l
end
theorem okVs_all (l : List Api_Value) : okVs l ↔ ∀ x ∈ l, okV x := by
  induction l with
  | nil => simp [okVs]
  | cons x l ih => simp [okVs, ih]
theorem okV_eq (v : Api_Value) : okV v ↔ rangeI v.Kind ∧ rangeI v.N ∧ ∀ x ∈ v.L, okV x := by
  rw [← okVs_all]
  cases v with
  | mk k n b l => simp only [okV]; rfl

theorem szL_one (b : List UInt8) : b.length ≤ szL (fun _ => 1) b := by
  unfold szL
  induction b with
  | nil => simp
  | cons x b ih => simp only [List.map_cons, List.sum_cons, List.length_cons] at ih ⊢; omega
theorem szL_szV (l : List Api_Value) : szVs l + 1 ≤ szL szV l := by
  unfold szL
  induction l with
  | nil => simp [szVs]
  | cons x b ih => simp only [List.map_cons, List.sum_cons, szVs] at ih ⊢; omega

theorem opensAt_value {P : Program} {BB : ∀ H : Type, DataW H → Nat} {t tI tB tL : TypeId} {fs : Array Field} (hB : BulkOk BB) (ht : P.underlying t = some (.struct fs))
    (hfs : fs.toList = [⟨"Kind", tI, 0, false, "", "", 0⟩, ⟨"N", tI, 1, false, "", "", 8⟩, ⟨"B", tB, 2, false, "", "", 16⟩, ⟨"L", tL, 3, false, "", "", 40⟩])
    (hn : P.cellsOf t = 4) (cI : P.cellsOf tI = 1) (cB : P.cellsOf tB = 1) (cL : P.cellsOf tL = 1)
    (oI : Opens P BB tI cI64 (fun _ => 1) (fun x => -9223372036854775808 ≤ x ∧ x ≤ 9223372036854775807))
    (oB : Opens P BB tB (cSl cU8) (szL fun _ => 1) (fun l => l.length ≤ maxLen ∧ ∀ x ∈ l, True))
    (hL : P.underlying tL = some (.slice t)) : ∀ fuel, OpensAt P BB fuel t cApi_Value szV okV
  | 0 => opensAt_zero
  | fuel + 1 => by
    have hl : OpensAt P BB fuel tL (cSl cApi_Value) (szL szV) (fun l => l.length ≤ maxLen ∧ ∀ x ∈ l, okV x) := by
      cases fuel with
      | zero => exact opensAt_zero
      | succ n => exact opensAt_slice hB hL hn (fun x => by rw [cApi_Value_eq]; rfl) (opensAt_value hB ht hfs hn cI cB cL oI oB hL n)
    refine opensAt_struct hB ht hn (c := fun x : Int × Int × List UInt8 × List Api_Value × Unit => cI64 x.1 ++ (cI64 x.2.1 ++ (cSl cU8 x.2.2.1 ++ (cSl cApi_Value x.2.2.2.1 ++ []))))
      (by
        rw [hfs]
        exact opensFsAt_cons (k := 1) rfl cI (fun _ => rfl) (oI.at fuel) (opensFsAt_cons (k := 1) rfl cI (fun _ => rfl) (oI.at fuel) (opensFsAt_cons (k := 1) rfl cB (fun _ => rfl) (oB.at fuel) (opensFsAt_cons (k := 1) rfl cL (fun _ => rfl) hl opensFsAt_nil))))
      (fun x => (Api_Value.mk x.1 x.2.1 x.2.2.1 x.2.2.2.1)) (fun x => by rw [cApi_Value_eq]; rfl) (fun x => by rw [cApi_Value_eq]; rfl) (fun x => ?_) (fun x h => ?_)
    · have h1 := szL_one x.2.2.1
      have h2 := szL_szV x.2.2.2.1
      simp only [szV]
      omega
    · exact (okV_eq _).2 ⟨h.1, h.2.1, h.2.2.2.1.2⟩
  termination_by fuel => fuel
end Go.Proofs.Ytihncddenjbecaa
/-
  Readings of arguments of chapter 01.
-/
namespace Go.Proofs.Ytihncddenjbecaa
open Go.Rv Go.ChangeShapes Go.WideShapes Go.ChangeAt Go.RowKit
set_option linter.unusedVariables false

theorem bulk_all (H : Type) (l : List (DataW H)) : (l.map (Rows.uptoBulk (H := H))).sum = Rows.uptoBulkAll l := by
  induction l with
  | nil => rfl
  | cons x l ih => simp only [List.map_cons, List.sum_cons, ih, Rows.uptoBulkAll]

theorem bulk_ok : BulkOk (fun H => Rows.uptoBulk (H := H)) where
  one := fun H d => by
    cases d with
    | lit l => cases l <;> simp [Rows.uptoBulk]
    | _ => simp [Rows.uptoBulk]
  str := fun H l => by simp [Rows.uptoBulk]
  slice := fun H e s => by rw [bulk_all]; simp only [Rows.uptoBulk]; omega
  agg := fun H p => by rw [bulk_all]; simp only [Rows.uptoBulk]; omega

theorem cells_of_5 : Try.prog.cellsOf 5 = 1 := by kernel_rfl
theorem cells_of_3 : Try.prog.cellsOf 3 = 1 := by kernel_rfl
theorem cells_of_22 : Try.prog.cellsOf 22 = 1 := by kernel_rfl
theorem cells_of_23 : Try.prog.cellsOf 23 = 1 := by kernel_rfl
theorem cells_of_25 : Try.prog.cellsOf 25 = 4 := by kernel_rfl
theorem opens5 : Opens Try.prog (fun H => Rows.uptoBulk (H := H)) 5 cU8 (fun _ => 1) (fun _ => True) := opens_u8 bulk_ok Try.underlying5
theorem opens3 : Opens Try.prog (fun H => Rows.uptoBulk (H := H)) 3 cI64 (fun _ => 1) (fun x => -9223372036854775808 ≤ x ∧ x ≤ 9223372036854775807) := opens_i64 bulk_ok Try.underlying3
theorem opens22 : Opens Try.prog (fun H => Rows.uptoBulk (H := H)) 22 (cSl cU8) (szL fun _ => 1) (fun l => l.length ≤ maxLen ∧ ∀ x ∈ l, True) :=
  opens_slice bulk_ok Try.underlying22 cells_of_5 (fun _ => rfl) (opens_u8 bulk_ok Try.underlying5)
theorem opens25 : Opens Try.prog (fun H => Rows.uptoBulk (H := H)) 25 cApi_Value szV okV :=
  opens_of_at (opensAt_value bulk_ok Try.underlying25 rfl cells_of_25 cells_of_3 cells_of_22 cells_of_23 (opens_i64 bulk_ok Try.underlying3) opens22 Try.underlying23)
theorem opens23 : Opens Try.prog (fun H => Rows.uptoBulk (H := H)) 23 (cSl cApi_Value) (szL szV) (fun l => l.length ≤ maxLen ∧ ∀ x ∈ l, okV x) :=
  opens_slice bulk_ok Try.underlying23 cells_of_25 (fun x => by rw [cApi_Value_eq]; rfl) opens25

theorem szL_len (b : List UInt8) : b.length ≤ szL (fun _ => 1) b := szL_one b
theorem own : ownKnob Try.prog.godebug = none := by kernel_rfl
theorem laid_ok : laidOutB Try.prog = true := by kernel_rfl
theorem G_none : ∀ i, B.G i = none := fun _ => rfl
end Go.Proofs.Ytihncddenjbecaa
/-
  The encoder, the recursive functions: shape, appendValue, Encode.
-/
namespace Go.Proofs.Ytihncddenjbecaa
open Go.Rv
set_option linter.unusedVariables false
set_option linter.unusedSimpArgs false

theorem nth_mem {l : List Api_Value} {k : Nat} (h : k < l.length) : nth l k = l[k] := by simp [nth, List.getD_eq_getElem?_getD, h]

theorem len0 {α : Type} (l : List α) : ((l.length : Int) == 0) = (l.length == 0) := by
  cases l with
  | nil => rfl
  | cons a l => simp; omega
theorem shpL_nil (d : Int) : shpL d [] = (d + 1, true) := by unfold shpL; rfl
theorem shpL_cons (d : Int) (x : Api_Value) (l : List Api_Value) : shpL d (x :: l) = if (shpV x).2 = true then shpL (mx64 d (shpV x).1) l else (0, false) := by
  conv => lhs; unfold shpL

/-! ### Shape -/
theorem shape_loop (v : Api_Value) (rec_ : Api_Value → Option (Int × Bool)) (hr : ∀ x ∈ v.L, rec_ x = some (shpV x)) (hs : szV v ≤ 1099511627776) :
    ∃ x, loopO (fun (s : Int × Int) => codec_shape_b1 v rec_ s.1 s.2) (0, 0) = some x ∧
      ((∃ d : Int, shpL 0 v.L = (d + 1, true) ∧ 0 ≤ d ∧ d ≤ 1099511627776 ∧ x = .inl d) ∨ (shpL 0 v.L = (0, false) ∧ x = .inr (.inr (.inr (0, false))))) := by
  have hsz := szV_eq v
  have hlen := szVs_len v.L
  refine loopO_rule (f := fun (s : Int × Int) => codec_shape_b1 v rec_ s.1 s.2)
    (fun s => ∃ k : Nat, s.2 = (k : Int) ∧ k ≤ v.L.length ∧ 0 ≤ s.1 ∧ s.1 ≤ 1099511627776 ∧ shpL 0 v.L = shpL s.1 (v.L.drop k)) (fun s => v.L.length - s.2.toNat) _ ?_ ⟨0, rfl, Nat.zero_le _, by simp, by simp, rfl⟩ (by omega)
  rintro ⟨d, t⟩ ⟨k, ht, hk, hd0, hd1, hsp⟩
  simp only at ht hd0 hd1 hsp
  subst ht
  by_cases hkl : k < v.L.length
  · have hx : v.L.drop k = v.L[k] :: v.L.drop (k + 1) := List.drop_eq_getElem_cons hkl
    have hm : v.L[k] ∈ v.L := List.getElem_mem hkl
    have hsx := szVs_mem hm
    have hle := shpV_le v.L[k]
    rw [hx, shpL_cons] at hsp
    have hb : codec_shape_b1 v rec_ d (k : Int) = if (!(shpV v.L[k]).2) = true then some (.inr (.inr (.inr (.inr (0, false))))) else some (.inl (mx64 d (shpV v.L[k]).1, ((k + 1 : Nat) : Int))) := by
      unfold codec_shape_b1
      rw [if_pos (by simp; omega), if_pos (inR_of hkl)]
      simp only [Int.toNat_natCast, nth_mem hkl, lt1, value_eta]
      refine (e_bindT (hr _ hm)).trans ?_
      rw [e_succ (by omega)]
      rfl
    by_cases hg : (shpV v.L[k]).2 = true
    · left
      rw [if_pos hg] at hsp
      rw [if_neg (by simp [hg])] at hb
      refine ⟨_, hb, ⟨k + 1, rfl, hkl, ?_, ?_, hsp⟩, ?_⟩
      · simp only [mx64]; split <;> omega
      · simp only [mx64]; split <;> omega
      · simp only [Int.toNat_natCast]; omega
    · right
      rw [if_neg hg] at hsp
      rw [if_pos (by simp [hg])] at hb
      exact ⟨_, hb, .inr ⟨hsp, rfl⟩⟩
  · right
    have hkk : k = v.L.length := by omega
    subst hkk
    rw [List.drop_length, shpL_nil] at hsp
    refine ⟨.inl d, ?_, .inl ⟨d, hsp, hd0, hd1, rfl⟩⟩
    show codec_shape_b1 v rec_ d ((v.L.length : Nat) : Int) = _
    unfold codec_shape_b1
    rw [if_neg (by simp)]

theorem shape_n : ∀ (n : Nat) (v : Api_Value), szV v < n → szV v ≤ 1099511627776 → codec_shape_n n v = some (shpV v)
  | 0, v, h, _ => absurd h (Nat.not_lt_zero _)
  | n + 1, v, h, hs => by
    show codec_shape_F (codec_shape_n n) v = _
    have hsz := szV_eq v
    obtain ⟨x, hx, hq⟩ := shape_loop v (codec_shape_n n) (fun y hy => shape_n n y (by have := szVs_mem hy; omega) (by have := szVs_mem hy; omega)) hs
    have hv : shpV v = if v.Kind = 1 then (0, v.B.length == 0 && v.L.length == 0) else if v.Kind = 2 then (0, v.N == 0 && v.L.length == 0) else if v.Kind = 3 then (if v.N = 0 ∧ v.B.length = 0 then shpL 0 v.L else (0, false)) else (0, false) := by
      cases v with
      | mk k n b l => unfold shpV; rfl
    rw [hv]
    unfold codec_shape_F
    by_cases h1 : v.Kind = 1
    · rw [if_pos (by simp [h1]), if_pos h1]
      rw [len0, len0]
      by_cases hb : v.B.length = 0
      · simp [hb]
      · have : (v.B.length == 0) = false := by simpa using hb
        simp [this]
    · rw [if_neg (by simp [h1]), if_neg h1]
      by_cases h2 : v.Kind = 2
      · rw [if_pos (by simp [h2]), if_pos h2, len0]
        by_cases hn : v.N = 0
        · simp [hn]
        · simp [hn]
      · rw [if_neg (by simp [h2]), if_neg h2]
        by_cases h3 : v.Kind = 3
        · rw [if_pos (by simp [h3]), if_pos h3]
          by_cases hn : v.N = 0
          · by_cases hb : v.B.length = 0
            · rw [if_pos (show v.N = 0 ∧ v.B.length = 0 from ⟨hn, hb⟩)]
              have e1 : (if (v.N != 0) = true then some true else some ((v.B.length : Int) != 0) : Option Bool) = some false := by simp [hn, hb]
              refine (e_bindT (a := (.inr (shpL 0 v.L) : Unit ⊕ (Int × Bool))) ?_).trans rfl
              refine (e_bindT e1).trans ?_
              rw [if_neg (by simp)]
              rcases hq with ⟨d, e, h0, hd, rfl⟩ | ⟨e, rfl⟩
              · rw [hx, e]
                show some (Sum.inr (w64 (d + 1), true)) = _
                rw [w64_id (by omega)]
              · rw [hx, e]
                rfl
            · rw [if_neg (show ¬ (v.N = 0 ∧ v.B.length = 0) from fun h => hb h.2)]
              have e1 : (if (v.N != 0) = true then some true else some ((v.B.length : Int) != 0) : Option Bool) = some true := by
                rw [if_neg (by simp [hn])]; simp; intro e; apply hb; simp [e]
              refine (e_bindT (a := (.inr (0, false) : Unit ⊕ (Int × Bool))) ?_).trans rfl
              exact (e_bindT e1).trans rfl
          · rw [if_neg (show ¬ (v.N = 0 ∧ v.B.length = 0) from fun h => hn h.1)]
            have e1 : (if (v.N != 0) = true then some true else some ((v.B.length : Int) != 0) : Option Bool) = some true := by simp [hn]
            refine (e_bindT (a := (.inr (0, false) : Unit ⊕ (Int × Bool))) ?_).trans rfl
            exact (e_bindT e1).trans rfl
        · rw [if_neg (by simp [h3]), if_neg h3]
          rfl

/-! ### Encodings -/
def escB : List UInt8 → List UInt8
  | [] => []
  | c :: l => if c = 0 then 0 :: 255 :: escB l else c :: escB l
theorem escB_app (a b : List UInt8) : escB (a ++ b) = escB a ++ escB b := by
  induction a with
  | nil => rfl
  | cons c a ih => simp only [List.cons_append, escB]; split <;> simp [ih]
theorem escB_len (a : List UInt8) : (escB a).length ≤ 2 * a.length := by
  induction a with
  | nil => simp [escB]
  | cons c a ih => simp only [escB]; split <;> simp only [List.length_cons] <;> omega

mutual
def encV : Api_Value → List UInt8
  | .mk k n b l => if k = 1 then encI n else if k = 2 then 48 :: (escB b ++ [0, 0]) else 64 :: (encL l ++ [0])
def encL : List Api_Value → List UInt8
  | [] => []
  | x :: l => encV x ++ encL l
end
theorem encV_eq (v : Api_Value) : encV v = if v.Kind = 1 then encI v.N else if v.Kind = 2 then 48 :: (escB v.B ++ [0, 0]) else 64 :: (encL v.L ++ [0]) := by
  cases v with
  | mk k n b l => unfold encV; rfl
theorem encL_app (a b : List Api_Value) : encL (a ++ b) = encL a ++ encL b := by
  induction a with
  | nil => rfl
  | cons c a ih => simp only [List.cons_append, encL, ih, List.append_assoc]
mutual
theorem encV_len : ∀ v : Api_Value, (encV v).length ≤ 9 * szV v
  | .mk k n b l => by
    have h := encL_len l
    have h1 := encI_len n
    have h2 := nbI_le n
    have h3 := escB_len b
    unfold encV szV
    split
    · omega
    · split
      · simp only [List.length_cons, List.length_append, List.length_nil]; omega
      · simp only [List.length_cons, List.length_append, List.length_nil]; omega
theorem encL_len : ∀ l : List Api_Value, (encL l).length ≤ 9 * szVs l
  | [] => by simp [encL]
  | x :: l => by
    have h1 := encV_len x
    have h2 := encL_len l
    unfold encL szVs
    simp only [List.length_append]; omega
end
theorem encL_take (l : List Api_Value) (k : Nat) : (encL (l.take k)).length ≤ 9 * szVs l := by
  have h := encL_len l
  have : encL l = encL (l.take k) ++ encL (l.drop k) := by rw [← encL_app, List.take_append_drop]
  rw [this, List.length_append] at h
  omega

theorem bytes_loop (v : Api_Value) (a : List UInt8) (ha : a.length + 2 * v.B.length ≤ 100000000000000) :
    ∃ x, loopO (fun (s : Int × List UInt8) => codec_appendValue_b1 v s.1 s.2) (0, a) = some x ∧ x = a ++ escB v.B := by
  refine loopO_for (f := fun (s : Int × List UInt8) => codec_appendValue_b1 v s.1 s.2) v.B.length (fun k s => s = ((k : Int), a ++ escB (v.B.take k))) _ (by omega) ?_ ?_ (by simp [escB])
  · intro k s hk hs
    subst hs
    have hx : v.B.take (k + 1) = v.B.take k ++ [v.B[k]] := by rw [List.take_add_one, List.getElem?_eq_getElem hk]; rfl
    have hn : nth v.B k = v.B[k] := by simp [nth, List.getD_eq_getElem?_getD, hk]
    have hl := escB_len (v.B.take k)
    rw [List.length_take] at hl
    refine ⟨_, ?_, rfl⟩
    show codec_appendValue_b1 v (k : Int) _ = _
    unfold codec_appendValue_b1
    rw [if_pos (by simp; omega), if_pos (inR_of hk), if_pos (fits1 (by simp only [List.length_append]; omega)), e_succ (by omega)]
    simp only [Int.toNat_natCast, hn, lt1, hx, escB_app]
    by_cases h0 : v.B[k] = 0
    · rw [if_pos (by simp [h0]), if_pos (fits1 (by simp only [List.length_append, List.length_cons, List.length_nil]; omega))]
      simp [escB, h0]
    · rw [if_neg (by simp [h0])]
      simp [escB, h0]
  · intro s hs
    subst hs
    refine ⟨_, ?_, rfl⟩
    show codec_appendValue_b1 v ((v.B.length : Nat) : Int) _ = _
    unfold codec_appendValue_b1
    rw [if_neg (by simp), List.take_length]

theorem list_loop (v : Api_Value) (a : List UInt8) (rec_ : List UInt8 → Api_Value → Option (List UInt8)) (hr : ∀ x ∈ v.L, ∀ b, b.length + 9 * szV x ≤ a.length + 9 * szVs v.L → rec_ b x = some (b ++ encV x)) (hs : szV v ≤ 1099511627776) :
    ∃ x, loopO (fun (s : Int × List UInt8) => codec_appendValue_b2 v rec_ s.1 s.2) (0, a) = some x ∧ x = a ++ encL v.L := by
  have hsz := szV_eq v
  have hlen := szVs_len v.L
  refine loopO_for (f := fun (s : Int × List UInt8) => codec_appendValue_b2 v rec_ s.1 s.2) v.L.length (fun k s => s = ((k : Int), a ++ encL (v.L.take k))) _ (by omega) ?_ ?_ (by simp [encL])
  · intro k s hk hs'
    subst hs'
    have hx : v.L.take (k + 1) = v.L.take k ++ [v.L[k]] := by rw [List.take_add_one, List.getElem?_eq_getElem hk]; rfl
    have hm : v.L[k] ∈ v.L := List.getElem_mem hk
    have hsp : szVs v.L = szVs (v.L.take k) + szVs (v.L.drop k) := by
      have key : ∀ a b : List Api_Value, szVs (a ++ b) = szVs a + szVs b := by
        intro a b
        induction a with
        | nil => simp [szVs]
        | cons y a ih => simp only [List.cons_append, szVs, ih]; omega
      rw [← key, List.take_append_drop]
    rw [List.drop_eq_getElem_cons hk] at hsp
    simp only [szVs] at hsp
    have hl := encL_len (v.L.take k)
    refine ⟨_, ?_, rfl⟩
    show codec_appendValue_b2 v rec_ (k : Int) _ = _
    unfold codec_appendValue_b2
    rw [if_pos (by simp; omega), if_pos (inR_of hk), e_succ (by omega)]
    simp only [Int.toNat_natCast, nth_mem hk, lt1, value_eta]
    refine (e_bindT (hr _ hm _ (by simp only [List.length_append]; omega))).trans ?_
    rw [hx, encL_app]
    simp [encL]
  · intro s hs'
    subst hs'
    refine ⟨_, ?_, rfl⟩
    show codec_appendValue_b2 v rec_ ((v.L.length : Nat) : Int) _ = _
    unfold codec_appendValue_b2
    rw [if_neg (by simp), List.take_length]

theorem append_n : ∀ (n : Nat) (b : List UInt8) (v : Api_Value), szV v < n → b.length + 9 * szV v ≤ 1099511627776 → codec_appendValue_n n b v = some (b ++ encV v)
  | 0, b, v, h, _ => absurd h (Nat.not_lt_zero _)
  | n + 1, b, v, h, hs => by
    show codec_appendValue_F (codec_appendValue_n n) b v = _
    have hsz := szV_eq v
    rw [encV_eq]
    unfold codec_appendValue_F
    by_cases h1 : v.Kind = 1
    · rw [if_pos (by simp [h1]), if_pos h1]
      rw [appendInt_eq b v.N (by omega)]
      rfl
    · rw [if_neg (by simp [h1]), if_neg h1]
      by_cases h2 : v.Kind = 2
      · rw [if_pos (by simp [h2]), if_pos h2]
        obtain ⟨x, hx, rfl⟩ := bytes_loop v (b ++ [48]) (by simp only [List.length_append, List.length_cons, List.length_nil]; omega)
        have hl := escB_len v.B
        refine (e_bindT (a := (.inr (b ++ 48 :: (escB v.B ++ [0, 0])) : Unit ⊕ List UInt8)) ?_).trans rfl
        refine (if_pos (fits1 (by omega))).trans ?_
        refine (e_lt1 _ _ _ rfl).trans ?_
        refine (e_bindT (e_bindT hx)).trans ?_
        refine (if_pos (fits1 (by simp only [List.length_append, List.length_cons, List.length_nil]; omega))).trans ?_
        simp [lt1]
      · rw [if_neg (by simp [h2]), if_neg h2]
        obtain ⟨x, hx, rfl⟩ := list_loop v (b ++ [64]) (codec_appendValue_n n) (fun y hy c hc => append_n n c y (by have := szVs_mem hy; omega) (by simp only [List.length_append, List.length_cons, List.length_nil] at hc; omega)) (by omega)
        have hl := encL_len v.L
        refine (e_bindT (a := (.inl () : Unit ⊕ List UInt8)) rfl).trans ?_
        refine (if_pos (fits1 (by omega))).trans ?_
        refine (e_lt1 _ _ _ rfl).trans ?_
        refine (e_bindT (e_bindT hx)).trans ?_
        refine (if_pos (fits1 (by simp only [List.length_append, List.length_cons, List.length_nil]; omega))).trans ?_
        simp [lt1]

/-- What Encode answers. -/
def Enc (v : Api_Value) : List UInt8 × Int :=
  if (shpV v).2 = true then (if (shpV v).1 > 16 then ([], 2) else if (encV v).length > 65536 then ([], 2) else (encV v, 0)) else ([], 10)

theorem encode_eq (v : Api_Value) (h : szV v ≤ 100000000000) : codec_Encode v = some (Enc v) := by
  unfold codec_Encode codec_shape codec_appendValue Enc
  refine (e_bindT (shape_n 18446744073709551616 v (by omega) (by omega))).trans ?_
  by_cases h1 : (shpV v).2 = true
  · rw [if_neg (by simp [h1]), if_pos h1]
    by_cases h2 : (shpV v).1 > 16
    · rw [if_pos (by simpa using h2), if_pos h2]
    · rw [if_neg (by simpa using h2), if_neg h2]
      refine (e_bindT (append_n 18446744073709551616 [] v (by omega) (by simp; omega))).trans ?_
      by_cases h3 : (encV v).length > 65536
      · rw [if_pos (by simp; omega), if_pos h3]
      · rw [if_neg (by simp; omega), if_neg h3]
        rfl
  · rw [if_pos (by simp [h1]), if_neg h1]
end Go.Proofs.Ytihncddenjbecaa
/-
  How codec's Compare and the reference's compare values.
-/
namespace Go.Proofs.Ytihncddenjbecaa
open Go.Rv
set_option linter.unusedVariables false
set_option linter.unusedSimpArgs false

def cmpI (a b : Int) : Int := if a < b then -1 else if b < a then 1 else 0
def cmpB : List UInt8 → List UInt8 → Int
  | [], [] => 0
  | [], _ :: _ => -1
  | _ :: _, [] => 1
  | x :: l, y :: m => if x = y then cmpB l m else if x < y then -1 else 1
mutual
def cmpV : Api_Value → Api_Value → Int
  | .mk k n b l, w => if k ≠ w.Kind then cmpI k w.Kind else if k = 1 then cmpI n w.N else if k = 2 then cmpB b w.B else if k = 3 then cmpL l w.L else 0
def cmpL : List Api_Value → List Api_Value → Int
  | [], [] => 0
  | [], _ :: _ => -1
  | _ :: _, [] => 1
  | x :: l, y :: m => if cmpV x y ≠ 0 then cmpV x y else cmpL l m
end
theorem cmpV_eq (v w : Api_Value) : cmpV v w = if v.Kind ≠ w.Kind then cmpI v.Kind w.Kind else if v.Kind = 1 then cmpI v.N w.N else if v.Kind = 2 then cmpB v.B w.B else if v.Kind = 3 then cmpL v.L w.L else 0 := by
  cases v with
  | mk k n b l => rw [cmpV]; rfl

theorem cmpI_rng (a b : Int) : cmpI a b = -1 ∨ cmpI a b = 0 ∨ cmpI a b = 1 := by unfold cmpI; (repeat' split) <;> simp
theorem cmpB_rng : ∀ a b : List UInt8, cmpB a b = -1 ∨ cmpB a b = 0 ∨ cmpB a b = 1
  | [], [] => by simp [cmpB]
  | [], _ :: _ => by simp [cmpB]
  | _ :: _, [] => by simp [cmpB]
  | x :: l, y :: m => by
    unfold cmpB
    split
    · exact cmpB_rng l m
    · split <;> simp
theorem order_eq (a b : Int) : r01_Order a b = some (cmpI a b) := by
  unfold r01_Order cmpI
  by_cases h : a < b
  · rw [if_pos (by simpa using h), if_pos h]
  · rw [if_neg (by simpa using h), if_neg h]
    by_cases h2 : b < a
    · rw [if_pos (by simpa using h2), if_pos h2]
    · rw [if_neg (by simpa using h2), if_neg h2]
theorem nth_lt {α : Type} [Inhabited α] {l : List α} {k : Nat} (h : k < l.length) : nth l k = l[k] := by simp [nth, List.getD_eq_getElem?_getD, h]

/-! ### Byte strings -/
theorem cmpB_drop {a b : List UInt8} {k : Nat} (ha : k < a.length) (hb : k < b.length) : cmpB (a.drop k) (b.drop k) = if nth a k = nth b k then cmpB (a.drop (k + 1)) (b.drop (k + 1)) else if nth a k < nth b k then -1 else 1 := by
  rw [List.drop_eq_getElem_cons ha, List.drop_eq_getElem_cons hb, nth_lt ha, nth_lt hb, cmpB]

theorem u8_lt_int (x y : UInt8) : ((x.toNat : Int) < (y.toNat : Int)) = (x < y) := by
  apply propext
  rw [UInt8.lt_iff_toNat_lt]; omega

theorem cmpB_end {a b : List UInt8} {k : Nat} (hk : k ≤ a.length) (hk' : k ≤ b.length) (h : ¬ (k < a.length ∧ k < b.length)) : cmpB (a.drop k) (b.drop k) = cmpI (a.length : Int) (b.length : Int) := by
  unfold cmpI
  rcases Nat.lt_trichotomy a.length b.length with hl | hl | hl
  · have hka : k = a.length := by omega
    rw [if_pos (by omega), hka, List.drop_length, List.drop_eq_getElem_cons (by omega)]
    rfl
  · have hka : k = a.length := by omega
    rw [if_neg (by omega), if_neg (by omega), hka, List.drop_length, hl, List.drop_length]
    rfl
  · have hkb : k = b.length := by omega
    rw [if_neg (by omega), if_pos (by omega), hkb, List.drop_length, List.drop_eq_getElem_cons (by omega)]
    rfl

theorem orderBytes_eq (a b : List UInt8) (ha : a.length ≤ 1099511627776) : r01_OrderBytes a b = some (cmpB a b) := by
  have key : ∃ x, loopO (fun (v : Int) => r01_OrderBytes_b1 a b v) 0 = some x ∧ ((x = .inl () ∧ cmpB a b = cmpI (a.length : Int) (b.length : Int)) ∨ (x = .inr (.inr (cmpB a b)))) := by
    refine loopO_rule (f := fun (v : Int) => r01_OrderBytes_b1 a b v) (fun i => ∃ k : Nat, i = (k : Int) ∧ k ≤ a.length ∧ k ≤ b.length ∧ cmpB a b = cmpB (a.drop k) (b.drop k)) (fun i => a.length - i.toNat) _ ?_ ⟨0, rfl, by simp, by simp, rfl⟩ (by omega)
    rintro _ ⟨k, rfl, hka, hkb, he⟩
    show _ ∨ _
    unfold r01_OrderBytes_b1
    by_cases h : k < a.length ∧ k < b.length
    · have hc : (if decide ((k : Int) < (a.length : Int)) = true then some (decide ((k : Int) < (b.length : Int))) else some false : Option Bool) = some true := by
        rw [if_pos (by simp; omega)]; simp; omega
      have r1 : InR (k : Int) a.length := ⟨by omega, by omega⟩
      have r2 : InR (k : Int) b.length := ⟨by omega, by omega⟩
      rw [cmpB_drop h.1 h.2] at he
      by_cases hxy : nth a k = nth b k
      · left
        rw [if_pos hxy] at he
        refine ⟨_, (e_bindT hc).trans ?_, ⟨k + 1, rfl, by omega, by omega, he⟩, ?_⟩
        · rw [if_pos rfl, if_pos r1, if_pos r2, if_neg (by simp [hxy]), e_succ (by omega)]
        · simp only [Int.toNat_natCast]; omega
      · right
        rw [if_neg hxy] at he
        refine ⟨_, (e_bindT hc).trans ?_, .inr rfl⟩
        rw [if_pos rfl, if_pos r1, if_pos r2, if_pos (by simpa using hxy), if_pos r1, if_pos r2, Int.toNat_natCast, order_eq]
        have hne : nth b k ≠ nth a k := fun e => hxy e.symm
        have : cmpI ((nth a k).toNat : Int) ((nth b k).toNat : Int) = cmpB a b := by
          rw [he]
          unfold cmpI
          by_cases hlt : nth a k < nth b k
          · rw [if_pos hlt, if_pos (by rw [u8_lt_int]; exact hlt)]
          · have : nth b k < nth a k := by
              rw [UInt8.lt_iff_toNat_lt] at hlt ⊢
              have : (nth a k).toNat ≠ (nth b k).toNat := fun e => hxy (UInt8.toNat_inj.1 e)
              omega
            rw [if_neg hlt, if_neg (by rw [u8_lt_int]; exact hlt), if_pos (by rw [u8_lt_int]; exact this)]
        rw [this]; rfl
    · right
      have hc : (if decide ((k : Int) < (a.length : Int)) = true then some (decide ((k : Int) < (b.length : Int))) else some false : Option Bool) = some false := by
        by_cases hk : k < a.length
        · rw [if_pos (by simp; omega)]; simp; omega
        · rw [if_neg (by simp; omega)]
      refine ⟨_, (e_bindT hc).trans ?_, .inl ⟨rfl, ?_⟩⟩
      · rw [if_neg (by simp)]
      · rw [he]; exact cmpB_end hka hkb h
  obtain ⟨x, hx, hq⟩ := key
  unfold r01_OrderBytes
  rcases hq with ⟨rfl, he⟩ | rfl
  · refine (e_bindT (a := .inl ()) ((e_bindT hx).trans rfl)).trans ?_
    rw [he]
    exact e_bindT (order_eq _ _)
  · exact (e_bindT (a := .inr (cmpB a b)) ((e_bindT hx).trans rfl)).trans rfl

theorem sameBytes_eq (a b : List UInt8) (ha : a.length ≤ 1099511627776) : r01_SameBytes a b = some (cmpB a b == 0) := by
  unfold r01_SameBytes
  exact e_bindT (orderBytes_eq a b ha)

theorem ba_get {l : List UInt8} {i : Nat} (h : i < l.length) : (⟨l.toArray⟩ : ByteArray)[i]! = nth l i := by
  rw [nth_lt h]
  have h2 : i < (⟨l.toArray⟩ : ByteArray).size := by simpa [ByteArray.size] using h
  rw [getElem!_pos (⟨l.toArray⟩ : ByteArray) i h2]
  show l.toArray[i] = _
  simp

theorem cmp_from (a b : List UInt8) : ∀ (m k : Nat), k + m = min a.length b.length →
    (match (List.range' k m).find? fun i => (⟨a.toArray⟩ : ByteArray)[i]! != (⟨b.toArray⟩ : ByteArray)[i]! with
      | some i => if (⟨a.toArray⟩ : ByteArray)[i]! < (⟨b.toArray⟩ : ByteArray)[i]! then -1 else 1
      | none => if (⟨a.toArray⟩ : ByteArray).size < (⟨b.toArray⟩ : ByteArray).size then (-1 : Int) else if (⟨a.toArray⟩ : ByteArray).size > (⟨b.toArray⟩ : ByteArray).size then 1 else 0) = cmpB (a.drop k) (b.drop k)
  | 0, k, h => by
    rw [List.range'_zero, List.find?_nil, cmpB_end (by omega) (by omega) (by omega)]
    have e : ∀ l : List UInt8, (⟨l.toArray⟩ : ByteArray).size = l.length := fun l => by simp [ByteArray.size]
    simp only [e, cmpI, Int.ofNat_lt, gt_iff_lt]
  | m + 1, k, h => by
    have ha : k < a.length := by omega
    have hb : k < b.length := by omega
    rw [List.range'_succ, List.find?_cons, cmpB_drop ha hb, ba_get ha, ba_get hb]
    by_cases he : nth a k = nth b k
    · have : (nth a k != nth b k) = false := by simp [he]
      rw [this, if_pos he]
      exact cmp_from a b m (k + 1) (by omega)
    · have : (nth a k != nth b k) = true := by simp [he]
      rw [this, if_neg he]
      show (if (⟨a.toArray⟩ : ByteArray)[k]! < (⟨b.toArray⟩ : ByteArray)[k]! then (-1 : Int) else 1) = _
      rw [ba_get ha, ba_get hb]

theorem bytesCmp_eq (a b : List UInt8) : bytesCmp a b = cmpB a b := by
  have h := cmp_from a b (min a.length b.length) 0 (by omega)
  rw [← List.range_eq_range'] at h
  unfold bytesCmp Extern.BytealgCompare.cmp
  have e : ∀ l : List UInt8, (⟨l.toArray⟩ : ByteArray).size = l.length := fun l => by simp [ByteArray.size]
  rw [e, e]
  rw [e, e] at h
  exact h

theorem bytesCompare_eq (a b : List UInt8) : bytes_Compare a b = some (cmpB a b) := by
  unfold bytes_Compare bytealg_Compare bytesCmpO
  rw [bytesCmp_eq]; rfl
theorem cmpInt_eq (a b : Int) : cmp_Compare a b = some (cmpI a b) := by
  unfold cmp_Compare cmp_isNaN cmpI
  by_cases h : a < b
  · simp [h]
  · by_cases h2 : b < a <;> simp [h, h2]

/-! ### Values -/
theorem cmpL_drop {a b : List Api_Value} {k : Nat} (ha : k < a.length) (hb : k < b.length) : cmpL (a.drop k) (b.drop k) = if cmpV (nth a k) (nth b k) ≠ 0 then cmpV (nth a k) (nth b k) else cmpL (a.drop (k + 1)) (b.drop (k + 1)) := by
  rw [List.drop_eq_getElem_cons ha, List.drop_eq_getElem_cons hb, nth_lt ha, nth_lt hb, cmpL]
theorem cmpL_end {a b : List Api_Value} {k : Nat} (hk : k ≤ a.length) (hk' : k ≤ b.length) (h : ¬ (k < a.length ∧ k < b.length)) : cmpL (a.drop k) (b.drop k) = cmpI (a.length : Int) (b.length : Int) := by
  unfold cmpI
  rcases Nat.lt_trichotomy a.length b.length with hl | hl | hl
  · have hka : k = a.length := by omega
    rw [if_pos (by omega), hka, List.drop_length, List.drop_eq_getElem_cons (by omega), cmpL]
  · have hka : k = a.length := by omega
    rw [if_neg (by omega), if_neg (by omega), hka, List.drop_length, hl, List.drop_length, cmpL]
  · have hkb : k = b.length := by omega
    rw [if_neg (by omega), if_pos (by omega), hkb, List.drop_length, List.drop_eq_getElem_cons (by omega), cmpL]

theorem compareFunc_eq (a b : List Api_Value) (f : Api_Value → Api_Value → Option Int) (hf : ∀ x ∈ a, ∀ y, f x y = some (cmpV x y)) (ha : a.length ≤ 9223372036854775807) : slices_CompareFunc a b f = some (cmpL a b) := by
  have key : ∃ x, loopO (fun (v : Int) => slices_CompareFunc_b1 a b f v) 0 = some x ∧ ((x = .inl () ∧ a.length ≤ b.length ∧ cmpL a b = cmpI (a.length : Int) (b.length : Int)) ∨ (x = .inr (.inr (cmpL a b)))) := by
    refine loopO_rule (f := fun (v : Int) => slices_CompareFunc_b1 a b f v) (fun i => ∃ k : Nat, i = (k : Int) ∧ k ≤ a.length ∧ k ≤ b.length ∧ cmpL a b = cmpL (a.drop k) (b.drop k)) (fun i => a.length - i.toNat) _ ?_ ⟨0, rfl, by simp, by simp, rfl⟩ (by omega)
    rintro _ ⟨k, rfl, hka, hkb, he⟩
    show _ ∨ _
    unfold slices_CompareFunc_b1
    by_cases h1 : k < a.length
    · have r1 : InR (k : Int) a.length := ⟨by omega, by omega⟩
      rw [if_pos (by simp; omega), if_pos r1]
      simp only [lt1, Int.toNat_natCast]
      by_cases h2 : k < b.length
      · have r2 : InR (k : Int) b.length := ⟨by omega, by omega⟩
        rw [if_neg (by simp; omega), if_pos r2]
        rw [value_eta, value_eta, hf _ (by rw [nth_lt h1]; exact List.getElem_mem h1)]
        rw [cmpL_drop h1 h2] at he
        by_cases hz : cmpV (nth a k) (nth b k) = 0
        · left
          rw [if_neg (by simpa using hz)] at he
          refine ⟨_, (e_bindT rfl).trans ?_, ⟨k + 1, rfl, by omega, by omega, he⟩, ?_⟩
          · rw [if_neg (by simp [hz]), e_succ (by omega)]
          · simp only [Int.toNat_natCast]; omega
        · right
          rw [if_pos hz] at he
          refine ⟨_, (e_bindT rfl).trans ?_, .inr rfl⟩
          rw [if_pos (by simpa using hz), he]; rfl
      · right
        rw [if_pos (by simp; omega)]
        refine ⟨_, rfl, .inr ?_⟩
        rw [he, cmpL_end hka hkb (by omega)]
        unfold cmpI
        rw [if_neg (by omega), if_pos (by omega)]
    · right
      rw [if_neg (by simp; omega)]
      exact ⟨_, rfl, .inl ⟨rfl, by omega, by rw [he]; exact cmpL_end hka hkb (by omega)⟩⟩
  obtain ⟨x, hx, hq⟩ := key
  unfold slices_CompareFunc
  rcases hq with ⟨rfl, hl, he⟩ | rfl
  · refine (e_bindT (a := .inl ()) ((e_bindT hx).trans rfl)).trans ?_
    rw [he]
    unfold cmpI
    by_cases h : (a.length : Int) < (b.length : Int)
    · simp [h]
    · have : ¬ (b.length : Int) < (a.length : Int) := by omega
      simp [h, this]
  · exact (e_bindT (a := .inr (cmpL a b)) ((e_bindT hx).trans rfl)).trans rfl

theorem compare_n : ∀ (n : Nat) (a b : Api_Value), szV a < n → szV a ≤ 1099511627776 → codec_Compare_n n a b = some (cmpV a b)
  | 0, a, b, h, _ => absurd h (Nat.not_lt_zero _)
  | n + 1, a, b, h, hs => by
    show codec_Compare_F (codec_Compare_n n) a b = _
    have hsz := szV_eq a
    have hlen := szVs_len a.L
    unfold codec_Compare_F
    rw [cmpV_eq]
    refine (e_bindT (cmpInt_eq _ _)).trans ?_
    by_cases hk : a.Kind = b.Kind
    · have hz : cmpI a.Kind b.Kind = 0 := by unfold cmpI; simp [hk]
      rw [if_neg (show ¬ (cmpI a.Kind b.Kind != 0) = true by simp [hz]), if_neg (show ¬ (a.Kind ≠ b.Kind) by simpa using hk)]
      by_cases h1 : a.Kind = 1
      · rw [if_pos (show (a.Kind == 1) = true by simp [h1]), if_pos h1]; exact e_bindT (cmpInt_eq _ _)
      · rw [if_neg (show ¬ (a.Kind == 1) = true by simp [h1]), if_neg h1]
        by_cases h2 : a.Kind = 2
        · rw [if_pos (show (a.Kind == 2) = true by simp [h2]), if_pos h2]; exact e_bindT (bytesCompare_eq _ _)
        · rw [if_neg (show ¬ (a.Kind == 2) = true by simp [h2]), if_neg h2]
          by_cases h3 : a.Kind = 3
          · rw [if_pos (show (a.Kind == 3) = true by simp [h3]), if_pos h3]
            exact e_bindT (compareFunc_eq _ _ _ (fun x hx y => compare_n n x y (by have := szVs_mem hx; omega) (by have := szVs_mem hx; omega)) (by omega))
          · rw [if_neg (show ¬ (a.Kind == 3) = true by simp [h3]), if_neg h3]
    · have hz : cmpI a.Kind b.Kind ≠ 0 := by
        unfold cmpI
        rcases Int.lt_trichotomy a.Kind b.Kind with h | h | h
        · rw [if_pos h]; decide
        · exact (hk h).elim
        · rw [if_neg (by omega), if_pos h]; decide
      rw [if_pos (show (cmpI a.Kind b.Kind != 0) = true by simpa using hz), if_pos (show a.Kind ≠ b.Kind from hk)]

theorem compare_eq (a b : Api_Value) (h : szV a ≤ 100000000000) : codec_Compare a b = some (cmpV a b) := compare_n _ a b (by omega) (by omega)

/-! ### The order -/
theorem cmpI_refl (a : Int) : cmpI a a = 0 := by simp [cmpI]
theorem cmpI_anti (a b : Int) : cmpI b a = - cmpI a b := by
  unfold cmpI
  rcases Int.lt_trichotomy a b with h | h | h
  · rw [if_neg (by omega), if_pos h, if_pos h]; rfl
  · subst h; simp
  · rw [if_pos h, if_neg (by omega), if_pos h]
theorem cmpI_zero {a b : Int} : cmpI a b = 0 ↔ a = b := by
  unfold cmpI
  by_cases h : a < b
  · rw [if_pos h]; constructor
    · intro h; cases h
    · intro h; omega
  · rw [if_neg h]
    by_cases h2 : b < a
    · rw [if_pos h2]; constructor
      · intro h; cases h
      · intro h; omega
    · rw [if_neg h2]; constructor <;> intros <;> omega
end Go.Proofs.Ytihncddenjbecaa
/-
  The examples of the documentation: computed.
-/
namespace Go.Proofs.Ytihncddenjbecaa
open Go.Rv
theorem sane_ok : law01_sane = some true := by decide +kernel
end Go.Proofs.Ytihncddenjbecaa
/-
  Compare is a total order; the law CodecTotalOrder in plain terms.
-/
namespace Go.Proofs.Ytihncddenjbecaa
open Go.Rv
set_option linter.unusedVariables false
set_option linter.unusedSimpArgs false

/-- Three answers that fit an order: of x to y, of y to z, of x to z. -/
def Tri (a b c : Int) : Prop := (a ≤ 0 → b ≤ 0 → c ≤ 0 ∧ (c = 0 ↔ a = 0 ∧ b = 0)) ∧ (0 ≤ a → 0 ≤ b → 0 ≤ c ∧ (c = 0 ↔ a = 0 ∧ b = 0))

theorem tri_cmpI (a b c : Int) : Tri (cmpI a b) (cmpI b c) (cmpI a c) := by
  unfold Tri cmpI
  constructor <;> intro h1 h2 <;> (repeat' split at h1) <;> (repeat' split at h2) <;> (repeat' split) <;> constructor <;> (try constructor) <;> omega
theorem tri_first {a b c x y z : Int} (h : Tri a b c) (g : Tri x y z) : Tri (if a ≠ 0 then a else x) (if b ≠ 0 then b else y) (if c ≠ 0 then c else z) := by
  obtain ⟨h1, h2⟩ := h
  obtain ⟨g1, g2⟩ := g
  unfold Tri
  constructor
  · intro p q
    by_cases ha : a = 0 <;> by_cases hb : b = 0 <;> simp only [ha, hb, ne_eq, not_true_eq_false, not_false_eq_true, if_true, if_false] at p q ⊢
    · have hc : c = 0 := by have := h1 (by omega) (by omega); exact this.2.2 ⟨ha, hb⟩
      simp only [hc, ne_eq, not_true_eq_false, if_false]
      exact g1 p q
    · have := h1 (by omega) q
      have hc : c ≠ 0 := fun e => hb (this.2.1 e).2
      simp only [hc, ne_eq, not_false_eq_true, if_true]
      exact ⟨this.1, ⟨fun e => e.elim, fun e => e.2.elim⟩⟩
    · have := h1 p (by omega)
      have hc : c ≠ 0 := fun e => ha (this.2.1 e).1
      simp only [hc, ne_eq, not_false_eq_true, if_true]
      exact ⟨this.1, ⟨fun e => e.elim, fun e => e.1.elim⟩⟩
    · have := h1 p q
      have hc : c ≠ 0 := fun e => ha (this.2.1 e).1
      simp only [hc, ne_eq, not_false_eq_true, if_true]
      exact ⟨this.1, ⟨fun e => e.elim, fun e => e.1.elim⟩⟩
  · intro p q
    by_cases ha : a = 0 <;> by_cases hb : b = 0 <;> simp only [ha, hb, ne_eq, not_true_eq_false, not_false_eq_true, if_true, if_false] at p q ⊢
    · have hc : c = 0 := by have := h2 (by omega) (by omega); exact this.2.2 ⟨ha, hb⟩
      simp only [hc, ne_eq, not_true_eq_false, if_false]
      exact g2 p q
    · have := h2 (by omega) q
      have hc : c ≠ 0 := fun e => hb (this.2.1 e).2
      simp only [hc, ne_eq, not_false_eq_true, if_true]
      exact ⟨this.1, ⟨fun e => e.elim, fun e => e.2.elim⟩⟩
    · have := h2 p (by omega)
      have hc : c ≠ 0 := fun e => ha (this.2.1 e).1
      simp only [hc, ne_eq, not_false_eq_true, if_true]
      exact ⟨this.1, ⟨fun e => e.elim, fun e => e.1.elim⟩⟩
    · have := h2 p q
      have hc : c ≠ 0 := fun e => ha (this.2.1 e).1
      simp only [hc, ne_eq, not_false_eq_true, if_true]
      exact ⟨this.1, ⟨fun e => e.elim, fun e => e.1.elim⟩⟩

def cmpU (x y : UInt8) : Int := cmpI (x.toNat : Int) (y.toNat : Int)
theorem cmpB_cons (x y : UInt8) (l m : List UInt8) : cmpB (x :: l) (y :: m) = if cmpU x y ≠ 0 then cmpU x y else cmpB l m := by
  rw [cmpB]
  by_cases h : x = y
  · subst h
    have : cmpU x x = 0 := cmpI_refl _
    rw [this, if_pos rfl, if_neg (by simp)]
  · by_cases h2 : x < y
    · have : cmpU x y = -1 := if_pos (by rw [u8_lt_int]; exact h2)
      rw [this, if_neg h, if_pos h2, if_pos (by decide)]
    · have h3 : y < x := by
        rw [UInt8.lt_iff_toNat_lt] at h2 ⊢
        have : x.toNat ≠ y.toNat := fun e => h (UInt8.toNat_inj.1 e)
        omega
      have : cmpU x y = 1 := (if_neg (by rw [u8_lt_int]; exact h2)).trans (if_pos (by rw [u8_lt_int]; exact h3))
      rw [this, if_neg h, if_neg h2, if_pos (by decide)]
theorem cmpL_cons (x y : Api_Value) (l m : List Api_Value) : cmpL (x :: l) (y :: m) = if cmpV x y ≠ 0 then cmpV x y else cmpL l m := by rw [cmpL]

theorem tri_zero : Tri 0 0 0 := by unfold Tri; omega
theorem tri_cmpB : ∀ a b c : List UInt8, Tri (cmpB a b) (cmpB b c) (cmpB a c)
  | [], [], [] => tri_zero
  | [], [], _ :: _ => by simp only [cmpB]; unfold Tri; omega
  | [], _ :: _, [] => by simp only [cmpB]; unfold Tri; omega
  | _ :: _, [], [] => by simp only [cmpB]; unfold Tri; omega
  | [], y :: m, z :: k => by
    have := cmpB_rng (y :: m) (z :: k)
    simp only [cmpB] at this ⊢; unfold Tri; omega
  | x :: l, [], z :: k => by
    have := cmpB_rng (x :: l) (z :: k)
    rw [show cmpB (x :: l) [] = 1 from rfl, show cmpB [] (z :: k) = -1 from rfl]; unfold Tri; omega
  | x :: l, y :: m, [] => by
    have := cmpB_rng (x :: l) (y :: m)
    rw [show cmpB (x :: l) [] = 1 from rfl, show cmpB (y :: m) [] = 1 from rfl]; unfold Tri; omega
  | x :: l, y :: m, z :: k => by
    rw [cmpB_cons, cmpB_cons, cmpB_cons]
    exact tri_first (tri_cmpI _ _ _) (tri_cmpB l m k)

mutual
theorem cmpV_rng : ∀ a b : Api_Value, cmpV a b = -1 ∨ cmpV a b = 0 ∨ cmpV a b = 1
  | .mk k n b l, w => by
    rw [cmpV]
    split
    · exact cmpI_rng _ _
    split
    · exact cmpI_rng _ _
    split
    · exact cmpB_rng _ _
    split
    · exact cmpL_rng l w.L
    · simp
theorem cmpL_rng : ∀ a b : List Api_Value, cmpL a b = -1 ∨ cmpL a b = 0 ∨ cmpL a b = 1
  | [], [] => by simp [cmpL]
  | [], _ :: _ => by simp [cmpL]
  | _ :: _, [] => by simp [cmpL]
  | x :: l, y :: m => by
    rw [cmpL]
    split
    · exact cmpV_rng x y
    · exact cmpL_rng l m
end

theorem ite_hz (x y : Int) {α : Type} (a b : α) : (if x ≠ y then a else b) = if cmpI x y ≠ 0 then a else b := by
  by_cases h : x = y
  · rw [if_neg (by simpa using h), if_neg (by simpa using cmpI_zero.2 h)]
  · rw [if_pos h, if_pos (fun e => h (cmpI_zero.1 e))]

mutual
theorem tri_cmpV : ∀ a b c : Api_Value, Tri (cmpV a b) (cmpV b c) (cmpV a c)
  | .mk k n b l, v, w => by
    have hk := tri_cmpI k v.Kind w.Kind
    rw [cmpV_eq v w, cmpV, cmpV]
    rw [ite_hz k v.Kind, ite_hz v.Kind w.Kind, ite_hz k w.Kind]
    have inner : k = v.Kind → v.Kind = w.Kind → Tri (if k = 1 then cmpI n v.N else if k = 2 then cmpB b v.B else if k = 3 then cmpL l v.L else 0)
        (if v.Kind = 1 then cmpI v.N w.N else if v.Kind = 2 then cmpB v.B w.B else if v.Kind = 3 then cmpL v.L w.L else 0) (if k = 1 then cmpI n w.N else if k = 2 then cmpB b w.B else if k = 3 then cmpL l w.L else 0) := by
      intro e1 e2
      rw [← e1]
      by_cases h1 : k = 1
      · simp only [h1, if_true]; exact tri_cmpI _ _ _
      · simp only [h1, if_false]
        by_cases h2 : k = 2
        · simp only [h2, if_true]; exact tri_cmpB _ _ _
        · simp only [h2, if_false]
          by_cases h3 : k = 3
          · simp only [h3, if_true]; exact tri_cmpL l v.L w.L
          · simp only [h3, if_false]; exact tri_zero
    by_cases e1 : cmpI k v.Kind = 0
    · by_cases e2 : cmpI v.Kind w.Kind = 0
      · exact tri_first hk (inner (cmpI_zero.1 e1) (cmpI_zero.1 e2))
      · have hkv := cmpI_zero.1 e1
        have e3 : cmpI k w.Kind = cmpI v.Kind w.Kind := by rw [hkv]
        have r := cmpI_rng v.Kind w.Kind
        have q := cmpV_rng (.mk k n b l) v
        rw [cmpV, ite_hz] at q
        simp only [e3, e2, ne_eq, not_false_eq_true, if_true] at q ⊢
        rw [e1] at q ⊢
        simp only [ne_eq, not_true_eq_false, if_false] at q ⊢
        unfold Tri
        omega
    · by_cases e2 : cmpI v.Kind w.Kind = 0
      · have hvw := cmpI_zero.1 e2
        have e3 : cmpI k w.Kind = cmpI k v.Kind := by rw [← hvw]
        have r := cmpI_rng k v.Kind
        have q := cmpV_rng v w
        rw [cmpV_eq, ite_hz] at q
        simp only [e3, e1, e2, ne_eq, not_false_eq_true, not_true_eq_false, if_true, if_false] at q ⊢
        unfold Tri
        omega
      · have q := tri_first hk tri_zero
        by_cases e3 : cmpI k w.Kind = 0
        · simp only [e1, e2, ne_eq, not_false_eq_true, if_true]
          have r := cmpI_rng k v.Kind
          have r2 := cmpI_rng v.Kind w.Kind
          obtain ⟨k1, k2⟩ := hk
          unfold Tri
          omega
        · simp only [e1, e2, e3, ne_eq, not_false_eq_true, if_true]
          exact hk
theorem tri_cmpL : ∀ a b c : List Api_Value, Tri (cmpL a b) (cmpL b c) (cmpL a c)
  | [], [], [] => by simp only [cmpL]; exact tri_zero
  | [], [], _ :: _ => by simp only [cmpL]; unfold Tri; omega
  | [], _ :: _, [] => by simp only [cmpL]; unfold Tri; omega
  | _ :: _, [], [] => by simp only [cmpL]; unfold Tri; omega
  | [], y :: m, z :: k => by
    have := cmpL_rng (y :: m) (z :: k)
    have e1 : cmpL [] (y :: m) = -1 := by rw [cmpL]
    have e2 : cmpL [] (z :: k) = -1 := by rw [cmpL]
    rw [e1, e2]; unfold Tri; omega
  | x :: l, [], z :: k => by
    have := cmpL_rng (x :: l) (z :: k)
    have e1 : cmpL (x :: l) [] = 1 := by rw [cmpL]
    have e2 : cmpL [] (z :: k) = -1 := by rw [cmpL]
    rw [e1, e2]; unfold Tri; omega
  | x :: l, y :: m, [] => by
    have := cmpL_rng (x :: l) (y :: m)
    have e1 : cmpL (x :: l) [] = 1 := by rw [cmpL]
    have e2 : cmpL (y :: m) [] = 1 := by rw [cmpL]
    rw [e1, e2]; unfold Tri; omega
  | x :: l, y :: m, z :: k => by
    rw [cmpL_cons, cmpL_cons, cmpL_cons]
    exact tri_first (tri_cmpV x y z) (tri_cmpL l m k)
end

theorem cmpB_anti : ∀ a b : List UInt8, cmpB b a = - cmpB a b
  | [], [] => rfl
  | [], _ :: _ => rfl
  | _ :: _, [] => rfl
  | x :: l, y :: m => by
    rw [cmpB_cons, cmpB_cons, show cmpU y x = - cmpU x y from cmpI_anti _ _, cmpB_anti l m]
    by_cases h : cmpU x y = 0
    · simp [h]
    · have : - cmpU x y ≠ 0 := by omega
      rw [if_pos this, if_pos h]
mutual
theorem cmpV_anti : ∀ a b : Api_Value, cmpV b a = - cmpV a b
  | .mk k n b l, w => by
    rw [cmpV_eq w, cmpV]
    show (if w.Kind ≠ k then cmpI w.Kind k else _) = _
    by_cases hk : k = w.Kind
    · rw [if_neg (show ¬ (w.Kind ≠ k) by simpa using hk.symm), if_neg (show ¬ (k ≠ w.Kind) by simpa using hk), ← hk]
      show (if k = 1 then cmpI w.N n else if k = 2 then cmpB w.B b else if k = 3 then cmpL w.L l else 0) = _
      by_cases h1 : k = 1
      · simp only [h1, if_true]; exact cmpI_anti _ _
      · simp only [h1, if_false]
        by_cases h2 : k = 2
        · simp only [h2, if_true]; exact cmpB_anti _ _
        · simp only [h2, if_false]
          by_cases h3 : k = 3
          · simp only [h3, if_true]; exact cmpL_anti l w.L
          · simp only [h3, if_false]; rfl
    · rw [if_pos (show w.Kind ≠ k from fun e => hk e.symm), if_pos (show k ≠ w.Kind from hk)]; exact cmpI_anti _ _
theorem cmpL_anti : ∀ a b : List Api_Value, cmpL b a = - cmpL a b
  | [], [] => by simp [cmpL]
  | [], _ :: _ => by simp [cmpL]
  | _ :: _, [] => by simp [cmpL]
  | x :: l, y :: m => by
    rw [cmpL_cons, cmpL_cons, cmpV_anti x y, cmpL_anti l m]
    by_cases h : cmpV x y = 0
    · simp [h]
    · have : - cmpV x y ≠ 0 := by omega
      rw [if_pos this, if_pos h]
end
theorem cmpV_refl (a : Api_Value) : cmpV a a = 0 := by have := cmpV_anti a a; omega

theorem law_totalOrder (u v w : Api_Value) (hu0 : szV u ≤ 1048576) (_ : okV u) (hv0 : szV v ≤ 1048576) (_ : okV v) (hw0 : szV w ≤ 1048576) (_ : okV w) : law01_CodecTotalOrder u v w = some true := by
  have hu : szV u ≤ 100000000000 := by omega
  have hv : szV v ≤ 100000000000 := by omega
  have hw : szV w ≤ 100000000000 := by omega
  unfold law01_CodecTotalOrder
  rw [sane_ok]
  refine (e_bindT rfl).trans ?_
  rw [if_neg (by simp)]
  refine (e_bindT (compare_eq u v hu)).trans ?_
  refine (e_bindT (compare_eq v w hv)).trans ?_
  refine (e_bindT (compare_eq u w hu)).trans ?_
  rw [compare_eq v u hv, compare_eq u u hu, cmpV_refl, cmpV_anti u v]
  have ra := cmpV_rng u v
  have rb := cmpV_rng v w
  have rc := cmpV_rng u w
  obtain ⟨t1, t2⟩ := tri_cmpV u v w
  generalize cmpV u v = a at *
  generalize cmpV v w = b at *
  generalize cmpV u w = c at *
  have h0 : (if decide (a < -1) = true then some true else if decide (a > 1) = true then some true else
      (some (-a)).bind fun y => if (y != w64 (0 - a)) = true then some true else (some (0 : Int)).bind fun z => some (z != 0) : Option Bool) = some false := by
    rw [if_neg (by simp; omega), if_neg (by simp; omega), w64_id (by omega)]
    refine (e_bindT rfl).trans ?_
    rw [if_neg (by simp)]
    rfl
  refine (e_bindT h0).trans ?_
  rw [if_neg (by simp)]
  rcases ra with rfl | rfl | rfl <;> rcases rb with rfl | rfl | rfl <;> rcases rc with rfl | rfl | rfl <;> first | decide | (exfalso; omega)
end Go.Proofs.Ytihncddenjbecaa
/-
  Compare at values of any bulk (lists of at most 2^63 - 1 elements), and the readings that say so.
-/
namespace Go.Proofs.Ytihncddenjbecaa
open Go.Rv
set_option linter.unusedVariables false
set_option linter.unusedSimpArgs false

mutual
def okW : Api_Value → Prop
  | .mk k n b l => l.length ≤ maxLen ∧ okWs l
def okWs : List Api_Value → Prop
  | [] => True
  | x :: l => okW x ∧ okWs l
end
theorem okWs_all (l : List Api_Value) : okWs l ↔ ∀ x ∈ l, okW x := by
  induction l with
  | nil => simp [okWs]
  | cons x l ih => simp [okWs, ih]
theorem okW_eq (v : Api_Value) : okW v ↔ v.L.length ≤ maxLen ∧ ∀ x ∈ v.L, okW x := by
  rw [← okWs_all]
  cases v with
  | mk k n b l => simp only [okW]; rfl

theorem opensAt_valueW {P : Program} {BB : ∀ H : Type, DataW H → Nat} {t tI tB tL : TypeId} {fs : Array Field} (hB : BulkOk BB) (ht : P.underlying t = some (.struct fs))
    (hfs : fs.toList = [⟨"Kind", tI, 0, false, "", "", 0⟩, ⟨"N", tI, 1, false, "", "", 8⟩, ⟨"B", tB, 2, false, "", "", 16⟩, ⟨"L", tL, 3, false, "", "", 40⟩])
    (hn : P.cellsOf t = 4) (cI : P.cellsOf tI = 1) (cB : P.cellsOf tB = 1) (cL : P.cellsOf tL = 1)
    (oI : Opens P BB tI cI64 (fun _ => 1) (fun x => -9223372036854775808 ≤ x ∧ x ≤ 9223372036854775807))
    (oB : Opens P BB tB (cSl cU8) (szL fun _ => 1) (fun l => l.length ≤ maxLen ∧ ∀ x ∈ l, True))
    (hL : P.underlying tL = some (.slice t)) : ∀ fuel, OpensAt P BB fuel t cApi_Value szV okW
  | 0 => opensAt_zero
  | fuel + 1 => by
    have hl : OpensAt P BB fuel tL (cSl cApi_Value) (szL szV) (fun l => l.length ≤ maxLen ∧ ∀ x ∈ l, okW x) := by
      cases fuel with
      | zero => exact opensAt_zero
      | succ n => exact opensAt_slice hB hL hn (fun x => by rw [cApi_Value_eq]; rfl) (opensAt_valueW hB ht hfs hn cI cB cL oI oB hL n)
    refine opensAt_struct hB ht hn (c := fun x : Int × Int × List UInt8 × List Api_Value × Unit => cI64 x.1 ++ (cI64 x.2.1 ++ (cSl cU8 x.2.2.1 ++ (cSl cApi_Value x.2.2.2.1 ++ []))))
      (by
        rw [hfs]
        exact opensFsAt_cons (k := 1) rfl cI (fun _ => rfl) (oI.at fuel) (opensFsAt_cons (k := 1) rfl cI (fun _ => rfl) (oI.at fuel) (opensFsAt_cons (k := 1) rfl cB (fun _ => rfl) (oB.at fuel) (opensFsAt_cons (k := 1) rfl cL (fun _ => rfl) hl opensFsAt_nil))))
      (fun x => (Api_Value.mk x.1 x.2.1 x.2.2.1 x.2.2.2.1)) (fun x => by rw [cApi_Value_eq]; rfl) (fun x => by rw [cApi_Value_eq]; rfl) (fun x => ?_) (fun x h => ?_)
    · have h1 := szL_one x.2.2.1
      have h2 := szL_szV x.2.2.2.1
      simp only [szV]
      omega
    · exact (okW_eq _).2 h.2.2.2.1
  termination_by fuel => fuel

theorem compare_nW : ∀ (n : Nat) (a b : Api_Value), szV a < n → okW a → codec_Compare_n n a b = some (cmpV a b)
  | 0, a, b, h, _ => absurd h (Nat.not_lt_zero _)
  | n + 1, a, b, h, hs => by
    show codec_Compare_F (codec_Compare_n n) a b = _
    have hsz := szV_eq a
    obtain ⟨hl, hx'⟩ := (okW_eq a).1 hs
    unfold maxLen at hl
    unfold codec_Compare_F
    rw [cmpV_eq]
    refine (e_bindT (cmpInt_eq _ _)).trans ?_
    by_cases hk : a.Kind = b.Kind
    · have hz : cmpI a.Kind b.Kind = 0 := by unfold cmpI; simp [hk]
      rw [if_neg (show ¬ (cmpI a.Kind b.Kind != 0) = true by simp [hz]), if_neg (show ¬ (a.Kind ≠ b.Kind) by simpa using hk)]
      by_cases h1 : a.Kind = 1
      · rw [if_pos (show (a.Kind == 1) = true by simp [h1]), if_pos h1]; exact e_bindT (cmpInt_eq _ _)
      · rw [if_neg (show ¬ (a.Kind == 1) = true by simp [h1]), if_neg h1]
        by_cases h2 : a.Kind = 2
        · rw [if_pos (show (a.Kind == 2) = true by simp [h2]), if_pos h2]; exact e_bindT (bytesCompare_eq _ _)
        · rw [if_neg (show ¬ (a.Kind == 2) = true by simp [h2]), if_neg h2]
          by_cases h3 : a.Kind = 3
          · rw [if_pos (show (a.Kind == 3) = true by simp [h3]), if_pos h3]
            exact e_bindT (compareFunc_eq _ _ _ (fun x hx y => compare_nW n x y (by have := szVs_mem hx; omega) (hx' x hx)) (by omega))
          · rw [if_neg (show ¬ (a.Kind == 3) = true by simp [h3]), if_neg h3]
    · have hz : cmpI a.Kind b.Kind ≠ 0 := by
        unfold cmpI
        rcases Int.lt_trichotomy a.Kind b.Kind with h | h | h
        · rw [if_pos h]; decide
        · exact (hk h).elim
        · rw [if_neg (by omega), if_pos h]; decide
      rw [if_pos (show (cmpI a.Kind b.Kind != 0) = true by simpa using hz), if_pos (show a.Kind ≠ b.Kind from hk)]
end Go.Proofs.Ytihncddenjbecaa
/-
  CodecTotalOrder, with Compare as a parameter: the program and its walk.
-/
namespace Go.Proofs.Ytihncddenjbecaa
open Go.Rv
set_option linter.unusedVariables false
set_option linter.unusedSimpArgs false
set_option maxRecDepth 20000
def law01_TotalOrderR (cmp_ : Api_Value → Api_Value → Option Int) (u_3364 : Api_Value) (v_3365 : Api_Value) (w_3366 : Api_Value) : Option (Bool) :=
  law01_sane.bind fun y_3367 =>
  if (!y_3367) = true then
    some false
  else
    (cmp_ u_3364 v_3365).bind fun y_3369 =>
    (cmp_ v_3365 w_3366).bind fun y_3371 =>
    (cmp_ u_3364 w_3366).bind fun y_3373 =>
    (if (decide (y_3369 < (-1))) = true then
      some true
    else
      if (decide (y_3369 > 1)) = true then
        some true
      else
        (cmp_ v_3365 u_3364).bind fun y_3375 =>
        if (y_3375 != (w64 (0 - y_3369))) = true then
          some true
        else
          (cmp_ u_3364 u_3364).bind fun y_3376 =>
          some ((y_3376 != 0)) : Option (Bool)).bind fun t_3377 =>
    if t_3377 = true then
      some false
    else
      (if (decide (y_3369 ≤ 0)) = true then
        some ((decide (y_3371 ≤ 0)))
      else
        some false : Option (Bool)).bind fun t_3384 =>
      if t_3384 = true then
        (if (decide (y_3373 ≤ 0)) = true then
          if (y_3369 == 0) = true then
            some (((y_3373 == 0) == (y_3371 == 0)))
          else
            some (((y_3373 == 0) == false))
        else
          some false : Option (Bool)).bind fun t_3387 =>
        some t_3387
      else
        (if (decide (y_3369 < 0)) = true then
          some true
        else
          if (decide (y_3371 < 0)) = true then
            some true
          else
            some ((decide (y_3373 ≥ 0))) : Option (Bool)).bind fun t_3391 =>
        some t_3391

theorem law01_TotalOrderR_con {cmp_ : Api_Value → Api_Value → Option Int} (hcmp : ∀ {a b : Api_Value} {r : Int}, cmp_ a b = some r → Con B 19 [.agg [i64 a.Kind, i64 a.N, .sl false (L cU8 a.B), .sl false (L cApi_Value a.L)], .agg [i64 b.Kind, i64 b.N, .sl false (L cU8 b.B), .sl false (L cApi_Value b.L)]] [] (fun r' σ' => r' = i64 r ∧ σ' = [])) {u_3364 : Api_Value} {v_3365 : Api_Value} {w_3366 : Api_Value} {r : Bool} (h : law01_TotalOrderR cmp_ u_3364 v_3365 w_3366 = some r) : Con B 9 [.agg [i64 u_3364.Kind, i64 u_3364.N, .sl false (L cU8 u_3364.B), .sl false (L cApi_Value u_3364.L)], .agg [i64 v_3365.Kind, i64 v_3365.N, .sl false (L cU8 v_3365.B), .sl false (L cApi_Value v_3365.L)], .agg [i64 w_3366.Kind, i64 w_3366.N, .sl false (L cU8 w_3366.B), .sl false (L cApi_Value w_3366.L)]] [] (fun r' σ' => r' = .bool r ∧ σ' = []) := by
  refine con_walk (N := 70) (rs := [.tmp 6]) ok Try.func9 rfl (by decide +kernel) rfl rfl (Nat.le_of_ble_eq_true rfl) (fun F => ?_)
  have hE := ok.env F
  unfold law01_TotalOrderR at h
  show Run (B.env F) 0 _ ⟨asFr 70 [(0, .agg [i64 u_3364.Kind, i64 u_3364.N, .sl false (L cU8 u_3364.B), .sl false (L cApi_Value u_3364.L)]), (1, .agg [i64 v_3365.Kind, i64 v_3365.N, .sl false (L cU8 v_3365.B), .sl false (L cApi_Value v_3365.L)]), (2, .agg [i64 w_3366.Kind, i64 w_3366.N, .sl false (L cU8 w_3366.B), .sl false (L cApi_Value w_3366.L)])], []⟩ _
  refine run_textE hE [3, 4, 5] (fr' := [(3, .ref 0 0), (4, .ref 1 0), (5, .ref 2 0)]) (σ' := [.box [i64 u_3364.Kind, i64 u_3364.N, .sl false (L cU8 u_3364.B), .sl false (L cApi_Value u_3364.L)] false, .box [i64 v_3365.Kind, i64 v_3365.N, .sl false (L cU8 v_3365.B), .sl false (L cApi_Value v_3365.L)] false, .box [i64 w_3366.Kind, i64 w_3366.N, .sl false (L cU8 w_3366.B), .sl false (L cApi_Value w_3366.L)] false]) ⟨_, orcs_nil, ?_⟩ ?_
  · simp only [go_sem, reduceIte, Nat.reduceLT, Nat.reduceEqDiff, Nat.reduceAdd]
  refine run_seq ?_
  replace h := bind_some1 h; obtain ⟨y_3367, hy_3368, h⟩ := h
  refine run_textE hE [3, 4, 5, 11] (fr' := [(3, .ref 0 0), (4, .ref 1 0), (5, .ref 2 0), (11, .bool ((!y_3367)))]) (σ' := [.box [i64 u_3364.Kind, i64 u_3364.N, .sl false (L cU8 u_3364.B), .sl false (L cApi_Value u_3364.L)] false, .box [i64 v_3365.Kind, i64 v_3365.N, .sl false (L cU8 v_3365.B), .sl false (L cApi_Value v_3365.L)] false, .box [i64 w_3366.Kind, i64 w_3366.N, .sl false (L cU8 w_3366.B), .sl false (L cApi_Value w_3366.L)] false]) ⟨_, orcs_ok (l := [(10, 13, [], .bool y_3367)]) ⟨law01_sane_con  hy_3368, trivial⟩, ?_⟩ ?_
  · simp only [go_sem, reduceIte, Nat.reduceLT, Nat.reduceEqDiff, Nat.reduceAdd]
  refine run_condL (b := (!y_3367)) rfl (by decide) (fun hb => ?_) (fun hb => ?_)
  · replace h := ite_t h hb
    refine run_textE hE [6] (fr' := [(6, .bool false)]) (σ' := [.box [i64 u_3364.Kind, i64 u_3364.N, .sl false (L cU8 u_3364.B), .sl false (L cApi_Value u_3364.L)] false, .box [i64 v_3365.Kind, i64 v_3365.N, .sl false (L cU8 v_3365.B), .sl false (L cApi_Value v_3365.L)] false, .box [i64 w_3366.Kind, i64 w_3366.N, .sl false (L cU8 w_3366.B), .sl false (L cApi_Value w_3366.L)] false]) ⟨_, orcs_nil, ?_⟩ ?_
    · simp only [go_sem, reduceIte, Nat.reduceLT, Nat.reduceEqDiff, Nat.reduceAdd]
    refine run_ret ?_
    refine thenK_r ?_
    obtain rfl := Option.some.inj h
    refine ret_ok (.inr rfl) ?_
    simp only [go_sem, reduceIte, Nat.reduceLT, Nat.reduceEqDiff, Nat.reduceAdd]
  · replace h := ite_f h hb
    refine run_skip ?_
    refine thenK_n ?_
    replace h := bind_some1 h; obtain ⟨y_3369, hy_3370, h⟩ := h
    refine run_textE hE [3, 4, 5, 7] (fr' := [(3, .ref 0 0), (4, .ref 1 0), (5, .ref 2 0), (7, i64 y_3369)]) (σ' := [.box [i64 u_3364.Kind, i64 u_3364.N, .sl false (L cU8 u_3364.B), .sl false (L cApi_Value u_3364.L)] false, .box [i64 v_3365.Kind, i64 v_3365.N, .sl false (L cU8 v_3365.B), .sl false (L cApi_Value v_3365.L)] false, .box [i64 w_3366.Kind, i64 w_3366.N, .sl false (L cU8 w_3366.B), .sl false (L cApi_Value w_3366.L)] false]) ⟨_, orcs_ok (l := [(14, 19, [.agg [i64 u_3364.Kind, i64 u_3364.N, .sl false (L cU8 u_3364.B), .sl false (L cApi_Value u_3364.L)], .agg [i64 v_3365.Kind, i64 v_3365.N, .sl false (L cU8 v_3365.B), .sl false (L cApi_Value v_3365.L)]], i64 y_3369)]) ⟨hcmp  hy_3370, trivial⟩, ?_⟩ ?_
    · simp only [go_sem, reduceIte, Nat.reduceLT, Nat.reduceEqDiff, Nat.reduceAdd]
    replace h := bind_some1 h; obtain ⟨y_3371, hy_3372, h⟩ := h
    refine run_textE hE [3, 4, 5, 7, 8] (fr' := [(3, .ref 0 0), (4, .ref 1 0), (5, .ref 2 0), (7, i64 y_3369), (8, i64 y_3371)]) (σ' := [.box [i64 u_3364.Kind, i64 u_3364.N, .sl false (L cU8 u_3364.B), .sl false (L cApi_Value u_3364.L)] false, .box [i64 v_3365.Kind, i64 v_3365.N, .sl false (L cU8 v_3365.B), .sl false (L cApi_Value v_3365.L)] false, .box [i64 w_3366.Kind, i64 w_3366.N, .sl false (L cU8 w_3366.B), .sl false (L cApi_Value w_3366.L)] false]) ⟨_, orcs_ok (l := [(17, 19, [.agg [i64 v_3365.Kind, i64 v_3365.N, .sl false (L cU8 v_3365.B), .sl false (L cApi_Value v_3365.L)], .agg [i64 w_3366.Kind, i64 w_3366.N, .sl false (L cU8 w_3366.B), .sl false (L cApi_Value w_3366.L)]], i64 y_3371)]) ⟨hcmp  hy_3372, trivial⟩, ?_⟩ ?_
    · simp only [go_sem, reduceIte, Nat.reduceLT, Nat.reduceEqDiff, Nat.reduceAdd]
    replace h := bind_some1 h; obtain ⟨y_3373, hy_3374, h⟩ := h
    refine run_textE hE [3, 4, 7, 8, 9] (fr' := [(3, .ref 0 0), (4, .ref 1 0), (7, i64 y_3369), (8, i64 y_3371), (9, i64 y_3373)]) (σ' := [.box [i64 u_3364.Kind, i64 u_3364.N, .sl false (L cU8 u_3364.B), .sl false (L cApi_Value u_3364.L)] false, .box [i64 v_3365.Kind, i64 v_3365.N, .sl false (L cU8 v_3365.B), .sl false (L cApi_Value v_3365.L)] false, .box [i64 w_3366.Kind, i64 w_3366.N, .sl false (L cU8 w_3366.B), .sl false (L cApi_Value w_3366.L)] false]) ⟨_, orcs_ok (l := [(20, 19, [.agg [i64 u_3364.Kind, i64 u_3364.N, .sl false (L cU8 u_3364.B), .sl false (L cApi_Value u_3364.L)], .agg [i64 w_3366.Kind, i64 w_3366.N, .sl false (L cU8 w_3366.B), .sl false (L cApi_Value w_3366.L)]], i64 y_3373)]) ⟨hcmp  hy_3374, trivial⟩, ?_⟩ ?_
    · simp only [go_sem, reduceIte, Nat.reduceLT, Nat.reduceEqDiff, Nat.reduceAdd]
    refine run_seq ?_
    replace h := bind_some1 h; obtain ⟨t_3377, hv_3378, h⟩ := h
    refine run_textW hE [7, 8, 9, 40] (fr' := [(7, i64 y_3369), (8, i64 y_3371), (9, i64 y_3373), (40, .bool t_3377)]) (σ' := []) ?_ ?_
    · rcases Bool.eq_false_or_eq_true ((decide (y_3369 < (-1)))) with hb_3379 | hb_3379
      · replace hv_3378 := ite_t hv_3378 hb_3379
        have e_hv_3378 := Option.some.inj hv_3378; subst e_hv_3378
        exact ⟨_, [(7, i64 y_3369), (8, i64 y_3371), (9, i64 y_3373), (40, .bool true)], [.box [i64 u_3364.Kind, i64 u_3364.N, .sl false (L cU8 u_3364.B), .sl false (L cApi_Value u_3364.L)] false, .box [i64 v_3365.Kind, i64 v_3365.N, .sl false (L cU8 v_3365.B), .sl false (L cApi_Value v_3365.L)] false, .box [i64 w_3366.Kind, i64 w_3366.N, .sl false (L cU8 w_3366.B), .sl false (L cApi_Value w_3366.L)] false], orcs_nil, by simp only [go_sem, reduceIte, Nat.reduceLT, Nat.reduceEqDiff, Nat.reduceAdd, hb_3379], (weak_sel [] (by decide) rfl (by simp only [go_sem, reduceIte, Nat.reduceLT, Nat.reduceEqDiff, Nat.reduceAdd]) (by simp only [go_sem, reduceIte, Nat.reduceLT, Nat.reduceEqDiff, Nat.reduceAdd]))⟩
      · replace hv_3378 := ite_f hv_3378 hb_3379
        rcases Bool.eq_false_or_eq_true ((decide (y_3369 > 1))) with hb_3380 | hb_3380
        · replace hv_3378 := ite_t hv_3378 hb_3380
          have e_hv_3378 := Option.some.inj hv_3378; subst e_hv_3378
          exact ⟨_, [(7, i64 y_3369), (8, i64 y_3371), (9, i64 y_3373), (40, .bool true)], [.box [i64 u_3364.Kind, i64 u_3364.N, .sl false (L cU8 u_3364.B), .sl false (L cApi_Value u_3364.L)] false, .box [i64 v_3365.Kind, i64 v_3365.N, .sl false (L cU8 v_3365.B), .sl false (L cApi_Value v_3365.L)] false, .box [i64 w_3366.Kind, i64 w_3366.N, .sl false (L cU8 w_3366.B), .sl false (L cApi_Value w_3366.L)] false], orcs_nil, by simp only [go_sem, reduceIte, Nat.reduceLT, Nat.reduceEqDiff, Nat.reduceAdd, hb_3379, hb_3380], (weak_sel [] (by decide) rfl (by simp only [go_sem, reduceIte, Nat.reduceLT, Nat.reduceEqDiff, Nat.reduceAdd]) (by simp only [go_sem, reduceIte, Nat.reduceLT, Nat.reduceEqDiff, Nat.reduceAdd]))⟩
        · replace hv_3378 := ite_f hv_3378 hb_3380
          replace hv_3378 := bind_some1 hv_3378; obtain ⟨y_3375, hy_3381, hv_3378⟩ := hv_3378
          rcases Bool.eq_false_or_eq_true ((y_3375 != (w64 (0 - y_3369)))) with hb_3382 | hb_3382
          · replace hv_3378 := ite_t hv_3378 hb_3382
            have e_hv_3378 := Option.some.inj hv_3378; subst e_hv_3378
            exact ⟨_, [(7, i64 y_3369), (8, i64 y_3371), (9, i64 y_3373), (40, .bool true)], [.box [i64 u_3364.Kind, i64 u_3364.N, .sl false (L cU8 u_3364.B), .sl false (L cApi_Value u_3364.L)] false, .box [i64 v_3365.Kind, i64 v_3365.N, .sl false (L cU8 v_3365.B), .sl false (L cApi_Value v_3365.L)] false, .box [i64 w_3366.Kind, i64 w_3366.N, .sl false (L cU8 w_3366.B), .sl false (L cApi_Value w_3366.L)] false], orcs_ok (l := [(30, 19, [.agg [i64 v_3365.Kind, i64 v_3365.N, .sl false (L cU8 v_3365.B), .sl false (L cApi_Value v_3365.L)], .agg [i64 u_3364.Kind, i64 u_3364.N, .sl false (L cU8 u_3364.B), .sl false (L cApi_Value u_3364.L)]], i64 y_3375)]) ⟨hcmp  hy_3381, trivial⟩, by simp only [go_sem, reduceIte, Nat.reduceLT, Nat.reduceEqDiff, Nat.reduceAdd, hb_3379, hb_3380, hb_3382], (weak_sel [] (by decide) rfl (by simp only [go_sem, reduceIte, Nat.reduceLT, Nat.reduceEqDiff, Nat.reduceAdd]) (by simp only [go_sem, reduceIte, Nat.reduceLT, Nat.reduceEqDiff, Nat.reduceAdd]))⟩
          · replace hv_3378 := ite_f hv_3378 hb_3382
            replace hv_3378 := bind_some1 hv_3378; obtain ⟨y_3376, hy_3383, hv_3378⟩ := hv_3378
            have e_hv_3378 := Option.some.inj hv_3378; subst e_hv_3378
            exact ⟨_, [(7, i64 y_3369), (8, i64 y_3371), (9, i64 y_3373), (40, .bool ((y_3376 != 0)))], [.box [i64 u_3364.Kind, i64 u_3364.N, .sl false (L cU8 u_3364.B), .sl false (L cApi_Value u_3364.L)] false, .box [i64 v_3365.Kind, i64 v_3365.N, .sl false (L cU8 v_3365.B), .sl false (L cApi_Value v_3365.L)] false, .box [i64 w_3366.Kind, i64 w_3366.N, .sl false (L cU8 w_3366.B), .sl false (L cApi_Value w_3366.L)] false], orcs_ok (l := [(30, 19, [.agg [i64 v_3365.Kind, i64 v_3365.N, .sl false (L cU8 v_3365.B), .sl false (L cApi_Value v_3365.L)], .agg [i64 u_3364.Kind, i64 u_3364.N, .sl false (L cU8 u_3364.B), .sl false (L cApi_Value u_3364.L)]], i64 y_3375), (38, 19, [.agg [i64 u_3364.Kind, i64 u_3364.N, .sl false (L cU8 u_3364.B), .sl false (L cApi_Value u_3364.L)], .agg [i64 u_3364.Kind, i64 u_3364.N, .sl false (L cU8 u_3364.B), .sl false (L cApi_Value u_3364.L)]], i64 y_3376)]) ⟨hcmp  hy_3381, hcmp  hy_3383, trivial⟩, by simp only [go_sem, reduceIte, Nat.reduceLT, Nat.reduceEqDiff, Nat.reduceAdd, hb_3379, hb_3380, hb_3382], (weak_sel [] (by decide) rfl (by simp only [go_sem, reduceIte, Nat.reduceLT, Nat.reduceEqDiff, Nat.reduceAdd]) (by simp only [go_sem, reduceIte, Nat.reduceLT, Nat.reduceEqDiff, Nat.reduceAdd]))⟩
    refine run_condL (b := t_3377) rfl (by decide) (fun hb => ?_) (fun hb => ?_)
    · replace h := ite_t h hb
      refine run_textE hE [6] (fr' := [(6, .bool false)]) (σ' := []) ⟨_, orcs_nil, ?_⟩ ?_
      · simp only [go_sem, reduceIte, Nat.reduceLT, Nat.reduceEqDiff, Nat.reduceAdd]
      refine run_ret ?_
      refine thenK_r ?_
      obtain rfl := Option.some.inj h
      refine ret_ok (.inr rfl) ?_
      simp only [go_sem, reduceIte, Nat.reduceLT, Nat.reduceEqDiff, Nat.reduceAdd]
    · replace h := ite_f h hb
      refine run_skip ?_
      refine thenK_n ?_
      refine run_seq ?_
      replace h := bind_some1 h; obtain ⟨t_3384, hv_3385, h⟩ := h
      refine run_textW hE [7, 8, 9, 46] (fr' := [(7, i64 y_3369), (8, i64 y_3371), (9, i64 y_3373), (46, .bool t_3384)]) (σ' := []) ?_ ?_
      · rcases Bool.eq_false_or_eq_true ((decide (y_3369 ≤ 0))) with hb_3386 | hb_3386
        · replace hv_3385 := ite_t hv_3385 hb_3386
          have e_hv_3385 := Option.some.inj hv_3385; subst e_hv_3385
          exact ⟨_, [(7, i64 y_3369), (8, i64 y_3371), (9, i64 y_3373), (46, .bool ((decide (y_3371 ≤ 0))))], [], orcs_nil, by simp only [go_sem, reduceIte, Nat.reduceLT, Nat.reduceEqDiff, Nat.reduceAdd, hb_3386], (weak_sel [] (by decide) rfl (by simp only [go_sem, reduceIte, Nat.reduceLT, Nat.reduceEqDiff, Nat.reduceAdd]) (by simp only [go_sem, reduceIte, Nat.reduceLT, Nat.reduceEqDiff, Nat.reduceAdd]))⟩
        · replace hv_3385 := ite_f hv_3385 hb_3386
          have e_hv_3385 := Option.some.inj hv_3385; subst e_hv_3385
          exact ⟨_, [(7, i64 y_3369), (8, i64 y_3371), (9, i64 y_3373), (46, .bool false)], [], orcs_nil, by simp only [go_sem, reduceIte, Nat.reduceLT, Nat.reduceEqDiff, Nat.reduceAdd, hb_3386], (weak_sel [] (by decide) rfl (by simp only [go_sem, reduceIte, Nat.reduceLT, Nat.reduceEqDiff, Nat.reduceAdd]) (by simp only [go_sem, reduceIte, Nat.reduceLT, Nat.reduceEqDiff, Nat.reduceAdd]))⟩
      refine run_condL (b := t_3384) rfl (by decide) (fun hb => ?_) (fun hb => ?_)
      · replace h := ite_t h hb
        replace h := bind_some1 h; obtain ⟨t_3387, hv_3388, h⟩ := h
        refine run_textW hE [6] (fr' := [(6, .bool t_3387)]) (σ' := []) ?_ ?_
        · rcases Bool.eq_false_or_eq_true ((decide (y_3373 ≤ 0))) with hb_3389 | hb_3389
          · replace hv_3388 := ite_t hv_3388 hb_3389
            rcases Bool.eq_false_or_eq_true ((y_3369 == 0)) with hb_3390 | hb_3390
            · replace hv_3388 := ite_t hv_3388 hb_3390
              have e_hv_3388 := Option.some.inj hv_3388; subst e_hv_3388
              exact ⟨_, [(6, .bool (((y_3373 == 0) == (y_3371 == 0))))], [], orcs_nil, by simp only [go_sem, reduceIte, Nat.reduceLT, Nat.reduceEqDiff, Nat.reduceAdd, hb_3389, hb_3390], (weak_sel [] (by decide) rfl (by simp only [go_sem, reduceIte, Nat.reduceLT, Nat.reduceEqDiff, Nat.reduceAdd]) (by simp only [go_sem, reduceIte, Nat.reduceLT, Nat.reduceEqDiff, Nat.reduceAdd]))⟩
            · replace hv_3388 := ite_f hv_3388 hb_3390
              have e_hv_3388 := Option.some.inj hv_3388; subst e_hv_3388
              exact ⟨_, [(6, .bool (((y_3373 == 0) == false)))], [], orcs_nil, by simp only [go_sem, reduceIte, Nat.reduceLT, Nat.reduceEqDiff, Nat.reduceAdd, hb_3389, hb_3390], (weak_sel [] (by decide) rfl (by simp only [go_sem, reduceIte, Nat.reduceLT, Nat.reduceEqDiff, Nat.reduceAdd]) (by simp only [go_sem, reduceIte, Nat.reduceLT, Nat.reduceEqDiff, Nat.reduceAdd]))⟩
          · replace hv_3388 := ite_f hv_3388 hb_3389
            have e_hv_3388 := Option.some.inj hv_3388; subst e_hv_3388
            exact ⟨_, [(6, .bool false)], [], orcs_nil, by simp only [go_sem, reduceIte, Nat.reduceLT, Nat.reduceEqDiff, Nat.reduceAdd, hb_3389], (weak_sel [] (by decide) rfl (by simp only [go_sem, reduceIte, Nat.reduceLT, Nat.reduceEqDiff, Nat.reduceAdd]) (by simp only [go_sem, reduceIte, Nat.reduceLT, Nat.reduceEqDiff, Nat.reduceAdd]))⟩
        refine run_ret ?_
        refine thenK_r ?_
        obtain rfl := Option.some.inj h
        refine ret_ok (.inr rfl) ?_
        simp only [go_sem, reduceIte, Nat.reduceLT, Nat.reduceEqDiff, Nat.reduceAdd]
      · replace h := ite_f h hb
        refine run_skip ?_
        refine thenK_n ?_
        replace h := bind_some1 h; obtain ⟨t_3391, hv_3392, h⟩ := h
        refine run_textW hE [6] (fr' := [(6, .bool t_3391)]) (σ' := []) ?_ ?_
        · rcases Bool.eq_false_or_eq_true ((decide (y_3369 < 0))) with hb_3393 | hb_3393
          · replace hv_3392 := ite_t hv_3392 hb_3393
            have e_hv_3392 := Option.some.inj hv_3392; subst e_hv_3392
            exact ⟨_, [(6, .bool true)], [], orcs_nil, by simp only [go_sem, reduceIte, Nat.reduceLT, Nat.reduceEqDiff, Nat.reduceAdd, hb_3393], (weak_sel [] (by decide) rfl (by simp only [go_sem, reduceIte, Nat.reduceLT, Nat.reduceEqDiff, Nat.reduceAdd]) (by simp only [go_sem, reduceIte, Nat.reduceLT, Nat.reduceEqDiff, Nat.reduceAdd]))⟩
          · replace hv_3392 := ite_f hv_3392 hb_3393
            rcases Bool.eq_false_or_eq_true ((decide (y_3371 < 0))) with hb_3394 | hb_3394
            · replace hv_3392 := ite_t hv_3392 hb_3394
              have e_hv_3392 := Option.some.inj hv_3392; subst e_hv_3392
              exact ⟨_, [(6, .bool true)], [], orcs_nil, by simp only [go_sem, reduceIte, Nat.reduceLT, Nat.reduceEqDiff, Nat.reduceAdd, hb_3393, hb_3394], (weak_sel [] (by decide) rfl (by simp only [go_sem, reduceIte, Nat.reduceLT, Nat.reduceEqDiff, Nat.reduceAdd]) (by simp only [go_sem, reduceIte, Nat.reduceLT, Nat.reduceEqDiff, Nat.reduceAdd]))⟩
            · replace hv_3392 := ite_f hv_3392 hb_3394
              have e_hv_3392 := Option.some.inj hv_3392; subst e_hv_3392
              exact ⟨_, [(6, .bool ((decide (y_3373 ≥ 0))))], [], orcs_nil, by simp only [go_sem, reduceIte, Nat.reduceLT, Nat.reduceEqDiff, Nat.reduceAdd, hb_3393, hb_3394], (weak_sel [] (by decide) rfl (by simp only [go_sem, reduceIte, Nat.reduceLT, Nat.reduceEqDiff, Nat.reduceAdd]) (by simp only [go_sem, reduceIte, Nat.reduceLT, Nat.reduceEqDiff, Nat.reduceAdd]))⟩
        refine run_ret ?_
        obtain rfl := Option.some.inj h
        refine ret_ok (.inr rfl) ?_
        simp only [go_sem, reduceIte, Nat.reduceLT, Nat.reduceEqDiff, Nat.reduceAdd]

end Go.Proofs.Ytihncddenjbecaa
/-
  CodecTotalOrder at values of any bulk: the plain law.
-/
namespace Go.Proofs.Ytihncddenjbecaa
open Go.Rv
set_option linter.unusedVariables false
set_option linter.unusedSimpArgs false

/-- Compare with as much fuel as the first value wants. -/
def cmpF (a b : Api_Value) : Option Int := codec_Compare_n (szV a + 1) a b
theorem cmpF_eq (a b : Api_Value) (h : okW a) : cmpF a b = some (cmpV a b) := compare_nW _ a b (Nat.lt_succ_self _) h
theorem law_totalOrderW (u v w : Api_Value) (hu : okW u) (hv : okW v) (hw : okW w) : law01_TotalOrderR cmpF u v w = some true := by
  unfold law01_TotalOrderR
  rw [sane_ok]
  refine (e_bindT rfl).trans ?_
  rw [if_neg (by simp)]
  refine (e_bindT (cmpF_eq u v hu)).trans ?_
  refine (e_bindT (cmpF_eq v w hv)).trans ?_
  refine (e_bindT (cmpF_eq u w hu)).trans ?_
  rw [cmpF_eq v u hv, cmpF_eq u u hu, cmpV_refl, cmpV_anti u v]
  have ra := cmpV_rng u v
  have rb := cmpV_rng v w
  have rc := cmpV_rng u w
  obtain ⟨t1, t2⟩ := tri_cmpV u v w
  generalize cmpV u v = a at *
  generalize cmpV v w = b at *
  generalize cmpV u w = c at *
  have h0 : (if decide (a < -1) = true then some true else if decide (a > 1) = true then some true else
      (some (-a)).bind fun y => if (y != w64 (0 - a)) = true then some true else (some (0 : Int)).bind fun z => some (z != 0) : Option Bool) = some false := by
    rw [if_neg (by simp; omega), if_neg (by simp; omega), w64_id (by omega)]
    refine (e_bindT rfl).trans ?_
    rw [if_neg (by simp)]
    rfl
  refine (e_bindT h0).trans ?_
  rw [if_neg (by simp)]
  rcases ra with rfl | rfl | rfl <;> rcases rb with rfl | rfl | rfl <;> rcases rc with rfl | rfl | rfl <;> first | decide | (exfalso; omega)
end Go.Proofs.Ytihncddenjbecaa
namespace Go.Proofs.Ytihncddenjbecaa
open Go.Rv Go.ChangeShapes Go.WideShapes Go.ChangeAt Go.RowKit
set_option linter.unusedVariables false

theorem opens25W : Opens Try.prog (fun H => Rows.uptoBulk (H := H)) 25 cApi_Value szV okW :=
  opens_of_at (opensAt_valueW bulk_ok Try.underlying25 rfl cells_of_25 cells_of_3 cells_of_22 cells_of_23 (opens_i64 bulk_ok Try.underlying3) opens22 Try.underlying23)

theorem codecTotalOrder_contract (H : Type) (enc : TypeId × Value → H) (W : World) (base : Nat) (args : Array Value) (ds gs : List (DataW H)) (before : List MemPlace)
    (hval0 : ∀ (j : Nat) t v, Try.f9.params[j]? = some t → args[j]? = some v → Value.okWide Try.prog W .any base t v)
    (hW : DataW.Whole enc Try.prog Try.f9.params.toList Rows.codecTotalOrderSpec.vars false W args.toList ds gs before) :
    Calls Try.prog 9 args W fun e W' => ∃ v, e = .returned v ∧ Rows.codecTotalOrderSpec.post enc Try.prog Try.f9 false true false false W args v W' := by
  have hval : ∀ (j : Nat) t v, Try.f9.params[j]? = some t → args[j]? = some v → Value.okWide Try.prog W .any base t v := hval0
  have hW' := hW
  obtain ⟨p, q, hA0, hV, rfl, hfz, hnd⟩ := hW
  have hA : DataW.TrodAll enc Try.prog W 0 (fun _ => true) true Try.f9.params.toList args.toList ds p := hA0
  rw [Try.params9] at hA hval
  obtain ⟨v0, vs0, d0, ds0, p0, q0, hargs, rfl, rfl, h0, r0⟩ := trodAll_cons hA
  obtain ⟨v1, vs1, d1, ds1, p1, q1, rfl, rfl, rfl, h1, r1⟩ := trodAll_cons r0
  obtain ⟨v2, vs2, d2, ds2, p2, q2, rfl, rfl, rfl, h2, r2⟩ := trodAll_cons r1
  obtain ⟨rfl, rfl, rfl⟩ := trodAll_nil r2
  obtain rfl : args = #[v0, v1, v2] := by cases args; simp_all
  obtain ⟨rfl, rfl⟩ := trodVars_none hV
  obtain ⟨x0, hsz0, hok0, hrep0⟩ := arg_agg Try.underlying25 (hval 0 25 v0 rfl rfl) opens25W h0 (pr := prot (B.env fun _ => False) []) (fun a => prot_empty a)
  rw [cApi_Value_eq] at hrep0
  obtain ⟨x1, hsz1, hok1, hrep1⟩ := arg_agg Try.underlying25 (hval 1 25 v1 rfl rfl) opens25W h1 (pr := prot (B.env fun _ => False) []) (fun a => prot_empty a)
  rw [cApi_Value_eq] at hrep1
  obtain ⟨x2, hsz2, hok2, hrep2⟩ := arg_agg Try.underlying25 (hval 2 25 v2 rfl rfl) opens25W h2 (pr := prot (B.env fun _ => False) []) (fun a => prot_empty a)
  rw [cApi_Value_eq] at hrep2
  refine (law_calls G_none (law01_TotalOrderR_con (cmp_ := cmpF) (fun {a b r} h => codec_Compare_n_con _ h) (law_totalOrderW x0 x1 x2 hok0 hok1 hok2)) Try.func9 rfl (by decide +kernel) (W := W) (args := #[v0, v1, v2]) ⟨hrep0, hrep1, hrep2, trivial⟩).mono fun e W' ⟨he, hbel⟩ => ?_
  exact ⟨_, he, law_post hW' rfl rfl rfl Try.underlying4 laid_ok (by decide +kernel) hbel⟩

set_option maxRecDepth 100000 in
theorem codecTotalOrder_lifted (os : Os) (started : os.Started) (H : Type) (enc : TypeId × Value → H) :
    ReturnsInHanded {} Try.checked os 9 .any (Rows.codecTotalOrderSpec.pre6 enc Try.prog Try.f9 Rows.codecTotalOrderRow.domain false) (Rows.codecTotalOrderSpec.post enc Try.prog Try.f9 false true false false) := by
  refine returnsInHanded_of_change (C := Try.checked) own started (by kernel_rfl) Try.func9
    (ChangeSpec.witness6 (enc := enc) (C := Try.checked) false ⟨#[], #[.agg #[.int .i64 0, .int .i64 0, .slice none 0 0, .slice none 0 0], .agg #[.int .i64 0, .int .i64 0, .slice none 0 0, .slice none 0 0], .agg #[.int .i64 0, .int .i64 0, .slice none 0 0, .slice none 0 0]], []⟩ 8 (by kernel_rfl) (by kernel_rfl) (by kernel_rfl) (by kernel_rfl)) ?_
  intro W base args ds gs before hval hW _ _
  exact codecTotalOrder_contract H enc W base args ds gs before hval hW

theorem codecTotalOrder_said : Rows.CodecTotalOrderSaid :=
  OpenClaim.holds_of_wide 9 Try.f9 rfl rfl rfl rfl rfl rfl rfl ⟨rfl, rfl, rfl, rfl, rfl⟩ rfl rfl rfl rfl rfl (by kernel_rfl) Try.func9 (by kernel_rfl)
    (of_decide_eq_true (by kernel_rfl)) (by unfold Func.isWrapper; first | (rw [if_pos (by decide +kernel)]; kernel_rfl) | (rw [if_neg (by decide +kernel)]; exact ⟨rfl, rfl⟩))
    (fun os started H enc _ => codecTotalOrder_lifted os started H enc)

end Go.Proofs.Ytihncddenjbecaa
