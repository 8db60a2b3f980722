/-
  Part 6.
-/
import Derived.Test.YtnfoiocigicdnaaGreatDoorYV5
namespace Go.Rv
set_option linter.unusedVariables false
set_option linter.unusedSimpArgs false
variable {E : Env} {w : World} {g : Gh} {σ : Ab}
def Id (w : World) (pr : Addr → Prop) (g : Gh) : Option Value → Option AV → Prop
  | none, none => True
  | some v, some x => Rep w pr g v x
  | _, _ => False
theorem Wj {pr : Addr → Prop} {P : Program} {v : Value} {x : AV} {y n : Nat} (hv : Rep w pr g v x) (h : Aj4 x y = some n) :
    n ≤ y ∧ ∀ (y' : Nat) (code : BoundsCode), y ≤ y' → (Instr.sliceBound v y' code).run P w = .ok n w := by
  unfold Aj4 at h
  split at h
  · rename_i k i
    split at h
    · rename_i hc
      simp only [Option.some.injEq] at h
      cases hv
      refine ⟨by omega, fun y' code hy => ?_⟩
      have h1 : 0 ≤ i ∧ i ≤ (y' : Int) := by omega
      simp [Instr.sliceBound, asIntOf, h1, h]
    · cases h
  · cases h
theorem Vd {pr : Addr → Prop} {P : Program} {vo : Option Value} {xo : Option AV} {dflt y n : Nat} (hv : Id w pr g vo xo) (hd : dflt ≤ y) (h : Akb xo dflt y = some n) :
    n ≤ y ∧ ((vo = none ∧ n = dflt) ∨ ∃ v, vo = some v ∧ ∀ (y' : Nat) (code : BoundsCode), y ≤ y' → (Instr.sliceBound v y' code).run P w = .ok n w) := by
  cases xo with
  | none =>
    cases vo with
    | some v => simp [Id] at hv
    | none => simp [Akb] at h; subst h; exact ⟨hd, .inl ⟨rfl, rfl⟩⟩
  | some x =>
    cases vo with
    | none => simp [Id] at hv
    | some v =>
      obtain ⟨h1, h2⟩ := Wj (P := P) hv h
      exact ⟨h1, .inr ⟨v, rfl, h2⟩⟩
theorem I7 {pr : Addr → Prop} {P : Program} {isSlice : Bool} {len cap : Nat} {full : Bool} (hcap : len ≤ cap) (hfull : full = true → cap = len)
    {vlo vhi vmx : Option Value} {lo hi mx : Option AV} (hlo : Id w pr g vlo lo) (hhi : Id w pr g vhi hi) (hmx : Id w pr g vmx mx) {l h : Nat} {f : Bool}
    (hb : Kx len full lo hi mx = some (l, h, f)) :
    ∃ m, (Instr.sliceBounds isSlice len cap vlo vhi vmx).run P w = .ok (l, h, m) w ∧ l ≤ h ∧ h ≤ len ∧ h ≤ m ∧ m ≤ cap ∧ (f = true → m = h) := by
  unfold Kx at hb
  cases mx with
  | none =>
    cases vmx with
    | some v => simp [Id] at hmx
    | none =>
      simp only at hb
      split at hb
      · cases hb
      rename_i h' hh
      split at hb
      · cases hb
      rename_i l' hl
      simp only [Option.some.injEq, Prod.mk.injEq] at hb
      obtain ⟨rfl, rfl, rfl⟩ := hb
      obtain ⟨a1, a2⟩ := Vd (P := P) hhi (Nat.le_refl _) hh
      obtain ⟨b1, b2⟩ := Vd (P := P) hlo (Nat.zero_le _) hl
      refine ⟨cap, ?_, b1, a1, by omega, Nat.le_refl _, fun e => ?_⟩
      · rcases a2 with ⟨rfl, rfl⟩ | ⟨v, rfl, hr⟩ <;> rcases b2 with ⟨rfl, rfl⟩ | ⟨u, rfl, hr2⟩
        · simp [Instr.sliceBounds]
        · simp [Instr.sliceBounds, hr2 _ _ (Nat.le_refl _)]
        · simp [Instr.sliceBounds, hr _ _ hcap]
        · simp [Instr.sliceBounds, hr _ _ hcap, hr2 _ _ (Nat.le_refl _)]
      · simp only [Bool.and_eq_true, beq_iff_eq] at e
        have := hfull e.1
        omega
  | some xm =>
    cases vmx with
    | none => simp [Id] at hmx
    | some vm =>
      simp only at hb
      split at hb
      case h_2 => cases hb
      rename_i m hv hm'
      split at hb
      · cases hb
      rename_i h' hh
      split at hb
      · cases hb
      rename_i l' hl
      simp only [Option.some.injEq, Prod.mk.injEq] at hb
      obtain ⟨rfl, rfl, rfl⟩ := hb
      cases vhi with
      | none => simp [Id] at hhi
      | some vh =>
        obtain ⟨c1, c2⟩ := Wj (P := P) hmx hm'
        obtain ⟨a1, a2⟩ := Wj (P := P) hhi hh
        obtain ⟨b1, b2⟩ := Vd (P := P) hlo (Nat.zero_le _) hl
        refine ⟨m, ?_, b1, by omega, by omega, by omega, fun e => ?_⟩
        · rcases b2 with ⟨rfl, rfl⟩ | ⟨u, rfl, hr2⟩
          · simp [Instr.sliceBounds, c2 _ _ hcap, a2 _ _ (Nat.le_refl _)]
          · simp [Instr.sliceBounds, c2 _ _ hcap, a2 _ _ (Nat.le_refl _), hr2 _ _ (Nat.le_refl _)]
        · simp only [beq_iff_eq] at e
          exact e.symm
theorem Agl {pr : Addr → Prop} {a : Option Addr} {len cap : Nat} {full : Bool} {els : List (List AV)} (hv : Rep w pr g (.slice a len cap) (.sl full els)) {size l h m : Nat} {f : Bool}
    (h1 : l ≤ h) (h2 : h ≤ len) (h3 : h ≤ m) (h4 : m ≤ cap) (h5 : f = true → m = h) (hk0 : l = 0 ∨ ∀ cs ∈ els, cs.length = size) :
    Rep w pr g (.slice (if m = l then a else a.map (·.add (l * size))) (h - l) (m - l)) (.sl f ((els.drop l).take (h - l))) := by
  cases hv with
  | sl _ _ _ _ _ _ k c hlen hcap hfull hnone hk hc hr =>
    refine .sl _ _ _ _ f _ k (fun i j => c (l + i) j) (by simp; omega) (by omega) (fun e => by have := h5 e; omega) ?_ ?_ ?_ ?_
    · intro e
      by_cases hml : m = l
      · omega
      · rw [if_neg hml] at e
        cases a with
        | none => have := hnone rfl; omega
        | some b => cases e
    · intro i cs hi
      rw [List.getElem?_take] at hi
      split at hi
      · rw [List.getElem?_drop] at hi; exact hk _ _ hi
      · cases hi
    · intro i cs j x hi hj
      rw [List.getElem?_take] at hi
      split at hi
      case isFalse => cases hi
      rename_i hil
      rw [List.getElem?_drop] at hi
      obtain ⟨b, rfl, q1, q2, q3⟩ := hc _ _ _ _ hi hj
      have e : l * size = l * k := by
        rcases hk0 with h | h
        · simp [h]
        · rw [← hk _ _ hi, h _ (List.mem_of_getElem? hi)]
      refine ⟨b.add (l * k), ?_, ?_, ?_, q3⟩
      · rw [if_neg (by omega), ← e]; rfl
      · rw [K2, ← Nat.add_assoc, ← Nat.add_mul]; exact q1
      · rw [K2, ← Nat.add_assoc, ← Nat.add_mul]; exact q2
    · intro i cs j x hi hj
      rw [List.getElem?_take] at hi
      split at hi
      case isFalse => cases hi
      rw [List.getElem?_drop] at hi
      exact hr _ _ _ _ hi hj
theorem Cq {pr : Addr → Prop} {v : Value} {x : AV} (h : Rep w pr g v x) : x.closed = true → Rep w pr [] v x := by
  induction h with
  | junk g v => intro _; exact .junk _ _
  | bool g b => intro _; exact .bool _ _
  | int g k n => intro _; exact .int _ _ _
  | str g s l h => intro _; exact .str _ _ _ h
  | sl g a len cap full els k c hlen hcap hfull hnone hk hc hr ih => intro _; exact .sl _ a len cap full els k c hlen hcap hfull hnone hk hc hr
  | bs g v full id tot off len b hb hx ht h ho => intro hc; simp [AV.closed] at hc
  | ref g id off β b hb hx hβ => intro hc; simp [AV.closed] at hc
  | tref g id t β b hb hx hβ ht => intro hc; simp [AV.closed] at hc
  | mref g id β b hb hx hβ => intro hc; simp [AV.closed] at hc
  | nref g v id b hb hx h => intro hc; simp [AV.closed] at hc
  | eref g v id tot i j b hb hx ht h ho => intro hc; simp [AV.closed] at hc
  | rp g a cs c hc hr ih => intro _; exact .rp _ a cs c hc hr
  | agg g vs cs hs ho hr ih =>
    intro hc
    refine .agg _ vs cs hs ho (fun i x hx => ih i x hx ?_)
    simp only [AV.closed, List.all_eq_true] at hc
    exact hc ⟨x, List.mem_of_getElem? hx⟩ (List.mem_attach _ _)
  | tup g vs xs hs hr ih =>
    intro hc
    refine .tup _ vs xs hs (fun i x hx => ih i x hx ?_)
    simp only [AV.closed, List.all_eq_true] at hc
    exact hc ⟨x, List.mem_of_getElem? hx⟩ (List.mem_attach _ _)
  | fn g f caps xs hs hr hn ih =>
    intro hc
    refine .fn _ f caps xs hs (fun i x hx => ih i x hx ?_) hn
    simp only [AV.closed, List.all_eq_true] at hc
    exact hc ⟨x, List.mem_of_getElem? hx⟩ (List.mem_attach _ _)
  | fnb g f fs xs hs hr ih =>
    intro hc
    refine .fnb _ f fs xs hs (fun i x hx => ih i x hx ?_)
    simp only [AV.closed, List.all_eq_true] at hc
    have h2 := hc ⟨.tup xs, by simp⟩ (List.mem_attach _ _)
    simp only [AV.closed, List.all_eq_true] at h2
    exact h2 ⟨x, List.mem_of_getElem? hx⟩ (List.mem_attach _ _)
  | iface g t v x hr ih => intro hc; exact .iface _ t v x (ih (by simpa [AV.closed] using hc))
  | glob g i => intro _; exact .glob _ _
  | val g v h => intro _; exact .val _ _ h
theorem Zw (hE : E.Ok) (hm : Mem E w g σ) {t : TypeId} {v : Value} {vlo vhi vmx : Option Value} {x y : AV} {lo hi mx : Option AV} {σ' : Ab} (hv : Rep w (A2 E g) g v x)
    (hlo : Id w (A2 E g) g vlo lo) (hhi : Id w (A2 E g) g vhi hi) (hmx : Id w (A2 E g) g vmx mx)
    (hx : H6 E σ t x lo hi mx = some (y, σ')) : Sound E w g ((Instr.sliceAt t v vlo vhi vmx).run E.P w) y σ' := by
  unfold H6 at hx
  cases ht : E.tab t with
  | none => simp [ht] at hx
  | some d =>
    simp only [ht] at hx
    have hnotarr : (∀ n e, d.desc ≠ .array n e) → (Instr.sliceAt t v vlo vhi vmx).run E.P w = (Instr.slice t v vlo vhi vmx).run E.P w := by
      intro h
      unfold Instr.sliceAt
      rw [Sem.run_bind, A7 hE ht, Result.andThen_ok]
      split
      · rename_i n e he; exact (h n e he).elim
      · rfl
    split at hx
    · rename_i s hd
      split at hx
      case h_2 => cases hx
      rename_i l h f hb
      split at hx
      · cases hx
      rename_i hmxn
      simp only [Option.some.injEq, Prod.mk.injEq] at hx
      obtain ⟨rfl, rfl⟩ := hx
      cases hv with
      | str _ ba _ hl =>
        obtain rfl : mx = none := by cases mx <;> simp_all
        obtain rfl : vmx = none := by cases vmx <;> simp_all [Id]
        have hsz : ba.size = s.length := by rw [← hl]; simp
        obtain ⟨m, hrun, h1, h2, h3, h4, h5⟩ := I7 (P := E.P) (isSlice := false) (len := ba.size) (cap := ba.size) (full := true) (Nat.le_refl _) (fun _ => rfl) hlo hhi (vmx := none) (mx := none) trivial (by rw [hsz]; exact hb)
        refine Sound.pure hm (v := .string (ba.extract l h)) ?_ (.str _ _ _ ?_)
        · rw [hnotarr (by rw [hd]; intro n e; simp)]
          simp [Instr.slice, A7 hE ht, hd, hrun]
        · rw [← hl]
          simp [ByteArray.data_extract, List.drop_take]
    · rename_i e full els hd
      split at hx
      case h_2 => cases hx
      rename_i de l h f hte hb
      split at hx
      case isFalse => cases hx
      rename_i hk0
      simp only [Option.some.injEq, Prod.mk.injEq] at hx
      obtain ⟨rfl, rfl⟩ := hx
      have hv2 := hv
      cases hv with
      | sl _ a len cap _ _ k c hlen hcap hfull hnone hk hc hr =>
        obtain ⟨m, hrun, h1, h2, h3, h4, h5⟩ := I7 (P := E.P) (isSlice := true) hcap hfull hlo hhi hmx (by rw [← hlen]; exact hb)
        refine Sound.pure hm (v := .slice (if m = l then a else a.map (·.add (l * de.size))) (h - l) (m - l)) ?_ (Agl hv2 h1 h2 h3 h4 h5 hk0)
        rw [hnotarr (by rw [hd]; intro n e; simp)]
        simp [Instr.slice, A7 hE ht, hd, hrun, B2 hE hte]
    · rename_i e full id tot off len hd
      split at hx
      case h_2 => cases hx
      rename_i k els ro de hσ hte
      split at hx
      case isFalse => cases hx
      rename_i hcond
      obtain ⟨c1, c2⟩ := hcond
      split at hx
      case h_2 => cases hx
      rename_i l h f hb
      simp only [Option.some.injEq, Prod.mk.injEq] at hx
      obtain ⟨rfl, rfl⟩ := hx
      cases hv with
      | bs _ _ _ _ _ _ _ b hgb hbx htot hat ho =>
        have hk := hm.blk id b _ hgb hσ
        have hbl : b.len = tot := by have := hk.2.2.2.1; omega
        have hbk : b.k = k := hk.2.2.1
        obtain ⟨a, cap, rfl, q2, q3, q4, q5⟩ := hat hbl
        obtain ⟨m, hrun, h1, h2, h3, h4, h5⟩ := I7 (P := E.P) (isSlice := true) q2 q3 hlo hhi hmx hb
        refine Sound.pure hm (v := .slice (if m = l then a else a.map (·.add (l * de.size))) (h - l) (m - l)) ?_ (.bs _ _ _ _ _ _ _ b hgb hbx htot (fun _ => ?_) rfl)
        · rw [hnotarr (by rw [hd]; intro n e; simp)]
          simp [Instr.slice, A7 hE ht, hd, hrun, B2 hE hte]
        · refine ⟨_, _, rfl, by omega, fun e => by have := h5 e; omega, by omega, ?_⟩
          by_cases hml : m = l
          · exact .inl (by omega)
          · rcases q5 with q5 | ⟨β, hβ, rfl, q6⟩
            · exact .inl (by omega)
            · refine .inr ⟨β, hβ, ?_, by omega⟩
              rw [if_neg hml]
              simp only [Option.map_some, Bp]
              rw [Nat.add_mul, hbk, c2, Nat.add_assoc]
    · rename_i n e id off hd
      split at hx
      case h_2 => cases hx
      rename_i cs ro de hσ hte
      split at hx
      case isFalse => cases hx
      rename_i hcond
      obtain ⟨c1, c2, c3⟩ := hcond
      split at hx
      case h_2 => cases hx
      rename_i l h f hb
      simp only [Option.some.injEq, Prod.mk.injEq] at hx
      obtain ⟨rfl, rfl⟩ := hx
      cases hv with
      | ref _ _ _ β b hgb hbx hβ =>
        obtain ⟨m, hrun, h1, h2, h3, h4, h5⟩ := I7 (P := E.P) (isSlice := false) (len := n) (cap := n) (full := true) (Nat.le_refl _) (fun _ => rfl) hlo hhi hmx hb
        obtain ⟨r1, r2, r3⟩ := AhA hm hgb hσ
        have hok := r1.blk id { b with ro := true } (.box cs true) (Bi hgb) (Bi hσ)
        obtain ⟨k1, k2, k3, k4, k5, β', arr, t', fz, k6, k7, k8, k9, k10⟩ := hok
        have : β' = β := by simp only at k6; rw [hβ] at k6; cases k6; rfl
        subst this
        refine ⟨.slice (some (if m = l then ⟨β', off, none⟩ else (⟨β', off, none⟩ : Addr).add (l * de.size))) (h - l) (m - l), w, _, ?_, r1, r2, r3, ?_⟩
        · simp only [Instr.sliceAt, Sem.run_bind, A7 hE ht, hd, Result.andThen_ok, Instr.sureAddr, Sem.run_pure, hrun, B2 hE hte]
        · refine .sl _ _ _ _ false _ 1 (fun i j => arr.getD (off + (l + i) + j) undef) (by simp; omega) (by omega) (by intro e; cases e) (by intro e; cases e) ?_ ?_ ?_
          · intro i cs' hi
            rw [List.getElem?_take] at hi
            split at hi
            case isFalse => cases hi
            rw [List.getElem?_drop, List.getElem?_map, Option.map_eq_some_iff] at hi
            obtain ⟨_, _, rfl⟩ := hi
            rfl
          all_goals
            intro i cs' j x hi hj
            rw [List.getElem?_take] at hi
            split at hi
            case isFalse => cases hi
            rename_i hil
            rw [List.getElem?_drop, List.getElem?_map, Option.map_eq_some_iff] at hi
            obtain ⟨u, hu, rfl⟩ := hi
            have hj0 : j = 0 := by have := (List.getElem?_eq_some_iff.1 hj).1; simp at this; exact this
            subst hj0
            simp only [List.getElem?_cons_zero, Option.some.injEq] at hj
            subst hj
            rw [List.getElem?_take] at hu
            split at hu
            case isFalse => cases hu
            rw [List.getElem?_drop] at hu
            obtain ⟨s1, s2⟩ := k10 _ _ hu
            have hlt : off + (l + i) < arr.size := by have := (List.getElem?_eq_some_iff.1 hu).1; omega
          · refine ⟨_, rfl, ?_, ?_, by simpa using s2⟩
            · rw [if_neg (by omega), c1, Bp, Bp]
              have e : off + l * 1 + (i * 1 + 0) = off + (l + i) := by omega
              rw [e, cell?_eq k7, A0 hlt]
              rfl
            · rw [if_neg (by omega), c1, Bp, Bp]
              refine ⟨fun hF => (r1.foreign _ hF).2 ⟨id, _, Bi hgb, k6⟩, ?_⟩
              intro id' b' hb' he
              have : id' = id := r1.inj id' id b' _ β' hb' (Bi hgb) he k6
              subst this
              rw [Bi hgb] at hb'; cases hb'
              refine ⟨rfl, ?_⟩
              have hcl : off + (l + i) < cs.length := (List.getElem?_eq_some_iff.1 hu).1
              simp only at k3 k4 k5 ⊢
              rw [k3, k4, k5]
              omega
          · refine Cq (by simpa using s1) ?_
            exact List.all_eq_true.1 c3 _ (List.mem_of_getElem? hu)
    · rename_i n e i hd
      split at hx
      case h_2 => cases hx
      rename_i cs de hG hte
      split at hx
      case isFalse => cases hx
      rename_i hcond
      obtain ⟨c1, c2⟩ := hcond
      split at hx
      case h_2 => cases hx
      rename_i l h f hb
      simp only [Option.some.injEq, Prod.mk.injEq] at hx
      obtain ⟨rfl, rfl⟩ := hx
      cases hv with
      | glob =>
        obtain ⟨m, hrun, h1, h2, h3, h4, h5⟩ := I7 (P := E.P) (isSlice := false) (len := n) (cap := n) (full := true) (Nat.le_refl _) (fun _ => rfl) hlo hhi hmx hb
        obtain ⟨q1, q2, q3, c, hc⟩ := hm.glob i cs hG
        refine Sound.pure hm (v := .slice (some (if m = l then ⟨i, 0, none⟩ else (⟨i, 0, none⟩ : Addr).add (l * de.size))) (h - l) (m - l)) ?_ ?_
        · simp only [Instr.sliceAt, Sem.run_bind, A7 hE ht, hd, Result.andThen_ok, Instr.sureAddr, Sem.run_pure, hrun, B2 hE hte]
        · refine .sl _ _ _ _ false _ 1 (fun a b => c (l + a + b)) (by simp; omega) (by omega) (by intro e; cases e) (by intro e; cases e) ?_ ?_ ?_
          · intro a cs' hi
            rw [List.getElem?_take] at hi
            split at hi
            case isFalse => cases hi
            rw [List.getElem?_drop, List.getElem?_map, Option.map_eq_some_iff] at hi
            obtain ⟨_, _, rfl⟩ := hi
            rfl
          all_goals
            intro a cs' j x hi hj
            rw [List.getElem?_take] at hi
            split at hi
            case isFalse => cases hi
            rename_i hil
            rw [List.getElem?_drop, List.getElem?_map, Option.map_eq_some_iff] at hi
            obtain ⟨u, hu, rfl⟩ := hi
            have hj0 : j = 0 := by have := (List.getElem?_eq_some_iff.1 hj).1; simp at this; exact this
            subst hj0
            simp only [List.getElem?_cons_zero, Option.some.injEq] at hj
            subst hj
            rw [List.getElem?_take] at hu
            split at hu
            case isFalse => cases hu
            obtain ⟨s1, s2, s3⟩ := hc _ _ hu
          · refine ⟨_, rfl, ?_, ?_, by simpa using s3⟩
            · rw [if_neg (by omega), c1, Bp, Bp]
              have e : 0 + l * 1 + (a * 1 + 0) = l + a := by omega
              rw [e]
              simpa using s1
            · rw [if_neg (by omega), c1, Bp, Bp]
              exact B4 (q3 _) q2
          · simpa using s2
    · cases hx
end Go.Rv
