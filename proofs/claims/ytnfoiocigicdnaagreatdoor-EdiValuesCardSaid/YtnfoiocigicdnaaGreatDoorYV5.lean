/-
  Part 5.
-/
import Derived.Test.YtnfoiocigicdnaaGreatDoorYV4
import Derived.Laws.BytesString
namespace Go.Rv
set_option linter.unusedVariables false
set_option linter.unusedSimpArgs false
variable {E : Env} {w : World} {g : Gh} {σ : Ab}
theorem AnU {a : Addr} {cs : List AV} (h : CellsAt w (A2 E g) [] a cs) (hp : ∀ (j : Nat) (x : AV), cs[j]? = some x → A2 E g (a.add j)) : Rep w (A2 E g) g (.pointer (some a)) (.rp cs) := by
  have hcell : ∀ (j : Nat) (x : AV), cs[j]? = some x → w.cell? (a.add j) = some ((w.cell? (a.add j)).getD undef) ∧ Rep w (A2 E g) [] ((w.cell? (a.add j)).getD undef) x ∧ one ((w.cell? (a.add j)).getD undef) = true := by
    intro j x hx
    obtain ⟨u, hu, hr, ho⟩ := h j x hx
    rw [hu]
    exact ⟨rfl, hr, ho⟩
  exact .rp _ a cs (fun j => (w.cell? (a.add j)).getD undef) (fun j x hx => ⟨(hcell j x hx).1, hp j x hx, (hcell j x hx).2.2⟩) (fun j x hx => (hcell j x hx).2.1)
theorem Vb {a : Addr} {cs : List AV} (h : CellsAt w (A2 E g) [] a cs) (hp : ∀ (j : Nat) (x : AV), cs[j]? = some x → A2 E g (a.add j)) (n : Nat) : Rep w (A2 E g) g (.pointer (some (a.add n))) (.rp (cs.drop n)) := by
  refine AnU (h.drop n) ?_
  intro j x hx
  rw [List.getElem?_drop] at hx
  rw [K2]
  exact hp _ _ hx
theorem Yg (hm : Mem E w g σ) {i : Nat} {cs : List AV} (h : E.G i = some cs) : ∀ (j : Nat) (x : AV), cs[j]? = some x → A2 E g ((⟨i, 0, none⟩ : Addr).add j) := by
  intro j x _
  rw [Bp]
  exact (Lv hm h).2 _
theorem Abc (hm : Mem E w g σ) {v : Value} {id tot i j : Nat} (hv : Rep w (A2 E g) g v (.eref id tot i j)) (hc : AdV σ id tot = true) :
    ∃ b β, g[id]? = some b ∧ b.isBox = false ∧ b.len = tot ∧ b.blk = some β ∧ v = .pointer (some ⟨β, b.o + i * b.k + j, none⟩) := by
  cases hv with
  | eref _ _ _ _ _ _ b hb hbx htot h ho =>
    unfold AdV at hc
    split at hc
    · rename_i k els ro hσ
      have hbl : b.len = tot := by
        have := (hm.blk id b _ hb hσ).2.2.2.1
        have := beq_iff_eq.1 hc
        omega
      obtain ⟨β, hβ, e⟩ := h hbl
      exact ⟨b, β, hb, hbx, hbl, hβ, e⟩
    · cases hc
theorem Re (hE : E.Ok) (hm : Mem E w g σ) {s : TypeId} {v : Value} {x y : AV} {f : Nat} (hv : Rep w (A2 E g) g v x) (hx : C2 E σ s x f = some y) :
    ∃ u, (Instr.fieldAt s v f).run E.P w = .ok u w ∧ Rep w (A2 E g) g u y := by
  unfold C2 at hx
  cases hs : E.tab s with
  | none => simp [hs] at hx
  | some d =>
    simp only [hs] at hx
    cases hd : d.desc <;> simp only [hd] at hx <;> try (cases hx; done)
    rename_i fields
    cases hf : fields[f]? with
    | none => simp [hf] at hx
    | some fl =>
      simp only [hf] at hx
      cases htf : E.tab fl.type with
      | none => simp [htf] at hx
      | some df =>
        simp only [htf] at hx
        split at hx
        · cases hx
        rename_i hsz
        have key : ∀ a, (Instr.fieldAt s (.pointer (some a)) f).run E.P w = .ok (.pointer (some (a.add fl.offset))) w := by
          intro a
          simp [Instr.fieldAt, Instr.sureAddr, A7 hE hs, hd, hf, fieldPlace, B2 hE htf, hsz]
        cases x with
        | ref id off =>
          simp only [Option.some.injEq] at hx
          subst hx
          cases hv with
          | ref _ _ _ β b hb hbx hβ => exact ⟨_, key _, by rw [Bp]; exact .ref _ _ _ β b hb hbx hβ⟩
        | tref id t =>
          simp only [Option.some.injEq] at hx
          subst hx
          cases hv with
          | tref _ _ _ β b hb hbx hβ ht => exact ⟨_, key _, by rw [Bp, Nat.zero_add]; exact .ref _ _ _ β b hb hbx hβ⟩
        | eref id tot i j =>
          simp only at hx
          split at hx
          case isFalse => cases hx
          rename_i hcur
          simp only [Option.some.injEq] at hx
          subst hx
          obtain ⟨b, β, hb, hbx, hbl, hβ, rfl⟩ := Abc hm hv hcur
          refine ⟨_, key _, .eref _ _ _ _ _ _ b hb hbx (by omega) (fun _ => ⟨β, hβ, ?_⟩) rfl⟩
          rw [Bp, Nat.add_assoc]
        | rp cs =>
          simp only [Option.some.injEq] at hx
          subst hx
          obtain ⟨a, rfl, hc, hp⟩ := Vl hv
          exact ⟨_, key _, Vb hc hp _⟩
        | glob i =>
          cases hG : E.G i with
          | none => simp [hG] at hx
          | some cs =>
            simp only [hG, Option.some.injEq] at hx
            subst hx
            cases hv with
            | glob => exact ⟨_, key _, Vb (Lv hm hG).1 (Yg hm hG) _⟩
        | _ => simp at hx
theorem Abg (hE : E.Ok) {t : TypeId} {d : TD} (ht : E.tab t = some d) {pr : Addr → Prop} {vs : Array Value} {cs : List AV} (hv : Rep w pr g (.agg vs) (.agg cs)) {off : Nat} {x : AV} (hx : partA d cs off = some x) :
    ∃ u, (part t vs off).run E.P w = .ok u w ∧ Rep w pr g u x := by
  cases hv with
  | agg _ _ _ hs ho hr =>
    unfold partA at hx
    unfold part
    rw [Sem.run_bind, Xs hE ht]
    cases hag : d.isAgg with
    | true =>
      rw [hag] at hx
      simp only [if_true] at hx
      split at hx
      case isFalse => cases hx
      rename_i hl
      simp only [Option.some.injEq] at hx
      subst hx
      refine ⟨.agg (vs.extract off (off + d.size)), by simp [B2 hE ht], .agg _ _ _ (by simp; omega) ?_ ?_⟩
      all_goals
        intro i y hy
        have hil : i < d.size := by have := (List.getElem?_eq_some_iff.1 hy).1; simp at this; omega
        rw [List.getElem?_take, if_pos hil, List.getElem?_drop] at hy
        have e : (vs.extract off (off + d.size)).getD i undef = vs.getD (off + i) undef := by
          have h2 : off + i < vs.size := by omega
          refine Au ?_
          rw [Array.getElem?_extract, if_pos (by omega), A0 h2]
        rw [e]
      · exact ho _ _ hy
      · exact hr _ _ hy
    | false =>
      rw [hag] at hx
      simp only [Bool.false_eq_true, if_false] at hx
      have hl : off < vs.size := by have := (List.getElem?_eq_some_iff.1 hx).1; omega
      exact ⟨vs.getD off undef, by rw [Result.andThen_ok]; simp only [Bool.false_eq_true, if_false, A0 hl, Sem.run_pure], hr _ _ hx⟩
theorem Aad (hE : E.Ok) {s : TypeId} {pr : Addr → Prop} {v : Value} {x y : AV} {f : Nat} (hv : Rep w pr g v x) (hx : Xy E s x f = some y) :
    ∃ u, (Instr.field s v f).run E.P w = .ok u w ∧ Rep w pr g u y := by
  unfold Xy at hx
  split at hx
  case h_2 => cases hx
  rename_i d cs hs
  cases hd : d.desc <;> simp only [hd] at hx <;> try (cases hx; done)
  rename_i fields
  cases hf : fields[f]? with
  | none => simp [hf] at hx
  | some fl =>
    simp only [hf] at hx
    cases htf : E.tab fl.type with
    | none => simp [htf] at hx
    | some df =>
      simp only [htf] at hx
      have hv2 := hv
      cases hv with
      | agg _ vs _ h1 h2 h3 =>
        obtain ⟨u, hu, hr⟩ := Abg hE htf hv2 hx
        exact ⟨u, by simp [Instr.field, A7 hE hs, hd, hf, asAgg, hu], hr⟩
theorem Qv {pr : Addr → Prop} {v : Value} {x : AV} {n i : Nat} (hv : Rep w pr g v x) (hx : idx x n = some i) : ∃ k, v = .int k (i : Int) ∧ i < n := by
  unfold idx at hx
  split at hx
  · rename_i k z
    split at hx
    · rename_i h
      simp only [Option.some.injEq] at hx
      cases hv
      exact ⟨k, by rw [← hx]; congr 1; omega, by omega⟩
    · cases hx
  · cases hx
theorem Q1 (hE : E.Ok) (hm : Mem E w g σ) {t : TypeId} {v vi : Value} {x ix y : AV} (hv : Rep w (A2 E g) g v x) (hi : Rep w (A2 E g) g vi ix) (hx : As E σ t x ix = some y) :
    ∃ u, (Instr.indexAt t v vi).run E.P w = .ok u w ∧ Rep w (A2 E g) g u y := by
  unfold As at hx
  cases ht : E.tab t with
  | none => simp [ht] at hx
  | some d =>
    simp only [ht] at hx
    cases hd : d.desc <;> simp only [hd] at hx <;> try (cases hx; done)
    · rename_i e
      split at hx
      · rename_i de full els hte
        split at hx
        case h_2 => cases hx
        rename_i i hidx
        obtain ⟨ki, rfl, hlt⟩ := Qv hi hidx
        cases hei : els[i]? with
        | none => simp [hei] at hx
        | some cs =>
          simp only [hei] at hx
          split at hx
          case isFalse => cases hx
          rename_i hcs
          simp only [Option.some.injEq] at hx
          subst hx
          cases hv with
          | sl _ a len cap _ _ k c hlen hcap hfull hnone hk hc hr =>
            have hkk : k = de.size := by rw [← hk i cs hei]; exact hcs
            subst hkk
            have hpos : 0 < cap := by omega
            cases a with
            | none => have := hnone rfl; omega
            | some b =>
              have h1 : i < len := by omega
              refine ⟨.pointer (some (b.add (i * de.size))), ?_, ?_⟩
              · simp [Instr.indexAt, asIntOf, A7 hE ht, hd, B2 hE hte, h1]
              · refine .rp _ _ _ (c i) ?_ (fun j x hj => hr i cs j x hei hj)
                intro j x hj
                obtain ⟨b', hb', q1, q2, q3⟩ := hc i cs j x hei hj
                cases hb'
                rw [K2]
                exact ⟨q1, q2, q3⟩
      · rename_i de full id tot off len hte
        split at hx
        case h_2 => cases hx
        rename_i k els ro i hσ hidx
        obtain ⟨ki, rfl, hlt⟩ := Qv hi hidx
        split at hx
        case isFalse => cases hx
        rename_i hcond
        obtain ⟨c1, c2, c3⟩ := hcond
        simp only [Option.some.injEq] at hx
        subst hx
        cases hv with
        | bs _ _ _ _ _ _ _ b hb hbx htot h ho =>
          have hk := hm.blk id b _ hb hσ
          have hbl : b.len = tot := by have := hk.2.2.2.1; omega
          have hbk : b.k = k := hk.2.2.1
          obtain ⟨a, cap, rfl, q2, q3, q4, q5⟩ := h hbl
          rcases q5 with q5 | ⟨β, hβ, rfl, q6⟩
          · omega
          · have h1 : i < len := by omega
            refine ⟨.pointer (some ⟨β, b.o + (off + i) * b.k + 0, none⟩), ?_, .eref _ _ _ _ _ _ b hb hbx htot (fun _ => ⟨β, hβ, rfl⟩) rfl⟩
            have e : b.o + (off + i) * b.k + 0 = b.o + off * b.k + i * de.size := by rw [Nat.add_mul, hbk, c2]; omega
            simp [Instr.indexAt, asIntOf, A7 hE ht, hd, B2 hE hte, h1, Bp, e]
      · cases hx
    · rename_i n e
      split at hx
      case h_2 => cases hx
      rename_i de i hte hidx
      obtain ⟨ki, rfl, hlt⟩ := Qv hi hidx
      have h1 : i < n := by omega
      have key : ∀ a, (Instr.indexAt t (.pointer (some a)) (.int ki i)).run E.P w = .ok (.pointer (some (a.add (i * de.size)))) w := by
        intro a
        simp [Instr.indexAt, asIntOf, Instr.sureAddr, A7 hE ht, hd, B2 hE hte, h1]
      cases x with
      | ref id off =>
        simp only [Option.some.injEq] at hx
        subst hx
        cases hv with
        | ref _ _ _ β b hb hbx hβ => exact ⟨_, key _, by rw [Bp]; exact .ref _ _ _ β b hb hbx hβ⟩
      | eref id tot i0 j =>
        simp only at hx
        split at hx
        case isFalse => cases hx
        rename_i hcur
        simp only [Option.some.injEq] at hx
        subst hx
        obtain ⟨b, β, hb, hbx, hbl, hβ, rfl⟩ := Abc hm hv hcur
        refine ⟨_, key _, .eref _ _ _ _ _ _ b hb hbx (by omega) (fun _ => ⟨β, hβ, ?_⟩) rfl⟩
        rw [Bp, Nat.add_assoc]
      | rp cs =>
        simp only [Option.some.injEq] at hx
        subst hx
        obtain ⟨a, rfl, hc, hp⟩ := Vl hv
        exact ⟨_, key _, Vb hc hp _⟩
      | glob i =>
        cases hG : E.G i with
        | none => simp [hG] at hx
        | some cs =>
          simp only [hG, Option.some.injEq] at hx
          subst hx
          cases hv with
          | glob => exact ⟨_, key _, Vb (Lv hm hG).1 (Yg hm hG) _⟩
      | _ => simp at hx
theorem Aab (hE : E.Ok) {t : TypeId} {pr : Addr → Prop} {v vi : Value} {x ix y : AV} (hv : Rep w pr g v x) (hi : Rep w pr g vi ix) (hx : L6 E t x ix = some y) :
    ∃ u, (Instr.index t v vi).run E.P w = .ok u w ∧ Rep w pr g u y := by
  unfold L6 at hx
  cases ht : E.tab t with
  | none => simp [ht] at hx
  | some d =>
    simp only [ht] at hx
    split at hx
    · rename_i n e cs hd
      split at hx
      case h_2 => cases hx
      rename_i de i hte hidx
      obtain ⟨ki, rfl, hlt⟩ := Qv hi hidx
      have hv2 := hv
      cases hv with
      | agg _ vs _ h1 h2 h3 =>
        obtain ⟨u, hu, hr⟩ := Abg hE hte hv2 hx
        have h1 : i < n := by omega
        exact ⟨u, by simp [Instr.index, asIntOf, A7 hE ht, hd, B2 hE hte, h1, hu], hr⟩
    · rename_i s hd
      split at hx
      case h_2 => cases hx
      rename_i i hidx
      obtain ⟨ki, rfl, hlt⟩ := Qv hi hidx
      cases hsi : s[i]? with
      | none => simp [hsi] at hx
      | some b =>
        simp only [hsi, Option.some.injEq] at hx
        subst hx
        cases hv with
        | str _ ba _ hl =>
          have hb : ba[i]? = some b := by
            rw [← hl] at hsi
            have : ba.data[i]? = some b := by simpa using hsi
            rw [← this]; rfl
          exact ⟨.int .u8 b.toNat, by simp [Instr.index, asIntOf, A7 hE ht, hd, hb], .int _ _ _⟩
    · cases hx
end Go.Rv
