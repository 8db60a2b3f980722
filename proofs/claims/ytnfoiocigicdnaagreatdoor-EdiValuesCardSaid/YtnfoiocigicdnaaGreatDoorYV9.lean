/-
  Part 9.
-/
import Derived.Test.YtnfoiocigicdnaaGreatDoorYV8
namespace Go.Rv
set_option linter.unusedVariables false
set_option linter.unusedSimpArgs false
variable {E : Env} {w : World} {g : Gh} {σ : Ab}
theorem AaS (els new : List (List AV)) (off : Nat) (h : off + new.length ≤ els.length) (k : Nat) :
    (J7 els new off)[k]? = if off ≤ k ∧ k < off + new.length then new[k - off]? else els[k]? := by
  unfold J7
  rw [List.append_assoc]
  by_cases h1 : k < off
  · rw [List.getElem?_append_left (by simp; omega), List.getElem?_take, if_pos h1, if_neg (by omega)]
  · rw [List.getElem?_append_right (by simp; omega)]
    have e : k - (List.take off els).length = k - off := by simp; omega
    rw [e]
    by_cases h2 : k < off + new.length
    · rw [List.getElem?_append_left (by omega), if_pos ⟨by omega, by omega⟩]
    · rw [List.getElem?_append_right (by omega), if_neg (by omega), List.getElem?_drop]
      congr 1
      omega
theorem S1 (els new : List (List AV)) (off : Nat) (h : off + new.length ≤ els.length) : (J7 els new off).length = els.length := by
  simp [J7]; omega
theorem L7 {pr : Addr → Prop} {size n : Nat} {vs : Array Value} {els : List (List AV)} (h : ElsRep w pr g size vs els) (hn : n ≤ els.length) (hsz : ∀ cs ∈ els, cs.length = size) : ElsRep w pr g size (vs.extract 0 (n * size)) (els.take n) := by
  have hle : n * size ≤ els.length * size := Nat.mul_le_mul_right size hn
  refine ⟨by simp only [Array.size_extract, h.1, List.length_take, Nat.sub_zero]; rw [Nat.min_eq_left hn, Nat.min_eq_left hle], ?_⟩
  intro i cs j x hi hj
  rw [List.getElem?_take] at hi
  split at hi
  case isFalse => cases hi
  rename_i hin
  have hjl : j < cs.length := (List.getElem?_eq_some_iff.1 hj).1
  rw [hsz cs (List.mem_of_getElem? hi)] at hjl
  have h1 : (i + 1) * size ≤ n * size := Nat.mul_le_mul_right size hin
  rw [Nat.add_mul, Nat.one_mul] at h1
  have e : (vs.extract 0 (n * size)).getD (i * size + j) undef = vs.getD (i * size + j) undef := by
    refine Au ?_
    have hl : i * size + j < vs.size := by rw [h.1]; omega
    rw [Array.getElem?_extract, if_pos (by rw [h.1]; omega), Nat.zero_add, A0 hl]
  rw [e]
  exact h.2 i cs j x hi hj
theorem Adc {pr : Addr → Prop} {size : Nat} {vs : Array Value} {els : List (List AV)} (h : ElsRep w pr g size vs els) (hsz : ∀ cs ∈ els, cs.length = size) : ∀ u ∈ vs.toList, one u = true := by
  intro u hu2
  obtain ⟨j, hj, e2⟩ := Pv hu2
  rw [h.1] at hj
  have hs : 0 < size := by
    rcases Nat.eq_zero_or_pos size with h | h
    · subst h; simp at hj
    · exact h
  have hi : j / size < els.length := (Nat.div_lt_iff_lt_mul hs).2 hj
  have hcs := hsz els[j / size] (List.getElem_mem hi)
  have hj2 : j % size < els[j / size].length := by rw [hcs]; exact Nat.mod_lt _ hs
  have := (h.2 (j / size) _ (j % size) _ (List.getElem?_eq_getElem hi) (List.getElem?_eq_getElem hj2)).2
  rw [Nat.mul_comm, Nat.div_add_mod, e2] at this
  exact this
theorem AcD {P : Program} (hm : Mem E w g σ) {v : Value} {x : AV} {els : List (List AV)} {size n : Nat} (hv : Rep w (A2 E g) g v x) (hx : G6 σ x = some els) (hsz : ∀ cs ∈ els, cs.length = size) (hstr : ∀ s, x = .str s → size = 1) (hn : n ≤ els.length) :
    ∃ vs, (Builtin.firstCells size n v).run P w = .ok vs w ∧ ElsRep w (A2 E g) g size vs (els.take n) := by
  obtain ⟨_, vs, h1, h2⟩ := Gl (P := P) hm hv hx hsz hstr
  cases v with
  | slice a len cap =>
    cases a with
    | none =>
      simp [Builtin.firstCells] at h1
      subst h1
      have hz : els.length * size = 0 := by have := h2.1; simpa using this.symm
      have hz2 : n * size = 0 := by
        have : n * size ≤ els.length * size := Nat.mul_le_mul_right size hn
        omega
      refine ⟨#[], by simp [Builtin.firstCells], ?_⟩
      have := L7 h2 hn hsz
      rw [hz2] at this
      simpa using this
    | some b =>
      have hc : ∀ j, j < els.length * size → w.cell? (b.add j) = some (vs.getD j undef) := by
        have hex : ∀ j, j < els.length * size → ∃ u, w.cell? (b.add j) = some u := by
          intro j hj
          have hs : 0 < size := by
            rcases Nat.eq_zero_or_pos size with h | h
            · subst h; simp at hj
            · exact h
          cases x with
          | sl full els' =>
            simp only [G6, Option.some.injEq] at hx
            subst hx
            cases hv with
            | sl _ _ len cap _ _ k c hlen hcap hfull hnone hk hcc hr =>
              have hi : j / size < els'.length := (Nat.div_lt_iff_lt_mul hs).2 hj
              have hcs := hsz els'[j / size] (List.getElem_mem hi)
              have hj2 : j % size < els'[j / size].length := by rw [hcs]; exact Nat.mod_lt _ hs
              obtain ⟨b', hb', q1, _⟩ := hcc (j / size) _ (j % size) _ (List.getElem?_eq_getElem hi) (List.getElem?_eq_getElem hj2)
              cases hb'
              have : k = size := by rw [← hk _ _ (List.getElem?_eq_getElem hi)]; exact hcs
              rw [this, Nat.mul_comm, Nat.div_add_mod] at q1
              exact ⟨_, q1⟩
          | bs full id tot off len' =>
            simp only [G6] at hx
            split at hx
            case h_2 => cases hx
            rename_i k els0 ro hσ
            split at hx
            case isFalse => cases hx
            rename_i hcur
            simp only [Option.some.injEq] at hx
            subst hx
            cases hv with
            | bs _ _ _ _ _ _ _ gb hgb hbx htot hat ho =>
              have hk := hm.blk id gb _ hgb hσ
              have hbl : gb.len = tot := by have := hk.2.2.2.1; omega
              have hbk : gb.k = k := hk.2.2.1
              have hkl := hk.2.2.2.2.1
              obtain ⟨a, cap, e1, q2, q3, q4, q5⟩ := hat hbl
              cases e1
              have hi : j / size < ((els0.drop off).take len).length := (Nat.div_lt_iff_lt_mul hs).2 hj
              have hcs := hsz _ (List.getElem_mem hi)
              have hj2 : j % size < (((els0.drop off).take len)[j / size]).length := by rw [hcs]; exact Nat.mod_lt _ hs
              rcases q5 with q5 | ⟨β, hβ, e2, q6⟩
              · have h0 : len = 0 := by omega
                rw [h0, List.take_zero] at hi
                exact absurd hi (Nat.not_lt_zero _)
              · cases e2
                have hi2 := List.getElem?_eq_getElem hi
                rw [List.getElem?_take] at hi2
                split at hi2
                case isFalse => cases hi2
                rw [List.getElem?_drop] at hi2
                have hks : k = size := by rw [← hkl _ _ hi2]; exact hcs
                obtain ⟨u, hu, _⟩ := Qa hm hσ hgb hβ hi2 (j % size) _ (List.getElem?_eq_getElem hj2)
                refine ⟨u, ?_⟩
                rw [Bp] at hu ⊢
                rw [← hu]
                congr 2
                rw [hbk, hks, Nat.add_mul]
                have := Nat.div_add_mod j size
                rw [Nat.mul_comm] at this
                omega
          | str s => cases hv
          | _ => simp [G6] at hx
        intro j hj
        obtain ⟨u, hu⟩ := hex j hj
        have hrun := run_loadCells (P := P) w b (els.length * size) (fun j => (w.cell? (b.add j)).getD undef) (fun j hj => by obtain ⟨u, hu⟩ := hex j hj; rw [hu]; rfl)
        simp only [Builtin.firstCells] at h1
        rw [hrun] at h1
        simp only [Result.ok.injEq, and_true] at h1
        rw [hu, ← h1]
        congr 1
        exact (Au (by simp [hj, hu])).symm
      have hle : n * size ≤ els.length * size := Nat.mul_le_mul_right size hn
      refine ⟨vs.extract 0 (n * size), ?_, L7 h2 hn hsz⟩
      have hrun := run_loadCells (P := P) w b (n * size) (fun j => vs.getD j undef) (fun j hj => hc j (by omega))
      simp only [Builtin.firstCells, hrun]
      congr 1
      apply Array.ext
      · simp only [List.size_toArray, List.length_map, List.length_range, Array.size_extract, h2.1]; omega
      · intro i h3 h4
        have h3' : i < n * size := by simpa using h3
        have : i < vs.size := by rw [h2.1]; omega
        simp [Array.getD, this]
  | string s =>
    refine ⟨vs.extract 0 (n * size), ?_, L7 h2 hn hsz⟩
    have hx2 : ∃ l, x = .str l := by
      cases x <;> first | exact ⟨_, rfl⟩ | (cases hv; done) | (simp [G6] at hx; done) | skip
      rename_i full id tot off len
      exfalso
      simp only [G6] at hx
      split at hx
      case h_2 => cases hx
      rename_i k els0 ro hσ
      split at hx
      case isFalse => cases hx
      cases hv with
      | bs _ _ _ _ _ _ _ gb hgb hbx htot hat ho =>
        have hk := hm.blk id gb _ hgb hσ
        have hbl : gb.len = tot := by have := hk.2.2.2.1; omega
        obtain ⟨a, cap, e1, _⟩ := hat hbl
        cases e1
    obtain ⟨l, rfl⟩ := hx2
    have h1s := hstr l rfl
    subst h1s
    have hl : els.length = s.size := by
      obtain ⟨ba, e, rfl⟩ := Iq hv
      cases e
      simp only [G6, Option.some.injEq] at hx
      subst hx
      simp
    simp only [Builtin.firstCells, Sem.run_pure, Result.ok.injEq, and_true] at h1 ⊢
    rw [← h1, hl]
    apply Array.ext'
    simp only [ByteArray.data_extract, Array.toList_map, Array.toList_extract, List.extract_eq_take_drop, Nat.sub_zero, List.drop_zero, Nat.mul_one, List.map_take]
    rw [List.take_take, Nat.min_eq_left (by omega)]
  | _ => cases x <;> first | (cases hv; done) | (simp [G6] at hx; done) | skip
         all_goals
           rename_i full id tot off len
           exfalso
           simp only [G6] at hx
           split at hx
           case h_2 => cases hx
           rename_i k els0 ro hσ
           split at hx
           case isFalse => cases hx
           cases hv with
           | bs _ _ _ _ _ _ _ gb hgb hbx htot hat ho =>
             have hk := hm.blk id gb _ hgb hσ
             have hbl : gb.len = tot := by have := hk.2.2.2.1; omega
             obtain ⟨a, cap, e1, _⟩ := hat hbl
             cases e1
theorem AcX (hE : E.Ok) (hm : Mem E w g σ) {t u ty : TypeId} {vd vs : Value} {dst src y : AV} {σ' : Ab} (hd : Rep w (A2 E g) g vd dst) (hs : Rep w (A2 E g) g vs src)
    (hy : AdY E σ t dst src = some (y, σ')) : Sound E w g ((Builtin.copy_ #[t, u] ty #[vd, vs]).run E.P w) y σ' := by
  unfold AdY at hy
  cases ht : E.tab t with
  | none => simp [ht] at hy
  | some d =>
    simp only [ht] at hy
    split at hy
    case h_2 => cases hy
    rename_i e hde
    split at hy
    case h_2 => cases hy
    rename_i de new full id tot off len hte hview
    split at hy
    case h_2 => cases hy
    rename_i k els hσ
    split at hy
    case isFalse => cases hy
    rename_i hcond
    obtain ⟨c0, c1, c2, c3, c4⟩ := hcond
    simp only [Option.some.injEq, Prod.mk.injEq] at hy
    obtain ⟨rfl, rfl⟩ := hy
    have hstr : ∀ l, src = .str l → de.size = 1 := by
      intro l hl
      subst hl
      simpa [H4] using c0
    obtain ⟨l2, _⟩ := Gl (P := E.P) (size := de.size) hm hs hview c4 hstr
    obtain ⟨v2, f2, r2⟩ := AcD (P := E.P) (n := min new.length len) hm hs hview c4 hstr (Nat.min_le_left _ _)
    have hsz2 : ∀ cs ∈ new.take (min new.length len), cs.length = de.size := fun cs h => c4 cs (List.mem_of_mem_take h)
    have hone := Adc r2 hsz2
    have hnl : (new.take (min new.length len)).length = min new.length len := by simp
    cases hd with
    | bs _ _ _ _ _ _ _ b hgb hbx htot hat ho =>
      obtain ⟨k1, k2, k3, k4, k5, k6, k7⟩ := hm.blk id b _ hgb hσ
      have hbl : b.len = tot := by omega
      obtain ⟨a, cap, rfl, q2, q3, q4, q5⟩ := hat hbl
      rcases q5 with q5 | ⟨β, hβ, rfl, q6⟩
      · have hn0 : min new.length len = 0 := by omega
        have hv2 : v2.toList = [] := by
          have := r2.1
          rw [hn0] at this
          simpa using this
        have hov : J7 els (new.take (min new.length len)) off = els := by simp [J7, hn0]
        rw [hov]
        have hself : σ.set id (.buf k els false) = σ := by
          apply List.ext_getElem?
          intro i
          by_cases hi : i = id
          · subst hi; rw [Bi hσ, hσ]
          · rw [Dm hi]
        rw [hself]
        refine Sound.pure hm (v := .int .i64 (min new.length len : Nat)) ?_ (.int _ _ _)
        have f2' : (Builtin.firstCells de.size (Nat.min new.length len) vs).run E.P w = .ok v2 w := f2
        cases a with
        | none => first | (simp [Builtin.copy_, A7 hE ht, hde, B2 hE hte, l2, f2', goInt]; done) | (simp [Builtin.copy_, A7 hE ht, hde, B2 hE hte, l2, f2', goInt]; rfl)
        | some a => first | (simp [Builtin.copy_, A7 hE ht, hde, B2 hE hte, l2, f2', hv2, storeCells, goInt]; done) | (simp [Builtin.copy_, A7 hE ht, hde, B2 hE hte, l2, f2', hv2, storeCells, goInt]; rfl)
      · obtain ⟨arr, t', fz, g1, g2, g3, g4, g5⟩ := k7 β hβ
        have hv2 : v2.toList.length = min new.length len * k := by simp [r2.1, c2]
        have hbnd : (off + min new.length len) * k ≤ b.ce * k := Nat.mul_le_mul_right k (by omega)
        rw [Nat.add_mul] at hbnd
        obtain ⟨w', arr', hrun, hw, harr⟩ := I5 E.P g1 v2.toList (o := b.o + off * b.k) ((g4.sub (lo' := 0) (hi' := arr.size) (Nat.le_refl _) (P5 _ _)).sub (by omega) (by rw [hv2, k3]; omega)) (by rw [hv2, k3]; omega) hone
        have hmw := Kh (b' := b) (ab' := .buf k (J7 els (new.take (min new.length len)) off) false) hm hw hgb hβ hβ (GB.step.refl b) (by rw [k2]; intro e; cases e) (by
          intro hcells hle
          have hol := S1 els (new.take (min new.length len)) off (by rw [hnl]; omega)
          have hog := AaS els (new.take (min new.length len)) off (by rw [hnl]; omega)
          have hall : ∀ (i : Nat) (cs : List AV), (J7 els (new.take (min new.length len)) off)[i]? = some cs → cs.length = k := by
            intro i cs hi
            rw [hog] at hi
            split at hi
            · rw [c2]; exact hsz2 cs (List.mem_of_getElem? hi)
            · exact k5 _ _ hi
          refine ⟨k1, k2, k3, by rw [hol]; exact k4, hall, fun e => (by rw [hβ] at e; cases e), ?_⟩
          intro β' hβ'
          rw [hβ] at hβ'; cases hβ'
          refine ⟨arr', t', fz, hw.now, by rw [hw.asize]; exact g2, by rw [hol]; exact g3, by rw [hw.asize]; exact g4, ?_⟩
          intro i cs j y hi hj
          have hjk : j < k := by have := (List.getElem?_eq_some_iff.1 hj).1; rw [hall _ _ hi] at this; exact this
          have hil : i < els.length := by have := (List.getElem?_eq_some_iff.1 hi).1; rw [hol] at this; exact this
          have hik : (i + 1) * k ≤ b.ce * k := Nat.mul_le_mul_right k (by omega)
          rw [Nat.add_mul, Nat.one_mul] at hik
          have hpos2 : b.o + i * k + j < arr.size := by omega
          have ha := harr (b.o + i * k + j)
          rw [hv2, k3] at ha
          rw [hog, hnl] at hi
          split at hi
          · rename_i hin
            have e1 : off * k ≤ i * k := Nat.mul_le_mul_right k hin.1
            have e2 : (i + 1) * k ≤ (off + min new.length len) * k := Nat.mul_le_mul_right k hin.2
            rw [Nat.add_mul, Nat.one_mul, Nat.add_mul] at e2
            have e3 : i * k = off * k + (i - off) * k := by rw [← Nat.add_mul]; congr 1; omega
            rw [if_pos (by omega), toList_getElem? _ _ (by rw [r2.1, hnl, ← c2]; omega)] at ha
            rw [Au ha]
            have e4 : b.o + i * k + j - (b.o + off * k) = (i - off) * de.size + j := by rw [← c2]; omega
            rw [e4]
            exact ⟨(r2.2 _ _ _ _ hi hj).1.mono hcells hle, (r2.2 _ _ _ _ hi hj).2⟩
          · rename_i hout
            have hno : ¬ (b.o + off * k ≤ b.o + i * k + j ∧ b.o + i * k + j < b.o + off * k + min new.length len * k) := by
              rcases Nat.lt_or_ge i off with h | h
              · have : (i + 1) * k ≤ off * k := Nat.mul_le_mul_right k h
                rw [Nat.add_mul, Nat.one_mul] at this
                omega
              · have : (off + min new.length len) * k ≤ i * k := Nat.mul_le_mul_right k (by omega)
                rw [Nat.add_mul] at this
                omega
            rw [if_neg hno, A0 hpos2] at ha
            rw [Au ha]
            exact ⟨(g5 _ _ _ _ hi hj).1.mono hcells hle, (g5 _ _ _ _ hi hj).2⟩)
        refine ⟨.int .i64 (min new.length len : Nat), w', _, ?_, hmw.1, hmw.2.1, hmw.2.2, .int _ _ _⟩
        have f2' : (Builtin.firstCells de.size (Nat.min new.length len) vs).run E.P w = .ok v2 w := f2
        first | (simp [Builtin.copy_, A7 hE ht, hde, B2 hE hte, l2, f2', hrun, goInt]; done) | (simp [Builtin.copy_, A7 hE ht, hde, B2 hE hte, l2, f2', hrun, goInt]; rfl)
theorem Aek : Array.range 0 = #[] := rfl
theorem Uz (z : Array Value) (n k j : Nat) (hz : z.size = k) (hk : 0 < k) (h : j < n * k) : ((Array.range (n * k)).map (z[· % z.size]!))[j]? = some (z.getD (j % k) undef) := by
  have h1 : j % z.size < z.size := Nat.mod_lt _ (by omega)
  subst hz
  rw [Array.getElem?_map, Array.getElem?_range]
  simp [h, h1, Array.getD]
theorem Wz (hE : E.Ok) {e : TypeId} {de : TD} (hte : E.tab e = some de) {pr : Addr → Prop} {z : Value} (hz1 : z.cells.size = de.size) (hz2 : de.zero.length = de.size)
    (hz3 : ∀ w pr g (j : Nat) (x : AV), de.zero[j]? = some x → Rep w pr g (z.cells.getD j undef) x ∧ one (z.cells.getD j undef) = true) (hk : 0 < de.size) (n : Nat) :
    ElsRep w pr g de.size ((Array.range (n * de.size)).map (z.cells[· % z.cells.size]!)) (List.replicate n de.zero) := by
  refine ⟨by simp, ?_⟩
  intro i cs j x hi hj
  rw [List.getElem?_replicate] at hi
  split at hi
  case isFalse => cases hi
  rename_i hin
  cases hi
  have hjl : j < de.size := by have := (List.getElem?_eq_some_iff.1 hj).1; omega
  have hlt : i * de.size + j < n * de.size := by
    have : (i + 1) * de.size ≤ n * de.size := Nat.mul_le_mul_right _ hin
    rw [Nat.add_mul, Nat.one_mul] at this
    omega
  have e : ((Array.range (n * de.size)).map (z.cells[· % z.cells.size]!)).getD (i * de.size + j) undef = z.cells.getD j undef := by
    refine Au ?_
    rw [Uz _ _ _ _ hz1 hk hlt]
    congr 2
    rw [Nat.mul_comm, Nat.mul_add_mod, Nat.mod_eq_of_lt hjl]
  rw [e]
  exact hz3 _ _ _ j x hj
theorem AkU {pr : Addr → Prop} {v : Value} {x : AV} (h : Rep w pr g v x) : Rep w pr g v (dn x) := by
  cases x with
  | sl f els =>
    cases h with
    | sl _ a len cap _ _ k c hlen hcap hfull hnone hk hc hr => exact .sl _ a len cap _ _ k c hlen hcap (fun h => by cases h) hnone hk hc hr
  | _ => exact h
theorem AhJ {pr : Addr → Prop} {size : Nat} {vs : Array Value} {els : List (List AV)} (h : ElsRep w pr g size vs els) : ElsRep w pr g size vs (els.map fun cs => cs.map dn) := by
  refine ⟨by rw [List.length_map]; exact h.1, fun i cs j x hi hj => ?_⟩
  rw [List.getElem?_map, Option.map_eq_some_iff] at hi
  obtain ⟨cs0, h0, rfl⟩ := hi
  rw [List.getElem?_map, Option.map_eq_some_iff] at hj
  obtain ⟨x0, hx0, rfl⟩ := hj
  obtain ⟨r1, r2⟩ := h.2 i cs0 j x0 h0 hx0
  exact ⟨AkU r1, r2⟩
theorem Q9 (hE : E.Ok) (hm : Mem E w g σ) {t : TypeId} {vl vc : Value} {l c y : AV} {σ' : Ab} (hl : Rep w (A2 E g) g vl l) (hc : Rep w (A2 E g) g vc c)
    (hy : Gg E σ t l c = some (y, σ')) : Sound E w g ((Instr.makeSlice t vl vc).run E.P w) y σ' := by
  unfold Gg at hy
  split at hy
  case h_2 => cases hy
  rename_i d kl l kc c ht
  split at hy
  case h_2 => cases hy
  rename_i e hd
  cases hte : E.tab e with
  | none => simp [hte] at hy
  | some de =>
    simp only [hte] at hy
    split at hy
    case isFalse => cases hy
    rename_i hcond
    obtain ⟨c1, c2, c3, c4, c5⟩ := hcond
    simp only [Option.some.injEq, Prod.mk.injEq] at hy
    obtain ⟨rfl, rfl⟩ := hy
    obtain rfl := Cl hl
    obtain rfl := Cl hc
    obtain ⟨i, hi, hi1, hi2⟩ := AbF hE hte w
    obtain ⟨z, hzr, hz1, hz2, hz3⟩ := Li hE hte w
    unfold maxLen at c3
    unfold M9 at c4
    have wl : IntKind.i64.wrap l = l := by rw [IntKind.wrap_i64]; omega
    have wc : IntKind.i64.wrap c = c := by rw [IntKind.wrap_i64]; omega
    have hb : (de.bytes : Int) * c ≤ 140737488355328 := by
      have : ((c.toNat * de.bytes : Nat) : Int) ≤ 140737488355328 := by omega
      rw [Int.natCast_mul, Int.toNat_of_nonneg (by omega), Int.mul_comm] at this
      exact this
    have n1 : ¬ c < 0 := by omega
    have n2 : ¬ (281474976710656 < (de.bytes : Int) * c) := by omega
    have n3 : ¬ l < 0 := by omega
    have n4 : ¬ c < l := by omega
    obtain ⟨w', hw, hrun⟩ : ∃ w', OneMore w w' (.cells ((Array.range (c.toNat * de.size)).map (z.cells[· % z.cells.size]!)) e) ∧ (Instr.makeSlice t (.int kl l) (.int kc c)).run E.P w = .ok (.slice (some ⟨w.heap.size, 0, none⟩) l.toNat c.toNat) w' := by
      refine ⟨w.alloc (.cells ((Array.range (c.toNat * de.size)).map (z.cells[· % z.cells.size]!)) e), ⟨rfl, rfl, rfl, rfl⟩, ?_⟩
      by_cases hn : c.toNat * de.size = 0
      · rw [hn]
        simp [Instr.makeSlice, A7 hE ht, hd, asInt, asIntOf, hi, hi2, B2 hE hte, wl, wc, n1, n2, n3, n4, hn, newRow, Aek]
      · simp [Instr.makeSlice, A7 hE ht, hd, asInt, asIntOf, hi, hi2, B2 hE hte, wl, wc, n1, n2, n3, n4, hn, newRow, hzr]
    have hle : l.toNat ≤ c.toNat := by omega
    have hlk : l.toNat * de.size ≤ c.toNat * de.size := Nat.mul_le_mul_right _ hle
    obtain ⟨g', m1, m2, m3, m4⟩ := Tq (full := l == c) (cap := c.toNat) hm hw (by have := AhJ (Wz (w := w) (g := g) (pr := A2 E g) hE hte hz1 hz2 hz3 c5 l.toNat); rwa [List.map_replicate] at this) (by intro cs h; rw [List.mem_replicate] at h; rw [h.2, List.length_map]; exact hz2) (by
      intro i hi
      have hi' : i < l.toNat * de.size := by simpa using hi
      rw [Uz _ _ _ _ hz1 c5 hi', Uz _ _ _ _ hz1 c5 (by omega)]) (by simpa using hle) (by simp) (Cu _ _) (by
      intro h
      have := beq_iff_eq.1 h
      simp; omega)
    simp only [List.length_replicate] at m4
    exact ⟨_, w', g', hrun, m1, m2, m3, m4⟩
theorem Qx {pr : Addr → Prop} {size : Nat} (hs : 0 < size) : ∀ (parts : List (Nat × Value)) (aparts : List (Nat × AV)) (vs : Array Value) (els els' : List (List AV)),
    Gm w pr g parts aparts → ElsRep w pr g size vs els → (∀ cs ∈ els, cs.length = size) → Ox size els aparts = some els' →
    ∃ vs', Instr.fill (fun i => some (i * size, size)) vs parts = some vs' ∧ ElsRep w pr g size vs' els' ∧ (∀ cs ∈ els', cs.length = size) ∧ els'.length = els.length
  | [], [], vs, els, els', _, hc, hsz, h => by simp [Ox] at h; subst h; exact ⟨vs, rfl, hc, hsz, rfl⟩
  | [], _ :: _, _, _, _, hp, _, _, _ => by simp [Gm] at hp
  | _ :: _, [], _, _, _, hp, _, _, _ => by simp [Gm] at hp
  | (i, v) :: r, (j, x) :: s, vs, els, els', hpr, hc, hsz, h => by
    obtain ⟨rfl, hv, hr⟩ := hpr
    simp only [Ox] at h
    split at h
    case h_2 => cases h
    rename_i xs hxs
    split at h
    case isFalse => cases h
    rename_i hcond
    obtain ⟨c1, c2⟩ := hcond
    obtain ⟨h1, h2⟩ := Kg hv hxs
    have hbnd : (i + 1) * size ≤ els.length * size := Nat.mul_le_mul_right size c2
    rw [Nat.add_mul, Nat.one_mul] at hbnd
    have hz := U7 (i * size) v.cells.toList 0 vs (by simp [hc.1]; omega)
    have hsz' : ∀ cs ∈ els.set i xs, cs.length = size := by
      intro cs hcs
      rcases List.mem_or_eq_of_mem_set hcs with h | h
      · exact hsz cs h
      · rw [h]; exact c1
    have hstep : ElsRep w pr g size (v.cells.zipIdx.foldl (fun cs (x : Value × Nat) => cs.setIfInBounds (i * size + x.2) x.1) vs) (els.set i xs) := by
      have e : v.cells.zipIdx.foldl (fun cs (x : Value × Nat) => cs.setIfInBounds (i * size + x.2) x.1) vs = v.cells.toList.zipIdx.foldl (fun cs (x : Value × Nat) => cs.setIfInBounds (i * size + x.2) x.1) vs := by
        rw [← Array.foldl_toList]; simp
      rw [e]
      refine ⟨by rw [(hz 0).1, List.length_set]; exact hc.1, ?_⟩
      intro i' cs j y hi hj
      have hjk : j < size := by have := (List.getElem?_eq_some_iff.1 hj).1; rw [hsz' cs (List.mem_of_getElem? hi)] at this; exact this
      have hil : i' < els.length := by have := (List.getElem?_eq_some_iff.1 hi).1; simpa using this
      have hb2 : (i' + 1) * size ≤ els.length * size := Nat.mul_le_mul_right size hil
      rw [Nat.add_mul, Nat.one_mul] at hb2
      have hz2 := (hz (i' * size + j)).2
      simp only [Nat.add_zero, Array.length_toList, h1, c1] at hz2
      by_cases e2 : i' = i
      · subst e2
        rw [List.getElem?_set] at hi
        simp [c2] at hi
        subst hi
        rw [if_pos (by omega), toList_getElem? _ _ (by omega)] at hz2
        rw [Au hz2]
        have : i' * size + j - i' * size = j := by omega
        rw [this]
        exact h2 _ _ hj
      · rw [Dm e2] at hi
        have hno : ¬ (i * size ≤ i' * size + j ∧ i' * size + j < i * size + size) := by
          rcases Nat.lt_or_gt_of_ne e2 with h | h
          · have : (i' + 1) * size ≤ i * size := Nat.mul_le_mul_right size h
            rw [Nat.add_mul, Nat.one_mul] at this
            omega
          · have : (i + 1) * size ≤ i' * size := Nat.mul_le_mul_right size h
            rw [Nat.add_mul, Nat.one_mul] at this
            omega
        have hpos2 : i' * size + j < vs.size := by rw [hc.1]; omega
        rw [if_neg hno, A0 hpos2] at hz2
        rw [Au hz2]
        exact hc.2 _ _ _ _ hi hj
    obtain ⟨vs', hf, hc', hs', hl'⟩ := Qx hs r s _ _ els' hr hstep hsz' h
    refine ⟨vs', ?_, hc', hs', by simpa using hl'⟩
    simp only [Instr.fill]
    rw [if_neg (by simp [hc.1, h1, c1]; omega)]
    exact hf
theorem Po (hE : E.Ok) (hm : Mem E w g σ) {t : TypeId} {n : Nat} {parts : Array (Nat × Value)} {aparts : List (Nat × AV)} {y : AV} {σ' : Ab} (hp : Gm w (A2 E g) g parts.toList aparts)
    (hy : D4 E σ t n aparts = some (y, σ')) : Sound E w g ((Instr.buildSlice t n parts).run E.P w) y σ' := by
  unfold D4 at hy
  cases ht : E.tab t with
  | none => simp [ht] at hy
  | some d =>
    simp only [ht] at hy
    split at hy
    case h_2 => cases hy
    rename_i e hd
    cases hte : E.tab e with
    | none => simp [hte] at hy
    | some de =>
      simp only [hte] at hy
      split at hy
      · cases hy
      rename_i hcond
      have c1 : n * de.size ≤ 16777216 := by have := hcond; omega
      have c2 : 0 < de.size := by have := hcond; omega
      split at hy
      case h_2 => cases hy
      rename_i els hfe
      simp only [Option.some.injEq, Prod.mk.injEq] at hy
      obtain ⟨rfl, rfl⟩ := hy
      obtain ⟨z, hzr, hz1, hz2, hz3⟩ := Li hE hte w
      have hz0 := Wz (w := w) (g := g) (pr := A2 E g) hE hte hz1 hz2 hz3 c2 n
      obtain ⟨vs', f1, f2, f3, f4⟩ := Qx c2 _ _ _ _ _ hp hz0 (by intro cs h; rw [List.mem_replicate] at h; rw [h.2]; exact hz2) hfe
      have hlen : els.length = n := by simpa using f4
      obtain ⟨w', hw, hrun⟩ : ∃ w', OneMore w w' (.cells vs' e) ∧ (Instr.buildSlice t n parts).run E.P w = .ok (.slice (some ⟨w.heap.size, 0, none⟩) n n) w' := by
        refine ⟨w.alloc (.cells vs' e), ⟨rfl, rfl, rfl, rfl⟩, ?_⟩
        have hn : ¬ (16777216 < n * de.size) := by omega
        by_cases h0 : n * de.size = 0
        · have : n = 0 := by rcases Nat.mul_eq_zero.1 h0 with h | h <;> omega
          subst this
          rw [Nat.zero_mul, Aek, Array.map_empty] at f1
          have f1' : Instr.fill (fun i => some (i * de.size, de.size)) #[] parts.toList = some vs' := f1
          simp [Instr.buildSlice, A7 hE ht, hd, B2 hE hte, f1', newRow, Aek]
        · simp [Instr.buildSlice, A7 hE ht, hd, B2 hE hte, hn, h0, hzr, f1, newRow]
      obtain ⟨g', m1, m2, m3, m4⟩ := Tq (full := true) (cap := n) hm hw (AhJ f2) (by
        intro cs h
        obtain ⟨c0, h0, rfl⟩ := List.mem_map.1 h
        rw [List.length_map]; exact f3 c0 h0) (fun _ _ => rfl) (by rw [List.length_map]; omega) (by rw [f2.1, hlen]; exact Nat.le_refl _) (Cu _ _) (fun _ => by rw [List.length_map]; exact hlen.symm)
      rw [List.length_map, hlen] at m4
      exact ⟨_, w', g', hrun, m1, m2, m3, m4⟩
end Go.Rv
