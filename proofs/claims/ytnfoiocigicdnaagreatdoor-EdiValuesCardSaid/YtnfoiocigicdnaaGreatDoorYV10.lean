/-
  Part 10.
-/
import Derived.Test.YtnfoiocigicdnaaGreatDoorYV9
namespace Go.Rv
set_option linter.unusedVariables false
set_option linter.unusedSimpArgs false
variable {E : Env} {w : World} {g : Gh} {σ : Ab}
theorem O7 : ∀ {els : List (List AV)} {l : List UInt8}, bytesOf els = some l → ∃ ns : List Int, els = ns.map (fun n => [.int .u8 n]) ∧ l = ns.map (fun n => UInt8.ofNat n.toNat)
  | [], l, h => by simp [bytesOf] at h; exact ⟨[], rfl, h⟩
  | x :: r, l, h => by
    unfold bytesOf at h
    split at h
    · rename_i h1; cases h1
    · rename_i n r' h1
      cases h1
      rw [Option.map_eq_some_iff] at h
      obtain ⟨l', hl', rfl⟩ := h
      obtain ⟨ns, h2, h3⟩ := O7 hl'
      exact ⟨n :: ns, by simp [h2], by simp [h3]⟩
    · cases h
theorem X1 : ∀ (ns : List Int) (s : ByteArray), (ns.foldl (fun r n => r.push (UInt8.ofNat n.toNat)) s).data.toList = s.data.toList ++ ns.map (fun n => UInt8.ofNat n.toNat)
  | [], s => by simp
  | n :: ns, s => by simp [X1 ns]
theorem N2 (P : Program) {w : World} {β : Nat} {arr : Array Value} {e : TypeId} {fz : Nat × Nat} (h : w.heap[β]? = some (.cells arr e fz)) :
    (markStringish ⟨β, 0, none⟩).run P w = .ok () (w.freeze ⟨β, arr.size, none⟩ 1) := by
  unfold markStringish
  rw [Sem.run_bind, run_shape, Result.andThen_ok]
  simp only [World.shape?, h]
  rfl
theorem Od (P : Program) (w : World) (e : TypeId) (ba : ByteArray) : (Conv.stringToBytes e ba).run P w = .ok (.slice (some ⟨w.heap.size, 0, none⟩) ba.size (grownCap w ba.size 0 e))
    ((w.drew.alloc (.cells (ba.data.map (fun b => Value.int .u8 b.toNat) ++ Array.replicate (grownCap w ba.size 0 e - ba.size) (.int .u8 0)) e)).freeze
      ⟨w.heap.size, (ba.data.map (fun b => Value.int .u8 b.toNat) ++ Array.replicate (grownCap w ba.size 0 e - ba.size) (Value.int .u8 0)).size, none⟩ 1) := by
  unfold Conv.stringToBytes
  rw [Sem.run_bind, run_choose, if_neg (by simp [Question.forced]), Result.andThen_ok]
  simp only [Sem.run_bind, newRow, run_newObj, Result.andThen_ok, Sem.run_pure]
  rw [N2 P (arr := ba.data.map (fun b => Value.int .u8 b.toNat) ++ Array.replicate (grownCap w ba.size 0 e - ba.size) (.int .u8 0)) (e := e) (fz := (0, 0)) (by simp [grownCap, World.drew])]
  rfl
theorem AgX (hE : E.Ok) {s d e : TypeId} {ds dd de : TD} (hs : E.tab s = some ds) (hd : E.tab d = some dd) (hdd : dd.desc = .slice e) (hte : E.tab e = some de) (hde : de.desc = .int .u8) (ba : ByteArray) (w : World) :
    (convert s d (.string ba)).run E.P w = (Conv.stringToBytes e ba).run E.P w := by
  unfold convert
  rw [Sem.run_bind, A7 hE hs, Result.andThen_ok, Sem.run_bind, A7 hE hd, Result.andThen_ok, hdd]
  cases ds.desc <;> simp only [Sem.run_bind, A7 hE hte, Result.andThen_ok, hde]
theorem Oq (w : World) (β n i : Nat) : (w.freeze ⟨β, n, none⟩ 1).heap[i]? = (w.heap[i]?).map fun o => if i = β then (match o with
      | .cells c elem (lo, hi) => Obj.cells c elem (if lo == hi then (n, n + 1) else (min lo n, max hi (n + 1)))
      | o => o) else o := by
  unfold World.freeze
  rw [if_neg (by decide)]
  simp only [Array.getElem?_modify]
  by_cases h : β = i
  · subst h
    simp only [if_true]
    cases w.heap[β]? with
    | none => rfl
    | some o => cases o <;> rfl
  · rw [if_neg h]
    cases w.heap[i]? with
    | none => rfl
    | some o => simp [Ne.symm h]
theorem Q8 (w : World) (β n : Nat) (a : Addr) : (w.freeze ⟨β, n, none⟩ 1).cell? a = w.cell? a := by
  simp only [World.cell?, Oq]
  cases hh : w.heap[a.block]? with
  | none => rfl
  | some o =>
    simp only [Option.map_some]
    by_cases h : a.block = β
    · simp only [if_pos h]; cases o <;> rfl
    · simp only [if_neg h]
theorem Ahj (hm : Mem E w g σ) {id : Nat} {b : GB} {k : Nat} (hk1 : k = 1) {els : List (List AV)} {ro : Bool} (hb : g[id]? = some b) (hσ : σ[id]? = some (.buf k els ro)) {β : Nat} (hβ : b.blk = some β) {arr : Array Value} {t : TypeId} {fz : Nat × Nat} (hh : w.heap[β]? = some (.cells arr t fz)) :
    Mem E (w.freeze ⟨β, arr.size, none⟩ 1) g σ ∧ Evo E 0 w g (w.freeze ⟨β, arr.size, none⟩ 1) g := by
  have hcell : ∀ a u, w.cell? a = some u → A2 E g a → (w.freeze ⟨β, arr.size, none⟩ 1).cell? a = some u ∧ A2 E g a := fun a u hc hp => ⟨by rw [Q8]; exact hc, hp⟩
  have hsize : (w.freeze ⟨β, arr.size, none⟩ 1).heap.size = w.heap.size := by
    unfold World.freeze
    rw [if_neg (by decide)]
    simp
  have hother : ∀ i, i ≠ β → (w.freeze ⟨β, arr.size, none⟩ 1).heap[i]? = w.heap[i]? := by
    intro i hi
    rw [Oq]
    simp only [if_neg hi]
    cases w.heap[i]? <;> rfl
  have hrep : ∀ {v : Value} {x : AV} {g0 : Gh}, Rep w (A2 E g) g0 v x → Rep (w.freeze ⟨β, arr.size, none⟩ 1) (A2 E g) g0 v x := fun h => h.mono hcell (GLe.refl _)
  refine ⟨⟨hm.len, ?_, hm.inj, fun a ha => ⟨by rw [hsize]; exact (hm.foreign a ha).1, (hm.foreign a ha).2⟩, ?_, Gn hm (fun r es cl hr => by rw [hother r (fun e => by subst e; rw [hr] at hh; cases hh)]; exact hr), Dt hm (fun i _ hn => ⟨hother i (fun e => hn (by subst e; exact ⟨id, b, hb, hβ⟩)), hn⟩)⟩, ?_⟩
  · intro id' b' ab h1 h2
    have hk := hm.blk id' b' ab h1 h2
    by_cases e : id' = id
    · subst e
      rw [hb] at h1; cases h1
      rw [hσ] at h2; cases h2
      obtain ⟨k1, k2, k3, k4, k5, k6, k7⟩ := hk
      refine ⟨k1, k2, k3, k4, k5, k6, fun β' hβ' => ?_⟩
      rw [hβ] at hβ'; cases hβ'
      obtain ⟨arr', t', fz', g1, g2, g3, g4, g5⟩ := k7 β hβ
      rw [hh] at g1
      cases g1
      refine ⟨arr, t, (if fz.1 == fz.2 then (arr.size, arr.size + 1) else (min fz.1 arr.size, max fz.2 (arr.size + 1))), ?_, g2, g3, ?_, fun i cs j x hi hj => ⟨hrep (g5 i cs j x hi hj).1, (g5 i cs j x hi hj).2⟩⟩
      · rw [Oq, hh]
        simp only [Option.map_some, if_true]
      · subst hk1
        show noFreeze _ 0 arr.size
        obtain ⟨hle, hfz⟩ : noFreeze fz 0 arr.size := g4
        by_cases he : fz.1 = fz.2
        · rw [if_pos (by simpa using he)]
          exact ⟨by simp, fun j _ hj h => by simp at h; omega⟩
        · rw [if_neg (by simpa using he)]
          have hlo : arr.size ≤ fz.1 := by
            refine Nat.le_of_not_lt fun hlt => ?_
            exact hfz fz.1 (Nat.zero_le _) hlt ⟨Nat.le_refl _, by omega⟩
          refine ⟨by simp only; omega, fun j _ hj h => ?_⟩
          simp only at h
          omega
    · have hne : ∀ β', b'.blk = some β' → β' ≠ β := fun β' hβ' he => e (hm.inj id' id b' b β h1 hb (he ▸ hβ') hβ)
      cases ab with
      | box cs ro' =>
        obtain ⟨k1, k2, k3, k4, k5, β', arr', t', fz', k6, k7, k8, k9, k10⟩ := hk
        exact ⟨k1, k2, k3, k4, k5, β', arr', t', fz', k6, by rw [hother _ (hne _ k6)]; exact k7, k8, k9, fun j x hj => ⟨hrep (k10 j x hj).1, (k10 j x hj).2⟩⟩
      | buf k' els' ro' =>
        obtain ⟨k1, k2, k3, k4, k5, k6, k7⟩ := hk
        refine ⟨k1, k2, k3, k4, k5, k6, fun β' hβ' => ?_⟩
        obtain ⟨arr', t', fz', g1, g2, g3, g4, g5⟩ := k7 β' hβ'
        exact ⟨arr', t', fz', by rw [hother _ (hne _ hβ')]; exact g1, g2, g3, g4, fun i cs j x hi hj => ⟨hrep (g5 i cs j x hi hj).1, (g5 i cs j x hi hj).2⟩⟩
      | obj o =>
        obtain ⟨k1, k2, β', k3, k4⟩ := hk
        exact ⟨k1, k2, β', k3, by rw [hother _ (hne _ k3)]; exact k4⟩
      | tb T l =>
        obtain ⟨⟨k1, k2, k3, k4, k5, k6, k7⟩, k8⟩ := hk
        refine ⟨⟨k1, k2, k3, k4, k5, k6, fun β' hβ' => ?_⟩, fun β' hβ' => by rw [hother _ (hne _ hβ')]; exact k8 β' hβ'⟩
        obtain ⟨arr', t', fz', g1, g2, g3, g4, g5⟩ := k7 β' hβ'
        exact ⟨arr', t', fz', by rw [hother _ (hne _ hβ')]; exact g1, g2, g3, g4, fun i cs j x hi hj => ⟨hrep (g5 i cs j x hi hj).1, (g5 i cs j x hi hj).2⟩⟩
  · intro i cs hG
    obtain ⟨q1, q2, q3, c, q4⟩ := hm.glob i cs hG
    exact ⟨by rw [hsize]; exact q1, q2, q3, c, fun j x hj => ⟨by rw [Q8]; exact (q4 j x hj).1, hrep (q4 j x hj).2.1, (q4 j x hj).2.2⟩⟩
  · refine ⟨?_, ?_, ?_, Nat.le_of_eq hsize.symm, hcell, fun β' hβ' hn => ⟨hother _ fun he => hn ⟨id, b, hb, he ▸ hβ⟩, hn⟩, fun _ h => absurd h (Nat.not_lt_zero _)⟩ <;> (unfold World.freeze; rw [if_neg (by decide)])
theorem V2 (hE : E.Ok) (hm : Mem E w g σ) {s d : TypeId} {v : Value} {x y : AV} {σ' : Ab} (hv : Rep w (A2 E g) g v x) (hy : Bb E σ s d x = some (y, σ')) :
    Sound E w g ((convert s d v).run E.P w) y σ' := by
  unfold Bb at hy
  split at hy
  case h_2 => cases hy
  rename_i ds dd hs hd
  split at hy
  · rename_i k _ n hdd
    obtain rfl := Cl hv
    simp only [Option.some.injEq, Prod.mk.injEq] at hy
    obtain ⟨rfl, rfl⟩ := hy
    refine Sound.pure hm (v := .int k (k.wrap n)) ?_ (.int _ _ _)
    simp [convert, A7 hE hs, A7 hE hd, hdd, Conv.intToInt]
  · rename_i l hdd
    obtain ⟨ba, rfl, rfl⟩ := Iq hv
    simp only [Option.some.injEq, Prod.mk.injEq] at hy
    obtain ⟨rfl, rfl⟩ := hy
    refine Sound.pure hm (v := .string ba) ?_ (.str _ _ _ rfl)
    cases hds : ds.desc <;> simp [convert, A7 hE hs, A7 hE hd, hdd, hds]
  · rename_i e l hdd
    obtain ⟨ba, rfl, rfl⟩ := Iq hv
    cases hte : E.tab e with
    | none => simp [hte] at hy
    | some de =>
      simp only [hte] at hy
      split at hy
      case h_2 => cases hy
      rename_i hde
      simp only [Option.some.injEq, Prod.mk.injEq] at hy
      obtain ⟨rfl, rfl⟩ := hy
      have hview := Gl (P := E.P) (size := 1) hm hv (show G6 σ (.str ba.data.toList) = some (ba.data.toList.map fun b => [.int .u8 b.toNat]) from rfl) (by intro cs h; rw [List.mem_map] at h; obtain ⟨b, _, rfl⟩ := h; rfl) (fun _ _ => rfl)
      obtain ⟨_, vs, f1, f2⟩ := hview
      have hvs : vs = ba.data.map (fun b => Value.int .u8 b.toNat) := by
        simp only [Builtin.firstCells, List.length_map, Array.length_toList, Sem.run_pure, Result.ok.injEq, and_true] at f1
        rw [← f1]
        congr 1
        apply Array.ext'
        simp [ByteArray.data_extract]
      have hsize : vs.size = ba.size := by rw [hvs]; simp
      obtain ⟨cap, w', arr, fz, h1, h2, h3, h4, h5⟩ : ∃ cap w' arr fz, ba.size ≤ cap ∧ arr = vs ++ Array.replicate (cap - ba.size) (Value.int .u8 0) ∧ noFreeze fz 0 arr.size ∧ OneMore w w' (.cells arr e fz) ∧
          (convert s d (.string ba)).run E.P w = .ok (.slice (some ⟨w.heap.size, 0, none⟩) ba.size cap) w' := by
        refine ⟨grownCap w ba.size 0 e, (w.drew.alloc (.cells (vs ++ Array.replicate (grownCap w ba.size 0 e - ba.size) (.int .u8 0)) e)).freeze ⟨w.heap.size, (vs ++ Array.replicate (grownCap w ba.size 0 e - ba.size) (Value.int .u8 0)).size, none⟩ 1, _,
          ((vs ++ Array.replicate (grownCap w ba.size 0 e - ba.size) (Value.int .u8 0)).size, (vs ++ Array.replicate (grownCap w ba.size 0 e - ba.size) (Value.int .u8 0)).size + 1), grownCap_ge w _ _ _, rfl, ?_, ?_, ?_⟩
        · refine ⟨by simp, ?_⟩; intro j _ hj hh
          omega
        · refine ⟨?_, rfl, rfl, rfl⟩
          simp only [World.freeze, if_neg (show ¬ (1 = 0) by decide)]
          apply Array.ext_getElem?
          intro i
          simp only [Array.getElem?_modify, World.alloc, World.drew, Array.getElem?_push]
          by_cases hi : i = w.heap.size
          · subst hi; simp
          · rw [if_neg (fun h => hi h.symm), if_neg hi, if_neg hi]
        · rw [AgX hE hs hd hdd hte hde, Od, hvs]
      obtain ⟨g', m1, m2, m3, m4⟩ := Tq (full := false) (cap := cap) hm h4 f2 (by intro cs h; rw [List.mem_map] at h; obtain ⟨b, _, rfl⟩ := h; rfl) (by rw [h2]; exact Tu) (by simpa using h1) (by rw [h2]; simp [hsize]; omega) h3 (by intro h; cases h)
      simp only [List.length_map, Array.length_toList] at m4
      refine ⟨_, w', g', h5, m1, m2, m3, ?_⟩
      simpa using m4
  · rename_i x _ _ _ e hds hdd _
    split at hy
    · cases hy
    rename_i hsb
    have hns : ∀ s, x = .str s → False := by
      intro s hs
      subst hs
      simp [H4] at hsb
    split at hy
    case h_2 => cases hy
    · rename_i de hte
      split at hy
      case h_2 => cases hy
      rename_i els hde hview
      split at hy
      case h_2 => cases hy
      rename_i l hb
      simp only [Option.some.injEq, Prod.mk.injEq] at hy
      obtain ⟨rfl, rfl⟩ := hy
      obtain ⟨ns, rfl, rfl⟩ := O7 hb
      obtain ⟨l2, vs, f1, f2⟩ := Gl (P := E.P) (size := 1) hm hv hview (by intro cs h; rw [List.mem_map] at h; obtain ⟨b, _, rfl⟩ := h; rfl) (fun s h => (hns s h).elim)
      have hvs : vs = (ns.map (Value.int .u8)).toArray := by
        apply Array.ext_getElem?
        intro i
        have hsz := f2.1
        simp only [List.length_map, Nat.mul_one] at hsz
        by_cases hi : i < vs.size
        · have hn : ns[i]? = some (ns[i]'(by omega)) := List.getElem?_eq_getElem _
          have := (f2.2 i [.int .u8 (ns[i]'(by omega))] 0 _ (by rw [List.getElem?_map, hn]; rfl) rfl).1
          rw [Nat.mul_one, Nat.add_zero] at this
          rw [A0 hi, Cl this]
          simp [hn]
        · rw [Array.getElem?_eq_none (by omega), Array.getElem?_eq_none (by simp; omega)]
      have hsl : ∃ a cap, v = .slice a ns.length cap := by
        cases x with
        | sl full els' =>
          cases hv with
          | sl _ a len cap _ _ k c hlen hcap hfull hnone hk hc hr =>
            simp only [G6, Option.some.injEq] at hview
            subst hview
            exact ⟨a, cap, by rw [← hlen]; simp⟩
        | bs full id tot off len =>
          simp only [G6] at hview
          split at hview
          case h_2 => cases hview
          rename_i k els0 ro hσ
          split at hview
          case isFalse => cases hview
          simp only [Option.some.injEq] at hview
          cases hv with
          | bs _ _ _ _ _ _ _ b hgb hbx htot hat ho =>
            have hk := hm.blk id b _ hgb hσ
            have hbl : b.len = tot := by have := hk.2.2.2.1; omega
            obtain ⟨a, cap, e1, _, _, q4, _⟩ := hat hbl
            have : ns.length = len := by
              have := congrArg List.length hview
              simp at this
              omega
            exact ⟨a, cap, by rw [e1, this]⟩
        | str s => exact (hns s rfl).elim
        | _ => simp [G6] at hview
      obtain ⟨a, cap, rfl⟩ := hsl
      refine Sound.pure hm (v := .string (ns.foldl (fun r n => r.push (UInt8.ofNat n.toNat)) ByteArray.empty)) ?_ (.str _ _ _ (by rw [X1]; simp))
      rw [run_convert_bytes_string w s d e a ns.length cap (by rw [hE.desc s ds hs, hds]) (by rw [hE.desc e de hte, hde]) (by rw [hE.desc d dd hd, hdd])]
      cases a with
      | none =>
        have hn0 : ns = [] := by
          simp only [Builtin.firstCells, Sem.run_pure, Result.ok.injEq, and_true] at f1
          rw [← f1] at hvs
          have := congrArg Array.size hvs
          simpa using this.symm
        subst hn0
        simp [Conv.bytesToString]
      | some b =>
        refine run_bytesToString w b ns.length cap ns ?_
        rw [← hvs]
        simpa [Builtin.firstCells] using f1
  · rename_i e0 e full id tot off len hds hdd
    split at hy
    case isFalse => cases hy
    rename_i hc
    obtain ⟨rfl, hpos⟩ := hc
    split at hy
    case h_2 => cases hy
    rename_i de hte
    split at hy
    case h_2 => cases hy
    rename_i k els ro hde hσ
    split at hy
    case isFalse => cases hy
    rename_i hel
    obtain ⟨hel, hel1⟩ := hel
    cases hy
    cases hv with
    | bs _ _ _ _ _ _ _ b hgb hbx htot hat ho =>
      have hbl : b.len = tot := by have := (hm.blk id b _ hgb hσ).2.2.2.1; omega
      obtain ⟨a, cap, rfl, q2, q3, q4, q5⟩ := hat hbl
      rcases q5 with q5 | ⟨β, hβ, rfl, q6⟩
      · omega
      · obtain ⟨arr, t', fz', g1, g2, g3, g4, g5⟩ := (hm.blk id b _ hgb hσ).2.2.2.2.2.2 β hβ
        obtain ⟨m1, m2⟩ := Ahj hm hel1 hgb hσ hβ g1
        refine ⟨.slice (some ⟨β, b.o + off * b.k, none⟩) len cap, w.freeze ⟨β, arr.size, none⟩ 1, g, ?_, m1, GLe.refl _, m2, ?_⟩
        · have hsh : w.shape? β = some (t', arr.size) := by unfold World.shape?; rw [g1]
          rw [hs] at hd
          cases hd
          rw [hds] at hdd
          cases hdd
          simp [convert, A7 hE hs, A7 hE hte, hds, hde, markStringish, hsh]
        · exact .bs _ _ _ _ _ _ _ b hgb hbx htot (fun _ => ⟨_, cap, rfl, q2, q3, q4, .inr ⟨β, hβ, rfl, q6⟩⟩) ho
  · cases hy
end Go.Rv
