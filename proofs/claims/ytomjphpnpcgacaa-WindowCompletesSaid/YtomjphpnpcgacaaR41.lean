/-
  R41: one element put into the middle of a buffer: what slices.Insert does to memory.
-/
import Derived.Test.YtomjphpnpcgacaaR40
import Derived.Laws.Externs
import Derived.Lib.AppendZerosOnto
namespace Go.Rv
open Go.RowKit
set_option linter.unusedVariables false
set_option linter.unusedSimpArgs false
variable {E : Env} {w : World} {g : Gh} {σ : Store}

/-- The cells after NEW has been put into OLD at i. -/
def insAt (OLD NEW : Array Value) (i k j : Nat) : Value :=
  if j < i * k then OLD.getD j undef else if j < (i + 1) * k then NEW.getD (j - i * k) undef else OLD.getD (j - k) undef

theorem insSize {els : List (List AV)} {cs : List AV} {k i : Nat} (hsz : ∀ c ∈ els, c.length = k) (hcs : cs.length = k) : ∀ c ∈ els.take i ++ [cs] ++ els.drop i, c.length = k := by
  intro c hc
  rcases List.mem_append.1 hc with hc | hc
  · rcases List.mem_append.1 hc with hc | hc
    · exact hsz c (List.mem_of_mem_take hc)
    · rw [List.mem_singleton] at hc; rw [hc]; exact hcs
  · exact hsz c (List.mem_of_mem_drop hc)

theorem insRep {pr : Addr → Prop} {k i : Nat} {OLD NEW : Array Value} {els : List (List AV)} {cs : List AV} (ho : ElsRep w pr g k OLD els) (hn : ElsRep w pr g k NEW [cs])
    (hsz : ∀ c ∈ els, c.length = k) (hcs : cs.length = k) (hi : i ≤ els.length) (m : Nat) (c : List AV) (j : Nat) (x : AV) (hm : (els.take i ++ [cs] ++ els.drop i)[m]? = some c) (hj : c[j]? = some x) :
    m * k + j < (els.length + 1) * k ∧ Rep w pr g (insAt OLD NEW i k (m * k + j)) x ∧ one (insAt OLD NEW i k (m * k + j)) = true := by
  have hck : c.length = k := insSize hsz hcs c (List.mem_of_getElem? hm)
  have hjk : j < k := by rw [← hck]; exact (List.getElem?_eq_some_iff.1 hj).1
  have hti : (els.take i).length = i := by simp; omega
  have hml : m < els.length + 1 := by
    have := (List.getElem?_eq_some_iff.1 hm).1
    simp at this; omega
  have hb : m * k + j < (els.length + 1) * k := by
    have : (m + 1) * k ≤ (els.length + 1) * k := Nat.mul_le_mul_right k (by omega)
    rw [Nat.add_mul, Nat.one_mul] at this
    omega
  refine ⟨hb, ?_⟩
  unfold insAt
  rcases Nat.lt_trichotomy m i with h | h | h
  · have e : m * k + j < i * k := by
      have : (m + 1) * k ≤ i * k := Nat.mul_le_mul_right k h
      rw [Nat.add_mul, Nat.one_mul] at this
      omega
    rw [if_pos e]
    rw [List.append_assoc, List.getElem?_append_left (by omega), List.getElem?_take, if_pos h] at hm
    exact ho.2 m c j x hm hj
  · subst h
    rw [if_neg (by omega), if_pos (by rw [Nat.add_mul, Nat.one_mul]; omega)]
    rw [List.append_assoc, List.getElem?_append_right (by omega), hti, Nat.sub_self] at hm
    have hc : cs = c := by simpa using hm
    subst hc
    have := hn.2 0 cs j x rfl hj
    rw [Nat.zero_mul, Nat.zero_add] at this
    rw [show m * k + j - m * k = j by omega]
    exact this
  · have e1 : (i + 1) * k ≤ m * k := Nat.mul_le_mul_right k h
    have e2 : i * k ≤ (i + 1) * k := Nat.mul_le_mul_right k (by omega)
    rw [if_neg (by omega), if_neg (by omega)]
    rw [List.getElem?_append_right (by simp; omega), List.getElem?_drop] at hm
    have e3 : i + (m - (els.take i ++ [cs]).length) = m - 1 := by simp; omega
    rw [e3] at hm
    have := ho.2 (m - 1) c j x hm hj
    have e4 : m * k + j - k = (m - 1) * k + j := by
      have : m * k = (m - 1) * k + k := by
        obtain ⟨q, rfl⟩ : ∃ q, m = q + 1 := ⟨m - 1, by omega⟩
        rw [Nat.add_sub_cancel, Nat.add_mul, Nat.one_mul]
      omega
    rw [e4]
    exact this

/-- The cells from an address on. -/
def At (w : World) (a : Addr) (vs : Array Value) : Prop := ∀ j, j < vs.size → w.cell? (a.add j) = some (vs.getD j undef)

theorem At.mono {w w' : World} {a : Addr} {vs : Array Value} (h : At w a vs) (hw : ∀ j u, j < vs.size → w.cell? (a.add j) = some u → w'.cell? (a.add j) = some u) : At w' a vs :=
  fun j hj => hw j _ hj (h j hj)

theorem first_of {P : Program} {a : Addr} {vs : Array Value} (h : At w a vs) {k n len cap : Nat} (hs : n * k = vs.size) : (Builtin.firstCells k n (.slice (some a) len cap)).run P w = .ok vs w := by
  have := run_loadCells (P := P) w a (n * k) (fun j => vs.getD j undef) (fun j hj => h j (by omega))
  simp only [Builtin.firstCells, this]
  congr 1
  apply Array.ext
  · simp; omega
  · intro i h1 h2
    simp [Array.getD, h2]

/-- Cells put over others. -/
def seg (cur : Array Value) (o : Nat) (vs : Array Value) : Array Value := (cur.toList.take o ++ vs.toList ++ cur.toList.drop (o + vs.size)).toArray

theorem seg_size {cur vs : Array Value} {o : Nat} (h : o + vs.size ≤ cur.size) : (seg cur o vs).size = cur.size := by
  simp [seg]; omega
theorem seg_at {cur vs : Array Value} {o : Nat} (h : o + vs.size ≤ cur.size) (k : Nat) : (seg cur o vs)[k]? = if o ≤ k ∧ k < o + vs.size then vs[k - o]? else cur[k]? := by
  have := seg_get cur.toList vs.toList o (by simpa using h) k
  simpa [seg] using this
theorem seg_getD {cur vs : Array Value} {o : Nat} (h : o + vs.size ≤ cur.size) (k : Nat) : (seg cur o vs).getD k undef = if o ≤ k ∧ k < o + vs.size then vs.getD (k - o) undef else cur.getD k undef := by
  have := seg_at h k
  simp only [Array.getD_eq_getD_getElem?, this]
  split <;> rfl

theorem run_copy_seg {P : Program} {W : World} {H o k : Nat} {cur : Array Value} {T : TypeId} {fz : Nat × Nat} (hg : W.heap[H]? = some (.cells cur T fz)) {t ty e : TypeId} (hu : P.underlying t = some (.slice e))
    (hz : ∀ w, (Go.sizeOf e).run P w = .ok k w) (dLen dCap sLen sCap : Nat) (a : Addr) (vs : Array Value) (hn : Nat.min sLen dLen * k = vs.size) (hat : At W a vs) (hfz : noFreeze fz o (o + vs.size)) (hl : o + vs.size ≤ cur.size) (h1 : ∀ v ∈ vs.toList, one v = true) :
    (Builtin.copy_ #[t, t] ty #[.slice (some ⟨H, o, none⟩) dLen dCap, .slice (some a) sLen sCap]).run P W = .ok (goInt (Nat.min sLen dLen)) (W.setRow H (seg cur o vs)) := by
  have hf : (Builtin.firstCells k (Nat.min sLen dLen) (.slice (some a) sLen sCap)).run P W = .ok vs W := first_of hat hn
  have hs := run_storeCells_nf P H o T fz vs.toList 0 cur W hg (by simpa using hfz) (by simpa using hl) h1
  simp only [Nat.add_zero, Array.length_toList] at hs
  simp [Builtin.copy_, Builtin.lenOf, run_underlying hu, hz, hf, hs, goInt, seg]

/-! ### What is known of the arguments -/
theorem rows_sl {pr : Addr → Prop} {a : Option Addr} {len cap k : Nat} {full : Bool} {els : List (List AV)} (h : Rep w pr g (.slice a len cap) (.sl full els)) (hsz : ∀ c ∈ els, c.length = k) (hpos : 0 < els.length * k) :
    els.length = len ∧ ∃ b vs, a = some b ∧ ElsRep w pr [] k vs els ∧ At w b vs ∧ ∀ j, j < els.length * k → pr (b.add j) := by
  cases h with
  | sl _ _ _ _ _ _ k' c hlen hcap hfull hnone hk hc hr =>
    refine ⟨hlen, ?_⟩
    have hk0 : 0 < k := Nat.pos_of_ne_zero (fun e => by simp [e] at hpos)
    have hl0 : 0 < els.length := Nat.pos_of_ne_zero (fun e => by rw [e] at hpos; simp at hpos)
    have hkk : k' = k := (hk 0 _ (List.getElem?_eq_getElem hl0)).symm.trans (hsz _ (List.getElem_mem hl0))
    subst hkk
    have hget : ∀ j, j < els.length * k' → ∃ cs x, els[j / k']? = some cs ∧ cs[j % k']? = some x := by
      intro j hj
      have hi : j / k' < els.length := (Nat.div_lt_iff_lt_mul hk0).2 hj
      have hj2 : j % k' < els[j / k'].length := by rw [hsz _ (List.getElem_mem hi)]; exact Nat.mod_lt _ hk0
      exact ⟨_, _, List.getElem?_eq_getElem hi, List.getElem?_eq_getElem hj2⟩
    have hdm : ∀ j, j / k' * k' + j % k' = j := fun j => by rw [Nat.mul_comm]; exact Nat.div_add_mod j k'
    obtain ⟨cs0, x0, q1, q2⟩ := hget 0 hpos
    obtain ⟨b, hb, _⟩ := hc _ _ _ _ q1 q2
    refine ⟨b, (Array.range (els.length * k')).map (fun j => c (j / k') (j % k')), hb, ⟨by simp, ?_⟩, ?_, ?_⟩
    · intro i cs j x hi hj
      have hil : i < els.length := (List.getElem?_eq_some_iff.1 hi).1
      have hjl : j < k' := by rw [← hk i cs hi]; exact (List.getElem?_eq_some_iff.1 hj).1
      have hlt : i * k' + j < els.length * k' := by
        have : (i + 1) * k' ≤ els.length * k' := Nat.mul_le_mul_right k' hil
        rw [Nat.add_mul, Nat.one_mul] at this
        omega
      have e1 : (i * k' + j) / k' = i := by rw [Nat.mul_comm, Nat.mul_add_div hk0, Nat.div_eq_of_lt hjl, Nat.add_zero]
      have e2 : (i * k' + j) % k' = j := by rw [Nat.mul_comm, Nat.mul_add_mod, Nat.mod_eq_of_lt hjl]
      have e3 : ((Array.range (els.length * k')).map (fun j => c (j / k') (j % k'))).getD (i * k' + j) undef = c i j := by
        simp only [Array.getD_eq_getD_getElem?, Array.getElem?_map, Array.getElem?_range, hlt, if_true, Option.map_some, Option.getD_some, e1, e2]
      rw [e3]
      obtain ⟨_, _, _, _, ho⟩ := hc i cs j x hi hj
      exact ⟨hr i cs j x hi hj, ho⟩
    · intro j hj
      have hj' : j < els.length * k' := by simpa using hj
      obtain ⟨cs, x, h1, h2⟩ := hget j hj'
      obtain ⟨b2, e, q, _⟩ := hc _ _ _ _ h1 h2
      rw [hb] at e; cases e
      rw [hdm] at q
      rw [q]
      simp only [Array.getD_eq_getD_getElem?, Array.getElem?_map, Array.getElem?_range, hj', if_true, Option.map_some, Option.getD_some]
    · intro j hj
      obtain ⟨cs, x, h1, h2⟩ := hget j hj
      obtain ⟨b2, e, _, q, _⟩ := hc _ _ _ _ h1 h2
      rw [hb] at e; cases e
      rw [hdm] at q
      exact q

/-- A buffer of the state that is laid in memory. -/
theorem rows_bs (hm : Mem E w g σ) {id k : Nat} {els : List (List AV)} {ro : Bool} (hσ : σ[id]? = some (.buf k els ro)) {v : Value} {full : Bool} (h : Rep w (prot E g) g v (.bs full id els.length 0 els.length)) (hn : 0 < els.length) :
    ∃ (b : GB) (β cap : Nat) (arr : Array Value) (t : TypeId) (fz : Nat × Nat), g[id]? = some b ∧ b.isBox = false ∧ b.ro = ro ∧ b.k = k ∧ b.len = els.length ∧ b.blk = some β ∧ v = .slice (some ⟨β, b.o, none⟩) els.length cap ∧ els.length ≤ cap ∧ cap ≤ b.ce ∧
      w.heap[β]? = some (.cells arr t fz) ∧ b.o + b.ce * k ≤ arr.size ∧ noFreeze fz 0 (fzEnd k arr.size) ∧ (∀ c ∈ els, c.length = k) ∧
      ElsRep w (prot E g) g k (arr.extract b.o (b.o + els.length * k)) els := by
  cases h with
  | bs _ _ _ _ _ _ _ b hgb hbx htot hat ho =>
    obtain ⟨k1, k2, k3, k4, k5, k6, k7⟩ := hm.blk id b _ hgb hσ
    obtain ⟨a, cap, rfl, q2, q3, q4, q5⟩ := hat k4
    rcases q5 with q5 | ⟨β, hβ, rfl, q6⟩
    · omega
    obtain ⟨arr, t', fz, g1, g2, g3, g4, g5⟩ := k7 β hβ
    refine ⟨b, β, cap, arr, t', fz, hgb, hbx, k2, k3, k4, hβ, by simp, q2, by simpa using q6, g1, g2, g4, fun c hc => ?_, ?_, ?_⟩
    · obtain ⟨i, hi⟩ := List.getElem?_of_mem hc
      exact k5 i c hi
    · have : els.length * k ≤ b.ce * k := Nat.mul_le_mul_right k g3
      simp; omega
    · intro i cs j x hi hj
      have hil : i < els.length := (List.getElem?_eq_some_iff.1 hi).1
      have hjl : j < k := by rw [← k5 i cs hi]; exact (List.getElem?_eq_some_iff.1 hj).1
      have hlt : i * k + j < els.length * k := by
        have : (i + 1) * k ≤ els.length * k := Nat.mul_le_mul_right k hil
        rw [Nat.add_mul, Nat.one_mul] at this
        omega
      have hce : els.length * k ≤ b.ce * k := Nat.mul_le_mul_right k g3
      have e : (arr.extract b.o (b.o + els.length * k)).getD (i * k + j) undef = arr.getD (b.o + i * k + j) undef := by
        simp only [Array.getD_eq_getD_getElem?, Array.getElem?_extract]
        rw [if_pos (by omega), Nat.add_assoc]
      rw [e]
      exact g5 i cs j x hi hj

theorem at_row {β : Nat} {arr : Array Value} {t : TypeId} {fz : Nat × Nat} (hh : w.heap[β]? = some (.cells arr t fz)) (o : Nat) (vs : Array Value) (h : ∀ j, j < vs.size → o + j < arr.size ∧ arr.getD (o + j) undef = vs.getD j undef) : At w ⟨β, o, none⟩ vs := by
  intro j hj
  obtain ⟨h1, h2⟩ := h j hj
  have : arr[o + j]? = some (arr.getD (o + j) undef) := by simp [Array.getD, h1]
  rw [add_none, ← h2, ← this]
  simp [World.cell?, hh]
end Go.Rv
