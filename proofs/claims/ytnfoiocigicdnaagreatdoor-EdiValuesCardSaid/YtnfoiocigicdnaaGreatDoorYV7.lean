/-
  Part 7.
-/
import Derived.Test.YtnfoiocigicdnaaGreatDoorYV6
import Derived.ChangeKeysEq
import Derived.Laws.StructEq
import Derived.Lib.IfaceNeq
import Derived.Laws.Strings
namespace Go.Rv
set_option linter.unusedVariables false
set_option linter.unusedSimpArgs false
variable {E : Env} {w : World} {g : Gh} {σ : Ab}
def Gm (w : World) (pr : Addr → Prop) (g : Gh) : List (Nat × Value) → List (Nat × AV) → Prop
  | [], [] => True
  | (i, v) :: r, (j, x) :: s => i = j ∧ Rep w pr g v x ∧ Gm w pr g r s
  | _, _ => False
def P0 (w : World) (pr : Addr → Prop) (g : Gh) (vs : Array Value) (cs : List AV) : Prop :=
  vs.size = cs.length ∧ ∀ (j : Nat) (x : AV), cs[j]? = some x → Rep w pr g (vs.getD j undef) x ∧ one (vs.getD j undef) = true
theorem U7 (off : Nat) : ∀ (us : List Value) (k : Nat) (vs : Array Value), off + k + us.length ≤ vs.size →
    ∀ j, (us.zipIdx k |>.foldl (fun cs (x : Value × Nat) => cs.setIfInBounds (off + x.2) x.1) vs).size = vs.size ∧
      (us.zipIdx k |>.foldl (fun cs (x : Value × Nat) => cs.setIfInBounds (off + x.2) x.1) vs)[j]? = if off + k ≤ j ∧ j < off + k + us.length then us[j - (off + k)]? else vs[j]?
  | [], k, vs, h, j => by simp; omega
  | u :: us, k, vs, h, j => by
    simp only [List.zipIdx_cons, List.foldl_cons, List.length_cons] at h ⊢
    obtain ⟨i1, i2⟩ := U7 off us (k + 1) (vs.setIfInBounds (off + k) u) (by simp; omega) j
    refine ⟨by rw [i1]; simp, ?_⟩
    rw [i2]
    by_cases h1 : off + (k + 1) ≤ j ∧ j < off + (k + 1) + us.length
    · rw [if_pos h1, if_pos ⟨by omega, by omega⟩]
      have : j - (off + k) = j - (off + (k + 1)) + 1 := by omega
      rw [this, List.getElem?_cons_succ]
    · rw [if_neg h1]
      by_cases h2 : j = off + k
      · subst h2
        rw [if_pos ⟨Nat.le_refl _, by omega⟩, Array.getElem?_setIfInBounds]
        simp; omega
      · rw [if_neg (by omega), Array.getElem?_setIfInBounds, if_neg (fun e => h2 e.symm)]
theorem Wb {pr : Addr → Prop} {place place' : Nat → Option (Nat × Nat)} (hp : ∀ i x, place' i = some x → place i = some x) : ∀ (parts : List (Nat × Value)) (aparts : List (Nat × AV)) (vs : Array Value) (cs cs' : List AV),
    Gm w pr g parts aparts → P0 w pr g vs cs → AaA place' cs aparts = some cs' → ∃ vs', Instr.fill place vs parts = some vs' ∧ P0 w pr g vs' cs'
  | [], [], vs, cs, cs', _, hc, h => by simp [AaA] at h; subst h; exact ⟨vs, rfl, hc⟩
  | [], _ :: _, _, _, _, hp, _, _ => by simp [Gm] at hp
  | _ :: _, [], _, _, _, hp, _, _ => by simp [Gm] at hp
  | (i, v) :: r, (j, x) :: s, vs, cs, cs', hpr, hc, h => by
    obtain ⟨rfl, hv, hr⟩ := hpr
    simp only [AaA] at h
    split at h
    case h_2 => cases h
    rename_i off size xs hpl hxs
    split at h
    · cases h
    rename_i hcond
    have hcond : xs.length = size ∧ off + xs.length ≤ cs.length := by constructor <;> (have := hcond; omega)
    obtain ⟨h1, h2⟩ := Kg hv hxs
    have hz := U7 off v.cells.toList 0 vs (by simp; have := hc.1; omega)
    have hstep : P0 w pr g (v.cells.zipIdx.foldl (fun cs (x : Value × Nat) => cs.setIfInBounds (off + x.2) x.1) vs) (splice cs off xs) := by
      have e : v.cells.zipIdx.foldl (fun cs (x : Value × Nat) => cs.setIfInBounds (off + x.2) x.1) vs = v.cells.toList.zipIdx.foldl (fun cs (x : Value × Nat) => cs.setIfInBounds (off + x.2) x.1) vs := by
        rw [← Array.foldl_toList]; simp
      rw [e]
      refine ⟨by rw [(hz 0).1, E5]; exact hc.1, ?_⟩
      intro k y hk
      rw [Ow _ _ _ hcond.2] at hk
      have hz2 := (hz k).2
      simp only [Nat.add_zero, Array.length_toList, h1] at hz2
      split at hk
      · rename_i hin
        rw [if_pos hin, toList_getElem? _ _ (by omega)] at hz2
        rw [Au hz2]
        exact h2 _ _ hk
      · rename_i hin
        have hkl : k < vs.size := by have := (List.getElem?_eq_some_iff.1 hk).1; have := hc.1; omega
        rw [if_neg hin, A0 hkl] at hz2
        rw [Au hz2]
        exact hc.2 _ _ hk
    obtain ⟨vs', hf, hc'⟩ := Wb hp r s _ _ cs' hr hstep h
    refine ⟨vs', ?_, hc'⟩
    simp only [Instr.fill, hp _ _ hpl]
    rw [if_neg (by simp; have := hc.1; omega)]
    exact hf
theorem AbM {α β : Type} {P : Program} (f : α → Sem β) (h : α → β) : ∀ (l : List α), (∀ a, a ∈ l → (f a).run P w = .ok (h a) w) → (l.mapM f).run P w = .ok (l.map h) w
  | [], _ => by simp
  | a :: l, hl => by simp [List.mapM_cons, hl a (by simp), AbM f h l (fun b hb => hl b (by simp [hb]))]
theorem Y7 (hE : E.Ok) {t : TypeId} {pr : Addr → Prop} {parts : Array (Nat × Value)} {aparts : List (Nat × AV)} {y : AV} (hp : Gm w pr g parts.toList aparts) (hx : Yq E t aparts = some y) :
    ∃ u, (Instr.build t parts).run E.P w = .ok u w ∧ Rep w pr g u y := by
  unfold Yq at hx
  cases ht : E.tab t with
  | none => simp [ht] at hx
  | some d =>
    simp only [ht] at hx
    obtain ⟨z, hz, hzs, hzl, hzr⟩ := Li hE ht w
    have hzc : P0 w pr g z.cells d.zero := ⟨by omega, fun j x hj => hzr w pr g j x hj⟩
    cases hd : d.desc <;> simp only [hd] at hx <;> try (cases hx; done)
    · rename_i n e
      cases hte : E.tab e with
      | none => simp [hte] at hx
      | some de =>
        simp only [hte, Option.map_eq_some_iff] at hx
        obtain ⟨cs, hf, rfl⟩ := hx
        obtain ⟨vs', h1, h2⟩ := Wb (place := fun i => some (i * de.size, de.size)) (fun i x h => h) _ _ _ _ _ hp hzc hf
        refine ⟨.agg vs', ?_, .agg _ _ _ h2.1 (fun i x hi => (h2.2 i x hi).2) (fun i x hi => (h2.2 i x hi).1)⟩
        simp [Instr.build, hz, A7 hE ht, hd, B2 hE hte, h1]
    · rename_i fields
      split at hx
      case isFalse => cases hx
      rename_i hall
      simp only [Option.map_eq_some_iff] at hx
      obtain ⟨cs, hf, rfl⟩ := hx
      have hm : (fields.mapM (fun f => do pure (f.offset, ← sizeOf f.type) : Field → Sem (Nat × Nat))).run E.P w = .ok (fields.map fun f => (f.offset, ((E.tab f.type).map (·.size)).getD 0)) w := by
        rw [Array.mapM_eq_mapM_toList, Sem.run_map]
        rw [AbM _ (fun f => (f.offset, ((E.tab f.type).map (·.size)).getD 0))]
        · refine congrArg (fun x => Result.ok x w) ?_
          apply Array.ext'
          simp
        · intro f hf
          have := List.all_eq_true.1 hall f hf
          obtain ⟨df, hdf⟩ := Option.isSome_iff_exists.1 this
          simp [B2 hE hdf, hdf]
      obtain ⟨vs', h1, h2⟩ := Wb (place := ((fields.map fun f => (f.offset, ((E.tab f.type).map (·.size)).getD 0))[·]?)) (by
        intro i x hix
        cases hfi : fields[i]? with
        | none => simp [hfi] at hix
        | some f =>
          simp only [hfi] at hix
          cases htf : E.tab f.type with
          | none => simp [htf] at hix
          | some df =>
            simp only [htf, Option.some.injEq] at hix
            subst hix
            simp [hfi, htf]) _ _ _ _ _ hp hzc hf
      refine ⟨.agg vs', ?_, .agg _ _ _ h2.1 (fun i x hi => (h2.2 i x hi).2) (fun i x hi => (h2.2 i x hi).1)⟩
      simp only [Instr.build, Sem.run_bind, hz, Result.andThen_ok, A7 hE ht, hd, hm, h1]
      rfl
theorem Cl {pr : Addr → Prop} {v : Value} {k : IntKind} {n : Int} (h : Rep w pr g v (.int k n)) : v = .int k n := by cases h; rfl
theorem Fq {pr : Addr → Prop} {v : Value} {b : Bool} (h : Rep w pr g v (.bool b)) : v = .bool b := by cases h; rfl
theorem Iq {pr : Addr → Prop} {v : Value} {l : List UInt8} (h : Rep w pr g v (.str l)) : ∃ s : ByteArray, v = .string s ∧ s.data.toList = l := by cases h; exact ⟨_, rfl, by assumption⟩
theorem Zi {P : Program} {pr : Addr → Prop} {op : BinOp} {k : IntKind} {a b : Int} {y : AV} (hop : op ≠ .shl ∧ op ≠ .shr) (hx : Ady op k a b = some y) :
    ∃ u, Rep w pr g u y ∧ ∀ t, (binOp op t (.int k a) (.int k b)).run P w = .ok u w := by
  cases op <;> simp only [Ady] at hx <;> first
    | (cases hx; done)
    | (simp at hop; done)
    | (split at hx <;> first | (cases hx; done) | (rename_i hb; simp only [Option.some.injEq] at hx; subst hx; exact ⟨_, .int _ _ _, fun t => by simp only [binOp, Op.intDiv, ne_eq, not_true_eq_false, if_false, hb]; rfl⟩))
    | (simp only [Option.some.injEq] at hx; subst hx; exact ⟨_, .int _ _ _, fun t => by simp only [binOp, ne_eq, not_true_eq_false, if_false]; rfl⟩)
    | (simp only [Option.some.injEq] at hx; subst hx; exact ⟨_, .bool _ _, fun t => by simp only [binOp, ne_eq, not_true_eq_false, if_false]; rfl⟩)
theorem Qn {P : Program} {pr : Addr → Prop} {op : BinOp} {k k' : IntKind} {a b : Int} {y : AV} {t : TypeId} (hx : Jb op k a b = some y) :
    ∃ u, (binOp op t (.int k a) (.int k' b)).run P w = .ok u w ∧ Rep w pr g u y := by
  unfold Jb at hx
  split at hx
  · cases hx
  rename_i hb
  cases op <;> simp only at hx <;> first
    | (cases hx; done)
    | (simp only [Option.some.injEq] at hx; subst hx; exact ⟨_, by simp only [binOp, Op.shift, hb, if_false]; rfl, .int _ _ _⟩)
theorem Zc {P : Program} {pr : Addr → Prop} {op : BinOp} {a b : ByteArray} {y : AV} {t : TypeId} (hx : Ae7 op a.data.toList b.data.toList = some y) :
    ∃ u, (binOp op t (.string a) (.string b)).run P w = .ok u w ∧ Rep w pr g u y := by
  have hl : ∀ s : ByteArray, s.data.toList.length = s.size := fun s => by simp
  cases op <;> simp only [Ae7] at hx <;> first
    | (cases hx; done)
    | (split at hx <;> first
        | (cases hx; done)
        | (rename_i hb
           simp only [Option.some.injEq] at hx
           subst hx
           have h2 : ¬ ((9223372036854775807 : Int) < (a.size : Int) + (b.size : Int)) := by rw [hl, hl] at hb; omega
           exact ⟨.string (a ++ b), by simp [binOp, Op.stringOp, IntKind.max, IntKind.signed, IntKind.bits, h2], .str _ _ _ (by simp)⟩))
    | (simp only [Option.some.injEq] at hx; subst hx; refine ⟨_, by simp only [binOp, Op.stringOp, Sem.run_pure, ByteArray.toList_eq], .bool _ _⟩)
theorem AcY (hE : E.Ok) {t : TypeId} {d : TD} (ht : E.tab t = some d) (hd : d.desc = .bool) (n : Nat) (a b : Bool) (w : World) : (Op.equalIn (n + 1) t (.bool a) (.bool b)).run E.P w = .ok (a == b) w := by
  unfold Op.equalIn
  rw [Sem.run_bind, A7 hE ht, hd]
  rfl
theorem Abr (hE : E.Ok) {t : TypeId} {d : TD} (ht : E.tab t = some d) (hd : d.desc = .bool) (a b : Bool) (w : World) : (Op.equal t (.bool a) (.bool b)).run E.P w = .ok (a == b) w :=
  AcY hE ht hd 9999 a b w
theorem Oc {k : IntKind} : ∀ {xs : List AV} {a : List Int}, Xa k xs = some a → xs.length = a.length ∧ ∀ i, i < a.length → xs[i]? = some (.int k (a.getD i 0))
  | [], a, h => by cases h; simp
  | x :: xs, a, h => by
    unfold Xa at h
    split at h
    · rename_i hh; cases hh
    · rename_i k' n l hh
      cases hh
      split at h
      case isFalse => cases h
      rename_i hk
      subst hk
      rw [Option.map_eq_some_iff] at h
      obtain ⟨b, hb, rfl⟩ := h
      obtain ⟨h1, h2⟩ := Oc hb
      refine ⟨by simp [h1], fun i hi => ?_⟩
      cases i with
      | zero => rfl
      | succ i => simpa using h2 i (by simpa using hi)
    · cases h
theorem Oz {P : Program} (w : World) {e : TypeId} {k : IntKind} (hu : P.underlying e = some (.int k)) (d : Nat) (vs us : Array Value) (fa fb : Nat → Int) : ∀ (is : List Nat), (∀ i ∈ is, vs[i]? = some (.int k (fa i)) ∧ us[i]? = some (.int k (fb i))) →
    (Op.eqItems (d + 1) e 1 vs us is).run P w = .ok (is.all fun i => fa i == fb i) w
  | [], _ => by simp [Op.eqItems]
  | i :: is, h => by
    obtain ⟨h1, h2⟩ := h i (by simp)
    have hp : P.plainKey e = true := by simp [Program.plainKey, hu]
    have ih := Oz w hu d vs us fa fb is (fun j hj => h j (by simp [hj]))
    simp only [Op.eqItems, Nat.mul_one, Sem.run_bind, run_part_plain w hp h1, run_part_plain w hp h2, Result.andThen_ok, run_equalIn_int w d e k k _ _ hu, List.all_cons]
    cases hq : (fa i == fb i)
    · simp
    · simpa using ih
theorem AbT {pr : Addr → Prop} {v : Value} {l : List UInt8} (h : Rep w pr g v (.str l)) : v = .string ⟨l.toArray⟩ := by
  obtain ⟨s, rfl, hs⟩ := Iq h
  subst hs
  rfl
theorem Yl {P : Program} {pr : Addr → Prop} {t : TypeId} {d : TypeDesc} {vx vy : Value} {x y : AV} {b : Bool} (hu : P.underlying t = some d) (h : Mm d x y = some b) (hx : Rep w pr g vx x) (hy : Rep w pr g vy y) (n : Nat) :
    P.plainKey t = true ∧ (Op.equalIn (n + 1) t vx vy).run P w = .ok b w := by
  unfold Mm at h
  split at h
  · rename_i k a k' b'
    split at h
    case h_2 => cases h
    split at h
    case isFalse => cases h
    rename_i hk
    obtain ⟨rfl, rfl⟩ := hk
    simp only [Option.some.injEq] at h
    subst h
    obtain rfl := Cl hx
    obtain rfl := Cl hy
    exact ⟨by simp [Program.plainKey, hu], run_equalIn_int w n t _ _ _ _ hu⟩
  · rename_i a b'
    split at h
    case h_2 => cases h
    simp only [Option.some.injEq] at h
    subst h
    obtain rfl := AbT hx
    obtain rfl := AbT hy
    refine ⟨by simp [Program.plainKey, hu], ?_⟩
    rw [run_equalIn_string w n t _ _ hu]
    refine congrArg (fun q => Result.ok q w) ?_
    have e := beq_toListBytes ⟨a.toArray⟩ ⟨b'.toArray⟩
    rw [← e]
    show (a.toArray == b'.toArray) = _
    rw [Bool.eq_iff_iff, beq_iff_eq, beq_iff_eq]
    exact ⟨fun q => by simpa using q, fun q => by rw [q]⟩
  · rename_i a b'
    split at h
    case h_2 => cases h
    simp only [Option.some.injEq] at h
    subst h
    obtain rfl := Fq hx
    obtain rfl := Fq hy
    exact ⟨by simp [Program.plainKey, hu], run_equalIn_bool' w n t _ _ hu⟩
  · cases h
theorem L0 (hE : E.Ok) {pr : Addr → Prop} {vs us : Array Value} {xs ys : List AV} (hs : vs.size = xs.length) (hs' : us.size = ys.length)
    (hr : ∀ (i : Nat) (x : AV), xs[i]? = some x → Rep w pr g (vs.getD i undef) x) (hr' : ∀ (i : Nat) (x : AV), ys[i]? = some x → Rep w pr g (us.getD i undef) x) (n : Nat) :
    ∀ (fs : List Field) (b : Bool), Ds E xs ys fs = some b → (Op.eqFields (n + 1) vs us fs).run E.P w = .ok b w
  | [], b, h => by cases h; simp [Op.eqFields]
  | f :: fs, b, h => by
    unfold Ds at h
    split at h
    case isTrue => cases h
    rename_i hn
    split at h
    case h_2 => cases h
    rename_i d hd
    split at h
    case h_2 => cases h
    rename_i x y hx hy
    split at h
    case h_2 => cases h
    rename_i b1 c hb1 hc
    simp only [Option.some.injEq] at h
    subst h
    obtain ⟨p1, p2⟩ := Yl (P := E.P) (hE.desc _ _ hd) hb1 (hr _ _ hx) (hr' _ _ hy) n
    have l1 : f.offset < vs.size := by have := (List.getElem?_eq_some_iff.1 hx).1; omega
    have l2 : f.offset < us.size := by have := (List.getElem?_eq_some_iff.1 hy).1; omega
    have ih := L0 hE hs hs' hr hr' n fs c hc
    have g1 : vs[f.offset]? = some (vs.getD f.offset undef) := A0 l1
    have g2 : us[f.offset]? = some (us.getD f.offset undef) := A0 l2
    simp only [Op.eqFields, Sem.run_bind, Sem.run_ite]
    rw [if_pos (by simpa using hn), run_part_plain w p1 g1, Result.andThen_ok, run_part_plain w p1 g2, Result.andThen_ok, p2, Result.andThen_ok]
    cases b1
    · simp
    · simpa using ih
theorem Sv (hE : E.Ok) {op : BinOp} {t : TypeId} {fs : Array Field} {pr : Addr → Prop} {vx vy : Value} {xs ys : List AV} {z : AV} {b : Bool} (hut : E.P.underlying t = some (.struct fs)) (hx : Rep w pr g vx (.agg xs)) (hy : Rep w pr g vy (.agg ys))
    (h1 : E.P.stoodInHeld t = false) (h2 : E.P.eqGuardType E.P.depth t = false) (hb : Ds E xs ys fs.toList = some b) (hz : (match op with | .eql => some (AV.bool b) | .neq => some (AV.bool (!b)) | _ => none) = some z) (ox oy : Operand) :
    ∃ u, (do eqGuard op t ox oy vx vy; binOp op t vx vy : Sem Value).run E.P w = .ok u w ∧ Rep w pr g u z := by
  cases hx with
  | agg _ vs _ hs ho hr =>
  cases hy with
  | agg _ us _ hs' ho' hr' =>
  have hf : E.P.fieldsOf t = fs := by simp [Program.fieldsOf, hut]
  have heq : (Op.equalIn 10000 t (.agg vs) (.agg us)).run E.P w = .ok b w := by
    rw [run_equalIn_struct w 9999 t vs us (by rw [hf]; exact hut) h1, hf]
    exact L0 hE hs hs' hr hr' 9998 _ _ hb
  rw [Sem.run_bind, run_eqGuard_agg w op t ox oy vs us h2, Result.andThen_ok]
  cases op <;> simp only at hz <;> try (cases hz; done)
  · simp only [Option.some.injEq] at hz
    subst hz
    exact ⟨_, by rw [run_eql_struct, heq]; rfl, .bool _ _⟩
  · simp only [Option.some.injEq] at hz
    subst hz
    exact ⟨_, by rw [run_neq_struct, heq]; rfl, .bool _ _⟩
theorem Zb (hE : E.Ok) {op : BinOp} {t : TypeId} {pr : Addr → Prop} {vx vy : Value} {xs ys : List AV} {z : AV} (hx : Rep w pr g vx (.agg xs)) (hy : Rep w pr g vy (.agg ys)) (hz : R8 E op t xs ys = some z) (ox oy : Operand) :
    ∃ u, (do eqGuard op t ox oy vx vy; binOp op t vx vy : Sem Value).run E.P w = .ok u w ∧ Rep w pr g u z := by
  unfold R8 at hz
  split at hz
  case h_2 => cases hz
  rename_i dt ht
  split at hz
  case h_3 => cases hz
  case h_2 =>
    rename_i fs hdt
    split at hz
    case isFalse => cases hz
    rename_i hc
    split at hz
    case h_2 => cases hz
    rename_i b hb
    exact Sv hE (by rw [hE.desc t dt ht, hdt]) hx hy hc.1 hc.2 hb hz ox oy
  rename_i n e hdt
  split at hz
  case h_2 => cases hz
  rename_i de hte
  split at hz
  case h_2 => cases hz
  rename_i k hde
  split at hz
  case isFalse => cases hz
  rename_i hc
  obtain ⟨c1, c2, c3⟩ := hc
  split at hz
  case h_2 => cases hz
  rename_i a b ha hb
  have hut : E.P.underlying t = some (.array n e) := by rw [hE.desc t dt ht, hdt]
  have hue : E.P.underlying e = some (.int k) := by rw [hE.desc e de hte, hde]
  obtain ⟨i, zz, hi, hsz, _⟩ := hE.info e de hte
  have hco : E.P.cellsOf e = 1 := by simp [Program.cellsOf, hi, hsz, c1]
  obtain ⟨a1, a2⟩ := Oc ha
  obtain ⟨b1, b2⟩ := Oc hb
  cases hx with
  | agg _ vs _ hs ho hr =>
  cases hy with
  | agg _ us _ hs' ho' hr' =>
  have hget : ∀ j ∈ List.range n, vs[j]? = some (.int k (a.getD j 0)) ∧ us[j]? = some (.int k (b.getD j 0)) := by
    intro j hj
    have hj' : j < n := List.mem_range.1 hj
    have r1 := Cl (hr j _ (a2 j (by omega)))
    have r2 := Cl (hr' j _ (b2 j (by omega)))
    exact ⟨by rw [← r1]; exact A0 (by omega), by rw [← r2]; exact A0 (by omega)⟩
  have hall : ((List.range n).all fun j => a.getD j 0 == b.getD j 0) = (a == b) := by
    rw [Bool.eq_iff_iff, List.all_eq_true, beq_iff_eq]
    constructor
    · intro h
      refine List.ext_getElem (by omega) fun j h1 h2 => ?_
      have := h j (List.mem_range.2 (by omega))
      rw [beq_iff_eq] at this
      simpa [List.getD_eq_getElem?_getD, h1, h2] using this
    · rintro rfl j _
      simp
  have hgt : E.P.eqGuardType E.P.depth t = false := by
    have : ∃ m, E.P.depth = m + 2 := ⟨_, rfl⟩
    obtain ⟨m, hm⟩ := this
    rw [hm]
    simp only [Program.eqGuardType, hut, hue]
  have heq : (Op.equalIn 10000 t (.agg vs) (.agg us)).run E.P w = .ok (a == b) w := by
    rw [run_equalIn_array w 9999 vs us hut hi, hco, Oz w hue 9998 vs us (fun j => a.getD j 0) (fun j => b.getD j 0) _ hget, hall]
  rw [Sem.run_bind, run_eqGuard_agg w op t ox oy vs us hgt, Result.andThen_ok]
  cases op <;> simp only at hz <;> try (cases hz; done)
  · simp only [Option.some.injEq] at hz
    subst hz
    exact ⟨_, by rw [run_eql_struct, heq]; rfl, .bool _ _⟩
  · simp only [Option.some.injEq] at hz
    subst hz
    exact ⟨_, by rw [run_neq_struct, heq]; rfl, .bool _ _⟩
theorem Zv (hE : E.Ok) {op : BinOp} {t : TypeId} {pr : Addr → Prop} {vx vy : Value} {x y z : AV} (hx : Rep w pr g vx x) (hy : Rep w pr g vy y) (hz : Bq E op t x y = some z) (ox oy : Operand) :
    ∃ u, (do eqGuard op t ox oy vx vy; binOp op t vx vy : Sem Value).run E.P w = .ok u w ∧ Rep w pr g u z := by
  have hg : ∀ a b, (∀ cs, a ≠ .agg cs) → a ≠ .nilIface → (eqGuard op t ox oy a b).run E.P w = .ok () w := by
    intro a b h1 h2
    unfold eqGuard
    cases op <;> first | rfl | (cases a <;> first | (exact (h1 _ rfl).elim) | (exact (h2 rfl).elim) | rfl)
  unfold Bq at hz
  split at hz
  · rename_i k a k' b
    obtain rfl := Cl hx
    obtain rfl := Cl hy
    rw [Sem.run_bind, hg _ _ (by intro cs; simp) (by simp), Result.andThen_ok]
    split at hz
    · exact Qn hz
    · exact Qn hz
    · rename_i h1 h2
      split at hz
      case isFalse => cases hz
      rename_i hk
      subst hk
      obtain ⟨u, hr, hu⟩ := Zi (P := E.P) (pr := pr) (g := g) (w := w) ⟨h1, h2⟩ hz
      exact ⟨u, hu t, hr⟩
  · obtain ⟨sa, rfl, rfl⟩ := Iq hx
    obtain ⟨sb, rfl, rfl⟩ := Iq hy
    rw [Sem.run_bind, hg _ _ (by intro cs; simp) (by simp), Result.andThen_ok]
    exact Zc hz
  · rename_i a b
    obtain rfl := Fq hx
    obtain rfl := Fq hy
    rw [Sem.run_bind, hg _ _ (by intro cs; simp) (by simp), Result.andThen_ok]
    cases ht : E.tab t with
    | none => simp [ht] at hz
    | some d =>
      simp only [ht] at hz
      split at hz
      · rename_i hd
        simp only [Option.some.injEq] at hz
        subst hz
        refine ⟨_, ?_, .bool _ _⟩
        simp only [binOp, Sem.run_bind, Abr hE ht hd, Result.andThen_ok, Sem.run_pure]
      · rename_i hd
        simp only [Option.some.injEq] at hz
        subst hz
        refine ⟨_, ?_, .bool _ _⟩
        simp only [binOp, Sem.run_bind, Abr hE ht hd, Result.andThen_ok, Sem.run_pure]
      · cases hz
  · exact Zb hE hx hy hz ox oy
  · rename_i tx k a ty k' b
    split at hz
    case isFalse => cases hz
    rename_i hc
    obtain ⟨rfl, rfl, h1, h2, h3⟩ := hc
    cases hx with
    | iface _ _ v _ hv =>
    cases hy with
    | iface _ _ v' _ hv' =>
    obtain rfl := Cl hv
    obtain rfl := Cl hv'
    rw [Sem.run_bind, hg _ _ (by intro cs; simp) (by simp), Result.andThen_ok]
    unfold Nl at h1
    unfold Ae6 at h2
    unfold Am4 at h3
    cases ht : E.tab t with
    | none => simp [ht] at h1
    | some d =>
    cases htx : E.tab tx with
    | none => simp [htx] at h2
    | some dx =>
    simp only [ht] at h1
    simp only [htx] at h2
    split at h1
    case h_2 => cases h1
    rename_i ms hms
    split at h2
    case h_2 => cases h2
    rename_i q hq
    have e1 := hE.desc t d ht
    have e2 := hE.desc tx dx htx
    rw [hms] at e1
    rw [hq] at e2
    have e3 : (E.P.info? tx).map (·.comparable) = some true := by simpa using h3
    unfold eqB at hz
    split at hz
    · cases hz; exact ⟨_, Lib.run_eql_iface_int w a b e1 e3 e2, .bool _ _⟩
    · cases hz; exact ⟨_, Lib.run_neq_iface_int w a b e1 e3 e2, .bool _ _⟩
    · cases hz
  · cases hz
theorem X9 (hE : E.Ok) {op : BinOp} {t : TypeId} {pr : Addr → Prop} {vx : Value} {x z : AV} (hx : Rep w pr g vx x) (hz : L3 E op t x = some z) (ox oy : Operand) (ho : Rb oy = true) :
    ∃ u, (do eqGuard op t ox oy vx .nilIface; binOp op t vx .nilIface : Sem Value).run E.P w = .ok u w ∧ Rep w pr g u z := by
  have hoy : oy = .const .nilIface := by
    unfold Rb at ho
    split at ho
    · rfl
    · cases ho
  subst hoy
  unfold L3 at hz
  have hty : Nl E t = true → ∃ ms, E.P.underlying t = some (.interface ms) := by
    intro h
    unfold Nl at h
    split at h
    case h_2 => cases h
    rename_i d hd
    split at h
    case h_2 => cases h
    rename_i ms hms
    exact ⟨ms, by have := hE.desc t d hd; rw [hms] at this; exact this⟩
  split at hz
  · rename_i hi
    obtain ⟨ms, e1⟩ := hty hi
    have hv : vx = .nilIface := by cases hx; rfl
    subst hv
    have hgd : (eqGuard op t ox (.const .nilIface) .nilIface .nilIface).run E.P w = .ok () w := by
      unfold eqGuard
      cases op <;> first | rfl | (cases ox <;> rfl)
    rw [Sem.run_bind, hgd, Result.andThen_ok]
    have h0 : ∀ d : Nat, (Op.equalIn (d + 1) t .nilIface .nilIface).run E.P w = .ok true w := fun d => by simp [Op.equalIn, run_underlying e1]
    have h2 : (Op.equal t .nilIface .nilIface).run E.P w = .ok true w := h0 9999
    unfold eqB at hz
    split at hz
    · cases hz; exact ⟨.bool true, by simp [binOp, h2], .bool _ _⟩
    · cases hz; exact ⟨.bool false, by simp [binOp, h2], .bool _ _⟩
    · cases hz
  · rename_i t' y hi
    obtain ⟨ms, e1⟩ := hty hi
    cases hx with
    | iface _ _ v _ hv =>
    have hgd : (eqGuard op t ox (.const .nilIface) (.iface t' v) .nilIface).run E.P w = .ok () w := by
      unfold eqGuard
      cases op <;> rfl
    rw [Sem.run_bind, hgd, Result.andThen_ok]
    have h0 : ∀ d : Nat, (Op.equalIn (d + 1) t (.iface t' v) .nilIface).run E.P w = .ok false w := fun d => by simp [Op.equalIn, run_underlying e1]
    have h2 : (Op.equal t (.iface t' v) .nilIface).run E.P w = .ok false w := h0 9999
    unfold eqB at hz
    split at hz
    · cases hz; exact ⟨.bool false, by simp [binOp, h2], .bool _ _⟩
    · cases hz; exact ⟨.bool true, by simp [binOp, h2], .bool _ _⟩
    · cases hz
  · cases hz
theorem Acz {P : Program} {op : UnOp} {pr : Addr → Prop} {v : Value} {x y : AV} (hx : Rep w pr g v x) (hy : Wl op x = some y) :
    ∃ u, (Op.unary op v).run P w = .ok u w ∧ Rep w pr g u y := by
  unfold Wl at hy
  split at hy
  · obtain rfl := Cl hx
    simp only [Option.some.injEq] at hy
    subst hy
    exact ⟨_, by simp only [Op.unary, Op.intArith, Sem.run_pure], .int _ _ _⟩
  · obtain rfl := Cl hx
    simp only [Option.some.injEq] at hy
    subst hy
    exact ⟨_, by simp only [Op.unary, Op.intBits, Sem.run_pure], .int _ _ _⟩
  · obtain rfl := Fq hx
    simp only [Option.some.injEq] at hy
    subst hy
    exact ⟨_, by simp [Op.unary], .bool _ _⟩
  · cases hy
end Go.Rv
