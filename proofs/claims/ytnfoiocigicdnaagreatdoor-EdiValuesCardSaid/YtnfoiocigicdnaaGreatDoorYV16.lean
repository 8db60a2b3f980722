/-
  Part 16.
-/
import Derived.Test.YtnfoiocigicdnaaGreatDoorYV15
import Derived.Orders
namespace Go.Rv
set_option linter.unusedVariables false
set_option linter.unusedSimpArgs false
variable {E : Env}
structure Orc where
  fz : FuncId → List AV → Option AV
  own : FuncId → List AV → Ab → Option (AV × Ab)
def Yf (E : Env) (c : Call) : Bool := match c.callee with
  | .value (.func f) => E.own f
  | _ => false
def AhZ (orc : Orc) (fr : List AV) (σ : Ab) (c : Call) : Option (AV × Ab) :=
  match c.callee with
  | .value f => match ev fr f with
    | .fn fid [] => orc.own fid (c.args.toList.map (ev fr)) σ
    | _ => none
  | _ => none
def Oi (orc : Orc) (fr : List AV) (σ : Ab) (c : Call) : Option AV :=
  match c.callee with
  | .value f => match ev fr f with
    | .fn fid [] => match (c.args.toList.map (ev fr)).mapM (fz σ) with
      | some args => match orc.fz fid args with
        | some r => if r.scalar = true ∨ (c.args.toList.map (ev fr)).flatMap Ch = [] then some r else none
        | none => none
      | none => none
    | _ => none
  | _ => none
def D3 (E : Env) (orc : Orc) (op : Op) (fr : List AV) (σ : Ab) : Option (AV × Ab) :=
  match op with
  | .call c => match c.callee with
    | .builtin _ => Fx E fr σ op
    | _ => if Yf E c = true then AhZ orc fr σ c else (Oi orc fr σ c).map fun r => (r, σ)
  | op => Fx E fr σ op
theorem X2 {w : World} {pr : Addr → Prop} {g : Gh} {v : Value} {x : AV} (h : Rep w pr g v x) : x.under g.length = true := by
  induction h with
  | bs g v full id tot off len b hb hx ht h ho => simpa [AV.under] using (List.getElem?_eq_some_iff.1 hb).1
  | ref g id off β b hb hx hβ => simpa [AV.under] using (List.getElem?_eq_some_iff.1 hb).1
  | tref g id t β b hb hx hβ ht => simpa [AV.under] using (List.getElem?_eq_some_iff.1 hb).1
  | mref g id β b hb hx hβ => simpa [AV.under] using (List.getElem?_eq_some_iff.1 hb).1
  | nref g v id b hb hx h => simpa [AV.under] using (List.getElem?_eq_some_iff.1 hb).1
  | eref g v id tot i j b hb hx ht h ho => simpa [AV.under] using (List.getElem?_eq_some_iff.1 hb).1
  | agg g vs cs hs ho hr ih =>
    simp only [AV.under, List.all_eq_true]
    rintro ⟨x, hx⟩ _
    obtain ⟨i, hi⟩ := List.mem_iff_getElem?.1 hx
    exact ih i x hi
  | tup g vs cs hs hr ih =>
    simp only [AV.under, List.all_eq_true]
    rintro ⟨x, hx⟩ _
    obtain ⟨i, hi⟩ := List.mem_iff_getElem?.1 hx
    exact ih i x hi
  | fn g f caps cs hs hr hn ih =>
    simp only [AV.under, List.all_eq_true]
    rintro ⟨x, hx⟩ _
    obtain ⟨i, hi⟩ := List.mem_iff_getElem?.1 hx
    exact ih i x hi
  | fnb g f fs cs hs hr ih =>
    simp only [AV.under, List.all_eq_true]
    rintro ⟨x, hx⟩ _
    rw [List.mem_singleton] at hx
    subst hx
    simp only [AV.under, List.all_eq_true]
    rintro ⟨y, hy⟩ _
    obtain ⟨i, hi⟩ := List.mem_iff_getElem?.1 hy
    exact ih i y hi
  | iface g t v x hr ih => simpa [AV.under] using ih
  | _ => simp [AV.under]
theorem Yb {w : World} {g : Gh} {σ : Ab} (hm : Mem E w g σ) : ∀ ab ∈ σ, Abw σ.length ab := by
  intro ab hab
  obtain ⟨id, hid⟩ := List.mem_iff_getElem?.1 hab
  have hl : id < g.length := by rw [hm.len]; exact (List.getElem?_eq_some_iff.1 hid).1
  have hk := hm.blk id g[id] ab (List.getElem?_eq_getElem hl) hid
  cases ab with
  | box cs ro =>
    obtain ⟨k1, k2, k3, k4, k5, β, arr, t, fz, k6, k7, k8, k9, k10⟩ := hk
    intro x hx
    obtain ⟨j, hj⟩ := List.mem_iff_getElem?.1 hx
    have := X2 (k10 j x hj).1
    rwa [hm.len] at this
  | buf k els ro =>
    obtain ⟨k1, k2, k3, k4, k5, k6, k7⟩ := hk
    intro cs hcs x hx
    obtain ⟨i, hi⟩ := List.mem_iff_getElem?.1 hcs
    obtain ⟨j, hj⟩ := List.mem_iff_getElem?.1 hx
    cases hb : g[id].blk with
    | none =>
      rcases (k6 hb).1 with this | this
      · subst this
        simp at hi
      · have h1 := k5 i cs hi
        have h2 := (List.getElem?_eq_some_iff.1 hj).1
        omega
    | some β =>
      obtain ⟨arr, t, fz, g1, g2, g3, g4, g5⟩ := k7 β hb
      have := X2 (g5 i cs j x hi hj).1
      rwa [hm.len] at this
  | obj o => exact trivial
  | tb T l => exact trivial
def Kd (σ : Ab) (r : AV × Ab) : Option (AV × Ab) :=
  match r with
  | (.bs full id tot off len, σ') => if id = σ.length then (B5 σ' (.bs full id tot off len)).map fun y => (y, σ) else none
  | _ => none
theorem Aa4 {w w' : World} {g g1 : Gh} {σ : Ab} {v : Value} {x y : AV} {σ' σ2 : Ab} (hm : Mem E w g σ) (hp : ∃ bs, σ' = σ ++ bs) (h : Kd σ (x, σ') = some (y, σ2))
    (m1 : Mem E w' g1 σ') (h3 : GLe g g1) (h4 : Evo E 0 w g w' g1) (h5 : Rep w' (A2 E g1) g1 v x) :
    σ2 = σ ∧ Mem E w' (g1.take σ.length) σ ∧ GLe g (g1.take σ.length) ∧ Evo E 0 w g w' (g1.take σ.length) ∧ Rep w' (A2 E (g1.take σ.length)) (g1.take σ.length) v y := by
  obtain ⟨bs, rfl⟩ := hp
  have ht : (σ ++ bs).take σ.length = σ := by simp
  unfold Kd at h
  split at h
  case h_2 => cases h
  rename_i full id tot off len σ3 he
  cases he
  split at h
  case isFalse => cases h
  rename_i hid
  rw [Option.map_eq_some_iff] at h
  obtain ⟨y', hy, h⟩ := h
  cases h
  have hmt := Abt m1 σ.length (by rw [ht]; exact Yb hm)
  rw [ht] at hmt
  refine ⟨rfl, hmt, ?_, ?_, ?_⟩
  · intro id b hb
    obtain ⟨b', hb', hs⟩ := h3 id b hb
    exact ⟨b', H7 hb' (by rw [← hm.len]; exact (List.getElem?_eq_some_iff.1 hb).1), hs⟩
  · exact ⟨h4.os, h4.tape, h4.output, h4.size, fun a u hc hpr => ⟨(h4.cells a u hc hpr).1, Kz (h4.cells a u hc hpr).2⟩,
      fun β hβ hn => ⟨(h4.blocks β hβ hn).1, fun h => (h4.blocks β hβ hn).2 (Kj h)⟩, fun id hid => absurd hid (Nat.not_lt_zero _)⟩
  · refine (Lj (pr := A2 E (g1.take σ.length)) m1 h5 hy (fun a => Kz) ?_).mono (fun a u hc hpr => ⟨hc, hpr⟩) (GLe.nil _)
    rintro id' b ⟨_, _, _, _, e⟩ hb β off' hβ _
    cases e
    refine ⟨fun hF => (m1.foreign _ hF).2 ⟨id, b, hb, hβ⟩, fun id2 c hc he => ?_⟩
    have := m1.inj id2 id c b β (H9 hc).1 hb he hβ
    have := (H9 hc).2
    omega
theorem C7 {α : Type} (x : Option α) : x.bind some = x := by cases x <;> rfl
def AiZ (t : Tmp) : Operand → Bool
  | .tmp s => s == t
  | _ => false
def Aik (t : Tmp) (o : Oper) : Bool := match o.op with
  | .call c => match c.callee with
    | .value _ => c.args.toList.any (AiZ t)
    | _ => false
  | .buildSlice _ _ parts => parts.toList.any fun p => AiZ t p.2
  | _ => false
def Eb (E : Env) (t : TypeId) : Bool := match E.tab t with
  | some d => match d.desc with
    | .slice _ => true
    | _ => false
  | none => false
def Ky (E : Env) (ops : Array Oper) (o : Oper) : Bool := match o.dst with
  | some t => match o.op with
    | .buildSlice .. => ops.toList.any (Aik t)
    | .convert _ d _ => Eb E d && ops.toList.any (Aik t)
    | _ => false
  | none => false
def Jq (b : Bool) (σ : Ab) (r : AV × Ab) : Option (AV × Ab) := if b = true then Kd σ r else some r
def Ib (E : Env) (orc : Option Tmp → Orc) (ops : Array Oper) (o : Oper) (fr : List AV) (σ : Ab) : Option (AV × Ab) :=
  match Qe ops fr o with
  | some true => (D3 E (orc o.dst) o.op fr σ).bind (Jq (Ky E ops o) σ)
  | some false => some (.tup [], σ)
  | none => none
def Em (E : Env) (orc : Option Tmp → Orc) (ops : Array Oper) (o : Oper) (st : St) : Option St :=
  (Ib E orc ops o st.fr st.σ).map fun r => ⟨Bl st.fr o.dst r.1, r.2⟩
def B9 (E : Env) (orc : Option Tmp → Orc) (ops : Array Oper) : List Nat → St → Option St
  | [], st => some st
  | i :: l, st => match ops[i]? with
    | some o => (Em E orc ops o st).bind (B9 E orc ops l)
    | none => none
theorem AgZ {fr fr' : List AV} {x : Operand} (h : ∀ t, x = .tmp t → fr[t]? = fr'[t]?) : ev fr x = ev fr' x := by
  cases x with
  | tmp t => simp only [ev, List.getD, h t rfl]
  | _ => rfl
theorem N9 {fr fr' : List AV} {σ : Ab} {op : Op} (h : ∀ x ∈ op.operands, ev fr x = ev fr' x) : Fx E fr σ op = Fx E fr' σ op := by
  have m1 : ∀ (l : List Operand), (∀ x ∈ l, x ∈ op.operands) → l.map (ev fr) = l.map (ev fr') := fun l hl => List.map_congr_left fun x hx => h x (hl x hx)
  cases op <;> simp only [Fx]
  case move x => rw [h x (by simp [Op.operands])]
  case assign x => rw [h x (by simp [Op.operands])]
  case pick c a b => rw [h c (by simp [Op.operands]), h a (by simp [Op.operands]), h b (by simp [Op.operands])]
  case box t x => rw [h x (by simp [Op.operands])]
  case build t parts =>
    have : (parts.toList.map fun (i, x) => (i, ev fr x)) = (parts.toList.map fun (i, x) => (i, ev fr' x)) := List.map_congr_left fun p hp => by
      have := h p.2 (by simp [Op.operands]; exact ⟨p.1, by simpa using hp⟩)
      simp [this]
    rw [this]
  case buildSlice t n parts =>
    have : (parts.toList.map fun (i, x) => (i, ev fr x)) = (parts.toList.map fun (i, x) => (i, ev fr' x)) := List.map_congr_left fun p hp => by
      have := h p.2 (by simp [Op.operands]; exact ⟨p.1, by simpa using hp⟩)
      simp [this]
    rw [this]
  case load t x => rw [h x (by simp [Op.operands])]
  case store t x y => rw [h x (by simp [Op.operands]), h y (by simp [Op.operands])]
  case nilCheck x => rw [h x (by simp [Op.operands])]
  case range t x => rw [h x (by simp [Op.operands])]
  case makeMap t r => cases r <;> rfl
  case insert t m k x => rw [h m (by simp [Op.operands]), h k (by simp [Op.operands]), h x (by simp [Op.operands])]
  case next it b =>
    cases b with
    | false => rfl
    | true => simp only; rw [h it (by simp [Op.operands])]
  case binOp op t x y u => rw [h x (by simp [Op.operands]), h y (by simp [Op.operands])]
  case unOp op t x => rw [h x (by simp [Op.operands])]
  case convert s d x => rw [h x (by simp [Op.operands])]
  case makeInterface t x => rw [h x (by simp [Op.operands])]
  case makeFunc fn first caps =>
    have : caps.toList.map (ev fr) = caps.toList.map (ev fr') := m1 _ (fun x hx => by simp [Op.operands]; exact .inr (by simpa using hx))
    have t2 : first.toList.map (ev fr) = first.toList.map (ev fr') := m1 _ (fun x hx => by simp [Op.operands]; exact .inl (by simpa using hx))
    cases fn <;> simp only [this, t2]
  case makeSlice t x y => rw [h x (by simp [Op.operands]), h y (by simp [Op.operands])]
  case slice t x lo hi mx =>
    have hx := h x (by simp [Op.operands])
    have hl : lo.map (ev fr) = lo.map (ev fr') := by cases lo with | none => rfl | some l => simp [h l (by simp [Op.operands])]
    have hh : hi.map (ev fr) = hi.map (ev fr') := by cases hi with | none => rfl | some l => simp [h l (by simp [Op.operands])]
    have hm : mx.map (ev fr) = mx.map (ev fr') := by cases mx with | none => rfl | some l => simp [h l (by simp [Op.operands])]
    rw [hx, hl, hh, hm]
  case fieldAddr s x f => rw [h x (by simp [Op.operands])]
  case field s x f => rw [h x (by simp [Op.operands])]
  case indexAddr t x y => rw [h x (by simp [Op.operands]), h y (by simp [Op.operands])]
  case index t x y => rw [h x (by simp [Op.operands]), h y (by simp [Op.operands])]
  case lookup t x y ok => rw [h x (by simp [Op.operands]), h y (by simp [Op.operands])]
  case extract x i => rw [h x (by simp [Op.operands])]
  case call c =>
    cases hc : c.callee <;> simp only []
    have : c.args.toList.map (ev fr) = c.args.toList.map (ev fr') := m1 _ (fun x hx => by simp [Op.operands, Call.operands]; exact .inr (by simpa using hx))
    rw [this]
def O0 (E : Env) (t : TypeId) : Bool := match E.tab t with
  | some d => match d.desc with
    | .array .. => true
    | _ => false
  | none => false
def S5 (E : Env) : Op → Bool
  | .alloc _ | .box .. | .buildSlice .. | .store .. | .makeSlice .. | .range .. | .next .. | .makeMap .. | .insert .. => true
  | .convert _ d _ => Eb E d
  | .slice t .. => O0 E t
  | .call c => match c.callee with
    | .builtin .len | .builtin .min | .builtin .max => false
    | .builtin _ => true
    | _ => Yf E c
  | _ => false
def Hm (E : Env) : Op → Bool
  | .load .. | .fieldAddr .. | .indexAddr .. | .slice .. | .convert .. | .lookup .. => true
  | .call c => match c.callee with
    | .builtin .min | .builtin .max => false
    | _ => true
  | op => S5 E op
theorem N0 {fr : List AV} {σ σ' : Ab} {op : Op} {x : AV} (he : S5 E op = false) (h : Fx E fr σ op = some (x, σ')) : σ' = σ := by
  cases op <;> simp only [Fx] at h <;> simp only [S5] at he <;> try (cases h; done)
  case move y => cases h; rfl
  case assign y => cases h; rfl
  case pick c a b => split at h <;> first | (cases h; rfl) | cases h
  case alloc => cases he
  case range => cases he
  case makeMap => cases he
  case insert => cases he
  case next => cases he
  case box => cases he
  case build t parts => rw [Option.map_eq_some_iff] at h; obtain ⟨_, _, h⟩ := h; cases h; rfl
  case buildSlice => cases he
  case load t y =>
    split at h
    · rw [Option.map_eq_some_iff] at h; obtain ⟨_, _, h⟩ := h; cases h; rfl
    · cases h
  case store => cases he
  case nilCheck y => split at h <;> first | (cases h; rfl) | cases h
  case binOp op t y z u => rw [Option.map_eq_some_iff] at h; obtain ⟨_, _, h⟩ := h; cases h; rfl
  case unOp op t y => rw [Option.map_eq_some_iff] at h; obtain ⟨_, _, h⟩ := h; cases h; rfl
  case lookup t y z ok => rw [Option.map_eq_some_iff] at h; obtain ⟨_, _, h⟩ := h; cases h; rfl
  case convert s d y =>
    unfold Bb at h
    unfold Eb at he
    split at h
    case h_2 => cases h
    rename_i ds dd hs hd
    rw [hd] at he
    simp only at he
    split at h
    · cases h; rfl
    · cases h; rfl
    · rename_i hdd _; rw [hdd] at he; cases he
    · split at h
      · cases h
      split at h
      case h_2 => cases h
      split at h
      case h_2 => cases h
      split at h
      · cases h; rfl
      · cases h
    · rename_i hdd _; rw [hdd] at he; cases he
    · cases h
  case makeFunc fn first caps =>
    split at h
    · split at h
      · split at h
        · cases h
        · cases h; rfl
      · split at h
        · cases h; rfl
        · cases h
    · cases h
  case makeInterface t y =>
    split at h
    · split at h
      · cases h
      · cases h; rfl
    · cases h
  case makeSlice => cases he
  case slice t y lo hi mx =>
    unfold H6 at h
    unfold O0 at he
    cases ht : E.tab t with
    | none => simp [ht] at h
    | some d =>
      simp only [ht] at h he
      split at h
      · split at h
        · split at h
          · cases h
          · cases h; rfl
        · cases h
      · split at h
        · split at h
          · cases h; rfl
          · cases h
        · cases h
      · split at h
        · split at h
          · split at h
            · cases h; rfl
            · cases h
          · cases h
        · cases h
      · rename_i hd _; rw [hd] at he; cases he
      · rename_i hd _; rw [hd] at he; cases he
      · cases h
  case fieldAddr s y f => rw [Option.map_eq_some_iff] at h; obtain ⟨_, _, h⟩ := h; cases h; rfl
  case field s y f => rw [Option.map_eq_some_iff] at h; obtain ⟨_, _, h⟩ := h; cases h; rfl
  case indexAddr t y i => rw [Option.map_eq_some_iff] at h; obtain ⟨_, _, h⟩ := h; cases h; rfl
  case index t y i => rw [Option.map_eq_some_iff] at h; obtain ⟨_, _, h⟩ := h; cases h; rfl
  case extract y i =>
    split at h
    · split at h
      · cases h; rfl
      · cases h
    · cases h
  case call c =>
    cases hc : c.callee <;> simp only [hc] at h he <;> try (cases h; done)
    rename_i b
    unfold Cs at h
    split at h
    · rw [Option.map_eq_some_iff] at h; obtain ⟨_, _, h⟩ := h; cases h; rfl
    · cases he
    · cases he
    · rw [Option.map_eq_some_iff] at h; obtain ⟨_, _, h⟩ := h; cases h; rfl
    · rw [Option.map_eq_some_iff] at h; obtain ⟨_, _, h⟩ := h; cases h; rfl
    · cases h
theorem H1 {fr : List AV} {σ σ2 : Ab} {op : Op} (ht : Hm E op = false) : Fx E fr σ2 op = (Fx E fr σ op).map (fun r => (r.1, σ2)) := by
  cases op <;> simp only [Hm, S5] at ht <;> try (cases ht; done)
  all_goals simp only [Fx]
  all_goals try rfl
  case pick c a b => split <;> rfl
  case build t parts => simp only [Option.map_map]; rfl
  case nilCheck y => split <;> rfl
  case binOp op t y z u => simp only [Option.map_map]; rfl
  case unOp op t y => simp only [Option.map_map]; rfl
  case makeFunc fn first caps =>
    split
    · split
      · split <;> rfl
      · split <;> rfl
    · rfl
  case makeInterface t y =>
    split
    · split <;> rfl
    · rfl
  case field s y f => simp only [Option.map_map]; rfl
  case index t y i => simp only [Option.map_map]; rfl
  case extract y i =>
    split
    · split <;> rfl
    · rfl
  case call c =>
    cases hc : c.callee <;> simp only [hc] at ht ⊢ <;> try rfl
    rename_i b
    cases b <;> simp only at ht <;> try (cases ht; done)
    all_goals
      unfold Cs
      split <;> first | (exfalso; simp_all; done) | rfl | (simp only [Option.map_map]; rfl)
theorem Kw (fr : List AV) {x y : Option Tmp} (v u : AV) (h : ∀ d, x = some d → y ≠ some d) : Bl (Bl fr x v) y u = Bl (Bl fr y u) x v := by
  cases x with
  | none => rfl
  | some d =>
    cases y with
    | none => rfl
    | some e => exact List.set_comm _ _ (fun he => h d rfl (by rw [he]))
theorem Om {fr : List AV} {d : Option Tmp} {v : AV} {x : Operand} (h : ∀ e, d = some e → x ≠ .tmp e) : ev (Bl fr d v) x = ev fr x := by
  refine AgZ fun t hx => ?_
  cases d with
  | none => rfl
  | some e =>
    have : e ≠ t := fun he => h e rfl (by rw [hx, he])
    simp [Bl, List.getElem?_set_ne this]
theorem Z0 {orc : Orc} {fr fr' : List AV} {σ : Ab} {c : Call} (h : ∀ x ∈ (Op.call c).operands, ev fr x = ev fr' x) : Oi orc fr σ c = Oi orc fr' σ c := by
  have ha : c.args.toList.map (ev fr) = c.args.toList.map (ev fr') := List.map_congr_left fun x hx => h x (by simp [Op.operands, Call.operands]; exact .inr (by simpa using hx))
  unfold Oi
  cases hc : c.callee <;> simp only []
  rename_i f
  rw [h f (by simp [Op.operands, Call.operands, hc]), ha]
theorem AcK {orc : Orc} {fr fr' : List AV} {σ : Ab} {c : Call} (h : ∀ x ∈ (Op.call c).operands, ev fr x = ev fr' x) : AhZ orc fr σ c = AhZ orc fr' σ c := by
  have ha : c.args.toList.map (ev fr) = c.args.toList.map (ev fr') := List.map_congr_left fun x hx => h x (by simp [Op.operands, Call.operands]; exact .inr (by simpa using hx))
  unfold AhZ
  cases hc : c.callee <;> simp only []
  rename_i f
  rw [h f (by simp [Op.operands, Call.operands, hc]), ha]
theorem Aao {orc : Orc} {fr fr' : List AV} {σ : Ab} {op : Op} (h : ∀ x ∈ op.operands, ev fr x = ev fr' x) : D3 E orc op fr σ = D3 E orc op fr' σ := by
  cases op with
  | call c =>
    simp only [D3]
    rw [Z0 h, AcK h]
    cases hc : c.callee <;> simp only []
    exact N9 h
  | _ => exact N9 (E := E) (σ := σ) h
theorem R5 {orc : Orc} {fr : List AV} {σ σ' : Ab} {op : Op} {x : AV} (he : S5 E op = false) (h : D3 E orc op fr σ = some (x, σ')) : σ' = σ := by
  cases op with
  | call c =>
    simp only [D3] at h
    cases hc : c.callee <;> simp only [hc] at h
    case builtin b => exact N0 he h
    all_goals
      simp only [S5, hc] at he
      simp only [he, Bool.false_eq_true, if_false] at h
      rw [Option.map_eq_some_iff] at h
      obtain ⟨_, _, h⟩ := h; cases h; rfl
  | _ => exact N0 (fr := fr) he h
theorem Uo {orc : Orc} {fr : List AV} {σ σ2 : Ab} {op : Op} (ht : Hm E op = false) : D3 E orc op fr σ2 = (D3 E orc op fr σ).map (fun r => (r.1, σ2)) := by
  cases op with
  | call c =>
    simp only [D3]
    cases hc : c.callee <;> simp only []
    case builtin b => exact H1 ht
    all_goals (simp only [Hm, hc] at ht; cases ht)
  | _ => exact H1 (fr := fr) (σ := σ) ht
theorem Ql {ops : Array Oper} {o : Oper} {t : Tmp} (h : Operand.tmp t ∈ o.op.operands) : t ∈ o.looksAt ops := by
  unfold Oper.looksAt
  rw [List.mem_append]; left
  rw [List.mem_filterMap]
  exact ⟨.tmp t, by simpa using h, rfl⟩
theorem Vt {ops : Array Oper} {o : Oper} {fr : List AV} {d : Option Tmp} {v : AV} (h : ∀ e, d = some e → e ∉ o.looksAt ops) : Qe ops (Bl fr d v) o = Qe ops fr o := by
  unfold Qe
  cases hg : o.guard with
  | none => rfl
  | some g =>
    obtain ⟨j, want⟩ := g
    simp only
    congr 1
    unfold Pa
    cases hj : (ops[j]?).bind (·.dst) with
    | none => simp [hj]
    | some t =>
      cases d with
      | none => rfl
      | some e =>
        have : e ≠ t := fun he => h e rfl (by simp [Oper.looksAt, hg, hj, he])
        simp [hj, Bl, List.getElem?_set_ne this]
theorem Ez {orc : Option Tmp → Orc} {ops : Array Oper} {o : Oper} {fr : List AV} {σ : Ab} {d : Option Tmp} {v : AV} (h : ∀ e, d = some e → e ∉ o.looksAt ops) : Ib E orc ops o (Bl fr d v) σ = Ib E orc ops o fr σ := by
  unfold Ib
  rw [Vt h, Aao (fun x hx => Om fun e he hxe => h e he (Ql (hxe ▸ hx)))]
def S9 (E : Env) (ops : Array Oper) (o : Oper) : Bool := S5 E o.op && !Ky E ops o
theorem Nv {ops : Array Oper} {o : Oper} (h : S9 E ops o = false) : Ky E ops o = true ∨ (Ky E ops o = false ∧ S5 E o.op = false) := by
  unfold S9 at h
  cases hf : Ky E ops o
  · rw [hf] at h; right; simpa using h
  · exact .inl rfl
theorem Gx {ops : Array Oper} {o : Oper} (h : Ky E ops o = true) : (∃ t n l, o.op = .buildSlice t n l) ∨ (∃ s d x, o.op = .convert s d x ∧ Eb E d = true) := by
  unfold Ky at h
  split at h
  case h_2 => cases h
  split at h
  · rename_i hop; exact .inl ⟨_, _, _, hop⟩
  · rename_i hop; exact .inr ⟨_, _, _, hop, (Bool.and_eq_true_iff.1 h).1⟩
  · cases h
theorem AaB {σ : Ab} {r : AV × Ab} {y : AV} {σ' : Ab} (h : Kd σ r = some (y, σ')) : σ' = σ := by
  unfold Kd at h
  split at h
  case h_2 => cases h
  split at h
  case isFalse => cases h
  rw [Option.map_eq_some_iff] at h
  obtain ⟨_, _, h⟩ := h
  cases h; rfl
theorem Du {orc : Option Tmp → Orc} {ops : Array Oper} {o : Oper} {fr : List AV} {σ σ' : Ab} {x : AV} (he : S9 E ops o = false) (h : Ib E orc ops o fr σ = some (x, σ')) : σ' = σ := by
  unfold Ib at h
  split at h
  · rw [Option.bind_eq_some_iff] at h
    obtain ⟨⟨v, σ1⟩, h1, h2⟩ := h
    unfold Jq at h2
    rcases Nv he with hf | ⟨hf, he⟩
    · rw [hf, if_pos rfl] at h2
      exact AaB h2
    · rw [hf] at h2
      simp only [Bool.false_eq_true, if_false] at h2
      cases h2
      exact R5 he h1
  · cases h; rfl
  · cases h
theorem AcP {ops : Array Oper} {o : Oper} (ht : Hm E o.op = false) : Ky E ops o = false := by
  cases hf : Ky E ops o
  · rfl
  · rcases Gx hf with ⟨t, n, l, h⟩ | ⟨s, d, x, h, _⟩
    · rw [h] at ht; cases ht
    · rw [h] at ht; cases ht
theorem O6 {orc : Option Tmp → Orc} {ops : Array Oper} {o : Oper} {fr : List AV} {σ σ2 : Ab} (ht : Hm E o.op = false) : Ib E orc ops o fr σ2 = (Ib E orc ops o fr σ).map (fun r => (r.1, σ2)) := by
  unfold Ib
  rw [AcP ht]
  have e : ∀ σ, Jq false σ = some := fun σ => by funext r; simp [Jq]
  rw [e, e]
  split
  · rw [Uo (σ := σ) ht]
    cases D3 E (orc o.dst) o.op fr σ <;> rfl
  · rfl
  · rfl
theorem Le {σ : Ab} {id : Nat} {b : ABlk} (bs : Ab) (h : σ[id]? = some b) : (σ ++ bs)[id]? = some b := by
  rw [List.getElem?_append_left (List.getElem?_eq_some_iff.1 h).1]; exact h
theorem Acf {σ : Ab} {d : TD} {a x : AV} (bs : Ab) (h : loadA E σ d a = some x) : loadA E (σ ++ bs) d a = some x := by
  cases a <;> simp only [loadA] at h ⊢ <;> try exact h
  case ref id off =>
    cases e : σ[id]? with
    | none => simp [e] at h
    | some b => rw [e] at h; rw [Le bs e]; exact h
  case eref id tot i j =>
    cases e : σ[id]? with
    | none => simp [e] at h
    | some b => rw [e] at h; rw [Le bs e]; exact h
theorem Yn {σ : Ab} {id tot : Nat} (bs : Ab) (h : AdV σ id tot = true) : AdV (σ ++ bs) id tot = true := by
  unfold AdV at h ⊢
  cases e : σ[id]? with
  | none => simp [e] at h
  | some b => rw [e] at h; rw [Le bs e]; exact h
theorem AeQ {σ : Ab} {x : AV} {l : List (List AV)} (bs : Ab) (h : G6 σ x = some l) : G6 (σ ++ bs) x = some l := by
  cases x <;> simp only [G6] at h ⊢ <;> try exact h
  case bs full id tot off len =>
    cases e : σ[id]? with
    | none => simp [e] at h
    | some b => rw [e] at h; rw [Le bs e]; exact h
theorem Ae8 {σ : Ab} {t : TypeId} {x : AV} {n : Nat} (bs : Ab) (h : AeV E σ t x = some n) : AeV E (σ ++ bs) t x = some n := by
  unfold AeV at h ⊢
  cases ht : E.tab t with
  | none => simp [ht] at h
  | some d =>
    simp only [ht] at h ⊢
    split at h <;> try (simp_all; done)
    rename_i id tot off len hd
    cases e : σ[id]? with
    | none => simp [e] at h
    | some b => rw [e] at h; simp only [hd, Le bs e]; exact h
theorem Sc {σ : Ab} {s : TypeId} {x y : AV} {f : Nat} (bs : Ab) (h : C2 E σ s x f = some y) : C2 E (σ ++ bs) s x f = some y := by
  unfold C2 at h ⊢
  repeat' split at h
  all_goals try (cases h; done)
  all_goals try (simp_all; done)
  all_goals (rename_i hc; simp_all [Yn bs hc])
theorem Qj {σ : Ab} {t : TypeId} {x i y : AV} (bs : Ab) (h : As E σ t x i = some y) : As E (σ ++ bs) t x i = some y := by
  unfold As at h ⊢
  cases ht : E.tab t with
  | none => simp [ht] at h
  | some d =>
    simp only [ht] at h ⊢
    cases hd : d.desc <;> simp only [hd] at h ⊢ <;> try (cases h; done)
    case array n e =>
      cases he : E.tab e with
      | none => simp [he] at h
      | some de =>
        cases hi : idx i n with
        | none => simp [he, hi] at h
        | some k =>
          simp only [he, hi] at h ⊢
          cases x <;> simp only at h ⊢ <;> try exact h
          case eref id tot i0 j =>
            split at h
            case isFalse => cases h
            rename_i hc
            rw [if_pos (Yn bs hc)]; exact h
    case slice e =>
      cases he : E.tab e with
      | none => simp [he] at h
      | some de =>
        simp only [he] at h ⊢
        cases x <;> simp only at h ⊢ <;> try exact h
        case bs full id tot off len =>
          cases e2 : σ[id]? with
          | none => simp [e2] at h
          | some b => rw [e2] at h; rw [Le bs e2]; exact h
theorem Z5 {σ σ' : Ab} {t : TypeId} {x y : AV} {lo hi mx : Option AV} (bs : Ab) (he : O0 E t = false) (h : H6 E σ t x lo hi mx = some (y, σ')) : H6 E (σ ++ bs) t x lo hi mx = some (y, σ ++ bs) := by
  unfold H6 at h ⊢
  unfold O0 at he
  cases ht : E.tab t with
  | none => simp [ht] at h
  | some d =>
    simp only [ht] at h he ⊢
    cases hd : d.desc <;> simp only [hd] at h he ⊢ <;> try (first | (cases h; done) | (cases he; done))
    case string =>
      cases x <;> simp only at h ⊢ <;> try (cases h; done)
      repeat' split at h
      all_goals try (cases h; done)
      cases h; simp_all
    case slice e =>
      cases x <;> simp only at h ⊢ <;> try (cases h; done)
      case sl full els =>
        repeat' split at h
        all_goals try (cases h; done)
        cases h; simp_all
      case bs full id tot off len =>
        cases e2 : σ[id]? with
        | none => simp [e2] at h
        | some b =>
          rw [e2] at h; rw [Le bs e2]
          repeat' split at h
          all_goals try (cases h; done)
          cases h; simp_all
theorem V3 {σ σ' : Ab} {s d : TypeId} {x y : AV} (bs : Ab) (he : Eb E d = false) (h : Bb E σ s d x = some (y, σ')) : Bb E (σ ++ bs) s d x = some (y, σ ++ bs) := by
  unfold Bb at h ⊢
  unfold Eb at he
  split at h
  case h_2 => cases h
  rename_i ds dd hs hd
  rw [hd] at he
  simp only at he
  split at h
  · cases h; rfl
  · cases h; rfl
  · simp_all
  · split at h
    · cases h
    rename_i hb
    split at h
    case h_2 => cases h
    rename_i hde
    split at h
    case h_2 => cases h
    rename_i hu hv
    split at h
    · rename_i hl; cases h; simp [hb, hu, AeQ bs hv, hl]
    · cases h
  · simp_all
  · cases h
theorem P8 {σ : Ab} {x y : AV} (bs : Ab) (h : B5 σ x = some y) : B5 (σ ++ bs) x = some y := by
  cases x <;> simp only [B5] at h ⊢ <;> try exact h
  case bs full id tot off len =>
    cases e : σ[id]? with
    | none => simp [e] at h
    | some b => rw [e] at h; rw [Le bs e]; exact h
theorem Rk {α β : Type} {f g : α → Option β} (hfg : ∀ x y, f x = some y → g x = some y) : ∀ {l : List α} {ys : List β}, l.mapM f = some ys → l.mapM g = some ys
  | [], _, h => by simpa using h
  | x :: l, ys, h => by
    rw [List.mapM_cons] at h ⊢
    simp only [Option.bind_eq_bind, Option.bind_eq_some_iff] at h ⊢
    obtain ⟨y, hy, zs, hz, h⟩ := h
    exact ⟨y, hfg _ _ hy, zs, Rk hfg hz, h⟩
theorem AiT {σ : Ab} {x y : AV} (bs : Ab) (h : fz σ x = some y) : fz (σ ++ bs) x = some y := by
  cases x <;> simp only [fz] at h ⊢ <;> try exact P8 bs h
  case agg cs =>
    rw [Option.map_eq_some_iff] at h ⊢
    obtain ⟨ys, h, e⟩ := h
    exact ⟨ys, Rk (fun _ _ => P8 bs) h, e⟩
theorem Yo {σ : Ab} (bs : Ab) {t : TypeId} {x k v : AV} {ok : Bool} (h : Gc E σ t x k ok = some v) : Gc E (σ ++ bs) t x k ok = some v := by
  cases x with
  | mref id =>
    simp only [Gc] at h ⊢
    cases hσ : σ[id]? with
    | none => simp [hσ] at h
    | some b =>
      rw [List.getElem?_append_left (List.getElem?_eq_some_iff.1 hσ).1, hσ]
      rw [hσ] at h
      exact h
  | _ => exact h
theorem Xl {fr : List AV} {σ σ' : Ab} {op : Op} {x : AV} (bs : Ab) (he : S5 E op = false) (h : Fx E fr σ op = some (x, σ')) : Fx E fr (σ ++ bs) op = some (x, σ ++ bs) := by
  cases ht : Hm E op with
  | false =>
    rw [H1 (σ := σ) ht, h]; rfl
  | true =>
    cases op <;> simp only [Hm, S5] at ht he <;> try (cases ht; done)
    all_goals try (cases he; done)
    case load t y =>
      simp only [Fx] at h ⊢
      split at h
      case h_2 => cases h
      rename_i hd
      rw [Option.map_eq_some_iff] at h
      obtain ⟨v, hv, h⟩ := h
      cases h
      simp [hd, Acf bs hv]
    case convert s d y => exact V3 bs he h
    case slice t y lo hi mx => exact Z5 bs he h
    case lookup t y z ok =>
      simp only [Fx] at h ⊢
      rw [Option.map_eq_some_iff] at h
      obtain ⟨v, hv, h⟩ := h
      cases h
      simp [Yo bs hv]
    case fieldAddr s y f =>
      simp only [Fx] at h ⊢
      rw [Option.map_eq_some_iff] at h
      obtain ⟨v, hv, h⟩ := h
      cases h
      simp [Sc bs hv]
    case indexAddr t y i =>
      simp only [Fx] at h ⊢
      rw [Option.map_eq_some_iff] at h
      obtain ⟨v, hv, h⟩ := h
      cases h
      simp [Qj bs hv]
    case call c =>
      simp only [Fx] at h ⊢
      cases hc : c.callee <;> simp only [hc] at h ht he ⊢ <;> try (cases h; done)
      rename_i b
      unfold Cs at h ⊢
      split at h
      · rw [Option.map_eq_some_iff] at h
        obtain ⟨v, hv, h⟩ := h
        cases h
        simp [Ae8 bs hv]
      · cases he
      · cases he
      · cases ht
      · cases ht
      · cases h
theorem Acw {orc : Orc} {fr : List AV} {σ : Ab} {c : Call} {r : AV} (bs : Ab) (h : Oi orc fr σ c = some r) : Oi orc fr (σ ++ bs) c = some r := by
  unfold Oi at h ⊢
  split at h
  case h_2 => cases h
  rename_i f hf
  split at h
  case h_2 => cases h
  rename_i fid hv
  split at h
  case h_2 => cases h
  rename_i args ha
  simp only [Rk (fun _ _ => AiT bs) ha]
  exact h
theorem Ac1 {orc : Orc} {fr : List AV} {σ σ' : Ab} {op : Op} {x : AV} (bs : Ab) (he : S5 E op = false) (h : D3 E orc op fr σ = some (x, σ')) : D3 E orc op fr (σ ++ bs) = some (x, σ ++ bs) := by
  cases op with
  | call c =>
    simp only [D3] at h ⊢
    cases hc : c.callee <;> simp only [hc] at h ⊢
    case builtin b => exact Xl bs he h
    all_goals
      simp only [S5, hc] at he
      simp only [he, Bool.false_eq_true, if_false] at h ⊢
      rw [Option.map_eq_some_iff] at h
      obtain ⟨v, hv, h⟩ := h
      cases h
      simp [Acw bs hv]
  | _ => exact Xl (fr := fr) bs he h
theorem AdZ {fr : List AV} {σ : Ab} {op : Op} {y : AV} {σ' : Ab} (ρ : Ab) (hf : (∃ t n l, op = .buildSlice t n l) ∨ (∃ s d x, op = .convert s d x ∧ Eb E d = true))
    (h : (Fx E fr σ op).bind (Kd σ) = some (y, σ')) : (Fx E fr ρ op).bind (Kd ρ) = some (y, ρ) := by
  have last : ∀ (b : ABlk) (f : Bool) (t o l : Nat), Kd σ (.bs f σ.length t o l, σ ++ [b]) = some (y, σ') → Kd ρ (.bs f ρ.length t o l, ρ ++ [b]) = some (y, ρ) := by
    intro b f t o l h
    unfold Kd at h ⊢
    simp only [if_true, Option.map_eq_some_iff, Prod.mk.injEq] at h ⊢
    obtain ⟨z, hz, rfl, rfl⟩ := h
    refine ⟨z, ?_, rfl, trivial⟩
    simp only [B5] at hz ⊢
    rw [List.getElem?_append_right (Nat.le_refl _), Nat.sub_self] at hz ⊢
    exact hz
  rcases hf with ⟨t, n, l, rfl⟩ | ⟨s, d, x, rfl, hd⟩
  · simp only [Fx] at h ⊢
    unfold D4 at h ⊢
    cases ht : E.tab t with
    | none => simp [ht] at h
    | some dd =>
      simp only [ht] at h ⊢
      cases hdd : dd.desc <;> simp only [hdd] at h ⊢ <;> try (simp at h; done)
      rename_i e
      cases he : E.tab e with
      | none => simp [he] at h
      | some de =>
        simp only [he] at h ⊢
        split at h
        · simp at h
        rename_i hn
        rw [if_neg hn]
        split at h
        case h_2 => simp at h
        rename_i els hels
        exact last _ _ _ _ _ h
  · simp only [Fx] at h ⊢
    unfold Bb at h ⊢
    unfold Eb at hd
    cases ht : E.tab d with
    | none => simp [ht] at hd
    | some dd =>
      simp only [ht] at hd
      cases hdd : dd.desc <;> simp only [hdd] at hd <;> try (cases hd; done)
      rename_i e
      cases hs : E.tab s with
      | none => simp [hs] at h
      | some sd =>
        simp only [hs, ht, hdd] at h ⊢
        generalize ev fr x = xv at h ⊢
        split at h
        case h_3 =>
          rename_i e' l hx
          cases hx
          cases he : E.tab e with
          | none => simp [he] at h
          | some de =>
            simp only [he] at h ⊢
            cases hde : de.desc <;> simp only [hde] at h ⊢ <;> try (simp at h; done)
            rename_i k
            cases k <;> simp only at h ⊢ <;> try (simp at h; done)
            exact last _ _ _ _ _ h
        case h_5 =>
          exfalso
          split at h
          case isFalse => simp at h
          split at h
          case h_2 => simp at h
          split at h
          case h_2 => simp at h
          split at h
          case isFalse => simp at h
          rename_i hid _
          simp only [Option.bind_some, Kd] at h
          split at h
          case isFalse => cases h
          rename_i e2
          have := (List.getElem?_eq_some_iff.1 hid).1
          omega
        all_goals (exfalso; simp_all; done)
theorem Ahe {fr : List AV} {σ : Ab} {op : Op} {y : AV} {σ' : Ab} (bs : Ab) (hf : (∃ t n l, op = .buildSlice t n l) ∨ (∃ s d x, op = .convert s d x ∧ Eb E d = true))
    (h : (Fx E fr σ op).bind (Kd σ) = some (y, σ')) : (Fx E fr (σ ++ bs) op).bind (Kd (σ ++ bs)) = some (y, σ ++ bs) := AdZ _ hf h
theorem AfI {orc : Option Tmp → Orc} {ops : Array Oper} {o : Oper} {fr : List AV} {σ σ' : Ab} {x : AV} (bs : Ab) (he : S9 E ops o = false) (h : Ib E orc ops o fr σ = some (x, σ')) : Ib E orc ops o fr (σ ++ bs) = some (x, σ ++ bs) := by
  unfold Ib at h ⊢
  split at h
  · rcases Nv he with hf | ⟨hf, he⟩
    · rw [hf] at h ⊢
      have e : ∀ σ, Jq true σ = Kd σ := fun σ => by funext r; simp [Jq]
      rw [e] at h ⊢
      have e2 : ∀ σ, D3 E (orc o.dst) o.op fr σ = Fx E fr σ o.op := by
        intro σ
        rcases Gx hf with ⟨t, n, l, h⟩ | ⟨s, d, x, h, _⟩ <;> rw [h] <;> rfl
      rw [e2] at h ⊢
      exact Ahe bs (Gx hf) h
    · rw [hf] at h ⊢
      have e : ∀ σ, Jq false σ = some := fun σ => by funext r; simp [Jq]
      rw [e] at h ⊢
      rw [C7] at h ⊢
      exact Ac1 bs he h
  · cases h; rfl
  · cases h
def U9 : Op → Bool
  | .alloc _ | .buildSlice .. => true
  | _ => false
theorem AcB {orc : Option Tmp → Orc} {ops : Array Oper} {o : Oper} {fr : List AV} {σ σ' : Ab} {x : AV} (ha : U9 o.op = true) (h : Ib E orc ops o fr σ = some (x, σ')) : ∃ bs, σ' = σ ++ bs := by
  cases hf : Ky E ops o
  case true => exact ⟨[], by rw [Du (by unfold S9; rw [hf]; simp) h]; simp⟩
  unfold Ib at h
  rw [hf] at h
  have e : ∀ σ, Jq false σ = some := fun σ => by funext r; simp [Jq]
  rw [e, C7] at h
  split at h
  · cases ho : o.op <;> simp only [ho, U9] at ha h <;> try (cases ha; done)
    · simp only [D3, Fx] at h
      split at h
      · split at h
        · cases h
        · split at h
          · cases h; exact ⟨_, rfl⟩
          · cases h; exact ⟨_, rfl⟩
      · cases h
    · simp only [D3, Fx] at h
      unfold D4 at h
      split at h
      · cases h
      split at h
      · split at h
        · split at h
          · cases h
          · split at h
            · cases h; exact ⟨_, rfl⟩
            · cases h
        · cases h
      · cases h
  · cases h; exact ⟨[], by simp⟩
  · cases h
def Mg : ABlk → ABlk
  | .box cs _ => .box cs false
  | .buf k els _ => .buf k els false
  | .obj o => .obj o
  | .tb T l => .tb T l
theorem F7 {σ : Ab} {id : Nat} : (σ.map Mg)[id]? = (σ[id]?).map Mg := by simp
theorem AcE {σ : Ab} {d : TD} {a : AV} : loadA E (σ.map Mg) d a = loadA E σ d a := by
  cases a <;> simp only [loadA, F7]
  case ref id off => cases σ[id]? with
    | none => rfl
    | some b => cases b <;> rfl
  case eref id tot i j => cases σ[id]? with
    | none => rfl
    | some b => cases b <;> rfl
theorem Yu {σ : Ab} {id tot : Nat} : AdV (σ.map Mg) id tot = AdV σ id tot := by
  simp only [AdV, F7]
  cases σ[id]? with
  | none => rfl
  | some b => cases b <;> rfl
theorem AfF {σ : Ab} {x : AV} : G6 (σ.map Mg) x = G6 σ x := by
  cases x <;> simp only [G6, F7]
  case bs full id tot off len => cases σ[id]? with
    | none => rfl
    | some b => cases b <;> rfl
theorem AdR {σ : Ab} {t : TypeId} {x : AV} : AeV E (σ.map Mg) t x = AeV E σ t x := by
  unfold AeV
  cases E.tab t with
  | none => rfl
  | some d =>
    obtain ⟨desc, sz, bt, z⟩ := d
    cases x with
    | bs full id tot off len =>
      cases desc <;> try rfl
      simp only [F7]
      cases σ[id]? with
      | none => rfl
      | some b => cases b <;> rfl
    | _ => cases desc <;> rfl
theorem Qu {σ : Ab} {s : TypeId} {x : AV} {f : Nat} : C2 E (σ.map Mg) s x f = C2 E σ s x f := by
  unfold C2
  simp only [Yu]
theorem Rl {σ : Ab} {t : TypeId} {x i : AV} : As E (σ.map Mg) t x i = As E σ t x i := by
  unfold As
  cases E.tab t with
  | none => rfl
  | some d =>
    obtain ⟨desc, sz, bt, z⟩ := d
    cases desc <;> dsimp only <;> try (first | rfl | (simp only [Yu]; done))
    rename_i e
    generalize E.tab e = te
    cases te with
    | none => cases x <;> rfl
    | some de =>
      cases x <;> try rfl
      rename_i full id tot off len
      dsimp only
      simp only [F7]
      cases σ[id]? with
      | none => rfl
      | some b => cases b <;> cases idx i len <;> rfl
theorem AaR {σ : Ab} {t : TypeId} {x : AV} {lo hi mx : Option AV} (he : O0 E t = false) : (H6 E (σ.map Mg) t x lo hi mx).map (·.1) = (H6 E σ t x lo hi mx).map (·.1) := by
  unfold H6
  unfold O0 at he
  cases ht : E.tab t with
  | none => rfl
  | some d =>
    rw [ht] at he
    obtain ⟨desc, sz, bt, z⟩ := d
    cases desc <;> dsimp only at he ⊢ <;> try (first | rfl | (cases he; done))
    · cases x <;> dsimp only <;> try rfl
      split <;> try rfl
      split <;> rfl
    · rename_i e
      cases x <;> dsimp only <;> try rfl
      · split <;> try rfl
        split <;> rfl
      · rename_i full id tot off len
        simp only [F7]
        cases σ[id]? with
        | none => rfl
        | some b =>
          cases b with
          | box => rfl
          | obj o => rfl
          | tb T l => rfl
          | buf k els ro =>
            simp only [Option.map_some, Mg]
            generalize E.tab e = te
            cases te with
            | none => rfl
            | some de =>
              dsimp only
              split <;> try rfl
              split <;> rfl
theorem U4 {σ : Ab} {s d : TypeId} {x : AV} (he : Eb E d = false) : (Bb E (σ.map Mg) s d x).map (·.1) = (Bb E σ s d x).map (·.1) := by
  unfold Bb
  unfold Eb at he
  cases hs : E.tab s with
  | none => rfl
  | some sd =>
    cases hd : E.tab d with
    | none => rfl
    | some dd =>
      simp only [hd] at he ⊢
      cases hdd : dd.desc <;> simp only [hdd] at he ⊢ <;> try (first | rfl | (cases he; done))
      · cases x <;> first | rfl | (cases sd.desc <;> rfl)
      · cases x <;> cases sd.desc <;> try rfl
        all_goals
          simp only [AfF]
          split <;> try rfl
          split <;> try rfl
          split <;> try rfl
          split <;> rfl
theorem Qq {σ : Ab} {x : AV} : B5 (σ.map Mg) x = B5 σ x := by
  cases x <;> simp only [B5, F7]
  case bs full id tot off len => cases σ[id]? with
    | none => rfl
    | some b => cases b <;> rfl
theorem AjW {σ : Ab} {x : AV} : fz (σ.map Mg) x = fz σ x := by
  cases x <;> simp only [fz, Qq]
  rename_i cs
  congr 1
  have : B5 (σ.map Mg) = B5 σ := funext fun x => Qq
  rw [this]
theorem Ads {orc : Orc} {fr : List AV} {σ : Ab} {c : Call} : Oi orc fr (σ.map Mg) c = Oi orc fr σ c := by
  unfold Oi
  have : fz (σ.map Mg) = fz σ := funext fun x => AjW
  rw [this]
theorem Yr {σ : Ab} {t : TypeId} {x k : AV} {ok : Bool} : Gc E (σ.map Mg) t x k ok = Gc E σ t x k ok := by
  cases x with
  | mref id =>
    simp only [Gc, F7]
    cases σ[id]? with
    | none => rfl
    | some b =>
      cases b with
      | obj o => rfl
      | tb T l => rfl
      | box cs ro => cases ok <;> cases k <;> first | rfl | (cases Wm E t with | none => rfl | some d => cases d <;> rfl)
      | buf n els ro => cases ok <;> cases k <;> first | rfl | (cases Wm E t with | none => rfl | some d => cases d <;> rfl)
  | _ => rfl
theorem Y5 {fr : List AV} {σ : Ab} {op : Op} (he : S5 E op = false) : (Fx E fr (σ.map Mg) op).map (·.1) = (Fx E fr σ op).map (·.1) := by
  cases ht : Hm E op with
  | false =>
    rw [H1 (σ := σ) ht]
    cases Fx E fr σ op <;> rfl
  | true =>
    cases op <;> simp only [Hm, S5] at ht he <;> try (cases ht; done)
    all_goals try (cases he; done)
    case load t y =>
      simp only [Fx, AcE]
      split <;> simp only [Option.map_map] <;> rfl
    case convert s d y => exact U4 he
    case slice t y lo hi mx => exact AaR he
    case lookup t y z ok => simp only [Fx, Yr, Option.map_map]; rfl
    case fieldAddr s y f =>
      simp only [Fx, Qu, Option.map_map]; rfl
    case indexAddr t y i =>
      simp only [Fx, Rl, Option.map_map]; rfl
    case call c =>
      simp only [Fx]
      cases hc : c.callee <;> simp only [hc] at ht he ⊢ <;> try rfl
      rename_i b
      cases b <;> simp only at ht he <;> try (first | (cases ht; done) | (cases he; done))
      unfold Cs
      split <;> first | rfl | (simp only [AdR, Option.map_map]; rfl) | (exfalso; simp_all; done)
theorem Tp {orc : Orc} {fr : List AV} {σ : Ab} {op : Op} (he : S5 E op = false) : (D3 E orc op fr (σ.map Mg)).map (·.1) = (D3 E orc op fr σ).map (·.1) := by
  cases op with
  | call c =>
    simp only [D3]
    cases hc : c.callee <;> simp only []
    case builtin b => exact Y5 he
    all_goals
      simp only [S5, hc] at he
      simp only [he, Bool.false_eq_true, if_false, Ads, Option.map_map]
      rfl
  | _ => exact Y5 (fr := fr) (σ := σ) he
theorem Xo {orc : Option Tmp → Orc} {ops : Array Oper} {o : Oper} {fr : List AV} {σ σ' ρ : Ab} {x : AV} (hρ : σ.map Mg = ρ.map Mg) (he : S9 E ops o = false) (h : Ib E orc ops o fr σ = some (x, σ')) : Ib E orc ops o fr ρ = some (x, ρ) := by
  unfold Ib at h ⊢
  split at h
  · rcases Nv he with hf | ⟨hf, he⟩
    · rw [hf] at h ⊢
      have e : ∀ σ, Jq true σ = Kd σ := fun σ => by funext r; simp [Jq]
      rw [e] at h ⊢
      have e2 : ∀ σ, D3 E (orc o.dst) o.op fr σ = Fx E fr σ o.op := by
        intro σ
        rcases Gx hf with ⟨t, n, l, h⟩ | ⟨s, d, x, h, _⟩ <;> rw [h] <;> rfl
      rw [e2] at h ⊢
      exact AdZ ρ (Gx hf) h
    · rw [hf] at h ⊢
      have e : ∀ σ, Jq false σ = some := fun σ => by funext r; simp [Jq]
      rw [e] at h ⊢
      rw [C7] at h ⊢
      have h1 := Tp (E := E) (orc := orc o.dst) (fr := fr) (σ := σ) he
      have h2 := Tp (E := E) (orc := orc o.dst) (fr := fr) (σ := ρ) he
      rw [hρ, h2, h] at h1
      simp only [Option.map_some] at h1
      rw [Option.map_eq_some_iff] at h1
      obtain ⟨⟨y, ρ'⟩, h3, h4⟩ := h1
      simp only at h4
      subst h4
      rw [h3, R5 he h3]
  · cases h; rfl
  · cases h
def K6 (E : Env) : Op → Bool
  | .slice t .. => O0 E t
  | _ => false
theorem Xv {orc : Option Tmp → Orc} {ops : Array Oper} {o : Oper} {fr : List AV} {σ σ' : Ab} {x : AV} (ha : K6 E o.op = true) (h : Ib E orc ops o fr σ = some (x, σ')) : σ.map Mg = σ'.map Mg := by
  have hf : Ky E ops o = false := by
    cases hf : Ky E ops o
    · rfl
    · rcases Gx hf with ⟨t, n, l, h⟩ | ⟨s, d, x, h, _⟩ <;> rw [h] at ha <;> cases ha
  unfold Ib at h
  rw [hf] at h
  have e : ∀ σ, Jq false σ = some := fun σ => by funext r; simp [Jq]
  rw [e, C7] at h
  split at h
  · cases ho : o.op <;> simp only [ho, K6] at ha h <;> try (cases ha; done)
    simp only [D3, Fx, H6] at h
    repeat' split at h
    all_goals try (cases h; done)
    all_goals try (cases h; rfl)
    all_goals try (
      generalize E.G _ = gg at h
      generalize E.tab _ = tt at h
      cases gg <;> cases tt <;> simp only at h <;> try (cases h; done)
      split at h
      · split at h
        · cases h; rfl
        · cases h
      · cases h
      done)
    cases h
    rename_i hσ _ _ _ _ _
    rw [List.map_set]
    refine (List.ext_getElem? fun i => ?_)
    rw [List.getElem?_set]
    split
    · rename_i hi
      subst hi
      simp only [List.length_map]
      split
      · rw [F7, ‹σ[_]? = some (ABlk.box _ _)›]; rfl
      · rename_i hn
        exact absurd (by simpa using (List.getElem?_eq_some_iff.1 ‹σ[_]? = some (ABlk.box _ _)›).1) hn
    · rfl
  · cases h; rfl
  · cases h
def mkO (σ : Ab) : Option Nat → Ab
  | none => σ
  | some id => Dh σ id
theorem Yc (σ : Ab) (a b : Nat) : Dh (Dh σ a) b = Dh (Dh σ b) a := by
  refine List.ext_getElem? fun i => ?_
  simp only [Es]
  by_cases h1 : i = a
  · by_cases h2 : i = b
    · subst h1; subst h2; rfl
    · simp only [if_pos h1, if_neg h2]
  · by_cases h2 : i = b
    · simp only [if_neg h1, if_pos h2]
    · simp only [if_neg h1, if_neg h2]
theorem Ag8 (σ : Ab) (a b : Option Nat) : mkO (mkO σ a) b = mkO (mkO σ b) a := by
  cases a <;> cases b <;> first | rfl | exact Yc _ _ _
theorem Nx {orc : Option Tmp → Orc} {ops : Array Oper} {o : Oper} {fr : List AV} {σ σ' : Ab} {x : AV} (ha : K6 E o.op = true) (h : Ib E orc ops o fr σ = some (x, σ')) :
    ∃ m, σ' = mkO σ m ∧ ∀ ρ : Ab, ρ.map Mg = σ.map Mg → Ib E orc ops o fr ρ = some (x, mkO ρ m) := by
  have hf : Ky E ops o = false := by
    cases hf : Ky E ops o
    · rfl
    · rcases Gx hf with ⟨t, n, l, h⟩ | ⟨s, d, x, h, _⟩ <;> rw [h] at ha <;> cases ha
  have e : ∀ σ, Jq false σ = some := fun σ => by funext r; simp [Jq]
  unfold Ib at h ⊢
  rw [hf] at h ⊢
  simp only [e, C7] at h ⊢
  split at h
  · cases ho : o.op <;> simp only [ho, K6] at ha h <;> try (cases ha; done)
    rename_i t y lo hi mx
    simp only [D3, Fx] at h ⊢
    unfold O0 at ha
    cases ht : E.tab t with
    | none => simp [ht] at ha
    | some d =>
      obtain ⟨desc, sz, bt, z⟩ := d
      rw [ht] at ha
      cases desc <;> simp only at ha <;> try (cases ha; done)
      rename_i n e2
      unfold H6 at h ⊢
      simp only [ht] at h ⊢
      generalize ev fr y = yv at h ⊢
      cases yv <;> simp only at h ⊢ <;> try (cases h; done)
      case glob gi =>
        refine ⟨none, ?_, fun ρ _ => ?_⟩
        · repeat' split at h
          all_goals try (cases h; done)
          all_goals (cases h; rfl)
        · repeat' split at h
          all_goals try (cases h; done)
          all_goals (cases h; simp_all [mkO])
      rename_i id off
      cases hσ : σ[id]? with
      | none => simp [hσ] at h
      | some b =>
        cases b with
        | buf => simp [hσ] at h
        | obj o => simp [hσ] at h
        | tb T l => simp [hσ] at h
        | box cs ro =>
          cases hte : E.tab e2 with
          | none => simp [hσ, hte] at h
          | some de =>
            simp only [hσ, hte] at h
            split at h
            case isFalse => cases h
            rename_i hc
            split at h
            case h_2 => cases h
            rename_i l h1 f1 hb
            cases h
            refine ⟨some id, ?_, fun ρ hρ => ?_⟩
            · show _ = Dh σ id
              unfold Dh; rw [hσ]
            · have h2 : (ρ[id]?).map Mg = (σ[id]?).map Mg := by rw [← F7, ← F7, hρ]
              rw [hσ] at h2
              cases hρ2 : ρ[id]? with
              | none => rw [hρ2] at h2; cases h2
              | some b2 =>
                rw [hρ2] at h2
                cases b2 with
                | buf => cases h2
                | obj o => cases h2
                | tb T l => cases h2
                | box cs2 ro2 =>
                  simp only [Option.map_some, Mg, Option.some.injEq, ABlk.box.injEq, and_true] at h2
                  subst h2
                  simp only [hρ2, hte, if_pos hc, hb]
                  show _ = some (_, Dh ρ id)
                  unfold Dh; rw [hρ2]
  · cases h; exact ⟨none, rfl, fun ρ _ => rfl⟩
  · cases h
def Qk (E : Env) (ops : Array Oper) (x y : Oper) : Bool :=
  x.apart ops y && ((!(S9 E ops x && Hm E y.op) && !(S9 E ops y && Hm E x.op)) || (U9 y.op && !S9 E ops x) || (K6 E y.op && !S9 E ops x) || (K6 E x.op && !S9 E ops y) || (K6 E x.op && K6 E y.op))
theorem Ys {op : Op} (h : Hm E op = false) : S5 E op = false := by
  cases op <;> simp only [Hm, S5] at h ⊢ <;> try (first | assumption | (cases h; done))
  case call c =>
    cases hc : c.callee <;> rw [hc] at h <;> try (cases h; done)
    rename_i b
    cases b <;> first | rfl | (cases h; done)
theorem V5 {ops : Array Oper} {o : Oper} (h : Hm E o.op = false) : S9 E ops o = false := by
  unfold S9; rw [Ys h]; rfl
theorem Oh {orc : Option Tmp → Orc} {ops : Array Oper} {x y : Oper} {st st1 st2 : St} (hc : Qk E ops x y = true) (h1 : Em E orc ops x st = some st1) (h2 : Em E orc ops y st1 = some st2) :
    ∃ st3, Em E orc ops y st = some st3 ∧ Em E orc ops x st3 = some st2 := by
  simp only [Qk, Bool.and_eq_true, Bool.or_eq_true, Bool.not_eq_true', Bool.and_eq_false_iff] at hc
  obtain ⟨hap, hcase⟩ := hc
  obtain ⟨a1, a2, a3⟩ := Oper.apart_spec hap
  unfold Em at h1 h2 ⊢
  rw [Option.map_eq_some_iff] at h1 h2
  obtain ⟨⟨v, σ1⟩, hv, rfl⟩ := h1
  obtain ⟨⟨u, σ2⟩, hu, rfl⟩ := h2
  simp only at hu ⊢
  rw [Ez a1] at hu
  have fin : ∀ σ3, Ib E orc ops y st.fr st.σ = some (u, σ3) → Ib E orc ops x st.fr σ3 = some (v, σ2) →
      ∃ st3, (Ib E orc ops y st.fr st.σ).map (fun r => (⟨Bl st.fr y.dst r.1, r.2⟩ : St)) = some st3 ∧ (Ib E orc ops x st3.fr st3.σ).map (fun r => (⟨Bl st3.fr x.dst r.1, r.2⟩ : St)) = some ⟨Bl (Bl st.fr x.dst v) y.dst u, σ2⟩ := by
    intro σ3 hy hx
    refine ⟨⟨Bl st.fr y.dst u, σ3⟩, by rw [hy]; rfl, ?_⟩
    simp only
    rw [Ez a3, hx]
    simp only [Option.map_some, Kw st.fr v u a2]
  rcases hcase with (((⟨e1, e2⟩ | ⟨hal, ex⟩) | ⟨hal, ex⟩) | ⟨hal, ey⟩) | ⟨hax, hay⟩
  case inr =>
    obtain ⟨m, rfl, _⟩ := Nx hax hv
    have hun : ∀ (σ : Ab) (m : Option Nat), (mkO σ m).map Mg = σ.map Mg := by
      intro σ m
      cases m with
      | none => rfl
      | some id =>
        refine List.ext_getElem? fun i => ?_
        rw [F7, F7]
        show ((Dh σ id)[i]?).map Mg = _
        rw [Es]
        split
        · cases σ[i]? with
          | none => rfl
          | some b => cases b <;> rfl
        · rfl
    obtain ⟨m2, rfl, h2⟩ := Nx hay hu
    obtain ⟨m1, e1, h1⟩ := Nx hax hv
    refine fin (mkO st.σ m2) (h2 st.σ (hun _ _).symm) ?_
    rw [h1 _ (hun _ _), e1, Ag8]
  case inl.inl.inr =>
    obtain rfl := Du ex hv
    exact fin _ hu (Xo (Xv hal hu) ex hv)
  case inl.inr =>
    obtain rfl := Du ey hu
    exact fin _ (Xo (Xv hal hv).symm ey hu) hv
  case inl.inl.inl.inr =>
    obtain rfl := Du ex hv
    obtain ⟨bs, rfl⟩ := AcB hal hu
    exact fin _ hu (AfI bs ex hv)
  rcases e1 with ex | ty
  · obtain rfl := Du ex hv
    rcases e2 with ey | tx
    · obtain rfl := Du ey hu
      exact fin _ hu hv
    · refine fin _ hu ?_
      rw [O6 (σ := st.σ) tx, hv]; rfl
  · have ey : S9 E ops y = false := V5 ty
    obtain rfl := Du ey hu
    rw [O6 (σ := st.σ) ty, Option.map_eq_some_iff] at hu
    obtain ⟨⟨u', σ'⟩, hy, he⟩ := hu
    simp only [Prod.mk.injEq] at he
    obtain ⟨rfl, _⟩ := he
    obtain rfl := Du ey hy
    exact fin _ hy hv
def S3 (B : Base) (orc : Orc) : Prop := (∀ f args r, orc.fz f args = some r → Con B f args [] (fun r' σ' => r' = r ∧ σ' = [])) ∧
  ∀ f args σ r σ', orc.own f args σ = some (r, σ') → ∀ F, Wv (B.env F) f args σ r σ'
theorem AhM {orc : Orc} (hO : S3 E.toBase orc) {o : Oper} {c : Call} (hop : o.op = .call c) {st : St} {r : AV × Ab} (h : AhZ orc st.fr st.σ c = some r)
    {a : Act} {w : World} {g : Gh} (hr : Rel E w g st a) {next : Act → World → Prop} {Q : Exit → Act → World → Prop}
    (hk : ∀ a' w' g', Rel E w' g' ⟨Bl st.fr o.dst r.1, r.2⟩ a' → Evo E 0 w g w' g' → GLe g g' → next a' w') : o.wp E.P a w next Q := by
  unfold AhZ at h
  split at h
  case h_2 => cases h
  rename_i f hc
  split at h
  case h_2 => cases h
  rename_i fid hf
  exact AaT hop hc hf (Aak (hO.2 _ _ _ r.1 r.2 h E.F)) hr hk
theorem Aht (hE : E.Ok) {orc : Orc} (hO : S3 E.toBase orc) {o : Oper} {st : St} {r : AV × Ab} (h : D3 E orc o.op st.fr st.σ = some r)
    {a : Act} {w : World} {g : Gh} (hr : Rel E w g st a) {next : Act → World → Prop} {Q : Exit → Act → World → Prop}
    (hk : ∀ a' w' g', Rel E w' g' ⟨Bl st.fr o.dst r.1, r.2⟩ a' → Evo E 0 w g w' g' → GLe g g' → next a' w') : o.wp E.P a w next Q := by
  have plain : Fx E st.fr st.σ o.op = some r → o.wp E.P a w next Q := by
    intro h
    obtain ⟨v, w', g', h1, h2, h3, h4, h5⟩ := On (x := r.1) (σ' := r.2) hE hr h
    unfold Oper.wp
    exact Aas h1 (hk _ w' g' (It (J5 hr h2 h3 h4) o.dst h5) h4 h3)
  cases hop : o.op with
  | call c =>
    simp only [hop, D3] at h
    cases hc : c.callee <;> simp only [hc] at h
    case builtin b => exact plain (by rw [hop]; exact h)
    all_goals (split at h; · exact AhM hO hop h hr hk)
    all_goals try (simp [Oi, hc] at h; done)
    rename_i f _
    rw [Option.map_eq_some_iff] at h
    obtain ⟨r1, h, rfl⟩ := h
    unfold Oi at h
    simp only [hc] at h
    split at h
    case h_2 => cases h
    rename_i fid hf
    split at h
    case h_2 => cases h
    rename_i args ha
    split at h
    case h_2 => cases h
    rename_i r2 ho
    split at h
    case isFalse => cases h
    rename_i hs
    cases h
    rcases hs with hs | hs
    · exact L1 hop hc hf ha hs ((hO.1 _ _ _ ho).mono fun _ _ h => h.1) hr hk
    · refine Iv hop hc hf ha (hO.1 _ _ _ ho) hr ?_
      rw [hs]
      exact hk
  | _ => exact plain (by rw [hop]; simp only [hop] at h; exact h)
theorem AkG (hE : E.Ok) {o : Oper} {st : St} {r : AV × Ab} (hf : (∃ t n l, o.op = .buildSlice t n l) ∨ (∃ s d x, o.op = .convert s d x ∧ Eb E d = true))
    (h : (Fx E st.fr st.σ o.op).bind (Kd st.σ) = some r)
    {a : Act} {w : World} {g : Gh} (hr : Rel E w g st a) {next : Act → World → Prop} {Q : Exit → Act → World → Prop}
    (hk : ∀ a' w' g', Rel E w' g' ⟨Bl st.fr o.dst r.1, r.2⟩ a' → Evo E 0 w g w' g' → GLe g g' → next a' w') : o.wp E.P a w next Q := by
  rw [Option.bind_eq_some_iff] at h
  obtain ⟨⟨x, σ'⟩, h1, h2⟩ := h
  obtain ⟨y, σ2⟩ := r
  have hp : ∃ bs, σ' = st.σ ++ bs := by
    rcases hf with ⟨t, n, l, e⟩ | ⟨s, d, z, e, _⟩
    · rw [e] at h1
      simp only [Fx, D4] at h1
      repeat' split at h1
      all_goals try (cases h1; done)
      cases h1; exact ⟨_, rfl⟩
    · rw [e] at h1
      simp only [Fx, Bb] at h1
      repeat' split at h1
      all_goals try (cases h1; done)
      all_goals (cases h1; first | exact ⟨_, rfl⟩ | exact ⟨[], by simp⟩)
  obtain ⟨v, w', g', k1, k2, k3, k4, k5⟩ := On (x := x) (σ' := σ') hE hr h1
  obtain ⟨rfl, m2, m3, m4, m5⟩ := Aa4 hr.mem hp h2 k2 k3 k4 k5
  unfold Oper.wp
  exact Aas k1 (hk _ w' _ (It (J5 hr m2 m3 m4) o.dst m5) m4 m3)
theorem Afo (hE : E.Ok) {orc : Option Tmp → Orc} (hO : ∀ d, S3 E.toBase (orc d)) {ops : Array Oper} {o : Oper} {st : St} {r : AV × Ab} (h : (D3 E (orc o.dst) o.op st.fr st.σ).bind (Jq (Ky E ops o) st.σ) = some r)
    {a : Act} {w : World} {g : Gh} (hr : Rel E w g st a) {next : Act → World → Prop} {Q : Exit → Act → World → Prop}
    (hk : ∀ a' w' g', Rel E w' g' ⟨Bl st.fr o.dst r.1, r.2⟩ a' → Evo E 0 w g w' g' → GLe g g' → next a' w') : o.wp E.P a w next Q := by
  cases hf : Ky E ops o with
  | true =>
    have e : ∀ σ, Jq true σ = Kd σ := fun σ => by funext r; simp [Jq]
    have e2 : D3 E (orc o.dst) o.op st.fr st.σ = Fx E st.fr st.σ o.op := by
      rcases Gx hf with ⟨t, n, l, h⟩ | ⟨s, d, x, h, _⟩ <;> rw [h] <;> rfl
    rw [hf, e, e2] at h
    exact AkG hE (Gx hf) h hr hk
  | false =>
    have e : ∀ σ, Jq false σ = some := fun σ => by funext r; simp [Jq]
    rw [hf, e, C7] at h
    exact Aht hE (hO _) h hr hk
theorem Wu (hE : E.Ok) {orc : Option Tmp → Orc} (hO : ∀ d, S3 E.toBase (orc d)) {ops : Array Oper} {i : Nat} {o : Oper} {st st' : St} (hi : ops[i]? = some o) (h : Em E orc ops o st = some st')
    {a : Act} {w : World} {g : Gh} (hr : Rel E w g st a) {next : Act → World → Prop} {Q : Exit → Act → World → Prop}
    (hk : ∀ a' w' g', Rel E w' g' st' a' → Evo E 0 w g w' g' → GLe g g' → next a' w') : wpOp E.P ops Q i next a w := by
  unfold Em at h
  rw [Option.map_eq_some_iff] at h
  obtain ⟨⟨x, σ'⟩, hv, rfl⟩ := h
  unfold wpOp
  simp only [hi]
  unfold Ib Qe at hv
  cases hg : o.guard with
  | none =>
    simp only [hg] at hv
    simp only [Region.wanted, hg, if_true]
    exact .inl (Afo hE hO hv hr hk)
  | some p =>
    obtain ⟨j, want⟩ := p
    simp only [hg] at hv
    cases hy : Pa ops st.fr j with
    | none => simp [hy] at hv
    | some b =>
      simp only [Region.wanted, hg, O2 hr hy]
      simp only [hy, Option.map_some] at hv
      by_cases e : b = some want
      · rw [if_pos (by simp [e])]
        rw [show (b == some want) = true by simp [e]] at hv
        exact .inl (Afo hE hO hv hr hk)
      · rw [if_neg (by simp [e])]
        rw [show (b == some want) = false by simp [e]] at hv
        cases hv
        exact hk _ w g (It hr o.dst (X0 _ _ _)) (Evo.refl _ _ _ _) (GLe.refl _)
def F2 (ops : Array Oper) (i : Nat) : List Nat := match ops[i]? with
  | some o => (o.after.toList.filter (Region.binds .any)).map (·.on)
  | none => []
def K5 (ops : Array Oper) (T : List (List Nat)) : Bool :=
  (List.range ops.size).all fun i => (F2 ops i).all (· < i) && (T.getD i []).all fun j => (F2 ops i).contains j || (F2 ops i).any fun k => (T.getD k []).contains j
def M1 (E : Env) (ops : Array Oper) (T : List (List Nat)) : Bool :=
  (List.range ops.size).all fun i => (List.range i).all fun j => (T.getD i []).contains j || (match ops[j]?, ops[i]? with
    | some x, some y => Qk E ops x y
    | _, _ => false)
theorem K7 {orc : Option Tmp → Orc} {ops : Array Oper} {i : Nat} {y : Oper} (hi : ops[i]? = some y) {l2 : List Nat} {st' : St} : ∀ (l1 : List Nat) (st : St),
    (∀ j ∈ l1, ∀ x, ops[j]? = some x → Qk E ops x y = true) → B9 E orc ops (l1 ++ i :: l2) st = some st' →
    ∃ st1, Em E orc ops y st = some st1 ∧ B9 E orc ops (l1 ++ l2) st1 = some st'
  | [], st, _, h => by
    simp only [List.nil_append, B9, hi] at h
    rw [Option.bind_eq_some_iff] at h
    exact h
  | j :: l1, st, hc, h => by
    simp only [List.cons_append, B9] at h
    cases hj : ops[j]? with
    | none => simp [hj] at h
    | some x =>
      simp only [hj] at h
      rw [Option.bind_eq_some_iff] at h
      obtain ⟨s1, h1, h⟩ := h
      obtain ⟨s2, h2, h⟩ := K7 hi l1 s1 (fun k hk => hc k (List.mem_cons_of_mem _ hk)) h
      obtain ⟨s3, h3, h4⟩ := Oh (hc j List.mem_cons_self x hj) h1 h2
      refine ⟨s3, h3, ?_⟩
      simp only [List.cons_append, B9, hj, h4, Option.bind_some]
      exact h
theorem Bt {n : Nat} {p : Nat → Bool} (h : (List.range n).all p = true) {i : Nat} (hi : i < n) : p i = true :=
  List.all_eq_true.1 h i (List.mem_range.2 hi)
theorem Gi {ops : Array Oper} {T : List (List Nat)} (h : K5 ops T = true) {i : Nat} (hi : i < ops.size) {d : Nat} (hd : d ∈ F2 ops i) : d < i := by
  have := Bt h hi
  simp only [Bool.and_eq_true, List.all_eq_true, decide_eq_true_eq] at this
  exact this.1 d hd
theorem Mp {ops : Array Oper} {T : List (List Nat)} (h : K5 ops T = true) {rem : List Nat}
    (hdown : ∀ k, k < ops.size → k ∉ rem → ∀ d ∈ F2 ops k, d ∉ rem) : ∀ (i : Nat), i < ops.size → (∀ d ∈ F2 ops i, d ∉ rem) → ∀ j ∈ T.getD i [], j ∉ rem := by
  intro i
  induction i using Nat.strongRecOn with
  | _ i ih =>
    intro hi hd j hj
    have hh := Bt h hi
    simp only [Bool.and_eq_true, List.all_eq_true, Bool.or_eq_true, List.contains_iff_mem, List.any_eq_true, decide_eq_true_eq] at hh
    rcases hh.2 j hj with hj | ⟨k, hk, hkj⟩
    · exact hd j hj
    · have hki := hh.1 k hk
      have hks := Nat.lt_trans hki hi
      exact ih k hki hks (hdown k hks (hd k hk)) j hkj
theorem Ha {ops : Array Oper} {i : Nat} {o : Oper} (hi : ops[i]? = some o) {d : Nat} : d ∈ F2 ops i ↔ ∃ e ∈ o.after, Region.binds .any e = true ∧ e.on = d := by
  simp only [F2, hi, List.mem_map, List.mem_filter, Array.mem_toList_iff]
  constructor
  · rintro ⟨e, ⟨h1, h2⟩, h3⟩; exact ⟨e, h1, h2, h3⟩
  · rintro ⟨e, h1, h2, h3⟩; exact ⟨e, ⟨h1, h2⟩, h3⟩
theorem Ade (hE : E.Ok) {orc : Option Tmp → Orc} (hO : ∀ d, S3 E.toBase (orc d)) {ops : Array Oper} {T : List (List Nat)} (hc : K5 ops T = true) (hm : M1 E ops T = true) {st' : St} {Q : Exit → Act → World → Prop} :
    ∀ (fuel : Nat) (rem : List Nat) (listed : Array Bool) (st : St) (a : Act) (w : World) (g : Gh), rem.length = fuel → rem.Pairwise (· < ·) → listed.size = ops.size →
      (∀ j, listed.getD j true = false ↔ j ∈ rem) → (∀ k, k < ops.size → k ∉ rem → ∀ d ∈ F2 ops k, d ∉ rem) →
      B9 E orc ops rem st = some st' → Rel E w g st a → (∀ a' w' g', Rel E w' g' st' a' → Evo E 0 w g w' g' → GLe g g' → Q .normal a' w') →
      wpAny E.P .any ops Q fuel listed a w := by
  have hin : ∀ (rem : List Nat) (listed : Array Bool), listed.size = ops.size → (∀ j, listed.getD j true = false ↔ j ∈ rem) → ∀ j ∈ rem, j < ops.size := by
    intro rem listed hs hl j hj
    have := (hl j).2 hj
    by_cases e : j < listed.size
    · omega
    · simp [Array.getD, e] at this
  have hgd : ∀ (rem : List Nat) (listed : Array Bool), listed.size = ops.size → (∀ j, listed.getD j true = false ↔ j ∈ rem) → ∀ d, d < ops.size → (listed.getD d false = true ↔ d ∉ rem) := by
    intro rem listed hs hl d hd
    have h1 : listed.getD d false = listed.getD d true := by
      have : d < listed.size := by omega
      simp [Array.getD, this]
    rw [h1, ← hl d]
    cases listed.getD d true <;> simp
  have hrd : ∀ (rem : List Nat) (listed : Array Bool), listed.size = ops.size → (∀ j, listed.getD j true = false ↔ j ∈ rem) → ∀ i,
      (i ∈ Region.ready .any ops listed ↔ i ∈ rem ∧ ∀ d ∈ F2 ops i, d ∉ rem) := by
    intro rem listed hs hl i
    rw [mem_ready, hl i]
    constructor
    · rintro ⟨h1, o, ho, h2⟩
      refine ⟨h1, fun d hd => ?_⟩
      have hlt := Gi hc (hin rem listed hs hl i h1) hd
      have hds := Nat.lt_trans hlt (hin rem listed hs hl i h1)
      obtain ⟨e, he, hb, rfl⟩ := (Ha ho).1 hd
      exact (hgd rem listed hs hl _ hds).1 (h2 e he hb)
    · rintro ⟨h1, h2⟩
      have hi := hin rem listed hs hl i h1
      refine ⟨h1, ops[i], Array.getElem?_eq_getElem hi, fun e he hb => ?_⟩
      have hd : e.on ∈ F2 ops i := (Ha (Array.getElem?_eq_getElem hi)).2 ⟨e, he, hb, rfl⟩
      exact (hgd rem listed hs hl _ (Nat.lt_trans (Gi hc hi hd) hi)).2 (h2 _ hd)
  have hdone : ∀ (rem : List Nat) (listed : Array Bool), rem.Pairwise (· < ·) → listed.size = ops.size → (∀ j, listed.getD j true = false ↔ j ∈ rem) → Region.ready .any ops listed = [] → rem = [] := by
    intro rem listed hp hs hl hr
    cases rem with
    | nil => rfl
    | cons i r =>
      have hi : i ∈ Region.ready .any ops listed := (hrd _ listed hs hl i).2 ⟨List.mem_cons_self, fun d hd hm => by
        have := Gi hc (hin _ listed hs hl i List.mem_cons_self) hd
        rcases List.mem_cons.1 hm with rfl | hm
        · omega
        · have := List.rel_of_pairwise_cons hp hm
          omega⟩
      rw [hr] at hi
      cases hi
  intro fuel
  induction fuel with
  | zero =>
    intro rem listed st a w g hf hp hs hl hd hst hr hq
    have : rem = [] := List.length_eq_zero_iff.1 hf
    subst this
    simp only [B9, Option.some.injEq] at hst
    subst hst
    refine ⟨?_, hq a w g hr (Evo.refl _ _ _ _) (GLe.refl _)⟩
    rw [List.eq_nil_iff_forall_not_mem]
    intro i hi
    have := ((hrd _ listed hs hl i).1 hi).1
    cases this
  | succ fuel ih =>
    intro rem listed st a w g hf hp hs hl hd hst hr hq
    refine ⟨fun h => ?_, fun i hi => ?_⟩
    · have := hdone rem listed hp hs hl h
      subst this
      simp at hf
    · obtain ⟨hir, hid⟩ := (hrd rem listed hs hl i).1 hi
      have his := hin rem listed hs hl i hir
      obtain ⟨l1, l2, rfl⟩ := List.append_of_mem hir
      have hp' := hp
      rw [List.pairwise_append] at hp'
      obtain ⟨p1, p2, p3⟩ := hp'
      have hnd : ∀ j ∈ l1 ++ l2, j ≠ i := by
        intro j hj
        rcases List.mem_append.1 hj with hj | hj
        · have := p3 j hj i List.mem_cons_self; omega
        · have := List.rel_of_pairwise_cons p2 hj; omega
      have hmem : ∀ j, j ∈ l1 ++ l2 ↔ j ∈ l1 ++ i :: l2 ∧ j ≠ i := by
        intro j
        constructor
        · intro hj
          refine ⟨?_, hnd j hj⟩
          simp only [List.mem_append, List.mem_cons] at hj ⊢
          rcases hj with hj | hj
          · exact .inl hj
          · exact .inr (.inr hj)
        · rintro ⟨hj, hne⟩
          simp only [List.mem_append, List.mem_cons] at hj ⊢
          rcases hj with hj | hj | hj
          · exact .inl hj
          · exact (hne hj).elim
          · exact .inr hj
      have hcm : ∀ j ∈ l1, ∀ x, ops[j]? = some x → Qk E ops x ops[i] = true := by
        intro j hj x hx
        have hji : j < i := p3 j hj i List.mem_cons_self
        have h1 := Bt (Bt hm his) hji
        simp only [Bool.or_eq_true, List.contains_iff_mem] at h1
        rcases h1 with h1 | h1
        · exact (Mp hc hd i his hid j h1 (List.mem_append_left _ hj)).elim
        · simp only [hx, Array.getElem?_eq_getElem his] at h1
          exact h1
      obtain ⟨st1, h1, h2⟩ := K7 (Array.getElem?_eq_getElem his) l1 st hcm hst
      refine Wu hE hO (Array.getElem?_eq_getElem his) h1 hr fun a1 w1 g1 hr1 he1 hg1 => ?_
      refine ih (l1 ++ l2) (listed.setIfInBounds i true) st1 a1 w1 g1 ?_ ?_ ?_ ?_ ?_ h2 hr1 ?_
      · simp at hf ⊢; omega
      · exact hp.sublist (List.Sublist.append_left (List.sublist_cons_self i l2) l1)
      · simp [hs]
      · intro j
        rw [hmem j, ← hl j]
        by_cases e : j = i
        · subst e
          have : j < listed.size := by omega
          simp [Array.getD, this]
        · rw [getD_set_ne true (fun h => e h.symm)]
          simp [e]
      · intro k hk hkn d hdk hdm
        have hd2 := ((hmem d).1 hdm).1
        by_cases e : k = i
        · subst e
          exact hid d hdk hd2
        · exact hd k hk (fun h => hkn ((hmem k).2 ⟨h, e⟩)) d hdk hd2
      · intro a' w' g' hr' he' hg'
        exact hq a' w' g' hr' (he1.trans he') (hg1.trans hg')
theorem Pt {w w' : World} {g : Gh} {st : St} {a : Act} (hr : Rel E w g st a) (h : SameMem w w') : Rel E w' g st a :=
  ⟨hr.size, fun t x hx => U5 h (hr.slot t x hx), hr.mem.same h, hr.defers⟩
theorem Sa (hE : E.Ok) {orc : Option Tmp → Orc} (hO : ∀ d, S3 E.toBase (orc d)) (hP : E.P.follows .mixedOrders = true) {n id : Nat} {l : List Oper} (T : List (List Nat)) (hok1 : K5 l.toArray T = true) (hok2 : M1 E l.toArray T = true) {st st' : St} {K : Dx}
    (hst : B9 E orc l.toArray (List.range l.length) st = some st') (hk : K .normal st') : Run E n (.region id l.toArray true) st K := by
  intro a w g hr Q hq
  refine wp_region_any hP ?_
  have hsm : SameMem w { w with drawn := w.drawn + 1 } := ⟨rfl, rfl, rfl, rfl⟩
  refine Ade hE hO hok1 hok2 l.toArray.size (List.range l.length) _ st a _ g (by simp) List.pairwise_lt_range (by simp) ?_ ?_ hst (Pt hr hsm) ?_
  · intro j
    rw [List.mem_range]
    by_cases h : j < l.length <;> simp [Array.getD, h]
  · intro k hk hkn
    exact (hkn (List.mem_range.2 (by simpa using hk))).elim
  · intro a' w' g' hr' he hg
    exact hq _ _ _ _ _ hk hr' ((Evo.same hsm).trans (he.of_gle hg))
end Go.Rv
