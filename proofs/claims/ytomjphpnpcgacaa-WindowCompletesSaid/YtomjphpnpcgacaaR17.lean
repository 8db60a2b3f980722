/-
  R17: regions whose order is drawn: the order of the text serves every order.
-/
import Derived.Test.YtomjphpnpcgacaaR16
import Derived.Orders
namespace Go.Rv
set_option linter.unusedVariables false
set_option linter.unusedSimpArgs false

variable {E : Env}

/-- What is answered to calls of functions that see nothing of the state. -/
structure Orc where
  fz : FuncId → List AV → Option AV
  /-- Functions that turn the caller's state. -/
  own : FuncId → List AV → Store → Option (AV × Store)

/-- Is the caller's state handed over? -/
def isOwn (E : Env) (c : Call) : Bool := match c.callee with
  | .value (.func f) => E.own f
  | _ => false

def ownA (orc : Orc) (fr : List AV) (σ : Store) (c : Call) : Option (AV × Store) :=
  match c.callee with
  | .value f => match ev fr f with
    | .fn fid [] => orc.own fid (c.args.toList.map (ev fr)) σ
    | _ => none
  | _ => none

def callA (orc : Orc) (fr : List AV) (σ : Store) (c : Call) : Option AV :=
  match c.callee with
  | .value f => match ev fr f with
    | .fn fid [] => match (c.args.toList.map (ev fr)).mapM (fz σ) with
      | some args => match orc.fz fid args with
        | some r => if r.scalar = true ∨ (c.args.toList.map (ev fr)).flatMap bsIds = [] then some r else none
        | none => none
      | none => none
    | _ => none
  | _ => none

/-- What an operation gives. -/
def opVal (E : Env) (orc : Orc) (op : Op) (fr : List AV) (σ : Store) : Option (AV × Store) :=
  match op with
  | .call c => match c.callee with
    | .builtin _ => evOp E fr σ op
    | _ => if isOwn E c = true then ownA orc fr σ c else (callA orc fr σ c).map fun r => (r, σ)
  | op => evOp E fr σ op

/-! ### Fresh memory that changes no more -/
theorem rep_under {w : World} {pr : Addr → Prop} {g : Gh} {v : Value} {x : AV} (h : Rep w pr g v x) : x.under g.length = true := by
  induction h with
  | bs g v full id tot off len b hb hx ht h ho => simpa [AV.under] using (List.getElem?_eq_some_iff.1 hb).1
  | ref g id off β b hb hx hβ => simpa [AV.under] using (List.getElem?_eq_some_iff.1 hb).1
  | eref g v id tot i j b hb hx ht h ho => simpa [AV.under] using (List.getElem?_eq_some_iff.1 hb).1
  | agg g vs cs hs ho hr ih =>
    simp only [AV.under, List.all_eq_true]
    rintro ⟨x, hx⟩ _
    obtain ⟨i, hi⟩ := List.mem_iff_getElem?.1 hx
    exact ih i x hi
  | tup g vs cs hs hr ih =>
    simp only [AV.under, List.all_eq_true]
    rintro ⟨x, hx⟩ _
    obtain ⟨i, hi⟩ := List.mem_iff_getElem?.1 hx
    exact ih i x hi
  | fn g f caps cs hs hr hn ih =>
    simp only [AV.under, List.all_eq_true]
    rintro ⟨x, hx⟩ _
    obtain ⟨i, hi⟩ := List.mem_iff_getElem?.1 hx
    exact ih i x hi
  | fnb g f fs cs hs hr ih =>
    simp only [AV.under, List.all_eq_true]
    rintro ⟨x, hx⟩ _
    rw [List.mem_singleton] at hx
    subst hx
    simp only [AV.under, List.all_eq_true]
    rintro ⟨y, hy⟩ _
    obtain ⟨i, hi⟩ := List.mem_iff_getElem?.1 hy
    exact ih i y hi
  | iface g t v x hr ih => simpa [AV.under] using ih
  | _ => simp [AV.under]

theorem mem_below {w : World} {g : Gh} {σ : Store} (hm : Mem E w g σ) : ∀ ab ∈ σ, blkBelow σ.length ab := by
  intro ab hab
  obtain ⟨id, hid⟩ := List.mem_iff_getElem?.1 hab
  have hl : id < g.length := by rw [hm.len]; exact (List.getElem?_eq_some_iff.1 hid).1
  have hk := hm.blk id g[id] ab (List.getElem?_eq_getElem hl) hid
  cases ab with
  | box cs ro =>
    obtain ⟨k1, k2, k3, k4, k5, β, arr, t, fz, k6, k7, k8, k9, k10⟩ := hk
    intro x hx
    obtain ⟨j, hj⟩ := List.mem_iff_getElem?.1 hx
    have := rep_under (k10 j x hj).1
    rwa [hm.len] at this
  | buf k els ro =>
    obtain ⟨k1, k2, k3, k4, k5, k6, k7⟩ := hk
    intro cs hcs x hx
    obtain ⟨i, hi⟩ := List.mem_iff_getElem?.1 hcs
    obtain ⟨j, hj⟩ := List.mem_iff_getElem?.1 hx
    cases hb : g[id].blk with
    | none =>
      rcases (k6 hb).1 with this | this
      · subst this
        simp at hi
      · have h1 := k5 i cs hi
        have h2 := (List.getElem?_eq_some_iff.1 hj).1
        omega
    | some β =>
      obtain ⟨arr, t, fz, g1, g2, g3, g4, g5⟩ := k7 β hb
      have := rep_under (g5 i cs j x hi hj).1
      rwa [hm.len] at this

/-- New memory that nobody changes: its contents, and no block of the store. -/
def fzNew (σ : Store) (r : AV × Store) : Option (AV × Store) :=
  match r with
  | (.bs full id tot off len, σ') => if id = σ.length then (fzCell σ' (.bs full id tot off len)).map fun y => (y, σ) else none
  | _ => none

theorem fzNew_sound {w w' : World} {g g1 : Gh} {σ : Store} {v : Value} {x y : AV} {σ' σ2 : Store} (hm : Mem E w g σ) (hp : ∃ bs, σ' = σ ++ bs) (h : fzNew σ (x, σ') = some (y, σ2))
    (m1 : Mem E w' g1 σ') (h3 : GLe g g1) (h4 : Evo E 0 w g w' g1) (h5 : Rep w' (prot E g1) g1 v x) :
    σ2 = σ ∧ Mem E w' (g1.take σ.length) σ ∧ GLe g (g1.take σ.length) ∧ Evo E 0 w g w' (g1.take σ.length) ∧ Rep w' (prot E (g1.take σ.length)) (g1.take σ.length) v y := by
  obtain ⟨bs, rfl⟩ := hp
  have ht : (σ ++ bs).take σ.length = σ := by simp
  unfold fzNew at h
  split at h
  case h_2 => cases h
  rename_i full id tot off len σ3 he
  cases he
  split at h
  case isFalse => cases h
  rename_i hid
  rw [Option.map_eq_some_iff] at h
  obtain ⟨y', hy, h⟩ := h
  cases h
  have hmt := mem_take m1 σ.length (by rw [ht]; exact mem_below hm)
  rw [ht] at hmt
  refine ⟨rfl, hmt, ?_, ?_, ?_⟩
  · intro id b hb
    obtain ⟨b', hb', hs⟩ := h3 id b hb
    exact ⟨b', take_get hb' (by rw [← hm.len]; exact (List.getElem?_eq_some_iff.1 hb).1), hs⟩
  · exact ⟨h4.os, h4.tape, h4.output, h4.size, fun a u hc hpr => ⟨(h4.cells a u hc hpr).1, prot_take (h4.cells a u hc hpr).2⟩,
      fun β hβ hn => ⟨(h4.blocks β hβ hn).1, fun h => (h4.blocks β hβ hn).2 (mine_take h)⟩, fun id hid => absurd hid (Nat.not_lt_zero _)⟩
  · refine (fzCell_rep (pr := prot E (g1.take σ.length)) m1 h5 hy (fun a => prot_take) ?_).mono (fun a u hc hpr => ⟨hc, hpr⟩) (GLe.nil _)
    rintro id' b ⟨_, _, _, _, e⟩ hb β off' hβ _
    cases e
    refine ⟨fun hF => (m1.foreign _ hF).2 ⟨id, b, hb, hβ⟩, fun id2 c hc he => ?_⟩
    have := m1.inj id2 id c b β (get_take hc).1 hb he hβ
    have := (get_take hc).2
    omega


theorem obind_some {α : Type} (x : Option α) : x.bind some = x := by cases x <;> rfl

def usesT (t : Tmp) : Operand → Bool
  | .tmp s => s == t
  | _ => false

/-- Is the slot handed to a call, or put into a new slice? -/
def usedB (t : Tmp) (o : Oper) : Bool := match o.op with
  | .call c => match c.callee with
    | .value _ => c.args.toList.any (usesT t)
    | _ => false
  | .buildSlice _ _ parts => parts.toList.any fun p => usesT t p.2
  | _ => false

def isSliceT (E : Env) (t : TypeId) : Bool := match E.tab t with
  | some d => match d.desc with
    | .slice _ => true
    | _ => false
  | none => false

/-- A new slice that is only handed on: it changes no more, and takes no place in the store. -/
def frzB (E : Env) (ops : Array Oper) (o : Oper) : Bool := match o.dst with
  | some t => match o.op with
    | .buildSlice .. => ops.toList.any (usedB t)
    | .convert _ d _ => isSliceT E d && ops.toList.any (usedB t)
    | _ => false
  | none => false

def frzV (b : Bool) (σ : Store) (r : AV × Store) : Option (AV × Store) := if b = true then fzNew σ r else some r

def valA (E : Env) (orc : Option Tmp → Orc) (ops : Array Oper) (o : Oper) (fr : List AV) (σ : Store) : Option (AV × Store) :=
  match wantA ops fr o with
  | some true => (opVal E (orc o.dst) o.op fr σ).bind (frzV (frzB E ops o) σ)
  | some false => some (.tup [], σ)
  | none => none

def stepV (E : Env) (orc : Option Tmp → Orc) (ops : Array Oper) (o : Oper) (st : St) : Option St :=
  (valA E orc ops o st.fr st.σ).map fun r => ⟨setSlot st.fr o.dst r.1, r.2⟩

/-- Operations, one after the other. -/
def stepsV (E : Env) (orc : Option Tmp → Orc) (ops : Array Oper) : List Nat → St → Option St
  | [], st => some st
  | i :: l, st => match ops[i]? with
    | some o => (stepV E orc ops o st).bind (stepsV E orc ops l)
    | none => none

/-! ### What an operation looks at -/
theorem ev_congr {fr fr' : List AV} {x : Operand} (h : ∀ t, x = .tmp t → fr[t]? = fr'[t]?) : ev fr x = ev fr' x := by
  cases x with
  | tmp t => simp only [ev, List.getD, h t rfl]
  | _ => rfl

theorem evOp_congr {fr fr' : List AV} {σ : Store} {op : Op} (h : ∀ x ∈ op.operands, ev fr x = ev fr' x) : evOp E fr σ op = evOp E fr' σ op := by
  have m1 : ∀ (l : List Operand), (∀ x ∈ l, x ∈ op.operands) → l.map (ev fr) = l.map (ev fr') := fun l hl => List.map_congr_left fun x hx => h x (hl x hx)
  cases op <;> simp only [evOp]
  case move x => rw [h x (by simp [Op.operands])]
  case assign x => rw [h x (by simp [Op.operands])]
  case pick c a b => rw [h c (by simp [Op.operands]), h a (by simp [Op.operands]), h b (by simp [Op.operands])]
  case box t x => rw [h x (by simp [Op.operands])]
  case build t parts =>
    have : (parts.toList.map fun (i, x) => (i, ev fr x)) = (parts.toList.map fun (i, x) => (i, ev fr' x)) := List.map_congr_left fun p hp => by
      have := h p.2 (by simp [Op.operands]; exact ⟨p.1, by simpa using hp⟩)
      simp [this]
    rw [this]
  case buildSlice t n parts =>
    have : (parts.toList.map fun (i, x) => (i, ev fr x)) = (parts.toList.map fun (i, x) => (i, ev fr' x)) := List.map_congr_left fun p hp => by
      have := h p.2 (by simp [Op.operands]; exact ⟨p.1, by simpa using hp⟩)
      simp [this]
    rw [this]
  case load t x => rw [h x (by simp [Op.operands])]
  case store t x y => rw [h x (by simp [Op.operands]), h y (by simp [Op.operands])]
  case nilCheck x => rw [h x (by simp [Op.operands])]
  case binOp op t x y u => rw [h x (by simp [Op.operands]), h y (by simp [Op.operands])]
  case unOp op t x => rw [h x (by simp [Op.operands])]
  case convert s d x => rw [h x (by simp [Op.operands])]
  case makeInterface t x => rw [h x (by simp [Op.operands])]
  case makeFunc fn first caps =>
    have : caps.toList.map (ev fr) = caps.toList.map (ev fr') := m1 _ (fun x hx => by simp [Op.operands]; exact .inr (by simpa using hx))
    have t2 : first.toList.map (ev fr) = first.toList.map (ev fr') := m1 _ (fun x hx => by simp [Op.operands]; exact .inl (by simpa using hx))
    cases fn <;> simp only [this, t2]
  case makeSlice t x y => rw [h x (by simp [Op.operands]), h y (by simp [Op.operands])]
  case slice t x lo hi mx =>
    have hx := h x (by simp [Op.operands])
    have hl : lo.map (ev fr) = lo.map (ev fr') := by cases lo with | none => rfl | some l => simp [h l (by simp [Op.operands])]
    have hh : hi.map (ev fr) = hi.map (ev fr') := by cases hi with | none => rfl | some l => simp [h l (by simp [Op.operands])]
    have hm : mx.map (ev fr) = mx.map (ev fr') := by cases mx with | none => rfl | some l => simp [h l (by simp [Op.operands])]
    rw [hx, hl, hh, hm]
  case fieldAddr s x f => rw [h x (by simp [Op.operands])]
  case field s x f => rw [h x (by simp [Op.operands])]
  case indexAddr t x y => rw [h x (by simp [Op.operands]), h y (by simp [Op.operands])]
  case index t x y => rw [h x (by simp [Op.operands]), h y (by simp [Op.operands])]
  case lookup t x y ok => rw [h x (by simp [Op.operands]), h y (by simp [Op.operands])]
  case extract x i => rw [h x (by simp [Op.operands])]
  case call c =>
    cases hc : c.callee <;> simp only []
    have : c.args.toList.map (ev fr) = c.args.toList.map (ev fr') := m1 _ (fun x hx => by simp [Op.operands, Call.operands]; exact .inr (by simpa using hx))
    rw [this]

/-! ### What an operation does to the state -/

def isArrT (E : Env) (t : TypeId) : Bool := match E.tab t with
  | some d => match d.desc with
    | .array .. => true
    | _ => false
  | none => false

/-- May it turn the state? -/
def effA (E : Env) : Op → Bool
  | .alloc _ | .box .. | .buildSlice .. | .store .. | .makeSlice .. => true
  | .convert _ d _ => isSliceT E d
  | .slice t .. => isArrT E t
  | .call c => match c.callee with
    | .builtin .len | .builtin .min | .builtin .max => false
    | .builtin _ => true
    | _ => isOwn E c
  | _ => false

/-- May it look at the state? -/
def touchA (E : Env) : Op → Bool
  | .load .. | .fieldAddr .. | .indexAddr .. | .slice .. | .convert .. => true
  | .call c => match c.callee with
    | .builtin .min | .builtin .max => false
    | _ => true
  | op => effA E op

theorem evOp_noeff {fr : List AV} {σ σ' : Store} {op : Op} {x : AV} (he : effA E op = false) (h : evOp E fr σ op = some (x, σ')) : σ' = σ := by
  cases op <;> simp only [evOp] at h <;> simp only [effA] at he <;> try (cases h; done)
  case move y => cases h; rfl
  case assign y => cases h; rfl
  case pick c a b => split at h <;> first | (cases h; rfl) | cases h
  case alloc => cases he
  case box => cases he
  case build t parts => rw [Option.map_eq_some_iff] at h; obtain ⟨_, _, h⟩ := h; cases h; rfl
  case buildSlice => cases he
  case load t y =>
    split at h
    · rw [Option.map_eq_some_iff] at h; obtain ⟨_, _, h⟩ := h; cases h; rfl
    · cases h
  case store => cases he
  case nilCheck y => split at h <;> first | (cases h; rfl) | cases h
  case binOp op t y z u => rw [Option.map_eq_some_iff] at h; obtain ⟨_, _, h⟩ := h; cases h; rfl
  case unOp op t y => rw [Option.map_eq_some_iff] at h; obtain ⟨_, _, h⟩ := h; cases h; rfl
  case lookup t y z ok => rw [Option.map_eq_some_iff] at h; obtain ⟨_, _, h⟩ := h; cases h; rfl
  case convert s d y =>
    unfold convertA at h
    unfold isSliceT at he
    split at h
    case h_2 => cases h
    rename_i ds dd hs hd
    rw [hd] at he
    simp only at he
    split at h
    · cases h; rfl
    · cases h; rfl
    · rename_i hdd _; rw [hdd] at he; cases he
    · split at h
      · cases h
      split at h
      case h_2 => cases h
      split at h
      case h_2 => cases h
      split at h
      · cases h; rfl
      · cases h
    · rename_i hdd _; rw [hdd] at he; cases he
    · cases h
  case makeFunc fn first caps =>
    split at h
    · split at h
      · split at h
        · cases h
        · cases h; rfl
      · split at h
        · cases h; rfl
        · cases h
    · cases h
  case makeInterface t y =>
    split at h
    · split at h
      · cases h
      · cases h; rfl
    · cases h
  case makeSlice => cases he
  case slice t y lo hi mx =>
    unfold sliceA at h
    unfold isArrT at he
    cases ht : E.tab t with
    | none => simp [ht] at h
    | some d =>
      simp only [ht] at h he
      split at h
      · split at h
        · split at h
          · cases h
          · cases h; rfl
        · cases h
      · split at h
        · split at h
          · cases h; rfl
          · cases h
        · cases h
      · split at h
        · split at h
          · split at h
            · cases h; rfl
            · cases h
          · cases h
        · cases h
      · rename_i hd _; rw [hd] at he; cases he
      · cases h
  case fieldAddr s y f => rw [Option.map_eq_some_iff] at h; obtain ⟨_, _, h⟩ := h; cases h; rfl
  case field s y f => rw [Option.map_eq_some_iff] at h; obtain ⟨_, _, h⟩ := h; cases h; rfl
  case indexAddr t y i => rw [Option.map_eq_some_iff] at h; obtain ⟨_, _, h⟩ := h; cases h; rfl
  case index t y i => rw [Option.map_eq_some_iff] at h; obtain ⟨_, _, h⟩ := h; cases h; rfl
  case extract y i =>
    split at h
    · split at h
      · cases h; rfl
      · cases h
    · cases h
  case call c =>
    cases hc : c.callee <;> simp only [hc] at h he <;> try (cases h; done)
    rename_i b
    unfold builtinA at h
    split at h
    · rw [Option.map_eq_some_iff] at h; obtain ⟨_, _, h⟩ := h; cases h; rfl
    · cases he
    · cases he
    · rw [Option.map_eq_some_iff] at h; obtain ⟨_, _, h⟩ := h; cases h; rfl
    · rw [Option.map_eq_some_iff] at h; obtain ⟨_, _, h⟩ := h; cases h; rfl
    · cases h

theorem evOp_notouch {fr : List AV} {σ σ2 : Store} {op : Op} (ht : touchA E op = false) : evOp E fr σ2 op = (evOp E fr σ op).map (fun r => (r.1, σ2)) := by
  cases op <;> simp only [touchA, effA] at ht <;> try (cases ht; done)
  all_goals simp only [evOp]
  all_goals try rfl
  case pick c a b => split <;> rfl
  case build t parts => simp only [Option.map_map]; rfl
  case nilCheck y => split <;> rfl
  case binOp op t y z u => simp only [Option.map_map]; rfl
  case unOp op t y => simp only [Option.map_map]; rfl
  case lookup t y z ok => simp only [Option.map_map]; rfl
  case makeFunc fn first caps =>
    split
    · split
      · split <;> rfl
      · split <;> rfl
    · rfl
  case makeInterface t y =>
    split
    · split <;> rfl
    · rfl
  case field s y f => simp only [Option.map_map]; rfl
  case index t y i => simp only [Option.map_map]; rfl
  case extract y i =>
    split
    · split <;> rfl
    · rfl
  case call c =>
    cases hc : c.callee <;> simp only [hc] at ht ⊢ <;> try rfl
    rename_i b
    cases b <;> simp only at ht <;> try (cases ht; done)
    all_goals
      unfold builtinA
      split <;> first | (exfalso; simp_all; done) | rfl | (simp only [Option.map_map]; rfl)

/-! ### Steps that commute -/
theorem setSlot_comm (fr : List AV) {x y : Option Tmp} (v u : AV) (h : ∀ d, x = some d → y ≠ some d) : setSlot (setSlot fr x v) y u = setSlot (setSlot fr y u) x v := by
  cases x with
  | none => rfl
  | some d =>
    cases y with
    | none => rfl
    | some e => exact List.set_comm _ _ (fun he => h d rfl (by rw [he]))

theorem ev_setSlot {fr : List AV} {d : Option Tmp} {v : AV} {x : Operand} (h : ∀ e, d = some e → x ≠ .tmp e) : ev (setSlot fr d v) x = ev fr x := by
  refine ev_congr fun t hx => ?_
  cases d with
  | none => rfl
  | some e =>
    have : e ≠ t := fun he => h e rfl (by rw [hx, he])
    simp [setSlot, List.getElem?_set_ne this]

theorem callA_congr {orc : Orc} {fr fr' : List AV} {σ : Store} {c : Call} (h : ∀ x ∈ (Op.call c).operands, ev fr x = ev fr' x) : callA orc fr σ c = callA orc fr' σ c := by
  have ha : c.args.toList.map (ev fr) = c.args.toList.map (ev fr') := List.map_congr_left fun x hx => h x (by simp [Op.operands, Call.operands]; exact .inr (by simpa using hx))
  unfold callA
  cases hc : c.callee <;> simp only []
  rename_i f
  rw [h f (by simp [Op.operands, Call.operands, hc]), ha]

theorem ownA_congr {orc : Orc} {fr fr' : List AV} {σ : Store} {c : Call} (h : ∀ x ∈ (Op.call c).operands, ev fr x = ev fr' x) : ownA orc fr σ c = ownA orc fr' σ c := by
  have ha : c.args.toList.map (ev fr) = c.args.toList.map (ev fr') := List.map_congr_left fun x hx => h x (by simp [Op.operands, Call.operands]; exact .inr (by simpa using hx))
  unfold ownA
  cases hc : c.callee <;> simp only []
  rename_i f
  rw [h f (by simp [Op.operands, Call.operands, hc]), ha]

theorem opVal_congr {orc : Orc} {fr fr' : List AV} {σ : Store} {op : Op} (h : ∀ x ∈ op.operands, ev fr x = ev fr' x) : opVal E orc op fr σ = opVal E orc op fr' σ := by
  cases op with
  | call c =>
    simp only [opVal]
    rw [callA_congr h, ownA_congr h]
    cases hc : c.callee <;> simp only []
    exact evOp_congr h
  | _ => exact evOp_congr (E := E) (σ := σ) h

theorem opVal_noeff {orc : Orc} {fr : List AV} {σ σ' : Store} {op : Op} {x : AV} (he : effA E op = false) (h : opVal E orc op fr σ = some (x, σ')) : σ' = σ := by
  cases op with
  | call c =>
    simp only [opVal] at h
    cases hc : c.callee <;> simp only [hc] at h
    case builtin b => exact evOp_noeff he h
    all_goals
      simp only [effA, hc] at he
      simp only [he, Bool.false_eq_true, if_false] at h
      rw [Option.map_eq_some_iff] at h
      obtain ⟨_, _, h⟩ := h; cases h; rfl
  | _ => exact evOp_noeff (fr := fr) he h

theorem opVal_notouch {orc : Orc} {fr : List AV} {σ σ2 : Store} {op : Op} (ht : touchA E op = false) : opVal E orc op fr σ2 = (opVal E orc op fr σ).map (fun r => (r.1, σ2)) := by
  cases op with
  | call c =>
    simp only [opVal]
    cases hc : c.callee <;> simp only []
    case builtin b => exact evOp_notouch ht
    all_goals (simp only [touchA, hc] at ht; cases ht)
  | _ => exact evOp_notouch (fr := fr) (σ := σ) ht

theorem mem_looksAt {ops : Array Oper} {o : Oper} {t : Tmp} (h : Operand.tmp t ∈ o.op.operands) : t ∈ o.looksAt ops := by
  unfold Oper.looksAt
  rw [List.mem_append]; left
  rw [List.mem_filterMap]
  exact ⟨.tmp t, by simpa using h, rfl⟩

theorem wantA_setSlot {ops : Array Oper} {o : Oper} {fr : List AV} {d : Option Tmp} {v : AV} (h : ∀ e, d = some e → e ∉ o.looksAt ops) : wantA ops (setSlot fr d v) o = wantA ops fr o := by
  unfold wantA
  cases hg : o.guard with
  | none => rfl
  | some g =>
    obtain ⟨j, want⟩ := g
    simp only
    congr 1
    unfold yieldA
    cases hj : (ops[j]?).bind (·.dst) with
    | none => simp [hj]
    | some t =>
      cases d with
      | none => rfl
      | some e =>
        have : e ≠ t := fun he => h e rfl (by simp [Oper.looksAt, hg, hj, he])
        simp [hj, setSlot, List.getElem?_set_ne this]

theorem valA_setSlot {orc : Option Tmp → Orc} {ops : Array Oper} {o : Oper} {fr : List AV} {σ : Store} {d : Option Tmp} {v : AV} (h : ∀ e, d = some e → e ∉ o.looksAt ops) : valA E orc ops o (setSlot fr d v) σ = valA E orc ops o fr σ := by
  unfold valA
  rw [wantA_setSlot h, opVal_congr (fun x hx => ev_setSlot fun e he hxe => h e he (mem_looksAt (hxe ▸ hx)))]

/-- May it turn the state, in this region? -/
def effB (E : Env) (ops : Array Oper) (o : Oper) : Bool := effA E o.op && !frzB E ops o

theorem effB_false {ops : Array Oper} {o : Oper} (h : effB E ops o = false) : frzB E ops o = true ∨ (frzB E ops o = false ∧ effA E o.op = false) := by
  unfold effB at h
  cases hf : frzB E ops o
  · rw [hf] at h; right; simpa using h
  · exact .inl rfl

theorem frzB_op {ops : Array Oper} {o : Oper} (h : frzB E ops o = true) : (∃ t n l, o.op = .buildSlice t n l) ∨ (∃ s d x, o.op = .convert s d x ∧ isSliceT E d = true) := by
  unfold frzB at h
  split at h
  case h_2 => cases h
  split at h
  · rename_i hop; exact .inl ⟨_, _, _, hop⟩
  · rename_i hop; exact .inr ⟨_, _, _, hop, (Bool.and_eq_true_iff.1 h).1⟩
  · cases h

theorem fzNew_store {σ : Store} {r : AV × Store} {y : AV} {σ' : Store} (h : fzNew σ r = some (y, σ')) : σ' = σ := by
  unfold fzNew at h
  split at h
  case h_2 => cases h
  split at h
  case isFalse => cases h
  rw [Option.map_eq_some_iff] at h
  obtain ⟨_, _, h⟩ := h
  cases h; rfl

theorem valA_noeff {orc : Option Tmp → Orc} {ops : Array Oper} {o : Oper} {fr : List AV} {σ σ' : Store} {x : AV} (he : effB E ops o = false) (h : valA E orc ops o fr σ = some (x, σ')) : σ' = σ := by
  unfold valA at h
  split at h
  · rw [Option.bind_eq_some_iff] at h
    obtain ⟨⟨v, σ1⟩, h1, h2⟩ := h
    unfold frzV at h2
    rcases effB_false he with hf | ⟨hf, he⟩
    · rw [hf, if_pos rfl] at h2
      exact fzNew_store h2
    · rw [hf] at h2
      simp only [Bool.false_eq_true, if_false] at h2
      cases h2
      exact opVal_noeff he h1
  · cases h; rfl
  · cases h

theorem frzB_touch {ops : Array Oper} {o : Oper} (ht : touchA E o.op = false) : frzB E ops o = false := by
  cases hf : frzB E ops o
  · rfl
  · rcases frzB_op hf with ⟨t, n, l, h⟩ | ⟨s, d, x, h, _⟩
    · rw [h] at ht; cases ht
    · rw [h] at ht; cases ht

theorem valA_notouch {orc : Option Tmp → Orc} {ops : Array Oper} {o : Oper} {fr : List AV} {σ σ2 : Store} (ht : touchA E o.op = false) : valA E orc ops o fr σ2 = (valA E orc ops o fr σ).map (fun r => (r.1, σ2)) := by
  unfold valA
  rw [frzB_touch ht]
  have e : ∀ σ, frzV false σ = some := fun σ => by funext r; simp [frzV]
  rw [e, e]
  split
  · rw [opVal_notouch (σ := σ) ht]
    cases opVal E (orc o.dst) o.op fr σ <;> rfl
  · rfl
  · rfl

/-! ### A fresh block beside what only looks -/
theorem more_at {σ : Store} {id : Nat} {b : ABlk} (bs : Store) (h : σ[id]? = some b) : (σ ++ bs)[id]? = some b := by
  rw [List.getElem?_append_left (List.getElem?_eq_some_iff.1 h).1]; exact h

theorem loadA_more {σ : Store} {d : TD} {a x : AV} (bs : Store) (h : loadA E σ d a = some x) : loadA E (σ ++ bs) d a = some x := by
  cases a <;> simp only [loadA] at h ⊢ <;> try exact h
  case ref id off =>
    cases e : σ[id]? with
    | none => simp [e] at h
    | some b => rw [e] at h; rw [more_at bs e]; exact h
  case eref id tot i j =>
    cases e : σ[id]? with
    | none => simp [e] at h
    | some b => rw [e] at h; rw [more_at bs e]; exact h

theorem curE_more {σ : Store} {id tot : Nat} (bs : Store) (h : curE σ id tot = true) : curE (σ ++ bs) id tot = true := by
  unfold curE at h ⊢
  cases e : σ[id]? with
  | none => simp [e] at h
  | some b => rw [e] at h; rw [more_at bs e]; exact h

theorem view_more {σ : Store} {x : AV} {l : List (List AV)} (bs : Store) (h : view σ x = some l) : view (σ ++ bs) x = some l := by
  cases x <;> simp only [view] at h ⊢ <;> try exact h
  case bs full id tot off len =>
    cases e : σ[id]? with
    | none => simp [e] at h
    | some b => rw [e] at h; rw [more_at bs e]; exact h

theorem lenA_more {σ : Store} {t : TypeId} {x : AV} {n : Nat} (bs : Store) (h : lenA E σ t x = some n) : lenA E (σ ++ bs) t x = some n := by
  unfold lenA at h ⊢
  cases ht : E.tab t with
  | none => simp [ht] at h
  | some d =>
    simp only [ht] at h ⊢
    split at h <;> try (simp_all; done)
    rename_i id tot off len hd
    cases e : σ[id]? with
    | none => simp [e] at h
    | some b => rw [e] at h; simp only [hd, more_at bs e]; exact h

theorem fieldAddrA_more {σ : Store} {s : TypeId} {x y : AV} {f : Nat} (bs : Store) (h : fieldAddrA E σ s x f = some y) : fieldAddrA E (σ ++ bs) s x f = some y := by
  unfold fieldAddrA at h ⊢
  repeat' split at h
  all_goals try (cases h; done)
  all_goals try (simp_all; done)
  all_goals (rename_i hc; simp_all [curE_more bs hc])

theorem indexAddrA_more {σ : Store} {t : TypeId} {x i y : AV} (bs : Store) (h : indexAddrA E σ t x i = some y) : indexAddrA E (σ ++ bs) t x i = some y := by
  unfold indexAddrA at h ⊢
  cases ht : E.tab t with
  | none => simp [ht] at h
  | some d =>
    simp only [ht] at h ⊢
    cases hd : d.desc <;> simp only [hd] at h ⊢ <;> try (cases h; done)
    case array n e =>
      cases he : E.tab e with
      | none => simp [he] at h
      | some de =>
        cases hi : idx i n with
        | none => simp [he, hi] at h
        | some k =>
          simp only [he, hi] at h ⊢
          cases x <;> simp only at h ⊢ <;> try exact h
          case eref id tot i0 j =>
            split at h
            case isFalse => cases h
            rename_i hc
            rw [if_pos (curE_more bs hc)]; exact h
    case slice e =>
      cases he : E.tab e with
      | none => simp [he] at h
      | some de =>
        simp only [he] at h ⊢
        cases x <;> simp only at h ⊢ <;> try exact h
        case bs full id tot off len =>
          cases e2 : σ[id]? with
          | none => simp [e2] at h
          | some b => rw [e2] at h; rw [more_at bs e2]; exact h

theorem sliceA_more {σ σ' : Store} {t : TypeId} {x y : AV} {lo hi mx : Option AV} (bs : Store) (he : isArrT E t = false) (h : sliceA E σ t x lo hi mx = some (y, σ')) : sliceA E (σ ++ bs) t x lo hi mx = some (y, σ ++ bs) := by
  unfold sliceA at h ⊢
  unfold isArrT at he
  cases ht : E.tab t with
  | none => simp [ht] at h
  | some d =>
    simp only [ht] at h he ⊢
    cases hd : d.desc <;> simp only [hd] at h he ⊢ <;> try (first | (cases h; done) | (cases he; done))
    case string =>
      cases x <;> simp only at h ⊢ <;> try (cases h; done)
      repeat' split at h
      all_goals try (cases h; done)
      cases h; simp_all
    case slice e =>
      cases x <;> simp only at h ⊢ <;> try (cases h; done)
      case sl full els =>
        repeat' split at h
        all_goals try (cases h; done)
        cases h; simp_all
      case bs full id tot off len =>
        cases e2 : σ[id]? with
        | none => simp [e2] at h
        | some b =>
          rw [e2] at h; rw [more_at bs e2]
          repeat' split at h
          all_goals try (cases h; done)
          cases h; simp_all

theorem convertA_more {σ σ' : Store} {s d : TypeId} {x y : AV} (bs : Store) (he : isSliceT E d = false) (h : convertA E σ s d x = some (y, σ')) : convertA E (σ ++ bs) s d x = some (y, σ ++ bs) := by
  unfold convertA at h ⊢
  unfold isSliceT at he
  split at h
  case h_2 => cases h
  rename_i ds dd hs hd
  rw [hd] at he
  simp only at he
  split at h
  · cases h; rfl
  · cases h; rfl
  · simp_all
  · split at h
    · cases h
    rename_i hb
    split at h
    case h_2 => cases h
    rename_i hde
    split at h
    case h_2 => cases h
    rename_i hu hv
    split at h
    · rename_i hl; cases h; simp [hb, hu, view_more bs hv, hl]
    · cases h
  · simp_all
  · cases h

theorem fzCell_more {σ : Store} {x y : AV} (bs : Store) (h : fzCell σ x = some y) : fzCell (σ ++ bs) x = some y := by
  cases x <;> simp only [fzCell] at h ⊢ <;> try exact h
  case bs full id tot off len =>
    cases e : σ[id]? with
    | none => simp [e] at h
    | some b => rw [e] at h; rw [more_at bs e]; exact h

theorem mapM_more {α β : Type} {f g : α → Option β} (hfg : ∀ x y, f x = some y → g x = some y) : ∀ {l : List α} {ys : List β}, l.mapM f = some ys → l.mapM g = some ys
  | [], _, h => by simpa using h
  | x :: l, ys, h => by
    rw [List.mapM_cons] at h ⊢
    simp only [Option.bind_eq_bind, Option.bind_eq_some_iff] at h ⊢
    obtain ⟨y, hy, zs, hz, h⟩ := h
    exact ⟨y, hfg _ _ hy, zs, mapM_more hfg hz, h⟩

theorem fz_more {σ : Store} {x y : AV} (bs : Store) (h : fz σ x = some y) : fz (σ ++ bs) x = some y := by
  cases x <;> simp only [fz] at h ⊢ <;> try exact fzCell_more bs h
  case agg cs =>
    rw [Option.map_eq_some_iff] at h ⊢
    obtain ⟨ys, h, e⟩ := h
    exact ⟨ys, mapM_more (fun _ _ => fzCell_more bs) h, e⟩

theorem evOp_more {fr : List AV} {σ σ' : Store} {op : Op} {x : AV} (bs : Store) (he : effA E op = false) (h : evOp E fr σ op = some (x, σ')) : evOp E fr (σ ++ bs) op = some (x, σ ++ bs) := by
  cases ht : touchA E op with
  | false =>
    rw [evOp_notouch (σ := σ) ht, h]; rfl
  | true =>
    cases op <;> simp only [touchA, effA] at ht he <;> try (cases ht; done)
    all_goals try (cases he; done)
    case load t y =>
      simp only [evOp] at h ⊢
      split at h
      case h_2 => cases h
      rename_i hd
      rw [Option.map_eq_some_iff] at h
      obtain ⟨v, hv, h⟩ := h
      cases h
      simp [hd, loadA_more bs hv]
    case convert s d y => exact convertA_more bs he h
    case slice t y lo hi mx => exact sliceA_more bs he h
    case fieldAddr s y f =>
      simp only [evOp] at h ⊢
      rw [Option.map_eq_some_iff] at h
      obtain ⟨v, hv, h⟩ := h
      cases h
      simp [fieldAddrA_more bs hv]
    case indexAddr t y i =>
      simp only [evOp] at h ⊢
      rw [Option.map_eq_some_iff] at h
      obtain ⟨v, hv, h⟩ := h
      cases h
      simp [indexAddrA_more bs hv]
    case call c =>
      simp only [evOp] at h ⊢
      cases hc : c.callee <;> simp only [hc] at h ht he ⊢ <;> try (cases h; done)
      rename_i b
      unfold builtinA at h ⊢
      split at h
      · rw [Option.map_eq_some_iff] at h
        obtain ⟨v, hv, h⟩ := h
        cases h
        simp [lenA_more bs hv]
      · cases he
      · cases he
      · cases ht
      · cases ht
      · cases h

theorem callA_more {orc : Orc} {fr : List AV} {σ : Store} {c : Call} {r : AV} (bs : Store) (h : callA orc fr σ c = some r) : callA orc fr (σ ++ bs) c = some r := by
  unfold callA at h ⊢
  split at h
  case h_2 => cases h
  rename_i f hf
  split at h
  case h_2 => cases h
  rename_i fid hv
  split at h
  case h_2 => cases h
  rename_i args ha
  simp only [mapM_more (fun _ _ => fz_more bs) ha]
  exact h

theorem opVal_more {orc : Orc} {fr : List AV} {σ σ' : Store} {op : Op} {x : AV} (bs : Store) (he : effA E op = false) (h : opVal E orc op fr σ = some (x, σ')) : opVal E orc op fr (σ ++ bs) = some (x, σ ++ bs) := by
  cases op with
  | call c =>
    simp only [opVal] at h ⊢
    cases hc : c.callee <;> simp only [hc] at h ⊢
    case builtin b => exact evOp_more bs he h
    all_goals
      simp only [effA, hc] at he
      simp only [he, Bool.false_eq_true, if_false] at h ⊢
      rw [Option.map_eq_some_iff] at h
      obtain ⟨v, hv, h⟩ := h
      cases h
      simp [callA_more bs hv]
  | _ => exact evOp_more (fr := fr) bs he h

/-- New memory that is frozen at once, beside what else is there. -/
theorem frz_any {fr : List AV} {σ : Store} {op : Op} {y : AV} {σ' : Store} (ρ : Store) (hf : (∃ t n l, op = .buildSlice t n l) ∨ (∃ s d x, op = .convert s d x ∧ isSliceT E d = true))
    (h : (evOp E fr σ op).bind (fzNew σ) = some (y, σ')) : (evOp E fr ρ op).bind (fzNew ρ) = some (y, ρ) := by
  have last : ∀ (b : ABlk) (f : Bool) (t o l : Nat), fzNew σ (.bs f σ.length t o l, σ ++ [b]) = some (y, σ') → fzNew ρ (.bs f ρ.length t o l, ρ ++ [b]) = some (y, ρ) := by
    intro b f t o l h
    unfold fzNew at h ⊢
    simp only [if_true, Option.map_eq_some_iff, Prod.mk.injEq] at h ⊢
    obtain ⟨z, hz, rfl, rfl⟩ := h
    refine ⟨z, ?_, rfl, trivial⟩
    simp only [fzCell] at hz ⊢
    rw [List.getElem?_append_right (Nat.le_refl _), Nat.sub_self] at hz ⊢
    exact hz
  rcases hf with ⟨t, n, l, rfl⟩ | ⟨s, d, x, rfl, hd⟩
  · simp only [evOp] at h ⊢
    unfold buildSliceA at h ⊢
    cases ht : E.tab t with
    | none => simp [ht] at h
    | some dd =>
      simp only [ht] at h ⊢
      cases hdd : dd.desc <;> simp only [hdd] at h ⊢ <;> try (simp at h; done)
      rename_i e
      cases he : E.tab e with
      | none => simp [he] at h
      | some de =>
        simp only [he] at h ⊢
        split at h
        · simp at h
        rename_i hn
        rw [if_neg hn]
        split at h
        case h_2 => simp at h
        rename_i els hels
        exact last _ _ _ _ _ h
  · simp only [evOp] at h ⊢
    unfold convertA at h ⊢
    unfold isSliceT at hd
    cases ht : E.tab d with
    | none => simp [ht] at hd
    | some dd =>
      simp only [ht] at hd
      cases hdd : dd.desc <;> simp only [hdd] at hd <;> try (cases hd; done)
      rename_i e
      cases hs : E.tab s with
      | none => simp [hs] at h
      | some sd =>
        simp only [hs, ht, hdd] at h ⊢
        generalize ev fr x = xv at h ⊢
        split at h
        case h_3 =>
          rename_i e' l hx
          cases hx
          cases he : E.tab e with
          | none => simp [he] at h
          | some de =>
            simp only [he] at h ⊢
            cases hde : de.desc <;> simp only [hde] at h ⊢ <;> try (simp at h; done)
            rename_i k
            cases k <;> simp only at h ⊢ <;> try (simp at h; done)
            exact last _ _ _ _ _ h
        case h_5 =>
          exfalso
          split at h
          case isFalse => simp at h
          split at h
          case h_2 => simp at h
          split at h
          case h_2 => simp at h
          split at h
          case isFalse => simp at h
          rename_i hid _
          simp only [Option.bind_some, fzNew] at h
          split at h
          case isFalse => cases h
          rename_i e2
          have := (List.getElem?_eq_some_iff.1 hid).1
          omega
        all_goals (exfalso; simp_all; done)

theorem frz_more {fr : List AV} {σ : Store} {op : Op} {y : AV} {σ' : Store} (bs : Store) (hf : (∃ t n l, op = .buildSlice t n l) ∨ (∃ s d x, op = .convert s d x ∧ isSliceT E d = true))
    (h : (evOp E fr σ op).bind (fzNew σ) = some (y, σ')) : (evOp E fr (σ ++ bs) op).bind (fzNew (σ ++ bs)) = some (y, σ ++ bs) := frz_any _ hf h

theorem valA_more {orc : Option Tmp → Orc} {ops : Array Oper} {o : Oper} {fr : List AV} {σ σ' : Store} {x : AV} (bs : Store) (he : effB E ops o = false) (h : valA E orc ops o fr σ = some (x, σ')) : valA E orc ops o fr (σ ++ bs) = some (x, σ ++ bs) := by
  unfold valA at h ⊢
  split at h
  · rcases effB_false he with hf | ⟨hf, he⟩
    · rw [hf] at h ⊢
      have e : ∀ σ, frzV true σ = fzNew σ := fun σ => by funext r; simp [frzV]
      rw [e] at h ⊢
      have e2 : ∀ σ, opVal E (orc o.dst) o.op fr σ = evOp E fr σ o.op := by
        intro σ
        rcases frzB_op hf with ⟨t, n, l, h⟩ | ⟨s, d, x, h, _⟩ <;> rw [h] <;> rfl
      rw [e2] at h ⊢
      exact frz_more bs (frzB_op hf) h
    · rw [hf] at h ⊢
      have e : ∀ σ, frzV false σ = some := fun σ => by funext r; simp [frzV]
      rw [e] at h ⊢
      rw [obind_some] at h ⊢
      exact opVal_more bs he h
  · cases h; rfl
  · cases h

def isAllocB : Op → Bool
  | .alloc _ | .buildSlice .. => true
  | _ => false

/-- What an allocation gives, whatever is in the store. -/
theorem valA_alloc {orc : Option Tmp → Orc} {ops : Array Oper} {o : Oper} {fr : List AV} {σ σ' : Store} {x : AV} (ha : isAllocB o.op = true) (h : valA E orc ops o fr σ = some (x, σ')) : ∃ bs, σ' = σ ++ bs := by
  cases hf : frzB E ops o
  case true => exact ⟨[], by rw [valA_noeff (by unfold effB; rw [hf]; simp) h]; simp⟩
  unfold valA at h
  rw [hf] at h
  have e : ∀ σ, frzV false σ = some := fun σ => by funext r; simp [frzV]
  rw [e, obind_some] at h
  split at h
  · cases ho : o.op <;> simp only [ho, isAllocB] at ha h <;> try (cases ha; done)
    · simp only [opVal, evOp] at h
      split at h
      · split at h
        · cases h
        · cases h; exact ⟨_, rfl⟩
      · cases h
    · simp only [opVal, evOp] at h
      unfold buildSliceA at h
      split at h
      · cases h
      split at h
      · split at h
        · split at h
          · cases h
          · split at h
            · cases h; exact ⟨_, rfl⟩
            · cases h
        · cases h
      · cases h
  · cases h; exact ⟨[], by simp⟩
  · cases h

/-! ### What only looks does not see who may write -/
def unro : ABlk → ABlk
  | .box cs _ => .box cs false
  | .buf k els _ => .buf k els false

theorem unro_at {σ : Store} {id : Nat} : (σ.map unro)[id]? = (σ[id]?).map unro := by simp

theorem loadA_unro {σ : Store} {d : TD} {a : AV} : loadA E (σ.map unro) d a = loadA E σ d a := by
  cases a <;> simp only [loadA, unro_at]
  case ref id off => cases σ[id]? with
    | none => rfl
    | some b => cases b <;> rfl
  case eref id tot i j => cases σ[id]? with
    | none => rfl
    | some b => cases b <;> rfl

theorem curE_unro {σ : Store} {id tot : Nat} : curE (σ.map unro) id tot = curE σ id tot := by
  simp only [curE, unro_at]
  cases σ[id]? with
  | none => rfl
  | some b => cases b <;> rfl

theorem view_unro {σ : Store} {x : AV} : view (σ.map unro) x = view σ x := by
  cases x <;> simp only [view, unro_at]
  case bs full id tot off len => cases σ[id]? with
    | none => rfl
    | some b => cases b <;> rfl

theorem lenA_unro {σ : Store} {t : TypeId} {x : AV} : lenA E (σ.map unro) t x = lenA E σ t x := by
  unfold lenA
  cases E.tab t with
  | none => rfl
  | some d =>
    obtain ⟨desc, sz, bt, z⟩ := d
    cases x with
    | bs full id tot off len =>
      cases desc <;> try rfl
      simp only [unro_at]
      cases σ[id]? with
      | none => rfl
      | some b => cases b <;> rfl
    | _ => cases desc <;> rfl

theorem fieldAddrA_unro {σ : Store} {s : TypeId} {x : AV} {f : Nat} : fieldAddrA E (σ.map unro) s x f = fieldAddrA E σ s x f := by
  unfold fieldAddrA
  simp only [curE_unro]

theorem indexAddrA_unro {σ : Store} {t : TypeId} {x i : AV} : indexAddrA E (σ.map unro) t x i = indexAddrA E σ t x i := by
  unfold indexAddrA
  cases E.tab t with
  | none => rfl
  | some d =>
    obtain ⟨desc, sz, bt, z⟩ := d
    cases desc <;> dsimp only <;> try (first | rfl | (simp only [curE_unro]; done))
    rename_i e
    generalize E.tab e = te
    cases te with
    | none => cases x <;> rfl
    | some de =>
      cases x <;> try rfl
      rename_i full id tot off len
      dsimp only
      simp only [unro_at]
      cases σ[id]? with
      | none => rfl
      | some b => cases b <;> cases idx i len <;> rfl

theorem sliceA_unro {σ : Store} {t : TypeId} {x : AV} {lo hi mx : Option AV} (he : isArrT E t = false) : (sliceA E (σ.map unro) t x lo hi mx).map (·.1) = (sliceA E σ t x lo hi mx).map (·.1) := by
  unfold sliceA
  unfold isArrT at he
  cases ht : E.tab t with
  | none => rfl
  | some d =>
    rw [ht] at he
    obtain ⟨desc, sz, bt, z⟩ := d
    cases desc <;> dsimp only at he ⊢ <;> try (first | rfl | (cases he; done))
    · cases x <;> dsimp only <;> try rfl
      split <;> try rfl
      split <;> rfl
    · rename_i e
      cases x <;> dsimp only <;> try rfl
      · split <;> try rfl
        split <;> rfl
      · rename_i full id tot off len
        simp only [unro_at]
        cases σ[id]? with
        | none => rfl
        | some b =>
          cases b with
          | box => rfl
          | buf k els ro =>
            simp only [Option.map_some, unro]
            generalize E.tab e = te
            cases te with
            | none => rfl
            | some de =>
              dsimp only
              split <;> try rfl
              split <;> rfl

theorem convertA_unro {σ : Store} {s d : TypeId} {x : AV} (he : isSliceT E d = false) : (convertA E (σ.map unro) s d x).map (·.1) = (convertA E σ s d x).map (·.1) := by
  unfold convertA
  unfold isSliceT at he
  cases hs : E.tab s with
  | none => rfl
  | some sd =>
    cases hd : E.tab d with
    | none => rfl
    | some dd =>
      simp only [hd] at he ⊢
      cases hdd : dd.desc <;> simp only [hdd] at he ⊢ <;> try (first | rfl | (cases he; done))
      · cases x <;> first | rfl | (cases sd.desc <;> rfl)
      · cases x <;> cases sd.desc <;> try rfl
        all_goals
          simp only [view_unro]
          split <;> try rfl
          split <;> try rfl
          split <;> try rfl
          split <;> rfl

theorem fzCell_unro {σ : Store} {x : AV} : fzCell (σ.map unro) x = fzCell σ x := by
  cases x <;> simp only [fzCell, unro_at]
  case bs full id tot off len => cases σ[id]? with
    | none => rfl
    | some b => cases b <;> rfl

theorem fz_unro {σ : Store} {x : AV} : fz (σ.map unro) x = fz σ x := by
  cases x <;> simp only [fz, fzCell_unro]
  rename_i cs
  congr 1
  have : fzCell (σ.map unro) = fzCell σ := funext fun x => fzCell_unro
  rw [this]

theorem callA_unro {orc : Orc} {fr : List AV} {σ : Store} {c : Call} : callA orc fr (σ.map unro) c = callA orc fr σ c := by
  unfold callA
  have : fz (σ.map unro) = fz σ := funext fun x => fz_unro
  rw [this]

theorem evOp_unro {fr : List AV} {σ : Store} {op : Op} (he : effA E op = false) : (evOp E fr (σ.map unro) op).map (·.1) = (evOp E fr σ op).map (·.1) := by
  cases ht : touchA E op with
  | false =>
    rw [evOp_notouch (σ := σ) ht]
    cases evOp E fr σ op <;> rfl
  | true =>
    cases op <;> simp only [touchA, effA] at ht he <;> try (cases ht; done)
    all_goals try (cases he; done)
    case load t y =>
      simp only [evOp, loadA_unro]
      split <;> simp only [Option.map_map] <;> rfl
    case convert s d y => exact convertA_unro he
    case slice t y lo hi mx => exact sliceA_unro he
    case fieldAddr s y f =>
      simp only [evOp, fieldAddrA_unro, Option.map_map]; rfl
    case indexAddr t y i =>
      simp only [evOp, indexAddrA_unro, Option.map_map]; rfl
    case call c =>
      simp only [evOp]
      cases hc : c.callee <;> simp only [hc] at ht he ⊢ <;> try rfl
      rename_i b
      cases b <;> simp only at ht he <;> try (first | (cases ht; done) | (cases he; done))
      unfold builtinA
      split <;> first | rfl | (simp only [lenA_unro, Option.map_map]; rfl) | (exfalso; simp_all; done)

theorem opVal_unro {orc : Orc} {fr : List AV} {σ : Store} {op : Op} (he : effA E op = false) : (opVal E orc op fr (σ.map unro)).map (·.1) = (opVal E orc op fr σ).map (·.1) := by
  cases op with
  | call c =>
    simp only [opVal]
    cases hc : c.callee <;> simp only []
    case builtin b => exact evOp_unro he
    all_goals
      simp only [effA, hc] at he
      simp only [he, Bool.false_eq_true, if_false, callA_unro, Option.map_map]
      rfl
  | _ => exact evOp_unro (fr := fr) (σ := σ) he

/-- What only looks gives the same where the same stands, whoever may write it. -/
theorem valA_look {orc : Option Tmp → Orc} {ops : Array Oper} {o : Oper} {fr : List AV} {σ σ' ρ : Store} {x : AV} (hρ : σ.map unro = ρ.map unro) (he : effB E ops o = false) (h : valA E orc ops o fr σ = some (x, σ')) : valA E orc ops o fr ρ = some (x, ρ) := by
  unfold valA at h ⊢
  split at h
  · rcases effB_false he with hf | ⟨hf, he⟩
    · rw [hf] at h ⊢
      have e : ∀ σ, frzV true σ = fzNew σ := fun σ => by funext r; simp [frzV]
      rw [e] at h ⊢
      have e2 : ∀ σ, opVal E (orc o.dst) o.op fr σ = evOp E fr σ o.op := by
        intro σ
        rcases frzB_op hf with ⟨t, n, l, h⟩ | ⟨s, d, x, h, _⟩ <;> rw [h] <;> rfl
      rw [e2] at h ⊢
      exact frz_any ρ (frzB_op hf) h
    · rw [hf] at h ⊢
      have e : ∀ σ, frzV false σ = some := fun σ => by funext r; simp [frzV]
      rw [e] at h ⊢
      rw [obind_some] at h ⊢
      have h1 := opVal_unro (E := E) (orc := orc o.dst) (fr := fr) (σ := σ) he
      have h2 := opVal_unro (E := E) (orc := orc o.dst) (fr := fr) (σ := ρ) he
      rw [hρ, h2, h] at h1
      simp only [Option.map_some] at h1
      rw [Option.map_eq_some_iff] at h1
      obtain ⟨⟨y, ρ'⟩, h3, h4⟩ := h1
      simp only at h4
      subst h4
      rw [h3, opVal_noeff he h3]
  · cases h; rfl
  · cases h

def isMarkB (E : Env) : Op → Bool
  | .slice t .. => isArrT E t
  | _ => false

theorem valA_mark {orc : Option Tmp → Orc} {ops : Array Oper} {o : Oper} {fr : List AV} {σ σ' : Store} {x : AV} (ha : isMarkB E o.op = true) (h : valA E orc ops o fr σ = some (x, σ')) : σ.map unro = σ'.map unro := by
  have hf : frzB E ops o = false := by
    cases hf : frzB E ops o
    · rfl
    · rcases frzB_op hf with ⟨t, n, l, h⟩ | ⟨s, d, x, h, _⟩ <;> rw [h] at ha <;> cases ha
  unfold valA at h
  rw [hf] at h
  have e : ∀ σ, frzV false σ = some := fun σ => by funext r; simp [frzV]
  rw [e, obind_some] at h
  split at h
  · cases ho : o.op <;> simp only [ho, isMarkB] at ha h <;> try (cases ha; done)
    simp only [opVal, evOp, sliceA] at h
    repeat' split at h
    all_goals try (cases h; done)
    all_goals try (cases h; rfl)
    cases h
    rename_i hσ _ _ _ _ _
    rw [List.map_set]
    refine (List.ext_getElem? fun i => ?_)
    rw [List.getElem?_set]
    split
    · rename_i hi
      subst hi
      simp only [List.length_map]
      split
      · rw [unro_at, ‹σ[_]? = some (ABlk.box _ _)›]; rfl
      · rename_i hn
        exact absurd (by simpa using (List.getElem?_eq_some_iff.1 ‹σ[_]? = some (ABlk.box _ _)›).1) hn
    · rfl
  · cases h; rfl
  · cases h

def mkO (σ : Store) : Option Nat → Store
  | none => σ
  | some id => markOne σ id

theorem markOne_comm (σ : Store) (a b : Nat) : markOne (markOne σ a) b = markOne (markOne σ b) a := by
  refine List.ext_getElem? fun i => ?_
  simp only [markOne_get]
  by_cases h1 : i = a
  · by_cases h2 : i = b
    · subst h1; subst h2; rfl
    · simp only [if_pos h1, if_neg h2]
  · by_cases h2 : i = b
    · simp only [if_neg h1, if_pos h2]
    · simp only [if_neg h1, if_neg h2]
theorem mkO_comm (σ : Store) (a b : Option Nat) : mkO (mkO σ a) b = mkO (mkO σ b) a := by
  cases a <;> cases b <;> first | rfl | exact markOne_comm _ _ _

theorem valA_mark2 {orc : Option Tmp → Orc} {ops : Array Oper} {o : Oper} {fr : List AV} {σ σ' : Store} {x : AV} (ha : isMarkB E o.op = true) (h : valA E orc ops o fr σ = some (x, σ')) :
    ∃ m, σ' = mkO σ m ∧ ∀ ρ : Store, ρ.map unro = σ.map unro → valA E orc ops o fr ρ = some (x, mkO ρ m) := by
  have hf : frzB E ops o = false := by
    cases hf : frzB E ops o
    · rfl
    · rcases frzB_op hf with ⟨t, n, l, h⟩ | ⟨s, d, x, h, _⟩ <;> rw [h] at ha <;> cases ha
  have e : ∀ σ, frzV false σ = some := fun σ => by funext r; simp [frzV]
  unfold valA at h ⊢
  rw [hf] at h ⊢
  simp only [e, obind_some] at h ⊢
  split at h
  · cases ho : o.op <;> simp only [ho, isMarkB] at ha h <;> try (cases ha; done)
    rename_i t y lo hi mx
    simp only [opVal, evOp] at h ⊢
    unfold isArrT at ha
    cases ht : E.tab t with
    | none => simp [ht] at ha
    | some d =>
      obtain ⟨desc, sz, bt, z⟩ := d
      rw [ht] at ha
      cases desc <;> simp only at ha <;> try (cases ha; done)
      rename_i n e2
      unfold sliceA at h ⊢
      simp only [ht] at h ⊢
      generalize ev fr y = yv at h ⊢
      cases yv <;> simp only at h ⊢ <;> try (cases h; done)
      rename_i id off
      cases hσ : σ[id]? with
      | none => simp [hσ] at h
      | some b =>
        cases b with
        | buf => simp [hσ] at h
        | box cs ro =>
          cases hte : E.tab e2 with
          | none => simp [hσ, hte] at h
          | some de =>
            simp only [hσ, hte] at h
            split at h
            case isFalse => cases h
            rename_i hc
            split at h
            case h_2 => cases h
            rename_i l h1 f1 hb
            cases h
            refine ⟨some id, ?_, fun ρ hρ => ?_⟩
            · show _ = markOne σ id
              unfold markOne; rw [hσ]
            · have h2 : (ρ[id]?).map unro = (σ[id]?).map unro := by rw [← unro_at, ← unro_at, hρ]
              rw [hσ] at h2
              cases hρ2 : ρ[id]? with
              | none => rw [hρ2] at h2; cases h2
              | some b2 =>
                rw [hρ2] at h2
                cases b2 with
                | buf => cases h2
                | box cs2 ro2 =>
                  simp only [Option.map_some, unro, Option.some.injEq, ABlk.box.injEq, and_true] at h2
                  subst h2
                  simp only [hρ2, hte, if_pos hc, hb]
                  show _ = some (_, markOne ρ id)
                  unfold markOne; rw [hρ2]
  · cases h; exact ⟨none, rfl, fun ρ _ => rfl⟩
  · cases h

def commB (E : Env) (ops : Array Oper) (x y : Oper) : Bool :=
  x.apart ops y && ((!(effB E ops x && touchA E y.op) && !(effB E ops y && touchA E x.op)) || (isAllocB y.op && !effB E ops x) || (isMarkB E y.op && !effB E ops x) || (isMarkB E x.op && !effB E ops y) || (isMarkB E x.op && isMarkB E y.op))

theorem touch_of_eff {op : Op} (h : touchA E op = false) : effA E op = false := by
  cases op <;> simp only [touchA, effA] at h ⊢ <;> try (first | assumption | (cases h; done))
  case call c =>
    cases hc : c.callee <;> rw [hc] at h <;> try (cases h; done)
    rename_i b
    cases b <;> first | rfl | (cases h; done)

theorem touch_of_effB {ops : Array Oper} {o : Oper} (h : touchA E o.op = false) : effB E ops o = false := by
  unfold effB; rw [touch_of_eff h]; rfl

/-- x, then y: the same as y, then x. -/
theorem stepV_comm {orc : Option Tmp → Orc} {ops : Array Oper} {x y : Oper} {st st1 st2 : St} (hc : commB E ops x y = true) (h1 : stepV E orc ops x st = some st1) (h2 : stepV E orc ops y st1 = some st2) :
    ∃ st3, stepV E orc ops y st = some st3 ∧ stepV E orc ops x st3 = some st2 := by
  simp only [commB, Bool.and_eq_true, Bool.or_eq_true, Bool.not_eq_true', Bool.and_eq_false_iff] at hc
  obtain ⟨hap, hcase⟩ := hc
  obtain ⟨a1, a2, a3⟩ := Oper.apart_spec hap
  unfold stepV at h1 h2 ⊢
  rw [Option.map_eq_some_iff] at h1 h2
  obtain ⟨⟨v, σ1⟩, hv, rfl⟩ := h1
  obtain ⟨⟨u, σ2⟩, hu, rfl⟩ := h2
  simp only at hu ⊢
  rw [valA_setSlot a1] at hu
  have fin : ∀ σ3, valA E orc ops y st.fr st.σ = some (u, σ3) → valA E orc ops x st.fr σ3 = some (v, σ2) →
      ∃ st3, (valA E orc ops y st.fr st.σ).map (fun r => (⟨setSlot st.fr y.dst r.1, r.2⟩ : St)) = some st3 ∧ (valA E orc ops x st3.fr st3.σ).map (fun r => (⟨setSlot st3.fr x.dst r.1, r.2⟩ : St)) = some ⟨setSlot (setSlot st.fr x.dst v) y.dst u, σ2⟩ := by
    intro σ3 hy hx
    refine ⟨⟨setSlot st.fr y.dst u, σ3⟩, by rw [hy]; rfl, ?_⟩
    simp only
    rw [valA_setSlot a3, hx]
    simp only [Option.map_some, setSlot_comm st.fr v u a2]
  rcases hcase with (((⟨e1, e2⟩ | ⟨hal, ex⟩) | ⟨hal, ex⟩) | ⟨hal, ey⟩) | ⟨hax, hay⟩
  case inr =>
    obtain ⟨m, rfl, _⟩ := valA_mark2 hax hv
    have hun : ∀ (σ : Store) (m : Option Nat), (mkO σ m).map unro = σ.map unro := by
      intro σ m
      cases m with
      | none => rfl
      | some id =>
        refine List.ext_getElem? fun i => ?_
        rw [unro_at, unro_at]
        show ((markOne σ id)[i]?).map unro = _
        rw [markOne_get]
        split
        · cases σ[i]? with
          | none => rfl
          | some b => cases b <;> rfl
        · rfl
    obtain ⟨m2, rfl, h2⟩ := valA_mark2 hay hu
    obtain ⟨m1, e1, h1⟩ := valA_mark2 hax hv
    refine fin (mkO st.σ m2) (h2 st.σ (hun _ _).symm) ?_
    rw [h1 _ (hun _ _), e1, mkO_comm]
  case inl.inl.inr =>
    obtain rfl := valA_noeff ex hv
    exact fin _ hu (valA_look (valA_mark hal hu) ex hv)
  case inl.inr =>
    obtain rfl := valA_noeff ey hu
    exact fin _ (valA_look (valA_mark hal hv).symm ey hu) hv
  case inl.inl.inl.inr =>
    obtain rfl := valA_noeff ex hv
    obtain ⟨bs, rfl⟩ := valA_alloc hal hu
    exact fin _ hu (valA_more bs ex hv)
  rcases e1 with ex | ty
  · obtain rfl := valA_noeff ex hv
    rcases e2 with ey | tx
    · obtain rfl := valA_noeff ey hu
      exact fin _ hu hv
    · refine fin _ hu ?_
      rw [valA_notouch (σ := st.σ) tx, hv]; rfl
  · have ey : effB E ops y = false := touch_of_effB ty
    obtain rfl := valA_noeff ey hu
    rw [valA_notouch (σ := st.σ) ty, Option.map_eq_some_iff] at hu
    obtain ⟨⟨u', σ'⟩, hy, he⟩ := hu
    simp only [Prod.mk.injEq] at he
    obtain ⟨rfl, _⟩ := he
    obtain rfl := valA_noeff ey hy
    exact fin _ hy hv

/-! ### A step of the program -/
def OrcOk (B : Base) (orc : Orc) : Prop := (∀ f args r, orc.fz f args = some r → Con B f args [] (fun r' σ' => r' = r ∧ σ' = [])) ∧
  ∀ f args σ r σ', orc.own f args σ = some (r, σ') → ∀ F, WCon (B.env F) f args σ r σ'

theorem own_wp {orc : Orc} (hO : OrcOk E.toBase orc) {o : Oper} {c : Call} (hop : o.op = .call c) {st : St} {r : AV × Store} (h : ownA orc st.fr st.σ c = some r)
    {a : Act} {w : World} {g : Gh} (hr : Rel E w g st a) {next : Act → World → Prop} {Q : Exit → Act → World → Prop}
    (hk : ∀ a' w' g', Rel E w' g' ⟨setSlot st.fr o.dst r.1, r.2⟩ a' → Evo E 0 w g w' g' → GLe g g' → next a' w') : o.wp E.P a w next Q := by
  unfold ownA at h
  split at h
  case h_2 => cases h
  rename_i f hc
  split at h
  case h_2 => cases h
  rename_i fid hf
  exact call_own_wp hop hc hf (wcon_of (hO.2 _ _ _ r.1 r.2 h E.F)) hr hk

theorem opVal_wp (hE : E.Ok) {orc : Orc} (hO : OrcOk E.toBase orc) {o : Oper} {st : St} {r : AV × Store} (h : opVal E orc o.op st.fr st.σ = some r)
    {a : Act} {w : World} {g : Gh} (hr : Rel E w g st a) {next : Act → World → Prop} {Q : Exit → Act → World → Prop}
    (hk : ∀ a' w' g', Rel E w' g' ⟨setSlot st.fr o.dst r.1, r.2⟩ a' → Evo E 0 w g w' g' → GLe g g' → next a' w') : o.wp E.P a w next Q := by
  have plain : evOp E st.fr st.σ o.op = some r → o.wp E.P a w next Q := by
    intro h
    obtain ⟨v, w', g', h1, h2, h3, h4, h5⟩ := evOp_sound (x := r.1) (σ' := r.2) hE hr h
    unfold Oper.wp
    exact upon_of h1 (hk _ w' g' (rel_put (rel_mem hr h2 h3 h4) o.dst h5) h4 h3)
  cases hop : o.op with
  | call c =>
    simp only [hop, opVal] at h
    cases hc : c.callee <;> simp only [hc] at h
    case builtin b => exact plain (by rw [hop]; exact h)
    all_goals (split at h; · exact own_wp hO hop h hr hk)
    all_goals try (simp [callA, hc] at h; done)
    rename_i f _
    rw [Option.map_eq_some_iff] at h
    obtain ⟨r1, h, rfl⟩ := h
    unfold callA at h
    simp only [hc] at h
    split at h
    case h_2 => cases h
    rename_i fid hf
    split at h
    case h_2 => cases h
    rename_i args ha
    split at h
    case h_2 => cases h
    rename_i r2 ho
    split at h
    case isFalse => cases h
    rename_i hs
    cases h
    rcases hs with hs | hs
    · exact call_scalar_wp hop hc hf ha hs ((hO.1 _ _ _ ho).mono fun _ _ h => h.1) hr hk
    · refine call_closed_wp hop hc hf ha (hO.1 _ _ _ ho) hr ?_
      rw [hs]
      exact hk
  | _ => exact plain (by rw [hop]; simp only [hop] at h; exact h)

/-- Fresh memory that changes no more. -/
theorem frz_wp (hE : E.Ok) {o : Oper} {st : St} {r : AV × Store} (hf : (∃ t n l, o.op = .buildSlice t n l) ∨ (∃ s d x, o.op = .convert s d x ∧ isSliceT E d = true))
    (h : (evOp E st.fr st.σ o.op).bind (fzNew st.σ) = some r)
    {a : Act} {w : World} {g : Gh} (hr : Rel E w g st a) {next : Act → World → Prop} {Q : Exit → Act → World → Prop}
    (hk : ∀ a' w' g', Rel E w' g' ⟨setSlot st.fr o.dst r.1, r.2⟩ a' → Evo E 0 w g w' g' → GLe g g' → next a' w') : o.wp E.P a w next Q := by
  rw [Option.bind_eq_some_iff] at h
  obtain ⟨⟨x, σ'⟩, h1, h2⟩ := h
  obtain ⟨y, σ2⟩ := r
  have hp : ∃ bs, σ' = st.σ ++ bs := by
    rcases hf with ⟨t, n, l, e⟩ | ⟨s, d, z, e, _⟩
    · rw [e] at h1
      simp only [evOp, buildSliceA] at h1
      repeat' split at h1
      all_goals try (cases h1; done)
      cases h1; exact ⟨_, rfl⟩
    · rw [e] at h1
      simp only [evOp, convertA] at h1
      repeat' split at h1
      all_goals try (cases h1; done)
      all_goals (cases h1; first | exact ⟨_, rfl⟩ | exact ⟨[], by simp⟩)
  obtain ⟨v, w', g', k1, k2, k3, k4, k5⟩ := evOp_sound (x := x) (σ' := σ') hE hr h1
  obtain ⟨rfl, m2, m3, m4, m5⟩ := fzNew_sound hr.mem hp h2 k2 k3 k4 k5
  unfold Oper.wp
  exact upon_of k1 (hk _ w' _ (rel_put (rel_mem hr m2 m3 m4) o.dst m5) m4 m3)

theorem valA_wp (hE : E.Ok) {orc : Option Tmp → Orc} (hO : ∀ d, OrcOk E.toBase (orc d)) {ops : Array Oper} {o : Oper} {st : St} {r : AV × Store} (h : (opVal E (orc o.dst) o.op st.fr st.σ).bind (frzV (frzB E ops o) st.σ) = some r)
    {a : Act} {w : World} {g : Gh} (hr : Rel E w g st a) {next : Act → World → Prop} {Q : Exit → Act → World → Prop}
    (hk : ∀ a' w' g', Rel E w' g' ⟨setSlot st.fr o.dst r.1, r.2⟩ a' → Evo E 0 w g w' g' → GLe g g' → next a' w') : o.wp E.P a w next Q := by
  cases hf : frzB E ops o with
  | true =>
    have e : ∀ σ, frzV true σ = fzNew σ := fun σ => by funext r; simp [frzV]
    have e2 : opVal E (orc o.dst) o.op st.fr st.σ = evOp E st.fr st.σ o.op := by
      rcases frzB_op hf with ⟨t, n, l, h⟩ | ⟨s, d, x, h, _⟩ <;> rw [h] <;> rfl
    rw [hf, e, e2] at h
    exact frz_wp hE (frzB_op hf) h hr hk
  | false =>
    have e : ∀ σ, frzV false σ = some := fun σ => by funext r; simp [frzV]
    rw [hf, e, obind_some] at h
    exact opVal_wp hE (hO _) h hr hk

theorem stepV_wp (hE : E.Ok) {orc : Option Tmp → Orc} (hO : ∀ d, OrcOk E.toBase (orc d)) {ops : Array Oper} {i : Nat} {o : Oper} {st st' : St} (hi : ops[i]? = some o) (h : stepV E orc ops o st = some st')
    {a : Act} {w : World} {g : Gh} (hr : Rel E w g st a) {next : Act → World → Prop} {Q : Exit → Act → World → Prop}
    (hk : ∀ a' w' g', Rel E w' g' st' a' → Evo E 0 w g w' g' → GLe g g' → next a' w') : wpOp E.P ops Q i next a w := by
  unfold stepV at h
  rw [Option.map_eq_some_iff] at h
  obtain ⟨⟨x, σ'⟩, hv, rfl⟩ := h
  unfold wpOp
  simp only [hi]
  unfold valA wantA at hv
  cases hg : o.guard with
  | none =>
    simp only [hg] at hv
    simp only [Region.wanted, hg, if_true]
    exact .inl (valA_wp hE hO hv hr hk)
  | some p =>
    obtain ⟨j, want⟩ := p
    simp only [hg] at hv
    cases hy : yieldA ops st.fr j with
    | none => simp [hy] at hv
    | some b =>
      simp only [Region.wanted, hg, yieldA_sound hr hy]
      simp only [hy, Option.map_some] at hv
      by_cases e : b = some want
      · rw [if_pos (by simp [e])]
        rw [show (b == some want) = true by simp [e]] at hv
        exact .inl (valA_wp hE hO hv hr hk)
      · rw [if_neg (by simp [e])]
        rw [show (b == some want) = false by simp [e]] at hv
        cases hv
        exact hk _ w g (rel_put hr o.dst (rep_undef _ _ _)) (Evo.refl _ _ _ _) (GLe.refl _)

/-! ### Every order -/
def depsOf (ops : Array Oper) (i : Nat) : List Nat := match ops[i]? with
  | some o => (o.after.toList.filter (Region.binds .any)).map (·.on)
  | none => []

def okClo (ops : Array Oper) (T : List (List Nat)) : Bool :=
  (List.range ops.size).all fun i => (depsOf ops i).all (· < i) && (T.getD i []).all fun j => (depsOf ops i).contains j || (depsOf ops i).any fun k => (T.getD k []).contains j

def okComm (E : Env) (ops : Array Oper) (T : List (List Nat)) : Bool :=
  (List.range ops.size).all fun i => (List.range i).all fun j => (T.getD i []).contains j || (match ops[j]?, ops[i]? with
    | some x, some y => commB E ops x y
    | _, _ => false)

theorem stepsV_front {orc : Option Tmp → Orc} {ops : Array Oper} {i : Nat} {y : Oper} (hi : ops[i]? = some y) {l2 : List Nat} {st' : St} : ∀ (l1 : List Nat) (st : St),
    (∀ j ∈ l1, ∀ x, ops[j]? = some x → commB E ops x y = true) → stepsV E orc ops (l1 ++ i :: l2) st = some st' →
    ∃ st1, stepV E orc ops y st = some st1 ∧ stepsV E orc ops (l1 ++ l2) st1 = some st'
  | [], st, _, h => by
    simp only [List.nil_append, stepsV, hi] at h
    rw [Option.bind_eq_some_iff] at h
    exact h
  | j :: l1, st, hc, h => by
    simp only [List.cons_append, stepsV] at h
    cases hj : ops[j]? with
    | none => simp [hj] at h
    | some x =>
      simp only [hj] at h
      rw [Option.bind_eq_some_iff] at h
      obtain ⟨s1, h1, h⟩ := h
      obtain ⟨s2, h2, h⟩ := stepsV_front hi l1 s1 (fun k hk => hc k (List.mem_cons_of_mem _ hk)) h
      obtain ⟨s3, h3, h4⟩ := stepV_comm (hc j List.mem_cons_self x hj) h1 h2
      refine ⟨s3, h3, ?_⟩
      simp only [List.cons_append, stepsV, hj, h4, Option.bind_some]
      exact h

theorem getD_range_all {n : Nat} {p : Nat → Bool} (h : (List.range n).all p = true) {i : Nat} (hi : i < n) : p i = true :=
  List.all_eq_true.1 h i (List.mem_range.2 hi)

theorem okClo_lt {ops : Array Oper} {T : List (List Nat)} (h : okClo ops T = true) {i : Nat} (hi : i < ops.size) {d : Nat} (hd : d ∈ depsOf ops i) : d < i := by
  have := getD_range_all h hi
  simp only [Bool.and_eq_true, List.all_eq_true, decide_eq_true_eq] at this
  exact this.1 d hd

theorem okClo_below {ops : Array Oper} {T : List (List Nat)} (h : okClo ops T = true) {rem : List Nat}
    (hdown : ∀ k, k < ops.size → k ∉ rem → ∀ d ∈ depsOf ops k, d ∉ rem) : ∀ (i : Nat), i < ops.size → (∀ d ∈ depsOf ops i, d ∉ rem) → ∀ j ∈ T.getD i [], j ∉ rem := by
  intro i
  induction i using Nat.strongRecOn with
  | _ i ih =>
    intro hi hd j hj
    have hh := getD_range_all h hi
    simp only [Bool.and_eq_true, List.all_eq_true, Bool.or_eq_true, List.contains_iff_mem, List.any_eq_true, decide_eq_true_eq] at hh
    rcases hh.2 j hj with hj | ⟨k, hk, hkj⟩
    · exact hd j hj
    · have hki := hh.1 k hk
      have hks := Nat.lt_trans hki hi
      exact ih k hki hks (hdown k hks (hd k hk)) j hkj

theorem mem_depsOf {ops : Array Oper} {i : Nat} {o : Oper} (hi : ops[i]? = some o) {d : Nat} : d ∈ depsOf ops i ↔ ∃ e ∈ o.after, Region.binds .any e = true ∧ e.on = d := by
  simp only [depsOf, hi, List.mem_map, List.mem_filter, Array.mem_toList_iff]
  constructor
  · rintro ⟨e, ⟨h1, h2⟩, h3⟩; exact ⟨e, h1, h2, h3⟩
  · rintro ⟨e, h1, h2, h3⟩; exact ⟨e, ⟨h1, h2⟩, h3⟩

theorem wpAny_text (hE : E.Ok) {orc : Option Tmp → Orc} (hO : ∀ d, OrcOk E.toBase (orc d)) {ops : Array Oper} {T : List (List Nat)} (hc : okClo ops T = true) (hm : okComm E ops T = true) {st' : St} {Q : Exit → Act → World → Prop} :
    ∀ (fuel : Nat) (rem : List Nat) (listed : Array Bool) (st : St) (a : Act) (w : World) (g : Gh), rem.length = fuel → rem.Pairwise (· < ·) → listed.size = ops.size →
      (∀ j, listed.getD j true = false ↔ j ∈ rem) → (∀ k, k < ops.size → k ∉ rem → ∀ d ∈ depsOf ops k, d ∉ rem) →
      stepsV E orc ops rem st = some st' → Rel E w g st a → (∀ a' w' g', Rel E w' g' st' a' → Evo E 0 w g w' g' → GLe g g' → Q .normal a' w') →
      wpAny E.P .any ops Q fuel listed a w := by
  have hin : ∀ (rem : List Nat) (listed : Array Bool), listed.size = ops.size → (∀ j, listed.getD j true = false ↔ j ∈ rem) → ∀ j ∈ rem, j < ops.size := by
    intro rem listed hs hl j hj
    have := (hl j).2 hj
    by_cases e : j < listed.size
    · omega
    · simp [Array.getD, e] at this
  have hgd : ∀ (rem : List Nat) (listed : Array Bool), listed.size = ops.size → (∀ j, listed.getD j true = false ↔ j ∈ rem) → ∀ d, d < ops.size → (listed.getD d false = true ↔ d ∉ rem) := by
    intro rem listed hs hl d hd
    have h1 : listed.getD d false = listed.getD d true := by
      have : d < listed.size := by omega
      simp [Array.getD, this]
    rw [h1, ← hl d]
    cases listed.getD d true <;> simp
  have hrd : ∀ (rem : List Nat) (listed : Array Bool), listed.size = ops.size → (∀ j, listed.getD j true = false ↔ j ∈ rem) → ∀ i,
      (i ∈ Region.ready .any ops listed ↔ i ∈ rem ∧ ∀ d ∈ depsOf ops i, d ∉ rem) := by
    intro rem listed hs hl i
    rw [mem_ready, hl i]
    constructor
    · rintro ⟨h1, o, ho, h2⟩
      refine ⟨h1, fun d hd => ?_⟩
      have hlt := okClo_lt hc (hin rem listed hs hl i h1) hd
      have hds := Nat.lt_trans hlt (hin rem listed hs hl i h1)
      obtain ⟨e, he, hb, rfl⟩ := (mem_depsOf ho).1 hd
      exact (hgd rem listed hs hl _ hds).1 (h2 e he hb)
    · rintro ⟨h1, h2⟩
      have hi := hin rem listed hs hl i h1
      refine ⟨h1, ops[i], Array.getElem?_eq_getElem hi, fun e he hb => ?_⟩
      have hd : e.on ∈ depsOf ops i := (mem_depsOf (Array.getElem?_eq_getElem hi)).2 ⟨e, he, hb, rfl⟩
      exact (hgd rem listed hs hl _ (Nat.lt_trans (okClo_lt hc hi hd) hi)).2 (h2 _ hd)
  have hdone : ∀ (rem : List Nat) (listed : Array Bool), rem.Pairwise (· < ·) → listed.size = ops.size → (∀ j, listed.getD j true = false ↔ j ∈ rem) → Region.ready .any ops listed = [] → rem = [] := by
    intro rem listed hp hs hl hr
    cases rem with
    | nil => rfl
    | cons i r =>
      have hi : i ∈ Region.ready .any ops listed := (hrd _ listed hs hl i).2 ⟨List.mem_cons_self, fun d hd hm => by
        have := okClo_lt hc (hin _ listed hs hl i List.mem_cons_self) hd
        rcases List.mem_cons.1 hm with rfl | hm
        · omega
        · have := List.rel_of_pairwise_cons hp hm
          omega⟩
      rw [hr] at hi
      cases hi
  intro fuel
  induction fuel with
  | zero =>
    intro rem listed st a w g hf hp hs hl hd hst hr hq
    have : rem = [] := List.length_eq_zero_iff.1 hf
    subst this
    simp only [stepsV, Option.some.injEq] at hst
    subst hst
    refine ⟨?_, hq a w g hr (Evo.refl _ _ _ _) (GLe.refl _)⟩
    rw [List.eq_nil_iff_forall_not_mem]
    intro i hi
    have := ((hrd _ listed hs hl i).1 hi).1
    cases this
  | succ fuel ih =>
    intro rem listed st a w g hf hp hs hl hd hst hr hq
    refine ⟨fun h => ?_, fun i hi => ?_⟩
    · have := hdone rem listed hp hs hl h
      subst this
      simp at hf
    · obtain ⟨hir, hid⟩ := (hrd rem listed hs hl i).1 hi
      have his := hin rem listed hs hl i hir
      obtain ⟨l1, l2, rfl⟩ := List.append_of_mem hir
      have hp' := hp
      rw [List.pairwise_append] at hp'
      obtain ⟨p1, p2, p3⟩ := hp'
      have hnd : ∀ j ∈ l1 ++ l2, j ≠ i := by
        intro j hj
        rcases List.mem_append.1 hj with hj | hj
        · have := p3 j hj i List.mem_cons_self; omega
        · have := List.rel_of_pairwise_cons p2 hj; omega
      have hmem : ∀ j, j ∈ l1 ++ l2 ↔ j ∈ l1 ++ i :: l2 ∧ j ≠ i := by
        intro j
        constructor
        · intro hj
          refine ⟨?_, hnd j hj⟩
          simp only [List.mem_append, List.mem_cons] at hj ⊢
          rcases hj with hj | hj
          · exact .inl hj
          · exact .inr (.inr hj)
        · rintro ⟨hj, hne⟩
          simp only [List.mem_append, List.mem_cons] at hj ⊢
          rcases hj with hj | hj | hj
          · exact .inl hj
          · exact (hne hj).elim
          · exact .inr hj
      have hcm : ∀ j ∈ l1, ∀ x, ops[j]? = some x → commB E ops x ops[i] = true := by
        intro j hj x hx
        have hji : j < i := p3 j hj i List.mem_cons_self
        have h1 := getD_range_all (getD_range_all hm his) hji
        simp only [Bool.or_eq_true, List.contains_iff_mem] at h1
        rcases h1 with h1 | h1
        · exact (okClo_below hc hd i his hid j h1 (List.mem_append_left _ hj)).elim
        · simp only [hx, Array.getElem?_eq_getElem his] at h1
          exact h1
      obtain ⟨st1, h1, h2⟩ := stepsV_front (Array.getElem?_eq_getElem his) l1 st hcm hst
      refine stepV_wp hE hO (Array.getElem?_eq_getElem his) h1 hr fun a1 w1 g1 hr1 he1 hg1 => ?_
      refine ih (l1 ++ l2) (listed.setIfInBounds i true) st1 a1 w1 g1 ?_ ?_ ?_ ?_ ?_ h2 hr1 ?_
      · simp at hf ⊢; omega
      · exact hp.sublist (List.Sublist.append_left (List.sublist_cons_self i l2) l1)
      · simp [hs]
      · intro j
        rw [hmem j, ← hl j]
        by_cases e : j = i
        · subst e
          have : j < listed.size := by omega
          simp [Array.getD, this]
        · rw [getD_set_ne true (fun h => e h.symm)]
          simp [e]
      · intro k hk hkn d hdk hdm
        have hd2 := ((hmem d).1 hdm).1
        by_cases e : k = i
        · subst e
          exact hid d hdk hd2
        · exact hd k hk (fun h => hkn ((hmem k).2 ⟨h, e⟩)) d hdk hd2
      · intro a' w' g' hr' he' hg'
        exact hq a' w' g' hr' (he1.trans he') (hg1.trans hg')

theorem rel_same {w w' : World} {g : Gh} {st : St} {a : Act} (hr : Rel E w g st a) (h : SameMem w w') : Rel E w' g st a :=
  ⟨hr.size, fun t x hx => rep_same h (hr.slot t x hx), hr.mem.same h, hr.defers⟩

/-- A region that draws its order: the order of the text serves. -/
theorem region_draw (hE : E.Ok) {orc : Option Tmp → Orc} (hO : ∀ d, OrcOk E.toBase (orc d)) (hP : E.P.follows .mixedOrders = true) {n id : Nat} {l : List Oper} (T : List (List Nat)) (hok1 : okClo l.toArray T = true) (hok2 : okComm E l.toArray T = true) {st st' : St} {K : Post}
    (hst : stepsV E orc l.toArray (List.range l.length) st = some st') (hk : K .normal st') : Run E n (.region id l.toArray true) st K := by
  intro a w g hr Q hq
  refine wp_region_any hP ?_
  have hsm : SameMem w { w with drawn := w.drawn + 1 } := ⟨rfl, rfl, rfl, rfl⟩
  refine wpAny_text hE hO hok1 hok2 l.toArray.size (List.range l.length) _ st a _ g (by simp) List.pairwise_lt_range (by simp) ?_ ?_ hst (rel_same hr hsm) ?_
  · intro j
    rw [List.mem_range]
    by_cases h : j < l.length <;> simp [Array.getD, h]
  · intro k hk hkn
    exact (hkn (List.mem_range.2 (by simpa using hk))).elim
  · intro a' w' g' hr' he hg
    exact hq _ _ _ _ _ hk hr' ((Evo.same hsm).trans (he.of_gle hg))

end Go.Rv
