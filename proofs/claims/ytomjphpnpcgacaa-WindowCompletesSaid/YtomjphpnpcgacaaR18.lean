/-
  R18: frames told by their live slots; regions of either kind, evaluated in the order of the text; weaker states, joins, loops.
-/
import Derived.Test.YtomjphpnpcgacaaR17
import Derived.Scope
namespace Go.Rv
set_option linter.unusedVariables false
set_option linter.unusedSimpArgs false

variable {E : Env}

abbrev Fr := List (Nat × AV)

/-! ### Frames told by their live slots -/
def look : Fr → Nat → AV
  | [], _ => .junk
  | p :: l, t => if t = p.1 then p.2 else look l t

def asFr (n : Nat) (l : Fr) : List AV := (List.range n).map (look l)

theorem asFr_get (n : Nat) (l : Fr) (t : Nat) : (asFr n l)[t]? = if t < n then some (look l t) else none := by
  unfold asFr
  rw [List.getElem?_map]
  by_cases h : t < n
  · rw [List.getElem?_range h, if_pos h]; rfl
  · rw [if_neg h, List.getElem?_eq_none (by simp; omega)]; rfl

def evL (n : Nat) (l : Fr) : Operand → AV
  | .tmp t => if t < n then look l t else .junk
  | .const v => ofConst v
  | .global g => .glob g
  | .func f => .fn f []

theorem ev_asFr (n : Nat) (l : Fr) : ev (asFr n l) = evL n l := by
  funext x
  cases x with
  | tmp t =>
    simp only [ev, evL, List.getD, asFr_get]
    split <;> rfl
  | _ => rfl

def put (d : Option Tmp) (x : AV) (l : Fr) : Fr :=
  match d with
  | some t => (t, x) :: l
  | none => l

theorem setSlot_asFr (n : Nat) (l : Fr) (d : Option Tmp) (x : AV) : setSlot (asFr n l) d x = asFr n (put d x l) := by
  cases d with
  | none => rfl
  | some t =>
    refine List.ext_getElem? fun s => ?_
    simp only [setSlot, put, List.getElem?_set, asFr_get]
    have hlen : (asFr n l).length = n := by simp [asFr]
    rw [hlen]
    by_cases h : t = s
    · subst h
      simp only [if_true, look]
    · rw [if_neg h]
      simp only [look]
      by_cases hs : s < n
      · rw [if_pos hs, if_pos hs, if_neg (fun e => h (Eq.symm e))]
      · rw [if_neg hs, if_neg hs]

def keep (ts : List Nat) (l : Fr) : Fr := ts.map fun t => (t, look l t)

theorem look_keep (ts : List Nat) (l : Fr) (t : Nat) : look (keep ts l) t = .junk ∨ look (keep ts l) t = look l t := by
  induction ts with
  | nil => exact .inl rfl
  | cons s ts ih =>
    show (if t = s then look l s else look (keep ts l) t) = .junk ∨ _
    by_cases h : t = s
    · subst h; right; show (if t = t then look l t else look (keep ts l) t) = _; rw [if_pos rfl]
    · have e : look (keep (s :: ts) l) t = look (keep ts l) t := by show (if t = s then look l s else look (keep ts l) t) = _; rw [if_neg h]
      rw [e, if_neg h]; exact ih

/-! ### Operations -/
def evOpR (E : Env) (ρ : Operand → AV) (σ : Store) (op : Op) : Option (AV × Store) :=
  match op with
  | .move x | .assign x => some (ρ x, σ)
  | .pick c a b => match ρ c with
    | .bool t => some (if t then ρ a else ρ b, σ)
    | _ => none
  | .alloc t => match E.tab t with
    | some d => if d.size = 0 then none else some (.ref σ.length 0, σ ++ [.box d.zero false])
    | none => none
  | .box t x => match (ρ x).cells? with
    | some xs => if xs = [] then none else some (.ref σ.length 0, σ ++ [.box xs false])
    | none => none
  | .build t parts => (buildA E t (parts.toList.map fun (i, x) => (i, ρ x))).map fun x => (x, σ)
  | .buildSlice t len parts => buildSliceA E σ t len (parts.toList.map fun (i, x) => (i, ρ x))
  | .load t a => match E.tab t with
    | some d => (loadA E σ d (ρ a)).map fun x => (x, σ)
    | none => none
  | .store t a x => match E.tab t with
    | some d => (storeA σ d (ρ a) (ρ x)).map fun σ' => (.junk, σ')
    | none => none
  | .nilCheck x => match ρ x with
    | .ref id off => some (.ref id off, σ)
    | .rp cs => some (.rp cs, σ)
    | .glob g => some (.glob g, σ)
    | .fn f cs => some (.fn f cs, σ)
    | _ => none
  | .binOp op t x y _ => (binOpA E op t (ρ x) (ρ y)).map fun v => (v, σ)
  | .unOp op _ x => (unOpA op (ρ x)).map fun v => (v, σ)
  | .convert s d x => convertA E σ s d (ρ x)
  | .slice t x lo hi mx => sliceA E σ t (ρ x) (lo.map ρ) (hi.map ρ) (mx.map ρ)
  | .fieldAddr s x f => (fieldAddrA E σ s (ρ x) f).map fun v => (v, σ)
  | .field s x f => (fieldA E s (ρ x) f).map fun v => (v, σ)
  | .indexAddr t x i => (indexAddrA E σ t (ρ x) (ρ i)).map fun v => (v, σ)
  | .index t x i => (indexA E t (ρ x) (ρ i)).map fun v => (v, σ)
  | .makeSlice t l c => makeSliceA E σ t (ρ l) (ρ c)
  | .makeFunc fn first caps => match fn with
    | .func f => if first.toList = [] then (match caps.toList.map ρ with
      | [.tup _] => none
      | cs => some (.fn f cs, σ)) else if caps.toList = [] then some (.fn f [.tup (first.toList.map ρ)], σ) else none
    | _ => none
  | .makeInterface t x => match E.tab t with
    | some d => match d.desc with
      | .interface _ => none
      | _ => some (.iface t (ρ x), σ)
    | none => none
  | .lookup t x k ok => (lookupA E t (ρ x) (ρ k) ok).map fun v => (v, σ)
  | .extract x i => match ρ x with
    | .tup vs => match vs[i]? with
      | some v => some (v, σ)
      | none => none
    | _ => none
  | .call c => match c.callee with
    | .builtin b => builtinA E σ b c.argTypes.toList (c.args.toList.map ρ)
    | _ => none
  | _ => none

theorem evOp_eq (fr : List AV) (σ : Store) (op : Op) : evOp E fr σ op = evOpR E (ev fr) σ op := by cases op <;> rfl

def fzL (σ : Store) : List AV → Option (List AV)
  | [] => some []
  | x :: l => (fz σ x).bind fun y => (fzL σ l).bind fun ys => some (y :: ys)

theorem fzL_eq (σ : Store) : ∀ l : List AV, l.mapM (fz σ) = fzL σ l
  | [] => rfl
  | x :: l => by rw [List.mapM_cons, fzL_eq σ l]; rfl

def handed (r : AV) (dr : Bool) (σ : Store) (ids : List Nat) : Option (AV × Store) :=
  if r.scalar = true then some (r, σ) else if ids = [] then some (r, σ) else if dr = true then none else some (r, markRo σ ids)

/-- A call of a function that sees nothing of the state. -/
def callT (orc : Orc) (dr : Bool) (ρ : Operand → AV) (σ : Store) (c : Call) : Option (AV × Store) :=
  match c.callee with
  | .value f => match ρ f with
    | .fn fid [] => match fzL σ (c.args.toList.map ρ) with
      | some args => match orc.fz fid args with
        | some r => handed r dr σ ((c.args.toList.map ρ).flatMap bsIds)
        | none => none
      | none => none
    | .fn fid [.tup xs] => match dr with
      | true => none
      | false => orc.own fid (xs ++ c.args.toList.map ρ) σ
    | _ => none
  | _ => none

/-- A call that turns the caller's state. -/
def ownT (orc : Orc) (ρ : Operand → AV) (σ : Store) (c : Call) : Option (AV × Store) :=
  match c.callee with
  | .value f => match ρ f with
    | .fn fid [] => orc.own fid (c.args.toList.map ρ) σ
    | _ => none
  | _ => none

def goCall (b : Bool) (x y : Option (AV × Store)) : Option (AV × Store) := match b with
  | true => x
  | false => y

def opL (E : Env) (orc : Orc) (dr : Bool) (ρ : Operand → AV) (σ : Store) (op : Op) : Option (AV × Store) :=
  match op with
  | .call c => match c.callee with
    | .builtin b => builtinA E σ b c.argTypes.toList (c.args.toList.map ρ)
    | _ => goCall (isOwn E c) (ownT orc ρ σ c) (callT orc dr ρ σ c)
  | op => evOpR E ρ σ op

def yieldL (ops : Array Oper) (n : Nat) (l : Fr) (j : Nat) : Option (Option Bool) :=
  match (ops[j]?).bind (·.dst) with
  | some d => match evL n l (.tmp d) with
    | .bool b => some (some b)
    | .tup _ => some none
    | _ => none
  | none => none

def wantL (ops : Array Oper) (n : Nat) (l : Fr) (o : Oper) : Option Bool :=
  match o.guard with
  | none => some true
  | some (j, want) => (yieldL ops n l j).map (· == some want)

/-- A slot whose value names buffers: they change no more from now on. -/
def fzSlot (n : Nat) (t : Nat) (s : Fr × Store) : Fr × Store :=
  if t < n then match bsIds (look s.1 t) with
    | [] => s
    | ids => match fz s.2 (look s.1 t) with
      | some y => ((t, y) :: s.1, markRo s.2 ids)
      | none => s
  else s

def fzAll (n : Nat) : List (Nat × Operand) → Fr × Store → Fr × Store
  | [], s => s
  | p :: l, s => fzAll n l (match p.2 with
    | .tmp t => fzSlot n t s
    | _ => s)

/-- What is put into a new slice changes no more. -/
def fzOps (dr : Bool) (n : Nat) (op : Op) (s : Fr × Store) : Fr × Store :=
  match dr, op with
  | false, .buildSlice _ _ parts => fzAll n parts.toList s
  | _, _ => s

def stepL (E : Env) (orc : Option Tmp → Orc) (dr : Bool) (n : Nat) (ops : Array Oper) (o : Oper) (s : Fr × Store) : Option (Fr × Store) :=
  match wantL ops n s.1 o with
  | some true => ((opL E (orc o.dst) dr (evL n (fzOps dr n o.op s).1) (fzOps dr n o.op s).2 o.op).bind (frzV (dr && frzB E ops o) (fzOps dr n o.op s).2)).map fun r => (put o.dst r.1 (fzOps dr n o.op s).1, r.2)
  | some false => some (put o.dst (.tup []) s.1, s.2)
  | none => none

def stepsL (E : Env) (orc : Option Tmp → Orc) (dr : Bool) (n : Nat) (ops : Array Oper) : List Oper → Fr × Store → Option (Fr × Store)
  | [], s => some s
  | o :: l, s => (stepL E orc dr n ops o s).bind (stepsL E orc dr n ops l)

/-- The same, of a region whose operations are handed over once. -/
def regL (E : Env) (orc : Option Tmp → Orc) (dr : Bool) (n : Nat) (l : List Oper) (ts : List Nat) (s : Fr × Store) : Option (Fr × Store) :=
  (stepsL E orc dr n l.toArray l s).bind fun r => some (keep ts r.1, r.2)

theorem yieldA_asFr (ops : Array Oper) (n : Nat) (l : Fr) (j : Nat) : yieldA ops (asFr n l) j = yieldL ops n l j := by
  unfold yieldA yieldL
  split
  · rename_i d hd
    simp only [hd, asFr_get, evL]
    by_cases h : d < n
    · rw [if_pos h, if_pos h]
      cases look l d <;> rfl
    · rw [if_neg h, if_neg h]
  · rename_i hd
    simp only [hd]

theorem wantA_asFr (ops : Array Oper) (n : Nat) (l : Fr) (o : Oper) : wantA ops (asFr n l) o = wantL ops n l o := by
  unfold wantA wantL
  split
  · simp_all
  · rename_i j w h; simp only [h, yieldA_asFr]

/-! ### Regions that keep the text's order -/
def Orcs (B : Base) (orc : Option Tmp → Orc) : Prop := ∀ d, OrcOk B (orc d)

theorem opL_run (hE : E.Ok) {orc : Orc} (hO : OrcOk E.toBase orc) {o : Oper} {n : Nat} {fr : Fr} {σ : Store} {r : AV × Store} (h : opL E orc false (evL n fr) σ o.op = some r)
    {a : Act} {w : World} {g : Gh} (hr : Rel E w g ⟨asFr n fr, σ⟩ a) {next : Act → World → Prop} {Q : Exit → Act → World → Prop}
    (hk : ∀ a' w' g', Rel E w' g' ⟨asFr n (put o.dst r.1 fr), r.2⟩ a' → Evo E 0 w g w' g' → GLe g g' → next a' w') : o.wp E.P a w next Q := by
  rw [← ev_asFr] at h
  have hk' : ∀ a' w' g', Rel E w' g' ⟨setSlot (asFr n fr) o.dst r.1, r.2⟩ a' → Evo E 0 w g w' g' → GLe g g' → next a' w' := fun a' w' g' h1 h2 h3 => hk a' w' g' (by rw [setSlot_asFr] at h1; exact h1) h2 h3
  have plain : evOp E (asFr n fr) σ o.op = some r → o.wp E.P a w next Q := by
    intro h
    obtain ⟨v, w', g', h1, h2, h3, h4, h5⟩ := evOp_sound (x := r.1) (σ' := r.2) hE hr h
    unfold Oper.wp
    exact upon_of h1 (hk' _ w' g' (rel_put (rel_mem hr h2 h3 h4) o.dst h5) h4 h3)
  cases hop : o.op with
  | call c =>
    simp only [hop, opL] at h
    cases hc : c.callee <;> simp only [hc] at h
    case builtin b => exact plain (by rw [hop]; simp only [evOp, hc]; exact h)
    all_goals (cases hown : isOwn E c <;> simp only [hown, goCall] at h)
    all_goals try (exact own_wp (st := ⟨asFr n fr, σ⟩) hO hop h hr hk')
    all_goals try (simp [callT, hc] at h; done)
    rename_i f
    unfold callT at h
    simp only [hc] at h
    split at h
    case h_3 => cases h
    case h_2 =>
      rename_i fid xs hf
      exact call_bound_wp (st := ⟨asFr n fr, σ⟩) hop hc hf (wcon_of (hO.2 _ _ _ r.1 r.2 h E.F)) hr hk'
    rename_i fid hf
    split at h
    case h_2 => cases h
    rename_i args ha
    rw [← fzL_eq] at ha
    split at h
    case h_2 => cases h
    rename_i r2 ho
    unfold handed at h
    split at h
    · rename_i hs
      cases h
      exact call_scalar_wp hop hc hf ha hs ((hO.1 _ _ _ ho).mono fun _ _ h => h.1) hr hk'
    · split at h
      · rename_i hs
        cases h
        refine call_closed_wp hop hc hf ha (hO.1 _ _ _ ho) hr ?_
        rw [hs]
        exact hk'
      · cases h
        exact call_closed_wp hop hc hf ha (hO.1 _ _ _ ho) hr hk'
  | _ => exact plain (by rw [hop, evOp_eq]; simp only [hop] at h; exact h)

theorem rel_fzSlot {w : World} {g : Gh} {n : Nat} {s : Fr × Store} {a : Act} (hr : Rel E w g ⟨asFr n s.1, s.2⟩ a) (m t : Nat) :
    ∃ g', Rel E w g' ⟨asFr n (fzSlot n t s).1, (fzSlot n t s).2⟩ a ∧ Evo E m w g w g' := by
  unfold fzSlot
  split
  case isFalse => exact ⟨g, hr, Evo.refl _ _ _ _⟩
  rename_i htn
  split
  · exact ⟨g, hr, Evo.refl _ _ _ _⟩
  · rename_i hids
    cases hy : fz s.2 (look s.1 t) with
    | none => exact ⟨g, hr, Evo.refl _ _ _ _⟩
    | some y =>
    obtain ⟨g1, m1, hle, he, hs, hp⟩ := markRo_mem (bsIds (look s.1 t)) hr.mem
    refine ⟨g1, ⟨?_, ?_, m1, hr.defers⟩, he.of_gle hle⟩
    · have := hr.size; simpa [asFr] using this
    · intro u x hx
      rw [asFr_get] at hx
      split at hx
      case isFalse => cases hx
      rename_i hun
      cases hx
      show Rep _ _ _ _ (if u = t then y else look s.1 u)
      have hslot := hr.slot u (look s.1 u) (by rw [asFr_get, if_pos hun])
      by_cases e : u = t
      · subst e
        rw [if_pos rfl]
        refine (fz_rep hr.mem hslot hy hp ?_).mono (fun a u hcc hpr => ⟨hcc, hpr⟩) (GLe.nil _)
        intro id b hix hb β off hβ hoff
        obtain ⟨k, els, ro, hσ⟩ := fz_buf hy hix
        obtain ⟨ro', hσ'⟩ := markRo_els (bsIds (look s.1 u)) s.2 id hσ
        obtain ⟨b1, hb1, t1, t2, t3, t4, t5, t6⟩ := hs id b hb
        have hro := markRo_ro (bsIds (look s.1 u)) s.2 id (.inl hix) _ _ _ hσ'
        have hbro : b1.ro = true := by rw [(m1.blk id b1 _ hb1 hσ').2.1, hro]
        refine ⟨fun hF => (m1.foreign _ hF).2 ⟨id, b1, hb1, t1.trans hβ⟩, fun id' c hc he' => ?_⟩
        have : id' = id := m1.inj id' id c b1 β hc hb1 he' (t1.trans hβ)
        subst this
        rw [hb1] at hc; cases hc
        exact ⟨hbro, by rw [t2, t3, t4]; exact hoff⟩
      · rw [if_neg e]
        exact hslot.mono (fun a u hc hpr => ⟨hc, hp a hpr⟩) hle

theorem rel_fzAll {w : World} {n : Nat} {a : Act} (m : Nat) : ∀ (l : List (Nat × Operand)) (g : Gh) (s : Fr × Store), Rel E w g ⟨asFr n s.1, s.2⟩ a →
    ∃ g', Rel E w g' ⟨asFr n (fzAll n l s).1, (fzAll n l s).2⟩ a ∧ Evo E m w g w g'
  | [], g, s, hr => ⟨g, hr, Evo.refl _ _ _ _⟩
  | p :: l, g, s, hr => by
    unfold fzAll
    split
    · rename_i t ht
      obtain ⟨g1, h1, e1⟩ := rel_fzSlot hr m t
      obtain ⟨g2, h2, e2⟩ := rel_fzAll m l g1 _ h1
      exact ⟨g2, h2, e1.trans e2⟩
    · exact rel_fzAll m l g s hr

theorem rel_fzOps {w : World} {g : Gh} {n : Nat} {s : Fr × Store} {a : Act} (hr : Rel E w g ⟨asFr n s.1, s.2⟩ a) (m : Nat) (dr : Bool) (op : Op) :
    ∃ g', Rel E w g' ⟨asFr n (fzOps dr n op s).1, (fzOps dr n op s).2⟩ a ∧ Evo E m w g w g' := by
  unfold fzOps
  split
  · exact rel_fzAll m _ g s hr
  · exact ⟨g, hr, Evo.refl _ _ _ _⟩

theorem stepsL_then (hE : E.Ok) {orc : Option Tmp → Orc} (hO : Orcs E.toBase orc) {m n : Nat} {ops : Array Oper} {K : Post} {rest : List Oper} : ∀ (l : List Oper) (fr : Fr) (σ : Store) (fr' : Fr) (σ' : Store),
    stepsL E orc false n ops l (fr, σ) = some (fr', σ') → RunOps E m ops rest ⟨asFr n fr', σ'⟩ K → RunOps E m ops (l ++ rest) ⟨asFr n fr, σ⟩ K
  | [], fr, σ, fr', σ', h, hk => by
    simp only [stepsL, Option.some.injEq, Prod.mk.injEq] at h
    obtain ⟨rfl, rfl⟩ := h
    exact hk
  | o :: l, fr, σ, fr', σ', h, hk => by
    simp only [stepsL, Option.bind_eq_some_iff] at h
    obtain ⟨⟨fr1, σ1⟩, h1, h2⟩ := h
    intro a w g hr Q hq
    unfold stepL at h1
    have efz : ∀ σ, frzV (false && frzB E ops o) σ = some := fun σ => by funext r; simp [frzV]
    rw [efz, obind_some] at h1
    obtain ⟨g1, hr1, he1⟩ := rel_fzOps (s := (fr, σ)) hr m false o.op
    generalize hfz : fzOps false n o.op (fr, σ) = s1 at h1 hr1
    have hgo : ∀ {v : AV} {σ2 : Store}, opL E (orc o.dst) false (evL n s1.1) s1.2 o.op = some (v, σ2) → fr1 = put o.dst v s1.1 → σ1 = σ2 → o.wp E.P a w (wpList E.P ops Q (l ++ rest)) Q := by
      intro v σ2 e1 e2 e3
      subst e2 e3
      refine opL_run hE (hO _) e1 hr1 ?_
      intro a' w' g' hr' he hg
      refine stepsL_then (m := m) hE hO l _ _ _ _ h2 hk a' w' g' hr' Q ?_
      intro ex st' a2 w2 g2 k r e
      exact hq ex st' a2 w2 g2 k r (he1.trans ((he.of_gle hg).trans e))
    cases hgd : o.guard with
    | none =>
      simp only [wantL, hgd, Option.map_eq_some_iff, Prod.mk.injEq] at h1
      obtain ⟨⟨v, σ2⟩, e1, e2, e3⟩ := h1
      simp only [List.cons_append, wpList, Region.wanted, hgd, if_true]
      exact .inl (hgo e1 e2.symm e3.symm)
    | some jw =>
      obtain ⟨j, want⟩ := jw
      simp only [wantL, hgd] at h1
      cases hy : yieldL ops n fr j with
      | none => simp [hy] at h1
      | some b =>
        simp only [hy, Option.map_some] at h1
        have hy' : yieldA ops (asFr n fr) j = some b := by rw [yieldA_asFr, hy]
        simp only [List.cons_append, wpList, Region.wanted, hgd, yieldA_sound hr hy']
        by_cases e : b = some want
        · rw [if_pos (by simp [e])]
          rw [show (b == some want) = true by simp [e]] at h1
          simp only [Option.map_eq_some_iff, Prod.mk.injEq] at h1
          obtain ⟨⟨v, σ2⟩, e1, e2, e3⟩ := h1
          exact .inl (hgo e1 e2.symm e3.symm)
        · rw [if_neg (by simp [e])]
          rw [show (b == some want) = false by simp [e]] at h1
          simp only [Option.some.injEq, Prod.mk.injEq] at h1
          obtain ⟨e2, e3⟩ := h1
          subst e2 e3
          refine stepsL_then hE hO l _ _ _ _ h2 hk _ w g ?_ Q hq
          have := rel_put hr o.dst (rep_undef _ _ _)
          rw [setSlot_asFr] at this
          exact this

theorem stepsL_run (hE : E.Ok) {orc : Option Tmp → Orc} (hO : Orcs E.toBase orc) {m n : Nat} {ops : Array Oper} {K : Post} (l : List Oper) (fr : Fr) (σ : Store) (fr' : Fr) (σ' : Store)
    (h : stepsL E orc false n ops l (fr, σ) = some (fr', σ')) (hk : K .normal ⟨asFr n fr', σ'⟩) : RunOps E m ops l ⟨asFr n fr, σ⟩ K := by
  have := stepsL_then (m := m) (rest := []) hE hO l fr σ fr' σ' h (ops_nil hk)
  rwa [List.append_nil] at this

/-! ### Weaker states -/
/-- What holds of runs from the second state holds of runs from the first. -/
def Weak (E : Env) (n : Nat) (st st' : St) : Prop := ∀ a w g, Rel E w g st a → ∃ g', Rel E w g' st' a ∧ Evo E n w g w g'

theorem Weak.refl (n : Nat) (st : St) : Weak E n st st := fun a w g h => ⟨g, h, Evo.refl _ _ _ _⟩
theorem Weak.trans {n : Nat} {a b c : St} (h : Weak E n a b) (k : Weak E n b c) : Weak E n a c := fun x w g r =>
  let ⟨g1, r1, e1⟩ := h x w g r
  let ⟨g2, r2, e2⟩ := k x w g1 r1
  ⟨g2, r2, e1.trans e2⟩
theorem run_weak {n : Nat} {c : Code} {st st' : St} {K : Post} (h : Weak E n st st') (hr : Run E n c st' K) : Run E n c st K := by
  intro a w g hrel Q hq
  obtain ⟨g', h1, h2⟩ := h a w g hrel
  exact hr a w g' h1 Q (fun ex st2 a' w' g2 k r e => hq ex st2 a' w' g2 k r (h2.trans e))

theorem weak_of_rel {n : Nat} {st st' : St} (h : ∀ a w g, Rel E w g st a → ∃ g', Rel E w g' st' a ∧ Evo E n w g w g') : Weak E n st st' := h

theorem weak_keep (n N : Nat) (ts : List Nat) (l : Fr) (σ : Store) : Weak E n ⟨asFr N l, σ⟩ ⟨asFr N (keep ts l), σ⟩ := by
  refine weak_of_rel fun a w g h => ⟨g, ⟨?_, ?_, h.mem, h.defers⟩, Evo.refl _ _ _ _⟩
  · have := h.size; simpa [asFr] using this
  · intro t x hx
    rw [asFr_get] at hx
    split at hx
    case isFalse => cases hx
    rename_i ht
    cases hx
    rcases look_keep ts l t with e | e
    · rw [e]; exact .junk _ _
    · rw [e]; exact h.slot t _ (by rw [asFr_get, if_pos ht])

theorem run_text (hE : E.Ok) {orc : Option Tmp → Orc} (hO : Orcs E.toBase orc) {m n id : Nat} {l : List Oper} {fr fr' : Fr} {σ σ' : Store} {K : Post} (ts : List Nat)
    (h : regL E orc false n l ts (fr, σ) = some (fr', σ')) {y : Code} (hk : Run E m y ⟨asFr n fr', σ'⟩ K) : Run E m (.seq (.region id l.toArray false) y) ⟨asFr n fr, σ⟩ K := by
  simp only [regL, Option.bind_eq_some_iff, Option.some.injEq, Prod.mk.injEq] at h
  obtain ⟨⟨fr1, σ1⟩, h1, rfl, rfl⟩ := h
  exact run_seq (run_region (stepsL_run hE hO _ _ _ _ _ h1 (run_weak (weak_keep _ _ _ _ _) hk)))

/-! ### Regions that draw their order -/
theorem stepL_draw {orc : Option Tmp → Orc} {n : Nat} {ops : Array Oper} {o : Oper} {fr fr' : Fr} {σ σ' : Store} (h : stepL E orc true n ops o (fr, σ) = some (fr', σ')) :
    stepV E orc ops o ⟨asFr n fr, σ⟩ = some ⟨asFr n fr', σ'⟩ := by
  unfold stepL at h
  have hfz : fzOps true n o.op (fr, σ) = (fr, σ) := by
    unfold fzOps
    split
    · rename_i h0 _; cases h0
    · rfl
  rw [hfz, Bool.true_and] at h
  unfold stepV valA
  simp only [wantA_asFr]
  split at h
  · rename_i hw
    simp only at hw
    simp only [hw]
    simp only [Option.map_eq_some_iff, Prod.mk.injEq] at h
    obtain ⟨⟨v, σ2⟩, e0, rfl, rfl⟩ := h
    rw [Option.bind_eq_some_iff] at e0
    obtain ⟨⟨v1, σ3⟩, e1, e0⟩ := e0
    have : opVal E (orc o.dst) o.op (asFr n fr) σ = some (v1, σ3) := by
      rw [← ev_asFr] at e1
      unfold opVal
      unfold opL at e1
      split
      · rename_i c hop
        simp only [hop] at e1
        split
        · rename_i b hc
          simp only [hc] at e1
          simp only [evOp, hop, hc]
          exact e1
        · rename_i hc
          split at e1
          · rename_i b hb; exact (hc b hb).elim
          cases hown : isOwn E c
          case true =>
            rw [hown] at e1
            rw [if_pos rfl]
            exact e1
          rw [hown] at e1
          rw [if_neg (by simp)]
          simp only [goCall] at e1
          unfold callT at e1
          unfold callA
          split at e1
          case h_2 => cases e1
          rename_i f hf
          simp only [hf]
          split at e1
          case h_3 => cases e1
          case h_2 => cases e1
          rename_i fid hfid
          simp only [hfid]
          rw [← fzL_eq] at e1
          split at e1
          case h_2 => cases e1
          rename_i args ha
          simp only [ha]
          split at e1
          case h_2 => cases e1
          rename_i r hr
          simp only [hr]
          unfold handed at e1
          split at e1
          · rename_i hs
            cases e1
            rw [if_pos (.inl hs)]; rfl
          · split at e1
            · rename_i hs
              cases e1
              rw [if_pos (.inr hs)]; rfl
            · simp at e1
      · rename_i op hop
        split at e1
        · rename_i c hc; exact (hop c hc).elim
        · rw [evOp_eq]; exact e1
    rw [this, Option.bind_some, e0]
    simp only [Option.map_some, setSlot_asFr]
  · rename_i hw
    simp only at hw
    simp only [hw]
    cases h
    simp only [Option.map_some, setSlot_asFr]
  · cases h

theorem stepsL_draw {orc : Option Tmp → Orc} {n : Nat} {ops : Array Oper} : ∀ (k : Nat) (l : List Oper) (fr fr' : Fr) (σ σ' : Store), ops.toList.drop k = l →
    stepsL E orc true n ops l (fr, σ) = some (fr', σ') → stepsV E orc ops (List.range' k l.length) ⟨asFr n fr, σ⟩ = some ⟨asFr n fr', σ'⟩
  | k, [], fr, fr', σ, σ', hl, h => by
    simp only [stepsL, Option.some.injEq, Prod.mk.injEq] at h
    obtain ⟨rfl, rfl⟩ := h
    rfl
  | k, o :: l, fr, fr', σ, σ', hl, h => by
    simp only [stepsL, Option.bind_eq_some_iff] at h
    obtain ⟨⟨fr1, σ1⟩, h1, h2⟩ := h
    have hk : ops[k]? = some o := by
      have : (ops.toList.drop k)[0]? = some o := by rw [hl]; rfl
      rw [List.getElem?_drop] at this
      simpa using this
    have hl' : ops.toList.drop (k + 1) = l := by
      rw [← List.tail_drop, hl]; rfl
    show stepsV E orc ops (k :: List.range' (k + 1) l.length) _ = _
    unfold stepsV
    simp only [hk, stepL_draw h1, Option.bind_some]
    exact stepsL_draw (k + 1) l _ _ _ _ hl' h2

theorem run_draw (hE : E.Ok) {orc : Option Tmp → Orc} (hO : Orcs E.toBase orc) (hP : E.P.follows .mixedOrders = true) {m n id : Nat} {l : List Oper} (T : List (List Nat)) (hok1 : okClo l.toArray T = true) (hok2 : okComm E l.toArray T = true) {fr fr' : Fr} {σ σ' : Store} {K : Post} (ts : List Nat)
    (h : regL E orc true n l ts (fr, σ) = some (fr', σ')) {y : Code} (hk : Run E m y ⟨asFr n fr', σ'⟩ K) : Run E m (.seq (.region id l.toArray true) y) ⟨asFr n fr, σ⟩ K := by
  simp only [regL, Option.bind_eq_some_iff, Option.some.injEq, Prod.mk.injEq] at h
  obtain ⟨⟨fr1, σ1⟩, h1, rfl, rfl⟩ := h
  refine run_seq (region_draw hE hO hP T hok1 hok2 ?_ ?_ (st' := ⟨asFr n fr1, σ1⟩))
  · have := stepsL_draw (E := E) (ops := l.toArray) 0 l fr fr1 σ σ1 (by simp) h1
    rw [List.range_eq_range']
    exact this
  · exact run_weak (weak_keep _ _ _ _ _) hk

/-- A region at the end of a sequence. -/
theorem run_text0 (hE : E.Ok) {orc : Option Tmp → Orc} (hO : Orcs E.toBase orc) {m n id : Nat} {l : List Oper} {fr fr' : Fr} {σ σ' : Store} {K : Post}
    (h : stepsL E orc false n l.toArray l (fr, σ) = some (fr', σ')) (hk : K .normal ⟨asFr n fr', σ'⟩) : Run E m (.region id l.toArray false) ⟨asFr n fr, σ⟩ K :=
  run_region (stepsL_run hE hO _ _ _ _ _ h hk)

theorem run_draw0 (hE : E.Ok) {orc : Option Tmp → Orc} (hO : Orcs E.toBase orc) (hP : E.P.follows .mixedOrders = true) {m n id : Nat} {l : List Oper} (T : List (List Nat)) (hok1 : okClo l.toArray T = true) (hok2 : okComm E l.toArray T = true) {fr fr' : Fr} {σ σ' : Store} {K : Post}
    (h : stepsL E orc true n l.toArray l (fr, σ) = some (fr', σ')) (hk : K .normal ⟨asFr n fr', σ'⟩) : Run E m (.region id l.toArray true) ⟨asFr n fr, σ⟩ K := by
  refine region_draw hE hO hP T hok1 hok2 ?_ hk
  have := stepsL_draw (E := E) (ops := l.toArray) 0 l fr fr' σ σ' (by simp) h
  rw [List.range_eq_range']
  exact this

end Go.Rv
