/-
  Part 17.
-/
import Derived.Test.YtnfoiocigicdnaaGreatDoorYV16
import Derived.Scope
namespace Go.Rv
set_option linter.unusedVariables false
set_option linter.unusedSimpArgs false
variable {E : Env}
abbrev Fr := List (Nat × AV)
def Gk : Fr → Nat → AV
  | [], _ => .junk
  | p :: l, t => if t = p.1 then p.2 else Gk l t
def Am (n : Nat) (l : Fr) : List AV := (List.range n).map (Gk l)
theorem Er (n : Nat) (l : Fr) (t : Nat) : (Am n l)[t]? = if t < n then some (Gk l t) else none := by
  unfold Am
  rw [List.getElem?_map]
  by_cases h : t < n
  · rw [List.getElem?_range h, if_pos h]; rfl
  · rw [if_neg h, List.getElem?_eq_none (by simp; omega)]; rfl
def evL (n : Nat) (l : Fr) : Operand → AV
  | .tmp t => if t < n then Gk l t else .junk
  | .const v => Qi v
  | .global g => .glob g
  | .func f => .fn f []
theorem Hg (n : Nat) (l : Fr) : ev (Am n l) = evL n l := by
  funext x
  cases x with
  | tmp t =>
    simp only [ev, evL, List.getD, Er]
    split <;> rfl
  | _ => rfl
def put (d : Option Tmp) (x : AV) (l : Fr) : Fr :=
  match d with
  | some t => (t, x) :: l
  | none => l
theorem Ih (n : Nat) (l : Fr) (d : Option Tmp) (x : AV) : Bl (Am n l) d x = Am n (put d x l) := by
  cases d with
  | none => rfl
  | some t =>
    refine List.ext_getElem? fun s => ?_
    simp only [Bl, put, List.getElem?_set, Er]
    have hlen : (Am n l).length = n := by simp [Am]
    rw [hlen]
    by_cases h : t = s
    · subst h
      simp only [if_true, Gk]
    · rw [if_neg h]
      simp only [Gk]
      by_cases hs : s < n
      · rw [if_pos hs, if_pos hs, if_neg (fun e => h (Eq.symm e))]
      · rw [if_neg hs, if_neg hs]
def keep (ts : List Nat) (l : Fr) : Fr := ts.map fun t => (t, Gk l t)
theorem AeS (ts : List Nat) (l : Fr) (t : Nat) : Gk (keep ts l) t = .junk ∨ Gk (keep ts l) t = Gk l t := by
  induction ts with
  | nil => exact .inl rfl
  | cons s ts ih =>
    show (if t = s then Gk l s else Gk (keep ts l) t) = .junk ∨ _
    by_cases h : t = s
    · subst h; right; show (if t = t then Gk l t else Gk (keep ts l) t) = _; rw [if_pos rfl]
    · have e : Gk (keep (s :: ts) l) t = Gk (keep ts l) t := by show (if t = s then Gk l s else Gk (keep ts l) t) = _; rw [if_neg h]
      rw [e, if_neg h]; exact ih
def Sj (E : Env) (ρ : Operand → AV) (σ : Ab) (op : Op) : Option (AV × Ab) :=
  match op with
  | .move x | .assign x => some (ρ x, σ)
  | .pick c a b => match ρ c with
    | .bool t => some (if t then ρ a else ρ b, σ)
    | _ => none
  | .alloc t => match E.tab t with
    | some d => if d.size = 0 then none else if E.bty = some t then some (.tref σ.length t, σ ++ [.box (d.zero.map (Gt σ.length)) false]) else some (.ref σ.length 0, σ ++ [.box d.zero false])
    | none => none
  | .box t x => match (ρ x).cells? with
    | some xs => if xs = [] then none else some (.ref σ.length 0, σ ++ [.box xs false])
    | none => none
  | .build t parts => (Yq E t (parts.toList.map fun (i, x) => (i, ρ x))).map fun x => (x, σ)
  | .buildSlice t len parts => D4 E σ t len (parts.toList.map fun (i, x) => (i, ρ x))
  | .load t a => match E.tab t with
    | some d => (loadA E σ d (ρ a)).map fun x => (x, σ)
    | none => none
  | .store t a x => match E.tab t with
    | some d => (storeA σ d (ρ a) (ρ x)).map fun σ' => (.junk, σ')
    | none => none
  | .nilCheck x => match ρ x with
    | .ref id off => some (.ref id off, σ)
    | .tref id t => some (.tref id t, σ)
    | .rp cs => some (.rp cs, σ)
    | .glob g => some (.glob g, σ)
    | .fn f cs => some (.fn f cs, σ)
    | _ => none
  | .binOp op t x y _ => (goB (Rb y) (L3 E op t (ρ x)) (Bq E op t (ρ x) (ρ y))).map fun v => (v, σ)
  | .unOp op _ x => (Wl op (ρ x)).map fun v => (v, σ)
  | .convert s d x => Bb E σ s d (ρ x)
  | .slice t x lo hi mx => H6 E σ t (ρ x) (lo.map ρ) (hi.map ρ) (mx.map ρ)
  | .fieldAddr s x f => (C2 E σ s (ρ x) f).map fun v => (v, σ)
  | .field s x f => (Xy E s (ρ x) f).map fun v => (v, σ)
  | .indexAddr t x i => (As E σ t (ρ x) (ρ i)).map fun v => (v, σ)
  | .index t x i => (L6 E t (ρ x) (ρ i)).map fun v => (v, σ)
  | .makeSlice t l c => Gg E σ t (ρ l) (ρ c)
  | .makeFunc fn first caps => match fn with
    | .func f => if first.toList = [] then (match caps.toList.map ρ with
      | [.tup _] => none
      | cs => some (.fn f cs, σ)) else if caps.toList = [] then some (.fn f [.tup (first.toList.map ρ)], σ) else none
    | _ => none
  | .makeInterface t x => match E.tab t with
    | some d => match d.desc with
      | .interface _ => none
      | _ => some (.iface t (ρ x), σ)
    | none => none
  | .lookup t x k ok => (Gc E σ t (ρ x) (ρ k) ok).map fun v => (v, σ)
  | .makeMap t none => some (.mref σ.length, σ ++ [.obj (.map #[] 0)])
  | .insert t m k x => (Vw E σ t (ρ m) (ρ k) (ρ x)).map fun σ' => (.junk, σ')
  | .range t x => match Ry E t, ρ x with
    | true, .str s => some (.ref σ.length 0, σ ++ [.obj (.stringIter ⟨s.toArray⟩ 0)])
    | _, _ => none
  | .next it true => match ρ it with
    | .ref id 0 => match σ[id]? with
      | some (.obj (.stringIter s pos)) => if pos < s.size then some (.tup [.bool true, .int .i64 (pos : Int), .int .i32 (Utf8.decode s pos).1], σ.set id (.obj (.stringIter s (pos + (Utf8.decode s pos).2)))) else some (.tup [.bool false], σ)
      | _ => none
    | _ => none
  | .extract x i => match ρ x with
    | .tup vs => match vs[i]? with
      | some v => some (v, σ)
      | none => none
    | _ => none
  | .call c => match c.callee with
    | .builtin b => Cs E σ b c.argTypes.toList (c.args.toList.map ρ)
    | _ => none
  | _ => none
theorem Zk (fr : List AV) (σ : Ab) (op : Op) : Fx E fr σ op = Sj E (ev fr) σ op := by cases op <;> rfl
def fzL (σ : Ab) : List AV → Option (List AV)
  | [] => some []
  | x :: l => (fz σ x).bind fun y => (fzL σ l).bind fun ys => some (y :: ys)
theorem AbC (σ : Ab) : ∀ l : List AV, l.mapM (fz σ) = fzL σ l
  | [] => rfl
  | x :: l => by rw [List.mapM_cons, AbC σ l]; rfl
def Abb (r : AV) (dr : Bool) (σ : Ab) (ids : List Nat) : Option (AV × Ab) :=
  if r.scalar = true then some (r, σ) else if ids = [] then some (r, σ) else if dr = true then none else some (r, J9 σ ids)
def AeT (orc : Orc) (dr : Bool) (ρ : Operand → AV) (σ : Ab) (c : Call) : Option (AV × Ab) :=
  match c.callee with
  | .value f => match ρ f with
    | .fn fid [] => match fzL σ (c.args.toList.map ρ) with
      | some args => match orc.fz fid args with
        | some r => Abb r dr σ ((c.args.toList.map ρ).flatMap Ch)
        | none => none
      | none => none
    | .fn fid [.tup xs] => match dr with
      | true => none
      | false => orc.own fid (xs ++ c.args.toList.map ρ) σ
    | .fn fid cs => match dr with
      | true => none
      | false => orc.own fid (c.args.toList.map ρ ++ cs) σ
    | _ => none
  | _ => none
def ownT (orc : Orc) (ρ : Operand → AV) (σ : Ab) (c : Call) : Option (AV × Ab) :=
  match c.callee with
  | .value f => match ρ f with
    | .fn fid [] => orc.own fid (c.args.toList.map ρ) σ
    | _ => none
  | _ => none
def Abo (b : Bool) (x y : Option (AV × Ab)) : Option (AV × Ab) := match b with
  | true => x
  | false => y
def opL (E : Env) (orc : Orc) (dr : Bool) (ρ : Operand → AV) (σ : Ab) (op : Op) : Option (AV × Ab) :=
  match op with
  | .call c => match c.callee with
    | .builtin b => Cs E σ b c.argTypes.toList (c.args.toList.map ρ)
    | _ => Abo (Yf E c) (ownT orc ρ σ c) (AeT orc dr ρ σ c)
  | op => Sj E ρ σ op
def Xe (ops : Array Oper) (n : Nat) (l : Fr) (j : Nat) : Option (Option Bool) :=
  match (ops[j]?).bind (·.dst) with
  | some d => match evL n l (.tmp d) with
    | .bool b => some (some b)
    | .tup _ => some none
    | _ => none
  | none => none
def Wy (ops : Array Oper) (n : Nat) (l : Fr) (o : Oper) : Option Bool :=
  match o.guard with
  | none => some true
  | some (j, want) => (Xe ops n l j).map (· == some want)
def Xt (n : Nat) (t : Nat) (s : Fr × Ab) : Fr × Ab :=
  if t < n then match Ch (Gk s.1 t) with
    | [] => s
    | ids => match fz s.2 (Gk s.1 t) with
      | some y => ((t, y) :: s.1, J9 s.2 ids)
      | none => s
  else s
def Aco (n : Nat) : List (Nat × Operand) → Fr × Ab → Fr × Ab
  | [], s => s
  | p :: l, s => Aco n l (match p.2 with
    | .tmp t => Xt n t s
    | _ => s)
def Ke (dr : Bool) (n : Nat) (op : Op) (s : Fr × Ab) : Fr × Ab :=
  match dr, op with
  | false, .buildSlice _ _ parts => Aco n parts.toList s
  | _, _ => s
def X8 (E : Env) (orc : Option Tmp → Orc) (dr : Bool) (n : Nat) (ops : Array Oper) (o : Oper) (s : Fr × Ab) : Option (Fr × Ab) :=
  match Wy ops n s.1 o with
  | some true => ((opL E (orc o.dst) dr (evL n (Ke dr n o.op s).1) (Ke dr n o.op s).2 o.op).bind (Jq (dr && Ky E ops o) (Ke dr n o.op s).2)).map fun r => (put o.dst r.1 (Ke dr n o.op s).1, r.2)
  | some false => some (put o.dst (.tup []) s.1, s.2)
  | none => none
def E2 (E : Env) (orc : Option Tmp → Orc) (dr : Bool) (n : Nat) (ops : Array Oper) : List Oper → Fr × Ab → Option (Fr × Ab)
  | [], s => some s
  | o :: l, s => (X8 E orc dr n ops o s).bind (E2 E orc dr n ops l)
def Oy (E : Env) (orc : Option Tmp → Orc) (dr : Bool) (n : Nat) (l : List Oper) (ts : List Nat) (s : Fr × Ab) : Option (Fr × Ab) :=
  (E2 E orc dr n l.toArray l s).bind fun r => some (keep ts r.1, r.2)
theorem Q7 (ops : Array Oper) (n : Nat) (l : Fr) (j : Nat) : Pa ops (Am n l) j = Xe ops n l j := by
  unfold Pa Xe
  split
  · rename_i d hd
    simp only [hd, Er, evL]
    by_cases h : d < n
    · rw [if_pos h, if_pos h]
      cases Gk l d <;> rfl
    · rw [if_neg h, if_neg h]
  · rename_i hd
    simp only [hd]
theorem Ab5 (ops : Array Oper) (n : Nat) (l : Fr) (o : Oper) : Qe ops (Am n l) o = Wy ops n l o := by
  unfold Qe Wy
  split
  · simp_all
  · rename_i j w h; simp only [h, Q7]
def Nu (B : Base) (orc : Option Tmp → Orc) : Prop := ∀ d, S3 B (orc d)
theorem AdW (hE : E.Ok) {orc : Orc} (hO : S3 E.toBase orc) {o : Oper} {n : Nat} {fr : Fr} {σ : Ab} {r : AV × Ab} (h : opL E orc false (evL n fr) σ o.op = some r)
    {a : Act} {w : World} {g : Gh} (hr : Rel E w g ⟨Am n fr, σ⟩ a) {next : Act → World → Prop} {Q : Exit → Act → World → Prop}
    (hk : ∀ a' w' g', Rel E w' g' ⟨Am n (put o.dst r.1 fr), r.2⟩ a' → Evo E 0 w g w' g' → GLe g g' → next a' w') : o.wp E.P a w next Q := by
  rw [← Hg] at h
  have hk' : ∀ a' w' g', Rel E w' g' ⟨Bl (Am n fr) o.dst r.1, r.2⟩ a' → Evo E 0 w g w' g' → GLe g g' → next a' w' := fun a' w' g' h1 h2 h3 => hk a' w' g' (by rw [Ih] at h1; exact h1) h2 h3
  have plain : Fx E (Am n fr) σ o.op = some r → o.wp E.P a w next Q := by
    intro h
    obtain ⟨v, w', g', h1, h2, h3, h4, h5⟩ := On (x := r.1) (σ' := r.2) hE hr h
    unfold Oper.wp
    exact Aas h1 (hk' _ w' g' (It (J5 hr h2 h3 h4) o.dst h5) h4 h3)
  cases hop : o.op with
  | call c =>
    simp only [hop, opL] at h
    cases hc : c.callee <;> simp only [hc] at h
    case builtin b => exact plain (by rw [hop]; simp only [Fx, hc]; exact h)
    all_goals (cases hown : Yf E c <;> simp only [hown, Abo] at h)
    all_goals try (exact AhM (st := ⟨Am n fr, σ⟩) hO hop h hr hk')
    all_goals try (simp [AeT, hc] at h; done)
    rename_i f
    unfold AeT at h
    simp only [hc] at h
    split at h
    case h_4 => cases h
    case h_3 =>
      rename_i fid cs _ hnt hf
      exact Z2 (st := ⟨Am n fr, σ⟩) hop hc (fun ys e => hnt ys e) hf (Aak (hO.2 _ _ _ r.1 r.2 h E.F)) hr hk'
    case h_2 =>
      rename_i fid xs hf
      exact Uu (st := ⟨Am n fr, σ⟩) hop hc hf (Aak (hO.2 _ _ _ r.1 r.2 h E.F)) hr hk'
    rename_i fid hf
    split at h
    case h_2 => cases h
    rename_i args ha
    rw [← AbC] at ha
    split at h
    case h_2 => cases h
    rename_i r2 ho
    unfold Abb at h
    split at h
    · rename_i hs
      cases h
      exact L1 hop hc hf ha hs ((hO.1 _ _ _ ho).mono fun _ _ h => h.1) hr hk'
    · split at h
      · rename_i hs
        cases h
        refine Iv hop hc hf ha (hO.1 _ _ _ ho) hr ?_
        rw [hs]
        exact hk'
      · cases h
        exact Iv hop hc hf ha (hO.1 _ _ _ ho) hr hk'
  | _ => exact plain (by rw [hop, Zk]; simp only [hop] at h; exact h)
theorem Acd {w : World} {g : Gh} {n : Nat} {s : Fr × Ab} {a : Act} (hr : Rel E w g ⟨Am n s.1, s.2⟩ a) (m t : Nat) :
    ∃ g', Rel E w g' ⟨Am n (Xt n t s).1, (Xt n t s).2⟩ a ∧ Evo E m w g w g' := by
  unfold Xt
  split
  case isFalse => exact ⟨g, hr, Evo.refl _ _ _ _⟩
  rename_i htn
  split
  · exact ⟨g, hr, Evo.refl _ _ _ _⟩
  · rename_i hids
    cases hy : fz s.2 (Gk s.1 t) with
    | none => exact ⟨g, hr, Evo.refl _ _ _ _⟩
    | some y =>
    obtain ⟨g1, m1, hle, he, hs, hp⟩ := Lg (Ch (Gk s.1 t)) hr.mem
    refine ⟨g1, ⟨?_, ?_, m1, hr.defers⟩, he.of_gle hle⟩
    · have := hr.size; simpa [Am] using this
    · intro u x hx
      rw [Er] at hx
      split at hx
      case isFalse => cases hx
      rename_i hun
      cases hx
      show Rep _ _ _ _ (if u = t then y else Gk s.1 u)
      have hslot := hr.slot u (Gk s.1 u) (by rw [Er, if_pos hun])
      by_cases e : u = t
      · subst e
        rw [if_pos rfl]
        refine (Tk hr.mem hslot hy hp ?_).mono (fun a u hcc hpr => ⟨hcc, hpr⟩) (GLe.nil _)
        intro id b hix hb β off hβ hoff
        obtain ⟨k, els, ro, hσ⟩ := Ab3 hy hix
        obtain ⟨ro', hσ'⟩ := N5 (Ch (Gk s.1 u)) s.2 id hσ
        obtain ⟨b1, hb1, t1, t2, t3, t4, t5, t6⟩ := hs id b hb
        have hro := Rq (Ch (Gk s.1 u)) s.2 id (.inl hix) _ _ _ hσ'
        have hbro : b1.ro = true := by rw [(m1.blk id b1 _ hb1 hσ').2.1, hro]
        refine ⟨fun hF => (m1.foreign _ hF).2 ⟨id, b1, hb1, t1.trans hβ⟩, fun id' c hc he' => ?_⟩
        have : id' = id := m1.inj id' id c b1 β hc hb1 he' (t1.trans hβ)
        subst this
        rw [hb1] at hc; cases hc
        exact ⟨hbro, by rw [t2, t3, t4]; exact hoff⟩
      · rw [if_neg e]
        exact hslot.mono (fun a u hc hpr => ⟨hc, hp a hpr⟩) hle
theorem R1 {w : World} {n : Nat} {a : Act} (m : Nat) : ∀ (l : List (Nat × Operand)) (g : Gh) (s : Fr × Ab), Rel E w g ⟨Am n s.1, s.2⟩ a →
    ∃ g', Rel E w g' ⟨Am n (Aco n l s).1, (Aco n l s).2⟩ a ∧ Evo E m w g w g'
  | [], g, s, hr => ⟨g, hr, Evo.refl _ _ _ _⟩
  | p :: l, g, s, hr => by
    unfold Aco
    split
    · rename_i t ht
      obtain ⟨g1, h1, e1⟩ := Acd hr m t
      obtain ⟨g2, h2, e2⟩ := R1 m l g1 _ h1
      exact ⟨g2, h2, e1.trans e2⟩
    · exact R1 m l g s hr
theorem Ae4 {w : World} {g : Gh} {n : Nat} {s : Fr × Ab} {a : Act} (hr : Rel E w g ⟨Am n s.1, s.2⟩ a) (m : Nat) (dr : Bool) (op : Op) :
    ∃ g', Rel E w g' ⟨Am n (Ke dr n op s).1, (Ke dr n op s).2⟩ a ∧ Evo E m w g w g' := by
  unfold Ke
  split
  · exact R1 m _ g s hr
  · exact ⟨g, hr, Evo.refl _ _ _ _⟩
theorem J4 (hE : E.Ok) {orc : Option Tmp → Orc} (hO : Nu E.toBase orc) {m n : Nat} {ops : Array Oper} {K : Dx} {rest : List Oper} : ∀ (l : List Oper) (fr : Fr) (σ : Ab) (fr' : Fr) (σ' : Ab),
    E2 E orc false n ops l (fr, σ) = some (fr', σ') → Yk E m ops rest ⟨Am n fr', σ'⟩ K → Yk E m ops (l ++ rest) ⟨Am n fr, σ⟩ K
  | [], fr, σ, fr', σ', h, hk => by
    simp only [E2, Option.some.injEq, Prod.mk.injEq] at h
    obtain ⟨rfl, rfl⟩ := h
    exact hk
  | o :: l, fr, σ, fr', σ', h, hk => by
    simp only [E2, Option.bind_eq_some_iff] at h
    obtain ⟨⟨fr1, σ1⟩, h1, h2⟩ := h
    intro a w g hr Q hq
    unfold X8 at h1
    have efz : ∀ σ, Jq (false && Ky E ops o) σ = some := fun σ => by funext r; simp [Jq]
    rw [efz, C7] at h1
    obtain ⟨g1, hr1, he1⟩ := Ae4 (s := (fr, σ)) hr m false o.op
    generalize hfz : Ke false n o.op (fr, σ) = s1 at h1 hr1
    have hgo : ∀ {v : AV} {σ2 : Ab}, opL E (orc o.dst) false (evL n s1.1) s1.2 o.op = some (v, σ2) → fr1 = put o.dst v s1.1 → σ1 = σ2 → o.wp E.P a w (wpList E.P ops Q (l ++ rest)) Q := by
      intro v σ2 e1 e2 e3
      subst e2 e3
      refine AdW hE (hO _) e1 hr1 ?_
      intro a' w' g' hr' he hg
      refine J4 (m := m) hE hO l _ _ _ _ h2 hk a' w' g' hr' Q ?_
      intro ex st' a2 w2 g2 k r e
      exact hq ex st' a2 w2 g2 k r (he1.trans ((he.of_gle hg).trans e))
    cases hgd : o.guard with
    | none =>
      simp only [Wy, hgd, Option.map_eq_some_iff, Prod.mk.injEq] at h1
      obtain ⟨⟨v, σ2⟩, e1, e2, e3⟩ := h1
      simp only [List.cons_append, wpList, Region.wanted, hgd, if_true]
      exact .inl (hgo e1 e2.symm e3.symm)
    | some jw =>
      obtain ⟨j, want⟩ := jw
      simp only [Wy, hgd] at h1
      cases hy : Xe ops n fr j with
      | none => simp [hy] at h1
      | some b =>
        simp only [hy, Option.map_some] at h1
        have hy' : Pa ops (Am n fr) j = some b := by rw [Q7, hy]
        simp only [List.cons_append, wpList, Region.wanted, hgd, O2 hr hy']
        by_cases e : b = some want
        · rw [if_pos (by simp [e])]
          rw [show (b == some want) = true by simp [e]] at h1
          simp only [Option.map_eq_some_iff, Prod.mk.injEq] at h1
          obtain ⟨⟨v, σ2⟩, e1, e2, e3⟩ := h1
          exact .inl (hgo e1 e2.symm e3.symm)
        · rw [if_neg (by simp [e])]
          rw [show (b == some want) = false by simp [e]] at h1
          simp only [Option.some.injEq, Prod.mk.injEq] at h1
          obtain ⟨e2, e3⟩ := h1
          subst e2 e3
          refine J4 hE hO l _ _ _ _ h2 hk _ w g ?_ Q hq
          have := It hr o.dst (X0 _ _ _)
          rw [Ih] at this
          exact this
theorem Oj (hE : E.Ok) {orc : Option Tmp → Orc} (hO : Nu E.toBase orc) {m n : Nat} {ops : Array Oper} {K : Dx} (l : List Oper) (fr : Fr) (σ : Ab) (fr' : Fr) (σ' : Ab)
    (h : E2 E orc false n ops l (fr, σ) = some (fr', σ')) (hk : K .normal ⟨Am n fr', σ'⟩) : Yk E m ops l ⟨Am n fr, σ⟩ K := by
  have := J4 (m := m) (rest := []) hE hO l fr σ fr' σ' h (AjE hk)
  rwa [List.append_nil] at this
def Weak (E : Env) (n : Nat) (st st' : St) : Prop := ∀ a w g, Rel E w g st a → ∃ g', Rel E w g' st' a ∧ Evo E n w g w g'
theorem Weak.refl (n : Nat) (st : St) : Weak E n st st := fun a w g h => ⟨g, h, Evo.refl _ _ _ _⟩
theorem Weak.trans {n : Nat} {a b c : St} (h : Weak E n a b) (k : Weak E n b c) : Weak E n a c := fun x w g r =>
  let ⟨g1, r1, e1⟩ := h x w g r
  let ⟨g2, r2, e2⟩ := k x w g1 r1
  ⟨g2, r2, e1.trans e2⟩
theorem Fp {n : Nat} {c : Code} {st st' : St} {K : Dx} (h : Weak E n st st') (hr : Run E n c st' K) : Run E n c st K := by
  intro a w g hrel Q hq
  obtain ⟨g', h1, h2⟩ := h a w g hrel
  exact hr a w g' h1 Q (fun ex st2 a' w' g2 k r e => hq ex st2 a' w' g2 k r (h2.trans e))
theorem Hi {n : Nat} {st st' : St} (h : ∀ a w g, Rel E w g st a → ∃ g', Rel E w g' st' a ∧ Evo E n w g w g') : Weak E n st st' := h
theorem Hy (n N : Nat) (ts : List Nat) (l : Fr) (σ : Ab) : Weak E n ⟨Am N l, σ⟩ ⟨Am N (keep ts l), σ⟩ := by
  refine Hi fun a w g h => ⟨g, ⟨?_, ?_, h.mem, h.defers⟩, Evo.refl _ _ _ _⟩
  · have := h.size; simpa [Am] using this
  · intro t x hx
    rw [Er] at hx
    split at hx
    case isFalse => cases hx
    rename_i ht
    cases hx
    rcases AeS ts l t with e | e
    · rw [e]; exact .junk _ _
    · rw [e]; exact h.slot t _ (by rw [Er, if_pos ht])
theorem Abl (hE : E.Ok) {orc : Option Tmp → Orc} (hO : Nu E.toBase orc) {m n id : Nat} {l : List Oper} {fr fr' : Fr} {σ σ' : Ab} {K : Dx} (ts : List Nat)
    (h : Oy E orc false n l ts (fr, σ) = some (fr', σ')) {y : Code} (hk : Run E m y ⟨Am n fr', σ'⟩ K) : Run E m (.seq (.region id l.toArray false) y) ⟨Am n fr, σ⟩ K := by
  simp only [Oy, Option.bind_eq_some_iff, Option.some.injEq, Prod.mk.injEq] at h
  obtain ⟨⟨fr1, σ1⟩, h1, rfl, rfl⟩ := h
  exact L9 (Lh (Oj hE hO _ _ _ _ _ h1 (Fp (Hy _ _ _ _ _) hk)))
theorem Th {orc : Option Tmp → Orc} {n : Nat} {ops : Array Oper} {o : Oper} {fr fr' : Fr} {σ σ' : Ab} (h : X8 E orc true n ops o (fr, σ) = some (fr', σ')) :
    Em E orc ops o ⟨Am n fr, σ⟩ = some ⟨Am n fr', σ'⟩ := by
  unfold X8 at h
  have hfz : Ke true n o.op (fr, σ) = (fr, σ) := by
    unfold Ke
    split
    · rename_i h0 _; cases h0
    · rfl
  rw [hfz, Bool.true_and] at h
  unfold Em Ib
  simp only [Ab5]
  split at h
  · rename_i hw
    simp only at hw
    simp only [hw]
    simp only [Option.map_eq_some_iff, Prod.mk.injEq] at h
    obtain ⟨⟨v, σ2⟩, e0, rfl, rfl⟩ := h
    rw [Option.bind_eq_some_iff] at e0
    obtain ⟨⟨v1, σ3⟩, e1, e0⟩ := e0
    have : D3 E (orc o.dst) o.op (Am n fr) σ = some (v1, σ3) := by
      rw [← Hg] at e1
      unfold D3
      unfold opL at e1
      split
      · rename_i c hop
        simp only [hop] at e1
        split
        · rename_i b hc
          simp only [hc] at e1
          simp only [Fx, hop, hc]
          exact e1
        · rename_i hc
          split at e1
          · rename_i b hb; exact (hc b hb).elim
          cases hown : Yf E c
          case true =>
            rw [hown] at e1
            rw [if_pos rfl]
            exact e1
          rw [hown] at e1
          rw [if_neg (by simp)]
          simp only [Abo] at e1
          unfold AeT at e1
          unfold Oi
          split at e1
          case h_2 => cases e1
          rename_i f hf
          simp only [hf]
          split at e1
          case h_4 => cases e1
          case h_3 => cases e1
          case h_2 => cases e1
          rename_i fid hfid
          simp only [hfid]
          rw [← AbC] at e1
          split at e1
          case h_2 => cases e1
          rename_i args ha
          simp only [ha]
          split at e1
          case h_2 => cases e1
          rename_i r hr
          simp only [hr]
          unfold Abb at e1
          split at e1
          · rename_i hs
            cases e1
            rw [if_pos (.inl hs)]; rfl
          · split at e1
            · rename_i hs
              cases e1
              rw [if_pos (.inr hs)]; rfl
            · simp at e1
      · rename_i op hop
        split at e1
        · rename_i c hc; exact (hop c hc).elim
        · rw [Zk]; exact e1
    rw [this, Option.bind_some, e0]
    simp only [Option.map_some, Ih]
  · rename_i hw
    simp only at hw
    simp only [hw]
    cases h
    simp only [Option.map_some, Ih]
  · cases h
theorem He {orc : Option Tmp → Orc} {n : Nat} {ops : Array Oper} : ∀ (k : Nat) (l : List Oper) (fr fr' : Fr) (σ σ' : Ab), ops.toList.drop k = l →
    E2 E orc true n ops l (fr, σ) = some (fr', σ') → B9 E orc ops (List.range' k l.length) ⟨Am n fr, σ⟩ = some ⟨Am n fr', σ'⟩
  | k, [], fr, fr', σ, σ', hl, h => by
    simp only [E2, Option.some.injEq, Prod.mk.injEq] at h
    obtain ⟨rfl, rfl⟩ := h
    rfl
  | k, o :: l, fr, fr', σ, σ', hl, h => by
    simp only [E2, Option.bind_eq_some_iff] at h
    obtain ⟨⟨fr1, σ1⟩, h1, h2⟩ := h
    have hk : ops[k]? = some o := by
      have : (ops.toList.drop k)[0]? = some o := by rw [hl]; rfl
      rw [List.getElem?_drop] at this
      simpa using this
    have hl' : ops.toList.drop (k + 1) = l := by
      rw [← List.tail_drop, hl]; rfl
    show B9 E orc ops (k :: List.range' (k + 1) l.length) _ = _
    unfold B9
    simp only [hk, Th h1, Option.bind_some]
    exact He (k + 1) l _ _ _ _ hl' h2
theorem AbW (hE : E.Ok) {orc : Option Tmp → Orc} (hO : Nu E.toBase orc) (hP : E.P.follows .mixedOrders = true) {m n id : Nat} {l : List Oper} (T : List (List Nat)) (hok1 : K5 l.toArray T = true) (hok2 : M1 E l.toArray T = true) {fr fr' : Fr} {σ σ' : Ab} {K : Dx} (ts : List Nat)
    (h : Oy E orc true n l ts (fr, σ) = some (fr', σ')) {y : Code} (hk : Run E m y ⟨Am n fr', σ'⟩ K) : Run E m (.seq (.region id l.toArray true) y) ⟨Am n fr, σ⟩ K := by
  simp only [Oy, Option.bind_eq_some_iff, Option.some.injEq, Prod.mk.injEq] at h
  obtain ⟨⟨fr1, σ1⟩, h1, rfl, rfl⟩ := h
  refine L9 (Sa hE hO hP T hok1 hok2 ?_ ?_ (st' := ⟨Am n fr1, σ1⟩))
  · have := He (E := E) (ops := l.toArray) 0 l fr fr1 σ σ1 (by simp) h1
    rw [List.range_eq_range']
    exact this
  · exact Fp (Hy _ _ _ _ _) hk
theorem Yv (hE : E.Ok) {orc : Option Tmp → Orc} (hO : Nu E.toBase orc) {m n id : Nat} {l : List Oper} {fr fr' : Fr} {σ σ' : Ab} {K : Dx}
    (h : E2 E orc false n l.toArray l (fr, σ) = some (fr', σ')) (hk : K .normal ⟨Am n fr', σ'⟩) : Run E m (.region id l.toArray false) ⟨Am n fr, σ⟩ K :=
  Lh (Oj hE hO _ _ _ _ _ h hk)
theorem AeW (hE : E.Ok) {orc : Option Tmp → Orc} (hO : Nu E.toBase orc) (hP : E.P.follows .mixedOrders = true) {m n id : Nat} {l : List Oper} (T : List (List Nat)) (hok1 : K5 l.toArray T = true) (hok2 : M1 E l.toArray T = true) {fr fr' : Fr} {σ σ' : Ab} {K : Dx}
    (h : E2 E orc true n l.toArray l (fr, σ) = some (fr', σ')) (hk : K .normal ⟨Am n fr', σ'⟩) : Run E m (.region id l.toArray true) ⟨Am n fr, σ⟩ K := by
  refine Sa hE hO hP T hok1 hok2 ?_ hk
  have := He (E := E) (ops := l.toArray) 0 l fr fr' σ σ' (by simp) h
  rw [List.range_eq_range']
  exact this
end Go.Rv
