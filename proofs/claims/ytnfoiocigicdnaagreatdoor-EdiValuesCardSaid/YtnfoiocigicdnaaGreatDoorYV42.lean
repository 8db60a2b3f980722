/-
  Part 42.
-/
import Derived.Test.YtnfoiocigicdnaaGreatDoorYV41
import Derived.KernelRfl
namespace Go.Rv
set_option linter.unusedVariables false
set_option linter.unusedSimpArgs false
variable {E : Env} {P : Prop} {n m : Nat} {K : Dx} {st : St}
theorem Sq {x y : Code} (k : P → Run E n x st (Uf E n y K)) : P → Run E n (.seq x y) st K := fun p => L9 (k p)
theorem Sk (k : P → K .normal st) : P → Run E n .skip st K := fun p => Wg (k p)
theorem Sr (k : P → K .ret st) : P → Run E n .ret st K := fun p => Vo (k p)
theorem Sx {i : Nat} (k : P → K (.exit i) st) : P → Run E n (.exit i) st K := fun p => AgE (k p)
theorem Sb {i : Nat} {c : Code} (k : P → Run E n c st (I3 i K)) : P → Run E n (.block i c) st K := fun p => Afd (k p)
theorem Tn {y : Code} (k : P → Run E n y st K) : P → Uf E n y K .normal st := k
theorem Tx {y : Code} {i : Nat} (k : P → K (.exit i) st) : P → Uf E n y K (.exit i) st := k
theorem Tr {y : Code} (k : P → K .ret st) : P → Uf E n y K .ret st := k
theorem Bn {i : Nat} (k : P → K .normal st) : P → I3 i K .normal st := k
theorem Bx {i : Nat} (k : P → K .normal st) : P → I3 i K (.exit i) st := fun p => AfZ (k p)
theorem Bo {i j : Nat} (k : P → K (.exit j) st) (hne : (j == i) = false := by rfl) : P → I3 i K (.exit j) st := fun p => Ahc (k p) hne
theorem Br {i : Nat} (k : P → K .ret st) : P → I3 i K .ret st := k
theorem Un {c : Code} (k : P → LoopN E n c K m st) : P → unK E n c m K .normal st := k
theorem Ux {c : Code} {i : Nat} (k : P → K (.exit i) st) : P → unK E n c m K (.exit i) st := k
theorem Ug {c : Code} (k : P → Run E n c st (unK E n c m K)) : P → LoopN E n c K (m + 1) st := fun p => Ahy (k p)
theorem Ul (i : Nat) {c : Code} (k : P → LoopN E n c K i st) : P → Run E n (.loop c) st K := fun p => Abk i (k p)
theorem Rw {c : Code} {st' : St} (w : Weak E n st st') (k : P → Run E n c st' K) : P → Run E n c st K := fun p => Fp w (k p)
theorem Ck {α : Type} {c : Prop} [Decidable c] {x : Option α} {r : α} {G : Prop} (k : c → x = some r → G) : (if c then x else none) = some r → G := fun h => k (Vv h).1 (Vv h).2
theorem Bd {α β : Type} {x : Option α} {f : α → Option β} {r : β} {G : Prop} (k : ∀ y, x = some y → f y = some r → G) : x.bind f = some r → G := fun h => match Az h with
  | ⟨y, h1, h2⟩ => k y h1 h2
theorem Lt {α β : Type} {x : α} {f : α → Option β} {r : β} {G : Prop} (k : ∀ y, y = x → f y = some r → G) : lt1 x f = some r → G := fun h => k x rfl h
theorem Sp {α : Type} {c : Bool} {x y : Option α} {r : α} {G : Prop} (kt : c = true → x = some r → G) (kf : c = false → y = some r → G) : (if c = true then x else y) = some r → G := fun h => match hc : c, h with
  | true, h => kt rfl (AkX h rfl)
  | false, h => kf rfl (Amj h rfl)
theorem Cd {α : Type} {N t : Nat} {b : Bool} {p q : Option α} {r : α} {x y : Code} {l : Fr} {σ : Ab} (kt : p = some r → Run E n x ⟨Am N l, σ⟩ K) (kf : q = some r → Run E n y ⟨Am N l, σ⟩ K) (hc : Gk l t = .bool b := by rfl) (hN : t < N := by decide) :
    (if b = true then p else q) = some r → Run E n (.cond (.tmp t) x y) ⟨Am N l, σ⟩ K := fun h => Hl hc hN (fun hb => kt (AkX h hb)) (fun hb => kf (Amj h hb))
theorem Ct {N t : Nat} {x y : Code} {l : Fr} {σ : Ab} (k : P → Run E n x ⟨Am N l, σ⟩ K) (hc : Gk l t = .bool true := by rfl) (hN : t < N := by decide) : P → Run E n (.cond (.tmp t) x y) ⟨Am N l, σ⟩ K := fun p => Hl hc hN (fun _ => k p) (fun hb => by cases hb)
theorem Cf {N t : Nat} {x y : Code} {l : Fr} {σ : Ab} (k : P → Run E n y ⟨Am N l, σ⟩ K) (hc : Gk l t = .bool false := by rfl) (hN : t < N := by decide) : P → Run E n (.cond (.tmp t) x y) ⟨Am N l, σ⟩ K := fun p => Hl hc hN (fun hb => by cases hb) (fun _ => k p)
def Is (o : Option (Fr × Ab)) (f : Fr) (s : Ab) : Prop := o = some (f, s)
theorem Ad {f : Fr} {s : Ab} : Is (some (f, s)) f s := rfl
theorem Ev {o : Option (Fr × Ab)} {f : Fr} {s : Ab} (h : Is o f s := by simp only [go_sem]; exact Ad) : Is o f s := h
theorem gs {p : Prop} (h : p := by simp only [go_sem]) : p := h
theorem qR {x : Int} {k : Nat} (h : InR x k) : InR x k ∧ x.toNat < k ∧ x.toNat + 1 ≤ k := ⟨h, h.2, h.2⟩
theorem qL {k j : Nat} (h : InR (OfNat.ofNat k) j) : InR (OfNat.ofNat k) j ∧ k < j := ⟨h, h.2⟩
theorem qN {k j : Nat} (h : InR (k : Int) j) : InR (k : Int) j ∧ k < j ∧ k + 1 ≤ j := ⟨h, Oo h, Oo h⟩
theorem ws {N : Nat} {l l' : Fr} {σ σ' : Ab} (sel : List Nat) (hσ : Kb sel σ sel σ' := by simp only [go_sem]) (hf : Akd sel l l' := by simp only [go_sem]) (hnd : sel.Nodup := by decide) (hn : sel.take n = List.range n := by rfl) : Weak E n ⟨Am N l, σ⟩ ⟨Am N l', σ'⟩ := Abu sel hnd hn hσ hf
theorem o1 {B : Base} (d : Nat) {f : FuncId} {a : List AV} {r : AV} (h : Con B f a [] (fun r' σ' => r' = r ∧ σ' = [])) : Nu B (Acm [(d, f, a, r)] []) := Gz ⟨h, trivial⟩
theorem o2 {B : Base} (d : Nat) {f : FuncId} {a : List AV} {r : AV} (h : Con B f a [] (fun r' σ' => r' = r ∧ σ' = [])) (d2 : Nat) {f2 : FuncId} {a2 : List AV} {r2 : AV} (h2 : Con B f2 a2 [] (fun r' σ' => r' = r2 ∧ σ' = [])) : Nu B (Acm [(d, f, a, r), (d2, f2, a2, r2)] []) := Gz ⟨h, h2, trivial⟩
theorem wc {B : Base} {f : FuncId} {args1 : List AV} {σ1 : Ab} {r1 : AV} {σ2 : Ab} (hcon : Con B f args1 σ1 (fun r σ' => r = r1 ∧ σ' = σ2)) {σ : Ab} {args : List AV} (sel : List Nat) {r : AV} {σ' : Ab} (hσ : Kb sel σ sel σ1 := by simp only [go_sem])
    (ha : wkA sel args args1 := by simp only [go_sem]) (hb : C8 σ2 = true := by simp only [go_sem]) (hr : AbE sel σ.length r1 = r := by first | (simp only [go_sem]; done) | (simp only [go_sem]; exact rfl) | exact rfl) (hs : O1 σ sel (σ2.map (Ahd sel σ.length)) = σ' := by first | (simp only [go_sem]; done) | (simp only [go_sem]; exact rfl) | exact rfl) (hnd : sel.Nodup := by decide) : ∀ F, Wv (B.env F) f args σ r σ' := AeL hcon sel hnd hσ ha hb hr hs
section
variable {N id : Nat} {l : List Oper} {fr fr' : Fr} {σ σ' : Ab} {y : Code} {orc : Option Tmp → Orc}
theorem Te (ts : List Nat) (o : Nu E.toBase orc) (e : Is (Oy E orc false N l ts (fr, σ)) fr' σ') (k : P → Run E m y ⟨Am N fr', σ'⟩ K) (hE : E.Ok := by assumption) : P → Run E m (.seq (.region id l.toArray false) y) ⟨Am N fr, σ⟩ K := fun p => Ca hE ts ⟨_, o, e⟩ (k p)
theorem T0 (ts : List Nat) (k : P → Run E m y ⟨Am N fr', σ'⟩ K) (e : Is (Oy E (Acm [] []) false N l ts (fr, σ)) fr' σ' := by simp only [go_sem]; exact Ad) (hE : E.Ok := by assumption) : P → Run E m (.seq (.region id l.toArray false) y) ⟨Am N fr, σ⟩ K := fun p => Ca hE ts ⟨_, Aa, e⟩ (k p)
theorem Fe (ts : List Nat) (o : Nu E.toBase orc) (e : Is (Oy E orc false N l ts (fr, σ)) fr' σ') (k : P → K .normal ⟨Am N fr', σ'⟩) (hw : Xi E m K := by repeat' first | exact N6 | exact Ew | exact Aee | exact AfV | exact AbI | refine Da ?_ | refine P2 ?_) (hE : E.Ok := by assumption) : P → Run E m (.region id l.toArray false) ⟨Am N fr, σ⟩ K := fun p => Lk hE hw ts ⟨_, o, e⟩ (k p)
theorem F0 (ts : List Nat) (k : P → K .normal ⟨Am N fr', σ'⟩) (e : Is (Oy E (Acm [] []) false N l ts (fr, σ)) fr' σ' := by simp only [go_sem]; exact Ad) (hw : Xi E m K := by repeat' first | exact N6 | exact Ew | exact Aee | exact AfV | exact AbI | refine Da ?_ | refine P2 ?_) (hE : E.Ok := by assumption) : P → Run E m (.region id l.toArray false) ⟨Am N fr, σ⟩ K := fun p => Lk hE hw ts ⟨_, Aa, e⟩ (k p)
theorem De (T : List (List Nat)) (ts : List Nat) (o : Nu E.toBase orc) (e : Is (Oy E orc true N l ts (fr, σ)) fr' σ') (k : P → Run E m y ⟨Am N fr', σ'⟩ K) (hP : E.P.follows .mixedOrders = true := by exact mixed) (h1 : K5 l.toArray T = true := by kernel_rfl) (h2 : M1 E l.toArray T = true := by kernel_rfl) (hE : E.Ok := by assumption) : P → Run E m (.seq (.region id l.toArray true) y) ⟨Am N fr, σ⟩ K := fun p => Xh hE hP T h1 h2 ts ⟨_, o, e⟩ (k p)
theorem Ge (T : List (List Nat)) (ts : List Nat) (o : Nu E.toBase orc) (e : Is (Oy E orc true N l ts (fr, σ)) fr' σ') (k : P → K .normal ⟨Am N fr', σ'⟩) (hw : Xi E m K := by repeat' first | exact N6 | exact Ew | exact Aee | exact AfV | exact AbI | refine Da ?_ | refine P2 ?_) (hP : E.P.follows .mixedOrders = true := by exact mixed) (h1 : K5 l.toArray T = true := by kernel_rfl) (h2 : M1 E l.toArray T = true := by kernel_rfl) (hE : E.Ok := by assumption) : P → Run E m (.region id l.toArray true) ⟨Am N fr, σ⟩ K := fun p => Adg hE hP T h1 h2 hw ts ⟨_, o, e⟩ (k p)
def Gw (E : Env) (d : Bool) (m N : Nat) (l : List Oper) (ts : List Nat) (s : Fr × Ab) {V : Type} (S : V → St) (v : V) : Prop := ∃ orc fr1 σ1, Nu E.toBase orc ∧ Oy E orc d N l ts s = some (fr1, σ1) ∧ Weak E m ⟨Am N fr1, σ1⟩ (S v)
variable {V β : Type} {X : Option V} {f : V → Option β} {r : β}
theorem Lf {d : Bool} {ts : List Nat} {S : V → St} {a v : V} {fr1 : Fr} {σ1 : Ab} (o : Nu E.toBase orc) (e : Is (Oy E orc d N l ts (fr, σ)) fr1 σ1) (w : Weak E m ⟨Am N fr1, σ1⟩ (S a)) : some a = some v → Gw E d m N l ts (fr, σ) S v := fun h => by
  obtain rfl := Option.some.inj h
  exact ⟨_, _, _, o, e, w⟩
theorem Als {ts : List Nat} {S : V → St} {v : V} (hE : E.Ok) (h : Gw E false m N l ts (fr, σ) S v) (k : Run E m y (S v) K) : Run E m (.seq (.region id l.toArray false) y) ⟨Am N fr, σ⟩ K := by
  obtain ⟨orc, fr1, σ1, hO, h, hw⟩ := h
  exact Abl hE hO ts h (Fp hw k)
theorem Tw (ts : List Nat) (S : V → St) (kA : ∀ v, X = some v → Gw E false m N l ts (fr, σ) S v) (kB : ∀ v, f v = some r → Run E m y (S v) K) (hE : E.Ok := by assumption) : X.bind f = some r → Run E m (.seq (.region id l.toArray false) y) ⟨Am N fr, σ⟩ K := Bd fun v h1 h2 => Als hE (kA v h1) (kB v h2)
theorem Fw (ts : List Nat) (S : V → St) (kA : ∀ v, X = some v → Gw E false m N l ts (fr, σ) S v) (kB : ∀ v, f v = some r → K .normal (S v)) (hw : Xi E m K := by repeat' first | exact N6 | exact Ew | exact Aee | exact AfV | exact AbI | refine Da ?_ | refine P2 ?_) (hE : E.Ok := by assumption) : X.bind f = some r → Run E m (.region id l.toArray false) ⟨Am N fr, σ⟩ K := Bd fun v h1 h2 => by
  obtain ⟨orc, fr1, σ1, hO, h, w⟩ := kA v h1
  exact Lk hE hw ts ⟨orc, hO, h⟩ (hw _ _ w (kB v h2))
theorem Dw (T : List (List Nat)) (ts : List Nat) (S : V → St) (kA : ∀ v, X = some v → Gw E true m N l ts (fr, σ) S v) (kB : ∀ v, f v = some r → Run E m y (S v) K) (hP : E.P.follows .mixedOrders = true := by exact mixed) (h1 : K5 l.toArray T = true := by kernel_rfl) (h2 : M1 E l.toArray T = true := by kernel_rfl) (hE : E.Ok := by assumption) : X.bind f = some r → Run E m (.seq (.region id l.toArray true) y) ⟨Am N fr, σ⟩ K := Bd fun v k1 k2 => by
  obtain ⟨orc, fr1, σ1, hO, h, w⟩ := kA v k1
  exact AbW hE hO hP T h1 h2 ts h (Fp w (kB v k2))
end
def Hj {α β : Type} (g : α → Option β) (x : α) (r : β) : Prop := g x = some r
section
variable {V R α β : Type} {X : Option (V ⊕ R)} {r : β}
theorem Jo {g : V ⊕ R → Option β} {A B : Code} (S : V → St) (kA : ∀ j, Hj g j r → X = some j → Run E n A st (R2 E n S (fun v => .inl v = j) K)) (kB : ∀ v, g (.inl v) = some r → Run E n B (S v) K) : X.bind g = some r → Run E n (.seq A B) st K := Bd fun j h1 h2 => Abi S _ (kA j h2 h1) (fun v e => kB v (e ▸ h2))
theorem Ja {X : Option V} {g : V → Option β} {A B : Code} (S : V → St) (kA : ∀ j, X = some j → Run E n A st (R2 E n S (fun v => v = j) K)) (kB : ∀ v, g v = some r → Run E n B (S v) K) : X.bind g = some r → Run E n (.seq A B) st K := Bd fun j h1 h2 => Abi S _ (kA j h1) (fun v e => kB v (e ▸ h2))
theorem Ua {X : Option V} {g : V → Option β} {A : Code} (S : V → St) (kA : ∀ j, X = some j → Run E n A st (R2 E n S (fun v => v = j) K)) (kB : ∀ v, g v = some r → LoopN E n A K m (S v)) : X.bind g = some r → Run E n A st (unK E n A m K) := Bd fun j h1 h2 => Acs S _ (kA j h1) (fun v e => kB v (e ▸ h2))
theorem Jn {S : V → St} {v : V} {j : V ⊕ R} (w : Weak E n st (S v)) : some (.inl v) = some j → R2 E n S (fun v => .inl v = j) K .normal st := fun h => ⟨v, Option.some.inj h, w⟩
theorem Jm {S : V → St} {v j : V} (w : Weak E n st (S v)) : some v = some j → R2 E n S (fun v => v = j) K .normal st := fun h => ⟨v, Option.some.inj h, w⟩
theorem jout {X : Option β} {g : V ⊕ β → Option β} {j : V ⊕ β} (hj : Hj g j r) (hg : ∀ z, g (.inr z) = some z) (h : (X.bind fun z => some (.inr z)) = some j) : X = some r := by
  obtain ⟨z, h1, h2⟩ := Az h
  obtain rfl := Option.some.inj h2
  unfold Hj at hj
  rw [hg] at hj
  rw [h1, hj]
theorem Jr {S : V → St} {J : V → Prop} {X : Option β} {g : V ⊕ β → Option β} {j : V ⊕ β} (hj : Hj g j r) (k : X = some r → K .ret st) (hg : ∀ z, g (.inr z) = some z := by exact fun _ => rfl) : (X.bind fun z => some (.inr z)) = some j → R2 E n S J K .ret st := fun h => k (jout hj hg h)
theorem Jx {S : V → St} {J : V → Prop} {i : Nat} {X : Option β} {g : V ⊕ β → Option β} {j : V ⊕ β} (hj : Hj g j r) (k : X = some r → K (.exit i) st) (hg : ∀ z, g (.inr z) = some z := by exact fun _ => rfl) : (X.bind fun z => some (.inr z)) = some j → R2 E n S J K (.exit i) st := fun h => k (jout hj hg h)
theorem Lo {X : Type} {f : V → Option (V ⊕ X)} {v0 : V} {g : X → Option β} {c : Code} (S : V → St) (w : Weak E n st (S v0)) (k : ∀ v x o, Hj g x r → (∀ y, o = .inr y → y = x) → f v = some o → Run E n c (S v) (lpK E n S o K)) : (C6 f v0).bind g = some r → Run E n (.loop c) st K := Bd fun x h1 h2 => Aex h1 S w fun v o h3 h4 => k v x o h2 h4 h3
theorem Ln {X : Type} {S : V → St} {v : V} {o : V ⊕ X} (w : Weak E n st (S v)) : some (.inl v) = some o → lpK E n S o K .normal st := fun h => ⟨v, (Option.some.inj h).symm, w⟩
theorem Lx {S : V → St} {Y Z : Type} {w : Y} {o : V ⊕ (Y ⊕ Z)} {x : Y ⊕ Z} {g : Y ⊕ Z → Option β} {i : Nat} (hx : ∀ y, o = .inr y → y = x) (hj : Hj g x r) (k : g (.inl w) = some r → K (.exit i) st) : some (.inr (.inl w)) = some o → lpK E n S o K (.exit i) st := fun h => k (by rw [hx _ (Option.some.inj h).symm]; exact hj)
theorem Ly {S : V → St} {Y : Type} {w : Y} {o : V ⊕ Y} {x : Y} {g : Y → Option β} {i : Nat} (hx : ∀ y, o = .inr y → y = x) (hj : Hj g x r) (k : g w = some r → K (.exit i) st) : some (.inr w) = some o → lpK E n S o K (.exit i) st := fun h => k (by rw [hx _ (Option.some.inj h).symm]; exact hj)
theorem lout {X : Option β} {Y : Type} {g : Y ⊕ β → Option β} {o : V ⊕ (Y ⊕ β)} {x : Y ⊕ β} (hx : ∀ y, o = .inr y → y = x) (hj : Hj g x r) (hg : ∀ z, g (.inr z) = some z) (h : (X.bind fun z => some (.inr (.inr z))) = some o) : X = some r := by
  obtain ⟨z, h1, h2⟩ := Az h
  have := hx _ (Option.some.inj h2).symm
  unfold Hj at hj
  rw [← this, hg] at hj
  rw [h1, hj]
theorem ApF {X : Option β} {g : β → Option β} {o : V ⊕ β} {x : β} (hx : ∀ y, o = .inr y → y = x) (hj : Hj g x r) (hg : ∀ z, g z = some z) (h : (X.bind fun z => some (.inr z)) = some o) : X = some r := by
  obtain ⟨z, h1, h2⟩ := Az h
  have := hx _ (Option.some.inj h2).symm
  unfold Hj at hj
  rw [← this, hg] at hj
  rw [h1, hj]
theorem Lr {S : V → St} {X : Option β} {Y : Type} {g : Y ⊕ β → Option β} {o : V ⊕ (Y ⊕ β)} {x : Y ⊕ β} (hx : ∀ y, o = .inr y → y = x) (hj : Hj g x r) (k : X = some r → K .ret st) (hg : ∀ z, g (.inr z) = some z := by exact fun _ => rfl) : (X.bind fun z => some (.inr (.inr z))) = some o → lpK E n S o K .ret st := fun h => k (lout hx hj hg h)
theorem Ls {S : V → St} {X : Option β} {g : β → Option β} {o : V ⊕ β} {x : β} (hx : ∀ y, o = .inr y → y = x) (hj : Hj g x r) (k : X = some r → K .ret st) (hg : ∀ z, g z = some z := by exact fun _ => rfl) : (X.bind fun z => some (.inr z)) = some o → lpK E n S o K .ret st := fun h => k (ApF hx hj hg h)
end
section
variable {N : Nat} {l : Fr} {σ σ0 : Ab} {rs : List ResultVar} {r0 : AV} {ex : Exit}
theorem Rr (h : P → (Abf E n l σ rs).bind (fun xs => fzR σ (Hq xs)) = some r0 := by intro h; obtain rfl := Option.some.inj h; simp only [go_sem]) (hex : ex = .normal ∨ ex = .ret := by first | exact .inr rfl | exact .inl rfl) : P → wkP E m (Ant E rs r0) ex ⟨Am n l, σ⟩ := fun p => Abx (Weak.refl _ _) (Aer hex (h p))
theorem Rn (h : P → False := by intro h; cases h) {Q : Prop} : P → Q := fun p => (h p).elim
theorem Ro (sel : List Nat) (h : P → Aj3 sel r0 (Abf E N l σ rs) := by intro h; obtain rfl := Option.some.inj h; simp only [go_sem]) (hσ : P → Kb sel σ sel σ0 := by intro h; obtain rfl := Option.some.inj h; simp only [go_sem]) (hnd : sel.Nodup := by decide) (hn : sel.take n = List.range n := by rfl) (hex : ex = .normal ∨ ex = .ret := by first | exact .inr rfl | exact .inl rfl) : P → wkP E m (AmC E n rs r0 σ0) ex ⟨Am N l, σ⟩ := fun p => Abx (Weak.refl _ _) (Aia hex sel hnd hn (h p) (hσ p))
end
section
variable {B : Base} {f : FuncId} {fn : Func} {c : Code} {args : List AV} {r0 : AV} {l : Fr} {σ σ0 : Ab}
theorem Cw (N : Nat) (rs : List ResultVar) (hf : B.P.funcs[f]? = some fn) (h : ∀ F, (B.env F).Ok → P → Run (B.env F) 0 c ⟨Am N l, []⟩ (wkP (B.env F) 0 (Ant (B.env F) rs r0))) (p : P) (hl : S2 0 args = l := by first | (simp only [S2, Nat.reduceAdd]; exact rfl) | (simp only [S2, Nat.reduceAdd]; done)) (hB : B.Ok := by exact ok) (hb : fn.body = some c := by exact rfl) (hn : (fn.name == "runtime.NumGoroutine") = false := by decide +kernel)
    (hN : fn.ntmps = N := by exact rfl) (hrs : fn.results.toList = rs := by exact rfl) (hlen : args.length ≤ N := by exact Nat.le_of_ble_eq_true rfl) : Con B f args [] (fun r' σ' => r' = r0 ∧ σ' = []) := Ji hB hf hb hn hN hrs hlen fun F => by rw [hl]; exact Js (h F (hB.env F) p)
theorem Co (n N : Nat) (rs : List ResultVar) (hf : B.P.funcs[f]? = some fn) (h : ∀ F, (B.env F).Ok → P → Run (B.env F) n c ⟨Am N l, σ⟩ (wkP (B.env F) n (AmC (B.env F) n rs r0 σ0))) (p : P) (hl : S2 0 args = l := by first | (simp only [S2, Nat.reduceAdd]; exact rfl) | (simp only [S2, Nat.reduceAdd]; done)) (hB : B.Ok := by exact ok) (hb : fn.body = some c := by exact rfl) (hn : (fn.name == "runtime.NumGoroutine") = false := by decide +kernel)
    (hN : fn.ntmps = N := by exact rfl) (hrs : fn.results.toList = rs := by exact rfl) (hlen : args.length ≤ N := by exact Nat.le_of_ble_eq_true rfl) (hσ : σ.length = n := by exact rfl) : Con B f args σ (fun r' σ' => r' = r0 ∧ σ' = σ0) := O4 n hσ hB hf hb hn hN hrs hlen fun F => by rw [hl]; exact Js (h F (hB.env F) p)
end
end Go.Rv
