/-
  Part 16.
-/
import Derived.Test.YtioapcamanmoiaaDoorYX315
import Derived.Orders
namespace Go.Rv
set_option linter.unusedVariables false
set_option linter.unusedSimpArgs false
variable {E : Env}
structure Orc where
 fz : FuncId→List AV→Option AV
 own : FuncId→List AV→Am→Option (AV×Am)
def AaS (E : Env) (c : Call) : Bool:=match c.callee with
 | .value (.func f) => E.own f c.args.toList
 | _ => false
def Alx (orc : Orc) (fr : List AV) (σ : Am) (c : Call) : Option (AV×Am) :=
 match c.callee with
 | .value f => match ev fr f with
  | .fn fid [] => orc.own fid (c.args.toList.map (ev fr)) σ
  | _ => none
 | _ => none
def Rt (orc : Orc) (fr : List AV) (σ : Am) (c : Call) : Option AV :=
 match c.callee with
 | .value f => match ev fr f with
  | .fn fid [] => match (c.args.toList.map (ev fr)).mapM (fz σ) with
   | some args => match orc.fz fid args with
    | some r => if r.scalar = true∨(c.args.toList.map (ev fr)).flatMap C4 = [] then some r else none
    | none => none
   | none => none
  | _ => none
 | _ => none
def El (E : Env) (orc : Orc) (op : Op) (fr : List AV) (σ : Am) : Option (AV×Am) :=
 match op with
 | .call c => match c.callee with
  | .builtin _ => Hb E fr σ op
  | _ => if AaS E c = true then Alx orc fr σ c else (Rt orc fr σ c).map fun r => (r,σ)
 | op => Hb E fr σ op
theorem Uw {w : World} {pr : Addr→Prop} {g : Gh} {v : Value} {x : AV} (h : Rep w pr g v x) : x.under g.length = true:=by
  induction h with
  | bs g v full id tot off len b hb hx ht h ho => simpa [AV.under] using (List.getElem?_eq_some_iff.1 hb).1
  | ref g id off β b hb hx hβ => simpa [AV.under] using (List.getElem?_eq_some_iff.1 hb).1
  | tref g id t β b hb hx hβ ht => simpa [AV.under] using (List.getElem?_eq_some_iff.1 hb).1
  | mref g id β b hb hx hβ => simpa [AV.under] using (List.getElem?_eq_some_iff.1 hb).1
  | yld g id β b hb hx hβ => simpa [AV.under] using (List.getElem?_eq_some_iff.1 hb).1
  | nref g v id b hb hx h => simpa [AV.under] using (List.getElem?_eq_some_iff.1 hb).1
  | eref g v id tot i j b hb hx ht h ho => simpa [AV.under] using (List.getElem?_eq_some_iff.1 hb).1
  | agg g vs cs hs ho hr ih =>
    simp only [AV.under,List.all_eq_true]
    rintro ⟨x,hx⟩ _
    obtain ⟨i,hi⟩:=List.mem_iff_getElem?.1 hx
    exact ih i x hi
  | tup g vs cs hs hr ih =>
    simp only [AV.under,List.all_eq_true]
    rintro ⟨x,hx⟩ _
    obtain ⟨i,hi⟩:=List.mem_iff_getElem?.1 hx
    exact ih i x hi
  | fn g f caps cs hs hr hn ih =>
    simp only [AV.under,List.all_eq_true]
    rintro ⟨x,hx⟩ _
    obtain ⟨i,hi⟩:=List.mem_iff_getElem?.1 hx
    exact ih i x hi
  | fnb g f fs cs hs hr ih =>
    simp only [AV.under,List.all_eq_true]
    rintro ⟨x,hx⟩ _
    rw [List.mem_singleton] at hx
    subst hx
    simp only [AV.under,List.all_eq_true]
    rintro ⟨y,hy⟩ _
    obtain ⟨i,hi⟩:=List.mem_iff_getElem?.1 hy
    exact ih i y hi
  | iface g t v x hr ih => simpa [AV.under] using ih
  | _ => simp [AV.under]
theorem Wv {w : World} {g : Gh} {σ : Am} (hm : Mem E w g σ) : ∀ ab ∈ σ,AeM σ.length ab:=by
  intro ab hab
  obtain ⟨id,hid⟩:=List.mem_iff_getElem?.1 hab
  have hl : id < g.length:=by rw [hm.len];exact (List.getElem?_eq_some_iff.1 hid).1
  have hk:=hm.blk id g[id] ab (List.getElem?_eq_getElem hl) hid
  cases ab with
  | box cs ro =>
    obtain ⟨k1,k2,k3,k4,k5,β,arr,t,fz,k6,k7,k8,k9,k10⟩:=hk
    intro x hx
    obtain ⟨j,hj⟩:=List.mem_iff_getElem?.1 hx
    have:=Uw (k10 j x hj).1
    rwa [hm.len] at this
  | buf k els ro =>
    obtain ⟨k1,k2,k3,k4,k5,k6,k7⟩:=hk
    intro cs hcs x hx
    obtain ⟨i,hi⟩:=List.mem_iff_getElem?.1 hcs
    obtain ⟨j,hj⟩:=List.mem_iff_getElem?.1 hx
    cases hb : g[id].blk with
    | none =>
      rcases (k6 hb).1 with this | this
      · subst this
        simp at hi
      · have h1:=k5 i cs hi
        have h2:=(List.getElem?_eq_some_iff.1 hj).1
        omega
    | some β =>
      obtain ⟨arr,t,fz,g1,g2,g3,g4,g5⟩:=k7 β hb
      have:=Uw (g5 i cs j x hi hj).1
      rwa [hm.len] at this
  | obj o => exact trivial
  | mp es => exact trivial
  | lp y N1 l1 ps as1 bd =>
    obtain ⟨k1,β,f,T,D,k2,k3,k4,k5⟩:=hk
    intro p hp
    have:=Uw (k5 p hp)
    rwa [hm.len] at this
  | gone => exact trivial
  | tb T l => exact trivial
def Mu (σ : Am) (r : AV×Am) : Option (AV×Am) :=
 match r with
 | (.bs full id tot off len,σ') => if id = σ.length then (B5 σ' (.bs full id tot off len)).map fun y => (y,σ) else none
 | _ => none
theorem Acn {w w' : World} {g g1 : Gh} {σ : Am} {v : Value} {x y : AV} {σ' σ2 : Am} (hm : Mem E w g σ) (hp : ∃ bs,σ' = σ ++ bs) (h : Mu σ (x,σ') = some (y,σ2))
  (m1 : Mem E w' g1 σ') (h3 : GLe g g1) (h4 : Evo E 0 w g w' g1) (h5 : Rep w' (A1 E g1) g1 v x) :
  σ2 = σ∧Mem E w' (g1.take σ.length) σ∧GLe g (g1.take σ.length)∧Evo E 0 w g w' (g1.take σ.length)∧Rep w' (A1 E (g1.take σ.length)) (g1.take σ.length) v y:=by
 obtain ⟨bs,rfl⟩:=hp
 have ht : (σ ++ bs).take σ.length = σ:=by simp
 unfold Mu at h
 split at h
 case h_2 => cases h
 rename_i full id tot off len σ3 he
 cases he
 split at h
 case isFalse => cases h
 rename_i hid
 rw [Option.map_eq_some_iff] at h
 obtain ⟨y',hy,h⟩:=h
 cases h
 have hmt:=AaJ m1 σ.length (by rw [ht];exact Wv hm)
 rw [ht] at hmt
 refine ⟨rfl,hmt,?_,?_,?_⟩
 ·intro id b hb
  obtain ⟨b',hb',hs⟩:=h3 id b hb
  exact ⟨b',Jv hb' (by rw [← hm.len];exact (List.getElem?_eq_some_iff.1 hb).1),hs⟩
 ·exact ⟨h4.os,h4.tape,h4.output,h4.size,fun a u hc hpr => ⟨(h4.cells a u hc hpr).1,Mh (h4.cells a u hc hpr).2⟩,
   fun β hβ hn => ⟨(h4.blocks β hβ hn).1,fun h => (h4.blocks β hβ hn).2 (Nl h)⟩,fun id hid => absurd hid (Nat.not_lt_zero _)⟩
 ·refine (Ml (pr:=A1 E (g1.take σ.length)) m1 h5 hy (fun a => Mh) ?_).mono (fun a u hc hpr => ⟨hc,hpr⟩) (GLe.nil _)
  rintro id' b ⟨_,_,_,_,e⟩ hb β off' hβ _
  cases e
  refine ⟨fun hF => (m1.foreign _ hF).2 ⟨id,b,hb,hβ⟩,fun id2 c hc he => ?_⟩
  have:=m1.inj id2 id c b β (Js hc).1 hb he hβ
  have:=(Js hc).2
  omega
theorem Ci {α : Type} (x : Option α) : x.bind some = x:=by cases x <;> rfl
def AjN (t : Tmp) : Operand→Bool
 | .tmp s => s == t
 | _ => false
def AhH (t : Tmp) : List Operand→Bool
 | [] => false
 | _ :: r => r.any (AjN t)
def Afa : Builtin→Bool
 | .append => true
 | _ => false
theorem Xa : Afa .append = true:=rfl
def AlX (t : Tmp) (o : Oper) : Bool:=match o.op with
 | .call c => match c.callee with
  | .value _ => c.args.toList.any (AjN t)
  | .builtin b => AhH t c.args.toList && Afa b
  | _ => false
 | .buildSlice _ _ parts => parts.toList.any fun p => AjN t p.2
 | _ => false
def Gv (E : Env) (t : TypeId) : Bool:=match E.tab t with
 | some d => match d.desc with
  | .slice _ => true
  | _ => false
 | none => false
def Ib (E : Env) (ops : Array Oper) (o : Oper) : Bool:=match o.dst with
 | some t => match o.op with
  | .buildSlice .. => ops.toList.any (AlX t)
  | .convert _ d _ => Gv E d && ops.toList.any (AlX t)
  | _ => false
 | none => false
def Jc (b : Bool) (σ : Am) (r : AV×Am) : Option (AV×Am):=if b = true then Mu σ r else some r
def G2 (E : Env) (orc : Option Tmp→Orc) (ops : Array Oper) (o : Oper) (fr : List AV) (σ : Am) : Option (AV×Am) :=
 match L2 ops fr o with
 | some true => (El E (orc o.dst) o.op fr σ).bind (Jc (Ib E ops o) σ)
 | some false => some (.tup [],σ)
 | none => none
def C9 (E : Env) (orc : Option Tmp→Orc) (ops : Array Oper) (o : Oper) (st : St) : Option St :=
 (G2 E orc ops o st.fr st.σ).map fun r => ⟨Bh st.fr o.dst r.1,r.2⟩
def B0 (E : Env) (orc : Option Tmp→Orc) (ops : Array Oper) : List Nat→St→Option St
 | [],st => some st
 | i :: l,st => match ops[i]? with
  | some o => (C9 E orc ops o st).bind (B0 E orc ops l)
  | none => none
theorem Ako {fr fr' : List AV} {x : Operand} (h : ∀ t,x = .tmp t→fr[t]? = fr'[t]?) : ev fr x = ev fr' x:=by
  cases x with
  | tmp t => simp only [ev,List.getD,h t rfl]
  | _ => rfl
theorem Sg {fr fr' : List AV} {σ : Am} {op : Op} (h : ∀ x ∈ op.operands,ev fr x = ev fr' x) : Hb E fr σ op = Hb E fr' σ op:=by
  have m1 : ∀ (l : List Operand),(∀ x ∈ l,x ∈ op.operands)→l.map (ev fr) = l.map (ev fr'):=fun l hl => List.map_congr_left fun x hx => h x (hl x hx)
  cases op <;> simp only [Hb]
  case move x => rw [h x (by simp [Op.operands])]
  case assign x => rw [h x (by simp [Op.operands])]
  case pick c a b => rw [h c (by simp [Op.operands]),h a (by simp [Op.operands]),h b (by simp [Op.operands])]
  case box t x => rw [h x (by simp [Op.operands])]
  case build t parts =>
    have : (parts.toList.map fun (i,x) => (i,ev fr x)) = (parts.toList.map fun (i,x) => (i,ev fr' x)):=List.map_congr_left fun p hp => by
      have:=h p.2 (by simp [Op.operands];exact ⟨p.1,by simpa using hp⟩)
      simp [this]
    rw [this]
  case buildSlice t n parts =>
    have : (parts.toList.map fun (i,x) => (i,ev fr x)) = (parts.toList.map fun (i,x) => (i,ev fr' x)):=List.map_congr_left fun p hp => by
      have:=h p.2 (by simp [Op.operands];exact ⟨p.1,by simpa using hp⟩)
      simp [this]
    rw [this]
  case load t x => rw [h x (by simp [Op.operands])]
  case store t x y => rw [h x (by simp [Op.operands]),h y (by simp [Op.operands])]
  case nilCheck x => rw [h x (by simp [Op.operands])]
  case range t x => rw [h x (by simp [Op.operands])]
  case makeMap t r => cases r <;> rfl
  case insert t m k x => rw [h m (by simp [Op.operands]),h k (by simp [Op.operands]),h x (by simp [Op.operands])]
  case mapUpdate t m k x => rw [h m (by simp [Op.operands]),h k (by simp [Op.operands]),h x (by simp [Op.operands])]
  case next it b =>
    cases b with
    | false => rfl
    | true => simp only;rw [h it (by simp [Op.operands])]
  case binOp op t x y u => rw [h x (by simp [Op.operands]),h y (by simp [Op.operands])]
  case unOp op t x => rw [h x (by simp [Op.operands])]
  case convert s d x => rw [h x (by simp [Op.operands])]
  case makeInterface t x => rw [h x (by simp [Op.operands])]
  case makeFunc fn first caps =>
    have : caps.toList.map (ev fr) = caps.toList.map (ev fr'):=m1 _ (fun x hx => by simp [Op.operands];exact .inr (by simpa using hx))
    have t2 : first.toList.map (ev fr) = first.toList.map (ev fr'):=m1 _ (fun x hx => by simp [Op.operands];exact .inl (by simpa using hx))
    cases fn <;> simp only [this,t2]
  case makeSlice t x y => rw [h x (by simp [Op.operands]),h y (by simp [Op.operands])]
  case slice t x lo hi mx =>
    have hx:=h x (by simp [Op.operands])
    have hl : lo.map (ev fr) = lo.map (ev fr'):=by cases lo with | none => rfl | some l => simp [h l (by simp [Op.operands])]
    have hh : hi.map (ev fr) = hi.map (ev fr'):=by cases hi with | none => rfl | some l => simp [h l (by simp [Op.operands])]
    have hm : mx.map (ev fr) = mx.map (ev fr'):=by cases mx with | none => rfl | some l => simp [h l (by simp [Op.operands])]
    rw [hx,hl,hh,hm]
  case fieldAddr s x f => rw [h x (by simp [Op.operands])]
  case field s x f => rw [h x (by simp [Op.operands])]
  case indexAddr t x y => rw [h x (by simp [Op.operands]),h y (by simp [Op.operands])]
  case index t x y => rw [h x (by simp [Op.operands]),h y (by simp [Op.operands])]
  case lookup t x y ok => rw [h x (by simp [Op.operands]),h y (by simp [Op.operands])]
  case extract x i => rw [h x (by simp [Op.operands])]
  case call c =>
    cases hc : c.callee <;> simp only []
    have : c.args.toList.map (ev fr) = c.args.toList.map (ev fr'):=m1 _ (fun x hx => by simp [Op.operands,Call.operands];exact .inr (by simpa using hx))
    rw [this]
def S7 (E : Env) (t : TypeId) : Bool:=match E.tab t with
 | some d => match d.desc with
  | .array .. => true
  | _ => false
 | none => false
def Xw (E : Env) : Op→Bool
 | .alloc _ | .box .. | .buildSlice .. | .store .. | .makeSlice .. | .range .. | .next .. | .makeMap .. | .insert .. | .mapUpdate .. => true
 | .convert _ d _ => Gv E d
 | .slice t .. => S7 E t
 | .call c => match c.callee with
  | .builtin .len | .builtin .min | .builtin .max => false
  | .builtin _ => true
  | _ => AaS E c
 | _ => false
def Kp (E : Env) : Op→Bool
 | .load .. | .fieldAddr .. | .indexAddr .. | .slice .. | .convert .. | .lookup .. => true
 | .call c => match c.callee with
  | .builtin .min | .builtin .max => false
  | _ => true
 | op => Xw E op
theorem R7 {fr : List AV} {σ σ' : Am} {op : Op} {x : AV} (he : Xw E op = false) (h : Hb E fr σ op = some (x,σ')) : σ' = σ:=by
  cases op <;> simp only [Hb] at h <;> simp only [Xw] at he <;> try (cases h;done)
  case move y => cases h;rfl
  case assign y => cases h;rfl
  case pick c a b => split at h <;> first | (cases h;rfl) | cases h
  case alloc => cases he
  case range => cases he
  case makeMap => cases he
  case insert => cases he
  case mapUpdate => cases he
  case next => cases he
  case box => cases he
  case build t parts => rw [Option.map_eq_some_iff] at h;obtain ⟨_,_,h⟩:=h;cases h;rfl
  case buildSlice => cases he
  case load t y =>
    split at h
    · rw [Option.map_eq_some_iff] at h;obtain ⟨_,_,h⟩:=h;cases h;rfl
    · cases h
  case store => cases he
  case nilCheck y => split at h <;> first | (cases h;rfl) | cases h
  case binOp op t y z u => rw [Option.map_eq_some_iff] at h;obtain ⟨_,_,h⟩:=h;cases h;rfl
  case unOp op t y => rw [Option.map_eq_some_iff] at h;obtain ⟨_,_,h⟩:=h;cases h;rfl
  case lookup t y z ok => rw [Option.map_eq_some_iff] at h;obtain ⟨_,_,h⟩:=h;cases h;rfl
  case convert s d y =>
    unfold Cx at h
    unfold Gv at he
    split at h
    case h_2 => cases h
    rename_i ds dd hs hd
    rw [hd] at he
    simp only at he
    split at h
    · cases h;rfl
    · cases h;rfl
    · rename_i hdd _;rw [hdd] at he;cases he
    · split at h
      · cases h
      split at h
      case h_2 => cases h
      split at h
      case h_2 => cases h
      split at h
      · cases h;rfl
      · cases h
    · rename_i hdd _;rw [hdd] at he;cases he
    · cases h
  case makeFunc fn first caps =>
    split at h
    · split at h
      · split at h
        · cases h
        · cases h;rfl
      · split at h
        · cases h;rfl
        · cases h
    · cases h
  case makeInterface t y =>
    split at h
    · split at h
      · cases h
      · cases h;rfl
    · cases h
  case makeSlice => cases he
  case slice t y lo hi mx =>
    unfold K2 at h
    unfold S7 at he
    cases ht : E.tab t with
    | none => simp [ht] at h
    | some d =>
      simp only [ht] at h he
      split at h
      · split at h
        · split at h
          · cases h
          · cases h;rfl
        · cases h
      · split at h
        · split at h
          · cases h;rfl
          · cases h
        · cases h
      · split at h
        · split at h
          · split at h
            · cases h;rfl
            · cases h
          · cases h
        · cases h
      · rename_i hd _;rw [hd] at he;cases he
      · rename_i hd _;rw [hd] at he;cases he
      · cases h
  case fieldAddr s y f => rw [Option.map_eq_some_iff] at h;obtain ⟨_,_,h⟩:=h;cases h;rfl
  case field s y f => rw [Option.map_eq_some_iff] at h;obtain ⟨_,_,h⟩:=h;cases h;rfl
  case indexAddr t y i => rw [Option.map_eq_some_iff] at h;obtain ⟨_,_,h⟩:=h;cases h;rfl
  case index t y i => rw [Option.map_eq_some_iff] at h;obtain ⟨_,_,h⟩:=h;cases h;rfl
  case extract y i =>
    split at h
    · split at h
      · cases h;rfl
      · cases h
    · cases h
  case call c =>
    cases hc : c.callee <;> simp only [hc] at h he <;> try (cases h;done)
    rename_i b
    unfold Bv at h
    split at h
    · rw [Option.map_eq_some_iff] at h;obtain ⟨_,_,h⟩:=h;cases h;rfl
    · cases he
    · cases he
    · rw [Option.map_eq_some_iff] at h;obtain ⟨_,_,h⟩:=h;cases h;rfl
    · rw [Option.map_eq_some_iff] at h;obtain ⟨_,_,h⟩:=h;cases h;rfl
    · cases h
theorem Kv {fr : List AV} {σ σ2 : Am} {op : Op} (ht : Kp E op = false) : Hb E fr σ2 op = (Hb E fr σ op).map (fun r => (r.1,σ2)):=by
 cases op <;> simp only [Kp,Xw] at ht <;> try (cases ht;done)
 all_goals simp only [Hb]
 all_goals try rfl
 case pick c a b => split <;> rfl
 case build t parts => simp only [Option.map_map];rfl
 case nilCheck y => split <;> rfl
 case binOp op t y z u => simp only [Option.map_map];rfl
 case unOp op t y => simp only [Option.map_map];rfl
 case makeFunc fn first caps =>
  split
  ·split
   ·split <;> rfl
   ·split <;> rfl
  ·rfl
 case makeInterface t y =>
  split
  ·split <;> rfl
  ·rfl
 case field s y f => simp only [Option.map_map];rfl
 case index t y i => simp only [Option.map_map];rfl
 case extract y i =>
  split
  ·split <;> rfl
  ·rfl
 case call c =>
  cases hc : c.callee <;> simp only [hc] at ht ⊢ <;> try rfl
  rename_i b
  cases b <;> simp only at ht <;> try (cases ht;done)
  all_goals
   unfold Bv
   split <;> first | (exfalso;simp_all;done) | rfl | (simp only [Option.map_map];rfl)
theorem E1 (fr : List AV) {x y : Option Tmp} (v u : AV) (h : ∀ d,x = some d→y≠some d) : Bh (Bh fr x v) y u = Bh (Bh fr y u) x v:=by
  cases x with
  | none => rfl
  | some d =>
    cases y with
    | none => rfl
    | some e => exact List.set_comm _ _ (fun he => h d rfl (by rw [he]))
theorem Z8 {fr : List AV} {d : Option Tmp} {v : AV} {x : Operand} (h : ∀ e,d = some e→x≠.tmp e) : ev (Bh fr d v) x = ev fr x:=by
  refine Ako fun t hx => ?_
  cases d with
  | none => rfl
  | some e =>
    have : e≠t:=fun he => h e rfl (by rw [hx,he])
    simp [Bh,List.getElem?_set_ne this]
theorem Adt {orc : Orc} {fr fr' : List AV} {σ : Am} {c : Call} (h : ∀ x ∈ (Op.call c).operands,ev fr x = ev fr' x) : Rt orc fr σ c = Rt orc fr' σ c:=by
 have ha : c.args.toList.map (ev fr) = c.args.toList.map (ev fr'):=List.map_congr_left fun x hx => h x (by simp [Op.operands,Call.operands];exact .inr (by simpa using hx))
 unfold Rt
 cases hc : c.callee <;> simp only []
 rename_i f
 rw [h f (by simp [Op.operands,Call.operands,hc]),ha]
theorem Agz {orc : Orc} {fr fr' : List AV} {σ : Am} {c : Call} (h : ∀ x ∈ (Op.call c).operands,ev fr x = ev fr' x) : Alx orc fr σ c = Alx orc fr' σ c:=by
 have ha : c.args.toList.map (ev fr) = c.args.toList.map (ev fr'):=List.map_congr_left fun x hx => h x (by simp [Op.operands,Call.operands];exact .inr (by simpa using hx))
 unfold Alx
 cases hc : c.callee <;> simp only []
 rename_i f
 rw [h f (by simp [Op.operands,Call.operands,hc]),ha]
theorem Adl {orc : Orc} {fr fr' : List AV} {σ : Am} {op : Op} (h : ∀ x ∈ op.operands,ev fr x = ev fr' x) : El E orc op fr σ = El E orc op fr' σ:=by
  cases op with
  | call c =>
    simp only [El]
    rw [Adt h,Agz h]
    cases hc : c.callee <;> simp only []
    exact Sg h
  | _ => exact Sg (E:=E) (σ:=σ) h
theorem U8 {orc : Orc} {fr : List AV} {σ σ' : Am} {op : Op} {x : AV} (he : Xw E op = false) (h : El E orc op fr σ = some (x,σ')) : σ' = σ:=by
  cases op with
  | call c =>
    simp only [El] at h
    cases hc : c.callee <;> simp only [hc] at h
    case builtin b => exact R7 he h
    all_goals
      simp only [Xw,hc] at he
      simp only [he,Bool.false_eq_true,if_false] at h
      rw [Option.map_eq_some_iff] at h
      obtain ⟨_,_,h⟩:=h;cases h;rfl
  | _ => exact R7 (fr:=fr) he h
theorem Aah {orc : Orc} {fr : List AV} {σ σ2 : Am} {op : Op} (ht : Kp E op = false) : El E orc op fr σ2 = (El E orc op fr σ).map (fun r => (r.1,σ2)):=by
  cases op with
  | call c =>
    simp only [El]
    cases hc : c.callee <;> simp only []
    case builtin b => exact Kv ht
    all_goals (simp only [Kp,hc] at ht;cases ht)
  | _ => exact Kv (fr:=fr) (σ:=σ) ht
theorem Ac9 {ops : Array Oper} {o : Oper} {t : Tmp} (h : Operand.tmp t ∈ o.op.operands) : t ∈ o.looksAt ops:=by
 unfold Oper.looksAt
 rw [List.mem_append];left
 rw [List.mem_filterMap]
 exact ⟨.tmp t,by simpa using h,rfl⟩
theorem AaR {ops : Array Oper} {o : Oper} {fr : List AV} {d : Option Tmp} {v : AV} (h : ∀ e,d = some e→e ∉ o.looksAt ops) : L2 ops (Bh fr d v) o = L2 ops fr o:=by
  unfold L2
  cases hg : o.guard with
  | none => rfl
  | some g =>
    obtain ⟨j,want⟩:=g
    simp only
    congr 1
    unfold Nd
    cases hj : (ops[j]?).bind (·.dst) with
    | none => simp [hj]
    | some t =>
      cases d with
      | none => rfl
      | some e =>
        have : e≠t:=fun he => h e rfl (by simp [Oper.looksAt,hg,hj,he])
        simp [hj,Bh,List.getElem?_set_ne this]
theorem Ca {orc : Option Tmp→Orc} {ops : Array Oper} {o : Oper} {fr : List AV} {σ : Am} {d : Option Tmp} {v : AV} (h : ∀ e,d = some e→e ∉ o.looksAt ops) : G2 E orc ops o (Bh fr d v) σ = G2 E orc ops o fr σ:=by
 unfold G2
 rw [AaR h,Adl (fun x hx => Z8 fun e he hxe => h e he (Ac9 (hxe ▸ hx)))]
def AbD (E : Env) (ops : Array Oper) (o : Oper) : Bool:=Xw E o.op && !Ib E ops o
theorem Rm {ops : Array Oper} {o : Oper} (h : AbD E ops o = false) : Ib E ops o = true∨(Ib E ops o = false∧Xw E o.op = false):=by
 unfold AbD at h
 cases hf : Ib E ops o
 ·rw [hf] at h;right;simpa using h
 ·exact .inl rfl
theorem Gg {ops : Array Oper} {o : Oper} (h : Ib E ops o = true) : (∃ t n l,o.op = .buildSlice t n l)∨(∃ s d x,o.op = .convert s d x∧Gv E d = true):=by
 unfold Ib at h
 split at h
 case h_2 => cases h
 split at h
 ·rename_i hop;exact .inl ⟨_,_,_,hop⟩
 ·rename_i hop;exact .inr ⟨_,_,_,hop,(Bool.and_eq_true_iff.1 h).1⟩
 ·cases h
theorem Aen {σ : Am} {r : AV×Am} {y : AV} {σ' : Am} (h : Mu σ r = some (y,σ')) : σ' = σ:=by
 unfold Mu at h
 split at h
 case h_2 => cases h
 split at h
 case isFalse => cases h
 rw [Option.map_eq_some_iff] at h
 obtain ⟨_,_,h⟩:=h
 cases h;rfl
theorem Fm {orc : Option Tmp→Orc} {ops : Array Oper} {o : Oper} {fr : List AV} {σ σ' : Am} {x : AV} (he : AbD E ops o = false) (h : G2 E orc ops o fr σ = some (x,σ')) : σ' = σ:=by
 unfold G2 at h
 split at h
 ·rw [Option.bind_eq_some_iff] at h
  obtain ⟨⟨v,σ1⟩,h1,h2⟩:=h
  unfold Jc at h2
  rcases Rm he with hf | ⟨hf,he⟩
  ·rw [hf,if_pos rfl] at h2
   exact Aen h2
  ·rw [hf] at h2
   simp only [Bool.false_eq_true,if_false] at h2
   cases h2
   exact U8 he h1
 ·cases h;rfl
 ·cases h
theorem Agx {ops : Array Oper} {o : Oper} (ht : Kp E o.op = false) : Ib E ops o = false:=by
 cases hf : Ib E ops o
 ·rfl
 ·rcases Gg hf with ⟨t,n,l,h⟩ | ⟨s,d,x,h,_⟩
  ·rw [h] at ht;cases ht
  ·rw [h] at ht;cases ht
theorem Ss {orc : Option Tmp→Orc} {ops : Array Oper} {o : Oper} {fr : List AV} {σ σ2 : Am} (ht : Kp E o.op = false) : G2 E orc ops o fr σ2 = (G2 E orc ops o fr σ).map (fun r => (r.1,σ2)):=by
 unfold G2
 rw [Agx ht]
 have e : ∀ σ,Jc false σ = some:=fun σ => by funext r;simp [Jc]
 rw [e,e]
 split
 ·rw [Aah (σ:=σ) ht]
  cases El E (orc o.dst) o.op fr σ <;> rfl
 ·rfl
 ·rfl
theorem Nu {σ : Am} {id : Nat} {b : ABlk} (bs : Am) (h : σ[id]? = some b) : (σ ++ bs)[id]? = some b:=by
 rw [List.getElem?_append_left (List.getElem?_eq_some_iff.1 h).1];exact h
theorem AfS {σ : Am} {d : TD} {a x : AV} (bs : Am) (h : loadA E σ d a = some x) : loadA E (σ ++ bs) d a = some x:=by
  cases a <;> simp only [loadA] at h ⊢ <;> try exact h
  case ref id off =>
    cases e : σ[id]? with
    | none => simp [e] at h
    | some b => rw [e] at h;rw [Nu bs e];exact h
  case eref id tot i j =>
    cases e : σ[id]? with
    | none => simp [e] at h
    | some b => rw [e] at h;rw [Nu bs e];exact h
theorem AbU {σ : Am} {id tot : Nat} (bs : Am) (h : Ag0 σ id tot = true) : Ag0 (σ ++ bs) id tot = true:=by
  unfold Ag0 at h ⊢
  cases e : σ[id]? with
  | none => simp [e] at h
  | some b => rw [e] at h;rw [Nu bs e];exact h
theorem Ain {σ : Am} {x : AV} {l : List (List AV)} (bs : Am) (h : J2 σ x = some l) : J2 (σ ++ bs) x = some l:=by
  cases x <;> simp only [J2] at h ⊢ <;> try exact h
  case bs full id tot off len =>
    cases e : σ[id]? with
    | none => simp [e] at h
    | some b => rw [e] at h;rw [Nu bs e];exact h
theorem Ahk {σ : Am} {t : TypeId} {x : AV} {n : Nat} (bs : Am) (h : AiL E σ t x = some n) : AiL E (σ ++ bs) t x = some n:=by
  unfold AiL at h ⊢
  cases ht : E.tab t with
  | none => simp [ht] at h
  | some d =>
    simp only [ht] at h ⊢
    split at h <;> try (simp_all;done)
    rename_i id tot off len hd
    cases e : σ[id]? with
    | none => simp [e] at h
    | some b => rw [e] at h;simp only [hd,Nu bs e];exact h
theorem U4 {σ : Am} {s : TypeId} {x y : AV} {f : Nat} (bs : Am) (h : Ce E σ s x f = some y) : Ce E (σ ++ bs) s x f = some y:=by
 unfold Ce at h ⊢
 repeat' split at h
 all_goals try (cases h;done)
 all_goals try (simp_all;done)
 all_goals (rename_i hc;simp_all [AbU bs hc])
theorem Vg {σ : Am} {t : TypeId} {x i y : AV} (bs : Am) (h : Av E σ t x i = some y) : Av E (σ ++ bs) t x i = some y:=by
  unfold Av at h ⊢
  cases ht : E.tab t with
  | none => simp [ht] at h
  | some d =>
    simp only [ht] at h ⊢
    cases hd : d.desc <;> simp only [hd] at h ⊢ <;> try (cases h;done)
    case array n e =>
      cases he : E.tab e with
      | none => simp [he] at h
      | some de =>
        cases hi : idx i n with
        | none => simp [he,hi] at h
        | some k =>
          simp only [he,hi] at h ⊢
          cases x <;> simp only at h ⊢ <;> try exact h
          case eref id tot i0 j =>
            split at h
            case isFalse => cases h
            rename_i hc
            rw [if_pos (AbU bs hc)];exact h
    case slice e =>
      cases he : E.tab e with
      | none => simp [he] at h
      | some de =>
        simp only [he] at h ⊢
        cases x <;> simp only at h ⊢ <;> try exact h
        case bs full id tot off len =>
          cases e2 : σ[id]? with
          | none => simp [e2] at h
          | some b => rw [e2] at h;rw [Nu bs e2];exact h
theorem Adh {σ σ' : Am} {t : TypeId} {x y : AV} {lo hi mx : Option AV} (bs : Am) (he : S7 E t = false) (h : K2 E σ t x lo hi mx = some (y,σ')) : K2 E (σ ++ bs) t x lo hi mx = some (y,σ ++ bs):=by
  unfold K2 at h ⊢
  unfold S7 at he
  cases ht : E.tab t with
  | none => simp [ht] at h
  | some d =>
    simp only [ht] at h he ⊢
    cases hd : d.desc <;> simp only [hd] at h he ⊢ <;> try (first | (cases h;done) | (cases he;done))
    case string =>
      cases x <;> simp only at h ⊢ <;> try (cases h;done)
      repeat' split at h
      all_goals try (cases h;done)
      cases h;simp_all
    case slice e =>
      cases x <;> simp only at h ⊢ <;> try (cases h;done)
      case sl full els =>
        repeat' split at h
        all_goals try (cases h;done)
        cases h;simp_all
      case bs full id tot off len =>
        cases e2 : σ[id]? with
        | none => simp [e2] at h
        | some b =>
          rw [e2] at h;rw [Nu bs e2]
          repeat' split at h
          all_goals try (cases h;done)
          cases h;simp_all
theorem Aa0 {σ σ' : Am} {s d : TypeId} {x y : AV} (bs : Am) (he : Gv E d = false) (h : Cx E σ s d x = some (y,σ')) : Cx E (σ ++ bs) s d x = some (y,σ ++ bs):=by
 unfold Cx at h ⊢
 unfold Gv at he
 split at h
 case h_2 => cases h
 rename_i ds dd hs hd
 rw [hd] at he
 simp only at he
 split at h
 ·cases h;rfl
 ·cases h;rfl
 ·simp_all
 ·split at h
  ·cases h
  rename_i hb
  split at h
  case h_2 => cases h
  rename_i hde
  split at h
  case h_2 => cases h
  rename_i hu hv
  split at h
  ·rename_i hl;cases h;simp [hb,hu,Ain bs hv,hl]
  ·cases h
 ·simp_all
 ·cases h
theorem V3 {σ : Am} {x y : AV} (bs : Am) (h : B5 σ x = some y) : B5 (σ ++ bs) x = some y:=by
  cases x <;> simp only [B5] at h ⊢ <;> try exact h
  case bs full id tot off len =>
    cases e : σ[id]? with
    | none => simp [e] at h
    | some b => rw [e] at h;rw [Nu bs e];exact h
theorem Uu {α β : Type} {f g : α→Option β} (hfg : ∀ x y,f x = some y→g x = some y) : ∀ {l : List α} {ys : List β},l.mapM f = some ys→l.mapM g = some ys
  | [],_,h => by simpa using h
  | x :: l,ys,h => by
    rw [List.mapM_cons] at h ⊢
    simp only [Option.bind_eq_bind,Option.bind_eq_some_iff] at h ⊢
    obtain ⟨y,hy,zs,hz,h⟩:=h
    exact ⟨y,hfg _ _ hy,zs,Uu hfg hz,h⟩
theorem Ane {σ : Am} {x y : AV} (bs : Am) (h : fz σ x = some y) : fz (σ ++ bs) x = some y:=by
 cases x <;> simp only [fz] at h ⊢ <;> try exact V3 bs h
 case agg cs =>
  rw [Option.map_eq_some_iff] at h ⊢
  obtain ⟨ys,h,e⟩:=h
  exact ⟨ys,Uu (fun _ _ => V3 bs) h,e⟩
theorem Acf {σ : Am} (bs : Am) {t : TypeId} {x k v : AV} {ok : Bool} (h : Ho E σ t x k ok = some v) : Ho E (σ ++ bs) t x k ok = some v:=by
  cases x with
  | mref id =>
    simp only [Ho] at h ⊢
    cases hσ : σ[id]? with
    | none => simp [hσ] at h
    | some b =>
      rw [List.getElem?_append_left (List.getElem?_eq_some_iff.1 hσ).1,hσ]
      rw [hσ] at h
      exact h
  | _ => exact h
theorem Ab1 {fr : List AV} {σ σ' : Am} {op : Op} {x : AV} (bs : Am) (he : Xw E op = false) (h : Hb E fr σ op = some (x,σ')) : Hb E fr (σ ++ bs) op = some (x,σ ++ bs):=by
  cases ht : Kp E op with
  | false =>
    rw [Kv (σ:=σ) ht,h];rfl
  | true =>
    cases op <;> simp only [Kp,Xw] at ht he <;> try (cases ht;done)
    all_goals try (cases he;done)
    case load t y =>
      simp only [Hb] at h ⊢
      split at h
      case h_2 => cases h
      rename_i hd
      rw [Option.map_eq_some_iff] at h
      obtain ⟨v,hv,h⟩:=h
      cases h
      simp [hd,AfS bs hv]
    case convert s d y => exact Aa0 bs he h
    case slice t y lo hi mx => exact Adh bs he h
    case lookup t y z ok =>
      simp only [Hb] at h ⊢
      rw [Option.map_eq_some_iff] at h
      obtain ⟨v,hv,h⟩:=h
      cases h
      simp [Acf bs hv]
    case fieldAddr s y f =>
      simp only [Hb] at h ⊢
      rw [Option.map_eq_some_iff] at h
      obtain ⟨v,hv,h⟩:=h
      cases h
      simp [U4 bs hv]
    case indexAddr t y i =>
      simp only [Hb] at h ⊢
      rw [Option.map_eq_some_iff] at h
      obtain ⟨v,hv,h⟩:=h
      cases h
      simp [Vg bs hv]
    case call c =>
      simp only [Hb] at h ⊢
      cases hc : c.callee <;> simp only [hc] at h ht he ⊢ <;> try (cases h;done)
      rename_i b
      unfold Bv at h ⊢
      split at h
      · rw [Option.map_eq_some_iff] at h
        obtain ⟨v,hv,h⟩:=h
        cases h
        simp [Ahk bs hv]
      · cases he
      · cases he
      · cases ht
      · cases ht
      · cases h
theorem Agj {orc : Orc} {fr : List AV} {σ : Am} {c : Call} {r : AV} (bs : Am) (h : Rt orc fr σ c = some r) : Rt orc fr (σ ++ bs) c = some r:=by
 unfold Rt at h ⊢
 split at h
 case h_2 => cases h
 rename_i f hf
 split at h
 case h_2 => cases h
 rename_i fid hv
 split at h
 case h_2 => cases h
 rename_i args ha
 simp only [Uu (fun _ _ => Ane bs) ha]
 exact h
theorem AfG {orc : Orc} {fr : List AV} {σ σ' : Am} {op : Op} {x : AV} (bs : Am) (he : Xw E op = false) (h : El E orc op fr σ = some (x,σ')) : El E orc op fr (σ ++ bs) = some (x,σ ++ bs):=by
  cases op with
  | call c =>
    simp only [El] at h ⊢
    cases hc : c.callee <;> simp only [hc] at h ⊢
    case builtin b => exact Ab1 bs he h
    all_goals
      simp only [Xw,hc] at he
      simp only [he,Bool.false_eq_true,if_false] at h ⊢
      rw [Option.map_eq_some_iff] at h
      obtain ⟨v,hv,h⟩:=h
      cases h
      simp [Agj bs hv]
  | _ => exact Ab1 (fr:=fr) bs he h
theorem Aef {fr : List AV} {σ : Am} {op : Op} {y : AV} {σ' : Am} (ρ : Am) (hf : (∃ t n l,op = .buildSlice t n l)∨(∃ s d x,op = .convert s d x∧Gv E d = true))
    (h : (Hb E fr σ op).bind (Mu σ) = some (y,σ')) : (Hb E fr ρ op).bind (Mu ρ) = some (y,ρ):=by
  have last : ∀ (b : ABlk) (f : Bool) (t o l : Nat),Mu σ (.bs f σ.length t o l,σ ++ [b]) = some (y,σ')→Mu ρ (.bs f ρ.length t o l,ρ ++ [b]) = some (y,ρ):=by
    intro b f t o l h
    unfold Mu at h ⊢
    simp only [if_true,Option.map_eq_some_iff,Prod.mk.injEq] at h ⊢
    obtain ⟨z,hz,rfl,rfl⟩:=h
    refine ⟨z,?_,rfl,trivial⟩
    simp only [B5] at hz ⊢
    rw [List.getElem?_append_right (Nat.le_refl _),Nat.sub_self] at hz ⊢
    exact hz
  rcases hf with ⟨t,n,l,rfl⟩ | ⟨s,d,x,rfl,hd⟩
  · simp only [Hb] at h ⊢
    unfold E8 at h ⊢
    cases ht : E.tab t with
    | none => simp [ht] at h
    | some dd =>
      simp only [ht] at h ⊢
      cases hdd : dd.desc <;> simp only [hdd] at h ⊢ <;> try (simp at h;done)
      rename_i e
      cases he : E.tab e with
      | none => simp [he] at h
      | some de =>
        simp only [he] at h ⊢
        split at h
        · simp at h
        rename_i hn
        rw [if_neg hn]
        split at h
        case h_2 => simp at h
        rename_i els hels
        exact last _ _ _ _ _ h
  · simp only [Hb] at h ⊢
    unfold Cx at h ⊢
    unfold Gv at hd
    cases ht : E.tab d with
    | none => simp [ht] at hd
    | some dd =>
      simp only [ht] at hd
      cases hdd : dd.desc <;> simp only [hdd] at hd <;> try (cases hd;done)
      rename_i e
      cases hs : E.tab s with
      | none => simp [hs] at h
      | some sd =>
        simp only [hs,ht,hdd] at h ⊢
        generalize ev fr x = xv at h ⊢
        split at h
        case h_3 =>
          rename_i e' l hx
          cases hx
          cases he : E.tab e with
          | none => simp [he] at h
          | some de =>
            simp only [he] at h ⊢
            cases hde : de.desc <;> simp only [hde] at h ⊢ <;> try (simp at h;done)
            rename_i k
            cases k <;> simp only at h ⊢ <;> try (simp at h;done)
            exact last _ _ _ _ _ h
        case h_5 =>
          exfalso
          split at h
          case isFalse => simp at h
          split at h
          case h_2 => simp at h
          split at h
          case h_2 => simp at h
          split at h
          case isFalse => simp at h
          rename_i hid _
          simp only [Option.bind_some,Mu] at h
          split at h
          case isFalse => cases h
          rename_i e2
          have:=(List.getElem?_eq_some_iff.1 hid).1
          omega
        all_goals (exfalso;simp_all;done)
theorem AjU {fr : List AV} {σ : Am} {op : Op} {y : AV} {σ' : Am} (bs : Am) (hf : (∃ t n l,op = .buildSlice t n l)∨(∃ s d x,op = .convert s d x∧Gv E d = true))
  (h : (Hb E fr σ op).bind (Mu σ) = some (y,σ')) : (Hb E fr (σ ++ bs) op).bind (Mu (σ ++ bs)) = some (y,σ ++ bs):=Aef _ hf h
theorem Ahy {orc : Option Tmp→Orc} {ops : Array Oper} {o : Oper} {fr : List AV} {σ σ' : Am} {x : AV} (bs : Am) (he : AbD E ops o = false) (h : G2 E orc ops o fr σ = some (x,σ')) : G2 E orc ops o fr (σ ++ bs) = some (x,σ ++ bs):=by
 unfold G2 at h ⊢
 split at h
 ·rcases Rm he with hf | ⟨hf,he⟩
  ·rw [hf] at h ⊢
   have e : ∀ σ,Jc true σ = Mu σ:=fun σ => by funext r;simp [Jc]
   rw [e] at h ⊢
   have e2 : ∀ σ,El E (orc o.dst) o.op fr σ = Hb E fr σ o.op:=by
    intro σ
    rcases Gg hf with ⟨t,n,l,h⟩ | ⟨s,d,x,h,_⟩ <;> rw [h] <;> rfl
   rw [e2] at h ⊢
   exact AjU bs (Gg hf) h
  ·rw [hf] at h ⊢
   have e : ∀ σ,Jc false σ = some:=fun σ => by funext r;simp [Jc]
   rw [e] at h ⊢
   rw [Ci] at h ⊢
   exact AfG bs he h
 ·cases h;rfl
 ·cases h
def AaE : Op→Bool
 | .alloc _ | .buildSlice .. => true
 | _ => false
theorem AfN {orc : Option Tmp→Orc} {ops : Array Oper} {o : Oper} {fr : List AV} {σ σ' : Am} {x : AV} (ha : AaE o.op = true) (h : G2 E orc ops o fr σ = some (x,σ')) : ∃ bs,σ' = σ ++ bs:=by
 cases hf : Ib E ops o
 case true => exact ⟨[],by rw [Fm (by unfold AbD;rw [hf];simp) h];simp⟩
 unfold G2 at h
 rw [hf] at h
 have e : ∀ σ,Jc false σ = some:=fun σ => by funext r;simp [Jc]
 rw [e,Ci] at h
 split at h
 ·cases ho : o.op <;> simp only [ho,AaE] at ha h <;> try (cases ha;done)
  ·simp only [El,Hb] at h
   split at h
   ·split at h
    ·cases h
    ·split at h
     ·cases h;exact ⟨_,rfl⟩
     ·cases h;exact ⟨_,rfl⟩
   ·cases h
  ·simp only [El,Hb] at h
   unfold E8 at h
   split at h
   ·cases h
   split at h
   ·split at h
    ·split at h
     ·cases h
     ·split at h
      ·cases h;exact ⟨_,rfl⟩
      ·cases h
    ·cases h
   ·cases h
 ·cases h;exact ⟨[],by simp⟩
 ·cases h
def Qa : ABlk→ABlk
 | .box cs _ => .box cs false
 | .buf k els _ => .buf k els false
 | .obj o => .obj o
 | .tb T l => .tb T l
 | .mp es => .mp es
 | .lp y N l ps a b => .lp y N l ps a b
 | .gone => .gone
theorem Ik {σ : Am} {id : Nat} : (σ.map Qa)[id]? = (σ[id]?).map Qa:=by simp
theorem Agn {σ : Am} {d : TD} {a : AV} : loadA E (σ.map Qa) d a = loadA E σ d a:=by
  cases a <;> simp only [loadA,Ik]
  case ref id off => cases σ[id]? with
    | none => rfl
    | some b => cases b <;> rfl
  case eref id tot i j => cases σ[id]? with
    | none => rfl
    | some b => cases b <;> rfl
theorem Abn {σ : Am} {id tot : Nat} : Ag0 (σ.map Qa) id tot = Ag0 σ id tot:=by
  simp only [Ag0,Ik]
  cases σ[id]? with
  | none => rfl
  | some b => cases b <;> rfl
theorem Ahr {σ : Am} {x : AV} : J2 (σ.map Qa) x = J2 σ x:=by
  cases x <;> simp only [J2,Ik]
  case bs full id tot off len => cases σ[id]? with
    | none => rfl
    | some b => cases b <;> rfl
theorem Ahm {σ : Am} {t : TypeId} {x : AV} : AiL E (σ.map Qa) t x = AiL E σ t x:=by
  unfold AiL
  cases E.tab t with
  | none => rfl
  | some d =>
    obtain ⟨desc,sz,bt,z⟩:=d
    cases x with
    | bs full id tot off len =>
      cases desc <;> try rfl
      simp only [Ik]
      cases σ[id]? with
      | none => rfl
      | some b => cases b <;> rfl
    | _ => cases desc <;> rfl
theorem Vn {σ : Am} {s : TypeId} {x : AV} {f : Nat} : Ce E (σ.map Qa) s x f = Ce E σ s x f:=by
 unfold Ce
 simp only [Abn]
theorem Wm {σ : Am} {t : TypeId} {x i : AV} : Av E (σ.map Qa) t x i = Av E σ t x i:=by
  unfold Av
  cases E.tab t with
  | none => rfl
  | some d =>
    obtain ⟨desc,sz,bt,z⟩:=d
    cases desc <;> dsimp only <;> try (first | rfl | (simp only [Abn];done))
    rename_i e
    generalize E.tab e = te
    cases te with
    | none => cases x <;> rfl
    | some de =>
      cases x <;> try rfl
      rename_i full id tot off len
      dsimp only
      simp only [Ik]
      cases σ[id]? with
      | none => rfl
      | some b => cases b <;> cases idx i len <;> rfl
theorem AdI {σ : Am} {t : TypeId} {x : AV} {lo hi mx : Option AV} (he : S7 E t = false) : (K2 E (σ.map Qa) t x lo hi mx).map (·.1) = (K2 E σ t x lo hi mx).map (·.1):=by
  unfold K2
  unfold S7 at he
  cases ht : E.tab t with
  | none => rfl
  | some d =>
    rw [ht] at he
    obtain ⟨desc,sz,bt,z⟩:=d
    cases desc <;> dsimp only at he ⊢ <;> try (first | rfl | (cases he;done))
    · cases x <;> dsimp only <;> try rfl
      split <;> try rfl
      split <;> rfl
    · rename_i e
      cases x <;> dsimp only <;> try rfl
      · split <;> try rfl
        split <;> rfl
      · rename_i full id tot off len
        simp only [Ik]
        cases σ[id]? with
        | none => rfl
        | some b =>
          cases b with
          | box => rfl
          | obj o => rfl
          | mp es => rfl
          | lp y N1 l1 ps as1 bd => rfl
          | gone => rfl
          | tb T l => rfl
          | buf k els ro =>
            simp only [Option.map_some,Qa]
            generalize E.tab e = te
            cases te with
            | none => rfl
            | some de =>
              dsimp only
              split <;> try rfl
              split <;> rfl
theorem AaC {σ : Am} {s d : TypeId} {x : AV} (he : Gv E d = false) : (Cx E (σ.map Qa) s d x).map (·.1) = (Cx E σ s d x).map (·.1):=by
  unfold Cx
  unfold Gv at he
  cases hs : E.tab s with
  | none => rfl
  | some sd =>
    cases hd : E.tab d with
    | none => rfl
    | some dd =>
      simp only [hd] at he ⊢
      cases hdd : dd.desc <;> simp only [hdd] at he ⊢ <;> try (first | rfl | (cases he;done))
      · cases x <;> first | rfl | (cases sd.desc <;> rfl)
      · cases x <;> cases sd.desc <;> try rfl
        all_goals
          simp only [Ahr]
          split <;> try rfl
          split <;> try rfl
          split <;> try rfl
          split <;> rfl
theorem Vx {σ : Am} {x : AV} : B5 (σ.map Qa) x = B5 σ x:=by
  cases x <;> simp only [B5,Ik]
  case bs full id tot off len => cases σ[id]? with
    | none => rfl
    | some b => cases b <;> rfl
theorem Amf {σ : Am} {x : AV} : fz (σ.map Qa) x = fz σ x:=by
 cases x <;> simp only [fz,Vx]
 rename_i cs
 congr 1
 have : B5 (σ.map Qa) = B5 σ:=funext fun x => Vx
 rw [this]
theorem AfU {orc : Orc} {fr : List AV} {σ : Am} {c : Call} : Rt orc fr (σ.map Qa) c = Rt orc fr σ c:=by
 unfold Rt
 have : fz (σ.map Qa) = fz σ:=funext fun x => Amf
 rw [this]
theorem Aca {σ : Am} {t : TypeId} {x k : AV} {ok : Bool} : Ho E (σ.map Qa) t x k ok = Ho E σ t x k ok:=by
  cases x with
  | mref id =>
    simp only [Ho,Ik]
    cases σ[id]? with
    | none => rfl
    | some b =>
      cases b with
      | obj o => rfl
      | mp es => rfl
      | lp y N1 l1 ps as1 bd => rfl
      | gone => rfl
      | tb T l => rfl
      | box cs ro => cases ok <;> cases k <;> first | rfl | (cases Ac1 E t with | none => rfl | some d => cases d <;> rfl)
      | buf n els ro => cases ok <;> cases k <;> first | rfl | (cases Ac1 E t with | none => rfl | some d => cases d <;> rfl)
  | _ => rfl
theorem Abz {fr : List AV} {σ : Am} {op : Op} (he : Xw E op = false) : (Hb E fr (σ.map Qa) op).map (·.1) = (Hb E fr σ op).map (·.1):=by
  cases ht : Kp E op with
  | false =>
    rw [Kv (σ:=σ) ht]
    cases Hb E fr σ op <;> rfl
  | true =>
    cases op <;> simp only [Kp,Xw] at ht he <;> try (cases ht;done)
    all_goals try (cases he;done)
    case load t y =>
      simp only [Hb,Agn]
      split <;> simp only [Option.map_map] <;> rfl
    case convert s d y => exact AaC he
    case slice t y lo hi mx => exact AdI he
    case lookup t y z ok => simp only [Hb,Aca,Option.map_map];rfl
    case fieldAddr s y f =>
      simp only [Hb,Vn,Option.map_map];rfl
    case indexAddr t y i =>
      simp only [Hb,Wm,Option.map_map];rfl
    case call c =>
      simp only [Hb]
      cases hc : c.callee <;> simp only [hc] at ht he ⊢ <;> try rfl
      rename_i b
      cases b <;> simp only at ht he <;> try (first | (cases ht;done) | (cases he;done))
      unfold Bv
      split <;> first | rfl | (simp only [Ahm,Option.map_map];rfl) | (exfalso;simp_all;done)
theorem Yy {orc : Orc} {fr : List AV} {σ : Am} {op : Op} (he : Xw E op = false) : (El E orc op fr (σ.map Qa)).map (·.1) = (El E orc op fr σ).map (·.1):=by
  cases op with
  | call c =>
    simp only [El]
    cases hc : c.callee <;> simp only []
    case builtin b => exact Abz he
    all_goals
      simp only [Xw,hc] at he
      simp only [he,Bool.false_eq_true,if_false,AfU,Option.map_map]
      rfl
  | _ => exact Abz (fr:=fr) (σ:=σ) he
theorem AbK {orc : Option Tmp→Orc} {ops : Array Oper} {o : Oper} {fr : List AV} {σ σ' ρ : Am} {x : AV} (hρ : σ.map Qa = ρ.map Qa) (he : AbD E ops o = false) (h : G2 E orc ops o fr σ = some (x,σ')) : G2 E orc ops o fr ρ = some (x,ρ):=by
 unfold G2 at h ⊢
 split at h
 ·rcases Rm he with hf | ⟨hf,he⟩
  ·rw [hf] at h ⊢
   have e : ∀ σ,Jc true σ = Mu σ:=fun σ => by funext r;simp [Jc]
   rw [e] at h ⊢
   have e2 : ∀ σ,El E (orc o.dst) o.op fr σ = Hb E fr σ o.op:=by
    intro σ
    rcases Gg hf with ⟨t,n,l,h⟩ | ⟨s,d,x,h,_⟩ <;> rw [h] <;> rfl
   rw [e2] at h ⊢
   exact Aef ρ (Gg hf) h
  ·rw [hf] at h ⊢
   have e : ∀ σ,Jc false σ = some:=fun σ => by funext r;simp [Jc]
   rw [e] at h ⊢
   rw [Ci] at h ⊢
   have h1:=Yy (E:=E) (orc:=orc o.dst) (fr:=fr) (σ:=σ) he
   have h2:=Yy (E:=E) (orc:=orc o.dst) (fr:=fr) (σ:=ρ) he
   rw [hρ,h2,h] at h1
   simp only [Option.map_some] at h1
   rw [Option.map_eq_some_iff] at h1
   obtain ⟨⟨y,ρ'⟩,h3,h4⟩:=h1
   simp only at h4
   subst h4
   rw [h3,U8 he h3]
 ·cases h;rfl
 ·cases h
def N6 (E : Env) : Op→Bool
 | .slice t .. => S7 E t
 | _ => false
theorem AbH {orc : Option Tmp→Orc} {ops : Array Oper} {o : Oper} {fr : List AV} {σ σ' : Am} {x : AV} (ha : N6 E o.op = true) (h : G2 E orc ops o fr σ = some (x,σ')) : σ.map Qa = σ'.map Qa:=by
 have hf : Ib E ops o = false:=by
  cases hf : Ib E ops o
  ·rfl
  ·rcases Gg hf with ⟨t,n,l,h⟩ | ⟨s,d,x,h,_⟩ <;> rw [h] at ha <;> cases ha
 unfold G2 at h
 rw [hf] at h
 have e : ∀ σ,Jc false σ = some:=fun σ => by funext r;simp [Jc]
 rw [e,Ci] at h
 split at h
 ·cases ho : o.op <;> simp only [ho,N6] at ha h <;> try (cases ha;done)
  simp only [El,Hb,K2] at h
  repeat' split at h
  all_goals try (cases h;done)
  all_goals try (cases h;rfl)
  all_goals try (
   generalize E.G _ = gg at h
   generalize E.tab _ = tt at h
   cases gg <;> cases tt <;> simp only at h <;> try (cases h;done)
   split at h
   ·split at h
    ·cases h;rfl
    ·cases h
   ·cases h
   done)
  cases h
  rename_i hσ _ _ _ _ _
  rw [List.map_set]
  refine (List.ext_getElem? fun i => ?_)
  rw [List.getElem?_set]
  split
  ·rename_i hi
   subst hi
   simp only [List.length_map]
   split
   ·rw [Ik,‹σ[_]? = some (ABlk.box _ _)›];rfl
   ·rename_i hn
    exact absurd (by simpa using (List.getElem?_eq_some_iff.1 ‹σ[_]? = some (ABlk.box _ _)›).1) hn
  ·rfl
 ·cases h;rfl
 ·cases h
def mkO (σ : Am) : Option Nat→Am
 | none => σ
 | some id => Dj σ id
theorem AbJ (σ : Am) (a b : Nat) : Dj (Dj σ a) b = Dj (Dj σ b) a:=by
 refine List.ext_getElem? fun i => ?_
 simp only [E3]
 by_cases h1 : i = a
 ·by_cases h2 : i = b
  ·subst h1;subst h2;rfl
  ·simp only [if_pos h1,if_neg h2]
 ·by_cases h2 : i = b
  ·simp only [if_neg h1,if_pos h2]
  ·simp only [if_neg h1,if_neg h2]
theorem Aku (σ : Am) (a b : Option Nat) : mkO (mkO σ a) b = mkO (mkO σ b) a:=by
 cases a <;> cases b <;> first | rfl | exact AbJ _ _ _
theorem R0 {orc : Option Tmp→Orc} {ops : Array Oper} {o : Oper} {fr : List AV} {σ σ' : Am} {x : AV} (ha : N6 E o.op = true) (h : G2 E orc ops o fr σ = some (x,σ')) :
    ∃ m,σ' = mkO σ m∧∀ ρ : Am,ρ.map Qa = σ.map Qa→G2 E orc ops o fr ρ = some (x,mkO ρ m):=by
  have hf : Ib E ops o = false:=by
    cases hf : Ib E ops o
    · rfl
    · rcases Gg hf with ⟨t,n,l,h⟩ | ⟨s,d,x,h,_⟩ <;> rw [h] at ha <;> cases ha
  have e : ∀ σ,Jc false σ = some:=fun σ => by funext r;simp [Jc]
  unfold G2 at h ⊢
  rw [hf] at h ⊢
  simp only [e,Ci] at h ⊢
  split at h
  · cases ho : o.op <;> simp only [ho,N6] at ha h <;> try (cases ha;done)
    rename_i t y lo hi mx
    simp only [El,Hb] at h ⊢
    unfold S7 at ha
    cases ht : E.tab t with
    | none => simp [ht] at ha
    | some d =>
      obtain ⟨desc,sz,bt,z⟩:=d
      rw [ht] at ha
      cases desc <;> simp only at ha <;> try (cases ha;done)
      rename_i n e2
      unfold K2 at h ⊢
      simp only [ht] at h ⊢
      generalize ev fr y = yv at h ⊢
      cases yv <;> simp only at h ⊢ <;> try (cases h;done)
      case glob gi =>
        refine ⟨none,?_,fun ρ _ => ?_⟩
        · repeat' split at h
          all_goals try (cases h;done)
          all_goals (cases h;rfl)
        · repeat' split at h
          all_goals try (cases h;done)
          all_goals (cases h;simp_all [mkO])
      rename_i id off
      cases hσ : σ[id]? with
      | none => simp [hσ] at h
      | some b =>
        cases b with
        | buf => simp [hσ] at h
        | obj o => simp [hσ] at h
        | mp es => simp [hσ] at h
        | lp y N1 l1 ps as1 bd => simp [hσ] at h
        | gone => simp [hσ] at h
        | tb T l => simp [hσ] at h
        | box cs ro =>
          cases hte : E.tab e2 with
          | none => simp [hσ,hte] at h
          | some de =>
            simp only [hσ,hte] at h
            split at h
            case isFalse => cases h
            rename_i hc
            split at h
            case h_2 => cases h
            rename_i l h1 f1 hb
            cases h
            refine ⟨some id,?_,fun ρ hρ => ?_⟩
            · show _ = Dj σ id
              unfold Dj;rw [hσ]
            · have h2 : (ρ[id]?).map Qa = (σ[id]?).map Qa:=by rw [← Ik,← Ik,hρ]
              rw [hσ] at h2
              cases hρ2 : ρ[id]? with
              | none => rw [hρ2] at h2;cases h2
              | some b2 =>
                rw [hρ2] at h2
                cases b2 with
                | buf => cases h2
                | obj o => cases h2
                | mp es => cases h2
                | lp y N1 l1 ps as1 bd => cases h2
                | gone => cases h2
                | tb T l => cases h2
                | box cs2 ro2 =>
                  simp only [Option.map_some,Qa,Option.some.injEq,ABlk.box.injEq,and_true] at h2
                  subst h2
                  simp only [hρ2,hte,if_pos hc,hb]
                  show _ = some (_,Dj ρ id)
                  unfold Dj;rw [hρ2]
  · cases h;exact ⟨none,rfl,fun ρ _ => rfl⟩
  · cases h
def Pb (E : Env) (ops : Array Oper) (x y : Oper) : Bool :=
 x.apart ops y && ((!(AbD E ops x && Kp E y.op) && !(AbD E ops y && Kp E x.op)) || (AaE y.op && !AbD E ops x) || (N6 E y.op && !AbD E ops x) || (N6 E x.op && !AbD E ops y) || (N6 E x.op && N6 E y.op))
theorem Aci {op : Op} (h : Kp E op = false) : Xw E op = false:=by
 cases op <;> simp only [Kp,Xw] at h ⊢ <;> try (first | assumption | (cases h;done))
 case call c =>
  cases hc : c.callee <;> rw [hc] at h <;> try (cases h;done)
  rename_i b
  cases b <;> first | rfl | (cases h;done)
theorem Aaf {ops : Array Oper} {o : Oper} (h : Kp E o.op = false) : AbD E ops o = false:=by
 unfold AbD;rw [Aci h];rfl
theorem Lu {orc : Option Tmp→Orc} {ops : Array Oper} {x y : Oper} {st st1 st2 : St} (hc : Pb E ops x y = true) (h1 : C9 E orc ops x st = some st1) (h2 : C9 E orc ops y st1 = some st2) :
    ∃ st3,C9 E orc ops y st = some st3∧C9 E orc ops x st3 = some st2:=by
  simp only [Pb,Bool.and_eq_true,Bool.or_eq_true,Bool.not_eq_true',Bool.and_eq_false_iff] at hc
  obtain ⟨hap,hcase⟩:=hc
  obtain ⟨a1,a2,a3⟩:=Oper.apart_spec hap
  unfold C9 at h1 h2 ⊢
  rw [Option.map_eq_some_iff] at h1 h2
  obtain ⟨⟨v,σ1⟩,hv,rfl⟩:=h1
  obtain ⟨⟨u,σ2⟩,hu,rfl⟩:=h2
  simp only at hu ⊢
  rw [Ca a1] at hu
  have fin : ∀ σ3,G2 E orc ops y st.fr st.σ = some (u,σ3)→G2 E orc ops x st.fr σ3 = some (v,σ2) →
      ∃ st3,(G2 E orc ops y st.fr st.σ).map (fun r => (⟨Bh st.fr y.dst r.1,r.2⟩ : St)) = some st3∧(G2 E orc ops x st3.fr st3.σ).map (fun r => (⟨Bh st3.fr x.dst r.1,r.2⟩ : St)) = some ⟨Bh (Bh st.fr x.dst v) y.dst u,σ2⟩:=by
    intro σ3 hy hx
    refine ⟨⟨Bh st.fr y.dst u,σ3⟩,by rw [hy];rfl,?_⟩
    simp only
    rw [Ca a3,hx]
    simp only [Option.map_some,E1 st.fr v u a2]
  rcases hcase with (((⟨e1,e2⟩ | ⟨hal,ex⟩) | ⟨hal,ex⟩) | ⟨hal,ey⟩) | ⟨hax,hay⟩
  case inr =>
    obtain ⟨m,rfl,_⟩:=R0 hax hv
    have hun : ∀ (σ : Am) (m : Option Nat),(mkO σ m).map Qa = σ.map Qa:=by
      intro σ m
      cases m with
      | none => rfl
      | some id =>
        refine List.ext_getElem? fun i => ?_
        rw [Ik,Ik]
        show ((Dj σ id)[i]?).map Qa = _
        rw [E3]
        split
        · cases σ[i]? with
          | none => rfl
          | some b => cases b <;> rfl
        · rfl
    obtain ⟨m2,rfl,h2⟩:=R0 hay hu
    obtain ⟨m1,e1,h1⟩:=R0 hax hv
    refine fin (mkO st.σ m2) (h2 st.σ (hun _ _).symm) ?_
    rw [h1 _ (hun _ _),e1,Aku]
  case inl.inl.inr =>
    obtain rfl:=Fm ex hv
    exact fin _ hu (AbK (AbH hal hu) ex hv)
  case inl.inr =>
    obtain rfl:=Fm ey hu
    exact fin _ (AbK (AbH hal hv).symm ey hu) hv
  case inl.inl.inl.inr =>
    obtain rfl:=Fm ex hv
    obtain ⟨bs,rfl⟩:=AfN hal hu
    exact fin _ hu (Ahy bs ex hv)
  rcases e1 with ex | ty
  · obtain rfl:=Fm ex hv
    rcases e2 with ey | tx
    · obtain rfl:=Fm ey hu
      exact fin _ hu hv
    · refine fin _ hu ?_
      rw [Ss (σ:=st.σ) tx,hv];rfl
  · have ey : AbD E ops y = false:=Aaf ty
    obtain rfl:=Fm ey hu
    rw [Ss (σ:=st.σ) ty,Option.map_eq_some_iff] at hu
    obtain ⟨⟨u',σ'⟩,hy,he⟩:=hu
    simp only [Prod.mk.injEq] at he
    obtain ⟨rfl,_⟩:=he
    obtain rfl:=Fm ey hy
    exact fin _ hy hv
def Wi (B : Base) (orc : Orc) : Prop:=(∀ f args r,orc.fz f args = some r→Con B f args [] (fun r' σ' => r' = r∧σ' = [])) ∧
 ∀ f args σ r σ',orc.own f args σ = some (r,σ')→∀ F : Addr→Prop,Acl (B.env F) f args σ r σ'
theorem Alt {orc : Orc} (hO : Wi E.toBase orc) {o : Oper} {c : Call} (hop : o.op = .call c) {st : St} {r : AV×Am} (h : Alx orc st.fr st.σ c = some r)
  {a : Act} {w : World} {g : Gh} (hr : Rel E w g st a) {next : Act→World→Prop} {Q : Exit→Act→World→Prop}
  (hk : ∀ a' w' g',Rel E w' g' ⟨Bh st.fr o.dst r.1,r.2⟩ a'→Evo E 0 w g w' g'→GLe g g'→next a' w') : o.wp E.P a w next Q:=by
 unfold Alx at h
 split at h
 case h_2 => cases h
 rename_i f hc
 split at h
 case h_2 => cases h
 rename_i fid hf
 exact Adq hop hc hf (AdY (hO.2 _ _ _ r.1 r.2 h E.F)) hr hk
theorem Ajd (hE : E.Ok) {orc : Orc} (hO : Wi E.toBase orc) {o : Oper} {st : St} {r : AV×Am} (h : El E orc o.op st.fr st.σ = some r)
    {a : Act} {w : World} {g : Gh} (hr : Rel E w g st a) {next : Act→World→Prop} {Q : Exit→Act→World→Prop}
    (hk : ∀ a' w' g',Rel E w' g' ⟨Bh st.fr o.dst r.1,r.2⟩ a'→Evo E 0 w g w' g'→GLe g g'→next a' w') : o.wp E.P a w next Q:=by
  have plain : Hb E st.fr st.σ o.op = some r→o.wp E.P a w next Q:=by
    intro h
    obtain ⟨v,w',g',h1,h2,h3,h4,h5⟩:=Rq (x:=r.1) (σ':=r.2) hE hr h
    unfold Oper.wp
    exact AaW h1 (hk _ w' g' (Ii (Ni hr h2 h3 h4) o.dst h5) h4 h3)
  cases hop : o.op with
  | call c =>
    simp only [hop,El] at h
    cases hc : c.callee <;> simp only [hc] at h
    case builtin b => exact plain (by rw [hop];exact h)
    all_goals (split at h;· exact Alt hO hop h hr hk)
    all_goals try (simp [Rt,hc] at h;done)
    rename_i f _
    rw [Option.map_eq_some_iff] at h
    obtain ⟨r1,h,rfl⟩:=h
    unfold Rt at h
    simp only [hc] at h
    split at h
    case h_2 => cases h
    rename_i fid hf
    split at h
    case h_2 => cases h
    rename_i args ha
    split at h
    case h_2 => cases h
    rename_i r2 ho
    split at h
    case isFalse => cases h
    rename_i hs
    cases h
    rcases hs with hs | hs
    · exact Pn hop hc hf ha hs ((hO.1 _ _ _ ho).mono fun _ _ h => h.1) hr hk
    · refine Lh hop hc hf ha (hO.1 _ _ _ ho) hr ?_
      rw [hs]
      exact hk
  | _ => exact plain (by rw [hop];simp only [hop] at h;exact h)
theorem Aox (hE : E.Ok) {o : Oper} {st : St} {r : AV×Am} (hf : (∃ t n l,o.op = .buildSlice t n l)∨(∃ s d x,o.op = .convert s d x∧Gv E d = true))
  (h : (Hb E st.fr st.σ o.op).bind (Mu st.σ) = some r)
  {a : Act} {w : World} {g : Gh} (hr : Rel E w g st a) {next : Act→World→Prop} {Q : Exit→Act→World→Prop}
  (hk : ∀ a' w' g',Rel E w' g' ⟨Bh st.fr o.dst r.1,r.2⟩ a'→Evo E 0 w g w' g'→GLe g g'→next a' w') : o.wp E.P a w next Q:=by
 rw [Option.bind_eq_some_iff] at h
 obtain ⟨⟨x,σ'⟩,h1,h2⟩:=h
 obtain ⟨y,σ2⟩:=r
 have hp : ∃ bs,σ' = st.σ ++ bs:=by
  rcases hf with ⟨t,n,l,e⟩ | ⟨s,d,z,e,_⟩
  ·rw [e] at h1
   simp only [Hb,E8] at h1
   repeat' split at h1
   all_goals try (cases h1;done)
   cases h1;exact ⟨_,rfl⟩
  ·rw [e] at h1
   simp only [Hb,Cx] at h1
   repeat' split at h1
   all_goals try (cases h1;done)
   all_goals (cases h1;first | exact ⟨_,rfl⟩ | exact ⟨[],by simp⟩)
 obtain ⟨v,w',g',k1,k2,k3,k4,k5⟩:=Rq (x:=x) (σ':=σ') hE hr h1
 obtain ⟨rfl,m2,m3,m4,m5⟩:=Acn hr.mem hp h2 k2 k3 k4 k5
 unfold Oper.wp
 exact AaW k1 (hk _ w' _ (Ii (Ni hr m2 m3 m4) o.dst m5) m4 m3)
theorem Aif (hE : E.Ok) {orc : Option Tmp→Orc} (hO : ∀ d,Wi E.toBase (orc d)) {ops : Array Oper} {o : Oper} {st : St} {r : AV×Am} (h : (El E (orc o.dst) o.op st.fr st.σ).bind (Jc (Ib E ops o) st.σ) = some r)
    {a : Act} {w : World} {g : Gh} (hr : Rel E w g st a) {next : Act→World→Prop} {Q : Exit→Act→World→Prop}
    (hk : ∀ a' w' g',Rel E w' g' ⟨Bh st.fr o.dst r.1,r.2⟩ a'→Evo E 0 w g w' g'→GLe g g'→next a' w') : o.wp E.P a w next Q:=by
  cases hf : Ib E ops o with
  | true =>
    have e : ∀ σ,Jc true σ = Mu σ:=fun σ => by funext r;simp [Jc]
    have e2 : El E (orc o.dst) o.op st.fr st.σ = Hb E st.fr st.σ o.op:=by
      rcases Gg hf with ⟨t,n,l,h⟩ | ⟨s,d,x,h,_⟩ <;> rw [h] <;> rfl
    rw [hf,e,e2] at h
    exact Aox hE (Gg hf) h hr hk
  | false =>
    have e : ∀ σ,Jc false σ = some:=fun σ => by funext r;simp [Jc]
    rw [hf,e,Ci] at h
    exact Ajd hE (hO _) h hr hk
theorem Uf (hE : E.Ok) {orc : Option Tmp→Orc} (hO : ∀ d,Wi E.toBase (orc d)) {ops : Array Oper} {i : Nat} {o : Oper} {st st' : St} (hi : ops[i]? = some o) (h : C9 E orc ops o st = some st')
    {a : Act} {w : World} {g : Gh} (hr : Rel E w g st a) {next : Act→World→Prop} {Q : Exit→Act→World→Prop}
    (hk : ∀ a' w' g',Rel E w' g' st' a'→Evo E 0 w g w' g'→GLe g g'→next a' w') : wpOp E.P ops Q i next a w:=by
  unfold C9 at h
  rw [Option.map_eq_some_iff] at h
  obtain ⟨⟨x,σ'⟩,hv,rfl⟩:=h
  unfold wpOp
  simp only [hi]
  unfold G2 L2 at hv
  cases hg : o.guard with
  | none =>
    simp only [hg] at hv
    simp only [Region.wanted,hg,if_true]
    exact .inl (Aif hE hO hv hr hk)
  | some p =>
    obtain ⟨j,want⟩:=p
    simp only [hg] at hv
    cases hy : Nd ops st.fr j with
    | none => simp [hy] at hv
    | some b =>
      simp only [Region.wanted,hg,N7 hr hy]
      simp only [hy,Option.map_some] at hv
      by_cases e : b = some want
      · rw [if_pos (by simp [e])]
        rw [show (b == some want) = true by simp [e]] at hv
        exact .inl (Aif hE hO hv hr hk)
      · rw [if_neg (by simp [e])]
        rw [show (b == some want) = false by simp [e]] at hv
        cases hv
        exact hk _ w g (Ii hr o.dst (Xp _ _ _)) (Evo.refl _ _ _ _) (GLe.refl _)
def G3 (ops : Array Oper) (i : Nat) : List Nat:=match ops[i]? with
 | some o => (o.after.toList.filter (Region.binds .any)).map (·.on)
 | none => []
def Iy (ops : Array Oper) (T : List (List Nat)) : Bool :=
 (List.range ops.size).all fun i => (G3 ops i).all (· < i) && (T.getD i []).all fun j => (G3 ops i).contains j || (G3 ops i).any fun k => (T.getD k []).contains j
def L1 (E : Env) (ops : Array Oper) (T : List (List Nat)) : Bool :=
 (List.range ops.size).all fun i => (List.range i).all fun j => (T.getD i []).contains j || (match ops[j]?,ops[i]? with
  | some x,some y => Pb E ops x y
  | _,_ => false)
theorem K1 {orc : Option Tmp→Orc} {ops : Array Oper} {i : Nat} {y : Oper} (hi : ops[i]? = some y) {l2 : List Nat} {st' : St} : ∀ (l1 : List Nat) (st : St),
    (∀ j ∈ l1,∀ x,ops[j]? = some x→Pb E ops x y = true)→B0 E orc ops (l1 ++ i :: l2) st = some st' →
    ∃ st1,C9 E orc ops y st = some st1∧B0 E orc ops (l1 ++ l2) st1 = some st'
  | [],st,_,h => by
    simp only [List.nil_append,B0,hi] at h
    rw [Option.bind_eq_some_iff] at h
    exact h
  | j :: l1,st,hc,h => by
    simp only [List.cons_append,B0] at h
    cases hj : ops[j]? with
    | none => simp [hj] at h
    | some x =>
      simp only [hj] at h
      rw [Option.bind_eq_some_iff] at h
      obtain ⟨s1,h1,h⟩:=h
      obtain ⟨s2,h2,h⟩:=K1 hi l1 s1 (fun k hk => hc k (List.mem_cons_of_mem _ hk)) h
      obtain ⟨s3,h3,h4⟩:=Lu (hc j List.mem_cons_self x hj) h1 h2
      refine ⟨s3,h3,?_⟩
      simp only [List.cons_append,B0,hj,h4,Option.bind_some]
      exact h
theorem A2 {n : Nat} {p : Nat→Bool} (h : (List.range n).all p = true) {i : Nat} (hi : i < n) : p i = true :=
 List.all_eq_true.1 h i (List.mem_range.2 hi)
theorem Fz {ops : Array Oper} {T : List (List Nat)} (h : Iy ops T = true) {i : Nat} (hi : i < ops.size) {d : Nat} (hd : d ∈ G3 ops i) : d < i:=by
 have:=A2 h hi
 simp only [Bool.and_eq_true,List.all_eq_true,decide_eq_true_eq] at this
 exact this.1 d hd
theorem Ha {ops : Array Oper} {T : List (List Nat)} (h : Iy ops T = true) {rem : List Nat}
    (hdown : ∀ k,k < ops.size→k ∉ rem→∀ d ∈ G3 ops k,d ∉ rem) : ∀ (i : Nat),i < ops.size→(∀ d ∈ G3 ops i,d ∉ rem)→∀ j ∈ T.getD i [],j ∉ rem:=by
  intro i
  induction i using Nat.strongRecOn with
  | _ i ih =>
    intro hi hd j hj
    have hh:=A2 h hi
    simp only [Bool.and_eq_true,List.all_eq_true,Bool.or_eq_true,List.contains_iff_mem,List.any_eq_true,decide_eq_true_eq] at hh
    rcases hh.2 j hj with hj | ⟨k,hk,hkj⟩
    · exact hd j hj
    · have hki:=hh.1 k hk
      have hks:=Nat.lt_trans hki hi
      exact ih k hki hks (hdown k hks (hd k hk)) j hkj
theorem Hf {ops : Array Oper} {i : Nat} {o : Oper} (hi : ops[i]? = some o) {d : Nat} : d ∈ G3 ops i↔∃ e ∈ o.after,Region.binds .any e = true∧e.on = d:=by
 simp only [G3,hi,List.mem_map,List.mem_filter,Array.mem_toList_iff]
 constructor
 ·rintro ⟨e,⟨h1,h2⟩,h3⟩;exact ⟨e,h1,h2,h3⟩
 ·rintro ⟨e,h1,h2,h3⟩;exact ⟨e,⟨h1,h2⟩,h3⟩
theorem AgA (hE : E.Ok) {orc : Option Tmp→Orc} (hO : ∀ d,Wi E.toBase (orc d)) {ops : Array Oper} {T : List (List Nat)} (hc : Iy ops T = true) (hm : L1 E ops T = true) {st' : St} {Q : Exit→Act→World→Prop} :
    ∀ (fuel : Nat) (rem : List Nat) (listed : Array Bool) (st : St) (a : Act) (w : World) (g : Gh),rem.length = fuel→rem.Pairwise (· < ·)→listed.size = ops.size →
      (∀ j,listed.getD j true = false↔j ∈ rem)→(∀ k,k < ops.size→k ∉ rem→∀ d ∈ G3 ops k,d ∉ rem) →
      B0 E orc ops rem st = some st'→Rel E w g st a→(∀ a' w' g',Rel E w' g' st' a'→Evo E 0 w g w' g'→GLe g g'→Q .normal a' w') →
      wpAny E.P .any ops Q fuel listed a w:=by
  have hin : ∀ (rem : List Nat) (listed : Array Bool),listed.size = ops.size→(∀ j,listed.getD j true = false↔j ∈ rem)→∀ j ∈ rem,j < ops.size:=by
    intro rem listed hs hl j hj
    have:=(hl j).2 hj
    by_cases e : j < listed.size
    · omega
    · simp [Array.getD,e] at this
  have hgd : ∀ (rem : List Nat) (listed : Array Bool),listed.size = ops.size→(∀ j,listed.getD j true = false↔j ∈ rem)→∀ d,d < ops.size→(listed.getD d false = true↔d ∉ rem):=by
    intro rem listed hs hl d hd
    have h1 : listed.getD d false = listed.getD d true:=by
      have : d < listed.size:=by omega
      simp [Array.getD,this]
    rw [h1,← hl d]
    cases listed.getD d true <;> simp
  have hrd : ∀ (rem : List Nat) (listed : Array Bool),listed.size = ops.size→(∀ j,listed.getD j true = false↔j ∈ rem)→∀ i,
      (i ∈ Region.ready .any ops listed↔i ∈ rem∧∀ d ∈ G3 ops i,d ∉ rem):=by
    intro rem listed hs hl i
    rw [mem_ready,hl i]
    constructor
    · rintro ⟨h1,o,ho,h2⟩
      refine ⟨h1,fun d hd => ?_⟩
      have hlt:=Fz hc (hin rem listed hs hl i h1) hd
      have hds:=Nat.lt_trans hlt (hin rem listed hs hl i h1)
      obtain ⟨e,he,hb,rfl⟩:=(Hf ho).1 hd
      exact (hgd rem listed hs hl _ hds).1 (h2 e he hb)
    · rintro ⟨h1,h2⟩
      have hi:=hin rem listed hs hl i h1
      refine ⟨h1,ops[i],Array.getElem?_eq_getElem hi,fun e he hb => ?_⟩
      have hd : e.on ∈ G3 ops i:=(Hf (Array.getElem?_eq_getElem hi)).2 ⟨e,he,hb,rfl⟩
      exact (hgd rem listed hs hl _ (Nat.lt_trans (Fz hc hi hd) hi)).2 (h2 _ hd)
  have hdone : ∀ (rem : List Nat) (listed : Array Bool),rem.Pairwise (· < ·)→listed.size = ops.size→(∀ j,listed.getD j true = false↔j ∈ rem)→Region.ready .any ops listed = []→rem = []:=by
    intro rem listed hp hs hl hr
    cases rem with
    | nil => rfl
    | cons i r =>
      have hi : i ∈ Region.ready .any ops listed:=(hrd _ listed hs hl i).2 ⟨List.mem_cons_self,fun d hd hm => by
        have:=Fz hc (hin _ listed hs hl i List.mem_cons_self) hd
        rcases List.mem_cons.1 hm with rfl | hm
        · omega
        · have:=List.rel_of_pairwise_cons hp hm
          omega⟩
      rw [hr] at hi
      cases hi
  intro fuel
  induction fuel with
  | zero =>
    intro rem listed st a w g hf hp hs hl hd hst hr hq
    have : rem = []:=List.length_eq_zero_iff.1 hf
    subst this
    simp only [B0,Option.some.injEq] at hst
    subst hst
    refine ⟨?_,hq a w g hr (Evo.refl _ _ _ _) (GLe.refl _)⟩
    rw [List.eq_nil_iff_forall_not_mem]
    intro i hi
    have:=((hrd _ listed hs hl i).1 hi).1
    cases this
  | succ fuel ih =>
    intro rem listed st a w g hf hp hs hl hd hst hr hq
    refine ⟨fun h => ?_,fun i hi => ?_⟩
    · have:=hdone rem listed hp hs hl h
      subst this
      simp at hf
    · obtain ⟨hir,hid⟩:=(hrd rem listed hs hl i).1 hi
      have his:=hin rem listed hs hl i hir
      obtain ⟨l1,l2,rfl⟩:=List.append_of_mem hir
      have hp':=hp
      rw [List.pairwise_append] at hp'
      obtain ⟨p1,p2,p3⟩:=hp'
      have hnd : ∀ j ∈ l1 ++ l2,j≠i:=by
        intro j hj
        rcases List.mem_append.1 hj with hj | hj
        · have:=p3 j hj i List.mem_cons_self;omega
        · have:=List.rel_of_pairwise_cons p2 hj;omega
      have hmem : ∀ j,j ∈ l1 ++ l2↔j ∈ l1 ++ i :: l2∧j≠i:=by
        intro j
        constructor
        · intro hj
          refine ⟨?_,hnd j hj⟩
          simp only [List.mem_append,List.mem_cons] at hj ⊢
          rcases hj with hj | hj
          · exact .inl hj
          · exact .inr (.inr hj)
        · rintro ⟨hj,hne⟩
          simp only [List.mem_append,List.mem_cons] at hj ⊢
          rcases hj with hj | hj | hj
          · exact .inl hj
          · exact (hne hj).elim
          · exact .inr hj
      have hcm : ∀ j ∈ l1,∀ x,ops[j]? = some x→Pb E ops x ops[i] = true:=by
        intro j hj x hx
        have hji : j < i:=p3 j hj i List.mem_cons_self
        have h1:=A2 (A2 hm his) hji
        simp only [Bool.or_eq_true,List.contains_iff_mem] at h1
        rcases h1 with h1 | h1
        · exact (Ha hc hd i his hid j h1 (List.mem_append_left _ hj)).elim
        · simp only [hx,Array.getElem?_eq_getElem his] at h1
          exact h1
      obtain ⟨st1,h1,h2⟩:=K1 (Array.getElem?_eq_getElem his) l1 st hcm hst
      refine Uf hE hO (Array.getElem?_eq_getElem his) h1 hr fun a1 w1 g1 hr1 he1 hg1 => ?_
      refine ih (l1 ++ l2) (listed.setIfInBounds i true) st1 a1 w1 g1 ?_ ?_ ?_ ?_ ?_ h2 hr1 ?_
      · simp at hf ⊢;omega
      · exact hp.sublist (List.Sublist.append_left (List.sublist_cons_self i l2) l1)
      · simp [hs]
      · intro j
        rw [hmem j,← hl j]
        by_cases e : j = i
        · subst e
          have : j < listed.size:=by omega
          simp [Array.getD,this]
        · rw [getD_set_ne true (fun h => e h.symm)]
          simp [e]
      · intro k hk hkn d hdk hdm
        have hd2:=((hmem d).1 hdm).1
        by_cases e : k = i
        · subst e
          exact hid d hdk hd2
        · exact hd k hk (fun h => hkn ((hmem k).2 ⟨h,e⟩)) d hdk hd2
      · intro a' w' g' hr' he' hg'
        exact hq a' w' g' hr' (he1.trans he') (hg1.trans hg')
theorem O6 {w w' : World} {g : Gh} {st : St} {a : Act} (hr : Rel E w g st a) (h : SameMem w w') : Rel E w' g st a :=
 ⟨hr.size,fun t x hx => Aa3 h (hr.slot t x hx),hr.mem.same h,hr.defers.evo (n:=0) (Evo.same h)⟩
theorem Wr (hE : E.Ok) {orc : Option Tmp→Orc} (hO : ∀ d,Wi E.toBase (orc d)) (hP : E.P.follows .mixedOrders = true) {n id : Nat} {l : List Oper} (T : List (List Nat)) (hok1 : Iy l.toArray T = true) (hok2 : L1 E l.toArray T = true) {st st' : St} {K : E2}
  (hst : B0 E orc l.toArray (List.range l.length) st = some st') (hk : K .normal st') : Run E n (.region id l.toArray true) st K:=by
 intro hcm a w g hr Q hq
 refine O9 (P0 hcm) (wp_region_any hP ?_)
 have hsm : SameMem w { w with drawn:=w.drawn + 1 }:=⟨rfl,rfl,rfl,rfl⟩
 refine AgA hE hO hok1 hok2 l.toArray.size (List.range l.length) _ st a _ g (by simp) List.pairwise_lt_range (by simp) ?_ ?_ hst (O6 hr hsm) ?_
 ·intro j
  rw [List.mem_range]
  by_cases h : j < l.length <;> simp [Array.getD,h]
 ·intro k hk hkn
  exact (hkn (List.mem_range.2 (by simpa using hk))).elim
 ·intro a' w' g' hr' he hg
  exact hq _ _ _ _ _ hk hr' ((Evo.same hsm).trans (he.of_gle hg))
end Go.Rv
