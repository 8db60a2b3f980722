/-
  Part 16.
-/
import Derived.Test.YtldngkmkhfddpaaDoorYT15
import Derived.Orders
namespace Go.Rv
set_option linter.unusedVariables false
set_option linter.unusedSimpArgs false
variable {E:Env}
structure Orc where
  fz:FuncId→List AV→Option AV
  own:FuncId→List AV→Ad→Option (AV×Ad)
def N5(E:Env)(c:Call):Bool:=match c.callee with
 |.value (.func f)=>E.own f c.args.toList
 |.value (.tmp _)=>E.own 1000000 c.args.toList
 |_=>false
def XJ(orc:Orc)(fr:List AV)(σ:Ad)(c:Call):Option (AV×Ad) :=
 match c.callee with
 |.value f=>match ev fr f with
  |.fn fid []=>orc.own fid (c.args.toList.map (ev fr)) σ
  |.fn fid [.tup xs]=>orc.own fid (xs++c.args.toList.map (ev fr)) σ
  |.fn fid cs=>orc.own fid (c.args.toList.map (ev fr)++cs) σ
  |_=>none
 |_=>none
theorem Ol{orc:Orc}{fr:List AV}{σ:Ad}{c:Call}{r:AV×Ad}(h:XJ orc fr σ c=some r):∃fid args,orc.own fid args σ=some r:=by
 unfold XJ at h
 split at h
 ·split at h
  ·exact⟨_,_,h⟩
  ·exact⟨_,_,h⟩
  ·exact⟨_,_,h⟩
  ·cases h
 ·cases h
def Ju(orc:Orc)(fr:List AV)(σ:Ad)(c:Call):Option AV :=
 match c.callee with
 | .value f=>match ev fr f with
  | .fn fid []=>match(c.args.toList.map (ev fr)).mapM (fz σ)with
   |some args=>match orc.fz fid args with
    |some r=>if r.scalar=true∨(c.args.toList.map (ev fr)).flatMap B2=[]then some r else none
    |none=>none
   |none=>none
  |_=>none
 |_=>none
def Cm(E:Env)(orc:Orc)(op:Op)(fr:List AV)(σ:Ad):Option (AV×Ad) :=
 match op with
 |.call c=>match c.callee with
  |.builtin _=>DE E fr σ op
  |_=>if N5 E c=true then XJ orc fr σ c else(Ju orc fr σ c).map fun r=>(r,σ)
 |op=>DE E fr σ op
theorem LA{w:World}{pr:Addr→Prop}{g:Gh}{v:Value}{x:AV}(h:Rep w pr g v x):x.under g.length=true:=by
  induction h with
  |bs g v full id tot off len b hb hx ht h ho=>simpa [AV.under]using(List.getElem?_eq_some_iff.1 hb).1
  |ref g id off β b hb hx hβ=>simpa [AV.under]using(List.getElem?_eq_some_iff.1 hb).1
  |tref g id t β b hb hx hβ ht=>simpa [AV.under]using(List.getElem?_eq_some_iff.1 hb).1
  |mref g id β b hb hx hβ=>simpa [AV.under]using(List.getElem?_eq_some_iff.1 hb).1
  |yld g id β b hb hx hβ=>simpa [AV.under]using(List.getElem?_eq_some_iff.1 hb).1
  |nref g v id b hb hx h=>simpa [AV.under]using(List.getElem?_eq_some_iff.1 hb).1
  |eref g v id tot i j b hb hx ht h ho=>simpa [AV.under]using(List.getElem?_eq_some_iff.1 hb).1
  | agg g vs cs hs ho hr ih=>
    simp only[AV.under,List.all_eq_true]
    rintro⟨x,hx⟩ _
    obtain⟨i,hi⟩:=List.mem_iff_getElem?.1 hx
    exact ih i x hi
  | tup g vs cs hs hr ih=>
    simp only[AV.under,List.all_eq_true]
    rintro⟨x,hx⟩ _
    obtain⟨i,hi⟩:=List.mem_iff_getElem?.1 hx
    exact ih i x hi
  | fn g f caps cs hs hr hn ih=>
    simp only[AV.under,List.all_eq_true]
    rintro⟨x,hx⟩ _
    obtain⟨i,hi⟩:=List.mem_iff_getElem?.1 hx
    exact ih i x hi
  | fnb g f fs cs hs hr ih=>
    simp only[AV.under,List.all_eq_true]
    rintro⟨x,hx⟩ _
    rw[List.mem_singleton]at hx
    subst hx
    simp only[AV.under,List.all_eq_true]
    rintro⟨y,hy⟩ _
    obtain⟨i,hi⟩:=List.mem_iff_getElem?.1 hy
    exact ih i y hi
  |iface g t v x hr ih=>simpa [AV.under]using ih
  |_=>simp[AV.under]
theorem TI{w:World}{g:Gh}{σ:Ad}(hm:Mem E w g σ):∀ab∈σ,QT σ.length ab:=by
  intro ab hab
  obtain⟨id,hid⟩:=List.mem_iff_getElem?.1 hab
  have hl:id<g.length:=by rw[hm.len];exact(List.getElem?_eq_some_iff.1 hid).1
  have hk:=hm.blk id g[id] ab (List.getElem?_eq_getElem hl) hid
  cases ab with
  | box cs ro=>
    obtain⟨k1,k2,k3,k4,k5,β,arr,t,fz,k6,k7,k8,k9,k10⟩:=hk
    intro x hx
    obtain⟨j,hj⟩:=List.mem_iff_getElem?.1 hx
    have:=LA (k10 j x hj).1
    rwa[hm.len]at this
  | buf k els ro=>
    obtain⟨k1,k2,k3,k4,k5,k6,k7⟩:=hk
    intro cs hcs x hx
    obtain⟨i,hi⟩:=List.mem_iff_getElem?.1 hcs
    obtain⟨j,hj⟩:=List.mem_iff_getElem?.1 hx
    cases hb:g[id].blk with
    | none=>
      rcases(k6 hb).1 with this|this
      · subst this
        simp at hi
      · have h1:=k5 i cs hi
        have h2:=(List.getElem?_eq_some_iff.1 hj).1
        omega
    | some β=>
      obtain⟨arr,t,fz,g1,g2,g3,g4,g5⟩:=k7 β hb
      have:=LA (g5 i cs j x hi hj).1
      rwa[hm.len]at this
  |obj o=>exact trivial
  |mp es=>exact trivial
  | lp y N1 l1 ps as1 bd=>
    obtain⟨k1,β,f,T,D,k2,k3,k4,k5⟩:=hk
    intro p hp
    have:=LA (k5 p hp)
    rwa[hm.len]at this
  |gone=>exact trivial
  |tb T l=>exact trivial
def GT(σ:Ad)(r:AV×Ad):Option (AV×Ad) :=
 match r with
 |(.bs full id tot off len,σ')=>if id=σ.length then(AZ σ' (.bs full id tot off len)).map fun y=>(y,σ)else none
 |_=>none
theorem P5{w w':World}{g g1:Gh}{σ:Ad}{v:Value}{x y:AV}{σ' σ2:Ad}(hm:Mem E w g σ)(hp:∃bs,σ'=σ++bs)(h:GT σ (x,σ')=some (y,σ2))
  (m1:Mem E w' g1 σ') (h3:GLe g g1) (h4:Evo E 0 w g w' g1) (h5:Rep w' (Aw E g1) g1 v x) :
  σ2=σ∧Mem E w' (g1.take σ.length) σ∧GLe g (g1.take σ.length)∧Evo E 0 w g w' (g1.take σ.length)∧Rep w' (Aw E (g1.take σ.length)) (g1.take σ.length) v y:=by
 obtain⟨bs,rfl⟩:=hp
 have ht:(σ++bs).take σ.length=σ:=by simp
 unfold GT at h
 split at h
 case h_2=>cases h
 rename_i full id tot off len σ3 he
 cases he
 split at h
 case isFalse=>cases h
 rename_i hid
 rw[Option.map_eq_some_iff]at h
 obtain⟨y',hy,h⟩:=h
 cases h
 have hmt:=X1 m1 σ.length (by rw[ht];exact TI hm)
 rw[ht]at hmt
 refine⟨rfl,hmt,?_,?_,?_⟩
 ·intro id b hb
  obtain⟨b',hb',hs⟩:=h3 id b hb
  exact⟨b',FG hb' (by rw[←hm.len];exact(List.getElem?_eq_some_iff.1 hb).1),hs⟩
 ·exact⟨h4.os,h4.tape,h4.output,h4.size,fun a u hc hpr=>⟨(h4.cells a u hc hpr).1,K2 (h4.cells a u hc hpr).2⟩,
   fun β hβ hn=>⟨(h4.blocks β hβ hn).1,fun h=>(h4.blocks β hβ hn).2 (IM h)⟩,fun id hid=>absurd hid (Nat.not_lt_zero _)⟩
 ·refine(HF (pr:=Aw E (g1.take σ.length)) m1 h5 hy (fun a=>K2) ?_).mono (fun a u hc hpr=>⟨hc,hpr⟩) (GLe.nil _)
  rintro id' b ⟨_,_,_,_,e⟩ hb β off' hβ _
  cases e
  refine⟨fun hF=>(m1.foreign _ hF).2 ⟨id,b,hb,hβ⟩,fun id2 c hc he=>?_⟩
  have:=m1.inj id2 id c b β (FD hc).1 hb he hβ
  have:=(FD hc).2
  omega
theorem Bj{α:Type}(x:Option α):x.bind some=x:=by cases x<;>rfl
def WX(t:Tmp):Operand→Bool
 |.tmp s=>s==t
 |_=>false
def Vy(t:Tmp):List Operand→Bool
 |[]=>false
 |_::r=>r.any (WX t)
def RN:Builtin→Bool
 |.append=>true
 |_=>false
theorem LC:RN .append=true:=rfl
def Yw(t:Tmp)(o:Oper):Bool:=match o.op with
 |.call c=>match c.callee with
  |.value _=>c.args.toList.any (WX t)
  |.builtin b=>Vy t c.args.toList&&RN b
  |_=>false
 |.buildSlice _ _ parts=>parts.toList.any fun p=>WX t p.2
 |_=>false
def Dx(E:Env)(t:TypeId):Bool:=match E.tab t with
 |some d=>match d.desc with
  |.slice _=>true
  |_=>false
 |none=>false
def EE(E:Env)(ops:Array Oper)(o:Oper):Bool:=match o.dst with
 |some t=>match o.op with
  |.buildSlice ..=>ops.toList.any (Yw t)
  |.convert _ d _=>Dx E d&&ops.toList.any (Yw t)
  |_=>false
 |none=>false
def EX(b:Bool)(σ:Ad)(r:AV×Ad):Option (AV×Ad):=if b then GT σ r else some r
def D1(E:Env)(orc:Option Tmp→Orc)(ops:Array Oper)(o:Oper)(fr:List AV)(σ:Ad):Option (AV×Ad) :=
 match Gr ops fr o with
 |some true=>(Cm E (orc o.dst) o.op fr σ).bind (EX (EE E ops o) σ)
 |some false=>some (.tup [],σ)
 |none=>none
def C6(E:Env)(orc:Option Tmp→Orc)(ops:Array Oper)(o:Oper)(st:St):Option St :=
 (D1 E orc ops o st.fr st.σ).map fun r=>⟨A7 st.fr o.dst r.1,r.2⟩
def AF(E:Env)(orc:Option Tmp→Orc)(ops:Array Oper):List Nat→St→Option St
 |[],st=>some st
 |i::l,st=>match ops[i]? with
  |some o=>(C6 E orc ops o st).bind (AF E orc ops l)
  |none=>none
theorem Wr{fr fr':List AV}{x:Operand}(h:∀t,x=.tmp t→fr[t]?=fr'[t]?):ev fr x=ev fr' x:=by
 cases x with
 |tmp t=>simp only[ev,List.getD,h t rfl]
 |_=>rfl
theorem J9{fr fr':List AV}{σ:Ad}{op:Op}(h:∀x∈op.operands,ev fr x=ev fr' x):DE E fr σ op=DE E fr' σ op:=by
 have m1:∀(l:List Operand),(∀x∈l,x∈op.operands)→l.map (ev fr)=l.map (ev fr'):=fun l hl=>List.map_congr_left fun x hx=>h x (hl x hx)
 cases op<;>simp only[DE]
 case move x=>rw[h x (by simp[Op.operands])]
 case assign x=>rw[h x (by simp[Op.operands])]
 case pick c a b=>rw[h c (by simp[Op.operands]),h a (by simp[Op.operands]),h b (by simp[Op.operands])]
 case box t x=>rw[h x (by simp[Op.operands])]
 case build t parts=>
  have:(parts.toList.map fun(i,x)=>(i,ev fr x))=(parts.toList.map fun(i,x)=>(i,ev fr' x)):=List.map_congr_left fun p hp=>by
   have:=h p.2 (by simp[Op.operands];exact⟨p.1,by simpa using hp⟩)
   simp[this]
  rw[this]
 case buildSlice t n parts=>
  have:(parts.toList.map fun(i,x)=>(i,ev fr x))=(parts.toList.map fun(i,x)=>(i,ev fr' x)):=List.map_congr_left fun p hp=>by
   have:=h p.2 (by simp[Op.operands];exact⟨p.1,by simpa using hp⟩)
   simp[this]
  rw[this]
 case load t x=>rw[h x (by simp[Op.operands])]
 case store t x y=>rw[h x (by simp[Op.operands]),h y (by simp[Op.operands])]
 case nilCheck x=>rw[h x (by simp[Op.operands])]
 case range t x=>rw[h x (by simp[Op.operands])]
 case makeMap t r=>cases r<;>rfl
 case insert t m k x=>rw[h m (by simp[Op.operands]),h k (by simp[Op.operands]),h x (by simp[Op.operands])]
 case mapUpdate t m k x=>rw[h m (by simp[Op.operands]),h k (by simp[Op.operands]),h x (by simp[Op.operands])]
 case next it b=>
  cases b with
  |false=>rfl
  |true=>simp only;rw[h it (by simp[Op.operands])]
 case binOp op t x y u=>rw[h x (by simp[Op.operands]),h y (by simp[Op.operands])]
 case unOp op t x=>rw[h x (by simp[Op.operands])]
 case convert s d x=>rw[h x (by simp[Op.operands])]
 case makeInterface t x=>rw[h x (by simp[Op.operands])]
 case makeFunc fn first caps=>
  have:caps.toList.map (ev fr)=caps.toList.map (ev fr'):=m1 _ (fun x hx=>by simp[Op.operands];exact .inr (by simpa using hx))
  have t2:first.toList.map (ev fr)=first.toList.map (ev fr'):=m1 _ (fun x hx=>by simp[Op.operands];exact .inl (by simpa using hx))
  cases fn<;>simp only[this,t2]
 case makeSlice t x y=>rw[h x (by simp[Op.operands]),h y (by simp[Op.operands])]
 case slice t x lo hi mx=>
  have hx:=h x (by simp[Op.operands])
  have hl:lo.map (ev fr)=lo.map (ev fr'):=by cases lo with|none=>rfl|some l=>simp[h l (by simp[Op.operands])]
  have hh:hi.map (ev fr)=hi.map (ev fr'):=by cases hi with|none=>rfl|some l=>simp[h l (by simp[Op.operands])]
  have hm:mx.map (ev fr)=mx.map (ev fr'):=by cases mx with|none=>rfl|some l=>simp[h l (by simp[Op.operands])]
  rw[hx,hl,hh,hm]
 case fieldAddr s x f=>rw[h x (by simp[Op.operands])]
 case field s x f=>rw[h x (by simp[Op.operands])]
 case indexAddr t x y=>rw[h x (by simp[Op.operands]),h y (by simp[Op.operands])]
 case index t x y=>rw[h x (by simp[Op.operands]),h y (by simp[Op.operands])]
 case sliceToArrayPointer t x=>rw[h x (by simp[Op.operands])]
 case typeAssert x _ t ok=>rw[h x (by simp[Op.operands])]
 case lookup t x y ok=>rw[h x (by simp[Op.operands]),h y (by simp[Op.operands])]
 case extract x i=>rw[h x (by simp[Op.operands])]
 case call c=>
  cases hc:c.callee<;>simp only[]
  have:c.args.toList.map (ev fr)=c.args.toList.map (ev fr'):=m1 _ (fun x hx=>by simp[Op.operands,Call.operands];exact .inr (by simpa using hx))
  rw[this]
def JD(E:Env)(t:TypeId):Bool:=match E.tab t with
 |some d=>match d.desc with
  |.array ..=>true
  |_=>false
 |none=>false
def LL(E:Env):Op→Bool
 |.alloc _|.box ..|.buildSlice ..|.store ..|.makeSlice ..|.range ..|.next ..|.makeMap ..|.insert ..|.mapUpdate ..=>true
 |.convert _ d _=>Dx E d
 |.slice t ..=>JD E t
 |.call c=>match c.callee with
  |.builtin .len|.builtin .min|.builtin .max=>false
  |.builtin _=>true
  |_=>N5 E c
 |_=>false
def Fv(E:Env):Op→Bool
 |.load ..|.fieldAddr ..|.indexAddr ..|.slice ..|.convert ..|.lookup ..=>true
 |.call c=>match c.callee with
  |.builtin .min|.builtin .max=>false
  |_=>true
 |op=>LL E op
theorem Js{fr:List AV}{σ σ':Ad}{op:Op}{x:AV}(he:LL E op=false)(h:DE E fr σ op=some (x,σ')):σ'=σ:=by
  cases op<;>simp only[DE]at h<;>simp only[LL]at he<;>try (cases h;done)
  case move y=>cases h;rfl
  case assign y=>cases h;rfl
  case pick c a b=>split at h<;>first|(cases h;rfl)|cases h
  case alloc=>cases he
  case range=>cases he
  case makeMap=>cases he
  case insert=>cases he
  case mapUpdate=>cases he
  case next=>cases he
  case box=>cases he
  case build t parts=>rw[Option.map_eq_some_iff]at h;obtain⟨_,_,h⟩:=h;cases h;rfl
  case buildSlice=>cases he
  case load t y=>
    split at h
    · rw[Option.map_eq_some_iff]at h;obtain⟨_,_,h⟩:=h;cases h;rfl
    · cases h
  case store=>cases he
  case nilCheck y=>split at h<;>first|(cases h;rfl)|cases h
  case binOp op t y z u=>rw[Option.map_eq_some_iff]at h;obtain⟨_,_,h⟩:=h;cases h;rfl
  case unOp op t y=>rw[Option.map_eq_some_iff]at h;obtain⟨_,_,h⟩:=h;cases h;rfl
  case lookup t y z ok=>rw[Option.map_eq_some_iff]at h;obtain⟨_,_,h⟩:=h;cases h;rfl
  case convert s d y=>
    unfold Cz at h
    unfold Dx at he
    split at h
    case h_2=>cases h
    rename_i ds dd hs hd
    rw[hd]at he
    simp only at he
    split at h
    · cases h;rfl
    · cases h;rfl
    · rename_i hdd _;rw[hdd]at he;cases he
    · split at h
      · cases h
      split at h
      case h_2=>cases h
      split at h
      case h_2=>cases h
      split at h
      · cases h;rfl
      · cases h
    · rename_i hdd _;rw[hdd]at he;cases he
    · cases h
  case makeFunc fn first caps=>
    split at h
    · split at h
      · split at h
        · cases h
        · cases h;rfl
      · split at h
        · cases h;rfl
        · cases h
    · cases h
  case makeInterface t y=>
    split at h
    · split at h
      · cases h
      · cases h;rfl
    · cases h
  case makeSlice=>cases he
  case slice t y lo hi mx=>
    unfold Fa at h
    unfold JD at he
    cases ht:E.tab t with
    |none=>simp[ht]at h
    | some d=>
      simp only[ht]at h he
      split at h
      · split at h
        · split at h
          · cases h
          · cases h;rfl
        · cases h
      · split at h
        · split at h
          · cases h;rfl
          · cases h
        · cases h
      · split at h
        · split at h
          · split at h
            · cases h;rfl
            · cases h
          · cases h
        · cases h
      · rename_i hd _;rw[hd]at he;cases he
      · rename_i hd _;rw[hd]at he;cases he
      · cases h
  case fieldAddr s y f=>rw[Option.map_eq_some_iff]at h;obtain⟨_,_,h⟩:=h;cases h;rfl
  case field s y f=>rw[Option.map_eq_some_iff]at h;obtain⟨_,_,h⟩:=h;cases h;rfl
  case indexAddr t y i=>rw[Option.map_eq_some_iff]at h;obtain⟨_,_,h⟩:=h;cases h;rfl
  case index t y i=>rw[Option.map_eq_some_iff]at h;obtain⟨_,_,h⟩:=h;cases h;rfl
  case sliceToArrayPointer t y=>rw[Option.map_eq_some_iff]at h;obtain⟨_,_,h⟩:=h;cases h;rfl
  case typeAssert y _ t ok=>rw[Option.map_eq_some_iff]at h;obtain⟨_,_,h⟩:=h;cases h;rfl
  case extract y i=>
    split at h
    · split at h
      · cases h;rfl
      · cases h
    · cases h
  case call c=>
    cases hc:c.callee<;>simp only[hc]at h he<;>try (cases h;done)
    rename_i b
    unfold Ba at h
    split at h
    · rw[Option.map_eq_some_iff]at h;obtain⟨_,_,h⟩:=h;cases h;rfl
    · cases he
    · cases he
    · rw[Option.map_eq_some_iff]at h;obtain⟨_,_,h⟩:=h;cases h;rfl
    · rw[Option.map_eq_some_iff]at h;obtain⟨_,_,h⟩:=h;cases h;rfl
    · cases h
theorem FF{fr:List AV}{σ σ2:Ad}{op:Op}(ht:Fv E op=false):DE E fr σ2 op=(DE E fr σ op).map (fun r=>(r.1,σ2)):=by
 cases op<;>simp only[Fv,LL]at ht<;>try (cases ht;done)
 all_goals simp only[DE]
 all_goals try rfl
 case pick c a b=>split<;>rfl
 case build t parts=>simp only[Option.map_map];rfl
 case nilCheck y=>split<;>rfl
 case binOp op t y z u=>simp only[Option.map_map];rfl
 case unOp op t y=>simp only[Option.map_map];rfl
 case makeFunc fn first caps=>
  split
  ·split
   ·split<;>rfl
   ·split<;>rfl
  ·rfl
 case makeInterface t y=>
  split
  ·split<;>rfl
  ·rfl
 case field s y f=>simp only[Option.map_map];rfl
 case index t y i=>simp only[Option.map_map];rfl
 case sliceToArrayPointer t y=>simp only[Option.map_map];rfl
 case typeAssert y _ t ok=>simp only[Option.map_map];rfl
 case extract y i=>
  split
  ·split<;>rfl
  ·rfl
 case call c=>
  cases hc:c.callee<;>simp only[hc]at ht ⊢<;>try rfl
  rename_i b
  cases b<;>simp only at ht<;>try (cases ht;done)
  all_goals
   unfold Ba
   split<;>first|(exfalso;simp_all;done)|rfl|(simp only[Option.map_map];rfl)
theorem F9(fr:List AV){x y:Option Tmp}(v u:AV)(h:∀d,x=some d→y≠some d):A7 (A7 fr x v) y u=A7 (A7 fr y u) x v:=by
  cases x with
  |none=>rfl
  | some d=>
    cases y with
    |none=>rfl
    |some e=>exact List.set_comm _ _ (fun he=>h d rfl (by rw[he]))
theorem J2{fr:List AV}{d:Option Tmp}{v:AV}{x:Operand}(h:∀e,d=some e→x≠.tmp e):ev (A7 fr d v) x=ev fr x:=by
  refine Wr fun t hx=>?_
  cases d with
  |none=>rfl
  | some e=>
    have:e≠t:=fun he=>h e rfl (by rw[hx,he])
    simp[A7,List.getElem?_set_ne this]
theorem Qn{orc:Orc}{fr fr':List AV}{σ:Ad}{c:Call}(h:∀x∈(Op.call c).operands,ev fr x=ev fr' x):Ju orc fr σ c=Ju orc fr' σ c:=by
 have ha:c.args.toList.map (ev fr)=c.args.toList.map (ev fr'):=List.map_congr_left fun x hx=>h x (by simp[Op.operands,Call.operands];exact .inr (by simpa using hx))
 unfold Ju
 cases hc:c.callee<;>simp only[]
 rename_i f
 rw[h f (by simp[Op.operands,Call.operands,hc]),ha]
theorem Tj{orc:Orc}{fr fr':List AV}{σ:Ad}{c:Call}(h:∀x∈(Op.call c).operands,ev fr x=ev fr' x):XJ orc fr σ c=XJ orc fr' σ c:=by
 have ha:c.args.toList.map (ev fr)=c.args.toList.map (ev fr'):=List.map_congr_left fun x hx=>h x (by simp[Op.operands,Call.operands];exact .inr (by simpa using hx))
 unfold XJ
 cases hc:c.callee<;>simp only[]
 rename_i f
 rw[h f (by simp[Op.operands,Call.operands,hc]),ha]
theorem PX{orc:Orc}{fr fr':List AV}{σ:Ad}{op:Op}(h:∀x∈op.operands,ev fr x=ev fr' x):Cm E orc op fr σ=Cm E orc op fr' σ:=by
  cases op with
  | call c=>
    simp only[Cm]
    rw[Qn h,Tj h]
    cases hc:c.callee<;>simp only[]
    exact J9 h
  |_=>exact J9 (E:=E) (σ:=σ) h
theorem L8{orc:Orc}{fr:List AV}{σ σ':Ad}{op:Op}{x:AV}(he:LL E op=false)(h:Cm E orc op fr σ=some (x,σ')):σ'=σ:=by
  cases op with
  | call c=>
    simp only[Cm]at h
    cases hc:c.callee<;>simp only[hc]at h
    case builtin b=>exact Js he h
    all_goals
      simp only[LL,hc]at he
      simp only[he,Bool.false_eq_true,if_false]at h
      rw[Option.map_eq_some_iff]at h
      obtain⟨_,_,h⟩:=h;cases h;rfl
  |_=>exact Js (fr:=fr) he h
theorem Nq{orc:Orc}{fr:List AV}{σ σ2:Ad}{op:Op}(ht:Fv E op=false):Cm E orc op fr σ2=(Cm E orc op fr σ).map (fun r=>(r.1,σ2)):=by
  cases op with
  | call c=>
    simp only[Cm]
    cases hc:c.callee<;>simp only[]
    case builtin b=>exact FF ht
    all_goals (simp only[Fv,hc]at ht;cases ht)
  |_=>exact FF (fr:=fr) (σ:=σ) ht
theorem KU{ops:Array Oper}{o:Oper}{t:Tmp}(h:Operand.tmp t∈o.op.operands):t∈o.looksAt ops:=by
 unfold Oper.looksAt
 rw[List.mem_append];left
 rw[List.mem_filterMap]
 exact⟨.tmp t,by simpa using h,rfl⟩
theorem Ns{ops:Array Oper}{o:Oper}{fr:List AV}{d:Option Tmp}{v:AV}(h:∀e,d=some e→e ∉ o.looksAt ops):Gr ops (A7 fr d v) o=Gr ops fr o:=by
  unfold Gr
  cases hg:o.guard with
  |none=>rfl
  | some g=>
    obtain⟨j,want⟩:=g
    simp only
    congr 1
    unfold IE
    cases hj:(ops[j]?).bind (·.dst)with
    |none=>simp[hj]
    | some t=>
      cases d with
      |none=>rfl
      | some e=>
        have:e≠t:=fun he=>h e rfl (by simp[Oper.looksAt,hg,hj,he])
        simp[hj,A7,List.getElem?_set_ne this]
theorem CN{orc:Option Tmp→Orc}{ops:Array Oper}{o:Oper}{fr:List AV}{σ:Ad}{d:Option Tmp}{v:AV}(h:∀e,d=some e→e ∉ o.looksAt ops):D1 E orc ops o (A7 fr d v) σ=D1 E orc ops o fr σ:=by
 unfold D1
 rw[Ns h,PX (fun x hx=>J2 fun e he hxe=>h e he (KU (hxe ▸ hx)))]
def LV(E:Env)(ops:Array Oper)(o:Oper):Bool:=LL E o.op&&!EE E ops o
theorem JA{ops:Array Oper}{o:Oper}(h:LV E ops o=false):EE E ops o=true∨(EE E ops o=false∧LL E o.op=false):=by
 unfold LV at h
 cases hf:EE E ops o
 ·rw[hf]at h;right;simpa using h
 ·exact .inl rfl
theorem DG{ops:Array Oper}{o:Oper}(h:EE E ops o=true):(∃t n l,o.op=.buildSlice t n l)∨(∃s d x,o.op=.convert s d x∧Dx E d=true):=by
 unfold EE at h
 split at h
 case h_2=>cases h
 split at h
 ·rename_i hop;exact .inl ⟨_,_,_,hop⟩
 ·rename_i hop;exact .inr ⟨_,_,_,hop,(Bool.and_eq_true_iff.1 h).1⟩
 ·cases h
theorem PU{σ:Ad}{r:AV×Ad}{y:AV}{σ':Ad}(h:GT σ r=some (y,σ')):σ'=σ:=by
 unfold GT at h
 split at h
 case h_2=>cases h
 split at h
 case isFalse=>cases h
 rw[Option.map_eq_some_iff]at h
 obtain⟨_,_,h⟩:=h
 cases h;rfl
theorem CY{orc:Option Tmp→Orc}{ops:Array Oper}{o:Oper}{fr:List AV}{σ σ':Ad}{x:AV}(he:LV E ops o=false)(h:D1 E orc ops o fr σ=some (x,σ')):σ'=σ:=by
 unfold D1 at h
 split at h
 ·rw[Option.bind_eq_some_iff]at h
  obtain⟨⟨v,σ1⟩,h1,h2⟩:=h
  unfold EX at h2
  rcases JA he with hf|⟨hf,he⟩
  ·rw[hf,if_pos rfl]at h2
   exact PU h2
  ·rw[hf]at h2
   simp only[Bool.false_eq_true,if_false]at h2
   cases h2
   exact L8 he h1
 ·cases h;rfl
 ·cases h
theorem Tq{ops:Array Oper}{o:Oper}(ht:Fv E o.op=false):EE E ops o=false:=by
 cases hf:EE E ops o
 ·rfl
 ·rcases DG hf with⟨t,n,l,h⟩|⟨s,d,x,h,_⟩
  ·rw[h]at ht;cases ht
  ·rw[h]at ht;cases ht
theorem JS{orc:Option Tmp→Orc}{ops:Array Oper}{o:Oper}{fr:List AV}{σ σ2:Ad}(ht:Fv E o.op=false):D1 E orc ops o fr σ2=(D1 E orc ops o fr σ).map (fun r=>(r.1,σ2)):=by
 unfold D1
 rw[Tq ht]
 have e:∀σ,EX false σ=some:=fun σ=>by funext r;simp[EX]
 rw[e,e]
 split
 ·rw[Nq (σ:=σ) ht]
  cases Cm E (orc o.dst) o.op fr σ<;>rfl
 ·rfl
 ·rfl
theorem GX{σ:Ad}{id:Nat}{b:ABlk}(bs:Ad)(h:σ[id]?=some b):(σ++bs)[id]?=some b:=by
 rw[List.getElem?_append_left (List.getElem?_eq_some_iff.1 h).1];exact h
theorem SU{σ:Ad}{d:TD}{a x:AV}(bs:Ad)(h:loadA E σ d a=some x):loadA E (σ++bs) d a=some x:=by
 cases a<;>simp only[loadA]at h ⊢<;>try exact h
 case ref id off=>
  cases e:σ[id]? with
  |none=>simp[e]at h
  |some b=>rw[e]at h;rw[GX bs e];exact h
 case eref id tot i j=>
  cases e:σ[id]? with
  |none=>simp[e]at h
  |some b=>rw[e]at h;rw[GX bs e];exact h
theorem Ow{σ:Ad}{id tot:Nat}(bs:Ad)(h:UP σ id tot=true):UP (σ++bs) id tot=true:=by
 unfold UP at h ⊢
 cases e:σ[id]? with
 |none=>simp[e]at h
 |some b=>rw[e]at h;rw[GX bs e];exact h
theorem UG{σ:Ad}{x:AV}{l:List (List AV)}(bs:Ad)(h:F4 σ x=some l):F4 (σ++bs) x=some l:=by
 cases x<;>simp only[F4]at h ⊢<;>try exact h
 case bs full id tot off len=>
  cases e:σ[id]? with
  |none=>simp[e]at h
  |some b=>rw[e]at h;rw[GX bs e];exact h
theorem Vc{σ:Ad}{t:TypeId}{x:AV}{n:Nat}(bs:Ad)(h:V0 E σ t x=some n):V0 E (σ++bs) t x=some n:=by
  unfold V0 at h ⊢
  cases ht:E.tab t with
  |none=>simp[ht]at h
  | some d=>
    simp only[ht]at h ⊢
    split at h<;>try (simp_all;done)
    rename_i id tot off len hd
    cases e:σ[id]? with
    |none=>simp[e]at h
    |some b=>rw[e]at h;simp only[hd,GX bs e];exact h
theorem KD{σ:Ad}{s:TypeId}{x y:AV}{f:Nat}(bs:Ad)(h:AW E σ s x f=some y):AW E (σ++bs) s x f=some y:=by
 unfold AW at h ⊢
 repeat' split at h
 all_goals try (cases h;done)
 all_goals try (simp_all;done)
 all_goals (rename_i hc;simp_all [Ow bs hc])
theorem K3{σ:Ad}{t:TypeId}{x i y:AV}(bs:Ad)(h:As E σ t x i=some y):As E (σ++bs) t x i=some y:=by
  unfold As at h ⊢
  cases ht:E.tab t with
  |none=>simp[ht]at h
  | some d=>
    simp only[ht]at h ⊢
    cases hd:d.desc<;>simp only[hd]at h ⊢<;>try (cases h;done)
    case array n e=>
      cases he:E.tab e with
      |none=>simp[he]at h
      | some de=>
        cases hi:idx i n with
        |none=>simp[he,hi]at h
        | some k=>
          simp only[he,hi]at h ⊢
          cases x<;>simp only at h ⊢<;>try exact h
          case eref id tot i0 j=>
            split at h
            case isFalse=>cases h
            rename_i hc
            rw[if_pos (Ow bs hc)];exact h
    case slice e=>
      cases he:E.tab e with
      |none=>simp[he]at h
      | some de=>
        simp only[he]at h ⊢
        cases x<;>simp only at h ⊢<;>try exact h
        case bs full id tot off len=>
          cases e2:σ[id]? with
          |none=>simp[e2]at h
          |some b=>rw[e2]at h;rw[GX bs e2];exact h
theorem PB{σ σ':Ad}{t:TypeId}{x y:AV}{lo hi mx:Option AV}(bs:Ad)(he:JD E t=false)(h:Fa E σ t x lo hi mx=some (y,σ')):Fa E (σ++bs) t x lo hi mx=some (y,σ++bs):=by
  unfold Fa at h ⊢
  unfold JD at he
  cases ht:E.tab t with
  |none=>simp[ht]at h
  | some d=>
    simp only[ht]at h he ⊢
    cases hd:d.desc<;>simp only[hd]at h he ⊢<;>try (first|(cases h;done)|(cases he;done))
    case string=>
      cases x<;>simp only at h ⊢<;>try (cases h;done)
      repeat' split at h
      all_goals try (cases h;done)
      cases h;simp_all
    case slice e=>
      cases x<;>simp only at h ⊢<;>try (cases h;done)
      case sl full els=>
        repeat' split at h
        all_goals try (cases h;done)
        cases h;simp_all
      case bs full id tot off len=>
        cases e2:σ[id]? with
        |none=>simp[e2]at h
        | some b=>
          rw[e2]at h;rw[GX bs e2]
          repeat' split at h
          all_goals try (cases h;done)
          cases h;simp_all
theorem N4{σ σ':Ad}{s d:TypeId}{x y:AV}(bs:Ad)(he:Dx E d=false)(h:Cz E σ s d x=some (y,σ')):Cz E (σ++bs) s d x=some (y,σ++bs):=by
 unfold Cz at h ⊢
 unfold Dx at he
 split at h
 case h_2=>cases h
 rename_i ds dd hs hd
 rw[hd]at he
 simp only at he
 split at h
 ·cases h;rfl
 ·cases h;rfl
 ·simp_all
 ·split at h
  ·cases h
  rename_i hb
  split at h
  case h_2=>cases h
  rename_i hde
  split at h
  case h_2=>cases h
  rename_i hu hv
  split at h
  ·rename_i hl;cases h;simp[hb,hu,UG bs hv,hl]
  ·cases h
 ·simp_all
 ·cases h
theorem Lb{σ:Ad}{x y:AV}(bs:Ad)(h:AZ σ x=some y):AZ (σ++bs) x=some y:=by
 cases x<;>simp only[AZ]at h ⊢<;>try exact h
 case bs full id tot off len=>
  cases e:σ[id]? with
  |none=>simp[e]at h
  |some b=>rw[e]at h;rw[GX bs e];exact h
theorem Ls{α β:Type}{f g:α→Option β}(hfg:∀x y,f x=some y→g x=some y):∀{l:List α} {ys:List β},l.mapM f=some ys→l.mapM g=some ys
  |[],_,h=>by simpa using h
  | x::l,ys,h=>by
    rw[List.mapM_cons]at h ⊢
    simp only[Option.bind_eq_bind,Option.bind_eq_some_iff]at h ⊢
    obtain⟨y,hy,zs,hz,h⟩:=h
    exact⟨y,hfg _ _ hy,zs,Ls hfg hz,h⟩
theorem XX{σ:Ad}{x y:AV}(bs:Ad)(h:fz σ x=some y):fz (σ++bs) x=some y:=by
 cases x<;>simp only[fz]at h ⊢<;>try exact Lb bs h
 case agg cs=>
  rw[Option.map_eq_some_iff]at h ⊢
  obtain⟨ys,h,e⟩:=h
  exact⟨ys,Ls (fun _ _=>Lb bs) h,e⟩
theorem O3{σ:Ad}(bs:Ad){t:TypeId}{x k v:AV}{ok:Bool}(h:Ea E σ t x k ok=some v):Ea E (σ++bs) t x k ok=some v:=by
  cases x with
  | mref id=>
    simp only[Ea]at h ⊢
    cases hσ:σ[id]? with
    |none=>simp[hσ]at h
    | some b=>
      rw[List.getElem?_append_left (List.getElem?_eq_some_iff.1 hσ).1,hσ]
      rw[hσ]at h
      exact h
  |_=>exact h
theorem ON{fr:List AV}{σ σ':Ad}{op:Op}{x:AV}(bs:Ad)(he:LL E op=false)(h:DE E fr σ op=some (x,σ')):DE E fr (σ++bs) op=some (x,σ++bs):=by
  cases ht:Fv E op with
  | false=>
    rw[FF (σ:=σ) ht,h];rfl
  | true=>
    cases op<;>simp only[Fv,LL]at ht he<;>try (cases ht;done)
    all_goals try (cases he;done)
    case load t y=>
      simp only[DE]at h ⊢
      split at h
      case h_2=>cases h
      rename_i hd
      rw[Option.map_eq_some_iff]at h
      obtain⟨v,hv,h⟩:=h
      cases h
      simp[hd,SU bs hv]
    case convert s d y=>exact N4 bs he h
    case slice t y lo hi mx=>exact PB bs he h
    case lookup t y z ok=>
      simp only[DE]at h ⊢
      rw[Option.map_eq_some_iff]at h
      obtain⟨v,hv,h⟩:=h
      cases h
      simp[O3 bs hv]
    case fieldAddr s y f=>
      simp only[DE]at h ⊢
      rw[Option.map_eq_some_iff]at h
      obtain⟨v,hv,h⟩:=h
      cases h
      simp[KD bs hv]
    case indexAddr t y i=>
      simp only[DE]at h ⊢
      rw[Option.map_eq_some_iff]at h
      obtain⟨v,hv,h⟩:=h
      cases h
      simp[K3 bs hv]
    case call c=>
      simp only[DE]at h ⊢
      cases hc:c.callee<;>simp only[hc]at h ht he ⊢<;>try (cases h;done)
      rename_i b
      unfold Ba at h ⊢
      split at h
      · rw[Option.map_eq_some_iff]at h
        obtain⟨v,hv,h⟩:=h
        cases h
        simp[Vc bs hv]
      · cases he
      · cases he
      · cases ht
      · cases ht
      · cases h
theorem S8{orc:Orc}{fr:List AV}{σ:Ad}{c:Call}{r:AV}(bs:Ad)(h:Ju orc fr σ c=some r):Ju orc fr (σ++bs) c=some r:=by
 unfold Ju at h ⊢
 split at h
 case h_2=>cases h
 rename_i f hf
 split at h
 case h_2=>cases h
 rename_i fid hv
 split at h
 case h_2=>cases h
 rename_i args ha
 simp only[Ls (fun _ _=>XX bs) ha]
 exact h
theorem SG{orc:Orc}{fr:List AV}{σ σ':Ad}{op:Op}{x:AV}(bs:Ad)(he:LL E op=false)(h:Cm E orc op fr σ=some (x,σ')):Cm E orc op fr (σ++bs)=some (x,σ++bs):=by
  cases op with
  | call c=>
    simp only[Cm]at h ⊢
    cases hc:c.callee<;>simp only[hc]at h ⊢
    case builtin b=>exact ON bs he h
    all_goals
      simp only[LL,hc]at he
      simp only[he,Bool.false_eq_true,if_false]at h ⊢
      rw[Option.map_eq_some_iff]at h
      obtain⟨v,hv,h⟩:=h
      cases h
      simp[S8 bs hv]
  |_=>exact ON (fr:=fr) bs he h
theorem Vz{fr:List AV}{σ:Ad}{op:Op}{y:AV}{σ':Ad}(ρ:Ad)(hf:(∃t n l,op=.buildSlice t n l)∨(∃s d x,op=.convert s d x∧Dx E d=true))
    (h:(DE E fr σ op).bind (GT σ)=some (y,σ')):(DE E fr ρ op).bind (GT ρ)=some (y,ρ):=by
  have last:∀(b:ABlk) (f:Bool) (t o l:Nat),GT σ (.bs f σ.length t o l,σ++[b])=some (y,σ')→GT ρ (.bs f ρ.length t o l,ρ++[b])=some (y,ρ):=by
    intro b f t o l h
    unfold GT at h ⊢
    simp only[if_true,Option.map_eq_some_iff,Prod.mk.injEq]at h ⊢
    obtain⟨z,hz,rfl,rfl⟩:=h
    refine⟨z,?_,rfl,trivial⟩
    simp only[AZ]at hz ⊢
    rw[List.getElem?_append_right (Nat.le_refl _),Nat.sub_self]at hz ⊢
    exact hz
  rcases hf with⟨t,n,l,rfl⟩|⟨s,d,x,rfl,hd⟩
  · simp only[DE]at h ⊢
    unfold C4 at h ⊢
    cases ht:E.tab t with
    |none=>simp[ht]at h
    | some dd=>
      simp only[ht]at h ⊢
      cases hdd:dd.desc<;>simp only[hdd]at h ⊢<;>try (simp at h;done)
      rename_i e
      cases he:E.tab e with
      |none=>simp[he]at h
      | some de=>
        simp only[he]at h ⊢
        split at h
        · simp at h
        rename_i hn
        rw[if_neg hn]
        split at h
        case h_2=>simp at h
        rename_i els hels
        exact last _ _ _ _ _ h
  · simp only[DE]at h ⊢
    unfold Cz at h ⊢
    unfold Dx at hd
    cases ht:E.tab d with
    |none=>simp[ht]at hd
    | some dd=>
      simp only[ht]at hd
      cases hdd:dd.desc<;>simp only[hdd]at hd<;>try (cases hd;done)
      rename_i e
      cases hs:E.tab s with
      |none=>simp[hs]at h
      | some sd=>
        simp only[hs,ht,hdd]at h ⊢
        generalize ev fr x=xv at h ⊢
        split at h
        case h_3=>
          rename_i e' l hx
          cases hx
          cases he:E.tab e with
          |none=>simp[he]at h
          | some de=>
            simp only[he]at h ⊢
            cases hde:de.desc<;>simp only[hde]at h ⊢<;>try (simp at h;done)
            rename_i k
            cases k<;>simp only at h ⊢<;>try (simp at h;done)
            exact last _ _ _ _ _ h
        case h_5=>
          exfalso
          split at h
          case isFalse=>simp at h
          split at h
          case h_2=>simp at h
          split at h
          case h_2=>simp at h
          split at h
          case isFalse=>simp at h
          rename_i hid _
          simp only[Option.bind_some,GT]at h
          split at h
          case isFalse=>cases h
          rename_i e2
          have:=(List.getElem?_eq_some_iff.1 hid).1
          omega
        all_goals (exfalso;simp_all;done)
theorem VR{fr:List AV}{σ:Ad}{op:Op}{y:AV}{σ':Ad}(bs:Ad)(hf:(∃t n l,op=.buildSlice t n l)∨(∃s d x,op=.convert s d x∧Dx E d=true))
 (h:(DE E fr σ op).bind (GT σ)=some (y,σ')):(DE E fr (σ++bs) op).bind (GT (σ++bs))=some (y,σ++bs):=Vz _ hf h
theorem Vm{orc:Option Tmp→Orc}{ops:Array Oper}{o:Oper}{fr:List AV}{σ σ':Ad}{x:AV}(bs:Ad)(he:LV E ops o=false)(h:D1 E orc ops o fr σ=some (x,σ')):D1 E orc ops o fr (σ++bs)=some (x,σ++bs):=by
 unfold D1 at h ⊢
 split at h
 ·rcases JA he with hf|⟨hf,he⟩
  ·rw[hf]at h ⊢
   have e:∀σ,EX true σ=GT σ:=fun σ=>by funext r;simp[EX]
   rw[e]at h ⊢
   have e2:∀σ,Cm E (orc o.dst) o.op fr σ=DE E fr σ o.op:=by
    intro σ
    rcases DG hf with⟨t,n,l,h⟩|⟨s,d,x,h,_⟩<;>rw[h]<;>rfl
   rw[e2]at h ⊢
   exact VR bs (DG hf) h
  ·rw[hf]at h ⊢
   have e:∀σ,EX false σ=some:=fun σ=>by funext r;simp[EX]
   rw[e]at h ⊢
   rw[Bj]at h ⊢
   exact SG bs he h
 ·cases h;rfl
 ·cases h
def NB:Op→Bool
 |.alloc _|.buildSlice ..=>true
 |_=>false
theorem SI{orc:Option Tmp→Orc}{ops:Array Oper}{o:Oper}{fr:List AV}{σ σ':Ad}{x:AV}(ha:NB o.op=true)(h:D1 E orc ops o fr σ=some (x,σ')):∃bs,σ'=σ++bs:=by
 cases hf:EE E ops o
 case true=>exact⟨[],by rw[CY (by unfold LV;rw[hf];simp) h];simp⟩
 unfold D1 at h
 rw[hf]at h
 have e:∀σ,EX false σ=some:=fun σ=>by funext r;simp[EX]
 rw[e,Bj]at h
 split at h
 ·cases ho:o.op<;>simp only[ho,NB]at ha h<;>try (cases ha;done)
  ·simp only[Cm,DE]at h
   split at h
   ·split at h
    ·cases h
    ·split at h
     ·cases h;exact⟨_,rfl⟩
     ·cases h;exact⟨_,rfl⟩
   ·cases h
  ·simp only[Cm,DE]at h
   unfold C4 at h
   split at h
   ·cases h
   split at h
   ·split at h
    ·split at h
     ·cases h
     ·split at h
      ·cases h;exact⟨_,rfl⟩
      ·cases h
    ·cases h
   ·cases h
 ·cases h;exact⟨[],by simp⟩
 ·cases h
def Ia:ABlk→ABlk
 |.box cs _=>.box cs false
 |.buf k els _=>.buf k els false
 |.obj o=>.obj o
 |.tb T l=>.tb T l
 |.mp es=>.mp es
 |.lp y N l ps a b=>.lp y N l ps a b
 |.gone=>.gone
theorem EC{σ:Ad}{id:Nat}:(σ.map Ia)[id]?=(σ[id]?).map Ia:=by simp
theorem Tm{σ:Ad}{d:TD}{a:AV}:loadA E (σ.map Ia) d a=loadA E σ d a:=by
 cases a<;>simp only[loadA,EC]
 case ref id off=>cases σ[id]? with
  |none=>rfl
  |some b=>cases b<;>rfl
 case eref id tot i j=>cases σ[id]? with
  |none=>rfl
  |some b=>cases b<;>rfl
theorem NI{σ:Ad}{id tot:Nat}:UP (σ.map Ia) id tot=UP σ id tot:=by
 simp only[UP,EC]
 cases σ[id]? with
 |none=>rfl
 |some b=>cases b<;>rfl
theorem VL{σ:Ad}{x:AV}:F4 (σ.map Ia) x=F4 σ x:=by
 cases x<;>simp only[F4,EC]
 case bs full id tot off len=>cases σ[id]? with
  |none=>rfl
  |some b=>cases b<;>rfl
theorem Vt{σ:Ad}{t:TypeId}{x:AV}:V0 E (σ.map Ia) t x=V0 E σ t x:=by
  unfold V0
  cases E.tab t with
  |none=>rfl
  | some d=>
    obtain⟨desc,sz,bt,z⟩:=d
    cases x with
    | bs full id tot off len=>
      cases desc<;>try rfl
      simp only[EC]
      cases σ[id]? with
      |none=>rfl
      |some b=>cases b<;>rfl
    |_=>cases desc<;>rfl
theorem Lq{σ:Ad}{s:TypeId}{x:AV}{f:Nat}:AW E (σ.map Ia) s x f=AW E σ s x f:=by
 unfold AW
 simp only[NI]
theorem Lv{σ:Ad}{t:TypeId}{x i:AV}:As E (σ.map Ia) t x i=As E σ t x i:=by
  unfold As
  cases E.tab t with
  |none=>rfl
  | some d=>
    obtain⟨desc,sz,bt,z⟩:=d
    cases desc<;>dsimp only<;>try (first|rfl|(simp only[NI];done))
    rename_i e
    generalize E.tab e=te
    cases te with
    |none=>cases x<;>rfl
    | some de=>
      cases x<;>try rfl
      rename_i full id tot off len
      dsimp only
      simp only[EC]
      cases σ[id]? with
      |none=>rfl
      |some b=>cases b<;>cases idx i len<;>rfl
theorem PR{σ : Ad}{t:TypeId}{x:AV}{lo hi mx:Option AV}(he:JD E t=false):(Fa E (σ.map Ia) t x lo hi mx).map (·.1)=(Fa E σ t x lo hi mx).map (·.1):=by
  unfold Fa
  unfold JD at he
  cases ht:E.tab t with
  |none=>rfl
  | some d=>
    rw[ht]at he
    obtain⟨desc,sz,bt,z⟩:=d
    cases desc<;>dsimp only at he ⊢<;>try (first|rfl|(cases he;done))
    · cases x<;>dsimp only<;>try rfl
      split<;>try rfl
      split<;>rfl
    · rename_i e
      cases x<;>dsimp only<;>try rfl
      · split<;>try rfl
        split<;>rfl
      · rename_i full id tot off len
        simp only[EC]
        cases σ[id]? with
        |none=>rfl
        | some b=>
          cases b with
          |box=>rfl
          |obj o=>rfl
          |mp es=>rfl
          |lp y N1 l1 ps as1 bd=>rfl
          |gone=>rfl
          |tb T l=>rfl
          | buf k els ro=>
            simp only[Option.map_some,Ia]
            generalize E.tab e=te
            cases te with
            |none=>rfl
            | some de=>
              dsimp only
              split<;>try rfl
              split<;>rfl
theorem Ni{σ:Ad}{s d:TypeId}{x:AV}(he:Dx E d=false):(Cz E (σ.map Ia) s d x).map (·.1)=(Cz E σ s d x).map (·.1):=by
  unfold Cz
  unfold Dx at he
  cases hs:E.tab s with
  |none=>rfl
  | some sd=>
    cases hd:E.tab d with
    |none=>rfl
    | some dd=>
      simp only[hd]at he ⊢
      cases hdd:dd.desc<;>simp only[hdd]at he ⊢<;>try (first|rfl|(cases he;done))
      · cases x<;>first|rfl|(cases sd.desc<;>rfl)
      · cases x<;>cases sd.desc<;>try rfl
        all_goals
          simp only[VL]
          split<;>try rfl
          split<;>try rfl
          split<;>try rfl
          split<;>rfl
theorem Lp{σ:Ad}{x:AV}:AZ (σ.map Ia) x=AZ σ x:=by
 cases x<;>simp only[AZ,EC]
 case bs full id tot off len=>cases σ[id]? with
  |none=>rfl
  |some b=>cases b<;>rfl
theorem YF{σ:Ad}{x:AV}:fz (σ.map Ia) x=fz σ x:=by
 cases x<;>simp only[fz,Lp]
 rename_i cs
 congr 1
 have:AZ (σ.map Ia)=AZ σ:=funext fun x=>Lp
 rw[this]
theorem So{orc:Orc}{fr:List AV}{σ:Ad}{c:Call}:Ju orc fr (σ.map Ia) c=Ju orc fr σ c:=by
 unfold Ju
 have:fz (σ.map Ia)=fz σ:=funext fun x=>YF
 rw[this]
theorem Oq{σ:Ad}{t:TypeId}{x k:AV}{ok:Bool}:Ea E (σ.map Ia) t x k ok=Ea E σ t x k ok:=by
  cases x with
  | mref id=>
    simp only[Ea,EC]
    cases σ[id]? with
    |none=>rfl
    | some b=>
      cases b with
      |obj o=>rfl
      |mp es=>rfl
      |lp y N1 l1 ps as1 bd=>rfl
      |gone=>rfl
      |tb T l=>rfl
      |box cs ro=>cases ok<;>cases k<;>first|rfl|(cases Qp E t with|none=>rfl|some d=>cases d<;>rfl)
      |buf n els ro=>cases ok<;>cases k<;>first|rfl|(cases Qp E t with|none=>rfl|some d=>cases d<;>rfl)
  |_=>rfl
theorem O5{fr:List AV}{σ:Ad}{op:Op}(he:LL E op=false):(DE E fr (σ.map Ia) op).map (·.1)=(DE E fr σ op).map (·.1):=by
  cases ht:Fv E op with
  | false=>
    rw[FF (σ:=σ) ht]
    cases DE E fr σ op<;>rfl
  | true=>
    cases op<;>simp only[Fv,LL]at ht he<;>try (cases ht;done)
    all_goals try (cases he;done)
    case load t y=>
      simp only[DE,Tm]
      split<;>simp only[Option.map_map]<;>rfl
    case convert s d y=>exact Ni he
    case slice t y lo hi mx=>exact PR he
    case lookup t y z ok=>simp only[DE,Oq,Option.map_map];rfl
    case fieldAddr s y f=>
      simp only[DE,Lq,Option.map_map];rfl
    case indexAddr t y i=>
      simp only[DE,Lv,Option.map_map];rfl
    case call c=>
      simp only[DE]
      cases hc:c.callee<;>simp only[hc]at ht he ⊢<;>try rfl
      rename_i b
      cases b<;>simp only at ht he<;>try (first|(cases ht;done)|(cases he;done))
      unfold Ba
      split<;>first|rfl|(simp only[Vt,Option.map_map];rfl)|(exfalso;simp_all;done)
theorem Mm{orc:Orc}{fr:List AV}{σ:Ad}{op:Op}(he:LL E op=false):(Cm E orc op fr (σ.map Ia)).map (·.1)=(Cm E orc op fr σ).map (·.1):=by
  cases op with
  | call c=>
    simp only[Cm]
    cases hc:c.callee<;>simp only[]
    case builtin b=>exact O5 he
    all_goals
      simp only[LL,hc]at he
      simp only[he,Bool.false_eq_true,if_false,So,Option.map_map]
      rfl
  |_=>exact O5 (fr:=fr) (σ:=σ) he
theorem O1{orc:Option Tmp→Orc}{ops:Array Oper}{o:Oper}{fr:List AV}{σ σ' ρ:Ad}{x:AV}(hρ:σ.map Ia=ρ.map Ia)(he:LV E ops o=false)(h:D1 E orc ops o fr σ=some (x,σ')):D1 E orc ops o fr ρ=some (x,ρ):=by
 unfold D1 at h ⊢
 split at h
 ·rcases JA he with hf|⟨hf,he⟩
  ·rw[hf]at h ⊢
   have e:∀σ,EX true σ=GT σ:=fun σ=>by funext r;simp[EX]
   rw[e]at h ⊢
   have e2:∀σ,Cm E (orc o.dst) o.op fr σ=DE E fr σ o.op:=by
    intro σ
    rcases DG hf with⟨t,n,l,h⟩|⟨s,d,x,h,_⟩<;>rw[h]<;>rfl
   rw[e2]at h ⊢
   exact Vz ρ (DG hf) h
  ·rw[hf]at h ⊢
   have e:∀σ,EX false σ=some:=fun σ=>by funext r;simp[EX]
   rw[e]at h ⊢
   rw[Bj]at h ⊢
   have h1:=Mm (E:=E) (orc:=orc o.dst) (fr:=fr) (σ:=σ) he
   have h2:=Mm (E:=E) (orc:=orc o.dst) (fr:=fr) (σ:=ρ) he
   rw[hρ,h2,h]at h1
   simp only[Option.map_some]at h1
   rw[Option.map_eq_some_iff]at h1
   obtain⟨⟨y,ρ'⟩,h3,h4⟩:=h1
   simp only at h4
   subst h4
   rw[h3,L8 he h3]
 ·cases h;rfl
 ·cases h
def H0(E:Env):Op→Bool
 |.slice t ..=>JD E t
 |_=>false
theorem O6{orc:Option Tmp→Orc}{ops:Array Oper}{o:Oper}{fr:List AV}{σ σ':Ad}{x:AV}(ha:H0 E o.op=true)(h:D1 E orc ops o fr σ=some (x,σ')):σ.map Ia=σ'.map Ia:=by
 have hf:EE E ops o=false:=by
  cases hf:EE E ops o
  ·rfl
  ·rcases DG hf with⟨t,n,l,h⟩|⟨s,d,x,h,_⟩<;>rw[h]at ha<;>cases ha
 unfold D1 at h
 rw[hf]at h
 have e:∀σ,EX false σ=some:=fun σ=>by funext r;simp[EX]
 rw[e,Bj]at h
 split at h
 ·cases ho:o.op<;>simp only[ho,H0]at ha h<;>try (cases ha;done)
  simp only[Cm,DE,Fa]at h
  repeat' split at h
  all_goals try (cases h;done)
  all_goals try (cases h;rfl)
  all_goals try (
   generalize E.G _=gg at h
   generalize E.tab _=tt at h
   cases gg<;>cases tt<;>simp only at h<;>try (cases h;done)
   split at h
   ·split at h
    ·cases h;rfl
    ·cases h
   ·cases h
   done)
  cases h
  rename_i hσ _ _ _ _ _
  rw[List.map_set]
  refine(List.ext_getElem? fun i=>?_)
  rw[List.getElem?_set]
  split
  ·rename_i hi
   subst hi
   simp only[List.length_map]
   split
   ·rw[EC,‹σ[_]?=some (ABlk.box _ _)›];rfl
   ·rename_i hn
    exact absurd (by simpa using(List.getElem?_eq_some_iff.1 ‹σ[_]?=some (ABlk.box _ _)›).1) hn
  ·rfl
 ·cases h;rfl
 ·cases h
def mkO(σ:Ad):Option Nat→Ad
 |none=>σ
 |some id=>Cn σ id
theorem O8(σ:Ad)(a b:Nat):Cn (Cn σ a) b=Cn (Cn σ b) a:=by
 refine List.ext_getElem? fun i=>?_
 simp only[DH]
 by_cases h1:i=a
 ·by_cases h2:i=b
  ·subst h1;subst h2;rfl
  ·simp only[if_pos h1,if_neg h2]
 ·by_cases h2:i=b
  ·simp only[if_neg h1,if_pos h2]
  ·simp only[if_neg h1,if_neg h2]
theorem Xw(σ:Ad)(a b:Option Nat):mkO (mkO σ a) b=mkO (mkO σ b) a:=by
 cases a<;>cases b<;>first|rfl|exact O8 _ _ _
theorem Jp{orc : Option Tmp→Orc}{ops:Array Oper}{o:Oper}{fr:List AV}{σ σ':Ad}{x:AV}(ha:H0 E o.op=true)(h:D1 E orc ops o fr σ=some (x,σ')) :
    ∃m,σ'=mkO σ m∧∀ρ:Ad,ρ.map Ia=σ.map Ia→D1 E orc ops o fr ρ=some (x,mkO ρ m):=by
  have hf:EE E ops o=false:=by
    cases hf:EE E ops o
    · rfl
    · rcases DG hf with⟨t,n,l,h⟩|⟨s,d,x,h,_⟩<;>rw[h]at ha<;>cases ha
  have e:∀σ,EX false σ=some:=fun σ=>by funext r;simp[EX]
  unfold D1 at h ⊢
  rw[hf]at h ⊢
  simp only[e,Bj]at h ⊢
  split at h
  · cases ho:o.op<;>simp only[ho,H0]at ha h<;>try (cases ha;done)
    rename_i t y lo hi mx
    simp only[Cm,DE]at h ⊢
    unfold JD at ha
    cases ht:E.tab t with
    |none=>simp[ht]at ha
    | some d=>
      obtain⟨desc,sz,bt,z⟩:=d
      rw[ht]at ha
      cases desc<;>simp only at ha<;>try (cases ha;done)
      rename_i n e2
      unfold Fa at h ⊢
      simp only[ht]at h ⊢
      generalize ev fr y=yv at h ⊢
      cases yv<;>simp only at h ⊢<;>try (cases h;done)
      case glob gi=>
        refine⟨none,?_,fun ρ _=>?_⟩
        · repeat' split at h
          all_goals try (cases h;done)
          all_goals (cases h;rfl)
        · repeat' split at h
          all_goals try (cases h;done)
          all_goals (cases h;simp_all [mkO])
      rename_i id off
      cases hσ:σ[id]? with
      |none=>simp[hσ]at h
      | some b=>
        cases b with
        |buf=>simp[hσ]at h
        |obj o=>simp[hσ]at h
        |mp es=>simp[hσ]at h
        |lp y N1 l1 ps as1 bd=>simp[hσ]at h
        |gone=>simp[hσ]at h
        |tb T l=>simp[hσ]at h
        | box cs ro=>
          cases hte:E.tab e2 with
          |none=>simp[hσ,hte]at h
          | some de=>
            simp only[hσ,hte]at h
            split at h
            case isFalse=>cases h
            rename_i hc
            split at h
            case h_2=>cases h
            rename_i l h1 f1 hb
            cases h
            refine⟨some id,?_,fun ρ hρ=>?_⟩
            · show _=Cn σ id
              unfold Cn;rw[hσ]
            · have h2:(ρ[id]?).map Ia=(σ[id]?).map Ia:=by rw[←EC,←EC,hρ]
              rw[hσ]at h2
              cases hρ2:ρ[id]? with
              |none=>rw[hρ2]at h2;cases h2
              | some b2=>
                rw[hρ2]at h2
                cases b2 with
                |buf=>cases h2
                |obj o=>cases h2
                |mp es=>cases h2
                |lp y N1 l1 ps as1 bd=>cases h2
                |gone=>cases h2
                |tb T l=>cases h2
                | box cs2 ro2=>
                  simp only[Option.map_some,Ia,Option.some.injEq,ABlk.box.injEq,and_true]at h2
                  subst h2
                  simp only[hρ2,hte,if_pos hc,hb]
                  show _=some (_,Cn ρ id)
                  unfold Cn;rw[hρ2]
  · cases h;exact⟨none,rfl,fun ρ _=>rfl⟩
  · cases h
def Im(E:Env)(ops:Array Oper)(x y:Oper):Bool :=
 x.apart ops y&&((!(LV E ops x&&Fv E y.op)&&!(LV E ops y&&Fv E x.op))||(NB y.op&&!LV E ops x)||(H0 E y.op&&!LV E ops x)||(H0 E x.op&&!LV E ops y)||(H0 E x.op&&H0 E y.op))
theorem NM{op:Op}(h:Fv E op=false):LL E op=false:=by
 cases op<;>simp only[Fv,LL]at h ⊢<;>try (first|assumption|(cases h;done))
 case call c=>
  cases hc:c.callee<;>rw[hc]at h<;>try (cases h;done)
  rename_i b
  cases b<;>first|rfl|(cases h;done)
theorem MY{ops:Array Oper}{o:Oper}(h:Fv E o.op=false):LV E ops o=false:=by
 unfold LV;rw[NM h];rfl
theorem H2{orc:Option Tmp→Orc}{ops:Array Oper}{x y:Oper}{st st1 st2:St}(hc:Im E ops x y=true)(h1:C6 E orc ops x st=some st1)(h2:C6 E orc ops y st1=some st2) :
    ∃st3,C6 E orc ops y st=some st3∧C6 E orc ops x st3=some st2:=by
  simp only[Im,Bool.and_eq_true,Bool.or_eq_true,Bool.not_eq_true',Bool.and_eq_false_iff]at hc
  obtain⟨hap,hcase⟩:=hc
  obtain⟨a1,a2,a3⟩:=Oper.apart_spec hap
  unfold C6 at h1 h2 ⊢
  rw[Option.map_eq_some_iff]at h1 h2
  obtain⟨⟨v,σ1⟩,hv,rfl⟩:=h1
  obtain⟨⟨u,σ2⟩,hu,rfl⟩:=h2
  simp only at hu ⊢
  rw[CN a1]at hu
  have fin:∀σ3,D1 E orc ops y st.fr st.σ=some (u,σ3)→D1 E orc ops x st.fr σ3=some (v,σ2) →
      ∃st3,(D1 E orc ops y st.fr st.σ).map (fun r=>(⟨A7 st.fr y.dst r.1,r.2⟩:St))=some st3∧(D1 E orc ops x st3.fr st3.σ).map (fun r=>(⟨A7 st3.fr x.dst r.1,r.2⟩:St))=some ⟨A7 (A7 st.fr x.dst v) y.dst u,σ2⟩:=by
    intro σ3 hy hx
    refine⟨⟨A7 st.fr y.dst u,σ3⟩,by rw[hy];rfl,?_⟩
    simp only
    rw[CN a3,hx]
    simp only[Option.map_some,F9 st.fr v u a2]
  rcases hcase with(((⟨e1,e2⟩|⟨hal,ex⟩)|⟨hal,ex⟩)|⟨hal,ey⟩)|⟨hax,hay⟩
  case inr=>
    obtain⟨m,rfl,_⟩:=Jp hax hv
    have hun:∀(σ:Ad) (m:Option Nat),(mkO σ m).map Ia=σ.map Ia:=by
      intro σ m
      cases m with
      |none=>rfl
      | some id=>
        refine List.ext_getElem? fun i=>?_
        rw[EC,EC]
        show((Cn σ id)[i]?).map Ia=_
        rw[DH]
        split
        · cases σ[i]? with
          |none=>rfl
          |some b=>cases b<;>rfl
        · rfl
    obtain⟨m2,rfl,h2⟩:=Jp hay hu
    obtain⟨m1,e1,h1⟩:=Jp hax hv
    refine fin (mkO st.σ m2) (h2 st.σ (hun _ _).symm) ?_
    rw[h1 _ (hun _ _),e1,Xw]
  case inl.inl.inr=>
    obtain rfl:=CY ex hv
    exact fin _ hu (O1 (O6 hal hu) ex hv)
  case inl.inr=>
    obtain rfl:=CY ey hu
    exact fin _ (O1 (O6 hal hv).symm ey hu) hv
  case inl.inl.inl.inr=>
    obtain rfl:=CY ex hv
    obtain⟨bs,rfl⟩:=SI hal hu
    exact fin _ hu (Vm bs ex hv)
  rcases e1 with ex|ty
  · obtain rfl:=CY ex hv
    rcases e2 with ey|tx
    · obtain rfl:=CY ey hu
      exact fin _ hu hv
    · refine fin _ hu ?_
      rw[JS (σ:=st.σ) tx,hv];rfl
  · have ey:LV E ops y=false:=MY ty
    obtain rfl:=CY ey hu
    rw[JS (σ:=st.σ) ty,Option.map_eq_some_iff]at hu
    obtain⟨⟨u',σ'⟩,hy,he⟩:=hu
    simp only[Prod.mk.injEq]at he
    obtain⟨rfl,_⟩:=he
    obtain rfl:=CY ey hy
    exact fin _ hy hv
def K5(B:Base)(orc:Orc):Prop:=(∀f args r,orc.fz f args=some r→Con B f args [] (fun r' σ'=>r'=r∧σ'=[])) ∧
 ∀f args σ r σ',orc.own f args σ=some (r,σ')→∀F:Addr→Prop,Uy (B.env F) f args σ r σ'
theorem XI{orc:Orc}(hO:K5 E.toBase orc){o:Oper}{c:Call}(hop:o.op=.call c){st:St}{r:AV×Ad}(h:XJ orc st.fr st.σ c=some r)
 {a:Act} {w:World} {g:Gh} (hr:Rel E w g st a) {next:Act→World→Prop} {Q:Exit→Act→World→Prop}
 (hk:∀a' w' g',Rel E w' g' ⟨A7 st.fr o.dst r.1,r.2⟩ a'→Evo E 0 w g w' g'→GLe g g'→next a' w'):o.wp E.P a w next Q:=by
 unfold XJ at h
 split at h
 case h_2=>cases h
 rename_i f hc
 split at h
 case h_4=>cases h
 case h_3=>
  rename_i fid cs _ hnt hf
  exact KJ hop hc (fun ys e=>hnt ys e) hf (L1 (hO.2 _ _ _ r.1 r.2 h E.F)) hr hk
 case h_2=>
  rename_i fid xs hf
  exact IU hop hc hf (L1 (hO.2 _ _ _ r.1 r.2 h E.F)) hr hk
 rename_i fid hf
 exact Q3 hop hc hf (L1 (hO.2 _ _ _ r.1 r.2 h E.F)) hr hk
theorem WS(hE:E.Ok){orc:Orc}(hO:K5 E.toBase orc){o:Oper}{st:St}{r:AV×Ad}(h:Cm E orc o.op st.fr st.σ=some r)
    {a:Act} {w:World} {g:Gh} (hr:Rel E w g st a) {next:Act→World→Prop} {Q:Exit→Act→World→Prop}
    (hk:∀a' w' g',Rel E w' g' ⟨A7 st.fr o.dst r.1,r.2⟩ a'→Evo E 0 w g w' g'→GLe g g'→next a' w'):o.wp E.P a w next Q:=by
  have plain:DE E st.fr st.σ o.op=some r→o.wp E.P a w next Q:=by
    intro h
    obtain⟨v,w',g',h1,h2,h3,h4,h5⟩:=H9 (x:=r.1) (σ':=r.2) hE hr h
    unfold Oper.wp
    exact MN h1 (hk _ w' g' (Ey (FL hr h2 h3 h4) o.dst h5) h4 h3)
  cases hop:o.op with
  | call c=>
    simp only[hop,Cm]at h
    cases hc:c.callee<;>simp only[hc]at h
    case builtin b=>exact plain (by rw[hop];exact h)
    all_goals (split at h;· exact XI hO hop h hr hk)
    all_goals try (simp[Ju,hc]at h;done)
    rename_i f _
    rw[Option.map_eq_some_iff]at h
    obtain⟨r1,h,rfl⟩:=h
    unfold Ju at h
    simp only[hc]at h
    split at h
    case h_2=>cases h
    rename_i fid hf
    split at h
    case h_2=>cases h
    rename_i args ha
    split at h
    case h_2=>cases h
    rename_i r2 ho
    split at h
    case isFalse=>cases h
    rename_i hs
    cases h
    rcases hs with hs|hs
    · exact HZ hop hc hf ha hs ((hO.1 _ _ _ ho).mono fun _ _ h=>h.1) hr hk
    · refine FN hop hc hf ha (hO.1 _ _ _ ho) hr ?_
      rw[hs]
      exact hk
  |_=>exact plain (by rw[hop];simp only[hop]at h;exact h)
theorem Ab6(hE:E.Ok){o:Oper}{st:St}{r:AV×Ad}(hf:(∃t n l,o.op=.buildSlice t n l)∨(∃s d x,o.op=.convert s d x∧Dx E d=true))
 (h:(DE E st.fr st.σ o.op).bind (GT st.σ)=some r)
 {a:Act} {w:World} {g:Gh} (hr:Rel E w g st a) {next:Act→World→Prop} {Q:Exit→Act→World→Prop}
 (hk:∀a' w' g',Rel E w' g' ⟨A7 st.fr o.dst r.1,r.2⟩ a'→Evo E 0 w g w' g'→GLe g g'→next a' w'):o.wp E.P a w next Q:=by
 rw[Option.bind_eq_some_iff]at h
 obtain⟨⟨x,σ'⟩,h1,h2⟩:=h
 obtain⟨y,σ2⟩:=r
 have hp:∃bs,σ'=st.σ++bs:=by
  rcases hf with⟨t,n,l,e⟩|⟨s,d,z,e,_⟩
  ·rw[e]at h1
   simp only[DE,C4]at h1
   repeat' split at h1
   all_goals try (cases h1;done)
   cases h1;exact⟨_,rfl⟩
  ·rw[e]at h1
   simp only[DE,Cz]at h1
   repeat' split at h1
   all_goals try (cases h1;done)
   all_goals (cases h1;first|exact⟨_,rfl⟩|exact⟨[],by simp⟩)
 obtain⟨v,w',g',k1,k2,k3,k4,k5⟩:=H9 (x:=x) (σ':=σ') hE hr h1
 obtain⟨rfl,m2,m3,m4,m5⟩:=P5 hr.mem hp h2 k2 k3 k4 k5
 unfold Oper.wp
 exact MN k1 (hk _ w' _ (Ey (FL hr m2 m3 m4) o.dst m5) m4 m3)
theorem TQ(hE:E.Ok){orc:Option Tmp→Orc}(hO:∀d,K5 E.toBase (orc d)){ops:Array Oper}{o:Oper}{st:St}{r:AV×Ad}(h:(Cm E (orc o.dst) o.op st.fr st.σ).bind (EX (EE E ops o) st.σ)=some r)
    {a:Act} {w:World} {g:Gh} (hr:Rel E w g st a) {next:Act→World→Prop} {Q:Exit→Act→World→Prop}
    (hk:∀a' w' g',Rel E w' g' ⟨A7 st.fr o.dst r.1,r.2⟩ a'→Evo E 0 w g w' g'→GLe g g'→next a' w'):o.wp E.P a w next Q:=by
  cases hf:EE E ops o with
  | true=>
    have e:∀σ,EX true σ=GT σ:=fun σ=>by funext r;simp[EX]
    have e2:Cm E (orc o.dst) o.op st.fr st.σ=DE E st.fr st.σ o.op:=by
      rcases DG hf with⟨t,n,l,h⟩|⟨s,d,x,h,_⟩<;>rw[h]<;>rfl
    rw[hf,e,e2]at h
    exact Ab6 hE (DG hf) h hr hk
  | false=>
    have e:∀σ,EX false σ=some:=fun σ=>by funext r;simp[EX]
    rw[hf,e,Bj]at h
    exact WS hE (hO _) h hr hk
theorem Kr(hE:E.Ok){orc:Option Tmp→Orc}(hO:∀d,K5 E.toBase (orc d)){ops:Array Oper}{i:Nat}{o:Oper}{st st':St}(hi:ops[i]?=some o)(h:C6 E orc ops o st=some st')
    {a:Act} {w:World} {g:Gh} (hr:Rel E w g st a) {next:Act→World→Prop} {Q:Exit→Act→World→Prop}
    (hk:∀a' w' g',Rel E w' g' st' a'→Evo E 0 w g w' g'→GLe g g'→next a' w'):wpOp E.P ops Q i next a w:=by
  unfold C6 at h
  rw[Option.map_eq_some_iff]at h
  obtain⟨⟨x,σ'⟩,hv,rfl⟩:=h
  unfold wpOp
  simp only[hi]
  unfold D1 Gr at hv
  cases hg:o.guard with
  | none=>
    simp only[hg]at hv
    simp only[Region.wanted,hg,if_true]
    exact .inl (TQ hE hO hv hr hk)
  | some p=>
    obtain⟨j,want⟩:=p
    simp only[hg]at hv
    cases hy:IE ops st.fr j with
    |none=>simp[hy]at hv
    | some b=>
      simp only[Region.wanted,hg,Ht hr hy]
      simp only[hy,Option.map_some]at hv
      by_cases e:b=some want
      · rw[if_pos (by simp[e])]
        rw[show(b==some want)=true by simp[e]]at hv
        exact .inl (TQ hE hO hv hr hk)
      · rw[if_neg (by simp[e])]
        rw[show(b==some want)=false by simp[e]]at hv
        cases hv
        exact hk _ w g (Ey hr o.dst (Ll _ _ _)) (Evo.refl _ _ _ _) (GLe.refl _)
def Dy(ops:Array Oper)(i:Nat):List Nat:=match ops[i]? with
 |some o=>(o.after.toList.filter (Region.binds .any)).map (·.on)
 |none=>[]
def Er(ops:Array Oper)(T:List (List Nat)):Bool :=
 (List.range ops.size).all fun i=>(Dy ops i).all (·<i)&&(T.getD i []).all fun j=>(Dy ops i).contains j||(Dy ops i).any fun k=>(T.getD k []).contains j
def IY(E:Env)(ops:Array Oper)(T:List (List Nat)):Bool :=
 (List.range ops.size).all fun i=>(List.range i).all fun j=>(T.getD i []).contains j||(match ops[j]?,ops[i]? with
  |some x,some y=>Im E ops x y
  |_,_=>false)
theorem FB{orc:Option Tmp→Orc}{ops:Array Oper}{i:Nat}{y:Oper}(hi:ops[i]?=some y){l2:List Nat}{st':St}:∀(l1:List Nat) (st:St),
    (∀j∈l1,∀x,ops[j]?=some x→Im E ops x y=true)→AF E orc ops (l1++i::l2) st=some st' →
    ∃st1,C6 E orc ops y st=some st1∧AF E orc ops (l1++l2) st1=some st'
  | [],st,_,h=>by
    simp only[List.nil_append,AF,hi]at h
    rw[Option.bind_eq_some_iff]at h
    exact h
  | j :: l1,st,hc,h=>by
    simp only[List.cons_append,AF]at h
    cases hj:ops[j]? with
    |none=>simp[hj]at h
    | some x=>
      simp only[hj]at h
      rw[Option.bind_eq_some_iff]at h
      obtain⟨s1,h1,h⟩:=h
      obtain⟨s2,h2,h⟩:=FB hi l1 s1 (fun k hk=>hc k (List.mem_cons_of_mem _ hk)) h
      obtain⟨s3,h3,h4⟩:=H2 (hc j List.mem_cons_self x hj) h1 h2
      refine⟨s3,h3,?_⟩
      simp only[List.cons_append,AF,hj,h4,Option.bind_some]
      exact h
theorem Ax{n:Nat}{p:Nat→Bool}(h:(List.range n).all p=true){i:Nat}(hi:i<n):p i=true :=
 List.all_eq_true.1 h i (List.mem_range.2 hi)
theorem CQ{ops:Array Oper}{T:List (List Nat)}(h:Er ops T=true){i:Nat}(hi:i<ops.size){d:Nat}(hd:d∈Dy ops i):d<i:=by
 have:=Ax h hi
 simp only[Bool.and_eq_true,List.all_eq_true,decide_eq_true_eq]at this
 exact this.1 d hd
theorem E9{ops:Array Oper}{T:List (List Nat)}(h:Er ops T=true){rem:List Nat}
    (hdown:∀k,k<ops.size→k ∉ rem→∀d∈Dy ops k,d ∉ rem):∀(i:Nat),i<ops.size→(∀d∈Dy ops i,d ∉ rem)→∀j∈T.getD i [],j ∉ rem:=by
  intro i
  induction i using Nat.strongRecOn with
  | _ i ih=>
    intro hi hd j hj
    have hh:=Ax h hi
    simp only[Bool.and_eq_true,List.all_eq_true,Bool.or_eq_true,List.contains_iff_mem,List.any_eq_true,decide_eq_true_eq]at hh
    rcases hh.2 j hj with hj|⟨k,hk,hkj⟩
    · exact hd j hj
    · have hki:=hh.1 k hk
      have hks:=Nat.lt_trans hki hi
      exact ih k hki hks (hdown k hks (hd k hk)) j hkj
theorem DP{ops:Array Oper}{i:Nat}{o:Oper}(hi:ops[i]?=some o){d:Nat}:d∈Dy ops i↔∃e∈o.after,Region.binds .any e=true∧e.on=d:=by
 simp only[Dy,hi,List.mem_map,List.mem_filter,Array.mem_toList_iff]
 constructor
 ·rintro⟨e,⟨h1,h2⟩,h3⟩;exact⟨e,h1,h2,h3⟩
 ·rintro⟨e,h1,h2,h3⟩;exact⟨e,⟨h1,h2⟩,h3⟩
theorem S2(hE:E.Ok){orc:Option Tmp→Orc}(hO:∀d,K5 E.toBase (orc d)){ops:Array Oper}{T:List (List Nat)}(hc:Er ops T=true)(hm:IY E ops T=true){st':St}{Q:Exit→Act→World→Prop} :
    ∀ (fuel:Nat) (rem:List Nat) (listed:Array Bool) (st:St) (a:Act) (w:World) (g:Gh),rem.length=fuel→rem.Pairwise (·<·)→listed.size=ops.size →
      (∀j,listed.getD j true=false↔j∈rem)→(∀k,k<ops.size→k ∉ rem→∀d∈Dy ops k,d ∉ rem) →
      AF E orc ops rem st=some st'→Rel E w g st a→(∀a' w' g',Rel E w' g' st' a'→Evo E 0 w g w' g'→GLe g g'→Q .normal a' w') →
      wpAny E.P .any ops Q fuel listed a w:=by
  have hin:∀(rem:List Nat) (listed:Array Bool),listed.size=ops.size→(∀j,listed.getD j true=false↔j∈rem)→∀j∈rem,j<ops.size:=by
    intro rem listed hs hl j hj
    have:=(hl j).2 hj
    by_cases e:j<listed.size
    · omega
    · simp[Array.getD,e]at this
  have hgd:∀(rem:List Nat) (listed:Array Bool),listed.size=ops.size→(∀j,listed.getD j true=false↔j∈rem)→∀d,d<ops.size→(listed.getD d false=true↔d ∉ rem):=by
    intro rem listed hs hl d hd
    have h1:listed.getD d false=listed.getD d true:=by
      have:d<listed.size:=by omega
      simp[Array.getD,this]
    rw[h1,←hl d]
    cases listed.getD d true<;>simp
  have hrd:∀(rem:List Nat) (listed:Array Bool),listed.size=ops.size→(∀j,listed.getD j true=false↔j∈rem)→∀i,
      (i∈Region.ready .any ops listed↔i∈rem∧∀d∈Dy ops i,d ∉ rem):=by
    intro rem listed hs hl i
    rw[mem_ready,hl i]
    constructor
    · rintro⟨h1,o,ho,h2⟩
      refine⟨h1,fun d hd=>?_⟩
      have hlt:=CQ hc (hin rem listed hs hl i h1) hd
      have hds:=Nat.lt_trans hlt (hin rem listed hs hl i h1)
      obtain⟨e,he,hb,rfl⟩:=(DP ho).1 hd
      exact(hgd rem listed hs hl _ hds).1 (h2 e he hb)
    · rintro⟨h1,h2⟩
      have hi:=hin rem listed hs hl i h1
      refine⟨h1,ops[i],Array.getElem?_eq_getElem hi,fun e he hb=>?_⟩
      have hd:e.on∈Dy ops i:=(DP (Array.getElem?_eq_getElem hi)).2 ⟨e,he,hb,rfl⟩
      exact(hgd rem listed hs hl _ (Nat.lt_trans (CQ hc hi hd) hi)).2 (h2 _ hd)
  have hdone:∀(rem:List Nat) (listed:Array Bool),rem.Pairwise (·<·)→listed.size=ops.size→(∀j,listed.getD j true=false↔j∈rem)→Region.ready .any ops listed=[]→rem=[]:=by
    intro rem listed hp hs hl hr
    cases rem with
    |nil=>rfl
    | cons i r=>
      have hi:i∈Region.ready .any ops listed:=(hrd _ listed hs hl i).2 ⟨List.mem_cons_self,fun d hd hm=>by
        have:=CQ hc (hin _ listed hs hl i List.mem_cons_self) hd
        rcases List.mem_cons.1 hm with rfl|hm
        · omega
        · have:=List.rel_of_pairwise_cons hp hm
          omega⟩
      rw[hr]at hi
      cases hi
  intro fuel
  induction fuel with
  | zero=>
    intro rem listed st a w g hf hp hs hl hd hst hr hq
    have:rem=[]:=List.length_eq_zero_iff.1 hf
    subst this
    simp only[AF,Option.some.injEq]at hst
    subst hst
    refine⟨?_,hq a w g hr (Evo.refl _ _ _ _) (GLe.refl _)⟩
    rw[List.eq_nil_iff_forall_not_mem]
    intro i hi
    have:=((hrd _ listed hs hl i).1 hi).1
    cases this
  | succ fuel ih=>
    intro rem listed st a w g hf hp hs hl hd hst hr hq
    refine⟨fun h=>?_,fun i hi=>?_⟩
    · have:=hdone rem listed hp hs hl h
      subst this
      simp at hf
    · obtain⟨hir,hid⟩:=(hrd rem listed hs hl i).1 hi
      have his:=hin rem listed hs hl i hir
      obtain⟨l1,l2,rfl⟩:=List.append_of_mem hir
      have hp':=hp
      rw[List.pairwise_append]at hp'
      obtain⟨p1,p2,p3⟩:=hp'
      have hnd:∀j∈l1++l2,j≠i:=by
        intro j hj
        rcases List.mem_append.1 hj with hj|hj
        · have:=p3 j hj i List.mem_cons_self;omega
        · have:=List.rel_of_pairwise_cons p2 hj;omega
      have hmem:∀j,j∈l1++l2↔j∈l1++i::l2∧j≠i:=by
        intro j
        constructor
        · intro hj
          refine⟨?_,hnd j hj⟩
          simp only[List.mem_append,List.mem_cons]at hj ⊢
          rcases hj with hj|hj
          · exact .inl hj
          · exact .inr (.inr hj)
        · rintro⟨hj,hne⟩
          simp only[List.mem_append,List.mem_cons]at hj ⊢
          rcases hj with hj|hj|hj
          · exact .inl hj
          · exact(hne hj).elim
          · exact .inr hj
      have hcm:∀j∈l1,∀x,ops[j]?=some x→Im E ops x ops[i]=true:=by
        intro j hj x hx
        have hji:j<i:=p3 j hj i List.mem_cons_self
        have h1:=Ax (Ax hm his) hji
        simp only[Bool.or_eq_true,List.contains_iff_mem]at h1
        rcases h1 with h1|h1
        · exact(E9 hc hd i his hid j h1 (List.mem_append_left _ hj)).elim
        · simp only[hx,Array.getElem?_eq_getElem his]at h1
          exact h1
      obtain⟨st1,h1,h2⟩:=FB (Array.getElem?_eq_getElem his) l1 st hcm hst
      refine Kr hE hO (Array.getElem?_eq_getElem his) h1 hr fun a1 w1 g1 hr1 he1 hg1=>?_
      refine ih (l1++l2) (listed.setIfInBounds i true) st1 a1 w1 g1 ?_ ?_ ?_ ?_ ?_ h2 hr1 ?_
      · simp at hf ⊢;omega
      · exact hp.sublist (List.Sublist.append_left (List.sublist_cons_self i l2) l1)
      · simp[hs]
      · intro j
        rw[hmem j,←hl j]
        by_cases e:j=i
        · subst e
          have:j<listed.size:=by omega
          simp[Array.getD,this]
        · rw[getD_set_ne true (fun h=>e h.symm)]
          simp[e]
      · intro k hk hkn d hdk hdm
        have hd2:=((hmem d).1 hdm).1
        by_cases e:k=i
        · subst e
          exact hid d hdk hd2
        · exact hd k hk (fun h=>hkn ((hmem k).2 ⟨h,e⟩)) d hdk hd2
      · intro a' w' g' hr' he' hg'
        exact hq a' w' g' hr' (he1.trans he') (hg1.trans hg')
theorem G9{w w':World}{g:Gh}{st:St}{a:Act}(hr:Rel E w g st a)(h:SameMem w w'):Rel E w' g st a :=
 ⟨hr.size,fun t x hx=>N7 h (hr.slot t x hx),hr.mem.same h,hr.defers.evo (n:=0) (Evo.same h)⟩
theorem KA(hE:E.Ok){orc:Option Tmp→Orc}(hO:∀d,K5 E.toBase (orc d))(hP:E.P.follows .mixedOrders=true){n id:Nat}{l:List Oper}(T:List (List Nat))(hok1:Er l.toArray T=true)(hok2:IY E l.toArray T=true){st st':St}{K:C0}
 (hst:AF E orc l.toArray (List.range l.length) st=some st') (hk:K .normal st'):Run E n (.region id l.toArray true) st K:=by
 intro hcm a w g hr Q hq
 refine FE (GE hcm) (wp_region_any hP ?_)
 have hsm:SameMem w { w with drawn:=w.drawn+1 }:=⟨rfl,rfl,rfl,rfl⟩
 refine S2 hE hO hok1 hok2 l.toArray.size (List.range l.length) _ st a _ g (by simp) List.pairwise_lt_range (by simp) ?_ ?_ hst (G9 hr hsm) ?_
 ·intro j
  rw[List.mem_range]
  by_cases h:j<l.length<;>simp[Array.getD,h]
 ·intro k hk hkn
  exact(hkn (List.mem_range.2 (by simpa using hk))).elim
 ·intro a' w' g' hr' he hg
  exact hq _ _ _ _ _ hk hr' ((Evo.same hsm).trans (he.of_gle hg))
end Go.Rv
