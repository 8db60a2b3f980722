/-
  Part 16.
-/
import Derived.Test.YtioapcamanmoiaaGreatDoorYA15
import Derived.Orders
namespace Go.Rv
variable{w:World}{g:Gh}{v x y:AV}{σ σ' σ2:Ad}{fr fr':List AV}{op:Op}{d:Option Tmp}{c:Call}{ops:Array Oper}{o:Oper}{t s:TypeId}{r:AV×Ad}{id n i:Nat}{st st':St}{T:List (List Nat)}
variable {E:Env}
structure Orc where
  fz:FuncId→List AV→Option AV
  own:FuncId→List AV→Ad→Option (AV×Ad)
def T7(E:Env)(c:Call):Bool:=match c.callee with
 |.value (.func f)=>E.own f c.args.toList
 |_=>false
def Ahh(orc:Orc)(fr:List AV)(σ:Ad)(c:Call):Option (AV×Ad) :=
 match c.callee with
 |.value f=>match ev fr f with
  |.fn fid []=>orc.own fid (c.args.toList.map (ev fr)) σ
  |_=>none
 |_=>none
def Mu(orc:Orc)(fr:List AV)(σ:Ad)(c:Call):Option AV :=
 match c.callee with
 | .value f=>match ev fr f with
  | .fn fid []=>match(c.args.toList.map (ev fr)).mapM (fz σ)with
   |some args=>match orc.fz fid args with
    |some r=>if r.scalar=true∨(c.args.toList.map (ev fr)).flatMap Ci=[]then some r else none
    |none=>none
   |none=>none
  |_=>none
 |_=>none
def Dg(E:Env)(orc:Orc)(op:Op)(fr:List AV)(σ:Ad):Option (AV×Ad) :=
 match op with
 |.call c=>match c.callee with
  |.builtin _=>Ff E fr σ op
  |_=>if T7 E c=true then Ahh orc fr σ c else(Mu orc fr σ c).map fun r=>(r,σ)
 |op=>Ff E fr σ op
theorem Qf{pr:Addr→Prop}{v:Value}(h:Rep w pr g v x):x.under g.length=true:=by
  induction h with
  |bs g v full id tot off len b hb hx ht h ho=>simpa [AV.under]using(AsT.1 hb).1
  |ref g id off β b hb hx hβ=>simpa [AV.under]using(AsT.1 hb).1
  |tref g id t β b hb hx hβ ht=>simpa [AV.under]using(AsT.1 hb).1
  |mref g id β b hb hx hβ=>simpa [AV.under]using(AsT.1 hb).1
  |yld g id β b hb hx hβ=>simpa [AV.under]using(AsT.1 hb).1
  |nref g v id b hb hx h=>simpa [AV.under]using(AsT.1 hb).1
  |eref g v id tot i j b hb hx ht h ho=>simpa [AV.under]using(AsT.1 hb).1
  | agg g vs cs hs ho hr ih=>
    simp only[AV.under,Atc];rintro⟨x,hx⟩ _;obtain⟨i,hi⟩:=At9.1 hx;exact ih i x hi
  | tup g vs cs hs hr ih=>
    simp only[AV.under,Atc];rintro⟨x,hx⟩ _;obtain⟨i,hi⟩:=At9.1 hx;exact ih i x hi
  | fn g f caps cs hs hr hn ih=>
    simp only[AV.under,Atc];rintro⟨x,hx⟩ _;obtain⟨i,hi⟩:=At9.1 hx;exact ih i x hi
  | fnb g f fs cs hs hr ih=>
    simp only[AV.under,Atc];rintro⟨x,hx⟩ _;rw[Aux]at hx;subst hx;simp only[AV.under,Atc];rintro⟨y,hy⟩ _;obtain⟨i,hi⟩:=At9.1 hy;exact ih i y hi
  |iface g t v x hr ih=>simpa [AV.under]using ih
  |_=>simp[AV.under]
theorem PJ(hm:Mem E w g σ):∀ab∈σ,YH σ.length ab:=by
  intro ab hab;obtain⟨id,hid⟩:=At9.1 hab;have hl:id<g.length:=by rw[hm.len];exact(AsT.1 hid).1
  have hk:=hm.blk id g[id] ab (AsZ hl) hid;cases ab with
  | box cs ro=>
    obtain⟨k1,k2,k3,k4,k5,β,arr,t,fz,k6,k7,k8,k9,k10⟩:=hk;intro x hx;obtain⟨j,hj⟩:=At9.1 hx;have:=Qf (k10 j x hj).1;rwa[hm.len]at this
  | buf k els ro=>
    obtain⟨k1,k2,k3,k4,k5,k6,k7⟩:=hk;intro cs hcs x hx;obtain⟨i,hi⟩:=At9.1 hcs;obtain⟨j,hj⟩:=At9.1 hx;cases hb:g[id].blk with
    | none=>
      rcases(k6 hb).1 with this|this
      · subst this
        simp at hi
      · have h1:=k5 i cs hi
        have h2:=(AsT.1 hj).1;omega
    | some β=>
      obtain⟨arr,t,fz,g1,g2,g3,g4,g5⟩:=k7 β hb;have:=Qf (g5 i cs j x hi hj).1;rwa[hm.len]at this
  |obj o=>exact trivial
  |mp es=>exact trivial
  | lp y N1 l1 ps as1 bd=>
    obtain⟨k1,β,f,T,D,k2,k3,k4,k5⟩:=hk;intro p hp;have:=Qf (k5 p hp);rwa[hm.len]at this
  |gone=>exact trivial
  |tb T l=>exact trivial
def Jd(σ:Ad)(r:AV×Ad):Option (AV×Ad) :=
 match r with
 |(.bs full id tot off len,σ')=>if id=σ.length then(B3 σ' (.bs full id tot off len)).map fun y=>(y,σ)else none
 |_=>none
theorem Xd{w':World}{g1:Gh}{v:Value}(hm:Mem E w g σ)(hp:∃bs,σ'=σ++bs)(h:Jd σ (x,σ')=some (y,σ2)) (m1:Mem E w' g1 σ') (h3:GLe g g1) (h4:Evo E 0 w g w' g1) (h5:Rep w' (AA E g1) g1 v x) :σ2=σ∧Mem E w' (g1.take σ.length) σ∧GLe g (g1.take σ.length)∧Evo E 0 w g w' (g1.take σ.length)∧Rep w' (AA E (g1.take σ.length)) (g1.take σ.length) v y:=by
 obtain⟨bs,rfl⟩:=hp;have ht:(σ++bs).take σ.length=σ:=by simp
 unfold Jd at h;split at h
 case h_2=>cases h
 rename_i full id tot off len σ3 he;cases he;split at h
 case isFalse=>cases h
 rename_i hid;rw[AsV]at h;obtain⟨y',hy,h⟩:=h;cases h;have hmt:=SD m1 σ.length (by rw[ht];exact PJ hm);rw[ht]at hmt;refine⟨rfl,hmt,?_,?_,?_⟩
 ·intro id b hb;obtain⟨b',hb',hs⟩:=h3 id b hb;exact⟨b',GS hb' (by rw[←hm.len];exact(AsT.1 hb).1),hs⟩
 ·exact⟨h4.os,h4.tape,h4.output,h4.size,fun a u hc hpr=>⟨(h4.cells a u hc hpr).1,IA (h4.cells a u hc hpr).2⟩,
   fun β hβ hn=>⟨(h4.blocks β hβ hn).1,fun h=>(h4.blocks β hβ hn).2 (JA h)⟩,fun id hid=>absurd hid (Atw _)⟩
 ·refine(Il (pr:=AA E (g1.take σ.length)) m1 h5 hy (fun a=>IA) ?_).mono (fun a u hc hpr=>⟨hc,hpr⟩) (GLe.nil _);rintro id' b ⟨_,_,_,_,e⟩ hb β off' hβ _;cases e;refine⟨fun hF=>(m1.foreign _ hF).2 ⟨id,b,hb,hβ⟩,fun id2 c hc he=>?_⟩;have:=m1.inj id2 id c b β (GR hc).1 hb he hβ;have:=(GR hc).2;omega
theorem Bw{α:Type}(x:Option α):x.bind some=x:=by cases x<;>rfl
def AfU(t:Tmp):Operand→Bool
 |.tmp s=>s==t
 |_=>false
def Ab2(t:Tmp):List Operand→Bool
 |[]=>false
 |_::r=>r.any (AfU t)
def YI:Builtin→Bool
 |.append=>true
 |_=>false
theorem Qm:YI .append=true:=rfl
def Ajt(t:Tmp)(o:Oper):Bool:=match o.op with
 |.call c=>match c.callee with
  |.value _=>c.args.toList.any (AfU t)
  |.builtin b=>Ab2 t c.args.toList&&YI b
  |_=>false
 |.buildSlice _ _ parts=>parts.toList.any fun p=>AfU t p.2
 |_=>false
def EF(E:Env)(t:TypeId):Bool:=match E.tab t with
 |some d=>match d.desc with
  |.slice _=>true
  |_=>false
 |none=>false
def FX(E:Env)(ops:Array Oper)(o:Oper):Bool:=match o.dst with
 |some t=>match o.op with
  |.buildSlice ..=>ops.toList.any (Ajt t)
  |.convert _ d _=>EF E d&&ops.toList.any (Ajt t)
  |_=>false
 |none=>false
def G8(b:Bool)(σ:Ad)(r:AV×Ad):Option (AV×Ad):=if b then Jd σ r else some r
def EV(E:Env)(orc:Option Tmp→Orc)(ops:Array Oper)(o:Oper)(fr:List AV)(σ:Ad):Option (AV×Ad) :=
 match Ke ops fr o with
 |some true=>(Dg E (orc o.dst) o.op fr σ).bind (G8 (FX E ops o) σ)
 |some false=>some (.tup [],σ)
 |none=>none
def CW(E:Env)(orc:Option Tmp→Orc)(ops:Array Oper)(o:Oper)(st:St):Option St :=
 (EV E orc ops o st.fr st.σ).map fun r=>⟨AY st.fr o.dst r.1,r.2⟩
def BC(E:Env)(orc:Option Tmp→Orc)(ops:Array Oper):List Nat→St→Option St
 |[],st=>some st
 |i::l,st=>match ops[i]? with
  |some o=>(CW E orc ops o st).bind (BC E orc ops l)
  |none=>none
theorem AeA{x:Operand}(h:∀t,x=.tmp t→fr[t]?=fr'[t]?):ev fr x=ev fr' x:=by
 cases x with
 |tmp t=>simp only[ev,List.getD,h t rfl]
 |_=>rfl
theorem MA(h:∀x∈op.operands,ev fr x=ev fr' x):Ff E fr σ op=Ff E fr' σ op:=by
 have m1:∀(l:List Operand),(∀x∈l,x∈op.operands)→l.map (ev fr)=l.map (ev fr'):=fun l hl=>Auv fun x hx=>h x (hl x hx)
 cases op<;>simp only[Ff]
 case move x=>rw[h x (by simp[Op.operands])]
 case assign x=>rw[h x (by simp[Op.operands])]
 case pick c a b=>rw[h c (by simp[Op.operands]),h a (by simp[Op.operands]),h b (by simp[Op.operands])]
 case box t x=>rw[h x (by simp[Op.operands])]
 case build t parts=>
  have:(parts.toList.map fun(i,x)=>(i,ev fr x))=(parts.toList.map fun(i,x)=>(i,ev fr' x)):=Auv fun p hp=>by
   have:=h p.2 (by simp[Op.operands];exact⟨p.1,by simpa using hp⟩);simp[this]
  rw[this]
 case buildSlice t n parts=>
  have:(parts.toList.map fun(i,x)=>(i,ev fr x))=(parts.toList.map fun(i,x)=>(i,ev fr' x)):=Auv fun p hp=>by
   have:=h p.2 (by simp[Op.operands];exact⟨p.1,by simpa using hp⟩);simp[this]
  rw[this]
 case load t x=>rw[h x (by simp[Op.operands])]
 case store t x y=>rw[h x (by simp[Op.operands]),h y (by simp[Op.operands])]
 case nilCheck x=>rw[h x (by simp[Op.operands])]
 case range t x=>rw[h x (by simp[Op.operands])]
 case makeMap t r=>cases r<;>rfl
 case insert t m k x=>rw[h m (by simp[Op.operands]),h k (by simp[Op.operands]),h x (by simp[Op.operands])]
 case mapUpdate t m k x=>rw[h m (by simp[Op.operands]),h k (by simp[Op.operands]),h x (by simp[Op.operands])]
 case next it b=>
  cases b with
  |false=>rfl
  |true=>simp only;rw[h it (by simp[Op.operands])]
 case binOp op t x y u=>rw[h x (by simp[Op.operands]),h y (by simp[Op.operands])]
 case unOp op t x=>rw[h x (by simp[Op.operands])]
 case convert s d x=>rw[h x (by simp[Op.operands])]
 case makeInterface t x=>rw[h x (by simp[Op.operands])]
 case makeFunc fn first caps=>
  have:caps.toList.map (ev fr)=caps.toList.map (ev fr'):=m1 _ (fun x hx=>by simp[Op.operands];exact .inr (by simpa using hx));have t2:first.toList.map (ev fr)=first.toList.map (ev fr'):=m1 _ (fun x hx=>by simp[Op.operands];exact .inl (by simpa using hx))
  cases fn<;>simp only[this,t2]
 case makeSlice t x y=>rw[h x (by simp[Op.operands]),h y (by simp[Op.operands])]
 case slice t x lo hi mx=>
  have hx:=h x (by simp[Op.operands]);have hl:lo.map (ev fr)=lo.map (ev fr'):=by cases lo with|none=>rfl|some l=>simp[h l (by simp[Op.operands])]
  have hh:hi.map (ev fr)=hi.map (ev fr'):=by cases hi with|none=>rfl|some l=>simp[h l (by simp[Op.operands])]
  have hm:mx.map (ev fr)=mx.map (ev fr'):=by cases mx with|none=>rfl|some l=>simp[h l (by simp[Op.operands])]
  rw[hx,hl,hh,hm]
 case fieldAddr s x f=>rw[h x (by simp[Op.operands])]
 case field s x f=>rw[h x (by simp[Op.operands])]
 case indexAddr t x y=>rw[h x (by simp[Op.operands]),h y (by simp[Op.operands])]
 case index t x y=>rw[h x (by simp[Op.operands]),h y (by simp[Op.operands])]
 case sliceToArrayPointer t x=>rw[h x (by simp[Op.operands])]
 case lookup t x y ok=>rw[h x (by simp[Op.operands]),h y (by simp[Op.operands])]
 case extract x i=>rw[h x (by simp[Op.operands])]
 case call c=>
  cases hc:c.callee<;>simp only[];have:c.args.toList.map (ev fr)=c.args.toList.map (ev fr'):=m1 _ (fun x hx=>by simp[Op.operands,Call.operands];exact .inr (by simpa using hx));rw[this]
def Nh(E:Env)(t:TypeId):Bool:=match E.tab t with
 |some d=>match d.desc with
  |.array ..=>true
  |_=>false
 |none=>false
def Ry(E:Env):Op→Bool
 |.alloc _|.box ..|.buildSlice ..|.store ..|.makeSlice ..|.range ..|.next ..|.makeMap ..|.insert ..|.mapUpdate ..=>true
 |.convert _ d _=>EF E d
 |.slice t ..=>Nh E t
 |.call c=>match c.callee with
  |.builtin .len|.builtin .min|.builtin .max=>false
  |.builtin _=>true
  |_=>T7 E c
 |_=>false
def Ht(E:Env):Op→Bool
 |.load ..|.fieldAddr ..|.indexAddr ..|.slice ..|.convert ..|.lookup ..=>true
 |.call c=>match c.callee with
  |.builtin .min|.builtin .max=>false
  |_=>true
 |op=>Ry E op
theorem Nb(he:Ry E op=false)(h:Ff E fr σ op=some (x,σ')):σ'=σ:=by
  cases op<;>simp only[Ff]at h<;>simp only[Ry]at he<;>try (cases h;done)
  case move y=>cases h;rfl
  case assign y=>cases h;rfl
  case pick c a b=>split at h<;>first|(cases h;rfl)|cases h
  case alloc=>cases he
  case range=>cases he
  case makeMap=>cases he
  case insert=>cases he
  case mapUpdate=>cases he
  case next=>cases he
  case box=>cases he
  case build t parts=>rw[AsV]at h;obtain⟨_,_,h⟩:=h;cases h;rfl
  case buildSlice=>cases he
  case load t y=>
    split at h
    · rw[AsV]at h;obtain⟨_,_,h⟩:=h;cases h;rfl
    · cases h
  case store=>cases he
  case nilCheck y=>split at h<;>first|(cases h;rfl)|cases h
  case binOp op t y z u=>rw[AsV]at h;obtain⟨_,_,h⟩:=h;cases h;rfl
  case unOp op t y=>rw[AsV]at h;obtain⟨_,_,h⟩:=h;cases h;rfl
  case lookup t y z ok=>rw[AsV]at h;obtain⟨_,_,h⟩:=h;cases h;rfl
  case convert s d y=>
    unfold BR at h;unfold EF at he;split at h
    case h_2=>cases h
    rename_i ds dd hs hd;rw[hd]at he;simp only at he;split at h
    · cases h;rfl
    · cases h;rfl
    · rename_i hdd _;rw[hdd]at he;cases he
    · split at h
      · cases h
      split at h
      case h_2=>cases h
      split at h
      case h_2=>cases h
      split at h
      · cases h;rfl
      · cases h
    · rename_i hdd _;rw[hdd]at he;cases he
    · cases h
  case makeFunc fn first caps=>
    split at h
    · split at h
      · split at h
        · cases h
        · cases h;rfl
      · split at h
        · cases h;rfl
        · cases h
    · cases h
  case makeInterface t y=>
    split at h
    · split at h
      · cases h
      · cases h;rfl
    · cases h
  case makeSlice=>cases he
  case slice t y lo hi mx=>
    unfold HK at h;unfold Nh at he;cases ht:E.tab t with
    |none=>simp[ht]at h
    | some d=>
      simp only[ht]at h he;split at h
      · split at h
        · split at h
          · cases h
          · cases h;rfl
        · cases h
      · split at h
        · split at h
          · cases h;rfl
          · cases h
        · cases h
      · split at h
        · split at h
          · split at h
            · cases h;rfl
            · cases h
          · cases h
        · cases h
      · rename_i hd _;rw[hd]at he;cases he
      · rename_i hd _;rw[hd]at he;cases he
      · cases h
  case fieldAddr s y f=>rw[AsV]at h;obtain⟨_,_,h⟩:=h;cases h;rfl
  case field s y f=>rw[AsV]at h;obtain⟨_,_,h⟩:=h;cases h;rfl
  case indexAddr t y i=>rw[AsV]at h;obtain⟨_,_,h⟩:=h;cases h;rfl
  case index t y i=>rw[AsV]at h;obtain⟨_,_,h⟩:=h;cases h;rfl
  case sliceToArrayPointer t y=>rw[AsV]at h;obtain⟨_,_,h⟩:=h;cases h;rfl
  case extract y i=>
    split at h
    · split at h
      · cases h;rfl
      · cases h
    · cases h
  case call c=>
    cases hc:c.callee<;>simp only[hc]at h he<;>try (cases h;done)
    rename_i b;unfold Bp at h;split at h
    · rw[AsV]at h;obtain⟨_,_,h⟩:=h;cases h;rfl
    · cases he
    · cases he
    · rw[AsV]at h;obtain⟨_,_,h⟩:=h;cases h;rfl
    · rw[AsV]at h;obtain⟨_,_,h⟩:=h;cases h;rfl
    · cases h
theorem HI(ht:Ht E op=false):Ff E fr σ2 op=(Ff E fr σ op).map (fun r=>(r.1,σ2)):=by
 cases op<;>simp only[Ht,Ry]at ht<;>try (cases ht;done)
 all_goals simp only[Ff]
 all_goals try rfl
 case pick c a b=>split<;>rfl
 case build t parts=>simp only[Aua];rfl
 case nilCheck y=>split<;>rfl
 case binOp op t y z u=>simp only[Aua];rfl
 case unOp op t y=>simp only[Aua];rfl
 case makeFunc fn first caps=>
  split
  ·split
   ·split<;>rfl
   ·split<;>rfl
  ·rfl
 case makeInterface t y=>
  split
  ·split<;>rfl
  ·rfl
 case field s y f=>simp only[Aua];rfl
 case index t y i=>simp only[Aua];rfl
 case sliceToArrayPointer t y=>simp only[Aua];rfl
 case extract y i=>
  split
  ·split<;>rfl
  ·rfl
 case call c=>
  cases hc:c.callee<;>simp only[hc]at ht ⊢<;>try rfl
  rename_i b;cases b<;>simp only at ht<;>try (cases ht;done)
  all_goals
   unfold Bp;split<;>first|(exfalso;simp_all;done)|rfl|(simp only[Aua];rfl)
theorem Eh(fr:List AV){x y:Option Tmp}(v u:AV)(h:∀d,x=some d→y≠some d):AY (AY fr x v) y u=AY (AY fr y u) x v:=by
  cases x with
  |none=>rfl
  | some d=>
    cases y with
    |none=>rfl
    |some e=>exact List.set_comm _ _ (fun he=>h d rfl (by rw[he]))
theorem So{x:Operand}(h:∀e,d=some e→x≠.tmp e):ev (AY fr d v) x=ev fr x:=by
  refine AeA fun t hx=>?_
  cases d with
  |none=>rfl
  | some e=>
    have:e≠t:=fun he=>h e rfl (by rw[hx,he])
    simp[AY,AtF this]
theorem XO{orc:Orc}(h:∀x∈(Op.call c).operands,ev fr x=ev fr' x):Mu orc fr σ c=Mu orc fr' σ c:=by
 have ha:c.args.toList.map (ev fr)=c.args.toList.map (ev fr'):=Auv fun x hx=>h x (by simp[Op.operands,Call.operands];exact .inr (by simpa using hx))
 unfold Mu;cases hc:c.callee<;>simp only[];rename_i f;rw[h f (by simp[Op.operands,Call.operands,hc]),ha]
theorem ZX{orc:Orc}(h:∀x∈(Op.call c).operands,ev fr x=ev fr' x):Ahh orc fr σ c=Ahh orc fr' σ c:=by
 have ha:c.args.toList.map (ev fr)=c.args.toList.map (ev fr'):=Auv fun x hx=>h x (by simp[Op.operands,Call.operands];exact .inr (by simpa using hx))
 unfold Ahh;cases hc:c.callee<;>simp only[];rename_i f;rw[h f (by simp[Op.operands,Call.operands,hc]),ha]
theorem WH{orc:Orc}(h:∀x∈op.operands,ev fr x=ev fr' x):Dg E orc op fr σ=Dg E orc op fr' σ:=by
  cases op with
  | call c=>
    simp only[Dg];rw[XO h,ZX h];cases hc:c.callee<;>simp only[];exact MA h
  |_=>exact MA (E:=E) (σ:=σ) h
theorem Oz{orc:Orc}(he:Ry E op=false)(h:Dg E orc op fr σ=some (x,σ')):σ'=σ:=by
  cases op with
  | call c=>
    simp only[Dg]at h;cases hc:c.callee<;>simp only[hc]at h
    case builtin b=>exact Nb he h
    all_goals
      simp only[Ry,hc]at he;simp only[he,AtQ,AuH]at h;rw[AsV]at h;obtain⟨_,_,h⟩:=h;cases h;rfl
  |_=>exact Nb (fr:=fr) he h
theorem SQ{orc:Orc}(ht:Ht E op=false):Dg E orc op fr σ2=(Dg E orc op fr σ).map (fun r=>(r.1,σ2)):=by
  cases op with
  | call c=>
    simp only[Dg];cases hc:c.callee<;>simp only[]
    case builtin b=>exact HI ht
    all_goals (simp only[Ht,hc]at ht;cases ht)
  |_=>exact HI (fr:=fr) (σ:=σ) ht
theorem WT{t:Tmp}(h:Operand.tmp t∈o.op.operands):t∈o.looksAt ops:=by
 unfold Oper.looksAt;rw[Atk];left;rw[AvJ];exact⟨.tmp t,by simpa using h,rfl⟩
theorem Tc(h:∀e,d=some e→e ∉ o.looksAt ops):Ke ops (AY fr d v) o=Ke ops fr o:=by
  unfold Ke;cases hg:o.guard with
  |none=>rfl
  | some g=>
    obtain⟨j,want⟩:=g;simp only;congr 1;unfold Mb;cases hj:(ops[j]?).bind (·.dst)with
    |none=>simp[hj]
    | some t=>
      cases d with
      |none=>rfl
      | some e=>
        have:e≠t:=fun he=>h e rfl (by simp[Oper.looksAt,hg,hj,he])
        simp[hj,AY,AtF this]
theorem BN{orc:Option Tmp→Orc}(h:∀e,d=some e→e ∉ o.looksAt ops):EV E orc ops o (AY fr d v) σ=EV E orc ops o fr σ:=by
 unfold EV;rw[Tc h,WH (fun x hx=>So fun e he hxe=>h e he (WT (hxe ▸ hx)))]
def Ut(E:Env)(ops:Array Oper)(o:Oper):Bool:=Ry E o.op&&!FX E ops o
theorem M6(h:Ut E ops o=false):FX E ops o=true∨(FX E ops o=false∧Ry E o.op=false):=by
 unfold Ut at h;cases hf:FX E ops o
 ·rw[hf]at h;right;simpa using h
 ·exact .inl rfl
theorem Es(h:FX E ops o=true):(∃t n l,o.op=.buildSlice t n l)∨(∃s d x,o.op=.convert s d x∧EF E d=true):=by
 unfold FX at h;split at h
 case h_2=>cases h
 split at h
 ·rename_i hop;exact .inl ⟨_,_,_,hop⟩
 ·rename_i hop;exact .inr ⟨_,_,_,hop,(Avu.1 h).1⟩
 ·cases h
theorem XS(h:Jd σ r=some (y,σ')):σ'=σ:=by
 unfold Jd at h;split at h
 case h_2=>cases h
 split at h
 case isFalse=>cases h
 rw[AsV]at h;obtain⟨_,_,h⟩:=h;cases h;rfl
theorem DP{orc:Option Tmp→Orc}(he:Ut E ops o=false)(h:EV E orc ops o fr σ=some (x,σ')):σ'=σ:=by
 unfold EV at h;split at h
 ·rw[As6]at h;obtain⟨⟨v,σ1⟩,h1,h2⟩:=h;unfold G8 at h2;rcases M6 he with hf|⟨hf,he⟩
  ·rw[hf,AsU rfl]at h2;exact XS h2
  ·rw[hf]at h2;simp only[AtQ,AuH]at h2;cases h2;exact Oz he h1
 ·cases h;rfl
 ·cases h
theorem Abq(ht:Ht E o.op=false):FX E ops o=false:=by
 cases hf:FX E ops o
 ·rfl
 ·rcases Es hf with⟨t,n,l,h⟩|⟨s,d,x,h,_⟩
  ·rw[h]at ht;cases ht
  ·rw[h]at ht;cases ht
theorem Nz{orc:Option Tmp→Orc}(ht:Ht E o.op=false):EV E orc ops o fr σ2=(EV E orc ops o fr σ).map (fun r=>(r.1,σ2)):=by
 unfold EV;rw[Abq ht];have e:∀σ,G8 false σ=some:=fun σ=>by funext r;simp[G8]
 rw[e,e];split
 ·rw[SQ (σ:=σ) ht];cases Dg E (orc o.dst) o.op fr σ<;>rfl
 ·rfl
 ·rfl
theorem JM{b:ABlk}(bs:Ad)(h:σ[id]?=some b):(σ++bs)[id]?=some b:=by
 rw[As3 (AsT.1 h).1];exact h
theorem Aby{d:TD}{a:AV}(bs:Ad)(h:loadA E σ d a=some x):loadA E (σ++bs) d a=some x:=by
 cases a<;>simp only[loadA]at h ⊢<;>try exact h
 case ref id off=>
  cases e:σ[id]? with
  |none=>simp[e]at h
  |some b=>rw[e]at h;rw[JM bs e];exact h
 case eref id tot i j=>
  cases e:σ[id]? with
  |none=>simp[e]at h
  |some b=>rw[e]at h;rw[JM bs e];exact h
theorem UD{tot:Nat}(bs:Ad)(h:Acp σ id tot=true):Acp (σ++bs) id tot=true:=by
 unfold Acp at h ⊢;cases e:σ[id]? with
 |none=>simp[e]at h
 |some b=>rw[e]at h;rw[JM bs e];exact h
theorem AdY{l:List (List AV)}(bs:Ad)(h:Hd σ x=some l):Hd (σ++bs) x=some l:=by
 cases x<;>simp only[Hd]at h ⊢<;>try exact h
 case bs full id tot off len=>
  cases e:σ[id]? with
  |none=>simp[e]at h
  |some b=>rw[e]at h;rw[JM bs e];exact h
theorem AdG(bs:Ad)(h:Ab5 E σ t x=some n):Ab5 E (σ++bs) t x=some n:=by
  unfold Ab5 at h ⊢;cases ht:E.tab t with
  |none=>simp[ht]at h
  | some d=>
    simp only[ht]at h ⊢;split at h<;>try (simp_all;done)
    rename_i id tot off len hd;cases e:σ[id]? with
    |none=>simp[e]at h
    |some b=>rw[e]at h;simp only[hd,JM bs e];exact h
theorem PS{f:Nat}(bs:Ad)(h:BB E σ s x f=some y):BB E (σ++bs) s x f=some y:=by
 unfold BB at h ⊢
 repeat' split at h
 all_goals try (cases h;done)
 all_goals try (simp_all;done)
 all_goals (rename_i hc;simp_all [UD bs hc])
theorem OE{i:AV}(bs:Ad)(h:Az E σ t x i=some y):Az E (σ++bs) t x i=some y:=by
  unfold Az at h ⊢;cases ht:E.tab t with
  |none=>simp[ht]at h
  | some d=>
    simp only[ht]at h ⊢;cases hd:d.desc<;>simp only[hd]at h ⊢<;>try (cases h;done)
    case array n e=>
      cases he:E.tab e with
      |none=>simp[he]at h
      | some de=>
        cases hi:idx i n with
        |none=>simp[he,hi]at h
        | some k=>
          simp only[he,hi]at h ⊢;cases x<;>simp only at h ⊢<;>try exact h
          case eref id tot i0 j=>
            split at h
            case isFalse=>cases h
            rename_i hc;rw[AsU (UD bs hc)];exact h
    case slice e=>
      cases he:E.tab e with
      |none=>simp[he]at h
      | some de=>
        simp only[he]at h ⊢;cases x<;>simp only at h ⊢<;>try exact h
        case bs full id tot off len=>
          cases e2:σ[id]? with
          |none=>simp[e2]at h
          |some b=>rw[e2]at h;rw[JM bs e2];exact h
theorem X4{lo hi mx:Option AV}(bs:Ad)(he:Nh E t=false)(h:HK E σ t x lo hi mx=some (y,σ')):HK E (σ++bs) t x lo hi mx=some (y,σ++bs):=by
  unfold HK at h ⊢;unfold Nh at he;cases ht:E.tab t with
  |none=>simp[ht]at h
  | some d=>
    simp only[ht]at h he ⊢;cases hd:d.desc<;>simp only[hd]at h he ⊢<;>try (first|(cases h;done)|(cases he;done))
    case string=>
      cases x<;>simp only at h ⊢<;>try (cases h;done)
      repeat' split at h
      all_goals try (cases h;done)
      cases h;simp_all
    case slice e=>
      cases x<;>simp only at h ⊢<;>try (cases h;done)
      case sl full els=>
        repeat' split at h
        all_goals try (cases h;done)
        cases h;simp_all
      case bs full id tot off len=>
        cases e2:σ[id]? with
        |none=>simp[e2]at h
        | some b=>
          rw[e2]at h;rw[JM bs e2]
          repeat' split at h
          all_goals try (cases h;done)
          cases h;simp_all
theorem T8{d:TypeId}(bs:Ad)(he:EF E d=false)(h:BR E σ s d x=some (y,σ')):BR E (σ++bs) s d x=some (y,σ++bs):=by
 unfold BR at h ⊢;unfold EF at he;split at h
 case h_2=>cases h
 rename_i ds dd hs hd;rw[hd]at he;simp only at he;split at h
 ·cases h;rfl
 ·cases h;rfl
 ·simp_all
 ·split at h
  ·cases h
  rename_i hb;split at h
  case h_2=>cases h
  rename_i hde;split at h
  case h_2=>cases h
  rename_i hu hv;split at h
  ·rename_i hl;cases h;simp[hb,hu,AdY bs hv,hl]
  ·cases h
 ·simp_all
 ·cases h
theorem O6(bs:Ad)(h:B3 σ x=some y):B3 (σ++bs) x=some y:=by
 cases x<;>simp only[B3]at h ⊢<;>try exact h
 case bs full id tot off len=>
  cases e:σ[id]? with
  |none=>simp[e]at h
  |some b=>rw[e]at h;rw[JM bs e];exact h
theorem Qc{α β:Type}{f g:α→Option β}(hfg:∀x y,f x=some y→g x=some y):∀{l:List α} {ys:List β},l.mapM f=some ys→l.mapM g=some ys
  |[],_,h=>by simpa using h
  | x::l,ys,h=>by
    rw[AuF]at h ⊢;simp only[Avh,As6]at h ⊢;obtain⟨y,hy,zs,hz,h⟩:=h;exact⟨y,hfg _ _ hy,zs,Qc hfg hz,h⟩
theorem Ahw(bs:Ad)(h:fz σ x=some y):fz (σ++bs) x=some y:=by
 cases x<;>simp only[fz]at h ⊢<;>try exact O6 bs h
 case agg cs=>
  rw[AsV]at h ⊢;obtain⟨ys,h,e⟩:=h;exact⟨ys,Qc (fun _ _=>O6 bs) h,e⟩
theorem U6(bs:Ad){k:AV}{ok:Bool}(h:FU E σ t x k ok=some v):FU E (σ++bs) t x k ok=some v:=by
  cases x with
  | mref id=>
    simp only[FU]at h ⊢;cases hσ:σ[id]? with
    |none=>simp[hσ]at h
    | some b=>
      rw[As3 (AsT.1 hσ).1,hσ];rw[hσ]at h;exact h
  |_=>exact h
theorem VA(bs:Ad)(he:Ry E op=false)(h:Ff E fr σ op=some (x,σ')):Ff E fr (σ++bs) op=some (x,σ++bs):=by
  cases ht:Ht E op with
  | false=>
    rw[HI (σ:=σ) ht,h];rfl
  | true=>
    cases op<;>simp only[Ht,Ry]at ht he<;>try (cases ht;done)
    all_goals try (cases he;done)
    case load t y=>
      simp only[Ff]at h ⊢;split at h
      case h_2=>cases h
      rename_i hd;rw[AsV]at h;obtain⟨v,hv,h⟩:=h;cases h;simp[hd,Aby bs hv]
    case convert s d y=>exact T8 bs he h
    case slice t y lo hi mx=>exact X4 bs he h
    case lookup t y z ok=>
      simp only[Ff]at h ⊢;rw[AsV]at h;obtain⟨v,hv,h⟩:=h;cases h;simp[U6 bs hv]
    case fieldAddr s y f=>
      simp only[Ff]at h ⊢;rw[AsV]at h;obtain⟨v,hv,h⟩:=h;cases h;simp[PS bs hv]
    case indexAddr t y i=>
      simp only[Ff]at h ⊢;rw[AsV]at h;obtain⟨v,hv,h⟩:=h;cases h;simp[OE bs hv]
    case call c=>
      simp only[Ff]at h ⊢;cases hc:c.callee<;>simp only[hc]at h ht he ⊢<;>try (cases h;done)
      rename_i b;unfold Bp at h ⊢;split at h
      · rw[AsV]at h
        obtain⟨v,hv,h⟩:=h;cases h;simp[AdG bs hv]
      · cases he
      · cases he
      · cases ht
      · cases ht
      · cases h
theorem ZY{orc:Orc}{r:AV}(bs:Ad)(h:Mu orc fr σ c=some r):Mu orc fr (σ++bs) c=some r:=by
 unfold Mu at h ⊢;split at h
 case h_2=>cases h
 rename_i f hf;split at h
 case h_2=>cases h
 rename_i fid hv;split at h
 case h_2=>cases h
 rename_i args ha;simp only[Qc (fun _ _=>Ahw bs) ha];exact h
theorem Aat{orc:Orc}(bs:Ad)(he:Ry E op=false)(h:Dg E orc op fr σ=some (x,σ')):Dg E orc op fr (σ++bs)=some (x,σ++bs):=by
  cases op with
  | call c=>
    simp only[Dg]at h ⊢;cases hc:c.callee<;>simp only[hc]at h ⊢
    case builtin b=>exact VA bs he h
    all_goals
      simp only[Ry,hc]at he;simp only[he,AtQ,AuH]at h ⊢;rw[AsV]at h;obtain⟨v,hv,h⟩:=h;cases h;simp[ZY bs hv]
  |_=>exact VA (fr:=fr) bs he h
theorem VV(ρ:Ad)(hf:(∃t n l,op=.buildSlice t n l)∨(∃s d x,op=.convert s d x∧EF E d=true)) (h:(Ff E fr σ op).bind (Jd σ)=some (y,σ')):(Ff E fr ρ op).bind (Jd ρ)=some (y,ρ):=by
  have last:∀(b:ABlk) (f:Bool) (t o l:Nat),Jd σ (.bs f σ.length t o l,σ++[b])=some (y,σ')→Jd ρ (.bs f ρ.length t o l,ρ++[b])=some (y,ρ):=by
    intro b f t o l h;unfold Jd at h ⊢;simp only[AuA,AsV,As4]at h ⊢;obtain⟨z,hz,rfl,rfl⟩:=h;refine⟨z,?_,rfl,trivial⟩;simp only[B3]at hz ⊢;rw[As0 (Atb _),AuQ]at hz ⊢;exact hz
  rcases hf with⟨t,n,l,rfl⟩|⟨s,d,x,rfl,hd⟩
  · simp only[Ff]at h ⊢
    unfold DL at h ⊢;cases ht:E.tab t with
    |none=>simp[ht]at h
    | some dd=>
      simp only[ht]at h ⊢;cases hdd:dd.desc<;>simp only[hdd]at h ⊢<;>try (simp at h;done)
      rename_i e;cases he:E.tab e with
      |none=>simp[he]at h
      | some de=>
        simp only[he]at h ⊢;split at h
        · simp at h
        rename_i hn;rw[AsX hn];split at h
        case h_2=>simp at h
        rename_i els hels;exact last _ _ _ _ _ h
  · simp only[Ff]at h ⊢
    unfold BR at h ⊢;unfold EF at hd;cases ht:E.tab d with
    |none=>simp[ht]at hd
    | some dd=>
      simp only[ht]at hd;cases hdd:dd.desc<;>simp only[hdd]at hd<;>try (cases hd;done)
      rename_i e;cases hs:E.tab s with
      |none=>simp[hs]at h
      | some sd=>
        simp only[hs,ht,hdd]at h ⊢;generalize ev fr x=xv at h ⊢;split at h
        case h_3=>
          rename_i e' l hx;cases hx;cases he:E.tab e with
          |none=>simp[he]at h
          | some de=>
            simp only[he]at h ⊢;cases hde:de.desc<;>simp only[hde]at h ⊢<;>try (simp at h;done)
            rename_i k;cases k<;>simp only at h ⊢<;>try (simp at h;done)
            exact last _ _ _ _ _ h
        case h_5=>
          exfalso;split at h
          case isFalse=>simp at h
          split at h
          case h_2=>simp at h
          split at h
          case h_2=>simp at h
          split at h
          case isFalse=>simp at h
          rename_i hid _;simp only[AsY,Jd]at h;split at h
          case isFalse=>cases h
          rename_i e2;have:=(AsT.1 hid).1;omega
        all_goals (exfalso;simp_all;done)
theorem Agt(bs:Ad)(hf:(∃t n l,op=.buildSlice t n l)∨(∃s d x,op=.convert s d x∧EF E d=true)) (h:(Ff E fr σ op).bind (Jd σ)=some (y,σ')):(Ff E fr (σ++bs) op).bind (Jd (σ++bs))=some (y,σ++bs):=VV _ hf h
theorem Ad4{orc:Option Tmp→Orc}(bs:Ad)(he:Ut E ops o=false)(h:EV E orc ops o fr σ=some (x,σ')):EV E orc ops o fr (σ++bs)=some (x,σ++bs):=by
 unfold EV at h ⊢;split at h
 ·rcases M6 he with hf|⟨hf,he⟩
  ·rw[hf]at h ⊢;have e:∀σ,G8 true σ=Jd σ:=fun σ=>by funext r;simp[G8]
   rw[e]at h ⊢
   have e2:∀σ,Dg E (orc o.dst) o.op fr σ=Ff E fr σ o.op:=by
    intro σ;rcases Es hf with⟨t,n,l,h⟩|⟨s,d,x,h,_⟩<;>rw[h]<;>rfl
   rw[e2]at h ⊢;exact Agt bs (Es hf) h
  ·rw[hf]at h ⊢;have e:∀σ,G8 false σ=some:=fun σ=>by funext r;simp[G8]
   rw[e]at h ⊢;rw[Bw]at h ⊢;exact Aat bs he h
 ·cases h;rfl
 ·cases h
def Ta:Op→Bool
 |.alloc _|.buildSlice ..=>true
 |_=>false
theorem Aag{orc:Option Tmp→Orc}(ha:Ta o.op=true)(h:EV E orc ops o fr σ=some (x,σ')):∃bs,σ'=σ++bs:=by
 cases hf:FX E ops o
 case true=>exact⟨[],by rw[DP (by unfold Ut;rw[hf];simp) h];simp⟩
 unfold EV at h;rw[hf]at h;have e:∀σ,G8 false σ=some:=fun σ=>by funext r;simp[G8]
 rw[e,Bw]at h;split at h
 ·cases ho:o.op<;>simp only[ho,Ta]at ha h<;>try (cases ha;done)
  ·simp only[Dg,Ff]at h;split at h
   ·split at h
    ·cases h
    ·split at h
     ·cases h;exact⟨_,rfl⟩
     ·cases h;exact⟨_,rfl⟩
   ·cases h
  ·simp only[Dg,Ff]at h;unfold DL at h;split at h
   ·cases h
   split at h
   ·split at h
    ·split at h
     ·cases h
     ·split at h
      ·cases h;exact⟨_,rfl⟩
      ·cases h
    ·cases h
   ·cases h
 ·cases h;exact⟨[],by simp⟩
 ·cases h
def La:ABlk→ABlk
 |.box cs _=>.box cs false
 |.buf k els _=>.buf k els false
 |.obj o=>.obj o
 |.tb T l=>.tb T l
 |.mp es=>.mp es
 |.lp y N l ps a b=>.lp y N l ps a b
 |.gone=>.gone
theorem Gk:(σ.map La)[id]?=(σ[id]?).map La:=by simp
theorem Aam{d:TD}{a:AV}:loadA E (σ.map La) d a=loadA E σ d a:=by
 cases a<;>simp only[loadA,Gk]
 case ref id off=>cases σ[id]? with
  |none=>rfl
  |some b=>cases b<;>rfl
 case eref id tot i j=>cases σ[id]? with
  |none=>rfl
  |some b=>cases b<;>rfl
theorem VF{tot:Nat}:Acp (σ.map La) id tot=Acp σ id tot:=by
 simp only[Acp,Gk];cases σ[id]? with
 |none=>rfl
 |some b=>cases b<;>rfl
theorem Ab3:Hd (σ.map La) x=Hd σ x:=by
 cases x<;>simp only[Hd,Gk]
 case bs full id tot off len=>cases σ[id]? with
  |none=>rfl
  |some b=>cases b<;>rfl
theorem AdT:Ab5 E (σ.map La) t x=Ab5 E σ t x:=by
  unfold Ab5;cases E.tab t with
  |none=>rfl
  | some d=>
    obtain⟨desc,sz,bt,z⟩:=d;cases x with
    | bs full id tot off len=>
      cases desc<;>try rfl
      simp only[Gk];cases σ[id]? with
      |none=>rfl
      |some b=>cases b<;>rfl
    |_=>cases desc<;>rfl
theorem O4{f:Nat}:BB E (σ.map La) s x f=BB E σ s x f:=by
 unfold BB;simp only[VF]
theorem PL{i:AV}:Az E (σ.map La) t x i=Az E σ t x i:=by
  unfold Az;cases E.tab t with
  |none=>rfl
  | some d=>
    obtain⟨desc,sz,bt,z⟩:=d;cases desc<;>dsimp only<;>try (first|rfl|(simp only[VF];done))
    rename_i e;generalize E.tab e=te;cases te with
    |none=>cases x<;>rfl
    | some de=>
      cases x<;>try rfl
      rename_i full id tot off len;dsimp only;simp only[Gk];cases σ[id]? with
      |none=>rfl
      |some b=>cases b<;>cases idx i len<;>rfl
theorem Yn{σ: Ad}{lo hi mx:Option AV}(he:Nh E t=false):(HK E (σ.map La) t x lo hi mx).map (·.1)=(HK E σ t x lo hi mx).map (·.1):=by
  unfold HK;unfold Nh at he;cases ht:E.tab t with
  |none=>rfl
  | some d=>
    rw[ht]at he;obtain⟨desc,sz,bt,z⟩:=d;cases desc<;>dsimp only at he ⊢<;>try (first|rfl|(cases he;done))
    · cases x<;>dsimp only<;>try rfl
      split<;>try rfl
      split<;>rfl
    · rename_i e
      cases x<;>dsimp only<;>try rfl
      · split<;>try rfl
        split<;>rfl
      · rename_i full id tot off len
        simp only[Gk];cases σ[id]? with
        |none=>rfl
        | some b=>
          cases b with
          |box=>rfl
          |obj o=>rfl
          |mp es=>rfl
          |lp y N1 l1 ps as1 bd=>rfl
          |gone=>rfl
          |tb T l=>rfl
          | buf k els ro=>
            simp only[AtC,La];generalize E.tab e=te;cases te with
            |none=>rfl
            | some de=>
              dsimp only;split<;>try rfl
              split<;>rfl
theorem Ti{d:TypeId}(he:EF E d=false):(BR E (σ.map La) s d x).map (·.1)=(BR E σ s d x).map (·.1):=by
  unfold BR;unfold EF at he;cases hs:E.tab s with
  |none=>rfl
  | some sd=>
    cases hd:E.tab d with
    |none=>rfl
    | some dd=>
      simp only[hd]at he ⊢;cases hdd:dd.desc<;>simp only[hdd]at he ⊢<;>try (first|rfl|(cases he;done))
      · cases x<;>first|rfl|(cases sd.desc<;>rfl)
      · cases x<;>cases sd.desc<;>try rfl
        all_goals
          simp only[Ab3];split<;>try rfl
          split<;>try rfl
          split<;>try rfl
          split<;>rfl
theorem Ot:B3 (σ.map La) x=B3 σ x:=by
 cases x<;>simp only[B3,Gk]
 case bs full id tot off len=>cases σ[id]? with
  |none=>rfl
  |some b=>cases b<;>rfl
theorem AiP:fz (σ.map La) x=fz σ x:=by
 cases x<;>simp only[fz,Ot];rename_i cs;congr 1;have:B3 (σ.map La)=B3 σ:=funext fun x=>Ot
 rw[this]
theorem Aah{orc:Orc}:Mu orc fr (σ.map La) c=Mu orc fr σ c:=by
 unfold Mu;have:fz (σ.map La)=fz σ:=funext fun x=>AiP
 rw[this]
theorem Vi{k:AV}{ok:Bool}:FU E (σ.map La) t x k ok=FU E σ t x k ok:=by
  cases x with
  | mref id=>
    simp only[FU,Gk];cases σ[id]? with
    |none=>rfl
    | some b=>
      cases b with
      |obj o=>rfl
      |mp es=>rfl
      |lp y N1 l1 ps as1 bd=>rfl
      |gone=>rfl
      |tb T l=>rfl
      |box cs ro=>cases ok<;>cases k<;>first|rfl|(cases Xw E t with|none=>rfl|some d=>cases d<;>rfl)
      |buf n els ro=>cases ok<;>cases k<;>first|rfl|(cases Xw E t with|none=>rfl|some d=>cases d<;>rfl)
  |_=>rfl
theorem VG(he:Ry E op=false):(Ff E fr (σ.map La) op).map (·.1)=(Ff E fr σ op).map (·.1):=by
  cases ht:Ht E op with
  | false=>
    rw[HI (σ:=σ) ht];cases Ff E fr σ op<;>rfl
  | true=>
    cases op<;>simp only[Ht,Ry]at ht he<;>try (cases ht;done)
    all_goals try (cases he;done)
    case load t y=>
      simp only[Ff,Aam];split<;>simp only[Aua]<;>rfl
    case convert s d y=>exact Ti he
    case slice t y lo hi mx=>exact Yn he
    case lookup t y z ok=>simp only[Ff,Vi,Aua];rfl
    case fieldAddr s y f=>
      simp only[Ff,O4,Aua];rfl
    case indexAddr t y i=>
      simp only[Ff,PL,Aua];rfl
    case call c=>
      simp only[Ff];cases hc:c.callee<;>simp only[hc]at ht he ⊢<;>try rfl
      rename_i b;cases b<;>simp only at ht he<;>try (first|(cases ht;done)|(cases he;done))
      unfold Bp;split<;>first|rfl|(simp only[AdT,Aua];rfl)|(exfalso;simp_all;done)
theorem Ss{orc:Orc}(he:Ry E op=false):(Dg E orc op fr (σ.map La)).map (·.1)=(Dg E orc op fr σ).map (·.1):=by
  cases op with
  | call c=>
    simp only[Dg];cases hc:c.callee<;>simp only[]
    case builtin b=>exact VG he
    all_goals
      simp only[Ry,hc]at he;simp only[he,AtQ,AuH,Aah,Aua];rfl
  |_=>exact VG (fr:=fr) (σ:=σ) he
theorem Vv{orc:Option Tmp→Orc}{ρ:Ad}(hρ:σ.map La=ρ.map La)(he:Ut E ops o=false)(h:EV E orc ops o fr σ=some (x,σ')):EV E orc ops o fr ρ=some (x,ρ):=by
 unfold EV at h ⊢;split at h
 ·rcases M6 he with hf|⟨hf,he⟩
  ·rw[hf]at h ⊢;have e:∀σ,G8 true σ=Jd σ:=fun σ=>by funext r;simp[G8]
   rw[e]at h ⊢
   have e2:∀σ,Dg E (orc o.dst) o.op fr σ=Ff E fr σ o.op:=by
    intro σ;rcases Es hf with⟨t,n,l,h⟩|⟨s,d,x,h,_⟩<;>rw[h]<;>rfl
   rw[e2]at h ⊢;exact VV ρ (Es hf) h
  ·rw[hf]at h ⊢;have e:∀σ,G8 false σ=some:=fun σ=>by funext r;simp[G8]
   rw[e]at h ⊢;rw[Bw]at h ⊢;have h1:=Ss (E:=E) (orc:=orc o.dst) (fr:=fr) (σ:=σ) he;have h2:=Ss (E:=E) (orc:=orc o.dst) (fr:=fr) (σ:=ρ) he;rw[hρ,h2,h]at h1;simp only[AtC]at h1;rw[AsV]at h1;obtain⟨⟨y,ρ'⟩,h3,h4⟩:=h1;simp only at h4;subst h4;rw[h3,Oz he h3]
 ·cases h;rfl
 ·cases h
def JQ(E:Env):Op→Bool
 |.slice t ..=>Nh E t
 |_=>false
theorem U3{orc:Option Tmp→Orc}(ha:JQ E o.op=true)(h:EV E orc ops o fr σ=some (x,σ')):σ.map La=σ'.map La:=by
 have hf:FX E ops o=false:=by
  cases hf:FX E ops o
  ·rfl
  ·rcases Es hf with⟨t,n,l,h⟩|⟨s,d,x,h,_⟩<;>rw[h]at ha<;>cases ha
 unfold EV at h;rw[hf]at h;have e:∀σ,G8 false σ=some:=fun σ=>by funext r;simp[G8]
 rw[e,Bw]at h;split at h
 ·cases ho:o.op<;>simp only[ho,JQ]at ha h<;>try (cases ha;done)
  simp only[Dg,Ff,HK]at h
  repeat' split at h
  all_goals try (cases h;done)
  all_goals try (cases h;rfl)
  all_goals try (
   generalize E.G _=gg at h;generalize E.tab _=tt at h;cases gg<;>cases tt<;>simp only at h<;>try (cases h;done)
   split at h
   ·split at h
    ·cases h;rfl
    ·cases h
   ·cases h
   done)
  cases h;rename_i hσ _ _ _ _ _;rw[AvI];refine(At2 fun i=>?_);rw[AtG];split
  ·rename_i hi;subst hi;simp only[At5];split
   ·rw[Gk,‹σ[_]?=some (ABlk.box _ _)›];rfl
   ·rename_i hn;exact absurd (by simpa using(AsT.1 ‹σ[_]?=some (ABlk.box _ _)›).1) hn
  ·rfl
 ·cases h;rfl
 ·cases h
def mkO(σ:Ad):Option Nat→Ad
 |none=>σ
 |some id=>C9 σ id
theorem UQ(σ:Ad)(a b:Nat):C9 (C9 σ a) b=C9 (C9 σ b) a:=by
 refine At2 fun i=>?_
 simp only[DG];by_cases h1:i=a
 ·by_cases h2:i=b
  ·subst h1;subst h2;rfl
  ·simp only[AsU h1,AsX h2]
 ·by_cases h2:i=b
  ·simp only[AsX h1,AsU h2]
  ·simp only[AsX h1,AsX h2]
theorem Afy(σ:Ad)(a b:Option Nat):mkO (mkO σ a) b=mkO (mkO σ b) a:=by
 cases a<;>cases b<;>first|rfl|exact UQ _ _ _
theorem MG{orc : Option Tmp→Orc}(ha:JQ E o.op=true)(h:EV E orc ops o fr σ=some (x,σ')) :∃m,σ'=mkO σ m∧∀ρ:Ad,ρ.map La=σ.map La→EV E orc ops o fr ρ=some (x,mkO ρ m):=by
  have hf:FX E ops o=false:=by
    cases hf:FX E ops o
    · rfl
    · rcases Es hf with⟨t,n,l,h⟩|⟨s,d,x,h,_⟩<;>rw[h]at ha<;>cases ha
  have e:∀σ,G8 false σ=some:=fun σ=>by funext r;simp[G8]
  unfold EV at h ⊢;rw[hf]at h ⊢;simp only[e,Bw]at h ⊢;split at h
  · cases ho:o.op<;>simp only[ho,JQ]at ha h<;>try (cases ha;done)
    rename_i t y lo hi mx;simp only[Dg,Ff]at h ⊢;unfold Nh at ha;cases ht:E.tab t with
    |none=>simp[ht]at ha
    | some d=>
      obtain⟨desc,sz,bt,z⟩:=d;rw[ht]at ha;cases desc<;>simp only at ha<;>try (cases ha;done)
      rename_i n e2;unfold HK at h ⊢;simp only[ht]at h ⊢;generalize ev fr y=yv at h ⊢;cases yv<;>simp only at h ⊢<;>try (cases h;done)
      case glob gi=>
        refine⟨none,?_,fun ρ _=>?_⟩
        · repeat' split at h
          all_goals try (cases h;done)
          all_goals (cases h;rfl)
        · repeat' split at h
          all_goals try (cases h;done)
          all_goals (cases h;simp_all [mkO])
      rename_i id off;cases hσ:σ[id]? with
      |none=>simp[hσ]at h
      | some b=>
        cases b with
        |buf=>simp[hσ]at h
        |obj o=>simp[hσ]at h
        |mp es=>simp[hσ]at h
        |lp y N1 l1 ps as1 bd=>simp[hσ]at h
        |gone=>simp[hσ]at h
        |tb T l=>simp[hσ]at h
        | box cs ro=>
          cases hte:E.tab e2 with
          |none=>simp[hσ,hte]at h
          | some de=>
            simp only[hσ,hte]at h;split at h
            case isFalse=>cases h
            rename_i hc;split at h
            case h_2=>cases h
            rename_i l h1 f1 hb;cases h;refine⟨some id,?_,fun ρ hρ=>?_⟩
            · show _=C9 σ id
              unfold C9;rw[hσ]
            · have h2:(ρ[id]?).map La=(σ[id]?).map La:=by rw[←Gk,←Gk,hρ]
              rw[hσ]at h2;cases hρ2:ρ[id]? with
              |none=>rw[hρ2]at h2;cases h2
              | some b2=>
                rw[hρ2]at h2;cases b2 with
                |buf=>cases h2
                |obj o=>cases h2
                |mp es=>cases h2
                |lp y N1 l1 ps as1 bd=>cases h2
                |gone=>cases h2
                |tb T l=>cases h2
                | box cs2 ro2=>
                  simp only[AtC,La,AsW,ABlk.box.injEq,Au9]at h2;subst h2;simp only[hρ2,hte,AsU hc,hb];show _=some (_,C9 ρ id);unfold C9;rw[hρ2]
  · cases h;exact⟨none,rfl,fun ρ _=>rfl⟩
  · cases h
def KJ(E:Env)(ops:Array Oper)(x y:Oper):Bool :=
 x.apart ops y&&((!(Ut E ops x&&Ht E y.op)&&!(Ut E ops y&&Ht E x.op))||(Ta y.op&&!Ut E ops x)||(JQ E y.op&&!Ut E ops x)||(JQ E x.op&&!Ut E ops y)||(JQ E x.op&&JQ E y.op))
theorem Uu(h:Ht E op=false):Ry E op=false:=by
 cases op<;>simp only[Ht,Ry]at h ⊢<;>try (first|assumption|(cases h;done))
 case call c=>
  cases hc:c.callee<;>rw[hc]at h<;>try (cases h;done)
  rename_i b;cases b<;>first|rfl|(cases h;done)
theorem S9(h:Ht E o.op=false):Ut E ops o=false:=by
 unfold Ut;rw[Uu h];rfl
theorem K3{orc:Option Tmp→Orc}{x y:Oper}{st1 st2:St}(hc:KJ E ops x y=true)(h1:CW E orc ops x st=some st1)(h2:CW E orc ops y st1=some st2) :∃st3,CW E orc ops y st=some st3∧CW E orc ops x st3=some st2:=by
  simp only[KJ,Ata,Atv,Aum,Auj]at hc;obtain⟨hap,hcase⟩:=hc;obtain⟨a1,a2,a3⟩:=Oper.apart_spec hap;unfold CW at h1 h2 ⊢;rw[AsV]at h1 h2;obtain⟨⟨v,σ1⟩,hv,rfl⟩:=h1;obtain⟨⟨u,σ2⟩,hu,rfl⟩:=h2;simp only at hu ⊢;rw[BN a1]at hu
  have fin:∀σ3,EV E orc ops y st.fr st.σ=some (u,σ3)→EV E orc ops x st.fr σ3=some (v,σ2) →
      ∃st3,(EV E orc ops y st.fr st.σ).map (fun r=>(⟨AY st.fr y.dst r.1,r.2⟩:St))=some st3∧(EV E orc ops x st3.fr st3.σ).map (fun r=>(⟨AY st3.fr x.dst r.1,r.2⟩:St))=some ⟨AY (AY st.fr x.dst v) y.dst u,σ2⟩:=by
    intro σ3 hy hx;refine⟨⟨AY st.fr y.dst u,σ3⟩,by rw[hy];rfl,?_⟩;simp only;rw[BN a3,hx];simp only[AtC,Eh st.fr v u a2]
  rcases hcase with(((⟨e1,e2⟩|⟨hal,ex⟩)|⟨hal,ex⟩)|⟨hal,ey⟩)|⟨hax,hay⟩
  case inr=>
    obtain⟨m,rfl,_⟩:=MG hax hv
    have hun:∀(σ:Ad) (m:Option Nat),(mkO σ m).map La=σ.map La:=by
      intro σ m;cases m with
      |none=>rfl
      | some id=>
        refine At2 fun i=>?_
        rw[Gk,Gk];show((C9 σ id)[i]?).map La=_;rw[DG];split
        · cases σ[i]? with
          |none=>rfl
          |some b=>cases b<;>rfl
        · rfl
    obtain⟨m2,rfl,h2⟩:=MG hay hu;obtain⟨m1,e1,h1⟩:=MG hax hv;refine fin (mkO st.σ m2) (h2 st.σ (hun _ _).symm) ?_;rw[h1 _ (hun _ _),e1,Afy]
  case inl.inl.inr=>
    obtain rfl:=DP ex hv;exact fin _ hu (Vv (U3 hal hu) ex hv)
  case inl.inr=>
    obtain rfl:=DP ey hu;exact fin _ (Vv (U3 hal hv).symm ey hu) hv
  case inl.inl.inl.inr=>
    obtain rfl:=DP ex hv;obtain⟨bs,rfl⟩:=Aag hal hu;exact fin _ hu (Ad4 bs ex hv)
  rcases e1 with ex|ty
  · obtain rfl:=DP ex hv
    rcases e2 with ey|tx
    · obtain rfl:=DP ey hu
      exact fin _ hu hv
    · refine fin _ hu ?_
      rw[Nz (σ:=st.σ) tx,hv];rfl
  · have ey:Ut E ops y=false:=S9 ty
    obtain rfl:=DP ey hu;rw[Nz (σ:=st.σ) ty,AsV]at hu;obtain⟨⟨u',σ'⟩,hy,he⟩:=hu;simp only[As4]at he;obtain⟨rfl,_⟩:=he;obtain rfl:=DP ey hy;exact fin _ hy hv
def Q9(B:Base)(orc:Orc):Prop:=(∀f args r,orc.fz f args=some r→Con B f args [] (fun r' σ'=>r'=r∧σ'=[])) ∧
 ∀f args σ r σ',orc.own f args σ=some (r,σ')→∀F:Addr→Prop,VR (B.env F) f args σ r σ'
theorem Ahl{orc:Orc}(hO:Q9 E.toBase orc)(hop:o.op=.call c)(h:Ahh orc st.fr st.σ c=some r) {a:Act} {w:World} {g:Gh} (hr:Rel E w g st a) {next:Act→World→Prop} {Q:Exit→Act→World→Prop} (hk:∀a' w' g',Rel E w' g' ⟨AY st.fr o.dst r.1,r.2⟩ a'→Evo E 0 w g w' g'→GLe g g'→next a' w'):o.wp E.P a w next Q:=by
 unfold Ahh at h;split at h
 case h_2=>cases h
 rename_i f hc;split at h
 case h_2=>cases h
 rename_i fid hf;exact Ye hop hc hf (XX (hO.2 _ _ _ r.1 r.2 h E.F)) hr hk
theorem Afu(hE:E.Ok){orc:Orc}(hO:Q9 E.toBase orc)(h:Dg E orc o.op st.fr st.σ=some r) {a:Act} {w:World} {g:Gh} (hr:Rel E w g st a) {next:Act→World→Prop} {Q:Exit→Act→World→Prop} (hk:∀a' w' g',Rel E w' g' ⟨AY st.fr o.dst r.1,r.2⟩ a'→Evo E 0 w g w' g'→GLe g g'→next a' w'):o.wp E.P a w next Q:=by
  have plain:Ff E st.fr st.σ o.op=some r→o.wp E.P a w next Q:=by
    intro h;obtain⟨v,w',g',h1,h2,h3,h4,h5⟩:=Nf (x:=r.1) (σ':=r.2) hE hr h;unfold Oper.wp;exact TN h1 (hk _ w' g' (Gq (JV hr h2 h3 h4) o.dst h5) h4 h3)
  cases hop:o.op with
  | call c=>
    simp only[hop,Dg]at h;cases hc:c.callee<;>simp only[hc]at h
    case builtin b=>exact plain (by rw[hop];exact h)
    all_goals (split at h;· exact Ahl hO hop h hr hk)
    all_goals try (simp[Mu,hc]at h;done)
    rename_i f _;rw[AsV]at h;obtain⟨r1,h,rfl⟩:=h;unfold Mu at h;simp only[hc]at h;split at h
    case h_2=>cases h
    rename_i fid hf;split at h
    case h_2=>cases h
    rename_i args ha;split at h
    case h_2=>cases h
    rename_i r2 ho;split at h
    case isFalse=>cases h
    rename_i hs;cases h;rcases hs with hs|hs
    · exact KP hop hc hf ha hs ((hO.1 _ _ _ ho).mono fun _ _ h=>h.1) hr hk
    · refine HP hop hc hf ha (hO.1 _ _ _ ho) hr ?_
      rw[hs];exact hk
  |_=>exact plain (by rw[hop];simp only[hop]at h;exact h)
theorem AmU(hE:E.Ok)(hf:(∃t n l,o.op=.buildSlice t n l)∨(∃s d x,o.op=.convert s d x∧EF E d=true)) (h:(Ff E st.fr st.σ o.op).bind (Jd st.σ)=some r) {a:Act} {w:World} {g:Gh} (hr:Rel E w g st a) {next:Act→World→Prop} {Q:Exit→Act→World→Prop} (hk:∀a' w' g',Rel E w' g' ⟨AY st.fr o.dst r.1,r.2⟩ a'→Evo E 0 w g w' g'→GLe g g'→next a' w'):o.wp E.P a w next Q:=by
 rw[As6]at h;obtain⟨⟨x,σ'⟩,h1,h2⟩:=h;obtain⟨y,σ2⟩:=r
 have hp:∃bs,σ'=st.σ++bs:=by
  rcases hf with⟨t,n,l,e⟩|⟨s,d,z,e,_⟩
  ·rw[e]at h1;simp only[Ff,DL]at h1
   repeat' split at h1
   all_goals try (cases h1;done)
   cases h1;exact⟨_,rfl⟩
  ·rw[e]at h1;simp only[Ff,BR]at h1
   repeat' split at h1
   all_goals try (cases h1;done)
   all_goals (cases h1;first|exact⟨_,rfl⟩|exact⟨[],by simp⟩)
 obtain⟨v,w',g',k1,k2,k3,k4,k5⟩:=Nf (x:=x) (σ':=σ') hE hr h1;obtain⟨rfl,m2,m3,m4,m5⟩:=Xd hr.mem hp h2 k2 k3 k4 k5;unfold Oper.wp;exact TN k1 (hk _ w' _ (Gq (JV hr m2 m3 m4) o.dst m5) m4 m3)
theorem Acw(hE:E.Ok){orc:Option Tmp→Orc}(hO:∀d,Q9 E.toBase (orc d))(h:(Dg E (orc o.dst) o.op st.fr st.σ).bind (G8 (FX E ops o) st.σ)=some r) {a:Act} {w:World} {g:Gh} (hr:Rel E w g st a) {next:Act→World→Prop} {Q:Exit→Act→World→Prop} (hk:∀a' w' g',Rel E w' g' ⟨AY st.fr o.dst r.1,r.2⟩ a'→Evo E 0 w g w' g'→GLe g g'→next a' w'):o.wp E.P a w next Q:=by
  cases hf:FX E ops o with
  | true=>
    have e:∀σ,G8 true σ=Jd σ:=fun σ=>by funext r;simp[G8]
    have e2:Dg E (orc o.dst) o.op st.fr st.σ=Ff E st.fr st.σ o.op:=by
      rcases Es hf with⟨t,n,l,h⟩|⟨s,d,x,h,_⟩<;>rw[h]<;>rfl
    rw[hf,e,e2]at h;exact AmU hE (Es hf) h hr hk
  | false=>
    have e:∀σ,G8 false σ=some:=fun σ=>by funext r;simp[G8]
    rw[hf,e,Bw]at h;exact Afu hE (hO _) h hr hk
theorem NV(hE:E.Ok){orc:Option Tmp→Orc}(hO:∀d,Q9 E.toBase (orc d))(hi:ops[i]?=some o)(h:CW E orc ops o st=some st') {a:Act} {w:World} {g:Gh} (hr:Rel E w g st a) {next:Act→World→Prop} {Q:Exit→Act→World→Prop} (hk:∀a' w' g',Rel E w' g' st' a'→Evo E 0 w g w' g'→GLe g g'→next a' w'):wpOp E.P ops Q i next a w:=by
  unfold CW at h;rw[AsV]at h;obtain⟨⟨x,σ'⟩,hv,rfl⟩:=h;unfold wpOp;simp only[hi];unfold EV Ke at hv;cases hg:o.guard with
  | none=>
    simp only[hg]at hv;simp only[Region.wanted,hg,AuA];exact .inl (Acw hE hO hv hr hk)
  | some p=>
    obtain⟨j,want⟩:=p;simp only[hg]at hv;cases hy:Mb ops st.fr j with
    |none=>simp[hy]at hv
    | some b=>
      simp only[Region.wanted,hg,JI hr hy];simp only[hy,AtC]at hv;by_cases e:b=some want
      · rw[AsU (by simp[e])]
        rw[show(b==some want)=true by simp[e]]at hv;exact .inl (Acw hE hO hv hr hk)
      · rw[AsX (by simp[e])]
        rw[show(b==some want)=false by simp[e]]at hv;cases hv;exact hk _ w g (Gq hr o.dst (OZ _ _ _)) (Evo.refl _ _ _ _) (GLe.refl _)
def ES(ops:Array Oper)(i:Nat):List Nat:=match ops[i]? with
 |some o=>(o.after.toList.filter (Region.binds .any)).map (·.on)
 |none=>[]
def Gc(ops:Array Oper)(T:List (List Nat)):Bool :=
 (List.range ops.size).all fun i=>(ES ops i).all (·<i)&&(T.getD i []).all fun j=>(ES ops i).contains j||(ES ops i).any fun k=>(T.getD k []).contains j
def Ik(E:Env)(ops:Array Oper)(T:List (List Nat)):Bool :=
 (List.range ops.size).all fun i=>(List.range i).all fun j=>(T.getD i []).contains j||(match ops[j]?,ops[i]? with
  |some x,some y=>KJ E ops x y
  |_,_=>false)
theorem GI{orc:Option Tmp→Orc}{ops:Array Oper}{i:Nat}{y:Oper}(hi:ops[i]?=some y){l2:List Nat}{st':St}:∀(l1:List Nat) (st:St),(∀j∈l1,∀x,ops[j]?=some x→KJ E ops x y=true)→BC E orc ops (l1++i::l2) st=some st' →∃st1,CW E orc ops y st=some st1∧BC E orc ops (l1++l2) st1=some st'
  | [],st,_,h=>by
    simp only[AtH,BC,hi]at h;rw[As6]at h;exact h
  | j :: l1,st,hc,h=>by
    simp only[Atj,BC]at h;cases hj:ops[j]? with
    |none=>simp[hj]at h
    | some x=>
      simp only[hj]at h;rw[As6]at h;obtain⟨s1,h1,h⟩:=h;obtain⟨s2,h2,h⟩:=GI hi l1 s1 (fun k hk=>hc k (AtO _ hk)) h;obtain⟨s3,h3,h4⟩:=K3 (hc j Ath x hj) h1 h2;refine⟨s3,h3,?_⟩;simp only[Atj,BC,hj,h4,AsY];exact h
theorem A6{p:Nat→Bool}(h:(List.range n).all p=true)(hi:i<n):p i=true :=
 Atc.1 h i (AtR.2 hi)
theorem DH(h:Gc ops T=true)(hi:i<ops.size){d:Nat}(hd:d∈ES ops i):d<i:=by
 have:=A6 h hi;simp only[Ata,Atc,Atg]at this;exact this.1 d hd
theorem Fk(h:Gc ops T=true){rem:List Nat} (hdown:∀k,k<ops.size→k ∉ rem→∀d∈ES ops k,d ∉ rem):∀(i:Nat),i<ops.size→(∀d∈ES ops i,d ∉ rem)→∀j∈T.getD i [],j ∉ rem:=by
  intro i
  induction i using Nat.strongRecOn with
  | _ i ih=>
    intro hi hd j hj;have hh:=A6 h hi;simp only[Ata,Atc,Atv,Atm,List.any_eq_true,Atg]at hh;rcases hh.2 j hj with hj|⟨k,hk,hkj⟩
    · exact hd j hj
    · have hki:=hh.1 k hk
      have hks:=AuG hki hi;exact ih k hki hks (hdown k hks (hd k hk)) j hkj
theorem Fv(hi:ops[i]?=some o){d:Nat}:d∈ES ops i↔∃e∈o.after,Region.binds .any e=true∧e.on=d:=by
 simp only[ES,hi,Aud,List.mem_filter,Array.mem_toList_iff];constructor
 ·rintro⟨e,⟨h1,h2⟩,h3⟩;exact⟨e,h1,h2,h3⟩
 ·rintro⟨e,h1,h2,h3⟩;exact⟨e,⟨h1,h2⟩,h3⟩
theorem AaV(hE:E.Ok){orc:Option Tmp→Orc}(hO:∀d,Q9 E.toBase (orc d))(hc:Gc ops T=true)(hm:Ik E ops T=true){Q:Exit→Act→World→Prop} :∀ (fuel:Nat) (rem:List Nat) (listed:Array Bool) (st:St) (a:Act) (w:World) (g:Gh),rem.length=fuel→rem.Pairwise (·<·)→listed.size=ops.size →(∀j,listed.getD j true=false↔j∈rem)→(∀k,k<ops.size→k ∉ rem→∀d∈ES ops k,d ∉ rem) →BC E orc ops rem st=some st'→Rel E w g st a→(∀a' w' g',Rel E w' g' st' a'→Evo E 0 w g w' g'→GLe g g'→Q .normal a' w') →wpAny E.P .any ops Q fuel listed a w:=by
  have hin:∀(rem:List Nat) (listed:Array Bool),listed.size=ops.size→(∀j,listed.getD j true=false↔j∈rem)→∀j∈rem,j<ops.size:=by
    intro rem listed hs hl j hj;have:=(hl j).2 hj;by_cases e:j<listed.size
    · omega
    · simp[Array.getD,e]at this
  have hgd:∀(rem:List Nat) (listed:Array Bool),listed.size=ops.size→(∀j,listed.getD j true=false↔j∈rem)→∀d,d<ops.size→(listed.getD d false=true↔d ∉ rem):=by
    intro rem listed hs hl d hd
    have h1:listed.getD d false=listed.getD d true:=by
      have:d<listed.size:=by omega
      simp[Array.getD,this]
    rw[h1,←hl d];cases listed.getD d true<;>simp
  have hrd:∀(rem:List Nat) (listed:Array Bool),listed.size=ops.size→(∀j,listed.getD j true=false↔j∈rem)→∀i,
      (i∈Region.ready .any ops listed↔i∈rem∧∀d∈ES ops i,d ∉ rem):=by
    intro rem listed hs hl i;rw[mem_ready,hl i];constructor
    · rintro⟨h1,o,ho,h2⟩
      refine⟨h1,fun d hd=>?_⟩;have hlt:=DH hc (hin rem listed hs hl i h1) hd;have hds:=AuG hlt (hin rem listed hs hl i h1);obtain⟨e,he,hb,rfl⟩:=(Fv ho).1 hd;exact(hgd rem listed hs hl _ hds).1 (h2 e he hb)
    · rintro⟨h1,h2⟩
      have hi:=hin rem listed hs hl i h1;refine⟨h1,ops[i],Atd hi,fun e he hb=>?_⟩;have hd:e.on∈ES ops i:=(Fv (Atd hi)).2 ⟨e,he,hb,rfl⟩;exact(hgd rem listed hs hl _ (AuG (DH hc hi hd) hi)).2 (h2 _ hd)
  have hdone:∀(rem:List Nat) (listed:Array Bool),rem.Pairwise (·<·)→listed.size=ops.size→(∀j,listed.getD j true=false↔j∈rem)→Region.ready .any ops listed=[]→rem=[]:=by
    intro rem listed hp hs hl hr;cases rem with
    |nil=>rfl
    | cons i r=>
      have hi:i∈Region.ready .any ops listed:=(hrd _ listed hs hl i).2 ⟨Ath,fun d hd hm=>by
        have:=DH hc (hin _ listed hs hl i Ath) hd;rcases Atu.1 hm with rfl|hm
        · omega
        · have:=Att hp hm
          omega⟩
      rw[hr]at hi;cases hi
  intro fuel
  induction fuel with
  | zero=>
    intro rem listed st a w g hf hp hs hl hd hst hr hq;have:rem=[]:=Atl.1 hf;subst this;simp only[BC,AsW]at hst;subst hst;refine⟨?_,hq a w g hr (Evo.refl _ _ _ _) (GLe.refl _)⟩;rw[Aue];intro i hi;have:=((hrd _ listed hs hl i).1 hi).1;cases this
  | succ fuel ih=>
    intro rem listed st a w g hf hp hs hl hd hst hr hq;refine⟨fun h=>?_,fun i hi=>?_⟩
    · have:=hdone rem listed hp hs hl h
      subst this;simp at hf
    · obtain⟨hir,hid⟩:=(hrd rem listed hs hl i).1 hi
      have his:=hin rem listed hs hl i hir;obtain⟨l1,l2,rfl⟩:=Avk hir;have hp':=hp;rw[Ats]at hp';obtain⟨p1,p2,p3⟩:=hp'
      have hnd:∀j∈l1++l2,j≠i:=by
        intro j hj;rcases Atk.1 hj with hj|hj
        · have:=p3 j hj i Ath;omega
        · have:=Att p2 hj;omega
      have hmem:∀j,j∈l1++l2↔j∈l1++i::l2∧j≠i:=by
        intro j;constructor
        · intro hj
          refine⟨?_,hnd j hj⟩;simp only[Atk,Atu]at hj ⊢;rcases hj with hj|hj
          · exact .inl hj
          · exact .inr (.inr hj)
        · rintro⟨hj,hne⟩
          simp only[Atk,Atu]at hj ⊢;rcases hj with hj|hj|hj
          · exact .inl hj
          · exact(hne hj).elim
          · exact .inr hj
      have hcm:∀j∈l1,∀x,ops[j]?=some x→KJ E ops x ops[i]=true:=by
        intro j hj x hx;have hji:j<i:=p3 j hj i Ath;have h1:=A6 (A6 hm his) hji;simp only[Atv,Atm]at h1;rcases h1 with h1|h1
        · exact(Fk hc hd i his hid j h1 (At6 _ hj)).elim
        · simp only[hx,Atd his]at h1
          exact h1
      obtain⟨st1,h1,h2⟩:=GI (Atd his) l1 st hcm hst;refine NV hE hO (Atd his) h1 hr fun a1 w1 g1 hr1 he1 hg1=>?_
      refine ih (l1++l2) (listed.setIfInBounds i true) st1 a1 w1 g1 ?_ ?_ ?_ ?_ ?_ h2 hr1 ?_
      · simp at hf ⊢;omega
      · exact hp.sublist (AuP (AuY i l2) l1)
      · simp[hs]
      · intro j
        rw[hmem j,←hl j];by_cases e:j=i
        · subst e
          have:j<listed.size:=by omega
          simp[Array.getD,this]
        · rw[getD_set_ne true (fun h=>e h.symm)]
          simp[e]
      · intro k hk hkn d hdk hdm
        have hd2:=((hmem d).1 hdm).1;by_cases e:k=i
        · subst e
          exact hid d hdk hd2
        · exact hd k hk (fun h=>hkn ((hmem k).2 ⟨h,e⟩)) d hdk hd2
      · intro a' w' g' hr' he' hg'
        exact hq a' w' g' hr' (he1.trans he') (hg1.trans hg')
theorem K7{w':World}{a:Act}(hr:Rel E w g st a)(h:SameMem w w'):Rel E w' g st a :=
 ⟨hr.size,fun t x hx=>SV h (hr.slot t x hx),hr.mem.same h,hr.defers.evo (n:=0) (Evo.same h)⟩
theorem OX(hE:E.Ok){orc:Option Tmp→Orc}(hO:∀d,Q9 E.toBase (orc d))(hP:E.P.follows .mixedOrders=true){l:List Oper}(T:List (List Nat))(hok1:Gc l.toArray T=true)(hok2:Ik E l.toArray T=true){K:DB} (hst:BC E orc l.toArray (List.range l.length) st=some st') (hk:K .normal st'):Run E n (.region id l.toArray true) st K:=by
 intro hcm a w g hr Q hq;refine K4 (Lg hcm) (wp_region_any hP ?_);have hsm:SameMem w { w with drawn:=w.drawn+1 }:=⟨rfl,rfl,rfl,rfl⟩;refine AaV hE hO hok1 hok2 l.toArray.size (List.range l.length) _ st a _ g (by simp) Aus (by simp) ?_ ?_ hst (K7 hr hsm) ?_
 ·intro j;rw[AtR];by_cases h:j<l.length<;>simp[Array.getD,h]
 ·intro k hk hkn;exact(hkn (AtR.2 (by simpa using hk))).elim
 ·intro a' w' g' hr' he hg;exact hq _ _ _ _ _ hk hr' ((Evo.same hsm).trans (he.of_gle hg))
end Go.Rv
