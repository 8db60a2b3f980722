/-
  Part 16.
-/
import Derived.Test.YtioapcamanmoiaaDoorYF15
import Derived.Orders
namespace Go.Rv
set_option linter.unusedVariables false
set_option linter.unusedSimpArgs false
variable{w:World}{g:Gh}{v x y:AV}{σ σ' σ2:Al}{fr fr':List AV}{op:Op}{d:Option Tmp}{c:Call}{ops:Array Oper}{o:Oper}{t s:TypeId}{r:AV×Al}{id n i:Nat}{st st':St}{T:List (List Nat)}
variable {E:Env}
structure Orc where
  fz:FuncId→List AV→Option AV
  own:FuncId→List AV→Al→Option (AV×Al)
def OQ(E:Env)(c:Call):Bool:=match c.callee with
 |.value (.func f)=>E.own f c.args.toList
 |_=>false
def Abl(orc:Orc)(fr:List AV)(σ:Al)(c:Call):Option (AV×Al) :=
 match c.callee with
 |.value f=>match ev fr f with
  |.fn fid []=>orc.own fid (c.args.toList.map (ev fr)) σ
  |_=>none
 |_=>none
def K8(orc:Orc)(fr:List AV)(σ:Al)(c:Call):Option AV :=
 match c.callee with
 | .value f=>match ev fr f with
  | .fn fid []=>match(c.args.toList.map (ev fr)).mapM (fz σ)with
   |some args=>match orc.fz fid args with
    |some r=>if r.scalar=true∨(c.args.toList.map (ev fr)).flatMap BD=[]then some r else none
    |none=>none
   |none=>none
  |_=>none
 |_=>none
def CG(E:Env)(orc:Orc)(op:Op)(fr:List AV)(σ:Al):Option (AV×Al) :=
 match op with
 |.call c=>match c.callee with
  |.builtin _=>Ei E fr σ op
  |_=>if OQ E c=true then Abl orc fr σ c else(K8 orc fr σ c).map fun r=>(r,σ)
 |op=>Ei E fr σ op
theorem MR{pr:Addr→Prop}{v:Value}(h:Rep w pr g v x):x.under g.length=true:=by
  induction h with
  |bs g v full id tot off len b hb hx ht h ho=>simpa [AV.under]using(AkN.1 hb).1
  |ref g id off β b hb hx hβ=>simpa [AV.under]using(AkN.1 hb).1
  |tref g id t β b hb hx hβ ht=>simpa [AV.under]using(AkN.1 hb).1
  |mref g id β b hb hx hβ=>simpa [AV.under]using(AkN.1 hb).1
  |yld g id β b hb hx hβ=>simpa [AV.under]using(AkN.1 hb).1
  |nref g v id b hb hx h=>simpa [AV.under]using(AkN.1 hb).1
  |eref g v id tot i j b hb hx ht h ho=>simpa [AV.under]using(AkN.1 hb).1
  | agg g vs cs hs ho hr ih=>
    simp only[AV.under,Ak4];rintro⟨x,hx⟩ _;obtain⟨i,hi⟩:=AlR.1 hx;exact ih i x hi
  | tup g vs cs hs hr ih=>
    simp only[AV.under,Ak4];rintro⟨x,hx⟩ _;obtain⟨i,hi⟩:=AlR.1 hx;exact ih i x hi
  | fn g f caps cs hs hr hn ih=>
    simp only[AV.under,Ak4];rintro⟨x,hx⟩ _;obtain⟨i,hi⟩:=AlR.1 hx;exact ih i x hi
  | fnb g f fs cs hs hr ih=>
    simp only[AV.under,Ak4];rintro⟨x,hx⟩ _;rw[Amc]at hx;subst hx;simp only[AV.under,Ak4];rintro⟨y,hy⟩ _;obtain⟨i,hi⟩:=AlR.1 hy;exact ih i y hi
  |iface g t v x hr ih=>simpa [AV.under]using ih
  |_=>simp[AV.under]
theorem Nd(hm:Mem E w g σ):∀ab∈σ,U3 σ.length ab:=by
  intro ab hab;obtain⟨id,hid⟩:=AlR.1 hab;have hl:id<g.length:=by rw[hm.len];exact(AkN.1 hid).1
  have hk:=hm.blk id g[id] ab (AkR hl) hid;cases ab with
  | box cs ro=>
    obtain⟨k1,k2,k3,k4,k5,β,arr,t,fz,k6,k7,k8,k9,k10⟩:=hk;intro x hx;obtain⟨j,hj⟩:=AlR.1 hx;have:=MR (k10 j x hj).1;rwa[hm.len]at this
  | buf k els ro=>
    obtain⟨k1,k2,k3,k4,k5,k6,k7⟩:=hk;intro cs hcs x hx;obtain⟨i,hi⟩:=AlR.1 hcs;obtain⟨j,hj⟩:=AlR.1 hx;cases hb:g[id].blk with
    | none=>
      rcases(k6 hb).1 with this|this
      · subst this
        simp at hi
      · have h1:=k5 i cs hi
        have h2:=(AkN.1 hj).1;omega
    | some β=>
      obtain⟨arr,t,fz,g1,g2,g3,g4,g5⟩:=k7 β hb;have:=MR (g5 i cs j x hi hj).1;rwa[hm.len]at this
  |obj o=>exact trivial
  |mp es=>exact trivial
  | lp y N1 l1 ps as1 bd=>
    obtain⟨k1,β,f,T,D,k2,k3,k4,k5⟩:=hk;intro p hp;have:=MR (k5 p hp);rwa[hm.len]at this
  |gone=>exact trivial
  |tb T l=>exact trivial
def Hr(σ:Al)(r:AV×Al):Option (AV×Al) :=
 match r with
 |(.bs full id tot off len,σ')=>if id=σ.length then(Bg σ' (.bs full id tot off len)).map fun y=>(y,σ)else none
 |_=>none
theorem SD{w':World}{g1:Gh}{v:Value}(hm:Mem E w g σ)(hp:∃bs,σ'=σ++bs)(h:Hr σ (x,σ')=some (y,σ2)) (m1:Mem E w' g1 σ') (h3:GLe g g1) (h4:Evo E 0 w g w' g1) (h5:Rep w' (A0 E g1) g1 v x) :σ2=σ∧Mem E w' (g1.take σ.length) σ∧GLe g (g1.take σ.length)∧Evo E 0 w g w' (g1.take σ.length)∧Rep w' (A0 E (g1.take σ.length)) (g1.take σ.length) v y:=by
 obtain⟨bs,rfl⟩:=hp;have ht:(σ++bs).take σ.length=σ:=by simp
 unfold Hr at h;split at h
 case h_2=>cases h
 rename_i full id tot off len σ3 he;cases he;split at h
 case isFalse=>cases h
 rename_i hid;rw[AkO]at h;obtain⟨y',hy,h⟩:=h;cases h;have hmt:=Pi m1 σ.length (by rw[ht];exact Nd hm);rw[ht]at hmt;refine⟨rfl,hmt,?_,?_,?_⟩
 ·intro id b hb;obtain⟨b',hb',hs⟩:=h3 id b hb;exact⟨b',FD hb' (by rw[←hm.len];exact(AkN.1 hb).1),hs⟩
 ·exact⟨h4.os,h4.tape,h4.output,h4.size,fun a u hc hpr=>⟨(h4.cells a u hc hpr).1,Ha (h4.cells a u hc hpr).2⟩,
   fun β hβ hn=>⟨(h4.blocks β hβ hn).1,fun h=>(h4.blocks β hβ hn).2 (HU h)⟩,fun id hid=>absurd hid (Alr _)⟩
 ·refine(GG (pr:=A0 E (g1.take σ.length)) m1 h5 hy (fun a=>Ha) ?_).mono (fun a u hc hpr=>⟨hc,hpr⟩) (GLe.nil _);rintro id' b ⟨_,_,_,_,e⟩ hb β off' hβ _;cases e;refine⟨fun hF=>(m1.foreign _ hF).2 ⟨id,b,hb,hβ⟩,fun id2 c hc he=>?_⟩;have:=m1.inj id2 id c b β (FA hc).1 hb he hβ;have:=(FA hc).2;omega
theorem Bt{α:Type}(x:Option α):x.bind some=x:=by cases x<;>rfl
def Aae(t:Tmp):Operand→Bool
 |.tmp s=>s==t
 |_=>false
def X8(t:Tmp):List Operand→Bool
 |[]=>false
 |_::r=>r.any (Aae t)
def TY:Builtin→Bool
 |.append=>true
 |_=>false
theorem Nb:TY .append=true:=rfl
def AbW(t:Tmp)(o:Oper):Bool:=match o.op with
 |.call c=>match c.callee with
  |.value _=>c.args.toList.any (Aae t)
  |.builtin b=>X8 t c.args.toList&&TY b
  |_=>false
 |.buildSlice _ _ parts=>parts.toList.any fun p=>Aae t p.2
 |_=>false
def DM(E:Env)(t:TypeId):Bool:=match E.tab t with
 |some d=>match d.desc with
  |.slice _=>true
  |_=>false
 |none=>false
def EV(E:Env)(ops:Array Oper)(o:Oper):Bool:=match o.dst with
 |some t=>match o.op with
  |.buildSlice ..=>ops.toList.any (AbW t)
  |.convert _ d _=>DM E d&&ops.toList.any (AbW t)
  |_=>false
 |none=>false
def Fs(b:Bool)(σ:Al)(r:AV×Al):Option (AV×Al):=if b then Hr σ r else some r
def DY(E:Env)(orc:Option Tmp→Orc)(ops:Array Oper)(o:Oper)(fr:List AV)(σ:Al):Option (AV×Al) :=
 match HT ops fr o with
 |some true=>(CG E (orc o.dst) o.op fr σ).bind (Fs (EV E ops o) σ)
 |some false=>some (.tup [],σ)
 |none=>none
def C5(E:Env)(orc:Option Tmp→Orc)(ops:Array Oper)(o:Oper)(st:St):Option St :=
 (DY E orc ops o st.fr st.σ).map fun r=>⟨AK st.fr o.dst r.1,r.2⟩
def Bq(E:Env)(orc:Option Tmp→Orc)(ops:Array Oper):List Nat→St→Option St
 |[],st=>some st
 |i::l,st=>match ops[i]? with
  |some o=>(C5 E orc ops o st).bind (Bq E orc ops l)
  |none=>none
theorem Y2{x:Operand}(h:∀t,x=.tmp t→fr[t]?=fr'[t]?):ev fr x=ev fr' x:=by
 cases x with
 |tmp t=>simp only[ev,List.getD,h t rfl]
 |_=>rfl
theorem K9(h:∀x∈op.operands,ev fr x=ev fr' x):Ei E fr σ op=Ei E fr' σ op:=by
 have m1:∀(l:List Operand),(∀x∈l,x∈op.operands)→l.map (ev fr)=l.map (ev fr'):=fun l hl=>Ami fun x hx=>h x (hl x hx)
 cases op<;>simp only[Ei]
 case move x=>rw[h x (by simp[Op.operands])]
 case assign x=>rw[h x (by simp[Op.operands])]
 case pick c a b=>rw[h c (by simp[Op.operands]),h a (by simp[Op.operands]),h b (by simp[Op.operands])]
 case box t x=>rw[h x (by simp[Op.operands])]
 case build t parts=>
  have:(parts.toList.map fun(i,x)=>(i,ev fr x))=(parts.toList.map fun(i,x)=>(i,ev fr' x)):=Ami fun p hp=>by
   have:=h p.2 (by simp[Op.operands];exact⟨p.1,by simpa using hp⟩);simp[this]
  rw[this]
 case buildSlice t n parts=>
  have:(parts.toList.map fun(i,x)=>(i,ev fr x))=(parts.toList.map fun(i,x)=>(i,ev fr' x)):=Ami fun p hp=>by
   have:=h p.2 (by simp[Op.operands];exact⟨p.1,by simpa using hp⟩);simp[this]
  rw[this]
 case load t x=>rw[h x (by simp[Op.operands])]
 case store t x y=>rw[h x (by simp[Op.operands]),h y (by simp[Op.operands])]
 case nilCheck x=>rw[h x (by simp[Op.operands])]
 case range t x=>rw[h x (by simp[Op.operands])]
 case makeMap t r=>cases r<;>rfl
 case insert t m k x=>rw[h m (by simp[Op.operands]),h k (by simp[Op.operands]),h x (by simp[Op.operands])]
 case mapUpdate t m k x=>rw[h m (by simp[Op.operands]),h k (by simp[Op.operands]),h x (by simp[Op.operands])]
 case next it b=>
  cases b with
  |false=>rfl
  |true=>simp only;rw[h it (by simp[Op.operands])]
 case binOp op t x y u=>rw[h x (by simp[Op.operands]),h y (by simp[Op.operands])]
 case unOp op t x=>rw[h x (by simp[Op.operands])]
 case convert s d x=>rw[h x (by simp[Op.operands])]
 case makeInterface t x=>rw[h x (by simp[Op.operands])]
 case makeFunc fn first caps=>
  have:caps.toList.map (ev fr)=caps.toList.map (ev fr'):=m1 _ (fun x hx=>by simp[Op.operands];exact .inr (by simpa using hx));have t2:first.toList.map (ev fr)=first.toList.map (ev fr'):=m1 _ (fun x hx=>by simp[Op.operands];exact .inl (by simpa using hx))
  cases fn<;>simp only[this,t2]
 case makeSlice t x y=>rw[h x (by simp[Op.operands]),h y (by simp[Op.operands])]
 case slice t x lo hi mx=>
  have hx:=h x (by simp[Op.operands]);have hl:lo.map (ev fr)=lo.map (ev fr'):=by cases lo with|none=>rfl|some l=>simp[h l (by simp[Op.operands])]
  have hh:hi.map (ev fr)=hi.map (ev fr'):=by cases hi with|none=>rfl|some l=>simp[h l (by simp[Op.operands])]
  have hm:mx.map (ev fr)=mx.map (ev fr'):=by cases mx with|none=>rfl|some l=>simp[h l (by simp[Op.operands])]
  rw[hx,hl,hh,hm]
 case fieldAddr s x f=>rw[h x (by simp[Op.operands])]
 case field s x f=>rw[h x (by simp[Op.operands])]
 case indexAddr t x y=>rw[h x (by simp[Op.operands]),h y (by simp[Op.operands])]
 case index t x y=>rw[h x (by simp[Op.operands]),h y (by simp[Op.operands])]
 case sliceToArrayPointer t x=>rw[h x (by simp[Op.operands])]
 case lookup t x y ok=>rw[h x (by simp[Op.operands]),h y (by simp[Op.operands])]
 case extract x i=>rw[h x (by simp[Op.operands])]
 case call c=>
  cases hc:c.callee<;>simp only[];have:c.args.toList.map (ev fr)=c.args.toList.map (ev fr'):=m1 _ (fun x hx=>by simp[Op.operands,Call.operands];exact .inr (by simpa using hx));rw[this]
def KF(E:Env)(t:TypeId):Bool:=match E.tab t with
 |some d=>match d.desc with
  |.array ..=>true
  |_=>false
 |none=>false
def Ob(E:Env):Op→Bool
 |.alloc _|.box ..|.buildSlice ..|.store ..|.makeSlice ..|.range ..|.next ..|.makeMap ..|.insert ..|.mapUpdate ..=>true
 |.convert _ d _=>DM E d
 |.slice t ..=>KF E t
 |.call c=>match c.callee with
  |.builtin .len|.builtin .min|.builtin .max=>false
  |.builtin _=>true
  |_=>OQ E c
 |_=>false
def FU(E:Env):Op→Bool
 |.load ..|.fieldAddr ..|.indexAddr ..|.slice ..|.convert ..|.lookup ..=>true
 |.call c=>match c.callee with
  |.builtin .min|.builtin .max=>false
  |_=>true
 |op=>Ob E op
theorem K5(he:Ob E op=false)(h:Ei E fr σ op=some (x,σ')):σ'=σ:=by
  cases op<;>simp only[Ei]at h<;>simp only[Ob]at he<;>try (cases h;done)
  case move y=>cases h;rfl
  case assign y=>cases h;rfl
  case pick c a b=>split at h<;>first|(cases h;rfl)|cases h
  case alloc=>cases he
  case range=>cases he
  case makeMap=>cases he
  case insert=>cases he
  case mapUpdate=>cases he
  case next=>cases he
  case box=>cases he
  case build t parts=>rw[AkO]at h;obtain⟨_,_,h⟩:=h;cases h;rfl
  case buildSlice=>cases he
  case load t y=>
    split at h
    · rw[AkO]at h;obtain⟨_,_,h⟩:=h;cases h;rfl
    · cases h
  case store=>cases he
  case nilCheck y=>split at h<;>first|(cases h;rfl)|cases h
  case binOp op t y z u=>rw[AkO]at h;obtain⟨_,_,h⟩:=h;cases h;rfl
  case unOp op t y=>rw[AkO]at h;obtain⟨_,_,h⟩:=h;cases h;rfl
  case lookup t y z ok=>rw[AkO]at h;obtain⟨_,_,h⟩:=h;cases h;rfl
  case convert s d y=>
    unfold B5 at h;unfold DM at he;split at h
    case h_2=>cases h
    rename_i ds dd hs hd;rw[hd]at he;simp only at he;split at h
    · cases h;rfl
    · cases h;rfl
    · rename_i hdd _;rw[hdd]at he;cases he
    · split at h
      · cases h
      split at h
      case h_2=>cases h
      split at h
      case h_2=>cases h
      split at h
      · cases h;rfl
      · cases h
    · rename_i hdd _;rw[hdd]at he;cases he
    · cases h
  case makeFunc fn first caps=>
    split at h
    · split at h
      · split at h
        · cases h
        · cases h;rfl
      · split at h
        · cases h;rfl
        · cases h
    · cases h
  case makeInterface t y=>
    split at h
    · split at h
      · cases h
      · cases h;rfl
    · cases h
  case makeSlice=>cases he
  case slice t y lo hi mx=>
    unfold Gp at h;unfold KF at he;cases ht:E.tab t with
    |none=>simp[ht]at h
    | some d=>
      simp only[ht]at h he;split at h
      · split at h
        · split at h
          · cases h
          · cases h;rfl
        · cases h
      · split at h
        · split at h
          · cases h;rfl
          · cases h
        · cases h
      · split at h
        · split at h
          · split at h
            · cases h;rfl
            · cases h
          · cases h
        · cases h
      · rename_i hd _;rw[hd]at he;cases he
      · rename_i hd _;rw[hd]at he;cases he
      · cases h
  case fieldAddr s y f=>rw[AkO]at h;obtain⟨_,_,h⟩:=h;cases h;rfl
  case field s y f=>rw[AkO]at h;obtain⟨_,_,h⟩:=h;cases h;rfl
  case indexAddr t y i=>rw[AkO]at h;obtain⟨_,_,h⟩:=h;cases h;rfl
  case index t y i=>rw[AkO]at h;obtain⟨_,_,h⟩:=h;cases h;rfl
  case sliceToArrayPointer t y=>rw[AkO]at h;obtain⟨_,_,h⟩:=h;cases h;rfl
  case extract y i=>
    split at h
    · split at h
      · cases h;rfl
      · cases h
    · cases h
  case call c=>
    cases hc:c.callee<;>simp only[hc]at h he<;>try (cases h;done)
    rename_i b;unfold AW at h;split at h
    · rw[AkO]at h;obtain⟨_,_,h⟩:=h;cases h;rfl
    · cases he
    · cases he
    · rw[AkO]at h;obtain⟨_,_,h⟩:=h;cases h;rfl
    · rw[AkO]at h;obtain⟨_,_,h⟩:=h;cases h;rfl
    · cases h
theorem Gl(ht:FU E op=false):Ei E fr σ2 op=(Ei E fr σ op).map (fun r=>(r.1,σ2)):=by
 cases op<;>simp only[FU,Ob]at ht<;>try (cases ht;done)
 all_goals simp only[Ei]
 all_goals try rfl
 case pick c a b=>split<;>rfl
 case build t parts=>simp only[AlS];rfl
 case nilCheck y=>split<;>rfl
 case binOp op t y z u=>simp only[AlS];rfl
 case unOp op t y=>simp only[AlS];rfl
 case makeFunc fn first caps=>
  split
  ·split
   ·split<;>rfl
   ·split<;>rfl
  ·rfl
 case makeInterface t y=>
  split
  ·split<;>rfl
  ·rfl
 case field s y f=>simp only[AlS];rfl
 case index t y i=>simp only[AlS];rfl
 case sliceToArrayPointer t y=>simp only[AlS];rfl
 case extract y i=>
  split
  ·split<;>rfl
  ·rfl
 case call c=>
  cases hc:c.callee<;>simp only[hc]at ht ⊢<;>try rfl
  rename_i b;cases b<;>simp only at ht<;>try (cases ht;done)
  all_goals
   unfold AW;split<;>first|(exfalso;simp_all;done)|rfl|(simp only[AlS];rfl)
theorem DA(fr:List AV){x y:Option Tmp}(v u:AV)(h:∀d,x=some d→y≠some d):AK (AK fr x v) y u=AK (AK fr y u) x v:=by
  cases x with
  |none=>rfl
  | some d=>
    cases y with
    |none=>rfl
    |some e=>exact List.set_comm _ _ (fun he=>h d rfl (by rw[he]))
theorem Og{x:Operand}(h:∀e,d=some e→x≠.tmp e):ev (AK fr d v) x=ev fr x:=by
  refine Y2 fun t hx=>?_
  cases d with
  |none=>rfl
  | some e=>
    have:e≠t:=fun he=>h e rfl (by rw[hx,he])
    simp[AK,Alt this]
theorem Tv{orc:Orc}(h:∀x∈(Op.call c).operands,ev fr x=ev fr' x):K8 orc fr σ c=K8 orc fr' σ c:=by
 have ha:c.args.toList.map (ev fr)=c.args.toList.map (ev fr'):=Ami fun x hx=>h x (by simp[Op.operands,Call.operands];exact .inr (by simpa using hx))
 unfold K8;cases hc:c.callee<;>simp only[];rename_i f;rw[h f (by simp[Op.operands,Call.operands,hc]),ha]
theorem Wi{orc:Orc}(h:∀x∈(Op.call c).operands,ev fr x=ev fr' x):Abl orc fr σ c=Abl orc fr' σ c:=by
 have ha:c.args.toList.map (ev fr)=c.args.toList.map (ev fr'):=Ami fun x hx=>h x (by simp[Op.operands,Call.operands];exact .inr (by simpa using hx))
 unfold Abl;cases hc:c.callee<;>simp only[];rename_i f;rw[h f (by simp[Op.operands,Call.operands,hc]),ha]
theorem Sc{orc:Orc}(h:∀x∈op.operands,ev fr x=ev fr' x):CG E orc op fr σ=CG E orc op fr' σ:=by
  cases op with
  | call c=>
    simp only[CG];rw[Tv h,Wi h];cases hc:c.callee<;>simp only[];exact K9 h
  |_=>exact K9 (E:=E) (σ:=σ) h
theorem MC{orc:Orc}(he:Ob E op=false)(h:CG E orc op fr σ=some (x,σ')):σ'=σ:=by
  cases op with
  | call c=>
    simp only[CG]at h;cases hc:c.callee<;>simp only[hc]at h
    case builtin b=>exact K5 he h
    all_goals
      simp only[Ob,hc]at he;simp only[he,Amd,AmV]at h;rw[AkO]at h;obtain⟨_,_,h⟩:=h;cases h;rfl
  |_=>exact K5 (fr:=fr) he h
theorem ON{orc:Orc}(ht:FU E op=false):CG E orc op fr σ2=(CG E orc op fr σ).map (fun r=>(r.1,σ2)):=by
  cases op with
  | call c=>
    simp only[CG];cases hc:c.callee<;>simp only[]
    case builtin b=>exact Gl ht
    all_goals (simp only[FU,hc]at ht;cases ht)
  |_=>exact Gl (fr:=fr) (σ:=σ) ht
theorem R0{t:Tmp}(h:Operand.tmp t∈o.op.operands):t∈o.looksAt ops:=by
 unfold Oper.looksAt;rw[Alc];left;rw[Ang];exact⟨.tmp t,by simpa using h,rfl⟩
theorem OT(h:∀e,d=some e→e ∉ o.looksAt ops):HT ops (AK fr d v) o=HT ops fr o:=by
  unfold HT;cases hg:o.guard with
  |none=>rfl
  | some g=>
    obtain⟨j,want⟩:=g;simp only;congr 1;unfold Jl;cases hj:(ops[j]?).bind (·.dst)with
    |none=>simp[hj]
    | some t=>
      cases d with
      |none=>rfl
      | some e=>
        have:e≠t:=fun he=>h e rfl (by simp[Oper.looksAt,hg,hj,he])
        simp[hj,AK,Alt this]
theorem B4{orc:Option Tmp→Orc}(h:∀e,d=some e→e ∉ o.looksAt ops):DY E orc ops o (AK fr d v) σ=DY E orc ops o fr σ:=by
 unfold DY;rw[OT h,Sc (fun x hx=>Og fun e he hxe=>h e he (R0 (hxe ▸ hx)))]
def Qd(E:Env)(ops:Array Oper)(o:Oper):Bool:=Ob E o.op&&!EV E ops o
theorem Kv(h:Qd E ops o=false):EV E ops o=true∨(EV E ops o=false∧Ob E o.op=false):=by
 unfold Qd at h;cases hf:EV E ops o
 ·rw[hf]at h;right;simpa using h
 ·exact .inl rfl
theorem DK(h:EV E ops o=true):(∃t n l,o.op=.buildSlice t n l)∨(∃s d x,o.op=.convert s d x∧DM E d=true):=by
 unfold EV at h;split at h
 case h_2=>cases h
 split at h
 ·rename_i hop;exact .inl ⟨_,_,_,hop⟩
 ·rename_i hop;exact .inr ⟨_,_,_,hop,(Am6.1 h).1⟩
 ·cases h
theorem Rl(h:Hr σ r=some (y,σ')):σ'=σ:=by
 unfold Hr at h;split at h
 case h_2=>cases h
 split at h
 case isFalse=>cases h
 rw[AkO]at h;obtain⟨_,_,h⟩:=h;cases h;rfl
theorem Dl{orc:Option Tmp→Orc}(he:Qd E ops o=false)(h:DY E orc ops o fr σ=some (x,σ')):σ'=σ:=by
 unfold DY at h;split at h
 ·rw[AkZ]at h;obtain⟨⟨v,σ1⟩,h1,h2⟩:=h;unfold Fs at h2;rcases Kv he with hf|⟨hf,he⟩
  ·rw[hf,AkS rfl]at h2;exact Rl h2
  ·rw[hf]at h2;simp only[Amd,AmV]at h2;cases h2;exact MC he h1
 ·cases h;rfl
 ·cases h
theorem Vh(ht:FU E o.op=false):EV E ops o=false:=by
 cases hf:EV E ops o
 ·rfl
 ·rcases DK hf with⟨t,n,l,h⟩|⟨s,d,x,h,_⟩
  ·rw[h]at ht;cases ht
  ·rw[h]at ht;cases ht
theorem KC{orc:Option Tmp→Orc}(ht:FU E o.op=false):DY E orc ops o fr σ2=(DY E orc ops o fr σ).map (fun r=>(r.1,σ2)):=by
 unfold DY;rw[Vh ht];have e:∀σ,Fs false σ=some:=fun σ=>by funext r;simp[Fs]
 rw[e,e];split
 ·rw[ON (σ:=σ) ht];cases CG E (orc o.dst) o.op fr σ<;>rfl
 ·rfl
 ·rfl
theorem H7{b:ABlk}(bs:Al)(h:σ[id]?=some b):(σ++bs)[id]?=some b:=by
 rw[AkW (AkN.1 h).1];exact h
theorem Vf{d:TD}{a:AV}(bs:Al)(h:loadA E σ d a=some x):loadA E (σ++bs) d a=some x:=by
 cases a<;>simp only[loadA]at h ⊢<;>try exact h
 case ref id off=>
  cases e:σ[id]? with
  |none=>simp[e]at h
  |some b=>rw[e]at h;rw[H7 bs e];exact h
 case eref id tot i j=>
  cases e:σ[id]? with
  |none=>simp[e]at h
  |some b=>rw[e]at h;rw[H7 bs e];exact h
theorem QT{tot:Nat}(bs:Al)(h:Wn σ id tot=true):Wn (σ++bs) id tot=true:=by
 unfold Wn at h ⊢;cases e:σ[id]? with
 |none=>simp[e]at h
 |some b=>rw[e]at h;rw[H7 bs e];exact h
theorem Xr{l:List (List AV)}(bs:Al)(h:FJ σ x=some l):FJ (σ++bs) x=some l:=by
 cases x<;>simp only[FJ]at h ⊢<;>try exact h
 case bs full id tot off len=>
  cases e:σ[id]? with
  |none=>simp[e]at h
  |some b=>rw[e]at h;rw[H7 bs e];exact h
theorem Xh(bs:Al)(h:WU E σ t x=some n):WU E (σ++bs) t x=some n:=by
  unfold WU at h ⊢;cases ht:E.tab t with
  |none=>simp[ht]at h
  | some d=>
    simp only[ht]at h ⊢;split at h<;>try (simp_all;done)
    rename_i id tot off len hd;cases e:σ[id]? with
    |none=>simp[e]at h
    |some b=>rw[e]at h;simp only[hd,H7 bs e];exact h
theorem M8{f:Nat}(bs:Al)(h:Bm E σ s x f=some y):Bm E (σ++bs) s x f=some y:=by
 unfold Bm at h ⊢
 repeat' split at h
 all_goals try (cases h;done)
 all_goals try (simp_all;done)
 all_goals (rename_i hc;simp_all [QT bs hc])
theorem LZ{i:AV}(bs:Al)(h:Au E σ t x i=some y):Au E (σ++bs) t x i=some y:=by
  unfold Au at h ⊢;cases ht:E.tab t with
  |none=>simp[ht]at h
  | some d=>
    simp only[ht]at h ⊢;cases hd:d.desc<;>simp only[hd]at h ⊢<;>try (cases h;done)
    case array n e=>
      cases he:E.tab e with
      |none=>simp[he]at h
      | some de=>
        cases hi:idx i n with
        |none=>simp[he,hi]at h
        | some k=>
          simp only[he,hi]at h ⊢;cases x<;>simp only at h ⊢<;>try exact h
          case eref id tot i0 j=>
            split at h
            case isFalse=>cases h
            rename_i hc;rw[AkS (QT bs hc)];exact h
    case slice e=>
      cases he:E.tab e with
      |none=>simp[he]at h
      | some de=>
        simp only[he]at h ⊢;cases x<;>simp only at h ⊢<;>try exact h
        case bs full id tot off len=>
          cases e2:σ[id]? with
          |none=>simp[e2]at h
          |some b=>rw[e2]at h;rw[H7 bs e2];exact h
theorem SI{lo hi mx:Option AV}(bs:Al)(he:KF E t=false)(h:Gp E σ t x lo hi mx=some (y,σ')):Gp E (σ++bs) t x lo hi mx=some (y,σ++bs):=by
  unfold Gp at h ⊢;unfold KF at he;cases ht:E.tab t with
  |none=>simp[ht]at h
  | some d=>
    simp only[ht]at h he ⊢;cases hd:d.desc<;>simp only[hd]at h he ⊢<;>try (first|(cases h;done)|(cases he;done))
    case string=>
      cases x<;>simp only at h ⊢<;>try (cases h;done)
      repeat' split at h
      all_goals try (cases h;done)
      cases h;simp_all
    case slice e=>
      cases x<;>simp only at h ⊢<;>try (cases h;done)
      case sl full els=>
        repeat' split at h
        all_goals try (cases h;done)
        cases h;simp_all
      case bs full id tot off len=>
        cases e2:σ[id]? with
        |none=>simp[e2]at h
        | some b=>
          rw[e2]at h;rw[H7 bs e2]
          repeat' split at h
          all_goals try (cases h;done)
          cases h;simp_all
theorem PD{d:TypeId}(bs:Al)(he:DM E d=false)(h:B5 E σ s d x=some (y,σ')):B5 E (σ++bs) s d x=some (y,σ++bs):=by
 unfold B5 at h ⊢;unfold DM at he;split at h
 case h_2=>cases h
 rename_i ds dd hs hd;rw[hd]at he;simp only at he;split at h
 ·cases h;rfl
 ·cases h;rfl
 ·simp_all
 ·split at h
  ·cases h
  rename_i hb;split at h
  case h_2=>cases h
  rename_i hde;split at h
  case h_2=>cases h
  rename_i hu hv;split at h
  ·rename_i hl;cases h;simp[hb,hu,Xr bs hv,hl]
  ·cases h
 ·simp_all
 ·cases h
theorem Nq(bs:Al)(h:Bg σ x=some y):Bg (σ++bs) x=some y:=by
 cases x<;>simp only[Bg]at h ⊢<;>try exact h
 case bs full id tot off len=>
  cases e:σ[id]? with
  |none=>simp[e]at h
  |some b=>rw[e]at h;rw[H7 bs e];exact h
theorem LY{α β:Type}{f g:α→Option β}(hfg:∀x y,f x=some y→g x=some y):∀{l:List α} {ys:List β},l.mapM f=some ys→l.mapM g=some ys
  |[],_,h=>by simpa using h
  | x::l,ys,h=>by
    rw[Amg]at h ⊢;simp only[AmZ,AkZ]at h ⊢;obtain⟨y,hy,zs,hz,h⟩:=h;exact⟨y,hfg _ _ hy,zs,LY hfg hz,h⟩
theorem Abs(bs:Al)(h:fz σ x=some y):fz (σ++bs) x=some y:=by
 cases x<;>simp only[fz]at h ⊢<;>try exact Nq bs h
 case agg cs=>
  rw[AkO]at h ⊢;obtain⟨ys,h,e⟩:=h;exact⟨ys,LY (fun _ _=>Nq bs) h,e⟩
theorem Qz(bs:Al){k:AV}{ok:Bool}(h:EI E σ t x k ok=some v):EI E (σ++bs) t x k ok=some v:=by
  cases x with
  | mref id=>
    simp only[EI]at h ⊢;cases hσ:σ[id]? with
    |none=>simp[hσ]at h
    | some b=>
      rw[AkW (AkN.1 hσ).1,hσ];rw[hσ]at h;exact h
  |_=>exact h
theorem Qt(bs:Al)(he:Ob E op=false)(h:Ei E fr σ op=some (x,σ')):Ei E fr (σ++bs) op=some (x,σ++bs):=by
  cases ht:FU E op with
  | false=>
    rw[Gl (σ:=σ) ht,h];rfl
  | true=>
    cases op<;>simp only[FU,Ob]at ht he<;>try (cases ht;done)
    all_goals try (cases he;done)
    case load t y=>
      simp only[Ei]at h ⊢;split at h
      case h_2=>cases h
      rename_i hd;rw[AkO]at h;obtain⟨v,hv,h⟩:=h;cases h;simp[hd,Vf bs hv]
    case convert s d y=>exact PD bs he h
    case slice t y lo hi mx=>exact SI bs he h
    case lookup t y z ok=>
      simp only[Ei]at h ⊢;rw[AkO]at h;obtain⟨v,hv,h⟩:=h;cases h;simp[Qz bs hv]
    case fieldAddr s y f=>
      simp only[Ei]at h ⊢;rw[AkO]at h;obtain⟨v,hv,h⟩:=h;cases h;simp[M8 bs hv]
    case indexAddr t y i=>
      simp only[Ei]at h ⊢;rw[AkO]at h;obtain⟨v,hv,h⟩:=h;cases h;simp[LZ bs hv]
    case call c=>
      simp only[Ei]at h ⊢;cases hc:c.callee<;>simp only[hc]at h ht he ⊢<;>try (cases h;done)
      rename_i b;unfold AW at h ⊢;split at h
      · rw[AkO]at h
        obtain⟨v,hv,h⟩:=h;cases h;simp[Xh bs hv]
      · cases he
      · cases he
      · cases ht
      · cases ht
      · cases h
theorem VZ{orc:Orc}{r:AV}(bs:Al)(h:K8 orc fr σ c=some r):K8 orc fr (σ++bs) c=some r:=by
 unfold K8 at h ⊢;split at h
 case h_2=>cases h
 rename_i f hf;split at h
 case h_2=>cases h
 rename_i fid hv;split at h
 case h_2=>cases h
 rename_i args ha;simp only[LY (fun _ _=>Abs bs) ha];exact h
theorem V5{orc:Orc}(bs:Al)(he:Ob E op=false)(h:CG E orc op fr σ=some (x,σ')):CG E orc op fr (σ++bs)=some (x,σ++bs):=by
  cases op with
  | call c=>
    simp only[CG]at h ⊢;cases hc:c.callee<;>simp only[hc]at h ⊢
    case builtin b=>exact Qt bs he h
    all_goals
      simp only[Ob,hc]at he;simp only[he,Amd,AmV]at h ⊢;rw[AkO]at h;obtain⟨v,hv,h⟩:=h;cases h;simp[VZ bs hv]
  |_=>exact Qt (fr:=fr) bs he h
theorem Ri(ρ:Al)(hf:(∃t n l,op=.buildSlice t n l)∨(∃s d x,op=.convert s d x∧DM E d=true)) (h:(Ei E fr σ op).bind (Hr σ)=some (y,σ')):(Ei E fr ρ op).bind (Hr ρ)=some (y,ρ):=by
  have last:∀(b:ABlk) (f:Bool) (t o l:Nat),Hr σ (.bs f σ.length t o l,σ++[b])=some (y,σ')→Hr ρ (.bs f ρ.length t o l,ρ++[b])=some (y,ρ):=by
    intro b f t o l h;unfold Hr at h ⊢;simp only[Amq,AkO,AkX]at h ⊢;obtain⟨z,hz,rfl,rfl⟩:=h;refine⟨z,?_,rfl,trivial⟩;simp only[Bg]at hz ⊢;rw[AkU (Ak2 _),AmN]at hz ⊢;exact hz
  rcases hf with⟨t,n,l,rfl⟩|⟨s,d,x,rfl,hd⟩
  · simp only[Ei]at h ⊢
    unfold CY at h ⊢;cases ht:E.tab t with
    |none=>simp[ht]at h
    | some dd=>
      simp only[ht]at h ⊢;cases hdd:dd.desc<;>simp only[hdd]at h ⊢<;>try (simp at h;done)
      rename_i e;cases he:E.tab e with
      |none=>simp[he]at h
      | some de=>
        simp only[he]at h ⊢;split at h
        · simp at h
        rename_i hn;rw[AkT hn];split at h
        case h_2=>simp at h
        rename_i els hels;exact last _ _ _ _ _ h
  · simp only[Ei]at h ⊢
    unfold B5 at h ⊢;unfold DM at hd;cases ht:E.tab d with
    |none=>simp[ht]at hd
    | some dd=>
      simp only[ht]at hd;cases hdd:dd.desc<;>simp only[hdd]at hd<;>try (cases hd;done)
      rename_i e;cases hs:E.tab s with
      |none=>simp[hs]at h
      | some sd=>
        simp only[hs,ht,hdd]at h ⊢;generalize ev fr x=xv at h ⊢;split at h
        case h_3=>
          rename_i e' l hx;cases hx;cases he:E.tab e with
          |none=>simp[he]at h
          | some de=>
            simp only[he]at h ⊢;cases hde:de.desc<;>simp only[hde]at h ⊢<;>try (simp at h;done)
            rename_i k;cases k<;>simp only at h ⊢<;>try (simp at h;done)
            exact last _ _ _ _ _ h
        case h_5=>
          exfalso;split at h
          case isFalse=>simp at h
          split at h
          case h_2=>simp at h
          split at h
          case h_2=>simp at h
          split at h
          case isFalse=>simp at h
          rename_i hid _;simp only[AkQ,Hr]at h;split at h
          case isFalse=>cases h
          rename_i e2;have:=(AkN.1 hid).1;omega
        all_goals (exfalso;simp_all;done)
theorem YL(bs:Al)(hf:(∃t n l,op=.buildSlice t n l)∨(∃s d x,op=.convert s d x∧DM E d=true)) (h:(Ei E fr σ op).bind (Hr σ)=some (y,σ')):(Ei E fr (σ++bs) op).bind (Hr (σ++bs))=some (y,σ++bs):=Ri _ hf h
theorem XJ{orc:Option Tmp→Orc}(bs:Al)(he:Qd E ops o=false)(h:DY E orc ops o fr σ=some (x,σ')):DY E orc ops o fr (σ++bs)=some (x,σ++bs):=by
 unfold DY at h ⊢;split at h
 ·rcases Kv he with hf|⟨hf,he⟩
  ·rw[hf]at h ⊢;have e:∀σ,Fs true σ=Hr σ:=fun σ=>by funext r;simp[Fs]
   rw[e]at h ⊢
   have e2:∀σ,CG E (orc o.dst) o.op fr σ=Ei E fr σ o.op:=by
    intro σ;rcases DK hf with⟨t,n,l,h⟩|⟨s,d,x,h,_⟩<;>rw[h]<;>rfl
   rw[e2]at h ⊢;exact YL bs (DK hf) h
  ·rw[hf]at h ⊢;have e:∀σ,Fs false σ=some:=fun σ=>by funext r;simp[Fs]
   rw[e]at h ⊢;rw[Bt]at h ⊢;exact V5 bs he h
 ·cases h;rfl
 ·cases h
def OE:Op→Bool
 |.alloc _|.buildSlice ..=>true
 |_=>false
theorem Vo{orc:Option Tmp→Orc}(ha:OE o.op=true)(h:DY E orc ops o fr σ=some (x,σ')):∃bs,σ'=σ++bs:=by
 cases hf:EV E ops o
 case true=>exact⟨[],by rw[Dl (by unfold Qd;rw[hf];simp) h];simp⟩
 unfold DY at h;rw[hf]at h;have e:∀σ,Fs false σ=some:=fun σ=>by funext r;simp[Fs]
 rw[e,Bt]at h;split at h
 ·cases ho:o.op<;>simp only[ho,OE]at ha h<;>try (cases ha;done)
  ·simp only[CG,Ei]at h;split at h
   ·split at h
    ·cases h
    ·split at h
     ·cases h;exact⟨_,rfl⟩
     ·cases h;exact⟨_,rfl⟩
   ·cases h
  ·simp only[CG,Ei]at h;unfold CY at h;split at h
   ·cases h
   split at h
   ·split at h
    ·split at h
     ·cases h
     ·split at h
      ·cases h;exact⟨_,rfl⟩
      ·cases h
    ·cases h
   ·cases h
 ·cases h;exact⟨[],by simp⟩
 ·cases h
def IH:ABlk→ABlk
 |.box cs _=>.box cs false
 |.buf k els _=>.buf k els false
 |.obj o=>.obj o
 |.tb T l=>.tb T l
 |.mp es=>.mp es
 |.lp y N l ps a b=>.lp y N l ps a b
 |.gone=>.gone
theorem ER:(σ.map IH)[id]?=(σ[id]?).map IH:=by simp
theorem Wh{d:TD}{a:AV}:loadA E (σ.map IH) d a=loadA E σ d a:=by
 cases a<;>simp only[loadA,ER]
 case ref id off=>cases σ[id]? with
  |none=>rfl
  |some b=>cases b<;>rfl
 case eref id tot i j=>cases σ[id]? with
  |none=>rfl
  |some b=>cases b<;>rfl
theorem Qk{tot:Nat}:Wn (σ.map IH) id tot=Wn σ id tot:=by
 simp only[Wn,ER];cases σ[id]? with
 |none=>rfl
 |some b=>cases b<;>rfl
theorem Yr:FJ (σ.map IH) x=FJ σ x:=by
 cases x<;>simp only[FJ,ER]
 case bs full id tot off len=>cases σ[id]? with
  |none=>rfl
  |some b=>cases b<;>rfl
theorem Xu:WU E (σ.map IH) t x=WU E σ t x:=by
  unfold WU;cases E.tab t with
  |none=>rfl
  | some d=>
    obtain⟨desc,sz,bt,z⟩:=d;cases x with
    | bs full id tot off len=>
      cases desc<;>try rfl
      simp only[ER];cases σ[id]? with
      |none=>rfl
      |some b=>cases b<;>rfl
    |_=>cases desc<;>rfl
theorem MU{f:Nat}:Bm E (σ.map IH) s x f=Bm E σ s x f:=by
 unfold Bm;simp only[Qk]
theorem M3{i:AV}:Au E (σ.map IH) t x i=Au E σ t x i:=by
  unfold Au;cases E.tab t with
  |none=>rfl
  | some d=>
    obtain⟨desc,sz,bt,z⟩:=d;cases desc<;>dsimp only<;>try (first|rfl|(simp only[Qk];done))
    rename_i e;generalize E.tab e=te;cases te with
    |none=>cases x<;>rfl
    | some de=>
      cases x<;>try rfl
      rename_i full id tot off len;dsimp only;simp only[ER];cases σ[id]? with
      |none=>rfl
      |some b=>cases b<;>cases idx i len<;>rfl
theorem SL{σ: Al}{lo hi mx:Option AV}(he:KF E t=false):(Gp E (σ.map IH) t x lo hi mx).map (·.1)=(Gp E σ t x lo hi mx).map (·.1):=by
  unfold Gp;unfold KF at he;cases ht:E.tab t with
  |none=>rfl
  | some d=>
    rw[ht]at he;obtain⟨desc,sz,bt,z⟩:=d;cases desc<;>dsimp only at he ⊢<;>try (first|rfl|(cases he;done))
    · cases x<;>dsimp only<;>try rfl
      split<;>try rfl
      split<;>rfl
    · rename_i e
      cases x<;>dsimp only<;>try rfl
      · split<;>try rfl
        split<;>rfl
      · rename_i full id tot off len
        simp only[ER];cases σ[id]? with
        |none=>rfl
        | some b=>
          cases b with
          |box=>rfl
          |obj o=>rfl
          |mp es=>rfl
          |lp y N1 l1 ps as1 bd=>rfl
          |gone=>rfl
          |tb T l=>rfl
          | buf k els ro=>
            simp only[Als,IH];generalize E.tab e=te;cases te with
            |none=>rfl
            | some de=>
              dsimp only;split<;>try rfl
              split<;>rfl
theorem P1{d:TypeId}(he:DM E d=false):(B5 E (σ.map IH) s d x).map (·.1)=(B5 E σ s d x).map (·.1):=by
  unfold B5;unfold DM at he;cases hs:E.tab s with
  |none=>rfl
  | some sd=>
    cases hd:E.tab d with
    |none=>rfl
    | some dd=>
      simp only[hd]at he ⊢;cases hdd:dd.desc<;>simp only[hdd]at he ⊢<;>try (first|rfl|(cases he;done))
      · cases x<;>first|rfl|(cases sd.desc<;>rfl)
      · cases x<;>cases sd.desc<;>try rfl
        all_goals
          simp only[Yr];split<;>try rfl
          split<;>try rfl
          split<;>try rfl
          split<;>rfl
theorem Mw:Bg (σ.map IH) x=Bg σ x:=by
 cases x<;>simp only[Bg,ER]
 case bs full id tot off len=>cases σ[id]? with
  |none=>rfl
  |some b=>cases b<;>rfl
theorem AdS:fz (σ.map IH) x=fz σ x:=by
 cases x<;>simp only[fz,Mw];rename_i cs;congr 1;have:Bg (σ.map IH)=Bg σ:=funext fun x=>Mw
 rw[this]
theorem US{orc:Orc}:K8 orc fr (σ.map IH) c=K8 orc fr σ c:=by
 unfold K8;have:fz (σ.map IH)=fz σ:=funext fun x=>AdS
 rw[this]
theorem PM{k:AV}{ok:Bool}:EI E (σ.map IH) t x k ok=EI E σ t x k ok:=by
  cases x with
  | mref id=>
    simp only[EI,ER];cases σ[id]? with
    |none=>rfl
    | some b=>
      cases b with
      |obj o=>rfl
      |mp es=>rfl
      |lp y N1 l1 ps as1 bd=>rfl
      |gone=>rfl
      |tb T l=>rfl
      |box cs ro=>cases ok<;>cases k<;>first|rfl|(cases SZ E t with|none=>rfl|some d=>cases d<;>rfl)
      |buf n els ro=>cases ok<;>cases k<;>first|rfl|(cases SZ E t with|none=>rfl|some d=>cases d<;>rfl)
  |_=>rfl
theorem PG(he:Ob E op=false):(Ei E fr (σ.map IH) op).map (·.1)=(Ei E fr σ op).map (·.1):=by
  cases ht:FU E op with
  | false=>
    rw[Gl (σ:=σ) ht];cases Ei E fr σ op<;>rfl
  | true=>
    cases op<;>simp only[FU,Ob]at ht he<;>try (cases ht;done)
    all_goals try (cases he;done)
    case load t y=>
      simp only[Ei,Wh];split<;>simp only[AlS]<;>rfl
    case convert s d y=>exact P1 he
    case slice t y lo hi mx=>exact SL he
    case lookup t y z ok=>simp only[Ei,PM,AlS];rfl
    case fieldAddr s y f=>
      simp only[Ei,MU,AlS];rfl
    case indexAddr t y i=>
      simp only[Ei,M3,AlS];rfl
    case call c=>
      simp only[Ei];cases hc:c.callee<;>simp only[hc]at ht he ⊢<;>try rfl
      rename_i b;cases b<;>simp only at ht he<;>try (first|(cases ht;done)|(cases he;done))
      unfold AW;split<;>first|rfl|(simp only[Xu,AlS];rfl)|(exfalso;simp_all;done)
theorem O0{orc:Orc}(he:Ob E op=false):(CG E orc op fr (σ.map IH)).map (·.1)=(CG E orc op fr σ).map (·.1):=by
  cases op with
  | call c=>
    simp only[CG];cases hc:c.callee<;>simp only[]
    case builtin b=>exact PG he
    all_goals
      simp only[Ob,hc]at he;simp only[he,Amd,AmV,US,AlS];rfl
  |_=>exact PG (fr:=fr) (σ:=σ) he
theorem PH{orc:Option Tmp→Orc}{ρ:Al}(hρ:σ.map IH=ρ.map IH)(he:Qd E ops o=false)(h:DY E orc ops o fr σ=some (x,σ')):DY E orc ops o fr ρ=some (x,ρ):=by
 unfold DY at h ⊢;split at h
 ·rcases Kv he with hf|⟨hf,he⟩
  ·rw[hf]at h ⊢;have e:∀σ,Fs true σ=Hr σ:=fun σ=>by funext r;simp[Fs]
   rw[e]at h ⊢
   have e2:∀σ,CG E (orc o.dst) o.op fr σ=Ei E fr σ o.op:=by
    intro σ;rcases DK hf with⟨t,n,l,h⟩|⟨s,d,x,h,_⟩<;>rw[h]<;>rfl
   rw[e2]at h ⊢;exact Ri ρ (DK hf) h
  ·rw[hf]at h ⊢;have e:∀σ,Fs false σ=some:=fun σ=>by funext r;simp[Fs]
   rw[e]at h ⊢;rw[Bt]at h ⊢;have h1:=O0 (E:=E) (orc:=orc o.dst) (fr:=fr) (σ:=σ) he;have h2:=O0 (E:=E) (orc:=orc o.dst) (fr:=fr) (σ:=ρ) he;rw[hρ,h2,h]at h1;simp only[Als]at h1;rw[AkO]at h1;obtain⟨⟨y,ρ'⟩,h3,h4⟩:=h1;simp only at h4;subst h4;rw[h3,MC he h3]
 ·cases h;rfl
 ·cases h
def HS(E:Env):Op→Bool
 |.slice t ..=>KF E t
 |_=>false
theorem QV{orc:Option Tmp→Orc}(ha:HS E o.op=true)(h:DY E orc ops o fr σ=some (x,σ')):σ.map IH=σ'.map IH:=by
 have hf:EV E ops o=false:=by
  cases hf:EV E ops o
  ·rfl
  ·rcases DK hf with⟨t,n,l,h⟩|⟨s,d,x,h,_⟩<;>rw[h]at ha<;>cases ha
 unfold DY at h;rw[hf]at h;have e:∀σ,Fs false σ=some:=fun σ=>by funext r;simp[Fs]
 rw[e,Bt]at h;split at h
 ·cases ho:o.op<;>simp only[ho,HS]at ha h<;>try (cases ha;done)
  simp only[CG,Ei,Gp]at h
  repeat' split at h
  all_goals try (cases h;done)
  all_goals try (cases h;rfl)
  all_goals try (
   generalize E.G _=gg at h;generalize E.tab _=tt at h;cases gg<;>cases tt<;>simp only at h<;>try (cases h;done)
   split at h
   ·split at h
    ·cases h;rfl
    ·cases h
   ·cases h
   done)
  cases h;rename_i hσ _ _ _ _ _;rw[Anf];refine(AlL fun i=>?_);rw[Alu];split
  ·rename_i hi;subst hi;simp only[AlQ];split
   ·rw[ER,‹σ[_]?=some (ABlk.box _ _)›];rfl
   ·rename_i hn;exact absurd (by simpa using(AkN.1 ‹σ[_]?=some (ABlk.box _ _)›).1) hn
  ·rfl
 ·cases h;rfl
 ·cases h
def mkO(σ:Al):Option Nat→Al
 |none=>σ
 |some id=>BQ σ id
theorem QY(σ:Al)(a b:Nat):BQ (BQ σ a) b=BQ (BQ σ b) a:=by
 refine AlL fun i=>?_
 simp only[CZ];by_cases h1:i=a
 ·by_cases h2:i=b
  ·subst h1;subst h2;rfl
  ·simp only[AkS h1,AkT h2]
 ·by_cases h2:i=b
  ·simp only[AkT h1,AkS h2]
  ·simp only[AkT h1,AkT h2]
theorem YS(σ:Al)(a b:Option Nat):mkO (mkO σ a) b=mkO (mkO σ b) a:=by
 cases a<;>cases b<;>first|rfl|exact QY _ _ _
theorem Kz{orc : Option Tmp→Orc}(ha:HS E o.op=true)(h:DY E orc ops o fr σ=some (x,σ')) :∃m,σ'=mkO σ m∧∀ρ:Al,ρ.map IH=σ.map IH→DY E orc ops o fr ρ=some (x,mkO ρ m):=by
  have hf:EV E ops o=false:=by
    cases hf:EV E ops o
    · rfl
    · rcases DK hf with⟨t,n,l,h⟩|⟨s,d,x,h,_⟩<;>rw[h]at ha<;>cases ha
  have e:∀σ,Fs false σ=some:=fun σ=>by funext r;simp[Fs]
  unfold DY at h ⊢;rw[hf]at h ⊢;simp only[e,Bt]at h ⊢;split at h
  · cases ho:o.op<;>simp only[ho,HS]at ha h<;>try (cases ha;done)
    rename_i t y lo hi mx;simp only[CG,Ei]at h ⊢;unfold KF at ha;cases ht:E.tab t with
    |none=>simp[ht]at ha
    | some d=>
      obtain⟨desc,sz,bt,z⟩:=d;rw[ht]at ha;cases desc<;>simp only at ha<;>try (cases ha;done)
      rename_i n e2;unfold Gp at h ⊢;simp only[ht]at h ⊢;generalize ev fr y=yv at h ⊢;cases yv<;>simp only at h ⊢<;>try (cases h;done)
      case glob gi=>
        refine⟨none,?_,fun ρ _=>?_⟩
        · repeat' split at h
          all_goals try (cases h;done)
          all_goals (cases h;rfl)
        · repeat' split at h
          all_goals try (cases h;done)
          all_goals (cases h;simp_all [mkO])
      rename_i id off;cases hσ:σ[id]? with
      |none=>simp[hσ]at h
      | some b=>
        cases b with
        |buf=>simp[hσ]at h
        |obj o=>simp[hσ]at h
        |mp es=>simp[hσ]at h
        |lp y N1 l1 ps as1 bd=>simp[hσ]at h
        |gone=>simp[hσ]at h
        |tb T l=>simp[hσ]at h
        | box cs ro=>
          cases hte:E.tab e2 with
          |none=>simp[hσ,hte]at h
          | some de=>
            simp only[hσ,hte]at h;split at h
            case isFalse=>cases h
            rename_i hc;split at h
            case h_2=>cases h
            rename_i l h1 f1 hb;cases h;refine⟨some id,?_,fun ρ hρ=>?_⟩
            · show _=BQ σ id
              unfold BQ;rw[hσ]
            · have h2:(ρ[id]?).map IH=(σ[id]?).map IH:=by rw[←ER,←ER,hρ]
              rw[hσ]at h2;cases hρ2:ρ[id]? with
              |none=>rw[hρ2]at h2;cases h2
              | some b2=>
                rw[hρ2]at h2;cases b2 with
                |buf=>cases h2
                |obj o=>cases h2
                |mp es=>cases h2
                |lp y N1 l1 ps as1 bd=>cases h2
                |gone=>cases h2
                |tb T l=>cases h2
                | box cs2 ro2=>
                  simp only[Als,IH,AkP,ABlk.box.injEq,Anq]at h2;subst h2;simp only[hρ2,hte,AkS hc,hb];show _=some (_,BQ ρ id);unfold BQ;rw[hρ2]
  · cases h;exact⟨none,rfl,fun ρ _=>rfl⟩
  · cases h
def Jp(E:Env)(ops:Array Oper)(x y:Oper):Bool :=
 x.apart ops y&&((!(Qd E ops x&&FU E y.op)&&!(Qd E ops y&&FU E x.op))||(OE y.op&&!Qd E ops x)||(HS E y.op&&!Qd E ops x)||(HS E x.op&&!Qd E ops y)||(HS E x.op&&HS E y.op))
theorem PJ(h:FU E op=false):Ob E op=false:=by
 cases op<;>simp only[FU,Ob]at h ⊢<;>try (first|assumption|(cases h;done))
 case call c=>
  cases hc:c.callee<;>rw[hc]at h<;>try (cases h;done)
  rename_i b;cases b<;>first|rfl|(cases h;done)
theorem OU(h:FU E o.op=false):Qd E ops o=false:=by
 unfold Qd;rw[PJ h];rfl
theorem Ip{orc:Option Tmp→Orc}{x y:Oper}{st1 st2:St}(hc:Jp E ops x y=true)(h1:C5 E orc ops x st=some st1)(h2:C5 E orc ops y st1=some st2) :∃st3,C5 E orc ops y st=some st3∧C5 E orc ops x st3=some st2:=by
  simp only[Jp,Ak6,Alz,AmQ,Amn]at hc;obtain⟨hap,hcase⟩:=hc;obtain⟨a1,a2,a3⟩:=Oper.apart_spec hap;unfold C5 at h1 h2 ⊢;rw[AkO]at h1 h2;obtain⟨⟨v,σ1⟩,hv,rfl⟩:=h1;obtain⟨⟨u,σ2⟩,hu,rfl⟩:=h2;simp only at hu ⊢;rw[B4 a1]at hu
  have fin:∀σ3,DY E orc ops y st.fr st.σ=some (u,σ3)→DY E orc ops x st.fr σ3=some (v,σ2) →
      ∃st3,(DY E orc ops y st.fr st.σ).map (fun r=>(⟨AK st.fr y.dst r.1,r.2⟩:St))=some st3∧(DY E orc ops x st3.fr st3.σ).map (fun r=>(⟨AK st3.fr x.dst r.1,r.2⟩:St))=some ⟨AK (AK st.fr x.dst v) y.dst u,σ2⟩:=by
    intro σ3 hy hx;refine⟨⟨AK st.fr y.dst u,σ3⟩,by rw[hy];rfl,?_⟩;simp only;rw[B4 a3,hx];simp only[Als,DA st.fr v u a2]
  rcases hcase with(((⟨e1,e2⟩|⟨hal,ex⟩)|⟨hal,ex⟩)|⟨hal,ey⟩)|⟨hax,hay⟩
  case inr=>
    obtain⟨m,rfl,_⟩:=Kz hax hv
    have hun:∀(σ:Al) (m:Option Nat),(mkO σ m).map IH=σ.map IH:=by
      intro σ m;cases m with
      |none=>rfl
      | some id=>
        refine AlL fun i=>?_
        rw[ER,ER];show((BQ σ id)[i]?).map IH=_;rw[CZ];split
        · cases σ[i]? with
          |none=>rfl
          |some b=>cases b<;>rfl
        · rfl
    obtain⟨m2,rfl,h2⟩:=Kz hay hu;obtain⟨m1,e1,h1⟩:=Kz hax hv;refine fin (mkO st.σ m2) (h2 st.σ (hun _ _).symm) ?_;rw[h1 _ (hun _ _),e1,YS]
  case inl.inl.inr=>
    obtain rfl:=Dl ex hv;exact fin _ hu (PH (QV hal hu) ex hv)
  case inl.inr=>
    obtain rfl:=Dl ey hu;exact fin _ (PH (QV hal hv).symm ey hu) hv
  case inl.inl.inl.inr=>
    obtain rfl:=Dl ex hv;obtain⟨bs,rfl⟩:=Vo hal hu;exact fin _ hu (XJ bs ex hv)
  rcases e1 with ex|ty
  · obtain rfl:=Dl ex hv
    rcases e2 with ey|tx
    · obtain rfl:=Dl ey hu
      exact fin _ hu hv
    · refine fin _ hu ?_
      rw[KC (σ:=st.σ) tx,hv];rfl
  · have ey:Qd E ops y=false:=OU ty
    obtain rfl:=Dl ey hu;rw[KC (σ:=st.σ) ty,AkO]at hu;obtain⟨⟨u',σ'⟩,hy,he⟩:=hu;simp only[AkX]at he;obtain⟨rfl,_⟩:=he;obtain rfl:=Dl ey hy;exact fin _ hy hv
def Md(B:Base)(orc:Orc):Prop:=(∀f args r,orc.fz f args=some r→Con B f args [] (fun r' σ'=>r'=r∧σ'=[])) ∧
 ∀f args σ r σ',orc.own f args σ=some (r,σ')→∀F:Addr→Prop,Rc (B.env F) f args σ r σ'
theorem Aa7{orc:Orc}(hO:Md E.toBase orc)(hop:o.op=.call c)(h:Abl orc st.fr st.σ c=some r) {a:Act} {w:World} {g:Gh} (hr:Rel E w g st a) {next:Act→World→Prop} {Q:Exit→Act→World→Prop} (hk:∀a' w' g',Rel E w' g' ⟨AK st.fr o.dst r.1,r.2⟩ a'→Evo E 0 w g w' g'→GLe g g'→next a' w'):o.wp E.P a w next Q:=by
 unfold Abl at h;split at h
 case h_2=>cases h
 rename_i f hc;split at h
 case h_2=>cases h
 rename_i fid hf;exact Tk hop hc hf (S8 (hO.2 _ _ _ r.1 r.2 h E.F)) hr hk
theorem ZJ(hE:E.Ok){orc:Orc}(hO:Md E.toBase orc)(h:CG E orc o.op st.fr st.σ=some r) {a:Act} {w:World} {g:Gh} (hr:Rel E w g st a) {next:Act→World→Prop} {Q:Exit→Act→World→Prop} (hk:∀a' w' g',Rel E w' g' ⟨AK st.fr o.dst r.1,r.2⟩ a'→Evo E 0 w g w' g'→GLe g g'→next a' w'):o.wp E.P a w next Q:=by
  have plain:Ei E st.fr st.σ o.op=some r→o.wp E.P a w next Q:=by
    intro h;obtain⟨v,w',g',h1,h2,h3,h4,h5⟩:=Kr (x:=r.1) (σ':=r.2) hE hr h;unfold Oper.wp;exact OJ h1 (hk _ w' g' (EZ (H6 hr h2 h3 h4) o.dst h5) h4 h3)
  cases hop:o.op with
  | call c=>
    simp only[hop,CG]at h;cases hc:c.callee<;>simp only[hc]at h
    case builtin b=>exact plain (by rw[hop];exact h)
    all_goals (split at h;· exact Aa7 hO hop h hr hk)
    all_goals try (simp[K8,hc]at h;done)
    rename_i f _;rw[AkO]at h;obtain⟨r1,h,rfl⟩:=h;unfold K8 at h;simp only[hc]at h;split at h
    case h_2=>cases h
    rename_i fid hf;split at h
    case h_2=>cases h
    rename_i args ha;split at h
    case h_2=>cases h
    rename_i r2 ho;split at h
    case isFalse=>cases h
    rename_i hs;cases h;rcases hs with hs|hs
    · exact I4 hop hc hf ha hs ((hO.1 _ _ _ ho).mono fun _ _ h=>h.1) hr hk
    · refine G2 hop hc hf ha (hO.1 _ _ _ ho) hr ?_
      rw[hs];exact hk
  |_=>exact plain (by rw[hop];simp only[hop]at h;exact h)
theorem Afm(hE:E.Ok)(hf:(∃t n l,o.op=.buildSlice t n l)∨(∃s d x,o.op=.convert s d x∧DM E d=true)) (h:(Ei E st.fr st.σ o.op).bind (Hr st.σ)=some r) {a:Act} {w:World} {g:Gh} (hr:Rel E w g st a) {next:Act→World→Prop} {Q:Exit→Act→World→Prop} (hk:∀a' w' g',Rel E w' g' ⟨AK st.fr o.dst r.1,r.2⟩ a'→Evo E 0 w g w' g'→GLe g g'→next a' w'):o.wp E.P a w next Q:=by
 rw[AkZ]at h;obtain⟨⟨x,σ'⟩,h1,h2⟩:=h;obtain⟨y,σ2⟩:=r
 have hp:∃bs,σ'=st.σ++bs:=by
  rcases hf with⟨t,n,l,e⟩|⟨s,d,z,e,_⟩
  ·rw[e]at h1;simp only[Ei,CY]at h1
   repeat' split at h1
   all_goals try (cases h1;done)
   cases h1;exact⟨_,rfl⟩
  ·rw[e]at h1;simp only[Ei,B5]at h1
   repeat' split at h1
   all_goals try (cases h1;done)
   all_goals (cases h1;first|exact⟨_,rfl⟩|exact⟨[],by simp⟩)
 obtain⟨v,w',g',k1,k2,k3,k4,k5⟩:=Kr (x:=x) (σ':=σ') hE hr h1;obtain⟨rfl,m2,m3,m4,m5⟩:=SD hr.mem hp h2 k2 k3 k4 k5;unfold Oper.wp;exact OJ k1 (hk _ w' _ (EZ (H6 hr m2 m3 m4) o.dst m5) m4 m3)
theorem WO(hE:E.Ok){orc:Option Tmp→Orc}(hO:∀d,Md E.toBase (orc d))(h:(CG E (orc o.dst) o.op st.fr st.σ).bind (Fs (EV E ops o) st.σ)=some r) {a:Act} {w:World} {g:Gh} (hr:Rel E w g st a) {next:Act→World→Prop} {Q:Exit→Act→World→Prop} (hk:∀a' w' g',Rel E w' g' ⟨AK st.fr o.dst r.1,r.2⟩ a'→Evo E 0 w g w' g'→GLe g g'→next a' w'):o.wp E.P a w next Q:=by
  cases hf:EV E ops o with
  | true=>
    have e:∀σ,Fs true σ=Hr σ:=fun σ=>by funext r;simp[Fs]
    have e2:CG E (orc o.dst) o.op st.fr st.σ=Ei E st.fr st.σ o.op:=by
      rcases DK hf with⟨t,n,l,h⟩|⟨s,d,x,h,_⟩<;>rw[h]<;>rfl
    rw[hf,e,e2]at h;exact Afm hE (DK hf) h hr hk
  | false=>
    have e:∀σ,Fs false σ=some:=fun σ=>by funext r;simp[Fs]
    rw[hf,e,Bt]at h;exact ZJ hE (hO _) h hr hk
theorem L1(hE:E.Ok){orc:Option Tmp→Orc}(hO:∀d,Md E.toBase (orc d))(hi:ops[i]?=some o)(h:C5 E orc ops o st=some st') {a:Act} {w:World} {g:Gh} (hr:Rel E w g st a) {next:Act→World→Prop} {Q:Exit→Act→World→Prop} (hk:∀a' w' g',Rel E w' g' st' a'→Evo E 0 w g w' g'→GLe g g'→next a' w'):wpOp E.P ops Q i next a w:=by
  unfold C5 at h;rw[AkO]at h;obtain⟨⟨x,σ'⟩,hv,rfl⟩:=h;unfold wpOp;simp only[hi];unfold DY HT at hv;cases hg:o.guard with
  | none=>
    simp only[hg]at hv;simp only[Region.wanted,hg,Amq];exact .inl (WO hE hO hv hr hk)
  | some p=>
    obtain⟨j,want⟩:=p;simp only[hg]at hv;cases hy:Jl ops st.fr j with
    |none=>simp[hy]at hv
    | some b=>
      simp only[Region.wanted,hg,H5 hr hy];simp only[hy,Als]at hv;by_cases e:b=some want
      · rw[AkS (by simp[e])]
        rw[show(b==some want)=true by simp[e]]at hv;exact .inl (WO hE hO hv hr hk)
      · rw[AkT (by simp[e])]
        rw[show(b==some want)=false by simp[e]]at hv;cases hv;exact hk _ w g (EZ hr o.dst (N5 _ _ _)) (Evo.refl _ _ _ _) (GLe.refl _)
def Ea(ops:Array Oper)(i:Nat):List Nat:=match ops[i]? with
 |some o=>(o.after.toList.filter (Region.binds .any)).map (·.on)
 |none=>[]
def Fz(ops:Array Oper)(T:List (List Nat)):Bool :=
 (List.range ops.size).all fun i=>(Ea ops i).all (·<i)&&(T.getD i []).all fun j=>(Ea ops i).contains j||(Ea ops i).any fun k=>(T.getD k []).contains j
def GV(E:Env)(ops:Array Oper)(T:List (List Nat)):Bool :=
 (List.range ops.size).all fun i=>(List.range i).all fun j=>(T.getD i []).contains j||(match ops[j]?,ops[i]? with
  |some x,some y=>Jp E ops x y
  |_,_=>false)
theorem Gn{orc:Option Tmp→Orc}{ops:Array Oper}{i:Nat}{y:Oper}(hi:ops[i]?=some y){l2:List Nat}{st':St}:∀(l1:List Nat) (st:St),(∀j∈l1,∀x,ops[j]?=some x→Jp E ops x y=true)→Bq E orc ops (l1++i::l2) st=some st' →∃st1,C5 E orc ops y st=some st1∧Bq E orc ops (l1++l2) st1=some st'
  | [],st,_,h=>by
    simp only[AlC,Bq,hi]at h;rw[AkZ]at h;exact h
  | j :: l1,st,hc,h=>by
    simp only[Ale,Bq]at h;cases hj:ops[j]? with
    |none=>simp[hj]at h
    | some x=>
      simp only[hj]at h;rw[AkZ]at h;obtain⟨s1,h1,h⟩:=h;obtain⟨s2,h2,h⟩:=Gn hi l1 s1 (fun k hk=>hc k (Alx _ hk)) h;obtain⟨s3,h3,h4⟩:=Ip (hc j Ak7 x hj) h1 h2;refine⟨s3,h3,?_⟩;simp only[Ale,Bq,hj,h4,AkQ];exact h
theorem A9{p:Nat→Bool}(h:(List.range n).all p=true)(hi:i<n):p i=true :=
 Ak4.1 h i (AlF.2 hi)
theorem Dv(h:Fz ops T=true)(hi:i<ops.size){d:Nat}(hd:d∈Ea ops i):d<i:=by
 have:=A9 h hi;simp only[Ak6,Ak4,Ald]at this;exact this.1 d hd
theorem Ef(h:Fz ops T=true){rem:List Nat} (hdown:∀k,k<ops.size→k ∉ rem→∀d∈Ea ops k,d ∉ rem):∀(i:Nat),i<ops.size→(∀d∈Ea ops i,d ∉ rem)→∀j∈T.getD i [],j ∉ rem:=by
  intro i
  induction i using Nat.strongRecOn with
  | _ i ih=>
    intro hi hd j hj;have hh:=A9 h hi;simp only[Ak6,Ak4,Alz,Alj,Ans,Ald]at hh;rcases hh.2 j hj with hj|⟨k,hk,hkj⟩
    · exact hd j hj
    · have hki:=hh.1 k hk
      have hks:=Amw hki hi;exact ih k hki hks (hdown k hks (hd k hk)) j hkj
theorem Em(hi:ops[i]?=some o){d:Nat}:d∈Ea ops i↔∃e∈o.after,Region.binds .any e=true∧e.on=d:=by
 simp only[Ea,hi,AlW,List.mem_filter,Array.mem_toList_iff];constructor
 ·rintro⟨e,⟨h1,h2⟩,h3⟩;exact⟨e,h1,h2,h3⟩
 ·rintro⟨e,h1,h2,h3⟩;exact⟨e,⟨h1,h2⟩,h3⟩
theorem Vc(hE:E.Ok){orc:Option Tmp→Orc}(hO:∀d,Md E.toBase (orc d))(hc:Fz ops T=true)(hm:GV E ops T=true){Q:Exit→Act→World→Prop} :∀ (fuel:Nat) (rem:List Nat) (listed:Array Bool) (st:St) (a:Act) (w:World) (g:Gh),rem.length=fuel→rem.Pairwise (·<·)→listed.size=ops.size →(∀j,listed.getD j true=false↔j∈rem)→(∀k,k<ops.size→k ∉ rem→∀d∈Ea ops k,d ∉ rem) →Bq E orc ops rem st=some st'→Rel E w g st a→(∀a' w' g',Rel E w' g' st' a'→Evo E 0 w g w' g'→GLe g g'→Q .normal a' w') →wpAny E.P .any ops Q fuel listed a w:=by
  have hin:∀(rem:List Nat) (listed:Array Bool),listed.size=ops.size→(∀j,listed.getD j true=false↔j∈rem)→∀j∈rem,j<ops.size:=by
    intro rem listed hs hl j hj;have:=(hl j).2 hj;by_cases e:j<listed.size
    · omega
    · simp[Array.getD,e]at this
  have hgd:∀(rem:List Nat) (listed:Array Bool),listed.size=ops.size→(∀j,listed.getD j true=false↔j∈rem)→∀d,d<ops.size→(listed.getD d false=true↔d ∉ rem):=by
    intro rem listed hs hl d hd
    have h1:listed.getD d false=listed.getD d true:=by
      have:d<listed.size:=by omega
      simp[Array.getD,this]
    rw[h1,←hl d];cases listed.getD d true<;>simp
  have hrd:∀(rem:List Nat) (listed:Array Bool),listed.size=ops.size→(∀j,listed.getD j true=false↔j∈rem)→∀i,
      (i∈Region.ready .any ops listed↔i∈rem∧∀d∈Ea ops i,d ∉ rem):=by
    intro rem listed hs hl i;rw[mem_ready,hl i];constructor
    · rintro⟨h1,o,ho,h2⟩
      refine⟨h1,fun d hd=>?_⟩;have hlt:=Dv hc (hin rem listed hs hl i h1) hd;have hds:=Amw hlt (hin rem listed hs hl i h1);obtain⟨e,he,hb,rfl⟩:=(Em ho).1 hd;exact(hgd rem listed hs hl _ hds).1 (h2 e he hb)
    · rintro⟨h1,h2⟩
      have hi:=hin rem listed hs hl i h1;refine⟨h1,ops[i],Ak9 hi,fun e he hb=>?_⟩;have hd:e.on∈Ea ops i:=(Em (Ak9 hi)).2 ⟨e,he,hb,rfl⟩;exact(hgd rem listed hs hl _ (Amw (Dv hc hi hd) hi)).2 (h2 _ hd)
  have hdone:∀(rem:List Nat) (listed:Array Bool),rem.Pairwise (·<·)→listed.size=ops.size→(∀j,listed.getD j true=false↔j∈rem)→Region.ready .any ops listed=[]→rem=[]:=by
    intro rem listed hp hs hl hr;cases rem with
    |nil=>rfl
    | cons i r=>
      have hi:i∈Region.ready .any ops listed:=(hrd _ listed hs hl i).2 ⟨Ak7,fun d hd hm=>by
        have:=Dv hc (hin _ listed hs hl i Ak7) hd;rcases Alk.1 hm with rfl|hm
        · omega
        · have:=Alp hp hm
          omega⟩
      rw[hr]at hi;cases hi
  intro fuel
  induction fuel with
  | zero=>
    intro rem listed st a w g hf hp hs hl hd hst hr hq;have:rem=[]:=All.1 hf;subst this;simp only[Bq,AkP]at hst;subst hst;refine⟨?_,hq a w g hr (Evo.refl _ _ _ _) (GLe.refl _)⟩;rw[Ama];intro i hi;have:=((hrd _ listed hs hl i).1 hi).1;cases this
  | succ fuel ih=>
    intro rem listed st a w g hf hp hs hl hd hst hr hq;refine⟨fun h=>?_,fun i hi=>?_⟩
    · have:=hdone rem listed hp hs hl h
      subst this;simp at hf
    · obtain⟨hir,hid⟩:=(hrd rem listed hs hl i).1 hi
      have his:=hin rem listed hs hl i hir;obtain⟨l1,l2,rfl⟩:=Am2 hir;have hp':=hp;rw[Alq]at hp';obtain⟨p1,p2,p3⟩:=hp'
      have hnd:∀j∈l1++l2,j≠i:=by
        intro j hj;rcases Alc.1 hj with hj|hj
        · have:=p3 j hj i Ak7;omega
        · have:=Alp p2 hj;omega
      have hmem:∀j,j∈l1++l2↔j∈l1++i::l2∧j≠i:=by
        intro j;constructor
        · intro hj
          refine⟨?_,hnd j hj⟩;simp only[Alc,Alk]at hj ⊢;rcases hj with hj|hj
          · exact .inl hj
          · exact .inr (.inr hj)
        · rintro⟨hj,hne⟩
          simp only[Alc,Alk]at hj ⊢;rcases hj with hj|hj|hj
          · exact .inl hj
          · exact(hne hj).elim
          · exact .inr hj
      have hcm:∀j∈l1,∀x,ops[j]?=some x→Jp E ops x ops[i]=true:=by
        intro j hj x hx;have hji:j<i:=p3 j hj i Ak7;have h1:=A9 (A9 hm his) hji;simp only[Alz,Alj]at h1;rcases h1 with h1|h1
        · exact(Ef hc hd i his hid j h1 (AlV _ hj)).elim
        · simp only[hx,Ak9 his]at h1
          exact h1
      obtain⟨st1,h1,h2⟩:=Gn (Ak9 his) l1 st hcm hst;refine L1 hE hO (Ak9 his) h1 hr fun a1 w1 g1 hr1 he1 hg1=>?_
      refine ih (l1++l2) (listed.setIfInBounds i true) st1 a1 w1 g1 ?_ ?_ ?_ ?_ ?_ h2 hr1 ?_
      · simp at hf ⊢;omega
      · exact hp.sublist (Amu (AmC i l2) l1)
      · simp[hs]
      · intro j
        rw[hmem j,←hl j];by_cases e:j=i
        · subst e
          have:j<listed.size:=by omega
          simp[Array.getD,this]
        · rw[getD_set_ne true (fun h=>e h.symm)]
          simp[e]
      · intro k hk hkn d hdk hdm
        have hd2:=((hmem d).1 hdm).1;by_cases e:k=i
        · subst e
          exact hid d hdk hd2
        · exact hd k hk (fun h=>hkn ((hmem k).2 ⟨h,e⟩)) d hdk hd2
      · intro a' w' g' hr' he' hg'
        exact hq a' w' g' hr' (he1.trans he') (hg1.trans hg')
theorem Jg{w':World}{a:Act}(hr:Rel E w g st a)(h:SameMem w w'):Rel E w' g st a :=
 ⟨hr.size,fun t x hx=>OG h (hr.slot t x hx),hr.mem.same h,hr.defers.evo (n:=0) (Evo.same h)⟩
theorem MG(hE:E.Ok){orc:Option Tmp→Orc}(hO:∀d,Md E.toBase (orc d))(hP:E.P.follows .mixedOrders=true){l:List Oper}(T:List (List Nat))(hok1:Fz l.toArray T=true)(hok2:GV E l.toArray T=true){K:CW} (hst:Bq E orc l.toArray (List.range l.length) st=some st') (hk:K .normal st'):Run E n (.region id l.toArray true) st K:=by
 intro hcm a w g hr Q hq;refine J4 (Kb hcm) (wp_region_any hP ?_);have hsm:SameMem w { w with drawn:=w.drawn+1 }:=⟨rfl,rfl,rfl,rfl⟩;refine Vc hE hO hok1 hok2 l.toArray.size (List.range l.length) _ st a _ g (by simp) Amj (by simp) ?_ ?_ hst (Jg hr hsm) ?_
 ·intro j;rw[AlF];by_cases h:j<l.length<;>simp[Array.getD,h]
 ·intro k hk hkn;exact(hkn (AlF.2 (by simpa using hk))).elim
 ·intro a' w' g' hr' he hg;exact hq _ _ _ _ _ hk hr' ((Evo.same hsm).trans (he.of_gle hg))
end Go.Rv
