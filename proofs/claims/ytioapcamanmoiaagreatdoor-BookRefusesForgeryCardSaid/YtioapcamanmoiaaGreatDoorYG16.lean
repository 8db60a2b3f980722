/-
  Part 16.
-/
import Derived.Test.YtioapcamanmoiaaGreatDoorYG15
import Derived.Orders
namespace Go.Rv
set_option linter.unusedVariables false
set_option linter.unusedSimpArgs false
variable{w:World}{g:Gh}{v x y:AV}{σ σ' σ2:Am}{fr fr':List AV}{op:Op}{d:Option Tmp}{c:Call}{ops:Array Oper}{o:Oper}{t s:TypeId}{r:AV×Am}{id n i:Nat}{st st':St}{T:List (List Nat)}
variable {E:Env}
structure Orc where
  fz:FuncId→List AV→Option AV
  own:FuncId→List AV→Am→Option (AV×Am)
def Rg(E:Env)(c:Call):Bool:=match c.callee with
 |.value (.func f)=>E.own f c.args.toList
 |_=>false
def Aec(orc:Orc)(fr:List AV)(σ:Am)(c:Call):Option (AV×Am) :=
 match c.callee with
 |.value f=>match ev fr f with
  |.fn fid []=>orc.own fid (c.args.toList.map (ev fr)) σ
  |_=>none
 |_=>none
def Li(orc:Orc)(fr:List AV)(σ:Am)(c:Call):Option AV :=
 match c.callee with
 | .value f=>match ev fr f with
  | .fn fid []=>match(c.args.toList.map (ev fr)).mapM (fz σ)with
   |some args=>match orc.fz fid args with
    |some r=>if r.scalar=true∨(c.args.toList.map (ev fr)).flatMap BS=[]then some r else none
    |none=>none
   |none=>none
  |_=>none
 |_=>none
def CI(E:Env)(orc:Orc)(op:Op)(fr:List AV)(σ:Am):Option (AV×Am) :=
 match op with
 |.call c=>match c.callee with
  |.builtin _=>E4 E fr σ op
  |_=>if Rg E c=true then Aec orc fr σ c else(Li orc fr σ c).map fun r=>(r,σ)
 |op=>E4 E fr σ op
theorem MC{pr:Addr→Prop}{v:Value}(h:Rep w pr g v x):x.under g.length=true:=by
  induction h with
  |bs g v full id tot off len b hb hx ht h ho=>simpa [AV.under]using(ApR.1 hb).1
  |ref g id off β b hb hx hβ=>simpa [AV.under]using(ApR.1 hb).1
  |tref g id t β b hb hx hβ ht=>simpa [AV.under]using(ApR.1 hb).1
  |mref g id β b hb hx hβ=>simpa [AV.under]using(ApR.1 hb).1
  |yld g id β b hb hx hβ=>simpa [AV.under]using(ApR.1 hb).1
  |nref g v id b hb hx h=>simpa [AV.under]using(ApR.1 hb).1
  |eref g v id tot i j b hb hx ht h ho=>simpa [AV.under]using(ApR.1 hb).1
  | agg g vs cs hs ho hr ih=>
    simp only[AV.under,Ap8];rintro⟨x,hx⟩ _;obtain⟨i,hi⟩:=Aq3.1 hx;exact ih i x hi
  | tup g vs cs hs hr ih=>
    simp only[AV.under,Ap8];rintro⟨x,hx⟩ _;obtain⟨i,hi⟩:=Aq3.1 hx;exact ih i x hi
  | fn g f caps cs hs hr hn ih=>
    simp only[AV.under,Ap8];rintro⟨x,hx⟩ _;obtain⟨i,hi⟩:=Aq3.1 hx;exact ih i x hi
  | fnb g f fs cs hs hr ih=>
    simp only[AV.under,Ap8];rintro⟨x,hx⟩ _;rw[ArV]at hx;subst hx;simp only[AV.under,Ap8];rintro⟨y,hy⟩ _;obtain⟨i,hi⟩:=Aq3.1 hy;exact ih i y hi
  |iface g t v x hr ih=>simpa [AV.under]using ih
  |_=>simp[AV.under]
theorem Np(hm:Mem E w g σ):∀ab∈σ,Wn σ.length ab:=by
  intro ab hab;obtain⟨id,hid⟩:=Aq3.1 hab;have hl:id<g.length:=by rw[hm.len];exact(ApR.1 hid).1
  have hk:=hm.blk id g[id] ab (ApW hl) hid;cases ab with
  | box cs ro=>
    obtain⟨k1,k2,k3,k4,k5,β,arr,t,fz,k6,k7,k8,k9,k10⟩:=hk;intro x hx;obtain⟨j,hj⟩:=Aq3.1 hx;have:=MC (k10 j x hj).1;rwa[hm.len]at this
  | buf k els ro=>
    obtain⟨k1,k2,k3,k4,k5,k6,k7⟩:=hk;intro cs hcs x hx;obtain⟨i,hi⟩:=Aq3.1 hcs;obtain⟨j,hj⟩:=Aq3.1 hx;cases hb:g[id].blk with
    | none=>
      rcases(k6 hb).1 with this|this
      · subst this
        simp at hi
      · have h1:=k5 i cs hi
        have h2:=(ApR.1 hj).1;omega
    | some β=>
      obtain⟨arr,t,fz,g1,g2,g3,g4,g5⟩:=k7 β hb;have:=MC (g5 i cs j x hi hj).1;rwa[hm.len]at this
  |obj o=>exact trivial
  |mp es=>exact trivial
  | lp y N1 l1 ps as1 bd=>
    obtain⟨k1,β,f,T,D,k2,k3,k4,k5⟩:=hk;intro p hp;have:=MC (k5 p hp);rwa[hm.len]at this
  |gone=>exact trivial
  |tb T l=>exact trivial
def HK(σ:Am)(r:AV×Am):Option (AV×Am) :=
 match r with
 |(.bs full id tot off len,σ')=>if id=σ.length then(Bs σ' (.bs full id tot off len)).map fun y=>(y,σ)else none
 |_=>none
theorem UC{w':World}{g1:Gh}{v:Value}(hm:Mem E w g σ)(hp:∃bs,σ'=σ++bs)(h:HK σ (x,σ')=some (y,σ2)) (m1:Mem E w' g1 σ') (h3:GLe g g1) (h4:Evo E 0 w g w' g1) (h5:Rep w' (A2 E g1) g1 v x) :σ2=σ∧Mem E w' (g1.take σ.length) σ∧GLe g (g1.take σ.length)∧Evo E 0 w g w' (g1.take σ.length)∧Rep w' (A2 E (g1.take σ.length)) (g1.take σ.length) v y:=by
 obtain⟨bs,rfl⟩:=hp;have ht:(σ++bs).take σ.length=σ:=by simp
 unfold HK at h;split at h
 case h_2=>cases h
 rename_i full id tot off len σ3 he;cases he;split at h
 case isFalse=>cases h
 rename_i hid;rw[ApS]at h;obtain⟨y',hy,h⟩:=h;cases h;have hmt:=QB m1 σ.length (by rw[ht];exact Np hm);rw[ht]at hmt;refine⟨rfl,hmt,?_,?_,?_⟩
 ·intro id b hb;obtain⟨b',hb',hs⟩:=h3 id b hb;exact⟨b',Gd hb' (by rw[←hm.len];exact(ApR.1 hb).1),hs⟩
 ·exact⟨h4.os,h4.tape,h4.output,h4.size,fun a u hc hpr=>⟨(h4.cells a u hc hpr).1,Hw (h4.cells a u hc hpr).2⟩,
   fun β hβ hn=>⟨(h4.blocks β hβ hn).1,fun h=>(h4.blocks β hβ hn).2 (Iy h)⟩,fun id hid=>absurd hid (Aqy _)⟩
 ·refine(H8 (pr:=A2 E (g1.take σ.length)) m1 h5 hy (fun a=>Hw) ?_).mono (fun a u hc hpr=>⟨hc,hpr⟩) (GLe.nil _);rintro id' b ⟨_,_,_,_,e⟩ hb β off' hβ _;cases e;refine⟨fun hF=>(m1.foreign _ hF).2 ⟨id,b,hb,hβ⟩,fun id2 c hc he=>?_⟩;have:=m1.inj id2 id c b β (Gc hc).1 hb he hβ;have:=(Gc hc).2;omega
theorem Bk{α:Type}(x:Option α):x.bind some=x:=by cases x<;>rfl
def Ace(t:Tmp):Operand→Bool
 |.tmp s=>s==t
 |_=>false
def Aa6(t:Tmp):List Operand→Bool
 |[]=>false
 |_::r=>r.any (Ace t)
def Wc:Builtin→Bool
 |.append=>true
 |_=>false
theorem M1:Wc .append=true:=rfl
def Af5(t:Tmp)(o:Oper):Bool:=match o.op with
 |.call c=>match c.callee with
  |.value _=>c.args.toList.any (Ace t)
  |.builtin b=>Aa6 t c.args.toList&&Wc b
  |_=>false
 |.buildSlice _ _ parts=>parts.toList.any fun p=>Ace t p.2
 |_=>false
def Ei(E:Env)(t:TypeId):Bool:=match E.tab t with
 |some d=>match d.desc with
  |.slice _=>true
  |_=>false
 |none=>false
def F7(E:Env)(ops:Array Oper)(o:Oper):Bool:=match o.dst with
 |some t=>match o.op with
  |.buildSlice ..=>ops.toList.any (Af5 t)
  |.convert _ d _=>Ei E d&&ops.toList.any (Af5 t)
  |_=>false
 |none=>false
def FF(b:Bool)(σ:Am)(r:AV×Am):Option (AV×Am):=if b then HK σ r else some r
def E0(E:Env)(orc:Option Tmp→Orc)(ops:Array Oper)(o:Oper)(fr:List AV)(σ:Am):Option (AV×Am) :=
 match Ix ops fr o with
 |some true=>(CI E (orc o.dst) o.op fr σ).bind (FF (F7 E ops o) σ)
 |some false=>some (.tup [],σ)
 |none=>none
def CC(E:Env)(orc:Option Tmp→Orc)(ops:Array Oper)(o:Oper)(st:St):Option St :=
 (E0 E orc ops o st.fr st.σ).map fun r=>⟨AP st.fr o.dst r.1,r.2⟩
def B2(E:Env)(orc:Option Tmp→Orc)(ops:Array Oper):List Nat→St→Option St
 |[],st=>some st
 |i::l,st=>match ops[i]? with
  |some o=>(CC E orc ops o st).bind (B2 E orc ops l)
  |none=>none
theorem Abu{x:Operand}(h:∀t,x=.tmp t→fr[t]?=fr'[t]?):ev fr x=ev fr' x:=by
 cases x with
 |tmp t=>simp only[ev,List.getD,h t rfl]
 |_=>rfl
theorem KR(h:∀x∈op.operands,ev fr x=ev fr' x):E4 E fr σ op=E4 E fr' σ op:=by
 have m1:∀(l:List Operand),(∀x∈l,x∈op.operands)→l.map (ev fr)=l.map (ev fr'):=fun l hl=>Arz fun x hx=>h x (hl x hx)
 cases op<;>simp only[E4]
 case move x=>rw[h x (by simp[Op.operands])]
 case assign x=>rw[h x (by simp[Op.operands])]
 case pick c a b=>rw[h c (by simp[Op.operands]),h a (by simp[Op.operands]),h b (by simp[Op.operands])]
 case box t x=>rw[h x (by simp[Op.operands])]
 case build t parts=>
  have:(parts.toList.map fun(i,x)=>(i,ev fr x))=(parts.toList.map fun(i,x)=>(i,ev fr' x)):=Arz fun p hp=>by
   have:=h p.2 (by simp[Op.operands];exact⟨p.1,by simpa using hp⟩);simp[this]
  rw[this]
 case buildSlice t n parts=>
  have:(parts.toList.map fun(i,x)=>(i,ev fr x))=(parts.toList.map fun(i,x)=>(i,ev fr' x)):=Arz fun p hp=>by
   have:=h p.2 (by simp[Op.operands];exact⟨p.1,by simpa using hp⟩);simp[this]
  rw[this]
 case load t x=>rw[h x (by simp[Op.operands])]
 case store t x y=>rw[h x (by simp[Op.operands]),h y (by simp[Op.operands])]
 case nilCheck x=>rw[h x (by simp[Op.operands])]
 case range t x=>rw[h x (by simp[Op.operands])]
 case makeMap t r=>cases r<;>rfl
 case insert t m k x=>rw[h m (by simp[Op.operands]),h k (by simp[Op.operands]),h x (by simp[Op.operands])]
 case mapUpdate t m k x=>rw[h m (by simp[Op.operands]),h k (by simp[Op.operands]),h x (by simp[Op.operands])]
 case next it b=>
  cases b with
  |false=>rfl
  |true=>simp only;rw[h it (by simp[Op.operands])]
 case binOp op t x y u=>rw[h x (by simp[Op.operands]),h y (by simp[Op.operands])]
 case unOp op t x=>rw[h x (by simp[Op.operands])]
 case convert s d x=>rw[h x (by simp[Op.operands])]
 case makeInterface t x=>rw[h x (by simp[Op.operands])]
 case makeFunc fn first caps=>
  have:caps.toList.map (ev fr)=caps.toList.map (ev fr'):=m1 _ (fun x hx=>by simp[Op.operands];exact .inr (by simpa using hx));have t2:first.toList.map (ev fr)=first.toList.map (ev fr'):=m1 _ (fun x hx=>by simp[Op.operands];exact .inl (by simpa using hx))
  cases fn<;>simp only[this,t2]
 case makeSlice t x y=>rw[h x (by simp[Op.operands]),h y (by simp[Op.operands])]
 case slice t x lo hi mx=>
  have hx:=h x (by simp[Op.operands]);have hl:lo.map (ev fr)=lo.map (ev fr'):=by cases lo with|none=>rfl|some l=>simp[h l (by simp[Op.operands])]
  have hh:hi.map (ev fr)=hi.map (ev fr'):=by cases hi with|none=>rfl|some l=>simp[h l (by simp[Op.operands])]
  have hm:mx.map (ev fr)=mx.map (ev fr'):=by cases mx with|none=>rfl|some l=>simp[h l (by simp[Op.operands])]
  rw[hx,hl,hh,hm]
 case fieldAddr s x f=>rw[h x (by simp[Op.operands])]
 case field s x f=>rw[h x (by simp[Op.operands])]
 case indexAddr t x y=>rw[h x (by simp[Op.operands]),h y (by simp[Op.operands])]
 case index t x y=>rw[h x (by simp[Op.operands]),h y (by simp[Op.operands])]
 case sliceToArrayPointer t x=>rw[h x (by simp[Op.operands])]
 case lookup t x y ok=>rw[h x (by simp[Op.operands]),h y (by simp[Op.operands])]
 case extract x i=>rw[h x (by simp[Op.operands])]
 case call c=>
  cases hc:c.callee<;>simp only[];have:c.args.toList.map (ev fr)=c.args.toList.map (ev fr'):=m1 _ (fun x hx=>by simp[Op.operands,Call.operands];exact .inr (by simpa using hx));rw[this]
def L2(E:Env)(t:TypeId):Bool:=match E.tab t with
 |some d=>match d.desc with
  |.array ..=>true
  |_=>false
 |none=>false
def PV(E:Env):Op→Bool
 |.alloc _|.box ..|.buildSlice ..|.store ..|.makeSlice ..|.range ..|.next ..|.makeMap ..|.insert ..|.mapUpdate ..=>true
 |.convert _ d _=>Ei E d
 |.slice t ..=>L2 E t
 |.call c=>match c.callee with
  |.builtin .len|.builtin .min|.builtin .max=>false
  |.builtin _=>true
  |_=>Rg E c
 |_=>false
def G8(E:Env):Op→Bool
 |.load ..|.fieldAddr ..|.indexAddr ..|.slice ..|.convert ..|.lookup ..=>true
 |.call c=>match c.callee with
  |.builtin .min|.builtin .max=>false
  |_=>true
 |op=>PV E op
theorem KF(he:PV E op=false)(h:E4 E fr σ op=some (x,σ')):σ'=σ:=by
  cases op<;>simp only[E4]at h<;>simp only[PV]at he<;>try (cases h;done)
  case move y=>cases h;rfl
  case assign y=>cases h;rfl
  case pick c a b=>split at h<;>first|(cases h;rfl)|cases h
  case alloc=>cases he
  case range=>cases he
  case makeMap=>cases he
  case insert=>cases he
  case mapUpdate=>cases he
  case next=>cases he
  case box=>cases he
  case build t parts=>rw[ApS]at h;obtain⟨_,_,h⟩:=h;cases h;rfl
  case buildSlice=>cases he
  case load t y=>
    split at h
    · rw[ApS]at h;obtain⟨_,_,h⟩:=h;cases h;rfl
    · cases h
  case store=>cases he
  case nilCheck y=>split at h<;>first|(cases h;rfl)|cases h
  case binOp op t y z u=>rw[ApS]at h;obtain⟨_,_,h⟩:=h;cases h;rfl
  case unOp op t y=>rw[ApS]at h;obtain⟨_,_,h⟩:=h;cases h;rfl
  case lookup t y z ok=>rw[ApS]at h;obtain⟨_,_,h⟩:=h;cases h;rfl
  case convert s d y=>
    unfold BG at h;unfold Ei at he;split at h
    case h_2=>cases h
    rename_i ds dd hs hd;rw[hd]at he;simp only at he;split at h
    · cases h;rfl
    · cases h;rfl
    · rename_i hdd _;rw[hdd]at he;cases he
    · split at h
      · cases h
      split at h
      case h_2=>cases h
      split at h
      case h_2=>cases h
      split at h
      · cases h;rfl
      · cases h
    · rename_i hdd _;rw[hdd]at he;cases he
    · cases h
  case makeFunc fn first caps=>
    split at h
    · split at h
      · split at h
        · cases h
        · cases h;rfl
      · split at h
        · cases h;rfl
        · cases h
    · cases h
  case makeInterface t y=>
    split at h
    · split at h
      · cases h
      · cases h;rfl
    · cases h
  case makeSlice=>cases he
  case slice t y lo hi mx=>
    unfold GJ at h;unfold L2 at he;cases ht:E.tab t with
    |none=>simp[ht]at h
    | some d=>
      simp only[ht]at h he;split at h
      · split at h
        · split at h
          · cases h
          · cases h;rfl
        · cases h
      · split at h
        · split at h
          · cases h;rfl
          · cases h
        · cases h
      · split at h
        · split at h
          · split at h
            · cases h;rfl
            · cases h
          · cases h
        · cases h
      · rename_i hd _;rw[hd]at he;cases he
      · rename_i hd _;rw[hd]at he;cases he
      · cases h
  case fieldAddr s y f=>rw[ApS]at h;obtain⟨_,_,h⟩:=h;cases h;rfl
  case field s y f=>rw[ApS]at h;obtain⟨_,_,h⟩:=h;cases h;rfl
  case indexAddr t y i=>rw[ApS]at h;obtain⟨_,_,h⟩:=h;cases h;rfl
  case index t y i=>rw[ApS]at h;obtain⟨_,_,h⟩:=h;cases h;rfl
  case sliceToArrayPointer t y=>rw[ApS]at h;obtain⟨_,_,h⟩:=h;cases h;rfl
  case extract y i=>
    split at h
    · split at h
      · cases h;rfl
      · cases h
    · cases h
  case call c=>
    cases hc:c.callee<;>simp only[hc]at h he<;>try (cases h;done)
    rename_i b;unfold Bf at h;split at h
    · rw[ApS]at h;obtain⟨_,_,h⟩:=h;cases h;rfl
    · cases he
    · cases he
    · rw[ApS]at h;obtain⟨_,_,h⟩:=h;cases h;rfl
    · rw[ApS]at h;obtain⟨_,_,h⟩:=h;cases h;rfl
    · cases h
theorem GO(ht:G8 E op=false):E4 E fr σ2 op=(E4 E fr σ op).map (fun r=>(r.1,σ2)):=by
 cases op<;>simp only[G8,PV]at ht<;>try (cases ht;done)
 all_goals simp only[E4]
 all_goals try rfl
 case pick c a b=>split<;>rfl
 case build t parts=>simp only[Aq4];rfl
 case nilCheck y=>split<;>rfl
 case binOp op t y z u=>simp only[Aq4];rfl
 case unOp op t y=>simp only[Aq4];rfl
 case makeFunc fn first caps=>
  split
  ·split
   ·split<;>rfl
   ·split<;>rfl
  ·rfl
 case makeInterface t y=>
  split
  ·split<;>rfl
  ·rfl
 case field s y f=>simp only[Aq4];rfl
 case index t y i=>simp only[Aq4];rfl
 case sliceToArrayPointer t y=>simp only[Aq4];rfl
 case extract y i=>
  split
  ·split<;>rfl
  ·rfl
 case call c=>
  cases hc:c.callee<;>simp only[hc]at ht ⊢<;>try rfl
  rename_i b;cases b<;>simp only at ht<;>try (cases ht;done)
  all_goals
   unfold Bf;split<;>first|(exfalso;simp_all;done)|rfl|(simp only[Aq4];rfl)
theorem DZ(fr:List AV){x y:Option Tmp}(v u:AV)(h:∀d,x=some d→y≠some d):AP (AP fr x v) y u=AP (AP fr y u) x v:=by
  cases x with
  |none=>rfl
  | some d=>
    cases y with
    |none=>rfl
    |some e=>exact List.set_comm _ _ (fun he=>h d rfl (by rw[he]))
theorem Qp{x:Operand}(h:∀e,d=some e→x≠.tmp e):ev (AP fr d v) x=ev fr x:=by
  refine Abu fun t hx=>?_
  cases d with
  |none=>rfl
  | some e=>
    have:e≠t:=fun he=>h e rfl (by rw[hx,he])
    simp[AP,Aqx this]
theorem VA{orc:Orc}(h:∀x∈(Op.call c).operands,ev fr x=ev fr' x):Li orc fr σ c=Li orc fr' σ c:=by
 have ha:c.args.toList.map (ev fr)=c.args.toList.map (ev fr'):=Arz fun x hx=>h x (by simp[Op.operands,Call.operands];exact .inr (by simpa using hx))
 unfold Li;cases hc:c.callee<;>simp only[];rename_i f;rw[h f (by simp[Op.operands,Call.operands,hc]),ha]
theorem X8{orc:Orc}(h:∀x∈(Op.call c).operands,ev fr x=ev fr' x):Aec orc fr σ c=Aec orc fr' σ c:=by
 have ha:c.args.toList.map (ev fr)=c.args.toList.map (ev fr'):=Arz fun x hx=>h x (by simp[Op.operands,Call.operands];exact .inr (by simpa using hx))
 unfold Aec;cases hc:c.callee<;>simp only[];rename_i f;rw[h f (by simp[Op.operands,Call.operands,hc]),ha]
theorem VM{orc:Orc}(h:∀x∈op.operands,ev fr x=ev fr' x):CI E orc op fr σ=CI E orc op fr' σ:=by
  cases op with
  | call c=>
    simp only[CI];rw[VA h,X8 h];cases hc:c.callee<;>simp only[];exact KR h
  |_=>exact KR (E:=E) (σ:=σ) h
theorem Ng{orc:Orc}(he:PV E op=false)(h:CI E orc op fr σ=some (x,σ')):σ'=σ:=by
  cases op with
  | call c=>
    simp only[CI]at h;cases hc:c.callee<;>simp only[hc]at h
    case builtin b=>exact KF he h
    all_goals
      simp only[PV,hc]at he;simp only[he,AqF,ArA]at h;rw[ApS]at h;obtain⟨_,_,h⟩:=h;cases h;rfl
  |_=>exact KF (fr:=fr) he h
theorem QZ{orc:Orc}(ht:G8 E op=false):CI E orc op fr σ2=(CI E orc op fr σ).map (fun r=>(r.1,σ2)):=by
  cases op with
  | call c=>
    simp only[CI];cases hc:c.callee<;>simp only[]
    case builtin b=>exact GO ht
    all_goals (simp only[G8,hc]at ht;cases ht)
  |_=>exact GO (fr:=fr) (σ:=σ) ht
theorem TQ{t:Tmp}(h:Operand.tmp t∈o.op.operands):t∈o.looksAt ops:=by
 unfold Oper.looksAt;rw[Aql];left;rw[Asx];exact⟨.tmp t,by simpa using h,rfl⟩
theorem QM(h:∀e,d=some e→e ∉ o.looksAt ops):Ix ops (AP fr d v) o=Ix ops fr o:=by
  unfold Ix;cases hg:o.guard with
  |none=>rfl
  | some g=>
    obtain⟨j,want⟩:=g;simp only;congr 1;unfold Ke;cases hj:(ops[j]?).bind (·.dst)with
    |none=>simp[hj]
    | some t=>
      cases d with
      |none=>rfl
      | some e=>
        have:e≠t:=fun he=>h e rfl (by simp[Oper.looksAt,hg,hj,he])
        simp[hj,AP,Aqx this]
theorem BC{orc:Option Tmp→Orc}(h:∀e,d=some e→e ∉ o.looksAt ops):E0 E orc ops o (AP fr d v) σ=E0 E orc ops o fr σ:=by
 unfold E0;rw[QM h,VM (fun x hx=>Qp fun e he hxe=>h e he (TQ (hxe ▸ hx)))]
def SZ(E:Env)(ops:Array Oper)(o:Oper):Bool:=PV E o.op&&!F7 E ops o
theorem K8(h:SZ E ops o=false):F7 E ops o=true∨(F7 E ops o=false∧PV E o.op=false):=by
 unfold SZ at h;cases hf:F7 E ops o
 ·rw[hf]at h;right;simpa using h
 ·exact .inl rfl
theorem Ec(h:F7 E ops o=true):(∃t n l,o.op=.buildSlice t n l)∨(∃s d x,o.op=.convert s d x∧Ei E d=true):=by
 unfold F7 at h;split at h
 case h_2=>cases h
 split at h
 ·rename_i hop;exact .inl ⟨_,_,_,hop⟩
 ·rename_i hop;exact .inr ⟨_,_,_,hop,(Aso.1 h).1⟩
 ·cases h
theorem VG(h:HK σ r=some (y,σ')):σ'=σ:=by
 unfold HK at h;split at h
 case h_2=>cases h
 split at h
 case isFalse=>cases h
 rw[ApS]at h;obtain⟨_,_,h⟩:=h;cases h;rfl
theorem Dy{orc:Option Tmp→Orc}(he:SZ E ops o=false)(h:E0 E orc ops o fr σ=some (x,σ')):σ'=σ:=by
 unfold E0 at h;split at h
 ·rw[Ap4]at h;obtain⟨⟨v,σ1⟩,h1,h2⟩:=h;unfold FF at h2;rcases K8 he with hf|⟨hf,he⟩
  ·rw[hf,ApU rfl]at h2;exact VG h2
  ·rw[hf]at h2;simp only[AqF,ArA]at h2;cases h2;exact Ng he h1
 ·cases h;rfl
 ·cases h
theorem X6(ht:G8 E o.op=false):F7 E ops o=false:=by
 cases hf:F7 E ops o
 ·rfl
 ·rcases Ec hf with⟨t,n,l,h⟩|⟨s,d,x,h,_⟩
  ·rw[h]at ht;cases ht
  ·rw[h]at ht;cases ht
theorem LK{orc:Option Tmp→Orc}(ht:G8 E o.op=false):E0 E orc ops o fr σ2=(E0 E orc ops o fr σ).map (fun r=>(r.1,σ2)):=by
 unfold E0;rw[X6 ht];have e:∀σ,FF false σ=some:=fun σ=>by funext r;simp[FF]
 rw[e,e];split
 ·rw[QZ (σ:=σ) ht];cases CI E (orc o.dst) o.op fr σ<;>rfl
 ·rfl
 ·rfl
theorem Iv{b:ABlk}(bs:Am)(h:σ[id]?=some b):(σ++bs)[id]?=some b:=by
 rw[Ap0 (ApR.1 h).1];exact h
theorem WY{d:TD}{a:AV}(bs:Am)(h:loadA E σ d a=some x):loadA E (σ++bs) d a=some x:=by
 cases a<;>simp only[loadA]at h ⊢<;>try exact h
 case ref id off=>
  cases e:σ[id]? with
  |none=>simp[e]at h
  |some b=>rw[e]at h;rw[Iv bs e];exact h
 case eref id tot i j=>
  cases e:σ[id]? with
  |none=>simp[e]at h
  |some b=>rw[e]at h;rw[Iv bs e];exact h
theorem S9{tot:Nat}(bs:Am)(h:YX σ id tot=true):YX (σ++bs) id tot=true:=by
 unfold YX at h ⊢;cases e:σ[id]? with
 |none=>simp[e]at h
 |some b=>rw[e]at h;rw[Iv bs e];exact h
theorem AaG{l:List (List AV)}(bs:Am)(h:Gg σ x=some l):Gg (σ++bs) x=some l:=by
 cases x<;>simp only[Gg]at h ⊢<;>try exact h
 case bs full id tot off len=>
  cases e:σ[id]? with
  |none=>simp[e]at h
  |some b=>rw[e]at h;rw[Iv bs e];exact h
theorem YR(bs:Am)(h:AaD E σ t x=some n):AaD E (σ++bs) t x=some n:=by
  unfold AaD at h ⊢;cases ht:E.tab t with
  |none=>simp[ht]at h
  | some d=>
    simp only[ht]at h ⊢;split at h<;>try (simp_all;done)
    rename_i id tot off len hd;cases e:σ[id]? with
    |none=>simp[e]at h
    |some b=>rw[e]at h;simp only[hd,Iv bs e];exact h
theorem Nr{f:Nat}(bs:Am)(h:B0 E σ s x f=some y):B0 E (σ++bs) s x f=some y:=by
 unfold B0 at h ⊢
 repeat' split at h
 all_goals try (cases h;done)
 all_goals try (simp_all;done)
 all_goals (rename_i hc;simp_all [S9 bs hc])
theorem N0{i:AV}(bs:Am)(h:Av E σ t x i=some y):Av E (σ++bs) t x i=some y:=by
  unfold Av at h ⊢;cases ht:E.tab t with
  |none=>simp[ht]at h
  | some d=>
    simp only[ht]at h ⊢;cases hd:d.desc<;>simp only[hd]at h ⊢<;>try (cases h;done)
    case array n e=>
      cases he:E.tab e with
      |none=>simp[he]at h
      | some de=>
        cases hi:idx i n with
        |none=>simp[he,hi]at h
        | some k=>
          simp only[he,hi]at h ⊢;cases x<;>simp only at h ⊢<;>try exact h
          case eref id tot i0 j=>
            split at h
            case isFalse=>cases h
            rename_i hc;rw[ApU (S9 bs hc)];exact h
    case slice e=>
      cases he:E.tab e with
      |none=>simp[he]at h
      | some de=>
        simp only[he]at h ⊢;cases x<;>simp only at h ⊢<;>try exact h
        case bs full id tot off len=>
          cases e2:σ[id]? with
          |none=>simp[e2]at h
          |some b=>rw[e2]at h;rw[Iv bs e2];exact h
theorem Vm{lo hi mx:Option AV}(bs:Am)(he:L2 E t=false)(h:GJ E σ t x lo hi mx=some (y,σ')):GJ E (σ++bs) t x lo hi mx=some (y,σ++bs):=by
  unfold GJ at h ⊢;unfold L2 at he;cases ht:E.tab t with
  |none=>simp[ht]at h
  | some d=>
    simp only[ht]at h he ⊢;cases hd:d.desc<;>simp only[hd]at h he ⊢<;>try (first|(cases h;done)|(cases he;done))
    case string=>
      cases x<;>simp only at h ⊢<;>try (cases h;done)
      repeat' split at h
      all_goals try (cases h;done)
      cases h;simp_all
    case slice e=>
      cases x<;>simp only at h ⊢<;>try (cases h;done)
      case sl full els=>
        repeat' split at h
        all_goals try (cases h;done)
        cases h;simp_all
      case bs full id tot off len=>
        cases e2:σ[id]? with
        |none=>simp[e2]at h
        | some b=>
          rw[e2]at h;rw[Iv bs e2]
          repeat' split at h
          all_goals try (cases h;done)
          cases h;simp_all
theorem Rl{d:TypeId}(bs:Am)(he:Ei E d=false)(h:BG E σ s d x=some (y,σ')):BG E (σ++bs) s d x=some (y,σ++bs):=by
 unfold BG at h ⊢;unfold Ei at he;split at h
 case h_2=>cases h
 rename_i ds dd hs hd;rw[hd]at he;simp only at he;split at h
 ·cases h;rfl
 ·cases h;rfl
 ·simp_all
 ·split at h
  ·cases h
  rename_i hb;split at h
  case h_2=>cases h
  rename_i hde;split at h
  case h_2=>cases h
  rename_i hu hv;split at h
  ·rename_i hl;cases h;simp[hb,hu,AaG bs hv,hl]
  ·cases h
 ·simp_all
 ·cases h
theorem Ph(bs:Am)(h:Bs σ x=some y):Bs (σ++bs) x=some y:=by
 cases x<;>simp only[Bs]at h ⊢<;>try exact h
 case bs full id tot off len=>
  cases e:σ[id]? with
  |none=>simp[e]at h
  |some b=>rw[e]at h;rw[Iv bs e];exact h
theorem O8{α β:Type}{f g:α→Option β}(hfg:∀x y,f x=some y→g x=some y):∀{l:List α} {ys:List β},l.mapM f=some ys→l.mapM g=some ys
  |[],_,h=>by simpa using h
  | x::l,ys,h=>by
    rw[Arw]at h ⊢;simp only[Asa,Ap4]at h ⊢;obtain⟨y,hy,zs,hz,h⟩:=h;exact⟨y,hfg _ _ hy,zs,O8 hfg hz,h⟩
theorem Af6(bs:Am)(h:fz σ x=some y):fz (σ++bs) x=some y:=by
 cases x<;>simp only[fz]at h ⊢<;>try exact Ph bs h
 case agg cs=>
  rw[ApS]at h ⊢;obtain⟨ys,h,e⟩:=h;exact⟨ys,O8 (fun _ _=>Ph bs) h,e⟩
theorem S5(bs:Am){k:AV}{ok:Bool}(h:Fi E σ t x k ok=some v):Fi E (σ++bs) t x k ok=some v:=by
  cases x with
  | mref id=>
    simp only[Fi]at h ⊢;cases hσ:σ[id]? with
    |none=>simp[hσ]at h
    | some b=>
      rw[Ap0 (ApR.1 hσ).1,hσ];rw[hσ]at h;exact h
  |_=>exact h
theorem S1(bs:Am)(he:PV E op=false)(h:E4 E fr σ op=some (x,σ')):E4 E fr (σ++bs) op=some (x,σ++bs):=by
  cases ht:G8 E op with
  | false=>
    rw[GO (σ:=σ) ht,h];rfl
  | true=>
    cases op<;>simp only[G8,PV]at ht he<;>try (cases ht;done)
    all_goals try (cases he;done)
    case load t y=>
      simp only[E4]at h ⊢;split at h
      case h_2=>cases h
      rename_i hd;rw[ApS]at h;obtain⟨v,hv,h⟩:=h;cases h;simp[hd,WY bs hv]
    case convert s d y=>exact Rl bs he h
    case slice t y lo hi mx=>exact Vm bs he h
    case lookup t y z ok=>
      simp only[E4]at h ⊢;rw[ApS]at h;obtain⟨v,hv,h⟩:=h;cases h;simp[S5 bs hv]
    case fieldAddr s y f=>
      simp only[E4]at h ⊢;rw[ApS]at h;obtain⟨v,hv,h⟩:=h;cases h;simp[Nr bs hv]
    case indexAddr t y i=>
      simp only[E4]at h ⊢;rw[ApS]at h;obtain⟨v,hv,h⟩:=h;cases h;simp[N0 bs hv]
    case call c=>
      simp only[E4]at h ⊢;cases hc:c.callee<;>simp only[hc]at h ht he ⊢<;>try (cases h;done)
      rename_i b;unfold Bf at h ⊢;split at h
      · rw[ApS]at h
        obtain⟨v,hv,h⟩:=h;cases h;simp[YR bs hv]
      · cases he
      · cases he
      · cases ht
      · cases ht
      · cases h
theorem X1{orc:Orc}{r:AV}(bs:Am)(h:Li orc fr σ c=some r):Li orc fr (σ++bs) c=some r:=by
 unfold Li at h ⊢;split at h
 case h_2=>cases h
 rename_i f hf;split at h
 case h_2=>cases h
 rename_i fid hv;split at h
 case h_2=>cases h
 rename_i args ha;simp only[O8 (fun _ _=>Af6 bs) ha];exact h
theorem Xd{orc:Orc}(bs:Am)(he:PV E op=false)(h:CI E orc op fr σ=some (x,σ')):CI E orc op fr (σ++bs)=some (x,σ++bs):=by
  cases op with
  | call c=>
    simp only[CI]at h ⊢;cases hc:c.callee<;>simp only[hc]at h ⊢
    case builtin b=>exact S1 bs he h
    all_goals
      simp only[PV,hc]at he;simp only[he,AqF,ArA]at h ⊢;rw[ApS]at h;obtain⟨v,hv,h⟩:=h;cases h;simp[X1 bs hv]
  |_=>exact S1 (fr:=fr) bs he h
theorem TR(ρ:Am)(hf:(∃t n l,op=.buildSlice t n l)∨(∃s d x,op=.convert s d x∧Ei E d=true)) (h:(E4 E fr σ op).bind (HK σ)=some (y,σ')):(E4 E fr ρ op).bind (HK ρ)=some (y,ρ):=by
  have last:∀(b:ABlk) (f:Bool) (t o l:Nat),HK σ (.bs f σ.length t o l,σ++[b])=some (y,σ')→HK ρ (.bs f ρ.length t o l,ρ++[b])=some (y,ρ):=by
    intro b f t o l h;unfold HK at h ⊢;simp only[Arq,ApS,Ap2]at h ⊢;obtain⟨z,hz,rfl,rfl⟩:=h;refine⟨z,?_,rfl,trivial⟩;simp only[Bs]at hz ⊢;rw[ApY (Ap5 _),ArJ]at hz ⊢;exact hz
  rcases hf with⟨t,n,l,rfl⟩|⟨s,d,x,rfl,hd⟩
  · simp only[E4]at h ⊢
    unfold Dj at h ⊢;cases ht:E.tab t with
    |none=>simp[ht]at h
    | some dd=>
      simp only[ht]at h ⊢;cases hdd:dd.desc<;>simp only[hdd]at h ⊢<;>try (simp at h;done)
      rename_i e;cases he:E.tab e with
      |none=>simp[he]at h
      | some de=>
        simp only[he]at h ⊢;split at h
        · simp at h
        rename_i hn;rw[ApV hn];split at h
        case h_2=>simp at h
        rename_i els hels;exact last _ _ _ _ _ h
  · simp only[E4]at h ⊢
    unfold BG at h ⊢;unfold Ei at hd;cases ht:E.tab d with
    |none=>simp[ht]at hd
    | some dd=>
      simp only[ht]at hd;cases hdd:dd.desc<;>simp only[hdd]at hd<;>try (cases hd;done)
      rename_i e;cases hs:E.tab s with
      |none=>simp[hs]at h
      | some sd=>
        simp only[hs,ht,hdd]at h ⊢;generalize ev fr x=xv at h ⊢;split at h
        case h_3=>
          rename_i e' l hx;cases hx;cases he:E.tab e with
          |none=>simp[he]at h
          | some de=>
            simp only[he]at h ⊢;cases hde:de.desc<;>simp only[hde]at h ⊢<;>try (simp at h;done)
            rename_i k;cases k<;>simp only at h ⊢<;>try (simp at h;done)
            exact last _ _ _ _ _ h
        case h_5=>
          exfalso;split at h
          case isFalse=>simp at h
          split at h
          case h_2=>simp at h
          split at h
          case h_2=>simp at h
          split at h
          case isFalse=>simp at h
          rename_i hid _;simp only[ApX,HK]at h;split at h
          case isFalse=>cases h
          rename_i e2;have:=(ApR.1 hid).1;omega
        all_goals (exfalso;simp_all;done)
theorem Adm(bs:Am)(hf:(∃t n l,op=.buildSlice t n l)∨(∃s d x,op=.convert s d x∧Ei E d=true)) (h:(E4 E fr σ op).bind (HK σ)=some (y,σ')):(E4 E fr (σ++bs) op).bind (HK (σ++bs))=some (y,σ++bs):=TR _ hf h
theorem ZF{orc:Option Tmp→Orc}(bs:Am)(he:SZ E ops o=false)(h:E0 E orc ops o fr σ=some (x,σ')):E0 E orc ops o fr (σ++bs)=some (x,σ++bs):=by
 unfold E0 at h ⊢;split at h
 ·rcases K8 he with hf|⟨hf,he⟩
  ·rw[hf]at h ⊢;have e:∀σ,FF true σ=HK σ:=fun σ=>by funext r;simp[FF]
   rw[e]at h ⊢
   have e2:∀σ,CI E (orc o.dst) o.op fr σ=E4 E fr σ o.op:=by
    intro σ;rcases Ec hf with⟨t,n,l,h⟩|⟨s,d,x,h,_⟩<;>rw[h]<;>rfl
   rw[e2]at h ⊢;exact Adm bs (Ec hf) h
  ·rw[hf]at h ⊢;have e:∀σ,FF false σ=some:=fun σ=>by funext r;simp[FF]
   rw[e]at h ⊢;rw[Bk]at h ⊢;exact Xd bs he h
 ·cases h;rfl
 ·cases h
def R8:Op→Bool
 |.alloc _|.buildSlice ..=>true
 |_=>false
theorem Xl{orc:Option Tmp→Orc}(ha:R8 o.op=true)(h:E0 E orc ops o fr σ=some (x,σ')):∃bs,σ'=σ++bs:=by
 cases hf:F7 E ops o
 case true=>exact⟨[],by rw[Dy (by unfold SZ;rw[hf];simp) h];simp⟩
 unfold E0 at h;rw[hf]at h;have e:∀σ,FF false σ=some:=fun σ=>by funext r;simp[FF]
 rw[e,Bk]at h;split at h
 ·cases ho:o.op<;>simp only[ho,R8]at ha h<;>try (cases ha;done)
  ·simp only[CI,E4]at h;split at h
   ·split at h
    ·cases h
    ·split at h
     ·cases h;exact⟨_,rfl⟩
     ·cases h;exact⟨_,rfl⟩
   ·cases h
  ·simp only[CI,E4]at h;unfold Dj at h;split at h
   ·cases h
   split at h
   ·split at h
    ·split at h
     ·cases h
     ·split at h
      ·cases h;exact⟨_,rfl⟩
      ·cases h
    ·cases h
   ·cases h
 ·cases h;exact⟨[],by simp⟩
 ·cases h
def JC:ABlk→ABlk
 |.box cs _=>.box cs false
 |.buf k els _=>.buf k els false
 |.obj o=>.obj o
 |.tb T l=>.tb T l
 |.mp es=>.mp es
 |.lp y N l ps a b=>.lp y N l ps a b
 |.gone=>.gone
theorem Fp:(σ.map JC)[id]?=(σ[id]?).map JC:=by simp
theorem Xf{d:TD}{a:AV}:loadA E (σ.map JC) d a=loadA E σ d a:=by
 cases a<;>simp only[loadA,Fp]
 case ref id off=>cases σ[id]? with
  |none=>rfl
  |some b=>cases b<;>rfl
 case eref id tot i j=>cases σ[id]? with
  |none=>rfl
  |some b=>cases b<;>rfl
theorem SL{tot:Nat}:YX (σ.map JC) id tot=YX σ id tot:=by
 simp only[YX,Fp];cases σ[id]? with
 |none=>rfl
 |some b=>cases b<;>rfl
theorem AaN:Gg (σ.map JC) x=Gg σ x:=by
 cases x<;>simp only[Gg,Fp]
 case bs full id tot off len=>cases σ[id]? with
  |none=>rfl
  |some b=>cases b<;>rfl
theorem ZD:AaD E (σ.map JC) t x=AaD E σ t x:=by
  unfold AaD;cases E.tab t with
  |none=>rfl
  | some d=>
    obtain⟨desc,sz,bt,z⟩:=d;cases x with
    | bs full id tot off len=>
      cases desc<;>try rfl
      simp only[Fp];cases σ[id]? with
      |none=>rfl
      |some b=>cases b<;>rfl
    |_=>cases desc<;>rfl
theorem Ou{f:Nat}:B0 E (σ.map JC) s x f=B0 E σ s x f:=by
 unfold B0;simp only[SL]
theorem O5{i:AV}:Av E (σ.map JC) t x i=Av E σ t x i:=by
  unfold Av;cases E.tab t with
  |none=>rfl
  | some d=>
    obtain⟨desc,sz,bt,z⟩:=d;cases desc<;>dsimp only<;>try (first|rfl|(simp only[SL];done))
    rename_i e;generalize E.tab e=te;cases te with
    |none=>cases x<;>rfl
    | some de=>
      cases x<;>try rfl
      rename_i full id tot off len;dsimp only;simp only[Fp];cases σ[id]? with
      |none=>rfl
      |some b=>cases b<;>cases idx i len<;>rfl
theorem UM{σ: Am}{lo hi mx:Option AV}(he:L2 E t=false):(GJ E (σ.map JC) t x lo hi mx).map (·.1)=(GJ E σ t x lo hi mx).map (·.1):=by
  unfold GJ;unfold L2 at he;cases ht:E.tab t with
  |none=>rfl
  | some d=>
    rw[ht]at he;obtain⟨desc,sz,bt,z⟩:=d;cases desc<;>dsimp only at he ⊢<;>try (first|rfl|(cases he;done))
    · cases x<;>dsimp only<;>try rfl
      split<;>try rfl
      split<;>rfl
    · rename_i e
      cases x<;>dsimp only<;>try rfl
      · split<;>try rfl
        split<;>rfl
      · rename_i full id tot off len
        simp only[Fp];cases σ[id]? with
        |none=>rfl
        | some b=>
          cases b with
          |box=>rfl
          |obj o=>rfl
          |mp es=>rfl
          |lp y N1 l1 ps as1 bd=>rfl
          |gone=>rfl
          |tb T l=>rfl
          | buf k els ro=>
            simp only[Aqv,JC];generalize E.tab e=te;cases te with
            |none=>rfl
            | some de=>
              dsimp only;split<;>try rfl
              split<;>rfl
theorem Re{d:TypeId}(he:Ei E d=false):(BG E (σ.map JC) s d x).map (·.1)=(BG E σ s d x).map (·.1):=by
  unfold BG;unfold Ei at he;cases hs:E.tab s with
  |none=>rfl
  | some sd=>
    cases hd:E.tab d with
    |none=>rfl
    | some dd=>
      simp only[hd]at he ⊢;cases hdd:dd.desc<;>simp only[hdd]at he ⊢<;>try (first|rfl|(cases he;done))
      · cases x<;>first|rfl|(cases sd.desc<;>rfl)
      · cases x<;>cases sd.desc<;>try rfl
        all_goals
          simp only[AaN];split<;>try rfl
          split<;>try rfl
          split<;>try rfl
          split<;>rfl
theorem Nj:Bs (σ.map JC) x=Bs σ x:=by
 cases x<;>simp only[Bs,Fp]
 case bs full id tot off len=>cases σ[id]? with
  |none=>rfl
  |some b=>cases b<;>rfl
theorem Agw:fz (σ.map JC) x=fz σ x:=by
 cases x<;>simp only[fz,Nj];rename_i cs;congr 1;have:Bs (σ.map JC)=Bs σ:=funext fun x=>Nj
 rw[this]
theorem Yy{orc:Orc}:Li orc fr (σ.map JC) c=Li orc fr σ c:=by
 unfold Li;have:fz (σ.map JC)=fz σ:=funext fun x=>Agw
 rw[this]
theorem Tj{k:AV}{ok:Bool}:Fi E (σ.map JC) t x k ok=Fi E σ t x k ok:=by
  cases x with
  | mref id=>
    simp only[Fi,Fp];cases σ[id]? with
    |none=>rfl
    | some b=>
      cases b with
      |obj o=>rfl
      |mp es=>rfl
      |lp y N1 l1 ps as1 bd=>rfl
      |gone=>rfl
      |tb T l=>rfl
      |box cs ro=>cases ok<;>cases k<;>first|rfl|(cases TI E t with|none=>rfl|some d=>cases d<;>rfl)
      |buf n els ro=>cases ok<;>cases k<;>first|rfl|(cases TI E t with|none=>rfl|some d=>cases d<;>rfl)
  |_=>rfl
theorem SO(he:PV E op=false):(E4 E fr (σ.map JC) op).map (·.1)=(E4 E fr σ op).map (·.1):=by
  cases ht:G8 E op with
  | false=>
    rw[GO (σ:=σ) ht];cases E4 E fr σ op<;>rfl
  | true=>
    cases op<;>simp only[G8,PV]at ht he<;>try (cases ht;done)
    all_goals try (cases he;done)
    case load t y=>
      simp only[E4,Xf];split<;>simp only[Aq4]<;>rfl
    case convert s d y=>exact Re he
    case slice t y lo hi mx=>exact UM he
    case lookup t y z ok=>simp only[E4,Tj,Aq4];rfl
    case fieldAddr s y f=>
      simp only[E4,Ou,Aq4];rfl
    case indexAddr t y i=>
      simp only[E4,O5,Aq4];rfl
    case call c=>
      simp only[E4];cases hc:c.callee<;>simp only[hc]at ht he ⊢<;>try rfl
      rename_i b;cases b<;>simp only at ht he<;>try (first|(cases ht;done)|(cases he;done))
      unfold Bf;split<;>first|rfl|(simp only[ZD,Aq4];rfl)|(exfalso;simp_all;done)
theorem Q2{orc:Orc}(he:PV E op=false):(CI E orc op fr (σ.map JC)).map (·.1)=(CI E orc op fr σ).map (·.1):=by
  cases op with
  | call c=>
    simp only[CI];cases hc:c.callee<;>simp only[]
    case builtin b=>exact SO he
    all_goals
      simp only[PV,hc]at he;simp only[he,AqF,ArA,Yy,Aq4];rfl
  |_=>exact SO (fr:=fr) (σ:=σ) he
theorem So{orc:Option Tmp→Orc}{ρ:Am}(hρ:σ.map JC=ρ.map JC)(he:SZ E ops o=false)(h:E0 E orc ops o fr σ=some (x,σ')):E0 E orc ops o fr ρ=some (x,ρ):=by
 unfold E0 at h ⊢;split at h
 ·rcases K8 he with hf|⟨hf,he⟩
  ·rw[hf]at h ⊢;have e:∀σ,FF true σ=HK σ:=fun σ=>by funext r;simp[FF]
   rw[e]at h ⊢
   have e2:∀σ,CI E (orc o.dst) o.op fr σ=E4 E fr σ o.op:=by
    intro σ;rcases Ec hf with⟨t,n,l,h⟩|⟨s,d,x,h,_⟩<;>rw[h]<;>rfl
   rw[e2]at h ⊢;exact TR ρ (Ec hf) h
  ·rw[hf]at h ⊢;have e:∀σ,FF false σ=some:=fun σ=>by funext r;simp[FF]
   rw[e]at h ⊢;rw[Bk]at h ⊢;have h1:=Q2 (E:=E) (orc:=orc o.dst) (fr:=fr) (σ:=σ) he;have h2:=Q2 (E:=E) (orc:=orc o.dst) (fr:=fr) (σ:=ρ) he;rw[hρ,h2,h]at h1;simp only[Aqv]at h1;rw[ApS]at h1;obtain⟨⟨y,ρ'⟩,h3,h4⟩:=h1;simp only at h4;subst h4;rw[h3,Ng he h3]
 ·cases h;rfl
 ·cases h
def I2(E:Env):Op→Bool
 |.slice t ..=>L2 E t
 |_=>false
theorem S8{orc:Option Tmp→Orc}(ha:I2 E o.op=true)(h:E0 E orc ops o fr σ=some (x,σ')):σ.map JC=σ'.map JC:=by
 have hf:F7 E ops o=false:=by
  cases hf:F7 E ops o
  ·rfl
  ·rcases Ec hf with⟨t,n,l,h⟩|⟨s,d,x,h,_⟩<;>rw[h]at ha<;>cases ha
 unfold E0 at h;rw[hf]at h;have e:∀σ,FF false σ=some:=fun σ=>by funext r;simp[FF]
 rw[e,Bk]at h;split at h
 ·cases ho:o.op<;>simp only[ho,I2]at ha h<;>try (cases ha;done)
  simp only[CI,E4,GJ]at h
  repeat' split at h
  all_goals try (cases h;done)
  all_goals try (cases h;rfl)
  all_goals try (
   generalize E.G _=gg at h;generalize E.tab _=tt at h;cases gg<;>cases tt<;>simp only at h<;>try (cases h;done)
   split at h
   ·split at h
    ·cases h;rfl
    ·cases h
   ·cases h
   done)
  cases h;rename_i hσ _ _ _ _ _;rw[Asw];refine(AqY fun i=>?_);rw[Aqz];split
  ·rename_i hi;subst hi;simp only[Aq2];split
   ·rw[Fp,‹σ[_]?=some (ABlk.box _ _)›];rfl
   ·rename_i hn;exact absurd (by simpa using(ApR.1 ‹σ[_]?=some (ABlk.box _ _)›).1) hn
  ·rfl
 ·cases h;rfl
 ·cases h
def mkO(σ:Am):Option Nat→Am
 |none=>σ
 |some id=>Ci σ id
theorem SC(σ:Am)(a b:Nat):Ci (Ci σ a) b=Ci (Ci σ b) a:=by
 refine AqY fun i=>?_
 simp only[Do];by_cases h1:i=a
 ·by_cases h2:i=b
  ·subst h1;subst h2;rfl
  ·simp only[ApU h1,ApV h2]
 ·by_cases h2:i=b
  ·simp only[ApV h1,ApU h2]
  ·simp only[ApV h1,ApV h2]
theorem Acn(σ:Am)(a b:Option Nat):mkO (mkO σ a) b=mkO (mkO σ b) a:=by
 cases a<;>cases b<;>first|rfl|exact SC _ _ _
theorem KX{orc : Option Tmp→Orc}(ha:I2 E o.op=true)(h:E0 E orc ops o fr σ=some (x,σ')) :∃m,σ'=mkO σ m∧∀ρ:Am,ρ.map JC=σ.map JC→E0 E orc ops o fr ρ=some (x,mkO ρ m):=by
  have hf:F7 E ops o=false:=by
    cases hf:F7 E ops o
    · rfl
    · rcases Ec hf with⟨t,n,l,h⟩|⟨s,d,x,h,_⟩<;>rw[h]at ha<;>cases ha
  have e:∀σ,FF false σ=some:=fun σ=>by funext r;simp[FF]
  unfold E0 at h ⊢;rw[hf]at h ⊢;simp only[e,Bk]at h ⊢;split at h
  · cases ho:o.op<;>simp only[ho,I2]at ha h<;>try (cases ha;done)
    rename_i t y lo hi mx;simp only[CI,E4]at h ⊢;unfold L2 at ha;cases ht:E.tab t with
    |none=>simp[ht]at ha
    | some d=>
      obtain⟨desc,sz,bt,z⟩:=d;rw[ht]at ha;cases desc<;>simp only at ha<;>try (cases ha;done)
      rename_i n e2;unfold GJ at h ⊢;simp only[ht]at h ⊢;generalize ev fr y=yv at h ⊢;cases yv<;>simp only at h ⊢<;>try (cases h;done)
      case glob gi=>
        refine⟨none,?_,fun ρ _=>?_⟩
        · repeat' split at h
          all_goals try (cases h;done)
          all_goals (cases h;rfl)
        · repeat' split at h
          all_goals try (cases h;done)
          all_goals (cases h;simp_all [mkO])
      rename_i id off;cases hσ:σ[id]? with
      |none=>simp[hσ]at h
      | some b=>
        cases b with
        |buf=>simp[hσ]at h
        |obj o=>simp[hσ]at h
        |mp es=>simp[hσ]at h
        |lp y N1 l1 ps as1 bd=>simp[hσ]at h
        |gone=>simp[hσ]at h
        |tb T l=>simp[hσ]at h
        | box cs ro=>
          cases hte:E.tab e2 with
          |none=>simp[hσ,hte]at h
          | some de=>
            simp only[hσ,hte]at h;split at h
            case isFalse=>cases h
            rename_i hc;split at h
            case h_2=>cases h
            rename_i l h1 f1 hb;cases h;refine⟨some id,?_,fun ρ hρ=>?_⟩
            · show _=Ci σ id
              unfold Ci;rw[hσ]
            · have h2:(ρ[id]?).map JC=(σ[id]?).map JC:=by rw[←Fp,←Fp,hρ]
              rw[hσ]at h2;cases hρ2:ρ[id]? with
              |none=>rw[hρ2]at h2;cases h2
              | some b2=>
                rw[hρ2]at h2;cases b2 with
                |buf=>cases h2
                |obj o=>cases h2
                |mp es=>cases h2
                |lp y N1 l1 ps as1 bd=>cases h2
                |gone=>cases h2
                |tb T l=>cases h2
                | box cs2 ro2=>
                  simp only[Aqv,JC,ApT,ABlk.box.injEq,Ash]at h2;subst h2;simp only[hρ2,hte,ApU hc,hb];show _=some (_,Ci ρ id);unfold Ci;rw[hρ2]
  · cases h;exact⟨none,rfl,fun ρ _=>rfl⟩
  · cases h
def JW(E:Env)(ops:Array Oper)(x y:Oper):Bool :=
 x.apart ops y&&((!(SZ E ops x&&G8 E y.op)&&!(SZ E ops y&&G8 E x.op))||(R8 y.op&&!SZ E ops x)||(I2 E y.op&&!SZ E ops x)||(I2 E x.op&&!SZ E ops y)||(I2 E x.op&&I2 E y.op))
theorem Sz(h:G8 E op=false):PV E op=false:=by
 cases op<;>simp only[G8,PV]at h ⊢<;>try (first|assumption|(cases h;done))
 case call c=>
  cases hc:c.callee<;>rw[hc]at h<;>try (cases h;done)
  rename_i b;cases b<;>first|rfl|(cases h;done)
theorem Q6(h:G8 E o.op=false):SZ E ops o=false:=by
 unfold SZ;rw[Sz h];rfl
theorem IR{orc:Option Tmp→Orc}{x y:Oper}{st1 st2:St}(hc:JW E ops x y=true)(h1:CC E orc ops x st=some st1)(h2:CC E orc ops y st1=some st2) :∃st3,CC E orc ops y st=some st3∧CC E orc ops x st3=some st2:=by
  simp only[JW,Ap9,AqD,Arj,Arm]at hc;obtain⟨hap,hcase⟩:=hc;obtain⟨a1,a2,a3⟩:=Oper.apart_spec hap;unfold CC at h1 h2 ⊢;rw[ApS]at h1 h2;obtain⟨⟨v,σ1⟩,hv,rfl⟩:=h1;obtain⟨⟨u,σ2⟩,hu,rfl⟩:=h2;simp only at hu ⊢;rw[BC a1]at hu
  have fin:∀σ3,E0 E orc ops y st.fr st.σ=some (u,σ3)→E0 E orc ops x st.fr σ3=some (v,σ2) →
      ∃st3,(E0 E orc ops y st.fr st.σ).map (fun r=>(⟨AP st.fr y.dst r.1,r.2⟩:St))=some st3∧(E0 E orc ops x st3.fr st3.σ).map (fun r=>(⟨AP st3.fr x.dst r.1,r.2⟩:St))=some ⟨AP (AP st.fr x.dst v) y.dst u,σ2⟩:=by
    intro σ3 hy hx;refine⟨⟨AP st.fr y.dst u,σ3⟩,by rw[hy];rfl,?_⟩;simp only;rw[BC a3,hx];simp only[Aqv,DZ st.fr v u a2]
  rcases hcase with(((⟨e1,e2⟩|⟨hal,ex⟩)|⟨hal,ex⟩)|⟨hal,ey⟩)|⟨hax,hay⟩
  case inr=>
    obtain⟨m,rfl,_⟩:=KX hax hv
    have hun:∀(σ:Am) (m:Option Nat),(mkO σ m).map JC=σ.map JC:=by
      intro σ m;cases m with
      |none=>rfl
      | some id=>
        refine AqY fun i=>?_
        rw[Fp,Fp];show((Ci σ id)[i]?).map JC=_;rw[Do];split
        · cases σ[i]? with
          |none=>rfl
          |some b=>cases b<;>rfl
        · rfl
    obtain⟨m2,rfl,h2⟩:=KX hay hu;obtain⟨m1,e1,h1⟩:=KX hax hv;refine fin (mkO st.σ m2) (h2 st.σ (hun _ _).symm) ?_;rw[h1 _ (hun _ _),e1,Acn]
  case inl.inl.inr=>
    obtain rfl:=Dy ex hv;exact fin _ hu (So (S8 hal hu) ex hv)
  case inl.inr=>
    obtain rfl:=Dy ey hu;exact fin _ (So (S8 hal hv).symm ey hu) hv
  case inl.inl.inl.inr=>
    obtain rfl:=Dy ex hv;obtain⟨bs,rfl⟩:=Xl hal hu;exact fin _ hu (ZF bs ex hv)
  rcases e1 with ex|ty
  · obtain rfl:=Dy ex hv
    rcases e2 with ey|tx
    · obtain rfl:=Dy ey hu
      exact fin _ hu hv
    · refine fin _ hu ?_
      rw[LK (σ:=st.σ) tx,hv];rfl
  · have ey:SZ E ops y=false:=Q6 ty
    obtain rfl:=Dy ey hu;rw[LK (σ:=st.σ) ty,ApS]at hu;obtain⟨⟨u',σ'⟩,hy,he⟩:=hu;simp only[Ap2]at he;obtain⟨rfl,_⟩:=he;obtain rfl:=Dy ey hy;exact fin _ hy hv
def MU(B:Base)(orc:Orc):Prop:=(∀f args r,orc.fz f args=some r→Con B f args [] (fun r' σ'=>r'=r∧σ'=[])) ∧
 ∀f args σ r σ',orc.own f args σ=some (r,σ')→∀F:Addr→Prop,T1 (B.env F) f args σ r σ'
theorem Aed{orc:Orc}(hO:MU E.toBase orc)(hop:o.op=.call c)(h:Aec orc st.fr st.σ c=some r) {a:Act} {w:World} {g:Gh} (hr:Rel E w g st a) {next:Act→World→Prop} {Q:Exit→Act→World→Prop} (hk:∀a' w' g',Rel E w' g' ⟨AP st.fr o.dst r.1,r.2⟩ a'→Evo E 0 w g w' g'→GLe g g'→next a' w'):o.wp E.P a w next Q:=by
 unfold Aec at h;split at h
 case h_2=>cases h
 rename_i f hc;split at h
 case h_2=>cases h
 rename_i fid hf;exact TZ hop hc hf (VK (hO.2 _ _ _ r.1 r.2 h E.F)) hr hk
theorem AdK(hE:E.Ok){orc:Orc}(hO:MU E.toBase orc)(h:CI E orc o.op st.fr st.σ=some r) {a:Act} {w:World} {g:Gh} (hr:Rel E w g st a) {next:Act→World→Prop} {Q:Exit→Act→World→Prop} (hk:∀a' w' g',Rel E w' g' ⟨AP st.fr o.dst r.1,r.2⟩ a'→Evo E 0 w g w' g'→GLe g g'→next a' w'):o.wp E.P a w next Q:=by
  have plain:E4 E st.fr st.σ o.op=some r→o.wp E.P a w next Q:=by
    intro h;obtain⟨v,w',g',h1,h2,h3,h4,h5⟩:=Lk (x:=r.1) (σ':=r.2) hE hr h;unfold Oper.wp;exact QC h1 (hk _ w' g' (Fu (II hr h2 h3 h4) o.dst h5) h4 h3)
  cases hop:o.op with
  | call c=>
    simp only[hop,CI]at h;cases hc:c.callee<;>simp only[hc]at h
    case builtin b=>exact plain (by rw[hop];exact h)
    all_goals (split at h;· exact Aed hO hop h hr hk)
    all_goals try (simp[Li,hc]at h;done)
    rename_i f _;rw[ApS]at h;obtain⟨r1,h,rfl⟩:=h;unfold Li at h;simp only[hc]at h;split at h
    case h_2=>cases h
    rename_i fid hf;split at h
    case h_2=>cases h
    rename_i args ha;split at h
    case h_2=>cases h
    rename_i r2 ho;split at h
    case isFalse=>cases h
    rename_i hs;cases h;rcases hs with hs|hs
    · exact Ji hop hc hf ha hs ((hO.1 _ _ _ ho).mono fun _ _ h=>h.1) hr hk
    · refine Hc hop hc hf ha (hO.1 _ _ _ ho) hr ?_
      rw[hs];exact hk
  |_=>exact plain (by rw[hop];simp only[hop]at h;exact h)
theorem AkK(hE:E.Ok)(hf:(∃t n l,o.op=.buildSlice t n l)∨(∃s d x,o.op=.convert s d x∧Ei E d=true)) (h:(E4 E st.fr st.σ o.op).bind (HK st.σ)=some r) {a:Act} {w:World} {g:Gh} (hr:Rel E w g st a) {next:Act→World→Prop} {Q:Exit→Act→World→Prop} (hk:∀a' w' g',Rel E w' g' ⟨AP st.fr o.dst r.1,r.2⟩ a'→Evo E 0 w g w' g'→GLe g g'→next a' w'):o.wp E.P a w next Q:=by
 rw[Ap4]at h;obtain⟨⟨x,σ'⟩,h1,h2⟩:=h;obtain⟨y,σ2⟩:=r
 have hp:∃bs,σ'=st.σ++bs:=by
  rcases hf with⟨t,n,l,e⟩|⟨s,d,z,e,_⟩
  ·rw[e]at h1;simp only[E4,Dj]at h1
   repeat' split at h1
   all_goals try (cases h1;done)
   cases h1;exact⟨_,rfl⟩
  ·rw[e]at h1;simp only[E4,BG]at h1
   repeat' split at h1
   all_goals try (cases h1;done)
   all_goals (cases h1;first|exact⟨_,rfl⟩|exact⟨[],by simp⟩)
 obtain⟨v,w',g',k1,k2,k3,k4,k5⟩:=Lk (x:=x) (σ':=σ') hE hr h1;obtain⟨rfl,m2,m3,m4,m5⟩:=UC hr.mem hp h2 k2 k3 k4 k5;unfold Oper.wp;exact QC k1 (hk _ w' _ (Fu (II hr m2 m3 m4) o.dst m5) m4 m3)
theorem Aaz(hE:E.Ok){orc:Option Tmp→Orc}(hO:∀d,MU E.toBase (orc d))(h:(CI E (orc o.dst) o.op st.fr st.σ).bind (FF (F7 E ops o) st.σ)=some r) {a:Act} {w:World} {g:Gh} (hr:Rel E w g st a) {next:Act→World→Prop} {Q:Exit→Act→World→Prop} (hk:∀a' w' g',Rel E w' g' ⟨AP st.fr o.dst r.1,r.2⟩ a'→Evo E 0 w g w' g'→GLe g g'→next a' w'):o.wp E.P a w next Q:=by
  cases hf:F7 E ops o with
  | true=>
    have e:∀σ,FF true σ=HK σ:=fun σ=>by funext r;simp[FF]
    have e2:CI E (orc o.dst) o.op st.fr st.σ=E4 E st.fr st.σ o.op:=by
      rcases Ec hf with⟨t,n,l,h⟩|⟨s,d,x,h,_⟩<;>rw[h]<;>rfl
    rw[hf,e,e2]at h;exact AkK hE (Ec hf) h hr hk
  | false=>
    have e:∀σ,FF false σ=some:=fun σ=>by funext r;simp[FF]
    rw[hf,e,Bk]at h;exact AdK hE (hO _) h hr hk
theorem Mo(hE:E.Ok){orc:Option Tmp→Orc}(hO:∀d,MU E.toBase (orc d))(hi:ops[i]?=some o)(h:CC E orc ops o st=some st') {a:Act} {w:World} {g:Gh} (hr:Rel E w g st a) {next:Act→World→Prop} {Q:Exit→Act→World→Prop} (hk:∀a' w' g',Rel E w' g' st' a'→Evo E 0 w g w' g'→GLe g g'→next a' w'):wpOp E.P ops Q i next a w:=by
  unfold CC at h;rw[ApS]at h;obtain⟨⟨x,σ'⟩,hv,rfl⟩:=h;unfold wpOp;simp only[hi];unfold E0 Ix at hv;cases hg:o.guard with
  | none=>
    simp only[hg]at hv;simp only[Region.wanted,hg,Arq];exact .inl (Aaz hE hO hv hr hk)
  | some p=>
    obtain⟨j,want⟩:=p;simp only[hg]at hv;cases hy:Ke ops st.fr j with
    |none=>simp[hy]at hv
    | some b=>
      simp only[Region.wanted,hg,I4 hr hy];simp only[hy,Aqv]at hv;by_cases e:b=some want
      · rw[ApU (by simp[e])]
        rw[show(b==some want)=true by simp[e]]at hv;exact .inl (Aaz hE hO hv hr hk)
      · rw[ApV (by simp[e])]
        rw[show(b==some want)=false by simp[e]]at hv;cases hv;exact hk _ w g (Fu hr o.dst (OZ _ _ _)) (Evo.refl _ _ _ _) (GLe.refl _)
def Ez(ops:Array Oper)(i:Nat):List Nat:=match ops[i]? with
 |some o=>(o.after.toList.filter (Region.binds .any)).map (·.on)
 |none=>[]
def FT(ops:Array Oper)(T:List (List Nat)):Bool :=
 (List.range ops.size).all fun i=>(Ez ops i).all (·<i)&&(T.getD i []).all fun j=>(Ez ops i).contains j||(Ez ops i).any fun k=>(T.getD k []).contains j
def H3(E:Env)(ops:Array Oper)(T:List (List Nat)):Bool :=
 (List.range ops.size).all fun i=>(List.range i).all fun j=>(T.getD i []).contains j||(match ops[j]?,ops[i]? with
  |some x,some y=>JW E ops x y
  |_,_=>false)
theorem GG{orc:Option Tmp→Orc}{ops:Array Oper}{i:Nat}{y:Oper}(hi:ops[i]?=some y){l2:List Nat}{st':St}:∀(l1:List Nat) (st:St),(∀j∈l1,∀x,ops[j]?=some x→JW E ops x y=true)→B2 E orc ops (l1++i::l2) st=some st' →∃st1,CC E orc ops y st=some st1∧B2 E orc ops (l1++l2) st1=some st'
  | [],st,_,h=>by
    simp only[AqP,B2,hi]at h;rw[Ap4]at h;exact h
  | j :: l1,st,hc,h=>by
    simp only[Aqh,B2]at h;cases hj:ops[j]? with
    |none=>simp[hj]at h
    | some x=>
      simp only[hj]at h;rw[Ap4]at h;obtain⟨s1,h1,h⟩:=h;obtain⟨s2,h2,h⟩:=GG hi l1 s1 (fun k hk=>hc k (AqE _ hk)) h;obtain⟨s3,h3,h4⟩:=IR (hc j Aqc x hj) h1 h2;refine⟨s3,h3,?_⟩;simp only[Aqh,B2,hj,h4,ApX];exact h
theorem AB{p:Nat→Bool}(h:(List.range n).all p=true)(hi:i<n):p i=true :=
 Ap8.1 h i (AqN.2 hi)
theorem DA(h:FT ops T=true)(hi:i<ops.size){d:Nat}(hd:d∈Ez ops i):d<i:=by
 have:=AB h hi;simp only[Ap9,Ap8,Aqd]at this;exact this.1 d hd
theorem EF(h:FT ops T=true){rem:List Nat} (hdown:∀k,k<ops.size→k ∉ rem→∀d∈Ez ops k,d ∉ rem):∀(i:Nat),i<ops.size→(∀d∈Ez ops i,d ∉ rem)→∀j∈T.getD i [],j ∉ rem:=by
  intro i
  induction i using Nat.strongRecOn with
  | _ i ih=>
    intro hi hd j hj;have hh:=AB h hi;simp only[Ap9,Ap8,AqD,Aqn,List.any_eq_true,Aqd]at hh;rcases hh.2 j hj with hj|⟨k,hk,hkj⟩
    · exact hd j hj
    · have hki:=hh.1 k hk
      have hks:=ArK hki hi;exact ih k hki hks (hdown k hks (hd k hk)) j hkj
theorem EK(hi:ops[i]?=some o){d:Nat}:d∈Ez ops i↔∃e∈o.after,Region.binds .any e=true∧e.on=d:=by
 simp only[Ez,hi,Ara,List.mem_filter,Array.mem_toList_iff];constructor
 ·rintro⟨e,⟨h1,h2⟩,h3⟩;exact⟨e,h1,h2,h3⟩
 ·rintro⟨e,h1,h2,h3⟩;exact⟨e,⟨h1,h2⟩,h3⟩
theorem Yh(hE:E.Ok){orc:Option Tmp→Orc}(hO:∀d,MU E.toBase (orc d))(hc:FT ops T=true)(hm:H3 E ops T=true){Q:Exit→Act→World→Prop} :∀ (fuel:Nat) (rem:List Nat) (listed:Array Bool) (st:St) (a:Act) (w:World) (g:Gh),rem.length=fuel→rem.Pairwise (·<·)→listed.size=ops.size →(∀j,listed.getD j true=false↔j∈rem)→(∀k,k<ops.size→k ∉ rem→∀d∈Ez ops k,d ∉ rem) →B2 E orc ops rem st=some st'→Rel E w g st a→(∀a' w' g',Rel E w' g' st' a'→Evo E 0 w g w' g'→GLe g g'→Q .normal a' w') →wpAny E.P .any ops Q fuel listed a w:=by
  have hin:∀(rem:List Nat) (listed:Array Bool),listed.size=ops.size→(∀j,listed.getD j true=false↔j∈rem)→∀j∈rem,j<ops.size:=by
    intro rem listed hs hl j hj;have:=(hl j).2 hj;by_cases e:j<listed.size
    · omega
    · simp[Array.getD,e]at this
  have hgd:∀(rem:List Nat) (listed:Array Bool),listed.size=ops.size→(∀j,listed.getD j true=false↔j∈rem)→∀d,d<ops.size→(listed.getD d false=true↔d ∉ rem):=by
    intro rem listed hs hl d hd
    have h1:listed.getD d false=listed.getD d true:=by
      have:d<listed.size:=by omega
      simp[Array.getD,this]
    rw[h1,←hl d];cases listed.getD d true<;>simp
  have hrd:∀(rem:List Nat) (listed:Array Bool),listed.size=ops.size→(∀j,listed.getD j true=false↔j∈rem)→∀i,
      (i∈Region.ready .any ops listed↔i∈rem∧∀d∈Ez ops i,d ∉ rem):=by
    intro rem listed hs hl i;rw[mem_ready,hl i];constructor
    · rintro⟨h1,o,ho,h2⟩
      refine⟨h1,fun d hd=>?_⟩;have hlt:=DA hc (hin rem listed hs hl i h1) hd;have hds:=ArK hlt (hin rem listed hs hl i h1);obtain⟨e,he,hb,rfl⟩:=(EK ho).1 hd;exact(hgd rem listed hs hl _ hds).1 (h2 e he hb)
    · rintro⟨h1,h2⟩
      have hi:=hin rem listed hs hl i h1;refine⟨h1,ops[i],Aqb hi,fun e he hb=>?_⟩;have hd:e.on∈Ez ops i:=(EK (Aqb hi)).2 ⟨e,he,hb,rfl⟩;exact(hgd rem listed hs hl _ (ArK (DA hc hi hd) hi)).2 (h2 _ hd)
  have hdone:∀(rem:List Nat) (listed:Array Bool),rem.Pairwise (·<·)→listed.size=ops.size→(∀j,listed.getD j true=false↔j∈rem)→Region.ready .any ops listed=[]→rem=[]:=by
    intro rem listed hp hs hl hr;cases rem with
    |nil=>rfl
    | cons i r=>
      have hi:i∈Region.ready .any ops listed:=(hrd _ listed hs hl i).2 ⟨Aqc,fun d hd hm=>by
        have:=DA hc (hin _ listed hs hl i Aqc) hd;rcases Aqq.1 hm with rfl|hm
        · omega
        · have:=Aqt hp hm
          omega⟩
      rw[hr]at hi;cases hi
  intro fuel
  induction fuel with
  | zero=>
    intro rem listed st a w g hf hp hs hl hd hst hr hq;have:rem=[]:=Aqo.1 hf;subst this;simp only[B2,ApT]at hst;subst hst;refine⟨?_,hq a w g hr (Evo.refl _ _ _ _) (GLe.refl _)⟩;rw[Aro];intro i hi;have:=((hrd _ listed hs hl i).1 hi).1;cases this
  | succ fuel ih=>
    intro rem listed st a w g hf hp hs hl hd hst hr hq;refine⟨fun h=>?_,fun i hi=>?_⟩
    · have:=hdone rem listed hp hs hl h
      subst this;simp at hf
    · obtain⟨hir,hid⟩:=(hrd rem listed hs hl i).1 hi
      have his:=hin rem listed hs hl i hir;obtain⟨l1,l2,rfl⟩:=Asd hir;have hp':=hp;rw[Aqu]at hp';obtain⟨p1,p2,p3⟩:=hp'
      have hnd:∀j∈l1++l2,j≠i:=by
        intro j hj;rcases Aql.1 hj with hj|hj
        · have:=p3 j hj i Aqc;omega
        · have:=Aqt p2 hj;omega
      have hmem:∀j,j∈l1++l2↔j∈l1++i::l2∧j≠i:=by
        intro j;constructor
        · intro hj
          refine⟨?_,hnd j hj⟩;simp only[Aql,Aqq]at hj ⊢;rcases hj with hj|hj
          · exact .inl hj
          · exact .inr (.inr hj)
        · rintro⟨hj,hne⟩
          simp only[Aql,Aqq]at hj ⊢;rcases hj with hj|hj|hj
          · exact .inl hj
          · exact(hne hj).elim
          · exact .inr hj
      have hcm:∀j∈l1,∀x,ops[j]?=some x→JW E ops x ops[i]=true:=by
        intro j hj x hx;have hji:j<i:=p3 j hj i Aqc;have h1:=AB (AB hm his) hji;simp only[AqD,Aqn]at h1;rcases h1 with h1|h1
        · exact(EF hc hd i his hid j h1 (Aq6 _ hj)).elim
        · simp only[hx,Aqb his]at h1
          exact h1
      obtain⟨st1,h1,h2⟩:=GG (Aqb his) l1 st hcm hst;refine Mo hE hO (Aqb his) h1 hr fun a1 w1 g1 hr1 he1 hg1=>?_
      refine ih (l1++l2) (listed.setIfInBounds i true) st1 a1 w1 g1 ?_ ?_ ?_ ?_ ?_ h2 hr1 ?_
      · simp at hf ⊢;omega
      · exact hp.sublist (ArI (ArT i l2) l1)
      · simp[hs]
      · intro j
        rw[hmem j,←hl j];by_cases e:j=i
        · subst e
          have:j<listed.size:=by omega
          simp[Array.getD,this]
        · rw[getD_set_ne true (fun h=>e h.symm)]
          simp[e]
      · intro k hk hkn d hdk hdm
        have hd2:=((hmem d).1 hdm).1;by_cases e:k=i
        · subst e
          exact hid d hdk hd2
        · exact hd k hk (fun h=>hkn ((hmem k).2 ⟨h,e⟩)) d hdk hd2
      · intro a' w' g' hr' he' hg'
        exact hq a' w' g' hr' (he1.trans he') (hg1.trans hg')
theorem K2{w':World}{a:Act}(hr:Rel E w g st a)(h:SameMem w w'):Rel E w' g st a :=
 ⟨hr.size,fun t x hx=>QS h (hr.slot t x hx),hr.mem.same h,hr.defers.evo (n:=0) (Evo.same h)⟩
theorem M9(hE:E.Ok){orc:Option Tmp→Orc}(hO:∀d,MU E.toBase (orc d))(hP:E.P.follows .mixedOrders=true){l:List Oper}(T:List (List Nat))(hok1:FT l.toArray T=true)(hok2:H3 E l.toArray T=true){K:Ds} (hst:B2 E orc l.toArray (List.range l.length) st=some st') (hk:K .normal st'):Run E n (.region id l.toArray true) st K:=by
 intro hcm a w g hr Q hq;refine JZ (K7 hcm) (wp_region_any hP ?_);have hsm:SameMem w { w with drawn:=w.drawn+1 }:=⟨rfl,rfl,rfl,rfl⟩;refine Yh hE hO hok1 hok2 l.toArray.size (List.range l.length) _ st a _ g (by simp) ArB (by simp) ?_ ?_ hst (K2 hr hsm) ?_
 ·intro j;rw[AqN];by_cases h:j<l.length<;>simp[Array.getD,h]
 ·intro k hk hkn;exact(hkn (AqN.2 (by simpa using hk))).elim
 ·intro a' w' g' hr' he hg;exact hq _ _ _ _ _ hk hr' ((Evo.same hsm).trans (he.of_gle hg))
end Go.Rv
