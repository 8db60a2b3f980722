/-
  Part 15.
-/
import Derived.Test.YtldngkmkhfddpaaGreatDoorYV14
import Derived.Orders
namespace Go.Rv
set_option linter.unusedVariables false
set_option linter.unusedSimpArgs false
variable{fr fr':List AV}{O O' σ2:Ad}{c:Call}{r:AV×Ad}{w:World}{g:Gh}{v x y a:AV}{op:Op}{d:TD}{ops:Array Oper}{o:Oper}{t s:TypeId}{id tot n f i:Nat}{lo hi mx:Option AV}{st st':St}{T:List (List Nat)}
variable {E:Env}
structure Orc where
  fz:FuncId->List AV->Option AV
  own:FuncId->List AV->Ad->Option (AV×Ad)
def Qd(E:Env)(c:Call):Bool:=match c.callee with
 |.value (.func f)=>E.own f c.args.toList
 |.value (.tmp _)=>E.own 1000000 c.args.toList
 |_=>false
def Ae4(orc:Orc)(fr:List AV)(O:Ad)(c:Call):Option (AV×Ad) :=
 match c.callee with
 |.value f=>match ev fr f with
  |.fn fid []=>orc.own fid (c.args.toList.map (ev fr)) O
  |.fn fid [.tup xs]=>orc.own fid (xs++c.args.toList.map (ev fr)) O
  |.fn fid cs=>orc.own fid (c.args.toList.map (ev fr)++cs) O
  |_=>none
 |_=>none
theorem SX{orc:Orc}(h:Ae4 orc fr O c=some r):∃fid args,orc.own fid args O=some r:=by
 unfold Ae4 at h;split at h
 ·split at h
  ·exact⟨_,_,h⟩
  ·exact⟨_,_,h⟩
  ·exact⟨_,_,h⟩
  cases h
 cases h
def JB(orc:Orc)(fr:List AV)(O:Ad)(c:Call):Option AV :=
 match c.callee with
 | .value f=>match ev fr f with
  | .fn fid []=>match(c.args.toList.map (ev fr)).mapM (fz O)with
   |some args=>match orc.fz fid args with
    |some r=>if r.scalar=true\/(c.args.toList.map (ev fr)).flatMap Cb=[]then some r else none
    |none=>none
   |none=>none
  |_=>none
 |_=>none
def Cl(E:Env)(orc:Orc)(op:Op)(fr:List AV)(O:Ad):Option (AV×Ad) :=
 match op with
 |.call c=>match c.callee with
  |.builtin _=>Ec E fr O op
  |_=>if Qd E c=true then Ae4 orc fr O c else(JB orc fr O c).map fun r=>(r,O)
 |op=>Ec E fr O op
theorem OQ{pr:Addr->Prop}{v:Value}(h:Rep w pr g v x):x.under g.length=true:=by
 induction h with
 |bs g v full id tot off len b hb hx ht h ho=>simpa [AV.under]using(AoZ.1 hb).1
 |ref g id off β b hb hx hβ=>simpa [AV.under]using(AoZ.1 hb).1
 |tref g id t β b hb hx hβ ht=>simpa [AV.under]using(AoZ.1 hb).1
 |mref g id β b hb hx hβ=>simpa [AV.under]using(AoZ.1 hb).1
 |yld g id β b hb hx hβ=>simpa [AV.under]using(AoZ.1 hb).1
 |nref g v id b hb hx h=>simpa [AV.under]using(AoZ.1 hb).1
 |eref g v id tot i j b hb hx ht h ho=>simpa [AV.under]using(AoZ.1 hb).1
 |agg g vs cs hs ho hr ih=>
  simp only[AV.under,Api];rintro⟨x,hx⟩ _;obtain⟨i,hi⟩:=Aqh.1 hx;exact ih i x hi
 |tup g vs cs hs hr ih=>
  simp only[AV.under,Api];rintro⟨x,hx⟩ _;obtain⟨i,hi⟩:=Aqh.1 hx;exact ih i x hi
 |fn g f caps cs hs hr hn ih=>
  simp only[AV.under,Api];rintro⟨x,hx⟩ _;obtain⟨i,hi⟩:=Aqh.1 hx;exact ih i x hi
 |fnb g f fs cs hs hr ih=>
  simp only[AV.under,Api];rintro⟨x,hx⟩ _;rw[ApJ]at hx;subst hx;simp only[AV.under,Api];rintro⟨y,hy⟩ _;obtain⟨i,hi⟩:=Aqh.1 hy;exact ih i y hi
 |iface g t v x hr ih=>simpa [AV.under]using ih
 |_=>simp[AV.under]
theorem Z4(hm:Mem E w g O):∀ab∈O,X6 O.length ab:=by
 intro ab hab;obtain⟨id,hid⟩:=Aqh.1 hab;have hl:id<g.length:=by rw[hm.len];exact(AoZ.1 hid).1
 have hk:=hm.blk id g[id] ab (Ao2 hl) hid;cases ab with
 |box cs ro=>
  obtain⟨k1,k2,k3,k4,k5,β,arr,t,fz,k6,k7,k8,k9,k10⟩:=hk;intro x hx;obtain⟨j,hj⟩:=Aqh.1 hx;have:=OQ (k10 j x hj).1;rwa[hm.len]at this
 | buf k els ro=>
  obtain⟨k1,k2,k3,k4,k5,k6,k7⟩:=hk;intro cs hcs x hx;obtain⟨i,hi⟩:=Aqh.1 hcs;obtain⟨j,hj⟩:=Aqh.1 hx;cases hb:g[id].blk with
  | none=>
   rcases(k6 hb).1 with this|this
   ·subst this;simp at hi
   have h1:=k5 i cs hi;have h2:=(AoZ.1 hj).1;omega
  |some β=>
   obtain⟨arr,t,fz,g1,g2,g3,g4,g5⟩:=k7 β hb;have:=OQ (g5 i cs j x hi hj).1;rwa[hm.len]at this
 |obj o=>exact trivial
 |mp st es=>exact trivial
 |lp y N1 l1 ps as1 bd=>
  obtain⟨k1,β,f,T,D,k2,k3,k4,k5⟩:=hk;intro p hp;have:=OQ (k5 p hp);rwa[hm.len]at this
 |gone=>exact trivial
 |tb T l=>exact trivial
def I4(O:Ad)(r:AV×Ad):Option (AV×Ad) :=
 match r with
 |(.bs full id tot off len,O')=>if id=O.length then(Bu O' (.bs full id tot off len)).map fun y=>(y,O)else none
 |_=>none
theorem V8{w':World}{g1:Gh}{v:Value}(hm:Mem E w g O)(hp:∃bs,O'=O++bs)(h:I4 O (x,O')=some (y,σ2)) (m1:Mem E w' g1 O') (h3:GLe g g1) (h4:Evo E 0 w g w' g1) (h5:Rep w' (A2 E g1) g1 v x) :σ2=O/\Mem E w' (g1.take O.length) O/\GLe g (g1.take O.length)/\Evo E 0 w g w' (g1.take O.length)/\Rep w' (A2 E (g1.take O.length)) (g1.take O.length) v y:=by
 obtain⟨bs,rfl⟩:=hp;have ht:(O++bs).take O.length=O:=by simp
 unfold I4 at h;split at h
 case h_2=>cases h
 rename_i full id tot off len σ3 he;cases he;split at h
 case isFalse=>cases h
 rename_i hid;rw[AoY]at h;obtain⟨y',hy,h⟩:=h;cases h;have hmt:=KF m1 O.length (by rw[ht];exact Z4 hm);rw[ht]at hmt;refine⟨rfl,hmt,?_,?_,?_⟩
 ·intro id b hb;obtain⟨b',hb',hs⟩:=h3 id b hb;exact⟨b',Ie hb' (by rw[<-hm.len];exact(AoZ.1 hb).1),hs⟩
 ·exact⟨h4.os,h4.tape,h4.output,h4.size,fun a u hc hpr=>⟨(h4.cells a u hc hpr).1,Pq (h4.cells a u hc hpr).2⟩,
   fun β hβ hn=>⟨(h4.blocks β hβ hn).1,fun h=>(h4.blocks β hβ hn).2 (M5 h)⟩,fun id hid=>absurd hid (ApT _)⟩
 refine(K2 (pr:=A2 E (g1.take O.length)) m1 h5 hy (fun a=>Pq) ?_).mono (fun a u hc hpr=>⟨hc,hpr⟩) (GLe.nil _);rintro id' b ⟨_,_,_,_,e⟩ hb β off' hβ _;cases e;refine⟨fun hF=>(m1.foreign _ hF).2 ⟨id,b,hb,hβ⟩,fun id2 c hc he=>?_⟩;have:=m1.inj id2 id c b β (Ii hc).1 hb he hβ;have:=(Ii hc).2;omega
theorem Bh{α:Type}(x:Option α):x.bind some=x:=by cases x<;>rfl
def AbU(t:Tmp):Operand->Bool
 |.tmp s=>s==t
 |_=>false
def Aco(t:Tmp):List Operand->Bool
 |[]=>false
 |_::r=>r.any (AbU t)
def WE:Builtin->Bool
 |.append=>true
 |_=>false
theorem Px:WE .append=true:=rfl
def Ahv(t:Tmp)(o:Oper):Bool:=match o.op with
 |.call c=>match c.callee with
  |.value _=>c.args.toList.any (AbU t)
  |.builtin b=>Aco t c.args.toList&&WE b
  |_=>false
 |.buildSlice _ _ parts=>parts.toList.any fun p=>AbU t p.2
 |.indexAddr _ x _=>AbU t x
 |_=>false
def Ef(E:Env)(t:TypeId):Bool:=match E.tab t with
 |some d=>match d.desc with
  |.slice _=>true
  |_=>false
 |none=>false
def ES(E:Env)(ops:Array Oper)(o:Oper):Bool:=match o.dst with
 |some t=>match o.op with
  |.buildSlice ..=>ops.toList.any (Ahv t)
  |.convert _ d _=>Ef E d&&ops.toList.any (Ahv t)
  |_=>false
 |none=>false
def Fu(b:Bool)(O:Ad)(r:AV×Ad):Option (AV×Ad):=if b then I4 O r else some r
def D2(E:Env)(orc:Option Tmp->Orc)(ops:Array Oper)(o:Oper)(fr:List AV)(O:Ad):Option (AV×Ad) :=
 match G9 ops fr o with
 |some true=>(Cl E (orc o.dst) o.op fr O).bind (Fu (ES E ops o) O)
 |some false=>some (.tup [],O)
 |none=>none
def B6(E:Env)(orc:Option Tmp->Orc)(ops:Array Oper)(o:Oper)(st:St):Option St :=
 (D2 E orc ops o st.fr st.O).map fun r=>⟨Ay st.fr o.dst r.1,r.2⟩
def AO(E:Env)(orc:Option Tmp->Orc)(ops:Array Oper):List Nat->St->Option St
 |[],st=>some st
 |i::l,st=>match ops[i]? with
  |some o=>(B6 E orc ops o st).bind (AO E orc ops l)
  |none=>none
theorem Adf{x:Operand}(h:∀t,x=.tmp t->fr[t]?=fr'[t]?):ev fr x=ev fr' x:=by
 cases x with
 |tmp t=>simp only[ev,List.getD,h t rfl]
 |_=>rfl
theorem Ni(h:∀x∈op.operands,ev fr x=ev fr' x):Ec E fr O op=Ec E fr' O op:=by
 have m1:∀(l:List Operand),(∀x∈l,x∈op.operands)->l.map (ev fr)=l.map (ev fr'):=fun l hl=>Aqn fun x hx=>h x (hl x hx)
 cases op<;>simp only[Ec]
 case move x=>rw[h x (by simp[Op.operands])]
 case assign x=>rw[h x (by simp[Op.operands])]
 case pick c a b=>rw[h c (by simp[Op.operands]),h a (by simp[Op.operands]),h b (by simp[Op.operands])]
 case box t x=>rw[h x (by simp[Op.operands])]
 case build t parts=>
  have:(parts.toList.map fun(i,x)=>(i,ev fr x))=(parts.toList.map fun(i,x)=>(i,ev fr' x)):=Aqn fun p hp=>by
   have:=h p.2 (by simp[Op.operands];exact⟨p.1,by simpa using hp⟩);simp[this]
  rw[this]
 case buildSlice t n parts=>
  have:(parts.toList.map fun(i,x)=>(i,ev fr x))=(parts.toList.map fun(i,x)=>(i,ev fr' x)):=Aqn fun p hp=>by
   have:=h p.2 (by simp[Op.operands];exact⟨p.1,by simpa using hp⟩);simp[this]
  rw[this]
 case load t x=>rw[h x (by simp[Op.operands])]
 case store t x y=>rw[h x (by simp[Op.operands]),h y (by simp[Op.operands])]
 case nilCheck x=>rw[h x (by simp[Op.operands])]
 case range t x=>rw[h x (by simp[Op.operands])]
 case makeMap t r=>cases r<;>rfl
 case insert t m k x=>rw[h m (by simp[Op.operands]),h k (by simp[Op.operands]),h x (by simp[Op.operands])]
 case mapUpdate t m k x=>rw[h m (by simp[Op.operands]),h k (by simp[Op.operands]),h x (by simp[Op.operands])]
 case next it b=>
  cases b with
  |false=>rfl
  |true=>simp only;rw[h it (by simp[Op.operands])]
 case binOp op t x y u=>rw[h x (by simp[Op.operands]),h y (by simp[Op.operands])]
 case unOp op t x=>rw[h x (by simp[Op.operands])]
 case convert s d x=>rw[h x (by simp[Op.operands])]
 case makeInterface t x=>rw[h x (by simp[Op.operands])]
 case makeFunc fn first caps=>
  have:caps.toList.map (ev fr)=caps.toList.map (ev fr'):=m1 _ (fun x hx=>by simp[Op.operands];exact .inr (by simpa using hx));have t2:first.toList.map (ev fr)=first.toList.map (ev fr'):=m1 _ (fun x hx=>by simp[Op.operands];exact .inl (by simpa using hx))
  cases fn<;>simp only[this,t2]
 case makeSlice t x y=>rw[h x (by simp[Op.operands]),h y (by simp[Op.operands])]
 case slice t x lo hi mx=>
  have hx:=h x (by simp[Op.operands]);have hl:lo.map (ev fr)=lo.map (ev fr'):=by cases lo with|none=>rfl|some l=>simp[h l (by simp[Op.operands])]
  have hh:hi.map (ev fr)=hi.map (ev fr'):=by cases hi with|none=>rfl|some l=>simp[h l (by simp[Op.operands])]
  have hm:mx.map (ev fr)=mx.map (ev fr'):=by cases mx with|none=>rfl|some l=>simp[h l (by simp[Op.operands])]
  rw[hx,hl,hh,hm]
 case fieldAddr s x f=>rw[h x (by simp[Op.operands])]
 case field s x f=>rw[h x (by simp[Op.operands])]
 case indexAddr t x y=>rw[h x (by simp[Op.operands]),h y (by simp[Op.operands])]
 case index t x y=>rw[h x (by simp[Op.operands]),h y (by simp[Op.operands])]
 case sliceToArrayPointer t x=>rw[h x (by simp[Op.operands])]
 case typeAssert x _ t ok=>rw[h x (by simp[Op.operands])]
 case lookup t x y ok=>rw[h x (by simp[Op.operands]),h y (by simp[Op.operands])]
 case extract x i=>rw[h x (by simp[Op.operands])]
 case call c=>
  cases hc:c.callee<;>simp only[];have:c.args.toList.map (ev fr)=c.args.toList.map (ev fr'):=m1 _ (fun x hx=>by simp[Op.operands,Call.operands];exact .inr (by simpa using hx));rw[this]
def Li(E:Env)(t:TypeId):Bool:=match E.tab t with
 |some d=>match d.desc with
  |.array ..=>true
  |_=>false
 |none=>false
def Oa(E:Env):Op->Bool
 |.alloc _|.box ..|.buildSlice ..|.store ..|.makeSlice ..|.range ..|.next ..|.makeMap ..|.insert ..|.mapUpdate ..=>true
 |.convert _ d _=>Ef E d
 |.slice t ..=>Li E t
 |.call c=>match c.callee with
  |.builtin .len|.builtin .min|.builtin .max=>false
  |.builtin _=>true
  |_=>Qd E c
 |_=>false
def He(E:Env):Op->Bool
 |.load ..|.fieldAddr ..|.indexAddr ..|.slice ..|.convert ..|.lookup ..=>true
 |.call c=>match c.callee with
  |.builtin .min|.builtin .max=>false
  |_=>true
 |op=>Oa E op
theorem Ng(he:Oa E op=false)(h:Ec E fr O op=some (x,O')):O'=O:=by
 cases op<;>simp only[Ec]at h<;>simp only[Oa]at he<;>try (cases h;done)
 case move y=>cases h;rfl
 case assign y=>cases h;rfl
 case pick c a b=>split at h<;>first|(cases h;rfl)|cases h
 case alloc=>cases he
 case range=>cases he
 case makeMap=>cases he
 case insert=>cases he
 case mapUpdate=>cases he
 case next=>cases he
 case box=>cases he
 case build t parts=>rw[AoY]at h;obtain⟨_,_,h⟩:=h;cases h;rfl
 case buildSlice=>cases he
 case load t y=>
  split at h
  ·rw[AoY]at h;obtain⟨_,_,h⟩:=h;cases h;rfl
  cases h
 case store=>cases he
 case nilCheck y=>split at h<;>first|(cases h;rfl)|cases h
 case binOp op t y z u=>rw[AoY]at h;obtain⟨_,_,h⟩:=h;cases h;rfl
 case unOp op t y=>rw[AoY]at h;obtain⟨_,_,h⟩:=h;cases h;rfl
 case lookup t y z ok=>rw[AoY]at h;obtain⟨_,_,h⟩:=h;cases h;rfl
 case convert s d y=>
  unfold CB at h;unfold Ef at he;split at h
  case h_2=>cases h
  rename_i ds dd hs hd;rw[hd]at he;simp only at he;split at h
  ·cases h;rfl
  ·cases h;rfl
  ·rename_i hdd _;rw[hdd]at he;cases he
  ·split at h
   ·cases h
   split at h
   case h_2=>cases h
   split at h
   case h_2=>cases h
   split at h
   ·cases h;rfl
   cases h
  ·rename_i hdd _;rw[hdd]at he;cases he
  cases h
 case makeFunc fn first caps=>
  split at h
  ·split at h
   ·split at h
    ·cases h
    cases h;rfl
   split at h
   ·cases h;rfl
   cases h
  cases h
 case makeInterface t y=>
  split at h
  ·split at h
   ·cases h
   cases h;rfl
  cases h
 case makeSlice=>cases he
 case slice t y lo hi mx=>
  unfold Gi at h;unfold Li at he;cases ht:E.tab t with
  |none=>simp[ht]at h
  | some d=>
   simp only[ht]at h he;split at h
   ·split at h
    ·split at h
     ·cases h
     cases h;rfl
    cases h
   ·split at h
    ·split at h
     ·cases h;rfl
     cases h
    cases h
   ·split at h
    ·split at h
     ·split at h
      ·cases h;rfl
      cases h
     cases h
    cases h
   ·rename_i hd _;rw[hd]at he;cases he
   ·rename_i hd _;rw[hd]at he;cases he
   cases h
 case fieldAddr s y f=>rw[AoY]at h;obtain⟨_,_,h⟩:=h;cases h;rfl
 case field s y f=>rw[AoY]at h;obtain⟨_,_,h⟩:=h;cases h;rfl
 case indexAddr t y i=>rw[AoY]at h;obtain⟨_,_,h⟩:=h;cases h;rfl
 case index t y i=>rw[AoY]at h;obtain⟨_,_,h⟩:=h;cases h;rfl
 case sliceToArrayPointer t y=>rw[AoY]at h;obtain⟨_,_,h⟩:=h;cases h;rfl
 case typeAssert y _ t ok=>rw[AoY]at h;obtain⟨_,_,h⟩:=h;cases h;rfl
 case extract y i=>
  split at h
  ·split at h
   ·cases h;rfl
   cases h
  cases h
 case call c=>
  cases hc:c.callee<;>simp only[hc]at h he<;>try (cases h;done)
  rename_i b;unfold Ba at h;split at h
  ·rw[AoY]at h;obtain⟨_,_,h⟩:=h;cases h;rfl
  ·cases he
  ·cases he
  ·cases he
  ·rw[AoY]at h;obtain⟨_,_,h⟩:=h;cases h;rfl
  ·rw[AoY]at h;obtain⟨_,_,h⟩:=h;cases h;rfl
  cases h
theorem GR(ht:He E op=false):Ec E fr σ2 op=(Ec E fr O op).map (fun r=>(r.1,σ2)):=by
 cases op<;>simp only[He,Oa]at ht<;>try (cases ht;done)
 all_goals simp only[Ec]
 all_goals try rfl
 case pick c a b=>split<;>rfl
 case build t parts=>simp only[ApS];rfl
 case nilCheck y=>split<;>rfl
 case binOp op t y z u=>simp only[ApS];rfl
 case unOp op t y=>simp only[ApS];rfl
 case makeFunc fn first caps=>
  split
  ·split
   ·split<;>rfl
   split<;>rfl
  rfl
 case makeInterface t y=>
  split
  ·split<;>rfl
  rfl
 case field s y f=>simp only[ApS];rfl
 case index t y i=>simp only[ApS];rfl
 case sliceToArrayPointer t y=>simp only[ApS];rfl
 case typeAssert y _ t ok=>simp only[ApS];rfl
 case extract y i=>
  split
  ·split<;>rfl
  rfl
 case call c=>
  cases hc:c.callee<;>simp only[hc]at ht ⊢<;>try rfl
  rename_i b;cases b<;>simp only at ht<;>try (cases ht;done)
  all_goals
   unfold Ba;split<;>first|(exfalso;simp_all;done)|rfl|(simp only[ApS];rfl)
theorem CI(fr:List AV){x y:Option Tmp}(v u:AV)(h:∀d,x=some d->y≠some d):Ay (Ay fr x v) y u=Ay (Ay fr y u) x v:=by
 cases x with
 |none=>rfl
 |some d=>
  cases y with
  |none=>rfl
  |some e=>exact List.set_comm _ _ (fun he=>h d rfl (by rw[he]))
theorem Nb{d:Option Tmp}{x:Operand}(h:∀e,d=some e->x≠.tmp e):ev (Ay fr d v) x=ev fr x:=by
 refine Adf fun t hx=>?_
 cases d with
 |none=>rfl
 |some e=>
  have:e≠t:=fun he=>h e rfl (by rw[hx,he])
  simp[Ay,ApR this]
theorem UU{orc:Orc}(h:∀x∈(Op.call c).operands,ev fr x=ev fr' x):JB orc fr O c=JB orc fr' O c:=by
 have ha:c.args.toList.map (ev fr)=c.args.toList.map (ev fr'):=Aqn fun x hx=>h x (by simp[Op.operands,Call.operands];exact .inr (by simpa using hx))
 unfold JB;cases hc:c.callee<;>simp only[];rename_i f;rw[h f (by simp[Op.operands,Call.operands,hc]),ha]
theorem XI{orc:Orc}(h:∀x∈(Op.call c).operands,ev fr x=ev fr' x):Ae4 orc fr O c=Ae4 orc fr' O c:=by
 have ha:c.args.toList.map (ev fr)=c.args.toList.map (ev fr'):=Aqn fun x hx=>h x (by simp[Op.operands,Call.operands];exact .inr (by simpa using hx))
 unfold Ae4;cases hc:c.callee<;>simp only[];rename_i f;rw[h f (by simp[Op.operands,Call.operands,hc]),ha]
theorem UB{orc:Orc}(h:∀x∈op.operands,ev fr x=ev fr' x):Cl E orc op fr O=Cl E orc op fr' O:=by
 cases op with
 |call c=>
  simp only[Cl];rw[UU h,XI h];cases hc:c.callee<;>simp only[];exact Ni h
 |_=>exact Ni (E:=E) (O:=O) h
theorem LD{orc:Orc}(he:Oa E op=false)(h:Cl E orc op fr O=some (x,O')):O'=O:=by
 cases op with
 | call c=>
  simp only[Cl]at h;cases hc:c.callee<;>simp only[hc]at h
  case builtin b=>exact Ng he h
  all_goals
   simp only[Oa,hc]at he;simp only[he,Apu,ApY]at h;rw[AoY]at h;obtain⟨_,_,h⟩:=h;cases h;rfl
 |_=>exact Ng (fr:=fr) he h
theorem Si{orc:Orc}(ht:He E op=false):Cl E orc op fr σ2=(Cl E orc op fr O).map (fun r=>(r.1,σ2)):=by
 cases op with
 |call c=>
  simp only[Cl];cases hc:c.callee<;>simp only[]
  case builtin b=>exact GR ht
  all_goals (simp only[He,hc]at ht;cases ht)
 |_=>exact GR (fr:=fr) (O:=O) ht
theorem P9{t:Tmp}(h:Operand.tmp t∈o.op.operands):t∈o.looksAt ops:=by
 unfold Oper.looksAt;rw[Apl];left;rw[ArE];exact⟨.tmp t,by simpa using h,rfl⟩
theorem Sg{d:Option Tmp}(h:∀e,d=some e->e ∉ o.looksAt ops):G9 ops (Ay fr d v) o=G9 ops fr o:=by
 unfold G9;cases hg:o.guard with
 |none=>rfl
 | some g=>
  obtain⟨j,want⟩:=g;simp only;congr 1;unfold Il;cases hj:(ops[j]?).bind (·.dst)with
  |none=>simp[hj]
  | some t=>
   cases d with
   |none=>rfl
   |some e=>
    have:e≠t:=fun he=>h e rfl (by simp[Oper.looksAt,hg,hj,he])
    simp[hj,Ay,ApR this]
theorem AK{orc:Option Tmp->Orc}{d:Option Tmp}(h:∀e,d=some e->e ∉ o.looksAt ops):D2 E orc ops o (Ay fr d v) O=D2 E orc ops o fr O:=by
 unfold D2;rw[Sg h,UB (fun x hx=>Nb fun e he hxe=>h e he (P9 (hxe ▸ hx)))]
def MK(E:Env)(ops:Array Oper)(o:Oper):Bool:=Oa E o.op&&!ES E ops o
theorem K1(h:MK E ops o=false):ES E ops o=true\/(ES E ops o=false/\Oa E o.op=false):=by
 unfold MK at h;cases hf:ES E ops o
 ·rw[hf]at h;right;simpa using h
 exact .inl rfl
theorem Dq(h:ES E ops o=true):(∃t n l,o.op=.buildSlice t n l)\/(∃s d x,o.op=.convert s d x/\Ef E d=true):=by
 unfold ES at h;split at h
 case h_2=>cases h
 split at h
 ·rename_i hop;exact .inl ⟨_,_,_,hop⟩
 ·rename_i hop;exact .inr ⟨_,_,_,hop,(Arv.1 h).1⟩
 cases h
theorem VH(h:I4 O r=some (y,O')):O'=O:=by
 unfold I4 at h;split at h
 case h_2=>cases h
 split at h
 case isFalse=>cases h
 rw[AoY]at h;obtain⟨_,_,h⟩:=h;cases h;rfl
theorem CO{orc:Option Tmp->Orc}(he:MK E ops o=false)(h:D2 E orc ops o fr O=some (x,O')):O'=O:=by
 unfold D2 at h;split at h
 ·rw[Ao3]at h;obtain⟨⟨v,σ1⟩,h1,h2⟩:=h;unfold Fu at h2;rcases K1 he with hf|⟨hf,he⟩
  ·rw[hf,Ao4 rfl]at h2;exact VH h2
  rw[hf]at h2;simp only[Apu,ApY]at h2;cases h2;exact LD he h1
 ·cases h;rfl
 cases h
theorem Ye(ht:He E o.op=false):ES E ops o=false:=by
 cases hf:ES E ops o
 ·rfl
 rcases Dq hf with⟨t,n,l,h⟩|⟨s,d,x,h,_⟩
 ·rw[h]at ht;cases ht
 rw[h]at ht;cases ht
theorem N8{orc:Option Tmp->Orc}(ht:He E o.op=false):D2 E orc ops o fr σ2=(D2 E orc ops o fr O).map (fun r=>(r.1,σ2)):=by
 unfold D2;rw[Ye ht];have e:∀O,Fu false O=some:=fun O=>by funext r;simp[Fu]
 rw[e,e];split
 ·rw[Si (O:=O) ht];cases Cl E (orc o.dst) o.op fr O<;>rfl
 ·rfl
 rfl
theorem JQ{b:ABlk}(bs:Ad)(h:O[id]?=some b):(O++bs)[id]?=some b:=by
 rw[Ao9 (AoZ.1 h).1];exact h
theorem XZ(bs:Ad)(h:loadA E O d a=some x):loadA E (O++bs) d a=some x:=by
 cases a<;>simp only[loadA]at h ⊢<;>try exact h
 case ref id off=>
  cases e:O[id]? with
  |none=>simp[e]at h
  |some b=>rw[e]at h;rw[JQ bs e];exact h
 case eref id tot i j=>
  cases e:O[id]? with
  |none=>simp[e]at h
  |some b=>rw[e]at h;rw[JQ bs e];exact h
theorem SG(bs:Ad)(h:Xi O id tot=true):Xi (O++bs) id tot=true:=by
 unfold Xi at h ⊢;cases e:O[id]? with
 |none=>simp[e]at h
 |some b=>rw[e]at h;rw[JQ bs e];exact h
theorem AaU{l:List (List AV)}(bs:Ad)(h:GS O x=some l):GS (O++bs) x=some l:=by
 cases x<;>simp only[GS]at h ⊢<;>try exact h
 case bs full id tot off len=>
  cases e:O[id]? with
  |none=>simp[e]at h
  |some b=>rw[e]at h;rw[JQ bs e];exact h
theorem Aat(bs:Ad)(h:W4 E O t x=some n):W4 E (O++bs) t x=some n:=by
 unfold W4 at h ⊢;cases ht:E.tab t with
 |none=>simp[ht]at h
 |some d=>
  simp only[ht]at h ⊢;split at h<;>try (simp_all;done)
  rename_i id tot off len hd;cases e:O[id]? with
  |none=>simp[e]at h
  |some b=>rw[e]at h;simp only[hd,JQ bs e];exact h
theorem PD(bs:Ad)(h:AX E O s x f=some y):AX E (O++bs) s x f=some y:=by
 unfold AX at h ⊢
 repeat' split at h
 all_goals try (cases h;done)
 all_goals try (simp_all;done)
 all_goals (rename_i hc;simp_all [SG bs hc])
theorem Pr{i:AV}(bs:Ad)(h:Ao E O t x i=some y):Ao E (O++bs) t x i=some y:=by
 unfold Ao at h ⊢;cases ht:E.tab t with
 |none=>simp[ht]at h
 | some d=>
  simp only[ht]at h ⊢;cases hd:d.desc<;>simp only[hd]at h ⊢<;>try (cases h;done)
  case array n e=>
   cases he:E.tab e with
   |none=>simp[he]at h
   | some de=>
    cases hi:idx i n with
    |none=>simp[he,hi]at h
    | some k=>
     simp only[he,hi]at h ⊢;cases x<;>simp only at h ⊢<;>try exact h
     case eref id tot i0 j=>
      split at h
      case isFalse=>cases h
      rename_i hc;rw[Ao4 (SG bs hc)];exact h
  case slice e=>
   cases he:E.tab e with
   |none=>simp[he]at h
   | some de=>
    simp only[he]at h ⊢;cases x<;>simp only at h ⊢<;>try exact h
    case bs full id tot off len=>
     cases e2:O[id]? with
     |none=>simp[e2]at h
     |some b=>rw[e2]at h;rw[JQ bs e2];exact h
theorem UC(bs:Ad)(he:Li E t=false)(h:Gi E O t x lo hi mx=some (y,O')):Gi E (O++bs) t x lo hi mx=some (y,O++bs):=by
 unfold Gi at h ⊢;unfold Li at he;cases ht:E.tab t with
 |none=>simp[ht]at h
 | some d=>
  simp only[ht]at h he ⊢;cases hd:d.desc<;>simp only[hd]at h he ⊢<;>try (first|(cases h;done)|(cases he;done))
  case string=>
   cases x<;>simp only at h ⊢<;>try (cases h;done)
   repeat' split at h
   all_goals try (cases h;done)
   cases h;simp_all
  case slice e=>
   cases x<;>simp only at h ⊢<;>try (cases h;done)
   case sl full els=>
    repeat' split at h
    all_goals try (cases h;done)
    cases h;simp_all
   case bs full id tot off len=>
    cases e2:O[id]? with
    |none=>simp[e2]at h
    |some b=>
     rw[e2]at h;rw[JQ bs e2]
     repeat' split at h
     all_goals try (cases h;done)
     cases h;simp_all
theorem Ry{d:TypeId}(bs:Ad)(he:Ef E d=false)(h:CB E O s d x=some (y,O')):CB E (O++bs) s d x=some (y,O++bs):=by
 unfold CB at h ⊢;unfold Ef at he;split at h
 case h_2=>cases h
 rename_i ds dd hs hd;rw[hd]at he;simp only at he;split at h
 ·cases h;rfl
 ·cases h;rfl
 ·simp_all
 ·split at h
  ·cases h
  rename_i hb;split at h
  case h_2=>cases h
  rename_i hde;split at h
  case h_2=>cases h
  rename_i hu hv;split at h
  ·rename_i hl;cases h;simp[hb,hu,AaU bs hv,hl]
  cases h
 ·simp_all
 cases h
theorem PL(bs:Ad)(h:Bu O x=some y):Bu (O++bs) x=some y:=by
 cases x<;>simp only[Bu]at h ⊢<;>try exact h
 case bs full id tot off len=>
  cases e:O[id]? with
  |none=>simp[e]at h
  |some b=>rw[e]at h;rw[JQ bs e];exact h
theorem Pi{α β:Type}{f g:α->Option β}(hfg:∀x y,f x=some y->g x=some y):∀{l:List α} {ys:List β},l.mapM f=some ys->l.mapM g=some ys
 |[],_,h=>by simpa using h
 |x::l,ys,h=>by
  rw[Aqu]at h ⊢;simp only[Ara,Ao3]at h ⊢;obtain⟨y,hy,zs,hz,h⟩:=h;exact⟨y,hfg _ _ hy,zs,Pi hfg hz,h⟩
theorem AhP(bs:Ad)(h:fz O x=some y):fz (O++bs) x=some y:=by
 cases x<;>simp only[fz]at h ⊢<;>try exact PL bs h
 case agg cs=>
  rw[AoY]at h ⊢;obtain⟨ys,h,e⟩:=h;exact⟨ys,Pi (fun _ _=>PL bs) h,e⟩
theorem Uk(bs:Ad){k:AV}{ok:Bool}(h:Gs E O t x k ok=some v):Gs E (O++bs) t x k ok=some v:=by
 cases x with
 | mref id=>
  simp only[Gs]at h ⊢;cases hO:O[id]? with
  |none=>simp[hO]at h
  |some b=>
   rw[Ao9 (AoZ.1 hO).1,hO];rw[hO]at h;exact h
 |_=>exact h
theorem SP(bs:Ad)(he:Oa E op=false)(h:Ec E fr O op=some (x,O')):Ec E fr (O++bs) op=some (x,O++bs):=by
 cases ht:He E op with
 |false=>
  rw[GR (O:=O) ht,h];rfl
 | true=>
  cases op<;>simp only[He,Oa]at ht he<;>try (cases ht;done)
  all_goals try (cases he;done)
  case load t y=>
   simp only[Ec]at h ⊢;split at h
   case h_2=>cases h
   rename_i hd;rw[AoY]at h;obtain⟨v,hv,h⟩:=h;cases h;simp[hd,XZ bs hv]
  case convert s d y=>exact Ry bs he h
  case slice t y lo hi mx=>exact UC bs he h
  case lookup t y z ok=>
   simp only[Ec]at h ⊢;rw[AoY]at h;obtain⟨v,hv,h⟩:=h;cases h;simp[Uk bs hv]
  case fieldAddr s y f=>
   simp only[Ec]at h ⊢;rw[AoY]at h;obtain⟨v,hv,h⟩:=h;cases h;simp[PD bs hv]
  case indexAddr t y i=>
   simp only[Ec]at h ⊢;rw[AoY]at h;obtain⟨v,hv,h⟩:=h;cases h;simp[Pr bs hv]
  case call c=>
   simp only[Ec]at h ⊢;cases hc:c.callee<;>simp only[hc]at h ht he ⊢<;>try (cases h;done)
   rename_i b;unfold Ba at h ⊢;split at h
   ·rw[AoY]at h;obtain⟨v,hv,h⟩:=h;cases h;simp[Aat bs hv]
   ·cases he
   ·cases he
   ·cases he
   ·cases ht
   ·cases ht
   cases h
theorem YU{orc:Orc}{r:AV}(bs:Ad)(h:JB orc fr O c=some r):JB orc fr (O++bs) c=some r:=by
 unfold JB at h ⊢;split at h
 case h_2=>cases h
 rename_i f hf;split at h
 case h_2=>cases h
 rename_i fid hv;split at h
 case h_2=>cases h
 rename_i args ha;simp only[Pi (fun _ _=>AhP bs) ha];exact h
theorem Yj{orc:Orc}(bs:Ad)(he:Oa E op=false)(h:Cl E orc op fr O=some (x,O')):Cl E orc op fr (O++bs)=some (x,O++bs):=by
 cases op with
 | call c=>
  simp only[Cl]at h ⊢;cases hc:c.callee<;>simp only[hc]at h ⊢
  case builtin b=>exact SP bs he h
  all_goals
   simp only[Oa,hc]at he;simp only[he,Apu,ApY]at h ⊢;rw[AoY]at h;obtain⟨v,hv,h⟩:=h;cases h;simp[YU bs hv]
 |_=>exact SP (fr:=fr) bs he h
theorem Sf(ρ:Ad)(hf:(∃t n l,op=.buildSlice t n l)\/(∃s d x,op=.convert s d x/\Ef E d=true)) (h:(Ec E fr O op).bind (I4 O)=some (y,O')):(Ec E fr ρ op).bind (I4 ρ)=some (y,ρ):=by
 have last:∀(b:ABlk) (f:Bool) (t o l:Nat),I4 O (.bs f O.length t o l,O++[b])=some (y,O')->I4 ρ (.bs f ρ.length t o l,ρ++[b])=some (y,ρ):=by
  intro b f t o l h;unfold I4 at h ⊢;simp only[ApL,AoY,Apa]at h ⊢;obtain⟨z,hz,rfl,rfl⟩:=h;refine⟨z,?_,rfl,trivial⟩;simp only[Bu]at hz ⊢;rw[Ao7 (Apf _),Aro]at hz ⊢;exact hz
 rcases hf with⟨t,n,l,rfl⟩|⟨s,d,x,rfl,hd⟩
 ·simp only[Ec]at h ⊢;unfold C6 at h ⊢;cases ht:E.tab t with
  |none=>simp[ht]at h
  | some dd=>
   simp only[ht]at h ⊢;cases hdd:dd.desc<;>simp only[hdd]at h ⊢<;>try (simp at h;done)
   rename_i e;cases he:E.tab e with
   |none=>simp[he]at h
   |some de=>
    simp only[he]at h ⊢;split at h
    ·simp at h
    rename_i hn;rw[Ao6 hn];split at h
    case h_2=>simp at h
    rename_i els hels;exact last _ _ _ _ _ h
 simp only[Ec]at h ⊢;unfold CB at h ⊢;unfold Ef at hd;cases ht:E.tab d with
 |none=>simp[ht]at hd
 | some dd=>
  simp only[ht]at hd;cases hdd:dd.desc<;>simp only[hdd]at hd<;>try (cases hd;done)
  rename_i e;cases hs:E.tab s with
  |none=>simp[hs]at h
  | some sd=>
   simp only[hs,ht,hdd]at h ⊢;generalize ev fr x=xv at h ⊢;split at h
   case h_3=>
    rename_i e' l hx;cases hx;cases he:E.tab e with
    |none=>simp[he]at h
    |some de=>
     simp only[he]at h ⊢;cases hde:de.desc<;>simp only[hde]at h ⊢<;>try (simp at h;done)
     rename_i k;cases k<;>simp only at h ⊢<;>try (simp at h;done)
     exact last _ _ _ _ _ h
   case h_5=>
    exfalso;split at h
    case isFalse=>simp at h
    split at h
    case h_2=>simp at h
    split at h
    case h_2=>simp at h
    split at h
    case isFalse=>simp at h
    rename_i hid _;simp only[ApX,I4]at h;split at h
    case isFalse=>cases h
    rename_i e2;have:=(AoZ.1 hid).1;omega
   all_goals (exfalso;simp_all;done)
theorem AdU(bs:Ad)(hf:(∃t n l,op=.buildSlice t n l)\/(∃s d x,op=.convert s d x/\Ef E d=true)) (h:(Ec E fr O op).bind (I4 O)=some (y,O')):(Ec E fr (O++bs) op).bind (I4 (O++bs))=some (y,O++bs):=Sf _ hf h
theorem AbM{orc:Option Tmp->Orc}(bs:Ad)(he:MK E ops o=false)(h:D2 E orc ops o fr O=some (x,O')):D2 E orc ops o fr (O++bs)=some (x,O++bs):=by
 unfold D2 at h ⊢;split at h
 ·rcases K1 he with hf|⟨hf,he⟩
  ·rw[hf]at h ⊢;have e:∀O,Fu true O=I4 O:=fun O=>by funext r;simp[Fu]
   rw[e]at h ⊢
   have e2:∀O,Cl E (orc o.dst) o.op fr O=Ec E fr O o.op:=by
    intro O;rcases Dq hf with⟨t,n,l,h⟩|⟨s,d,x,h,_⟩<;>rw[h]<;>rfl
   rw[e2]at h ⊢;exact AdU bs (Dq hf) h
  rw[hf]at h ⊢;have e:∀O,Fu false O=some:=fun O=>by funext r;simp[Fu]
  rw[e]at h ⊢;rw[Bh]at h ⊢;exact Yj bs he h
 ·cases h;rfl
 cases h
def S6:Op->Bool
 |.alloc _|.buildSlice ..|.makeMap _ none=>true
 |_=>false
theorem Zw{orc:Option Tmp->Orc}(ha:S6 o.op=true)(h:D2 E orc ops o fr O=some (x,O')):∃bs,O'=O++bs:=by
 cases hf:ES E ops o
 case true=>exact⟨[],by rw[CO (by unfold MK;rw[hf];simp) h];simp⟩
 unfold D2 at h;rw[hf]at h;have e:∀O,Fu false O=some:=fun O=>by funext r;simp[Fu]
 rw[e,Bh]at h;split at h
 ·cases ho:o.op<;>simp only[ho,S6]at ha h<;>try (cases ha;done)
  ·simp only[Cl,Ec]at h;split at h
   ·split at h
    ·cases h
    split at h
    ·cases h;exact⟨_,rfl⟩
    cases h;exact⟨_,rfl⟩
   cases h
  case makeMap t r=>
   cases r with
   |some _=>cases ha
   |none=>
    simp only[Cl,Ec]at h;cases h;exact⟨_,rfl⟩
  simp only[Cl,Ec]at h;unfold C6 at h;split at h
  ·cases h
  split at h
  ·split at h
   ·split at h
    ·cases h
    split at h
    ·cases h;exact⟨_,rfl⟩
    cases h
   cases h
  cases h
 ·cases h;exact⟨[],by simp⟩
 cases h
def LG:ABlk->ABlk
 |.box cs _=>.box cs false
 |.buf k els _=>.buf k els false
 |.obj o=>.obj o
 |.tb T l=>.tb T l
 |.mp st es=>.mp st es
 |.lp y N l ps a b=>.lp y N l ps a b
 |.gone=>.gone
theorem GI:(O.map LG)[id]?=(O[id]?).map LG:=by simp
theorem XJ:loadA E (O.map LG) d a=loadA E O d a:=by
 cases a<;>simp only[loadA,GI]
 case ref id off=>cases O[id]? with
  |none=>rfl
  |some b=>cases b<;>rfl
 case eref id tot i j=>cases O[id]? with
  |none=>rfl
  |some b=>cases b<;>rfl
theorem Tg:Xi (O.map LG) id tot=Xi O id tot:=by
 simp only[Xi,GI];cases O[id]? with
 |none=>rfl
 |some b=>cases b<;>rfl
theorem Aag:GS (O.map LG) x=GS O x:=by
 cases x<;>simp only[GS,GI]
 case bs full id tot off len=>cases O[id]? with
  |none=>rfl
  |some b=>cases b<;>rfl
theorem Abi:W4 E (O.map LG) t x=W4 E O t x:=by
 unfold W4;cases E.tab t with
 |none=>rfl
 | some d=>
  obtain⟨desc,sz,bt,z⟩:=d;cases x with
  |bs full id tot off len=>
   cases desc<;>try rfl
   simp only[GI];cases O[id]? with
   |none=>rfl
   |some b=>cases b<;>rfl
  |_=>cases desc<;>rfl
theorem PV:AX E (O.map LG) s x f=AX E O s x f:=by
 unfold AX;simp only[Tg]
theorem OO{i:AV}:Ao E (O.map LG) t x i=Ao E O t x i:=by
 unfold Ao;cases E.tab t with
 |none=>rfl
 | some d=>
  obtain⟨desc,sz,bt,z⟩:=d;cases desc<;>dsimp only<;>try (first|rfl|(simp only[Tg];done))
  rename_i e;generalize E.tab e=te;cases te with
  |none=>cases x<;>rfl
  |some de=>
   cases x<;>try rfl
   rename_i full id tot off len;dsimp only;simp only[GI];cases O[id]? with
   |none=>rfl
   |some b=>cases b<;>cases idx i len<;>rfl
theorem Ww(he:Li E t=false):(Gi E (O.map LG) t x lo hi mx).map (·.1)=(Gi E O t x lo hi mx).map (·.1):=by
 unfold Gi;unfold Li at he;cases ht:E.tab t with
 |none=>rfl
 | some d=>
  rw[ht]at he;obtain⟨desc,sz,bt,z⟩:=d;cases desc<;>dsimp only at he ⊢<;>try (first|rfl|(cases he;done))
  ·cases x<;>dsimp only<;>try rfl
   split<;>try rfl
   split<;>rfl
  rename_i e;cases x<;>dsimp only<;>try rfl
  ·split<;>try rfl
   split<;>rfl
  rename_i full id tot off len;simp only[GI];cases O[id]? with
  |none=>rfl
  | some b=>
   cases b with
   |box=>rfl
   |obj o=>rfl
   |mp st es=>rfl
   |lp y N1 l1 ps as1 bd=>rfl
   |gone=>rfl
   |tb T l=>rfl
   | buf k els ro=>
    simp only[Apz,LG];generalize E.tab e=te;cases te with
    |none=>rfl
    |some de=>
     dsimp only;split<;>try rfl
     split<;>rfl
theorem RY{d:TypeId}(he:Ef E d=false):(CB E (O.map LG) s d x).map (·.1)=(CB E O s d x).map (·.1):=by
 unfold CB;unfold Ef at he;cases hs:E.tab s with
 |none=>rfl
 | some sd=>
  cases hd:E.tab d with
  |none=>rfl
  | some dd=>
   simp only[hd]at he ⊢;cases hdd:dd.desc<;>simp only[hdd]at he ⊢<;>try (first|rfl|(cases he;done))
   ·cases x<;>first|rfl|(cases sd.desc<;>rfl)
   cases x<;>cases sd.desc<;>try rfl
   all_goals
    simp only[Aag];split<;>try rfl
    split<;>try rfl
    split<;>try rfl
    split<;>rfl
theorem Pa:Bu (O.map LG) x=Bu O x:=by
 cases x<;>simp only[Bu,GI]
 case bs full id tot off len=>cases O[id]? with
  |none=>rfl
  |some b=>cases b<;>rfl
theorem AgA:fz (O.map LG) x=fz O x:=by
 cases x<;>simp only[fz,Pa];rename_i cs;congr 1;have:Bu (O.map LG)=Bu O:=funext fun x=>Pa
 rw[this]
theorem Ys{orc:Orc}:JB orc fr (O.map LG) c=JB orc fr O c:=by
 unfold JB;have:fz (O.map LG)=fz O:=funext fun x=>AgA
 rw[this]
theorem SL{k:AV}{ok:Bool}:Gs E (O.map LG) t x k ok=Gs E O t x k ok:=by
 cases x with
 | mref id=>
  simp only[Gs,GI];cases O[id]? with
  |none=>rfl
  |some b=>
   cases b with
   |obj o=>rfl
   |mp st es=>rfl
   |lp y N1 l1 ps as1 bd=>rfl
   |gone=>rfl
   |tb T l=>rfl
   |box cs ro=>cases ok<;>cases k<;>first|rfl|(cases HB E t with|none=>rfl|some d=>cases d<;>rfl)
   |buf n els ro=>cases ok<;>cases k<;>first|rfl|(cases HB E t with|none=>rfl|some d=>cases d<;>rfl)
 |_=>rfl
theorem Td(he:Oa E op=false):(Ec E fr (O.map LG) op).map (·.1)=(Ec E fr O op).map (·.1):=by
 cases ht:He E op with
 |false=>
  rw[GR (O:=O) ht];cases Ec E fr O op<;>rfl
 | true=>
  cases op<;>simp only[He,Oa]at ht he<;>try (cases ht;done)
  all_goals try (cases he;done)
  case load t y=>
   simp only[Ec,XJ];split<;>simp only[ApS]<;>rfl
  case convert s d y=>exact RY he
  case slice t y lo hi mx=>exact Ww he
  case lookup t y z ok=>simp only[Ec,SL,ApS];rfl
  case fieldAddr s y f=>
   simp only[Ec,PV,ApS];rfl
  case indexAddr t y i=>
   simp only[Ec,OO,ApS];rfl
  case call c=>
   simp only[Ec];cases hc:c.callee<;>simp only[hc]at ht he ⊢<;>try rfl
   rename_i b;cases b<;>simp only at ht he<;>try (first|(cases ht;done)|(cases he;done))
   unfold Ba;split<;>first|rfl|(simp only[Abi,ApS];rfl)|(exfalso;simp_all;done)
theorem QO{orc:Orc}(he:Oa E op=false):(Cl E orc op fr (O.map LG)).map (·.1)=(Cl E orc op fr O).map (·.1):=by
 cases op with
 | call c=>
  simp only[Cl];cases hc:c.callee<;>simp only[]
  case builtin b=>exact Td he
  all_goals
   simp only[Oa,hc]at he;simp only[he,Apu,ApY,Ys,ApS];rfl
 |_=>exact Td (fr:=fr) (O:=O) he
theorem U0{orc:Option Tmp->Orc}{ρ:Ad}(hρ:O.map LG=ρ.map LG)(he:MK E ops o=false)(h:D2 E orc ops o fr O=some (x,O')):D2 E orc ops o fr ρ=some (x,ρ):=by
 unfold D2 at h ⊢;split at h
 ·rcases K1 he with hf|⟨hf,he⟩
  ·rw[hf]at h ⊢;have e:∀O,Fu true O=I4 O:=fun O=>by funext r;simp[Fu]
   rw[e]at h ⊢
   have e2:∀O,Cl E (orc o.dst) o.op fr O=Ec E fr O o.op:=by
    intro O;rcases Dq hf with⟨t,n,l,h⟩|⟨s,d,x,h,_⟩<;>rw[h]<;>rfl
   rw[e2]at h ⊢;exact Sf ρ (Dq hf) h
  rw[hf]at h ⊢;have e:∀O,Fu false O=some:=fun O=>by funext r;simp[Fu]
  rw[e]at h ⊢;rw[Bh]at h ⊢;have h1:=QO (E:=E) (orc:=orc o.dst) (fr:=fr) (O:=O) he;have h2:=QO (E:=E) (orc:=orc o.dst) (fr:=fr) (O:=ρ) he;rw[hρ,h2,h]at h1;simp only[Apz]at h1;rw[AoY]at h1;obtain⟨⟨y,ρ'⟩,h3,h4⟩:=h1;simp only at h4;subst h4;rw[h3,LD he h3]
 ·cases h;rfl
 cases h
def Ka(E:Env):Op->Bool
 |.slice t ..=>Li E t
 |_=>false
theorem SJ{orc:Option Tmp->Orc}(ha:Ka E o.op=true)(h:D2 E orc ops o fr O=some (x,O')):O.map LG=O'.map LG:=by
 have hf:ES E ops o=false:=by
  cases hf:ES E ops o
  ·rfl
  rcases Dq hf with⟨t,n,l,h⟩|⟨s,d,x,h,_⟩<;>rw[h]at ha<;>cases ha
 unfold D2 at h;rw[hf]at h;have e:∀O,Fu false O=some:=fun O=>by funext r;simp[Fu]
 rw[e,Bh]at h;split at h
 ·cases ho:o.op<;>simp only[ho,Ka]at ha h<;>try (cases ha;done)
  simp only[Cl,Ec,Gi]at h
  repeat' split at h
  all_goals try (cases h;done)
  all_goals try (cases h;rfl)
  all_goals try (
   generalize E.G _=gg at h;generalize E.tab _=tt at h;cases gg<;>cases tt<;>simp only at h<;>try (cases h;done)
   split at h
   ·split at h
    ·cases h;rfl
    cases h
   ·cases h
   done)
  cases h;rename_i hO _ _ _ _ _;rw[ArX];refine(Ap2 fun i=>?_);rw[ApO];split
  ·rename_i hi;subst hi;simp only[Ap4];split
   ·rw[GI,‹O[_]?=some (ABlk.box _ _)›];rfl
   rename_i hn;exact absurd (by simpa using(AoZ.1 ‹O[_]?=some (ABlk.box _ _)›).1) hn
  rfl
 ·cases h;rfl
 cases h
def mkO(O:Ad):Option Nat->Ad
 |none=>O
 |some id=>D4 O id
theorem TO(O:Ad)(a b:Nat):D4 (D4 O a) b=D4 (D4 O b) a:=by
 refine Ap2 fun i=>?_
 simp only[DN];by_cases h1:i=a
 ·by_cases h2:i=b
  ·subst h1;subst h2;rfl
  simp only[Ao4 h1,Ao6 h2]
 by_cases h2:i=b
 ·simp only[Ao6 h1,Ao4 h2]
 simp only[Ao6 h1,Ao6 h2]
theorem Adq(O:Ad)(a b:Option Nat):mkO (mkO O a) b=mkO (mkO O b) a:=by
 cases a<;>cases b<;>first|rfl|exact TO _ _ _
theorem Nn{orc:Option Tmp->Orc}(ha:Ka E o.op=true)(h:D2 E orc ops o fr O=some (x,O')) :∃m,O'=mkO O m/\∀ρ:Ad,ρ.map LG=O.map LG->D2 E orc ops o fr ρ=some (x,mkO ρ m):=by
 have hf:ES E ops o=false:=by
  cases hf:ES E ops o
  ·rfl
  rcases Dq hf with⟨t,n,l,h⟩|⟨s,d,x,h,_⟩<;>rw[h]at ha<;>cases ha
 have e:∀O,Fu false O=some:=fun O=>by funext r;simp[Fu]
 unfold D2 at h ⊢;rw[hf]at h ⊢;simp only[e,Bh]at h ⊢;split at h
 ·cases ho:o.op<;>simp only[ho,Ka]at ha h<;>try (cases ha;done)
  rename_i t y lo hi mx;simp only[Cl,Ec]at h ⊢;unfold Li at ha;cases ht:E.tab t with
  |none=>simp[ht]at ha
  | some d=>
   obtain⟨desc,sz,bt,z⟩:=d;rw[ht]at ha;cases desc<;>simp only at ha<;>try (cases ha;done)
   rename_i n e2;unfold Gi at h ⊢;simp only[ht]at h ⊢;generalize ev fr y=yv at h ⊢;cases yv<;>simp only at h ⊢<;>try (cases h;done)
   case glob gi=>
    refine⟨none,?_,fun ρ _=>?_⟩
    ·repeat' split at h
     all_goals try (cases h;done)
     all_goals (cases h;rfl)
    repeat' split at h
    all_goals try (cases h;done)
    all_goals (cases h;simp_all [mkO])
   rename_i id off;cases hO:O[id]? with
   |none=>simp[hO]at h
   | some b=>
    cases b with
    |buf=>simp[hO]at h
    |obj o=>simp[hO]at h
    |mp st es=>simp[hO]at h
    |lp y N1 l1 ps as1 bd=>simp[hO]at h
    |gone=>simp[hO]at h
    |tb T l=>simp[hO]at h
    | box cs ro=>
     cases hte:E.tab e2 with
     |none=>simp[hO,hte]at h
     | some de=>
      simp only[hO,hte]at h;split at h
      case isFalse=>cases h
      rename_i hc;split at h
      case h_2=>cases h
      rename_i l h1 f1 hb;cases h;refine⟨some id,?_,fun ρ hρ=>?_⟩
      ·show _=D4 O id;unfold D4;rw[hO]
      have h2:(ρ[id]?).map LG=(O[id]?).map LG:=by rw[<-GI,<-GI,hρ]
      rw[hO]at h2;cases hρ2:ρ[id]? with
      |none=>rw[hρ2]at h2;cases h2
      | some b2=>
       rw[hρ2]at h2;cases b2 with
       |buf=>cases h2
       |obj o=>cases h2
       |mp st es=>cases h2
       |lp y N1 l1 ps as1 bd=>cases h2
       |gone=>cases h2
       |tb T l=>cases h2
       |box cs2 ro2=>
        simp only[Apz,LG,Ao0,ABlk.box.injEq,Asi]at h2;subst h2;simp only[hρ2,hte,Ao4 hc,hb];show _=some (_,D4 ρ id);unfold D4;rw[hρ2]
 ·cases h;exact⟨none,rfl,fun ρ _=>rfl⟩
 cases h
def LY:ABlk->ABlk
 |.box cs ro=>.box cs ro
 |.buf k els ro=>.buf k els ro
 |.obj o=>.obj o
 |.tb T l=>.tb T l
 |.mp st _=>.mp st fun _=>none
 |.lp y N l ps a b=>.lp y N l ps a b
 |.gone=>.gone
def PP:Op->Bool
 |.lookup ..=>true
 |_=>false
theorem HJ:(O.map LY)[id]?=(O[id]?).map LY:=by simp
theorem Yc:loadA E (O.map LY) d a=loadA E O d a:=by
 cases a<;>simp only[loadA,HJ]
 case ref id off=>cases O[id]? with
  |none=>rfl
  |some b=>cases b<;>rfl
 case eref id tot i j=>cases O[id]? with
  |none=>rfl
  |some b=>cases b<;>rfl
theorem SK:Xi (O.map LY) id tot=Xi O id tot:=by
 simp only[Xi,HJ];cases O[id]? with
 |none=>rfl
 |some b=>cases b<;>rfl
theorem ZY:GS (O.map LY) x=GS O x:=by
 cases x<;>simp only[GS,HJ]
 case bs full id tot off len=>cases O[id]? with
  |none=>rfl
  |some b=>cases b<;>rfl
theorem ZC:W4 E (O.map LY) t x=W4 E O t x:=by
 unfold W4;cases E.tab t with
 |none=>rfl
 | some d=>
  obtain⟨desc,sz,bt,z⟩:=d;cases x with
  |bs full id tot off len=>
   cases desc<;>try rfl
   simp only[HJ];cases O[id]? with
   |none=>rfl
   |some b=>cases b<;>rfl
  |_=>cases desc<;>rfl
theorem Pz:AX E (O.map LY) s x f=AX E O s x f:=by
 unfold AX;simp only[SK]
theorem OI{i:AV}:Ao E (O.map LY) t x i=Ao E O t x i:=by
 unfold Ao;cases E.tab t with
 |none=>rfl
 | some d=>
  obtain⟨desc,sz,bt,z⟩:=d;cases desc<;>dsimp only<;>try (first|rfl|(simp only[SK];done))
  rename_i e;generalize E.tab e=te;cases te with
  |none=>cases x<;>rfl
  |some de=>
   cases x<;>try rfl
   rename_i full id tot off len;dsimp only;simp only[HJ];cases O[id]? with
   |none=>rfl
   |some b=>cases b<;>cases idx i len<;>rfl
theorem UT(he:Li E t=false):(Gi E (O.map LY) t x lo hi mx).map (·.1)=(Gi E O t x lo hi mx).map (·.1):=by
 unfold Gi;unfold Li at he;cases ht:E.tab t with
 |none=>rfl
 | some d=>
  rw[ht]at he;obtain⟨desc,sz,bt,z⟩:=d;cases desc<;>dsimp only at he ⊢<;>try (first|rfl|(cases he;done))
  ·cases x<;>dsimp only<;>try rfl
   split<;>try rfl
   split<;>rfl
  rename_i e;cases x<;>dsimp only<;>try rfl
  ·split<;>try rfl
   split<;>rfl
  rename_i full id tot off len;simp only[HJ];cases O[id]? with
  |none=>rfl
  | some b=>
   cases b with
   |box=>rfl
   |obj o=>rfl
   |mp st es=>rfl
   |lp y N1 l1 ps as1 bd=>rfl
   |gone=>rfl
   |tb T l=>rfl
   | buf k els ro=>
    simp only[Apz,LY];generalize E.tab e=te;cases te with
    |none=>rfl
    |some de=>
     dsimp only;split<;>try rfl
     split<;>rfl
theorem RG{d:TypeId}(he:Ef E d=false):(CB E (O.map LY) s d x).map (·.1)=(CB E O s d x).map (·.1):=by
 unfold CB;unfold Ef at he;cases hs:E.tab s with
 |none=>rfl
 | some sd=>
  cases hd:E.tab d with
  |none=>rfl
  | some dd=>
   simp only[hd]at he ⊢;cases hdd:dd.desc<;>simp only[hdd]at he ⊢<;>try (first|rfl|(cases he;done))
   ·cases x<;>first|rfl|(cases sd.desc<;>rfl)
   cases x<;>cases sd.desc<;>try rfl
   all_goals
    simp only[ZY];split<;>try rfl
    split<;>try rfl
    split<;>try rfl
    split<;>rfl
theorem PQ:Bu (O.map LY) x=Bu O x:=by
 cases x<;>simp only[Bu,HJ]
 case bs full id tot off len=>cases O[id]? with
  |none=>rfl
  |some b=>cases b<;>rfl
theorem Ago:fz (O.map LY) x=fz O x:=by
 cases x<;>simp only[fz,PQ];rename_i cs;congr 1;have:Bu (O.map LY)=Bu O:=funext fun x=>PQ
 rw[this]
theorem XG{orc:Orc}:JB orc fr (O.map LY) c=JB orc fr O c:=by
 unfold JB;have:fz (O.map LY)=fz O:=funext fun x=>Ago
 rw[this]
theorem Uz(hl:PP op=false)(he:Oa E op=false):(Ec E fr (O.map LY) op).map (·.1)=(Ec E fr O op).map (·.1):=by
 cases ht:He E op with
 |false=>
  rw[GR (O:=O) ht];cases Ec E fr O op<;>rfl
 | true=>
  cases op<;>simp only[He,Oa]at ht he<;>try (cases ht;done)
  all_goals try (cases he;done)
  case load t y=>
   simp only[Ec,Yc];split<;>simp only[ApS]<;>rfl
  case convert s d y=>exact RG he
  case slice t y lo hi mx=>exact UT he
  case lookup t y z ok=>cases hl
  case fieldAddr s y f=>
   simp only[Ec,Pz,ApS];rfl
  case indexAddr t y i=>
   simp only[Ec,OI,ApS];rfl
  case call c=>
   simp only[Ec];cases hc:c.callee<;>simp only[hc]at ht he ⊢<;>try rfl
   rename_i b;cases b<;>simp only at ht he<;>try (first|(cases ht;done)|(cases he;done))
   unfold Ba;split<;>first|rfl|(simp only[ZC,ApS];rfl)|(exfalso;simp_all;done)
theorem Qz{orc:Orc}(hl:PP op=false)(he:Oa E op=false):(Cl E orc op fr (O.map LY)).map (·.1)=(Cl E orc op fr O).map (·.1):=by
 cases op with
 | call c=>
  simp only[Cl];cases hc:c.callee<;>simp only[]
  case builtin b=>exact Uz hl he
  all_goals
   simp only[Oa,hc]at he;simp only[he,Apu,ApY,XG,ApS];rfl
 |_=>exact Uz (fr:=fr) (O:=O) hl he
theorem Q4{orc:Option Tmp->Orc}{ρ:Ad}(hl:PP o.op=false)(hρ:O.map LY=ρ.map LY)(he:MK E ops o=false)(h:D2 E orc ops o fr O=some (x,O')):D2 E orc ops o fr ρ=some (x,ρ):=by
 unfold D2 at h ⊢;split at h
 ·rcases K1 he with hf|⟨hf,he⟩
  ·rw[hf]at h ⊢;have e:∀O,Fu true O=I4 O:=fun O=>by funext r;simp[Fu]
   rw[e]at h ⊢
   have e2:∀O,Cl E (orc o.dst) o.op fr O=Ec E fr O o.op:=by
    intro O;rcases Dq hf with⟨t,n,l,h⟩|⟨s,d,x,h,_⟩<;>rw[h]<;>rfl
   rw[e2]at h ⊢;exact Sf ρ (Dq hf) h
  rw[hf]at h ⊢;have e:∀O,Fu false O=some:=fun O=>by funext r;simp[Fu]
  rw[e]at h ⊢;rw[Bh]at h ⊢;have h1:=Qz (E:=E) (orc:=orc o.dst) (fr:=fr) (O:=O) hl he;have h2:=Qz (E:=E) (orc:=orc o.dst) (fr:=fr) (O:=ρ) hl he;rw[hρ,h2,h]at h1;simp only[Apz]at h1;rw[AoY]at h1;obtain⟨⟨y,ρ'⟩,h3,h4⟩:=h1;simp only at h4;subst h4;rw[h3,LD he h3]
 ·cases h;rfl
 cases h
def Ah3(E:Env):Op->Option Int
 |.insert t _ (.const (.int .i64 n)) _=>if(E.mp t).isSome=true then some n else none
 |_=>none
def AcJ(n:Int)(x:AV):ABlk->ABlk
 |.mp st f=>.mp st (K3 f (.int n) (some x))
 |b=>b
def inO(n:Int)(O:Ad):Option (Nat×AV)->Ad
 |none=>O
 |some (id,x)=>match O[id]? with
  |some b=>O.set id (AcJ n x b)
  |none=>O
theorem ZX(n:Int)(O:Ad)(id i:Nat)(x:AV):(inO n O (some (id,x)))[i]?=if i=id then(O[i]?).map (AcJ n x)else O[i]?:=by
 cases h:O[id]? with
 |none=>
  simp only[inO,h];by_cases e:i=id
  ·subst e;rw[Ao4 rfl,h];rfl
  rw[Ao6 e]
 |some b=>
  simp only[inO,h];by_cases e:i=id
  ·subst e;rw[Ao4 rfl,AM h,h];rfl
  rw[Ao6 e,D3 e]
theorem Acn(n:Int)(x:AV)(b:ABlk):LY (AcJ n x b)=LY b:=by cases b<;>rfl
theorem Oj(n:Int)(O:Ad)(m:Option (Nat×AV)):(inO n O m).map LY=O.map LY:=by
 cases m with
 |none=>rfl
 | some p=>
  obtain⟨id,x⟩:=p;refine Ap2 fun i=>?_
  rw[HJ,HJ,ZX];split
  ·cases O[i]? with
   |none=>rfl
   |some b=>simp[Acn]
  rfl
theorem AbW{n1 n2:Int}(h:n1≠n2)(x1 x2:AV)(b:ABlk):AcJ n2 x2 (AcJ n1 x1 b)=AcJ n1 x1 (AcJ n2 x2 b):=by
 cases b<;>try rfl
 rename_i st f;simp only[AcJ];congr 1;funext k;simp only[K3];by_cases h1:k=.int n1
 ·have h2:k≠.int n2:=fun e=>h (by rw[h1]at e;cases e;rfl)
  simp[h1,h]
 by_cases h2:k=.int n2
 ·simp[h2,Ne.symm h]
 simp[h1,h2]
theorem Ac2{n1 n2:Int}(h:n1≠n2)(O:Ad)(a b:Option (Nat×AV)):inO n2 (inO n1 O a) b=inO n1 (inO n2 O b) a:=by
 cases a with
 |none=>rfl
 | some p=>
  cases b with
  |none=>rfl
  | some q=>
   obtain⟨id,x⟩:=p;obtain⟨id2,y⟩:=q;refine Ap2 fun i=>?_
   simp only[ZX];by_cases h1:i=id
   ·by_cases h2:i=id2
    ·simp only[Ao4 h1,Ao4 h2,ApS];congr 1;funext b;exact AbW h x y b
    simp only[Ao4 h1,Ao6 h2]
   by_cases h2:i=id2
   ·simp only[Ao6 h1,Ao4 h2]
   simp only[Ao6 h1,Ao6 h2]
theorem Of{orc:Option Tmp->Orc}{n:Int}(ha:Ah3 E o.op=some n)(h:D2 E orc ops o fr O=some (x,O')) :∃m,O'=inO n O m/\∀ρ:Ad,ρ.map LY=O.map LY->D2 E orc ops o fr ρ=some (x,inO n ρ m):=by
 have hf:ES E ops o=false:=by
  cases hf:ES E ops o
  ·rfl
  rcases Dq hf with⟨t,n,l,h⟩|⟨s,d,x,h,_⟩<;>rw[h]at ha<;>cases ha
 have e:∀O,Fu false O=some:=fun O=>by funext r;simp[Fu]
 unfold D2 at h ⊢;rw[hf]at h ⊢;simp only[e,Bh]at h ⊢;split at h
 ·cases ho:o.op<;>simp only[ho,Ah3]at ha h<;>try (cases ha;done)
  rename_i t m k x1;split at ha
  case h_2=>cases ha
  rename_i t' m' n' x' he;cases he;split at ha
  case isFalse=>cases ha
  rename_i hmp;cases ha;simp only[Cl,Ec,P2,hmp,ApL]at h ⊢;have hk:ev fr (.const (.int .i64 n))=.int .i64 n:=rfl;rw[hk]at h ⊢;unfold LM at h ⊢;cases hT:HB E t with
  |none=>simp[hT]at h
  | some kd=>
   cases hm:ev fr m<;>simp only[hT,hm,ArV]at h ⊢<;>try (cases h;done)
   rename_i id;cases hO:O[id]? with
   |none=>simp[hO]at h
   | some b=>
    cases hk2:Z1 kd (.int .i64 n)with
    |none=>simp[hO,hk2]at h
    | some kk=>
     have hkk:kk=.int n:=by
      unfold Z1 at hk2;split at hk2
      ·rename_i h1;cases h1
      ·rename_i h1;cases h1;cases hk2;rfl
      cases hk2
     subst hkk;simp only[hO,hk2]at h ⊢;cases b<;>simp only[ArV]at h<;>try (cases h;done)
     rename_i st f;split at h
     case isFalse=>cases h
     rename_i hc;cases h;refine⟨some (id,ev fr x1),by simp only[inO,hO,AcJ],fun ρ hρ=>?_⟩;have h2:(ρ[id]?).map LY=(O[id]?).map LY:=by rw[<-HJ,<-HJ,hρ]
     rw[hO]at h2;cases hρ2:ρ[id]? with
     |none=>rw[hρ2]at h2;cases h2
     |some b2=>
      rw[hρ2]at h2;cases b2<;>simp only[Apz,LY,Ao0,ABlk.mp.injEq,Asi,reduceCtorEq]at h2;subst h2;simp only[Ao4 hc,Apz,inO,hρ2,AcJ]
 ·cases h;exact⟨none,rfl,fun ρ _=>rfl⟩
 cases h
def mkB(E:Env):Op->Bool
 |.makeMap t none=>(E.mp t).isSome
 |_=>false
def Vf:Op->Bool
 |.load ..=>true
 |_=>false
theorem AgM{orc:Option Tmp->Orc}(ha:mkB E o.op=true)(h:D2 E orc ops o fr O=some (x,O')):O'=O\/∃st f,O'=O++[.mp st f]:=by
 have hf:ES E ops o=false:=by
  cases hf:ES E ops o
  ·rfl
  rcases Dq hf with⟨t,n,l,h⟩|⟨s,d,x,h,_⟩<;>rw[h]at ha<;>cases ha
 have e:∀O,Fu false O=some:=fun O=>by funext r;simp[Fu]
 unfold D2 at h;rw[hf]at h;simp only[e,Bh]at h;split at h
 ·cases ho:o.op<;>simp only[ho,mkB]at ha h<;>try (cases ha;done)
  rename_i t r;cases r with
  |some _=>cases ha
  |none=>
   simp only at ha;simp only[Cl,Ec,ha,ApL]at h;cases h;exact .inr ⟨_,_,rfl⟩
 ·cases h;exact .inl rfl
 cases h
theorem Aet{st:Bool}{f:Ky->Option AV}(h:loadA E (O++[.mp st f]) d a=some x):loadA E O d a=some x:=by
 have hne:∀(id:Nat) b,(O++[ABlk.mp st f])[id]?=some b->(∀s g,b≠.mp s g)->O[id]?=some b:=by
  intro id b hb hn;by_cases hlt:id<O.length
  ·rwa[Ao9 hlt]at hb
  rw[Ao7 (by omega)]at hb;cases hk:id-O.length with
  |zero=>rw[hk]at hb;cases hb;exact(hn _ _ rfl).elim
  |succ k=>rw[hk]at hb;simp at hb
 unfold loadA at h ⊢;cases a<;>simp only at h ⊢<;>try exact h
 case ref id off=>
  split at h
  ·rename_i cs ro hb;rw[hne id _ hb (fun _ _ e=>by cases e)];exact h
  cases h
 case eref id tot i j=>
  split at h
  ·rename_i k els ro hb;rw[hne id _ hb (fun _ _ e=>by cases e)];exact h
  cases h
theorem SF{orc:Option Tmp->Orc}{st:Bool}{f:Ky->Option AV}(ha:Vf o.op=true)(h:D2 E orc ops o fr (O++[.mp st f])=some (x,O')):O'=O++[.mp st f]/\D2 E orc ops o fr O=some (x,O):=by
 have hf:ES E ops o=false:=by
  cases hf:ES E ops o
  ·rfl
  rcases Dq hf with⟨t,n,l,h⟩|⟨s,d,x,h,_⟩<;>rw[h]at ha<;>cases ha
 have e:∀O,Fu false O=some:=fun O=>by funext r;simp[Fu]
 unfold D2 at h ⊢;rw[hf]at h ⊢;simp only[e,Bh]at h ⊢;split at h
 ·cases ho:o.op<;>simp only[ho,Vf]at ha h<;>try (cases ha;done)
  simp only[Cl,Ec]at h ⊢;split at h
  ·rename_i d hd;rw[AoY]at h;obtain⟨v,hv,h⟩:=h;cases h;simp only[hd];rw[Aet hv]
   first|exact⟨rfl,rfl⟩|simp
  cases h
 ·cases h;exact⟨rfl,rfl⟩
 cases h
def isKI:Operand->Bool
 |.const (.int _ _)=>true
 |_=>false
def UY(E:Env):Op->Bool
 |.call c=>(match c.callee with
  |.value (.func _)=>true
  |_=>false)&&(!Qd E c&&c.args.toList.all isKI)
 |_=>false
theorem Wg{fr:List AV}(O:Ad):∀{l:List Operand},l.all isKI=true->(l.map (ev fr)).mapM (fz O)=some (l.map (ev fr))
 |[],_=>rfl
 | x::l,h=>by
  simp only[List.all_cons,Ape]at h
  have hx:fz O (ev fr x)=some (ev fr x):=by
   cases x with
   |const v=>cases v<;>first|rfl|cases h.1
   |_=>cases h.1
  rw[ApE,Aqu,hx,Wg O h.2];rfl
theorem XH{orc:Option Tmp->Orc}(ha:UY E o.op=true)(h:D2 E orc ops o fr O=some (x,O')):O'=O/\∀ρ,D2 E orc ops o fr ρ=some (x,ρ):=by
 have hf:ES E ops o=false:=by
  cases hf:ES E ops o
  ·rfl
  rcases Dq hf with⟨t,n,l,h⟩|⟨s,d,x,h,_⟩<;>rw[h]at ha<;>cases ha
 have e:∀O,Fu false O=some:=fun O=>by funext r;simp[Fu]
 unfold D2 at h ⊢;rw[hf]at h ⊢;simp only[e,Bh]at h ⊢;split at h
 ·cases ho:o.op<;>simp only[ho,UY]at ha h<;>try (cases ha;done)
  rename_i c;simp only[Ape,Aqj]at ha;obtain⟨hc,hown,hall⟩:=ha;cases hcal:c.callee with
  | value v=>
   have key:∀ρ,JB (orc o.dst) fr ρ c=JB (orc o.dst) fr O c:=by
    intro ρ;unfold JB;rw[Wg ρ hall,Wg O hall]
   simp only[Cl,hcal,hown,Apu,ApY]at h ⊢;rw[AoY]at h;obtain⟨r,hr,h⟩:=h;cases h;refine⟨rfl,fun ρ=>?_⟩;rw[key ρ,hr];rfl
  |_=>rw[hcal]at hc;cases hc
 ·cases h;exact⟨rfl,fun ρ=>rfl⟩
 cases h
def AjV:Option Int->Option Int->Bool
 |some a,some b=>a != b
 |_,_=>false
def Abj(E:Env)(ops:Array Oper)(x y:Oper):Bool :=
 x.apart ops y&&((!(MK E ops x&&He E y.op)&&!(MK E ops y&&He E x.op))||(S6 y.op&&!MK E ops x)||(Ka E y.op&&!MK E ops x)||(Ka E x.op&&!MK E ops y)||(Ka E x.op&&Ka E y.op))
theorem Ub(h:He E op=false):Oa E op=false:=by
 cases op<;>simp only[He,Oa]at h ⊢<;>try (first|assumption|(cases h;done))
 case call c=>
  cases hc:c.callee<;>rw[hc]at h<;>try (cases h;done)
  rename_i b;cases b<;>first|rfl|(cases h;done)
theorem RZ(h:He E o.op=false):MK E ops o=false:=by
 unfold MK;rw[Ub h];rfl
theorem Vj{orc:Option Tmp->Orc}{x y:Oper}{st1 st2:St}(hc:Abj E ops x y=true)(h1:B6 E orc ops x st=some st1)(h2:B6 E orc ops y st1=some st2) :∃st3,B6 E orc ops y st=some st3/\B6 E orc ops x st3=some st2:=by
 simp only[Abj,Ape,ApG,Aqj,Aqx]at hc;obtain⟨hap,hcase⟩:=hc;obtain⟨a1,a2,a3⟩:=Oper.apart_spec hap;unfold B6 at h1 h2 ⊢;rw[AoY]at h1 h2;obtain⟨⟨v,σ1⟩,hv,rfl⟩:=h1;obtain⟨⟨u,σ2⟩,hu,rfl⟩:=h2;simp only at hu ⊢;rw[AK a1]at hu
 have fin:∀σ3,D2 E orc ops y st.fr st.O=some (u,σ3)->D2 E orc ops x st.fr σ3=some (v,σ2) ->
   ∃st3,(D2 E orc ops y st.fr st.O).map (fun r=>(⟨Ay st.fr y.dst r.1,r.2⟩:St))=some st3/\(D2 E orc ops x st3.fr st3.O).map (fun r=>(⟨Ay st3.fr x.dst r.1,r.2⟩:St))=some ⟨Ay (Ay st.fr x.dst v) y.dst u,σ2⟩:=by
  intro σ3 hy hx;refine⟨⟨Ay st.fr y.dst u,σ3⟩,by rw[hy];rfl,?_⟩;simp only;rw[AK a3,hx];simp only[Apz,CI st.fr v u a2]
 rcases hcase with(((⟨e1,e2⟩|⟨hal,ex⟩)|⟨hal,ex⟩)|⟨hal,ey⟩)|⟨hax,hay⟩
 case inr=>
  obtain⟨m,rfl,_⟩:=Nn hax hv
  have hun:∀(O:Ad) (m:Option Nat),(mkO O m).map LG=O.map LG:=by
   intro O m;cases m with
   |none=>rfl
   | some id=>
    refine Ap2 fun i=>?_
    rw[GI,GI];show((D4 O id)[i]?).map LG=_;rw[DN];split
    ·cases O[i]? with
     |none=>rfl
     |some b=>cases b<;>rfl
    rfl
  obtain⟨m2,rfl,h2⟩:=Nn hay hu;obtain⟨m1,e1,h1⟩:=Nn hax hv;refine fin (mkO st.O m2) (h2 st.O (hun _ _).symm) ?_;rw[h1 _ (hun _ _),e1,Adq]
 case inl.inl.inr=>
  obtain rfl:=CO ex hv;exact fin _ hu (U0 (SJ hal hu) ex hv)
 case inl.inr=>
  obtain rfl:=CO ey hu;exact fin _ (U0 (SJ hal hv).symm ey hu) hv
 case inl.inl.inl.inr=>
  obtain rfl:=CO ex hv;obtain⟨bs,rfl⟩:=Zw hal hu;exact fin _ hu (AbM bs ex hv)
 rcases e1 with ex|ty
 ·obtain rfl:=CO ex hv;rcases e2 with ey|tx
  ·obtain rfl:=CO ey hu;exact fin _ hu hv
  refine fin _ hu ?_;rw[N8 (O:=st.O) tx,hv];rfl
 have ey:MK E ops y=false:=RZ ty;obtain rfl:=CO ey hu;rw[N8 (O:=st.O) ty,AoY]at hu;obtain⟨⟨u',O'⟩,hy,he⟩:=hu;simp only[Apa]at he;obtain⟨rfl,_⟩:=he;obtain rfl:=CO ey hy;exact fin _ hy hv
def Jq(E:Env)(ops:Array Oper)(x y:Oper):Bool :=
 Abj E ops x y||(x.apart ops y&&(((Ah3 E x.op).isSome&&!MK E ops y&&!PP y.op)||((Ah3 E y.op).isSome&&!MK E ops x&&!PP x.op)||AjV (Ah3 E x.op) (Ah3 E y.op)||(mkB E x.op&&Vf y.op)||UY E y.op))
theorem H5{orc:Option Tmp->Orc}{x y:Oper}{st1 st2:St}(hc:Jq E ops x y=true)(h1:B6 E orc ops x st=some st1)(h2:B6 E orc ops y st1=some st2) :∃st3,B6 E orc ops y st=some st3/\B6 E orc ops x st3=some st2:=by
 unfold Jq at hc;rw[ApG]at hc;rcases hc with hc|hc
 ·exact Vj hc h1 h2
 simp only[Ape,ApG,Aqj]at hc;obtain⟨hap,hcase⟩:=hc;obtain⟨a1,a2,a3⟩:=Oper.apart_spec hap;unfold B6 at h1 h2 ⊢;rw[AoY]at h1 h2;obtain⟨⟨v,σ1⟩,hv,rfl⟩:=h1;obtain⟨⟨u,σ2⟩,hu,rfl⟩:=h2;simp only at hu ⊢;rw[AK a1]at hu
 have fin:∀σ3,D2 E orc ops y st.fr st.O=some (u,σ3)->D2 E orc ops x st.fr σ3=some (v,σ2) ->
   ∃st3,(D2 E orc ops y st.fr st.O).map (fun r=>(⟨Ay st.fr y.dst r.1,r.2⟩:St))=some st3/\(D2 E orc ops x st3.fr st3.O).map (fun r=>(⟨Ay st3.fr x.dst r.1,r.2⟩:St))=some ⟨Ay (Ay st.fr x.dst v) y.dst u,σ2⟩:=by
  intro σ3 hy hx;refine⟨⟨Ay st.fr y.dst u,σ3⟩,by rw[hy];rfl,?_⟩;simp only;rw[AK a3,hx];simp only[Apz,CI st.fr v u a2]
 rcases hcase with(((⟨⟨hax,ey⟩,hl⟩|⟨⟨hay,ex⟩,hl⟩)|hne)|⟨hmk,hld⟩)|hck
 ·obtain⟨n,hn⟩:=AqL.1 hax;obtain rfl:=CO ey hu;obtain⟨m,rfl,_⟩:=Of hn hv;exact fin _ (Q4 hl (Oj _ _ _) ey hu) hv
 ·obtain⟨n,hn⟩:=AqL.1 hay;obtain rfl:=CO ex hv;obtain⟨m,rfl,_⟩:=Of hn hu;exact fin _ hu (Q4 hl (Oj _ _ _).symm ex hv)
 ·unfold AjV at hne;split at hne
  case h_2=>cases hne
  rename_i n1 n2 hn1 hn2;have hne:n1≠n2:=by simpa using hne
  obtain⟨m2,rfl,h2⟩:=Of hn2 hu;obtain⟨m1,e1,h1⟩:=Of hn1 hv;subst e1;refine fin (inO n2 st.O m2) (h2 st.O (Oj _ _ _).symm) ?_;rw[h1 _ (Oj _ _ _),Ac2 hne]
 ·rcases AgM hmk hv with rfl|⟨st',f,rfl⟩
  ·have ey:MK E ops y=false:=by
    unfold MK;cases ho:y.op<;>rw[ho]at hld<;>first|rfl|cases hld
   obtain rfl:=CO ey hu;exact fin _ hu hv
  obtain⟨rfl,hy⟩:=SF hld hu;exact fin _ hy hv
 obtain⟨rfl,hall⟩:=XH hck hu;exact fin _ (hall _) hv
def Pb(B:Base)(orc:Orc):Prop:=(∀f args r,orc.fz f args=some r->Con B f args [] (fun r' O'=>r'=r/\O'=[])) /\
 ∀f args O r O',orc.own f args O=some (r,O')->∀F:Addr->Prop,AcA (B.env F) f args O r O'
theorem Afg{orc:Orc}(hO:Pb E.toBase orc)(hop:o.op=.call c)(h:Ae4 orc st.fr st.O c=some r) {a:Act} {w:World} {g:Gh} (hr:Rel E w g st a) {next:Act->World->Prop} {Q:Exit->Act->World->Prop} (hk:∀a' w' g',Rel E w' g' ⟨Ay st.fr o.dst r.1,r.2⟩ a'->Evo E 0 w g w' g'->GLe g g'->next a' w'):o.wp E.P a w next Q:=by
 unfold Ae4 at h;split at h
 case h_2=>cases h
 rename_i f hc;split at h
 case h_4=>cases h
 case h_3=>
  rename_i fid cs _ hnt hf;exact OS hop hc (fun ys e=>hnt ys e) hf (P8 (hO.2 _ _ _ r.1 r.2 h E.F)) hr hk
 case h_2=>
  rename_i fid xs hf;exact M7 hop hc hf (P8 (hO.2 _ _ _ r.1 r.2 h E.F)) hr hk
 rename_i fid hf;exact Wx hop hc hf (P8 (hO.2 _ _ _ r.1 r.2 h E.F)) hr hk
theorem AdK(hE:E.Ok){orc:Orc}(hO:Pb E.toBase orc)(h:Cl E orc o.op st.fr st.O=some r) {a:Act} {w:World} {g:Gh} (hr:Rel E w g st a) {next:Act->World->Prop} {Q:Exit->Act->World->Prop} (hk:∀a' w' g',Rel E w' g' ⟨Ay st.fr o.dst r.1,r.2⟩ a'->Evo E 0 w g w' g'->GLe g g'->next a' w'):o.wp E.P a w next Q:=by
 have plain:Ec E st.fr st.O o.op=some r->o.wp E.P a w next Q:=by
  intro h;obtain⟨v,w',g',h1,h2,h3,h4,h5⟩:=Kz (x:=r.1) (O':=r.2) hE hr h;unfold Oper.wp;exact Sv h1 (hk _ w' g' (FQ (IA hr h2 h3 h4) o.dst h5) h4 h3)
 cases hop:o.op with
 | call c=>
  simp only[hop,Cl]at h;cases hc:c.callee<;>simp only[hc]at h
  case builtin b=>exact plain (by rw[hop];exact h)
  all_goals (split at h;· exact Afg hO hop h hr hk)
  all_goals try (simp[JB,hc]at h;done)
  rename_i f _;rw[AoY]at h;obtain⟨r1,h,rfl⟩:=h;unfold JB at h;simp only[hc]at h;split at h
  case h_2=>cases h
  rename_i fid hf;split at h
  case h_2=>cases h
  rename_i args ha;split at h
  case h_2=>cases h
  rename_i r2 ho;split at h
  case isFalse=>cases h
  rename_i hs;cases h;rcases hs with hs|hs
  ·exact Lb hop hc hf ha hs ((hO.1 _ _ _ ho).mono fun _ _ h=>h.1) hr hk
  refine I6 hop hc hf ha (hO.1 _ _ _ ho) hr ?_;rw[hs];exact hk
 |_=>exact plain (by rw[hop];simp only[hop]at h;exact h)
theorem AjK(hE:E.Ok)(hf:(∃t n l,o.op=.buildSlice t n l)\/(∃s d x,o.op=.convert s d x/\Ef E d=true)) (h:(Ec E st.fr st.O o.op).bind (I4 st.O)=some r) {a:Act} {w:World} {g:Gh} (hr:Rel E w g st a) {next:Act->World->Prop} {Q:Exit->Act->World->Prop} (hk:∀a' w' g',Rel E w' g' ⟨Ay st.fr o.dst r.1,r.2⟩ a'->Evo E 0 w g w' g'->GLe g g'->next a' w'):o.wp E.P a w next Q:=by
 rw[Ao3]at h;obtain⟨⟨x,O'⟩,h1,h2⟩:=h;obtain⟨y,σ2⟩:=r
 have hp:∃bs,O'=st.O++bs:=by
  rcases hf with⟨t,n,l,e⟩|⟨s,d,z,e,_⟩
  ·rw[e]at h1;simp only[Ec,C6]at h1
   repeat' split at h1
   all_goals try (cases h1;done)
   cases h1;exact⟨_,rfl⟩
  rw[e]at h1;simp only[Ec,CB]at h1
  repeat' split at h1
  all_goals try (cases h1;done)
  all_goals (cases h1;first|exact⟨_,rfl⟩|exact⟨[],by simp⟩)
 obtain⟨v,w',g',k1,k2,k3,k4,k5⟩:=Kz (x:=x) (O':=O') hE hr h1;obtain⟨rfl,m2,m3,m4,m5⟩:=V8 hr.mem hp h2 k2 k3 k4 k5;unfold Oper.wp;exact Sv k1 (hk _ w' _ (FQ (IA hr m2 m3 m4) o.dst m5) m4 m3)
theorem ME(hE:E.Ok){orc:Option Tmp->Orc}(hO:∀d,Pb E.toBase (orc d))(h:(Cl E (orc o.dst) o.op st.fr st.O).bind (Fu (ES E ops o) st.O)=some r) {a:Act} {w:World} {g:Gh} (hr:Rel E w g st a) {next:Act->World->Prop} {Q:Exit->Act->World->Prop} (hk:∀a' w' g',Rel E w' g' ⟨Ay st.fr o.dst r.1,r.2⟩ a'->Evo E 0 w g w' g'->GLe g g'->next a' w'):o.wp E.P a w next Q:=by
 cases hf:ES E ops o with
 | true=>
  have e:∀O,Fu true O=I4 O:=fun O=>by funext r;simp[Fu]
  have e2:Cl E (orc o.dst) o.op st.fr st.O=Ec E st.fr st.O o.op:=by
   rcases Dq hf with⟨t,n,l,h⟩|⟨s,d,x,h,_⟩<;>rw[h]<;>rfl
  rw[hf,e,e2]at h;exact AjK hE (Dq hf) h hr hk
 |false=>
  have e:∀O,Fu false O=some:=fun O=>by funext r;simp[Fu]
  rw[hf,e,Bh]at h;exact AdK hE (hO _) h hr hk
theorem On(hE:E.Ok){orc:Option Tmp->Orc}(hO:∀d,Pb E.toBase (orc d))(hi:ops[i]?=some o)(h:B6 E orc ops o st=some st') {a:Act} {w:World} {g:Gh} (hr:Rel E w g st a) {next:Act->World->Prop} {Q:Exit->Act->World->Prop} (hk:∀a' w' g',Rel E w' g' st' a'->Evo E 0 w g w' g'->GLe g g'->next a' w'):wpOp E.P ops Q i next a w:=by
 unfold B6 at h;rw[AoY]at h;obtain⟨⟨x,O'⟩,hv,rfl⟩:=h;unfold wpOp;simp only[hi];unfold D2 G9 at hv;cases hg:o.guard with
 |none=>
  simp only[hg]at hv;simp only[Region.wanted,hg,ApL];exact .inl (ME hE hO hv hr hk)
 | some p=>
  obtain⟨j,want⟩:=p;simp only[hg]at hv;cases hy:Il ops st.fr j with
  |none=>simp[hy]at hv
  | some b=>
   simp only[Region.wanted,hg,Hg hr hy];simp only[hy,Apz]at hv;by_cases e:b=some want
   ·rw[Ao4 (by simp[e])];rw[show(b==some want)=true by simp[e]]at hv;exact .inl (ME hE hO hv hr hk)
   rw[Ao6 (by simp[e])];rw[show(b==some want)=false by simp[e]]at hv;cases hv;exact hk _ w g (FQ hr o.dst (Kt _ _ _)) (Evo.refl _ _ _ _) (GLe.refl _)
def F4(ops:Array Oper)(i:Nat):List Nat:=match ops[i]? with
 |some o=>(o.after.toList.filter (Region.binds .any)).map (·.on)
 |none=>[]
def FO(ops:Array Oper)(T:List (List Nat)):Bool :=
 (List.range ops.size).all fun i=>(F4 ops i).all (·<i)&&(T.getD i []).all fun j=>(F4 ops i).contains j||(F4 ops i).any fun k=>(T.getD k []).contains j
def It(E:Env)(ops:Array Oper)(T:List (List Nat)):Bool :=
 (List.range ops.size).all fun i=>(List.range i).all fun j=>(T.getD i []).contains j||(match ops[j]?,ops[i]? with
  |some x,some y=>Jq E ops x y
  |_,_=>false)
theorem Iq{orc:Option Tmp->Orc}{ops:Array Oper}{i:Nat}{y:Oper}(hi:ops[i]?=some y){l2:List Nat}{st':St}:∀(l1:List Nat) (st:St),(∀j∈l1,∀x,ops[j]?=some x->Jq E ops x y=true)->AO E orc ops (l1++i::l2) st=some st' ->∃st1,B6 E orc ops y st=some st1/\AO E orc ops (l1++l2) st1=some st'
 |[],st,_,h=>by
  simp only[ApN,AO,hi]at h;rw[Ao3]at h;exact h
 | j::l1,st,hc,h=>by
  simp only[Apo,AO]at h;cases hj:ops[j]? with
  |none=>simp[hj]at h
  |some x=>
   simp only[hj]at h;rw[Ao3]at h;obtain⟨s1,h1,h⟩:=h;obtain⟨s2,h2,h⟩:=Iq hi l1 s1 (fun k hk=>hc k (ApI _ hk)) h;obtain⟨s3,h3,h4⟩:=H5 (hc j Apn x hj) h1 h2;refine⟨s3,h3,?_⟩;simp only[Apo,AO,hj,h4,ApX];exact h
theorem As{p:Nat->Bool}(h:(List.range n).all p=true)(hi:i<n):p i=true :=
 Api.1 h i (ApK.2 hi)
theorem EY(h:FO ops T=true)(hi:i<ops.size){d:Nat}(hd:d∈F4 ops i):d<i:=by
 have:=As h hi;simp only[Ape,Api,App]at this;exact this.1 d hd
theorem HH(h:FO ops T=true){rem:List Nat} (hdown:∀k,k<ops.size->k ∉ rem->∀d∈F4 ops k,d ∉ rem):∀(i:Nat),i<ops.size->(∀d∈F4 ops i,d ∉ rem)->∀j∈T.getD i [],j ∉ rem:=by
 intro i
 induction i using Nat.strongRecOn with
 | _ i ih=>
  intro hi hd j hj;have hh:=As h hi;simp only[Ape,Api,ApG,Apg,Ars,App]at hh;rcases hh.2 j hj with hj|⟨k,hk,hkj⟩
  ·exact hd j hj
  have hki:=hh.1 k hk;have hks:=AqO hki hi;exact ih k hki hks (hdown k hks (hd k hk)) j hkj
theorem FT(hi:ops[i]?=some o){d:Nat}:d∈F4 ops i↔∃e∈o.after,Region.binds .any e=true/\e.on=d:=by
 simp only[F4,hi,Aqt,List.mem_filter,Array.mem_toList_iff];constructor
 ·rintro⟨e,⟨h1,h2⟩,h3⟩;exact⟨e,h1,h2,h3⟩
 rintro⟨e,h1,h2,h3⟩;exact⟨e,⟨h1,h2⟩,h3⟩
theorem XS(hE:E.Ok){orc:Option Tmp->Orc}(hO:∀d,Pb E.toBase (orc d))(hc:FO ops T=true)(hm:It E ops T=true){Q:Exit->Act->World->Prop} :∀(fuel:Nat) (rem:List Nat) (listed:Array Bool) (st:St) (a:Act) (w:World) (g:Gh),rem.length=fuel->rem.Pairwise (·<·)->listed.size=ops.size ->(∀j,listed.getD j true=false↔j∈rem)->(∀k,k<ops.size->k ∉ rem->∀d∈F4 ops k,d ∉ rem) ->AO E orc ops rem st=some st'->Rel E w g st a->(∀a' w' g',Rel E w' g' st' a'->Evo E 0 w g w' g'->GLe g g'->Q .normal a' w') ->wpAny E.P .any ops Q fuel listed a w:=by
 have hin:∀(rem:List Nat) (listed:Array Bool),listed.size=ops.size->(∀j,listed.getD j true=false↔j∈rem)->∀j∈rem,j<ops.size:=by
  intro rem listed hs hl j hj;have:=(hl j).2 hj;by_cases e:j<listed.size
  ·omega
  simp[Array.getD,e]at this
 have hgd:∀(rem:List Nat) (listed:Array Bool),listed.size=ops.size->(∀j,listed.getD j true=false↔j∈rem)->∀d,d<ops.size->(listed.getD d false=true↔d ∉ rem):=by
  intro rem listed hs hl d hd
  have h1:listed.getD d false=listed.getD d true:=by
   have:d<listed.size:=by omega
   simp[Array.getD,this]
  rw[h1,<-hl d];cases listed.getD d true<;>simp
 have hrd:∀(rem:List Nat) (listed:Array Bool),listed.size=ops.size->(∀j,listed.getD j true=false↔j∈rem)->∀i,
   (i∈Region.ready .any ops listed↔i∈rem/\∀d∈F4 ops i,d ∉ rem):=by
  intro rem listed hs hl i;rw[mem_ready,hl i];constructor
  ·rintro⟨h1,o,ho,h2⟩;refine⟨h1,fun d hd=>?_⟩;have hlt:=EY hc (hin rem listed hs hl i h1) hd;have hds:=AqO hlt (hin rem listed hs hl i h1);obtain⟨e,he,hb,rfl⟩:=(FT ho).1 hd;exact(hgd rem listed hs hl _ hds).1 (h2 e he hb)
  rintro⟨h1,h2⟩;have hi:=hin rem listed hs hl i h1;refine⟨h1,ops[i],Apk hi,fun e he hb=>?_⟩;have hd:e.on∈F4 ops i:=(FT (Apk hi)).2 ⟨e,he,hb,rfl⟩;exact(hgd rem listed hs hl _ (AqO (EY hc hi hd) hi)).2 (h2 _ hd)
 have hdone:∀(rem:List Nat) (listed:Array Bool),rem.Pairwise (·<·)->listed.size=ops.size->(∀j,listed.getD j true=false↔j∈rem)->Region.ready .any ops listed=[]->rem=[]:=by
  intro rem listed hp hs hl hr;cases rem with
  |nil=>rfl
  | cons i r=>
   have hi:i∈Region.ready .any ops listed:=(hrd _ listed hs hl i).2 ⟨Apn,fun d hd hm=>by
    have:=EY hc (hin _ listed hs hl i Apn) hd;rcases Apq.1 hm with rfl|hm
    ·omega
    have:=Apt hp hm;omega⟩
   rw[hr]at hi;cases hi
 intro fuel
 induction fuel with
 |zero=>
  intro rem listed st a w g hf hp hs hl hd hst hr hq;have:rem=[]:=ApF.1 hf;subst this;simp only[AO,Ao0]at hst;subst hst;refine⟨?_,hq a w g hr (Evo.refl _ _ _ _) (GLe.refl _)⟩;rw[AqP];intro i hi;have:=((hrd _ listed hs hl i).1 hi).1;cases this
 | succ fuel ih=>
  intro rem listed st a w g hf hp hs hl hd hst hr hq;refine⟨fun h=>?_,fun i hi=>?_⟩
  ·have:=hdone rem listed hp hs hl h;subst this;simp at hf
  obtain⟨hir,hid⟩:=(hrd rem listed hs hl i).1 hi;have his:=hin rem listed hs hl i hir;obtain⟨l1,l2,rfl⟩:=Arf hir;have hp':=hp;rw[ApB]at hp';obtain⟨p1,p2,p3⟩:=hp'
  have hnd:∀j∈l1++l2,j≠i:=by
   intro j hj;rcases Apl.1 hj with hj|hj
   ·have:=p3 j hj i Apn;omega
   have:=Apt p2 hj;omega
  have hmem:∀j,j∈l1++l2↔j∈l1++i::l2/\j≠i:=by
   intro j;constructor
   ·intro hj;refine⟨?_,hnd j hj⟩;simp only[Apl,Apq]at hj ⊢;rcases hj with hj|hj
    ·exact .inl hj
    exact .inr (.inr hj)
   rintro⟨hj,hne⟩;simp only[Apl,Apq]at hj ⊢;rcases hj with hj|hj|hj
   ·exact .inl hj
   ·exact(hne hj).elim
   exact .inr hj
  have hcm:∀j∈l1,∀x,ops[j]?=some x->Jq E ops x ops[i]=true:=by
   intro j hj x hx;have hji:j<i:=p3 j hj i Apn;have h1:=As (As hm his) hji;simp only[ApG,Apg]at h1;rcases h1 with h1|h1
   ·exact(HH hc hd i his hid j h1 (AqK _ hj)).elim
   simp only[hx,Apk his]at h1;exact h1
  obtain⟨st1,h1,h2⟩:=Iq (Apk his) l1 st hcm hst;refine On hE hO (Apk his) h1 hr fun a1 w1 g1 hr1 he1 hg1=>?_
  refine ih (l1++l2) (listed.setIfInBounds i true) st1 a1 w1 g1 ?_ ?_ ?_ ?_ ?_ h2 hr1 ?_
  ·simp at hf ⊢;omega
  ·exact hp.sublist (AqM (AqY i l2) l1)
  ·simp[hs]
  ·intro j;rw[hmem j,<-hl j];by_cases e:j=i
   ·subst e;have:j<listed.size:=by omega
    simp[Array.getD,this]
   rw[getD_set_ne true (fun h=>e h.symm)];simp[e]
  ·intro k hk hkn d hdk hdm;have hd2:=((hmem d).1 hdm).1;by_cases e:k=i
   ·subst e;exact hid d hdk hd2
   exact hd k hk (fun h=>hkn ((hmem k).2 ⟨h,e⟩)) d hdk hd2
  intro a' w' g' hr' he' hg';exact hq a' w' g' hr' (he1.trans he') (hg1.trans hg')
theorem Io{w':World}{a:Act}(hr:Rel E w g st a)(h:SameMem w w'):Rel E w' g st a :=
 ⟨hr.size,fun t x hx=>R2 h (hr.slot t x hx),hr.mem.same h,hr.defers.evo (n:=0) (Evo.same h)⟩
theorem OT(hE:E.Ok){orc:Option Tmp->Orc}(hO:∀d,Pb E.toBase (orc d))(hP:E.P.follows .mixedOrders=true){l:List Oper}(T:List (List Nat))(hok1:FO l.toArray T=true)(hok2:It E l.toArray T=true){K:CX} (hst:AO E orc l.toArray (List.range l.length) st=some st') (hk:K .normal st'):Run E n (.region id l.toArray true) st K:=by
 intro hcm a w g hr Q hq;refine Hv (ID hcm) (wp_region_any hP ?_);have hsm:SameMem w { w with drawn:=w.drawn+1 }:=⟨rfl,rfl,rfl,rfl⟩;refine XS hE hO hok1 hok2 l.toArray.size (List.range l.length) _ st a _ g (by simp) Aqc (by simp) ?_ ?_ hst (Io hr hsm) ?_
 ·intro j;rw[ApK];by_cases h:j<l.length<;>simp[Array.getD,h]
 ·intro k hk hkn;exact(hkn (ApK.2 (by simpa using hk))).elim
 intro a' w' g' hr' he hg;exact hq _ _ _ _ _ hk hr' ((Evo.same hsm).trans (he.of_gle hg))
end Go.Rv
