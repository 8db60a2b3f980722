/-
  Part 15.
-/
import Derived.Test.YtldngkmkhfddpaaGreatDoorYX14
import Derived.Orders
namespace Go.Rv
set_option linter.unusedVariables false
set_option linter.unusedSimpArgs false
variable{fr fr':List AV}{O O' σ2:Ac}{c:Call}{r:AV×Ac}{w:World}{g:Gh}{v x y a:AV}{op:Op}{d:TD}{ops:Array Oper}{o:Oper}{t s:TypeId}{id tot n f i:Nat}{lo hi mx:Option AV}{st st':St}{T:List (List Nat)}
variable {E:Env}
structure Orc where
  fz:FuncId->List AV->Option AV
  own:FuncId->List AV->Ac->Option (AV×Ac)
def Qr(E:Env)(c:Call):Bool:=match c.callee with
 |.value (.func f)=>E.own f c.args.toList
 |.value (.tmp _)=>E.own 1000000 c.args.toList
 |_=>false
def AfG(orc:Orc)(fr:List AV)(O:Ac)(c:Call):Option (AV×Ac) :=
 match c.callee with
 |.value f=>match ev fr f with
  |.fn fid []=>orc.own fid (c.args.toList.map (ev fr)) O
  |.fn fid [.tup xs]=>orc.own fid (xs++c.args.toList.map (ev fr)) O
  |.fn fid cs=>orc.own fid (c.args.toList.map (ev fr)++cs) O
  |_=>none
 |_=>none
theorem TU{orc:Orc}(h:AfG orc fr O c=some r):∃fid args,orc.own fid args O=some r:=by
 unfold AfG at h;split at h
 ·split at h
  ·exact⟨_,_,h⟩
  ·exact⟨_,_,h⟩
  ·exact⟨_,_,h⟩
  cases h
 cases h
def Jy(orc:Orc)(fr:List AV)(O:Ac)(c:Call):Option AV :=
 match c.callee with
 | .value f=>match ev fr f with
  | .fn fid []=>match(c.args.toList.map (ev fr)).mapM (fz O)with
   |some args=>match orc.fz fid args with
    |some r=>if r.scalar=true\/(c.args.toList.map (ev fr)).flatMap BW=[]then some r else none
    |none=>none
   |none=>none
  |_=>none
 |_=>none
def Ca(E:Env)(orc:Orc)(op:Op)(fr:List AV)(O:Ac):Option (AV×Ac) :=
 match op with
 |.call c=>match c.callee with
  |.builtin _=>DX E fr O op
  |_=>if Qr E c=true then AfG orc fr O c else(Jy orc fr O c).map fun r=>(r,O)
 |op=>DX E fr O op
theorem PY{pr:Addr->Prop}{v:Value}(h:Rep w pr g v x):x.under g.length=true:=by
 induction h with
 |bs g v full id tot off len b hb hx ht h ho=>simpa [AV.under]using(Ao6.1 hb).1
 |ref g id off β b hb hx hβ=>simpa [AV.under]using(Ao6.1 hb).1
 |tref g id t β b hb hx hβ ht=>simpa [AV.under]using(Ao6.1 hb).1
 |mref g id β b hb hx hβ=>simpa [AV.under]using(Ao6.1 hb).1
 |yld g id β b hb hx hβ=>simpa [AV.under]using(Ao6.1 hb).1
 |nref g v id b hb hx h=>simpa [AV.under]using(Ao6.1 hb).1
 |eref g v id tot i j b hb hx ht h ho=>simpa [AV.under]using(Ao6.1 hb).1
 |agg g vs cs hs ho hr ih=>
  simp only[AV.under,App];rintro⟨x,hx⟩ _;obtain⟨i,hi⟩:=Aqo.1 hx;exact ih i x hi
 |tup g vs cs hs hr ih=>
  simp only[AV.under,App];rintro⟨x,hx⟩ _;obtain⟨i,hi⟩:=Aqo.1 hx;exact ih i x hi
 |fn g f caps cs hs hr hn ih=>
  simp only[AV.under,App];rintro⟨x,hx⟩ _;obtain⟨i,hi⟩:=Aqo.1 hx;exact ih i x hi
 |fnb g f fs cs hs hr ih=>
  simp only[AV.under,App];rintro⟨x,hx⟩ _;rw[ApQ]at hx;subst hx;simp only[AV.under,App];rintro⟨y,hy⟩ _;obtain⟨i,hi⟩:=Aqo.1 hy;exact ih i y hi
 |iface g t v x hr ih=>simpa [AV.under]using ih
 |_=>simp[AV.under]
theorem AaQ(hm:Mem E w g O):∀ab∈O,WK O.length ab:=by
 intro ab hab;obtain⟨id,hid⟩:=Aqo.1 hab;have hl:id<g.length:=by rw[hm.len];exact(Ao6.1 hid).1
 have hk:=hm.blk id g[id] ab (Ao9 hl) hid;cases ab with
 |box cs ro=>
  obtain⟨k1,k2,k3,k4,k5,β,arr,t,fz,k6,k7,k8,k9,k10⟩:=hk;intro x hx;obtain⟨j,hj⟩:=Aqo.1 hx;have:=PY (k10 j x hj).1;rwa[hm.len]at this
 | buf k els ro=>
  obtain⟨k1,k2,k3,k4,k5,k6,k7⟩:=hk;intro cs hcs x hx;obtain⟨i,hi⟩:=Aqo.1 hcs;obtain⟨j,hj⟩:=Aqo.1 hx;cases hb:g[id].blk with
  | none=>
   rcases(k6 hb).1 with this|this
   ·subst this;simp at hi
   have h1:=k5 i cs hi;have h2:=(Ao6.1 hj).1;omega
  |some β=>
   obtain⟨arr,t,fz,g1,g2,g3,g4,g5⟩:=k7 β hb;have:=PY (g5 i cs j x hi hj).1;rwa[hm.len]at this
 |obj o=>exact trivial
 |mp st es=>exact trivial
 |lp y N1 l1 ps as1 bd=>
  obtain⟨k1,β,f,T,D,k2,k3,k4,k5⟩:=hk;intro p hp;have:=PY (k5 p hp);rwa[hm.len]at this
 |gone=>exact trivial
 |tb T l=>exact trivial
def I9(O:Ac)(r:AV×Ac):Option (AV×Ac) :=
 match r with
 |(.bs full id tot off len,O')=>if id=O.length then(Bm O' (.bs full id tot off len)).map fun y=>(y,O)else none
 |_=>none
theorem Wu{w':World}{g1:Gh}{v:Value}(hm:Mem E w g O)(hp:∃bs,O'=O++bs)(h:I9 O (x,O')=some (y,σ2)) (m1:Mem E w' g1 O') (h3:GLe g g1) (h4:Evo E 0 w g w' g1) (h5:Rep w' (A3 E g1) g1 v x) :σ2=O/\Mem E w' (g1.take O.length) O/\GLe g (g1.take O.length)/\Evo E 0 w g w' (g1.take O.length)/\Rep w' (A3 E (g1.take O.length)) (g1.take O.length) v y:=by
 obtain⟨bs,rfl⟩:=hp;have ht:(O++bs).take O.length=O:=by simp
 unfold I9 at h;split at h
 case h_2=>cases h
 rename_i full id tot off len σ3 he;cases he;split at h
 case isFalse=>cases h
 rename_i hid;rw[Ao5]at h;obtain⟨y',hy,h⟩:=h;cases h;have hmt:=K6 m1 O.length (by rw[ht];exact AaQ hm);rw[ht]at hmt;refine⟨rfl,hmt,?_,?_,?_⟩
 ·intro id b hb;obtain⟨b',hb',hs⟩:=h3 id b hb;exact⟨b',Iq hb' (by rw[<-hm.len];exact(Ao6.1 hb).1),hs⟩
 ·exact⟨h4.os,h4.tape,h4.output,h4.size,fun a u hc hpr=>⟨(h4.cells a u hc hpr).1,O6 (h4.cells a u hc hpr).2⟩,
   fun β hβ hn=>⟨(h4.blocks β hβ hn).1,fun h=>(h4.blocks β hβ hn).2 (Mn h)⟩,fun id hid=>absurd hid (Ap0 _)⟩
 refine(K1 (pr:=A3 E (g1.take O.length)) m1 h5 hy (fun a=>O6) ?_).mono (fun a u hc hpr=>⟨hc,hpr⟩) (GLe.nil _);rintro id' b ⟨_,_,_,_,e⟩ hb β off' hβ _;cases e;refine⟨fun hF=>(m1.foreign _ hF).2 ⟨id,b,hb,hβ⟩,fun id2 c hc he=>?_⟩;have:=m1.inj id2 id c b β (Ij hc).1 hb he hβ;have:=(Ij hc).2;omega
theorem Ba{α:Type}(x:Option α):x.bind some=x:=by cases x<;>rfl
def Abe(t:Tmp):Operand->Bool
 |.tmp s=>s==t
 |_=>false
def Aaw(t:Tmp):List Operand->Bool
 |[]=>false
 |_::r=>r.any (Abe t)
def WI:Builtin->Bool
 |.append=>true
 |_=>false
theorem PN:WI .append=true:=rfl
def AgZ(t:Tmp)(o:Oper):Bool:=match o.op with
 |.call c=>match c.callee with
  |.value _=>c.args.toList.any (Abe t)
  |.builtin b=>Aaw t c.args.toList&&WI b
  |_=>false
 |.buildSlice _ _ parts=>parts.toList.any fun p=>Abe t p.2
 |.indexAddr _ x _=>Abe t x
 |_=>false
def Eg(E:Env)(t:TypeId):Bool:=match E.tab t with
 |some d=>match d.desc with
  |.slice _=>true
  |_=>false
 |none=>false
def ED(E:Env)(ops:Array Oper)(o:Oper):Bool:=match o.dst with
 |some t=>match o.op with
  |.buildSlice ..=>ops.toList.any (AgZ t)
  |.convert _ d _=>Eg E d&&ops.toList.any (AgZ t)
  |_=>false
 |none=>false
def Fl(b:Bool)(O:Ac)(r:AV×Ac):Option (AV×Ac):=if b then I9 O r else some r
def Dz(E:Env)(orc:Option Tmp->Orc)(ops:Array Oper)(o:Oper)(fr:List AV)(O:Ac):Option (AV×Ac) :=
 match G8 ops fr o with
 |some true=>(Ca E (orc o.dst) o.op fr O).bind (Fl (ED E ops o) O)
 |some false=>some (.tup [],O)
 |none=>none
def Bw(E:Env)(orc:Option Tmp->Orc)(ops:Array Oper)(o:Oper)(st:St):Option St :=
 (Dz E orc ops o st.fr st.O).map fun r=>⟨Ay st.fr o.dst r.1,r.2⟩
def AK(E:Env)(orc:Option Tmp->Orc)(ops:Array Oper):List Nat->St->Option St
 |[],st=>some st
 |i::l,st=>match ops[i]? with
  |some o=>(Bw E orc ops o st).bind (AK E orc ops l)
  |none=>none
theorem Aek{x:Operand}(h:∀t,x=.tmp t->fr[t]?=fr'[t]?):ev fr x=ev fr' x:=by
 cases x with
 |tmp t=>simp only[ev,List.getD,h t rfl]
 |_=>rfl
theorem MJ(h:∀x∈op.operands,ev fr x=ev fr' x):DX E fr O op=DX E fr' O op:=by
 have m1:∀(l:List Operand),(∀x∈l,x∈op.operands)->l.map (ev fr)=l.map (ev fr'):=fun l hl=>Aqu fun x hx=>h x (hl x hx)
 cases op<;>simp only[DX]
 case move x=>rw[h x (by simp[Op.operands])]
 case assign x=>rw[h x (by simp[Op.operands])]
 case pick c a b=>rw[h c (by simp[Op.operands]),h a (by simp[Op.operands]),h b (by simp[Op.operands])]
 case box t x=>rw[h x (by simp[Op.operands])]
 case build t parts=>
  have:(parts.toList.map fun(i,x)=>(i,ev fr x))=(parts.toList.map fun(i,x)=>(i,ev fr' x)):=Aqu fun p hp=>by
   have:=h p.2 (by simp[Op.operands];exact⟨p.1,by simpa using hp⟩);simp[this]
  rw[this]
 case buildSlice t n parts=>
  have:(parts.toList.map fun(i,x)=>(i,ev fr x))=(parts.toList.map fun(i,x)=>(i,ev fr' x)):=Aqu fun p hp=>by
   have:=h p.2 (by simp[Op.operands];exact⟨p.1,by simpa using hp⟩);simp[this]
  rw[this]
 case load t x=>rw[h x (by simp[Op.operands])]
 case store t x y=>rw[h x (by simp[Op.operands]),h y (by simp[Op.operands])]
 case nilCheck x=>rw[h x (by simp[Op.operands])]
 case range t x=>rw[h x (by simp[Op.operands])]
 case makeMap t r=>cases r<;>rfl
 case insert t m k x=>rw[h m (by simp[Op.operands]),h k (by simp[Op.operands]),h x (by simp[Op.operands])]
 case mapUpdate t m k x=>rw[h m (by simp[Op.operands]),h k (by simp[Op.operands]),h x (by simp[Op.operands])]
 case next it b=>
  cases b with
  |false=>rfl
  |true=>simp only;rw[h it (by simp[Op.operands])]
 case binOp op t x y u=>rw[h x (by simp[Op.operands]),h y (by simp[Op.operands])]
 case unOp op t x=>rw[h x (by simp[Op.operands])]
 case convert s d x=>rw[h x (by simp[Op.operands])]
 case makeInterface t x=>rw[h x (by simp[Op.operands])]
 case makeFunc fn first caps=>
  have:caps.toList.map (ev fr)=caps.toList.map (ev fr'):=m1 _ (fun x hx=>by simp[Op.operands];exact .inr (by simpa using hx));have t2:first.toList.map (ev fr)=first.toList.map (ev fr'):=m1 _ (fun x hx=>by simp[Op.operands];exact .inl (by simpa using hx))
  cases fn<;>simp only[this,t2]
 case makeSlice t x y=>rw[h x (by simp[Op.operands]),h y (by simp[Op.operands])]
 case slice t x lo hi mx=>
  have hx:=h x (by simp[Op.operands]);have hl:lo.map (ev fr)=lo.map (ev fr'):=by cases lo with|none=>rfl|some l=>simp[h l (by simp[Op.operands])]
  have hh:hi.map (ev fr)=hi.map (ev fr'):=by cases hi with|none=>rfl|some l=>simp[h l (by simp[Op.operands])]
  have hm:mx.map (ev fr)=mx.map (ev fr'):=by cases mx with|none=>rfl|some l=>simp[h l (by simp[Op.operands])]
  rw[hx,hl,hh,hm]
 case fieldAddr s x f=>rw[h x (by simp[Op.operands])]
 case field s x f=>rw[h x (by simp[Op.operands])]
 case indexAddr t x y=>rw[h x (by simp[Op.operands]),h y (by simp[Op.operands])]
 case index t x y=>rw[h x (by simp[Op.operands]),h y (by simp[Op.operands])]
 case sliceToArrayPointer t x=>rw[h x (by simp[Op.operands])]
 case typeAssert x _ t ok=>rw[h x (by simp[Op.operands])]
 case lookup t x y ok=>rw[h x (by simp[Op.operands]),h y (by simp[Op.operands])]
 case extract x i=>rw[h x (by simp[Op.operands])]
 case call c=>
  cases hc:c.callee<;>simp only[];have:c.args.toList.map (ev fr)=c.args.toList.map (ev fr'):=m1 _ (fun x hx=>by simp[Op.operands,Call.operands];exact .inr (by simpa using hx));rw[this]
def KX(E:Env)(t:TypeId):Bool:=match E.tab t with
 |some d=>match d.desc with
  |.array ..=>true
  |_=>false
 |none=>false
def NS(E:Env):Op->Bool
 |.alloc _|.box ..|.buildSlice ..|.store ..|.makeSlice ..|.range ..|.next ..|.makeMap ..|.insert ..|.mapUpdate ..=>true
 |.convert _ d _=>Eg E d
 |.slice t ..=>KX E t
 |.call c=>match c.callee with
  |.builtin .len|.builtin .min|.builtin .max=>false
  |.builtin _=>true
  |_=>Qr E c
 |_=>false
def GO(E:Env):Op->Bool
 |.load ..|.fieldAddr ..|.indexAddr ..|.slice ..|.convert ..|.lookup ..=>true
 |.call c=>match c.callee with
  |.builtin .min|.builtin .max=>false
  |_=>true
 |op=>NS E op
theorem MB(he:NS E op=false)(h:DX E fr O op=some (x,O')):O'=O:=by
 cases op<;>simp only[DX]at h<;>simp only[NS]at he<;>try (cases h;done)
 case move y=>cases h;rfl
 case assign y=>cases h;rfl
 case pick c a b=>split at h<;>first|(cases h;rfl)|cases h
 case alloc=>cases he
 case range=>cases he
 case makeMap=>cases he
 case insert=>cases he
 case mapUpdate=>cases he
 case next=>cases he
 case box=>cases he
 case build t parts=>rw[Ao5]at h;obtain⟨_,_,h⟩:=h;cases h;rfl
 case buildSlice=>cases he
 case load t y=>
  split at h
  ·rw[Ao5]at h;obtain⟨_,_,h⟩:=h;cases h;rfl
  cases h
 case store=>cases he
 case nilCheck y=>split at h<;>first|(cases h;rfl)|cases h
 case binOp op t y z u=>rw[Ao5]at h;obtain⟨_,_,h⟩:=h;cases h;rfl
 case unOp op t y=>rw[Ao5]at h;obtain⟨_,_,h⟩:=h;cases h;rfl
 case lookup t y z ok=>rw[Ao5]at h;obtain⟨_,_,h⟩:=h;cases h;rfl
 case convert s d y=>
  unfold C7 at h;unfold Eg at he;split at h
  case h_2=>cases h
  rename_i ds dd hs hd;rw[hd]at he;simp only at he;split at h
  ·cases h;rfl
  ·cases h;rfl
  ·rename_i hdd _;rw[hdd]at he;cases he
  ·split at h
   ·cases h
   split at h
   case h_2=>cases h
   split at h
   case h_2=>cases h
   split at h
   ·cases h;rfl
   cases h
  ·rename_i hdd _;rw[hdd]at he;cases he
  cases h
 case makeFunc fn first caps=>
  split at h
  ·split at h
   ·split at h
    ·cases h
    cases h;rfl
   split at h
   ·cases h;rfl
   cases h
  cases h
 case makeInterface t y=>
  split at h
  ·split at h
   ·cases h
   cases h;rfl
  cases h
 case makeSlice=>cases he
 case slice t y lo hi mx=>
  unfold Gp at h;unfold KX at he;cases ht:E.tab t with
  |none=>simp[ht]at h
  | some d=>
   simp only[ht]at h he;split at h
   ·split at h
    ·split at h
     ·cases h
     cases h;rfl
    cases h
   ·split at h
    ·split at h
     ·cases h;rfl
     cases h
    cases h
   ·split at h
    ·split at h
     ·split at h
      ·cases h;rfl
      cases h
     cases h
    cases h
   ·rename_i hd _;rw[hd]at he;cases he
   ·rename_i hd _;rw[hd]at he;cases he
   cases h
 case fieldAddr s y f=>rw[Ao5]at h;obtain⟨_,_,h⟩:=h;cases h;rfl
 case field s y f=>rw[Ao5]at h;obtain⟨_,_,h⟩:=h;cases h;rfl
 case indexAddr t y i=>rw[Ao5]at h;obtain⟨_,_,h⟩:=h;cases h;rfl
 case index t y i=>rw[Ao5]at h;obtain⟨_,_,h⟩:=h;cases h;rfl
 case sliceToArrayPointer t y=>rw[Ao5]at h;obtain⟨_,_,h⟩:=h;cases h;rfl
 case typeAssert y _ t ok=>rw[Ao5]at h;obtain⟨_,_,h⟩:=h;cases h;rfl
 case extract y i=>
  split at h
  ·split at h
   ·cases h;rfl
   cases h
  cases h
 case call c=>
  cases hc:c.callee<;>simp only[hc]at h he<;>try (cases h;done)
  rename_i b;unfold AU at h;split at h
  ·rw[Ao5]at h;obtain⟨_,_,h⟩:=h;cases h;rfl
  ·cases he
  ·cases he
  ·cases he
  ·rw[Ao5]at h;obtain⟨_,_,h⟩:=h;cases h;rfl
  ·rw[Ao5]at h;obtain⟨_,_,h⟩:=h;cases h;rfl
  cases h
theorem GR(ht:GO E op=false):DX E fr σ2 op=(DX E fr O op).map (fun r=>(r.1,σ2)):=by
 cases op<;>simp only[GO,NS]at ht<;>try (cases ht;done)
 all_goals simp only[DX]
 all_goals try rfl
 case pick c a b=>split<;>rfl
 case build t parts=>simp only[ApZ];rfl
 case nilCheck y=>split<;>rfl
 case binOp op t y z u=>simp only[ApZ];rfl
 case unOp op t y=>simp only[ApZ];rfl
 case makeFunc fn first caps=>
  split
  ·split
   ·split<;>rfl
   split<;>rfl
  rfl
 case makeInterface t y=>
  split
  ·split<;>rfl
  rfl
 case field s y f=>simp only[ApZ];rfl
 case index t y i=>simp only[ApZ];rfl
 case sliceToArrayPointer t y=>simp only[ApZ];rfl
 case typeAssert y _ t ok=>simp only[ApZ];rfl
 case extract y i=>
  split
  ·split<;>rfl
  rfl
 case call c=>
  cases hc:c.callee<;>simp only[hc]at ht ⊢<;>try rfl
  rename_i b;cases b<;>simp only at ht<;>try (cases ht;done)
  all_goals
   unfold AU;split<;>first|(exfalso;simp_all;done)|rfl|(simp only[ApZ];rfl)
theorem CD(fr:List AV){x y:Option Tmp}(v u:AV)(h:∀d,x=some d->y≠some d):Ay (Ay fr x v) y u=Ay (Ay fr y u) x v:=by
 cases x with
 |none=>rfl
 |some d=>
  cases y with
  |none=>rfl
  |some e=>exact List.set_comm _ _ (fun he=>h d rfl (by rw[he]))
theorem MK{d:Option Tmp}{x:Operand}(h:∀e,d=some e->x≠.tmp e):ev (Ay fr d v) x=ev fr x:=by
 refine Aek fun t hx=>?_
 cases d with
 |none=>rfl
 |some e=>
  have:e≠t:=fun he=>h e rfl (by rw[hx,he])
  simp[Ay,ApY this]
theorem Vs{orc:Orc}(h:∀x∈(Op.call c).operands,ev fr x=ev fr' x):Jy orc fr O c=Jy orc fr' O c:=by
 have ha:c.args.toList.map (ev fr)=c.args.toList.map (ev fr'):=Aqu fun x hx=>h x (by simp[Op.operands,Call.operands];exact .inr (by simpa using hx))
 unfold Jy;cases hc:c.callee<;>simp only[];rename_i f;rw[h f (by simp[Op.operands,Call.operands,hc]),ha]
theorem Zy{orc:Orc}(h:∀x∈(Op.call c).operands,ev fr x=ev fr' x):AfG orc fr O c=AfG orc fr' O c:=by
 have ha:c.args.toList.map (ev fr)=c.args.toList.map (ev fr'):=Aqu fun x hx=>h x (by simp[Op.operands,Call.operands];exact .inr (by simpa using hx))
 unfold AfG;cases hc:c.callee<;>simp only[];rename_i f;rw[h f (by simp[Op.operands,Call.operands,hc]),ha]
theorem Wh{orc:Orc}(h:∀x∈op.operands,ev fr x=ev fr' x):Ca E orc op fr O=Ca E orc op fr' O:=by
 cases op with
 |call c=>
  simp only[Ca];rw[Vs h,Zy h];cases hc:c.callee<;>simp only[];exact MJ h
 |_=>exact MJ (E:=E) (O:=O) h
theorem LC{orc:Orc}(he:NS E op=false)(h:Ca E orc op fr O=some (x,O')):O'=O:=by
 cases op with
 | call c=>
  simp only[Ca]at h;cases hc:c.callee<;>simp only[hc]at h
  case builtin b=>exact MB he h
  all_goals
   simp only[NS,hc]at he;simp only[he,ApC,Ap5]at h;rw[Ao5]at h;obtain⟨_,_,h⟩:=h;cases h;rfl
 |_=>exact MB (fr:=fr) he h
theorem SB{orc:Orc}(ht:GO E op=false):Ca E orc op fr σ2=(Ca E orc op fr O).map (fun r=>(r.1,σ2)):=by
 cases op with
 |call c=>
  simp only[Ca];cases hc:c.callee<;>simp only[]
  case builtin b=>exact GR ht
  all_goals (simp only[GO,hc]at ht;cases ht)
 |_=>exact GR (fr:=fr) (O:=O) ht
theorem Pr{t:Tmp}(h:Operand.tmp t∈o.op.operands):t∈o.looksAt ops:=by
 unfold Oper.looksAt;rw[Aps];left;rw[ArL];exact⟨.tmp t,by simpa using h,rfl⟩
theorem R8{d:Option Tmp}(h:∀e,d=some e->e ∉ o.looksAt ops):G8 ops (Ay fr d v) o=G8 ops fr o:=by
 unfold G8;cases hg:o.guard with
 |none=>rfl
 | some g=>
  obtain⟨j,want⟩:=g;simp only;congr 1;unfold Io;cases hj:(ops[j]?).bind (·.dst)with
  |none=>simp[hj]
  | some t=>
   cases d with
   |none=>rfl
   |some e=>
    have:e≠t:=fun he=>h e rfl (by simp[Oper.looksAt,hg,hj,he])
    simp[hj,Ay,ApY this]
theorem AG{orc:Option Tmp->Orc}{d:Option Tmp}(h:∀e,d=some e->e ∉ o.looksAt ops):Dz E orc ops o (Ay fr d v) O=Dz E orc ops o fr O:=by
 unfold Dz;rw[R8 h,Wh (fun x hx=>MK fun e he hxe=>h e he (Pr (hxe ▸ hx)))]
def Nl(E:Env)(ops:Array Oper)(o:Oper):Bool:=NS E o.op&&!ED E ops o
theorem K3(h:Nl E ops o=false):ED E ops o=true\/(ED E ops o=false/\NS E o.op=false):=by
 unfold Nl at h;cases hf:ED E ops o
 ·rw[hf]at h;right;simpa using h
 exact .inl rfl
theorem Dn(h:ED E ops o=true):(∃t n l,o.op=.buildSlice t n l)\/(∃s d x,o.op=.convert s d x/\Eg E d=true):=by
 unfold ED at h;split at h
 case h_2=>cases h
 split at h
 ·rename_i hop;exact .inl ⟨_,_,_,hop⟩
 ·rename_i hop;exact .inr ⟨_,_,_,hop,(ArC.1 h).1⟩
 cases h
theorem Vl(h:I9 O r=some (y,O')):O'=O:=by
 unfold I9 at h;split at h
 case h_2=>cases h
 split at h
 case isFalse=>cases h
 rw[Ao5]at h;obtain⟨_,_,h⟩:=h;cases h;rfl
theorem CH{orc:Option Tmp->Orc}(he:Nl E ops o=false)(h:Dz E orc ops o fr O=some (x,O')):O'=O:=by
 unfold Dz at h;split at h
 ·rw[Apa]at h;obtain⟨⟨v,σ1⟩,h1,h2⟩:=h;unfold Fl at h2;rcases K3 he with hf|⟨hf,he⟩
  ·rw[hf,Apb rfl]at h2;exact Vl h2
  rw[hf]at h2;simp only[ApC,Ap5]at h2;cases h2;exact LC he h1
 ·cases h;rfl
 cases h
theorem XV(ht:GO E o.op=false):ED E ops o=false:=by
 cases hf:ED E ops o
 ·rfl
 rcases Dn hf with⟨t,n,l,h⟩|⟨s,d,x,h,_⟩
 ·rw[h]at ht;cases ht
 rw[h]at ht;cases ht
theorem N5{orc:Option Tmp->Orc}(ht:GO E o.op=false):Dz E orc ops o fr σ2=(Dz E orc ops o fr O).map (fun r=>(r.1,σ2)):=by
 unfold Dz;rw[XV ht];have e:∀O,Fl false O=some:=fun O=>by funext r;simp[Fl]
 rw[e,e];split
 ·rw[SB (O:=O) ht];cases Ca E (orc o.dst) o.op fr O<;>rfl
 ·rfl
 rfl
theorem JY{b:ABlk}(bs:Ac)(h:O[id]?=some b):(O++bs)[id]?=some b:=by
 rw[Aph (Ao6.1 h).1];exact h
theorem Z1(bs:Ac)(h:loadA E O d a=some x):loadA E (O++bs) d a=some x:=by
 cases a<;>simp only[loadA]at h ⊢<;>try exact h
 case ref id off=>
  cases e:O[id]? with
  |none=>simp[e]at h
  |some b=>rw[e]at h;rw[JY bs e];exact h
 case eref id tot i j=>
  cases e:O[id]? with
  |none=>simp[e]at h
  |some b=>rw[e]at h;rw[JY bs e];exact h
theorem Ut(bs:Ac)(h:X1 O id tot=true):X1 (O++bs) id tot=true:=by
 unfold X1 at h ⊢;cases e:O[id]? with
 |none=>simp[e]at h
 |some b=>rw[e]at h;rw[JY bs e];exact h
theorem AbX{l:List (List AV)}(bs:Ac)(h:GT O x=some l):GT (O++bs) x=some l:=by
 cases x<;>simp only[GT]at h ⊢<;>try exact h
 case bs full id tot off len=>
  cases e:O[id]? with
  |none=>simp[e]at h
  |some b=>rw[e]at h;rw[JY bs e];exact h
theorem Aao(bs:Ac)(h:Xz E O t x=some n):Xz E (O++bs) t x=some n:=by
 unfold Xz at h ⊢;cases ht:E.tab t with
 |none=>simp[ht]at h
 |some d=>
  simp only[ht]at h ⊢;split at h<;>try (simp_all;done)
  rename_i id tot off len hd;cases e:O[id]? with
  |none=>simp[e]at h
  |some b=>rw[e]at h;simp only[hd,JY bs e];exact h
theorem OX(bs:Ac)(h:AP E O s x f=some y):AP E (O++bs) s x f=some y:=by
 unfold AP at h ⊢
 repeat' split at h
 all_goals try (cases h;done)
 all_goals try (simp_all;done)
 all_goals (rename_i hc;simp_all [Ut bs hc])
theorem PC{i:AV}(bs:Ac)(h:Ao E O t x i=some y):Ao E (O++bs) t x i=some y:=by
 unfold Ao at h ⊢;cases ht:E.tab t with
 |none=>simp[ht]at h
 | some d=>
  simp only[ht]at h ⊢;cases hd:d.desc<;>simp only[hd]at h ⊢<;>try (cases h;done)
  case array n e=>
   cases he:E.tab e with
   |none=>simp[he]at h
   | some de=>
    cases hi:idx i n with
    |none=>simp[he,hi]at h
    | some k=>
     simp only[he,hi]at h ⊢;cases x<;>simp only at h ⊢<;>try exact h
     case eref id tot i0 j=>
      split at h
      case isFalse=>cases h
      rename_i hc;rw[Apb (Ut bs hc)];exact h
  case slice e=>
   cases he:E.tab e with
   |none=>simp[he]at h
   | some de=>
    simp only[he]at h ⊢;cases x<;>simp only at h ⊢<;>try exact h
    case bs full id tot off len=>
     cases e2:O[id]? with
     |none=>simp[e2]at h
     |some b=>rw[e2]at h;rw[JY bs e2];exact h
theorem Wf(bs:Ac)(he:KX E t=false)(h:Gp E O t x lo hi mx=some (y,O')):Gp E (O++bs) t x lo hi mx=some (y,O++bs):=by
 unfold Gp at h ⊢;unfold KX at he;cases ht:E.tab t with
 |none=>simp[ht]at h
 | some d=>
  simp only[ht]at h he ⊢;cases hd:d.desc<;>simp only[hd]at h he ⊢<;>try (first|(cases h;done)|(cases he;done))
  case string=>
   cases x<;>simp only at h ⊢<;>try (cases h;done)
   repeat' split at h
   all_goals try (cases h;done)
   cases h;simp_all
  case slice e=>
   cases x<;>simp only at h ⊢<;>try (cases h;done)
   case sl full els=>
    repeat' split at h
    all_goals try (cases h;done)
    cases h;simp_all
   case bs full id tot off len=>
    cases e2:O[id]? with
    |none=>simp[e2]at h
    |some b=>
     rw[e2]at h;rw[JY bs e2]
     repeat' split at h
     all_goals try (cases h;done)
     cases h;simp_all
theorem S0{d:TypeId}(bs:Ac)(he:Eg E d=false)(h:C7 E O s d x=some (y,O')):C7 E (O++bs) s d x=some (y,O++bs):=by
 unfold C7 at h ⊢;unfold Eg at he;split at h
 case h_2=>cases h
 rename_i ds dd hs hd;rw[hd]at he;simp only at he;split at h
 ·cases h;rfl
 ·cases h;rfl
 ·simp_all
 ·split at h
  ·cases h
  rename_i hb;split at h
  case h_2=>cases h
  rename_i hde;split at h
  case h_2=>cases h
  rename_i hu hv;split at h
  ·rename_i hl;cases h;simp[hb,hu,AbX bs hv,hl]
  cases h
 ·simp_all
 cases h
theorem OQ(bs:Ac)(h:Bm O x=some y):Bm (O++bs) x=some y:=by
 cases x<;>simp only[Bm]at h ⊢<;>try exact h
 case bs full id tot off len=>
  cases e:O[id]? with
  |none=>simp[e]at h
  |some b=>rw[e]at h;rw[JY bs e];exact h
theorem PI{α β:Type}{f g:α->Option β}(hfg:∀x y,f x=some y->g x=some y):∀{l:List α} {ys:List β},l.mapM f=some ys->l.mapM g=some ys
 |[],_,h=>by simpa using h
 |x::l,ys,h=>by
  rw[AqB]at h ⊢;simp only[Arj,Apa]at h ⊢;obtain⟨y,hy,zs,hz,h⟩:=h;exact⟨y,hfg _ _ hy,zs,PI hfg hz,h⟩
theorem Af9(bs:Ac)(h:fz O x=some y):fz (O++bs) x=some y:=by
 cases x<;>simp only[fz]at h ⊢<;>try exact OQ bs h
 case agg cs=>
  rw[Ao5]at h ⊢;obtain⟨ys,h,e⟩:=h;exact⟨ys,PI (fun _ _=>OQ bs) h,e⟩
theorem Tf(bs:Ac){k:AV}{ok:Bool}(h:Ga E O t x k ok=some v):Ga E (O++bs) t x k ok=some v:=by
 cases x with
 | mref id=>
  simp only[Ga]at h ⊢;cases hO:O[id]? with
  |none=>simp[hO]at h
  |some b=>
   rw[Aph (Ao6.1 hO).1,hO];rw[hO]at h;exact h
 |_=>exact h
theorem TN(bs:Ac)(he:NS E op=false)(h:DX E fr O op=some (x,O')):DX E fr (O++bs) op=some (x,O++bs):=by
 cases ht:GO E op with
 |false=>
  rw[GR (O:=O) ht,h];rfl
 | true=>
  cases op<;>simp only[GO,NS]at ht he<;>try (cases ht;done)
  all_goals try (cases he;done)
  case load t y=>
   simp only[DX]at h ⊢;split at h
   case h_2=>cases h
   rename_i hd;rw[Ao5]at h;obtain⟨v,hv,h⟩:=h;cases h;simp[hd,Z1 bs hv]
  case convert s d y=>exact S0 bs he h
  case slice t y lo hi mx=>exact Wf bs he h
  case lookup t y z ok=>
   simp only[DX]at h ⊢;rw[Ao5]at h;obtain⟨v,hv,h⟩:=h;cases h;simp[Tf bs hv]
  case fieldAddr s y f=>
   simp only[DX]at h ⊢;rw[Ao5]at h;obtain⟨v,hv,h⟩:=h;cases h;simp[OX bs hv]
  case indexAddr t y i=>
   simp only[DX]at h ⊢;rw[Ao5]at h;obtain⟨v,hv,h⟩:=h;cases h;simp[PC bs hv]
  case call c=>
   simp only[DX]at h ⊢;cases hc:c.callee<;>simp only[hc]at h ht he ⊢<;>try (cases h;done)
   rename_i b;unfold AU at h ⊢;split at h
   ·rw[Ao5]at h;obtain⟨v,hv,h⟩:=h;cases h;simp[Aao bs hv]
   ·cases he
   ·cases he
   ·cases he
   ·cases ht
   ·cases ht
   cases h
theorem XM{orc:Orc}{r:AV}(bs:Ac)(h:Jy orc fr O c=some r):Jy orc fr (O++bs) c=some r:=by
 unfold Jy at h ⊢;split at h
 case h_2=>cases h
 rename_i f hf;split at h
 case h_2=>cases h
 rename_i fid hv;split at h
 case h_2=>cases h
 rename_i args ha;simp only[PI (fun _ _=>Af9 bs) ha];exact h
theorem Yp{orc:Orc}(bs:Ac)(he:NS E op=false)(h:Ca E orc op fr O=some (x,O')):Ca E orc op fr (O++bs)=some (x,O++bs):=by
 cases op with
 | call c=>
  simp only[Ca]at h ⊢;cases hc:c.callee<;>simp only[hc]at h ⊢
  case builtin b=>exact TN bs he h
  all_goals
   simp only[NS,hc]at he;simp only[he,ApC,Ap5]at h ⊢;rw[Ao5]at h;obtain⟨v,hv,h⟩:=h;cases h;simp[XM bs hv]
 |_=>exact TN (fr:=fr) bs he h
theorem RR(ρ:Ac)(hf:(∃t n l,op=.buildSlice t n l)\/(∃s d x,op=.convert s d x/\Eg E d=true)) (h:(DX E fr O op).bind (I9 O)=some (y,O')):(DX E fr ρ op).bind (I9 ρ)=some (y,ρ):=by
 have last:∀(b:ABlk) (f:Bool) (t o l:Nat),I9 O (.bs f O.length t o l,O++[b])=some (y,O')->I9 ρ (.bs f ρ.length t o l,ρ++[b])=some (y,ρ):=by
  intro b f t o l h;unfold I9 at h ⊢;simp only[ApT,Ao5,Apf]at h ⊢;obtain⟨z,hz,rfl,rfl⟩:=h;refine⟨z,?_,rfl,trivial⟩;simp only[Bm]at hz ⊢;rw[Ape (Apm _),Arw]at hz ⊢;exact hz
 rcases hf with⟨t,n,l,rfl⟩|⟨s,d,x,rfl,hd⟩
 ·simp only[DX]at h ⊢;unfold C3 at h ⊢;cases ht:E.tab t with
  |none=>simp[ht]at h
  | some dd=>
   simp only[ht]at h ⊢;cases hdd:dd.desc<;>simp only[hdd]at h ⊢<;>try (simp at h;done)
   rename_i e;cases he:E.tab e with
   |none=>simp[he]at h
   |some de=>
    simp only[he]at h ⊢;split at h
    ·simp at h
    rename_i hn;rw[Apd hn];split at h
    case h_2=>simp at h
    rename_i els hels;exact last _ _ _ _ _ h
 simp only[DX]at h ⊢;unfold C7 at h ⊢;unfold Eg at hd;cases ht:E.tab d with
 |none=>simp[ht]at hd
 | some dd=>
  simp only[ht]at hd;cases hdd:dd.desc<;>simp only[hdd]at hd<;>try (cases hd;done)
  rename_i e;cases hs:E.tab s with
  |none=>simp[hs]at h
  | some sd=>
   simp only[hs,ht,hdd]at h ⊢;generalize ev fr x=xv at h ⊢;split at h
   case h_3=>
    rename_i e' l hx;cases hx;cases he:E.tab e with
    |none=>simp[he]at h
    |some de=>
     simp only[he]at h ⊢;cases hde:de.desc<;>simp only[hde]at h ⊢<;>try (simp at h;done)
     rename_i k;cases k<;>simp only at h ⊢<;>try (simp at h;done)
     exact last _ _ _ _ _ h
   case h_5=>
    exfalso;split at h
    case isFalse=>simp at h
    split at h
    case h_2=>simp at h
    split at h
    case h_2=>simp at h
    split at h
    case isFalse=>simp at h
    rename_i hid _;simp only[Ap4,I9]at h;split at h
    case isFalse=>cases h
    rename_i e2;have:=(Ao6.1 hid).1;omega
   all_goals (exfalso;simp_all;done)
theorem Ae4(bs:Ac)(hf:(∃t n l,op=.buildSlice t n l)\/(∃s d x,op=.convert s d x/\Eg E d=true)) (h:(DX E fr O op).bind (I9 O)=some (y,O')):(DX E fr (O++bs) op).bind (I9 (O++bs))=some (y,O++bs):=RR _ hf h
theorem ZV{orc:Option Tmp->Orc}(bs:Ac)(he:Nl E ops o=false)(h:Dz E orc ops o fr O=some (x,O')):Dz E orc ops o fr (O++bs)=some (x,O++bs):=by
 unfold Dz at h ⊢;split at h
 ·rcases K3 he with hf|⟨hf,he⟩
  ·rw[hf]at h ⊢;have e:∀O,Fl true O=I9 O:=fun O=>by funext r;simp[Fl]
   rw[e]at h ⊢
   have e2:∀O,Ca E (orc o.dst) o.op fr O=DX E fr O o.op:=by
    intro O;rcases Dn hf with⟨t,n,l,h⟩|⟨s,d,x,h,_⟩<;>rw[h]<;>rfl
   rw[e2]at h ⊢;exact Ae4 bs (Dn hf) h
  rw[hf]at h ⊢;have e:∀O,Fl false O=some:=fun O=>by funext r;simp[Fl]
  rw[e]at h ⊢;rw[Ba]at h ⊢;exact Yp bs he h
 ·cases h;rfl
 cases h
def Rs:Op->Bool
 |.alloc _|.buildSlice ..|.makeMap _ none=>true
 |_=>false
theorem XQ{orc:Option Tmp->Orc}(ha:Rs o.op=true)(h:Dz E orc ops o fr O=some (x,O')):∃bs,O'=O++bs:=by
 cases hf:ED E ops o
 case true=>exact⟨[],by rw[CH (by unfold Nl;rw[hf];simp) h];simp⟩
 unfold Dz at h;rw[hf]at h;have e:∀O,Fl false O=some:=fun O=>by funext r;simp[Fl]
 rw[e,Ba]at h;split at h
 ·cases ho:o.op<;>simp only[ho,Rs]at ha h<;>try (cases ha;done)
  ·simp only[Ca,DX]at h;split at h
   ·split at h
    ·cases h
    split at h
    ·cases h;exact⟨_,rfl⟩
    cases h;exact⟨_,rfl⟩
   cases h
  case makeMap t r=>
   cases r with
   |some _=>cases ha
   |none=>
    simp only[Ca,DX]at h;cases h;exact⟨_,rfl⟩
  simp only[Ca,DX]at h;unfold C3 at h;split at h
  ·cases h
  split at h
  ·split at h
   ·split at h
    ·cases h
    split at h
    ·cases h;exact⟨_,rfl⟩
    cases h
   cases h
  cases h
 ·cases h;exact⟨[],by simp⟩
 cases h
def Lj:ABlk->ABlk
 |.box cs _=>.box cs false
 |.buf k els _=>.buf k els false
 |.obj o=>.obj o
 |.tb T l=>.tb T l
 |.mp st es=>.mp st es
 |.lp y N l ps a b=>.lp y N l ps a b
 |.gone=>.gone
theorem GI:(O.map Lj)[id]?=(O[id]?).map Lj:=by simp
theorem Yz:loadA E (O.map Lj) d a=loadA E O d a:=by
 cases a<;>simp only[loadA,GI]
 case ref id off=>cases O[id]? with
  |none=>rfl
  |some b=>cases b<;>rfl
 case eref id tot i j=>cases O[id]? with
  |none=>rfl
  |some b=>cases b<;>rfl
theorem Ti:X1 (O.map Lj) id tot=X1 O id tot:=by
 simp only[X1,GI];cases O[id]? with
 |none=>rfl
 |some b=>cases b<;>rfl
theorem Acv:GT (O.map Lj) x=GT O x:=by
 cases x<;>simp only[GT,GI]
 case bs full id tot off len=>cases O[id]? with
  |none=>rfl
  |some b=>cases b<;>rfl
theorem Abz:Xz E (O.map Lj) t x=Xz E O t x:=by
 unfold Xz;cases E.tab t with
 |none=>rfl
 | some d=>
  obtain⟨desc,sz,bt,z⟩:=d;cases x with
  |bs full id tot off len=>
   cases desc<;>try rfl
   simp only[GI];cases O[id]? with
   |none=>rfl
   |some b=>cases b<;>rfl
  |_=>cases desc<;>rfl
theorem Pn:AP E (O.map Lj) s x f=AP E O s x f:=by
 unfold AP;simp only[Ti]
theorem PG{i:AV}:Ao E (O.map Lj) t x i=Ao E O t x i:=by
 unfold Ao;cases E.tab t with
 |none=>rfl
 | some d=>
  obtain⟨desc,sz,bt,z⟩:=d;cases desc<;>dsimp only<;>try (first|rfl|(simp only[Ti];done))
  rename_i e;generalize E.tab e=te;cases te with
  |none=>cases x<;>rfl
  |some de=>
   cases x<;>try rfl
   rename_i full id tot off len;dsimp only;simp only[GI];cases O[id]? with
   |none=>rfl
   |some b=>cases b<;>cases idx i len<;>rfl
theorem VQ(he:KX E t=false):(Gp E (O.map Lj) t x lo hi mx).map (·.1)=(Gp E O t x lo hi mx).map (·.1):=by
 unfold Gp;unfold KX at he;cases ht:E.tab t with
 |none=>rfl
 | some d=>
  rw[ht]at he;obtain⟨desc,sz,bt,z⟩:=d;cases desc<;>dsimp only at he ⊢<;>try (first|rfl|(cases he;done))
  ·cases x<;>dsimp only<;>try rfl
   split<;>try rfl
   split<;>rfl
  rename_i e;cases x<;>dsimp only<;>try rfl
  ·split<;>try rfl
   split<;>rfl
  rename_i full id tot off len;simp only[GI];cases O[id]? with
  |none=>rfl
  | some b=>
   cases b with
   |box=>rfl
   |obj o=>rfl
   |mp st es=>rfl
   |lp y N1 l1 ps as1 bd=>rfl
   |gone=>rfl
   |tb T l=>rfl
   | buf k els ro=>
    simp only[ApG,Lj];generalize E.tab e=te;cases te with
    |none=>rfl
    |some de=>
     dsimp only;split<;>try rfl
     split<;>rfl
theorem RI{d:TypeId}(he:Eg E d=false):(C7 E (O.map Lj) s d x).map (·.1)=(C7 E O s d x).map (·.1):=by
 unfold C7;unfold Eg at he;cases hs:E.tab s with
 |none=>rfl
 | some sd=>
  cases hd:E.tab d with
  |none=>rfl
  | some dd=>
   simp only[hd]at he ⊢;cases hdd:dd.desc<;>simp only[hdd]at he ⊢<;>try (first|rfl|(cases he;done))
   ·cases x<;>first|rfl|(cases sd.desc<;>rfl)
   cases x<;>cases sd.desc<;>try rfl
   all_goals
    simp only[Acv];split<;>try rfl
    split<;>try rfl
    split<;>try rfl
    split<;>rfl
theorem O7:Bm (O.map Lj) x=Bm O x:=by
 cases x<;>simp only[Bm,GI]
 case bs full id tot off len=>cases O[id]? with
  |none=>rfl
  |some b=>cases b<;>rfl
theorem Ag5:fz (O.map Lj) x=fz O x:=by
 cases x<;>simp only[fz,O7];rename_i cs;congr 1;have:Bm (O.map Lj)=Bm O:=funext fun x=>O7
 rw[this]
theorem Yq{orc:Orc}:Jy orc fr (O.map Lj) c=Jy orc fr O c:=by
 unfold Jy;have:fz (O.map Lj)=fz O:=funext fun x=>Ag5
 rw[this]
theorem TT{k:AV}{ok:Bool}:Ga E (O.map Lj) t x k ok=Ga E O t x k ok:=by
 cases x with
 | mref id=>
  simp only[Ga,GI];cases O[id]? with
  |none=>rfl
  |some b=>
   cases b with
   |obj o=>rfl
   |mp st es=>rfl
   |lp y N1 l1 ps as1 bd=>rfl
   |gone=>rfl
   |tb T l=>rfl
   |box cs ro=>cases ok<;>cases k<;>first|rfl|(cases H7 E t with|none=>rfl|some d=>cases d<;>rfl)
   |buf n els ro=>cases ok<;>cases k<;>first|rfl|(cases H7 E t with|none=>rfl|some d=>cases d<;>rfl)
 |_=>rfl
theorem Tl(he:NS E op=false):(DX E fr (O.map Lj) op).map (·.1)=(DX E fr O op).map (·.1):=by
 cases ht:GO E op with
 |false=>
  rw[GR (O:=O) ht];cases DX E fr O op<;>rfl
 | true=>
  cases op<;>simp only[GO,NS]at ht he<;>try (cases ht;done)
  all_goals try (cases he;done)
  case load t y=>
   simp only[DX,Yz];split<;>simp only[ApZ]<;>rfl
  case convert s d y=>exact RI he
  case slice t y lo hi mx=>exact VQ he
  case lookup t y z ok=>simp only[DX,TT,ApZ];rfl
  case fieldAddr s y f=>
   simp only[DX,Pn,ApZ];rfl
  case indexAddr t y i=>
   simp only[DX,PG,ApZ];rfl
  case call c=>
   simp only[DX];cases hc:c.callee<;>simp only[hc]at ht he ⊢<;>try rfl
   rename_i b;cases b<;>simp only at ht he<;>try (first|(cases ht;done)|(cases he;done))
   unfold AU;split<;>first|rfl|(simp only[Abz,ApZ];rfl)|(exfalso;simp_all;done)
theorem QG{orc:Orc}(he:NS E op=false):(Ca E orc op fr (O.map Lj)).map (·.1)=(Ca E orc op fr O).map (·.1):=by
 cases op with
 | call c=>
  simp only[Ca];cases hc:c.callee<;>simp only[]
  case builtin b=>exact Tl he
  all_goals
   simp only[NS,hc]at he;simp only[he,ApC,Ap5,Yq,ApZ];rfl
 |_=>exact Tl (fr:=fr) (O:=O) he
theorem U4{orc:Option Tmp->Orc}{ρ:Ac}(hρ:O.map Lj=ρ.map Lj)(he:Nl E ops o=false)(h:Dz E orc ops o fr O=some (x,O')):Dz E orc ops o fr ρ=some (x,ρ):=by
 unfold Dz at h ⊢;split at h
 ·rcases K3 he with hf|⟨hf,he⟩
  ·rw[hf]at h ⊢;have e:∀O,Fl true O=I9 O:=fun O=>by funext r;simp[Fl]
   rw[e]at h ⊢
   have e2:∀O,Ca E (orc o.dst) o.op fr O=DX E fr O o.op:=by
    intro O;rcases Dn hf with⟨t,n,l,h⟩|⟨s,d,x,h,_⟩<;>rw[h]<;>rfl
   rw[e2]at h ⊢;exact RR ρ (Dn hf) h
  rw[hf]at h ⊢;have e:∀O,Fl false O=some:=fun O=>by funext r;simp[Fl]
  rw[e]at h ⊢;rw[Ba]at h ⊢;have h1:=QG (E:=E) (orc:=orc o.dst) (fr:=fr) (O:=O) he;have h2:=QG (E:=E) (orc:=orc o.dst) (fr:=fr) (O:=ρ) he;rw[hρ,h2,h]at h1;simp only[ApG]at h1;rw[Ao5]at h1;obtain⟨⟨y,ρ'⟩,h3,h4⟩:=h1;simp only at h4;subst h4;rw[h3,LC he h3]
 ·cases h;rfl
 cases h
def Kh(E:Env):Op->Bool
 |.slice t ..=>KX E t
 |_=>false
theorem Ub{orc:Option Tmp->Orc}(ha:Kh E o.op=true)(h:Dz E orc ops o fr O=some (x,O')):O.map Lj=O'.map Lj:=by
 have hf:ED E ops o=false:=by
  cases hf:ED E ops o
  ·rfl
  rcases Dn hf with⟨t,n,l,h⟩|⟨s,d,x,h,_⟩<;>rw[h]at ha<;>cases ha
 unfold Dz at h;rw[hf]at h;have e:∀O,Fl false O=some:=fun O=>by funext r;simp[Fl]
 rw[e,Ba]at h;split at h
 ·cases ho:o.op<;>simp only[ho,Kh]at ha h<;>try (cases ha;done)
  simp only[Ca,DX,Gp]at h
  repeat' split at h
  all_goals try (cases h;done)
  all_goals try (cases h;rfl)
  all_goals try (
   generalize E.G _=gg at h;generalize E.tab _=tt at h;cases gg<;>cases tt<;>simp only at h<;>try (cases h;done)
   split at h
   ·split at h
    ·cases h;rfl
    cases h
   ·cases h
   done)
  cases h;rename_i hO _ _ _ _ _;rw[Ar4];refine(Aqa fun i=>?_);rw[ApV];split
  ·rename_i hi;subst hi;simp only[Ap8];split
   ·rw[GI,‹O[_]?=some (ABlk.box _ _)›];rfl
   rename_i hn;exact absurd (by simpa using(Ao6.1 ‹O[_]?=some (ABlk.box _ _)›).1) hn
  rfl
 ·cases h;rfl
 cases h
def mkO(O:Ac):Option Nat->Ac
 |none=>O
 |some id=>D0 O id
theorem Ui(O:Ac)(a b:Nat):D0 (D0 O a) b=D0 (D0 O b) a:=by
 refine Aqa fun i=>?_
 simp only[DJ];by_cases h1:i=a
 ·by_cases h2:i=b
  ·subst h1;subst h2;rfl
  simp only[Apb h1,Apd h2]
 by_cases h2:i=b
 ·simp only[Apd h1,Apb h2]
 simp only[Apd h1,Apd h2]
theorem Aeo(O:Ac)(a b:Option Nat):mkO (mkO O a) b=mkO (mkO O b) a:=by
 cases a<;>cases b<;>first|rfl|exact Ui _ _ _
theorem Nc{orc:Option Tmp->Orc}(ha:Kh E o.op=true)(h:Dz E orc ops o fr O=some (x,O')) :∃m,O'=mkO O m/\∀ρ:Ac,ρ.map Lj=O.map Lj->Dz E orc ops o fr ρ=some (x,mkO ρ m):=by
 have hf:ED E ops o=false:=by
  cases hf:ED E ops o
  ·rfl
  rcases Dn hf with⟨t,n,l,h⟩|⟨s,d,x,h,_⟩<;>rw[h]at ha<;>cases ha
 have e:∀O,Fl false O=some:=fun O=>by funext r;simp[Fl]
 unfold Dz at h ⊢;rw[hf]at h ⊢;simp only[e,Ba]at h ⊢;split at h
 ·cases ho:o.op<;>simp only[ho,Kh]at ha h<;>try (cases ha;done)
  rename_i t y lo hi mx;simp only[Ca,DX]at h ⊢;unfold KX at ha;cases ht:E.tab t with
  |none=>simp[ht]at ha
  | some d=>
   obtain⟨desc,sz,bt,z⟩:=d;rw[ht]at ha;cases desc<;>simp only at ha<;>try (cases ha;done)
   rename_i n e2;unfold Gp at h ⊢;simp only[ht]at h ⊢;generalize ev fr y=yv at h ⊢;cases yv<;>simp only at h ⊢<;>try (cases h;done)
   case glob gi=>
    refine⟨none,?_,fun ρ _=>?_⟩
    ·repeat' split at h
     all_goals try (cases h;done)
     all_goals (cases h;rfl)
    repeat' split at h
    all_goals try (cases h;done)
    all_goals (cases h;simp_all [mkO])
   rename_i id off;cases hO:O[id]? with
   |none=>simp[hO]at h
   | some b=>
    cases b with
    |buf=>simp[hO]at h
    |obj o=>simp[hO]at h
    |mp st es=>simp[hO]at h
    |lp y N1 l1 ps as1 bd=>simp[hO]at h
    |gone=>simp[hO]at h
    |tb T l=>simp[hO]at h
    | box cs ro=>
     cases hte:E.tab e2 with
     |none=>simp[hO,hte]at h
     | some de=>
      simp only[hO,hte]at h;split at h
      case isFalse=>cases h
      rename_i hc;split at h
      case h_2=>cases h
      rename_i l h1 f1 hb;cases h;refine⟨some id,?_,fun ρ hρ=>?_⟩
      ·show _=D0 O id;unfold D0;rw[hO]
      have h2:(ρ[id]?).map Lj=(O[id]?).map Lj:=by rw[<-GI,<-GI,hρ]
      rw[hO]at h2;cases hρ2:ρ[id]? with
      |none=>rw[hρ2]at h2;cases h2
      | some b2=>
       rw[hρ2]at h2;cases b2 with
       |buf=>cases h2
       |obj o=>cases h2
       |mp st es=>cases h2
       |lp y N1 l1 ps as1 bd=>cases h2
       |gone=>cases h2
       |tb T l=>cases h2
       |box cs2 ro2=>
        simp only[ApG,Lj,Ao7,ABlk.box.injEq,Asr]at h2;subst h2;simp only[hρ2,hte,Apb hc,hb];show _=some (_,D0 ρ id);unfold D0;rw[hρ2]
 ·cases h;exact⟨none,rfl,fun ρ _=>rfl⟩
 cases h
def LP:ABlk->ABlk
 |.box cs ro=>.box cs ro
 |.buf k els ro=>.buf k els ro
 |.obj o=>.obj o
 |.tb T l=>.tb T l
 |.mp st _=>.mp st fun _=>none
 |.lp y N l ps a b=>.lp y N l ps a b
 |.gone=>.gone
def O2:Op->Bool
 |.lookup ..=>true
 |_=>false
theorem HB:(O.map LP)[id]?=(O[id]?).map LP:=by simp
theorem Yb:loadA E (O.map LP) d a=loadA E O d a:=by
 cases a<;>simp only[loadA,HB]
 case ref id off=>cases O[id]? with
  |none=>rfl
  |some b=>cases b<;>rfl
 case eref id tot i j=>cases O[id]? with
  |none=>rfl
  |some b=>cases b<;>rfl
theorem Tq:X1 (O.map LP) id tot=X1 O id tot:=by
 simp only[X1,HB];cases O[id]? with
 |none=>rfl
 |some b=>cases b<;>rfl
theorem Aap:GT (O.map LP) x=GT O x:=by
 cases x<;>simp only[GT,HB]
 case bs full id tot off len=>cases O[id]? with
  |none=>rfl
  |some b=>cases b<;>rfl
theorem ZR:Xz E (O.map LP) t x=Xz E O t x:=by
 unfold Xz;cases E.tab t with
 |none=>rfl
 | some d=>
  obtain⟨desc,sz,bt,z⟩:=d;cases x with
  |bs full id tot off len=>
   cases desc<;>try rfl
   simp only[HB];cases O[id]? with
   |none=>rfl
   |some b=>cases b<;>rfl
  |_=>cases desc<;>rfl
theorem Pu:AP E (O.map LP) s x f=AP E O s x f:=by
 unfold AP;simp only[Tq]
theorem Pi{i:AV}:Ao E (O.map LP) t x i=Ao E O t x i:=by
 unfold Ao;cases E.tab t with
 |none=>rfl
 | some d=>
  obtain⟨desc,sz,bt,z⟩:=d;cases desc<;>dsimp only<;>try (first|rfl|(simp only[Tq];done))
  rename_i e;generalize E.tab e=te;cases te with
  |none=>cases x<;>rfl
  |some de=>
   cases x<;>try rfl
   rename_i full id tot off len;dsimp only;simp only[HB];cases O[id]? with
   |none=>rfl
   |some b=>cases b<;>cases idx i len<;>rfl
theorem Wd(he:KX E t=false):(Gp E (O.map LP) t x lo hi mx).map (·.1)=(Gp E O t x lo hi mx).map (·.1):=by
 unfold Gp;unfold KX at he;cases ht:E.tab t with
 |none=>rfl
 | some d=>
  rw[ht]at he;obtain⟨desc,sz,bt,z⟩:=d;cases desc<;>dsimp only at he ⊢<;>try (first|rfl|(cases he;done))
  ·cases x<;>dsimp only<;>try rfl
   split<;>try rfl
   split<;>rfl
  rename_i e;cases x<;>dsimp only<;>try rfl
  ·split<;>try rfl
   split<;>rfl
  rename_i full id tot off len;simp only[HB];cases O[id]? with
  |none=>rfl
  | some b=>
   cases b with
   |box=>rfl
   |obj o=>rfl
   |mp st es=>rfl
   |lp y N1 l1 ps as1 bd=>rfl
   |gone=>rfl
   |tb T l=>rfl
   | buf k els ro=>
    simp only[ApG,LP];generalize E.tab e=te;cases te with
    |none=>rfl
    |some de=>
     dsimp only;split<;>try rfl
     split<;>rfl
theorem Rd{d:TypeId}(he:Eg E d=false):(C7 E (O.map LP) s d x).map (·.1)=(C7 E O s d x).map (·.1):=by
 unfold C7;unfold Eg at he;cases hs:E.tab s with
 |none=>rfl
 | some sd=>
  cases hd:E.tab d with
  |none=>rfl
  | some dd=>
   simp only[hd]at he ⊢;cases hdd:dd.desc<;>simp only[hdd]at he ⊢<;>try (first|rfl|(cases he;done))
   ·cases x<;>first|rfl|(cases sd.desc<;>rfl)
   cases x<;>cases sd.desc<;>try rfl
   all_goals
    simp only[Aap];split<;>try rfl
    split<;>try rfl
    split<;>try rfl
    split<;>rfl
theorem Pb:Bm (O.map LP) x=Bm O x:=by
 cases x<;>simp only[Bm,HB]
 case bs full id tot off len=>cases O[id]? with
  |none=>rfl
  |some b=>cases b<;>rfl
theorem Aht:fz (O.map LP) x=fz O x:=by
 cases x<;>simp only[fz,Pb];rename_i cs;congr 1;have:Bm (O.map LP)=Bm O:=funext fun x=>Pb
 rw[this]
theorem Y7{orc:Orc}:Jy orc fr (O.map LP) c=Jy orc fr O c:=by
 unfold Jy;have:fz (O.map LP)=fz O:=funext fun x=>Aht
 rw[this]
theorem T8(hl:O2 op=false)(he:NS E op=false):(DX E fr (O.map LP) op).map (·.1)=(DX E fr O op).map (·.1):=by
 cases ht:GO E op with
 |false=>
  rw[GR (O:=O) ht];cases DX E fr O op<;>rfl
 | true=>
  cases op<;>simp only[GO,NS]at ht he<;>try (cases ht;done)
  all_goals try (cases he;done)
  case load t y=>
   simp only[DX,Yb];split<;>simp only[ApZ]<;>rfl
  case convert s d y=>exact Rd he
  case slice t y lo hi mx=>exact Wd he
  case lookup t y z ok=>cases hl
  case fieldAddr s y f=>
   simp only[DX,Pu,ApZ];rfl
  case indexAddr t y i=>
   simp only[DX,Pi,ApZ];rfl
  case call c=>
   simp only[DX];cases hc:c.callee<;>simp only[hc]at ht he ⊢<;>try rfl
   rename_i b;cases b<;>simp only at ht he<;>try (first|(cases ht;done)|(cases he;done))
   unfold AU;split<;>first|rfl|(simp only[ZR,ApZ];rfl)|(exfalso;simp_all;done)
theorem QN{orc:Orc}(hl:O2 op=false)(he:NS E op=false):(Ca E orc op fr (O.map LP)).map (·.1)=(Ca E orc op fr O).map (·.1):=by
 cases op with
 | call c=>
  simp only[Ca];cases hc:c.callee<;>simp only[]
  case builtin b=>exact T8 hl he
  all_goals
   simp only[NS,hc]at he;simp only[he,ApC,Ap5,Y7,ApZ];rfl
 |_=>exact T8 (fr:=fr) (O:=O) hl he
theorem QY{orc:Option Tmp->Orc}{ρ:Ac}(hl:O2 o.op=false)(hρ:O.map LP=ρ.map LP)(he:Nl E ops o=false)(h:Dz E orc ops o fr O=some (x,O')):Dz E orc ops o fr ρ=some (x,ρ):=by
 unfold Dz at h ⊢;split at h
 ·rcases K3 he with hf|⟨hf,he⟩
  ·rw[hf]at h ⊢;have e:∀O,Fl true O=I9 O:=fun O=>by funext r;simp[Fl]
   rw[e]at h ⊢
   have e2:∀O,Ca E (orc o.dst) o.op fr O=DX E fr O o.op:=by
    intro O;rcases Dn hf with⟨t,n,l,h⟩|⟨s,d,x,h,_⟩<;>rw[h]<;>rfl
   rw[e2]at h ⊢;exact RR ρ (Dn hf) h
  rw[hf]at h ⊢;have e:∀O,Fl false O=some:=fun O=>by funext r;simp[Fl]
  rw[e]at h ⊢;rw[Ba]at h ⊢;have h1:=QN (E:=E) (orc:=orc o.dst) (fr:=fr) (O:=O) hl he;have h2:=QN (E:=E) (orc:=orc o.dst) (fr:=fr) (O:=ρ) hl he;rw[hρ,h2,h]at h1;simp only[ApG]at h1;rw[Ao5]at h1;obtain⟨⟨y,ρ'⟩,h3,h4⟩:=h1;simp only at h4;subst h4;rw[h3,LC he h3]
 ·cases h;rfl
 cases h
def Ah7(E:Env):Op->Option Int
 |.insert t _ (.const (.int .i64 n)) _=>if(E.mp t).isSome=true then some n else none
 |_=>none
def AcN(n:Int)(x:AV):ABlk->ABlk
 |.mp st f=>.mp st (KG f (.int n) (some x))
 |b=>b
def inO(n:Int)(O:Ac):Option (Nat×AV)->Ac
 |none=>O
 |some (id,x)=>match O[id]? with
  |some b=>O.set id (AcN n x b)
  |none=>O
theorem Aa6(n:Int)(O:Ac)(id i:Nat)(x:AV):(inO n O (some (id,x)))[i]?=if i=id then(O[i]?).map (AcN n x)else O[i]?:=by
 cases h:O[id]? with
 |none=>
  simp only[inO,h];by_cases e:i=id
  ·subst e;rw[Apb rfl,h];rfl
  rw[Apd e]
 |some b=>
  simp only[inO,h];by_cases e:i=id
  ·subst e;rw[Apb rfl,AJ h,h];rfl
  rw[Apd e,Dy e]
theorem ZQ(n:Int)(x:AV)(b:ABlk):LP (AcN n x b)=LP b:=by cases b<;>rfl
theorem Ol(n:Int)(O:Ac)(m:Option (Nat×AV)):(inO n O m).map LP=O.map LP:=by
 cases m with
 |none=>rfl
 | some p=>
  obtain⟨id,x⟩:=p;refine Aqa fun i=>?_
  rw[HB,HB,Aa6];split
  ·cases O[i]? with
   |none=>rfl
   |some b=>simp[ZQ]
  rfl
theorem AcB{n1 n2:Int}(h:n1≠n2)(x1 x2:AV)(b:ABlk):AcN n2 x2 (AcN n1 x1 b)=AcN n1 x1 (AcN n2 x2 b):=by
 cases b<;>try rfl
 rename_i st f;simp only[AcN];congr 1;funext k;simp only[KG];by_cases h1:k=.int n1
 ·have h2:k≠.int n2:=fun e=>h (by rw[h1]at e;cases e;rfl)
  simp[h1,h]
 by_cases h2:k=.int n2
 ·simp[h2,Ne.symm h]
 simp[h1,h2]
theorem AdK{n1 n2:Int}(h:n1≠n2)(O:Ac)(a b:Option (Nat×AV)):inO n2 (inO n1 O a) b=inO n1 (inO n2 O b) a:=by
 cases a with
 |none=>rfl
 | some p=>
  cases b with
  |none=>rfl
  | some q=>
   obtain⟨id,x⟩:=p;obtain⟨id2,y⟩:=q;refine Aqa fun i=>?_
   simp only[Aa6];by_cases h1:i=id
   ·by_cases h2:i=id2
    ·simp only[Apb h1,Apb h2,ApZ];congr 1;funext b;exact AcB h x y b
    simp only[Apb h1,Apd h2]
   by_cases h2:i=id2
   ·simp only[Apd h1,Apb h2]
   simp only[Apd h1,Apd h2]
theorem Oe{orc:Option Tmp->Orc}{n:Int}(ha:Ah7 E o.op=some n)(h:Dz E orc ops o fr O=some (x,O')) :∃m,O'=inO n O m/\∀ρ:Ac,ρ.map LP=O.map LP->Dz E orc ops o fr ρ=some (x,inO n ρ m):=by
 have hf:ED E ops o=false:=by
  cases hf:ED E ops o
  ·rfl
  rcases Dn hf with⟨t,n,l,h⟩|⟨s,d,x,h,_⟩<;>rw[h]at ha<;>cases ha
 have e:∀O,Fl false O=some:=fun O=>by funext r;simp[Fl]
 unfold Dz at h ⊢;rw[hf]at h ⊢;simp only[e,Ba]at h ⊢;split at h
 ·cases ho:o.op<;>simp only[ho,Ah7]at ha h<;>try (cases ha;done)
  rename_i t m k x1;split at ha
  case h_2=>cases ha
  rename_i t' m' n' x' he;cases he;split at ha
  case isFalse=>cases ha
  rename_i hmp;cases ha;simp only[Ca,DX,Ov,hmp,ApT]at h ⊢;have hk:ev fr (.const (.int .i64 n))=.int .i64 n:=rfl;rw[hk]at h ⊢;unfold LQ at h ⊢;cases hT:H7 E t with
  |none=>simp[hT]at h
  | some kd=>
   cases hm:ev fr m<;>simp only[hT,hm,Ar2]at h ⊢<;>try (cases h;done)
   rename_i id;cases hO:O[id]? with
   |none=>simp[hO]at h
   | some b=>
    cases hk2:ZB kd (.int .i64 n)with
    |none=>simp[hO,hk2]at h
    | some kk=>
     have hkk:kk=.int n:=by
      unfold ZB at hk2;split at hk2
      ·rename_i h1;cases h1
      ·rename_i h1;cases h1;cases hk2;rfl
      cases hk2
     subst hkk;simp only[hO,hk2]at h ⊢;cases b<;>simp only[Ar2]at h<;>try (cases h;done)
     rename_i st f;split at h
     case isFalse=>cases h
     rename_i hc;cases h;refine⟨some (id,ev fr x1),by simp only[inO,hO,AcN],fun ρ hρ=>?_⟩;have h2:(ρ[id]?).map LP=(O[id]?).map LP:=by rw[<-HB,<-HB,hρ]
     rw[hO]at h2;cases hρ2:ρ[id]? with
     |none=>rw[hρ2]at h2;cases h2
     |some b2=>
      rw[hρ2]at h2;cases b2<;>simp only[ApG,LP,Ao7,ABlk.mp.injEq,Asr,reduceCtorEq]at h2;subst h2;simp only[Apb hc,ApG,inO,hρ2,AcN]
 ·cases h;exact⟨none,rfl,fun ρ _=>rfl⟩
 cases h
def mkB(E:Env):Op->Bool
 |.makeMap t none=>(E.mp t).isSome
 |_=>false
def UO:Op->Bool
 |.load ..=>true
 |_=>false
theorem AgV{orc:Option Tmp->Orc}(ha:mkB E o.op=true)(h:Dz E orc ops o fr O=some (x,O')):O'=O\/∃st f,O'=O++[.mp st f]:=by
 have hf:ED E ops o=false:=by
  cases hf:ED E ops o
  ·rfl
  rcases Dn hf with⟨t,n,l,h⟩|⟨s,d,x,h,_⟩<;>rw[h]at ha<;>cases ha
 have e:∀O,Fl false O=some:=fun O=>by funext r;simp[Fl]
 unfold Dz at h;rw[hf]at h;simp only[e,Ba]at h;split at h
 ·cases ho:o.op<;>simp only[ho,mkB]at ha h<;>try (cases ha;done)
  rename_i t r;cases r with
  |some _=>cases ha
  |none=>
   simp only at ha;simp only[Ca,DX,ha,ApT]at h;cases h;exact .inr ⟨_,_,rfl⟩
 ·cases h;exact .inl rfl
 cases h
theorem Aev{st:Bool}{f:Ky->Option AV}(h:loadA E (O++[.mp st f]) d a=some x):loadA E O d a=some x:=by
 have hne:∀(id:Nat) b,(O++[ABlk.mp st f])[id]?=some b->(∀s g,b≠.mp s g)->O[id]?=some b:=by
  intro id b hb hn;by_cases hlt:id<O.length
  ·rwa[Aph hlt]at hb
  rw[Ape (by omega)]at hb;cases hk:id-O.length with
  |zero=>rw[hk]at hb;cases hb;exact(hn _ _ rfl).elim
  |succ k=>rw[hk]at hb;simp at hb
 unfold loadA at h ⊢;cases a<;>simp only at h ⊢<;>try exact h
 case ref id off=>
  split at h
  ·rename_i cs ro hb;rw[hne id _ hb (fun _ _ e=>by cases e)];exact h
  cases h
 case eref id tot i j=>
  split at h
  ·rename_i k els ro hb;rw[hne id _ hb (fun _ _ e=>by cases e)];exact h
  cases h
theorem U9{orc:Option Tmp->Orc}{st:Bool}{f:Ky->Option AV}(ha:UO o.op=true)(h:Dz E orc ops o fr (O++[.mp st f])=some (x,O')):O'=O++[.mp st f]/\Dz E orc ops o fr O=some (x,O):=by
 have hf:ED E ops o=false:=by
  cases hf:ED E ops o
  ·rfl
  rcases Dn hf with⟨t,n,l,h⟩|⟨s,d,x,h,_⟩<;>rw[h]at ha<;>cases ha
 have e:∀O,Fl false O=some:=fun O=>by funext r;simp[Fl]
 unfold Dz at h ⊢;rw[hf]at h ⊢;simp only[e,Ba]at h ⊢;split at h
 ·cases ho:o.op<;>simp only[ho,UO]at ha h<;>try (cases ha;done)
  simp only[Ca,DX]at h ⊢;split at h
  ·rename_i d hd;rw[Ao5]at h;obtain⟨v,hv,h⟩:=h;cases h;simp only[hd];rw[Aev hv]
   first|exact⟨rfl,rfl⟩|simp
  cases h
 ·cases h;exact⟨rfl,rfl⟩
 cases h
def isKI:Operand->Bool
 |.const (.int _ _)=>true
 |_=>false
def We(E:Env):Op->Bool
 |.call c=>(match c.callee with
  |.value (.func _)=>true
  |_=>false)&&(!Qr E c&&c.args.toList.all isKI)
 |_=>false
theorem Vo{fr:List AV}(O:Ac):∀{l:List Operand},l.all isKI=true->(l.map (ev fr)).mapM (fz O)=some (l.map (ev fr))
 |[],_=>rfl
 | x::l,h=>by
  simp only[List.all_cons,Apj]at h
  have hx:fz O (ev fr x)=some (ev fr x):=by
   cases x with
   |const v=>cases v<;>first|rfl|cases h.1
   |_=>cases h.1
  rw[ApL,AqB,hx,Vo O h.2];rfl
theorem Z7{orc:Option Tmp->Orc}(ha:We E o.op=true)(h:Dz E orc ops o fr O=some (x,O')):O'=O/\∀ρ,Dz E orc ops o fr ρ=some (x,ρ):=by
 have hf:ED E ops o=false:=by
  cases hf:ED E ops o
  ·rfl
  rcases Dn hf with⟨t,n,l,h⟩|⟨s,d,x,h,_⟩<;>rw[h]at ha<;>cases ha
 have e:∀O,Fl false O=some:=fun O=>by funext r;simp[Fl]
 unfold Dz at h ⊢;rw[hf]at h ⊢;simp only[e,Ba]at h ⊢;split at h
 ·cases ho:o.op<;>simp only[ho,We]at ha h<;>try (cases ha;done)
  rename_i c;simp only[Apj,Aqq]at ha;obtain⟨hc,hown,hall⟩:=ha;cases hcal:c.callee with
  | value v=>
   have key:∀ρ,Jy (orc o.dst) fr ρ c=Jy (orc o.dst) fr O c:=by
    intro ρ;unfold Jy;rw[Vo ρ hall,Vo O hall]
   simp only[Ca,hcal,hown,ApC,Ap5]at h ⊢;rw[Ao5]at h;obtain⟨r,hr,h⟩:=h;cases h;refine⟨rfl,fun ρ=>?_⟩;rw[key ρ,hr];rfl
  |_=>rw[hcal]at hc;cases hc
 ·cases h;exact⟨rfl,fun ρ=>rfl⟩
 cases h
def Aks:Option Int->Option Int->Bool
 |some a,some b=>a != b
 |_,_=>false
def AbI(E:Env)(ops:Array Oper)(x y:Oper):Bool :=
 x.apart ops y&&((!(Nl E ops x&&GO E y.op)&&!(Nl E ops y&&GO E x.op))||(Rs y.op&&!Nl E ops x)||(Kh E y.op&&!Nl E ops x)||(Kh E x.op&&!Nl E ops y)||(Kh E x.op&&Kh E y.op))
theorem Up(h:GO E op=false):NS E op=false:=by
 cases op<;>simp only[GO,NS]at h ⊢<;>try (first|assumption|(cases h;done))
 case call c=>
  cases hc:c.callee<;>rw[hc]at h<;>try (cases h;done)
  rename_i b;cases b<;>first|rfl|(cases h;done)
theorem Rc(h:GO E o.op=false):Nl E ops o=false:=by
 unfold Nl;rw[Up h];rfl
theorem VP{orc:Option Tmp->Orc}{x y:Oper}{st1 st2:St}(hc:AbI E ops x y=true)(h1:Bw E orc ops x st=some st1)(h2:Bw E orc ops y st1=some st2) :∃st3,Bw E orc ops y st=some st3/\Bw E orc ops x st3=some st2:=by
 simp only[AbI,Apj,ApN,Aqq,AqE]at hc;obtain⟨hap,hcase⟩:=hc;obtain⟨a1,a2,a3⟩:=Oper.apart_spec hap;unfold Bw at h1 h2 ⊢;rw[Ao5]at h1 h2;obtain⟨⟨v,σ1⟩,hv,rfl⟩:=h1;obtain⟨⟨u,σ2⟩,hu,rfl⟩:=h2;simp only at hu ⊢;rw[AG a1]at hu
 have fin:∀σ3,Dz E orc ops y st.fr st.O=some (u,σ3)->Dz E orc ops x st.fr σ3=some (v,σ2) ->
   ∃st3,(Dz E orc ops y st.fr st.O).map (fun r=>(⟨Ay st.fr y.dst r.1,r.2⟩:St))=some st3/\(Dz E orc ops x st3.fr st3.O).map (fun r=>(⟨Ay st3.fr x.dst r.1,r.2⟩:St))=some ⟨Ay (Ay st.fr x.dst v) y.dst u,σ2⟩:=by
  intro σ3 hy hx;refine⟨⟨Ay st.fr y.dst u,σ3⟩,by rw[hy];rfl,?_⟩;simp only;rw[AG a3,hx];simp only[ApG,CD st.fr v u a2]
 rcases hcase with(((⟨e1,e2⟩|⟨hal,ex⟩)|⟨hal,ex⟩)|⟨hal,ey⟩)|⟨hax,hay⟩
 case inr=>
  obtain⟨m,rfl,_⟩:=Nc hax hv
  have hun:∀(O:Ac) (m:Option Nat),(mkO O m).map Lj=O.map Lj:=by
   intro O m;cases m with
   |none=>rfl
   | some id=>
    refine Aqa fun i=>?_
    rw[GI,GI];show((D0 O id)[i]?).map Lj=_;rw[DJ];split
    ·cases O[i]? with
     |none=>rfl
     |some b=>cases b<;>rfl
    rfl
  obtain⟨m2,rfl,h2⟩:=Nc hay hu;obtain⟨m1,e1,h1⟩:=Nc hax hv;refine fin (mkO st.O m2) (h2 st.O (hun _ _).symm) ?_;rw[h1 _ (hun _ _),e1,Aeo]
 case inl.inl.inr=>
  obtain rfl:=CH ex hv;exact fin _ hu (U4 (Ub hal hu) ex hv)
 case inl.inr=>
  obtain rfl:=CH ey hu;exact fin _ (U4 (Ub hal hv).symm ey hu) hv
 case inl.inl.inl.inr=>
  obtain rfl:=CH ex hv;obtain⟨bs,rfl⟩:=XQ hal hu;exact fin _ hu (ZV bs ex hv)
 rcases e1 with ex|ty
 ·obtain rfl:=CH ex hv;rcases e2 with ey|tx
  ·obtain rfl:=CH ey hu;exact fin _ hu hv
  refine fin _ hu ?_;rw[N5 (O:=st.O) tx,hv];rfl
 have ey:Nl E ops y=false:=Rc ty;obtain rfl:=CH ey hu;rw[N5 (O:=st.O) ty,Ao5]at hu;obtain⟨⟨u',O'⟩,hy,he⟩:=hu;simp only[Apf]at he;obtain⟨rfl,_⟩:=he;obtain rfl:=CH ey hy;exact fin _ hy hv
def J9(E:Env)(ops:Array Oper)(x y:Oper):Bool :=
 AbI E ops x y||(x.apart ops y&&(((Ah7 E x.op).isSome&&!Nl E ops y&&!O2 y.op)||((Ah7 E y.op).isSome&&!Nl E ops x&&!O2 x.op)||Aks (Ah7 E x.op) (Ah7 E y.op)||(mkB E x.op&&UO y.op)||We E y.op))
theorem H2{orc:Option Tmp->Orc}{x y:Oper}{st1 st2:St}(hc:J9 E ops x y=true)(h1:Bw E orc ops x st=some st1)(h2:Bw E orc ops y st1=some st2) :∃st3,Bw E orc ops y st=some st3/\Bw E orc ops x st3=some st2:=by
 unfold J9 at hc;rw[ApN]at hc;rcases hc with hc|hc
 ·exact VP hc h1 h2
 simp only[Apj,ApN,Aqq]at hc;obtain⟨hap,hcase⟩:=hc;obtain⟨a1,a2,a3⟩:=Oper.apart_spec hap;unfold Bw at h1 h2 ⊢;rw[Ao5]at h1 h2;obtain⟨⟨v,σ1⟩,hv,rfl⟩:=h1;obtain⟨⟨u,σ2⟩,hu,rfl⟩:=h2;simp only at hu ⊢;rw[AG a1]at hu
 have fin:∀σ3,Dz E orc ops y st.fr st.O=some (u,σ3)->Dz E orc ops x st.fr σ3=some (v,σ2) ->
   ∃st3,(Dz E orc ops y st.fr st.O).map (fun r=>(⟨Ay st.fr y.dst r.1,r.2⟩:St))=some st3/\(Dz E orc ops x st3.fr st3.O).map (fun r=>(⟨Ay st3.fr x.dst r.1,r.2⟩:St))=some ⟨Ay (Ay st.fr x.dst v) y.dst u,σ2⟩:=by
  intro σ3 hy hx;refine⟨⟨Ay st.fr y.dst u,σ3⟩,by rw[hy];rfl,?_⟩;simp only;rw[AG a3,hx];simp only[ApG,CD st.fr v u a2]
 rcases hcase with(((⟨⟨hax,ey⟩,hl⟩|⟨⟨hay,ex⟩,hl⟩)|hne)|⟨hmk,hld⟩)|hck
 ·obtain⟨n,hn⟩:=AqS.1 hax;obtain rfl:=CH ey hu;obtain⟨m,rfl,_⟩:=Oe hn hv;exact fin _ (QY hl (Ol _ _ _) ey hu) hv
 ·obtain⟨n,hn⟩:=AqS.1 hay;obtain rfl:=CH ex hv;obtain⟨m,rfl,_⟩:=Oe hn hu;exact fin _ hu (QY hl (Ol _ _ _).symm ex hv)
 ·unfold Aks at hne;split at hne
  case h_2=>cases hne
  rename_i n1 n2 hn1 hn2;have hne:n1≠n2:=by simpa using hne
  obtain⟨m2,rfl,h2⟩:=Oe hn2 hu;obtain⟨m1,e1,h1⟩:=Oe hn1 hv;subst e1;refine fin (inO n2 st.O m2) (h2 st.O (Ol _ _ _).symm) ?_;rw[h1 _ (Ol _ _ _),AdK hne]
 ·rcases AgV hmk hv with rfl|⟨st',f,rfl⟩
  ·have ey:Nl E ops y=false:=by
    unfold Nl;cases ho:y.op<;>rw[ho]at hld<;>first|rfl|cases hld
   obtain rfl:=CH ey hu;exact fin _ hu hv
  obtain⟨rfl,hy⟩:=U9 hld hu;exact fin _ hy hv
 obtain⟨rfl,hall⟩:=Z7 hck hu;exact fin _ (hall _) hv
def OW(B:Base)(orc:Orc):Prop:=(∀f args r,orc.fz f args=some r->Con B f args [] (fun r' O'=>r'=r/\O'=[])) /\
 ∀f args O r O',orc.own f args O=some (r,O')->∀F:Addr->Prop,UD (B.env F) f args O r O'
theorem Afa{orc:Orc}(hO:OW E.toBase orc)(hop:o.op=.call c)(h:AfG orc st.fr st.O c=some r) {a:Act} {w:World} {g:Gh} (hr:Rel E w g st a) {next:Act->World->Prop} {Q:Exit->Act->World->Prop} (hk:∀a' w' g',Rel E w' g' ⟨Ay st.fr o.dst r.1,r.2⟩ a'->Evo E 0 w g w' g'->GLe g g'->next a' w'):o.wp E.P a w next Q:=by
 unfold AfG at h;split at h
 case h_2=>cases h
 rename_i f hc;split at h
 case h_4=>cases h
 case h_3=>
  rename_i fid cs _ hnt hf;exact PP hop hc (fun ys e=>hnt ys e) hf (OR (hO.2 _ _ _ r.1 r.2 h E.F)) hr hk
 case h_2=>
  rename_i fid xs hf;exact LH hop hc hf (OR (hO.2 _ _ _ r.1 r.2 h E.F)) hr hk
 rename_i fid hf;exact W8 hop hc hf (OR (hO.2 _ _ _ r.1 r.2 h E.F)) hr hk
theorem AeL(hE:E.Ok){orc:Orc}(hO:OW E.toBase orc)(h:Ca E orc o.op st.fr st.O=some r) {a:Act} {w:World} {g:Gh} (hr:Rel E w g st a) {next:Act->World->Prop} {Q:Exit->Act->World->Prop} (hk:∀a' w' g',Rel E w' g' ⟨Ay st.fr o.dst r.1,r.2⟩ a'->Evo E 0 w g w' g'->GLe g g'->next a' w'):o.wp E.P a w next Q:=by
 have plain:DX E st.fr st.O o.op=some r->o.wp E.P a w next Q:=by
  intro h;obtain⟨v,w',g',h1,h2,h3,h4,h5⟩:=Ks (x:=r.1) (O':=r.2) hE hr h;unfold Oper.wp;exact RM h1 (hk _ w' g' (FI (Iy hr h2 h3 h4) o.dst h5) h4 h3)
 cases hop:o.op with
 | call c=>
  simp only[hop,Ca]at h;cases hc:c.callee<;>simp only[hc]at h
  case builtin b=>exact plain (by rw[hop];exact h)
  all_goals (split at h;· exact Afa hO hop h hr hk)
  all_goals try (simp[Jy,hc]at h;done)
  rename_i f _;rw[Ao5]at h;obtain⟨r1,h,rfl⟩:=h;unfold Jy at h;simp only[hc]at h;split at h
  case h_2=>cases h
  rename_i fid hf;split at h
  case h_2=>cases h
  rename_i args ha;split at h
  case h_2=>cases h
  rename_i r2 ho;split at h
  case isFalse=>cases h
  rename_i hs;cases h;rcases hs with hs|hs
  ·exact KZ hop hc hf ha hs ((hO.1 _ _ _ ho).mono fun _ _ h=>h.1) hr hk
  refine I0 hop hc hf ha (hO.1 _ _ _ ho) hr ?_;rw[hs];exact hk
 |_=>exact plain (by rw[hop];simp only[hop]at h;exact h)
theorem AkG(hE:E.Ok)(hf:(∃t n l,o.op=.buildSlice t n l)\/(∃s d x,o.op=.convert s d x/\Eg E d=true)) (h:(DX E st.fr st.O o.op).bind (I9 st.O)=some r) {a:Act} {w:World} {g:Gh} (hr:Rel E w g st a) {next:Act->World->Prop} {Q:Exit->Act->World->Prop} (hk:∀a' w' g',Rel E w' g' ⟨Ay st.fr o.dst r.1,r.2⟩ a'->Evo E 0 w g w' g'->GLe g g'->next a' w'):o.wp E.P a w next Q:=by
 rw[Apa]at h;obtain⟨⟨x,O'⟩,h1,h2⟩:=h;obtain⟨y,σ2⟩:=r
 have hp:∃bs,O'=st.O++bs:=by
  rcases hf with⟨t,n,l,e⟩|⟨s,d,z,e,_⟩
  ·rw[e]at h1;simp only[DX,C3]at h1
   repeat' split at h1
   all_goals try (cases h1;done)
   cases h1;exact⟨_,rfl⟩
  rw[e]at h1;simp only[DX,C7]at h1
  repeat' split at h1
  all_goals try (cases h1;done)
  all_goals (cases h1;first|exact⟨_,rfl⟩|exact⟨[],by simp⟩)
 obtain⟨v,w',g',k1,k2,k3,k4,k5⟩:=Ks (x:=x) (O':=O') hE hr h1;obtain⟨rfl,m2,m3,m4,m5⟩:=Wu hr.mem hp h2 k2 k3 k4 k5;unfold Oper.wp;exact RM k1 (hk _ w' _ (FI (Iy hr m2 m3 m4) o.dst m5) m4 m3)
theorem MW(hE:E.Ok){orc:Option Tmp->Orc}(hO:∀d,OW E.toBase (orc d))(h:(Ca E (orc o.dst) o.op st.fr st.O).bind (Fl (ED E ops o) st.O)=some r) {a:Act} {w:World} {g:Gh} (hr:Rel E w g st a) {next:Act->World->Prop} {Q:Exit->Act->World->Prop} (hk:∀a' w' g',Rel E w' g' ⟨Ay st.fr o.dst r.1,r.2⟩ a'->Evo E 0 w g w' g'->GLe g g'->next a' w'):o.wp E.P a w next Q:=by
 cases hf:ED E ops o with
 | true=>
  have e:∀O,Fl true O=I9 O:=fun O=>by funext r;simp[Fl]
  have e2:Ca E (orc o.dst) o.op st.fr st.O=DX E st.fr st.O o.op:=by
   rcases Dn hf with⟨t,n,l,h⟩|⟨s,d,x,h,_⟩<;>rw[h]<;>rfl
  rw[hf,e,e2]at h;exact AkG hE (Dn hf) h hr hk
 |false=>
  have e:∀O,Fl false O=some:=fun O=>by funext r;simp[Fl]
  rw[hf,e,Ba]at h;exact AeL hE (hO _) h hr hk
theorem Oo(hE:E.Ok){orc:Option Tmp->Orc}(hO:∀d,OW E.toBase (orc d))(hi:ops[i]?=some o)(h:Bw E orc ops o st=some st') {a:Act} {w:World} {g:Gh} (hr:Rel E w g st a) {next:Act->World->Prop} {Q:Exit->Act->World->Prop} (hk:∀a' w' g',Rel E w' g' st' a'->Evo E 0 w g w' g'->GLe g g'->next a' w'):wpOp E.P ops Q i next a w:=by
 unfold Bw at h;rw[Ao5]at h;obtain⟨⟨x,O'⟩,hv,rfl⟩:=h;unfold wpOp;simp only[hi];unfold Dz G8 at hv;cases hg:o.guard with
 |none=>
  simp only[hg]at hv;simp only[Region.wanted,hg,ApT];exact .inl (MW hE hO hv hr hk)
 | some p=>
  obtain⟨j,want⟩:=p;simp only[hg]at hv;cases hy:Io ops st.fr j with
  |none=>simp[hy]at hv
  | some b=>
   simp only[Region.wanted,hg,GQ hr hy];simp only[hy,ApG]at hv;by_cases e:b=some want
   ·rw[Apb (by simp[e])];rw[show(b==some want)=true by simp[e]]at hv;exact .inl (MW hE hO hv hr hk)
   rw[Apd (by simp[e])];rw[show(b==some want)=false by simp[e]]at hv;cases hv;exact hk _ w g (FI hr o.dst (Km _ _ _)) (Evo.refl _ _ _ _) (GLe.refl _)
def F3(ops:Array Oper)(i:Nat):List Nat:=match ops[i]? with
 |some o=>(o.after.toList.filter (Region.binds .any)).map (·.on)
 |none=>[]
def EX(ops:Array Oper)(T:List (List Nat)):Bool :=
 (List.range ops.size).all fun i=>(F3 ops i).all (·<i)&&(T.getD i []).all fun j=>(F3 ops i).contains j||(F3 ops i).any fun k=>(T.getD k []).contains j
def Ia(E:Env)(ops:Array Oper)(T:List (List Nat)):Bool :=
 (List.range ops.size).all fun i=>(List.range i).all fun j=>(T.getD i []).contains j||(match ops[j]?,ops[i]? with
  |some x,some y=>J9 E ops x y
  |_,_=>false)
theorem HT{orc:Option Tmp->Orc}{ops:Array Oper}{i:Nat}{y:Oper}(hi:ops[i]?=some y){l2:List Nat}{st':St}:∀(l1:List Nat) (st:St),(∀j∈l1,∀x,ops[j]?=some x->J9 E ops x y=true)->AK E orc ops (l1++i::l2) st=some st' ->∃st1,Bw E orc ops y st=some st1/\AK E orc ops (l1++l2) st1=some st'
 |[],st,_,h=>by
  simp only[ApR,AK,hi]at h;rw[Apa]at h;exact h
 | j::l1,st,hc,h=>by
  simp only[Apv,AK]at h;cases hj:ops[j]? with
  |none=>simp[hj]at h
  |some x=>
   simp only[hj]at h;rw[Apa]at h;obtain⟨s1,h1,h⟩:=h;obtain⟨s2,h2,h⟩:=HT hi l1 s1 (fun k hk=>hc k (ApP _ hk)) h;obtain⟨s3,h3,h4⟩:=H2 (hc j Apu x hj) h1 h2;refine⟨s3,h3,?_⟩;simp only[Apv,AK,hj,h4,Ap4];exact h
theorem As{p:Nat->Bool}(h:(List.range n).all p=true)(hi:i<n):p i=true :=
 App.1 h i (ApS.2 hi)
theorem Ff(h:EX ops T=true)(hi:i<ops.size){d:Nat}(hd:d∈F3 ops i):d<i:=by
 have:=As h hi;simp only[Apj,App,Apw]at this;exact this.1 d hd
theorem HM(h:EX ops T=true){rem:List Nat} (hdown:∀k,k<ops.size->k ∉ rem->∀d∈F3 ops k,d ∉ rem):∀(i:Nat),i<ops.size->(∀d∈F3 ops i,d ∉ rem)->∀j∈T.getD i [],j ∉ rem:=by
 intro i
 induction i using Nat.strongRecOn with
 | _ i ih=>
  intro hi hd j hj;have hh:=As h hi;simp only[Apj,App,ApN,Apo,Arz,Apw]at hh;rcases hh.2 j hj with hj|⟨k,hk,hkj⟩
  ·exact hd j hj
  have hki:=hh.1 k hk;have hks:=AqV hki hi;exact ih k hki hks (hdown k hks (hd k hk)) j hkj
theorem FQ(hi:ops[i]?=some o){d:Nat}:d∈F3 ops i↔∃e∈o.after,Region.binds .any e=true/\e.on=d:=by
 simp only[F3,hi,Aqz,List.mem_filter,Array.mem_toList_iff];constructor
 ·rintro⟨e,⟨h1,h2⟩,h3⟩;exact⟨e,h1,h2,h3⟩
 rintro⟨e,h1,h2,h3⟩;exact⟨e,⟨h1,h2⟩,h3⟩
theorem Yv(hE:E.Ok){orc:Option Tmp->Orc}(hO:∀d,OW E.toBase (orc d))(hc:EX ops T=true)(hm:Ia E ops T=true){Q:Exit->Act->World->Prop} :∀(fuel:Nat) (rem:List Nat) (listed:Array Bool) (st:St) (a:Act) (w:World) (g:Gh),rem.length=fuel->rem.Pairwise (·<·)->listed.size=ops.size ->(∀j,listed.getD j true=false↔j∈rem)->(∀k,k<ops.size->k ∉ rem->∀d∈F3 ops k,d ∉ rem) ->AK E orc ops rem st=some st'->Rel E w g st a->(∀a' w' g',Rel E w' g' st' a'->Evo E 0 w g w' g'->GLe g g'->Q .normal a' w') ->wpAny E.P .any ops Q fuel listed a w:=by
 have hin:∀(rem:List Nat) (listed:Array Bool),listed.size=ops.size->(∀j,listed.getD j true=false↔j∈rem)->∀j∈rem,j<ops.size:=by
  intro rem listed hs hl j hj;have:=(hl j).2 hj;by_cases e:j<listed.size
  ·omega
  simp[Array.getD,e]at this
 have hgd:∀(rem:List Nat) (listed:Array Bool),listed.size=ops.size->(∀j,listed.getD j true=false↔j∈rem)->∀d,d<ops.size->(listed.getD d false=true↔d ∉ rem):=by
  intro rem listed hs hl d hd
  have h1:listed.getD d false=listed.getD d true:=by
   have:d<listed.size:=by omega
   simp[Array.getD,this]
  rw[h1,<-hl d];cases listed.getD d true<;>simp
 have hrd:∀(rem:List Nat) (listed:Array Bool),listed.size=ops.size->(∀j,listed.getD j true=false↔j∈rem)->∀i,
   (i∈Region.ready .any ops listed↔i∈rem/\∀d∈F3 ops i,d ∉ rem):=by
  intro rem listed hs hl i;rw[mem_ready,hl i];constructor
  ·rintro⟨h1,o,ho,h2⟩;refine⟨h1,fun d hd=>?_⟩;have hlt:=Ff hc (hin rem listed hs hl i h1) hd;have hds:=AqV hlt (hin rem listed hs hl i h1);obtain⟨e,he,hb,rfl⟩:=(FQ ho).1 hd;exact(hgd rem listed hs hl _ hds).1 (h2 e he hb)
  rintro⟨h1,h2⟩;have hi:=hin rem listed hs hl i h1;refine⟨h1,ops[i],Apr hi,fun e he hb=>?_⟩;have hd:e.on∈F3 ops i:=(FQ (Apr hi)).2 ⟨e,he,hb,rfl⟩;exact(hgd rem listed hs hl _ (AqV (Ff hc hi hd) hi)).2 (h2 _ hd)
 have hdone:∀(rem:List Nat) (listed:Array Bool),rem.Pairwise (·<·)->listed.size=ops.size->(∀j,listed.getD j true=false↔j∈rem)->Region.ready .any ops listed=[]->rem=[]:=by
  intro rem listed hp hs hl hr;cases rem with
  |nil=>rfl
  | cons i r=>
   have hi:i∈Region.ready .any ops listed:=(hrd _ listed hs hl i).2 ⟨Apu,fun d hd hm=>by
    have:=Ff hc (hin _ listed hs hl i Apu) hd;rcases Apx.1 hm with rfl|hm
    ·omega
    have:=ApB hp hm;omega⟩
   rw[hr]at hi;cases hi
 intro fuel
 induction fuel with
 |zero=>
  intro rem listed st a w g hf hp hs hl hd hst hr hq;have:rem=[]:=ApM.1 hf;subst this;simp only[AK,Ao7]at hst;subst hst;refine⟨?_,hq a w g hr (Evo.refl _ _ _ _) (GLe.refl _)⟩;rw[AqW];intro i hi;have:=((hrd _ listed hs hl i).1 hi).1;cases this
 | succ fuel ih=>
  intro rem listed st a w g hf hp hs hl hd hst hr hq;refine⟨fun h=>?_,fun i hi=>?_⟩
  ·have:=hdone rem listed hp hs hl h;subst this;simp at hf
  obtain⟨hir,hid⟩:=(hrd rem listed hs hl i).1 hi;have his:=hin rem listed hs hl i hir;obtain⟨l1,l2,rfl⟩:=Arn hir;have hp':=hp;rw[ApI]at hp';obtain⟨p1,p2,p3⟩:=hp'
  have hnd:∀j∈l1++l2,j≠i:=by
   intro j hj;rcases Aps.1 hj with hj|hj
   ·have:=p3 j hj i Apu;omega
   have:=ApB p2 hj;omega
  have hmem:∀j,j∈l1++l2↔j∈l1++i::l2/\j≠i:=by
   intro j;constructor
   ·intro hj;refine⟨?_,hnd j hj⟩;simp only[Aps,Apx]at hj ⊢;rcases hj with hj|hj
    ·exact .inl hj
    exact .inr (.inr hj)
   rintro⟨hj,hne⟩;simp only[Aps,Apx]at hj ⊢;rcases hj with hj|hj|hj
   ·exact .inl hj
   ·exact(hne hj).elim
   exact .inr hj
  have hcm:∀j∈l1,∀x,ops[j]?=some x->J9 E ops x ops[i]=true:=by
   intro j hj x hx;have hji:j<i:=p3 j hj i Apu;have h1:=As (As hm his) hji;simp only[ApN,Apo]at h1;rcases h1 with h1|h1
   ·exact(HM hc hd i his hid j h1 (AqR _ hj)).elim
   simp only[hx,Apr his]at h1;exact h1
  obtain⟨st1,h1,h2⟩:=HT (Apr his) l1 st hcm hst;refine Oo hE hO (Apr his) h1 hr fun a1 w1 g1 hr1 he1 hg1=>?_
  refine ih (l1++l2) (listed.setIfInBounds i true) st1 a1 w1 g1 ?_ ?_ ?_ ?_ ?_ h2 hr1 ?_
  ·simp at hf ⊢;omega
  ·exact hp.sublist (AqT (Aq5 i l2) l1)
  ·simp[hs]
  ·intro j;rw[hmem j,<-hl j];by_cases e:j=i
   ·subst e;have:j<listed.size:=by omega
    simp[Array.getD,this]
   rw[getD_set_ne true (fun h=>e h.symm)];simp[e]
  ·intro k hk hkn d hdk hdm;have hd2:=((hmem d).1 hdm).1;by_cases e:k=i
   ·subst e;exact hid d hdk hd2
   exact hd k hk (fun h=>hkn ((hmem k).2 ⟨h,e⟩)) d hdk hd2
  intro a' w' g' hr' he' hg';exact hq a' w' g' hr' (he1.trans he') (hg1.trans hg')
theorem HS{w':World}{a:Act}(hr:Rel E w g st a)(h:SameMem w w'):Rel E w' g st a :=
 ⟨hr.size,fun t x hx=>RN h (hr.slot t x hx),hr.mem.same h,hr.defers.evo (n:=0) (Evo.same h)⟩
theorem P8(hE:E.Ok){orc:Option Tmp->Orc}(hO:∀d,OW E.toBase (orc d))(hP:E.P.follows .mixedOrders=true){l:List Oper}(T:List (List Nat))(hok1:EX l.toArray T=true)(hok2:Ia E l.toArray T=true){K:CO} (hst:AK E orc l.toArray (List.range l.length) st=some st') (hk:K .normal st'):Run E n (.region id l.toArray true) st K:=by
 intro hcm a w g hr Q hq;refine Hr (Iu hcm) (wp_region_any hP ?_);have hsm:SameMem w { w with drawn:=w.drawn+1 }:=⟨rfl,rfl,rfl,rfl⟩;refine Yv hE hO hok1 hok2 l.toArray.size (List.range l.length) _ st a _ g (by simp) Aqj (by simp) ?_ ?_ hst (HS hr hsm) ?_
 ·intro j;rw[ApS];by_cases h:j<l.length<;>simp[Array.getD,h]
 ·intro k hk hkn;exact(hkn (ApS.2 (by simpa using hk))).elim
 intro a' w' g' hr' he hg;exact hq _ _ _ _ _ hk hr' ((Evo.same hsm).trans (he.of_gle hg))
end Go.Rv
