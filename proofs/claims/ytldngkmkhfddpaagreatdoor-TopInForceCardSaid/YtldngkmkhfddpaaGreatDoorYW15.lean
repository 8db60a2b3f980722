/-
  Part 15.
-/
import Derived.Test.YtldngkmkhfddpaaGreatDoorYW14
import Derived.Orders
namespace Go.Rv
set_option linter.unusedVariables false
set_option linter.unusedSimpArgs false
variable{fr fr':List AV}{O O' σ2:Ac}{c:Call}{r:AV×Ac}{w:World}{g:Gh}{v x y a:AV}{op:Op}{d:TD}{ops:Array Oper}{o:Oper}{t s:TypeId}{id tot n f i:Nat}{lo hi mx:Option AV}{st st':St}{T:List (List Nat)}
variable {E:Env}
structure Orc where
  fz:FuncId->List AV->Option AV
  own:FuncId->List AV->Ac->Option (AV×Ac)
def QT(E:Env)(c:Call):Bool:=match c.callee with
 |.value (.func f)=>E.own f c.args.toList
 |.value (.tmp _)=>E.own 1000000 c.args.toList
 |_=>false
def AgO(orc:Orc)(fr:List AV)(O:Ac)(c:Call):Option (AV×Ac) :=
 match c.callee with
 |.value f=>match ev fr f with
  |.fn fid []=>orc.own fid (c.args.toList.map (ev fr)) O
  |.fn fid [.tup xs]=>orc.own fid (xs++c.args.toList.map (ev fr)) O
  |.fn fid cs=>orc.own fid (c.args.toList.map (ev fr)++cs) O
  |_=>none
 |_=>none
theorem Vm{orc:Orc}(h:AgO orc fr O c=some r):∃fid args,orc.own fid args O=some r:=by
 unfold AgO at h;split at h
 ·split at h
  ·exact⟨_,_,h⟩
  ·exact⟨_,_,h⟩
  ·exact⟨_,_,h⟩
  cases h
 cases h
def JC(orc:Orc)(fr:List AV)(O:Ac)(c:Call):Option AV :=
 match c.callee with
 | .value f=>match ev fr f with
  | .fn fid []=>match(c.args.toList.map (ev fr)).mapM (fz O)with
   |some args=>match orc.fz fid args with
    |some r=>if r.scalar=true\/(c.args.toList.map (ev fr)).flatMap Cq=[]then some r else none
    |none=>none
   |none=>none
  |_=>none
 |_=>none
def CL(E:Env)(orc:Orc)(op:Op)(fr:List AV)(O:Ac):Option (AV×Ac) :=
 match op with
 |.call c=>match c.callee with
  |.builtin _=>EF E fr O op
  |_=>if QT E c=true then AgO orc fr O c else(JC orc fr O c).map fun r=>(r,O)
 |op=>EF E fr O op
theorem PO{pr:Addr->Prop}{v:Value}(h:Rep w pr g v x):x.under g.length=true:=by
 induction h with
 |bs g v full id tot off len b hb hx ht h ho=>simpa [AV.under]using(AqD.1 hb).1
 |ref g id off β b hb hx hβ=>simpa [AV.under]using(AqD.1 hb).1
 |tref g id t β b hb hx hβ ht=>simpa [AV.under]using(AqD.1 hb).1
 |mref g id β b hb hx hβ=>simpa [AV.under]using(AqD.1 hb).1
 |yld g id β b hb hx hβ=>simpa [AV.under]using(AqD.1 hb).1
 |nref g v id b hb hx h=>simpa [AV.under]using(AqD.1 hb).1
 |eref g v id tot i j b hb hx ht h ho=>simpa [AV.under]using(AqD.1 hb).1
 |agg g vs cs hs ho hr ih=>
  simp only[AV.under,AqW];rintro⟨x,hx⟩ _;obtain⟨i,hi⟩:=ArX.1 hx;exact ih i x hi
 |tup g vs cs hs hr ih=>
  simp only[AV.under,AqW];rintro⟨x,hx⟩ _;obtain⟨i,hi⟩:=ArX.1 hx;exact ih i x hi
 |fn g f caps cs hs hr hn ih=>
  simp only[AV.under,AqW];rintro⟨x,hx⟩ _;obtain⟨i,hi⟩:=ArX.1 hx;exact ih i x hi
 |fnb g f fs cs hs hr ih=>
  simp only[AV.under,AqW];rintro⟨x,hx⟩ _;rw[Arm]at hx;subst hx;simp only[AV.under,AqW];rintro⟨y,hy⟩ _;obtain⟨i,hi⟩:=ArX.1 hy;exact ih i y hi
 |iface g t v x hr ih=>simpa [AV.under]using ih
 |_=>simp[AV.under]
theorem Acy(hm:Mem E w g O):∀ab∈O,Yt O.length ab:=by
 intro ab hab;obtain⟨id,hid⟩:=ArX.1 hab;have hl:id<g.length:=by rw[hm.len];exact(AqD.1 hid).1
 have hk:=hm.blk id g[id] ab (AqH hl) hid;cases ab with
 |box cs ro=>
  obtain⟨k1,k2,k3,k4,k5,β,arr,t,fz,k6,k7,k8,k9,k10⟩:=hk;intro x hx;obtain⟨j,hj⟩:=ArX.1 hx;have:=PO (k10 j x hj).1;rwa[hm.len]at this
 | buf k els ro=>
  obtain⟨k1,k2,k3,k4,k5,k6,k7⟩:=hk;intro cs hcs x hx;obtain⟨i,hi⟩:=ArX.1 hcs;obtain⟨j,hj⟩:=ArX.1 hx;cases hb:g[id].blk with
  | none=>
   rcases(k6 hb).1 with this|this
   ·subst this;simp at hi
   have h1:=k5 i cs hi;have h2:=(AqD.1 hj).1;omega
  |some β=>
   obtain⟨arr,t,fz,g1,g2,g3,g4,g5⟩:=k7 β hb;have:=PO (g5 i cs j x hi hj).1;rwa[hm.len]at this
 |obj o=>exact trivial
 |mp st es=>exact trivial
 |lp y N1 l1 ps as1 bd=>
  obtain⟨k1,β,f,T,D,k2,k3,k4,k5⟩:=hk;intro p hp;have:=PO (k5 p hp);rwa[hm.len]at this
 |gone=>exact trivial
 |tb T l=>exact trivial
def Jl(O:Ac)(r:AV×Ac):Option (AV×Ac) :=
 match r with
 |(.bs full id tot off len,O')=>if id=O.length then(B7 O' (.bs full id tot off len)).map fun y=>(y,O)else none
 |_=>none
theorem Wy{w':World}{g1:Gh}{v:Value}(hm:Mem E w g O)(hp:∃bs,O'=O++bs)(h:Jl O (x,O')=some (y,σ2)) (m1:Mem E w' g1 O') (h3:GLe g g1) (h4:Evo E 0 w g w' g1) (h5:Rep w' (Ay E g1) g1 v x) :σ2=O/\Mem E w' (g1.take O.length) O/\GLe g (g1.take O.length)/\Evo E 0 w g w' (g1.take O.length)/\Rep w' (Ay E (g1.take O.length)) (g1.take O.length) v y:=by
 obtain⟨bs,rfl⟩:=hp;have ht:(O++bs).take O.length=O:=by simp
 unfold Jl at h;split at h
 case h_2=>cases h
 rename_i full id tot off len σ3 he;cases he;split at h
 case isFalse=>cases h
 rename_i hid;rw[AqE]at h;obtain⟨y',hy,h⟩:=h;cases h;have hmt:=KP m1 O.length (by rw[ht];exact Acy hm);rw[ht]at hmt;refine⟨rfl,hmt,?_,?_,?_⟩
 ·intro id b hb;obtain⟨b',hb',hs⟩:=h3 id b hb;exact⟨b',Im hb' (by rw[<-hm.len];exact(AqD.1 hb).1),hs⟩
 ·exact⟨h4.os,h4.tape,h4.output,h4.size,fun a u hc hpr=>⟨(h4.cells a u hc hpr).1,OR (h4.cells a u hc hpr).2⟩,
   fun β hβ hn=>⟨(h4.blocks β hβ hn).1,fun h=>(h4.blocks β hβ hn).2 (M5 h)⟩,fun id hid=>absurd hid (ArF _)⟩
 refine(KQ (pr:=Ay E (g1.take O.length)) m1 h5 hy (fun a=>OR) ?_).mono (fun a u hc hpr=>⟨hc,hpr⟩) (GLe.nil _);rintro id' b ⟨_,_,_,_,e⟩ hb β off' hβ _;cases e;refine⟨fun hF=>(m1.foreign _ hF).2 ⟨id,b,hb,hβ⟩,fun id2 c hc he=>?_⟩;have:=m1.inj id2 id c b β (Ij hc).1 hb he hβ;have:=(Ij hc).2;omega
theorem Bk{α:Type}(x:Option α):x.bind some=x:=by cases x<;>rfl
def AaJ(t:Tmp):Operand->Bool
 |.tmp s=>s==t
 |_=>false
def Adc(t:Tmp):List Operand->Bool
 |[]=>false
 |_::r=>r.any (AaJ t)
def Y5:Builtin->Bool
 |.append=>true
 |_=>false
theorem P9:Y5 .append=true:=rfl
def Ahz(t:Tmp)(o:Oper):Bool:=match o.op with
 |.call c=>match c.callee with
  |.value _=>c.args.toList.any (AaJ t)
  |.builtin b=>Adc t c.args.toList&&Y5 b
  |_=>false
 |.buildSlice _ _ parts=>parts.toList.any fun p=>AaJ t p.2
 |.indexAddr _ x _=>AaJ t x
 |_=>false
def El(E:Env)(t:TypeId):Bool:=match E.tab t with
 |some d=>match d.desc with
  |.slice _=>true
  |_=>false
 |none=>false
def F6(E:Env)(ops:Array Oper)(o:Oper):Bool:=match o.dst with
 |some t=>match o.op with
  |.buildSlice ..=>ops.toList.any (Ahz t)
  |.convert _ d _=>El E d&&ops.toList.any (Ahz t)
  |_=>false
 |none=>false
def F9(b:Bool)(O:Ac)(r:AV×Ac):Option (AV×Ac):=if b then Jl O r else some r
def DP(E:Env)(orc:Option Tmp->Orc)(ops:Array Oper)(o:Oper)(fr:List AV)(O:Ac):Option (AV×Ac) :=
 match Ig ops fr o with
 |some true=>(CL E (orc o.dst) o.op fr O).bind (F9 (F6 E ops o) O)
 |some false=>some (.tup [],O)
 |none=>none
def Cc(E:Env)(orc:Option Tmp->Orc)(ops:Array Oper)(o:Oper)(st:St):Option St :=
 (DP E orc ops o st.fr st.O).map fun r=>⟨AC st.fr o.dst r.1,r.2⟩
def Bh(E:Env)(orc:Option Tmp->Orc)(ops:Array Oper):List Nat->St->Option St
 |[],st=>some st
 |i::l,st=>match ops[i]? with
  |some o=>(Cc E orc ops o st).bind (Bh E orc ops l)
  |none=>none
theorem AfS{x:Operand}(h:∀t,x=.tmp t->fr[t]?=fr'[t]?):ev fr x=ev fr' x:=by
 cases x with
 |tmp t=>simp only[ev,List.getD,h t rfl]
 |_=>rfl
theorem N6(h:∀x∈op.operands,ev fr x=ev fr' x):EF E fr O op=EF E fr' O op:=by
 have m1:∀(l:List Operand),(∀x∈l,x∈op.operands)->l.map (ev fr)=l.map (ev fr'):=fun l hl=>Ar5 fun x hx=>h x (hl x hx)
 cases op<;>simp only[EF]
 case move x=>rw[h x (by simp[Op.operands])]
 case assign x=>rw[h x (by simp[Op.operands])]
 case pick c a b=>rw[h c (by simp[Op.operands]),h a (by simp[Op.operands]),h b (by simp[Op.operands])]
 case box t x=>rw[h x (by simp[Op.operands])]
 case build t parts=>
  have:(parts.toList.map fun(i,x)=>(i,ev fr x))=(parts.toList.map fun(i,x)=>(i,ev fr' x)):=Ar5 fun p hp=>by
   have:=h p.2 (by simp[Op.operands];exact⟨p.1,by simpa using hp⟩);simp[this]
  rw[this]
 case buildSlice t n parts=>
  have:(parts.toList.map fun(i,x)=>(i,ev fr x))=(parts.toList.map fun(i,x)=>(i,ev fr' x)):=Ar5 fun p hp=>by
   have:=h p.2 (by simp[Op.operands];exact⟨p.1,by simpa using hp⟩);simp[this]
  rw[this]
 case load t x=>rw[h x (by simp[Op.operands])]
 case store t x y=>rw[h x (by simp[Op.operands]),h y (by simp[Op.operands])]
 case nilCheck x=>rw[h x (by simp[Op.operands])]
 case range t x=>rw[h x (by simp[Op.operands])]
 case makeMap t r=>cases r<;>rfl
 case insert t m k x=>rw[h m (by simp[Op.operands]),h k (by simp[Op.operands]),h x (by simp[Op.operands])]
 case mapUpdate t m k x=>rw[h m (by simp[Op.operands]),h k (by simp[Op.operands]),h x (by simp[Op.operands])]
 case next it b=>
  cases b with
  |false=>rfl
  |true=>simp only;rw[h it (by simp[Op.operands])]
 case binOp op t x y u=>rw[h x (by simp[Op.operands]),h y (by simp[Op.operands])]
 case unOp op t x=>rw[h x (by simp[Op.operands])]
 case convert s d x=>rw[h x (by simp[Op.operands])]
 case makeInterface t x=>rw[h x (by simp[Op.operands])]
 case makeFunc fn first caps=>
  have:caps.toList.map (ev fr)=caps.toList.map (ev fr'):=m1 _ (fun x hx=>by simp[Op.operands];exact .inr (by simpa using hx));have t2:first.toList.map (ev fr)=first.toList.map (ev fr'):=m1 _ (fun x hx=>by simp[Op.operands];exact .inl (by simpa using hx))
  cases fn<;>simp only[this,t2]
 case makeSlice t x y=>rw[h x (by simp[Op.operands]),h y (by simp[Op.operands])]
 case slice t x lo hi mx=>
  have hx:=h x (by simp[Op.operands]);have hl:lo.map (ev fr)=lo.map (ev fr'):=by cases lo with|none=>rfl|some l=>simp[h l (by simp[Op.operands])]
  have hh:hi.map (ev fr)=hi.map (ev fr'):=by cases hi with|none=>rfl|some l=>simp[h l (by simp[Op.operands])]
  have hm:mx.map (ev fr)=mx.map (ev fr'):=by cases mx with|none=>rfl|some l=>simp[h l (by simp[Op.operands])]
  rw[hx,hl,hh,hm]
 case fieldAddr s x f=>rw[h x (by simp[Op.operands])]
 case field s x f=>rw[h x (by simp[Op.operands])]
 case indexAddr t x y=>rw[h x (by simp[Op.operands]),h y (by simp[Op.operands])]
 case index t x y=>rw[h x (by simp[Op.operands]),h y (by simp[Op.operands])]
 case sliceToArrayPointer t x=>rw[h x (by simp[Op.operands])]
 case typeAssert x _ t ok=>rw[h x (by simp[Op.operands])]
 case lookup t x y ok=>rw[h x (by simp[Op.operands]),h y (by simp[Op.operands])]
 case extract x i=>rw[h x (by simp[Op.operands])]
 case call c=>
  cases hc:c.callee<;>simp only[];have:c.args.toList.map (ev fr)=c.args.toList.map (ev fr'):=m1 _ (fun x hx=>by simp[Op.operands,Call.operands];exact .inr (by simpa using hx));rw[this]
def LF(E:Env)(t:TypeId):Bool:=match E.tab t with
 |some d=>match d.desc with
  |.array ..=>true
  |_=>false
 |none=>false
def O2(E:Env):Op->Bool
 |.alloc _|.box ..|.buildSlice ..|.store ..|.makeSlice ..|.range ..|.next ..|.makeMap ..|.insert ..|.mapUpdate ..=>true
 |.convert _ d _=>El E d
 |.slice t ..=>LF E t
 |.call c=>match c.callee with
  |.builtin .len|.builtin .min|.builtin .max=>false
  |.builtin _=>true
  |_=>QT E c
 |_=>false
def Ho(E:Env):Op->Bool
 |.load ..|.fieldAddr ..|.indexAddr ..|.slice ..|.convert ..|.lookup ..=>true
 |.call c=>match c.callee with
  |.builtin .min|.builtin .max=>false
  |_=>true
 |op=>O2 E op
theorem Nj(he:O2 E op=false)(h:EF E fr O op=some (x,O')):O'=O:=by
 cases op<;>simp only[EF]at h<;>simp only[O2]at he<;>try (cases h;done)
 case move y=>cases h;rfl
 case assign y=>cases h;rfl
 case pick c a b=>split at h<;>first|(cases h;rfl)|cases h
 case alloc=>cases he
 case range=>cases he
 case makeMap=>cases he
 case insert=>cases he
 case mapUpdate=>cases he
 case next=>cases he
 case box=>cases he
 case build t parts=>rw[AqE]at h;obtain⟨_,_,h⟩:=h;cases h;rfl
 case buildSlice=>cases he
 case load t y=>
  split at h
  ·rw[AqE]at h;obtain⟨_,_,h⟩:=h;cases h;rfl
  cases h
 case store=>cases he
 case nilCheck y=>split at h<;>first|(cases h;rfl)|cases h
 case binOp op t y z u=>rw[AqE]at h;obtain⟨_,_,h⟩:=h;cases h;rfl
 case unOp op t y=>rw[AqE]at h;obtain⟨_,_,h⟩:=h;cases h;rfl
 case lookup t y z ok=>rw[AqE]at h;obtain⟨_,_,h⟩:=h;cases h;rfl
 case convert s d y=>
  unfold CJ at h;unfold El at he;split at h
  case h_2=>cases h
  rename_i ds dd hs hd;rw[hd]at he;simp only at he;split at h
  ·cases h;rfl
  ·cases h;rfl
  ·rename_i hdd _;rw[hdd]at he;cases he
  ·split at h
   ·cases h
   split at h
   case h_2=>cases h
   split at h
   case h_2=>cases h
   split at h
   ·cases h;rfl
   cases h
  ·rename_i hdd _;rw[hdd]at he;cases he
  cases h
 case makeFunc fn first caps=>
  split at h
  ·split at h
   ·split at h
    ·cases h
    cases h;rfl
   split at h
   ·cases h;rfl
   cases h
  cases h
 case makeInterface t y=>
  split at h
  ·split at h
   ·cases h
   cases h;rfl
  cases h
 case makeSlice=>cases he
 case slice t y lo hi mx=>
  unfold Hr at h;unfold LF at he;cases ht:E.tab t with
  |none=>simp[ht]at h
  | some d=>
   simp only[ht]at h he;split at h
   ·split at h
    ·split at h
     ·cases h
     cases h;rfl
    cases h
   ·split at h
    ·split at h
     ·cases h;rfl
     cases h
    cases h
   ·split at h
    ·split at h
     ·split at h
      ·cases h;rfl
      cases h
     cases h
    cases h
   ·rename_i hd _;rw[hd]at he;cases he
   ·rename_i hd _;rw[hd]at he;cases he
   cases h
 case fieldAddr s y f=>rw[AqE]at h;obtain⟨_,_,h⟩:=h;cases h;rfl
 case field s y f=>rw[AqE]at h;obtain⟨_,_,h⟩:=h;cases h;rfl
 case indexAddr t y i=>rw[AqE]at h;obtain⟨_,_,h⟩:=h;cases h;rfl
 case index t y i=>rw[AqE]at h;obtain⟨_,_,h⟩:=h;cases h;rfl
 case sliceToArrayPointer t y=>rw[AqE]at h;obtain⟨_,_,h⟩:=h;cases h;rfl
 case typeAssert y _ t ok=>rw[AqE]at h;obtain⟨_,_,h⟩:=h;cases h;rfl
 case extract y i=>
  split at h
  ·split at h
   ·cases h;rfl
   cases h
  cases h
 case call c=>
  cases hc:c.callee<;>simp only[hc]at h he<;>try (cases h;done)
  rename_i b;unfold Bg at h;split at h
  ·rw[AqE]at h;obtain⟨_,_,h⟩:=h;cases h;rfl
  ·cases he
  ·cases he
  ·cases he
  ·rw[AqE]at h;obtain⟨_,_,h⟩:=h;cases h;rfl
  ·rw[AqE]at h;obtain⟨_,_,h⟩:=h;cases h;rfl
  cases h
theorem Hq(ht:Ho E op=false):EF E fr σ2 op=(EF E fr O op).map (fun r=>(r.1,σ2)):=by
 cases op<;>simp only[Ho,O2]at ht<;>try (cases ht;done)
 all_goals simp only[EF]
 all_goals try rfl
 case pick c a b=>split<;>rfl
 case build t parts=>simp only[ArE];rfl
 case nilCheck y=>split<;>rfl
 case binOp op t y z u=>simp only[ArE];rfl
 case unOp op t y=>simp only[ArE];rfl
 case makeFunc fn first caps=>
  split
  ·split
   ·split<;>rfl
   split<;>rfl
  rfl
 case makeInterface t y=>
  split
  ·split<;>rfl
  rfl
 case field s y f=>simp only[ArE];rfl
 case index t y i=>simp only[ArE];rfl
 case sliceToArrayPointer t y=>simp only[ArE];rfl
 case typeAssert y _ t ok=>simp only[ArE];rfl
 case extract y i=>
  split
  ·split<;>rfl
  rfl
 case call c=>
  cases hc:c.callee<;>simp only[hc]at ht ⊢<;>try rfl
  rename_i b;cases b<;>simp only at ht<;>try (cases ht;done)
  all_goals
   unfold Bg;split<;>first|(exfalso;simp_all;done)|rfl|(simp only[ArE];rfl)
theorem Dl(fr:List AV){x y:Option Tmp}(v u:AV)(h:∀d,x=some d->y≠some d):AC (AC fr x v) y u=AC (AC fr y u) x v:=by
 cases x with
 |none=>rfl
 |some d=>
  cases y with
  |none=>rfl
  |some e=>exact List.set_comm _ _ (fun he=>h d rfl (by rw[he]))
theorem N8{d:Option Tmp}{x:Operand}(h:∀e,d=some e->x≠.tmp e):ev (AC fr d v) x=ev fr x:=by
 refine AfS fun t hx=>?_
 cases d with
 |none=>rfl
 |some e=>
  have:e≠t:=fun he=>h e rfl (by rw[hx,he])
  simp[AC,ArC this]
theorem VG{orc:Orc}(h:∀x∈(Op.call c).operands,ev fr x=ev fr' x):JC orc fr O c=JC orc fr' O c:=by
 have ha:c.args.toList.map (ev fr)=c.args.toList.map (ev fr'):=Ar5 fun x hx=>h x (by simp[Op.operands,Call.operands];exact .inr (by simpa using hx))
 unfold JC;cases hc:c.callee<;>simp only[];rename_i f;rw[h f (by simp[Op.operands,Call.operands,hc]),ha]
theorem YY{orc:Orc}(h:∀x∈(Op.call c).operands,ev fr x=ev fr' x):AgO orc fr O c=AgO orc fr' O c:=by
 have ha:c.args.toList.map (ev fr)=c.args.toList.map (ev fr'):=Ar5 fun x hx=>h x (by simp[Op.operands,Call.operands];exact .inr (by simpa using hx))
 unfold AgO;cases hc:c.callee<;>simp only[];rename_i f;rw[h f (by simp[Op.operands,Call.operands,hc]),ha]
theorem W2{orc:Orc}(h:∀x∈op.operands,ev fr x=ev fr' x):CL E orc op fr O=CL E orc op fr' O:=by
 cases op with
 |call c=>
  simp only[CL];rw[VG h,YY h];cases hc:c.callee<;>simp only[];exact N6 h
 |_=>exact N6 (E:=E) (O:=O) h
theorem LY{orc:Orc}(he:O2 E op=false)(h:CL E orc op fr O=some (x,O')):O'=O:=by
 cases op with
 | call c=>
  simp only[CL]at h;cases hc:c.callee<;>simp only[hc]at h
  case builtin b=>exact Nj he h
  all_goals
   simp only[O2,hc]at he;simp only[he,Aq6,Arx]at h;rw[AqE]at h;obtain⟨_,_,h⟩:=h;cases h;rfl
 |_=>exact Nj (fr:=fr) he h
theorem SV{orc:Orc}(ht:Ho E op=false):CL E orc op fr σ2=(CL E orc op fr O).map (fun r=>(r.1,σ2)):=by
 cases op with
 |call c=>
  simp only[CL];cases hc:c.callee<;>simp only[]
  case builtin b=>exact Hq ht
  all_goals (simp only[Ho,hc]at ht;cases ht)
 |_=>exact Hq (fr:=fr) (O:=O) ht
theorem PB{t:Tmp}(h:Operand.tmp t∈o.op.operands):t∈o.looksAt ops:=by
 unfold Oper.looksAt;rw[Aq3];left;rw[Atj];exact⟨.tmp t,by simpa using h,rfl⟩
theorem Sm{d:Option Tmp}(h:∀e,d=some e->e ∉ o.looksAt ops):Ig ops (AC fr d v) o=Ig ops fr o:=by
 unfold Ig;cases hg:o.guard with
 |none=>rfl
 | some g=>
  obtain⟨j,want⟩:=g;simp only;congr 1;unfold Iz;cases hj:(ops[j]?).bind (·.dst)with
  |none=>simp[hj]
  | some t=>
   cases d with
   |none=>rfl
   |some e=>
    have:e≠t:=fun he=>h e rfl (by simp[Oper.looksAt,hg,hj,he])
    simp[hj,AC,ArC this]
theorem Be{orc:Option Tmp->Orc}{d:Option Tmp}(h:∀e,d=some e->e ∉ o.looksAt ops):DP E orc ops o (AC fr d v) O=DP E orc ops o fr O:=by
 unfold DP;rw[Sm h,W2 (fun x hx=>N8 fun e he hxe=>h e he (PB (hxe ▸ hx)))]
def Nt(E:Env)(ops:Array Oper)(o:Oper):Bool:=O2 E o.op&&!F6 E ops o
theorem KK(h:Nt E ops o=false):F6 E ops o=true\/(F6 E ops o=false/\O2 E o.op=false):=by
 unfold Nt at h;cases hf:F6 E ops o
 ·rw[hf]at h;right;simpa using h
 exact .inl rfl
theorem Dz(h:F6 E ops o=true):(∃t n l,o.op=.buildSlice t n l)\/(∃s d x,o.op=.convert s d x/\El E d=true):=by
 unfold F6 at h;split at h
 case h_2=>cases h
 split at h
 ·rename_i hop;exact .inl ⟨_,_,_,hop⟩
 ·rename_i hop;exact .inr ⟨_,_,_,hop,(Ata.1 h).1⟩
 cases h
theorem WH(h:Jl O r=some (y,O')):O'=O:=by
 unfold Jl at h;split at h
 case h_2=>cases h
 split at h
 case isFalse=>cases h
 rw[AqE]at h;obtain⟨_,_,h⟩:=h;cases h;rfl
theorem CV{orc:Option Tmp->Orc}(he:Nt E ops o=false)(h:DP E orc ops o fr O=some (x,O')):O'=O:=by
 unfold DP at h;split at h
 ·rw[AqK]at h;obtain⟨⟨v,σ1⟩,h1,h2⟩:=h;unfold F9 at h2;rcases KK he with hf|⟨hf,he⟩
  ·rw[hf,AqJ rfl]at h2;exact WH h2
  rw[hf]at h2;simp only[Aq6,Arx]at h2;cases h2;exact LY he h1
 ·cases h;rfl
 cases h
theorem YL(ht:Ho E o.op=false):F6 E ops o=false:=by
 cases hf:F6 E ops o
 ·rfl
 rcases Dz hf with⟨t,n,l,h⟩|⟨s,d,x,h,_⟩
 ·rw[h]at ht;cases ht
 rw[h]at ht;cases ht
theorem NU{orc:Option Tmp->Orc}(ht:Ho E o.op=false):DP E orc ops o fr σ2=(DP E orc ops o fr O).map (fun r=>(r.1,σ2)):=by
 unfold DP;rw[YL ht];have e:∀O,F9 false O=some:=fun O=>by funext r;simp[F9]
 rw[e,e];split
 ·rw[SV (O:=O) ht];cases CL E (orc o.dst) o.op fr O<;>rfl
 ·rfl
 rfl
theorem K1{b:ABlk}(bs:Ac)(h:O[id]?=some b):(O++bs)[id]?=some b:=by
 rw[AqN (AqD.1 h).1];exact h
theorem YO(bs:Ac)(h:loadA E O d a=some x):loadA E (O++bs) d a=some x:=by
 cases a<;>simp only[loadA]at h ⊢<;>try exact h
 case ref id off=>
  cases e:O[id]? with
  |none=>simp[e]at h
  |some b=>rw[e]at h;rw[K1 bs e];exact h
 case eref id tot i j=>
  cases e:O[id]? with
  |none=>simp[e]at h
  |some b=>rw[e]at h;rw[K1 bs e];exact h
theorem TB(bs:Ac)(h:X2 O id tot=true):X2 (O++bs) id tot=true:=by
 unfold X2 at h ⊢;cases e:O[id]? with
 |none=>simp[e]at h
 |some b=>rw[e]at h;rw[K1 bs e];exact h
theorem AcC{l:List (List AV)}(bs:Ac)(h:Hb O x=some l):Hb (O++bs) x=some l:=by
 cases x<;>simp only[Hb]at h ⊢<;>try exact h
 case bs full id tot off len=>
  cases e:O[id]? with
  |none=>simp[e]at h
  |some b=>rw[e]at h;rw[K1 bs e];exact h
theorem Ace(bs:Ac)(h:XE E O t x=some n):XE E (O++bs) t x=some n:=by
 unfold XE at h ⊢;cases ht:E.tab t with
 |none=>simp[ht]at h
 |some d=>
  simp only[ht]at h ⊢;split at h<;>try (simp_all;done)
  rename_i id tot off len hd;cases e:O[id]? with
  |none=>simp[e]at h
  |some b=>rw[e]at h;simp only[hd,K1 bs e];exact h
theorem Qv(bs:Ac)(h:Bw E O s x f=some y):Bw E (O++bs) s x f=some y:=by
 unfold Bw at h ⊢
 repeat' split at h
 all_goals try (cases h;done)
 all_goals try (simp_all;done)
 all_goals (rename_i hc;simp_all [TB bs hc])
theorem PS{i:AV}(bs:Ac)(h:Ao E O t x i=some y):Ao E (O++bs) t x i=some y:=by
 unfold Ao at h ⊢;cases ht:E.tab t with
 |none=>simp[ht]at h
 | some d=>
  simp only[ht]at h ⊢;cases hd:d.desc<;>simp only[hd]at h ⊢<;>try (cases h;done)
  case array n e=>
   cases he:E.tab e with
   |none=>simp[he]at h
   | some de=>
    cases hi:idx i n with
    |none=>simp[he,hi]at h
    | some k=>
     simp only[he,hi]at h ⊢;cases x<;>simp only at h ⊢<;>try exact h
     case eref id tot i0 j=>
      split at h
      case isFalse=>cases h
      rename_i hc;rw[AqJ (TB bs hc)];exact h
  case slice e=>
   cases he:E.tab e with
   |none=>simp[he]at h
   | some de=>
    simp only[he]at h ⊢;cases x<;>simp only at h ⊢<;>try exact h
    case bs full id tot off len=>
     cases e2:O[id]? with
     |none=>simp[e2]at h
     |some b=>rw[e2]at h;rw[K1 bs e2];exact h
theorem Xd(bs:Ac)(he:LF E t=false)(h:Hr E O t x lo hi mx=some (y,O')):Hr E (O++bs) t x lo hi mx=some (y,O++bs):=by
 unfold Hr at h ⊢;unfold LF at he;cases ht:E.tab t with
 |none=>simp[ht]at h
 | some d=>
  simp only[ht]at h he ⊢;cases hd:d.desc<;>simp only[hd]at h he ⊢<;>try (first|(cases h;done)|(cases he;done))
  case string=>
   cases x<;>simp only at h ⊢<;>try (cases h;done)
   repeat' split at h
   all_goals try (cases h;done)
   cases h;simp_all
  case slice e=>
   cases x<;>simp only at h ⊢<;>try (cases h;done)
   case sl full els=>
    repeat' split at h
    all_goals try (cases h;done)
    cases h;simp_all
   case bs full id tot off len=>
    cases e2:O[id]? with
    |none=>simp[e2]at h
    |some b=>
     rw[e2]at h;rw[K1 bs e2]
     repeat' split at h
     all_goals try (cases h;done)
     cases h;simp_all
theorem SJ{d:TypeId}(bs:Ac)(he:El E d=false)(h:CJ E O s d x=some (y,O')):CJ E (O++bs) s d x=some (y,O++bs):=by
 unfold CJ at h ⊢;unfold El at he;split at h
 case h_2=>cases h
 rename_i ds dd hs hd;rw[hd]at he;simp only at he;split at h
 ·cases h;rfl
 ·cases h;rfl
 ·simp_all
 ·split at h
  ·cases h
  rename_i hb;split at h
  case h_2=>cases h
  rename_i hde;split at h
  case h_2=>cases h
  rename_i hu hv;split at h
  ·rename_i hl;cases h;simp[hb,hu,AcC bs hv,hl]
  cases h
 ·simp_all
 cases h
theorem Qo(bs:Ac)(h:B7 O x=some y):B7 (O++bs) x=some y:=by
 cases x<;>simp only[B7]at h ⊢<;>try exact h
 case bs full id tot off len=>
  cases e:O[id]? with
  |none=>simp[e]at h
  |some b=>rw[e]at h;rw[K1 bs e];exact h
theorem Qn{α β:Type}{f g:α->Option β}(hfg:∀x y,f x=some y->g x=some y):∀{l:List α} {ys:List β},l.mapM f=some ys->l.mapM g=some ys
 |[],_,h=>by simpa using h
 |x::l,ys,h=>by
  rw[Asc]at h ⊢;simp only[AsR,AqK]at h ⊢;obtain⟨y,hy,zs,hz,h⟩:=h;exact⟨y,hfg _ _ hy,zs,Qn hfg hz,h⟩
theorem Aik(bs:Ac)(h:fz O x=some y):fz (O++bs) x=some y:=by
 cases x<;>simp only[fz]at h ⊢<;>try exact Qo bs h
 case agg cs=>
  rw[AqE]at h ⊢;obtain⟨ys,h,e⟩:=h;exact⟨ys,Qn (fun _ _=>Qo bs) h,e⟩
theorem UM(bs:Ac){k:AV}{ok:Bool}(h:Gx E O t x k ok=some v):Gx E (O++bs) t x k ok=some v:=by
 cases x with
 | mref id=>
  simp only[Gx]at h ⊢;cases hO:O[id]? with
  |none=>simp[hO]at h
  |some b=>
   rw[AqN (AqD.1 hO).1,hO];rw[hO]at h;exact h
 |_=>exact h
theorem T9(bs:Ac)(he:O2 E op=false)(h:EF E fr O op=some (x,O')):EF E fr (O++bs) op=some (x,O++bs):=by
 cases ht:Ho E op with
 |false=>
  rw[Hq (O:=O) ht,h];rfl
 | true=>
  cases op<;>simp only[Ho,O2]at ht he<;>try (cases ht;done)
  all_goals try (cases he;done)
  case load t y=>
   simp only[EF]at h ⊢;split at h
   case h_2=>cases h
   rename_i hd;rw[AqE]at h;obtain⟨v,hv,h⟩:=h;cases h;simp[hd,YO bs hv]
  case convert s d y=>exact SJ bs he h
  case slice t y lo hi mx=>exact Xd bs he h
  case lookup t y z ok=>
   simp only[EF]at h ⊢;rw[AqE]at h;obtain⟨v,hv,h⟩:=h;cases h;simp[UM bs hv]
  case fieldAddr s y f=>
   simp only[EF]at h ⊢;rw[AqE]at h;obtain⟨v,hv,h⟩:=h;cases h;simp[Qv bs hv]
  case indexAddr t y i=>
   simp only[EF]at h ⊢;rw[AqE]at h;obtain⟨v,hv,h⟩:=h;cases h;simp[PS bs hv]
  case call c=>
   simp only[EF]at h ⊢;cases hc:c.callee<;>simp only[hc]at h ht he ⊢<;>try (cases h;done)
   rename_i b;unfold Bg at h ⊢;split at h
   ·rw[AqE]at h;obtain⟨v,hv,h⟩:=h;cases h;simp[Ace bs hv]
   ·cases he
   ·cases he
   ·cases he
   ·cases ht
   ·cases ht
   cases h
theorem Aac{orc:Orc}{r:AV}(bs:Ac)(h:JC orc fr O c=some r):JC orc fr (O++bs) c=some r:=by
 unfold JC at h ⊢;split at h
 case h_2=>cases h
 rename_i f hf;split at h
 case h_2=>cases h
 rename_i fid hv;split at h
 case h_2=>cases h
 rename_i args ha;simp only[Qn (fun _ _=>Aik bs) ha];exact h
theorem YR{orc:Orc}(bs:Ac)(he:O2 E op=false)(h:CL E orc op fr O=some (x,O')):CL E orc op fr (O++bs)=some (x,O++bs):=by
 cases op with
 | call c=>
  simp only[CL]at h ⊢;cases hc:c.callee<;>simp only[hc]at h ⊢
  case builtin b=>exact T9 bs he h
  all_goals
   simp only[O2,hc]at he;simp only[he,Aq6,Arx]at h ⊢;rw[AqE]at h;obtain⟨v,hv,h⟩:=h;cases h;simp[Aac bs hv]
 |_=>exact T9 (fr:=fr) bs he h
theorem RR(ρ:Ac)(hf:(∃t n l,op=.buildSlice t n l)\/(∃s d x,op=.convert s d x/\El E d=true)) (h:(EF E fr O op).bind (Jl O)=some (y,O')):(EF E fr ρ op).bind (Jl ρ)=some (y,ρ):=by
 have last:∀(b:ABlk) (f:Bool) (t o l:Nat),Jl O (.bs f O.length t o l,O++[b])=some (y,O')->Jl ρ (.bs f ρ.length t o l,ρ++[b])=some (y,ρ):=by
  intro b f t o l h;unfold Jl at h ⊢;simp only[Aro,AqE,AqQ]at h ⊢;obtain⟨z,hz,rfl,rfl⟩:=h;refine⟨z,?_,rfl,trivial⟩;simp only[B7]at hz ⊢;rw[AqL (AqT _),AsJ]at hz ⊢;exact hz
 rcases hf with⟨t,n,l,rfl⟩|⟨s,d,x,rfl,hd⟩
 ·simp only[EF]at h ⊢;unfold Ey at h ⊢;cases ht:E.tab t with
  |none=>simp[ht]at h
  | some dd=>
   simp only[ht]at h ⊢;cases hdd:dd.desc<;>simp only[hdd]at h ⊢<;>try (simp at h;done)
   rename_i e;cases he:E.tab e with
   |none=>simp[he]at h
   |some de=>
    simp only[he]at h ⊢;split at h
    ·simp at h
    rename_i hn;rw[AqI hn];split at h
    case h_2=>simp at h
    rename_i els hels;exact last _ _ _ _ _ h
 simp only[EF]at h ⊢;unfold CJ at h ⊢;unfold El at hd;cases ht:E.tab d with
 |none=>simp[ht]at hd
 | some dd=>
  simp only[ht]at hd;cases hdd:dd.desc<;>simp only[hdd]at hd<;>try (cases hd;done)
  rename_i e;cases hs:E.tab s with
  |none=>simp[hs]at h
  | some sd=>
   simp only[hs,ht,hdd]at h ⊢;generalize ev fr x=xv at h ⊢;split at h
   case h_3=>
    rename_i e' l hx;cases hx;cases he:E.tab e with
    |none=>simp[he]at h
    |some de=>
     simp only[he]at h ⊢;cases hde:de.desc<;>simp only[hde]at h ⊢<;>try (simp at h;done)
     rename_i k;cases k<;>simp only at h ⊢<;>try (simp at h;done)
     exact last _ _ _ _ _ h
   case h_5=>
    exfalso;split at h
    case isFalse=>simp at h
    split at h
    case h_2=>simp at h
    split at h
    case h_2=>simp at h
    split at h
    case isFalse=>simp at h
    rename_i hid _;simp only[ArL,Jl]at h;split at h
    case isFalse=>cases h
    rename_i e2;have:=(AqD.1 hid).1;omega
   all_goals (exfalso;simp_all;done)
theorem AdS(bs:Ac)(hf:(∃t n l,op=.buildSlice t n l)\/(∃s d x,op=.convert s d x/\El E d=true)) (h:(EF E fr O op).bind (Jl O)=some (y,O')):(EF E fr (O++bs) op).bind (Jl (O++bs))=some (y,O++bs):=RR _ hf h
theorem Acp{orc:Option Tmp->Orc}(bs:Ac)(he:Nt E ops o=false)(h:DP E orc ops o fr O=some (x,O')):DP E orc ops o fr (O++bs)=some (x,O++bs):=by
 unfold DP at h ⊢;split at h
 ·rcases KK he with hf|⟨hf,he⟩
  ·rw[hf]at h ⊢;have e:∀O,F9 true O=Jl O:=fun O=>by funext r;simp[F9]
   rw[e]at h ⊢
   have e2:∀O,CL E (orc o.dst) o.op fr O=EF E fr O o.op:=by
    intro O;rcases Dz hf with⟨t,n,l,h⟩|⟨s,d,x,h,_⟩<;>rw[h]<;>rfl
   rw[e2]at h ⊢;exact AdS bs (Dz hf) h
  rw[hf]at h ⊢;have e:∀O,F9 false O=some:=fun O=>by funext r;simp[F9]
  rw[e]at h ⊢;rw[Bk]at h ⊢;exact YR bs he h
 ·cases h;rfl
 cases h
def S8:Op->Bool
 |.alloc _|.buildSlice ..|.makeMap _ none=>true
 |_=>false
theorem YH{orc:Option Tmp->Orc}(ha:S8 o.op=true)(h:DP E orc ops o fr O=some (x,O')):∃bs,O'=O++bs:=by
 cases hf:F6 E ops o
 case true=>exact⟨[],by rw[CV (by unfold Nt;rw[hf];simp) h];simp⟩
 unfold DP at h;rw[hf]at h;have e:∀O,F9 false O=some:=fun O=>by funext r;simp[F9]
 rw[e,Bk]at h;split at h
 ·cases ho:o.op<;>simp only[ho,S8]at ha h<;>try (cases ha;done)
  ·simp only[CL,EF]at h;split at h
   ·split at h
    ·cases h
    split at h
    ·cases h;exact⟨_,rfl⟩
    cases h;exact⟨_,rfl⟩
   cases h
  case makeMap t r=>
   cases r with
   |some _=>cases ha
   |none=>
    simp only[CL,EF]at h;cases h;exact⟨_,rfl⟩
  simp only[CL,EF]at h;unfold Ey at h;split at h
  ·cases h
  split at h
  ·split at h
   ·split at h
    ·cases h
    split at h
    ·cases h;exact⟨_,rfl⟩
    cases h
   cases h
  cases h
 ·cases h;exact⟨[],by simp⟩
 cases h
def LX:ABlk->ABlk
 |.box cs _=>.box cs false
 |.buf k els _=>.buf k els false
 |.obj o=>.obj o
 |.tb T l=>.tb T l
 |.mp st es=>.mp st es
 |.lp y N l ps a b=>.lp y N l ps a b
 |.gone=>.gone
theorem GM:(O.map LX)[id]?=(O[id]?).map LX:=by simp
theorem Aaf:loadA E (O.map LX) d a=loadA E O d a:=by
 cases a<;>simp only[loadA,GM]
 case ref id off=>cases O[id]? with
  |none=>rfl
  |some b=>cases b<;>rfl
 case eref id tot i j=>cases O[id]? with
  |none=>rfl
  |some b=>cases b<;>rfl
theorem Uz:X2 (O.map LX) id tot=X2 O id tot:=by
 simp only[X2,GM];cases O[id]? with
 |none=>rfl
 |some b=>cases b<;>rfl
theorem AaL:Hb (O.map LX) x=Hb O x:=by
 cases x<;>simp only[Hb,GM]
 case bs full id tot off len=>cases O[id]? with
  |none=>rfl
  |some b=>cases b<;>rfl
theorem Aa5:XE E (O.map LX) t x=XE E O t x:=by
 unfold XE;cases E.tab t with
 |none=>rfl
 | some d=>
  obtain⟨desc,sz,bt,z⟩:=d;cases x with
  |bs full id tot off len=>
   cases desc<;>try rfl
   simp only[GM];cases O[id]? with
   |none=>rfl
   |some b=>cases b<;>rfl
  |_=>cases desc<;>rfl
theorem PK:Bw E (O.map LX) s x f=Bw E O s x f:=by
 unfold Bw;simp only[Uz]
theorem Pk{i:AV}:Ao E (O.map LX) t x i=Ao E O t x i:=by
 unfold Ao;cases E.tab t with
 |none=>rfl
 | some d=>
  obtain⟨desc,sz,bt,z⟩:=d;cases desc<;>dsimp only<;>try (first|rfl|(simp only[Uz];done))
  rename_i e;generalize E.tab e=te;cases te with
  |none=>cases x<;>rfl
  |some de=>
   cases x<;>try rfl
   rename_i full id tot off len;dsimp only;simp only[GM];cases O[id]? with
   |none=>rfl
   |some b=>cases b<;>cases idx i len<;>rfl
theorem Xo(he:LF E t=false):(Hr E (O.map LX) t x lo hi mx).map (·.1)=(Hr E O t x lo hi mx).map (·.1):=by
 unfold Hr;unfold LF at he;cases ht:E.tab t with
 |none=>rfl
 | some d=>
  rw[ht]at he;obtain⟨desc,sz,bt,z⟩:=d;cases desc<;>dsimp only at he ⊢<;>try (first|rfl|(cases he;done))
  ·cases x<;>dsimp only<;>try rfl
   split<;>try rfl
   split<;>rfl
  rename_i e;cases x<;>dsimp only<;>try rfl
  ·split<;>try rfl
   split<;>rfl
  rename_i full id tot off len;simp only[GM];cases O[id]? with
  |none=>rfl
  | some b=>
   cases b with
   |box=>rfl
   |obj o=>rfl
   |mp st es=>rfl
   |lp y N1 l1 ps as1 bd=>rfl
   |gone=>rfl
   |tb T l=>rfl
   | buf k els ro=>
    simp only[Arg,LX];generalize E.tab e=te;cases te with
    |none=>rfl
    |some de=>
     dsimp only;split<;>try rfl
     split<;>rfl
theorem S3{d:TypeId}(he:El E d=false):(CJ E (O.map LX) s d x).map (·.1)=(CJ E O s d x).map (·.1):=by
 unfold CJ;unfold El at he;cases hs:E.tab s with
 |none=>rfl
 | some sd=>
  cases hd:E.tab d with
  |none=>rfl
  | some dd=>
   simp only[hd]at he ⊢;cases hdd:dd.desc<;>simp only[hdd]at he ⊢<;>try (first|rfl|(cases he;done))
   ·cases x<;>first|rfl|(cases sd.desc<;>rfl)
   cases x<;>cases sd.desc<;>try rfl
   all_goals
    simp only[AaL];split<;>try rfl
    split<;>try rfl
    split<;>try rfl
    split<;>rfl
theorem Qz:B7 (O.map LX) x=B7 O x:=by
 cases x<;>simp only[B7,GM]
 case bs full id tot off len=>cases O[id]? with
  |none=>rfl
  |some b=>cases b<;>rfl
theorem Aid:fz (O.map LX) x=fz O x:=by
 cases x<;>simp only[fz,Qz];rename_i cs;congr 1;have:B7 (O.map LX)=B7 O:=funext fun x=>Qz
 rw[this]
theorem Zw{orc:Orc}:JC orc fr (O.map LX) c=JC orc fr O c:=by
 unfold JC;have:fz (O.map LX)=fz O:=funext fun x=>Aid
 rw[this]
theorem Vu{k:AV}{ok:Bool}:Gx E (O.map LX) t x k ok=Gx E O t x k ok:=by
 cases x with
 | mref id=>
  simp only[Gx,GM];cases O[id]? with
  |none=>rfl
  |some b=>
   cases b with
   |obj o=>rfl
   |mp st es=>rfl
   |lp y N1 l1 ps as1 bd=>rfl
   |gone=>rfl
   |tb T l=>rfl
   |box cs ro=>cases ok<;>cases k<;>first|rfl|(cases HZ E t with|none=>rfl|some d=>cases d<;>rfl)
   |buf n els ro=>cases ok<;>cases k<;>first|rfl|(cases HZ E t with|none=>rfl|some d=>cases d<;>rfl)
 |_=>rfl
theorem Ut(he:O2 E op=false):(EF E fr (O.map LX) op).map (·.1)=(EF E fr O op).map (·.1):=by
 cases ht:Ho E op with
 |false=>
  rw[Hq (O:=O) ht];cases EF E fr O op<;>rfl
 | true=>
  cases op<;>simp only[Ho,O2]at ht he<;>try (cases ht;done)
  all_goals try (cases he;done)
  case load t y=>
   simp only[EF,Aaf];split<;>simp only[ArE]<;>rfl
  case convert s d y=>exact S3 he
  case slice t y lo hi mx=>exact Xo he
  case lookup t y z ok=>simp only[EF,Vu,ArE];rfl
  case fieldAddr s y f=>
   simp only[EF,PK,ArE];rfl
  case indexAddr t y i=>
   simp only[EF,Pk,ArE];rfl
  case call c=>
   simp only[EF];cases hc:c.callee<;>simp only[hc]at ht he ⊢<;>try rfl
   rename_i b;cases b<;>simp only at ht he<;>try (first|(cases ht;done)|(cases he;done))
   unfold Bg;split<;>first|rfl|(simp only[Aa5,ArE];rfl)|(exfalso;simp_all;done)
theorem Rl{orc:Orc}(he:O2 E op=false):(CL E orc op fr (O.map LX)).map (·.1)=(CL E orc op fr O).map (·.1):=by
 cases op with
 | call c=>
  simp only[CL];cases hc:c.callee<;>simp only[]
  case builtin b=>exact Ut he
  all_goals
   simp only[O2,hc]at he;simp only[he,Aq6,Arx,Zw,ArE];rfl
 |_=>exact Ut (fr:=fr) (O:=O) he
theorem TO{orc:Option Tmp->Orc}{ρ:Ac}(hρ:O.map LX=ρ.map LX)(he:Nt E ops o=false)(h:DP E orc ops o fr O=some (x,O')):DP E orc ops o fr ρ=some (x,ρ):=by
 unfold DP at h ⊢;split at h
 ·rcases KK he with hf|⟨hf,he⟩
  ·rw[hf]at h ⊢;have e:∀O,F9 true O=Jl O:=fun O=>by funext r;simp[F9]
   rw[e]at h ⊢
   have e2:∀O,CL E (orc o.dst) o.op fr O=EF E fr O o.op:=by
    intro O;rcases Dz hf with⟨t,n,l,h⟩|⟨s,d,x,h,_⟩<;>rw[h]<;>rfl
   rw[e2]at h ⊢;exact RR ρ (Dz hf) h
  rw[hf]at h ⊢;have e:∀O,F9 false O=some:=fun O=>by funext r;simp[F9]
  rw[e]at h ⊢;rw[Bk]at h ⊢;have h1:=Rl (E:=E) (orc:=orc o.dst) (fr:=fr) (O:=O) he;have h2:=Rl (E:=E) (orc:=orc o.dst) (fr:=fr) (O:=ρ) he;rw[hρ,h2,h]at h1;simp only[Arg]at h1;rw[AqE]at h1;obtain⟨⟨y,ρ'⟩,h3,h4⟩:=h1;simp only at h4;subst h4;rw[h3,LY he h3]
 ·cases h;rfl
 cases h
def K7(E:Env):Op->Bool
 |.slice t ..=>LF E t
 |_=>false
theorem Vr{orc:Option Tmp->Orc}(ha:K7 E o.op=true)(h:DP E orc ops o fr O=some (x,O')):O.map LX=O'.map LX:=by
 have hf:F6 E ops o=false:=by
  cases hf:F6 E ops o
  ·rfl
  rcases Dz hf with⟨t,n,l,h⟩|⟨s,d,x,h,_⟩<;>rw[h]at ha<;>cases ha
 unfold DP at h;rw[hf]at h;have e:∀O,F9 false O=some:=fun O=>by funext r;simp[F9]
 rw[e,Bk]at h;split at h
 ·cases ho:o.op<;>simp only[ho,K7]at ha h<;>try (cases ha;done)
  simp only[CL,EF,Hr]at h
  repeat' split at h
  all_goals try (cases h;done)
  all_goals try (cases h;rfl)
  all_goals try (
   generalize E.G _=gg at h;generalize E.tab _=tt at h;cases gg<;>cases tt<;>simp only at h<;>try (cases h;done)
   split at h
   ·split at h
    ·cases h;rfl
    cases h
   ·cases h
   done)
  cases h;rename_i hO _ _ _ _ _;rw[AtC];refine(ArJ fun i=>?_);rw[Arw];split
  ·rename_i hi;subst hi;simp only[ArM];split
   ·rw[GM,‹O[_]?=some (ABlk.box _ _)›];rfl
   rename_i hn;exact absurd (by simpa using(AqD.1 ‹O[_]?=some (ABlk.box _ _)›).1) hn
  rfl
 ·cases h;rfl
 cases h
def mkO(O:Ac):Option Nat->Ac
 |none=>O
 |some id=>D7 O id
theorem Vk(O:Ac)(a b:Nat):D7 (D7 O a) b=D7 (D7 O b) a:=by
 refine ArJ fun i=>?_
 simp only[DN];by_cases h1:i=a
 ·by_cases h2:i=b
  ·subst h1;subst h2;rfl
  simp only[AqJ h1,AqI h2]
 by_cases h2:i=b
 ·simp only[AqI h1,AqJ h2]
 simp only[AqI h1,AqI h2]
theorem Ad8(O:Ac)(a b:Option Nat):mkO (mkO O a) b=mkO (mkO O b) a:=by
 cases a<;>cases b<;>first|rfl|exact Vk _ _ _
theorem Nu{orc:Option Tmp->Orc}(ha:K7 E o.op=true)(h:DP E orc ops o fr O=some (x,O')) :∃m,O'=mkO O m/\∀ρ:Ac,ρ.map LX=O.map LX->DP E orc ops o fr ρ=some (x,mkO ρ m):=by
 have hf:F6 E ops o=false:=by
  cases hf:F6 E ops o
  ·rfl
  rcases Dz hf with⟨t,n,l,h⟩|⟨s,d,x,h,_⟩<;>rw[h]at ha<;>cases ha
 have e:∀O,F9 false O=some:=fun O=>by funext r;simp[F9]
 unfold DP at h ⊢;rw[hf]at h ⊢;simp only[e,Bk]at h ⊢;split at h
 ·cases ho:o.op<;>simp only[ho,K7]at ha h<;>try (cases ha;done)
  rename_i t y lo hi mx;simp only[CL,EF]at h ⊢;unfold LF at ha;cases ht:E.tab t with
  |none=>simp[ht]at ha
  | some d=>
   obtain⟨desc,sz,bt,z⟩:=d;rw[ht]at ha;cases desc<;>simp only at ha<;>try (cases ha;done)
   rename_i n e2;unfold Hr at h ⊢;simp only[ht]at h ⊢;generalize ev fr y=yv at h ⊢;cases yv<;>simp only at h ⊢<;>try (cases h;done)
   case glob gi=>
    refine⟨none,?_,fun ρ _=>?_⟩
    ·repeat' split at h
     all_goals try (cases h;done)
     all_goals (cases h;rfl)
    repeat' split at h
    all_goals try (cases h;done)
    all_goals (cases h;simp_all [mkO])
   rename_i id off;cases hO:O[id]? with
   |none=>simp[hO]at h
   | some b=>
    cases b with
    |buf=>simp[hO]at h
    |obj o=>simp[hO]at h
    |mp st es=>simp[hO]at h
    |lp y N1 l1 ps as1 bd=>simp[hO]at h
    |gone=>simp[hO]at h
    |tb T l=>simp[hO]at h
    | box cs ro=>
     cases hte:E.tab e2 with
     |none=>simp[hO,hte]at h
     | some de=>
      simp only[hO,hte]at h;split at h
      case isFalse=>cases h
      rename_i hc;split at h
      case h_2=>cases h
      rename_i l h1 f1 hb;cases h;refine⟨some id,?_,fun ρ hρ=>?_⟩
      ·show _=D7 O id;unfold D7;rw[hO]
      have h2:(ρ[id]?).map LX=(O[id]?).map LX:=by rw[<-GM,<-GM,hρ]
      rw[hO]at h2;cases hρ2:ρ[id]? with
      |none=>rw[hρ2]at h2;cases h2
      | some b2=>
       rw[hρ2]at h2;cases b2 with
       |buf=>cases h2
       |obj o=>cases h2
       |mp st es=>cases h2
       |lp y N1 l1 ps as1 bd=>cases h2
       |gone=>cases h2
       |tb T l=>cases h2
       |box cs2 ro2=>
        simp only[Arg,LX,AqG,ABlk.box.injEq,AtY]at h2;subst h2;simp only[hρ2,hte,AqJ hc,hb];show _=some (_,D7 ρ id);unfold D7;rw[hρ2]
 ·cases h;exact⟨none,rfl,fun ρ _=>rfl⟩
 cases h
def M1:ABlk->ABlk
 |.box cs ro=>.box cs ro
 |.buf k els ro=>.buf k els ro
 |.obj o=>.obj o
 |.tb T l=>.tb T l
 |.mp st _=>.mp st fun _=>none
 |.lp y N l ps a b=>.lp y N l ps a b
 |.gone=>.gone
def Qh:Op->Bool
 |.lookup ..=>true
 |_=>false
theorem HW:(O.map M1)[id]?=(O[id]?).map M1:=by simp
theorem Aam:loadA E (O.map M1) d a=loadA E O d a:=by
 cases a<;>simp only[loadA,HW]
 case ref id off=>cases O[id]? with
  |none=>rfl
  |some b=>cases b<;>rfl
 case eref id tot i j=>cases O[id]? with
  |none=>rfl
  |some b=>cases b<;>rfl
theorem UA:X2 (O.map M1) id tot=X2 O id tot:=by
 simp only[X2,HW];cases O[id]? with
 |none=>rfl
 |some b=>cases b<;>rfl
theorem Acl:Hb (O.map M1) x=Hb O x:=by
 cases x<;>simp only[Hb,HW]
 case bs full id tot off len=>cases O[id]? with
  |none=>rfl
  |some b=>cases b<;>rfl
theorem Aby:XE E (O.map M1) t x=XE E O t x:=by
 unfold XE;cases E.tab t with
 |none=>rfl
 | some d=>
  obtain⟨desc,sz,bt,z⟩:=d;cases x with
  |bs full id tot off len=>
   cases desc<;>try rfl
   simp only[HW];cases O[id]? with
   |none=>rfl
   |some b=>cases b<;>rfl
  |_=>cases desc<;>rfl
theorem Pq:Bw E (O.map M1) s x f=Bw E O s x f:=by
 unfold Bw;simp only[UA]
theorem Qd{i:AV}:Ao E (O.map M1) t x i=Ao E O t x i:=by
 unfold Ao;cases E.tab t with
 |none=>rfl
 | some d=>
  obtain⟨desc,sz,bt,z⟩:=d;cases desc<;>dsimp only<;>try (first|rfl|(simp only[UA];done))
  rename_i e;generalize E.tab e=te;cases te with
  |none=>cases x<;>rfl
  |some de=>
   cases x<;>try rfl
   rename_i full id tot off len;dsimp only;simp only[HW];cases O[id]? with
   |none=>rfl
   |some b=>cases b<;>cases idx i len<;>rfl
theorem VV(he:LF E t=false):(Hr E (O.map M1) t x lo hi mx).map (·.1)=(Hr E O t x lo hi mx).map (·.1):=by
 unfold Hr;unfold LF at he;cases ht:E.tab t with
 |none=>rfl
 | some d=>
  rw[ht]at he;obtain⟨desc,sz,bt,z⟩:=d;cases desc<;>dsimp only at he ⊢<;>try (first|rfl|(cases he;done))
  ·cases x<;>dsimp only<;>try rfl
   split<;>try rfl
   split<;>rfl
  rename_i e;cases x<;>dsimp only<;>try rfl
  ·split<;>try rfl
   split<;>rfl
  rename_i full id tot off len;simp only[HW];cases O[id]? with
  |none=>rfl
  | some b=>
   cases b with
   |box=>rfl
   |obj o=>rfl
   |mp st es=>rfl
   |lp y N1 l1 ps as1 bd=>rfl
   |gone=>rfl
   |tb T l=>rfl
   | buf k els ro=>
    simp only[Arg,M1];generalize E.tab e=te;cases te with
    |none=>rfl
    |some de=>
     dsimp only;split<;>try rfl
     split<;>rfl
theorem SI{d:TypeId}(he:El E d=false):(CJ E (O.map M1) s d x).map (·.1)=(CJ E O s d x).map (·.1):=by
 unfold CJ;unfold El at he;cases hs:E.tab s with
 |none=>rfl
 | some sd=>
  cases hd:E.tab d with
  |none=>rfl
  | some dd=>
   simp only[hd]at he ⊢;cases hdd:dd.desc<;>simp only[hdd]at he ⊢<;>try (first|rfl|(cases he;done))
   ·cases x<;>first|rfl|(cases sd.desc<;>rfl)
   cases x<;>cases sd.desc<;>try rfl
   all_goals
    simp only[Acl];split<;>try rfl
    split<;>try rfl
    split<;>try rfl
    split<;>rfl
theorem Qa:B7 (O.map M1) x=B7 O x:=by
 cases x<;>simp only[B7,HW]
 case bs full id tot off len=>cases O[id]? with
  |none=>rfl
  |some b=>cases b<;>rfl
theorem Aiy:fz (O.map M1) x=fz O x:=by
 cases x<;>simp only[fz,Qa];rename_i cs;congr 1;have:B7 (O.map M1)=B7 O:=funext fun x=>Qa
 rw[this]
theorem Z3{orc:Orc}:JC orc fr (O.map M1) c=JC orc fr O c:=by
 unfold JC;have:fz (O.map M1)=fz O:=funext fun x=>Aiy
 rw[this]
theorem Vb(hl:Qh op=false)(he:O2 E op=false):(EF E fr (O.map M1) op).map (·.1)=(EF E fr O op).map (·.1):=by
 cases ht:Ho E op with
 |false=>
  rw[Hq (O:=O) ht];cases EF E fr O op<;>rfl
 | true=>
  cases op<;>simp only[Ho,O2]at ht he<;>try (cases ht;done)
  all_goals try (cases he;done)
  case load t y=>
   simp only[EF,Aam];split<;>simp only[ArE]<;>rfl
  case convert s d y=>exact SI he
  case slice t y lo hi mx=>exact VV he
  case lookup t y z ok=>cases hl
  case fieldAddr s y f=>
   simp only[EF,Pq,ArE];rfl
  case indexAddr t y i=>
   simp only[EF,Qd,ArE];rfl
  case call c=>
   simp only[EF];cases hc:c.callee<;>simp only[hc]at ht he ⊢<;>try rfl
   rename_i b;cases b<;>simp only at ht he<;>try (first|(cases ht;done)|(cases he;done))
   unfold Bg;split<;>first|rfl|(simp only[Aby,ArE];rfl)|(exfalso;simp_all;done)
theorem QW{orc:Orc}(hl:Qh op=false)(he:O2 E op=false):(CL E orc op fr (O.map M1)).map (·.1)=(CL E orc op fr O).map (·.1):=by
 cases op with
 | call c=>
  simp only[CL];cases hc:c.callee<;>simp only[]
  case builtin b=>exact Vb hl he
  all_goals
   simp only[O2,hc]at he;simp only[he,Aq6,Arx,Z3,ArE];rfl
 |_=>exact Vb (fr:=fr) (O:=O) hl he
theorem Re{orc:Option Tmp->Orc}{ρ:Ac}(hl:Qh o.op=false)(hρ:O.map M1=ρ.map M1)(he:Nt E ops o=false)(h:DP E orc ops o fr O=some (x,O')):DP E orc ops o fr ρ=some (x,ρ):=by
 unfold DP at h ⊢;split at h
 ·rcases KK he with hf|⟨hf,he⟩
  ·rw[hf]at h ⊢;have e:∀O,F9 true O=Jl O:=fun O=>by funext r;simp[F9]
   rw[e]at h ⊢
   have e2:∀O,CL E (orc o.dst) o.op fr O=EF E fr O o.op:=by
    intro O;rcases Dz hf with⟨t,n,l,h⟩|⟨s,d,x,h,_⟩<;>rw[h]<;>rfl
   rw[e2]at h ⊢;exact RR ρ (Dz hf) h
  rw[hf]at h ⊢;have e:∀O,F9 false O=some:=fun O=>by funext r;simp[F9]
  rw[e]at h ⊢;rw[Bk]at h ⊢;have h1:=QW (E:=E) (orc:=orc o.dst) (fr:=fr) (O:=O) hl he;have h2:=QW (E:=E) (orc:=orc o.dst) (fr:=fr) (O:=ρ) hl he;rw[hρ,h2,h]at h1;simp only[Arg]at h1;rw[AqE]at h1;obtain⟨⟨y,ρ'⟩,h3,h4⟩:=h1;simp only at h4;subst h4;rw[h3,LY he h3]
 ·cases h;rfl
 cases h
def Ajq(E:Env):Op->Option Int
 |.insert t _ (.const (.int .i64 n)) _=>if(E.mp t).isSome=true then some n else none
 |_=>none
def AdI(n:Int)(x:AV):ABlk->ABlk
 |.mp st f=>.mp st (KU f (.int n) (some x))
 |b=>b
def inO(n:Int)(O:Ac):Option (Nat×AV)->Ac
 |none=>O
 |some (id,x)=>match O[id]? with
  |some b=>O.set id (AdI n x b)
  |none=>O
theorem Abx(n:Int)(O:Ac)(id i:Nat)(x:AV):(inO n O (some (id,x)))[i]?=if i=id then(O[i]?).map (AdI n x)else O[i]?:=by
 cases h:O[id]? with
 |none=>
  simp only[inO,h];by_cases e:i=id
  ·subst e;rw[AqJ rfl,h];rfl
  rw[AqI e]
 |some b=>
  simp only[inO,h];by_cases e:i=id
  ·subst e;rw[AqJ rfl,AW h,h];rfl
  rw[AqI e,D6 e]
theorem Adr(n:Int)(x:AV)(b:ABlk):M1 (AdI n x b)=M1 b:=by cases b<;>rfl
theorem OK(n:Int)(O:Ac)(m:Option (Nat×AV)):(inO n O m).map M1=O.map M1:=by
 cases m with
 |none=>rfl
 | some p=>
  obtain⟨id,x⟩:=p;refine ArJ fun i=>?_
  rw[HW,HW,Abx];split
  ·cases O[i]? with
   |none=>rfl
   |some b=>simp[Adr]
  rfl
theorem Ac7{n1 n2:Int}(h:n1≠n2)(x1 x2:AV)(b:ABlk):AdI n2 x2 (AdI n1 x1 b)=AdI n1 x1 (AdI n2 x2 b):=by
 cases b<;>try rfl
 rename_i st f;simp only[AdI];congr 1;funext k;simp only[KU];by_cases h1:k=.int n1
 ·have h2:k≠.int n2:=fun e=>h (by rw[h1]at e;cases e;rfl)
  simp[h1,h]
 by_cases h2:k=.int n2
 ·simp[h2,Ne.symm h]
 simp[h1,h2]
theorem Aft{n1 n2:Int}(h:n1≠n2)(O:Ac)(a b:Option (Nat×AV)):inO n2 (inO n1 O a) b=inO n1 (inO n2 O b) a:=by
 cases a with
 |none=>rfl
 | some p=>
  cases b with
  |none=>rfl
  | some q=>
   obtain⟨id,x⟩:=p;obtain⟨id2,y⟩:=q;refine ArJ fun i=>?_
   simp only[Abx];by_cases h1:i=id
   ·by_cases h2:i=id2
    ·simp only[AqJ h1,AqJ h2,ArE];congr 1;funext b;exact Ac7 h x y b
    simp only[AqJ h1,AqI h2]
   by_cases h2:i=id2
   ·simp only[AqI h1,AqJ h2]
   simp only[AqI h1,AqI h2]
theorem OC{orc:Option Tmp->Orc}{n:Int}(ha:Ajq E o.op=some n)(h:DP E orc ops o fr O=some (x,O')) :∃m,O'=inO n O m/\∀ρ:Ac,ρ.map M1=O.map M1->DP E orc ops o fr ρ=some (x,inO n ρ m):=by
 have hf:F6 E ops o=false:=by
  cases hf:F6 E ops o
  ·rfl
  rcases Dz hf with⟨t,n,l,h⟩|⟨s,d,x,h,_⟩<;>rw[h]at ha<;>cases ha
 have e:∀O,F9 false O=some:=fun O=>by funext r;simp[F9]
 unfold DP at h ⊢;rw[hf]at h ⊢;simp only[e,Bk]at h ⊢;split at h
 ·cases ho:o.op<;>simp only[ho,Ajq]at ha h<;>try (cases ha;done)
  rename_i t m k x1;split at ha
  case h_2=>cases ha
  rename_i t' m' n' x' he;cases he;split at ha
  case isFalse=>cases ha
  rename_i hmp;cases ha;simp only[CL,EF,Pg,hmp,Aro]at h ⊢;have hk:ev fr (.const (.int .i64 n))=.int .i64 n:=rfl;rw[hk]at h ⊢;unfold Nd at h ⊢;cases hT:HZ E t with
  |none=>simp[hT]at h
  | some kd=>
   cases hm:ev fr m<;>simp only[hT,hm,AtA]at h ⊢<;>try (cases h;done)
   rename_i id;cases hO:O[id]? with
   |none=>simp[hO]at h
   | some b=>
    cases hk2:AaF kd (.int .i64 n)with
    |none=>simp[hO,hk2]at h
    | some kk=>
     have hkk:kk=.int n:=by
      unfold AaF at hk2;split at hk2
      ·rename_i h1;cases h1
      ·rename_i h1;cases h1;cases hk2;rfl
      cases hk2
     subst hkk;simp only[hO,hk2]at h ⊢;cases b<;>simp only[AtA]at h<;>try (cases h;done)
     rename_i st f;split at h
     case isFalse=>cases h
     rename_i hc;cases h;refine⟨some (id,ev fr x1),by simp only[inO,hO,AdI],fun ρ hρ=>?_⟩;have h2:(ρ[id]?).map M1=(O[id]?).map M1:=by rw[<-HW,<-HW,hρ]
     rw[hO]at h2;cases hρ2:ρ[id]? with
     |none=>rw[hρ2]at h2;cases h2
     |some b2=>
      rw[hρ2]at h2;cases b2<;>simp only[Arg,M1,AqG,ABlk.mp.injEq,AtY,reduceCtorEq]at h2;subst h2;simp only[AqJ hc,Arg,inO,hρ2,AdI]
 ·cases h;exact⟨none,rfl,fun ρ _=>rfl⟩
 cases h
def mkB(E:Env):Op->Bool
 |.makeMap t none=>(E.mp t).isSome
 |_=>false
def Wj:Op->Bool
 |.load ..=>true
 |_=>false
theorem Aje{orc:Option Tmp->Orc}(ha:mkB E o.op=true)(h:DP E orc ops o fr O=some (x,O')):O'=O\/∃st f,O'=O++[.mp st f]:=by
 have hf:F6 E ops o=false:=by
  cases hf:F6 E ops o
  ·rfl
  rcases Dz hf with⟨t,n,l,h⟩|⟨s,d,x,h,_⟩<;>rw[h]at ha<;>cases ha
 have e:∀O,F9 false O=some:=fun O=>by funext r;simp[F9]
 unfold DP at h;rw[hf]at h;simp only[e,Bk]at h;split at h
 ·cases ho:o.op<;>simp only[ho,mkB]at ha h<;>try (cases ha;done)
  rename_i t r;cases r with
  |some _=>cases ha
  |none=>
   simp only at ha;simp only[CL,EF,ha,Aro]at h;cases h;exact .inr ⟨_,_,rfl⟩
 ·cases h;exact .inl rfl
 cases h
theorem Ad6{st:Bool}{f:Ky->Option AV}(h:loadA E (O++[.mp st f]) d a=some x):loadA E O d a=some x:=by
 have hne:∀(id:Nat) b,(O++[ABlk.mp st f])[id]?=some b->(∀s g,b≠.mp s g)->O[id]?=some b:=by
  intro id b hb hn;by_cases hlt:id<O.length
  ·rwa[AqN hlt]at hb
  rw[AqL (by omega)]at hb;cases hk:id-O.length with
  |zero=>rw[hk]at hb;cases hb;exact(hn _ _ rfl).elim
  |succ k=>rw[hk]at hb;simp at hb
 unfold loadA at h ⊢;cases a<;>simp only at h ⊢<;>try exact h
 case ref id off=>
  split at h
  ·rename_i cs ro hb;rw[hne id _ hb (fun _ _ e=>by cases e)];exact h
  cases h
 case eref id tot i j=>
  split at h
  ·rename_i k els ro hb;rw[hne id _ hb (fun _ _ e=>by cases e)];exact h
  cases h
theorem Uf{orc:Option Tmp->Orc}{st:Bool}{f:Ky->Option AV}(ha:Wj o.op=true)(h:DP E orc ops o fr (O++[.mp st f])=some (x,O')):O'=O++[.mp st f]/\DP E orc ops o fr O=some (x,O):=by
 have hf:F6 E ops o=false:=by
  cases hf:F6 E ops o
  ·rfl
  rcases Dz hf with⟨t,n,l,h⟩|⟨s,d,x,h,_⟩<;>rw[h]at ha<;>cases ha
 have e:∀O,F9 false O=some:=fun O=>by funext r;simp[F9]
 unfold DP at h ⊢;rw[hf]at h ⊢;simp only[e,Bk]at h ⊢;split at h
 ·cases ho:o.op<;>simp only[ho,Wj]at ha h<;>try (cases ha;done)
  simp only[CL,EF]at h ⊢;split at h
  ·rename_i d hd;rw[AqE]at h;obtain⟨v,hv,h⟩:=h;cases h;simp only[hd];rw[Ad6 hv]
   first|exact⟨rfl,rfl⟩|simp
  cases h
 ·cases h;exact⟨rfl,rfl⟩
 cases h
def isKI:Operand->Bool
 |.const (.int _ _)=>true
 |_=>false
def Xi(E:Env):Op->Bool
 |.call c=>(match c.callee with
  |.value (.func _)=>true
  |_=>false)&&(!QT E c&&c.args.toList.all isKI)
 |_=>false
theorem Wx{fr:List AV}(O:Ac):∀{l:List Operand},l.all isKI=true->(l.map (ev fr)).mapM (fz O)=some (l.map (ev fr))
 |[],_=>rfl
 | x::l,h=>by
  simp only[List.all_cons,AqZ]at h
  have hx:fz O (ev fr x)=some (ev fr x):=by
   cases x with
   |const v=>cases v<;>first|rfl|cases h.1
   |_=>cases h.1
  rw[Arc,Asc,hx,Wx O h.2];rfl
theorem Z5{orc:Option Tmp->Orc}(ha:Xi E o.op=true)(h:DP E orc ops o fr O=some (x,O')):O'=O/\∀ρ,DP E orc ops o fr ρ=some (x,ρ):=by
 have hf:F6 E ops o=false:=by
  cases hf:F6 E ops o
  ·rfl
  rcases Dz hf with⟨t,n,l,h⟩|⟨s,d,x,h,_⟩<;>rw[h]at ha<;>cases ha
 have e:∀O,F9 false O=some:=fun O=>by funext r;simp[F9]
 unfold DP at h ⊢;rw[hf]at h ⊢;simp only[e,Bk]at h ⊢;split at h
 ·cases ho:o.op<;>simp only[ho,Xi]at ha h<;>try (cases ha;done)
  rename_i c;simp only[AqZ,Ar9]at ha;obtain⟨hc,hown,hall⟩:=ha;cases hcal:c.callee with
  | value v=>
   have key:∀ρ,JC (orc o.dst) fr ρ c=JC (orc o.dst) fr O c:=by
    intro ρ;unfold JC;rw[Wx ρ hall,Wx O hall]
   simp only[CL,hcal,hown,Aq6,Arx]at h ⊢;rw[AqE]at h;obtain⟨r,hr,h⟩:=h;cases h;refine⟨rfl,fun ρ=>?_⟩;rw[key ρ,hr];rfl
  |_=>rw[hcal]at hc;cases hc
 ·cases h;exact⟨rfl,fun ρ=>rfl⟩
 cases h
def AkS:Option Int->Option Int->Bool
 |some a,some b=>a != b
 |_,_=>false
def AaR(E:Env)(ops:Array Oper)(x y:Oper):Bool :=
 x.apart ops y&&((!(Nt E ops x&&Ho E y.op)&&!(Nt E ops y&&Ho E x.op))||(S8 y.op&&!Nt E ops x)||(K7 E y.op&&!Nt E ops x)||(K7 E x.op&&!Nt E ops y)||(K7 E x.op&&K7 E y.op))
theorem TX(h:Ho E op=false):O2 E op=false:=by
 cases op<;>simp only[Ho,O2]at h ⊢<;>try (first|assumption|(cases h;done))
 case call c=>
  cases hc:c.callee<;>rw[hc]at h<;>try (cases h;done)
  rename_i b;cases b<;>first|rfl|(cases h;done)
theorem Ti(h:Ho E o.op=false):Nt E ops o=false:=by
 unfold Nt;rw[TX h];rfl
theorem V7{orc:Option Tmp->Orc}{x y:Oper}{st1 st2:St}(hc:AaR E ops x y=true)(h1:Cc E orc ops x st=some st1)(h2:Cc E orc ops y st1=some st2) :∃st3,Cc E orc ops y st=some st3/\Cc E orc ops x st3=some st2:=by
 simp only[AaR,AqZ,Art,Ar9,Asp]at hc;obtain⟨hap,hcase⟩:=hc;obtain⟨a1,a2,a3⟩:=Oper.apart_spec hap;unfold Cc at h1 h2 ⊢;rw[AqE]at h1 h2;obtain⟨⟨v,σ1⟩,hv,rfl⟩:=h1;obtain⟨⟨u,σ2⟩,hu,rfl⟩:=h2;simp only at hu ⊢;rw[Be a1]at hu
 have fin:∀σ3,DP E orc ops y st.fr st.O=some (u,σ3)->DP E orc ops x st.fr σ3=some (v,σ2) ->
   ∃st3,(DP E orc ops y st.fr st.O).map (fun r=>(⟨AC st.fr y.dst r.1,r.2⟩:St))=some st3/\(DP E orc ops x st3.fr st3.O).map (fun r=>(⟨AC st3.fr x.dst r.1,r.2⟩:St))=some ⟨AC (AC st.fr x.dst v) y.dst u,σ2⟩:=by
  intro σ3 hy hx;refine⟨⟨AC st.fr y.dst u,σ3⟩,by rw[hy];rfl,?_⟩;simp only;rw[Be a3,hx];simp only[Arg,Dl st.fr v u a2]
 rcases hcase with(((⟨e1,e2⟩|⟨hal,ex⟩)|⟨hal,ex⟩)|⟨hal,ey⟩)|⟨hax,hay⟩
 case inr=>
  obtain⟨m,rfl,_⟩:=Nu hax hv
  have hun:∀(O:Ac) (m:Option Nat),(mkO O m).map LX=O.map LX:=by
   intro O m;cases m with
   |none=>rfl
   | some id=>
    refine ArJ fun i=>?_
    rw[GM,GM];show((D7 O id)[i]?).map LX=_;rw[DN];split
    ·cases O[i]? with
     |none=>rfl
     |some b=>cases b<;>rfl
    rfl
  obtain⟨m2,rfl,h2⟩:=Nu hay hu;obtain⟨m1,e1,h1⟩:=Nu hax hv;refine fin (mkO st.O m2) (h2 st.O (hun _ _).symm) ?_;rw[h1 _ (hun _ _),e1,Ad8]
 case inl.inl.inr=>
  obtain rfl:=CV ex hv;exact fin _ hu (TO (Vr hal hu) ex hv)
 case inl.inr=>
  obtain rfl:=CV ey hu;exact fin _ (TO (Vr hal hv).symm ey hu) hv
 case inl.inl.inl.inr=>
  obtain rfl:=CV ex hv;obtain⟨bs,rfl⟩:=YH hal hu;exact fin _ hu (Acp bs ex hv)
 rcases e1 with ex|ty
 ·obtain rfl:=CV ex hv;rcases e2 with ey|tx
  ·obtain rfl:=CV ey hu;exact fin _ hu hv
  refine fin _ hu ?_;rw[NU (O:=st.O) tx,hv];rfl
 have ey:Nt E ops y=false:=Ti ty;obtain rfl:=CV ey hu;rw[NU (O:=st.O) ty,AqE]at hu;obtain⟨⟨u',O'⟩,hy,he⟩:=hu;simp only[AqQ]at he;obtain⟨rfl,_⟩:=he;obtain rfl:=CV ey hy;exact fin _ hy hv
def Ks(E:Env)(ops:Array Oper)(x y:Oper):Bool :=
 AaR E ops x y||(x.apart ops y&&(((Ajq E x.op).isSome&&!Nt E ops y&&!Qh y.op)||((Ajq E y.op).isSome&&!Nt E ops x&&!Qh x.op)||AkS (Ajq E x.op) (Ajq E y.op)||(mkB E x.op&&Wj y.op)||Xi E y.op))
theorem Js{orc:Option Tmp->Orc}{x y:Oper}{st1 st2:St}(hc:Ks E ops x y=true)(h1:Cc E orc ops x st=some st1)(h2:Cc E orc ops y st1=some st2) :∃st3,Cc E orc ops y st=some st3/\Cc E orc ops x st3=some st2:=by
 unfold Ks at hc;rw[Art]at hc;rcases hc with hc|hc
 ·exact V7 hc h1 h2
 simp only[AqZ,Art,Ar9]at hc;obtain⟨hap,hcase⟩:=hc;obtain⟨a1,a2,a3⟩:=Oper.apart_spec hap;unfold Cc at h1 h2 ⊢;rw[AqE]at h1 h2;obtain⟨⟨v,σ1⟩,hv,rfl⟩:=h1;obtain⟨⟨u,σ2⟩,hu,rfl⟩:=h2;simp only at hu ⊢;rw[Be a1]at hu
 have fin:∀σ3,DP E orc ops y st.fr st.O=some (u,σ3)->DP E orc ops x st.fr σ3=some (v,σ2) ->
   ∃st3,(DP E orc ops y st.fr st.O).map (fun r=>(⟨AC st.fr y.dst r.1,r.2⟩:St))=some st3/\(DP E orc ops x st3.fr st3.O).map (fun r=>(⟨AC st3.fr x.dst r.1,r.2⟩:St))=some ⟨AC (AC st.fr x.dst v) y.dst u,σ2⟩:=by
  intro σ3 hy hx;refine⟨⟨AC st.fr y.dst u,σ3⟩,by rw[hy];rfl,?_⟩;simp only;rw[Be a3,hx];simp only[Arg,Dl st.fr v u a2]
 rcases hcase with(((⟨⟨hax,ey⟩,hl⟩|⟨⟨hay,ex⟩,hl⟩)|hne)|⟨hmk,hld⟩)|hck
 ·obtain⟨n,hn⟩:=Asw.1 hax;obtain rfl:=CV ey hu;obtain⟨m,rfl,_⟩:=OC hn hv;exact fin _ (Re hl (OK _ _ _) ey hu) hv
 ·obtain⟨n,hn⟩:=Asw.1 hay;obtain rfl:=CV ex hv;obtain⟨m,rfl,_⟩:=OC hn hu;exact fin _ hu (Re hl (OK _ _ _).symm ex hv)
 ·unfold AkS at hne;split at hne
  case h_2=>cases hne
  rename_i n1 n2 hn1 hn2;have hne:n1≠n2:=by simpa using hne
  obtain⟨m2,rfl,h2⟩:=OC hn2 hu;obtain⟨m1,e1,h1⟩:=OC hn1 hv;subst e1;refine fin (inO n2 st.O m2) (h2 st.O (OK _ _ _).symm) ?_;rw[h1 _ (OK _ _ _),Aft hne]
 ·rcases Aje hmk hv with rfl|⟨st',f,rfl⟩
  ·have ey:Nt E ops y=false:=by
    unfold Nt;cases ho:y.op<;>rw[ho]at hld<;>first|rfl|cases hld
   obtain rfl:=CV ey hu;exact fin _ hu hv
  obtain⟨rfl,hy⟩:=Uf hld hu;exact fin _ hy hv
 obtain⟨rfl,hall⟩:=Z5 hck hu;exact fin _ (hall _) hv
def Qm(B:Base)(orc:Orc):Prop:=(∀f args r,orc.fz f args=some r->Con B f args [] (fun r' O'=>r'=r/\O'=[])) /\
 ∀f args O r O',orc.own f args O=some (r,O')->∀F:Addr->Prop,Vx (B.env F) f args O r O'
theorem AgM{orc:Orc}(hO:Qm E.toBase orc)(hop:o.op=.call c)(h:AgO orc st.fr st.O c=some r) {a:Act} {w:World} {g:Gh} (hr:Rel E w g st a) {next:Act->World->Prop} {Q:Exit->Act->World->Prop} (hk:∀a' w' g',Rel E w' g' ⟨AC st.fr o.dst r.1,r.2⟩ a'->Evo E 0 w g w' g'->GLe g g'->next a' w'):o.wp E.P a w next Q:=by
 unfold AgO at h;split at h
 case h_2=>cases h
 rename_i f hc;split at h
 case h_4=>cases h
 case h_3=>
  rename_i fid cs _ hnt hf;exact OV hop hc (fun ys e=>hnt ys e) hf (P2 (hO.2 _ _ _ r.1 r.2 h E.F)) hr hk
 case h_2=>
  rename_i fid xs hf;exact M6 hop hc hf (P2 (hO.2 _ _ _ r.1 r.2 h E.F)) hr hk
 rename_i fid hf;exact WI hop hc hf (P2 (hO.2 _ _ _ r.1 r.2 h E.F)) hr hk
theorem Af2(hE:E.Ok){orc:Orc}(hO:Qm E.toBase orc)(h:CL E orc o.op st.fr st.O=some r) {a:Act} {w:World} {g:Gh} (hr:Rel E w g st a) {next:Act->World->Prop} {Q:Exit->Act->World->Prop} (hk:∀a' w' g',Rel E w' g' ⟨AC st.fr o.dst r.1,r.2⟩ a'->Evo E 0 w g w' g'->GLe g g'->next a' w'):o.wp E.P a w next Q:=by
 have plain:EF E st.fr st.O o.op=some r->o.wp E.P a w next Q:=by
  intro h;obtain⟨v,w',g',h1,h2,h3,h4,h5⟩:=KR (x:=r.1) (O':=r.2) hE hr h;unfold Oper.wp;exact Pt h1 (hk _ w' g' (Fw (IE hr h2 h3 h4) o.dst h5) h4 h3)
 cases hop:o.op with
 | call c=>
  simp only[hop,CL]at h;cases hc:c.callee<;>simp only[hc]at h
  case builtin b=>exact plain (by rw[hop];exact h)
  all_goals (split at h;· exact AgM hO hop h hr hk)
  all_goals try (simp[JC,hc]at h;done)
  rename_i f _;rw[AqE]at h;obtain⟨r1,h,rfl⟩:=h;unfold JC at h;simp only[hc]at h;split at h
  case h_2=>cases h
  rename_i fid hf;split at h
  case h_2=>cases h
  rename_i args ha;split at h
  case h_2=>cases h
  rename_i r2 ho;split at h
  case isFalse=>cases h
  rename_i hs;cases h;rcases hs with hs|hs
  ·exact LC hop hc hf ha hs ((hO.1 _ _ _ ho).mono fun _ _ h=>h.1) hr hk
  refine IK hop hc hf ha (hO.1 _ _ _ ho) hr ?_;rw[hs];exact hk
 |_=>exact plain (by rw[hop];simp only[hop]at h;exact h)
theorem AjJ(hE:E.Ok)(hf:(∃t n l,o.op=.buildSlice t n l)\/(∃s d x,o.op=.convert s d x/\El E d=true)) (h:(EF E st.fr st.O o.op).bind (Jl st.O)=some r) {a:Act} {w:World} {g:Gh} (hr:Rel E w g st a) {next:Act->World->Prop} {Q:Exit->Act->World->Prop} (hk:∀a' w' g',Rel E w' g' ⟨AC st.fr o.dst r.1,r.2⟩ a'->Evo E 0 w g w' g'->GLe g g'->next a' w'):o.wp E.P a w next Q:=by
 rw[AqK]at h;obtain⟨⟨x,O'⟩,h1,h2⟩:=h;obtain⟨y,σ2⟩:=r
 have hp:∃bs,O'=st.O++bs:=by
  rcases hf with⟨t,n,l,e⟩|⟨s,d,z,e,_⟩
  ·rw[e]at h1;simp only[EF,Ey]at h1
   repeat' split at h1
   all_goals try (cases h1;done)
   cases h1;exact⟨_,rfl⟩
  rw[e]at h1;simp only[EF,CJ]at h1
  repeat' split at h1
  all_goals try (cases h1;done)
  all_goals (cases h1;first|exact⟨_,rfl⟩|exact⟨[],by simp⟩)
 obtain⟨v,w',g',k1,k2,k3,k4,k5⟩:=KR (x:=x) (O':=O') hE hr h1;obtain⟨rfl,m2,m3,m4,m5⟩:=Wy hr.mem hp h2 k2 k3 k4 k5;unfold Oper.wp;exact Pt k1 (hk _ w' _ (Fw (IE hr m2 m3 m4) o.dst m5) m4 m3)
theorem NI(hE:E.Ok){orc:Option Tmp->Orc}(hO:∀d,Qm E.toBase (orc d))(h:(CL E (orc o.dst) o.op st.fr st.O).bind (F9 (F6 E ops o) st.O)=some r) {a:Act} {w:World} {g:Gh} (hr:Rel E w g st a) {next:Act->World->Prop} {Q:Exit->Act->World->Prop} (hk:∀a' w' g',Rel E w' g' ⟨AC st.fr o.dst r.1,r.2⟩ a'->Evo E 0 w g w' g'->GLe g g'->next a' w'):o.wp E.P a w next Q:=by
 cases hf:F6 E ops o with
 | true=>
  have e:∀O,F9 true O=Jl O:=fun O=>by funext r;simp[F9]
  have e2:CL E (orc o.dst) o.op st.fr st.O=EF E st.fr st.O o.op:=by
   rcases Dz hf with⟨t,n,l,h⟩|⟨s,d,x,h,_⟩<;>rw[h]<;>rfl
  rw[hf,e,e2]at h;exact AjJ hE (Dz hf) h hr hk
 |false=>
  have e:∀O,F9 false O=some:=fun O=>by funext r;simp[F9]
  rw[hf,e,Bk]at h;exact Af2 hE (hO _) h hr hk
theorem OH(hE:E.Ok){orc:Option Tmp->Orc}(hO:∀d,Qm E.toBase (orc d))(hi:ops[i]?=some o)(h:Cc E orc ops o st=some st') {a:Act} {w:World} {g:Gh} (hr:Rel E w g st a) {next:Act->World->Prop} {Q:Exit->Act->World->Prop} (hk:∀a' w' g',Rel E w' g' st' a'->Evo E 0 w g w' g'->GLe g g'->next a' w'):wpOp E.P ops Q i next a w:=by
 unfold Cc at h;rw[AqE]at h;obtain⟨⟨x,O'⟩,hv,rfl⟩:=h;unfold wpOp;simp only[hi];unfold DP Ig at hv;cases hg:o.guard with
 |none=>
  simp only[hg]at hv;simp only[Region.wanted,hg,Aro];exact .inl (NI hE hO hv hr hk)
 | some p=>
  obtain⟨j,want⟩:=p;simp only[hg]at hv;cases hy:Iz ops st.fr j with
  |none=>simp[hy]at hv
  | some b=>
   simp only[Region.wanted,hg,He hr hy];simp only[hy,Arg]at hv;by_cases e:b=some want
   ·rw[AqJ (by simp[e])];rw[show(b==some want)=true by simp[e]]at hv;exact .inl (NI hE hO hv hr hk)
   rw[AqI (by simp[e])];rw[show(b==some want)=false by simp[e]]at hv;cases hv;exact hk _ w g (Fw hr o.dst (Kq _ _ _)) (Evo.refl _ _ _ _) (GLe.refl _)
def FA(ops:Array Oper)(i:Nat):List Nat:=match ops[i]? with
 |some o=>(o.after.toList.filter (Region.binds .any)).map (·.on)
 |none=>[]
def F3(ops:Array Oper)(T:List (List Nat)):Bool :=
 (List.range ops.size).all fun i=>(FA ops i).all (·<i)&&(T.getD i []).all fun j=>(FA ops i).contains j||(FA ops i).any fun k=>(T.getD k []).contains j
def Il(E:Env)(ops:Array Oper)(T:List (List Nat)):Bool :=
 (List.range ops.size).all fun i=>(List.range i).all fun j=>(T.getD i []).contains j||(match ops[j]?,ops[i]? with
  |some x,some y=>Ks E ops x y
  |_,_=>false)
theorem It{orc:Option Tmp->Orc}{ops:Array Oper}{i:Nat}{y:Oper}(hi:ops[i]?=some y){l2:List Nat}{st':St}:∀(l1:List Nat) (st:St),(∀j∈l1,∀x,ops[j]?=some x->Ks E ops x y=true)->Bh E orc ops (l1++i::l2) st=some st' ->∃st1,Cc E orc ops y st=some st1/\Bh E orc ops (l1++l2) st1=some st'
 |[],st,_,h=>by
  simp only[Aru,Bh,hi]at h;rw[AqK]at h;exact h
 | j::l1,st,hc,h=>by
  simp only[Aq7,Bh]at h;cases hj:ops[j]? with
  |none=>simp[hj]at h
  |some x=>
   simp only[hj]at h;rw[AqK]at h;obtain⟨s1,h1,h⟩:=h;obtain⟨s2,h2,h⟩:=It hi l1 s1 (fun k hk=>hc k (Arn _ hk)) h;obtain⟨s3,h3,h4⟩:=Js (hc j Aq4 x hj) h1 h2;refine⟨s3,h3,?_⟩;simp only[Aq7,Bh,hj,h4,ArL];exact h
theorem A6{p:Nat->Bool}(h:(List.range n).all p=true)(hi:i<n):p i=true :=
 AqW.1 h i (ArD.2 hi)
theorem Fg(h:F3 ops T=true)(hi:i<ops.size){d:Nat}(hd:d∈FA ops i):d<i:=by
 have:=A6 h hi;simp only[AqZ,AqW,Aq1]at this;exact this.1 d hd
theorem HL(h:F3 ops T=true){rem:List Nat} (hdown:∀k,k<ops.size->k ∉ rem->∀d∈FA ops k,d ∉ rem):∀(i:Nat),i<ops.size->(∀d∈FA ops i,d ∉ rem)->∀j∈T.getD i [],j ∉ rem:=by
 intro i
 induction i using Nat.strongRecOn with
 | _ i ih=>
  intro hi hd j hj;have hh:=A6 h hi;simp only[AqZ,AqW,Art,AqX,Atv,Aq1]at hh;rcases hh.2 j hj with hj|⟨k,hk,hkj⟩
  ·exact hd j hj
  have hki:=hh.1 k hk;have hks:=Asy hki hi;exact ih k hki hks (hdown k hks (hd k hk)) j hkj
theorem Gg(hi:ops[i]?=some o){d:Nat}:d∈FA ops i↔∃e∈o.after,Region.binds .any e=true/\e.on=d:=by
 simp only[FA,hi,Ar0,List.mem_filter,Array.mem_toList_iff];constructor
 ·rintro⟨e,⟨h1,h2⟩,h3⟩;exact⟨e,h1,h2,h3⟩
 rintro⟨e,h1,h2,h3⟩;exact⟨e,⟨h1,h2⟩,h3⟩
theorem YS(hE:E.Ok){orc:Option Tmp->Orc}(hO:∀d,Qm E.toBase (orc d))(hc:F3 ops T=true)(hm:Il E ops T=true){Q:Exit->Act->World->Prop} :∀(fuel:Nat) (rem:List Nat) (listed:Array Bool) (st:St) (a:Act) (w:World) (g:Gh),rem.length=fuel->rem.Pairwise (·<·)->listed.size=ops.size ->(∀j,listed.getD j true=false↔j∈rem)->(∀k,k<ops.size->k ∉ rem->∀d∈FA ops k,d ∉ rem) ->Bh E orc ops rem st=some st'->Rel E w g st a->(∀a' w' g',Rel E w' g' st' a'->Evo E 0 w g w' g'->GLe g g'->Q .normal a' w') ->wpAny E.P .any ops Q fuel listed a w:=by
 have hin:∀(rem:List Nat) (listed:Array Bool),listed.size=ops.size->(∀j,listed.getD j true=false↔j∈rem)->∀j∈rem,j<ops.size:=by
  intro rem listed hs hl j hj;have:=(hl j).2 hj;by_cases e:j<listed.size
  ·omega
  simp[Array.getD,e]at this
 have hgd:∀(rem:List Nat) (listed:Array Bool),listed.size=ops.size->(∀j,listed.getD j true=false↔j∈rem)->∀d,d<ops.size->(listed.getD d false=true↔d ∉ rem):=by
  intro rem listed hs hl d hd
  have h1:listed.getD d false=listed.getD d true:=by
   have:d<listed.size:=by omega
   simp[Array.getD,this]
  rw[h1,<-hl d];cases listed.getD d true<;>simp
 have hrd:∀(rem:List Nat) (listed:Array Bool),listed.size=ops.size->(∀j,listed.getD j true=false↔j∈rem)->∀i,
   (i∈Region.ready .any ops listed↔i∈rem/\∀d∈FA ops i,d ∉ rem):=by
  intro rem listed hs hl i;rw[mem_ready,hl i];constructor
  ·rintro⟨h1,o,ho,h2⟩;refine⟨h1,fun d hd=>?_⟩;have hlt:=Fg hc (hin rem listed hs hl i h1) hd;have hds:=Asy hlt (hin rem listed hs hl i h1);obtain⟨e,he,hb,rfl⟩:=(Gg ho).1 hd;exact(hgd rem listed hs hl _ hds).1 (h2 e he hb)
  rintro⟨h1,h2⟩;have hi:=hin rem listed hs hl i h1;refine⟨h1,ops[i],Aq2 hi,fun e he hb=>?_⟩;have hd:e.on∈FA ops i:=(Gg (Aq2 hi)).2 ⟨e,he,hb,rfl⟩;exact(hgd rem listed hs hl _ (Asy (Fg hc hi hd) hi)).2 (h2 _ hd)
 have hdone:∀(rem:List Nat) (listed:Array Bool),rem.Pairwise (·<·)->listed.size=ops.size->(∀j,listed.getD j true=false↔j∈rem)->Region.ready .any ops listed=[]->rem=[]:=by
  intro rem listed hp hs hl hr;cases rem with
  |nil=>rfl
  | cons i r=>
   have hi:i∈Region.ready .any ops listed:=(hrd _ listed hs hl i).2 ⟨Aq4,fun d hd hm=>by
    have:=Fg hc (hin _ listed hs hl i Aq4) hd;rcases Aq9.1 hm with rfl|hm
    ·omega
    have:=Arf hp hm;omega⟩
   rw[hr]at hi;cases hi
 intro fuel
 induction fuel with
 |zero=>
  intro rem listed st a w g hf hp hs hl hd hst hr hq;have:rem=[]:=Ari.1 hf;subst this;simp only[Bh,AqG]at hst;subst hst;refine⟨?_,hq a w g hr (Evo.refl _ _ _ _) (GLe.refl _)⟩;rw[Asz];intro i hi;have:=((hrd _ listed hs hl i).1 hi).1;cases this
 | succ fuel ih=>
  intro rem listed st a w g hf hp hs hl hd hst hr hq;refine⟨fun h=>?_,fun i hi=>?_⟩
  ·have:=hdone rem listed hp hs hl h;subst this;simp at hf
  obtain⟨hir,hid⟩:=(hrd rem listed hs hl i).1 hi;have his:=hin rem listed hs hl i hir;obtain⟨l1,l2,rfl⟩:=AsY hir;have hp':=hp;rw[Ark]at hp';obtain⟨p1,p2,p3⟩:=hp'
  have hnd:∀j∈l1++l2,j≠i:=by
   intro j hj;rcases Aq3.1 hj with hj|hj
   ·have:=p3 j hj i Aq4;omega
   have:=Arf p2 hj;omega
  have hmem:∀j,j∈l1++l2↔j∈l1++i::l2/\j≠i:=by
   intro j;constructor
   ·intro hj;refine⟨?_,hnd j hj⟩;simp only[Aq3,Aq9]at hj ⊢;rcases hj with hj|hj
    ·exact .inl hj
    exact .inr (.inr hj)
   rintro⟨hj,hne⟩;simp only[Aq3,Aq9]at hj ⊢;rcases hj with hj|hj|hj
   ·exact .inl hj
   ·exact(hne hj).elim
   exact .inr hj
  have hcm:∀j∈l1,∀x,ops[j]?=some x->Ks E ops x ops[i]=true:=by
   intro j hj x hx;have hji:j<i:=p3 j hj i Aq4;have h1:=A6 (A6 hm his) hji;simp only[Art,AqX]at h1;rcases h1 with h1|h1
   ·exact(HL hc hd i his hid j h1 (Asu _ hj)).elim
   simp only[hx,Aq2 his]at h1;exact h1
  obtain⟨st1,h1,h2⟩:=It (Aq2 his) l1 st hcm hst;refine OH hE hO (Aq2 his) h1 hr fun a1 w1 g1 hr1 he1 hg1=>?_
  refine ih (l1++l2) (listed.setIfInBounds i true) st1 a1 w1 g1 ?_ ?_ ?_ ?_ ?_ h2 hr1 ?_
  ·simp at hf ⊢;omega
  ·exact hp.sublist (Asx (AsE i l2) l1)
  ·simp[hs]
  ·intro j;rw[hmem j,<-hl j];by_cases e:j=i
   ·subst e;have:j<listed.size:=by omega
    simp[Array.getD,this]
   rw[getD_set_ne true (fun h=>e h.symm)];simp[e]
  ·intro k hk hkn d hdk hdm;have hd2:=((hmem d).1 hdm).1;by_cases e:k=i
   ·subst e;exact hid d hdk hd2
   exact hd k hk (fun h=>hkn ((hmem k).2 ⟨h,e⟩)) d hdk hd2
  intro a' w' g' hr' he' hg';exact hq a' w' g' hr' (he1.trans he') (hg1.trans hg')
theorem JU{w':World}{a:Act}(hr:Rel E w g st a)(h:SameMem w w'):Rel E w' g st a :=
 ⟨hr.size,fun t x hx=>RG h (hr.slot t x hx),hr.mem.same h,hr.defers.evo (n:=0) (Evo.same h)⟩
theorem Pz(hE:E.Ok){orc:Option Tmp->Orc}(hO:∀d,Qm E.toBase (orc d))(hP:E.P.follows .mixedOrders=true){l:List Oper}(T:List (List Nat))(hok1:F3 l.toArray T=true)(hok2:Il E l.toArray T=true){K:CX} (hst:Bh E orc l.toArray (List.range l.length) st=some st') (hk:K .normal st'):Run E n (.region id l.toArray true) st K:=by
 intro hcm a w g hr Q hq;refine Ik (JN hcm) (wp_region_any hP ?_);have hsm:SameMem w { w with drawn:=w.drawn+1 }:=⟨rfl,rfl,rfl,rfl⟩;refine YS hE hO hok1 hok2 l.toArray.size (List.range l.length) _ st a _ g (by simp) Ar1 (by simp) ?_ ?_ hst (JU hr hsm) ?_
 ·intro j;rw[ArD];by_cases h:j<l.length<;>simp[Array.getD,h]
 ·intro k hk hkn;exact(hkn (ArD.2 (by simpa using hk))).elim
 intro a' w' g' hr' he hg;exact hq _ _ _ _ _ hk hr' ((Evo.same hsm).trans (he.of_gle hg))
end Go.Rv
