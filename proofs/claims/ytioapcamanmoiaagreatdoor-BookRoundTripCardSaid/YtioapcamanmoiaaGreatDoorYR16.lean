/-
  Part 16.
-/
import Derived.Test.YtioapcamanmoiaaGreatDoorYR15
import Derived.Orders
namespace Go.Rv
set_option linter.unusedVariables false
set_option linter.unusedSimpArgs false
variable{w:World}{g:Gh}{v x y:AV}{σ σ' σ2:Ab}{fr fr':List AV}{op:Op}{d:Option Tmp}{c:Call}{ops:Array Oper}{o:Oper}{t s:TypeId}{r:AV×Ab}{id n i:Nat}{st st':St}{T:List (List Nat)}
variable {E:Env}
structure Orc where
  fz:FuncId→List AV→Option AV
  own:FuncId→List AV→Ab→Option (AV×Ab)
def Rt(E:Env)(c:Call):Bool:=match c.callee with
 |.value (.func f)=>E.own f c.args.toList
 |_=>false
def AdM(orc:Orc)(fr:List AV)(σ:Ab)(c:Call):Option (AV×Ab) :=
 match c.callee with
 |.value f=>match ev fr f with
  |.fn fid []=>orc.own fid (c.args.toList.map (ev fr)) σ
  |_=>none
 |_=>none
def Lj(orc:Orc)(fr:List AV)(σ:Ab)(c:Call):Option AV :=
 match c.callee with
 | .value f=>match ev fr f with
  | .fn fid []=>match(c.args.toList.map (ev fr)).mapM (fz σ)with
   |some args=>match orc.fz fid args with
    |some r=>if r.scalar=true∨(c.args.toList.map (ev fr)).flatMap BB=[]then some r else none
    |none=>none
   |none=>none
  |_=>none
 |_=>none
def Cv(E:Env)(orc:Orc)(op:Op)(fr:List AV)(σ:Ab):Option (AV×Ab) :=
 match op with
 |.call c=>match c.callee with
  |.builtin _=>DZ E fr σ op
  |_=>if Rt E c=true then AdM orc fr σ c else(Lj orc fr σ c).map fun r=>(r,σ)
 |op=>DZ E fr σ op
theorem NY{pr:Addr→Prop}{v:Value}(h:Rep w pr g v x):x.under g.length=true:=by
  induction h with
  |bs g v full id tot off len b hb hx ht h ho=>simpa [AV.under]using(AoK.1 hb).1
  |ref g id off β b hb hx hβ=>simpa [AV.under]using(AoK.1 hb).1
  |tref g id t β b hb hx hβ ht=>simpa [AV.under]using(AoK.1 hb).1
  |mref g id β b hb hx hβ=>simpa [AV.under]using(AoK.1 hb).1
  |yld g id β b hb hx hβ=>simpa [AV.under]using(AoK.1 hb).1
  |nref g v id b hb hx h=>simpa [AV.under]using(AoK.1 hb).1
  |eref g v id tot i j b hb hx ht h ho=>simpa [AV.under]using(AoK.1 hb).1
  | agg g vs cs hs ho hr ih=>
    simp only[AV.under,AoZ];rintro⟨x,hx⟩ _;obtain⟨i,hi⟩:=ApX.1 hx;exact ih i x hi
  | tup g vs cs hs hr ih=>
    simp only[AV.under,AoZ];rintro⟨x,hx⟩ _;obtain⟨i,hi⟩:=ApX.1 hx;exact ih i x hi
  | fn g f caps cs hs hr hn ih=>
    simp only[AV.under,AoZ];rintro⟨x,hx⟩ _;obtain⟨i,hi⟩:=ApX.1 hx;exact ih i x hi
  | fnb g f fs cs hs hr ih=>
    simp only[AV.under,AoZ];rintro⟨x,hx⟩ _;rw[AqS]at hx;subst hx;simp only[AV.under,AoZ];rintro⟨y,hy⟩ _;obtain⟨i,hi⟩:=ApX.1 hy;exact ih i y hi
  |iface g t v x hr ih=>simpa [AV.under]using ih
  |_=>simp[AV.under]
theorem NL(hm:Mem E w g σ):∀ab∈σ,V3 σ.length ab:=by
  intro ab hab;obtain⟨id,hid⟩:=ApX.1 hab;have hl:id<g.length:=by rw[hm.len];exact(AoK.1 hid).1
  have hk:=hm.blk id g[id] ab (AoN hl) hid;cases ab with
  | box cs ro=>
    obtain⟨k1,k2,k3,k4,k5,β,arr,t,fz,k6,k7,k8,k9,k10⟩:=hk;intro x hx;obtain⟨j,hj⟩:=ApX.1 hx;have:=NY (k10 j x hj).1;rwa[hm.len]at this
  | buf k els ro=>
    obtain⟨k1,k2,k3,k4,k5,k6,k7⟩:=hk;intro cs hcs x hx;obtain⟨i,hi⟩:=ApX.1 hcs;obtain⟨j,hj⟩:=ApX.1 hx;cases hb:g[id].blk with
    | none=>
      rcases(k6 hb).1 with this|this
      · subst this
        simp at hi
      · have h1:=k5 i cs hi
        have h2:=(AoK.1 hj).1;omega
    | some β=>
      obtain⟨arr,t,fz,g1,g2,g3,g4,g5⟩:=k7 β hb;have:=NY (g5 i cs j x hi hj).1;rwa[hm.len]at this
  |obj o=>exact trivial
  |mp es=>exact trivial
  | lp y N1 l1 ps as1 bd=>
    obtain⟨k1,β,f,T,D,k2,k3,k4,k5⟩:=hk;intro p hp;have:=NY (k5 p hp);rwa[hm.len]at this
  |gone=>exact trivial
  |tb T l=>exact trivial
def Hu(σ:Ab)(r:AV×Ab):Option (AV×Ab) :=
 match r with
 |(.bs full id tot off len,σ')=>if id=σ.length then(Bf σ' (.bs full id tot off len)).map fun y=>(y,σ)else none
 |_=>none
theorem UH{w':World}{g1:Gh}{v:Value}(hm:Mem E w g σ)(hp:∃bs,σ'=σ++bs)(h:Hu σ (x,σ')=some (y,σ2)) (m1:Mem E w' g1 σ') (h3:GLe g g1) (h4:Evo E 0 w g w' g1) (h5:Rep w' (A4 E g1) g1 v x) :σ2=σ∧Mem E w' (g1.take σ.length) σ∧GLe g (g1.take σ.length)∧Evo E 0 w g w' (g1.take σ.length)∧Rep w' (A4 E (g1.take σ.length)) (g1.take σ.length) v y:=by
 obtain⟨bs,rfl⟩:=hp;have ht:(σ++bs).take σ.length=σ:=by simp
 unfold Hu at h;split at h
 case h_2=>cases h
 rename_i full id tot off len σ3 he;cases he;split at h
 case isFalse=>cases h
 rename_i hid;rw[AoL]at h;obtain⟨y',hy,h⟩:=h;cases h;have hmt:=Rm m1 σ.length (by rw[ht];exact NL hm);rw[ht]at hmt;refine⟨rfl,hmt,?_,?_,?_⟩
 ·intro id b hb;obtain⟨b',hb',hs⟩:=h3 id b hb;exact⟨b',F3 hb' (by rw[←hm.len];exact(AoK.1 hb).1),hs⟩
 ·exact⟨h4.os,h4.tape,h4.output,h4.size,fun a u hc hpr=>⟨(h4.cells a u hc hpr).1,GR (h4.cells a u hc hpr).2⟩,
   fun β hβ hn=>⟨(h4.blocks β hβ hn).1,fun h=>(h4.blocks β hβ hn).2 (Iz h)⟩,fun id hid=>absurd hid (Apk _)⟩
 ·refine(GT (pr:=A4 E (g1.take σ.length)) m1 h5 hy (fun a=>GR) ?_).mono (fun a u hc hpr=>⟨hc,hpr⟩) (GLe.nil _);rintro id' b ⟨_,_,_,_,e⟩ hb β off' hβ _;cases e;refine⟨fun hF=>(m1.foreign _ hF).2 ⟨id,b,hb,hβ⟩,fun id2 c hc he=>?_⟩;have:=m1.inj id2 id c b β (F6 hc).1 hb he hβ;have:=(F6 hc).2;omega
theorem Bt{α:Type}(x:Option α):x.bind some=x:=by cases x<;>rfl
def AcG(t:Tmp):Operand→Bool
 |.tmp s=>s==t
 |_=>false
def Yj(t:Tmp):List Operand→Bool
 |[]=>false
 |_::r=>r.any (AcG t)
def Ws:Builtin→Bool
 |.append=>true
 |_=>false
theorem Nd:Ws .append=true:=rfl
def AfB(t:Tmp)(o:Oper):Bool:=match o.op with
 |.call c=>match c.callee with
  |.value _=>c.args.toList.any (AcG t)
  |.builtin b=>Yj t c.args.toList&&Ws b
  |_=>false
 |.buildSlice _ _ parts=>parts.toList.any fun p=>AcG t p.2
 |_=>false
def DA(E:Env)(t:TypeId):Bool:=match E.tab t with
 |some d=>match d.desc with
  |.slice _=>true
  |_=>false
 |none=>false
def EI(E:Env)(ops:Array Oper)(o:Oper):Bool:=match o.dst with
 |some t=>match o.op with
  |.buildSlice ..=>ops.toList.any (AfB t)
  |.convert _ d _=>DA E d&&ops.toList.any (AfB t)
  |_=>false
 |none=>false
def Fh(b:Bool)(σ:Ab)(r:AV×Ab):Option (AV×Ab):=if b then Hu σ r else some r
def DO(E:Env)(orc:Option Tmp→Orc)(ops:Array Oper)(o:Oper)(fr:List AV)(σ:Ab):Option (AV×Ab) :=
 match Iw ops fr o with
 |some true=>(Cv E (orc o.dst) o.op fr σ).bind (Fh (EI E ops o) σ)
 |some false=>some (.tup [],σ)
 |none=>none
def BU(E:Env)(orc:Option Tmp→Orc)(ops:Array Oper)(o:Oper)(st:St):Option St :=
 (DO E orc ops o st.fr st.σ).map fun r=>⟨AM st.fr o.dst r.1,r.2⟩
def AY(E:Env)(orc:Option Tmp→Orc)(ops:Array Oper):List Nat→St→Option St
 |[],st=>some st
 |i::l,st=>match ops[i]? with
  |some o=>(BU E orc ops o st).bind (AY E orc ops l)
  |none=>none
theorem Ac2{x:Operand}(h:∀t,x=.tmp t→fr[t]?=fr'[t]?):ev fr x=ev fr' x:=by
 cases x with
 |tmp t=>simp only[ev,List.getD,h t rfl]
 |_=>rfl
theorem K7(h:∀x∈op.operands,ev fr x=ev fr' x):DZ E fr σ op=DZ E fr' σ op:=by
 have m1:∀(l:List Operand),(∀x∈l,x∈op.operands)→l.map (ev fr)=l.map (ev fr'):=fun l hl=>Ap6 fun x hx=>h x (hl x hx)
 cases op<;>simp only[DZ]
 case move x=>rw[h x (by simp[Op.operands])]
 case assign x=>rw[h x (by simp[Op.operands])]
 case pick c a b=>rw[h c (by simp[Op.operands]),h a (by simp[Op.operands]),h b (by simp[Op.operands])]
 case box t x=>rw[h x (by simp[Op.operands])]
 case build t parts=>
  have:(parts.toList.map fun(i,x)=>(i,ev fr x))=(parts.toList.map fun(i,x)=>(i,ev fr' x)):=Ap6 fun p hp=>by
   have:=h p.2 (by simp[Op.operands];exact⟨p.1,by simpa using hp⟩);simp[this]
  rw[this]
 case buildSlice t n parts=>
  have:(parts.toList.map fun(i,x)=>(i,ev fr x))=(parts.toList.map fun(i,x)=>(i,ev fr' x)):=Ap6 fun p hp=>by
   have:=h p.2 (by simp[Op.operands];exact⟨p.1,by simpa using hp⟩);simp[this]
  rw[this]
 case load t x=>rw[h x (by simp[Op.operands])]
 case store t x y=>rw[h x (by simp[Op.operands]),h y (by simp[Op.operands])]
 case nilCheck x=>rw[h x (by simp[Op.operands])]
 case range t x=>rw[h x (by simp[Op.operands])]
 case makeMap t r=>cases r<;>rfl
 case insert t m k x=>rw[h m (by simp[Op.operands]),h k (by simp[Op.operands]),h x (by simp[Op.operands])]
 case mapUpdate t m k x=>rw[h m (by simp[Op.operands]),h k (by simp[Op.operands]),h x (by simp[Op.operands])]
 case next it b=>
  cases b with
  |false=>rfl
  |true=>simp only;rw[h it (by simp[Op.operands])]
 case binOp op t x y u=>rw[h x (by simp[Op.operands]),h y (by simp[Op.operands])]
 case unOp op t x=>rw[h x (by simp[Op.operands])]
 case convert s d x=>rw[h x (by simp[Op.operands])]
 case makeInterface t x=>rw[h x (by simp[Op.operands])]
 case makeFunc fn first caps=>
  have:caps.toList.map (ev fr)=caps.toList.map (ev fr'):=m1 _ (fun x hx=>by simp[Op.operands];exact .inr (by simpa using hx));have t2:first.toList.map (ev fr)=first.toList.map (ev fr'):=m1 _ (fun x hx=>by simp[Op.operands];exact .inl (by simpa using hx))
  cases fn<;>simp only[this,t2]
 case makeSlice t x y=>rw[h x (by simp[Op.operands]),h y (by simp[Op.operands])]
 case slice t x lo hi mx=>
  have hx:=h x (by simp[Op.operands]);have hl:lo.map (ev fr)=lo.map (ev fr'):=by cases lo with|none=>rfl|some l=>simp[h l (by simp[Op.operands])]
  have hh:hi.map (ev fr)=hi.map (ev fr'):=by cases hi with|none=>rfl|some l=>simp[h l (by simp[Op.operands])]
  have hm:mx.map (ev fr)=mx.map (ev fr'):=by cases mx with|none=>rfl|some l=>simp[h l (by simp[Op.operands])]
  rw[hx,hl,hh,hm]
 case fieldAddr s x f=>rw[h x (by simp[Op.operands])]
 case field s x f=>rw[h x (by simp[Op.operands])]
 case indexAddr t x y=>rw[h x (by simp[Op.operands]),h y (by simp[Op.operands])]
 case index t x y=>rw[h x (by simp[Op.operands]),h y (by simp[Op.operands])]
 case sliceToArrayPointer t x=>rw[h x (by simp[Op.operands])]
 case lookup t x y ok=>rw[h x (by simp[Op.operands]),h y (by simp[Op.operands])]
 case extract x i=>rw[h x (by simp[Op.operands])]
 case call c=>
  cases hc:c.callee<;>simp only[];have:c.args.toList.map (ev fr)=c.args.toList.map (ev fr'):=m1 _ (fun x hx=>by simp[Op.operands,Call.operands];exact .inr (by simpa using hx));rw[this]
def LC(E:Env)(t:TypeId):Bool:=match E.tab t with
 |some d=>match d.desc with
  |.array ..=>true
  |_=>false
 |none=>false
def OT(E:Env):Op→Bool
 |.alloc _|.box ..|.buildSlice ..|.store ..|.makeSlice ..|.range ..|.next ..|.makeMap ..|.insert ..|.mapUpdate ..=>true
 |.convert _ d _=>DA E d
 |.slice t ..=>LC E t
 |.call c=>match c.callee with
  |.builtin .len|.builtin .min|.builtin .max=>false
  |.builtin _=>true
  |_=>Rt E c
 |_=>false
def FL(E:Env):Op→Bool
 |.load ..|.fieldAddr ..|.indexAddr ..|.slice ..|.convert ..|.lookup ..=>true
 |.call c=>match c.callee with
  |.builtin .min|.builtin .max=>false
  |_=>true
 |op=>OT E op
theorem Lb(he:OT E op=false)(h:DZ E fr σ op=some (x,σ')):σ'=σ:=by
  cases op<;>simp only[DZ]at h<;>simp only[OT]at he<;>try (cases h;done)
  case move y=>cases h;rfl
  case assign y=>cases h;rfl
  case pick c a b=>split at h<;>first|(cases h;rfl)|cases h
  case alloc=>cases he
  case range=>cases he
  case makeMap=>cases he
  case insert=>cases he
  case mapUpdate=>cases he
  case next=>cases he
  case box=>cases he
  case build t parts=>rw[AoL]at h;obtain⟨_,_,h⟩:=h;cases h;rfl
  case buildSlice=>cases he
  case load t y=>
    split at h
    · rw[AoL]at h;obtain⟨_,_,h⟩:=h;cases h;rfl
    · cases h
  case store=>cases he
  case nilCheck y=>split at h<;>first|(cases h;rfl)|cases h
  case binOp op t y z u=>rw[AoL]at h;obtain⟨_,_,h⟩:=h;cases h;rfl
  case unOp op t y=>rw[AoL]at h;obtain⟨_,_,h⟩:=h;cases h;rfl
  case lookup t y z ok=>rw[AoL]at h;obtain⟨_,_,h⟩:=h;cases h;rfl
  case convert s d y=>
    unfold Bg at h;unfold DA at he;split at h
    case h_2=>cases h
    rename_i ds dd hs hd;rw[hd]at he;simp only at he;split at h
    · cases h;rfl
    · cases h;rfl
    · rename_i hdd _;rw[hdd]at he;cases he
    · split at h
      · cases h
      split at h
      case h_2=>cases h
      split at h
      case h_2=>cases h
      split at h
      · cases h;rfl
      · cases h
    · rename_i hdd _;rw[hdd]at he;cases he
    · cases h
  case makeFunc fn first caps=>
    split at h
    · split at h
      · split at h
        · cases h
        · cases h;rfl
      · split at h
        · cases h;rfl
        · cases h
    · cases h
  case makeInterface t y=>
    split at h
    · split at h
      · cases h
      · cases h;rfl
    · cases h
  case makeSlice=>cases he
  case slice t y lo hi mx=>
    unfold Gk at h;unfold LC at he;cases ht:E.tab t with
    |none=>simp[ht]at h
    | some d=>
      simp only[ht]at h he;split at h
      · split at h
        · split at h
          · cases h
          · cases h;rfl
        · cases h
      · split at h
        · split at h
          · cases h;rfl
          · cases h
        · cases h
      · split at h
        · split at h
          · split at h
            · cases h;rfl
            · cases h
          · cases h
        · cases h
      · rename_i hd _;rw[hd]at he;cases he
      · rename_i hd _;rw[hd]at he;cases he
      · cases h
  case fieldAddr s y f=>rw[AoL]at h;obtain⟨_,_,h⟩:=h;cases h;rfl
  case field s y f=>rw[AoL]at h;obtain⟨_,_,h⟩:=h;cases h;rfl
  case indexAddr t y i=>rw[AoL]at h;obtain⟨_,_,h⟩:=h;cases h;rfl
  case index t y i=>rw[AoL]at h;obtain⟨_,_,h⟩:=h;cases h;rfl
  case sliceToArrayPointer t y=>rw[AoL]at h;obtain⟨_,_,h⟩:=h;cases h;rfl
  case extract y i=>
    split at h
    · split at h
      · cases h;rfl
      · cases h
    · cases h
  case call c=>
    cases hc:c.callee<;>simp only[hc]at h he<;>try (cases h;done)
    rename_i b;unfold AZ at h;split at h
    · rw[AoL]at h;obtain⟨_,_,h⟩:=h;cases h;rfl
    · cases he
    · cases he
    · rw[AoL]at h;obtain⟨_,_,h⟩:=h;cases h;rfl
    · rw[AoL]at h;obtain⟨_,_,h⟩:=h;cases h;rfl
    · cases h
theorem Gj(ht:FL E op=false):DZ E fr σ2 op=(DZ E fr σ op).map (fun r=>(r.1,σ2)):=by
 cases op<;>simp only[FL,OT]at ht<;>try (cases ht;done)
 all_goals simp only[DZ]
 all_goals try rfl
 case pick c a b=>split<;>rfl
 case build t parts=>simp only[Ap0];rfl
 case nilCheck y=>split<;>rfl
 case binOp op t y z u=>simp only[Ap0];rfl
 case unOp op t y=>simp only[Ap0];rfl
 case makeFunc fn first caps=>
  split
  ·split
   ·split<;>rfl
   ·split<;>rfl
  ·rfl
 case makeInterface t y=>
  split
  ·split<;>rfl
  ·rfl
 case field s y f=>simp only[Ap0];rfl
 case index t y i=>simp only[Ap0];rfl
 case sliceToArrayPointer t y=>simp only[Ap0];rfl
 case extract y i=>
  split
  ·split<;>rfl
  ·rfl
 case call c=>
  cases hc:c.callee<;>simp only[hc]at ht ⊢<;>try rfl
  rename_i b;cases b<;>simp only at ht<;>try (cases ht;done)
  all_goals
   unfold AZ;split<;>first|(exfalso;simp_all;done)|rfl|(simp only[Ap0];rfl)
theorem Do(fr:List AV){x y:Option Tmp}(v u:AV)(h:∀d,x=some d→y≠some d):AM (AM fr x v) y u=AM (AM fr y u) x v:=by
  cases x with
  |none=>rfl
  | some d=>
    cases y with
    |none=>rfl
    |some e=>exact List.set_comm _ _ (fun he=>h d rfl (by rw[he]))
theorem Lg{x:Operand}(h:∀e,d=some e→x≠.tmp e):ev (AM fr d v) x=ev fr x:=by
  refine Ac2 fun t hx=>?_
  cases d with
  |none=>rfl
  | some e=>
    have:e≠t:=fun he=>h e rfl (by rw[hx,he])
    simp[AM,Apv this]
theorem Ue{orc:Orc}(h:∀x∈(Op.call c).operands,ev fr x=ev fr' x):Lj orc fr σ c=Lj orc fr' σ c:=by
 have ha:c.args.toList.map (ev fr)=c.args.toList.map (ev fr'):=Ap6 fun x hx=>h x (by simp[Op.operands,Call.operands];exact .inr (by simpa using hx))
 unfold Lj;cases hc:c.callee<;>simp only[];rename_i f;rw[h f (by simp[Op.operands,Call.operands,hc]),ha]
theorem Xi{orc:Orc}(h:∀x∈(Op.call c).operands,ev fr x=ev fr' x):AdM orc fr σ c=AdM orc fr' σ c:=by
 have ha:c.args.toList.map (ev fr)=c.args.toList.map (ev fr'):=Ap6 fun x hx=>h x (by simp[Op.operands,Call.operands];exact .inr (by simpa using hx))
 unfold AdM;cases hc:c.callee<;>simp only[];rename_i f;rw[h f (by simp[Op.operands,Call.operands,hc]),ha]
theorem TP{orc:Orc}(h:∀x∈op.operands,ev fr x=ev fr' x):Cv E orc op fr σ=Cv E orc op fr' σ:=by
  cases op with
  | call c=>
    simp only[Cv];rw[Ue h,Xi h];cases hc:c.callee<;>simp only[];exact K7 h
  |_=>exact K7 (E:=E) (σ:=σ) h
theorem Ou{orc:Orc}(he:OT E op=false)(h:Cv E orc op fr σ=some (x,σ')):σ'=σ:=by
  cases op with
  | call c=>
    simp only[Cv]at h;cases hc:c.callee<;>simp only[hc]at h
    case builtin b=>exact Lb he h
    all_goals
      simp only[OT,hc]at he;simp only[he,Ap4,AqT]at h;rw[AoL]at h;obtain⟨_,_,h⟩:=h;cases h;rfl
  |_=>exact Lb (fr:=fr) he h
theorem QX{orc:Orc}(ht:FL E op=false):Cv E orc op fr σ2=(Cv E orc op fr σ).map (fun r=>(r.1,σ2)):=by
  cases op with
  | call c=>
    simp only[Cv];cases hc:c.callee<;>simp only[]
    case builtin b=>exact Gj ht
    all_goals (simp only[FL,hc]at ht;cases ht)
  |_=>exact Gj (fr:=fr) (σ:=σ) ht
theorem Ov{t:Tmp}(h:Operand.tmp t∈o.op.operands):t∈o.looksAt ops:=by
 unfold Oper.looksAt;rw[Ao8];left;rw[ArE];exact⟨.tmp t,by simpa using h,rfl⟩
theorem QN(h:∀e,d=some e→e ∉ o.looksAt ops):Iw ops (AM fr d v) o=Iw ops fr o:=by
  unfold Iw;cases hg:o.guard with
  |none=>rfl
  | some g=>
    obtain⟨j,want⟩:=g;simp only;congr 1;unfold K0;cases hj:(ops[j]?).bind (·.dst)with
    |none=>simp[hj]
    | some t=>
      cases d with
      |none=>rfl
      | some e=>
        have:e≠t:=fun he=>h e rfl (by simp[Oper.looksAt,hg,hj,he])
        simp[hj,AM,Apv this]
theorem B1{orc:Option Tmp→Orc}(h:∀e,d=some e→e ∉ o.looksAt ops):DO E orc ops o (AM fr d v) σ=DO E orc ops o fr σ:=by
 unfold DO;rw[QN h,TP (fun x hx=>Lg fun e he hxe=>h e he (Ov (hxe ▸ hx)))]
def OQ(E:Env)(ops:Array Oper)(o:Oper):Bool:=OT E o.op&&!EI E ops o
theorem KY(h:OQ E ops o=false):EI E ops o=true∨(EI E ops o=false∧OT E o.op=false):=by
 unfold OQ at h;cases hf:EI E ops o
 ·rw[hf]at h;right;simpa using h
 ·exact .inl rfl
theorem Db(h:EI E ops o=true):(∃t n l,o.op=.buildSlice t n l)∨(∃s d x,o.op=.convert s d x∧DA E d=true):=by
 unfold EI at h;split at h
 case h_2=>cases h
 split at h
 ·rename_i hop;exact .inl ⟨_,_,_,hop⟩
 ·rename_i hop;exact .inr ⟨_,_,_,hop,(Arm.1 h).1⟩
 ·cases h
theorem Vq(h:Hu σ r=some (y,σ')):σ'=σ:=by
 unfold Hu at h;split at h
 case h_2=>cases h
 split at h
 case isFalse=>cases h
 rw[AoL]at h;obtain⟨_,_,h⟩:=h;cases h;rfl
theorem CC{orc:Option Tmp→Orc}(he:OQ E ops o=false)(h:DO E orc ops o fr σ=some (x,σ')):σ'=σ:=by
 unfold DO at h;split at h
 ·rw[AoW]at h;obtain⟨⟨v,σ1⟩,h1,h2⟩:=h;unfold Fh at h2;rcases KY he with hf|⟨hf,he⟩
  ·rw[hf,AoO rfl]at h2;exact Vq h2
  ·rw[hf]at h2;simp only[Ap4,AqT]at h2;cases h2;exact Ou he h1
 ·cases h;rfl
 ·cases h
theorem WM(ht:FL E o.op=false):EI E ops o=false:=by
 cases hf:EI E ops o
 ·rfl
 ·rcases Db hf with⟨t,n,l,h⟩|⟨s,d,x,h,_⟩
  ·rw[h]at ht;cases ht
  ·rw[h]at ht;cases ht
theorem LD{orc:Option Tmp→Orc}(ht:FL E o.op=false):DO E orc ops o fr σ2=(DO E orc ops o fr σ).map (fun r=>(r.1,σ2)):=by
 unfold DO;rw[WM ht];have e:∀σ,Fh false σ=some:=fun σ=>by funext r;simp[Fh]
 rw[e,e];split
 ·rw[QX (σ:=σ) ht];cases Cv E (orc o.dst) o.op fr σ<;>rfl
 ·rfl
 ·rfl
theorem Iq{b:ABlk}(bs:Ab)(h:σ[id]?=some b):(σ++bs)[id]?=some b:=by
 rw[AoU (AoK.1 h).1];exact h
theorem Yd{d:TD}{a:AV}(bs:Ab)(h:loadA E σ d a=some x):loadA E (σ++bs) d a=some x:=by
 cases a<;>simp only[loadA]at h ⊢<;>try exact h
 case ref id off=>
  cases e:σ[id]? with
  |none=>simp[e]at h
  |some b=>rw[e]at h;rw[Iq bs e];exact h
 case eref id tot i j=>
  cases e:σ[id]? with
  |none=>simp[e]at h
  |some b=>rw[e]at h;rw[Iq bs e];exact h
theorem Sf{tot:Nat}(bs:Ab)(h:ZH σ id tot=true):ZH (σ++bs) id tot=true:=by
 unfold ZH at h ⊢;cases e:σ[id]? with
 |none=>simp[e]at h
 |some b=>rw[e]at h;rw[Iq bs e];exact h
theorem ZL{l:List (List AV)}(bs:Ab)(h:ET σ x=some l):ET (σ++bs) x=some l:=by
 cases x<;>simp only[ET]at h ⊢<;>try exact h
 case bs full id tot off len=>
  cases e:σ[id]? with
  |none=>simp[e]at h
  |some b=>rw[e]at h;rw[Iq bs e];exact h
theorem Aax(bs:Ab)(h:Y6 E σ t x=some n):Y6 E (σ++bs) t x=some n:=by
  unfold Y6 at h ⊢;cases ht:E.tab t with
  |none=>simp[ht]at h
  | some d=>
    simp only[ht]at h ⊢;split at h<;>try (simp_all;done)
    rename_i id tot off len hd;cases e:σ[id]? with
    |none=>simp[e]at h
    |some b=>rw[e]at h;simp only[hd,Iq bs e];exact h
theorem Oj{f:Nat}(bs:Ab)(h:Bl E σ s x f=some y):Bl E (σ++bs) s x f=some y:=by
 unfold Bl at h ⊢
 repeat' split at h
 all_goals try (cases h;done)
 all_goals try (simp_all;done)
 all_goals (rename_i hc;simp_all [Sf bs hc])
theorem MD{i:AV}(bs:Ab)(h:As E σ t x i=some y):As E (σ++bs) t x i=some y:=by
  unfold As at h ⊢;cases ht:E.tab t with
  |none=>simp[ht]at h
  | some d=>
    simp only[ht]at h ⊢;cases hd:d.desc<;>simp only[hd]at h ⊢<;>try (cases h;done)
    case array n e=>
      cases he:E.tab e with
      |none=>simp[he]at h
      | some de=>
        cases hi:idx i n with
        |none=>simp[he,hi]at h
        | some k=>
          simp only[he,hi]at h ⊢;cases x<;>simp only at h ⊢<;>try exact h
          case eref id tot i0 j=>
            split at h
            case isFalse=>cases h
            rename_i hc;rw[AoO (Sf bs hc)];exact h
    case slice e=>
      cases he:E.tab e with
      |none=>simp[he]at h
      | some de=>
        simp only[he]at h ⊢;cases x<;>simp only at h ⊢<;>try exact h
        case bs full id tot off len=>
          cases e2:σ[id]? with
          |none=>simp[e2]at h
          |some b=>rw[e2]at h;rw[Iq bs e2];exact h
theorem UR{lo hi mx:Option AV}(bs:Ab)(he:LC E t=false)(h:Gk E σ t x lo hi mx=some (y,σ')):Gk E (σ++bs) t x lo hi mx=some (y,σ++bs):=by
  unfold Gk at h ⊢;unfold LC at he;cases ht:E.tab t with
  |none=>simp[ht]at h
  | some d=>
    simp only[ht]at h he ⊢;cases hd:d.desc<;>simp only[hd]at h he ⊢<;>try (first|(cases h;done)|(cases he;done))
    case string=>
      cases x<;>simp only at h ⊢<;>try (cases h;done)
      repeat' split at h
      all_goals try (cases h;done)
      cases h;simp_all
    case slice e=>
      cases x<;>simp only at h ⊢<;>try (cases h;done)
      case sl full els=>
        repeat' split at h
        all_goals try (cases h;done)
        cases h;simp_all
      case bs full id tot off len=>
        cases e2:σ[id]? with
        |none=>simp[e2]at h
        | some b=>
          rw[e2]at h;rw[Iq bs e2]
          repeat' split at h
          all_goals try (cases h;done)
          cases h;simp_all
theorem Re{d:TypeId}(bs:Ab)(he:DA E d=false)(h:Bg E σ s d x=some (y,σ')):Bg E (σ++bs) s d x=some (y,σ++bs):=by
 unfold Bg at h ⊢;unfold DA at he;split at h
 case h_2=>cases h
 rename_i ds dd hs hd;rw[hd]at he;simp only at he;split at h
 ·cases h;rfl
 ·cases h;rfl
 ·simp_all
 ·split at h
  ·cases h
  rename_i hb;split at h
  case h_2=>cases h
  rename_i hde;split at h
  case h_2=>cases h
  rename_i hu hv;split at h
  ·rename_i hl;cases h;simp[hb,hu,ZL bs hv,hl]
  ·cases h
 ·simp_all
 ·cases h
theorem ND(bs:Ab)(h:Bf σ x=some y):Bf (σ++bs) x=some y:=by
 cases x<;>simp only[Bf]at h ⊢<;>try exact h
 case bs full id tot off len=>
  cases e:σ[id]? with
  |none=>simp[e]at h
  |some b=>rw[e]at h;rw[Iq bs e];exact h
theorem OA{α β:Type}{f g:α→Option β}(hfg:∀x y,f x=some y→g x=some y):∀{l:List α} {ys:List β},l.mapM f=some ys→l.mapM g=some ys
  |[],_,h=>by simpa using h
  | x::l,ys,h=>by
    rw[Aqv]at h ⊢;simp only[Aq3,AoW]at h ⊢;obtain⟨y,hy,zs,hz,h⟩:=h;exact⟨y,hfg _ _ hy,zs,OA hfg hz,h⟩
theorem Af6(bs:Ab)(h:fz σ x=some y):fz (σ++bs) x=some y:=by
 cases x<;>simp only[fz]at h ⊢<;>try exact ND bs h
 case agg cs=>
  rw[AoL]at h ⊢;obtain⟨ys,h,e⟩:=h;exact⟨ys,OA (fun _ _=>ND bs) h,e⟩
theorem So(bs:Ab){k:AV}{ok:Bool}(h:Ex E σ t x k ok=some v):Ex E (σ++bs) t x k ok=some v:=by
  cases x with
  | mref id=>
    simp only[Ex]at h ⊢;cases hσ:σ[id]? with
    |none=>simp[hσ]at h
    | some b=>
      rw[AoU (AoK.1 hσ).1,hσ];rw[hσ]at h;exact h
  |_=>exact h
theorem SN(bs:Ab)(he:OT E op=false)(h:DZ E fr σ op=some (x,σ')):DZ E fr (σ++bs) op=some (x,σ++bs):=by
  cases ht:FL E op with
  | false=>
    rw[Gj (σ:=σ) ht,h];rfl
  | true=>
    cases op<;>simp only[FL,OT]at ht he<;>try (cases ht;done)
    all_goals try (cases he;done)
    case load t y=>
      simp only[DZ]at h ⊢;split at h
      case h_2=>cases h
      rename_i hd;rw[AoL]at h;obtain⟨v,hv,h⟩:=h;cases h;simp[hd,Yd bs hv]
    case convert s d y=>exact Re bs he h
    case slice t y lo hi mx=>exact UR bs he h
    case lookup t y z ok=>
      simp only[DZ]at h ⊢;rw[AoL]at h;obtain⟨v,hv,h⟩:=h;cases h;simp[So bs hv]
    case fieldAddr s y f=>
      simp only[DZ]at h ⊢;rw[AoL]at h;obtain⟨v,hv,h⟩:=h;cases h;simp[Oj bs hv]
    case indexAddr t y i=>
      simp only[DZ]at h ⊢;rw[AoL]at h;obtain⟨v,hv,h⟩:=h;cases h;simp[MD bs hv]
    case call c=>
      simp only[DZ]at h ⊢;cases hc:c.callee<;>simp only[hc]at h ht he ⊢<;>try (cases h;done)
      rename_i b;unfold AZ at h ⊢;split at h
      · rw[AoL]at h
        obtain⟨v,hv,h⟩:=h;cases h;simp[Aax bs hv]
      · cases he
      · cases he
      · cases ht
      · cases ht
      · cases h
theorem WN{orc:Orc}{r:AV}(bs:Ab)(h:Lj orc fr σ c=some r):Lj orc fr (σ++bs) c=some r:=by
 unfold Lj at h ⊢;split at h
 case h_2=>cases h
 rename_i f hf;split at h
 case h_2=>cases h
 rename_i fid hv;split at h
 case h_2=>cases h
 rename_i args ha;simp only[OA (fun _ _=>Af6 bs) ha];exact h
theorem WS{orc:Orc}(bs:Ab)(he:OT E op=false)(h:Cv E orc op fr σ=some (x,σ')):Cv E orc op fr (σ++bs)=some (x,σ++bs):=by
  cases op with
  | call c=>
    simp only[Cv]at h ⊢;cases hc:c.callee<;>simp only[hc]at h ⊢
    case builtin b=>exact SN bs he h
    all_goals
      simp only[OT,hc]at he;simp only[he,Ap4,AqT]at h ⊢;rw[AoL]at h;obtain⟨v,hv,h⟩:=h;cases h;simp[WN bs hv]
  |_=>exact SN (fr:=fr) bs he h
theorem Vs(ρ:Ab)(hf:(∃t n l,op=.buildSlice t n l)∨(∃s d x,op=.convert s d x∧DA E d=true)) (h:(DZ E fr σ op).bind (Hu σ)=some (y,σ')):(DZ E fr ρ op).bind (Hu ρ)=some (y,ρ):=by
  have last:∀(b:ABlk) (f:Bool) (t o l:Nat),Hu σ (.bs f σ.length t o l,σ++[b])=some (y,σ')→Hu ρ (.bs f ρ.length t o l,ρ++[b])=some (y,ρ):=by
    intro b f t o l h;unfold Hu at h ⊢;simp only[Aqe,AoL,AoV]at h ⊢;obtain⟨z,hz,rfl,rfl⟩:=h;refine⟨z,?_,rfl,trivial⟩;simp only[Bf]at hz ⊢;rw[AoS (Ao0 _),AqF]at hz ⊢;exact hz
  rcases hf with⟨t,n,l,rfl⟩|⟨s,d,x,rfl,hd⟩
  · simp only[DZ]at h ⊢
    unfold CI at h ⊢;cases ht:E.tab t with
    |none=>simp[ht]at h
    | some dd=>
      simp only[ht]at h ⊢;cases hdd:dd.desc<;>simp only[hdd]at h ⊢<;>try (simp at h;done)
      rename_i e;cases he:E.tab e with
      |none=>simp[he]at h
      | some de=>
        simp only[he]at h ⊢;split at h
        · simp at h
        rename_i hn;rw[AoQ hn];split at h
        case h_2=>simp at h
        rename_i els hels;exact last _ _ _ _ _ h
  · simp only[DZ]at h ⊢
    unfold Bg at h ⊢;unfold DA at hd;cases ht:E.tab d with
    |none=>simp[ht]at hd
    | some dd=>
      simp only[ht]at hd;cases hdd:dd.desc<;>simp only[hdd]at hd<;>try (cases hd;done)
      rename_i e;cases hs:E.tab s with
      |none=>simp[hs]at h
      | some sd=>
        simp only[hs,ht,hdd]at h ⊢;generalize ev fr x=xv at h ⊢;split at h
        case h_3=>
          rename_i e' l hx;cases hx;cases he:E.tab e with
          |none=>simp[he]at h
          | some de=>
            simp only[he]at h ⊢;cases hde:de.desc<;>simp only[hde]at h ⊢<;>try (simp at h;done)
            rename_i k;cases k<;>simp only at h ⊢<;>try (simp at h;done)
            exact last _ _ _ _ _ h
        case h_5=>
          exfalso;split at h
          case isFalse=>simp at h
          split at h
          case h_2=>simp at h
          split at h
          case h_2=>simp at h
          split at h
          case isFalse=>simp at h
          rename_i hid _;simp only[AoP,Hu]at h;split at h
          case isFalse=>cases h
          rename_i e2;have:=(AoK.1 hid).1;omega
        all_goals (exfalso;simp_all;done)
theorem AcU(bs:Ab)(hf:(∃t n l,op=.buildSlice t n l)∨(∃s d x,op=.convert s d x∧DA E d=true)) (h:(DZ E fr σ op).bind (Hu σ)=some (y,σ')):(DZ E fr (σ++bs) op).bind (Hu (σ++bs))=some (y,σ++bs):=Vs _ hf h
theorem AaJ{orc:Option Tmp→Orc}(bs:Ab)(he:OQ E ops o=false)(h:DO E orc ops o fr σ=some (x,σ')):DO E orc ops o fr (σ++bs)=some (x,σ++bs):=by
 unfold DO at h ⊢;split at h
 ·rcases KY he with hf|⟨hf,he⟩
  ·rw[hf]at h ⊢;have e:∀σ,Fh true σ=Hu σ:=fun σ=>by funext r;simp[Fh]
   rw[e]at h ⊢
   have e2:∀σ,Cv E (orc o.dst) o.op fr σ=DZ E fr σ o.op:=by
    intro σ;rcases Db hf with⟨t,n,l,h⟩|⟨s,d,x,h,_⟩<;>rw[h]<;>rfl
   rw[e2]at h ⊢;exact AcU bs (Db hf) h
  ·rw[hf]at h ⊢;have e:∀σ,Fh false σ=some:=fun σ=>by funext r;simp[Fh]
   rw[e]at h ⊢;rw[Bt]at h ⊢;exact WS bs he h
 ·cases h;rfl
 ·cases h
def Qq:Op→Bool
 |.alloc _|.buildSlice ..=>true
 |_=>false
theorem XR{orc:Option Tmp→Orc}(ha:Qq o.op=true)(h:DO E orc ops o fr σ=some (x,σ')):∃bs,σ'=σ++bs:=by
 cases hf:EI E ops o
 case true=>exact⟨[],by rw[CC (by unfold OQ;rw[hf];simp) h];simp⟩
 unfold DO at h;rw[hf]at h;have e:∀σ,Fh false σ=some:=fun σ=>by funext r;simp[Fh]
 rw[e,Bt]at h;split at h
 ·cases ho:o.op<;>simp only[ho,Qq]at ha h<;>try (cases ha;done)
  ·simp only[Cv,DZ]at h;split at h
   ·split at h
    ·cases h
    ·split at h
     ·cases h;exact⟨_,rfl⟩
     ·cases h;exact⟨_,rfl⟩
   ·cases h
  ·simp only[Cv,DZ]at h;unfold CI at h;split at h
   ·cases h
   split at h
   ·split at h
    ·split at h
     ·cases h
     ·split at h
      ·cases h;exact⟨_,rfl⟩
      ·cases h
    ·cases h
   ·cases h
 ·cases h;exact⟨[],by simp⟩
 ·cases h
def J9:ABlk→ABlk
 |.box cs _=>.box cs false
 |.buf k els _=>.buf k els false
 |.obj o=>.obj o
 |.tb T l=>.tb T l
 |.mp es=>.mp es
 |.lp y N l ps a b=>.lp y N l ps a b
 |.gone=>.gone
theorem EL:(σ.map J9)[id]?=(σ[id]?).map J9:=by simp
theorem WL{d:TD}{a:AV}:loadA E (σ.map J9) d a=loadA E σ d a:=by
 cases a<;>simp only[loadA,EL]
 case ref id off=>cases σ[id]? with
  |none=>rfl
  |some b=>cases b<;>rfl
 case eref id tot i j=>cases σ[id]? with
  |none=>rfl
  |some b=>cases b<;>rfl
theorem SG{tot:Nat}:ZH (σ.map J9) id tot=ZH σ id tot:=by
 simp only[ZH,EL];cases σ[id]? with
 |none=>rfl
 |some b=>cases b<;>rfl
theorem AaA:ET (σ.map J9) x=ET σ x:=by
 cases x<;>simp only[ET,EL]
 case bs full id tot off len=>cases σ[id]? with
  |none=>rfl
  |some b=>cases b<;>rfl
theorem YG:Y6 E (σ.map J9) t x=Y6 E σ t x:=by
  unfold Y6;cases E.tab t with
  |none=>rfl
  | some d=>
    obtain⟨desc,sz,bt,z⟩:=d;cases x with
    | bs full id tot off len=>
      cases desc<;>try rfl
      simp only[EL];cases σ[id]? with
      |none=>rfl
      |some b=>cases b<;>rfl
    |_=>cases desc<;>rfl
theorem NT{f:Nat}:Bl E (σ.map J9) s x f=Bl E σ s x f:=by
 unfold Bl;simp only[SG]
theorem Nv{i:AV}:As E (σ.map J9) t x i=As E σ t x i:=by
  unfold As;cases E.tab t with
  |none=>rfl
  | some d=>
    obtain⟨desc,sz,bt,z⟩:=d;cases desc<;>dsimp only<;>try (first|rfl|(simp only[SG];done))
    rename_i e;generalize E.tab e=te;cases te with
    |none=>cases x<;>rfl
    | some de=>
      cases x<;>try rfl
      rename_i full id tot off len;dsimp only;simp only[EL];cases σ[id]? with
      |none=>rfl
      |some b=>cases b<;>cases idx i len<;>rfl
theorem TB{σ: Ab}{lo hi mx:Option AV}(he:LC E t=false):(Gk E (σ.map J9) t x lo hi mx).map (·.1)=(Gk E σ t x lo hi mx).map (·.1):=by
  unfold Gk;unfold LC at he;cases ht:E.tab t with
  |none=>rfl
  | some d=>
    rw[ht]at he;obtain⟨desc,sz,bt,z⟩:=d;cases desc<;>dsimp only at he ⊢<;>try (first|rfl|(cases he;done))
    · cases x<;>dsimp only<;>try rfl
      split<;>try rfl
      split<;>rfl
    · rename_i e
      cases x<;>dsimp only<;>try rfl
      · split<;>try rfl
        split<;>rfl
      · rename_i full id tot off len
        simp only[EL];cases σ[id]? with
        |none=>rfl
        | some b=>
          cases b with
          |box=>rfl
          |obj o=>rfl
          |mp es=>rfl
          |lp y N1 l1 ps as1 bd=>rfl
          |gone=>rfl
          |tb T l=>rfl
          | buf k els ro=>
            simp only[App,J9];generalize E.tab e=te;cases te with
            |none=>rfl
            | some de=>
              dsimp only;split<;>try rfl
              split<;>rfl
theorem QF{d:TypeId}(he:DA E d=false):(Bg E (σ.map J9) s d x).map (·.1)=(Bg E σ s d x).map (·.1):=by
  unfold Bg;unfold DA at he;cases hs:E.tab s with
  |none=>rfl
  | some sd=>
    cases hd:E.tab d with
    |none=>rfl
    | some dd=>
      simp only[hd]at he ⊢;cases hdd:dd.desc<;>simp only[hdd]at he ⊢<;>try (first|rfl|(cases he;done))
      · cases x<;>first|rfl|(cases sd.desc<;>rfl)
      · cases x<;>cases sd.desc<;>try rfl
        all_goals
          simp only[AaA];split<;>try rfl
          split<;>try rfl
          split<;>try rfl
          split<;>rfl
theorem Ot:Bf (σ.map J9) x=Bf σ x:=by
 cases x<;>simp only[Bf,EL]
 case bs full id tot off len=>cases σ[id]? with
  |none=>rfl
  |some b=>cases b<;>rfl
theorem Aer:fz (σ.map J9) x=fz σ x:=by
 cases x<;>simp only[fz,Ot];rename_i cs;congr 1;have:Bf (σ.map J9)=Bf σ:=funext fun x=>Ot
 rw[this]
theorem Xc{orc:Orc}:Lj orc fr (σ.map J9) c=Lj orc fr σ c:=by
 unfold Lj;have:fz (σ.map J9)=fz σ:=funext fun x=>Aer
 rw[this]
theorem SV{k:AV}{ok:Bool}:Ex E (σ.map J9) t x k ok=Ex E σ t x k ok:=by
  cases x with
  | mref id=>
    simp only[Ex,EL];cases σ[id]? with
    |none=>rfl
    | some b=>
      cases b with
      |obj o=>rfl
      |mp es=>rfl
      |lp y N1 l1 ps as1 bd=>rfl
      |gone=>rfl
      |tb T l=>rfl
      |box cs ro=>cases ok<;>cases k<;>first|rfl|(cases Tz E t with|none=>rfl|some d=>cases d<;>rfl)
      |buf n els ro=>cases ok<;>cases k<;>first|rfl|(cases Tz E t with|none=>rfl|some d=>cases d<;>rfl)
  |_=>rfl
theorem S1(he:OT E op=false):(DZ E fr (σ.map J9) op).map (·.1)=(DZ E fr σ op).map (·.1):=by
  cases ht:FL E op with
  | false=>
    rw[Gj (σ:=σ) ht];cases DZ E fr σ op<;>rfl
  | true=>
    cases op<;>simp only[FL,OT]at ht he<;>try (cases ht;done)
    all_goals try (cases he;done)
    case load t y=>
      simp only[DZ,WL];split<;>simp only[Ap0]<;>rfl
    case convert s d y=>exact QF he
    case slice t y lo hi mx=>exact TB he
    case lookup t y z ok=>simp only[DZ,SV,Ap0];rfl
    case fieldAddr s y f=>
      simp only[DZ,NT,Ap0];rfl
    case indexAddr t y i=>
      simp only[DZ,Nv,Ap0];rfl
    case call c=>
      simp only[DZ];cases hc:c.callee<;>simp only[hc]at ht he ⊢<;>try rfl
      rename_i b;cases b<;>simp only at ht he<;>try (first|(cases ht;done)|(cases he;done))
      unfold AZ;split<;>first|rfl|(simp only[YG,Ap0];rfl)|(exfalso;simp_all;done)
theorem Qa{orc:Orc}(he:OT E op=false):(Cv E orc op fr (σ.map J9)).map (·.1)=(Cv E orc op fr σ).map (·.1):=by
  cases op with
  | call c=>
    simp only[Cv];cases hc:c.callee<;>simp only[]
    case builtin b=>exact S1 he
    all_goals
      simp only[OT,hc]at he;simp only[he,Ap4,AqT,Xc,Ap0];rfl
  |_=>exact S1 (fr:=fr) (σ:=σ) he
theorem Tb{orc:Option Tmp→Orc}{ρ:Ab}(hρ:σ.map J9=ρ.map J9)(he:OQ E ops o=false)(h:DO E orc ops o fr σ=some (x,σ')):DO E orc ops o fr ρ=some (x,ρ):=by
 unfold DO at h ⊢;split at h
 ·rcases KY he with hf|⟨hf,he⟩
  ·rw[hf]at h ⊢;have e:∀σ,Fh true σ=Hu σ:=fun σ=>by funext r;simp[Fh]
   rw[e]at h ⊢
   have e2:∀σ,Cv E (orc o.dst) o.op fr σ=DZ E fr σ o.op:=by
    intro σ;rcases Db hf with⟨t,n,l,h⟩|⟨s,d,x,h,_⟩<;>rw[h]<;>rfl
   rw[e2]at h ⊢;exact Vs ρ (Db hf) h
  ·rw[hf]at h ⊢;have e:∀σ,Fh false σ=some:=fun σ=>by funext r;simp[Fh]
   rw[e]at h ⊢;rw[Bt]at h ⊢;have h1:=Qa (E:=E) (orc:=orc o.dst) (fr:=fr) (σ:=σ) he;have h2:=Qa (E:=E) (orc:=orc o.dst) (fr:=fr) (σ:=ρ) he;rw[hρ,h2,h]at h1;simp only[App]at h1;rw[AoL]at h1;obtain⟨⟨y,ρ'⟩,h3,h4⟩:=h1;simp only at h4;subst h4;rw[h3,Ou he h3]
 ·cases h;rfl
 ·cases h
def Ie(E:Env):Op→Bool
 |.slice t ..=>LC E t
 |_=>false
theorem SL{orc:Option Tmp→Orc}(ha:Ie E o.op=true)(h:DO E orc ops o fr σ=some (x,σ')):σ.map J9=σ'.map J9:=by
 have hf:EI E ops o=false:=by
  cases hf:EI E ops o
  ·rfl
  ·rcases Db hf with⟨t,n,l,h⟩|⟨s,d,x,h,_⟩<;>rw[h]at ha<;>cases ha
 unfold DO at h;rw[hf]at h;have e:∀σ,Fh false σ=some:=fun σ=>by funext r;simp[Fh]
 rw[e,Bt]at h;split at h
 ·cases ho:o.op<;>simp only[ho,Ie]at ha h<;>try (cases ha;done)
  simp only[Cv,DZ,Gk]at h
  repeat' split at h
  all_goals try (cases h;done)
  all_goals try (cases h;rfl)
  all_goals try (
   generalize E.G _=gg at h;generalize E.tab _=tt at h;cases gg<;>cases tt<;>simp only at h<;>try (cases h;done)
   split at h
   ·split at h
    ·cases h;rfl
    ·cases h
   ·cases h
   done)
  cases h;rename_i hσ _ _ _ _ _;rw[ArD];refine(ApI fun i=>?_);rw[Apq];split
  ·rename_i hi;subst hi;simp only[ApP];split
   ·rw[EL,‹σ[_]?=some (ABlk.box _ _)›];rfl
   ·rename_i hn;exact absurd (by simpa using(AoK.1 ‹σ[_]?=some (ABlk.box _ _)›).1) hn
  ·rfl
 ·cases h;rfl
 ·cases h
def mkO(σ:Ab):Option Nat→Ab
 |none=>σ
 |some id=>BP σ id
theorem RK(σ:Ab)(a b:Nat):BP (BP σ a) b=BP (BP σ b) a:=by
 refine ApI fun i=>?_
 simp only[CL];by_cases h1:i=a
 ·by_cases h2:i=b
  ·subst h1;subst h2;rfl
  ·simp only[AoO h1,AoQ h2]
 ·by_cases h2:i=b
  ·simp only[AoQ h1,AoO h2]
  ·simp only[AoQ h1,AoQ h2]
theorem AcL(σ:Ab)(a b:Option Nat):mkO (mkO σ a) b=mkO (mkO σ b) a:=by
 cases a<;>cases b<;>first|rfl|exact RK _ _ _
theorem KO{orc : Option Tmp→Orc}(ha:Ie E o.op=true)(h:DO E orc ops o fr σ=some (x,σ')) :∃m,σ'=mkO σ m∧∀ρ:Ab,ρ.map J9=σ.map J9→DO E orc ops o fr ρ=some (x,mkO ρ m):=by
  have hf:EI E ops o=false:=by
    cases hf:EI E ops o
    · rfl
    · rcases Db hf with⟨t,n,l,h⟩|⟨s,d,x,h,_⟩<;>rw[h]at ha<;>cases ha
  have e:∀σ,Fh false σ=some:=fun σ=>by funext r;simp[Fh]
  unfold DO at h ⊢;rw[hf]at h ⊢;simp only[e,Bt]at h ⊢;split at h
  · cases ho:o.op<;>simp only[ho,Ie]at ha h<;>try (cases ha;done)
    rename_i t y lo hi mx;simp only[Cv,DZ]at h ⊢;unfold LC at ha;cases ht:E.tab t with
    |none=>simp[ht]at ha
    | some d=>
      obtain⟨desc,sz,bt,z⟩:=d;rw[ht]at ha;cases desc<;>simp only at ha<;>try (cases ha;done)
      rename_i n e2;unfold Gk at h ⊢;simp only[ht]at h ⊢;generalize ev fr y=yv at h ⊢;cases yv<;>simp only at h ⊢<;>try (cases h;done)
      case glob gi=>
        refine⟨none,?_,fun ρ _=>?_⟩
        · repeat' split at h
          all_goals try (cases h;done)
          all_goals (cases h;rfl)
        · repeat' split at h
          all_goals try (cases h;done)
          all_goals (cases h;simp_all [mkO])
      rename_i id off;cases hσ:σ[id]? with
      |none=>simp[hσ]at h
      | some b=>
        cases b with
        |buf=>simp[hσ]at h
        |obj o=>simp[hσ]at h
        |mp es=>simp[hσ]at h
        |lp y N1 l1 ps as1 bd=>simp[hσ]at h
        |gone=>simp[hσ]at h
        |tb T l=>simp[hσ]at h
        | box cs ro=>
          cases hte:E.tab e2 with
          |none=>simp[hσ,hte]at h
          | some de=>
            simp only[hσ,hte]at h;split at h
            case isFalse=>cases h
            rename_i hc;split at h
            case h_2=>cases h
            rename_i l h1 f1 hb;cases h;refine⟨some id,?_,fun ρ hρ=>?_⟩
            · show _=BP σ id
              unfold BP;rw[hσ]
            · have h2:(ρ[id]?).map J9=(σ[id]?).map J9:=by rw[←EL,←EL,hρ]
              rw[hσ]at h2;cases hρ2:ρ[id]? with
              |none=>rw[hρ2]at h2;cases h2
              | some b2=>
                rw[hρ2]at h2;cases b2 with
                |buf=>cases h2
                |obj o=>cases h2
                |mp es=>cases h2
                |lp y N1 l1 ps as1 bd=>cases h2
                |gone=>cases h2
                |tb T l=>cases h2
                | box cs2 ro2=>
                  simp only[App,J9,AoM,ABlk.box.injEq,Ara]at h2;subst h2;simp only[hρ2,hte,AoO hc,hb];show _=some (_,BP ρ id);unfold BP;rw[hρ2]
  · cases h;exact⟨none,rfl,fun ρ _=>rfl⟩
  · cases h
def Ji(E:Env)(ops:Array Oper)(x y:Oper):Bool :=
 x.apart ops y&&((!(OQ E ops x&&FL E y.op)&&!(OQ E ops y&&FL E x.op))||(Qq y.op&&!OQ E ops x)||(Ie E y.op&&!OQ E ops x)||(Ie E x.op&&!OQ E ops y)||(Ie E x.op&&Ie E y.op))
theorem SS(h:FL E op=false):OT E op=false:=by
 cases op<;>simp only[FL,OT]at h ⊢<;>try (first|assumption|(cases h;done))
 case call c=>
  cases hc:c.callee<;>rw[hc]at h<;>try (cases h;done)
  rename_i b;cases b<;>first|rfl|(cases h;done)
theorem Rx(h:FL E o.op=false):OQ E ops o=false:=by
 unfold OQ;rw[SS h];rfl
theorem IY{orc:Option Tmp→Orc}{x y:Oper}{st1 st2:St}(hc:Ji E ops x y=true)(h1:BU E orc ops x st=some st1)(h2:BU E orc ops y st1=some st2) :∃st3,BU E orc ops y st=some st3∧BU E orc ops x st3=some st2:=by
  simp only[Ji,Apb,Apu,AqJ,Ap7]at hc;obtain⟨hap,hcase⟩:=hc;obtain⟨a1,a2,a3⟩:=Oper.apart_spec hap;unfold BU at h1 h2 ⊢;rw[AoL]at h1 h2;obtain⟨⟨v,σ1⟩,hv,rfl⟩:=h1;obtain⟨⟨u,σ2⟩,hu,rfl⟩:=h2;simp only at hu ⊢;rw[B1 a1]at hu
  have fin:∀σ3,DO E orc ops y st.fr st.σ=some (u,σ3)→DO E orc ops x st.fr σ3=some (v,σ2) →
      ∃st3,(DO E orc ops y st.fr st.σ).map (fun r=>(⟨AM st.fr y.dst r.1,r.2⟩:St))=some st3∧(DO E orc ops x st3.fr st3.σ).map (fun r=>(⟨AM st3.fr x.dst r.1,r.2⟩:St))=some ⟨AM (AM st.fr x.dst v) y.dst u,σ2⟩:=by
    intro σ3 hy hx;refine⟨⟨AM st.fr y.dst u,σ3⟩,by rw[hy];rfl,?_⟩;simp only;rw[B1 a3,hx];simp only[App,Do st.fr v u a2]
  rcases hcase with(((⟨e1,e2⟩|⟨hal,ex⟩)|⟨hal,ex⟩)|⟨hal,ey⟩)|⟨hax,hay⟩
  case inr=>
    obtain⟨m,rfl,_⟩:=KO hax hv
    have hun:∀(σ:Ab) (m:Option Nat),(mkO σ m).map J9=σ.map J9:=by
      intro σ m;cases m with
      |none=>rfl
      | some id=>
        refine ApI fun i=>?_
        rw[EL,EL];show((BP σ id)[i]?).map J9=_;rw[CL];split
        · cases σ[i]? with
          |none=>rfl
          |some b=>cases b<;>rfl
        · rfl
    obtain⟨m2,rfl,h2⟩:=KO hay hu;obtain⟨m1,e1,h1⟩:=KO hax hv;refine fin (mkO st.σ m2) (h2 st.σ (hun _ _).symm) ?_;rw[h1 _ (hun _ _),e1,AcL]
  case inl.inl.inr=>
    obtain rfl:=CC ex hv;exact fin _ hu (Tb (SL hal hu) ex hv)
  case inl.inr=>
    obtain rfl:=CC ey hu;exact fin _ (Tb (SL hal hv).symm ey hu) hv
  case inl.inl.inl.inr=>
    obtain rfl:=CC ex hv;obtain⟨bs,rfl⟩:=XR hal hu;exact fin _ hu (AaJ bs ex hv)
  rcases e1 with ex|ty
  · obtain rfl:=CC ex hv
    rcases e2 with ey|tx
    · obtain rfl:=CC ey hu
      exact fin _ hu hv
    · refine fin _ hu ?_
      rw[LD (σ:=st.σ) tx,hv];rfl
  · have ey:OQ E ops y=false:=Rx ty
    obtain rfl:=CC ey hu;rw[LD (σ:=st.σ) ty,AoL]at hu;obtain⟨⟨u',σ'⟩,hy,he⟩:=hu;simp only[AoV]at he;obtain⟨rfl,_⟩:=he;obtain rfl:=CC ey hy;exact fin _ hy hv
def LW(B:Base)(orc:Orc):Prop:=(∀f args r,orc.fz f args=some r→Con B f args [] (fun r' σ'=>r'=r∧σ'=[])) ∧
 ∀f args σ r σ',orc.own f args σ=some (r,σ')→∀F:Addr→Prop,Tj (B.env F) f args σ r σ'
theorem AdY{orc:Orc}(hO:LW E.toBase orc)(hop:o.op=.call c)(h:AdM orc st.fr st.σ c=some r) {a:Act} {w:World} {g:Gh} (hr:Rel E w g st a) {next:Act→World→Prop} {Q:Exit→Act→World→Prop} (hk:∀a' w' g',Rel E w' g' ⟨AM st.fr o.dst r.1,r.2⟩ a'→Evo E 0 w g w' g'→GLe g g'→next a' w'):o.wp E.P a w next Q:=by
 unfold AdM at h;split at h
 case h_2=>cases h
 rename_i f hc;split at h
 case h_2=>cases h
 rename_i fid hf;exact UV hop hc hf (Vr (hO.2 _ _ _ r.1 r.2 h E.F)) hr hk
theorem AcZ(hE:E.Ok){orc:Orc}(hO:LW E.toBase orc)(h:Cv E orc o.op st.fr st.σ=some r) {a:Act} {w:World} {g:Gh} (hr:Rel E w g st a) {next:Act→World→Prop} {Q:Exit→Act→World→Prop} (hk:∀a' w' g',Rel E w' g' ⟨AM st.fr o.dst r.1,r.2⟩ a'→Evo E 0 w g w' g'→GLe g g'→next a' w'):o.wp E.P a w next Q:=by
  have plain:DZ E st.fr st.σ o.op=some r→o.wp E.P a w next Q:=by
    intro h;obtain⟨v,w',g',h1,h2,h3,h4,h5⟩:=Lw (x:=r.1) (σ':=r.2) hE hr h;unfold Oper.wp;exact QE h1 (hk _ w' g' (EJ (Ho hr h2 h3 h4) o.dst h5) h4 h3)
  cases hop:o.op with
  | call c=>
    simp only[hop,Cv]at h;cases hc:c.callee<;>simp only[hc]at h
    case builtin b=>exact plain (by rw[hop];exact h)
    all_goals (split at h;· exact AdY hO hop h hr hk)
    all_goals try (simp[Lj,hc]at h;done)
    rename_i f _;rw[AoL]at h;obtain⟨r1,h,rfl⟩:=h;unfold Lj at h;simp only[hc]at h;split at h
    case h_2=>cases h
    rename_i fid hf;split at h
    case h_2=>cases h
    rename_i args ha;split at h
    case h_2=>cases h
    rename_i r2 ho;split at h
    case isFalse=>cases h
    rename_i hs;cases h;rcases hs with hs|hs
    · exact Jk hop hc hf ha hs ((hO.1 _ _ _ ho).mono fun _ _ h=>h.1) hr hk
    · refine GH hop hc hf ha (hO.1 _ _ _ ho) hr ?_
      rw[hs];exact hk
  |_=>exact plain (by rw[hop];simp only[hop]at h;exact h)
theorem Ahe(hE:E.Ok)(hf:(∃t n l,o.op=.buildSlice t n l)∨(∃s d x,o.op=.convert s d x∧DA E d=true)) (h:(DZ E st.fr st.σ o.op).bind (Hu st.σ)=some r) {a:Act} {w:World} {g:Gh} (hr:Rel E w g st a) {next:Act→World→Prop} {Q:Exit→Act→World→Prop} (hk:∀a' w' g',Rel E w' g' ⟨AM st.fr o.dst r.1,r.2⟩ a'→Evo E 0 w g w' g'→GLe g g'→next a' w'):o.wp E.P a w next Q:=by
 rw[AoW]at h;obtain⟨⟨x,σ'⟩,h1,h2⟩:=h;obtain⟨y,σ2⟩:=r
 have hp:∃bs,σ'=st.σ++bs:=by
  rcases hf with⟨t,n,l,e⟩|⟨s,d,z,e,_⟩
  ·rw[e]at h1;simp only[DZ,CI]at h1
   repeat' split at h1
   all_goals try (cases h1;done)
   cases h1;exact⟨_,rfl⟩
  ·rw[e]at h1;simp only[DZ,Bg]at h1
   repeat' split at h1
   all_goals try (cases h1;done)
   all_goals (cases h1;first|exact⟨_,rfl⟩|exact⟨[],by simp⟩)
 obtain⟨v,w',g',k1,k2,k3,k4,k5⟩:=Lw (x:=x) (σ':=σ') hE hr h1;obtain⟨rfl,m2,m3,m4,m5⟩:=UH hr.mem hp h2 k2 k3 k4 k5;unfold Oper.wp;exact QE k1 (hk _ w' _ (EJ (Ho hr m2 m3 m4) o.dst m5) m4 m3)
theorem ZN(hE:E.Ok){orc:Option Tmp→Orc}(hO:∀d,LW E.toBase (orc d))(h:(Cv E (orc o.dst) o.op st.fr st.σ).bind (Fh (EI E ops o) st.σ)=some r) {a:Act} {w:World} {g:Gh} (hr:Rel E w g st a) {next:Act→World→Prop} {Q:Exit→Act→World→Prop} (hk:∀a' w' g',Rel E w' g' ⟨AM st.fr o.dst r.1,r.2⟩ a'→Evo E 0 w g w' g'→GLe g g'→next a' w'):o.wp E.P a w next Q:=by
  cases hf:EI E ops o with
  | true=>
    have e:∀σ,Fh true σ=Hu σ:=fun σ=>by funext r;simp[Fh]
    have e2:Cv E (orc o.dst) o.op st.fr st.σ=DZ E st.fr st.σ o.op:=by
      rcases Db hf with⟨t,n,l,h⟩|⟨s,d,x,h,_⟩<;>rw[h]<;>rfl
    rw[hf,e,e2]at h;exact Ahe hE (Db hf) h hr hk
  | false=>
    have e:∀σ,Fh false σ=some:=fun σ=>by funext r;simp[Fh]
    rw[hf,e,Bt]at h;exact AcZ hE (hO _) h hr hk
theorem JU(hE:E.Ok){orc:Option Tmp→Orc}(hO:∀d,LW E.toBase (orc d))(hi:ops[i]?=some o)(h:BU E orc ops o st=some st') {a:Act} {w:World} {g:Gh} (hr:Rel E w g st a) {next:Act→World→Prop} {Q:Exit→Act→World→Prop} (hk:∀a' w' g',Rel E w' g' st' a'→Evo E 0 w g w' g'→GLe g g'→next a' w'):wpOp E.P ops Q i next a w:=by
  unfold BU at h;rw[AoL]at h;obtain⟨⟨x,σ'⟩,hv,rfl⟩:=h;unfold wpOp;simp only[hi];unfold DO Iw at hv;cases hg:o.guard with
  | none=>
    simp only[hg]at hv;simp only[Region.wanted,hg,Aqe];exact .inl (ZN hE hO hv hr hk)
  | some p=>
    obtain⟨j,want⟩:=p;simp only[hg]at hv;cases hy:K0 ops st.fr j with
    |none=>simp[hy]at hv
    | some b=>
      simp only[Region.wanted,hg,Ih hr hy];simp only[hy,App]at hv;by_cases e:b=some want
      · rw[AoO (by simp[e])]
        rw[show(b==some want)=true by simp[e]]at hv;exact .inl (ZN hE hO hv hr hk)
      · rw[AoQ (by simp[e])]
        rw[show(b==some want)=false by simp[e]]at hv;cases hv;exact hk _ w g (EJ hr o.dst (O5 _ _ _)) (Evo.refl _ _ _ _) (GLe.refl _)
def CS(ops:Array Oper)(i:Nat):List Nat:=match ops[i]? with
 |some o=>(o.after.toList.filter (Region.binds .any)).map (·.on)
 |none=>[]
def E7(ops:Array Oper)(T:List (List Nat)):Bool :=
 (List.range ops.size).all fun i=>(CS ops i).all (·<i)&&(T.getD i []).all fun j=>(CS ops i).contains j||(CS ops i).any fun k=>(T.getD k []).contains j
def GY(E:Env)(ops:Array Oper)(T:List (List Nat)):Bool :=
 (List.range ops.size).all fun i=>(List.range i).all fun j=>(T.getD i []).contains j||(match ops[j]?,ops[i]? with
  |some x,some y=>Ji E ops x y
  |_,_=>false)
theorem Fg{orc:Option Tmp→Orc}{ops:Array Oper}{i:Nat}{y:Oper}(hi:ops[i]?=some y){l2:List Nat}{st':St}:∀(l1:List Nat) (st:St),(∀j∈l1,∀x,ops[j]?=some x→Ji E ops x y=true)→AY E orc ops (l1++i::l2) st=some st' →∃st1,BU E orc ops y st=some st1∧AY E orc ops (l1++l2) st1=some st'
  | [],st,_,h=>by
    simp only[ApC,AY,hi]at h;rw[AoW]at h;exact h
  | j :: l1,st,hc,h=>by
    simp only[Ao5,AY]at h;cases hj:ops[j]? with
    |none=>simp[hj]at h
    | some x=>
      simp only[hj]at h;rw[AoW]at h;obtain⟨s1,h1,h⟩:=h;obtain⟨s2,h2,h⟩:=Fg hi l1 s1 (fun k hk=>hc k (Api _ hk)) h;obtain⟨s3,h3,h4⟩:=IY (hc j Ao2 x hj) h1 h2;refine⟨s3,h3,?_⟩;simp only[Ao5,AY,hj,h4,AoP];exact h
theorem A5{p:Nat→Bool}(h:(List.range n).all p=true)(hi:i<n):p i=true :=
 AoZ.1 h i (Apz.2 hi)
theorem Cj(h:E7 ops T=true)(hi:i<ops.size){d:Nat}(hd:d∈CS ops i):d<i:=by
 have:=A5 h hi;simp only[Apb,AoZ,Apj]at this;exact this.1 d hd
theorem D0(h:E7 ops T=true){rem:List Nat} (hdown:∀k,k<ops.size→k ∉ rem→∀d∈CS ops k,d ∉ rem):∀(i:Nat),i<ops.size→(∀d∈CS ops i,d ∉ rem)→∀j∈T.getD i [],j ∉ rem:=by
  intro i
  induction i using Nat.strongRecOn with
  | _ i ih=>
    intro hi hd j hj;have hh:=A5 h hi;simp only[Apb,AoZ,Apu,Apf,List.any_eq_true,Apj]at hh;rcases hh.2 j hj with hj|⟨k,hk,hkj⟩
    · exact hd j hj
    · have hki:=hh.1 k hk
      have hks:=Aqh hki hi;exact ih k hki hks (hdown k hks (hd k hk)) j hkj
theorem CV(hi:ops[i]?=some o){d:Nat}:d∈CS ops i↔∃e∈o.after,Region.binds .any e=true∧e.on=d:=by
 simp only[CS,hi,ApT,List.mem_filter,Array.mem_toList_iff];constructor
 ·rintro⟨e,⟨h1,h2⟩,h3⟩;exact⟨e,h1,h2,h3⟩
 ·rintro⟨e,h1,h2,h3⟩;exact⟨e,⟨h1,h2⟩,h3⟩
theorem Xb(hE:E.Ok){orc:Option Tmp→Orc}(hO:∀d,LW E.toBase (orc d))(hc:E7 ops T=true)(hm:GY E ops T=true){Q:Exit→Act→World→Prop} :∀ (fuel:Nat) (rem:List Nat) (listed:Array Bool) (st:St) (a:Act) (w:World) (g:Gh),rem.length=fuel→rem.Pairwise (·<·)→listed.size=ops.size →(∀j,listed.getD j true=false↔j∈rem)→(∀k,k<ops.size→k ∉ rem→∀d∈CS ops k,d ∉ rem) →AY E orc ops rem st=some st'→Rel E w g st a→(∀a' w' g',Rel E w' g' st' a'→Evo E 0 w g w' g'→GLe g g'→Q .normal a' w') →wpAny E.P .any ops Q fuel listed a w:=by
  have hin:∀(rem:List Nat) (listed:Array Bool),listed.size=ops.size→(∀j,listed.getD j true=false↔j∈rem)→∀j∈rem,j<ops.size:=by
    intro rem listed hs hl j hj;have:=(hl j).2 hj;by_cases e:j<listed.size
    · omega
    · simp[Array.getD,e]at this
  have hgd:∀(rem:List Nat) (listed:Array Bool),listed.size=ops.size→(∀j,listed.getD j true=false↔j∈rem)→∀d,d<ops.size→(listed.getD d false=true↔d ∉ rem):=by
    intro rem listed hs hl d hd
    have h1:listed.getD d false=listed.getD d true:=by
      have:d<listed.size:=by omega
      simp[Array.getD,this]
    rw[h1,←hl d];cases listed.getD d true<;>simp
  have hrd:∀(rem:List Nat) (listed:Array Bool),listed.size=ops.size→(∀j,listed.getD j true=false↔j∈rem)→∀i,
      (i∈Region.ready .any ops listed↔i∈rem∧∀d∈CS ops i,d ∉ rem):=by
    intro rem listed hs hl i;rw[mem_ready,hl i];constructor
    · rintro⟨h1,o,ho,h2⟩
      refine⟨h1,fun d hd=>?_⟩;have hlt:=Cj hc (hin rem listed hs hl i h1) hd;have hds:=Aqh hlt (hin rem listed hs hl i h1);obtain⟨e,he,hb,rfl⟩:=(CV ho).1 hd;exact(hgd rem listed hs hl _ hds).1 (h2 e he hb)
    · rintro⟨h1,h2⟩
      have hi:=hin rem listed hs hl i h1;refine⟨h1,ops[i],Ao1 hi,fun e he hb=>?_⟩;have hd:e.on∈CS ops i:=(CV (Ao1 hi)).2 ⟨e,he,hb,rfl⟩;exact(hgd rem listed hs hl _ (Aqh (Cj hc hi hd) hi)).2 (h2 _ hd)
  have hdone:∀(rem:List Nat) (listed:Array Bool),rem.Pairwise (·<·)→listed.size=ops.size→(∀j,listed.getD j true=false↔j∈rem)→Region.ready .any ops listed=[]→rem=[]:=by
    intro rem listed hp hs hl hr;cases rem with
    |nil=>rfl
    | cons i r=>
      have hi:i∈Region.ready .any ops listed:=(hrd _ listed hs hl i).2 ⟨Ao2,fun d hd hm=>by
        have:=Cj hc (hin _ listed hs hl i Ao2) hd;rcases Ao9.1 hm with rfl|hm
        · omega
        · have:=Apc hp hm
          omega⟩
      rw[hr]at hi;cases hi
  intro fuel
  induction fuel with
  | zero=>
    intro rem listed st a w g hf hp hs hl hd hst hr hq;have:rem=[]:=Ao6.1 hf;subst this;simp only[AY,AoM]at hst;subst hst;refine⟨?_,hq a w g hr (Evo.refl _ _ _ _) (GLe.refl _)⟩;rw[Aqp];intro i hi;have:=((hrd _ listed hs hl i).1 hi).1;cases this
  | succ fuel ih=>
    intro rem listed st a w g hf hp hs hl hd hst hr hq;refine⟨fun h=>?_,fun i hi=>?_⟩
    · have:=hdone rem listed hp hs hl h
      subst this;simp at hf
    · obtain⟨hir,hid⟩:=(hrd rem listed hs hl i).1 hi
      have his:=hin rem listed hs hl i hir;obtain⟨l1,l2,rfl⟩:=AqU hir;have hp':=hp;rw[Apl]at hp';obtain⟨p1,p2,p3⟩:=hp'
      have hnd:∀j∈l1++l2,j≠i:=by
        intro j hj;rcases Ao8.1 hj with hj|hj
        · have:=p3 j hj i Ao2;omega
        · have:=Apc p2 hj;omega
      have hmem:∀j,j∈l1++l2↔j∈l1++i::l2∧j≠i:=by
        intro j;constructor
        · intro hj
          refine⟨?_,hnd j hj⟩;simp only[Ao8,Ao9]at hj ⊢;rcases hj with hj|hj
          · exact .inl hj
          · exact .inr (.inr hj)
        · rintro⟨hj,hne⟩
          simp only[Ao8,Ao9]at hj ⊢;rcases hj with hj|hj|hj
          · exact .inl hj
          · exact(hne hj).elim
          · exact .inr hj
      have hcm:∀j∈l1,∀x,ops[j]?=some x→Ji E ops x ops[i]=true:=by
        intro j hj x hx;have hji:j<i:=p3 j hj i Ao2;have h1:=A5 (A5 hm his) hji;simp only[Apu,Apf]at h1;rcases h1 with h1|h1
        · exact(D0 hc hd i his hid j h1 (ApU _ hj)).elim
        · simp only[hx,Ao1 his]at h1
          exact h1
      obtain⟨st1,h1,h2⟩:=Fg (Ao1 his) l1 st hcm hst;refine JU hE hO (Ao1 his) h1 hr fun a1 w1 g1 hr1 he1 hg1=>?_
      refine ih (l1++l2) (listed.setIfInBounds i true) st1 a1 w1 g1 ?_ ?_ ?_ ?_ ?_ h2 hr1 ?_
      · simp at hf ⊢;omega
      · exact hp.sublist (Aqr (Aqz i l2) l1)
      · simp[hs]
      · intro j
        rw[hmem j,←hl j];by_cases e:j=i
        · subst e
          have:j<listed.size:=by omega
          simp[Array.getD,this]
        · rw[getD_set_ne true (fun h=>e h.symm)]
          simp[e]
      · intro k hk hkn d hdk hdm
        have hd2:=((hmem d).1 hdm).1;by_cases e:k=i
        · subst e
          exact hid d hdk hd2
        · exact hd k hk (fun h=>hkn ((hmem k).2 ⟨h,e⟩)) d hdk hd2
      · intro a' w' g' hr' he' hg'
        exact hq a' w' g' hr' (he1.trans he') (hg1.trans hg')
theorem IV{w':World}{a:Act}(hr:Rel E w g st a)(h:SameMem w w'):Rel E w' g st a :=
 ⟨hr.size,fun t x hx=>QD h (hr.slot t x hx),hr.mem.same h,hr.defers.evo (n:=0) (Evo.same h)⟩
theorem OJ(hE:E.Ok){orc:Option Tmp→Orc}(hO:∀d,LW E.toBase (orc d))(hP:E.P.follows .mixedOrders=true){l:List Oper}(T:List (List Nat))(hok1:E7 l.toArray T=true)(hok2:GY E l.toArray T=true){K:Cl} (hst:AY E orc l.toArray (List.range l.length) st=some st') (hk:K .normal st'):Run E n (.region id l.toArray true) st K:=by
 intro hcm a w g hr Q hq;refine IU (JE hcm) (wp_region_any hP ?_);have hsm:SameMem w { w with drawn:=w.drawn+1 }:=⟨rfl,rfl,rfl,rfl⟩;refine Xb hE hO hok1 hok2 l.toArray.size (List.range l.length) _ st a _ g (by simp) Aqk (by simp) ?_ ?_ hst (IV hr hsm) ?_
 ·intro j;rw[Apz];by_cases h:j<l.length<;>simp[Array.getD,h]
 ·intro k hk hkn;exact(hkn (Apz.2 (by simpa using hk))).elim
 ·intro a' w' g' hr' he hg;exact hq _ _ _ _ _ hk hr' ((Evo.same hsm).trans (he.of_gle hg))
end Go.Rv
