/-
  Part 16.
-/
import Derived.Test.YtldngkmkhfddpaaGreatDoorYV15
import Derived.Scope
namespace Go.Rv
set_option linter.unusedVariables false
set_option linter.unusedSimpArgs false
variable{orc:Option Tmp->Orc}{n m id:Nat}{O O':Ad}{K:CX}{l:List Oper}
variable {E:Env}
abbrev Fr:=List (Nat×AV)
def look:Fr->Nat->AV
 |[],_=>.junk
 |p::l,t=>if t=p.1 then p.2 else look l t
def Al(n:Nat)(l:Fr):List AV:=(List.range n).map (look l)
theorem BS(n:Nat)(l:Fr)(t:Nat):(Al n l)[t]?=if t<n then some (look l t)else none:=by
 unfold Al;rw[Apw];by_cases h:t<n
 ·rw[AqT h,Ao4 h];rfl
 rw[Ao6 h,Aqe (by simp;omega)];rfl
def evL(n:Nat)(l:Fr):Operand->AV
 |.tmp t=>if t<n then look l t else .junk
 |.const v=>OV v
 |.global g=>.glob g
 |.func f=>.fn f []
theorem CS(n:Nat)(l:Fr):ev (Al n l)=evL n l:=by
 funext x;cases x with
 |tmp t=>
  simp only[ev,evL,List.getD,BS];split<;>rfl
 |_=>rfl
def put(d:Option Tmp)(x:AV)(l:Fr):Fr :=
 match d with
 |some t=>(t,x)::l
 |none=>l
theorem EJ(n:Nat)(l:Fr)(d:Option Tmp)(x:AV):Ay (Al n l) d x=Al n (put d x l):=by
 cases d with
 |none=>rfl
 | some t=>
  refine Ap2 fun s=>?_
  simp only[Ay,put,ApO,BS];have hlen:(Al n l).length=n:=by simp[Al]
  rw[hlen];by_cases h:t=s
  ·subst h;simp only[ApL,look]
  rw[Ao6 h];simp only[look];by_cases hs:s<n
  ·rw[Ao4 hs,Ao4 hs,Ao6 (fun e=>h (Eq.symm e))]
  rw[Ao6 hs,Ao6 hs]
def keep(ts:List Nat)(l:Fr):Fr:=ts.map fun t=>(t,look l t)
theorem ZD(ts:List Nat)(l:Fr)(t:Nat):look (keep ts l) t=.junk\/look (keep ts l) t=look l t:=by
 induction ts with
 |nil=>exact .inl rfl
 | cons s ts ih=>
  show(if t=s then look l s else look (keep ts l) t)=.junk\/_;by_cases h:t=s
  ·subst h;right;show(if t=t then look l t else look (keep ts l) t)=_;rw[Ao4 rfl]
  have e:look (keep (s::ts) l) t=look (keep ts l) t:=by show(if t=s then look l s else look (keep ts l) t)=_;rw[Ao6 h]
  rw[e,Ao6 h];exact ih
def Nc(E:Env)(ρ:Operand->AV)(O:Ad)(op:Op):Option (AV×Ad) :=
 match op with
 |.move x|.assign x=>some (ρ x,O)
 |.pick c a b=>match ρ c with
  |.bool t=>some (if t then ρ a else ρ b,O)
  |_=>none
 |.alloc t=>match E.tab t with
  |some d=>if d.size=0 then none else if E.bty=some t then some (.tref O.length t,O++[.box (d.zero.map (Ho O.length)) false])else some (.ref O.length 0,O++[.box d.zero false])
  |none=>none
 |.box t x=>match(ρ x).cells? with
  |some xs=>if xs=[]then none else some (.ref O.length 0,O++[.box xs false])
  |none=>none
 |.build t parts=>(SQ E t (parts.toList.map fun(i,x)=>(i,ρ x))).map fun x=>(x,O)
 |.buildSlice t len parts=>C6 E O t len (parts.toList.map fun(i,x)=>(i,ρ x))
 |.load t a=>match E.tab t with
  |some d=>(loadA E O d (ρ a)).map fun x=>(x,O)
  |none=>none
 |.store t a x=>match E.tab t with
  |some d=>(storeA O d (ρ a) (ρ x)).map fun O'=>(.junk,O')
  |none=>none
 |.nilCheck x=>match ρ x with
  |.ref id off=>some (.ref id off,O)
  |.tref id t=>some (.tref id t,O)
  |.rp cs=>some (.rp cs,O)
  |.glob g=>some (.glob g,O)
  |.fn f cs=>some (.fn f cs,O)
  |_=>none
 |.binOp op t x y _=>(goB (O7 y) (WT E op t (ρ x)) (BD E op t (ρ x) (ρ y))).map fun v=>(v,O)
 |.unOp op _ x=>(Vv op (ρ x)).map fun v=>(v,O)
 |.convert s d x=>CB E O s d (ρ x)
 |.slice t x lo hi mx=>Gi E O t (ρ x) (lo.map ρ) (hi.map ρ) (mx.map ρ)
 |.fieldAddr s x f=>(AX E O s (ρ x) f).map fun v=>(v,O)
 |.field s x f=>(T7 E s (ρ x) f).map fun v=>(v,O)
 |.indexAddr t x i=>(Ao E O t (ρ x) (ρ i)).map fun v=>(v,O)
 |.index t x i=>(JH E t (ρ x) (ρ i)).map fun v=>(v,O)
 |.sliceToArrayPointer t x=>(Rk E t (ρ x)).map fun v=>(v,O)
 |.typeAssert x _ t ok=>(MJ E (ρ x) t ok).map fun v=>(v,O)
 |.makeSlice t l c=>E5 E O t (ρ l) (ρ c)
 | .makeFunc fn first caps=>match fn with
  |.func f=>if first.toList=[]then(match caps.toList.map ρ with
   |[.tup _]=>none
   |cs=>some (.fn f cs,O))else if caps.toList=[]then some (.fn f [.tup (first.toList.map ρ)],O)else none
  |_=>none
 | .makeInterface t x=>match E.tab t with
  |some d=>match d.desc with
   |.interface _=>none
   |_=>some (.iface t (ρ x),O)
  |none=>none
 |.lookup t x k ok=>(Gs E O t (ρ x) (ρ k) ok).map fun v=>(v,O)
 |.makeMap t none=>some (.mref O.length,O++[if(E.mp t).isSome=true then .mp (OZ E t) (mp0 t)else .obj (.map #[] 0)])
 |.mapUpdate t m k x=>(LM E O t (ρ m) (ρ k) (ρ x)).map fun O'=>(.junk,O')
 |.insert t m k x=>(P2 E O t (ρ m) (ρ k) (ρ x)).map fun O'=>(.junk,O')
 |.range t x=>match X2 E t,ρ x with
  |true,.str s=>some (.ref O.length 0,O++[.obj (.stringIter ⟨s.toArray⟩ 0)])
  |_,_=>none
 | .next it true=>match ρ it with
  |.ref id 0=>match O[id]? with
   |some (.obj (.stringIter s pos))=>if pos<s.size then some (.tup [.bool true,.int .i64 (pos:Int),.int .i32 (Utf8.decode s pos).1],O.set id (.obj (.stringIter s (pos+(Utf8.decode s pos).2))))else some (.tup [.bool false],O)
   |_=>none
  |_=>none
 | .extract x i=>match ρ x with
  |.tup vs=>match vs[i]? with
   |some v=>some (v,O)
   |none=>none
  |_=>none
 |.call c=>match c.callee with
  |.builtin b=>Ba E O b c.argTypes.toList (c.args.toList.map ρ)
  |_=>none
 |_=>none
theorem RW(fr:List AV)(O:Ad)(op:Op):Ec E fr O op=Nc E (ev fr) O op:=by cases op<;>rfl
def fzL(O:Ad):List AV->Option (List AV)
 |[]=>some []
 |x::l=>(fz O x).bind fun y=>(fzL O l).bind fun ys=>some (y::ys)
theorem Xz(O:Ad):∀l:List AV,l.mapM (fz O)=fzL O l
 |[]=>rfl
 |x::l=>by rw[Aqu,Xz O l];rfl
def Xx(r:AV)(dr:Bool)(O:Ad)(ids:List Nat):Option (AV×Ad) :=
 if r.scalar=true then some (r,O)else if ids=[]then some (r,O)else if dr then none else some (r,E0 O ids)
def Z9(orc:Orc)(dr:Bool)(ρ:Operand->AV)(O:Ad)(c:Call):Option (AV×Ad) :=
 match c.callee with
 | .value f=>match ρ f with
  | .fn fid []=>match fzL O (c.args.toList.map ρ)with
   |some args=>match orc.fz fid args with
    |some r=>Xx r dr O ((c.args.toList.map ρ).flatMap Cb)
    |none=>none
   |none=>none
  |.fn fid [.tup xs]=>match dr with
   |true=>none
   |false=>orc.own fid (xs++c.args.toList.map ρ) O
  |.fn fid cs=>match dr with
   |true=>none
   |false=>orc.own fid (c.args.toList.map ρ++cs) O
  |_=>none
 |_=>none
def ownT(orc:Orc)(ρ:Operand->AV)(O:Ad)(c:Call):Option (AV×Ad) :=
 match c.callee with
 |.value f=>match ρ f with
  |.fn fid []=>orc.own fid (c.args.toList.map ρ) O
  |.fn fid [.tup xs]=>orc.own fid (xs++c.args.toList.map ρ) O
  |.fn fid cs=>orc.own fid (c.args.toList.map ρ++cs) O
  |_=>none
 |_=>none
def WQ(b:Bool)(x y:Option (AV×Ad)):Option (AV×Ad):=match b with
 |true=>x
 |false=>y
def opL(E:Env)(orc:Orc)(dr:Bool)(ρ:Operand->AV)(O:Ad)(op:Op):Option (AV×Ad) :=
 match op with
 |.call c=>match c.callee with
  |.builtin b=>Ba E O b c.argTypes.toList (c.args.toList.map ρ)
  |_=>WQ (Qd E c) (ownT orc ρ O c) (Z9 orc dr ρ O c)
 |op=>Nc E ρ O op
def Qy(ops:Array Oper)(n:Nat)(l:Fr)(j:Nat):Option (Option Bool) :=
 match(ops[j]?).bind (·.dst)with
 |some d=>match evL n l (.tmp d)with
  |.bool b=>some (some b)
  |.tup _=>some none
  |_=>none
 |none=>none
def Qg(ops:Array Oper)(n:Nat)(l:Fr)(o:Oper):Option Bool :=
 match o.guard with
 |none=>some true
 |some (j,want)=>(Qy ops n l j).map (·==some want)
def Ui(n:Nat)(t:Nat)(s:Fr×Ad):Fr×Ad :=
 if t<n then match Cb (look s.1 t)with
  |[]=>s
  |ids=>match fz s.2 (look s.1 t)with
   |some y=>((t,y)::s.1,E0 s.2 ids)
   |none=>s
 else s
def YI(n:Nat):List (Nat×Operand)->Fr×Ad->Fr×Ad
 |[],s=>s
 |p::l,s=>YI n l (match p.2 with
  |.tmp t=>Ui n t s
  |_=>s)
def Js(dr:Bool)(n:Nat)(op:Op)(s:Fr×Ad):Fr×Ad :=
 match dr,op with
 |false,.buildSlice _ _ parts=>YI n parts.toList s
 |_,_=>s
def Qi(E:Env)(orc:Option Tmp->Orc)(dr:Bool)(n:Nat)(ops:Array Oper)(o:Oper)(s:Fr×Ad):Option (Fr×Ad) :=
 match Qg ops n s.1 o with
 |some true=>((opL E (orc o.dst) dr (evL n (Js dr n o.op s).1) (Js dr n o.op s).2 o.op).bind (Fu (dr&&ES E ops o) (Js dr n o.op s).2)).map fun r=>(put o.dst r.1 (Js dr n o.op s).1,r.2)
 |some false=>some (put o.dst (.tup []) s.1,s.2)
 |none=>none
def Ci(E:Env)(orc:Option Tmp->Orc)(dr:Bool)(n:Nat)(ops:Array Oper):List Oper->Fr×Ad->Option (Fr×Ad)
 |[],s=>some s
 |o::l,s=>(Qi E orc dr n ops o s).bind (Ci E orc dr n ops l)
def HT(E:Env)(orc:Option Tmp->Orc)(dr:Bool)(n:Nat)(l:List Oper)(ts:List Nat)(s:Fr×Ad):Option (Fr×Ad) :=
 (Ci E orc dr n l.toArray l s).bind fun r=>some (keep ts r.1,r.2)
theorem L8(ops:Array Oper)(n:Nat)(l:Fr)(j:Nat):Il ops (Al n l) j=Qy ops n l j:=by
 unfold Il Qy;split
 ·rename_i d hd;simp only[hd,BS,evL];by_cases h:d<n
  ·rw[Ao4 h,Ao4 h];cases look l d<;>rfl
  rw[Ao6 h,Ao6 h]
 rename_i hd;simp only[hd]
theorem YE(ops:Array Oper)(n:Nat)(l:Fr)(o:Oper):G9 ops (Al n l) o=Qg ops n l o:=by
 unfold G9 Qg;split
 ·simp_all
 rename_i j w h;simp only[h,L8]
def Hh(B:Base)(orc:Option Tmp->Orc):Prop:=∀d,Pb B (orc d)
theorem MQ(hE:E.Ok){orc:Orc}(hO:Pb E.toBase orc){o:Oper}{fr:Fr}{r:AV×Ad}(h:opL E orc false (evL n fr) O o.op=some r) {a:Act} {w:World} {g:Gh} (hr:Rel E w g ⟨Al n fr,O⟩ a) {next:Act->World->Prop} {Q:Exit->Act->World->Prop} (hk:∀a' w' g',Rel E w' g' ⟨Al n (put o.dst r.1 fr),r.2⟩ a'->Evo E 0 w g w' g'->GLe g g'->next a' w'):o.wp E.P a w next Q:=by
 rw[<-CS]at h;have hk':∀a' w' g',Rel E w' g' ⟨Ay (Al n fr) o.dst r.1,r.2⟩ a'->Evo E 0 w g w' g'->GLe g g'->next a' w':=fun a' w' g' h1 h2 h3=>hk a' w' g' (by rw[EJ]at h1;exact h1) h2 h3
 have plain:Ec E (Al n fr) O o.op=some r->o.wp E.P a w next Q:=by
  intro h;obtain⟨v,w',g',h1,h2,h3,h4,h5⟩:=Kz (x:=r.1) (O':=r.2) hE hr h;unfold Oper.wp;exact Sv h1 (hk' _ w' g' (FQ (IA hr h2 h3 h4) o.dst h5) h4 h3)
 cases hop:o.op with
 | call c=>
  simp only[hop,opL]at h;cases hc:c.callee<;>simp only[hc]at h
  case builtin b=>exact plain (by rw[hop];simp only[Ec,hc];exact h)
  all_goals (cases hown:Qd E c<;>simp only[hown,WQ]at h)
  all_goals try (exact Afg (st:=⟨Al n fr,O⟩) hO hop h hr hk')
  all_goals try (simp[Z9,hc]at h;done)
  rename_i f;unfold Z9 at h;simp only[hc]at h;split at h
  case h_4=>cases h
  case h_3=>
   rename_i fid cs _ hnt hf;exact OS (st:=⟨Al n fr,O⟩) hop hc (fun ys e=>hnt ys e) hf (P8 (hO.2 _ _ _ r.1 r.2 h E.F)) hr hk'
  case h_2=>
   rename_i fid xs hf;exact M7 (st:=⟨Al n fr,O⟩) hop hc hf (P8 (hO.2 _ _ _ r.1 r.2 h E.F)) hr hk'
  rename_i fid hf;split at h
  case h_2=>cases h
  rename_i args ha;rw[<-Xz]at ha;split at h
  case h_2=>cases h
  rename_i r2 ho;unfold Xx at h;split at h
  ·rename_i hs;cases h;exact Lb hop hc hf ha hs ((hO.1 _ _ _ ho).mono fun _ _ h=>h.1) hr hk'
  split at h
  ·rename_i hs;cases h;refine I6 hop hc hf ha (hO.1 _ _ _ ho) hr ?_;rw[hs];exact hk'
  cases h;exact I6 hop hc hf ha (hO.1 _ _ _ ho) hr hk'
 |_=>exact plain (by rw[hop,RW];simp only[hop]at h;exact h)
theorem Z0{w:World}{g:Gh}{s:Fr×Ad}{a:Act}(hr:Rel E w g ⟨Al n s.1,s.2⟩ a)(m t:Nat) :∃g',Rel E w g' ⟨Al n (Ui n t s).1,(Ui n t s).2⟩ a/\Evo E m w g w g':=by
 unfold Ui;split
 case isFalse=>exact⟨g,hr,Evo.refl _ _ _ _⟩
 rename_i htn;split
 ·exact⟨g,hr,Evo.refl _ _ _ _⟩
 rename_i hids;cases hy:fz s.2 (look s.1 t)with
 |none=>exact⟨g,hr,Evo.refl _ _ _ _⟩
 |some y=>
 obtain⟨g1,m1,hle,he,hs,hp⟩:=KO (Cb (look s.1 t)) hr.mem;refine⟨g1,⟨?_,?_,m1,hr.defers.evo he⟩,he.of_gle hle⟩
 ·have:=hr.size;simpa [Al]using this
 intro u x hx;rw[BS]at hx;split at hx
 case isFalse=>cases hx
 rename_i hun;cases hx;show Rep _ _ _ _ (if u=t then y else look s.1 u);have hslot:=hr.slot u (look s.1 u) (by rw[BS,Ao4 hun]);by_cases e:u=t
 ·subst e;rw[Ao4 rfl];refine(OE hr.mem hslot hy hp ?_).mono (fun a u hcc hpr=>⟨hcc,hpr⟩) (GLe.nil _);intro id b hix hb β off hβ hoff;obtain⟨k,els,ro,hO⟩:=TZ hy hix;obtain⟨ro',hO'⟩:=Kw (Cb (look s.1 u)) s.2 id hO;obtain⟨b1,hb1,t1,t2,t3,t4,t5,t6⟩:=hs id b hb;have hro:=LQ (Cb (look s.1 u)) s.2 id (.inl hix) _ _ _ hO';have hbro:b1.ro=true:=by rw[(m1.blk id b1 _ hb1 hO').2.1,hro]
  refine⟨fun hF=>(m1.foreign _ hF).2 ⟨id,b1,hb1,t1.trans hβ⟩,fun id' c hc he'=>?_⟩;have:id'=id:=m1.inj id' id c b1 β hc hb1 he' (t1.trans hβ);subst this;rw[hb1]at hc;cases hc;exact⟨hbro,by rw[t2,t3,t4];exact hoff⟩
 rw[Ao6 e];exact hslot.mono (fun a u hc hpr=>⟨hc,hp a hpr⟩) hle
theorem PC{w:World}{n:Nat}{a:Act}(m:Nat):∀(l:List (Nat×Operand)) (g:Gh) (s:Fr×Ad),Rel E w g ⟨Al n s.1,s.2⟩ a ->∃g',Rel E w g' ⟨Al n (YI n l s).1,(YI n l s).2⟩ a/\Evo E m w g w g'
 |[],g,s,hr=>⟨g,hr,Evo.refl _ _ _ _⟩
 | p::l,g,s,hr=>by
  unfold YI;split
  ·rename_i t ht;obtain⟨g1,h1,e1⟩:=Z0 hr m t;obtain⟨g2,h2,e2⟩:=PC m l g1 _ h1;exact⟨g2,h2,e1.trans e2⟩
  exact PC m l g s hr
theorem Ty{w:World}{g:Gh}{s:Fr×Ad}{a:Act}(hr:Rel E w g ⟨Al n s.1,s.2⟩ a)(m:Nat)(dr:Bool)(op:Op) :∃g',Rel E w g' ⟨Al n (Js dr n op s).1,(Js dr n op s).2⟩ a/\Evo E m w g w g':=by
 unfold Js;split
 ·exact PC m _ g s hr
 exact⟨g,hr,Evo.refl _ _ _ _⟩
theorem JA(hE:E.Ok){orc:Option Tmp->Orc}(hO:Hh E.toBase orc){m n:Nat}{ops:Array Oper}{K:CX}{rest:List Oper}:∀(l:List Oper) (fr:Fr) (O:Ad) (fr':Fr) (O':Ad),Ci E orc false n ops l (fr,O)=some (fr',O')->NG E m ops rest ⟨Al n fr',O'⟩ K->NG E m ops (l++rest) ⟨Al n fr,O⟩ K
 |[],fr,O,fr',O',h,hk=>by
  simp only[Ci,Ao0,Apa]at h;obtain⟨rfl,rfl⟩:=h;exact hk
 | o :: l,fr,O,fr',O',h,hk=>by
  simp only[Ci,Ao3]at h;obtain⟨⟨fr1,σ1⟩,h1,h2⟩:=h;intro hcm a w g hr Q hq;obtain⟨cm1,cm2⟩:=Md hcm;unfold Qi at h1;have efz:∀O,Fu (false&&ES E ops o) O=some:=fun O=>by funext r;simp[Fu]
  rw[efz,Bh]at h1;obtain⟨g1,hr1,he1⟩:=Ty (s:=(fr,O)) hr m false o.op;generalize hfz:Js false n o.op (fr,O)=s1 at h1 hr1
  have hgo:∀{v:AV} {σ2:Ad},opL E (orc o.dst) false (evL n s1.1) s1.2 o.op=some (v,σ2)->fr1=put o.dst v s1.1->σ1=σ2->o.wp E.P a w (wpListIn E.fen 0 E.P ops Q (l++rest)) Q:=by
   intro v σ2 e1 e2 e3;subst e2 e3;refine MQ hE (hO _) e1 hr1 ?_;intro a' w' g' hr' he hg;refine JA (m:=m) hE hO l _ _ _ _ h2 hk cm2 a' w' g' hr' Q ?_;intro ex st' a2 w2 g2 k r e;exact hq ex st' a2 w2 g2 k r (he1.trans ((he.of_gle hg).trans e))
  cases hgd:o.guard with
  |none=>
   simp only[Qg,hgd,AoY,Apa]at h1;obtain⟨⟨v,σ2⟩,e1,e2,e3⟩:=h1;simp only[Apo,wpListIn,Region.wanted,hgd,ApL];exact R9 (hgo e1 e2.symm e3.symm) cm1
  | some jw=>
   obtain⟨j,want⟩:=jw;simp only[Qg,hgd]at h1;cases hy:Qy ops n fr j with
   |none=>simp[hy]at h1
   | some b=>
    simp only[hy,Apz]at h1;have hy':Il ops (Al n fr) j=some b:=by rw[L8,hy]
    simp only[Apo,wpListIn,Region.wanted,hgd,Hg hr hy'];by_cases e:b=some want
    ·rw[Ao4 (by simp[e])];rw[show(b==some want)=true by simp[e]]at h1;simp only[AoY,Apa]at h1;obtain⟨⟨v,σ2⟩,e1,e2,e3⟩:=h1;exact R9 (hgo e1 e2.symm e3.symm) cm1
    rw[Ao6 (by simp[e])];rw[show(b==some want)=false by simp[e]]at h1;simp only[Ao0,Apa]at h1;obtain⟨e2,e3⟩:=h1;subst e2 e3;refine⟨fun _ _=>trivial,JA hE hO l _ _ _ _ h2 hk cm2 _ w g ?_ Q hq⟩;have:=FQ hr o.dst (Kt _ _ _);rw[EJ]at this;exact this
theorem Nd(hE:E.Ok)(hO:Hh E.toBase orc){ops:Array Oper}(l:List Oper)(fr:Fr)(O:Ad)(fr':Fr)(O':Ad) (h:Ci E orc false n ops l (fr,O)=some (fr',O')) (hk:K .normal ⟨Al n fr',O'⟩):NG E m ops l ⟨Al n fr,O⟩ K:=by
 have:=JA (m:=m) (rest:=[]) hE hO l fr O fr' O' h (V5 hk);rwa[Ap3]at this
def Weak(E:Env)(n:Nat)(st st':St):Prop:=∀a w g,Rel E w g st a->∃g',Rel E w g' st' a/\Evo E n w g w g'
theorem Weak.refl(n:Nat)(st:St):Weak E n st st:=fun a w g h=>⟨g,h,Evo.refl _ _ _ _⟩
theorem Weak.trans{n:Nat}{a b c:St}(h:Weak E n a b)(k:Weak E n b c):Weak E n a c:=fun x w g r=>
 let⟨g1,r1,e1⟩:=h x w g r
 let⟨g2,r2,e2⟩:=k x w g1 r1
 ⟨g2,r2,e1.trans e2⟩
theorem EZ{c:Code}{st st':St}(h:Weak E n st st')(hr:Run E n c st' K):Run E n c st K:=by
 intro hcm a w g hrel Q hq;obtain⟨g',h1,h2⟩:=h a w g hrel;exact hr hcm a w g' h1 Q (fun ex st2 a' w' g2 k r e=>hq ex st2 a' w' g2 k r (h2.trans e))
theorem Eh{st st':St}(h:∀a w g,Rel E w g st a->∃g',Rel E w g' st' a/\Evo E n w g w g'):Weak E n st st':=h
theorem Do(n N:Nat)(ts:List Nat)(l:Fr)(O:Ad):Weak E n ⟨Al N l,O⟩ ⟨Al N (keep ts l),O⟩:=by
 refine Eh fun a w g h=>⟨g,⟨?_,?_,h.mem,h.defers⟩,Evo.refl _ _ _ _⟩
 ·have:=h.size;simpa [Al]using this
 intro t x hx;rw[BS]at hx;split at hx
 case isFalse=>cases hx
 rename_i ht;cases hx;rcases ZD ts l t with e|e
 ·rw[e];exact .junk _ _
 rw[e];exact h.slot t _ (by rw[BS,Ao4 ht])
theorem X4(hE:E.Ok)(hO:Hh E.toBase orc){fr fr':Fr}(ts:List Nat) (h:HT E orc false n l ts (fr,O)=some (fr',O')) {y:Code} (hk:Run E m y ⟨Al n fr',O'⟩ K):Run E m (.seq (.region id l.toArray false) y) ⟨Al n fr,O⟩ K:=by
 simp only[HT,Ao3,Ao0,Apa]at h;obtain⟨⟨fr1,σ1⟩,h1,rfl,rfl⟩:=h;exact Hl (GH (Nd hE hO _ _ _ _ _ h1 (EZ (Do _ _ _ _ _) hk)))
theorem IJ{ops:Array Oper}{o:Oper}{fr fr':Fr}(h:Qi E orc true n ops o (fr,O)=some (fr',O')) :B6 E orc ops o ⟨Al n fr,O⟩=some ⟨Al n fr',O'⟩:=by
 unfold Qi at h
 have hfz:Js true n o.op (fr,O)=(fr,O):=by
  unfold Js;split
  ·rename_i h0 _;cases h0
  rfl
 rw[hfz,Bool.true_and]at h;unfold B6 D2;simp only[YE];split at h
 ·rename_i hw;simp only at hw;simp only[hw];simp only[AoY,Apa]at h;obtain⟨⟨v,σ2⟩,e0,rfl,rfl⟩:=h;rw[Ao3]at e0;obtain⟨⟨v1,σ3⟩,e1,e0⟩:=e0
  have : Cl E (orc o.dst) o.op (Al n fr) O=some (v1,σ3):=by
   rw[<-CS]at e1;unfold Cl;unfold opL at e1;split
   ·rename_i c hop;simp only[hop]at e1;split
    ·rename_i b hc;simp only[hc]at e1;simp only[Ec,hop,hc];exact e1
    rename_i hc;split at e1
    ·rename_i b hb;exact(hc b hb).elim
    cases hown:Qd E c
    case true=>
     rw[hown]at e1;rw[Ao4 rfl];exact e1
    rw[hown]at e1;rw[Ao6 (by simp)];simp only[WQ]at e1;unfold Z9 at e1;unfold JB;split at e1
    case h_2=>cases e1
    rename_i f hf;simp only[hf];split at e1
    case h_4=>cases e1
    case h_3=>cases e1
    case h_2=>cases e1
    rename_i fid hfid;simp only[hfid];rw[<-Xz]at e1;split at e1
    case h_2=>cases e1
    rename_i args ha;simp only[ha];split at e1
    case h_2=>cases e1
    rename_i r hr;simp only[hr];unfold Xx at e1;split at e1
    ·rename_i hs;cases e1;rw[Ao4 (.inl hs)];rfl
    split at e1
    ·rename_i hs;cases e1;rw[Ao4 (.inr hs)];rfl
    simp at e1
   rename_i op hop;split at e1
   ·rename_i c hc;exact(hop c hc).elim
   rw[RW];exact e1
  rw[this,ApX,e0];simp only[Apz,EJ]
 ·rename_i hw;simp only at hw;simp only[hw];cases h;simp only[Apz,EJ]
 cases h
theorem EO{orc:Option Tmp->Orc}{n:Nat}{ops:Array Oper}:∀(k:Nat) (l:List Oper) (fr fr':Fr) (O O':Ad),ops.toList.drop k=l ->Ci E orc true n ops l (fr,O)=some (fr',O')->AO E orc ops (List.range' k l.length) ⟨Al n fr,O⟩=some ⟨Al n fr',O'⟩
 |k,[],fr,fr',O,O',hl,h=>by
  simp only[Ci,Ao0,Apa]at h;obtain⟨rfl,rfl⟩:=h;rfl
 | k,o::l,fr,fr',O,O',hl,h=>by
  simp only[Ci,Ao3]at h;obtain⟨⟨fr1,σ1⟩,h1,h2⟩:=h
  have hk:ops[k]?=some o:=by
   have:(ops.toList.drop k)[0]?=some o:=by rw[hl];rfl
   rw[ApC]at this;simpa using this
  have hl':ops.toList.drop (k+1)=l:=by
   rw[<-Asb,hl];rfl
  show AO E orc ops (k::List.range' (k+1) l.length) _=_;unfold AO;simp only[hk,IJ h1,ApX];exact EO (k+1) l _ _ _ _ hl' h2
theorem X1(hE:E.Ok)(hO:Hh E.toBase orc)(hP:E.P.follows .mixedOrders=true)(T:List (List Nat))(hok1:FO l.toArray T=true)(hok2:It E l.toArray T=true){fr fr':Fr}(ts:List Nat) (h:HT E orc true n l ts (fr,O)=some (fr',O')) {y:Code} (hk:Run E m y ⟨Al n fr',O'⟩ K):Run E m (.seq (.region id l.toArray true) y) ⟨Al n fr,O⟩ K:=by
 simp only[HT,Ao3,Ao0,Apa]at h;obtain⟨⟨fr1,σ1⟩,h1,rfl,rfl⟩:=h;refine Hl (OT hE hO hP T hok1 hok2 ?_ ?_ (st':=⟨Al n fr1,σ1⟩))
 ·have:=EO (E:=E) (ops:=l.toArray) 0 l fr fr1 O σ1 (by simp) h1;rw[Ap1];exact this
 exact EZ (Do _ _ _ _ _) hk
theorem AcG(hE:E.Ok)(hO:Hh E.toBase orc){fr fr':Fr} (h:Ci E orc false n l.toArray l (fr,O)=some (fr',O')) (hk:K .normal ⟨Al n fr',O'⟩):Run E m (.region id l.toArray false) ⟨Al n fr,O⟩ K :=
 GH (Nd hE hO _ _ _ _ _ h hk)
theorem Ab4(hE:E.Ok)(hO:Hh E.toBase orc)(hP:E.P.follows .mixedOrders=true)(T:List (List Nat))(hok1:FO l.toArray T=true)(hok2:It E l.toArray T=true){fr fr':Fr} (h:Ci E orc true n l.toArray l (fr,O)=some (fr',O')) (hk:K .normal ⟨Al n fr',O'⟩):Run E m (.region id l.toArray true) ⟨Al n fr,O⟩ K:=by
 refine OT hE hO hP T hok1 hok2 ?_ hk;have:=EO (E:=E) (ops:=l.toArray) 0 l fr fr' O O' (by simp) h;rw[Ap1];exact this
end Go.Rv
