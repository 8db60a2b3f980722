/-
  Part 16.
-/
import Derived.Test.YtldngkmkhfddpaaGreatDoorYX15
import Derived.Scope
namespace Go.Rv
set_option linter.unusedVariables false
set_option linter.unusedSimpArgs false
variable{orc:Option Tmp->Orc}{n m id:Nat}{O O':Ac}{K:CO}{l:List Oper}
variable {E:Env}
abbrev Fr:=List (Nat×AV)
def look:Fr->Nat->AV
 |[],_=>.junk
 |p::l,t=>if t=p.1 then p.2 else look l t
def Ai(n:Nat)(l:Fr):List AV:=(List.range n).map (look l)
theorem BN(n:Nat)(l:Fr)(t:Nat):(Ai n l)[t]?=if t<n then some (look l t)else none:=by
 unfold Ai;rw[ApE];by_cases h:t<n
 ·rw[Aq0 h,Apb h];rfl
 rw[Apd h,Aql (by simp;omega)];rfl
def evL(n:Nat)(l:Fr):Operand->AV
 |.tmp t=>if t<n then look l t else .junk
 |.const v=>PB v
 |.global g=>.glob g
 |.func f=>.fn f []
theorem CN(n:Nat)(l:Fr):ev (Ai n l)=evL n l:=by
 funext x;cases x with
 |tmp t=>
  simp only[ev,evL,List.getD,BN];split<;>rfl
 |_=>rfl
def put(d:Option Tmp)(x:AV)(l:Fr):Fr :=
 match d with
 |some t=>(t,x)::l
 |none=>l
theorem EO(n:Nat)(l:Fr)(d:Option Tmp)(x:AV):Ay (Ai n l) d x=Ai n (put d x l):=by
 cases d with
 |none=>rfl
 | some t=>
  refine Aqa fun s=>?_
  simp only[Ay,put,ApV,BN];have hlen:(Ai n l).length=n:=by simp[Ai]
  rw[hlen];by_cases h:t=s
  ·subst h;simp only[ApT,look]
  rw[Apd h];simp only[look];by_cases hs:s<n
  ·rw[Apb hs,Apb hs,Apd (fun e=>h (Eq.symm e))]
  rw[Apd hs,Apd hs]
def keep(ts:List Nat)(l:Fr):Fr:=ts.map fun t=>(t,look l t)
theorem Aaj(ts:List Nat)(l:Fr)(t:Nat):look (keep ts l) t=.junk\/look (keep ts l) t=look l t:=by
 induction ts with
 |nil=>exact .inl rfl
 | cons s ts ih=>
  show(if t=s then look l s else look (keep ts l) t)=.junk\/_;by_cases h:t=s
  ·subst h;right;show(if t=t then look l t else look (keep ts l) t)=_;rw[Apb rfl]
  have e:look (keep (s::ts) l) t=look (keep ts l) t:=by show(if t=s then look l s else look (keep ts l) t)=_;rw[Apd h]
  rw[e,Apd h];exact ih
def MU(E:Env)(ρ:Operand->AV)(O:Ac)(op:Op):Option (AV×Ac) :=
 match op with
 |.move x|.assign x=>some (ρ x,O)
 |.pick c a b=>match ρ c with
  |.bool t=>some (if t then ρ a else ρ b,O)
  |_=>none
 |.alloc t=>match E.tab t with
  |some d=>if d.size=0 then none else if E.bty=some t then some (.tref O.length t,O++[.box (d.zero.map (Hk O.length)) false])else some (.ref O.length 0,O++[.box d.zero false])
  |none=>none
 |.box t x=>match(ρ x).cells? with
  |some xs=>if xs=[]then none else some (.ref O.length 0,O++[.box xs false])
  |none=>none
 |.build t parts=>(SQ E t (parts.toList.map fun(i,x)=>(i,ρ x))).map fun x=>(x,O)
 |.buildSlice t len parts=>C3 E O t len (parts.toList.map fun(i,x)=>(i,ρ x))
 |.load t a=>match E.tab t with
  |some d=>(loadA E O d (ρ a)).map fun x=>(x,O)
  |none=>none
 |.store t a x=>match E.tab t with
  |some d=>(storeA O d (ρ a) (ρ x)).map fun O'=>(.junk,O')
  |none=>none
 |.nilCheck x=>match ρ x with
  |.ref id off=>some (.ref id off,O)
  |.tref id t=>some (.tref id t,O)
  |.rp cs=>some (.rp cs,O)
  |.glob g=>some (.glob g,O)
  |.fn f cs=>some (.fn f cs,O)
  |_=>none
 |.binOp op t x y _=>(goB (PF y) (Xk E op t (ρ x)) (B8 E op t (ρ x) (ρ y))).map fun v=>(v,O)
 |.unOp op _ x=>(V5 op (ρ x)).map fun v=>(v,O)
 |.convert s d x=>C7 E O s d (ρ x)
 |.slice t x lo hi mx=>Gp E O t (ρ x) (lo.map ρ) (hi.map ρ) (mx.map ρ)
 |.fieldAddr s x f=>(AP E O s (ρ x) f).map fun v=>(v,O)
 |.field s x f=>(T7 E s (ρ x) f).map fun v=>(v,O)
 |.indexAddr t x i=>(Ao E O t (ρ x) (ρ i)).map fun v=>(v,O)
 |.index t x i=>(JC E t (ρ x) (ρ i)).map fun v=>(v,O)
 |.sliceToArrayPointer t x=>(RZ E t (ρ x)).map fun v=>(v,O)
 |.typeAssert x _ t ok=>(Ng E (ρ x) t ok).map fun v=>(v,O)
 |.makeSlice t l c=>E0 E O t (ρ l) (ρ c)
 | .makeFunc fn first caps=>match fn with
  |.func f=>if first.toList=[]then(match caps.toList.map ρ with
   |[.tup _]=>none
   |cs=>some (.fn f cs,O))else if caps.toList=[]then some (.fn f [.tup (first.toList.map ρ)],O)else none
  |_=>none
 | .makeInterface t x=>match E.tab t with
  |some d=>match d.desc with
   |.interface _=>none
   |_=>some (.iface t (ρ x),O)
  |none=>none
 |.lookup t x k ok=>(Ga E O t (ρ x) (ρ k) ok).map fun v=>(v,O)
 |.makeMap t none=>some (.mref O.length,O++[if(E.mp t).isSome=true then .mp (P0 E t) (mp0 t)else .obj (.map #[] 0)])
 |.mapUpdate t m k x=>(LQ E O t (ρ m) (ρ k) (ρ x)).map fun O'=>(.junk,O')
 |.insert t m k x=>(Ov E O t (ρ m) (ρ k) (ρ x)).map fun O'=>(.junk,O')
 |.range t x=>match Xy E t,ρ x with
  |true,.str s=>some (.ref O.length 0,O++[.obj (.stringIter ⟨s.toArray⟩ 0)])
  |_,_=>none
 | .next it true=>match ρ it with
  |.ref id 0=>match O[id]? with
   |some (.obj (.stringIter s pos))=>if pos<s.size then some (.tup [.bool true,.int .i64 (pos:Int),.int .i32 (Utf8.decode s pos).1],O.set id (.obj (.stringIter s (pos+(Utf8.decode s pos).2))))else some (.tup [.bool false],O)
   |_=>none
  |_=>none
 | .extract x i=>match ρ x with
  |.tup vs=>match vs[i]? with
   |some v=>some (v,O)
   |none=>none
  |_=>none
 |.call c=>match c.callee with
  |.builtin b=>AU E O b c.argTypes.toList (c.args.toList.map ρ)
  |_=>none
 |_=>none
theorem RC(fr:List AV)(O:Ac)(op:Op):DX E fr O op=MU E (ev fr) O op:=by cases op<;>rfl
def fzL(O:Ac):List AV->Option (List AV)
 |[]=>some []
 |x::l=>(fz O x).bind fun y=>(fzL O l).bind fun ys=>some (y::ys)
theorem X3(O:Ac):∀l:List AV,l.mapM (fz O)=fzL O l
 |[]=>rfl
 |x::l=>by rw[AqB,X3 O l];rfl
def WW(r:AV)(dr:Bool)(O:Ac)(ids:List Nat):Option (AV×Ac) :=
 if r.scalar=true then some (r,O)else if ids=[]then some (r,O)else if dr then none else some (r,Es O ids)
def Ab9(orc:Orc)(dr:Bool)(ρ:Operand->AV)(O:Ac)(c:Call):Option (AV×Ac) :=
 match c.callee with
 | .value f=>match ρ f with
  | .fn fid []=>match fzL O (c.args.toList.map ρ)with
   |some args=>match orc.fz fid args with
    |some r=>WW r dr O ((c.args.toList.map ρ).flatMap BW)
    |none=>none
   |none=>none
  |.fn fid [.tup xs]=>match dr with
   |true=>none
   |false=>orc.own fid (xs++c.args.toList.map ρ) O
  |.fn fid cs=>match dr with
   |true=>none
   |false=>orc.own fid (c.args.toList.map ρ++cs) O
  |_=>none
 |_=>none
def ownT(orc:Orc)(ρ:Operand->AV)(O:Ac)(c:Call):Option (AV×Ac) :=
 match c.callee with
 |.value f=>match ρ f with
  |.fn fid []=>orc.own fid (c.args.toList.map ρ) O
  |.fn fid [.tup xs]=>orc.own fid (xs++c.args.toList.map ρ) O
  |.fn fid cs=>orc.own fid (c.args.toList.map ρ++cs) O
  |_=>none
 |_=>none
def X7(b:Bool)(x y:Option (AV×Ac)):Option (AV×Ac):=match b with
 |true=>x
 |false=>y
def opL(E:Env)(orc:Orc)(dr:Bool)(ρ:Operand->AV)(O:Ac)(op:Op):Option (AV×Ac) :=
 match op with
 |.call c=>match c.callee with
  |.builtin b=>AU E O b c.argTypes.toList (c.args.toList.map ρ)
  |_=>X7 (Qr E c) (ownT orc ρ O c) (Ab9 orc dr ρ O c)
 |op=>MU E ρ O op
def QK(ops:Array Oper)(n:Nat)(l:Fr)(j:Nat):Option (Option Bool) :=
 match(ops[j]?).bind (·.dst)with
 |some d=>match evL n l (.tmp d)with
  |.bool b=>some (some b)
  |.tup _=>some none
  |_=>none
 |none=>none
def Qi(ops:Array Oper)(n:Nat)(l:Fr)(o:Oper):Option Bool :=
 match o.guard with
 |none=>some true
 |some (j,want)=>(QK ops n l j).map (·==some want)
def SS(n:Nat)(t:Nat)(s:Fr×Ac):Fr×Ac :=
 if t<n then match BW (look s.1 t)with
  |[]=>s
  |ids=>match fz s.2 (look s.1 t)with
   |some y=>((t,y)::s.1,Es s.2 ids)
   |none=>s
 else s
def Z5(n:Nat):List (Nat×Operand)->Fr×Ac->Fr×Ac
 |[],s=>s
 |p::l,s=>Z5 n l (match p.2 with
  |.tmp t=>SS n t s
  |_=>s)
def Js(dr:Bool)(n:Nat)(op:Op)(s:Fr×Ac):Fr×Ac :=
 match dr,op with
 |false,.buildSlice _ _ parts=>Z5 n parts.toList s
 |_,_=>s
def Qv(E:Env)(orc:Option Tmp->Orc)(dr:Bool)(n:Nat)(ops:Array Oper)(o:Oper)(s:Fr×Ac):Option (Fr×Ac) :=
 match Qi ops n s.1 o with
 |some true=>((opL E (orc o.dst) dr (evL n (Js dr n o.op s).1) (Js dr n o.op s).2 o.op).bind (Fl (dr&&ED E ops o) (Js dr n o.op s).2)).map fun r=>(put o.dst r.1 (Js dr n o.op s).1,r.2)
 |some false=>some (put o.dst (.tup []) s.1,s.2)
 |none=>none
def Cc(E:Env)(orc:Option Tmp->Orc)(dr:Bool)(n:Nat)(ops:Array Oper):List Oper->Fr×Ac->Option (Fr×Ac)
 |[],s=>some s
 |o::l,s=>(Qv E orc dr n ops o s).bind (Cc E orc dr n ops l)
def Hq(E:Env)(orc:Option Tmp->Orc)(dr:Bool)(n:Nat)(l:List Oper)(ts:List Nat)(s:Fr×Ac):Option (Fr×Ac) :=
 (Cc E orc dr n l.toArray l s).bind fun r=>some (keep ts r.1,r.2)
theorem Lw(ops:Array Oper)(n:Nat)(l:Fr)(j:Nat):Io ops (Ai n l) j=QK ops n l j:=by
 unfold Io QK;split
 ·rename_i d hd;simp only[hd,BN,evL];by_cases h:d<n
  ·rw[Apb h,Apb h];cases look l d<;>rfl
  rw[Apd h,Apd h]
 rename_i hd;simp only[hd]
theorem Y9(ops:Array Oper)(n:Nat)(l:Fr)(o:Oper):G8 ops (Ai n l) o=Qi ops n l o:=by
 unfold G8 Qi;split
 ·simp_all
 rename_i j w h;simp only[h,Lw]
def He(B:Base)(orc:Option Tmp->Orc):Prop:=∀d,OW B (orc d)
theorem Nd(hE:E.Ok){orc:Orc}(hO:OW E.toBase orc){o:Oper}{fr:Fr}{r:AV×Ac}(h:opL E orc false (evL n fr) O o.op=some r) {a:Act} {w:World} {g:Gh} (hr:Rel E w g ⟨Ai n fr,O⟩ a) {next:Act->World->Prop} {Q:Exit->Act->World->Prop} (hk:∀a' w' g',Rel E w' g' ⟨Ai n (put o.dst r.1 fr),r.2⟩ a'->Evo E 0 w g w' g'->GLe g g'->next a' w'):o.wp E.P a w next Q:=by
 rw[<-CN]at h;have hk':∀a' w' g',Rel E w' g' ⟨Ay (Ai n fr) o.dst r.1,r.2⟩ a'->Evo E 0 w g w' g'->GLe g g'->next a' w':=fun a' w' g' h1 h2 h3=>hk a' w' g' (by rw[EO]at h1;exact h1) h2 h3
 have plain:DX E (Ai n fr) O o.op=some r->o.wp E.P a w next Q:=by
  intro h;obtain⟨v,w',g',h1,h2,h3,h4,h5⟩:=Ks (x:=r.1) (O':=r.2) hE hr h;unfold Oper.wp;exact RM h1 (hk' _ w' g' (FI (Iy hr h2 h3 h4) o.dst h5) h4 h3)
 cases hop:o.op with
 | call c=>
  simp only[hop,opL]at h;cases hc:c.callee<;>simp only[hc]at h
  case builtin b=>exact plain (by rw[hop];simp only[DX,hc];exact h)
  all_goals (cases hown:Qr E c<;>simp only[hown,X7]at h)
  all_goals try (exact Afa (st:=⟨Ai n fr,O⟩) hO hop h hr hk')
  all_goals try (simp[Ab9,hc]at h;done)
  rename_i f;unfold Ab9 at h;simp only[hc]at h;split at h
  case h_4=>cases h
  case h_3=>
   rename_i fid cs _ hnt hf;exact PP (st:=⟨Ai n fr,O⟩) hop hc (fun ys e=>hnt ys e) hf (OR (hO.2 _ _ _ r.1 r.2 h E.F)) hr hk'
  case h_2=>
   rename_i fid xs hf;exact LH (st:=⟨Ai n fr,O⟩) hop hc hf (OR (hO.2 _ _ _ r.1 r.2 h E.F)) hr hk'
  rename_i fid hf;split at h
  case h_2=>cases h
  rename_i args ha;rw[<-X3]at ha;split at h
  case h_2=>cases h
  rename_i r2 ho;unfold WW at h;split at h
  ·rename_i hs;cases h;exact KZ hop hc hf ha hs ((hO.1 _ _ _ ho).mono fun _ _ h=>h.1) hr hk'
  split at h
  ·rename_i hs;cases h;refine I0 hop hc hf ha (hO.1 _ _ _ ho) hr ?_;rw[hs];exact hk'
  cases h;exact I0 hop hc hf ha (hO.1 _ _ _ ho) hr hk'
 |_=>exact plain (by rw[hop,RC];simp only[hop]at h;exact h)
theorem YS{w:World}{g:Gh}{s:Fr×Ac}{a:Act}(hr:Rel E w g ⟨Ai n s.1,s.2⟩ a)(m t:Nat) :∃g',Rel E w g' ⟨Ai n (SS n t s).1,(SS n t s).2⟩ a/\Evo E m w g w g':=by
 unfold SS;split
 case isFalse=>exact⟨g,hr,Evo.refl _ _ _ _⟩
 rename_i htn;split
 ·exact⟨g,hr,Evo.refl _ _ _ _⟩
 rename_i hids;cases hy:fz s.2 (look s.1 t)with
 |none=>exact⟨g,hr,Evo.refl _ _ _ _⟩
 |some y=>
 obtain⟨g1,m1,hle,he,hs,hp⟩:=KH (BW (look s.1 t)) hr.mem;refine⟨g1,⟨?_,?_,m1,hr.defers.evo he⟩,he.of_gle hle⟩
 ·have:=hr.size;simpa [Ai]using this
 intro u x hx;rw[BN]at hx;split at hx
 case isFalse=>cases hx
 rename_i hun;cases hx;show Rep _ _ _ _ (if u=t then y else look s.1 u);have hslot:=hr.slot u (look s.1 u) (by rw[BN,Apb hun]);by_cases e:u=t
 ·subst e;rw[Apb rfl];refine(Ow hr.mem hslot hy hp ?_).mono (fun a u hcc hpr=>⟨hcc,hpr⟩) (GLe.nil _);intro id b hix hb β off hβ hoff;obtain⟨k,els,ro,hO⟩:=TI hy hix;obtain⟨ro',hO'⟩:=KE (BW (look s.1 u)) s.2 id hO;obtain⟨b1,hb1,t1,t2,t3,t4,t5,t6⟩:=hs id b hb;have hro:=M3 (BW (look s.1 u)) s.2 id (.inl hix) _ _ _ hO';have hbro:b1.ro=true:=by rw[(m1.blk id b1 _ hb1 hO').2.1,hro]
  refine⟨fun hF=>(m1.foreign _ hF).2 ⟨id,b1,hb1,t1.trans hβ⟩,fun id' c hc he'=>?_⟩;have:id'=id:=m1.inj id' id c b1 β hc hb1 he' (t1.trans hβ);subst this;rw[hb1]at hc;cases hc;exact⟨hbro,by rw[t2,t3,t4];exact hoff⟩
 rw[Apd e];exact hslot.mono (fun a u hc hpr=>⟨hc,hp a hpr⟩) hle
theorem PH{w:World}{n:Nat}{a:Act}(m:Nat):∀(l:List (Nat×Operand)) (g:Gh) (s:Fr×Ac),Rel E w g ⟨Ai n s.1,s.2⟩ a ->∃g',Rel E w g' ⟨Ai n (Z5 n l s).1,(Z5 n l s).2⟩ a/\Evo E m w g w g'
 |[],g,s,hr=>⟨g,hr,Evo.refl _ _ _ _⟩
 | p::l,g,s,hr=>by
  unfold Z5;split
  ·rename_i t ht;obtain⟨g1,h1,e1⟩:=YS hr m t;obtain⟨g2,h2,e2⟩:=PH m l g1 _ h1;exact⟨g2,h2,e1.trans e2⟩
  exact PH m l g s hr
theorem Uc{w:World}{g:Gh}{s:Fr×Ac}{a:Act}(hr:Rel E w g ⟨Ai n s.1,s.2⟩ a)(m:Nat)(dr:Bool)(op:Op) :∃g',Rel E w g' ⟨Ai n (Js dr n op s).1,(Js dr n op s).2⟩ a/\Evo E m w g w g':=by
 unfold Js;split
 ·exact PH m _ g s hr
 exact⟨g,hr,Evo.refl _ _ _ _⟩
theorem J2(hE:E.Ok){orc:Option Tmp->Orc}(hO:He E.toBase orc){m n:Nat}{ops:Array Oper}{K:CO}{rest:List Oper}:∀(l:List Oper) (fr:Fr) (O:Ac) (fr':Fr) (O':Ac),Cc E orc false n ops l (fr,O)=some (fr',O')->Np E m ops rest ⟨Ai n fr',O'⟩ K->Np E m ops (l++rest) ⟨Ai n fr,O⟩ K
 |[],fr,O,fr',O',h,hk=>by
  simp only[Cc,Ao7,Apf]at h;obtain⟨rfl,rfl⟩:=h;exact hk
 | o :: l,fr,O,fr',O',h,hk=>by
  simp only[Cc,Apa]at h;obtain⟨⟨fr1,σ1⟩,h1,h2⟩:=h;intro hcm a w g hr Q hq;obtain⟨cm1,cm2⟩:=Mp hcm;unfold Qv at h1;have efz:∀O,Fl (false&&ED E ops o) O=some:=fun O=>by funext r;simp[Fl]
  rw[efz,Ba]at h1;obtain⟨g1,hr1,he1⟩:=Uc (s:=(fr,O)) hr m false o.op;generalize hfz:Js false n o.op (fr,O)=s1 at h1 hr1
  have hgo:∀{v:AV} {σ2:Ac},opL E (orc o.dst) false (evL n s1.1) s1.2 o.op=some (v,σ2)->fr1=put o.dst v s1.1->σ1=σ2->o.wp E.P a w (wpListIn E.fen 0 E.P ops Q (l++rest)) Q:=by
   intro v σ2 e1 e2 e3;subst e2 e3;refine Nd hE (hO _) e1 hr1 ?_;intro a' w' g' hr' he hg;refine J2 (m:=m) hE hO l _ _ _ _ h2 hk cm2 a' w' g' hr' Q ?_;intro ex st' a2 w2 g2 k r e;exact hq ex st' a2 w2 g2 k r (he1.trans ((he.of_gle hg).trans e))
  cases hgd:o.guard with
  |none=>
   simp only[Qi,hgd,Ao5,Apf]at h1;obtain⟨⟨v,σ2⟩,e1,e2,e3⟩:=h1;simp only[Apv,wpListIn,Region.wanted,hgd,ApT];exact Sj (hgo e1 e2.symm e3.symm) cm1
  | some jw=>
   obtain⟨j,want⟩:=jw;simp only[Qi,hgd]at h1;cases hy:QK ops n fr j with
   |none=>simp[hy]at h1
   | some b=>
    simp only[hy,ApG]at h1;have hy':Io ops (Ai n fr) j=some b:=by rw[Lw,hy]
    simp only[Apv,wpListIn,Region.wanted,hgd,GQ hr hy'];by_cases e:b=some want
    ·rw[Apb (by simp[e])];rw[show(b==some want)=true by simp[e]]at h1;simp only[Ao5,Apf]at h1;obtain⟨⟨v,σ2⟩,e1,e2,e3⟩:=h1;exact Sj (hgo e1 e2.symm e3.symm) cm1
    rw[Apd (by simp[e])];rw[show(b==some want)=false by simp[e]]at h1;simp only[Ao7,Apf]at h1;obtain⟨e2,e3⟩:=h1;subst e2 e3;refine⟨fun _ _=>trivial,J2 hE hO l _ _ _ _ h2 hk cm2 _ w g ?_ Q hq⟩;have:=FI hr o.dst (Km _ _ _);rw[EO]at this;exact this
theorem MM(hE:E.Ok)(hO:He E.toBase orc){ops:Array Oper}(l:List Oper)(fr:Fr)(O:Ac)(fr':Fr)(O':Ac) (h:Cc E orc false n ops l (fr,O)=some (fr',O')) (hk:K .normal ⟨Ai n fr',O'⟩):Np E m ops l ⟨Ai n fr,O⟩ K:=by
 have:=J2 (m:=m) (rest:=[]) hE hO l fr O fr' O' h (Wx hk);rwa[Aqf]at this
def Weak(E:Env)(n:Nat)(st st':St):Prop:=∀a w g,Rel E w g st a->∃g',Rel E w g' st' a/\Evo E n w g w g'
theorem Weak.refl(n:Nat)(st:St):Weak E n st st:=fun a w g h=>⟨g,h,Evo.refl _ _ _ _⟩
theorem Weak.trans{n:Nat}{a b c:St}(h:Weak E n a b)(k:Weak E n b c):Weak E n a c:=fun x w g r=>
 let⟨g1,r1,e1⟩:=h x w g r
 let⟨g2,r2,e2⟩:=k x w g1 r1
 ⟨g2,r2,e1.trans e2⟩
theorem Fa{c:Code}{st st':St}(h:Weak E n st st')(hr:Run E n c st' K):Run E n c st K:=by
 intro hcm a w g hrel Q hq;obtain⟨g',h1,h2⟩:=h a w g hrel;exact hr hcm a w g' h1 Q (fun ex st2 a' w' g2 k r e=>hq ex st2 a' w' g2 k r (h2.trans e))
theorem Ec{st st':St}(h:∀a w g,Rel E w g st a->∃g',Rel E w g' st' a/\Evo E n w g w g'):Weak E n st st':=h
theorem Dh(n N:Nat)(ts:List Nat)(l:Fr)(O:Ac):Weak E n ⟨Ai N l,O⟩ ⟨Ai N (keep ts l),O⟩:=by
 refine Ec fun a w g h=>⟨g,⟨?_,?_,h.mem,h.defers⟩,Evo.refl _ _ _ _⟩
 ·have:=h.size;simpa [Ai]using this
 intro t x hx;rw[BN]at hx;split at hx
 case isFalse=>cases hx
 rename_i ht;cases hx;rcases Aaj ts l t with e|e
 ·rw[e];exact .junk _ _
 rw[e];exact h.slot t _ (by rw[BN,Apb ht])
theorem Xm(hE:E.Ok)(hO:He E.toBase orc){fr fr':Fr}(ts:List Nat) (h:Hq E orc false n l ts (fr,O)=some (fr',O')) {y:Code} (hk:Run E m y ⟨Ai n fr',O'⟩ K):Run E m (.seq (.region id l.toArray false) y) ⟨Ai n fr,O⟩ K:=by
 simp only[Hq,Apa,Ao7,Apf]at h;obtain⟨⟨fr1,σ1⟩,h1,rfl,rfl⟩:=h;exact Hh (G4 (MM hE hO _ _ _ _ _ h1 (Fa (Dh _ _ _ _ _) hk)))
theorem IV{ops:Array Oper}{o:Oper}{fr fr':Fr}(h:Qv E orc true n ops o (fr,O)=some (fr',O')) :Bw E orc ops o ⟨Ai n fr,O⟩=some ⟨Ai n fr',O'⟩:=by
 unfold Qv at h
 have hfz:Js true n o.op (fr,O)=(fr,O):=by
  unfold Js;split
  ·rename_i h0 _;cases h0
  rfl
 rw[hfz,Bool.true_and]at h;unfold Bw Dz;simp only[Y9];split at h
 ·rename_i hw;simp only at hw;simp only[hw];simp only[Ao5,Apf]at h;obtain⟨⟨v,σ2⟩,e0,rfl,rfl⟩:=h;rw[Apa]at e0;obtain⟨⟨v1,σ3⟩,e1,e0⟩:=e0
  have : Ca E (orc o.dst) o.op (Ai n fr) O=some (v1,σ3):=by
   rw[<-CN]at e1;unfold Ca;unfold opL at e1;split
   ·rename_i c hop;simp only[hop]at e1;split
    ·rename_i b hc;simp only[hc]at e1;simp only[DX,hop,hc];exact e1
    rename_i hc;split at e1
    ·rename_i b hb;exact(hc b hb).elim
    cases hown:Qr E c
    case true=>
     rw[hown]at e1;rw[Apb rfl];exact e1
    rw[hown]at e1;rw[Apd (by simp)];simp only[X7]at e1;unfold Ab9 at e1;unfold Jy;split at e1
    case h_2=>cases e1
    rename_i f hf;simp only[hf];split at e1
    case h_4=>cases e1
    case h_3=>cases e1
    case h_2=>cases e1
    rename_i fid hfid;simp only[hfid];rw[<-X3]at e1;split at e1
    case h_2=>cases e1
    rename_i args ha;simp only[ha];split at e1
    case h_2=>cases e1
    rename_i r hr;simp only[hr];unfold WW at e1;split at e1
    ·rename_i hs;cases e1;rw[Apb (.inl hs)];rfl
    split at e1
    ·rename_i hs;cases e1;rw[Apb (.inr hs)];rfl
    simp at e1
   rename_i op hop;split at e1
   ·rename_i c hc;exact(hop c hc).elim
   rw[RC];exact e1
  rw[this,Ap4,e0];simp only[ApG,EO]
 ·rename_i hw;simp only at hw;simp only[hw];cases h;simp only[ApG,EO]
 cases h
theorem EC{orc:Option Tmp->Orc}{n:Nat}{ops:Array Oper}:∀(k:Nat) (l:List Oper) (fr fr':Fr) (O O':Ac),ops.toList.drop k=l ->Cc E orc true n ops l (fr,O)=some (fr',O')->AK E orc ops (List.range' k l.length) ⟨Ai n fr,O⟩=some ⟨Ai n fr',O'⟩
 |k,[],fr,fr',O,O',hl,h=>by
  simp only[Cc,Ao7,Apf]at h;obtain⟨rfl,rfl⟩:=h;rfl
 | k,o::l,fr,fr',O,O',hl,h=>by
  simp only[Cc,Apa]at h;obtain⟨⟨fr1,σ1⟩,h1,h2⟩:=h
  have hk:ops[k]?=some o:=by
   have:(ops.toList.drop k)[0]?=some o:=by rw[hl];rfl
   rw[ApJ]at this;simpa using this
  have hl':ops.toList.drop (k+1)=l:=by
   rw[<-Asi,hl];rfl
  show AK E orc ops (k::List.range' (k+1) l.length) _=_;unfold AK;simp only[hk,IV h1,Ap4];exact EC (k+1) l _ _ _ _ hl' h2
theorem WV(hE:E.Ok)(hO:He E.toBase orc)(hP:E.P.follows .mixedOrders=true)(T:List (List Nat))(hok1:EX l.toArray T=true)(hok2:Ia E l.toArray T=true){fr fr':Fr}(ts:List Nat) (h:Hq E orc true n l ts (fr,O)=some (fr',O')) {y:Code} (hk:Run E m y ⟨Ai n fr',O'⟩ K):Run E m (.seq (.region id l.toArray true) y) ⟨Ai n fr,O⟩ K:=by
 simp only[Hq,Apa,Ao7,Apf]at h;obtain⟨⟨fr1,σ1⟩,h1,rfl,rfl⟩:=h;refine Hh (P8 hE hO hP T hok1 hok2 ?_ ?_ (st':=⟨Ai n fr1,σ1⟩))
 ·have:=EC (E:=E) (ops:=l.toArray) 0 l fr fr1 O σ1 (by simp) h1;rw[Ap9];exact this
 exact Fa (Dh _ _ _ _ _) hk
theorem Ach(hE:E.Ok)(hO:He E.toBase orc){fr fr':Fr} (h:Cc E orc false n l.toArray l (fr,O)=some (fr',O')) (hk:K .normal ⟨Ai n fr',O'⟩):Run E m (.region id l.toArray false) ⟨Ai n fr,O⟩ K :=
 G4 (MM hE hO _ _ _ _ _ h hk)
theorem ZY(hE:E.Ok)(hO:He E.toBase orc)(hP:E.P.follows .mixedOrders=true)(T:List (List Nat))(hok1:EX l.toArray T=true)(hok2:Ia E l.toArray T=true){fr fr':Fr} (h:Cc E orc true n l.toArray l (fr,O)=some (fr',O')) (hk:K .normal ⟨Ai n fr',O'⟩):Run E m (.region id l.toArray true) ⟨Ai n fr,O⟩ K:=by
 refine P8 hE hO hP T hok1 hok2 ?_ hk;have:=EC (E:=E) (ops:=l.toArray) 0 l fr fr' O O' (by simp) h;rw[Ap9];exact this
end Go.Rv
