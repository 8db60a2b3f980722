/-
  Part 16.
-/
import Derived.Test.YtldngkmkhfddpaaGreatDoorYW15
import Derived.Scope
namespace Go.Rv
set_option linter.unusedVariables false
set_option linter.unusedSimpArgs false
variable{orc:Option Tmp->Orc}{n m id:Nat}{O O':Ac}{K:CX}{l:List Oper}
variable {E:Env}
abbrev Fr:=List (Nat×AV)
def look:Fr->Nat->AV
 |[],_=>.junk
 |p::l,t=>if t=p.1 then p.2 else look l t
def Ah(n:Nat)(l:Fr):List AV:=(List.range n).map (look l)
theorem BT(n:Nat)(l:Fr)(t:Nat):(Ah n l)[t]?=if t<n then some (look l t)else none:=by
 unfold Ah;rw[Aq8];by_cases h:t<n
 ·rw[Asl h,AqJ h];rfl
 rw[AqI h,ArU (by simp;omega)];rfl
def evL(n:Nat)(l:Fr):Operand->AV
 |.tmp t=>if t<n then look l t else .junk
 |.const v=>P6 v
 |.global g=>.glob g
 |.func f=>.fn f []
theorem CG(n:Nat)(l:Fr):ev (Ah n l)=evL n l:=by
 funext x;cases x with
 |tmp t=>
  simp only[ev,evL,List.getD,BT];split<;>rfl
 |_=>rfl
def put(d:Option Tmp)(x:AV)(l:Fr):Fr :=
 match d with
 |some t=>(t,x)::l
 |none=>l
theorem Eh(n:Nat)(l:Fr)(d:Option Tmp)(x:AV):AC (Ah n l) d x=Ah n (put d x l):=by
 cases d with
 |none=>rfl
 | some t=>
  refine ArJ fun s=>?_
  simp only[AC,put,Arw,BT];have hlen:(Ah n l).length=n:=by simp[Ah]
  rw[hlen];by_cases h:t=s
  ·subst h;simp only[Aro,look]
  rw[AqI h];simp only[look];by_cases hs:s<n
  ·rw[AqJ hs,AqJ hs,AqI (fun e=>h (Eq.symm e))]
  rw[AqI hs,AqI hs]
def keep(ts:List Nat)(l:Fr):Fr:=ts.map fun t=>(t,look l t)
theorem AcP(ts:List Nat)(l:Fr)(t:Nat):look (keep ts l) t=.junk\/look (keep ts l) t=look l t:=by
 induction ts with
 |nil=>exact .inl rfl
 | cons s ts ih=>
  show(if t=s then look l s else look (keep ts l) t)=.junk\/_;by_cases h:t=s
  ·subst h;right;show(if t=t then look l t else look (keep ts l) t)=_;rw[AqJ rfl]
  have e:look (keep (s::ts) l) t=look (keep ts l) t:=by show(if t=s then look l s else look (keep ts l) t)=_;rw[AqI h]
  rw[e,AqI h];exact ih
def KB(E:Env)(ρ:Operand->AV)(O:Ac)(op:Op):Option (AV×Ac) :=
 match op with
 |.move x|.assign x=>some (ρ x,O)
 |.pick c a b=>match ρ c with
  |.bool t=>some (if t then ρ a else ρ b,O)
  |_=>none
 |.alloc t=>match E.tab t with
  |some d=>if d.size=0 then none else if E.bty=some t then some (.tref O.length t,O++[.box (d.zero.map (H0 O.length)) false])else some (.ref O.length 0,O++[.box d.zero false])
  |none=>none
 |.box t x=>match(ρ x).cells? with
  |some xs=>if xs=[]then none else some (.ref O.length 0,O++[.box xs false])
  |none=>none
 |.build t parts=>(UO E t (parts.toList.map fun(i,x)=>(i,ρ x))).map fun x=>(x,O)
 |.buildSlice t len parts=>Ey E O t len (parts.toList.map fun(i,x)=>(i,ρ x))
 |.load t a=>match E.tab t with
  |some d=>(loadA E O d (ρ a)).map fun x=>(x,O)
  |none=>none
 |.store t a x=>match E.tab t with
  |some d=>(storeA O d (ρ a) (ρ x)).map fun O'=>(.junk,O')
  |none=>none
 |.nilCheck x=>match ρ x with
  |.ref id off=>some (.ref id off,O)
  |.tref id t=>some (.tref id t,O)
  |.rp cs=>some (.rp cs,O)
  |.glob g=>some (.glob g,O)
  |.fn f cs=>some (.fn f cs,O)
  |_=>none
 |.binOp op t x y _=>(goB (Pv y) (Oh E op t (ρ x)) (BF E op t (ρ x) (ρ y))).map fun v=>(v,O)
 |.unOp op _ x=>(VN op (ρ x)).map fun v=>(v,O)
 |.convert s d x=>CJ E O s d (ρ x)
 |.slice t x lo hi mx=>Hr E O t (ρ x) (lo.map ρ) (hi.map ρ) (mx.map ρ)
 |.fieldAddr s x f=>(Bw E O s (ρ x) f).map fun v=>(v,O)
 |.field s x f=>(UR E s (ρ x) f).map fun v=>(v,O)
 |.indexAddr t x i=>(Ao E O t (ρ x) (ρ i)).map fun v=>(v,O)
 |.index t x i=>(Ka E t (ρ x) (ρ i)).map fun v=>(v,O)
 |.sliceToArrayPointer t x=>(Sj E t (ρ x)).map fun v=>(v,O)
 |.typeAssert x _ t ok=>(Me E (ρ x) t ok).map fun v=>(v,O)
 |.makeSlice t l c=>ED E O t (ρ l) (ρ c)
 | .makeFunc fn first caps=>match fn with
  |.func f=>if first.toList=[]then(match caps.toList.map ρ with
   |[.tup _]=>none
   |cs=>some (.fn f cs,O))else if caps.toList=[]then some (.fn f [.tup (first.toList.map ρ)],O)else none
  |_=>none
 | .makeInterface t x=>match E.tab t with
  |some d=>match d.desc with
   |.interface _=>none
   |_=>some (.iface t (ρ x),O)
  |none=>none
 |.lookup t x k ok=>(Gx E O t (ρ x) (ρ k) ok).map fun v=>(v,O)
 |.makeMap t none=>some (.mref O.length,O++[if(E.mp t).isSome=true then .mp (Qp E t) (mp0 t)else .obj (.map #[] 0)])
 |.mapUpdate t m k x=>(Nd E O t (ρ m) (ρ k) (ρ x)).map fun O'=>(.junk,O')
 |.insert t m k x=>(Pg E O t (ρ m) (ρ k) (ρ x)).map fun O'=>(.junk,O')
 |.range t x=>match XN E t,ρ x with
  |true,.str s=>some (.ref O.length 0,O++[.obj (.stringIter ⟨s.toArray⟩ 0)])
  |_,_=>none
 | .next it true=>match ρ it with
  |.ref id 0=>match O[id]? with
   |some (.obj (.stringIter s pos))=>if pos<s.size then some (.tup [.bool true,.int .i64 (pos:Int),.int .i32 (Utf8.decode s pos).1],O.set id (.obj (.stringIter s (pos+(Utf8.decode s pos).2))))else some (.tup [.bool false],O)
   |_=>none
  |_=>none
 | .extract x i=>match ρ x with
  |.tup vs=>match vs[i]? with
   |some v=>some (v,O)
   |none=>none
  |_=>none
 |.call c=>match c.callee with
  |.builtin b=>Bg E O b c.argTypes.toList (c.args.toList.map ρ)
  |_=>none
 |_=>none
theorem SZ(fr:List AV)(O:Ac)(op:Op):EF E fr O op=KB E (ev fr) O op:=by cases op<;>rfl
def fzL(O:Ac):List AV->Option (List AV)
 |[]=>some []
 |x::l=>(fz O x).bind fun y=>(fzL O l).bind fun ys=>some (y::ys)
theorem Yd(O:Ac):∀l:List AV,l.mapM (fz O)=fzL O l
 |[]=>rfl
 |x::l=>by rw[Asc,Yd O l];rfl
def Ym(r:AV)(dr:Bool)(O:Ac)(ids:List Nat):Option (AV×Ac) :=
 if r.scalar=true then some (r,O)else if ids=[]then some (r,O)else if dr then none else some (r,EB O ids)
def AaW(orc:Orc)(dr:Bool)(ρ:Operand->AV)(O:Ac)(c:Call):Option (AV×Ac) :=
 match c.callee with
 | .value f=>match ρ f with
  | .fn fid []=>match fzL O (c.args.toList.map ρ)with
   |some args=>match orc.fz fid args with
    |some r=>Ym r dr O ((c.args.toList.map ρ).flatMap Cq)
    |none=>none
   |none=>none
  |.fn fid [.tup xs]=>match dr with
   |true=>none
   |false=>orc.own fid (xs++c.args.toList.map ρ) O
  |.fn fid cs=>match dr with
   |true=>none
   |false=>orc.own fid (c.args.toList.map ρ++cs) O
  |_=>none
 |_=>none
def ownT(orc:Orc)(ρ:Operand->AV)(O:Ac)(c:Call):Option (AV×Ac) :=
 match c.callee with
 |.value f=>match ρ f with
  |.fn fid []=>orc.own fid (c.args.toList.map ρ) O
  |.fn fid [.tup xs]=>orc.own fid (xs++c.args.toList.map ρ) O
  |.fn fid cs=>orc.own fid (c.args.toList.map ρ++cs) O
  |_=>none
 |_=>none
def X3(b:Bool)(x y:Option (AV×Ac)):Option (AV×Ac):=match b with
 |true=>x
 |false=>y
def opL(E:Env)(orc:Orc)(dr:Bool)(ρ:Operand->AV)(O:Ac)(op:Op):Option (AV×Ac) :=
 match op with
 |.call c=>match c.callee with
  |.builtin b=>Bg E O b c.argTypes.toList (c.args.toList.map ρ)
  |_=>X3 (QT E c) (ownT orc ρ O c) (AaW orc dr ρ O c)
 |op=>KB E ρ O op
def QV(ops:Array Oper)(n:Nat)(l:Fr)(j:Nat):Option (Option Bool) :=
 match(ops[j]?).bind (·.dst)with
 |some d=>match evL n l (.tmp d)with
  |.bool b=>some (some b)
  |.tup _=>some none
  |_=>none
 |none=>none
def QI(ops:Array Oper)(n:Nat)(l:Fr)(o:Oper):Option Bool :=
 match o.guard with
 |none=>some true
 |some (j,want)=>(QV ops n l j).map (·==some want)
def T8(n:Nat)(t:Nat)(s:Fr×Ac):Fr×Ac :=
 if t<n then match Cq (look s.1 t)with
  |[]=>s
  |ids=>match fz s.2 (look s.1 t)with
   |some y=>((t,y)::s.1,EB s.2 ids)
   |none=>s
 else s
def Z4(n:Nat):List (Nat×Operand)->Fr×Ac->Fr×Ac
 |[],s=>s
 |p::l,s=>Z4 n l (match p.2 with
  |.tmp t=>T8 n t s
  |_=>s)
def JO(dr:Bool)(n:Nat)(op:Op)(s:Fr×Ac):Fr×Ac :=
 match dr,op with
 |false,.buildSlice _ _ parts=>Z4 n parts.toList s
 |_,_=>s
def Q8(E:Env)(orc:Option Tmp->Orc)(dr:Bool)(n:Nat)(ops:Array Oper)(o:Oper)(s:Fr×Ac):Option (Fr×Ac) :=
 match QI ops n s.1 o with
 |some true=>((opL E (orc o.dst) dr (evL n (JO dr n o.op s).1) (JO dr n o.op s).2 o.op).bind (F9 (dr&&F6 E ops o) (JO dr n o.op s).2)).map fun r=>(put o.dst r.1 (JO dr n o.op s).1,r.2)
 |some false=>some (put o.dst (.tup []) s.1,s.2)
 |none=>none
def Cy(E:Env)(orc:Option Tmp->Orc)(dr:Bool)(n:Nat)(ops:Array Oper):List Oper->Fr×Ac->Option (Fr×Ac)
 |[],s=>some s
 |o::l,s=>(Q8 E orc dr n ops o s).bind (Cy E orc dr n ops l)
def Ib(E:Env)(orc:Option Tmp->Orc)(dr:Bool)(n:Nat)(l:List Oper)(ts:List Nat)(s:Fr×Ac):Option (Fr×Ac) :=
 (Cy E orc dr n l.toArray l s).bind fun r=>some (keep ts r.1,r.2)
theorem Md(ops:Array Oper)(n:Nat)(l:Fr)(j:Nat):Iz ops (Ah n l) j=QV ops n l j:=by
 unfold Iz QV;split
 ·rename_i d hd;simp only[hd,BT,evL];by_cases h:d<n
  ·rw[AqJ h,AqJ h];cases look l d<;>rfl
  rw[AqI h,AqI h]
 rename_i hd;simp only[hd]
theorem ZB(ops:Array Oper)(n:Nat)(l:Fr)(o:Oper):Ig ops (Ah n l) o=QI ops n l o:=by
 unfold Ig QI;split
 ·simp_all
 rename_i j w h;simp only[h,Md]
def H3(B:Base)(orc:Option Tmp->Orc):Prop:=∀d,Qm B (orc d)
theorem Fv(hE:E.Ok){orc:Orc}(hO:Qm E.toBase orc){o:Oper}{fr:Fr}{r:AV×Ac}(h:opL E orc false (evL n fr) O o.op=some r) {a:Act} {w:World} {g:Gh} (hr:Rel E w g ⟨Ah n fr,O⟩ a) {next:Act->World->Prop} {Q:Exit->Act->World->Prop} (hk:∀a' w' g',Rel E w' g' ⟨Ah n (put o.dst r.1 fr),r.2⟩ a'->Evo E 0 w g w' g'->GLe g g'->next a' w'):o.wp E.P a w next Q:=by
 rw[<-CG]at h;have hk':∀a' w' g',Rel E w' g' ⟨AC (Ah n fr) o.dst r.1,r.2⟩ a'->Evo E 0 w g w' g'->GLe g g'->next a' w':=fun a' w' g' h1 h2 h3=>hk a' w' g' (by rw[Eh]at h1;exact h1) h2 h3
 have plain:EF E (Ah n fr) O o.op=some r->o.wp E.P a w next Q:=by
  intro h;obtain⟨v,w',g',h1,h2,h3,h4,h5⟩:=KR (x:=r.1) (O':=r.2) hE hr h;unfold Oper.wp;exact Pt h1 (hk' _ w' g' (Fw (IE hr h2 h3 h4) o.dst h5) h4 h3)
 cases hop:o.op with
 | call c=>
  simp only[hop,opL]at h;cases hc:c.callee<;>simp only[hc]at h
  case builtin b=>exact plain (by rw[hop];simp only[EF,hc];exact h)
  all_goals (cases hown:QT E c<;>simp only[hown,X3]at h)
  all_goals try (exact AgM (st:=⟨Ah n fr,O⟩) hO hop h hr hk')
  all_goals try (simp[AaW,hc]at h;done)
  rename_i f;unfold AaW at h;simp only[hc]at h;split at h
  case h_4=>cases h
  case h_3=>
   rename_i fid cs _ hnt hf;exact OV (st:=⟨Ah n fr,O⟩) hop hc (fun ys e=>hnt ys e) hf (P2 (hO.2 _ _ _ r.1 r.2 h E.F)) hr hk'
  case h_2=>
   rename_i fid xs hf;exact M6 (st:=⟨Ah n fr,O⟩) hop hc hf (P2 (hO.2 _ _ _ r.1 r.2 h E.F)) hr hk'
  rename_i fid hf;split at h
  case h_2=>cases h
  rename_i args ha;rw[<-Yd]at ha;split at h
  case h_2=>cases h
  rename_i r2 ho;unfold Ym at h;split at h
  ·rename_i hs;cases h;exact LC hop hc hf ha hs ((hO.1 _ _ _ ho).mono fun _ _ h=>h.1) hr hk'
  split at h
  ·rename_i hs;cases h;refine IK hop hc hf ha (hO.1 _ _ _ ho) hr ?_;rw[hs];exact hk'
  cases h;exact IK hop hc hf ha (hO.1 _ _ _ ho) hr hk'
 |_=>exact plain (by rw[hop,SZ];simp only[hop]at h;exact h)
theorem AaA{w:World}{g:Gh}{s:Fr×Ac}{a:Act}(hr:Rel E w g ⟨Ah n s.1,s.2⟩ a)(m t:Nat) :∃g',Rel E w g' ⟨Ah n (T8 n t s).1,(T8 n t s).2⟩ a/\Evo E m w g w g':=by
 unfold T8;split
 case isFalse=>exact⟨g,hr,Evo.refl _ _ _ _⟩
 rename_i htn;split
 ·exact⟨g,hr,Evo.refl _ _ _ _⟩
 rename_i hids;cases hy:fz s.2 (look s.1 t)with
 |none=>exact⟨g,hr,Evo.refl _ _ _ _⟩
 |some y=>
 obtain⟨g1,m1,hle,he,hs,hp⟩:=KX (Cq (look s.1 t)) hr.mem;refine⟨g1,⟨?_,?_,m1,hr.defers.evo he⟩,he.of_gle hle⟩
 ·have:=hr.size;simpa [Ah]using this
 intro u x hx;rw[BT]at hx;split at hx
 case isFalse=>cases hx
 rename_i hun;cases hx;show Rep _ _ _ _ (if u=t then y else look s.1 u);have hslot:=hr.slot u (look s.1 u) (by rw[BT,AqJ hun]);by_cases e:u=t
 ·subst e;rw[AqJ rfl];refine(PR hr.mem hslot hy hp ?_).mono (fun a u hcc hpr=>⟨hcc,hpr⟩) (GLe.nil _);intro id b hix hb β off hβ hoff;obtain⟨k,els,ro,hO⟩:=UI hy hix;obtain⟨ro',hO'⟩:=KN (Cq (look s.1 u)) s.2 id hO;obtain⟨b1,hb1,t1,t2,t3,t4,t5,t6⟩:=hs id b hb;have hro:=MD (Cq (look s.1 u)) s.2 id (.inl hix) _ _ _ hO';have hbro:b1.ro=true:=by rw[(m1.blk id b1 _ hb1 hO').2.1,hro]
  refine⟨fun hF=>(m1.foreign _ hF).2 ⟨id,b1,hb1,t1.trans hβ⟩,fun id' c hc he'=>?_⟩;have:id'=id:=m1.inj id' id c b1 β hc hb1 he' (t1.trans hβ);subst this;rw[hb1]at hc;cases hc;exact⟨hbro,by rw[t2,t3,t4];exact hoff⟩
 rw[AqI e];exact hslot.mono (fun a u hc hpr=>⟨hc,hp a hpr⟩) hle
theorem Pm{w:World}{n:Nat}{a:Act}(m:Nat):∀(l:List (Nat×Operand)) (g:Gh) (s:Fr×Ac),Rel E w g ⟨Ah n s.1,s.2⟩ a ->∃g',Rel E w g' ⟨Ah n (Z4 n l s).1,(Z4 n l s).2⟩ a/\Evo E m w g w g'
 |[],g,s,hr=>⟨g,hr,Evo.refl _ _ _ _⟩
 | p::l,g,s,hr=>by
  unfold Z4;split
  ·rename_i t ht;obtain⟨g1,h1,e1⟩:=AaA hr m t;obtain⟨g2,h2,e2⟩:=Pm m l g1 _ h1;exact⟨g2,h2,e1.trans e2⟩
  exact Pm m l g s hr
theorem UC{w:World}{g:Gh}{s:Fr×Ac}{a:Act}(hr:Rel E w g ⟨Ah n s.1,s.2⟩ a)(m:Nat)(dr:Bool)(op:Op) :∃g',Rel E w g' ⟨Ah n (JO dr n op s).1,(JO dr n op s).2⟩ a/\Evo E m w g w g':=by
 unfold JO;split
 ·exact Pm m _ g s hr
 exact⟨g,hr,Evo.refl _ _ _ _⟩
theorem JM(hE:E.Ok){orc:Option Tmp->Orc}(hO:H3 E.toBase orc){m n:Nat}{ops:Array Oper}{K:CX}{rest:List Oper}:∀(l:List Oper) (fr:Fr) (O:Ac) (fr':Fr) (O':Ac),Cy E orc false n ops l (fr,O)=some (fr',O')->Om E m ops rest ⟨Ah n fr',O'⟩ K->Om E m ops (l++rest) ⟨Ah n fr,O⟩ K
 |[],fr,O,fr',O',h,hk=>by
  simp only[Cy,AqG,AqQ]at h;obtain⟨rfl,rfl⟩:=h;exact hk
 | o :: l,fr,O,fr',O',h,hk=>by
  simp only[Cy,AqK]at h;obtain⟨⟨fr1,σ1⟩,h1,h2⟩:=h;intro hcm a w g hr Q hq;obtain⟨cm1,cm2⟩:=MN hcm;unfold Q8 at h1;have efz:∀O,F9 (false&&F6 E ops o) O=some:=fun O=>by funext r;simp[F9]
  rw[efz,Bk]at h1;obtain⟨g1,hr1,he1⟩:=UC (s:=(fr,O)) hr m false o.op;generalize hfz:JO false n o.op (fr,O)=s1 at h1 hr1
  have hgo:∀{v:AV} {σ2:Ac},opL E (orc o.dst) false (evL n s1.1) s1.2 o.op=some (v,σ2)->fr1=put o.dst v s1.1->σ1=σ2->o.wp E.P a w (wpListIn E.fen 0 E.P ops Q (l++rest)) Q:=by
   intro v σ2 e1 e2 e3;subst e2 e3;refine Fv hE (hO _) e1 hr1 ?_;intro a' w' g' hr' he hg;refine JM (m:=m) hE hO l _ _ _ _ h2 hk cm2 a' w' g' hr' Q ?_;intro ex st' a2 w2 g2 k r e;exact hq ex st' a2 w2 g2 k r (he1.trans ((he.of_gle hg).trans e))
  cases hgd:o.guard with
  |none=>
   simp only[QI,hgd,AqE,AqQ]at h1;obtain⟨⟨v,σ2⟩,e1,e2,e3⟩:=h1;simp only[Aq7,wpListIn,Region.wanted,hgd,Aro];exact O6 (hgo e1 e2.symm e3.symm) cm1
  | some jw=>
   obtain⟨j,want⟩:=jw;simp only[QI,hgd]at h1;cases hy:QV ops n fr j with
   |none=>simp[hy]at h1
   | some b=>
    simp only[hy,Arg]at h1;have hy':Iz ops (Ah n fr) j=some b:=by rw[Md,hy]
    simp only[Aq7,wpListIn,Region.wanted,hgd,He hr hy'];by_cases e:b=some want
    ·rw[AqJ (by simp[e])];rw[show(b==some want)=true by simp[e]]at h1;simp only[AqE,AqQ]at h1;obtain⟨⟨v,σ2⟩,e1,e2,e3⟩:=h1;exact O6 (hgo e1 e2.symm e3.symm) cm1
    rw[AqI (by simp[e])];rw[show(b==some want)=false by simp[e]]at h1;simp only[AqG,AqQ]at h1;obtain⟨e2,e3⟩:=h1;subst e2 e3;refine⟨fun _ _=>trivial,JM hE hO l _ _ _ _ h2 hk cm2 _ w g ?_ Q hq⟩;have:=Fw hr o.dst (Kq _ _ _);rw[Eh]at this;exact this
theorem NM(hE:E.Ok)(hO:H3 E.toBase orc){ops:Array Oper}(l:List Oper)(fr:Fr)(O:Ac)(fr':Fr)(O':Ac) (h:Cy E orc false n ops l (fr,O)=some (fr',O')) (hk:K .normal ⟨Ah n fr',O'⟩):Om E m ops l ⟨Ah n fr,O⟩ K:=by
 have:=JM (m:=m) (rest:=[]) hE hO l fr O fr' O' h (W1 hk);rwa[ArI]at this
def Weak(E:Env)(n:Nat)(st st':St):Prop:=∀a w g,Rel E w g st a->∃g',Rel E w g' st' a/\Evo E n w g w g'
theorem Weak.refl(n:Nat)(st:St):Weak E n st st:=fun a w g h=>⟨g,h,Evo.refl _ _ _ _⟩
theorem Weak.trans{n:Nat}{a b c:St}(h:Weak E n a b)(k:Weak E n b c):Weak E n a c:=fun x w g r=>
 let⟨g1,r1,e1⟩:=h x w g r
 let⟨g2,r2,e2⟩:=k x w g1 r1
 ⟨g2,r2,e1.trans e2⟩
theorem EG{c:Code}{st st':St}(h:Weak E n st st')(hr:Run E n c st' K):Run E n c st K:=by
 intro hcm a w g hrel Q hq;obtain⟨g',h1,h2⟩:=h a w g hrel;exact hr hcm a w g' h1 Q (fun ex st2 a' w' g2 k r e=>hq ex st2 a' w' g2 k r (h2.trans e))
theorem Er{st st':St}(h:∀a w g,Rel E w g st a->∃g',Rel E w g' st' a/\Evo E n w g w g'):Weak E n st st':=h
theorem D0(n N:Nat)(ts:List Nat)(l:Fr)(O:Ac):Weak E n ⟨Ah N l,O⟩ ⟨Ah N (keep ts l),O⟩:=by
 refine Er fun a w g h=>⟨g,⟨?_,?_,h.mem,h.defers⟩,Evo.refl _ _ _ _⟩
 ·have:=h.size;simpa [Ah]using this
 intro t x hx;rw[BT]at hx;split at hx
 case isFalse=>cases hx
 rename_i ht;cases hx;rcases AcP ts l t with e|e
 ·rw[e];exact .junk _ _
 rw[e];exact h.slot t _ (by rw[BT,AqJ ht])
theorem XS(hE:E.Ok)(hO:H3 E.toBase orc){fr fr':Fr}(ts:List Nat) (h:Ib E orc false n l ts (fr,O)=some (fr',O')) {y:Code} (hk:Run E m y ⟨Ah n fr',O'⟩ K):Run E m (.seq (.region id l.toArray false) y) ⟨Ah n fr,O⟩ K:=by
 simp only[Ib,AqK,AqG,AqQ]at h;obtain⟨⟨fr1,σ1⟩,h1,rfl,rfl⟩:=h;exact HM (GR (NM hE hO _ _ _ _ _ h1 (EG (D0 _ _ _ _ _) hk)))
theorem Jg{ops:Array Oper}{o:Oper}{fr fr':Fr}(h:Q8 E orc true n ops o (fr,O)=some (fr',O')) :Cc E orc ops o ⟨Ah n fr,O⟩=some ⟨Ah n fr',O'⟩:=by
 unfold Q8 at h
 have hfz:JO true n o.op (fr,O)=(fr,O):=by
  unfold JO;split
  ·rename_i h0 _;cases h0
  rfl
 rw[hfz,Bool.true_and]at h;unfold Cc DP;simp only[ZB];split at h
 ·rename_i hw;simp only at hw;simp only[hw];simp only[AqE,AqQ]at h;obtain⟨⟨v,σ2⟩,e0,rfl,rfl⟩:=h;rw[AqK]at e0;obtain⟨⟨v1,σ3⟩,e1,e0⟩:=e0
  have : CL E (orc o.dst) o.op (Ah n fr) O=some (v1,σ3):=by
   rw[<-CG]at e1;unfold CL;unfold opL at e1;split
   ·rename_i c hop;simp only[hop]at e1;split
    ·rename_i b hc;simp only[hc]at e1;simp only[EF,hop,hc];exact e1
    rename_i hc;split at e1
    ·rename_i b hb;exact(hc b hb).elim
    cases hown:QT E c
    case true=>
     rw[hown]at e1;rw[AqJ rfl];exact e1
    rw[hown]at e1;rw[AqI (by simp)];simp only[X3]at e1;unfold AaW at e1;unfold JC;split at e1
    case h_2=>cases e1
    rename_i f hf;simp only[hf];split at e1
    case h_4=>cases e1
    case h_3=>cases e1
    case h_2=>cases e1
    rename_i fid hfid;simp only[hfid];rw[<-Yd]at e1;split at e1
    case h_2=>cases e1
    rename_i args ha;simp only[ha];split at e1
    case h_2=>cases e1
    rename_i r hr;simp only[hr];unfold Ym at e1;split at e1
    ·rename_i hs;cases e1;rw[AqJ (.inl hs)];rfl
    split at e1
    ·rename_i hs;cases e1;rw[AqJ (.inr hs)];rfl
    simp at e1
   rename_i op hop;split at e1
   ·rename_i c hc;exact(hop c hc).elim
   rw[SZ];exact e1
  rw[this,ArL,e0];simp only[Arg,Eh]
 ·rename_i hw;simp only at hw;simp only[hw];cases h;simp only[Arg,Eh]
 cases h
theorem FV{orc:Option Tmp->Orc}{n:Nat}{ops:Array Oper}:∀(k:Nat) (l:List Oper) (fr fr':Fr) (O O':Ac),ops.toList.drop k=l ->Cy E orc true n ops l (fr,O)=some (fr',O')->Bh E orc ops (List.range' k l.length) ⟨Ah n fr,O⟩=some ⟨Ah n fr',O'⟩
 |k,[],fr,fr',O,O',hl,h=>by
  simp only[Cy,AqG,AqQ]at h;obtain⟨rfl,rfl⟩:=h;rfl
 | k,o::l,fr,fr',O,O',hl,h=>by
  simp only[Cy,AqK]at h;obtain⟨⟨fr1,σ1⟩,h1,h2⟩:=h
  have hk:ops[k]?=some o:=by
   have:(ops.toList.drop k)[0]?=some o:=by rw[hl];rfl
   rw[Are]at this;simpa using this
  have hl':ops.toList.drop (k+1)=l:=by
   rw[<-AtQ,hl];rfl
  show Bh E orc ops (k::List.range' (k+1) l.length) _=_;unfold Bh;simp only[hk,Jg h1,ArL];exact FV (k+1) l _ _ _ _ hl' h2
theorem XJ(hE:E.Ok)(hO:H3 E.toBase orc)(hP:E.P.follows .mixedOrders=true)(T:List (List Nat))(hok1:F3 l.toArray T=true)(hok2:Il E l.toArray T=true){fr fr':Fr}(ts:List Nat) (h:Ib E orc true n l ts (fr,O)=some (fr',O')) {y:Code} (hk:Run E m y ⟨Ah n fr',O'⟩ K):Run E m (.seq (.region id l.toArray true) y) ⟨Ah n fr,O⟩ K:=by
 simp only[Ib,AqK,AqG,AqQ]at h;obtain⟨⟨fr1,σ1⟩,h1,rfl,rfl⟩:=h;refine HM (Pz hE hO hP T hok1 hok2 ?_ ?_ (st':=⟨Ah n fr1,σ1⟩))
 ·have:=FV (E:=E) (ops:=l.toArray) 0 l fr fr1 O σ1 (by simp) h1;rw[ArQ];exact this
 exact EG (D0 _ _ _ _ _) hk
theorem Adl(hE:E.Ok)(hO:H3 E.toBase orc){fr fr':Fr} (h:Cy E orc false n l.toArray l (fr,O)=some (fr',O')) (hk:K .normal ⟨Ah n fr',O'⟩):Run E m (.region id l.toArray false) ⟨Ah n fr,O⟩ K :=
 GR (NM hE hO _ _ _ _ _ h hk)
theorem AaY(hE:E.Ok)(hO:H3 E.toBase orc)(hP:E.P.follows .mixedOrders=true)(T:List (List Nat))(hok1:F3 l.toArray T=true)(hok2:Il E l.toArray T=true){fr fr':Fr} (h:Cy E orc true n l.toArray l (fr,O)=some (fr',O')) (hk:K .normal ⟨Ah n fr',O'⟩):Run E m (.region id l.toArray true) ⟨Ah n fr,O⟩ K:=by
 refine Pz hE hO hP T hok1 hok2 ?_ hk;have:=FV (E:=E) (ops:=l.toArray) 0 l fr fr' O O' (by simp) h;rw[ArQ];exact this
end Go.Rv
