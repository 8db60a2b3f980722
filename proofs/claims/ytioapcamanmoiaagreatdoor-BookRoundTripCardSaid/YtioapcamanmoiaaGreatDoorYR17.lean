/-
  Part 17.
-/
import Derived.Test.YtioapcamanmoiaaGreatDoorYR16
import Derived.Scope
namespace Go.Rv
set_option linter.unusedVariables false
set_option linter.unusedSimpArgs false
variable{orc:Option Tmp→Orc}{n m id:Nat}{σ σ':Ab}{K:Cl}{l:List Oper}
variable {E:Env}
abbrev Fr:=List (Nat×AV)
def look:Fr→Nat→AV
 |[],_=>.junk
 |p::l,t=>if t=p.1 then p.2 else look l t
def Aq(n:Nat)(l:Fr):List AV:=(List.range n).map (look l)
theorem C5(n:Nat)(l:Fr)(t:Nat):(Aq n l)[t]?=if t<n then some (look l t)else none:=by
 unfold Aq;rw[Ao4];by_cases h:t<n
 ·rw[ApY h,AoO h];rfl
 ·rw[AoQ h,Apy (by simp;omega)];rfl
def evL(n:Nat)(l:Fr):Operand→AV
 |.tmp t=>if t<n then look l t else .junk
 |.const v=>O0 v
 |.global g=>.glob g
 |.func f=>.fn f []
theorem DI(n:Nat)(l:Fr):ev (Aq n l)=evL n l:=by
  funext x;cases x with
  | tmp t=>
    simp only[ev,evL,List.getD,C5];split<;>rfl
  |_=>rfl
def put(d:Option Tmp)(x:AV)(l:Fr):Fr :=
 match d with
 |some t=>(t,x)::l
 |none=>l
theorem Da(n:Nat)(l:Fr)(d:Option Tmp)(x:AV):AM (Aq n l) d x=Aq n (put d x l):=by
  cases d with
  |none=>rfl
  | some t=>
    refine ApI fun s=>?_
    simp only[AM,put,Apq,C5];have hlen:(Aq n l).length=n:=by simp[Aq]
    rw[hlen];by_cases h:t=s
    · subst h
      simp only[Aqe,look]
    · rw[AoQ h]
      simp only[look];by_cases hs:s<n
      · rw[AoO hs,AoO hs,AoQ (fun e=>h (Eq.symm e))]
      · rw[AoQ hs,AoQ hs]
def keep(ts:List Nat)(l:Fr):Fr:=ts.map fun t=>(t,look l t)
theorem S2(ts:List Nat)(l:Fr)(t:Nat):look (keep ts l) t=.junk∨look (keep ts l) t=look l t:=by
  induction ts with
  |nil=>exact .inl rfl
  | cons s ts ih=>
    show(if t=s then look l s else look (keep ts l) t)=.junk∨_;by_cases h:t=s
    · subst h;right;show(if t=t then look l t else look (keep ts l) t)=_;rw[AoO rfl]
    · have e:look (keep (s::ts) l) t=look (keep ts l) t:=by show(if t=s then look l s else look (keep ts l) t)=_;rw[AoQ h]
      rw[e,AoQ h];exact ih
def LM(E:Env)(ρ:Operand→AV)(σ:Ab)(op:Op):Option (AV×Ab) :=
 match op with
 |.move x|.assign x=>some (ρ x,σ)
 |.pick c a b=>match ρ c with
  |.bool t=>some (if t then ρ a else ρ b,σ)
  |_=>none
 |.alloc t=>match E.tab t with
  |some d=>if d.size=0 then none else if E.bty=some t then some (.tref σ.length t,σ++[.box (d.zero.map (Ft σ.length)) false])else some (.ref σ.length 0,σ++[.box d.zero false])
  |none=>none
 |.box t x=>match(ρ x).cells? with
  |some xs=>if xs=[]then none else some (.ref σ.length 0,σ++[.box xs false])
  |none=>none
 |.build t parts=>(Ss E t (parts.toList.map fun(i,x)=>(i,ρ x))).map fun x=>(x,σ)
 |.buildSlice t len parts=>CI E σ t len (parts.toList.map fun(i,x)=>(i,ρ x))
 |.load t a=>match E.tab t with
  |some d=>(loadA E σ d (ρ a)).map fun x=>(x,σ)
  |none=>none
 |.store t a x=>match E.tab t with
  |some d=>(storeA σ d (ρ a) (ρ x)).map fun σ'=>(.junk,σ')
  |none=>none
 |.nilCheck x=>match ρ x with
  |.ref id off=>some (.ref id off,σ)
  |.tref id t=>some (.tref id t,σ)
  |.rp cs=>some (.rp cs,σ)
  |.glob g=>some (.glob g,σ)
  |.fn f cs=>some (.fn f cs,σ)
  |_=>none
 |.binOp op t x y _=>(goB (MJ y) (VD E op t (ρ x)) (AH E op t (ρ x) (ρ y))).map fun v=>(v,σ)
 |.unOp op _ x=>(On op (ρ x)).map fun v=>(v,σ)
 |.convert s d x=>Bg E σ s d (ρ x)
 |.slice t x lo hi mx=>Gk E σ t (ρ x) (lo.map ρ) (hi.map ρ) (mx.map ρ)
 |.fieldAddr s x f=>(Bl E σ s (ρ x) f).map fun v=>(v,σ)
 |.field s x f=>(SR E s (ρ x) f).map fun v=>(v,σ)
 |.indexAddr t x i=>(As E σ t (ρ x) (ρ i)).map fun v=>(v,σ)
 |.index t x i=>(IA E t (ρ x) (ρ i)).map fun v=>(v,σ)
 |.sliceToArrayPointer t x=>(JD E t (ρ x)).map fun v=>(v,σ)
 |.makeSlice t l c=>Eg E σ t (ρ l) (ρ c)
 | .makeFunc fn first caps=>match fn with
  |.func f=>if first.toList=[]then(match caps.toList.map ρ with
   |[.tup _]=>none
   |cs=>some (.fn f cs,σ))else if caps.toList=[]then some (.fn f [.tup (first.toList.map ρ)],σ)else none
  |_=>none
 | .makeInterface t x=>match E.tab t with
  |some d=>match d.desc with
   |.interface _=>none
   |_=>some (.iface t (ρ x),σ)
  |none=>none
 |.lookup t x k ok=>(Ex E σ t (ρ x) (ρ k) ok).map fun v=>(v,σ)
 |.makeMap t none=>some (.mref σ.length,σ++[if AdD E t=true then .mp []else .obj (.map #[] 0)])
 |.mapUpdate t m k x=>(SB E σ t (ρ m) (ρ k) (ρ x)).map fun σ'=>(.junk,σ')
 |.insert t m k x=>(R3 E σ t (ρ m) (ρ k) (ρ x)).map fun σ'=>(.junk,σ')
 |.range t x=>match W3 E t,ρ x with
  |true,.str s=>some (.ref σ.length 0,σ++[.obj (.stringIter ⟨s.toArray⟩ 0)])
  |_,_=>none
 | .next it true=>match ρ it with
  |.ref id 0=>match σ[id]? with
   |some (.obj (.stringIter s pos))=>if pos<s.size then some (.tup [.bool true,.int .i64 (pos:Int),.int .i32 (Utf8.decode s pos).1],σ.set id (.obj (.stringIter s (pos+(Utf8.decode s pos).2))))else some (.tup [.bool false],σ)
   |_=>none
  |_=>none
 | .extract x i=>match ρ x with
  |.tup vs=>match vs[i]? with
   |some v=>some (v,σ)
   |none=>none
  |_=>none
 |.call c=>match c.callee with
  |.builtin b=>AZ E σ b c.argTypes.toList (c.args.toList.map ρ)
  |_=>none
 |_=>none
theorem TM(fr:List AV)(σ:Ab)(op:Op):DZ E fr σ op=LM E (ev fr) σ op:=by cases op<;>rfl
def fzL(σ:Ab):List AV→Option (List AV)
 |[]=>some []
 |x::l=>(fz σ x).bind fun y=>(fzL σ l).bind fun ys=>some (y::ys)
theorem W1(σ:Ab):∀l:List AV,l.mapM (fz σ)=fzL σ l
 |[]=>rfl
 |x::l=>by rw[Aqv,W1 σ l];rfl
def W5(r:AV)(dr:Bool)(σ:Ab)(ids:List Nat):Option (AV×Ab) :=
 if r.scalar=true then some (r,σ)else if ids=[]then some (r,σ)else if dr then none else some (r,Gi σ ids)
def Aa3(orc:Orc)(dr:Bool)(ρ:Operand→AV)(σ:Ab)(c:Call):Option (AV×Ab) :=
 match c.callee with
 | .value f=>match ρ f with
  | .fn fid []=>match fzL σ (c.args.toList.map ρ)with
   |some args=>match orc.fz fid args with
    |some r=>W5 r dr σ ((c.args.toList.map ρ).flatMap BB)
    |none=>none
   |none=>none
  |.fn fid [.tup xs]=>match dr with
   |true=>none
   |false=>orc.own fid (xs++c.args.toList.map ρ) σ
  |.fn fid cs=>match dr with
   |true=>none
   |false=>orc.own fid (c.args.toList.map ρ++cs) σ
  |_=>none
 |_=>none
def ownT(orc:Orc)(ρ:Operand→AV)(σ:Ab)(c:Call):Option (AV×Ab) :=
 match c.callee with
 |.value f=>match ρ f with
  |.fn fid []=>orc.own fid (c.args.toList.map ρ) σ
  |_=>none
 |_=>none
def Wm(b:Bool)(x y:Option (AV×Ab)):Option (AV×Ab):=match b with
 |true=>x
 |false=>y
def opL(E:Env)(orc:Orc)(dr:Bool)(ρ:Operand→AV)(σ:Ab)(op:Op):Option (AV×Ab) :=
 match op with
 |.call c=>match c.callee with
  |.builtin b=>AZ E σ b c.argTypes.toList (c.args.toList.map ρ)
  |_=>Wm (Rt E c) (ownT orc ρ σ c) (Aa3 orc dr ρ σ c)
 |op=>LM E ρ σ op
def Qj(ops:Array Oper)(n:Nat)(l:Fr)(j:Nat):Option (Option Bool) :=
 match(ops[j]?).bind (·.dst)with
 |some d=>match evL n l (.tmp d)with
  |.bool b=>some (some b)
  |.tup _=>some none
  |_=>none
 |none=>none
def Pc(ops:Array Oper)(n:Nat)(l:Fr)(o:Oper):Option Bool :=
 match o.guard with
 |none=>some true
 |some (j,want)=>(Qj ops n l j).map (·==some want)
def SW(n:Nat)(t:Nat)(s:Fr×Ab):Fr×Ab :=
 if t<n then match BB (look s.1 t)with
  |[]=>s
  |ids=>match fz s.2 (look s.1 t)with
   |some y=>((t,y)::s.1,Gi s.2 ids)
   |none=>s
 else s
def WG(n:Nat):List (Nat×Operand)→Fr×Ab→Fr×Ab
 |[],s=>s
 |p::l,s=>WG n l (match p.2 with
  |.tmp t=>SW n t s
  |_=>s)
def H1(dr:Bool)(n:Nat)(op:Op)(s:Fr×Ab):Fr×Ab :=
 match dr,op with
 |false,.buildSlice _ _ parts=>WG n parts.toList s
 |_,_=>s
def Pf(E:Env)(orc:Option Tmp→Orc)(dr:Bool)(n:Nat)(ops:Array Oper)(o:Oper)(s:Fr×Ab):Option (Fr×Ab) :=
 match Pc ops n s.1 o with
 |some true=>((opL E (orc o.dst) dr (evL n (H1 dr n o.op s).1) (H1 dr n o.op s).2 o.op).bind (Fh (dr&&EI E ops o) (H1 dr n o.op s).2)).map fun r=>(put o.dst r.1 (H1 dr n o.op s).1,r.2)
 |some false=>some (put o.dst (.tup []) s.1,s.2)
 |none=>none
def Bp(E:Env)(orc:Option Tmp→Orc)(dr:Bool)(n:Nat)(ops:Array Oper):List Oper→Fr×Ab→Option (Fr×Ab)
 |[],s=>some s
 |o::l,s=>(Pf E orc dr n ops o s).bind (Bp E orc dr n ops l)
def Lm(E:Env)(orc:Option Tmp→Orc)(dr:Bool)(n:Nat)(l:List Oper)(ts:List Nat)(s:Fr×Ab):Option (Fr×Ab) :=
 (Bp E orc dr n l.toArray l s).bind fun r=>some (keep ts r.1,r.2)
theorem JQ(ops:Array Oper)(n:Nat)(l:Fr)(j:Nat):K0 ops (Aq n l) j=Qj ops n l j:=by
 unfold K0 Qj;split
 ·rename_i d hd;simp only[hd,C5,evL];by_cases h:d<n
  ·rw[AoO h,AoO h];cases look l d<;>rfl
  ·rw[AoQ h,AoQ h]
 ·rename_i hd;simp only[hd]
theorem XT(ops:Array Oper)(n:Nat)(l:Fr)(o:Oper):Iw ops (Aq n l) o=Pc ops n l o:=by
 unfold Iw Pc;split
 ·simp_all
 ·rename_i j w h;simp only[h,JQ]
def HU(B:Base)(orc:Option Tmp→Orc):Prop:=∀d,LW B (orc d)
theorem QB(hE:E.Ok){orc:Orc}(hO:LW E.toBase orc){o:Oper}{fr:Fr}{r:AV×Ab}(h:opL E orc false (evL n fr) σ o.op=some r) {a:Act} {w:World} {g:Gh} (hr:Rel E w g ⟨Aq n fr,σ⟩ a) {next:Act→World→Prop} {Q:Exit→Act→World→Prop} (hk:∀a' w' g',Rel E w' g' ⟨Aq n (put o.dst r.1 fr),r.2⟩ a'→Evo E 0 w g w' g'→GLe g g'→next a' w'):o.wp E.P a w next Q:=by
  rw[←DI]at h;have hk':∀a' w' g',Rel E w' g' ⟨AM (Aq n fr) o.dst r.1,r.2⟩ a'→Evo E 0 w g w' g'→GLe g g'→next a' w':=fun a' w' g' h1 h2 h3=>hk a' w' g' (by rw[Da]at h1;exact h1) h2 h3
  have plain:DZ E (Aq n fr) σ o.op=some r→o.wp E.P a w next Q:=by
    intro h;obtain⟨v,w',g',h1,h2,h3,h4,h5⟩:=Lw (x:=r.1) (σ':=r.2) hE hr h;unfold Oper.wp;exact QE h1 (hk' _ w' g' (EJ (Ho hr h2 h3 h4) o.dst h5) h4 h3)
  cases hop:o.op with
  | call c=>
    simp only[hop,opL]at h;cases hc:c.callee<;>simp only[hc]at h
    case builtin b=>exact plain (by rw[hop];simp only[DZ,hc];exact h)
    all_goals (cases hown:Rt E c<;>simp only[hown,Wm]at h)
    all_goals try (exact AdY (st:=⟨Aq n fr,σ⟩) hO hop h hr hk')
    all_goals try (simp[Aa3,hc]at h;done)
    rename_i f;unfold Aa3 at h;simp only[hc]at h;split at h
    case h_4=>cases h
    case h_3=>
      rename_i fid cs _ hnt hf;exact TK (st:=⟨Aq n fr,σ⟩) hop hc (fun ys e=>hnt ys e) hf (Vr (hO.2 _ _ _ r.1 r.2 h E.F)) hr hk'
    case h_2=>
      rename_i fid xs hf;exact Q2 (st:=⟨Aq n fr,σ⟩) hop hc hf (Vr (hO.2 _ _ _ r.1 r.2 h E.F)) hr hk'
    rename_i fid hf;split at h
    case h_2=>cases h
    rename_i args ha;rw[←W1]at ha;split at h
    case h_2=>cases h
    rename_i r2 ho;unfold W5 at h;split at h
    · rename_i hs
      cases h;exact Jk hop hc hf ha hs ((hO.1 _ _ _ ho).mono fun _ _ h=>h.1) hr hk'
    · split at h
      · rename_i hs
        cases h;refine GH hop hc hf ha (hO.1 _ _ _ ho) hr ?_;rw[hs];exact hk'
      · cases h
        exact GH hop hc hf ha (hO.1 _ _ _ ho) hr hk'
  |_=>exact plain (by rw[hop,TM];simp only[hop]at h;exact h)
theorem XO{w:World}{g:Gh}{s:Fr×Ab}{a:Act}(hr:Rel E w g ⟨Aq n s.1,s.2⟩ a)(m t:Nat) :∃g',Rel E w g' ⟨Aq n (SW n t s).1,(SW n t s).2⟩ a∧Evo E m w g w g':=by
  unfold SW;split
  case isFalse=>exact⟨g,hr,Evo.refl _ _ _ _⟩
  rename_i htn;split
  · exact⟨g,hr,Evo.refl _ _ _ _⟩
  · rename_i hids
    cases hy:fz s.2 (look s.1 t)with
    |none=>exact⟨g,hr,Evo.refl _ _ _ _⟩
    |some y=>
    obtain⟨g1,m1,hle,he,hs,hp⟩:=Jf (BB (look s.1 t)) hr.mem;refine⟨g1,⟨?_,?_,m1,hr.defers.evo he⟩,he.of_gle hle⟩
    · have:=hr.size;simpa [Aq]using this
    · intro u x hx
      rw[C5]at hx;split at hx
      case isFalse=>cases hx
      rename_i hun;cases hx;show Rep _ _ _ _ (if u=t then y else look s.1 u);have hslot:=hr.slot u (look s.1 u) (by rw[C5,AoO hun]);by_cases e:u=t
      · subst e
        rw[AoO rfl];refine(PX hr.mem hslot hy hp ?_).mono (fun a u hcc hpr=>⟨hcc,hpr⟩) (GLe.nil _);intro id b hix hb β off hβ hoff;obtain⟨k,els,ro,hσ⟩:=VX hy hix;obtain⟨ro',hσ'⟩:=KI (BB (look s.1 u)) s.2 id hσ;obtain⟨b1,hb1,t1,t2,t3,t4,t5,t6⟩:=hs id b hb;have hro:=Mv (BB (look s.1 u)) s.2 id (.inl hix) _ _ _ hσ';have hbro:b1.ro=true:=by rw[(m1.blk id b1 _ hb1 hσ').2.1,hro]
        refine⟨fun hF=>(m1.foreign _ hF).2 ⟨id,b1,hb1,t1.trans hβ⟩,fun id' c hc he'=>?_⟩;have:id'=id:=m1.inj id' id c b1 β hc hb1 he' (t1.trans hβ);subst this;rw[hb1]at hc;cases hc;exact⟨hbro,by rw[t2,t3,t4];exact hoff⟩
      · rw[AoQ e]
        exact hslot.mono (fun a u hc hpr=>⟨hc,hp a hpr⟩) hle
theorem MC{w:World}{n:Nat}{a:Act}(m:Nat):∀(l:List (Nat×Operand)) (g:Gh) (s:Fr×Ab),Rel E w g ⟨Aq n s.1,s.2⟩ a →∃g',Rel E w g' ⟨Aq n (WG n l s).1,(WG n l s).2⟩ a∧Evo E m w g w g'
  |[],g,s,hr=>⟨g,hr,Evo.refl _ _ _ _⟩
  | p :: l,g,s,hr=>by
    unfold WG;split
    · rename_i t ht
      obtain⟨g1,h1,e1⟩:=XO hr m t;obtain⟨g2,h2,e2⟩:=MC m l g1 _ h1;exact⟨g2,h2,e1.trans e2⟩
    · exact MC m l g s hr
theorem Sc{w:World}{g:Gh}{s:Fr×Ab}{a:Act}(hr:Rel E w g ⟨Aq n s.1,s.2⟩ a)(m:Nat)(dr:Bool)(op:Op) :∃g',Rel E w g' ⟨Aq n (H1 dr n op s).1,(H1 dr n op s).2⟩ a∧Evo E m w g w g':=by
 unfold H1;split
 ·exact MC m _ g s hr
 ·exact⟨g,hr,Evo.refl _ _ _ _⟩
theorem FQ(hE:E.Ok){orc:Option Tmp→Orc}(hO:HU E.toBase orc){m n:Nat}{ops:Array Oper}{K:Cl}{rest:List Oper}:∀(l:List Oper) (fr:Fr) (σ:Ab) (fr':Fr) (σ':Ab),Bp E orc false n ops l (fr,σ)=some (fr',σ')→M9 E m ops rest ⟨Aq n fr',σ'⟩ K→M9 E m ops (l++rest) ⟨Aq n fr,σ⟩ K
  | [],fr,σ,fr',σ',h,hk=>by
    simp only[Bp,AoM,AoV]at h;obtain⟨rfl,rfl⟩:=h;exact hk
  | o :: l,fr,σ,fr',σ',h,hk=>by
    simp only[Bp,AoW]at h;obtain⟨⟨fr1,σ1⟩,h1,h2⟩:=h;intro hcm a w g hr Q hq;obtain⟨cm1,cm2⟩:=NI hcm;unfold Pf at h1;have efz:∀σ,Fh (false&&EI E ops o) σ=some:=fun σ=>by funext r;simp[Fh]
    rw[efz,Bt]at h1;obtain⟨g1,hr1,he1⟩:=Sc (s:=(fr,σ)) hr m false o.op;generalize hfz:H1 false n o.op (fr,σ)=s1 at h1 hr1
    have hgo:∀{v:AV} {σ2:Ab},opL E (orc o.dst) false (evL n s1.1) s1.2 o.op=some (v,σ2)→fr1=put o.dst v s1.1→σ1=σ2→o.wp E.P a w (wpListIn E.fen 0 E.P ops Q (l++rest)) Q:=by
      intro v σ2 e1 e2 e3;subst e2 e3;refine QB hE (hO _) e1 hr1 ?_;intro a' w' g' hr' he hg;refine FQ (m:=m) hE hO l _ _ _ _ h2 hk cm2 a' w' g' hr' Q ?_;intro ex st' a2 w2 g2 k r e;exact hq ex st' a2 w2 g2 k r (he1.trans ((he.of_gle hg).trans e))
    cases hgd:o.guard with
    | none=>
      simp only[Pc,hgd,AoL,AoV]at h1;obtain⟨⟨v,σ2⟩,e1,e2,e3⟩:=h1;simp only[Ao5,wpListIn,Region.wanted,hgd,Aqe];exact ZF (hgo e1 e2.symm e3.symm) cm1
    | some jw=>
      obtain⟨j,want⟩:=jw;simp only[Pc,hgd]at h1;cases hy:Qj ops n fr j with
      |none=>simp[hy]at h1
      | some b=>
        simp only[hy,App]at h1;have hy':K0 ops (Aq n fr) j=some b:=by rw[JQ,hy]
        simp only[Ao5,wpListIn,Region.wanted,hgd,Ih hr hy'];by_cases e:b=some want
        · rw[AoO (by simp[e])]
          rw[show(b==some want)=true by simp[e]]at h1;simp only[AoL,AoV]at h1;obtain⟨⟨v,σ2⟩,e1,e2,e3⟩:=h1;exact ZF (hgo e1 e2.symm e3.symm) cm1
        · rw[AoQ (by simp[e])]
          rw[show(b==some want)=false by simp[e]]at h1;simp only[AoM,AoV]at h1;obtain⟨e2,e3⟩:=h1;subst e2 e3;refine⟨fun _ _=>trivial,FQ hE hO l _ _ _ _ h2 hk cm2 _ w g ?_ Q hq⟩;have:=EJ hr o.dst (O5 _ _ _);rw[Da]at this;exact this
theorem IM(hE:E.Ok)(hO:HU E.toBase orc){ops:Array Oper}(l:List Oper)(fr:Fr)(σ:Ab)(fr':Fr)(σ':Ab) (h:Bp E orc false n ops l (fr,σ)=some (fr',σ')) (hk:K .normal ⟨Aq n fr',σ'⟩):M9 E m ops l ⟨Aq n fr,σ⟩ K:=by
 have:=FQ (m:=m) (rest:=[]) hE hO l fr σ fr' σ' h (Af9 hk);rwa[Aqf]at this
def Weak(E:Env)(n:Nat)(st st':St):Prop:=∀a w g,Rel E w g st a→∃g',Rel E w g' st' a∧Evo E n w g w g'
theorem Weak.refl(n:Nat)(st:St):Weak E n st st:=fun a w g h=>⟨g,h,Evo.refl _ _ _ _⟩
theorem Weak.trans{n:Nat}{a b c:St}(h:Weak E n a b)(k:Weak E n b c):Weak E n a c:=fun x w g r=>
 let⟨g1,r1,e1⟩:=h x w g r
 let⟨g2,r2,e2⟩:=k x w g1 r1
 ⟨g2,r2,e1.trans e2⟩
theorem DS{c:Code}{st st':St}(h:Weak E n st st')(hr:Run E n c st' K):Run E n c st K:=by
 intro hcm a w g hrel Q hq;obtain⟨g',h1,h2⟩:=h a w g hrel;exact hr hcm a w g' h1 Q (fun ex st2 a' w' g2 k r e=>hq ex st2 a' w' g2 k r (h2.trans e))
theorem EE{st st':St}(h:∀a w g,Rel E w g st a→∃g',Rel E w g' st' a∧Evo E n w g w g'):Weak E n st st':=h
theorem En(n N:Nat)(ts:List Nat)(l:Fr)(σ:Ab):Weak E n ⟨Aq N l,σ⟩ ⟨Aq N (keep ts l),σ⟩:=by
 refine EE fun a w g h=>⟨g,⟨?_,?_,h.mem,h.defers⟩,Evo.refl _ _ _ _⟩
 ·have:=h.size;simpa [Aq]using this
 ·intro t x hx;rw[C5]at hx;split at hx
  case isFalse=>cases hx
  rename_i ht;cases hx;rcases S2 ts l t with e|e
  ·rw[e];exact .junk _ _
  ·rw[e];exact h.slot t _ (by rw[C5,AoO ht])
theorem Wg(hE:E.Ok)(hO:HU E.toBase orc){fr fr':Fr}(ts:List Nat) (h:Lm E orc false n l ts (fr,σ)=some (fr',σ')) {y:Code} (hk:Run E m y ⟨Aq n fr',σ'⟩ K):Run E m (.seq (.region id l.toArray false) y) ⟨Aq n fr,σ⟩ K:=by
 simp only[Lm,AoW,AoM,AoV]at h;obtain⟨⟨fr1,σ1⟩,h1,rfl,rfl⟩:=h;exact Io (Ha (IM hE hO _ _ _ _ _ h1 (DS (En _ _ _ _ _) hk)))
theorem KL{ops:Array Oper}{o:Oper}{fr fr':Fr}(h:Pf E orc true n ops o (fr,σ)=some (fr',σ')) :BU E orc ops o ⟨Aq n fr,σ⟩=some ⟨Aq n fr',σ'⟩:=by
 unfold Pf at h
 have hfz:H1 true n o.op (fr,σ)=(fr,σ):=by
  unfold H1;split
  ·rename_i h0 _;cases h0
  ·rfl
 rw[hfz,Bool.true_and]at h;unfold BU DO;simp only[XT];split at h
 ·rename_i hw;simp only at hw;simp only[hw];simp only[AoL,AoV]at h;obtain⟨⟨v,σ2⟩,e0,rfl,rfl⟩:=h;rw[AoW]at e0;obtain⟨⟨v1,σ3⟩,e1,e0⟩:=e0
  have : Cv E (orc o.dst) o.op (Aq n fr) σ=some (v1,σ3):=by
   rw[←DI]at e1;unfold Cv;unfold opL at e1;split
   ·rename_i c hop;simp only[hop]at e1;split
    ·rename_i b hc;simp only[hc]at e1;simp only[DZ,hop,hc];exact e1
    ·rename_i hc;split at e1
     ·rename_i b hb;exact(hc b hb).elim
     cases hown:Rt E c
     case true=>
      rw[hown]at e1;rw[AoO rfl];exact e1
     rw[hown]at e1;rw[AoQ (by simp)];simp only[Wm]at e1;unfold Aa3 at e1;unfold Lj;split at e1
     case h_2=>cases e1
     rename_i f hf;simp only[hf];split at e1
     case h_4=>cases e1
     case h_3=>cases e1
     case h_2=>cases e1
     rename_i fid hfid;simp only[hfid];rw[←W1]at e1;split at e1
     case h_2=>cases e1
     rename_i args ha;simp only[ha];split at e1
     case h_2=>cases e1
     rename_i r hr;simp only[hr];unfold W5 at e1;split at e1
     ·rename_i hs;cases e1;rw[AoO (.inl hs)];rfl
     ·split at e1
      ·rename_i hs;cases e1;rw[AoO (.inr hs)];rfl
      ·simp at e1
   ·rename_i op hop;split at e1
    ·rename_i c hc;exact(hop c hc).elim
    ·rw[TM];exact e1
  rw[this,AoP,e0];simp only[App,Da]
 ·rename_i hw;simp only at hw;simp only[hw];cases h;simp only[App,Da]
 ·cases h
theorem FE{orc:Option Tmp→Orc}{n:Nat}{ops:Array Oper}:∀(k:Nat) (l:List Oper) (fr fr':Fr) (σ σ':Ab),ops.toList.drop k=l →Bp E orc true n ops l (fr,σ)=some (fr',σ')→AY E orc ops (List.range' k l.length) ⟨Aq n fr,σ⟩=some ⟨Aq n fr',σ'⟩
  | k,[],fr,fr',σ,σ',hl,h=>by
    simp only[Bp,AoM,AoV]at h;obtain⟨rfl,rfl⟩:=h;rfl
  | k,o::l,fr,fr',σ,σ',hl,h=>by
    simp only[Bp,AoW]at h;obtain⟨⟨fr1,σ1⟩,h1,h2⟩:=h
    have hk:ops[k]?=some o:=by
      have:(ops.toList.drop k)[0]?=some o:=by rw[hl];rfl
      rw[Aph]at this;simpa using this
    have hl':ops.toList.drop (k+1)=l:=by
      rw[←Ar6,hl];rfl
    show AY E orc ops (k::List.range' (k+1) l.length) _=_;unfold AY;simp only[hk,KL h1,AoP];exact FE (k+1) l _ _ _ _ hl' h2
theorem Wt(hE:E.Ok)(hO:HU E.toBase orc)(hP:E.P.follows .mixedOrders=true)(T:List (List Nat))(hok1:E7 l.toArray T=true)(hok2:GY E l.toArray T=true){fr fr':Fr}(ts:List Nat) (h:Lm E orc true n l ts (fr,σ)=some (fr',σ')) {y:Code} (hk:Run E m y ⟨Aq n fr',σ'⟩ K):Run E m (.seq (.region id l.toArray true) y) ⟨Aq n fr,σ⟩ K:=by
 simp only[Lm,AoW,AoM,AoV]at h;obtain⟨⟨fr1,σ1⟩,h1,rfl,rfl⟩:=h;refine Io (OJ hE hO hP T hok1 hok2 ?_ ?_ (st':=⟨Aq n fr1,σ1⟩))
 ·have:=FE (E:=E) (ops:=l.toArray) 0 l fr fr1 σ σ1 (by simp) h1;rw[ApD];exact this
 ·exact DS (En _ _ _ _ _) hk
theorem Sm(hE:E.Ok)(hO:HU E.toBase orc){fr fr':Fr} (h:Bp E orc false n l.toArray l (fr,σ)=some (fr',σ')) (hk:K .normal ⟨Aq n fr',σ'⟩):Run E m (.region id l.toArray false) ⟨Aq n fr,σ⟩ K :=
 Ha (IM hE hO _ _ _ _ _ h hk)
theorem YZ(hE:E.Ok)(hO:HU E.toBase orc)(hP:E.P.follows .mixedOrders=true)(T:List (List Nat))(hok1:E7 l.toArray T=true)(hok2:GY E l.toArray T=true){fr fr':Fr} (h:Bp E orc true n l.toArray l (fr,σ)=some (fr',σ')) (hk:K .normal ⟨Aq n fr',σ'⟩):Run E m (.region id l.toArray true) ⟨Aq n fr,σ⟩ K:=by
 refine OJ hE hO hP T hok1 hok2 ?_ hk;have:=FE (E:=E) (ops:=l.toArray) 0 l fr fr' σ σ' (by simp) h;rw[ApD];exact this
end Go.Rv
