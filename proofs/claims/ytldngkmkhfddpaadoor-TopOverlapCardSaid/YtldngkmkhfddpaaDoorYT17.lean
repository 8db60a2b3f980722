/-
  Part 17.
-/
import Derived.Test.YtldngkmkhfddpaaDoorYT16
import Derived.Scope
namespace Go.Rv
set_option linter.unusedVariables false
set_option linter.unusedSimpArgs false
variable {E:Env}
abbrev Fr:=List (Nat×AV)
def look:Fr→Nat→AV
 |[],_=>.junk
 |p::l,t=>if t=p.1 then p.2 else look l t
def Am(n:Nat)(l:Fr):List AV:=(List.range n).map (look l)
theorem Cf(n:Nat)(l:Fr)(t:Nat):(Am n l)[t]?=if t<n then some (look l t)else none:=by
 unfold Am
 rw[List.getElem?_map]
 by_cases h:t<n
 ·rw[List.getElem?_range h,if_pos h];rfl
 ·rw[if_neg h,List.getElem?_eq_none (by simp;omega)];rfl
def evL(n:Nat)(l:Fr):Operand→AV
 |.tmp t=>if t<n then look l t else .junk
 |.const v=>L0 v
 |.global g=>.glob g
 |.func f=>.fn f []
theorem CO(n:Nat)(l:Fr):ev (Am n l)=evL n l:=by
  funext x
  cases x with
  | tmp t=>
    simp only[ev,evL,List.getD,Cf]
    split<;>rfl
  |_=>rfl
def put(d:Option Tmp)(x:AV)(l:Fr):Fr :=
 match d with
 |some t=>(t,x)::l
 |none=>l
theorem BU(n:Nat)(l:Fr)(d:Option Tmp)(x:AV):A7 (Am n l) d x=Am n (put d x l):=by
  cases d with
  |none=>rfl
  | some t=>
    refine List.ext_getElem? fun s=>?_
    simp only[A7,put,List.getElem?_set,Cf]
    have hlen:(Am n l).length=n:=by simp[Am]
    rw[hlen]
    by_cases h:t=s
    · subst h
      simp only[if_true,look]
    · rw[if_neg h]
      simp only[look]
      by_cases hs:s<n
      · rw[if_pos hs,if_pos hs,if_neg (fun e=>h (Eq.symm e))]
      · rw[if_neg hs,if_neg hs]
def keep(ts:List Nat)(l:Fr):Fr:=ts.map fun t=>(t,look l t)
theorem T3(ts:List Nat)(l:Fr)(t:Nat):look (keep ts l) t=.junk∨look (keep ts l) t=look l t:=by
  induction ts with
  |nil=>exact .inl rfl
  | cons s ts ih=>
    show(if t=s then look l s else look (keep ts l) t)=.junk∨_
    by_cases h:t=s
    · subst h;right;show(if t=t then look l t else look (keep ts l) t)=_;rw[if_pos rfl]
    · have e:look (keep (s::ts) l) t=look (keep ts l) t:=by show(if t=s then look l s else look (keep ts l) t)=_;rw[if_neg h]
      rw[e,if_neg h];exact ih
def Ii(E:Env)(ρ:Operand→AV)(σ:Ad)(op:Op):Option (AV×Ad) :=
 match op with
 |.move x|.assign x=>some (ρ x,σ)
 |.pick c a b=>match ρ c with
  |.bool t=>some (if t then ρ a else ρ b,σ)
  |_=>none
 |.alloc t=>match E.tab t with
  |some d=>if d.size=0 then none else if E.bty=some t then some (.tref σ.length t,σ++[.box (d.zero.map (EV σ.length)) false])else some (.ref σ.length 0,σ++[.box d.zero false])
  |none=>none
 |.box t x=>match(ρ x).cells? with
  |some xs=>if xs=[]then none else some (.ref σ.length 0,σ++[.box xs false])
  |none=>none
 |.build t parts=>(OB E t (parts.toList.map fun(i,x)=>(i,ρ x))).map fun x=>(x,σ)
 |.buildSlice t len parts=>C4 E σ t len (parts.toList.map fun(i,x)=>(i,ρ x))
 |.load t a=>match E.tab t with
  |some d=>(loadA E σ d (ρ a)).map fun x=>(x,σ)
  |none=>none
 |.store t a x=>match E.tab t with
  |some d=>(storeA σ d (ρ a) (ρ x)).map fun σ'=>(.junk,σ')
  |none=>none
 |.nilCheck x=>match ρ x with
  |.ref id off=>some (.ref id off,σ)
  |.tref id t=>some (.tref id t,σ)
  |.rp cs=>some (.rp cs,σ)
  |.glob g=>some (.glob g,σ)
  |.fn f cs=>some (.fn f cs,σ)
  |_=>none
 |.binOp op t x y _=>(goB (L3 y) (JF E op t (ρ x)) (Bs E op t (ρ x) (ρ y))).map fun v=>(v,σ)
 |.unOp op _ x=>(Ox op (ρ x)).map fun v=>(v,σ)
 |.convert s d x=>Cz E σ s d (ρ x)
 |.slice t x lo hi mx=>Fa E σ t (ρ x) (lo.map ρ) (hi.map ρ) (mx.map ρ)
 |.fieldAddr s x f=>(AW E σ s (ρ x) f).map fun v=>(v,σ)
 |.field s x f=>(Pg E s (ρ x) f).map fun v=>(v,σ)
 |.indexAddr t x i=>(As E σ t (ρ x) (ρ i)).map fun v=>(v,σ)
 |.index t x i=>(HQ E t (ρ x) (ρ i)).map fun v=>(v,σ)
 |.sliceToArrayPointer t x=>(Np E t (ρ x)).map fun v=>(v,σ)
 |.typeAssert x _ t ok=>(Ig E (ρ x) t ok).map fun v=>(v,σ)
 |.makeSlice t l c=>Ds E σ t (ρ l) (ρ c)
 | .makeFunc fn first caps=>match fn with
  |.func f=>if first.toList=[]then(match caps.toList.map ρ with
   |[.tup _]=>none
   |cs=>some (.fn f cs,σ))else if caps.toList=[]then some (.fn f [.tup (first.toList.map ρ)],σ)else none
  |_=>none
 | .makeInterface t x=>match E.tab t with
  |some d=>match d.desc with
   |.interface _=>none
   |_=>some (.iface t (ρ x),σ)
  |none=>none
 |.lookup t x k ok=>(Ea E σ t (ρ x) (ρ k) ok).map fun v=>(v,σ)
 |.makeMap t none=>some (.mref σ.length,σ++[if Ys E t=true then .mp []else .obj (.map #[] 0)])
 |.mapUpdate t m k x=>(TF E σ t (ρ m) (ρ k) (ρ x)).map fun σ'=>(.junk,σ')
 |.insert t m k x=>(ML E σ t (ρ m) (ρ k) (ρ x)).map fun σ'=>(.junk,σ')
 |.range t x=>match Rg E t,ρ x with
  |true,.str s=>some (.ref σ.length 0,σ++[.obj (.stringIter ⟨s.toArray⟩ 0)])
  |_,_=>none
 | .next it true=>match ρ it with
  |.ref id 0=>match σ[id]? with
   |some (.obj (.stringIter s pos))=>if pos<s.size then some (.tup [.bool true,.int .i64 (pos:Int),.int .i32 (Utf8.decode s pos).1],σ.set id (.obj (.stringIter s (pos+(Utf8.decode s pos).2))))else some (.tup [.bool false],σ)
   |_=>none
  |_=>none
 | .extract x i=>match ρ x with
  |.tup vs=>match vs[i]? with
   |some v=>some (v,σ)
   |none=>none
  |_=>none
 |.call c=>match c.callee with
  |.builtin b=>Ba E σ b c.argTypes.toList (c.args.toList.map ρ)
  |_=>none
 |_=>none
theorem Na(fr:List AV)(σ:Ad)(op:Op):DE E fr σ op=Ii E (ev fr) σ op:=by cases op<;>rfl
def fzL(σ:Ad):List AV→Option (List AV)
 |[]=>some []
 |x::l=>(fz σ x).bind fun y=>(fzL σ l).bind fun ys=>some (y::ys)
theorem Ri(σ:Ad):∀l:List AV,l.mapM (fz σ)=fzL σ l
 |[]=>rfl
 |x::l=>by rw[List.mapM_cons,Ri σ l];rfl
def Rf(r:AV)(dr:Bool)(σ:Ad)(ids:List Nat):Option (AV×Ad) :=
 if r.scalar=true then some (r,σ)else if ids=[]then some (r,σ)else if dr then none else some (r,GN σ ids)
def UO(orc:Orc)(dr:Bool)(ρ:Operand→AV)(σ:Ad)(c:Call):Option (AV×Ad) :=
 match c.callee with
 | .value f=>match ρ f with
  | .fn fid []=>match fzL σ (c.args.toList.map ρ)with
   |some args=>match orc.fz fid args with
    |some r=>Rf r dr σ ((c.args.toList.map ρ).flatMap B2)
    |none=>none
   |none=>none
  |.fn fid [.tup xs]=>match dr with
   |true=>none
   |false=>orc.own fid (xs++c.args.toList.map ρ) σ
  |.fn fid cs=>match dr with
   |true=>none
   |false=>orc.own fid (c.args.toList.map ρ++cs) σ
  |_=>none
 |_=>none
def ownT(orc:Orc)(ρ:Operand→AV)(σ:Ad)(c:Call):Option (AV×Ad) :=
 match c.callee with
 |.value f=>match ρ f with
  |.fn fid []=>orc.own fid (c.args.toList.map ρ) σ
  |.fn fid [.tup xs]=>orc.own fid (xs++c.args.toList.map ρ) σ
  |.fn fid cs=>orc.own fid (c.args.toList.map ρ++cs) σ
  |_=>none
 |_=>none
def Rk(b:Bool)(x y:Option (AV×Ad)):Option (AV×Ad):=match b with
 |true=>x
 |false=>y
def opL(E:Env)(orc:Orc)(dr:Bool)(ρ:Operand→AV)(σ:Ad)(op:Op):Option (AV×Ad) :=
 match op with
 |.call c=>match c.callee with
  |.builtin b=>Ba E σ b c.argTypes.toList (c.args.toList.map ρ)
  |_=>Rk (N5 E c) (ownT orc ρ σ c) (UO orc dr ρ σ c)
 |op=>Ii E ρ σ op
def Mb(ops:Array Oper)(n:Nat)(l:Fr)(j:Nat):Option (Option Bool) :=
 match(ops[j]?).bind (·.dst)with
 |some d=>match evL n l (.tmp d)with
  |.bool b=>some (some b)
  |.tup _=>some none
  |_=>none
 |none=>none
def LN(ops:Array Oper)(n:Nat)(l:Fr)(o:Oper):Option Bool :=
 match o.guard with
 |none=>some true
 |some (j,want)=>(Mb ops n l j).map (·==some want)
def Od(n:Nat)(t:Nat)(s:Fr×Ad):Fr×Ad :=
 if t<n then match B2 (look s.1 t)with
  |[]=>s
  |ids=>match fz s.2 (look s.1 t)with
   |some y=>((t,y)::s.1,GN s.2 ids)
   |none=>s
 else s
def SO(n:Nat):List (Nat×Operand)→Fr×Ad→Fr×Ad
 |[],s=>s
 |p::l,s=>SO n l (match p.2 with
  |.tmp t=>Od n t s
  |_=>s)
def G3(dr:Bool)(n:Nat)(op:Op)(s:Fr×Ad):Fr×Ad :=
 match dr,op with
 |false,.buildSlice _ _ parts=>SO n parts.toList s
 |_,_=>s
def LS(E:Env)(orc:Option Tmp→Orc)(dr:Bool)(n:Nat)(ops:Array Oper)(o:Oper)(s:Fr×Ad):Option (Fr×Ad) :=
 match LN ops n s.1 o with
 |some true=>((opL E (orc o.dst) dr (evL n (G3 dr n o.op s).1) (G3 dr n o.op s).2 o.op).bind (EX (dr&&EE E ops o) (G3 dr n o.op s).2)).map fun r=>(put o.dst r.1 (G3 dr n o.op s).1,r.2)
 |some false=>some (put o.dst (.tup []) s.1,s.2)
 |none=>none
def BJ(E:Env)(orc:Option Tmp→Orc)(dr:Bool)(n:Nat)(ops:Array Oper):List Oper→Fr×Ad→Option (Fr×Ad)
 |[],s=>some s
 |o::l,s=>(LS E orc dr n ops o s).bind (BJ E orc dr n ops l)
def Jf(E:Env)(orc:Option Tmp→Orc)(dr:Bool)(n:Nat)(l:List Oper)(ts:List Nat)(s:Fr×Ad):Option (Fr×Ad) :=
 (BJ E orc dr n l.toArray l s).bind fun r=>some (keep ts r.1,r.2)
theorem Ib(ops:Array Oper)(n:Nat)(l:Fr)(j:Nat):IE ops (Am n l) j=Mb ops n l j:=by
 unfold IE Mb
 split
 ·rename_i d hd
  simp only[hd,Cf,evL]
  by_cases h:d<n
  ·rw[if_pos h,if_pos h]
   cases look l d<;>rfl
  ·rw[if_neg h,if_neg h]
 ·rename_i hd
  simp only[hd]
theorem S6(ops:Array Oper)(n:Nat)(l:Fr)(o:Oper):Gr ops (Am n l) o=LN ops n l o:=by
 unfold Gr LN
 split
 ·simp_all
 ·rename_i j w h;simp only[h,Ib]
def GV(B:Base)(orc:Option Tmp→Orc):Prop:=∀d,K5 B (orc d)
theorem C3(hE:E.Ok){orc:Orc}(hO:K5 E.toBase orc){o:Oper}{n:Nat}{fr:Fr}{σ:Ad}{r:AV×Ad}(h:opL E orc false (evL n fr) σ o.op=some r)
    {a:Act} {w:World} {g:Gh} (hr:Rel E w g ⟨Am n fr,σ⟩ a) {next:Act→World→Prop} {Q:Exit→Act→World→Prop}
    (hk:∀a' w' g',Rel E w' g' ⟨Am n (put o.dst r.1 fr),r.2⟩ a'→Evo E 0 w g w' g'→GLe g g'→next a' w'):o.wp E.P a w next Q:=by
  rw[←CO]at h
  have hk':∀a' w' g',Rel E w' g' ⟨A7 (Am n fr) o.dst r.1,r.2⟩ a'→Evo E 0 w g w' g'→GLe g g'→next a' w':=fun a' w' g' h1 h2 h3=>hk a' w' g' (by rw[BU]at h1;exact h1) h2 h3
  have plain:DE E (Am n fr) σ o.op=some r→o.wp E.P a w next Q:=by
    intro h
    obtain⟨v,w',g',h1,h2,h3,h4,h5⟩:=H9 (x:=r.1) (σ':=r.2) hE hr h
    unfold Oper.wp
    exact MN h1 (hk' _ w' g' (Ey (FL hr h2 h3 h4) o.dst h5) h4 h3)
  cases hop:o.op with
  | call c=>
    simp only[hop,opL]at h
    cases hc:c.callee<;>simp only[hc]at h
    case builtin b=>exact plain (by rw[hop];simp only[DE,hc];exact h)
    all_goals (cases hown:N5 E c<;>simp only[hown,Rk]at h)
    all_goals try (exact XI (st:=⟨Am n fr,σ⟩) hO hop h hr hk')
    all_goals try (simp[UO,hc]at h;done)
    rename_i f
    unfold UO at h
    simp only[hc]at h
    split at h
    case h_4=>cases h
    case h_3=>
      rename_i fid cs _ hnt hf
      exact KJ (st:=⟨Am n fr,σ⟩) hop hc (fun ys e=>hnt ys e) hf (L1 (hO.2 _ _ _ r.1 r.2 h E.F)) hr hk'
    case h_2=>
      rename_i fid xs hf
      exact IU (st:=⟨Am n fr,σ⟩) hop hc hf (L1 (hO.2 _ _ _ r.1 r.2 h E.F)) hr hk'
    rename_i fid hf
    split at h
    case h_2=>cases h
    rename_i args ha
    rw[←Ri]at ha
    split at h
    case h_2=>cases h
    rename_i r2 ho
    unfold Rf at h
    split at h
    · rename_i hs
      cases h
      exact HZ hop hc hf ha hs ((hO.1 _ _ _ ho).mono fun _ _ h=>h.1) hr hk'
    · split at h
      · rename_i hs
        cases h
        refine FN hop hc hf ha (hO.1 _ _ _ ho) hr ?_
        rw[hs]
        exact hk'
      · cases h
        exact FN hop hc hf ha (hO.1 _ _ _ ho) hr hk'
  |_=>exact plain (by rw[hop,Na];simp only[hop]at h;exact h)
theorem SZ{w:World}{g:Gh}{n:Nat}{s:Fr×Ad}{a:Act}(hr:Rel E w g ⟨Am n s.1,s.2⟩ a)(m t:Nat) :
    ∃g',Rel E w g' ⟨Am n (Od n t s).1,(Od n t s).2⟩ a∧Evo E m w g w g':=by
  unfold Od
  split
  case isFalse=>exact⟨g,hr,Evo.refl _ _ _ _⟩
  rename_i htn
  split
  · exact⟨g,hr,Evo.refl _ _ _ _⟩
  · rename_i hids
    cases hy:fz s.2 (look s.1 t)with
    |none=>exact⟨g,hr,Evo.refl _ _ _ _⟩
    |some y=>
    obtain⟨g1,m1,hle,he,hs,hp⟩:=HA (B2 (look s.1 t)) hr.mem
    refine⟨g1,⟨?_,?_,m1,hr.defers.evo he⟩,he.of_gle hle⟩
    · have:=hr.size;simpa [Am]using this
    · intro u x hx
      rw[Cf]at hx
      split at hx
      case isFalse=>cases hx
      rename_i hun
      cases hx
      show Rep _ _ _ _ (if u=t then y else look s.1 u)
      have hslot:=hr.slot u (look s.1 u) (by rw[Cf,if_pos hun])
      by_cases e:u=t
      · subst e
        rw[if_pos rfl]
        refine(Mt hr.mem hslot hy hp ?_).mono (fun a u hcc hpr=>⟨hcc,hpr⟩) (GLe.nil _)
        intro id b hix hb β off hβ hoff
        obtain⟨k,els,ro,hσ⟩:=RB hy hix
        obtain⟨ro',hσ'⟩:=Jk (B2 (look s.1 u)) s.2 id hσ
        obtain⟨b1,hb1,t1,t2,t3,t4,t5,t6⟩:=hs id b hb
        have hro:=KK (B2 (look s.1 u)) s.2 id (.inl hix) _ _ _ hσ'
        have hbro:b1.ro=true:=by rw[(m1.blk id b1 _ hb1 hσ').2.1,hro]
        refine⟨fun hF=>(m1.foreign _ hF).2 ⟨id,b1,hb1,t1.trans hβ⟩,fun id' c hc he'=>?_⟩
        have:id'=id:=m1.inj id' id c b1 β hc hb1 he' (t1.trans hβ)
        subst this
        rw[hb1]at hc;cases hc
        exact⟨hbro,by rw[t2,t3,t4];exact hoff⟩
      · rw[if_neg e]
        exact hslot.mono (fun a u hc hpr=>⟨hc,hp a hpr⟩) hle
theorem K7{w:World}{n:Nat}{a:Act}(m:Nat):∀(l:List (Nat×Operand)) (g:Gh) (s:Fr×Ad),Rel E w g ⟨Am n s.1,s.2⟩ a →
    ∃g',Rel E w g' ⟨Am n (SO n l s).1,(SO n l s).2⟩ a∧Evo E m w g w g'
  |[],g,s,hr=>⟨g,hr,Evo.refl _ _ _ _⟩
  | p :: l,g,s,hr=>by
    unfold SO
    split
    · rename_i t ht
      obtain⟨g1,h1,e1⟩:=SZ hr m t
      obtain⟨g2,h2,e2⟩:=K7 m l g1 _ h1
      exact⟨g2,h2,e1.trans e2⟩
    · exact K7 m l g s hr
theorem O7{w:World}{g:Gh}{n:Nat}{s:Fr×Ad}{a:Act}(hr:Rel E w g ⟨Am n s.1,s.2⟩ a)(m:Nat)(dr:Bool)(op:Op) :
 ∃g',Rel E w g' ⟨Am n (G3 dr n op s).1,(G3 dr n op s).2⟩ a∧Evo E m w g w g':=by
 unfold G3
 split
 ·exact K7 m _ g s hr
 ·exact⟨g,hr,Evo.refl _ _ _ _⟩
theorem GD(hE:E.Ok){orc:Option Tmp→Orc}(hO:GV E.toBase orc){m n:Nat}{ops:Array Oper}{K:C0}{rest:List Oper}:∀(l:List Oper) (fr:Fr) (σ:Ad) (fr':Fr) (σ':Ad),
    BJ E orc false n ops l (fr,σ)=some (fr',σ')→OW E m ops rest ⟨Am n fr',σ'⟩ K→OW E m ops (l++rest) ⟨Am n fr,σ⟩ K
  | [],fr,σ,fr',σ',h,hk=>by
    simp only[BJ,Option.some.injEq,Prod.mk.injEq]at h
    obtain⟨rfl,rfl⟩:=h
    exact hk
  | o :: l,fr,σ,fr',σ',h,hk=>by
    simp only[BJ,Option.bind_eq_some_iff]at h
    obtain⟨⟨fr1,σ1⟩,h1,h2⟩:=h
    intro hcm a w g hr Q hq
    obtain⟨cm1,cm2⟩:=NN hcm
    unfold LS at h1
    have efz:∀σ,EX (false&&EE E ops o) σ=some:=fun σ=>by funext r;simp[EX]
    rw[efz,Bj]at h1
    obtain⟨g1,hr1,he1⟩:=O7 (s:=(fr,σ)) hr m false o.op
    generalize hfz:G3 false n o.op (fr,σ)=s1 at h1 hr1
    have hgo:∀{v:AV} {σ2:Ad},opL E (orc o.dst) false (evL n s1.1) s1.2 o.op=some (v,σ2)→fr1=put o.dst v s1.1→σ1=σ2→o.wp E.P a w (wpListIn E.fen 0 E.P ops Q (l++rest)) Q:=by
      intro v σ2 e1 e2 e3
      subst e2 e3
      refine C3 hE (hO _) e1 hr1 ?_
      intro a' w' g' hr' he hg
      refine GD (m:=m) hE hO l _ _ _ _ h2 hk cm2 a' w' g' hr' Q ?_
      intro ex st' a2 w2 g2 k r e
      exact hq ex st' a2 w2 g2 k r (he1.trans ((he.of_gle hg).trans e))
    cases hgd:o.guard with
    | none=>
      simp only[LN,hgd,Option.map_eq_some_iff,Prod.mk.injEq]at h1
      obtain⟨⟨v,σ2⟩,e1,e2,e3⟩:=h1
      simp only[List.cons_append,wpListIn,Region.wanted,hgd,if_true]
      exact Su (hgo e1 e2.symm e3.symm) cm1
    | some jw=>
      obtain⟨j,want⟩:=jw
      simp only[LN,hgd]at h1
      cases hy:Mb ops n fr j with
      |none=>simp[hy]at h1
      | some b=>
        simp only[hy,Option.map_some]at h1
        have hy':IE ops (Am n fr) j=some b:=by rw[Ib,hy]
        simp only[List.cons_append,wpListIn,Region.wanted,hgd,Ht hr hy']
        by_cases e:b=some want
        · rw[if_pos (by simp[e])]
          rw[show(b==some want)=true by simp[e]]at h1
          simp only[Option.map_eq_some_iff,Prod.mk.injEq]at h1
          obtain⟨⟨v,σ2⟩,e1,e2,e3⟩:=h1
          exact Su (hgo e1 e2.symm e3.symm) cm1
        · rw[if_neg (by simp[e])]
          rw[show(b==some want)=false by simp[e]]at h1
          simp only[Option.some.injEq,Prod.mk.injEq]at h1
          obtain⟨e2,e3⟩:=h1
          subst e2 e3
          refine⟨fun _ _=>trivial,GD hE hO l _ _ _ _ h2 hk cm2 _ w g ?_ Q hq⟩
          have:=Ey hr o.dst (Ll _ _ _)
          rw[BU]at this
          exact this
theorem Md(hE:E.Ok){orc:Option Tmp→Orc}(hO:GV E.toBase orc){m n:Nat}{ops:Array Oper}{K:C0}(l:List Oper)(fr:Fr)(σ:Ad)(fr':Fr)(σ':Ad)
 (h:BJ E orc false n ops l (fr,σ)=some (fr',σ')) (hk:K .normal ⟨Am n fr',σ'⟩):OW E m ops l ⟨Am n fr,σ⟩ K:=by
 have:=GD (m:=m) (rest:=[]) hE hO l fr σ fr' σ' h (Yl hk)
 rwa[List.append_nil]at this
def Weak(E:Env)(n:Nat)(st st':St):Prop:=∀a w g,Rel E w g st a→∃g',Rel E w g' st' a∧Evo E n w g w g'
theorem Weak.refl(n:Nat)(st:St):Weak E n st st:=fun a w g h=>⟨g,h,Evo.refl _ _ _ _⟩
theorem Weak.trans{n:Nat}{a b c:St}(h:Weak E n a b)(k:Weak E n b c):Weak E n a c:=fun x w g r=>
 let⟨g1,r1,e1⟩:=h x w g r
 let⟨g2,r2,e2⟩:=k x w g1 r1
 ⟨g2,r2,e1.trans e2⟩
theorem DD{n:Nat}{c:Code}{st st':St}{K:C0}(h:Weak E n st st')(hr:Run E n c st' K):Run E n c st K:=by
 intro hcm a w g hrel Q hq
 obtain⟨g',h1,h2⟩:=h a w g hrel
 exact hr hcm a w g' h1 Q (fun ex st2 a' w' g2 k r e=>hq ex st2 a' w' g2 k r (h2.trans e))
theorem Fx{n:Nat}{st st':St}(h:∀a w g,Rel E w g st a→∃g',Rel E w g' st' a∧Evo E n w g w g'):Weak E n st st':=h
theorem CV(n N:Nat)(ts:List Nat)(l:Fr)(σ:Ad):Weak E n ⟨Am N l,σ⟩ ⟨Am N (keep ts l),σ⟩:=by
 refine Fx fun a w g h=>⟨g,⟨?_,?_,h.mem,h.defers⟩,Evo.refl _ _ _ _⟩
 ·have:=h.size;simpa [Am]using this
 ·intro t x hx
  rw[Cf]at hx
  split at hx
  case isFalse=>cases hx
  rename_i ht
  cases hx
  rcases T3 ts l t with e|e
  ·rw[e];exact .junk _ _
  ·rw[e];exact h.slot t _ (by rw[Cf,if_pos ht])
theorem Re(hE:E.Ok){orc:Option Tmp→Orc}(hO:GV E.toBase orc){m n id:Nat}{l:List Oper}{fr fr':Fr}{σ σ':Ad}{K:C0}(ts:List Nat)
 (h:Jf E orc false n l ts (fr,σ)=some (fr',σ')) {y:Code} (hk:Run E m y ⟨Am n fr',σ'⟩ K):Run E m (.seq (.region id l.toArray false) y) ⟨Am n fr,σ⟩ K:=by
 simp only[Jf,Option.bind_eq_some_iff,Option.some.injEq,Prod.mk.injEq]at h
 obtain⟨⟨fr1,σ1⟩,h1,rfl,rfl⟩:=h
 exact Fp (Jg (Md hE hO _ _ _ _ _ h1 (DD (CV _ _ _ _ _) hk)))
theorem J0{orc:Option Tmp→Orc}{n:Nat}{ops:Array Oper}{o:Oper}{fr fr':Fr}{σ σ':Ad}(h:LS E orc true n ops o (fr,σ)=some (fr',σ')) :
  C6 E orc ops o ⟨Am n fr,σ⟩=some ⟨Am n fr',σ'⟩:=by
 unfold LS at h
 have hfz:G3 true n o.op (fr,σ)=(fr,σ):=by
  unfold G3
  split
  ·rename_i h0 _;cases h0
  ·rfl
 rw[hfz,Bool.true_and]at h
 unfold C6 D1
 simp only[S6]
 split at h
 ·rename_i hw
  simp only at hw
  simp only[hw]
  simp only[Option.map_eq_some_iff,Prod.mk.injEq]at h
  obtain⟨⟨v,σ2⟩,e0,rfl,rfl⟩:=h
  rw[Option.bind_eq_some_iff]at e0
  obtain⟨⟨v1,σ3⟩,e1,e0⟩:=e0
  have : Cm E (orc o.dst) o.op (Am n fr) σ=some (v1,σ3):=by
   rw[←CO]at e1
   unfold Cm
   unfold opL at e1
   split
   ·rename_i c hop
    simp only[hop]at e1
    split
    ·rename_i b hc
     simp only[hc]at e1
     simp only[DE,hop,hc]
     exact e1
    ·rename_i hc
     split at e1
     ·rename_i b hb;exact(hc b hb).elim
     cases hown:N5 E c
     case true=>
      rw[hown]at e1
      rw[if_pos rfl]
      exact e1
     rw[hown]at e1
     rw[if_neg (by simp)]
     simp only[Rk]at e1
     unfold UO at e1
     unfold Ju
     split at e1
     case h_2=>cases e1
     rename_i f hf
     simp only[hf]
     split at e1
     case h_4=>cases e1
     case h_3=>cases e1
     case h_2=>cases e1
     rename_i fid hfid
     simp only[hfid]
     rw[←Ri]at e1
     split at e1
     case h_2=>cases e1
     rename_i args ha
     simp only[ha]
     split at e1
     case h_2=>cases e1
     rename_i r hr
     simp only[hr]
     unfold Rf at e1
     split at e1
     ·rename_i hs
      cases e1
      rw[if_pos (.inl hs)];rfl
     ·split at e1
      ·rename_i hs
       cases e1
       rw[if_pos (.inr hs)];rfl
      ·simp at e1
   ·rename_i op hop
    split at e1
    ·rename_i c hc;exact(hop c hc).elim
    ·rw[Na];exact e1
  rw[this,Option.bind_some,e0]
  simp only[Option.map_some,BU]
 ·rename_i hw
  simp only at hw
  simp only[hw]
  cases h
  simp only[Option.map_some,BU]
 ·cases h
theorem E0{orc:Option Tmp→Orc}{n:Nat}{ops:Array Oper}:∀(k:Nat) (l:List Oper) (fr fr':Fr) (σ σ':Ad),ops.toList.drop k=l →
    BJ E orc true n ops l (fr,σ)=some (fr',σ')→AF E orc ops (List.range' k l.length) ⟨Am n fr,σ⟩=some ⟨Am n fr',σ'⟩
  | k,[],fr,fr',σ,σ',hl,h=>by
    simp only[BJ,Option.some.injEq,Prod.mk.injEq]at h
    obtain⟨rfl,rfl⟩:=h
    rfl
  | k,o::l,fr,fr',σ,σ',hl,h=>by
    simp only[BJ,Option.bind_eq_some_iff]at h
    obtain⟨⟨fr1,σ1⟩,h1,h2⟩:=h
    have hk:ops[k]?=some o:=by
      have:(ops.toList.drop k)[0]?=some o:=by rw[hl];rfl
      rw[List.getElem?_drop]at this
      simpa using this
    have hl':ops.toList.drop (k+1)=l:=by
      rw[←List.tail_drop,hl];rfl
    show AF E orc ops (k::List.range' (k+1) l.length) _=_
    unfold AF
    simp only[hk,J0 h1,Option.bind_some]
    exact E0 (k+1) l _ _ _ _ hl' h2
theorem RJ(hE:E.Ok){orc:Option Tmp→Orc}(hO:GV E.toBase orc)(hP:E.P.follows .mixedOrders=true){m n id:Nat}{l:List Oper}(T:List (List Nat))(hok1:Er l.toArray T=true)(hok2:IY E l.toArray T=true){fr fr':Fr}{σ σ':Ad}{K:C0}(ts:List Nat)
 (h:Jf E orc true n l ts (fr,σ)=some (fr',σ')) {y:Code} (hk:Run E m y ⟨Am n fr',σ'⟩ K):Run E m (.seq (.region id l.toArray true) y) ⟨Am n fr,σ⟩ K:=by
 simp only[Jf,Option.bind_eq_some_iff,Option.some.injEq,Prod.mk.injEq]at h
 obtain⟨⟨fr1,σ1⟩,h1,rfl,rfl⟩:=h
 refine Fp (KA hE hO hP T hok1 hok2 ?_ ?_ (st':=⟨Am n fr1,σ1⟩))
 ·have:=E0 (E:=E) (ops:=l.toArray) 0 l fr fr1 σ σ1 (by simp) h1
  rw[List.range_eq_range']
  exact this
 ·exact DD (CV _ _ _ _ _) hk
theorem Ur(hE:E.Ok){orc:Option Tmp→Orc}(hO:GV E.toBase orc){m n id:Nat}{l:List Oper}{fr fr':Fr}{σ σ':Ad}{K:C0}
 (h:BJ E orc false n l.toArray l (fr,σ)=some (fr',σ')) (hk:K .normal ⟨Am n fr',σ'⟩):Run E m (.region id l.toArray false) ⟨Am n fr,σ⟩ K :=
 Jg (Md hE hO _ _ _ _ _ h hk)
theorem T4(hE:E.Ok){orc:Option Tmp→Orc}(hO:GV E.toBase orc)(hP:E.P.follows .mixedOrders=true){m n id:Nat}{l:List Oper}(T:List (List Nat))(hok1:Er l.toArray T=true)(hok2:IY E l.toArray T=true){fr fr':Fr}{σ σ':Ad}{K:C0}
 (h:BJ E orc true n l.toArray l (fr,σ)=some (fr',σ')) (hk:K .normal ⟨Am n fr',σ'⟩):Run E m (.region id l.toArray true) ⟨Am n fr,σ⟩ K:=by
 refine KA hE hO hP T hok1 hok2 ?_ hk
 have:=E0 (E:=E) (ops:=l.toArray) 0 l fr fr' σ σ' (by simp) h
 rw[List.range_eq_range']
 exact this
end Go.Rv
