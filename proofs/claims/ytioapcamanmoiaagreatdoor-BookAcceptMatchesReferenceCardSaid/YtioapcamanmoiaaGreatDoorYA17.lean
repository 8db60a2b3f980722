/-
  Part 17.
-/
import Derived.Test.YtioapcamanmoiaaGreatDoorYA16
import Derived.Scope
namespace Go.Rv
variable{orc:Option Tmp→Orc}{n m id:Nat}{σ σ':Ad}{K:DB}{l:List Oper}
variable {E:Env}
abbrev Fr:=List (Nat×AV)
def look:Fr→Nat→AV
 |[],_=>.junk
 |p::l,t=>if t=p.1 then p.2 else look l t
def Ao(n:Nat)(l:Fr):List AV:=(List.range n).map (look l)
theorem DD(n:Nat)(l:Fr)(t:Nat):(Ao n l)[t]?=if t<n then some (look l t)else none:=by
 unfold Ao;rw[Atf];by_cases h:t<n
 ·rw[Aui h,AsU h];rfl
 ·rw[AsX h,AtX (by simp;omega)];rfl
def evL(n:Nat)(l:Fr):Operand→AV
 |.tmp t=>if t<n then look l t else .junk
 |.const v=>P5 v
 |.global g=>.glob g
 |.func f=>.fn f []
theorem EP(n:Nat)(l:Fr):ev (Ao n l)=evL n l:=by
  funext x;cases x with
  | tmp t=>
    simp only[ev,evL,List.getD,DD];split<;>rfl
  |_=>rfl
def put(d:Option Tmp)(x:AV)(l:Fr):Fr :=
 match d with
 |some t=>(t,x)::l
 |none=>l
theorem Eu(n:Nat)(l:Fr)(d:Option Tmp)(x:AV):AY (Ao n l) d x=Ao n (put d x l):=by
  cases d with
  |none=>rfl
  | some t=>
    refine At2 fun s=>?_
    simp only[AY,put,AtG,DD];have hlen:(Ao n l).length=n:=by simp[Ao]
    rw[hlen];by_cases h:t=s
    · subst h
      simp only[AuA,look]
    · rw[AsX h]
      simp only[look];by_cases hs:s<n
      · rw[AsU hs,AsU hs,AsX (fun e=>h (Eq.symm e))]
      · rw[AsX hs,AsX hs]
def keep(ts:List Nat)(l:Fr):Fr:=ts.map fun t=>(t,look l t)
theorem U2(ts:List Nat)(l:Fr)(t:Nat):look (keep ts l) t=.junk∨look (keep ts l) t=look l t:=by
  induction ts with
  |nil=>exact .inl rfl
  | cons s ts ih=>
    show(if t=s then look l s else look (keep ts l) t)=.junk∨_;by_cases h:t=s
    · subst h;right;show(if t=t then look l t else look (keep ts l) t)=_;rw[AsU rfl]
    · have e:look (keep (s::ts) l) t=look (keep ts l) t:=by show(if t=s then look l s else look (keep ts l) t)=_;rw[AsX h]
      rw[e,AsX h];exact ih
def RG(E:Env)(ρ:Operand→AV)(σ:Ad)(op:Op):Option (AV×Ad) :=
 match op with
 |.move x|.assign x=>some (ρ x,σ)
 |.pick c a b=>match ρ c with
  |.bool t=>some (if t then ρ a else ρ b,σ)
  |_=>none
 |.alloc t=>match E.tab t with
  |some d=>if d.size=0 then none else if E.bty=some t then some (.tref σ.length t,σ++[.box (d.zero.map (GM σ.length)) false])else some (.ref σ.length 0,σ++[.box d.zero false])
  |none=>none
 |.box t x=>match(ρ x).cells? with
  |some xs=>if xs=[]then none else some (.ref σ.length 0,σ++[.box xs false])
  |none=>none
 |.build t parts=>(Uy E t (parts.toList.map fun(i,x)=>(i,ρ x))).map fun x=>(x,σ)
 |.buildSlice t len parts=>DL E σ t len (parts.toList.map fun(i,x)=>(i,ρ x))
 |.load t a=>match E.tab t with
  |some d=>(loadA E σ d (ρ a)).map fun x=>(x,σ)
  |none=>none
 |.store t a x=>match E.tab t with
  |some d=>(storeA σ d (ρ a) (ρ x)).map fun σ'=>(.junk,σ')
  |none=>none
 |.nilCheck x=>match ρ x with
  |.ref id off=>some (.ref id off,σ)
  |.tref id t=>some (.tref id t,σ)
  |.rp cs=>some (.rp cs,σ)
  |.glob g=>some (.glob g,σ)
  |.fn f cs=>some (.fn f cs,σ)
  |_=>none
 |.binOp op t x y _=>(goB (OW y) (YX E op t (ρ x)) (AM E op t (ρ x) (ρ y))).map fun v=>(v,σ)
 |.unOp op _ x=>(OB op (ρ x)).map fun v=>(v,σ)
 |.convert s d x=>BR E σ s d (ρ x)
 |.slice t x lo hi mx=>HK E σ t (ρ x) (lo.map ρ) (hi.map ρ) (mx.map ρ)
 |.fieldAddr s x f=>(BB E σ s (ρ x) f).map fun v=>(v,σ)
 |.field s x f=>(UJ E s (ρ x) f).map fun v=>(v,σ)
 |.indexAddr t x i=>(Az E σ t (ρ x) (ρ i)).map fun v=>(v,σ)
 |.index t x i=>(JL E t (ρ x) (ρ i)).map fun v=>(v,σ)
 |.sliceToArrayPointer t x=>(TJ E t (ρ x)).map fun v=>(v,σ)
 |.makeSlice t l c=>EL E σ t (ρ l) (ρ c)
 | .makeFunc fn first caps=>match fn with
  |.func f=>if first.toList=[]then(match caps.toList.map ρ with
   |[.tup _]=>none
   |cs=>some (.fn f cs,σ))else if caps.toList=[]then some (.fn f [.tup (first.toList.map ρ)],σ)else none
  |_=>none
 | .makeInterface t x=>match E.tab t with
  |some d=>match d.desc with
   |.interface _=>none
   |_=>some (.iface t (ρ x),σ)
  |none=>none
 |.lookup t x k ok=>(FU E σ t (ρ x) (ρ k) ok).map fun v=>(v,σ)
 |.makeMap t none=>some (.mref σ.length,σ++[if Ahk E t=true then .mp []else .obj (.map #[] 0)])
 |.mapUpdate t m k x=>(VI E σ t (ρ m) (ρ k) (ρ x)).map fun σ'=>(.junk,σ')
 |.insert t m k x=>(TW E σ t (ρ m) (ρ k) (ρ x)).map fun σ'=>(.junk,σ')
 |.range t x=>match ZD E t,ρ x with
  |true,.str s=>some (.ref σ.length 0,σ++[.obj (.stringIter ⟨s.toArray⟩ 0)])
  |_,_=>none
 | .next it true=>match ρ it with
  |.ref id 0=>match σ[id]? with
   |some (.obj (.stringIter s pos))=>if pos<s.size then some (.tup [.bool true,.int .i64 (pos:Int),.int .i32 (Utf8.decode s pos).1],σ.set id (.obj (.stringIter s (pos+(Utf8.decode s pos).2))))else some (.tup [.bool false],σ)
   |_=>none
  |_=>none
 | .extract x i=>match ρ x with
  |.tup vs=>match vs[i]? with
   |some v=>some (v,σ)
   |none=>none
  |_=>none
 |.call c=>match c.callee with
  |.builtin b=>Bp E σ b c.argTypes.toList (c.args.toList.map ρ)
  |_=>none
 |_=>none
theorem WN(fr:List AV)(σ:Ad)(op:Op):Ff E fr σ op=RG E (ev fr) σ op:=by cases op<;>rfl
def fzL(σ:Ad):List AV→Option (List AV)
 |[]=>some []
 |x::l=>(fz σ x).bind fun y=>(fzL σ l).bind fun ys=>some (y::ys)
theorem YA(σ:Ad):∀l:List AV,l.mapM (fz σ)=fzL σ l
 |[]=>rfl
 |x::l=>by rw[AuF,YA σ l];rfl
def YK(r:AV)(dr:Bool)(σ:Ad)(ids:List Nat):Option (AV×Ad) :=
 if r.scalar=true then some (r,σ)else if ids=[]then some (r,σ)else if dr then none else some (r,HA σ ids)
def AcG(orc:Orc)(dr:Bool)(ρ:Operand→AV)(σ:Ad)(c:Call):Option (AV×Ad) :=
 match c.callee with
 | .value f=>match ρ f with
  | .fn fid []=>match fzL σ (c.args.toList.map ρ)with
   |some args=>match orc.fz fid args with
    |some r=>YK r dr σ ((c.args.toList.map ρ).flatMap Ci)
    |none=>none
   |none=>none
  |.fn fid [.tup xs]=>match dr with
   |true=>none
   |false=>orc.own fid (xs++c.args.toList.map ρ) σ
  |.fn fid cs=>match dr with
   |true=>none
   |false=>orc.own fid (c.args.toList.map ρ++cs) σ
  |_=>none
 |_=>none
def ownT(orc:Orc)(ρ:Operand→AV)(σ:Ad)(c:Call):Option (AV×Ad) :=
 match c.callee with
 |.value f=>match ρ f with
  |.fn fid []=>orc.own fid (c.args.toList.map ρ) σ
  |_=>none
 |_=>none
def Y0(b:Bool)(x y:Option (AV×Ad)):Option (AV×Ad):=match b with
 |true=>x
 |false=>y
def opL(E:Env)(orc:Orc)(dr:Bool)(ρ:Operand→AV)(σ:Ad)(op:Op):Option (AV×Ad) :=
 match op with
 |.call c=>match c.callee with
  |.builtin b=>Bp E σ b c.argTypes.toList (c.args.toList.map ρ)
  |_=>Y0 (T7 E c) (ownT orc ρ σ c) (AcG orc dr ρ σ c)
 |op=>RG E ρ σ op
def Sw(ops:Array Oper)(n:Nat)(l:Fr)(j:Nat):Option (Option Bool) :=
 match(ops[j]?).bind (·.dst)with
 |some d=>match evL n l (.tmp d)with
  |.bool b=>some (some b)
  |.tup _=>some none
  |_=>none
 |none=>none
def Rg(ops:Array Oper)(n:Nat)(l:Fr)(o:Oper):Option Bool :=
 match o.guard with
 |none=>some true
 |some (j,want)=>(Sw ops n l j).map (·==some want)
def Vn(n:Nat)(t:Nat)(s:Fr×Ad):Fr×Ad :=
 if t<n then match Ci (look s.1 t)with
  |[]=>s
  |ids=>match fz s.2 (look s.1 t)with
   |some y=>((t,y)::s.1,HA s.2 ids)
   |none=>s
 else s
def Aae(n:Nat):List (Nat×Operand)→Fr×Ad→Fr×Ad
 |[],s=>s
 |p::l,s=>Aae n l (match p.2 with
  |.tmp t=>Vn n t s
  |_=>s)
def Jy(dr:Bool)(n:Nat)(op:Op)(s:Fr×Ad):Fr×Ad :=
 match dr,op with
 |false,.buildSlice _ _ parts=>Aae n parts.toList s
 |_,_=>s
def QX(E:Env)(orc:Option Tmp→Orc)(dr:Bool)(n:Nat)(ops:Array Oper)(o:Oper)(s:Fr×Ad):Option (Fr×Ad) :=
 match Rg ops n s.1 o with
 |some true=>((opL E (orc o.dst) dr (evL n (Jy dr n o.op s).1) (Jy dr n o.op s).2 o.op).bind (G8 (dr&&FX E ops o) (Jy dr n o.op s).2)).map fun r=>(put o.dst r.1 (Jy dr n o.op s).1,r.2)
 |some false=>some (put o.dst (.tup []) s.1,s.2)
 |none=>none
def BQ(E:Env)(orc:Option Tmp→Orc)(dr:Bool)(n:Nat)(ops:Array Oper):List Oper→Fr×Ad→Option (Fr×Ad)
 |[],s=>some s
 |o::l,s=>(QX E orc dr n ops o s).bind (BQ E orc dr n ops l)
def NJ(E:Env)(orc:Option Tmp→Orc)(dr:Bool)(n:Nat)(l:List Oper)(ts:List Nat)(s:Fr×Ad):Option (Fr×Ad) :=
 (BQ E orc dr n l.toArray l s).bind fun r=>some (keep ts r.1,r.2)
theorem Lm(ops:Array Oper)(n:Nat)(l:Fr)(j:Nat):Mb ops (Ao n l) j=Sw ops n l j:=by
 unfold Mb Sw;split
 ·rename_i d hd;simp only[hd,DD,evL];by_cases h:d<n
  ·rw[AsU h,AsU h];cases look l d<;>rfl
  ·rw[AsX h,AsX h]
 ·rename_i hd;simp only[hd]
theorem Abm(ops:Array Oper)(n:Nat)(l:Fr)(o:Oper):Ke ops (Ao n l) o=Rg ops n l o:=by
 unfold Ke Rg;split
 ·simp_all
 ·rename_i j w h;simp only[h,Lm]
def KK(B:Base)(orc:Option Tmp→Orc):Prop:=∀d,Q9 B (orc d)
theorem Xl(hE:E.Ok){orc:Orc}(hO:Q9 E.toBase orc){o:Oper}{fr:Fr}{r:AV×Ad}(h:opL E orc false (evL n fr) σ o.op=some r) {a:Act} {w:World} {g:Gh} (hr:Rel E w g ⟨Ao n fr,σ⟩ a) {next:Act→World→Prop} {Q:Exit→Act→World→Prop} (hk:∀a' w' g',Rel E w' g' ⟨Ao n (put o.dst r.1 fr),r.2⟩ a'→Evo E 0 w g w' g'→GLe g g'→next a' w'):o.wp E.P a w next Q:=by
  rw[←EP]at h;have hk':∀a' w' g',Rel E w' g' ⟨AY (Ao n fr) o.dst r.1,r.2⟩ a'→Evo E 0 w g w' g'→GLe g g'→next a' w':=fun a' w' g' h1 h2 h3=>hk a' w' g' (by rw[Eu]at h1;exact h1) h2 h3
  have plain:Ff E (Ao n fr) σ o.op=some r→o.wp E.P a w next Q:=by
    intro h;obtain⟨v,w',g',h1,h2,h3,h4,h5⟩:=Nf (x:=r.1) (σ':=r.2) hE hr h;unfold Oper.wp;exact TN h1 (hk' _ w' g' (Gq (JV hr h2 h3 h4) o.dst h5) h4 h3)
  cases hop:o.op with
  | call c=>
    simp only[hop,opL]at h;cases hc:c.callee<;>simp only[hc]at h
    case builtin b=>exact plain (by rw[hop];simp only[Ff,hc];exact h)
    all_goals (cases hown:T7 E c<;>simp only[hown,Y0]at h)
    all_goals try (exact Ahl (st:=⟨Ao n fr,σ⟩) hO hop h hr hk')
    all_goals try (simp[AcG,hc]at h;done)
    rename_i f;unfold AcG at h;simp only[hc]at h;split at h
    case h_4=>cases h
    case h_3=>
      rename_i fid cs _ hnt hf;exact Xu (st:=⟨Ao n fr,σ⟩) hop hc (fun ys e=>hnt ys e) hf (XX (hO.2 _ _ _ r.1 r.2 h E.F)) hr hk'
    case h_2=>
      rename_i fid xs hf;exact Tk (st:=⟨Ao n fr,σ⟩) hop hc hf (XX (hO.2 _ _ _ r.1 r.2 h E.F)) hr hk'
    rename_i fid hf;split at h
    case h_2=>cases h
    rename_i args ha;rw[←YA]at ha;split at h
    case h_2=>cases h
    rename_i r2 ho;unfold YK at h;split at h
    · rename_i hs
      cases h;exact KP hop hc hf ha hs ((hO.1 _ _ _ ho).mono fun _ _ h=>h.1) hr hk'
    · split at h
      · rename_i hs
        cases h;refine HP hop hc hf ha (hO.1 _ _ _ ho) hr ?_;rw[hs];exact hk'
      · cases h
        exact HP hop hc hf ha (hO.1 _ _ _ ho) hr hk'
  |_=>exact plain (by rw[hop,WN];simp only[hop]at h;exact h)
theorem Aay{w:World}{g:Gh}{s:Fr×Ad}{a:Act}(hr:Rel E w g ⟨Ao n s.1,s.2⟩ a)(m t:Nat) :∃g',Rel E w g' ⟨Ao n (Vn n t s).1,(Vn n t s).2⟩ a∧Evo E m w g w g':=by
  unfold Vn;split
  case isFalse=>exact⟨g,hr,Evo.refl _ _ _ _⟩
  rename_i htn;split
  · exact⟨g,hr,Evo.refl _ _ _ _⟩
  · rename_i hids
    cases hy:fz s.2 (look s.1 t)with
    |none=>exact⟨g,hr,Evo.refl _ _ _ _⟩
    |some y=>
    obtain⟨g1,m1,hle,he,hs,hp⟩:=K5 (Ci (look s.1 t)) hr.mem;refine⟨g1,⟨?_,?_,m1,hr.defers.evo he⟩,he.of_gle hle⟩
    · have:=hr.size;simpa [Ao]using this
    · intro u x hx
      rw[DD]at hx;split at hx
      case isFalse=>cases hx
      rename_i hun;cases hx;show Rep _ _ _ _ (if u=t then y else look s.1 u);have hslot:=hr.slot u (look s.1 u) (by rw[DD,AsU hun]);by_cases e:u=t
      · subst e
        rw[AsU rfl];refine(Yx hr.mem hslot hy hp ?_).mono (fun a u hcc hpr=>⟨hcc,hpr⟩) (GLe.nil _);intro id b hix hb β off hβ hoff;obtain⟨k,els,ro,hσ⟩:=AgV hy hix;obtain⟨ro',hσ'⟩:=Na (Ci (look s.1 u)) s.2 id hσ;obtain⟨b1,hb1,t1,t2,t3,t4,t5,t6⟩:=hs id b hb;have hro:=Pf (Ci (look s.1 u)) s.2 id (.inl hix) _ _ _ hσ';have hbro:b1.ro=true:=by rw[(m1.blk id b1 _ hb1 hσ').2.1,hro]
        refine⟨fun hF=>(m1.foreign _ hF).2 ⟨id,b1,hb1,t1.trans hβ⟩,fun id' c hc he'=>?_⟩;have:id'=id:=m1.inj id' id c b1 β hc hb1 he' (t1.trans hβ);subst this;rw[hb1]at hc;cases hc;exact⟨hbro,by rw[t2,t3,t4];exact hoff⟩
      · rw[AsX e]
        exact hslot.mono (fun a u hc hpr=>⟨hc,hp a hpr⟩) hle
theorem Px{w:World}{n:Nat}{a:Act}(m:Nat):∀(l:List (Nat×Operand)) (g:Gh) (s:Fr×Ad),Rel E w g ⟨Ao n s.1,s.2⟩ a →∃g',Rel E w g' ⟨Ao n (Aae n l s).1,(Aae n l s).2⟩ a∧Evo E m w g w g'
  |[],g,s,hr=>⟨g,hr,Evo.refl _ _ _ _⟩
  | p :: l,g,s,hr=>by
    unfold Aae;split
    · rename_i t ht
      obtain⟨g1,h1,e1⟩:=Aay hr m t;obtain⟨g2,h2,e2⟩:=Px m l g1 _ h1;exact⟨g2,h2,e1.trans e2⟩
    · exact Px m l g s hr
theorem UP{w:World}{g:Gh}{s:Fr×Ad}{a:Act}(hr:Rel E w g ⟨Ao n s.1,s.2⟩ a)(m:Nat)(dr:Bool)(op:Op) :∃g',Rel E w g' ⟨Ao n (Jy dr n op s).1,(Jy dr n op s).2⟩ a∧Evo E m w g w g':=by
 unfold Jy;split
 ·exact Px m _ g s hr
 ·exact⟨g,hr,Evo.refl _ _ _ _⟩
theorem Ji(hE:E.Ok){orc:Option Tmp→Orc}(hO:KK E.toBase orc){m n:Nat}{ops:Array Oper}{K:DB}{rest:List Oper}:∀(l:List Oper) (fr:Fr) (σ:Ad) (fr':Fr) (σ':Ad),BQ E orc false n ops l (fr,σ)=some (fr',σ')→Qv E m ops rest ⟨Ao n fr',σ'⟩ K→Qv E m ops (l++rest) ⟨Ao n fr,σ⟩ K
  | [],fr,σ,fr',σ',h,hk=>by
    simp only[BQ,AsW,As4]at h;obtain⟨rfl,rfl⟩:=h;exact hk
  | o :: l,fr,σ,fr',σ',h,hk=>by
    simp only[BQ,As6]at h;obtain⟨⟨fr1,σ1⟩,h1,h2⟩:=h;intro hcm a w g hr Q hq;obtain⟨cm1,cm2⟩:=VC hcm;unfold QX at h1;have efz:∀σ,G8 (false&&FX E ops o) σ=some:=fun σ=>by funext r;simp[G8]
    rw[efz,Bw]at h1;obtain⟨g1,hr1,he1⟩:=UP (s:=(fr,σ)) hr m false o.op;generalize hfz:Jy false n o.op (fr,σ)=s1 at h1 hr1
    have hgo:∀{v:AV} {σ2:Ad},opL E (orc o.dst) false (evL n s1.1) s1.2 o.op=some (v,σ2)→fr1=put o.dst v s1.1→σ1=σ2→o.wp E.P a w (wpListIn E.fen 0 E.P ops Q (l++rest)) Q:=by
      intro v σ2 e1 e2 e3;subst e2 e3;refine Xl hE (hO _) e1 hr1 ?_;intro a' w' g' hr' he hg;refine Ji (m:=m) hE hO l _ _ _ _ h2 hk cm2 a' w' g' hr' Q ?_;intro ex st' a2 w2 g2 k r e;exact hq ex st' a2 w2 g2 k r (he1.trans ((he.of_gle hg).trans e))
    cases hgd:o.guard with
    | none=>
      simp only[Rg,hgd,AsV,As4]at h1;obtain⟨⟨v,σ2⟩,e1,e2,e3⟩:=h1;simp only[Atj,wpListIn,Region.wanted,hgd,AuA];exact AeQ (hgo e1 e2.symm e3.symm) cm1
    | some jw=>
      obtain⟨j,want⟩:=jw;simp only[Rg,hgd]at h1;cases hy:Sw ops n fr j with
      |none=>simp[hy]at h1
      | some b=>
        simp only[hy,AtC]at h1;have hy':Mb ops (Ao n fr) j=some b:=by rw[Lm,hy]
        simp only[Atj,wpListIn,Region.wanted,hgd,JI hr hy'];by_cases e:b=some want
        · rw[AsU (by simp[e])]
          rw[show(b==some want)=true by simp[e]]at h1;simp only[AsV,As4]at h1;obtain⟨⟨v,σ2⟩,e1,e2,e3⟩:=h1;exact AeQ (hgo e1 e2.symm e3.symm) cm1
        · rw[AsX (by simp[e])]
          rw[show(b==some want)=false by simp[e]]at h1;simp only[AsW,As4]at h1;obtain⟨e2,e3⟩:=h1;subst e2 e3;refine⟨fun _ _=>trivial,Ji hE hO l _ _ _ _ h2 hk cm2 _ w g ?_ Q hq⟩;have:=Gq hr o.dst (OZ _ _ _);rw[Eu]at this;exact this
theorem MX(hE:E.Ok)(hO:KK E.toBase orc){ops:Array Oper}(l:List Oper)(fr:Fr)(σ:Ad)(fr':Fr)(σ':Ad) (h:BQ E orc false n ops l (fr,σ)=some (fr',σ')) (hk:K .normal ⟨Ao n fr',σ'⟩):Qv E m ops l ⟨Ao n fr,σ⟩ K:=by
 have:=Ji (m:=m) (rest:=[]) hE hO l fr σ fr' σ' h (Akm hk);rwa[At1]at this
def Weak(E:Env)(n:Nat)(st st':St):Prop:=∀a w g,Rel E w g st a→∃g',Rel E w g' st' a∧Evo E n w g w g'
theorem Weak.refl(n:Nat)(st:St):Weak E n st st:=fun a w g h=>⟨g,h,Evo.refl _ _ _ _⟩
theorem Weak.trans{n:Nat}{a b c:St}(h:Weak E n a b)(k:Weak E n b c):Weak E n a c:=fun x w g r=>
 let⟨g1,r1,e1⟩:=h x w g r
 let⟨g2,r2,e2⟩:=k x w g1 r1
 ⟨g2,r2,e1.trans e2⟩
theorem FC{c:Code}{st st':St}(h:Weak E n st st')(hr:Run E n c st' K):Run E n c st K:=by
 intro hcm a w g hrel Q hq;obtain⟨g',h1,h2⟩:=h a w g hrel;exact hr hcm a w g' h1 Q (fun ex st2 a' w' g2 k r e=>hq ex st2 a' w' g2 k r (h2.trans e))
theorem Gd{st st':St}(h:∀a w g,Rel E w g st a→∃g',Rel E w g' st' a∧Evo E n w g w g'):Weak E n st st':=h
theorem F4(n N:Nat)(ts:List Nat)(l:Fr)(σ:Ad):Weak E n ⟨Ao N l,σ⟩ ⟨Ao N (keep ts l),σ⟩:=by
 refine Gd fun a w g h=>⟨g,⟨?_,?_,h.mem,h.defers⟩,Evo.refl _ _ _ _⟩
 ·have:=h.size;simpa [Ao]using this
 ·intro t x hx;rw[DD]at hx;split at hx
  case isFalse=>cases hx
  rename_i ht;cases hx;rcases U2 ts l t with e|e
  ·rw[e];exact .junk _ _
  ·rw[e];exact h.slot t _ (by rw[DD,AsU ht])
theorem ZE(hE:E.Ok)(hO:KK E.toBase orc){fr fr':Fr}(ts:List Nat) (h:NJ E orc false n l ts (fr,σ)=some (fr',σ')) {y:Code} (hk:Run E m y ⟨Ao n fr',σ'⟩ K):Run E m (.seq (.region id l.toArray false) y) ⟨Ao n fr,σ⟩ K:=by
 simp only[NJ,As6,AsW,As4]at h;obtain⟨⟨fr1,σ1⟩,h1,rfl,rfl⟩:=h;exact Kl (MP (MX hE hO _ _ _ _ _ h1 (FC (F4 _ _ _ _ _) hk)))
theorem S5{ops:Array Oper}{o:Oper}{fr fr':Fr}(h:QX E orc true n ops o (fr,σ)=some (fr',σ')) :CW E orc ops o ⟨Ao n fr,σ⟩=some ⟨Ao n fr',σ'⟩:=by
 unfold QX at h
 have hfz:Jy true n o.op (fr,σ)=(fr,σ):=by
  unfold Jy;split
  ·rename_i h0 _;cases h0
  ·rfl
 rw[hfz,AuU]at h;unfold CW EV;simp only[Abm];split at h
 ·rename_i hw;simp only at hw;simp only[hw];simp only[AsV,As4]at h;obtain⟨⟨v,σ2⟩,e0,rfl,rfl⟩:=h;rw[As6]at e0;obtain⟨⟨v1,σ3⟩,e1,e0⟩:=e0
  have : Dg E (orc o.dst) o.op (Ao n fr) σ=some (v1,σ3):=by
   rw[←EP]at e1;unfold Dg;unfold opL at e1;split
   ·rename_i c hop;simp only[hop]at e1;split
    ·rename_i b hc;simp only[hc]at e1;simp only[Ff,hop,hc];exact e1
    ·rename_i hc;split at e1
     ·rename_i b hb;exact(hc b hb).elim
     cases hown:T7 E c
     case true=>
      rw[hown]at e1;rw[AsU rfl];exact e1
     rw[hown]at e1;rw[AsX (by simp)];simp only[Y0]at e1;unfold AcG at e1;unfold Mu;split at e1
     case h_2=>cases e1
     rename_i f hf;simp only[hf];split at e1
     case h_4=>cases e1
     case h_3=>cases e1
     case h_2=>cases e1
     rename_i fid hfid;simp only[hfid];rw[←YA]at e1;split at e1
     case h_2=>cases e1
     rename_i args ha;simp only[ha];split at e1
     case h_2=>cases e1
     rename_i r hr;simp only[hr];unfold YK at e1;split at e1
     ·rename_i hs;cases e1;rw[AsU (.inl hs)];rfl
     ·split at e1
      ·rename_i hs;cases e1;rw[AsU (.inr hs)];rfl
      ·simp at e1
   ·rename_i op hop;split at e1
    ·rename_i c hc;exact(hop c hc).elim
    ·rw[WN];exact e1
  rw[this,AsY,e0];simp only[AtC,Eu]
 ·rename_i hw;simp only at hw;simp only[hw];cases h;simp only[AtC,Eu]
 ·cases h
theorem H2{orc:Option Tmp→Orc}{n:Nat}{ops:Array Oper}:∀(k:Nat) (l:List Oper) (fr fr':Fr) (σ σ':Ad),ops.toList.drop k=l →BQ E orc true n ops l (fr,σ)=some (fr',σ')→BC E orc ops (List.range' k l.length) ⟨Ao n fr,σ⟩=some ⟨Ao n fr',σ'⟩
  | k,[],fr,fr',σ,σ',hl,h=>by
    simp only[BQ,AsW,As4]at h;obtain⟨rfl,rfl⟩:=h;rfl
  | k,o::l,fr,fr',σ,σ',hl,h=>by
    simp only[BQ,As6]at h;obtain⟨⟨fr1,σ1⟩,h1,h2⟩:=h
    have hk:ops[k]?=some o:=by
      have:(ops.toList.drop k)[0]?=some o:=by rw[hl];rfl
      rw[Atq]at this;simpa using this
    have hl':ops.toList.drop (k+1)=l:=by
      rw[←Awf,hl];rfl
    show BC E orc ops (k::List.range' (k+1) l.length) _=_;unfold BC;simp only[hk,S5 h1,AsY];exact H2 (k+1) l _ _ _ _ hl' h2
theorem ZJ(hE:E.Ok)(hO:KK E.toBase orc)(hP:E.P.follows .mixedOrders=true)(T:List (List Nat))(hok1:Gc l.toArray T=true)(hok2:Ik E l.toArray T=true){fr fr':Fr}(ts:List Nat) (h:NJ E orc true n l ts (fr,σ)=some (fr',σ')) {y:Code} (hk:Run E m y ⟨Ao n fr',σ'⟩ K):Run E m (.seq (.region id l.toArray true) y) ⟨Ao n fr,σ⟩ K:=by
 simp only[NJ,As6,AsW,As4]at h;obtain⟨⟨fr1,σ1⟩,h1,rfl,rfl⟩:=h;refine Kl (OX hE hO hP T hok1 hok2 ?_ ?_ (st':=⟨Ao n fr1,σ1⟩))
 ·have:=H2 (E:=E) (ops:=l.toArray) 0 l fr fr1 σ σ1 (by simp) h1;rw[AtT];exact this
 ·exact FC (F4 _ _ _ _ _) hk
theorem AbJ(hE:E.Ok)(hO:KK E.toBase orc){fr fr':Fr} (h:BQ E orc false n l.toArray l (fr,σ)=some (fr',σ')) (hk:K .normal ⟨Ao n fr',σ'⟩):Run E m (.region id l.toArray false) ⟨Ao n fr,σ⟩ K :=
 MP (MX hE hO _ _ _ _ _ h hk)
theorem AbV(hE:E.Ok)(hO:KK E.toBase orc)(hP:E.P.follows .mixedOrders=true)(T:List (List Nat))(hok1:Gc l.toArray T=true)(hok2:Ik E l.toArray T=true){fr fr':Fr} (h:BQ E orc true n l.toArray l (fr,σ)=some (fr',σ')) (hk:K .normal ⟨Ao n fr',σ'⟩):Run E m (.region id l.toArray true) ⟨Ao n fr,σ⟩ K:=by
 refine OX hE hO hP T hok1 hok2 ?_ hk;have:=H2 (E:=E) (ops:=l.toArray) 0 l fr fr' σ σ' (by simp) h;rw[AtT];exact this
end Go.Rv
