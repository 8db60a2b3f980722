/-
  Part 37.
-/
import Derived.Test.YtldngkmkhfddpaaDoorYT36
namespace Go.Rv
open Go.RowKit
set_option linter.unusedVariables false
set_option linter.unusedSimpArgs false
variable {E:Env}
def Abr:AV→Option Nat
 |.bs _ id _ _ _=>some id
 |_=>none
def slB:AV→Nat→Bool
 |.bs _ id _ _ _,d=>id==d
 |.sl _ _,_=>true
 |_,_=>false
def La:AV→Nat→Prop
 |.bs _ id tot off len,d=>id=d∧off=0∧len=tot
 |_,_=>False
def O9:Op→Option Nat
 |.slice _ (.tmp p) _ _ _=>some p
 |_=>none
def Y0:Op→Option Nat
 |.fieldAddr _ (.tmp p) _=>some p
 |.indexAddr _ (.tmp p) _=>some p
 |_=>none
def Acj:Op→Option Nat
 |.call c=>match c.callee,c.args.toList with
  |.builtin .append,[.tmp p,_]=>some p
  |_,_=>none
 |_=>none
def Vj(E:Env)(orc:Option Tmp→Orc)(ops:Array Oper)(y:Oper)(fr:List AV)(a:Nat):Prop :=
 ∀(σ σ':Ad) (v:AV),D1 E orc ops y fr σ=some (v,σ')→σ'=σ∧∀σ2:Ad,σ2[a]?=σ[a]?→D1 E orc ops y fr σ2=some (v,σ2)
def Aet(E:Env)(orc:Option Tmp→Orc)(ops:Array Oper)(y:Oper)(fr:List AV):Prop :=
 ∀(σ σ':Ad) (v:AV),D1 E orc ops y fr σ=some (v,σ')→σ'=σ∧∀σ2:Ad,D1 E orc ops y fr σ2=some (v,σ2)
theorem Gq{orc:Option Tmp→Orc}{ops:Array Oper}{o:Oper}{fr:List AV}(hf:EE E ops o=false)(σ:Ad):D1 E orc ops o fr σ=match Gr ops fr o with
 |some true=>Cm E (orc o.dst) o.op fr σ
 |some false=>some (.tup [],σ)
 |none=>none:=by
 have e:EX false σ=some:=by funext r;simp[EX]
 unfold D1
 rw[hf]
 split<;>simp_all [Bj]
theorem Kq{ops:Array Oper}{o:Oper}(h1:∀t n l,o.op≠.buildSlice t n l)(h2:∀s d x,o.op≠.convert s d x):EE E ops o=false:=by
 cases hf:EE E ops o
 ·rfl
 ·rcases DG hf with⟨t,n,l,h⟩|⟨s,d,x,h,_⟩
  ·exact(h1 _ _ _ h).elim
  ·exact(h2 _ _ _ h).elim
theorem Po{orc:Option Tmp→Orc}{ops:Array Oper}{y:Oper}{fr:List AV}{p a:Nat}(hp:K1 y.op=some p)(ha:FW (ev fr (.tmp p))=some a):Vj E orc ops y fr a :=
 fun σ σ' v h=>⟨(DN hp ha h rfl).1,fun σ2 h2=>(DN hp ha h h2).2⟩
theorem Qb{orc:Option Tmp→Orc}{ops:Array Oper}{y:Oper}{fr:List AV}{p a:Nat}(hp:O9 y.op=some p)(ha:Abr (ev fr (.tmp p))=some a):Vj E orc ops y fr a:=by
  intro σ σ' v h
  unfold O9 at hp
  split at hp
  case h_2=>cases hp
  rename_i t p' lo hi mx ho
  cases hp
  have hf:EE E ops y=false:=Kq (fun _ _ _ h=>by rw[ho]at h;cases h) (fun _ _ _ h=>by rw[ho]at h;cases h)
  obtain⟨f,T,off,L,hx⟩:∃f T off L,ev fr (.tmp p)=.bs f a T off L:=by
    unfold Abr at ha
    split at ha
    · rename_i e;cases ha;exact⟨_,_,_,_,e⟩
    · cases ha
  simp only[Gq hf]at h ⊢
  cases hw:Gr ops fr y with
  |none=>simp[hw]at h
  | some b=>
    cases b with
    | false=>
      simp only[hw,Option.some.injEq,Prod.mk.injEq]at h ⊢
      exact⟨h.2.symm,fun σ2 _=>⟨h.1,trivial⟩⟩
    | true=>
      simp only[hw,ho,Cm,DE,hx]at h ⊢
      unfold Fa at h ⊢
      cases ht:E.tab t with
      |none=>simp[ht]at h
      | some d=>
        simp only[ht]at h ⊢
        cases hd:d.desc<;>simp only[hd]at h ⊢<;>try (cases h;done)
        rename_i e
        refine⟨?_,fun σ2 h2=>?_⟩
        · split at h
          case h_2=>cases h
          split at h
          case isFalse=>cases h
          split at h
          case h_2=>cases h
          cases h;rfl
        · rw[h2]
          split at h
          case h_2=>cases h
          split at h
          case isFalse=>cases h
          split at h
          case h_2=>cases h
          cases h
          rw[if_pos (by assumption)]
theorem NS{orc:Option Tmp→Orc}{ops:Array Oper}{y:Oper}{fr:List AV}{p a:Nat}(hp:O9 y.op=some p)(ha:slB (ev fr (.tmp p)) a=true):Vj E orc ops y fr a:=by
  cases hx:ev fr (.tmp p)<;>rw[hx]at ha<;>first|(cases ha;done)|skip
  case bs f id T off L=>
    refine Qb hp ?_
    rw[hx,Abr,eq_of_beq ha]
  case sl f els=>
    intro σ σ' v h
    unfold O9 at hp
    split at hp
    case h_2=>cases hp
    rename_i t p' lo hi mx ho
    cases hp
    have hf:EE E ops y=false:=Kq (fun _ _ _ h=>by rw[ho]at h;cases h) (fun _ _ _ h=>by rw[ho]at h;cases h)
    simp only[Gq hf]at h ⊢
    cases hw:Gr ops fr y with
    |none=>simp[hw]at h
    | some b=>
      cases b with
      | false=>
        simp only[hw,Option.some.injEq,Prod.mk.injEq]at h ⊢
        exact⟨h.2.symm,fun σ2 _=>⟨h.1,trivial⟩⟩
      | true=>
        simp only[hw,ho,Cm,DE,hx]at h ⊢
        unfold Fa at h ⊢
        cases ht:E.tab t with
        |none=>simp[ht]at h
        | some d=>
          simp only[ht]at h ⊢
          cases hd:d.desc<;>simp only[hd]at h ⊢<;>try (cases h;done)
          rename_i e
          refine⟨?_,fun σ2 h2=>?_⟩
          · split at h
            case h_2=>cases h
            split at h
            case isFalse=>cases h
            cases h;rfl
          · split at h
            case h_2=>cases h
            split at h
            case isFalse=>cases h
            cases h
            rw[if_pos (by assumption)]
theorem Ab7{orc:Option Tmp→Orc}{ops:Array Oper}{y:Oper}{fr:List AV}{p a:Nat}(hp:Y0 y.op=some p)(ha:FW (ev fr (.tmp p))=some a):Aet E orc ops y fr:=by
  intro σ σ' v h
  obtain⟨off,hr⟩:=IV ha
  have hf:EE E ops y=false:=Kq (fun _ _ _ h=>by rw[h]at hp;cases hp) (fun _ _ _ h=>by rw[h]at hp;cases hp)
  simp only[Gq hf]at h ⊢
  cases hw:Gr ops fr y with
  |none=>simp[hw]at h
  | some b=>
    cases b with
    | false=>
      simp only[hw,Option.some.injEq,Prod.mk.injEq]at h ⊢
      exact⟨h.2.symm,fun σ2=>⟨h.1,trivial⟩⟩
    | true=>
      unfold Y0 at hp
      split at hp
      case h_3=>cases hp
      · rename_i s p' f ho
        cases hp
        simp only[hw,ho,Cm,DE,hr]at h ⊢
        rw[Option.map_eq_some_iff]at h
        obtain⟨x,h,h3⟩:=h
        cases h3
        refine⟨rfl,fun σ2=>?_⟩
        have:AW E σ2 s (.ref a off) f=AW E σ s (.ref a off) f:=by
          unfold AW;rfl
        rw[this,h];rfl
      · rename_i t p' i ho
        cases hp
        simp only[hw,ho,Cm,DE,hr]at h ⊢
        rw[Option.map_eq_some_iff]at h
        obtain⟨x,h,h3⟩:=h
        cases h3
        refine⟨rfl,fun σ2=>?_⟩
        have:As E σ2 t (.ref a off) (ev fr i)=As E σ t (.ref a off) (ev fr i):=by
          unfold As
          cases E.tab t with
          |none=>rfl
          | some d=>
            simp only
            cases d.desc<;>first|rfl|(rename_i e;dsimp only;cases E.tab e<;>rfl)
        rw[this,h];rfl
theorem Ts{f:Bool}{id T a:Nat}{t:TypeId}{x v:AV}{σ σ1:Ad}(hne:a≠id)(h:Ih E σ t (.bs f id T 0 T) x=some (v,σ1)):σ1[a]?=σ[a]?:=by
  unfold Ih at h
  split at h
  · cases h
  split at h
  case h_2=>cases h
  split at h
  case h_2=>cases h
  split at h
  · cases h
  split at h
  case isFalse=>cases h
  simp only at h
  split at h
  case h_3=>cases h
  case h_2=>
    generalize GF _=z at h
    cases z with
    |none=>cases h
    | some nl=>
      simp only at h
      split at h
      · cases h;exact List.getElem?_set_ne (fun e=>hne e.symm)
      · cases h
  split at h
  case isFalse=>cases h
  rw[if_pos (by simp)]at h
  cases h
  exact List.getElem?_set_ne (fun e=>hne e.symm)
theorem Xl{orc:Option Tmp→Orc}{ops:Array Oper}{o:Oper}{fr:List AV}{σ σ1:Ad}{v:AV}{q d a:Nat}(hp:Acj o.op=some q)(hw:La (ev fr (.tmp q)) d)(hne:a≠d)(h:D1 E orc ops o fr σ=some (v,σ1)):σ1[a]?=σ[a]?:=by
  unfold Acj at hp
  split at hp
  case h_2=>cases hp
  rename_i c ho
  split at hp
  case h_2=>cases hp
  rename_i p' y hc hargs
  cases hp
  have hf:EE E ops o=false:=Kq (fun _ _ _ h=>by rw[ho]at h;cases h) (fun _ _ _ h=>by rw[ho]at h;cases h)
  obtain⟨f,T,hx⟩:∃f T,ev fr (.tmp q)=.bs f d T 0 T:=by
    unfold La at hw
    split at hw
    · rename_i e;obtain⟨rfl,rfl,rfl⟩:=hw;exact⟨_,_,e⟩
    · cases hw
  rw[Gq hf]at h
  cases hwn:Gr ops fr o with
  |none=>simp[hwn]at h
  | some b=>
    cases b with
    |false=>simp only[hwn]at h;cases h;rfl
    | true=>
      simp only[hwn,ho,Cm,hc,DE,hargs,List.map_cons,List.map_nil,hx]at h
      cases hts:c.argTypes.toList with
      |nil=>simp[Ba,hts]at h
      | cons t r=>
        cases r with
        |nil=>simp[Ba,hts]at h
        | cons u r=>
          simp only[Ba,hts]at h
          split at h
          case h_2=>cases h
          split at h
          · cases h
          · exact Ts hne h
theorem VT{orc:Option Tmp→Orc}{ops:Array Oper}{o:Oper}{fr:List AV}{σ σ1:Ad}{v:AV}(hb:G8 o.op=true)(hf:EE E ops o=false)(h:D1 E orc ops o fr σ=some (v,σ1)):σ1=σ∨∃n b,v=.bs true σ.length n 0 n∧σ1=σ++[b]:=by
  rw[Gq hf]at h
  cases hwn:Gr ops fr o with
  |none=>simp[hwn]at h
  | some w=>
    cases w with
    |false=>simp only[hwn]at h;cases h;exact .inl rfl
    | true=>
      unfold G8 at hb
      split at hb
      case h_2=>cases hb
      rename_i t n l ho
      simp only[hwn,ho,Cm,DE]at h
      unfold C4 at h
      split at h
      case h_1=>cases h
      split at h
      case h_2=>cases h
      split at h
      case h_2=>cases h
      split at h
      case isTrue=>cases h
      split at h
      case h_2=>cases h
      cases h
      exact .inr ⟨_,_,rfl,rfl⟩
inductive SepT(E:Env)(orc:Option Tmp→Orc)(ops:Array Oper)(x y:Oper)(st:St):Prop
  |free (h:Aet E orc ops y st.fr)
  |look (a:Nat) (h:Vj E orc ops y st.fr a) (hx:∀σ1 v,D1 E orc ops x st.fr st.σ=some (v,σ1)→σ1[a]?=st.σ[a]?)
theorem QK{orc:Option Tmp→Orc}{ops:Array Oper}{x y:Oper}{st st1 st2:St}(hap:x.apart ops y=true)(hc:SepT E orc ops x y st)
    (h1:C6 E orc ops x st=some st1) (h2:C6 E orc ops y st1=some st2):∃st3,C6 E orc ops y st=some st3∧C6 E orc ops x st3=some st2:=by
  obtain⟨a1,a2,a3⟩:=Oper.apart_spec hap
  unfold C6 at h1 h2 ⊢
  rw[Option.map_eq_some_iff]at h1 h2
  obtain⟨⟨v,σ1⟩,hv,rfl⟩:=h1
  obtain⟨⟨u,σ2⟩,hu,rfl⟩:=h2
  simp only at hu ⊢
  rw[CN a1]at hu
  have fin:∀σ3,D1 E orc ops y st.fr st.σ=some (u,σ3)→D1 E orc ops x st.fr σ3=some (v,σ2) →
      ∃st3,(D1 E orc ops y st.fr st.σ).map (fun r=>(⟨A7 st.fr y.dst r.1,r.2⟩:St))=some st3∧(D1 E orc ops x st3.fr st3.σ).map (fun r=>(⟨A7 st3.fr x.dst r.1,r.2⟩:St))=some ⟨A7 (A7 st.fr x.dst v) y.dst u,σ2⟩:=by
    intro σ3 hy hx
    refine⟨⟨A7 st.fr y.dst u,σ3⟩,by rw[hy];rfl,?_⟩
    simp only
    rw[CN a3,hx]
    simp only[Option.map_some,F9 st.fr v u a2]
  cases hc with
  | free h=>
    obtain⟨rfl,h3⟩:=h _ _ _ hu
    exact fin _ (h3 _) hv
  | look a h hx=>
    obtain⟨rfl,h3⟩:=h _ _ _ hu
    exact fin _ (h3 _ (hx _ _ hv).symm) hv
theorem ID{orc:Option Tmp→Orc}{ops:Array Oper}{i:Nat}{y:Oper}(hi:ops[i]?=some y){l2:List Nat}{st':St}:∀(l1:List Nat) (st:St),
    (∀m1 j m2,l1=m1++j::m2→∀x,ops[j]?=some x→Im E ops x y=true∨x.apart ops y=true∧∀st,AF E orc ops ((j::m2)++i::l2) st=some st'→SepT E orc ops x y st)→AF E orc ops (l1++i::l2) st=some st' →
    ∃st1,C6 E orc ops y st=some st1∧AF E orc ops (l1++l2) st1=some st'
  | [],st,_,h=>by
    simp only[List.nil_append,AF,hi]at h
    rw[Option.bind_eq_some_iff]at h
    exact h
  | j :: l1,st,hc,h0=>by
    have h:=h0
    simp only[List.cons_append,AF]at h
    cases hj:ops[j]? with
    |none=>simp[hj]at h
    | some x=>
      simp only[hj]at h
      rw[Option.bind_eq_some_iff]at h
      obtain⟨s1,h1,h⟩:=h
      obtain⟨s2,h2,h⟩:=ID hi l1 s1 (fun m1 k m2 e=>hc (j::m1) k m2 (by rw[e];rfl)) h
      have:∃st3,C6 E orc ops y st=some st3∧C6 E orc ops x st3=some s2:=by
        rcases hc [] j l1 rfl x hj with hcb|⟨hap,hcy⟩
        · exact H2 hcb h1 h2
        · exact QK hap (hcy st h0) h1 h2
      obtain⟨s3,h3,h4⟩:=this
      refine⟨s3,h3,?_⟩
      simp only[List.cons_append,AF,hj,h4,Option.bind_some]
      exact h
def AbA(ps bs:List (Nat×Nat))(o:Op):Option (Nat×Nat) :=
 match K1 o with
 |some p=>(LZ ps p).map fun a=>(p,a)
 |none=>match O9 o with
  |some p=>(LZ bs p).map fun a=>(p,a)
  |none=>none
def Ux(E:Env)(ops:Array Oper)(ws ds:List (Nat×Nat))(ts:List Nat)(j:Nat)(x:Oper)(a:Nat):Bool :=
 (match Acj x.op with
  |some q=>(match LZ ws q with
   |some d=>a != d&&Eh ops ts (fun k=>decide (k<j)) q
   |none=>false)
  |none=>false) ||
 (G8 x.op&&!EE E ops x&&(match x.dst with
  |some t=>(match LZ ds t with
   |some d=>decide (a<d)&&Eh ops ts (fun k=>decide (k≤j)) t
   |none=>false)
  |none=>false))
def sepT(E:Env)(ops:Array Oper)(T:List (List Nat))(ps bs ws ds:List (Nat×Nat))(ts:List Nat)(j i:Nat)(x y:Oper):Bool :=
 (match Y0 y.op with
  |some p=>(match LZ ps p with
   |some _=>Eh ops ts (fun k=>(T.getD i []).contains k&&decide (k<i)) p
   |none=>false)
  |none=>false) ||
 (match AbA ps bs y.op with
  |some (p,a)=>Eh ops ts (fun k=>(T.getD i []).contains k&&decide (k<i)) p&&Ux E ops ws ds ts j x a
  |none=>false)
def Vq(E:Env)(ops:Array Oper)(T:List (List Nat))(ps bs ws ds:List (Nat×Nat))(ts:List Nat):Bool :=
 (List.range ops.size).all fun i=>(List.range i).all fun j=>(T.getD i []).contains j||(match ops[j]?,ops[i]? with
  |some x,some y=>Im E ops x y||(x.apart ops y&&sepT E ops T ps bs ws ds ts j i x y)
  |_,_=>false)
def SlL(n:Nat)(fr:Fr):List (Nat×Nat)→Prop
 |[]=>True
 |p::ps=>slB (evL n fr (.tmp p.1)) p.2=true∧SlL n fr ps
theorem XR{n:Nat}{fr:Fr}:∀{ps:List (Nat×Nat)} {t a:Nat},SlL n fr ps→LZ ps t=some a→slB (evL n fr (.tmp t)) a=true
  |[],t,a,_,h=>by cases h
  | p :: ps,t,a,hr,h=>by
    unfold LZ at h
    rw[List.find?_cons]at h
    by_cases e:(p.1==t)=true
    · simp only[e]at h
      cases h
      rw[←eq_of_beq e]
      exact hr.1
    · simp only[e]at h
      exact XR hr.2 h
def BsL(n:Nat)(fr:Fr):List (Nat×Nat)→Prop
 |[]=>True
 |p::ps=>Abr (evL n fr (.tmp p.1))=some p.2∧BsL n fr ps
def Rl(n:Nat)(fr:Fr):List (Nat×Nat)→Prop
 |[]=>True
 |p::ps=>La (evL n fr (.tmp p.1)) p.2∧Rl n fr ps
theorem XN{n:Nat}{fr:Fr}:∀{ps:List (Nat×Nat)} {t a:Nat},BsL n fr ps→LZ ps t=some a→Abr (evL n fr (.tmp t))=some a
  |[],t,a,_,h=>by cases h
  | p :: ps,t,a,hr,h=>by
    unfold LZ at h
    rw[List.find?_cons]at h
    by_cases e:(p.1==t)=true
    · simp only[e]at h
      cases h
      rw[←eq_of_beq e]
      exact hr.1
    · simp only[e]at h
      exact XN hr.2 h
theorem OC{n:Nat}{fr:Fr}:∀{ps:List (Nat×Nat)} {t a:Nat},Rl n fr ps→LZ ps t=some a→La (evL n fr (.tmp t)) a
  |[],t,a,_,h=>by cases h
  | p :: ps,t,a,hr,h=>by
    unfold LZ at h
    rw[List.find?_cons]at h
    by_cases e:(p.1==t)=true
    · simp only[e]at h
      cases h
      rw[←eq_of_beq e]
      exact hr.1
    · simp only[e]at h
      exact OC hr.2 h
theorem Abh(fr:List AV)(t:Nat)(v:AV):ev (A7 fr (some t) v) (.tmp t)=v∨ev (A7 fr (some t) v) (.tmp t)=.junk:=by
 show(fr.set t v).getD t .junk=v∨(fr.set t v).getD t .junk=.junk
 by_cases h:t<fr.length
 ·left;simp[List.getD,h]
 ·right;simp[List.getD,h]
theorem Tp(hE:E.Ok)(hP:E.P.follows .mixedOrders=true){m n id:Nat}{l:List Oper}(T:List (List Nat))(hok1:Er l.toArray T=true)(ps bs ws ds:List (Nat×Nat))(ts:List Nat)(hok2:Vq E l.toArray T ps bs ws ds ts=true){fr fr':Fr}{σ σ':Ad}{K:C0}(hw:Mi E m K)
  (hps:Oz n fr' ps) (hbs:SlL n fr' bs) (hws:Rl n fr' ws) (hds:BsL n fr' ds) (h:∃lz,GV E.toBase lz∧Jf E lz true n l ts (fr,σ)=some (fr',σ'))
  (hk:K .normal ⟨Am n fr',σ'⟩):Run E m (.region id l.toArray true) ⟨Am n fr,σ⟩ K:=by
 obtain⟨lz,hO,h⟩:=h
 simp only[Jf,Option.bind_eq_some_iff,Option.some.injEq,Prod.mk.injEq]at h
 obtain⟨⟨fr1,σ2⟩,h1,rfl,rfl⟩:=h
 have hsteps:=E0 (E:=E) (ops:=l.toArray) 0 l fr fr1 σ σ2 (by simp) h1
 rw[←List.range_eq_range']at hsteps
 intro hcm ac w g hr Q hq
 refine FE (GE hcm) (wp_region_any hP ?_)
 have hsm:SameMem w { w with drawn:=w.drawn+1 }:=⟨rfl,rfl,rfl,rfl⟩
 have hfin:∀t,ts.contains t=true→ev (Am n fr1) (.tmp t)=evL n (keep ts fr1) (.tmp t):=by
  intro t ht
  rw[CO]
  show(if t<n then look fr1 t else .junk)=if t<n then look (keep ts fr1) t else .junk
  rw[K8 ts fr1 t (List.contains_iff_mem.1 ht)]
 refine Ir hE hO hok1 (st':=⟨Am n fr1,σ2⟩) ?_ l.toArray.size (List.range l.length) _ ⟨Am n fr,σ⟩ ac _ g (by simp) List.pairwise_lt_range (by simp) ?_ ?_ hsteps (G9 hr hsm) ?_
 ·intro i his l1 l2 st hp hT hst
  have hi:l.toArray[i]?=some l.toArray[i]:=Array.getElem?_eq_getElem his
  refine ID hi l1 st (fun m1 j m2 e x hx=>?_) hst
  have hj:j∈l1:=by rw[e];simp
  have hji:j<i:=by
   rw[List.pairwise_append]at hp
   exact hp.2.2 j hj i List.mem_cons_self
  have h1':=Ax (Ax hok2 his) hji
  simp only[Bool.or_eq_true,List.contains_iff_mem]at h1'
  rcases h1' with h1'|h1'
  ·exact(hT j hj h1').elim
  ·simp only[hx,hi,Bool.or_eq_true,Bool.and_eq_true]at h1'
   rcases h1' with h1'|⟨h1',h2'⟩
   ·exact .inl h1'
   ·refine .inr ⟨h1',fun st3 h3=>?_⟩
    have hst3:∀t,(∀k∈((j::m2)++i::l2),∀o,l.toArray[k]?=some o→o.dst≠some t)→ev st3.fr (.tmp t)=ev (Am n fr1) (.tmp t):=fun t hk=>(DL _ _ _ hk h3).symm
    have hpw:((j::m2)++i::l2).Pairwise (·<·):=by
     rw[e,List.append_assoc]at hp
     exact(List.pairwise_append.1 hp).2.1
    have hge:∀k∈((j::m2)++i::l2),j≤k:=by
     intro k hk
     rw[List.cons_append]at hpw hk
     rcases List.mem_cons.1 hk with rfl|hk
     ·exact Nat.le_refl _
     ·exact Nat.le_of_lt (List.rel_of_pairwise_cons hpw hk)
    have hnT:∀k∈((j::m2)++i::l2),¬(k∈T.getD i []∧k<i):=by
     rintro k hk ⟨q1,q2⟩
     rcases List.mem_append.1 hk with hk|hk
     ·exact hT k (by rw[e];simp only[List.mem_append];exact .inr hk) q1
     ·rcases List.mem_cons.1 hk with rfl|hk
      ·omega
      ·have:=List.rel_of_pairwise_cons (List.pairwise_append.1 hpw).2.1 hk
       omega
    have hstill:∀(ok:Nat→Bool) t,Eh l.toArray ts ok t=true→(∀k∈((j::m2)++i::l2),ok k=false)→ts.contains t=true∧ev st3.fr (.tmp t)=evL n (keep ts fr1) (.tmp t):=by
     intro ok t h hno
     simp only[Eh,Bool.and_eq_true]at h
     refine⟨h.1,(hst3 t fun k hk o hko=>?_).trans (hfin t h.1)⟩
     have h2:=Ax h.2 (Array.getElem?_eq_some_iff.1 hko).1
     rw[hno k hk,hko]at h2
     simpa using h2
    have hq0:∀q,Eh l.toArray ts (fun k=>(T.getD i []).contains k&&decide (k<i)) q=true→ts.contains q=true∧ev st3.fr (.tmp q)=evL n (keep ts fr1) (.tmp q):=fun q s1=>hstill _ q s1 (fun k hk=>by
     have:=hnT k hk
     simp only[Bool.and_eq_false_iff,decide_eq_false_iff_not]
     by_cases hm:k∈T.getD i []
     ·exact .inr fun h=>this ⟨hm,h⟩
     ·exact .inl (by simpa using hm))
    unfold sepT at h2'
    simp only[Bool.or_eq_true]at h2'
    rcases h2' with h2'|h2'
    ·split at h2'
     case h_2=>cases h2'
     rename_i p hfp
     split at h2'
     case h_2=>cases h2'
     rename_i a ha
     obtain⟨c1,c2⟩:=hq0 p h2'
     exact .free (Ab7 hfp (by rw[c2];exact I8 hps ha))
    ·split at h2'
     case h_2=>cases h2'
     rename_i p a hla
     simp only[Bool.and_eq_true]at h2'
     obtain⟨s1,s2⟩:=h2'
     obtain⟨c1,c2⟩:=hq0 p s1
     have hlook:Vj E (lz) l.toArray l.toArray[i] st3.fr a:=by
      unfold AbA at hla
      split at hla
      ·rename_i p' hlp
       rw[Option.map_eq_some_iff]at hla
       obtain⟨a',h1,h2⟩:=hla
       cases h2
       exact Po hlp (by rw[c2];exact I8 hps h1)
      ·split at hla
       case h_2=>cases hla
       rename_i p' hsp
       rw[Option.map_eq_some_iff]at hla
       obtain⟨a',h1,h2⟩:=hla
       cases h2
       exact NS hsp (by rw[c2];exact XR hbs h1)
     refine .look a hlook fun σ1 v hv=>?_
     unfold Ux at s2
     simp only[Bool.or_eq_true]at s2
     rcases s2 with s2|s2
     ·split at s2
      case h_2=>cases s2
      rename_i q hap
      split at s2
      case h_2=>cases s2
      rename_i d hd
      simp only[Bool.and_eq_true,bne_iff_ne]at s2
      obtain⟨c3,c4⟩:=hstill _ q s2.2 (fun k hk=>by
       have:=hge k hk
       simp only[decide_eq_false_iff_not];omega)
      exact Xl hap (by rw[c4];exact OC hws hd) s2.1 hv
     ·simp only[Bool.and_eq_true,Bool.not_eq_true']at s2
      obtain⟨⟨b1,b2⟩,b3⟩:=s2
      split at b3
      case h_2=>cases b3
      rename_i t hdst
      split at b3
      case h_2=>cases b3
      rename_i d hd
      simp only[Bool.and_eq_true,decide_eq_true_eq]at b3
      obtain⟨b3,b4⟩:=b3
      rcases VT b1 b2 hv with rfl|⟨nn,bb,rfl,rfl⟩
      ·rfl
      ·have h5:=h3
       simp only[List.cons_append,AF,hx]at h5
       rw[Option.bind_eq_some_iff]at h5
       obtain⟨s5,h6,h7⟩:=h5
       unfold C6 at h6
       rw[hv]at h6
       cases h6
       simp only[Eh,Bool.and_eq_true]at b4
       have h8:=DL (t:=t) _ _ _ (fun k hk o hko=>by
        have h2:=Ax b4.2 (Array.getElem?_eq_some_iff.1 hko).1
        have hjk:j<k:=by
         rw[List.cons_append]at hpw
         exact List.rel_of_pairwise_cons hpw hk
        have hno:decide (k≤j)=false:=by simp only[decide_eq_false_iff_not];omega
        rw[hno,hko]at h2
        simpa using h2) h7
       have h9:=XN hds hd
       rw[←hfin t b4.1,h8]at h9
       simp only[hdst]at h9
       rcases Abh st3.fr t (.bs true st3.σ.length nn 0 nn)with h10|h10
       ·rw[h10]at h9
        have:st3.σ.length=d:=Option.some.inj h9
        exact List.getElem?_append_left (by omega)
       ·rw[h10]at h9
        cases h9
 ·intro j
  rw[List.mem_range]
  by_cases h:j<l.length<;>simp[Array.getD,h]
 ·intro k hk hkn
  exact(hkn (List.mem_range.2 (by simpa using hk))).elim
 ·intro a' w' g' hr' he hg
  exact hq _ _ _ _ _ (hw _ _ (CV _ _ _ _ _) hk) hr' ((Evo.same hsm).trans (he.of_gle hg))
theorem VF(hE:E.Ok)(hP:E.P.follows .mixedOrders=true){m n id:Nat}{l:List Oper}(T:List (List Nat))(hok1:Er l.toArray T=true)(ps bs ws ds:List (Nat×Nat))(ts:List Nat)(hok2:Vq E l.toArray T ps bs ws ds ts=true){fr fr':Fr}{σ σ':Ad}{K:C0}
 (hps:Oz n fr' ps) (hbs:SlL n fr' bs) (hws:Rl n fr' ws) (hds:BsL n fr' ds) (h:∃lz,GV E.toBase lz∧Jf E lz true n l ts (fr,σ)=some (fr',σ'))
 {y:Code} (hk:Run E m y ⟨Am n fr',σ'⟩ K):Run E m (.seq (.region id l.toArray true) y) ⟨Am n fr,σ⟩ K :=
 Fp (Tp hE hP T hok1 ps bs ws ds ts hok2 EZ hps hbs hws hds h hk)
end Go.Rv
