/-
  Part 34.
-/
import Derived.Test.YtldngkmkhfddpaaGreatDoorYV33
namespace Go.Rv
open Go.RowKit
set_option linter.unusedVariables false
set_option linter.unusedSimpArgs false
variable{orc:Option Tmp->Orc}{ops:Array Oper}{o y:Oper}{fr:List AV}{p a:Nat}{v:AV}{O σ1:Ad}
variable {E:Env}
def AlI:AV->Option Nat
 |.bs _ id _ _ _=>some id
 |_=>none
def slB:AV->Nat->Bool
 |.bs _ id _ _ _,d=>id==d
 |.sl _ _,_=>true
 |_,_=>false
def Ll:AV->Nat->Prop
 |.bs _ id tot off len,d=>id=d/\off=0/\len=tot
 |_,_=>False
def Uo:Op->Option Nat
 |.slice _ (.tmp p) _ _ _=>some p
 |_=>none
def AhE:Op->Option Nat
 |.fieldAddr _ (.tmp p) _=>some p
 |.indexAddr _ (.tmp p) _=>some p
 |_=>none
def Aj5:Op->Option Nat
 |.call c=>match c.callee,c.args.toList with
  |.builtin .append,[.tmp p,_]=>some p
  |_,_=>none
 |_=>none
def Ab3(E:Env)(orc:Option Tmp->Orc)(ops:Array Oper)(y:Oper)(fr:List AV)(a:Nat):Prop :=
 ∀(O O':Ad) (v:AV),D2 E orc ops y fr O=some (v,O')->O'=O/\∀σ2:Ad,σ2[a]?=O[a]?->D2 E orc ops y fr σ2=some (v,σ2)
def Afb(E:Env)(orc:Option Tmp->Orc)(ops:Array Oper)(y:Oper)(fr:List AV):Prop :=
 ∀(O O':Ad) (v:AV),D2 E orc ops y fr O=some (v,O')->O'=O/\∀σ2:Ad,D2 E orc ops y fr σ2=some (v,σ2)
theorem H4(hf:ES E ops o=false)(O:Ad):D2 E orc ops o fr O=match G9 ops fr o with
 |some true=>Cl E (orc o.dst) o.op fr O
 |some false=>some (.tup [],O)
 |none=>none:=by
 have e:Fu false O=some:=by funext r;simp[Fu]
 unfold D2;rw[hf];split<;>simp_all [Bh]
theorem Mo(h1:∀t n l,o.op≠.buildSlice t n l)(h2:∀s d x,o.op≠.convert s d x):ES E ops o=false:=by
 cases hf:ES E ops o
 ·rfl
 rcases Dq hf with⟨t,n,l,h⟩|⟨s,d,x,h,_⟩
 ·exact(h1 _ _ _ h).elim
 exact(h2 _ _ _ h).elim
theorem VV(hp:NU y.op=some p)(ha:HW (ev fr (.tmp p))=some a):Ab3 E orc ops y fr a :=
 fun O O' v h=>⟨(E3 hp ha h rfl).1,fun σ2 h2=>(E3 hp ha h h2).2⟩
theorem Wz(hp:Uo y.op=some p)(ha:AlI (ev fr (.tmp p))=some a):Ab3 E orc ops y fr a:=by
 intro O O' v h;unfold Uo at hp;split at hp
 case h_2=>cases hp
 rename_i t p' lo hi mx ho;cases hp;have hf:ES E ops y=false:=Mo (fun _ _ _ h=>by rw[ho]at h;cases h) (fun _ _ _ h=>by rw[ho]at h;cases h)
 obtain⟨f,T,off,L,hx⟩:∃f T off L,ev fr (.tmp p)=.bs f a T off L:=by
  unfold AlI at ha;split at ha
  ·rename_i e;cases ha;exact⟨_,_,_,_,e⟩
  cases ha
 simp only[H4 hf]at h ⊢;cases hw:G9 ops fr y with
 |none=>simp[hw]at h
 | some b=>
  cases b with
  |false=>
   simp only[hw,Ao0,Apa]at h ⊢;exact⟨h.2.symm,fun σ2 _=>⟨h.1,trivial⟩⟩
  | true=>
   simp only[hw,ho,Cl,Ec,hx]at h ⊢;unfold Gi at h ⊢;cases ht:E.tab t with
   |none=>simp[ht]at h
   | some d=>
    simp only[ht]at h ⊢;cases hd:d.desc<;>simp only[hd]at h ⊢<;>try (cases h;done)
    rename_i e;refine⟨?_,fun σ2 h2=>?_⟩
    ·split at h
     case h_2=>cases h
     split at h
     case isFalse=>cases h
     split at h
     case h_2=>cases h
     cases h;rfl
    rw[h2];split at h
    case h_2=>cases h
    split at h
    case isFalse=>cases h
    split at h
    case h_2=>cases h
    cases h;rw[Ao4 (by assumption)]
theorem TQ(hp:Uo y.op=some p)(ha:slB (ev fr (.tmp p)) a=true):Ab3 E orc ops y fr a:=by
 cases hx:ev fr (.tmp p)<;>rw[hx]at ha<;>first|(cases ha;done)|skip
 case bs f id T off L=>
  refine Wz hp ?_;rw[hx,AlI,eq_of_beq ha]
 case sl f els=>
  intro O O' v h;unfold Uo at hp;split at hp
  case h_2=>cases hp
  rename_i t p' lo hi mx ho;cases hp;have hf:ES E ops y=false:=Mo (fun _ _ _ h=>by rw[ho]at h;cases h) (fun _ _ _ h=>by rw[ho]at h;cases h);simp only[H4 hf]at h ⊢;cases hw:G9 ops fr y with
  |none=>simp[hw]at h
  | some b=>
   cases b with
   |false=>
    simp only[hw,Ao0,Apa]at h ⊢;exact⟨h.2.symm,fun σ2 _=>⟨h.1,trivial⟩⟩
   | true=>
    simp only[hw,ho,Cl,Ec,hx]at h ⊢;unfold Gi at h ⊢;cases ht:E.tab t with
    |none=>simp[ht]at h
    | some d=>
     simp only[ht]at h ⊢;cases hd:d.desc<;>simp only[hd]at h ⊢<;>try (cases h;done)
     rename_i e;refine⟨?_,fun σ2 h2=>?_⟩
     ·split at h
      case h_2=>cases h
      split at h
      case isFalse=>cases h
      cases h;rfl
     split at h
     case h_2=>cases h
     split at h
     case isFalse=>cases h
     cases h;rw[Ao4 (by assumption)]
theorem AjJ(hp:AhE y.op=some p)(ha:HW (ev fr (.tmp p))=some a):Afb E orc ops y fr:=by
 intro O O' v h;obtain⟨off,hr⟩:=LP ha;have hf:ES E ops y=false:=Mo (fun _ _ _ h=>by rw[h]at hp;cases hp) (fun _ _ _ h=>by rw[h]at hp;cases hp);simp only[H4 hf]at h ⊢;cases hw:G9 ops fr y with
 |none=>simp[hw]at h
 | some b=>
  cases b with
  |false=>
   simp only[hw,Ao0,Apa]at h ⊢;exact⟨h.2.symm,fun σ2=>⟨h.1,trivial⟩⟩
  | true=>
   unfold AhE at hp;split at hp
   case h_3=>cases hp
   ·rename_i s p' f ho;cases hp;simp only[hw,ho,Cl,Ec,hr]at h ⊢;rw[AoY]at h;obtain⟨x,h,h3⟩:=h;cases h3;refine⟨rfl,fun σ2=>?_⟩
    have:AX E σ2 s (.ref a off) f=AX E O s (.ref a off) f:=by
     unfold AX;rfl
    rw[this,h];rfl
   rename_i t p' i ho;cases hp;simp only[hw,ho,Cl,Ec,hr]at h ⊢;rw[AoY]at h;obtain⟨x,h,h3⟩:=h;cases h3;refine⟨rfl,fun σ2=>?_⟩
   have:Ao E σ2 t (.ref a off) (ev fr i)=Ao E O t (.ref a off) (ev fr i):=by
    unfold Ao;cases E.tab t with
    |none=>rfl
    |some d=>
     simp only;cases d.desc<;>first|rfl|(rename_i e;dsimp only;cases E.tab e<;>rfl)
   rw[this,h];rfl
theorem X9{f:Bool}{id T:Nat}{t:TypeId}{x:AV}(hne:a≠id)(h:LH E O t (.bs f id T 0 T) x=some (v,σ1)):σ1[a]?=O[a]?:=by
 unfold LH at h;split at h
 ·cases h
 split at h
 case h_2=>cases h
 split at h
 case h_2=>cases h
 split at h
 ·cases h
 split at h
 case isFalse=>cases h
 simp only at h;split at h
 case h_3=>cases h
 case h_2=>
  generalize Ju _=z at h;cases z with
  |none=>cases h
  |some nl=>
   simp only at h;split at h
   ·cases h;exact ApR (fun e=>hne e.symm)
   cases h
 split at h
 case isFalse=>cases h
 rw[Ao4 (by simp)]at h;cases h;exact ApR (fun e=>hne e.symm)
theorem WO{q d:Nat}(hp:Aj5 o.op=some q)(hw:Ll (ev fr (.tmp q)) d)(hne:a≠d)(h:D2 E orc ops o fr O=some (v,σ1)):σ1[a]?=O[a]?:=by
 unfold Aj5 at hp;split at hp
 case h_2=>cases hp
 rename_i c ho;split at hp
 case h_2=>cases hp
 rename_i p' y hc hargs;cases hp;have hf:ES E ops o=false:=Mo (fun _ _ _ h=>by rw[ho]at h;cases h) (fun _ _ _ h=>by rw[ho]at h;cases h)
 obtain⟨f,T,hx⟩:∃f T,ev fr (.tmp q)=.bs f d T 0 T:=by
  unfold Ll at hw;split at hw
  ·rename_i e;obtain⟨rfl,rfl,rfl⟩:=hw;exact⟨_,_,e⟩
  cases hw
 rw[H4 hf]at h;cases hwn:G9 ops fr o with
 |none=>simp[hwn]at h
 | some b=>
  cases b with
  |false=>simp only[hwn]at h;cases h;rfl
  | true=>
   simp only[hwn,ho,Cl,hc,Ec,hargs,ApE,Aqk,hx]at h;cases hts:c.argTypes.toList with
   |nil=>simp[Ba,hts]at h
   | cons t r=>
    cases r with
    |nil=>simp[Ba,hts]at h
    |cons u r=>
     simp only[Ba,hts]at h;split at h
     case h_2=>cases h
     split at h
     ·cases h
     exact X9 hne h
theorem AdV(hb:J9 o.op=true)(hf:ES E ops o=false)(h:D2 E orc ops o fr O=some (v,σ1)):σ1=O\/∃n b,v=.bs true O.length n 0 n/\σ1=O++[b]:=by
 rw[H4 hf]at h;cases hwn:G9 ops fr o with
 |none=>simp[hwn]at h
 | some w=>
  cases w with
  |false=>simp only[hwn]at h;cases h;exact .inl rfl
  |true=>
   unfold J9 at hb;split at hb
   case h_2=>cases hb
   rename_i t n l ho;simp only[hwn,ho,Cl,Ec]at h;unfold C6 at h;split at h
   case h_1=>cases h
   split at h
   case h_2=>cases h
   split at h
   case h_2=>cases h
   split at h
   case isTrue=>cases h
   split at h
   case h_2=>cases h
   cases h;exact .inr ⟨_,_,rfl,rfl⟩
inductive SepT(E:Env)(orc:Option Tmp->Orc)(ops:Array Oper)(x y:Oper)(st:St):Prop
  |free (h:Afb E orc ops y st.fr)
  |look (a:Nat) (h:Ab3 E orc ops y st.fr a) (hx:∀σ1 v,D2 E orc ops x st.fr st.O=some (v,σ1)->σ1[a]?=st.O[a]?)
theorem VU{x:Oper}{st st1 st2:St}(hap:x.apart ops y=true)(hc:SepT E orc ops x y st) (h1:B6 E orc ops x st=some st1) (h2:B6 E orc ops y st1=some st2):∃st3,B6 E orc ops y st=some st3/\B6 E orc ops x st3=some st2:=by
 obtain⟨a1,a2,a3⟩:=Oper.apart_spec hap;unfold B6 at h1 h2 ⊢;rw[AoY]at h1 h2;obtain⟨⟨v,σ1⟩,hv,rfl⟩:=h1;obtain⟨⟨u,σ2⟩,hu,rfl⟩:=h2;simp only at hu ⊢;rw[AK a1]at hu
 have fin:∀σ3,D2 E orc ops y st.fr st.O=some (u,σ3)->D2 E orc ops x st.fr σ3=some (v,σ2) ->
   ∃st3,(D2 E orc ops y st.fr st.O).map (fun r=>(⟨Ay st.fr y.dst r.1,r.2⟩:St))=some st3/\(D2 E orc ops x st3.fr st3.O).map (fun r=>(⟨Ay st3.fr x.dst r.1,r.2⟩:St))=some ⟨Ay (Ay st.fr x.dst v) y.dst u,σ2⟩:=by
  intro σ3 hy hx;refine⟨⟨Ay st.fr y.dst u,σ3⟩,by rw[hy];rfl,?_⟩;simp only;rw[AK a3,hx];simp only[Apz,CI st.fr v u a2]
 cases hc with
 |free h=>
  obtain⟨rfl,h3⟩:=h _ _ _ hu;exact fin _ (h3 _) hv
 |look a h hx=>
  obtain⟨rfl,h3⟩:=h _ _ _ hu;exact fin _ (h3 _ (hx _ _ hv).symm) hv
theorem M0{orc:Option Tmp->Orc}{ops:Array Oper}{i:Nat}{y:Oper}(hi:ops[i]?=some y){l2:List Nat}{st':St}:∀(l1:List Nat) (st:St),(∀m1 j m2,l1=m1++j::m2->∀x,ops[j]?=some x->Jq E ops x y=true\/x.apart ops y=true/\∀st,AO E orc ops ((j::m2)++i::l2) st=some st'->SepT E orc ops x y st)->AO E orc ops (l1++i::l2) st=some st' ->∃st1,B6 E orc ops y st=some st1/\AO E orc ops (l1++l2) st1=some st'
 |[],st,_,h=>by
  simp only[ApN,AO,hi]at h;rw[Ao3]at h;exact h
 | j::l1,st,hc,h0=>by
  have h:=h0;simp only[Apo,AO]at h;cases hj:ops[j]? with
  |none=>simp[hj]at h
  | some x=>
   simp only[hj]at h;rw[Ao3]at h;obtain⟨s1,h1,h⟩:=h;obtain⟨s2,h2,h⟩:=M0 hi l1 s1 (fun m1 k m2 e=>hc (j::m1) k m2 (by rw[e];rfl)) h
   have:∃st3,B6 E orc ops y st=some st3/\B6 E orc ops x st3=some s2:=by
    rcases hc [] j l1 rfl x hj with hcb|⟨hap,hcy⟩
    ·exact H5 hcb h1 h2
    exact VU hap (hcy st h0) h1 h2
   obtain⟨s3,h3,h4⟩:=this;refine⟨s3,h3,?_⟩;simp only[Apo,AO,hj,h4,ApX];exact h
def AiK(ps bs:List (Nat×Nat))(o:Op):Option (Nat×Nat) :=
 match NU o with
 |some p=>(NQ ps p).map fun a=>(p,a)
 |none=>match Uo o with
  |some p=>(NQ bs p).map fun a=>(p,a)
  |none=>none
def Aby(E:Env)(ops:Array Oper)(ws ds:List (Nat×Nat))(ts:List Nat)(j:Nat)(x:Oper)(a:Nat):Bool :=
 (match Aj5 x.op with
  |some q=>(match NQ ws q with
   |some d=>a != d&&DF ops ts (fun k=>decide (k<j)) q
   |none=>false)
  |none=>false) ||
 (J9 x.op&&!ES E ops x&&(match x.dst with
  |some t=>(match NQ ds t with
   |some d=>decide (a<d)&&DF ops ts (fun k=>decide (k<=j)) t
   |none=>false)
  |none=>false))
def sepT(E:Env)(ops:Array Oper)(T:List (List Nat))(ps bs ws ds:List (Nat×Nat))(ts:List Nat)(j i:Nat)(x y:Oper):Bool :=
 (match AhE y.op with
  |some p=>(match NQ ps p with
   |some _=>DF ops ts (fun k=>(T.getD i []).contains k&&decide (k<i)) p
   |none=>false)
  |none=>false) ||
 (match AiK ps bs y.op with
  |some (p,a)=>DF ops ts (fun k=>(T.getD i []).contains k&&decide (k<i)) p&&Aby E ops ws ds ts j x a
  |none=>false)
def SlL(n:Nat)(fr:Fr):List (Nat×Nat)->Prop
 |[]=>True
 |p::ps=>slB (evL n fr (.tmp p.1)) p.2=true/\SlL n fr ps
theorem Afx{n:Nat}{fr:Fr}:∀{ps:List (Nat×Nat)} {t a:Nat},SlL n fr ps->NQ ps t=some a->slB (evL n fr (.tmp t)) a=true
 |[],t,a,_,h=>by cases h
 | p::ps,t,a,hr,h=>by
  unfold NQ at h;rw[Arz]at h;by_cases e:(p.1==t)=true
  ·simp only[e]at h;cases h;rw[<-eq_of_beq e];exact hr.1
  simp only[e]at h;exact Afx hr.2 h
def BsL(n:Nat)(fr:Fr):List (Nat×Nat)->Prop
 |[]=>True
 |p::ps=>AlI (evL n fr (.tmp p.1))=some p.2/\BsL n fr ps
def LJ(n:Nat)(fr:Fr):List (Nat×Nat)->Prop
 |[]=>True
 |p::ps=>Ll (evL n fr (.tmp p.1)) p.2/\LJ n fr ps
theorem Ae0{n:Nat}{fr:Fr}:∀{ps:List (Nat×Nat)} {t a:Nat},BsL n fr ps->NQ ps t=some a->AlI (evL n fr (.tmp t))=some a
 |[],t,a,_,h=>by cases h
 | p::ps,t,a,hr,h=>by
  unfold NQ at h;rw[Arz]at h;by_cases e:(p.1==t)=true
  ·simp only[e]at h;cases h;rw[<-eq_of_beq e];exact hr.1
  simp only[e]at h;exact Ae0 hr.2 h
theorem LL{n:Nat}{fr:Fr}:∀{ps:List (Nat×Nat)} {t a:Nat},LJ n fr ps->NQ ps t=some a->Ll (evL n fr (.tmp t)) a
 |[],t,a,_,h=>by cases h
 | p::ps,t,a,hr,h=>by
  unfold NQ at h;rw[Arz]at h;by_cases e:(p.1==t)=true
  ·simp only[e]at h;cases h;rw[<-eq_of_beq e];exact hr.1
  simp only[e]at h;exact LL hr.2 h
theorem Alg(fr:List AV)(t:Nat)(v:AV):ev (Ay fr (some t) v) (.tmp t)=v\/ev (Ay fr (some t) v) (.tmp t)=.junk:=by
 show(fr.set t v).getD t .junk=v\/(fr.set t v).getD t .junk=.junk;by_cases h:t<fr.length
 ·left;simp[List.getD,h]
 right;simp[List.getD,h]
end Go.Rv
