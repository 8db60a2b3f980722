/-
  Part 34.
-/
import Derived.Test.YtldngkmkhfddpaaGreatDoorYX33
namespace Go.Rv
open Go.RowKit
set_option linter.unusedVariables false
set_option linter.unusedSimpArgs false
variable{orc:Option Tmp->Orc}{ops:Array Oper}{o y:Oper}{fr:List AV}{p a:Nat}{v:AV}{O σ1:Ac}
variable {E:Env}
def AkF:AV->Option Nat
 |.bs _ id _ _ _=>some id
 |_=>none
def slB:AV->Nat->Bool
 |.bs _ id _ _ _,d=>id==d
 |.sl _ _,_=>true
 |_,_=>false
def Li:AV->Nat->Prop
 |.bs _ id tot off len,d=>id=d/\off=0/\len=tot
 |_,_=>False
def TK:Op->Option Nat
 |.slice _ (.tmp p) _ _ _=>some p
 |_=>none
def Ahf:Op->Option Nat
 |.fieldAddr _ (.tmp p) _=>some p
 |.indexAddr _ (.tmp p) _=>some p
 |_=>none
def Ake:Op->Option Nat
 |.call c=>match c.callee,c.args.toList with
  |.builtin .append,[.tmp p,_]=>some p
  |_,_=>none
 |_=>none
def Acx(E:Env)(orc:Option Tmp->Orc)(ops:Array Oper)(y:Oper)(fr:List AV)(a:Nat):Prop :=
 ∀(O O':Ac) (v:AV),Dz E orc ops y fr O=some (v,O')->O'=O/\∀σ2:Ac,σ2[a]?=O[a]?->Dz E orc ops y fr σ2=some (v,σ2)
def Afv(E:Env)(orc:Option Tmp->Orc)(ops:Array Oper)(y:Oper)(fr:List AV):Prop :=
 ∀(O O':Ac) (v:AV),Dz E orc ops y fr O=some (v,O')->O'=O/\∀σ2:Ac,Dz E orc ops y fr σ2=some (v,σ2)
theorem H1(hf:ED E ops o=false)(O:Ac):Dz E orc ops o fr O=match G8 ops fr o with
 |some true=>Ca E (orc o.dst) o.op fr O
 |some false=>some (.tup [],O)
 |none=>none:=by
 have e:Fl false O=some:=by funext r;simp[Fl]
 unfold Dz;rw[hf];split<;>simp_all [Ba]
theorem Mz(h1:∀t n l,o.op≠.buildSlice t n l)(h2:∀s d x,o.op≠.convert s d x):ED E ops o=false:=by
 cases hf:ED E ops o
 ·rfl
 rcases Dn hf with⟨t,n,l,h⟩|⟨s,d,x,h,_⟩
 ·exact(h1 _ _ _ h).elim
 exact(h2 _ _ _ h).elim
theorem VA(hp:NO y.op=some p)(ha:HQ (ev fr (.tmp p))=some a):Acx E orc ops y fr a :=
 fun O O' v h=>⟨(Ex hp ha h rfl).1,fun σ2 h2=>(Ex hp ha h h2).2⟩
theorem W2(hp:TK y.op=some p)(ha:AkF (ev fr (.tmp p))=some a):Acx E orc ops y fr a:=by
 intro O O' v h;unfold TK at hp;split at hp
 case h_2=>cases hp
 rename_i t p' lo hi mx ho;cases hp;have hf:ED E ops y=false:=Mz (fun _ _ _ h=>by rw[ho]at h;cases h) (fun _ _ _ h=>by rw[ho]at h;cases h)
 obtain⟨f,T,off,L,hx⟩:∃f T off L,ev fr (.tmp p)=.bs f a T off L:=by
  unfold AkF at ha;split at ha
  ·rename_i e;cases ha;exact⟨_,_,_,_,e⟩
  cases ha
 simp only[H1 hf]at h ⊢;cases hw:G8 ops fr y with
 |none=>simp[hw]at h
 | some b=>
  cases b with
  |false=>
   simp only[hw,Ao7,Apf]at h ⊢;exact⟨h.2.symm,fun σ2 _=>⟨h.1,trivial⟩⟩
  | true=>
   simp only[hw,ho,Ca,DX,hx]at h ⊢;unfold Gp at h ⊢;cases ht:E.tab t with
   |none=>simp[ht]at h
   | some d=>
    simp only[ht]at h ⊢;cases hd:d.desc<;>simp only[hd]at h ⊢<;>try (cases h;done)
    rename_i e;refine⟨?_,fun σ2 h2=>?_⟩
    ·split at h
     case h_2=>cases h
     split at h
     case isFalse=>cases h
     split at h
     case h_2=>cases h
     cases h;rfl
    rw[h2];split at h
    case h_2=>cases h
    split at h
    case isFalse=>cases h
    split at h
    case h_2=>cases h
    cases h;rw[Apb (by assumption)]
theorem T1(hp:TK y.op=some p)(ha:slB (ev fr (.tmp p)) a=true):Acx E orc ops y fr a:=by
 cases hx:ev fr (.tmp p)<;>rw[hx]at ha<;>first|(cases ha;done)|skip
 case bs f id T off L=>
  refine W2 hp ?_;rw[hx,AkF,eq_of_beq ha]
 case sl f els=>
  intro O O' v h;unfold TK at hp;split at hp
  case h_2=>cases hp
  rename_i t p' lo hi mx ho;cases hp;have hf:ED E ops y=false:=Mz (fun _ _ _ h=>by rw[ho]at h;cases h) (fun _ _ _ h=>by rw[ho]at h;cases h);simp only[H1 hf]at h ⊢;cases hw:G8 ops fr y with
  |none=>simp[hw]at h
  | some b=>
   cases b with
   |false=>
    simp only[hw,Ao7,Apf]at h ⊢;exact⟨h.2.symm,fun σ2 _=>⟨h.1,trivial⟩⟩
   | true=>
    simp only[hw,ho,Ca,DX,hx]at h ⊢;unfold Gp at h ⊢;cases ht:E.tab t with
    |none=>simp[ht]at h
    | some d=>
     simp only[ht]at h ⊢;cases hd:d.desc<;>simp only[hd]at h ⊢<;>try (cases h;done)
     rename_i e;refine⟨?_,fun σ2 h2=>?_⟩
     ·split at h
      case h_2=>cases h
      split at h
      case isFalse=>cases h
      cases h;rfl
     split at h
     case h_2=>cases h
     split at h
     case isFalse=>cases h
     cases h;rw[Apb (by assumption)]
theorem Als(hp:Ahf y.op=some p)(ha:HQ (ev fr (.tmp p))=some a):Afv E orc ops y fr:=by
 intro O O' v h;obtain⟨off,hr⟩:=M1 ha;have hf:ED E ops y=false:=Mz (fun _ _ _ h=>by rw[h]at hp;cases hp) (fun _ _ _ h=>by rw[h]at hp;cases hp);simp only[H1 hf]at h ⊢;cases hw:G8 ops fr y with
 |none=>simp[hw]at h
 | some b=>
  cases b with
  |false=>
   simp only[hw,Ao7,Apf]at h ⊢;exact⟨h.2.symm,fun σ2=>⟨h.1,trivial⟩⟩
  | true=>
   unfold Ahf at hp;split at hp
   case h_3=>cases hp
   ·rename_i s p' f ho;cases hp;simp only[hw,ho,Ca,DX,hr]at h ⊢;rw[Ao5]at h;obtain⟨x,h,h3⟩:=h;cases h3;refine⟨rfl,fun σ2=>?_⟩
    have:AP E σ2 s (.ref a off) f=AP E O s (.ref a off) f:=by
     unfold AP;rfl
    rw[this,h];rfl
   rename_i t p' i ho;cases hp;simp only[hw,ho,Ca,DX,hr]at h ⊢;rw[Ao5]at h;obtain⟨x,h,h3⟩:=h;cases h3;refine⟨rfl,fun σ2=>?_⟩
   have:Ao E σ2 t (.ref a off) (ev fr i)=Ao E O t (.ref a off) (ev fr i):=by
    unfold Ao;cases E.tab t with
    |none=>rfl
    |some d=>
     simp only;cases d.desc<;>first|rfl|(rename_i e;dsimp only;cases E.tab e<;>rfl)
   rw[this,h];rfl
theorem Zw{f:Bool}{id T:Nat}{t:TypeId}{x:AV}(hne:a≠id)(h:LB E O t (.bs f id T 0 T) x=some (v,σ1)):σ1[a]?=O[a]?:=by
 unfold LB at h;split at h
 ·cases h
 split at h
 case h_2=>cases h
 split at h
 case h_2=>cases h
 split at h
 ·cases h
 split at h
 case isFalse=>cases h
 simp only at h;split at h
 case h_3=>cases h
 case h_2=>
  generalize J7 _=z at h;cases z with
  |none=>cases h
  |some nl=>
   simp only at h;split at h
   ·cases h;exact ApY (fun e=>hne e.symm)
   cases h
 split at h
 case isFalse=>cases h
 rw[Apb (by simp)]at h;cases h;exact ApY (fun e=>hne e.symm)
theorem X0{q d:Nat}(hp:Ake o.op=some q)(hw:Li (ev fr (.tmp q)) d)(hne:a≠d)(h:Dz E orc ops o fr O=some (v,σ1)):σ1[a]?=O[a]?:=by
 unfold Ake at hp;split at hp
 case h_2=>cases hp
 rename_i c ho;split at hp
 case h_2=>cases hp
 rename_i p' y hc hargs;cases hp;have hf:ED E ops o=false:=Mz (fun _ _ _ h=>by rw[ho]at h;cases h) (fun _ _ _ h=>by rw[ho]at h;cases h)
 obtain⟨f,T,hx⟩:∃f T,ev fr (.tmp q)=.bs f d T 0 T:=by
  unfold Li at hw;split at hw
  ·rename_i e;obtain⟨rfl,rfl,rfl⟩:=hw;exact⟨_,_,e⟩
  cases hw
 rw[H1 hf]at h;cases hwn:G8 ops fr o with
 |none=>simp[hwn]at h
 | some b=>
  cases b with
  |false=>simp only[hwn]at h;cases h;rfl
  | true=>
   simp only[hwn,ho,Ca,hc,DX,hargs,ApL,Aqr,hx]at h;cases hts:c.argTypes.toList with
   |nil=>simp[AU,hts]at h
   | cons t r=>
    cases r with
    |nil=>simp[AU,hts]at h
    |cons u r=>
     simp only[AU,hts]at h;split at h
     case h_2=>cases h
     split at h
     ·cases h
     exact Zw hne h
theorem Adv(hb:J8 o.op=true)(hf:ED E ops o=false)(h:Dz E orc ops o fr O=some (v,σ1)):σ1=O\/∃n b,v=.bs true O.length n 0 n/\σ1=O++[b]:=by
 rw[H1 hf]at h;cases hwn:G8 ops fr o with
 |none=>simp[hwn]at h
 | some w=>
  cases w with
  |false=>simp only[hwn]at h;cases h;exact .inl rfl
  |true=>
   unfold J8 at hb;split at hb
   case h_2=>cases hb
   rename_i t n l ho;simp only[hwn,ho,Ca,DX]at h;unfold C3 at h;split at h
   case h_1=>cases h
   split at h
   case h_2=>cases h
   split at h
   case h_2=>cases h
   split at h
   case isTrue=>cases h
   split at h
   case h_2=>cases h
   cases h;exact .inr ⟨_,_,rfl,rfl⟩
inductive SepT(E:Env)(orc:Option Tmp->Orc)(ops:Array Oper)(x y:Oper)(st:St):Prop
  |free (h:Afv E orc ops y st.fr)
  |look (a:Nat) (h:Acx E orc ops y st.fr a) (hx:∀σ1 v,Dz E orc ops x st.fr st.O=some (v,σ1)->σ1[a]?=st.O[a]?)
theorem Ww{x:Oper}{st st1 st2:St}(hap:x.apart ops y=true)(hc:SepT E orc ops x y st) (h1:Bw E orc ops x st=some st1) (h2:Bw E orc ops y st1=some st2):∃st3,Bw E orc ops y st=some st3/\Bw E orc ops x st3=some st2:=by
 obtain⟨a1,a2,a3⟩:=Oper.apart_spec hap;unfold Bw at h1 h2 ⊢;rw[Ao5]at h1 h2;obtain⟨⟨v,σ1⟩,hv,rfl⟩:=h1;obtain⟨⟨u,σ2⟩,hu,rfl⟩:=h2;simp only at hu ⊢;rw[AG a1]at hu
 have fin:∀σ3,Dz E orc ops y st.fr st.O=some (u,σ3)->Dz E orc ops x st.fr σ3=some (v,σ2) ->
   ∃st3,(Dz E orc ops y st.fr st.O).map (fun r=>(⟨Ay st.fr y.dst r.1,r.2⟩:St))=some st3/\(Dz E orc ops x st3.fr st3.O).map (fun r=>(⟨Ay st3.fr x.dst r.1,r.2⟩:St))=some ⟨Ay (Ay st.fr x.dst v) y.dst u,σ2⟩:=by
  intro σ3 hy hx;refine⟨⟨Ay st.fr y.dst u,σ3⟩,by rw[hy];rfl,?_⟩;simp only;rw[AG a3,hx];simp only[ApG,CD st.fr v u a2]
 cases hc with
 |free h=>
  obtain⟨rfl,h3⟩:=h _ _ _ hu;exact fin _ (h3 _) hv
 |look a h hx=>
  obtain⟨rfl,h3⟩:=h _ _ _ hu;exact fin _ (h3 _ (hx _ _ hv).symm) hv
theorem LY{orc:Option Tmp->Orc}{ops:Array Oper}{i:Nat}{y:Oper}(hi:ops[i]?=some y){l2:List Nat}{st':St}:∀(l1:List Nat) (st:St),(∀m1 j m2,l1=m1++j::m2->∀x,ops[j]?=some x->J9 E ops x y=true\/x.apart ops y=true/\∀st,AK E orc ops ((j::m2)++i::l2) st=some st'->SepT E orc ops x y st)->AK E orc ops (l1++i::l2) st=some st' ->∃st1,Bw E orc ops y st=some st1/\AK E orc ops (l1++l2) st1=some st'
 |[],st,_,h=>by
  simp only[ApR,AK,hi]at h;rw[Apa]at h;exact h
 | j::l1,st,hc,h0=>by
  have h:=h0;simp only[Apv,AK]at h;cases hj:ops[j]? with
  |none=>simp[hj]at h
  | some x=>
   simp only[hj]at h;rw[Apa]at h;obtain⟨s1,h1,h⟩:=h;obtain⟨s2,h2,h⟩:=LY hi l1 s1 (fun m1 k m2 e=>hc (j::m1) k m2 (by rw[e];rfl)) h
   have:∃st3,Bw E orc ops y st=some st3/\Bw E orc ops x st3=some s2:=by
    rcases hc [] j l1 rfl x hj with hcb|⟨hap,hcy⟩
    ·exact H2 hcb h1 h2
    exact Ww hap (hcy st h0) h1 h2
   obtain⟨s3,h3,h4⟩:=this;refine⟨s3,h3,?_⟩;simp only[Apv,AK,hj,h4,Ap4];exact h
def Aii(ps bs:List (Nat×Nat))(o:Op):Option (Nat×Nat) :=
 match NO o with
 |some p=>(NQ ps p).map fun a=>(p,a)
 |none=>match TK o with
  |some p=>(NQ bs p).map fun a=>(p,a)
  |none=>none
def Acs(E:Env)(ops:Array Oper)(ws ds:List (Nat×Nat))(ts:List Nat)(j:Nat)(x:Oper)(a:Nat):Bool :=
 (match Ake x.op with
  |some q=>(match NQ ws q with
   |some d=>a != d&&D6 ops ts (fun k=>decide (k<j)) q
   |none=>false)
  |none=>false) ||
 (J8 x.op&&!ED E ops x&&(match x.dst with
  |some t=>(match NQ ds t with
   |some d=>decide (a<d)&&D6 ops ts (fun k=>decide (k<=j)) t
   |none=>false)
  |none=>false))
def sepT(E:Env)(ops:Array Oper)(T:List (List Nat))(ps bs ws ds:List (Nat×Nat))(ts:List Nat)(j i:Nat)(x y:Oper):Bool :=
 (match Ahf y.op with
  |some p=>(match NQ ps p with
   |some _=>D6 ops ts (fun k=>(T.getD i []).contains k&&decide (k<i)) p
   |none=>false)
  |none=>false) ||
 (match Aii ps bs y.op with
  |some (p,a)=>D6 ops ts (fun k=>(T.getD i []).contains k&&decide (k<i)) p&&Acs E ops ws ds ts j x a
  |none=>false)
def SlL(n:Nat)(fr:Fr):List (Nat×Nat)->Prop
 |[]=>True
 |p::ps=>slB (evL n fr (.tmp p.1)) p.2=true/\SlL n fr ps
theorem Afg{n:Nat}{fr:Fr}:∀{ps:List (Nat×Nat)} {t a:Nat},SlL n fr ps->NQ ps t=some a->slB (evL n fr (.tmp t)) a=true
 |[],t,a,_,h=>by cases h
 | p::ps,t,a,hr,h=>by
  unfold NQ at h;rw[ArG]at h;by_cases e:(p.1==t)=true
  ·simp only[e]at h;cases h;rw[<-eq_of_beq e];exact hr.1
  simp only[e]at h;exact Afg hr.2 h
def BsL(n:Nat)(fr:Fr):List (Nat×Nat)->Prop
 |[]=>True
 |p::ps=>AkF (evL n fr (.tmp p.1))=some p.2/\BsL n fr ps
def Mf(n:Nat)(fr:Fr):List (Nat×Nat)->Prop
 |[]=>True
 |p::ps=>Li (evL n fr (.tmp p.1)) p.2/\Mf n fr ps
theorem Afn{n:Nat}{fr:Fr}:∀{ps:List (Nat×Nat)} {t a:Nat},BsL n fr ps->NQ ps t=some a->AkF (evL n fr (.tmp t))=some a
 |[],t,a,_,h=>by cases h
 | p::ps,t,a,hr,h=>by
  unfold NQ at h;rw[ArG]at h;by_cases e:(p.1==t)=true
  ·simp only[e]at h;cases h;rw[<-eq_of_beq e];exact hr.1
  simp only[e]at h;exact Afn hr.2 h
theorem Mh{n:Nat}{fr:Fr}:∀{ps:List (Nat×Nat)} {t a:Nat},Mf n fr ps->NQ ps t=some a->Li (evL n fr (.tmp t)) a
 |[],t,a,_,h=>by cases h
 | p::ps,t,a,hr,h=>by
  unfold NQ at h;rw[ArG]at h;by_cases e:(p.1==t)=true
  ·simp only[e]at h;cases h;rw[<-eq_of_beq e];exact hr.1
  simp only[e]at h;exact Mh hr.2 h
theorem AlR(fr:List AV)(t:Nat)(v:AV):ev (Ay fr (some t) v) (.tmp t)=v\/ev (Ay fr (some t) v) (.tmp t)=.junk:=by
 show(fr.set t v).getD t .junk=v\/(fr.set t v).getD t .junk=.junk;by_cases h:t<fr.length
 ·left;simp[List.getD,h]
 right;simp[List.getD,h]
end Go.Rv
