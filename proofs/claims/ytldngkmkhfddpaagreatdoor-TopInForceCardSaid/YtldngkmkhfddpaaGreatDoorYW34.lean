/-
  Part 34.
-/
import Derived.Test.YtldngkmkhfddpaaGreatDoorYW33
namespace Go.Rv
open Go.RowKit
set_option linter.unusedVariables false
set_option linter.unusedSimpArgs false
variable{id a:Nat}{orc:Option Tmp->Orc}{ops:Array Oper}{o:Oper}{fr:List AV}{O O':Ac}{v:AV}
variable {E:Env}
@[go_sem] theorem Ant(f:FuncId)(l:List AV):(AV.fn f l).cells?=some [.fn f l]:=rfl
theorem ApJ(n:Nat):(((no_index (OfNat.ofNat n)):Nat):Int)=(no_index (OfNat.ofNat n):Int):=rfl
def Jt:AV->Option Nat
 |.ref id _=>some id
 |_=>none
theorem PT{x:AV}(h:Jt x=some id):∃o,x=.ref id o:=by
 unfold Jt at h;split at h
 ·cases h;exact⟨_,rfl⟩
 cases h
def QF:Op->Option Nat
 |.load _ (.tmp p)=>some p
 |.fieldAddr _ (.tmp p) _=>some p
 |_=>none
def TH:Op->Option Nat
 |.store _ (.tmp q) _=>some q
 |_=>none
def OG:Op->Bool
 |.buildSlice ..=>true
 |_=>false
theorem Ri{u:AV}{q b:Nat}(hq:TH o.op=some q)(hb:Jt (ev fr (.tmp q))=some b)(h:DP E orc ops o fr O=some (u,O')) :(∀σ2,DP E orc ops o fr σ2=some (u,σ2))/\O'=O\/∃off xs cs,O[b]?=some (.box cs false)/\O'=O.set b (.box (splice cs off xs) false)/\∀σ2:Ac,σ2[b]?=some (.box cs false)->DP E orc ops o fr σ2=some (u,σ2.set b (.box (splice cs off xs) false)):=by
 have hf:F6 E ops o=false:=by
  cases hf:F6 E ops o
  ·rfl
  rcases Dz hf with⟨t,n,l,h⟩|⟨s,d,x,h,_⟩<;>rw[h]at hq<;>cases hq
 have e:∀O,F9 false O=some:=fun O=>by funext r;simp[F9]
 unfold DP at h ⊢;rw[hf]at h ⊢;cases hw:Ig ops fr o with
 |none=>simp[hw]at h
 | some w=>
  cases w with
  |false=>
   simp only[hw,AqG,AqQ]at h ⊢;exact .inl ⟨fun σ2=>⟨h.1,trivial⟩,h.2.symm⟩
  | true=>
   simp only[hw,e,Bk]at h ⊢;unfold TH at hq;split at hq
   case h_2=>cases hq
   rename_i t q' x ho;cases hq;obtain⟨off,hr⟩:=PT hb
   have hop:∀O,CL E (orc o.dst) o.op fr O=(match E.tab t with
     |some d=>(storeA O d (.ref b off) (ev fr x)).map fun O'=>(AV.junk,O')
     |none=>none):=by
    intro O;rw[ho];simp only[CL,EF,hr];cases E.tab t<;>rfl
   simp only[hop]at h ⊢;right;cases ht:E.tab t with
   |none=>simp[ht]at h
   | some d=>
    simp only[ht]at h ⊢;rw[AqE]at h;obtain⟨σ1,h,h2⟩:=h;cases h2;unfold storeA at h ⊢;cases hc:(ev fr x).cells? with
    |none=>simp[hc]at h
    | some xs=>
     simp only[hc]at h ⊢;by_cases hl:xs.length≠d.size
     ·simp[hl]at h
     simp only[hl,Arx]at h ⊢;split at h
     case h_2=>cases h
     rename_i cs hcs;split at h
     case isFalse=>cases h
     rename_i hle;cases h;refine⟨off,xs,cs,hcs,rfl,fun σ2 h2=>?_⟩;simp[h2,hle]
theorem FX{σ2:Ac}{p:Nat}(hp:QF o.op=some p)(ha:Jt (ev fr (.tmp p))=some a)(h:DP E orc ops o fr O=some (v,O'))(h2:σ2[a]?=O[a]?) :O'=O/\DP E orc ops o fr σ2=some (v,σ2):=by
 have hf:F6 E ops o=false:=by
  cases hf:F6 E ops o
  ·rfl
  rcases Dz hf with⟨t,n,l,h⟩|⟨s,d,x,h,_⟩<;>rw[h]at hp<;>cases hp
 have e:∀O,F9 false O=some:=fun O=>by funext r;simp[F9]
 unfold DP at h ⊢;rw[hf]at h ⊢;cases hw:Ig ops fr o with
 |none=>simp[hw]at h
 | some w=>
  cases w with
  |false=>
   simp only[hw,AqG,AqQ]at h ⊢;exact⟨h.2.symm,h.1,trivial⟩
  | true=>
   simp only[hw,e,Bk]at h ⊢;obtain⟨off,hr⟩:=PT ha;unfold QF at hp;split at hp
   case h_3=>cases hp
   ·rename_i t p' ho;cases hp;rw[ho]at h ⊢;simp only[CL,EF,hr]at h ⊢;cases ht:E.tab t with
    |none=>simp[ht]at h
    |some d=>
     simp only[ht,loadA,h2]at h ⊢;rw[AqE]at h;obtain⟨x,h,h3⟩:=h;cases h3;exact⟨rfl,by rw[h];rfl⟩
   rename_i s p' f ho;cases hp;rw[ho]at h ⊢;simp only[CL,EF,hr]at h ⊢;rw[AqE]at h;obtain⟨x,h,h3⟩:=h;cases h3;refine⟨rfl,?_⟩
   have:Bw E σ2 s (.ref a off) f=Bw E O s (.ref a off) f:=by
    unfold Bw;rfl
   rw[this,h];rfl
theorem ZA(hb:OG o.op=true)(hf:F6 E ops o=false)(h:DP E orc ops o fr O=some (v,O')) :(∀σ2,DP E orc ops o fr σ2=some (v,σ2))/\O'=O\/∃k els ro,O'=O++[.buf k els ro]/\∀σ2:Ac,σ2.length=O.length->DP E orc ops o fr σ2=some (v,σ2++[.buf k els ro]):=by
 have e:∀O,F9 false O=some:=fun O=>by funext r;simp[F9]
 unfold DP at h ⊢;rw[hf]at h ⊢;cases hw:Ig ops fr o with
 |none=>simp[hw]at h
 | some w=>
  cases w with
  |false=>
   simp only[hw,AqG,AqQ]at h ⊢;exact .inl ⟨fun σ2=>⟨h.1,trivial⟩,h.2.symm⟩
  |true=>
   simp only[hw,e,Bk]at h ⊢;right;unfold OG at hb;split at hb
   case h_2=>cases hb
   rename_i t n l ho;rw[ho]at h ⊢;simp only[CL,EF]at h ⊢;unfold Ey at h ⊢;split at h
   case h_1=>cases h
   rename_i d hd;split at h
   case h_2=>cases h
   rename_i e' he;split at h
   case h_2=>cases h
   rename_i de hde;split at h
   case isTrue=>cases h
   rename_i hle;split at h
   case h_2=>cases h
   rename_i els hels;cases h;refine⟨_,_,_,rfl,fun σ2 h2=>?_⟩;simp only[hle,Arx,hels,h2]
theorem Ahi{s:TypeId}{p f:Nat}(ho:o.op=.fieldAddr s (.tmp p) f)(ha:Jt (ev fr (.tmp p))=some a)(h:DP E orc ops o fr O=some (v,O')) :O'=O/\∀σ2,DP E orc ops o fr σ2=some (v,σ2):=by
 have hf:F6 E ops o=false:=by
  cases hf:F6 E ops o
  ·rfl
  rcases Dz hf with⟨t,n,l,h⟩|⟨s,d,x,h,_⟩<;>rw[h]at ho<;>cases ho
 have e:∀O,F9 false O=some:=fun O=>by funext r;simp[F9]
 unfold DP at h ⊢;rw[hf]at h ⊢;cases hw:Ig ops fr o with
 |none=>simp[hw]at h
 | some w=>
  cases w with
  |false=>
   simp only[hw,AqG,AqQ]at h ⊢;exact⟨h.2.symm,fun σ2=>⟨h.1,trivial⟩⟩
  | true=>
   simp only[hw,e,Bk]at h ⊢;obtain⟨off,hr⟩:=PT ha;rw[ho]at h ⊢;simp only[CL,EF,hr]at h ⊢;rw[AqE]at h;obtain⟨x,h,h3⟩:=h;cases h3;refine⟨rfl,fun σ2=>?_⟩
   have:Bw E σ2 s (.ref a off) f=Bw E O s (.ref a off) f:=by
    unfold Bw;rfl
   rw[this,h];rfl
inductive Sep(E:Env)(orc:Option Tmp->Orc)(ops:Array Oper)(x y:Oper)(frF:List AV):Prop
  |call (p a:Nat) (hp:QF y.op=some p) (ha:Jt (ev frF (.tmp p))=some a) (hx:∀O σ1 v,DP E orc ops x frF O=some (v,σ1)->σ1[a]?=O[a]?)
  |look (p q a b:Nat) (hp:QF x.op=some p) (hq:TH y.op=some q) (ha:Jt (ev frF (.tmp p))=some a) (hb:Jt (ev frF (.tmp q))=some b) (hne:a≠b)
  |callY (p a:Nat) (hp:QF x.op=some p) (ha:Jt (ev frF (.tmp p))=some a) (hy:∀O σ1 v,DP E orc ops y frF O=some (v,σ1)->σ1[a]?=O[a]?)
  |fa (s:TypeId) (p f a:Nat) (ho:y.op=.fieldAddr s (.tmp p) f) (ha:Jt (ev frF (.tmp p))=some a)
  |build (q b:Nat) (hx:OG x.op=true) (hf:F6 E ops x=false) (hq:TH y.op=some q) (hb:Jt (ev frF (.tmp q))=some b)
theorem PU{x y:Oper}{st st1 st2:St}(hap:x.apart ops y=true)(hc:Sep E orc ops x y st.fr) (h1:Cc E orc ops x st=some st1) (h2:Cc E orc ops y st1=some st2):∃st3,Cc E orc ops y st=some st3/\Cc E orc ops x st3=some st2:=by
 obtain⟨a1,a2,a3⟩:=Oper.apart_spec hap;unfold Cc at h1 h2 ⊢;rw[AqE]at h1 h2;obtain⟨⟨v,σ1⟩,hv,rfl⟩:=h1;obtain⟨⟨u,σ2⟩,hu,rfl⟩:=h2;simp only at hu ⊢;rw[Be a1]at hu
 have fin:∀σ3,DP E orc ops y st.fr st.O=some (u,σ3)->DP E orc ops x st.fr σ3=some (v,σ2) ->
   ∃st3,(DP E orc ops y st.fr st.O).map (fun r=>(⟨AC st.fr y.dst r.1,r.2⟩:St))=some st3/\(DP E orc ops x st3.fr st3.O).map (fun r=>(⟨AC st3.fr x.dst r.1,r.2⟩:St))=some ⟨AC (AC st.fr x.dst v) y.dst u,σ2⟩:=by
  intro σ3 hy hx;refine⟨⟨AC st.fr y.dst u,σ3⟩,by rw[hy];rfl,?_⟩;simp only;rw[Be a3,hx];simp only[Arg,Dl st.fr v u a2]
 cases hc with
 |call p a hp ha hx=>
  have h1:=hx _ _ _ hv;obtain⟨rfl,_⟩:=FX hp ha hu rfl;exact fin _ (FX hp ha hu h1.symm).2 hv
 |fa s p f a ho ha=>
  obtain⟨rfl,hy⟩:=Ahi ho ha hu;exact fin _ (hy _) hv
 |callY p a hp ha hy=>
  obtain⟨rfl,_⟩:=FX hp ha hv rfl;exact fin _ hu (FX hp ha hv (hy _ _ _ hu)).2
 |look p q a b hp hq ha hb hne=>
  obtain⟨rfl,_⟩:=FX hp ha hv rfl;refine fin _ hu (FX hp ha hv ?_).2;rcases Ri hq hb hu with⟨_,rfl⟩|⟨off,xs,cs,_,rfl,_⟩
  ·rfl
  exact ArC (fun h=>hne h.symm)
 | build q b hx hf hq hb=>
  rcases ZA hx hf hv with⟨hall,rfl⟩|⟨k,els,ro,rfl,hall⟩
  ·exact fin _ hu (hall _)
  rcases Ri hq hb hu with⟨hs,rfl⟩|⟨off,xs,cs,hcs,rfl,hs⟩
  ·exact fin _ (hs _) (hall _ rfl)
  have hlt:b<st.O.length:=by
   have:=(AqD.1 hcs).1;by_cases hb':b<st.O.length
   ·exact hb'
   have he:b=st.O.length:=by simp at this;omega
   rw[he]at hcs;simp at hcs
  have hcs':st.O[b]?=some (.box cs false):=by
   rw[AqN hlt]at hcs;exact hcs
  refine fin _ (hs _ hcs') ?_;rw[hall _ (by simp),List.set_append_left _ _ hlt]
theorem M7{orc:Option Tmp->Orc}{ops:Array Oper}{i:Nat}{y:Oper}(hi:ops[i]?=some y){l2:List Nat}{st':St}:∀(l1:List Nat) (st:St),(∀m1 j m2,l1=m1++j::m2->∀x,ops[j]?=some x->Ks E ops x y=true\/x.apart ops y=true/\∀st,Bh E orc ops ((j::m2)++i::l2) st=some st'->Sep E orc ops x y st.fr)->Bh E orc ops (l1++i::l2) st=some st' ->∃st1,Cc E orc ops y st=some st1/\Bh E orc ops (l1++l2) st1=some st'
 |[],st,_,h=>by
  simp only[Aru,Bh,hi]at h;rw[AqK]at h;exact h
 | j::l1,st,hc,h0=>by
  have h:=h0;simp only[Aq7,Bh]at h;cases hj:ops[j]? with
  |none=>simp[hj]at h
  | some x=>
   simp only[hj]at h;rw[AqK]at h;obtain⟨s1,h1,h⟩:=h;obtain⟨s2,h2,h⟩:=M7 hi l1 s1 (fun m1 k m2 e=>hc (j::m1) k m2 (by rw[e];rfl)) h
   have:∃st3,Cc E orc ops y st=some st3/\Cc E orc ops x st3=some s2:=by
    rcases hc [] j l1 rfl x hj with hcb|⟨hap,hcy⟩
    ·exact Js hcb h1 h2
    exact PU hap (hcy st h0) h1 h2
   obtain⟨s3,h3,h4⟩:=this;refine⟨s3,h3,?_⟩;simp only[Aq7,Bh,hj,h4,ArL];exact h
def FI(ops:Array Oper)(ts:List Nat)(ok:Nat->Bool)(t:Nat):Bool :=
 ts.contains t&&(List.range ops.size).all fun k=>ok k||(match ops[k]? with
  |some o=>o.dst != some t
  |none=>true)
def Vy(ps:List (Nat×Nat))(t:Nat):Option Nat:=(ps.find? fun p=>p.1==t).map (·.2)
def Aqf(e:Nat×FuncId×List AV×Ac×AV×Ac):List (Nat×Nat)->Prop
 |[]=>True
 |q::xs=>(e.1=q.1->e.2.2.2.2.2[q.2]?=e.2.2.2.1[q.2]?)/\Aqf e xs
def XOk:List (Nat×FuncId×List AV×Ac×AV×Ac)->List (Nat×Nat)->Prop
 |[],_=>True
 |e::m,xs=>Aqf e xs/\XOk m xs
theorem Aa2{e:Nat×FuncId×List AV×Ac×AV×Ac}:∀{xs:List (Nat×Nat)},Aqf e xs->∀{a:Nat},(e.1,a)∈xs->e.2.2.2.2.2[a]?=e.2.2.2.1[a]?
 | q::xs,h,a,hq=>by
  rcases Aq9.1 hq with hq|hq
  ·have:=h.1 (by rw[<-hq]);rw[<-hq]at this;exact this
  exact Aa2 h.2 hq
theorem Ac1{xs:List (Nat×Nat)}{t a:Nat}(ht:(t,a)∈xs){f:FuncId}{as:List AV}{O O':Ac}{r:AV}:∀{m:List (Nat×FuncId×List AV×Ac×AV×Ac)},XOk m xs->R6 m (some t) f as O=some (r,O')->O'[a]?=O[a]?
 |[],_,h=>by cases h
 | e::m,hx,h=>by
  unfold R6 at h;split at h
  ·rename_i he;split at h
   ·rename_i hh;cases he;have:=Aa2 hx.1 ht;have hr:e.2.2.2.2=(r,O'):=AqF h;rw[hr,<-hh.2.2]at this;exact this
   cases h
  exact Ac1 ht hx.2 h
theorem Jh{l:List (Nat×FuncId×List AV×AV)}{m:List (Nat×FuncId×List AV×Ac×AV×Ac)}{xs:List (Nat×Nat)}{t:Nat}(ho:KA E o=true)(hd:o.dst=some t)(hm:XOk m xs)(ht:(t,a)∈xs)(hval:DP E (HX l m) ops o fr O=some (v,O')):O'[a]?=O[a]?:=by
 unfold DP at hval;cases hwn:Ig ops fr o with
 |none=>rw[hwn]at hval;cases hval
 | some b=>
  cases b with
  |false=>rw[hwn]at hval;cases hval;rfl
  | true=>
   rw[hwn]at hval;simp only at hval
   have hfz:F6 E ops o=false:=by
    unfold KA at ho;unfold F6;split
    ·split
     ·rename_i ee;rw[ee]at ho;cases ho
     ·rename_i ee;rw[ee]at ho;cases ho
     rfl
    rfl
   have hfr:F9 (F6 E ops o) O=some:=by rw[hfz];funext q;simp[F9]
   rw[hfr,Bk]at hval;unfold KA at ho;unfold CL at hval;split at ho
   case h_2=>cases ho
   rename_i c ec;simp only[ec]at hval;split at hval
   ·rename_i bi eb;unfold QT at ho;rw[eb]at ho;cases ho
   rw[AqJ ho]at hval;obtain⟨_,_,hval⟩:=Vm hval;rw[hd]at hval;exact Ac1 ht hm hval
def Aju(E:Env)(ops:Array Oper)(T:List (List Nat))(ps xs:List (Nat×Nat))(ts:List Nat)(i:Nat)(x y:Oper):Bool :=
 match QF y.op,x.dst with
 |some p,some t=>match Vy ps p with
  |none=>false
  |some a=>FI ops ts (fun k=>(T.getD i []).contains k&&decide (k<i)) p&&KA E x&&xs.contains (t,a)
 |_,_=>false
def Ajm(E:Env)(ops:Array Oper)(ps xs:List (Nat×Nat))(ts:List Nat)(j:Nat)(x y:Oper):Bool :=
 match QF x.op,y.dst with
 |some p,some t=>match Vy ps p with
  |none=>false
  |some a=>FI ops ts (fun k=>decide (k<j)) p&&KA E y&&xs.contains (t,a)
 |_,_=>false
def Ajl(E:Env)(ops:Array Oper)(T:List (List Nat))(ps:List (Nat×Nat))(ts:List Nat)(j i:Nat)(x y:Oper):Bool :=
 match TH y.op with
 |none=>false
 | some q=>match Vy ps q with
  |none=>false
  | some b=>FI ops ts (fun k=>(T.getD i []).contains k&&decide (k<i)) q&&((OG x.op&&!F6 E ops x)||(match QF x.op with
   |none=>false
   |some p=>match Vy ps p with
    |none=>false
    |some a=>a != b&&FI ops ts (fun k=>decide (k<j)) p))
def Ajt(ops:Array Oper)(T:List (List Nat))(ps:List (Nat×Nat))(ts:List Nat)(i:Nat)(y:Oper):Bool :=
 match y.op with
 |.fieldAddr _ (.tmp p) _=>match Vy ps p with
  |none=>false
  |some _=>FI ops ts (fun k=>(T.getD i []).contains k&&decide (k<i)) p
 |_=>false
def AcR(E:Env)(ops:Array Oper)(T:List (List Nat))(ps xs:List (Nat×Nat))(ts:List Nat):Bool :=
 (List.range ops.size).all fun i=>(List.range i).all fun j=>(T.getD i []).contains j||(match ops[j]?,ops[i]? with
  |some x,some y=>Ks E ops x y||(x.apart ops y&&(Ajl E ops T ps ts j i x y||Aju E ops T ps xs ts i x y||Ajt ops T ps ts i y||Ajm E ops ps xs ts j x y))
  |_,_=>false)
def Sf(n:Nat)(fr:Fr):List (Nat×Nat)->Prop
 |[]=>True
 |p::ps=>Jt (evL n fr (.tmp p.1))=some p.2/\Sf n fr ps
theorem ON{n:Nat}{fr:Fr}:∀{ps:List (Nat×Nat)} {t a:Nat},Sf n fr ps->Vy ps t=some a->Jt (evL n fr (.tmp t))=some a
 |[],t,a,_,h=>by cases h
 | p::ps,t,a,hr,h=>by
  unfold Vy at h;rw[List.find?_cons]at h;by_cases e:(p.1==t)=true
  ·simp only[e]at h;cases h;rw[<-eq_of_beq e];exact hr.1
  simp only[e]at h;exact ON hr.2 h
theorem La(hE:E.Ok)(hP:E.P.follows .mixedOrders=true){m n:Nat}{l:List Oper}(T:List (List Nat))(hok1:F3 l.toArray T=true)(ps xs:List (Nat×Nat))(ts:List Nat)(hok2:AcR E l.toArray T ps xs ts=true){fr fr':Fr}{K:CX}(hw:MC E m K) (hps:Sf n fr' ps) (h:∃lz m,H3 E.toBase (HX lz m)/\XOk m xs/\Ib E (HX lz m) true n l ts (fr,O)=some (fr',O')) (hk:K .normal ⟨Ah n fr',O'⟩):Run E m (.region id l.toArray true) ⟨Ah n fr,O⟩ K:=by
 obtain⟨lz,mz,hO,hX,h⟩:=h;simp only[Ib,AqK,AqG,AqQ]at h;obtain⟨⟨fr1,σ2⟩,h1,rfl,rfl⟩:=h;have hsteps:=FV (E:=E) (ops:=l.toArray) 0 l fr fr1 O σ2 (by simp) h1;rw[<-ArQ]at hsteps;intro hcm ac w g hr Q hq;refine Ik (JN hcm) (wp_region_any hP ?_);have hsm:SameMem w { w with drawn:=w.drawn+1 }:=⟨rfl,rfl,rfl,rfl⟩
 have hval:∀t a,ts.contains t=true->Vy ps t=some a->Jt (ev (Ah n fr1) (.tmp t))=some a:=by
  intro t a ht ha;have:=ON hps ha;rw[CG]
  have e:evL n (keep ts fr1) (.tmp t)=evL n fr1 (.tmp t):=by
   show(if t<n then look (keep ts fr1) t else .junk)=if t<n then look fr1 t else .junk
   rw[Ef ts fr1 t (AqX.1 ht)]
  rw[e]at this;exact this
 refine J9 hE hO hok1 (st':=⟨Ah n fr1,σ2⟩) ?_ l.toArray.size (List.range l.length) _ ⟨Ah n fr,O⟩ ac _ g (by simp) Ar1 (by simp) ?_ ?_ hsteps (JU hr hsm) ?_
 ·intro i his l1 l2 st hp hT hst;have hi:l.toArray[i]?=some l.toArray[i]:=Aq2 his;refine M7 hi l1 st (fun m1 j m2 e x hx=>?_) hst;have hj:j∈l1:=by rw[e];simp
  have hji:j<i:=by
   rw[Ark]at hp;exact hp.2.2 j hj i Aq4
  have h1':=A6 (A6 hok2 his) hji;simp only[Art,AqX]at h1';rcases h1' with h1'|h1'
  ·exact(hT j hj h1').elim
  simp only[hx,hi,Art,AqZ]at h1';rcases h1' with h1'|⟨h1',h2'⟩
  ·exact .inl h1'
  refine .inr ⟨h1',fun st3 h3=>?_⟩;have hst3:∀t,(∀k∈((j::m2)++i::l2),∀o,l.toArray[k]?=some o->o.dst≠some t)->ev st3.fr (.tmp t)=ev (Ah n fr1) (.tmp t):=fun t hk=>(Hf _ _ _ hk h3).symm
  have hpw:((j::m2)++i::l2).Pairwise (·<·):=by
   rw[e,Ars]at hp;exact(Ark.1 hp).2.1
  have hge:∀k∈((j::m2)++i::l2),j<=k:=by
   intro k hk;rw[Aq7]at hpw hk;rcases Aq9.1 hk with rfl|hk
   ·exact AqT _
   exact AtF (Arf hpw hk)
  have hnT:∀k∈((j::m2)++i::l2),¬(k∈T.getD i []/\k<i):=by
   rintro k hk ⟨q1,q2⟩;rcases Aq3.1 hk with hk|hk
   ·exact hT k (by rw[e];simp only[Aq3];exact .inr hk) q1
   rcases Aq9.1 hk with rfl|hk
   ·omega
   have:=Arf (Ark.1 hpw).2.1 hk;omega
  have hstill:∀(ok:Nat->Bool) t,FI l.toArray ts ok t=true->(∀k∈((j::m2)++i::l2),ok k=false)->ts.contains t=true/\ev st3.fr (.tmp t)=ev (Ah n fr1) (.tmp t):=by
   intro ok t h hno;simp only[FI,AqZ]at h;refine⟨h.1,hst3 t fun k hk o hko=>?_⟩;have h2:=A6 h.2 (AqS.1 hko).1;rw[hno k hk,hko]at h2;simpa using h2
  have hq0:∀q,FI l.toArray ts (fun k=>(T.getD i []).contains k&&decide (k<i)) q=true->ts.contains q=true/\ev st3.fr (.tmp q)=ev (Ah n fr1) (.tmp q):=fun q s1=>hstill _ q s1 (fun k hk=>by
   have:=hnT k hk;simp only[Asp,Arb];by_cases hm:k∈T.getD i []
   ·exact .inr fun h=>this ⟨hm,h⟩
   exact .inl (by simpa using hm))
  rcases h2' with h2'|h2'
  case inr=>
   unfold Ajm at h2';split at h2'
   case h_2=>cases h2'
   rename_i p t hp' ht';split at h2'
   case h_1=>cases h2'
   rename_i a ha;simp only[AqZ,AqX]at h2';obtain⟨⟨s1,s2⟩,s3⟩:=h2'
   obtain⟨c1,c2⟩:=hstill _ p s1 (fun k hk=>by
    have:=hge k hk;simp only[Arb];omega)
   exact .callY p a hp' (by rw[c2];exact hval p a c1 ha) fun O σ1 v hv=>Jh s2 ht' hX s3 hv
  rcases h2' with h2'|h2'
  case inr=>
   unfold Ajt at h2';split at h2'
   case h_2=>cases h2'
   rename_i p f hop;split at h2'
   case h_1=>cases h2'
   rename_i a ha;obtain⟨c1,c2⟩:=hq0 p h2';exact .fa _ p f a hop (by rw[c2];exact hval p a c1 ha)
  rcases h2' with h2'|h2'
  case inr=>
   unfold Aju at h2';split at h2'
   case h_2=>cases h2'
   rename_i p t hp' ht';split at h2'
   case h_1=>cases h2'
   rename_i a ha;simp only[AqZ,AqX]at h2';obtain⟨⟨s1,s2⟩,s3⟩:=h2';obtain⟨c1,c2⟩:=hq0 p s1;exact .call p a hp' (by rw[c2];exact hval p a c1 ha) fun O σ1 v hv=>Jh s2 ht' hX s3 hv
  unfold Ajl at h2';split at h2'
  case h_1=>cases h2'
  rename_i q hq';split at h2'
  case h_1=>cases h2'
  rename_i b hb;simp only[AqZ,Art,Ar9]at h2';obtain⟨s1,h2'⟩:=h2';obtain⟨c1,c2⟩:=hq0 q s1;have hbq:Jt (ev st3.fr (.tmp q))=some b:=by rw[c2];exact hval q b c1 hb
  rcases h2' with⟨h4,h5⟩|h4
  ·exact .build q b h4 h5 hq' hbq
  split at h4
  case h_1=>cases h4
  rename_i p hp';split at h4
  case h_1=>cases h4
  rename_i a ha;simp only[AqZ,AsU]at h4
  obtain⟨c3,c4⟩:=hstill _ p h4.2 (fun k hk=>by
   have:=hge k hk;simp only[Arb];omega)
  exact .look p q a b hp' hq' (by rw[c4];exact hval p a c3 ha) hbq h4.1
 ·intro j;rw[ArD];by_cases h:j<l.length<;>simp[Array.getD,h]
 ·intro k hk hkn;exact(hkn (ArD.2 (by simpa using hk))).elim
 intro a' w' g' hr' he hg;exact hq _ _ _ _ _ (hw _ _ (D0 _ _ _ _ _) hk) hr' ((Evo.same hsm).trans (he.of_gle hg))
theorem AbR(hE:E.Ok)(hP:E.P.follows .mixedOrders=true){m n:Nat}{l:List Oper}(T:List (List Nat))(hok1:F3 l.toArray T=true)(ps xs:List (Nat×Nat))(ts:List Nat)(hok2:AcR E l.toArray T ps xs ts=true){fr fr':Fr}{K:CX} (hps:Sf n fr' ps) (h:∃lz m,H3 E.toBase (HX lz m)/\XOk m xs/\Ib E (HX lz m) true n l ts (fr,O)=some (fr',O')) {y:Code} (hk:Run E m y ⟨Ah n fr',O'⟩ K):Run E m (.seq (.region id l.toArray true) y) ⟨Ah n fr,O⟩ K :=
 HM (La hE hP T hok1 ps xs ts hok2 EK hps h hk)
end Go.Rv
