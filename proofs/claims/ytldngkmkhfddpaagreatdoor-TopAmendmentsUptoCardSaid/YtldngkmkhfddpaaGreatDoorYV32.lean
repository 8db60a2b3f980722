/-
  Part 32.
-/
import Derived.Test.YtldngkmkhfddpaaGreatDoorYV31
namespace Go.Rv
open Go.RowKit
set_option linter.unusedVariables false
set_option linter.unusedSimpArgs false
variable{id a:Nat}{orc:Option Tmp->Orc}{ops:Array Oper}{o:Oper}{fr:List AV}{O O':Ad}{v:AV}
variable {E:Env}
@[go_sem] theorem AlP(f:FuncId)(l:List AV):(AV.fn f l).cells?=some [.fn f l]:=rfl
theorem Amm(n:Nat):(((no_index (OfNat.ofNat n)):Nat):Int)=(no_index (OfNat.ofNat n):Int):=rfl
def HW:AV->Option Nat
 |.ref id _=>some id
 |_=>none
theorem LP{x:AV}(h:HW x=some id):∃o,x=.ref id o:=by
 unfold HW at h;split at h
 ·cases h;exact⟨_,rfl⟩
 cases h
def NU:Op->Option Nat
 |.load _ (.tmp p)=>some p
 |.fieldAddr _ (.tmp p) _=>some p
 |_=>none
def Tj:Op->Option Nat
 |.store _ (.tmp q) _=>some q
 |_=>none
def J9:Op->Bool
 |.buildSlice ..=>true
 |_=>false
theorem QR{u:AV}{q b:Nat}(hq:Tj o.op=some q)(hb:HW (ev fr (.tmp q))=some b)(h:D2 E orc ops o fr O=some (u,O')) :(∀σ2,D2 E orc ops o fr σ2=some (u,σ2))/\O'=O\/∃off xs cs,O[b]?=some (.box cs false)/\O'=O.set b (.box (splice cs off xs) false)/\∀σ2:Ad,σ2[b]?=some (.box cs false)->D2 E orc ops o fr σ2=some (u,σ2.set b (.box (splice cs off xs) false)):=by
 have hf:ES E ops o=false:=by
  cases hf:ES E ops o
  ·rfl
  rcases Dq hf with⟨t,n,l,h⟩|⟨s,d,x,h,_⟩<;>rw[h]at hq<;>cases hq
 have e:∀O,Fu false O=some:=fun O=>by funext r;simp[Fu]
 unfold D2 at h ⊢;rw[hf]at h ⊢;cases hw:G9 ops fr o with
 |none=>simp[hw]at h
 | some w=>
  cases w with
  |false=>
   simp only[hw,Ao0,Apa]at h ⊢;exact .inl ⟨fun σ2=>⟨h.1,trivial⟩,h.2.symm⟩
  | true=>
   simp only[hw,e,Bh]at h ⊢;unfold Tj at hq;split at hq
   case h_2=>cases hq
   rename_i t q' x ho;cases hq;obtain⟨off,hr⟩:=LP hb
   have hop:∀O,Cl E (orc o.dst) o.op fr O=(match E.tab t with
     |some d=>(storeA O d (.ref b off) (ev fr x)).map fun O'=>(AV.junk,O')
     |none=>none):=by
    intro O;rw[ho];simp only[Cl,Ec,hr];cases E.tab t<;>rfl
   simp only[hop]at h ⊢;right;cases ht:E.tab t with
   |none=>simp[ht]at h
   | some d=>
    simp only[ht]at h ⊢;rw[AoY]at h;obtain⟨σ1,h,h2⟩:=h;cases h2;unfold storeA at h ⊢;cases hc:(ev fr x).cells? with
    |none=>simp[hc]at h
    | some xs=>
     simp only[hc]at h ⊢;by_cases hl:xs.length≠d.size
     ·simp[hl]at h
     simp only[hl,ApY]at h ⊢;split at h
     case h_2=>cases h
     rename_i cs hcs;split at h
     case isFalse=>cases h
     rename_i hle;cases h;refine⟨off,xs,cs,hcs,rfl,fun σ2 h2=>?_⟩;simp[h2,hle]
theorem E3{σ2:Ad}{p:Nat}(hp:NU o.op=some p)(ha:HW (ev fr (.tmp p))=some a)(h:D2 E orc ops o fr O=some (v,O'))(h2:σ2[a]?=O[a]?) :O'=O/\D2 E orc ops o fr σ2=some (v,σ2):=by
 have hf:ES E ops o=false:=by
  cases hf:ES E ops o
  ·rfl
  rcases Dq hf with⟨t,n,l,h⟩|⟨s,d,x,h,_⟩<;>rw[h]at hp<;>cases hp
 have e:∀O,Fu false O=some:=fun O=>by funext r;simp[Fu]
 unfold D2 at h ⊢;rw[hf]at h ⊢;cases hw:G9 ops fr o with
 |none=>simp[hw]at h
 | some w=>
  cases w with
  |false=>
   simp only[hw,Ao0,Apa]at h ⊢;exact⟨h.2.symm,h.1,trivial⟩
  | true=>
   simp only[hw,e,Bh]at h ⊢;obtain⟨off,hr⟩:=LP ha;unfold NU at hp;split at hp
   case h_3=>cases hp
   ·rename_i t p' ho;cases hp;rw[ho]at h ⊢;simp only[Cl,Ec,hr]at h ⊢;cases ht:E.tab t with
    |none=>simp[ht]at h
    |some d=>
     simp only[ht,loadA,h2]at h ⊢;rw[AoY]at h;obtain⟨x,h,h3⟩:=h;cases h3;exact⟨rfl,by rw[h];rfl⟩
   rename_i s p' f ho;cases hp;rw[ho]at h ⊢;simp only[Cl,Ec,hr]at h ⊢;rw[AoY]at h;obtain⟨x,h,h3⟩:=h;cases h3;refine⟨rfl,?_⟩
   have:AX E σ2 s (.ref a off) f=AX E O s (.ref a off) f:=by
    unfold AX;rfl
   rw[this,h];rfl
theorem XN(hb:J9 o.op=true)(hf:ES E ops o=false)(h:D2 E orc ops o fr O=some (v,O')) :(∀σ2,D2 E orc ops o fr σ2=some (v,σ2))/\O'=O\/∃k els ro,O'=O++[.buf k els ro]/\∀σ2:Ad,σ2.length=O.length->D2 E orc ops o fr σ2=some (v,σ2++[.buf k els ro]):=by
 have e:∀O,Fu false O=some:=fun O=>by funext r;simp[Fu]
 unfold D2 at h ⊢;rw[hf]at h ⊢;cases hw:G9 ops fr o with
 |none=>simp[hw]at h
 | some w=>
  cases w with
  |false=>
   simp only[hw,Ao0,Apa]at h ⊢;exact .inl ⟨fun σ2=>⟨h.1,trivial⟩,h.2.symm⟩
  |true=>
   simp only[hw,e,Bh]at h ⊢;right;unfold J9 at hb;split at hb
   case h_2=>cases hb
   rename_i t n l ho;rw[ho]at h ⊢;simp only[Cl,Ec]at h ⊢;unfold C6 at h ⊢;split at h
   case h_1=>cases h
   rename_i d hd;split at h
   case h_2=>cases h
   rename_i e' he;split at h
   case h_2=>cases h
   rename_i de hde;split at h
   case isTrue=>cases h
   rename_i hle;split at h
   case h_2=>cases h
   rename_i els hels;cases h;refine⟨_,_,_,rfl,fun σ2 h2=>?_⟩;simp only[hle,ApY,hels,h2]
theorem AgG{s:TypeId}{p f:Nat}(ho:o.op=.fieldAddr s (.tmp p) f)(ha:HW (ev fr (.tmp p))=some a)(h:D2 E orc ops o fr O=some (v,O')) :O'=O/\∀σ2,D2 E orc ops o fr σ2=some (v,σ2):=by
 have hf:ES E ops o=false:=by
  cases hf:ES E ops o
  ·rfl
  rcases Dq hf with⟨t,n,l,h⟩|⟨s,d,x,h,_⟩<;>rw[h]at ho<;>cases ho
 have e:∀O,Fu false O=some:=fun O=>by funext r;simp[Fu]
 unfold D2 at h ⊢;rw[hf]at h ⊢;cases hw:G9 ops fr o with
 |none=>simp[hw]at h
 | some w=>
  cases w with
  |false=>
   simp only[hw,Ao0,Apa]at h ⊢;exact⟨h.2.symm,fun σ2=>⟨h.1,trivial⟩⟩
  | true=>
   simp only[hw,e,Bh]at h ⊢;obtain⟨off,hr⟩:=LP ha;rw[ho]at h ⊢;simp only[Cl,Ec,hr]at h ⊢;rw[AoY]at h;obtain⟨x,h,h3⟩:=h;cases h3;refine⟨rfl,fun σ2=>?_⟩
   have:AX E σ2 s (.ref a off) f=AX E O s (.ref a off) f:=by
    unfold AX;rfl
   rw[this,h];rfl
inductive Sep(E:Env)(orc:Option Tmp->Orc)(ops:Array Oper)(x y:Oper)(frF:List AV):Prop
  |call (p a:Nat) (hp:NU y.op=some p) (ha:HW (ev frF (.tmp p))=some a) (hx:∀O σ1 v,D2 E orc ops x frF O=some (v,σ1)->σ1[a]?=O[a]?)
  |look (p q a b:Nat) (hp:NU x.op=some p) (hq:Tj y.op=some q) (ha:HW (ev frF (.tmp p))=some a) (hb:HW (ev frF (.tmp q))=some b) (hne:a≠b)
  |callY (p a:Nat) (hp:NU x.op=some p) (ha:HW (ev frF (.tmp p))=some a) (hy:∀O σ1 v,D2 E orc ops y frF O=some (v,σ1)->σ1[a]?=O[a]?)
  |fa (s:TypeId) (p f a:Nat) (ho:y.op=.fieldAddr s (.tmp p) f) (ha:HW (ev frF (.tmp p))=some a)
  |build (q b:Nat) (hx:J9 x.op=true) (hf:ES E ops x=false) (hq:Tj y.op=some q) (hb:HW (ev frF (.tmp q))=some b)
theorem Pf{x y:Oper}{st st1 st2:St}(hap:x.apart ops y=true)(hc:Sep E orc ops x y st.fr) (h1:B6 E orc ops x st=some st1) (h2:B6 E orc ops y st1=some st2):∃st3,B6 E orc ops y st=some st3/\B6 E orc ops x st3=some st2:=by
 obtain⟨a1,a2,a3⟩:=Oper.apart_spec hap;unfold B6 at h1 h2 ⊢;rw[AoY]at h1 h2;obtain⟨⟨v,σ1⟩,hv,rfl⟩:=h1;obtain⟨⟨u,σ2⟩,hu,rfl⟩:=h2;simp only at hu ⊢;rw[AK a1]at hu
 have fin:∀σ3,D2 E orc ops y st.fr st.O=some (u,σ3)->D2 E orc ops x st.fr σ3=some (v,σ2) ->
   ∃st3,(D2 E orc ops y st.fr st.O).map (fun r=>(⟨Ay st.fr y.dst r.1,r.2⟩:St))=some st3/\(D2 E orc ops x st3.fr st3.O).map (fun r=>(⟨Ay st3.fr x.dst r.1,r.2⟩:St))=some ⟨Ay (Ay st.fr x.dst v) y.dst u,σ2⟩:=by
  intro σ3 hy hx;refine⟨⟨Ay st.fr y.dst u,σ3⟩,by rw[hy];rfl,?_⟩;simp only;rw[AK a3,hx];simp only[Apz,CI st.fr v u a2]
 cases hc with
 |call p a hp ha hx=>
  have h1:=hx _ _ _ hv;obtain⟨rfl,_⟩:=E3 hp ha hu rfl;exact fin _ (E3 hp ha hu h1.symm).2 hv
 |fa s p f a ho ha=>
  obtain⟨rfl,hy⟩:=AgG ho ha hu;exact fin _ (hy _) hv
 |callY p a hp ha hy=>
  obtain⟨rfl,_⟩:=E3 hp ha hv rfl;exact fin _ hu (E3 hp ha hv (hy _ _ _ hu)).2
 |look p q a b hp hq ha hb hne=>
  obtain⟨rfl,_⟩:=E3 hp ha hv rfl;refine fin _ hu (E3 hp ha hv ?_).2;rcases QR hq hb hu with⟨_,rfl⟩|⟨off,xs,cs,_,rfl,_⟩
  ·rfl
  exact ApR (fun h=>hne h.symm)
 | build q b hx hf hq hb=>
  rcases XN hx hf hv with⟨hall,rfl⟩|⟨k,els,ro,rfl,hall⟩
  ·exact fin _ hu (hall _)
  rcases QR hq hb hu with⟨hs,rfl⟩|⟨off,xs,cs,hcs,rfl,hs⟩
  ·exact fin _ (hs _) (hall _ rfl)
  have hlt:b<st.O.length:=by
   have:=(AoZ.1 hcs).1;by_cases hb':b<st.O.length
   ·exact hb'
   have he:b=st.O.length:=by simp at this;omega
   rw[he]at hcs;simp at hcs
  have hcs':st.O[b]?=some (.box cs false):=by
   rw[Ao9 hlt]at hcs;exact hcs
  refine fin _ (hs _ hcs') ?_;rw[hall _ (by simp),List.set_append_left _ _ hlt]
theorem LS{orc:Option Tmp->Orc}{ops:Array Oper}{i:Nat}{y:Oper}(hi:ops[i]?=some y){l2:List Nat}{st':St}:∀(l1:List Nat) (st:St),(∀m1 j m2,l1=m1++j::m2->∀x,ops[j]?=some x->Jq E ops x y=true\/x.apart ops y=true/\∀st,AO E orc ops ((j::m2)++i::l2) st=some st'->Sep E orc ops x y st.fr)->AO E orc ops (l1++i::l2) st=some st' ->∃st1,B6 E orc ops y st=some st1/\AO E orc ops (l1++l2) st1=some st'
 |[],st,_,h=>by
  simp only[ApN,AO,hi]at h;rw[Ao3]at h;exact h
 | j::l1,st,hc,h0=>by
  have h:=h0;simp only[Apo,AO]at h;cases hj:ops[j]? with
  |none=>simp[hj]at h
  | some x=>
   simp only[hj]at h;rw[Ao3]at h;obtain⟨s1,h1,h⟩:=h;obtain⟨s2,h2,h⟩:=LS hi l1 s1 (fun m1 k m2 e=>hc (j::m1) k m2 (by rw[e];rfl)) h
   have:∃st3,B6 E orc ops y st=some st3/\B6 E orc ops x st3=some s2:=by
    rcases hc [] j l1 rfl x hj with hcb|⟨hap,hcy⟩
    ·exact H5 hcb h1 h2
    exact Pf hap (hcy st h0) h1 h2
   obtain⟨s3,h3,h4⟩:=this;refine⟨s3,h3,?_⟩;simp only[Apo,AO,hj,h4,ApX];exact h
def DF(ops:Array Oper)(ts:List Nat)(ok:Nat->Bool)(t:Nat):Bool :=
 ts.contains t&&(List.range ops.size).all fun k=>ok k||(match ops[k]? with
  |some o=>o.dst != some t
  |none=>true)
def NQ(ps:List (Nat×Nat))(t:Nat):Option Nat:=(ps.find? fun p=>p.1==t).map (·.2)
def Ane(e:Nat×FuncId×List AV×Ad×AV×Ad):List (Nat×Nat)->Prop
 |[]=>True
 |q::xs=>(e.1=q.1->e.2.2.2.2.2[q.2]?=e.2.2.2.1[q.2]?)/\Ane e xs
def XOk:List (Nat×FuncId×List AV×Ad×AV×Ad)->List (Nat×Nat)->Prop
 |[],_=>True
 |e::m,xs=>Ane e xs/\XOk m xs
theorem AbC{e:Nat×FuncId×List AV×Ad×AV×Ad}:∀{xs:List (Nat×Nat)},Ane e xs->∀{a:Nat},(e.1,a)∈xs->e.2.2.2.2.2[a]?=e.2.2.2.1[a]?
 | q::xs,h,a,hq=>by
  rcases Apq.1 hq with hq|hq
  ·have:=h.1 (by rw[<-hq]);rw[<-hq]at this;exact this
  exact AbC h.2 hq
theorem Aau{xs:List (Nat×Nat)}{t a:Nat}(ht:(t,a)∈xs){f:FuncId}{as:List AV}{O O':Ad}{r:AV}:∀{m:List (Nat×FuncId×List AV×Ad×AV×Ad)},XOk m xs->Q9 m (some t) f as O=some (r,O')->O'[a]?=O[a]?
 |[],_,h=>by cases h
 | e::m,hx,h=>by
  unfold Q9 at h;split at h
  ·rename_i he;split at h
   ·rename_i hh;cases he;have:=AbC hx.1 ht;have hr:e.2.2.2.2=(r,O'):=Ao1 h;rw[hr,<-hh.2.2]at this;exact this
   cases h
  exact Aau ht hx.2 h
theorem Je{l:List (Nat×FuncId×List AV×AV)}{m:List (Nat×FuncId×List AV×Ad×AV×Ad)}{xs:List (Nat×Nat)}{t:Nat}(ho:Ks E o=true)(hd:o.dst=some t)(hm:XOk m xs)(ht:(t,a)∈xs)(hval:D2 E (LA l m) ops o fr O=some (v,O')):O'[a]?=O[a]?:=by
 unfold D2 at hval;cases hwn:G9 ops fr o with
 |none=>rw[hwn]at hval;cases hval
 | some b=>
  cases b with
  |false=>rw[hwn]at hval;cases hval;rfl
  | true=>
   rw[hwn]at hval;simp only at hval
   have hfz:ES E ops o=false:=by
    unfold Ks at ho;unfold ES;split
    ·split
     ·rename_i ee;rw[ee]at ho;cases ho
     ·rename_i ee;rw[ee]at ho;cases ho
     rfl
    rfl
   have hfr:Fu (ES E ops o) O=some:=by rw[hfz];funext q;simp[Fu]
   rw[hfr,Bh]at hval;unfold Ks at ho;unfold Cl at hval;split at ho
   case h_2=>cases ho
   rename_i c ec;simp only[ec]at hval;split at hval
   ·rename_i bi eb;unfold Qd at ho;rw[eb]at ho;cases ho
   rw[Ao4 ho]at hval;obtain⟨_,_,hval⟩:=SX hval;rw[hd]at hval;exact Aau ht hm hval
def AhW(E:Env)(ops:Array Oper)(T:List (List Nat))(ps xs:List (Nat×Nat))(ts:List Nat)(i:Nat)(x y:Oper):Bool :=
 match NU y.op,x.dst with
 |some p,some t=>match NQ ps p with
  |none=>false
  |some a=>DF ops ts (fun k=>(T.getD i []).contains k&&decide (k<i)) p&&Ks E x&&xs.contains (t,a)
 |_,_=>false
def AhX(E:Env)(ops:Array Oper)(ps xs:List (Nat×Nat))(ts:List Nat)(j:Nat)(x y:Oper):Bool :=
 match NU x.op,y.dst with
 |some p,some t=>match NQ ps p with
  |none=>false
  |some a=>DF ops ts (fun k=>decide (k<j)) p&&Ks E y&&xs.contains (t,a)
 |_,_=>false
def AhU(E:Env)(ops:Array Oper)(T:List (List Nat))(ps:List (Nat×Nat))(ts:List Nat)(j i:Nat)(x y:Oper):Bool :=
 match Tj y.op with
 |none=>false
 | some q=>match NQ ps q with
  |none=>false
  | some b=>DF ops ts (fun k=>(T.getD i []).contains k&&decide (k<i)) q&&((J9 x.op&&!ES E ops x)||(match NU x.op with
   |none=>false
   |some p=>match NQ ps p with
    |none=>false
    |some a=>a != b&&DF ops ts (fun k=>decide (k<j)) p))
def Ah5(ops:Array Oper)(T:List (List Nat))(ps:List (Nat×Nat))(ts:List Nat)(i:Nat)(y:Oper):Bool :=
 match y.op with
 |.fieldAddr _ (.tmp p) _=>match NQ ps p with
  |none=>false
  |some _=>DF ops ts (fun k=>(T.getD i []).contains k&&decide (k<i)) p
 |_=>false
def Abg(E:Env)(ops:Array Oper)(T:List (List Nat))(ps xs:List (Nat×Nat))(ts:List Nat):Bool :=
 (List.range ops.size).all fun i=>(List.range i).all fun j=>(T.getD i []).contains j||(match ops[j]?,ops[i]? with
  |some x,some y=>Jq E ops x y||(x.apart ops y&&(AhU E ops T ps ts j i x y||AhW E ops T ps xs ts i x y||Ah5 ops T ps ts i y||AhX E ops ps xs ts j x y))
  |_,_=>false)
def PU(n:Nat)(fr:Fr):List (Nat×Nat)->Prop
 |[]=>True
 |p::ps=>HW (evL n fr (.tmp p.1))=some p.2/\PU n fr ps
theorem K8{n:Nat}{fr:Fr}:∀{ps:List (Nat×Nat)} {t a:Nat},PU n fr ps->NQ ps t=some a->HW (evL n fr (.tmp t))=some a
 |[],t,a,_,h=>by cases h
 | p::ps,t,a,hr,h=>by
  unfold NQ at h;rw[Arz]at h;by_cases e:(p.1==t)=true
  ·simp only[e]at h;cases h;rw[<-eq_of_beq e];exact hr.1
  simp only[e]at h;exact K8 hr.2 h
theorem KK(hE:E.Ok)(hP:E.P.follows .mixedOrders=true){m n:Nat}{l:List Oper}(T:List (List Nat))(hok1:FO l.toArray T=true)(ps xs:List (Nat×Nat))(ts:List Nat)(hok2:Abg E l.toArray T ps xs ts=true){fr fr':Fr}{K:CX}(hw:LW E m K) (hps:PU n fr' ps) (h:∃lz m,Hh E.toBase (LA lz m)/\XOk m xs/\HT E (LA lz m) true n l ts (fr,O)=some (fr',O')) (hk:K .normal ⟨Al n fr',O'⟩):Run E m (.region id l.toArray true) ⟨Al n fr,O⟩ K:=by
 obtain⟨lz,mz,hO,hX,h⟩:=h;simp only[HT,Ao3,Ao0,Apa]at h;obtain⟨⟨fr1,σ2⟩,h1,rfl,rfl⟩:=h;have hsteps:=EO (E:=E) (ops:=l.toArray) 0 l fr fr1 O σ2 (by simp) h1;rw[<-Ap1]at hsteps;intro hcm ac w g hr Q hq;refine Hv (ID hcm) (wp_region_any hP ?_);have hsm:SameMem w { w with drawn:=w.drawn+1 }:=⟨rfl,rfl,rfl,rfl⟩
 have hval:∀t a,ts.contains t=true->NQ ps t=some a->HW (ev (Al n fr1) (.tmp t))=some a:=by
  intro t a ht ha;have:=K8 hps ha;rw[CS]
  have e:evL n (keep ts fr1) (.tmp t)=evL n fr1 (.tmp t):=by
   show(if t<n then look (keep ts fr1) t else .junk)=if t<n then look fr1 t else .junk
   rw[DA ts fr1 t (Apg.1 ht)]
  rw[e]at this;exact this
 refine H6 hE hO hok1 (st':=⟨Al n fr1,σ2⟩) ?_ l.toArray.size (List.range l.length) _ ⟨Al n fr,O⟩ ac _ g (by simp) Aqc (by simp) ?_ ?_ hsteps (Io hr hsm) ?_
 ·intro i his l1 l2 st hp hT hst;have hi:l.toArray[i]?=some l.toArray[i]:=Apk his;refine LS hi l1 st (fun m1 j m2 e x hx=>?_) hst;have hj:j∈l1:=by rw[e];simp
  have hji:j<i:=by
   rw[ApB]at hp;exact hp.2.2 j hj i Apn
  have h1':=As (As hok2 his) hji;simp only[ApG,Apg]at h1';rcases h1' with h1'|h1'
  ·exact(hT j hj h1').elim
  simp only[hx,hi,ApG,Ape]at h1';rcases h1' with h1'|⟨h1',h2'⟩
  ·exact .inl h1'
  refine .inr ⟨h1',fun st3 h3=>?_⟩;have hst3:∀t,(∀k∈((j::m2)++i::l2),∀o,l.toArray[k]?=some o->o.dst≠some t)->ev st3.fr (.tmp t)=ev (Al n fr1) (.tmp t):=fun t hk=>(EU _ _ _ hk h3).symm
  have hpw:((j::m2)++i::l2).Pairwise (·<·):=by
   rw[e,ApZ]at hp;exact(ApB.1 hp).2.1
  have hge:∀k∈((j::m2)++i::l2),j<=k:=by
   intro k hk;rw[Apo]at hpw hk;rcases Apq.1 hk with rfl|hk
   ·exact Apf _
   exact ArF (Apt hpw hk)
  have hnT:∀k∈((j::m2)++i::l2),¬(k∈T.getD i []/\k<i):=by
   rintro k hk ⟨q1,q2⟩;rcases Apl.1 hk with hk|hk
   ·exact hT k (by rw[e];simp only[Apl];exact .inr hk) q1
   rcases Apq.1 hk with rfl|hk
   ·omega
   have:=Apt (ApB.1 hpw).2.1 hk;omega
  have hstill:∀(ok:Nat->Bool) t,DF l.toArray ts ok t=true->(∀k∈((j::m2)++i::l2),ok k=false)->ts.contains t=true/\ev st3.fr (.tmp t)=ev (Al n fr1) (.tmp t):=by
   intro ok t h hno;simp only[DF,Ape]at h;refine⟨h.1,hst3 t fun k hk o hko=>?_⟩;have h2:=As h.2 (Apd.1 hko).1;rw[hno k hk,hko]at h2;simpa using h2
  have hq0:∀q,DF l.toArray ts (fun k=>(T.getD i []).contains k&&decide (k<i)) q=true->ts.contains q=true/\ev st3.fr (.tmp q)=ev (Al n fr1) (.tmp q):=fun q s1=>hstill _ q s1 (fun k hk=>by
   have:=hnT k hk;simp only[Aqx,Aps];by_cases hm:k∈T.getD i []
   ·exact .inr fun h=>this ⟨hm,h⟩
   exact .inl (by simpa using hm))
  rcases h2' with h2'|h2'
  case inr=>
   unfold AhX at h2';split at h2'
   case h_2=>cases h2'
   rename_i p t hp' ht';split at h2'
   case h_1=>cases h2'
   rename_i a ha;simp only[Ape,Apg]at h2';obtain⟨⟨s1,s2⟩,s3⟩:=h2'
   obtain⟨c1,c2⟩:=hstill _ p s1 (fun k hk=>by
    have:=hge k hk;simp only[Aps];omega)
   exact .callY p a hp' (by rw[c2];exact hval p a c1 ha) fun O σ1 v hv=>Je s2 ht' hX s3 hv
  rcases h2' with h2'|h2'
  case inr=>
   unfold Ah5 at h2';split at h2'
   case h_2=>cases h2'
   rename_i p f hop;split at h2'
   case h_1=>cases h2'
   rename_i a ha;obtain⟨c1,c2⟩:=hq0 p h2';exact .fa _ p f a hop (by rw[c2];exact hval p a c1 ha)
  rcases h2' with h2'|h2'
  case inr=>
   unfold AhW at h2';split at h2'
   case h_2=>cases h2'
   rename_i p t hp' ht';split at h2'
   case h_1=>cases h2'
   rename_i a ha;simp only[Ape,Apg]at h2';obtain⟨⟨s1,s2⟩,s3⟩:=h2';obtain⟨c1,c2⟩:=hq0 p s1;exact .call p a hp' (by rw[c2];exact hval p a c1 ha) fun O σ1 v hv=>Je s2 ht' hX s3 hv
  unfold AhU at h2';split at h2'
  case h_1=>cases h2'
  rename_i q hq';split at h2'
  case h_1=>cases h2'
  rename_i b hb;simp only[Ape,ApG,Aqj]at h2';obtain⟨s1,h2'⟩:=h2';obtain⟨c1,c2⟩:=hq0 q s1;have hbq:HW (ev st3.fr (.tmp q))=some b:=by rw[c2];exact hval q b c1 hb
  rcases h2' with⟨h4,h5⟩|h4
  ·exact .build q b h4 h5 hq' hbq
  split at h4
  case h_1=>cases h4
  rename_i p hp';split at h4
  case h_1=>cases h4
  rename_i a ha;simp only[Ape,Aq5]at h4
  obtain⟨c3,c4⟩:=hstill _ p h4.2 (fun k hk=>by
   have:=hge k hk;simp only[Aps];omega)
  exact .look p q a b hp' hq' (by rw[c4];exact hval p a c3 ha) hbq h4.1
 ·intro j;rw[ApK];by_cases h:j<l.length<;>simp[Array.getD,h]
 ·intro k hk hkn;exact(hkn (ApK.2 (by simpa using hk))).elim
 intro a' w' g' hr' he hg;exact hq _ _ _ _ _ (hw _ _ (Do _ _ _ _ _) hk) hr' ((Evo.same hsm).trans (he.of_gle hg))
theorem ZT(hE:E.Ok)(hP:E.P.follows .mixedOrders=true){m n:Nat}{l:List Oper}(T:List (List Nat))(hok1:FO l.toArray T=true)(ps xs:List (Nat×Nat))(ts:List Nat)(hok2:Abg E l.toArray T ps xs ts=true){fr fr':Fr}{K:CX} (hps:PU n fr' ps) (h:∃lz m,Hh E.toBase (LA lz m)/\XOk m xs/\HT E (LA lz m) true n l ts (fr,O)=some (fr',O')) {y:Code} (hk:Run E m y ⟨Al n fr',O'⟩ K):Run E m (.seq (.region id l.toArray true) y) ⟨Al n fr,O⟩ K :=
 Hl (KK hE hP T hok1 ps xs ts hok2 E6 hps h hk)
end Go.Rv
