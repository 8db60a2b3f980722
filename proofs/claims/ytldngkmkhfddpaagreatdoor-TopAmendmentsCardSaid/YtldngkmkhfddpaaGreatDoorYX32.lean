/-
  Part 32.
-/
import Derived.Test.YtldngkmkhfddpaaGreatDoorYX31
namespace Go.Rv
open Go.RowKit
set_option linter.unusedVariables false
set_option linter.unusedSimpArgs false
variable{id a:Nat}{orc:Option Tmp->Orc}{ops:Array Oper}{o:Oper}{fr:List AV}{O O':Ac}{v:AV}
variable {E:Env}
@[go_sem] theorem AlW(f:FuncId)(l:List AV):(AV.fn f l).cells?=some [.fn f l]:=rfl
theorem Anv(n:Nat):(((no_index (OfNat.ofNat n)):Nat):Int)=(no_index (OfNat.ofNat n):Int):=rfl
def HQ:AV->Option Nat
 |.ref id _=>some id
 |_=>none
theorem M1{x:AV}(h:HQ x=some id):∃o,x=.ref id o:=by
 unfold HQ at h;split at h
 ·cases h;exact⟨_,rfl⟩
 cases h
def NO:Op->Option Nat
 |.load _ (.tmp p)=>some p
 |.fieldAddr _ (.tmp p) _=>some p
 |_=>none
def Ta:Op->Option Nat
 |.store _ (.tmp q) _=>some q
 |_=>none
def J8:Op->Bool
 |.buildSlice ..=>true
 |_=>false
theorem Q1{u:AV}{q b:Nat}(hq:Ta o.op=some q)(hb:HQ (ev fr (.tmp q))=some b)(h:Dz E orc ops o fr O=some (u,O')) :(∀σ2,Dz E orc ops o fr σ2=some (u,σ2))/\O'=O\/∃off xs cs,O[b]?=some (.box cs false)/\O'=O.set b (.box (splice cs off xs) false)/\∀σ2:Ac,σ2[b]?=some (.box cs false)->Dz E orc ops o fr σ2=some (u,σ2.set b (.box (splice cs off xs) false)):=by
 have hf:ED E ops o=false:=by
  cases hf:ED E ops o
  ·rfl
  rcases Dn hf with⟨t,n,l,h⟩|⟨s,d,x,h,_⟩<;>rw[h]at hq<;>cases hq
 have e:∀O,Fl false O=some:=fun O=>by funext r;simp[Fl]
 unfold Dz at h ⊢;rw[hf]at h ⊢;cases hw:G8 ops fr o with
 |none=>simp[hw]at h
 | some w=>
  cases w with
  |false=>
   simp only[hw,Ao7,Apf]at h ⊢;exact .inl ⟨fun σ2=>⟨h.1,trivial⟩,h.2.symm⟩
  | true=>
   simp only[hw,e,Ba]at h ⊢;unfold Ta at hq;split at hq
   case h_2=>cases hq
   rename_i t q' x ho;cases hq;obtain⟨off,hr⟩:=M1 hb
   have hop:∀O,Ca E (orc o.dst) o.op fr O=(match E.tab t with
     |some d=>(storeA O d (.ref b off) (ev fr x)).map fun O'=>(AV.junk,O')
     |none=>none):=by
    intro O;rw[ho];simp only[Ca,DX,hr];cases E.tab t<;>rfl
   simp only[hop]at h ⊢;right;cases ht:E.tab t with
   |none=>simp[ht]at h
   | some d=>
    simp only[ht]at h ⊢;rw[Ao5]at h;obtain⟨σ1,h,h2⟩:=h;cases h2;unfold storeA at h ⊢;cases hc:(ev fr x).cells? with
    |none=>simp[hc]at h
    | some xs=>
     simp only[hc]at h ⊢;by_cases hl:xs.length≠d.size
     ·simp[hl]at h
     simp only[hl,Ap5]at h ⊢;split at h
     case h_2=>cases h
     rename_i cs hcs;split at h
     case isFalse=>cases h
     rename_i hle;cases h;refine⟨off,xs,cs,hcs,rfl,fun σ2 h2=>?_⟩;simp[h2,hle]
theorem Ex{σ2:Ac}{p:Nat}(hp:NO o.op=some p)(ha:HQ (ev fr (.tmp p))=some a)(h:Dz E orc ops o fr O=some (v,O'))(h2:σ2[a]?=O[a]?) :O'=O/\Dz E orc ops o fr σ2=some (v,σ2):=by
 have hf:ED E ops o=false:=by
  cases hf:ED E ops o
  ·rfl
  rcases Dn hf with⟨t,n,l,h⟩|⟨s,d,x,h,_⟩<;>rw[h]at hp<;>cases hp
 have e:∀O,Fl false O=some:=fun O=>by funext r;simp[Fl]
 unfold Dz at h ⊢;rw[hf]at h ⊢;cases hw:G8 ops fr o with
 |none=>simp[hw]at h
 | some w=>
  cases w with
  |false=>
   simp only[hw,Ao7,Apf]at h ⊢;exact⟨h.2.symm,h.1,trivial⟩
  | true=>
   simp only[hw,e,Ba]at h ⊢;obtain⟨off,hr⟩:=M1 ha;unfold NO at hp;split at hp
   case h_3=>cases hp
   ·rename_i t p' ho;cases hp;rw[ho]at h ⊢;simp only[Ca,DX,hr]at h ⊢;cases ht:E.tab t with
    |none=>simp[ht]at h
    |some d=>
     simp only[ht,loadA,h2]at h ⊢;rw[Ao5]at h;obtain⟨x,h,h3⟩:=h;cases h3;exact⟨rfl,by rw[h];rfl⟩
   rename_i s p' f ho;cases hp;rw[ho]at h ⊢;simp only[Ca,DX,hr]at h ⊢;rw[Ao5]at h;obtain⟨x,h,h3⟩:=h;cases h3;refine⟨rfl,?_⟩
   have:AP E σ2 s (.ref a off) f=AP E O s (.ref a off) f:=by
    unfold AP;rfl
   rw[this,h];rfl
theorem YE(hb:J8 o.op=true)(hf:ED E ops o=false)(h:Dz E orc ops o fr O=some (v,O')) :(∀σ2,Dz E orc ops o fr σ2=some (v,σ2))/\O'=O\/∃k els ro,O'=O++[.buf k els ro]/\∀σ2:Ac,σ2.length=O.length->Dz E orc ops o fr σ2=some (v,σ2++[.buf k els ro]):=by
 have e:∀O,Fl false O=some:=fun O=>by funext r;simp[Fl]
 unfold Dz at h ⊢;rw[hf]at h ⊢;cases hw:G8 ops fr o with
 |none=>simp[hw]at h
 | some w=>
  cases w with
  |false=>
   simp only[hw,Ao7,Apf]at h ⊢;exact .inl ⟨fun σ2=>⟨h.1,trivial⟩,h.2.symm⟩
  |true=>
   simp only[hw,e,Ba]at h ⊢;right;unfold J8 at hb;split at hb
   case h_2=>cases hb
   rename_i t n l ho;rw[ho]at h ⊢;simp only[Ca,DX]at h ⊢;unfold C3 at h ⊢;split at h
   case h_1=>cases h
   rename_i d hd;split at h
   case h_2=>cases h
   rename_i e' he;split at h
   case h_2=>cases h
   rename_i de hde;split at h
   case isTrue=>cases h
   rename_i hle;split at h
   case h_2=>cases h
   rename_i els hels;cases h;refine⟨_,_,_,rfl,fun σ2 h2=>?_⟩;simp only[hle,Ap5,hels,h2]
theorem AgJ{s:TypeId}{p f:Nat}(ho:o.op=.fieldAddr s (.tmp p) f)(ha:HQ (ev fr (.tmp p))=some a)(h:Dz E orc ops o fr O=some (v,O')) :O'=O/\∀σ2,Dz E orc ops o fr σ2=some (v,σ2):=by
 have hf:ED E ops o=false:=by
  cases hf:ED E ops o
  ·rfl
  rcases Dn hf with⟨t,n,l,h⟩|⟨s,d,x,h,_⟩<;>rw[h]at ho<;>cases ho
 have e:∀O,Fl false O=some:=fun O=>by funext r;simp[Fl]
 unfold Dz at h ⊢;rw[hf]at h ⊢;cases hw:G8 ops fr o with
 |none=>simp[hw]at h
 | some w=>
  cases w with
  |false=>
   simp only[hw,Ao7,Apf]at h ⊢;exact⟨h.2.symm,fun σ2=>⟨h.1,trivial⟩⟩
  | true=>
   simp only[hw,e,Ba]at h ⊢;obtain⟨off,hr⟩:=M1 ha;rw[ho]at h ⊢;simp only[Ca,DX,hr]at h ⊢;rw[Ao5]at h;obtain⟨x,h,h3⟩:=h;cases h3;refine⟨rfl,fun σ2=>?_⟩
   have:AP E σ2 s (.ref a off) f=AP E O s (.ref a off) f:=by
    unfold AP;rfl
   rw[this,h];rfl
inductive Sep(E:Env)(orc:Option Tmp->Orc)(ops:Array Oper)(x y:Oper)(frF:List AV):Prop
  |call (p a:Nat) (hp:NO y.op=some p) (ha:HQ (ev frF (.tmp p))=some a) (hx:∀O σ1 v,Dz E orc ops x frF O=some (v,σ1)->σ1[a]?=O[a]?)
  |look (p q a b:Nat) (hp:NO x.op=some p) (hq:Ta y.op=some q) (ha:HQ (ev frF (.tmp p))=some a) (hb:HQ (ev frF (.tmp q))=some b) (hne:a≠b)
  |callY (p a:Nat) (hp:NO x.op=some p) (ha:HQ (ev frF (.tmp p))=some a) (hy:∀O σ1 v,Dz E orc ops y frF O=some (v,σ1)->σ1[a]?=O[a]?)
  |fa (s:TypeId) (p f a:Nat) (ho:y.op=.fieldAddr s (.tmp p) f) (ha:HQ (ev frF (.tmp p))=some a)
  |build (q b:Nat) (hx:J8 x.op=true) (hf:ED E ops x=false) (hq:Ta y.op=some q) (hb:HQ (ev frF (.tmp q))=some b)
theorem OJ{x y:Oper}{st st1 st2:St}(hap:x.apart ops y=true)(hc:Sep E orc ops x y st.fr) (h1:Bw E orc ops x st=some st1) (h2:Bw E orc ops y st1=some st2):∃st3,Bw E orc ops y st=some st3/\Bw E orc ops x st3=some st2:=by
 obtain⟨a1,a2,a3⟩:=Oper.apart_spec hap;unfold Bw at h1 h2 ⊢;rw[Ao5]at h1 h2;obtain⟨⟨v,σ1⟩,hv,rfl⟩:=h1;obtain⟨⟨u,σ2⟩,hu,rfl⟩:=h2;simp only at hu ⊢;rw[AG a1]at hu
 have fin:∀σ3,Dz E orc ops y st.fr st.O=some (u,σ3)->Dz E orc ops x st.fr σ3=some (v,σ2) ->
   ∃st3,(Dz E orc ops y st.fr st.O).map (fun r=>(⟨Ay st.fr y.dst r.1,r.2⟩:St))=some st3/\(Dz E orc ops x st3.fr st3.O).map (fun r=>(⟨Ay st3.fr x.dst r.1,r.2⟩:St))=some ⟨Ay (Ay st.fr x.dst v) y.dst u,σ2⟩:=by
  intro σ3 hy hx;refine⟨⟨Ay st.fr y.dst u,σ3⟩,by rw[hy];rfl,?_⟩;simp only;rw[AG a3,hx];simp only[ApG,CD st.fr v u a2]
 cases hc with
 |call p a hp ha hx=>
  have h1:=hx _ _ _ hv;obtain⟨rfl,_⟩:=Ex hp ha hu rfl;exact fin _ (Ex hp ha hu h1.symm).2 hv
 |fa s p f a ho ha=>
  obtain⟨rfl,hy⟩:=AgJ ho ha hu;exact fin _ (hy _) hv
 |callY p a hp ha hy=>
  obtain⟨rfl,_⟩:=Ex hp ha hv rfl;exact fin _ hu (Ex hp ha hv (hy _ _ _ hu)).2
 |look p q a b hp hq ha hb hne=>
  obtain⟨rfl,_⟩:=Ex hp ha hv rfl;refine fin _ hu (Ex hp ha hv ?_).2;rcases Q1 hq hb hu with⟨_,rfl⟩|⟨off,xs,cs,_,rfl,_⟩
  ·rfl
  exact ApY (fun h=>hne h.symm)
 | build q b hx hf hq hb=>
  rcases YE hx hf hv with⟨hall,rfl⟩|⟨k,els,ro,rfl,hall⟩
  ·exact fin _ hu (hall _)
  rcases Q1 hq hb hu with⟨hs,rfl⟩|⟨off,xs,cs,hcs,rfl,hs⟩
  ·exact fin _ (hs _) (hall _ rfl)
  have hlt:b<st.O.length:=by
   have:=(Ao6.1 hcs).1;by_cases hb':b<st.O.length
   ·exact hb'
   have he:b=st.O.length:=by simp at this;omega
   rw[he]at hcs;simp at hcs
  have hcs':st.O[b]?=some (.box cs false):=by
   rw[Aph hlt]at hcs;exact hcs
  refine fin _ (hs _ hcs') ?_;rw[hall _ (by simp),List.set_append_left _ _ hlt]
theorem Ms{orc:Option Tmp->Orc}{ops:Array Oper}{i:Nat}{y:Oper}(hi:ops[i]?=some y){l2:List Nat}{st':St}:∀(l1:List Nat) (st:St),(∀m1 j m2,l1=m1++j::m2->∀x,ops[j]?=some x->J9 E ops x y=true\/x.apart ops y=true/\∀st,AK E orc ops ((j::m2)++i::l2) st=some st'->Sep E orc ops x y st.fr)->AK E orc ops (l1++i::l2) st=some st' ->∃st1,Bw E orc ops y st=some st1/\AK E orc ops (l1++l2) st1=some st'
 |[],st,_,h=>by
  simp only[ApR,AK,hi]at h;rw[Apa]at h;exact h
 | j::l1,st,hc,h0=>by
  have h:=h0;simp only[Apv,AK]at h;cases hj:ops[j]? with
  |none=>simp[hj]at h
  | some x=>
   simp only[hj]at h;rw[Apa]at h;obtain⟨s1,h1,h⟩:=h;obtain⟨s2,h2,h⟩:=Ms hi l1 s1 (fun m1 k m2 e=>hc (j::m1) k m2 (by rw[e];rfl)) h
   have:∃st3,Bw E orc ops y st=some st3/\Bw E orc ops x st3=some s2:=by
    rcases hc [] j l1 rfl x hj with hcb|⟨hap,hcy⟩
    ·exact H2 hcb h1 h2
    exact OJ hap (hcy st h0) h1 h2
   obtain⟨s3,h3,h4⟩:=this;refine⟨s3,h3,?_⟩;simp only[Apv,AK,hj,h4,Ap4];exact h
def D6(ops:Array Oper)(ts:List Nat)(ok:Nat->Bool)(t:Nat):Bool :=
 ts.contains t&&(List.range ops.size).all fun k=>ok k||(match ops[k]? with
  |some o=>o.dst != some t
  |none=>true)
def NQ(ps:List (Nat×Nat))(t:Nat):Option Nat:=(ps.find? fun p=>p.1==t).map (·.2)
def AmA(e:Nat×FuncId×List AV×Ac×AV×Ac):List (Nat×Nat)->Prop
 |[]=>True
 |q::xs=>(e.1=q.1->e.2.2.2.2.2[q.2]?=e.2.2.2.1[q.2]?)/\AmA e xs
def XOk:List (Nat×FuncId×List AV×Ac×AV×Ac)->List (Nat×Nat)->Prop
 |[],_=>True
 |e::m,xs=>AmA e xs/\XOk m xs
theorem AaE{e:Nat×FuncId×List AV×Ac×AV×Ac}:∀{xs:List (Nat×Nat)},AmA e xs->∀{a:Nat},(e.1,a)∈xs->e.2.2.2.2.2[a]?=e.2.2.2.1[a]?
 | q::xs,h,a,hq=>by
  rcases Apx.1 hq with hq|hq
  ·have:=h.1 (by rw[<-hq]);rw[<-hq]at this;exact this
  exact AaE h.2 hq
theorem AcK{xs:List (Nat×Nat)}{t a:Nat}(ht:(t,a)∈xs){f:FuncId}{as:List AV}{O O':Ac}{r:AV}:∀{m:List (Nat×FuncId×List AV×Ac×AV×Ac)},XOk m xs->Q5 m (some t) f as O=some (r,O')->O'[a]?=O[a]?
 |[],_,h=>by cases h
 | e::m,hx,h=>by
  unfold Q5 at h;split at h
  ·rename_i he;split at h
   ·rename_i hh;cases he;have:=AaE hx.1 ht;have hr:e.2.2.2.2=(r,O'):=Ao8 h;rw[hr,<-hh.2.2]at this;exact this
   cases h
  exact AcK ht hx.2 h
theorem IF{l:List (Nat×FuncId×List AV×AV)}{m:List (Nat×FuncId×List AV×Ac×AV×Ac)}{xs:List (Nat×Nat)}{t:Nat}(ho:JQ E o=true)(hd:o.dst=some t)(hm:XOk m xs)(ht:(t,a)∈xs)(hval:Dz E (I6 l m) ops o fr O=some (v,O')):O'[a]?=O[a]?:=by
 unfold Dz at hval;cases hwn:G8 ops fr o with
 |none=>rw[hwn]at hval;cases hval
 | some b=>
  cases b with
  |false=>rw[hwn]at hval;cases hval;rfl
  | true=>
   rw[hwn]at hval;simp only at hval
   have hfz:ED E ops o=false:=by
    unfold JQ at ho;unfold ED;split
    ·split
     ·rename_i ee;rw[ee]at ho;cases ho
     ·rename_i ee;rw[ee]at ho;cases ho
     rfl
    rfl
   have hfr:Fl (ED E ops o) O=some:=by rw[hfz];funext q;simp[Fl]
   rw[hfr,Ba]at hval;unfold JQ at ho;unfold Ca at hval;split at ho
   case h_2=>cases ho
   rename_i c ec;simp only[ec]at hval;split at hval
   ·rename_i bi eb;unfold Qr at ho;rw[eb]at ho;cases ho
   rw[Apb ho]at hval;obtain⟨_,_,hval⟩:=TU hval;rw[hd]at hval;exact AcK ht hm hval
def Ah9(E:Env)(ops:Array Oper)(T:List (List Nat))(ps xs:List (Nat×Nat))(ts:List Nat)(i:Nat)(x y:Oper):Bool :=
 match NO y.op,x.dst with
 |some p,some t=>match NQ ps p with
  |none=>false
  |some a=>D6 ops ts (fun k=>(T.getD i []).contains k&&decide (k<i)) p&&JQ E x&&xs.contains (t,a)
 |_,_=>false
def Ah3(E:Env)(ops:Array Oper)(ps xs:List (Nat×Nat))(ts:List Nat)(j:Nat)(x y:Oper):Bool :=
 match NO x.op,y.dst with
 |some p,some t=>match NQ ps p with
  |none=>false
  |some a=>D6 ops ts (fun k=>decide (k<j)) p&&JQ E y&&xs.contains (t,a)
 |_,_=>false
def Ah0(E:Env)(ops:Array Oper)(T:List (List Nat))(ps:List (Nat×Nat))(ts:List Nat)(j i:Nat)(x y:Oper):Bool :=
 match Ta y.op with
 |none=>false
 | some q=>match NQ ps q with
  |none=>false
  | some b=>D6 ops ts (fun k=>(T.getD i []).contains k&&decide (k<i)) q&&((J8 x.op&&!ED E ops x)||(match NO x.op with
   |none=>false
   |some p=>match NQ ps p with
    |none=>false
    |some a=>a != b&&D6 ops ts (fun k=>decide (k<j)) p))
def Ah8(ops:Array Oper)(T:List (List Nat))(ps:List (Nat×Nat))(ts:List Nat)(i:Nat)(y:Oper):Bool :=
 match y.op with
 |.fieldAddr _ (.tmp p) _=>match NQ ps p with
  |none=>false
  |some _=>D6 ops ts (fun k=>(T.getD i []).contains k&&decide (k<i)) p
 |_=>false
def Aax(E:Env)(ops:Array Oper)(T:List (List Nat))(ps xs:List (Nat×Nat))(ts:List Nat):Bool :=
 (List.range ops.size).all fun i=>(List.range i).all fun j=>(T.getD i []).contains j||(match ops[j]?,ops[i]? with
  |some x,some y=>J9 E ops x y||(x.apart ops y&&(Ah0 E ops T ps ts j i x y||Ah9 E ops T ps xs ts i x y||Ah8 ops T ps ts i y||Ah3 E ops ps xs ts j x y))
  |_,_=>false)
def O0(n:Nat)(fr:Fr):List (Nat×Nat)->Prop
 |[]=>True
 |p::ps=>HQ (evL n fr (.tmp p.1))=some p.2/\O0 n fr ps
theorem KD{n:Nat}{fr:Fr}:∀{ps:List (Nat×Nat)} {t a:Nat},O0 n fr ps->NQ ps t=some a->HQ (evL n fr (.tmp t))=some a
 |[],t,a,_,h=>by cases h
 | p::ps,t,a,hr,h=>by
  unfold NQ at h;rw[ArG]at h;by_cases e:(p.1==t)=true
  ·simp only[e]at h;cases h;rw[<-eq_of_beq e];exact hr.1
  simp only[e]at h;exact KD hr.2 h
theorem K7(hE:E.Ok)(hP:E.P.follows .mixedOrders=true){m n:Nat}{l:List Oper}(T:List (List Nat))(hok1:EX l.toArray T=true)(ps xs:List (Nat×Nat))(ts:List Nat)(hok2:Aax E l.toArray T ps xs ts=true){fr fr':Fr}{K:CO}(hw:Lm E m K) (hps:O0 n fr' ps) (h:∃lz m,He E.toBase (I6 lz m)/\XOk m xs/\Hq E (I6 lz m) true n l ts (fr,O)=some (fr',O')) (hk:K .normal ⟨Ai n fr',O'⟩):Run E m (.region id l.toArray true) ⟨Ai n fr,O⟩ K:=by
 obtain⟨lz,mz,hO,hX,h⟩:=h;simp only[Hq,Apa,Ao7,Apf]at h;obtain⟨⟨fr1,σ2⟩,h1,rfl,rfl⟩:=h;have hsteps:=EC (E:=E) (ops:=l.toArray) 0 l fr fr1 O σ2 (by simp) h1;rw[<-Ap9]at hsteps;intro hcm ac w g hr Q hq;refine Hr (Iu hcm) (wp_region_any hP ?_);have hsm:SameMem w { w with drawn:=w.drawn+1 }:=⟨rfl,rfl,rfl,rfl⟩
 have hval:∀t a,ts.contains t=true->NQ ps t=some a->HQ (ev (Ai n fr1) (.tmp t))=some a:=by
  intro t a ht ha;have:=KD hps ha;rw[CN]
  have e:evL n (keep ts fr1) (.tmp t)=evL n fr1 (.tmp t):=by
   show(if t<n then look (keep ts fr1) t else .junk)=if t<n then look fr1 t else .junk
   rw[D5 ts fr1 t (Apo.1 ht)]
  rw[e]at this;exact this
 refine HC hE hO hok1 (st':=⟨Ai n fr1,σ2⟩) ?_ l.toArray.size (List.range l.length) _ ⟨Ai n fr,O⟩ ac _ g (by simp) Aqj (by simp) ?_ ?_ hsteps (HS hr hsm) ?_
 ·intro i his l1 l2 st hp hT hst;have hi:l.toArray[i]?=some l.toArray[i]:=Apr his;refine Ms hi l1 st (fun m1 j m2 e x hx=>?_) hst;have hj:j∈l1:=by rw[e];simp
  have hji:j<i:=by
   rw[ApI]at hp;exact hp.2.2 j hj i Apu
  have h1':=As (As hok2 his) hji;simp only[ApN,Apo]at h1';rcases h1' with h1'|h1'
  ·exact(hT j hj h1').elim
  simp only[hx,hi,ApN,Apj]at h1';rcases h1' with h1'|⟨h1',h2'⟩
  ·exact .inl h1'
  refine .inr ⟨h1',fun st3 h3=>?_⟩;have hst3:∀t,(∀k∈((j::m2)++i::l2),∀o,l.toArray[k]?=some o->o.dst≠some t)->ev st3.fr (.tmp t)=ev (Ai n fr1) (.tmp t):=fun t hk=>(EE _ _ _ hk h3).symm
  have hpw:((j::m2)++i::l2).Pairwise (·<·):=by
   rw[e,Ap6]at hp;exact(ApI.1 hp).2.1
  have hge:∀k∈((j::m2)++i::l2),j<=k:=by
   intro k hk;rw[Apv]at hpw hk;rcases Apx.1 hk with rfl|hk
   ·exact Apm _
   exact ArM (ApB hpw hk)
  have hnT:∀k∈((j::m2)++i::l2),¬(k∈T.getD i []/\k<i):=by
   rintro k hk ⟨q1,q2⟩;rcases Aps.1 hk with hk|hk
   ·exact hT k (by rw[e];simp only[Aps];exact .inr hk) q1
   rcases Apx.1 hk with rfl|hk
   ·omega
   have:=ApB (ApI.1 hpw).2.1 hk;omega
  have hstill:∀(ok:Nat->Bool) t,D6 l.toArray ts ok t=true->(∀k∈((j::m2)++i::l2),ok k=false)->ts.contains t=true/\ev st3.fr (.tmp t)=ev (Ai n fr1) (.tmp t):=by
   intro ok t h hno;simp only[D6,Apj]at h;refine⟨h.1,hst3 t fun k hk o hko=>?_⟩;have h2:=As h.2 (Apl.1 hko).1;rw[hno k hk,hko]at h2;simpa using h2
  have hq0:∀q,D6 l.toArray ts (fun k=>(T.getD i []).contains k&&decide (k<i)) q=true->ts.contains q=true/\ev st3.fr (.tmp q)=ev (Ai n fr1) (.tmp q):=fun q s1=>hstill _ q s1 (fun k hk=>by
   have:=hnT k hk;simp only[AqE,ApA];by_cases hm:k∈T.getD i []
   ·exact .inr fun h=>this ⟨hm,h⟩
   exact .inl (by simpa using hm))
  rcases h2' with h2'|h2'
  case inr=>
   unfold Ah3 at h2';split at h2'
   case h_2=>cases h2'
   rename_i p t hp' ht';split at h2'
   case h_1=>cases h2'
   rename_i a ha;simp only[Apj,Apo]at h2';obtain⟨⟨s1,s2⟩,s3⟩:=h2'
   obtain⟨c1,c2⟩:=hstill _ p s1 (fun k hk=>by
    have:=hge k hk;simp only[ApA];omega)
   exact .callY p a hp' (by rw[c2];exact hval p a c1 ha) fun O σ1 v hv=>IF s2 ht' hX s3 hv
  rcases h2' with h2'|h2'
  case inr=>
   unfold Ah8 at h2';split at h2'
   case h_2=>cases h2'
   rename_i p f hop;split at h2'
   case h_1=>cases h2'
   rename_i a ha;obtain⟨c1,c2⟩:=hq0 p h2';exact .fa _ p f a hop (by rw[c2];exact hval p a c1 ha)
  rcases h2' with h2'|h2'
  case inr=>
   unfold Ah9 at h2';split at h2'
   case h_2=>cases h2'
   rename_i p t hp' ht';split at h2'
   case h_1=>cases h2'
   rename_i a ha;simp only[Apj,Apo]at h2';obtain⟨⟨s1,s2⟩,s3⟩:=h2';obtain⟨c1,c2⟩:=hq0 p s1;exact .call p a hp' (by rw[c2];exact hval p a c1 ha) fun O σ1 v hv=>IF s2 ht' hX s3 hv
  unfold Ah0 at h2';split at h2'
  case h_1=>cases h2'
  rename_i q hq';split at h2'
  case h_1=>cases h2'
  rename_i b hb;simp only[Apj,ApN,Aqq]at h2';obtain⟨s1,h2'⟩:=h2';obtain⟨c1,c2⟩:=hq0 q s1;have hbq:HQ (ev st3.fr (.tmp q))=some b:=by rw[c2];exact hval q b c1 hb
  rcases h2' with⟨h4,h5⟩|h4
  ·exact .build q b h4 h5 hq' hbq
  split at h4
  case h_1=>cases h4
  rename_i p hp';split at h4
  case h_1=>cases h4
  rename_i a ha;simp only[Apj,Are]at h4
  obtain⟨c3,c4⟩:=hstill _ p h4.2 (fun k hk=>by
   have:=hge k hk;simp only[ApA];omega)
  exact .look p q a b hp' hq' (by rw[c4];exact hval p a c3 ha) hbq h4.1
 ·intro j;rw[ApS];by_cases h:j<l.length<;>simp[Array.getD,h]
 ·intro k hk hkn;exact(hkn (ApS.2 (by simpa using hk))).elim
 intro a' w' g' hr' he hg;exact hq _ _ _ _ _ (hw _ _ (Dh _ _ _ _ _) hk) hr' ((Evo.same hsm).trans (he.of_gle hg))
theorem AbV(hE:E.Ok)(hP:E.P.follows .mixedOrders=true){m n:Nat}{l:List Oper}(T:List (List Nat))(hok1:EX l.toArray T=true)(ps xs:List (Nat×Nat))(ts:List Nat)(hok2:Aax E l.toArray T ps xs ts=true){fr fr':Fr}{K:CO} (hps:O0 n fr' ps) (h:∃lz m,He E.toBase (I6 lz m)/\XOk m xs/\Hq E (I6 lz m) true n l ts (fr,O)=some (fr',O')) {y:Code} (hk:Run E m y ⟨Ai n fr',O'⟩ K):Run E m (.seq (.region id l.toArray true) y) ⟨Ai n fr,O⟩ K :=
 Hh (K7 hE hP T hok1 ps xs ts hok2 Ea hps h hk)
end Go.Rv
