/-
  Part 31.
-/
import Derived.Test.YtioapcamanmoiaaGreatDoorYG30
namespace Go.Rv
open Go.RowKit
set_option linter.unusedVariables false
set_option linter.unusedSimpArgs false
variable{orc:Option Tmp→Orc}{ops:Array Oper}{o:Oper}{fr:List AV}{σ σ':Am}{v:AV}{a:Nat}
variable {E:Env}
@[go_sem] theorem Alx(f:FuncId)(l:List AV):(AV.fn f l).cells?=some [.fn f l]:=rfl
theorem Ao5(n:Nat):(((no_index (OfNat.ofNat n)):Nat):Int)=(no_index (OfNat.ofNat n):Int):=rfl
def Ie:AV→Option Nat
 |.ref id _=>some id
 |_=>none
theorem MX{x:AV}{id:Nat}(h:Ie x=some id):∃o,x=.ref id o:=by
 unfold Ie at h;split at h
 ·cases h;exact⟨_,rfl⟩
 ·cases h
def P3:Op→Option Nat
 |.load _ (.tmp p)=>some p
 |.fieldAddr _ (.tmp p) _=>some p
 |_=>none
def SI:Op→Option Nat
 |.store _ (.tmp q) _=>some q
 |_=>none
def Mq:Op→Bool
 |.buildSlice ..=>true
 |_=>false
theorem PZ{u:AV}{q b:Nat}(hq:SI o.op=some q)(hb:Ie (ev fr (.tmp q))=some b)(h:Ez E orc ops o fr σ=some (u,σ')) :(∀σ2,Ez E orc ops o fr σ2=some (u,σ2))∧σ'=σ∨∃off xs cs,σ[b]?=some (.box cs false)∧σ'=σ.set b (.box (splice cs off xs) false)∧∀σ2:Am,σ2[b]?=some (.box cs false)→Ez E orc ops o fr σ2=some (u,σ2.set b (.box (splice cs off xs) false)):=by
  have hf:Fu E ops o=false:=by
    cases hf:Fu E ops o
    · rfl
    · rcases DF hf with⟨t,n,l,h⟩|⟨s,d,x,h,_⟩<;>rw[h]at hq<;>cases hq
  have e:∀σ,FB false σ=some:=fun σ=>by funext r;simp[FB]
  unfold Ez at h ⊢;rw[hf]at h ⊢;cases hw:IB ops fr o with
  |none=>simp[hw]at h
  | some w=>
    cases w with
    | false=>
      simp only[hw,ApT,Ap2]at h ⊢;exact .inl ⟨fun σ2=>⟨h.1,trivial⟩,h.2.symm⟩
    | true=>
      simp only[hw,e,Bk]at h ⊢;unfold SI at hq;split at hq
      case h_2=>cases hq
      rename_i t q' x ho;cases hq;obtain⟨off,hr⟩:=MX hb
      have hop:∀σ,CJ E (orc o.dst) o.op fr σ=(match E.tab t with
          |some d=>(storeA σ d (.ref b off) (ev fr x)).map fun σ'=>(AV.junk,σ')
          |none=>none):=by
        intro σ;rw[ho];simp only[CJ,EA,hr];cases E.tab t<;>rfl
      simp only[hop]at h ⊢;right;cases ht:E.tab t with
      |none=>simp[ht]at h
      | some d=>
        simp only[ht]at h ⊢;rw[ApS]at h;obtain⟨σ1,h,h2⟩:=h;cases h2;unfold storeA at h ⊢;cases hc:(ev fr x).cells? with
        |none=>simp[hc]at h
        | some xs=>
          simp only[hc]at h ⊢;by_cases hl:xs.length≠d.size
          · simp[hl]at h
          · simp only[hl,ArA]at h ⊢
            split at h
            case h_2=>cases h
            rename_i cs hcs;split at h
            case isFalse=>cases h
            rename_i hle;cases h;refine⟨off,xs,cs,hcs,rfl,fun σ2 h2=>?_⟩;simp[h2,hle]
theorem EG{σ2:Am}{p:Nat}(hp:P3 o.op=some p)(ha:Ie (ev fr (.tmp p))=some a)(h:Ez E orc ops o fr σ=some (v,σ'))(h2:σ2[a]?=σ[a]?) :σ'=σ∧Ez E orc ops o fr σ2=some (v,σ2):=by
  have hf:Fu E ops o=false:=by
    cases hf:Fu E ops o
    · rfl
    · rcases DF hf with⟨t,n,l,h⟩|⟨s,d,x,h,_⟩<;>rw[h]at hp<;>cases hp
  have e:∀σ,FB false σ=some:=fun σ=>by funext r;simp[FB]
  unfold Ez at h ⊢;rw[hf]at h ⊢;cases hw:IB ops fr o with
  |none=>simp[hw]at h
  | some w=>
    cases w with
    | false=>
      simp only[hw,ApT,Ap2]at h ⊢;exact⟨h.2.symm,h.1,trivial⟩
    | true=>
      simp only[hw,e,Bk]at h ⊢;obtain⟨off,hr⟩:=MX ha;unfold P3 at hp;split at hp
      case h_3=>cases hp
      · rename_i t p' ho
        cases hp;rw[ho]at h ⊢;simp only[CJ,EA,hr]at h ⊢;cases ht:E.tab t with
        |none=>simp[ht]at h
        | some d=>
          simp only[ht,loadA,h2]at h ⊢;rw[ApS]at h;obtain⟨x,h,h3⟩:=h;cases h3;exact⟨rfl,by rw[h];rfl⟩
      · rename_i s p' f ho
        cases hp;rw[ho]at h ⊢;simp only[CJ,EA,hr]at h ⊢;rw[ApS]at h;obtain⟨x,h,h3⟩:=h;cases h3;refine⟨rfl,?_⟩
        have:B0 E σ2 s (.ref a off) f=B0 E σ s (.ref a off) f:=by
          unfold B0;rfl
        rw[this,h];rfl
theorem XM(hb:Mq o.op=true)(hf:Fu E ops o=false)(h:Ez E orc ops o fr σ=some (v,σ')) :(∀σ2,Ez E orc ops o fr σ2=some (v,σ2))∧σ'=σ∨∃k els ro,σ'=σ++[.buf k els ro]∧∀σ2:Am,σ2.length=σ.length→Ez E orc ops o fr σ2=some (v,σ2++[.buf k els ro]):=by
  have e:∀σ,FB false σ=some:=fun σ=>by funext r;simp[FB]
  unfold Ez at h ⊢;rw[hf]at h ⊢;cases hw:IB ops fr o with
  |none=>simp[hw]at h
  | some w=>
    cases w with
    | false=>
      simp only[hw,ApT,Ap2]at h ⊢;exact .inl ⟨fun σ2=>⟨h.1,trivial⟩,h.2.symm⟩
    | true=>
      simp only[hw,e,Bk]at h ⊢;right;unfold Mq at hb;split at hb
      case h_2=>cases hb
      rename_i t n l ho;rw[ho]at h ⊢;simp only[CJ,EA]at h ⊢;unfold Dp at h ⊢;split at h
      case h_1=>cases h
      rename_i d hd;split at h
      case h_2=>cases h
      rename_i e' he;split at h
      case h_2=>cases h
      rename_i de hde;split at h
      case isTrue=>cases h
      rename_i hle;split at h
      case h_2=>cases h
      rename_i els hels;cases h;refine⟨_,_,_,rfl,fun σ2 h2=>?_⟩;simp only[hle,ArA,hels,h2]
theorem AgN{s:TypeId}{p f:Nat}(ho:o.op=.fieldAddr s (.tmp p) f)(ha:Ie (ev fr (.tmp p))=some a)(h:Ez E orc ops o fr σ=some (v,σ')) :σ'=σ∧∀σ2,Ez E orc ops o fr σ2=some (v,σ2):=by
  have hf:Fu E ops o=false:=by
    cases hf:Fu E ops o
    · rfl
    · rcases DF hf with⟨t,n,l,h⟩|⟨s,d,x,h,_⟩<;>rw[h]at ho<;>cases ho
  have e:∀σ,FB false σ=some:=fun σ=>by funext r;simp[FB]
  unfold Ez at h ⊢;rw[hf]at h ⊢;cases hw:IB ops fr o with
  |none=>simp[hw]at h
  | some w=>
    cases w with
    | false=>
      simp only[hw,ApT,Ap2]at h ⊢;exact⟨h.2.symm,fun σ2=>⟨h.1,trivial⟩⟩
    | true=>
      simp only[hw,e,Bk]at h ⊢;obtain⟨off,hr⟩:=MX ha;rw[ho]at h ⊢;simp only[CJ,EA,hr]at h ⊢;rw[ApS]at h;obtain⟨x,h,h3⟩:=h;cases h3;refine⟨rfl,fun σ2=>?_⟩
      have:B0 E σ2 s (.ref a off) f=B0 E σ s (.ref a off) f:=by
        unfold B0;rfl
      rw[this,h];rfl
inductive Sep(E:Env)(orc:Option Tmp→Orc)(ops:Array Oper)(x y:Oper)(frF:List AV):Prop
  |call (p a:Nat) (hp:P3 y.op=some p) (ha:Ie (ev frF (.tmp p))=some a) (hx:∀σ σ1 v,Ez E orc ops x frF σ=some (v,σ1)→σ1[a]?=σ[a]?)
  |look (p q a b:Nat) (hp:P3 x.op=some p) (hq:SI y.op=some q) (ha:Ie (ev frF (.tmp p))=some a) (hb:Ie (ev frF (.tmp q))=some b) (hne:a≠b)
  |callY (p a:Nat) (hp:P3 x.op=some p) (ha:Ie (ev frF (.tmp p))=some a) (hy:∀σ σ1 v,Ez E orc ops y frF σ=some (v,σ1)→σ1[a]?=σ[a]?)
  |fa (s:TypeId) (p f a:Nat) (ho:y.op=.fieldAddr s (.tmp p) f) (ha:Ie (ev frF (.tmp p))=some a)
  |build (q b:Nat) (hx:Mq x.op=true) (hf:Fu E ops x=false) (hq:SI y.op=some q) (hb:Ie (ev frF (.tmp q))=some b)
theorem Nf{x y:Oper}{st st1 st2:St}(hap:x.apart ops y=true)(hc:Sep E orc ops x y st.fr) (h1:CC E orc ops x st=some st1) (h2:CC E orc ops y st1=some st2):∃st3,CC E orc ops y st=some st3∧CC E orc ops x st3=some st2:=by
  obtain⟨a1,a2,a3⟩:=Oper.apart_spec hap;unfold CC at h1 h2 ⊢;rw[ApS]at h1 h2;obtain⟨⟨v,σ1⟩,hv,rfl⟩:=h1;obtain⟨⟨u,σ2⟩,hu,rfl⟩:=h2;simp only at hu ⊢;rw[B9 a1]at hu
  have fin:∀σ3,Ez E orc ops y st.fr st.σ=some (u,σ3)→Ez E orc ops x st.fr σ3=some (v,σ2) →
      ∃st3,(Ez E orc ops y st.fr st.σ).map (fun r=>(⟨AP st.fr y.dst r.1,r.2⟩:St))=some st3∧(Ez E orc ops x st3.fr st3.σ).map (fun r=>(⟨AP st3.fr x.dst r.1,r.2⟩:St))=some ⟨AP (AP st.fr x.dst v) y.dst u,σ2⟩:=by
    intro σ3 hy hx;refine⟨⟨AP st.fr y.dst u,σ3⟩,by rw[hy];rfl,?_⟩;simp only;rw[B9 a3,hx];simp only[Aqv,DJ st.fr v u a2]
  cases hc with
  | call p a hp ha hx=>
    have h1:=hx _ _ _ hv;obtain⟨rfl,_⟩:=EG hp ha hu rfl;exact fin _ (EG hp ha hu h1.symm).2 hv
  | fa s p f a ho ha=>
    obtain⟨rfl,hy⟩:=AgN ho ha hu;exact fin _ (hy _) hv
  | callY p a hp ha hy=>
    obtain⟨rfl,_⟩:=EG hp ha hv rfl;exact fin _ hu (EG hp ha hv (hy _ _ _ hu)).2
  | look p q a b hp hq ha hb hne=>
    obtain⟨rfl,_⟩:=EG hp ha hv rfl;refine fin _ hu (EG hp ha hv ?_).2;rcases PZ hq hb hu with⟨_,rfl⟩|⟨off,xs,cs,_,rfl,_⟩
    · rfl
    · exact Aqx (fun h=>hne h.symm)
  | build q b hx hf hq hb=>
    rcases XM hx hf hv with⟨hall,rfl⟩|⟨k,els,ro,rfl,hall⟩
    · exact fin _ hu (hall _)
    · rcases PZ hq hb hu with⟨hs,rfl⟩|⟨off,xs,cs,hcs,rfl,hs⟩
      · exact fin _ (hs _) (hall _ rfl)
      · have hlt:b<st.σ.length:=by
          have:=(ApR.1 hcs).1;by_cases hb':b<st.σ.length
          · exact hb'
          · have he:b=st.σ.length:=by simp at this;omega
            rw[he]at hcs;simp at hcs
        have hcs':st.σ[b]?=some (.box cs false):=by
          rw[Ap0 hlt]at hcs;exact hcs
        refine fin _ (hs _ hcs') ?_;rw[hall _ (by simp),List.set_append_left _ _ hlt]
theorem JN{orc:Option Tmp→Orc}{ops:Array Oper}{i:Nat}{y:Oper}(hi:ops[i]?=some y){l2:List Nat}{st':St}:∀(l1:List Nat) (st:St),(∀m1 j m2,l1=m1++j::m2→∀x,ops[j]?=some x→K1 E ops x y=true∨x.apart ops y=true∧∀st,B2 E orc ops ((j::m2)++i::l2) st=some st'→Sep E orc ops x y st.fr)→B2 E orc ops (l1++i::l2) st=some st' →∃st1,CC E orc ops y st=some st1∧B2 E orc ops (l1++l2) st1=some st'
  | [],st,_,h=>by
    simp only[AqP,B2,hi]at h;rw[Ap4]at h;exact h
  | j :: l1,st,hc,h0=>by
    have h:=h0;simp only[Aqh,B2]at h;cases hj:ops[j]? with
    |none=>simp[hj]at h
    | some x=>
      simp only[hj]at h;rw[Ap4]at h;obtain⟨s1,h1,h⟩:=h;obtain⟨s2,h2,h⟩:=JN hi l1 s1 (fun m1 k m2 e=>hc (j::m1) k m2 (by rw[e];rfl)) h
      have:∃st3,CC E orc ops y st=some st3∧CC E orc ops x st3=some s2:=by
        rcases hc [] j l1 rfl x hj with hcb|⟨hap,hcy⟩
        · exact IZ hcb h1 h2
        · exact Nf hap (hcy st h0) h1 h2
      obtain⟨s3,h3,h4⟩:=this;refine⟨s3,h3,?_⟩;simp only[Aqh,B2,hj,h4,ApX];exact h
def GR(ops:Array Oper)(ts:List Nat)(ok:Nat→Bool)(t:Nat):Bool :=
 ts.contains t&&(List.range ops.size).all fun k=>ok k||(match ops[k]? with
  |some o=>o.dst != some t
  |none=>true)
def WV(ps:List (Nat×Nat))(t:Nat):Option Nat:=(ps.find? fun p=>p.1==t).map (·.2)
def AnI(e:Nat×FuncId×List AV×Am×AV×Am):List (Nat×Nat)→Prop
 |[]=>True
 |q::xs=>(e.1=q.1→e.2.2.2.2.2[q.2]?=e.2.2.2.1[q.2]?)∧AnI e xs
def XOk:List (Nat×FuncId×List AV×Am×AV×Am)→List (Nat×Nat)→Prop
 |[],_=>True
 |e::m,xs=>AnI e xs∧XOk m xs
theorem Aav{e:Nat×FuncId×List AV×Am×AV×Am}:∀{xs:List (Nat×Nat)},AnI e xs→∀{a:Nat},(e.1,a)∈xs→e.2.2.2.2.2[a]?=e.2.2.2.1[a]?
  | q :: xs,h,a,hq=>by
    rcases Aqq.1 hq with hq|hq
    · have:=h.1 (by rw[←hq])
      rw[←hq]at this;exact this
    · exact Aav h.2 hq
theorem Aac{xs:List (Nat×Nat)}{t a:Nat}(ht:(t,a)∈xs){f:FuncId}{as:List AV}{σ σ':Am}{r:AV}:∀{m:List (Nat×FuncId×List AV×Am×AV×Am)},XOk m xs→T1 m (some t) f as σ=some (r,σ')→σ'[a]?=σ[a]?
  |[],_,h=>by cases h
  | e :: m,hx,h=>by
    unfold T1 at h;split at h
    · rename_i he
      split at h
      · rename_i hh
        cases he;have:=Aav hx.1 ht;have hr:e.2.2.2.2=(r,σ'):=Aqp h;rw[hr,←hh.2.2]at this;exact this
      · cases h
    · exact Aac ht hx.2 h
theorem Kw{l:List (Nat×FuncId×List AV×AV)}{m:List (Nat×FuncId×List AV×Am×AV×Am)}{xs:List (Nat×Nat)}{t:Nat}(ho:I9 E o=true)(hd:o.dst=some t)(hm:XOk m xs)(ht:(t,a)∈xs)(hval:Ez E (K5 l m) ops o fr σ=some (v,σ')):σ'[a]?=σ[a]?:=by
  unfold Ez at hval;cases hwn:IB ops fr o with
  |none=>rw[hwn]at hval;cases hval
  | some b=>
    cases b with
    |false=>rw[hwn]at hval;cases hval;rfl
    | true=>
      rw[hwn]at hval;simp only at hval
      have hfz:Fu E ops o=false:=by
        unfold I9 at ho;unfold Fu;split
        · split
          · rename_i ee;rw[ee]at ho;cases ho
          · rename_i ee;rw[ee]at ho;cases ho
          · rfl
        · rfl
      have hfr:FB (Fu E ops o) σ=some:=by rw[hfz];funext q;simp[FB]
      rw[hfr,Bk]at hval;unfold I9 at ho;unfold CJ at hval;split at ho
      case h_2=>cases ho
      rename_i c ec;simp only[ec]at hval;split at hval
      · rename_i bi eb
        unfold QG at ho;rw[eb]at ho;cases ho
      · rw[ApU ho]at hval
        unfold Ad3 at hval;split at hval
        case h_2=>cases hval
        split at hval
        case h_2=>cases hval
        rw[hd]at hval;exact Aac ht hm hval
def AlH(E:Env)(ops:Array Oper)(T:List (List Nat))(ps xs:List (Nat×Nat))(ts:List Nat)(i:Nat)(x y:Oper):Bool :=
 match P3 y.op,x.dst with
 |some p,some t=>match WV ps p with
  |none=>false
  |some a=>GR ops ts (fun k=>(T.getD i []).contains k&&decide (k<i)) p&&I9 E x&&xs.contains (t,a)
 |_,_=>false
def AlJ(E:Env)(ops:Array Oper)(ps xs:List (Nat×Nat))(ts:List Nat)(j:Nat)(x y:Oper):Bool :=
 match P3 x.op,y.dst with
 |some p,some t=>match WV ps p with
  |none=>false
  |some a=>GR ops ts (fun k=>decide (k<j)) p&&I9 E y&&xs.contains (t,a)
 |_,_=>false
def AlE(E:Env)(ops:Array Oper)(T:List (List Nat))(ps:List (Nat×Nat))(ts:List Nat)(j i:Nat)(x y:Oper):Bool :=
 match SI y.op with
 |none=>false
 | some q=>match WV ps q with
  |none=>false
  | some b=>GR ops ts (fun k=>(T.getD i []).contains k&&decide (k<i)) q&&((Mq x.op&&!Fu E ops x)||(match P3 x.op with
   |none=>false
   |some p=>match WV ps p with
    |none=>false
    |some a=>a != b&&GR ops ts (fun k=>decide (k<j)) p))
def AlB(ops:Array Oper)(T:List (List Nat))(ps:List (Nat×Nat))(ts:List Nat)(i:Nat)(y:Oper):Bool :=
 match y.op with
 |.fieldAddr _ (.tmp p) _=>match WV ps p with
  |none=>false
  |some _=>GR ops ts (fun k=>(T.getD i []).contains k&&decide (k<i)) p
 |_=>false
def YN(E:Env)(ops:Array Oper)(T:List (List Nat))(ps xs:List (Nat×Nat))(ts:List Nat):Bool :=
 (List.range ops.size).all fun i=>(List.range i).all fun j=>(T.getD i []).contains j||(match ops[j]?,ops[i]? with
  |some x,some y=>K1 E ops x y||(x.apart ops y&&(AlE E ops T ps ts j i x y||AlH E ops T ps xs ts i x y||AlB ops T ps ts i y||AlJ E ops ps xs ts j x y))
  |_,_=>false)
def Ym(n:Nat)(fr:Fr):List (Nat×Nat)→Prop
 |[]=>True
 |p::ps=>Ie (evL n fr (.tmp p.1))=some p.2∧Ym n fr ps
theorem Rx{n:Nat}{fr:Fr}:∀{ps:List (Nat×Nat)} {t a:Nat},Ym n fr ps→WV ps t=some a→Ie (evL n fr (.tmp t))=some a
  |[],t,a,_,h=>by cases h
  | p :: ps,t,a,hr,h=>by
    unfold WV at h;rw[AsW]at h;by_cases e:(p.1==t)=true
    · simp only[e]at h
      cases h;rw[←eq_of_beq e];exact hr.1
    · simp only[e]at h
      exact Rx hr.2 h
end Go.Rv
