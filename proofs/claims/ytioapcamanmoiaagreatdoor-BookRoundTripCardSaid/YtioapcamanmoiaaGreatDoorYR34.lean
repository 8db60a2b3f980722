/-
  Part 34.
-/
import Derived.Test.YtioapcamanmoiaaGreatDoorYR33
namespace Go.Rv
open Go.RowKit
set_option linter.unusedVariables false
set_option linter.unusedSimpArgs false
variable{orc:Option Tmp→Orc}{ops:Array Oper}{o:Oper}{fr:List AV}{σ σ':Ab}{v:AV}{a:Nat}
variable {E:Env}
@[go_sem] theorem Akv(f:FuncId)(l:List AV):(AV.fn f l).cells?=some [.fn f l]:=rfl
theorem AnY(n:Nat):(((no_index (OfNat.ofNat n)):Nat):Int)=(no_index (OfNat.ofNat n):Int):=rfl
def HW:AV→Option Nat
 |.ref id _=>some id
 |_=>none
theorem My{x:AV}{id:Nat}(h:HW x=some id):∃o,x=.ref id o:=by
 unfold HW at h;split at h
 ·cases h;exact⟨_,rfl⟩
 ·cases h
def OU:Op→Option Nat
 |.load _ (.tmp p)=>some p
 |.fieldAddr _ (.tmp p) _=>some p
 |_=>none
def SI:Op→Option Nat
 |.store _ (.tmp q) _=>some q
 |_=>none
def Ml:Op→Bool
 |.buildSlice ..=>true
 |_=>false
theorem Qk{u:AV}{q b:Nat}(hq:SI o.op=some q)(hb:HW (ev fr (.tmp q))=some b)(h:DO E orc ops o fr σ=some (u,σ')) :(∀σ2,DO E orc ops o fr σ2=some (u,σ2))∧σ'=σ∨∃off xs cs,σ[b]?=some (.box cs false)∧σ'=σ.set b (.box (splice cs off xs) false)∧∀σ2:Ab,σ2[b]?=some (.box cs false)→DO E orc ops o fr σ2=some (u,σ2.set b (.box (splice cs off xs) false)):=by
  have hf:EI E ops o=false:=by
    cases hf:EI E ops o
    · rfl
    · rcases Db hf with⟨t,n,l,h⟩|⟨s,d,x,h,_⟩<;>rw[h]at hq<;>cases hq
  have e:∀σ,Fh false σ=some:=fun σ=>by funext r;simp[Fh]
  unfold DO at h ⊢;rw[hf]at h ⊢;cases hw:Iw ops fr o with
  |none=>simp[hw]at h
  | some w=>
    cases w with
    | false=>
      simp only[hw,AoM,AoV]at h ⊢;exact .inl ⟨fun σ2=>⟨h.1,trivial⟩,h.2.symm⟩
    | true=>
      simp only[hw,e,Bt]at h ⊢;unfold SI at hq;split at hq
      case h_2=>cases hq
      rename_i t q' x ho;cases hq;obtain⟨off,hr⟩:=My hb
      have hop:∀σ,Cv E (orc o.dst) o.op fr σ=(match E.tab t with
          |some d=>(storeA σ d (.ref b off) (ev fr x)).map fun σ'=>(AV.junk,σ')
          |none=>none):=by
        intro σ;rw[ho];simp only[Cv,DZ,hr];cases E.tab t<;>rfl
      simp only[hop]at h ⊢;right;cases ht:E.tab t with
      |none=>simp[ht]at h
      | some d=>
        simp only[ht]at h ⊢;rw[AoL]at h;obtain⟨σ1,h,h2⟩:=h;cases h2;unfold storeA at h ⊢;cases hc:(ev fr x).cells? with
        |none=>simp[hc]at h
        | some xs=>
          simp only[hc]at h ⊢;by_cases hl:xs.length≠d.size
          · simp[hl]at h
          · simp only[hl,AqT]at h ⊢
            split at h
            case h_2=>cases h
            rename_i cs hcs;split at h
            case isFalse=>cases h
            rename_i hle;cases h;refine⟨off,xs,cs,hcs,rfl,fun σ2 h2=>?_⟩;simp[h2,hle]
theorem Ec{σ2:Ab}{p:Nat}(hp:OU o.op=some p)(ha:HW (ev fr (.tmp p))=some a)(h:DO E orc ops o fr σ=some (v,σ'))(h2:σ2[a]?=σ[a]?) :σ'=σ∧DO E orc ops o fr σ2=some (v,σ2):=by
  have hf:EI E ops o=false:=by
    cases hf:EI E ops o
    · rfl
    · rcases Db hf with⟨t,n,l,h⟩|⟨s,d,x,h,_⟩<;>rw[h]at hp<;>cases hp
  have e:∀σ,Fh false σ=some:=fun σ=>by funext r;simp[Fh]
  unfold DO at h ⊢;rw[hf]at h ⊢;cases hw:Iw ops fr o with
  |none=>simp[hw]at h
  | some w=>
    cases w with
    | false=>
      simp only[hw,AoM,AoV]at h ⊢;exact⟨h.2.symm,h.1,trivial⟩
    | true=>
      simp only[hw,e,Bt]at h ⊢;obtain⟨off,hr⟩:=My ha;unfold OU at hp;split at hp
      case h_3=>cases hp
      · rename_i t p' ho
        cases hp;rw[ho]at h ⊢;simp only[Cv,DZ,hr]at h ⊢;cases ht:E.tab t with
        |none=>simp[ht]at h
        | some d=>
          simp only[ht,loadA,h2]at h ⊢;rw[AoL]at h;obtain⟨x,h,h3⟩:=h;cases h3;exact⟨rfl,by rw[h];rfl⟩
      · rename_i s p' f ho
        cases hp;rw[ho]at h ⊢;simp only[Cv,DZ,hr]at h ⊢;rw[AoL]at h;obtain⟨x,h,h3⟩:=h;cases h3;refine⟨rfl,?_⟩
        have:Bl E σ2 s (.ref a off) f=Bl E σ s (.ref a off) f:=by
          unfold Bl;rfl
        rw[this,h];rfl
theorem Xt(hb:Ml o.op=true)(hf:EI E ops o=false)(h:DO E orc ops o fr σ=some (v,σ')) :(∀σ2,DO E orc ops o fr σ2=some (v,σ2))∧σ'=σ∨∃k els ro,σ'=σ++[.buf k els ro]∧∀σ2:Ab,σ2.length=σ.length→DO E orc ops o fr σ2=some (v,σ2++[.buf k els ro]):=by
  have e:∀σ,Fh false σ=some:=fun σ=>by funext r;simp[Fh]
  unfold DO at h ⊢;rw[hf]at h ⊢;cases hw:Iw ops fr o with
  |none=>simp[hw]at h
  | some w=>
    cases w with
    | false=>
      simp only[hw,AoM,AoV]at h ⊢;exact .inl ⟨fun σ2=>⟨h.1,trivial⟩,h.2.symm⟩
    | true=>
      simp only[hw,e,Bt]at h ⊢;right;unfold Ml at hb;split at hb
      case h_2=>cases hb
      rename_i t n l ho;rw[ho]at h ⊢;simp only[Cv,DZ]at h ⊢;unfold CI at h ⊢;split at h
      case h_1=>cases h
      rename_i d hd;split at h
      case h_2=>cases h
      rename_i e' he;split at h
      case h_2=>cases h
      rename_i de hde;split at h
      case isTrue=>cases h
      rename_i hle;split at h
      case h_2=>cases h
      rename_i els hels;cases h;refine⟨_,_,_,rfl,fun σ2 h2=>?_⟩;simp only[hle,AqT,hels,h2]
theorem Af8{s:TypeId}{p f:Nat}(ho:o.op=.fieldAddr s (.tmp p) f)(ha:HW (ev fr (.tmp p))=some a)(h:DO E orc ops o fr σ=some (v,σ')) :σ'=σ∧∀σ2,DO E orc ops o fr σ2=some (v,σ2):=by
  have hf:EI E ops o=false:=by
    cases hf:EI E ops o
    · rfl
    · rcases Db hf with⟨t,n,l,h⟩|⟨s,d,x,h,_⟩<;>rw[h]at ho<;>cases ho
  have e:∀σ,Fh false σ=some:=fun σ=>by funext r;simp[Fh]
  unfold DO at h ⊢;rw[hf]at h ⊢;cases hw:Iw ops fr o with
  |none=>simp[hw]at h
  | some w=>
    cases w with
    | false=>
      simp only[hw,AoM,AoV]at h ⊢;exact⟨h.2.symm,fun σ2=>⟨h.1,trivial⟩⟩
    | true=>
      simp only[hw,e,Bt]at h ⊢;obtain⟨off,hr⟩:=My ha;rw[ho]at h ⊢;simp only[Cv,DZ,hr]at h ⊢;rw[AoL]at h;obtain⟨x,h,h3⟩:=h;cases h3;refine⟨rfl,fun σ2=>?_⟩
      have:Bl E σ2 s (.ref a off) f=Bl E σ s (.ref a off) f:=by
        unfold Bl;rfl
      rw[this,h];rfl
inductive Sep(E:Env)(orc:Option Tmp→Orc)(ops:Array Oper)(x y:Oper)(frF:List AV):Prop
  |call (p a:Nat) (hp:OU y.op=some p) (ha:HW (ev frF (.tmp p))=some a) (hx:∀σ σ1 v,DO E orc ops x frF σ=some (v,σ1)→σ1[a]?=σ[a]?)
  |look (p q a b:Nat) (hp:OU x.op=some p) (hq:SI y.op=some q) (ha:HW (ev frF (.tmp p))=some a) (hb:HW (ev frF (.tmp q))=some b) (hne:a≠b)
  |callY (p a:Nat) (hp:OU x.op=some p) (ha:HW (ev frF (.tmp p))=some a) (hy:∀σ σ1 v,DO E orc ops y frF σ=some (v,σ1)→σ1[a]?=σ[a]?)
  |fa (s:TypeId) (p f a:Nat) (ho:y.op=.fieldAddr s (.tmp p) f) (ha:HW (ev frF (.tmp p))=some a)
  |build (q b:Nat) (hx:Ml x.op=true) (hf:EI E ops x=false) (hq:SI y.op=some q) (hb:HW (ev frF (.tmp q))=some b)
theorem OM{x y:Oper}{st st1 st2:St}(hap:x.apart ops y=true)(hc:Sep E orc ops x y st.fr) (h1:BU E orc ops x st=some st1) (h2:BU E orc ops y st1=some st2):∃st3,BU E orc ops y st=some st3∧BU E orc ops x st3=some st2:=by
  obtain⟨a1,a2,a3⟩:=Oper.apart_spec hap;unfold BU at h1 h2 ⊢;rw[AoL]at h1 h2;obtain⟨⟨v,σ1⟩,hv,rfl⟩:=h1;obtain⟨⟨u,σ2⟩,hu,rfl⟩:=h2;simp only at hu ⊢;rw[B1 a1]at hu
  have fin:∀σ3,DO E orc ops y st.fr st.σ=some (u,σ3)→DO E orc ops x st.fr σ3=some (v,σ2) →
      ∃st3,(DO E orc ops y st.fr st.σ).map (fun r=>(⟨AM st.fr y.dst r.1,r.2⟩:St))=some st3∧(DO E orc ops x st3.fr st3.σ).map (fun r=>(⟨AM st3.fr x.dst r.1,r.2⟩:St))=some ⟨AM (AM st.fr x.dst v) y.dst u,σ2⟩:=by
    intro σ3 hy hx;refine⟨⟨AM st.fr y.dst u,σ3⟩,by rw[hy];rfl,?_⟩;simp only;rw[B1 a3,hx];simp only[App,Do st.fr v u a2]
  cases hc with
  | call p a hp ha hx=>
    have h1:=hx _ _ _ hv;obtain⟨rfl,_⟩:=Ec hp ha hu rfl;exact fin _ (Ec hp ha hu h1.symm).2 hv
  | fa s p f a ho ha=>
    obtain⟨rfl,hy⟩:=Af8 ho ha hu;exact fin _ (hy _) hv
  | callY p a hp ha hy=>
    obtain⟨rfl,_⟩:=Ec hp ha hv rfl;exact fin _ hu (Ec hp ha hv (hy _ _ _ hu)).2
  | look p q a b hp hq ha hb hne=>
    obtain⟨rfl,_⟩:=Ec hp ha hv rfl;refine fin _ hu (Ec hp ha hv ?_).2;rcases Qk hq hb hu with⟨_,rfl⟩|⟨off,xs,cs,_,rfl,_⟩
    · rfl
    · exact Apv (fun h=>hne h.symm)
  | build q b hx hf hq hb=>
    rcases Xt hx hf hv with⟨hall,rfl⟩|⟨k,els,ro,rfl,hall⟩
    · exact fin _ hu (hall _)
    · rcases Qk hq hb hu with⟨hs,rfl⟩|⟨off,xs,cs,hcs,rfl,hs⟩
      · exact fin _ (hs _) (hall _ rfl)
      · have hlt:b<st.σ.length:=by
          have:=(AoK.1 hcs).1;by_cases hb':b<st.σ.length
          · exact hb'
          · have he:b=st.σ.length:=by simp at this;omega
            rw[he]at hcs;simp at hcs
        have hcs':st.σ[b]?=some (.box cs false):=by
          rw[AoU hlt]at hcs;exact hcs
        refine fin _ (hs _ hcs') ?_;rw[hall _ (by simp),List.set_append_left _ _ hlt]
theorem Ko{orc:Option Tmp→Orc}{ops:Array Oper}{i:Nat}{y:Oper}(hi:ops[i]?=some y){l2:List Nat}{st':St}:∀(l1:List Nat) (st:St),(∀m1 j m2,l1=m1++j::m2→∀x,ops[j]?=some x→Ji E ops x y=true∨x.apart ops y=true∧∀st,AY E orc ops ((j::m2)++i::l2) st=some st'→Sep E orc ops x y st.fr)→AY E orc ops (l1++i::l2) st=some st' →∃st1,BU E orc ops y st=some st1∧AY E orc ops (l1++l2) st1=some st'
  | [],st,_,h=>by
    simp only[ApC,AY,hi]at h;rw[AoW]at h;exact h
  | j :: l1,st,hc,h0=>by
    have h:=h0;simp only[Ao5,AY]at h;cases hj:ops[j]? with
    |none=>simp[hj]at h
    | some x=>
      simp only[hj]at h;rw[AoW]at h;obtain⟨s1,h1,h⟩:=h;obtain⟨s2,h2,h⟩:=Ko hi l1 s1 (fun m1 k m2 e=>hc (j::m1) k m2 (by rw[e];rfl)) h
      have:∃st3,BU E orc ops y st=some st3∧BU E orc ops x st3=some s2:=by
        rcases hc [] j l1 rfl x hj with hcb|⟨hap,hcy⟩
        · exact IY hcb h1 h2
        · exact OM hap (hcy st h0) h1 h2
      obtain⟨s3,h3,h4⟩:=this;refine⟨s3,h3,?_⟩;simp only[Ao5,AY,hj,h4,AoP];exact h
def Gg(ops:Array Oper)(ts:List Nat)(ok:Nat→Bool)(t:Nat):Bool :=
 ts.contains t&&(List.range ops.size).all fun k=>ok k||(match ops[k]? with
  |some o=>o.dst != some t
  |none=>true)
def VO(ps:List (Nat×Nat))(t:Nat):Option Nat:=(ps.find? fun p=>p.1==t).map (·.2)
def Amh(e:Nat×FuncId×List AV×Ab×AV×Ab):List (Nat×Nat)→Prop
 |[]=>True
 |q::xs=>(e.1=q.1→e.2.2.2.2.2[q.2]?=e.2.2.2.1[q.2]?)∧Amh e xs
def XOk:List (Nat×FuncId×List AV×Ab×AV×Ab)→List (Nat×Nat)→Prop
 |[],_=>True
 |e::m,xs=>Amh e xs∧XOk m xs
theorem ZX{e:Nat×FuncId×List AV×Ab×AV×Ab}:∀{xs:List (Nat×Nat)},Amh e xs→∀{a:Nat},(e.1,a)∈xs→e.2.2.2.2.2[a]?=e.2.2.2.1[a]?
  | q :: xs,h,a,hq=>by
    rcases Ao9.1 hq with hq|hq
    · have:=h.1 (by rw[←hq])
      rw[←hq]at this;exact this
    · exact ZX h.2 hq
theorem Aar{xs:List (Nat×Nat)}{t a:Nat}(ht:(t,a)∈xs){f:FuncId}{as:List AV}{σ σ':Ab}{r:AV}:∀{m:List (Nat×FuncId×List AV×Ab×AV×Ab)},XOk m xs→R6 m (some t) f as σ=some (r,σ')→σ'[a]?=σ[a]?
  |[],_,h=>by cases h
  | e :: m,hx,h=>by
    unfold R6 at h;split at h
    · rename_i he
      split at h
      · rename_i hh
        cases he;have:=ZX hx.1 ht;have hr:e.2.2.2.2=(r,σ'):=AoR h;rw[hr,←hh.2.2]at this;exact this
      · cases h
    · exact Aar ht hx.2 h
theorem Kk{l:List (Nat×FuncId×List AV×AV)}{m:List (Nat×FuncId×List AV×Ab×AV×Ab)}{xs:List (Nat×Nat)}{t:Nat}(ho:I7 E o=true)(hd:o.dst=some t)(hm:XOk m xs)(ht:(t,a)∈xs)(hval:DO E (JR l m) ops o fr σ=some (v,σ')):σ'[a]?=σ[a]?:=by
  unfold DO at hval;cases hwn:Iw ops fr o with
  |none=>rw[hwn]at hval;cases hval
  | some b=>
    cases b with
    |false=>rw[hwn]at hval;cases hval;rfl
    | true=>
      rw[hwn]at hval;simp only at hval
      have hfz:EI E ops o=false:=by
        unfold I7 at ho;unfold EI;split
        · split
          · rename_i ee;rw[ee]at ho;cases ho
          · rename_i ee;rw[ee]at ho;cases ho
          · rfl
        · rfl
      have hfr:Fh (EI E ops o) σ=some:=by rw[hfz];funext q;simp[Fh]
      rw[hfr,Bt]at hval;unfold I7 at ho;unfold Cv at hval;split at ho
      case h_2=>cases ho
      rename_i c ec;simp only[ec]at hval;split at hval
      · rename_i bi eb
        unfold Rt at ho;rw[eb]at ho;cases ho
      · rw[AoO ho]at hval
        unfold AdM at hval;split at hval
        case h_2=>cases hval
        split at hval
        case h_2=>cases hval
        rw[hd]at hval;exact Aar ht hm hval
def Aku(E:Env)(ops:Array Oper)(T:List (List Nat))(ps xs:List (Nat×Nat))(ts:List Nat)(i:Nat)(x y:Oper):Bool :=
 match OU y.op,x.dst with
 |some p,some t=>match VO ps p with
  |none=>false
  |some a=>Gg ops ts (fun k=>(T.getD i []).contains k&&decide (k<i)) p&&I7 E x&&xs.contains (t,a)
 |_,_=>false
def Aks(E:Env)(ops:Array Oper)(ps xs:List (Nat×Nat))(ts:List Nat)(j:Nat)(x y:Oper):Bool :=
 match OU x.op,y.dst with
 |some p,some t=>match VO ps p with
  |none=>false
  |some a=>Gg ops ts (fun k=>decide (k<j)) p&&I7 E y&&xs.contains (t,a)
 |_,_=>false
def AkE(E:Env)(ops:Array Oper)(T:List (List Nat))(ps:List (Nat×Nat))(ts:List Nat)(j i:Nat)(x y:Oper):Bool :=
 match SI y.op with
 |none=>false
 | some q=>match VO ps q with
  |none=>false
  | some b=>Gg ops ts (fun k=>(T.getD i []).contains k&&decide (k<i)) q&&((Ml x.op&&!EI E ops x)||(match OU x.op with
   |none=>false
   |some p=>match VO ps p with
    |none=>false
    |some a=>a != b&&Gg ops ts (fun k=>decide (k<j)) p))
def AkD(ops:Array Oper)(T:List (List Nat))(ps:List (Nat×Nat))(ts:List Nat)(i:Nat)(y:Oper):Bool :=
 match y.op with
 |.fieldAddr _ (.tmp p) _=>match VO ps p with
  |none=>false
  |some _=>Gg ops ts (fun k=>(T.getD i []).contains k&&decide (k<i)) p
 |_=>false
def YP(E:Env)(ops:Array Oper)(T:List (List Nat))(ps xs:List (Nat×Nat))(ts:List Nat):Bool :=
 (List.range ops.size).all fun i=>(List.range i).all fun j=>(T.getD i []).contains j||(match ops[j]?,ops[i]? with
  |some x,some y=>Ji E ops x y||(x.apart ops y&&(AkE E ops T ps ts j i x y||Aku E ops T ps xs ts i x y||AkD ops T ps ts i y||Aks E ops ps xs ts j x y))
  |_,_=>false)
def WW(n:Nat)(fr:Fr):List (Nat×Nat)→Prop
 |[]=>True
 |p::ps=>HW (evL n fr (.tmp p.1))=some p.2∧WW n fr ps
theorem QC{n:Nat}{fr:Fr}:∀{ps:List (Nat×Nat)} {t a:Nat},WW n fr ps→VO ps t=some a→HW (evL n fr (.tmp t))=some a
  |[],t,a,_,h=>by cases h
  | p :: ps,t,a,hr,h=>by
    unfold VO at h;rw[Ar0]at h;by_cases e:(p.1==t)=true
    · simp only[e]at h
      cases h;rw[←eq_of_beq e];exact hr.1
    · simp only[e]at h
      exact QC hr.2 h
end Go.Rv
