/-
  Part 34.
-/
import Derived.Test.YtioapcamanmoiaaGreatDoorYR33
namespace Go.Rv
open Go.RowKit
set_option linter.unusedVariables false
set_option linter.unusedSimpArgs false
variable{orc:Option Tmp→Orc}{ops:Array Oper}{o:Oper}{fr:List AV}{σ σ':Am}{v:AV}{a:Nat}
variable {E:Env}
@[go_sem] theorem Aky(f:FuncId)(l:List AV):(AV.fn f l).cells?=some [.fn f l]:=rfl
theorem Al3(n:Nat):(((no_index (OfNat.ofNat n)):Nat):Int)=(no_index (OfNat.ofNat n):Int):=rfl
def HT:AV→Option Nat
 |.ref id _=>some id
 |_=>none
theorem Mv{x:AV}{id:Nat}(h:HT x=some id):∃o,x=.ref id o:=by
 unfold HT at h;split at h
 ·cases h;exact⟨_,rfl⟩
 ·cases h
def Pq:Op→Option Nat
 |.load _ (.tmp p)=>some p
 |.fieldAddr _ (.tmp p) _=>some p
 |_=>none
def RU:Op→Option Nat
 |.store _ (.tmp q) _=>some q
 |_=>none
def Mg:Op→Bool
 |.buildSlice ..=>true
 |_=>false
theorem PX{u:AV}{q b:Nat}(hq:RU o.op=some q)(hb:HT (ev fr (.tmp q))=some b)(h:DK E orc ops o fr σ=some (u,σ')) :(∀σ2,DK E orc ops o fr σ2=some (u,σ2))∧σ'=σ∨∃off xs cs,σ[b]?=some (.box cs false)∧σ'=σ.set b (.box (splice cs off xs) false)∧∀σ2:Am,σ2[b]?=some (.box cs false)→DK E orc ops o fr σ2=some (u,σ2.set b (.box (splice cs off xs) false)):=by
  have hf:ED E ops o=false:=by
    cases hf:ED E ops o
    · rfl
    · rcases Dn hf with⟨t,n,l,h⟩|⟨s,d,x,h,_⟩<;>rw[h]at hq<;>cases hq
  have e:∀σ,Fb false σ=some:=fun σ=>by funext r;simp[Fb]
  unfold DK at h ⊢;rw[hf]at h ⊢;cases hw:Ih ops fr o with
  |none=>simp[hw]at h
  | some w=>
    cases w with
    | false=>
      simp only[hw,AoM,AoV]at h ⊢;exact .inl ⟨fun σ2=>⟨h.1,trivial⟩,h.2.symm⟩
    | true=>
      simp only[hw,e,Bm]at h ⊢;unfold RU at hq;split at hq
      case h_2=>cases hq
      rename_i t q' x ho;cases hq;obtain⟨off,hr⟩:=Mv hb
      have hop:∀σ,Cu E (orc o.dst) o.op fr σ=(match E.tab t with
          |some d=>(storeA σ d (.ref b off) (ev fr x)).map fun σ'=>(AV.junk,σ')
          |none=>none):=by
        intro σ;rw[ho];simp only[Cu,DU,hr];cases E.tab t<;>rfl
      simp only[hop]at h ⊢;right;cases ht:E.tab t with
      |none=>simp[ht]at h
      | some d=>
        simp only[ht]at h ⊢;rw[AoL]at h;obtain⟨σ1,h,h2⟩:=h;cases h2;unfold storeA at h ⊢;cases hc:(ev fr x).cells? with
        |none=>simp[hc]at h
        | some xs=>
          simp only[hc]at h ⊢;by_cases hl:xs.length≠d.size
          · simp[hl]at h
          · simp only[hl,AqT]at h ⊢
            split at h
            case h_2=>cases h
            rename_i cs hcs;split at h
            case isFalse=>cases h
            rename_i hle;cases h;refine⟨off,xs,cs,hcs,rfl,fun σ2 h2=>?_⟩;simp[h2,hle]
theorem DZ{σ2:Am}{p:Nat}(hp:Pq o.op=some p)(ha:HT (ev fr (.tmp p))=some a)(h:DK E orc ops o fr σ=some (v,σ'))(h2:σ2[a]?=σ[a]?) :σ'=σ∧DK E orc ops o fr σ2=some (v,σ2):=by
  have hf:ED E ops o=false:=by
    cases hf:ED E ops o
    · rfl
    · rcases Dn hf with⟨t,n,l,h⟩|⟨s,d,x,h,_⟩<;>rw[h]at hp<;>cases hp
  have e:∀σ,Fb false σ=some:=fun σ=>by funext r;simp[Fb]
  unfold DK at h ⊢;rw[hf]at h ⊢;cases hw:Ih ops fr o with
  |none=>simp[hw]at h
  | some w=>
    cases w with
    | false=>
      simp only[hw,AoM,AoV]at h ⊢;exact⟨h.2.symm,h.1,trivial⟩
    | true=>
      simp only[hw,e,Bm]at h ⊢;obtain⟨off,hr⟩:=Mv ha;unfold Pq at hp;split at hp
      case h_3=>cases hp
      · rename_i t p' ho
        cases hp;rw[ho]at h ⊢;simp only[Cu,DU,hr]at h ⊢;cases ht:E.tab t with
        |none=>simp[ht]at h
        | some d=>
          simp only[ht,loadA,h2]at h ⊢;rw[AoL]at h;obtain⟨x,h,h3⟩:=h;cases h3;exact⟨rfl,by rw[h];rfl⟩
      · rename_i s p' f ho
        cases hp;rw[ho]at h ⊢;simp only[Cu,DU,hr]at h ⊢;rw[AoL]at h;obtain⟨x,h,h3⟩:=h;cases h3;refine⟨rfl,?_⟩
        have:Bh E σ2 s (.ref a off) f=Bh E σ s (.ref a off) f:=by
          unfold Bh;rfl
        rw[this,h];rfl
theorem WT(hb:Mg o.op=true)(hf:ED E ops o=false)(h:DK E orc ops o fr σ=some (v,σ')) :(∀σ2,DK E orc ops o fr σ2=some (v,σ2))∧σ'=σ∨∃k els ro,σ'=σ++[.buf k els ro]∧∀σ2:Am,σ2.length=σ.length→DK E orc ops o fr σ2=some (v,σ2++[.buf k els ro]):=by
  have e:∀σ,Fb false σ=some:=fun σ=>by funext r;simp[Fb]
  unfold DK at h ⊢;rw[hf]at h ⊢;cases hw:Ih ops fr o with
  |none=>simp[hw]at h
  | some w=>
    cases w with
    | false=>
      simp only[hw,AoM,AoV]at h ⊢;exact .inl ⟨fun σ2=>⟨h.1,trivial⟩,h.2.symm⟩
    | true=>
      simp only[hw,e,Bm]at h ⊢;right;unfold Mg at hb;split at hb
      case h_2=>cases hb
      rename_i t n l ho;rw[ho]at h ⊢;simp only[Cu,DU]at h ⊢;unfold CF at h ⊢;split at h
      case h_1=>cases h
      rename_i d hd;split at h
      case h_2=>cases h
      rename_i e' he;split at h
      case h_2=>cases h
      rename_i de hde;split at h
      case isTrue=>cases h
      rename_i hle;split at h
      case h_2=>cases h
      rename_i els hels;cases h;refine⟨_,_,_,rfl,fun σ2 h2=>?_⟩;simp only[hle,AqT,hels,h2]
theorem Agq{s:TypeId}{p f:Nat}(ho:o.op=.fieldAddr s (.tmp p) f)(ha:HT (ev fr (.tmp p))=some a)(h:DK E orc ops o fr σ=some (v,σ')) :σ'=σ∧∀σ2,DK E orc ops o fr σ2=some (v,σ2):=by
  have hf:ED E ops o=false:=by
    cases hf:ED E ops o
    · rfl
    · rcases Dn hf with⟨t,n,l,h⟩|⟨s,d,x,h,_⟩<;>rw[h]at ho<;>cases ho
  have e:∀σ,Fb false σ=some:=fun σ=>by funext r;simp[Fb]
  unfold DK at h ⊢;rw[hf]at h ⊢;cases hw:Ih ops fr o with
  |none=>simp[hw]at h
  | some w=>
    cases w with
    | false=>
      simp only[hw,AoM,AoV]at h ⊢;exact⟨h.2.symm,fun σ2=>⟨h.1,trivial⟩⟩
    | true=>
      simp only[hw,e,Bm]at h ⊢;obtain⟨off,hr⟩:=Mv ha;rw[ho]at h ⊢;simp only[Cu,DU,hr]at h ⊢;rw[AoL]at h;obtain⟨x,h,h3⟩:=h;cases h3;refine⟨rfl,fun σ2=>?_⟩
      have:Bh E σ2 s (.ref a off) f=Bh E σ s (.ref a off) f:=by
        unfold Bh;rfl
      rw[this,h];rfl
inductive Sep(E:Env)(orc:Option Tmp→Orc)(ops:Array Oper)(x y:Oper)(frF:List AV):Prop
  |call (p a:Nat) (hp:Pq y.op=some p) (ha:HT (ev frF (.tmp p))=some a) (hx:∀σ σ1 v,DK E orc ops x frF σ=some (v,σ1)→σ1[a]?=σ[a]?)
  |look (p q a b:Nat) (hp:Pq x.op=some p) (hq:RU y.op=some q) (ha:HT (ev frF (.tmp p))=some a) (hb:HT (ev frF (.tmp q))=some b) (hne:a≠b)
  |callY (p a:Nat) (hp:Pq x.op=some p) (ha:HT (ev frF (.tmp p))=some a) (hy:∀σ σ1 v,DK E orc ops y frF σ=some (v,σ1)→σ1[a]?=σ[a]?)
  |fa (s:TypeId) (p f a:Nat) (ho:y.op=.fieldAddr s (.tmp p) f) (ha:HT (ev frF (.tmp p))=some a)
  |build (q b:Nat) (hx:Mg x.op=true) (hf:ED E ops x=false) (hq:RU y.op=some q) (hb:HT (ev frF (.tmp q))=some b)
theorem N3{x y:Oper}{st st1 st2:St}(hap:x.apart ops y=true)(hc:Sep E orc ops x y st.fr) (h1:BQ E orc ops x st=some st1) (h2:BQ E orc ops y st1=some st2):∃st3,BQ E orc ops y st=some st3∧BQ E orc ops x st3=some st2:=by
  obtain⟨a1,a2,a3⟩:=Oper.apart_spec hap;unfold BQ at h1 h2 ⊢;rw[AoL]at h1 h2;obtain⟨⟨v,σ1⟩,hv,rfl⟩:=h1;obtain⟨⟨u,σ2⟩,hu,rfl⟩:=h2;simp only at hu ⊢;rw[Bt a1]at hu
  have fin:∀σ3,DK E orc ops y st.fr st.σ=some (u,σ3)→DK E orc ops x st.fr σ3=some (v,σ2) →
      ∃st3,(DK E orc ops y st.fr st.σ).map (fun r=>(⟨AH st.fr y.dst r.1,r.2⟩:St))=some st3∧(DK E orc ops x st3.fr st3.σ).map (fun r=>(⟨AH st3.fr x.dst r.1,r.2⟩:St))=some ⟨AH (AH st.fr x.dst v) y.dst u,σ2⟩:=by
    intro σ3 hy hx;refine⟨⟨AH st.fr y.dst u,σ3⟩,by rw[hy];rfl,?_⟩;simp only;rw[Bt a3,hx];simp only[App,Db st.fr v u a2]
  cases hc with
  | call p a hp ha hx=>
    have h1:=hx _ _ _ hv;obtain⟨rfl,_⟩:=DZ hp ha hu rfl;exact fin _ (DZ hp ha hu h1.symm).2 hv
  | fa s p f a ho ha=>
    obtain⟨rfl,hy⟩:=Agq ho ha hu;exact fin _ (hy _) hv
  | callY p a hp ha hy=>
    obtain⟨rfl,_⟩:=DZ hp ha hv rfl;exact fin _ hu (DZ hp ha hv (hy _ _ _ hu)).2
  | look p q a b hp hq ha hb hne=>
    obtain⟨rfl,_⟩:=DZ hp ha hv rfl;refine fin _ hu (DZ hp ha hv ?_).2;rcases PX hq hb hu with⟨_,rfl⟩|⟨off,xs,cs,_,rfl,_⟩
    · rfl
    · exact Apv (fun h=>hne h.symm)
  | build q b hx hf hq hb=>
    rcases WT hx hf hv with⟨hall,rfl⟩|⟨k,els,ro,rfl,hall⟩
    · exact fin _ hu (hall _)
    · rcases PX hq hb hu with⟨hs,rfl⟩|⟨off,xs,cs,hcs,rfl,hs⟩
      · exact fin _ (hs _) (hall _ rfl)
      · have hlt:b<st.σ.length:=by
          have:=(AoK.1 hcs).1;by_cases hb':b<st.σ.length
          · exact hb'
          · have he:b=st.σ.length:=by simp at this;omega
            rw[he]at hcs;simp at hcs
        have hcs':st.σ[b]?=some (.box cs false):=by
          rw[AoU hlt]at hcs;exact hcs
        refine fin _ (hs _ hcs') ?_;rw[hall _ (by simp),List.set_append_left _ _ hlt]
theorem Kp{orc:Option Tmp→Orc}{ops:Array Oper}{i:Nat}{y:Oper}(hi:ops[i]?=some y){l2:List Nat}{st':St}:∀(l1:List Nat) (st:St),(∀m1 j m2,l1=m1++j::m2→∀x,ops[j]?=some x→Jf E ops x y=true∨x.apart ops y=true∧∀st,AR E orc ops ((j::m2)++i::l2) st=some st'→Sep E orc ops x y st.fr)→AR E orc ops (l1++i::l2) st=some st' →∃st1,BQ E orc ops y st=some st1∧AR E orc ops (l1++l2) st1=some st'
  | [],st,_,h=>by
    simp only[ApC,AR,hi]at h;rw[AoW]at h;exact h
  | j :: l1,st,hc,h0=>by
    have h:=h0;simp only[Ao5,AR]at h;cases hj:ops[j]? with
    |none=>simp[hj]at h
    | some x=>
      simp only[hj]at h;rw[AoW]at h;obtain⟨s1,h1,h⟩:=h;obtain⟨s2,h2,h⟩:=Kp hi l1 s1 (fun m1 k m2 e=>hc (j::m1) k m2 (by rw[e];rfl)) h
      have:∃st3,BQ E orc ops y st=some st3∧BQ E orc ops x st3=some s2:=by
        rcases hc [] j l1 rfl x hj with hcb|⟨hap,hcy⟩
        · exact IW hcb h1 h2
        · exact N3 hap (hcy st h0) h1 h2
      obtain⟨s3,h3,h4⟩:=this;refine⟨s3,h3,?_⟩;simp only[Ao5,AR,hj,h4,AoP];exact h
def Gm(ops:Array Oper)(ts:List Nat)(ok:Nat→Bool)(t:Nat):Bool :=
 ts.contains t&&(List.range ops.size).all fun k=>ok k||(match ops[k]? with
  |some o=>o.dst != some t
  |none=>true)
def Wh(ps:List (Nat×Nat))(t:Nat):Option Nat:=(ps.find? fun p=>p.1==t).map (·.2)
def AnU(e:Nat×FuncId×List AV×Am×AV×Am):List (Nat×Nat)→Prop
 |[]=>True
 |q::xs=>(e.1=q.1→e.2.2.2.2.2[q.2]?=e.2.2.2.1[q.2]?)∧AnU e xs
def XOk:List (Nat×FuncId×List AV×Am×AV×Am)→List (Nat×Nat)→Prop
 |[],_=>True
 |e::m,xs=>AnU e xs∧XOk m xs
theorem Aai{e:Nat×FuncId×List AV×Am×AV×Am}:∀{xs:List (Nat×Nat)},AnU e xs→∀{a:Nat},(e.1,a)∈xs→e.2.2.2.2.2[a]?=e.2.2.2.1[a]?
  | q :: xs,h,a,hq=>by
    rcases Ao9.1 hq with hq|hq
    · have:=h.1 (by rw[←hq])
      rw[←hq]at this;exact this
    · exact Aai h.2 hq
theorem Aac{xs:List (Nat×Nat)}{t a:Nat}(ht:(t,a)∈xs){f:FuncId}{as:List AV}{σ σ':Am}{r:AV}:∀{m:List (Nat×FuncId×List AV×Am×AV×Am)},XOk m xs→R2 m (some t) f as σ=some (r,σ')→σ'[a]?=σ[a]?
  |[],_,h=>by cases h
  | e :: m,hx,h=>by
    unfold R2 at h;split at h
    · rename_i he
      split at h
      · rename_i hh
        cases he;have:=Aai hx.1 ht;have hr:e.2.2.2.2=(r,σ'):=AoR h;rw[hr,←hh.2.2]at this;exact this
      · cases h
    · exact Aac ht hx.2 h
theorem Kl{l:List (Nat×FuncId×List AV×AV)}{m:List (Nat×FuncId×List AV×Am×AV×Am)}{xs:List (Nat×Nat)}{t:Nat}(ho:Iw E o=true)(hd:o.dst=some t)(hm:XOk m xs)(ht:(t,a)∈xs)(hval:DK E (JN l m) ops o fr σ=some (v,σ')):σ'[a]?=σ[a]?:=by
  unfold DK at hval;cases hwn:Ih ops fr o with
  |none=>rw[hwn]at hval;cases hval
  | some b=>
    cases b with
    |false=>rw[hwn]at hval;cases hval;rfl
    | true=>
      rw[hwn]at hval;simp only at hval
      have hfz:ED E ops o=false:=by
        unfold Iw at ho;unfold ED;split
        · split
          · rename_i ee;rw[ee]at ho;cases ho
          · rename_i ee;rw[ee]at ho;cases ho
          · rfl
        · rfl
      have hfr:Fb (ED E ops o) σ=some:=by rw[hfz];funext q;simp[Fb]
      rw[hfr,Bm]at hval;unfold Iw at ho;unfold Cu at hval;split at ho
      case h_2=>cases ho
      rename_i c ec;simp only[ec]at hval;split at hval
      · rename_i bi eb
        unfold Qm at ho;rw[eb]at ho;cases ho
      · rw[AoO ho]at hval
        unfold AdH at hval;split at hval
        case h_2=>cases hval
        split at hval
        case h_2=>cases hval
        rw[hd]at hval;exact Aac ht hm hval
def Akt(E:Env)(ops:Array Oper)(T:List (List Nat))(ps xs:List (Nat×Nat))(ts:List Nat)(i:Nat)(x y:Oper):Bool :=
 match Pq y.op,x.dst with
 |some p,some t=>match Wh ps p with
  |none=>false
  |some a=>Gm ops ts (fun k=>(T.getD i []).contains k&&decide (k<i)) p&&Iw E x&&xs.contains (t,a)
 |_,_=>false
def Akw(E:Env)(ops:Array Oper)(ps xs:List (Nat×Nat))(ts:List Nat)(j:Nat)(x y:Oper):Bool :=
 match Pq x.op,y.dst with
 |some p,some t=>match Wh ps p with
  |none=>false
  |some a=>Gm ops ts (fun k=>decide (k<j)) p&&Iw E y&&xs.contains (t,a)
 |_,_=>false
def AkG(E:Env)(ops:Array Oper)(T:List (List Nat))(ps:List (Nat×Nat))(ts:List Nat)(j i:Nat)(x y:Oper):Bool :=
 match RU y.op with
 |none=>false
 | some q=>match Wh ps q with
  |none=>false
  | some b=>Gm ops ts (fun k=>(T.getD i []).contains k&&decide (k<i)) q&&((Mg x.op&&!ED E ops x)||(match Pq x.op with
   |none=>false
   |some p=>match Wh ps p with
    |none=>false
    |some a=>a != b&&Gm ops ts (fun k=>decide (k<j)) p))
def AkH(ops:Array Oper)(T:List (List Nat))(ps:List (Nat×Nat))(ts:List Nat)(i:Nat)(y:Oper):Bool :=
 match y.op with
 |.fieldAddr _ (.tmp p) _=>match Wh ps p with
  |none=>false
  |some _=>Gm ops ts (fun k=>(T.getD i []).contains k&&decide (k<i)) p
 |_=>false
def Abd(E:Env)(ops:Array Oper)(T:List (List Nat))(ps xs:List (Nat×Nat))(ts:List Nat):Bool :=
 (List.range ops.size).all fun i=>(List.range i).all fun j=>(T.getD i []).contains j||(match ops[j]?,ops[i]? with
  |some x,some y=>Jf E ops x y||(x.apart ops y&&(AkG E ops T ps ts j i x y||Akt E ops T ps xs ts i x y||AkH ops T ps ts i y||Akw E ops ps xs ts j x y))
  |_,_=>false)
def Xr(n:Nat)(fr:Fr):List (Nat×Nat)→Prop
 |[]=>True
 |p::ps=>HT (evL n fr (.tmp p.1))=some p.2∧Xr n fr ps
theorem Rp{n:Nat}{fr:Fr}:∀{ps:List (Nat×Nat)} {t a:Nat},Xr n fr ps→Wh ps t=some a→HT (evL n fr (.tmp t))=some a
  |[],t,a,_,h=>by cases h
  | p :: ps,t,a,hr,h=>by
    unfold Wh at h;rw[Ar0]at h;by_cases e:(p.1==t)=true
    · simp only[e]at h
      cases h;rw[←eq_of_beq e];exact hr.1
    · simp only[e]at h
      exact Rp hr.2 h
end Go.Rv
