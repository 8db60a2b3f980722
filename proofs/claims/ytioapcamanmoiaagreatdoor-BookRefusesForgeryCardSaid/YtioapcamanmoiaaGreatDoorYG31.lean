/-
  Part 31.
-/
import Derived.Test.YtioapcamanmoiaaGreatDoorYG30
namespace Go.Rv
open Go.RowKit
set_option linter.unusedVariables false
set_option linter.unusedSimpArgs false
variable{orc:Option Tmp→Orc}{ops:Array Oper}{o:Oper}{fr:List AV}{σ σ':Am}{v:AV}{a:Nat}
variable {E:Env}
@[go_sem] theorem AlE(f:FuncId)(l:List AV):(AV.fn f l).cells?=some [.fn f l]:=rfl
theorem AoJ(n:Nat):(((no_index (OfNat.ofNat n)):Nat):Int)=(no_index (OfNat.ofNat n):Int):=rfl
def Ig:AV→Option Nat
 |.ref id _=>some id
 |_=>none
theorem NX{x:AV}{id:Nat}(h:Ig x=some id):∃o,x=.ref id o:=by
 unfold Ig at h;split at h
 ·cases h;exact⟨_,rfl⟩
 ·cases h
def PC:Op→Option Nat
 |.load _ (.tmp p)=>some p
 |.fieldAddr _ (.tmp p) _=>some p
 |_=>none
def Sd:Op→Option Nat
 |.store _ (.tmp q) _=>some q
 |_=>none
def Me:Op→Bool
 |.buildSlice ..=>true
 |_=>false
theorem Qx{u:AV}{q b:Nat}(hq:Sd o.op=some q)(hb:Ig (ev fr (.tmp q))=some b)(h:E0 E orc ops o fr σ=some (u,σ')) :(∀σ2,E0 E orc ops o fr σ2=some (u,σ2))∧σ'=σ∨∃off xs cs,σ[b]?=some (.box cs false)∧σ'=σ.set b (.box (splice cs off xs) false)∧∀σ2:Am,σ2[b]?=some (.box cs false)→E0 E orc ops o fr σ2=some (u,σ2.set b (.box (splice cs off xs) false)):=by
  have hf:F7 E ops o=false:=by
    cases hf:F7 E ops o
    · rfl
    · rcases Ec hf with⟨t,n,l,h⟩|⟨s,d,x,h,_⟩<;>rw[h]at hq<;>cases hq
  have e:∀σ,FF false σ=some:=fun σ=>by funext r;simp[FF]
  unfold E0 at h ⊢;rw[hf]at h ⊢;cases hw:Ix ops fr o with
  |none=>simp[hw]at h
  | some w=>
    cases w with
    | false=>
      simp only[hw,ApT,Ap2]at h ⊢;exact .inl ⟨fun σ2=>⟨h.1,trivial⟩,h.2.symm⟩
    | true=>
      simp only[hw,e,Bk]at h ⊢;unfold Sd at hq;split at hq
      case h_2=>cases hq
      rename_i t q' x ho;cases hq;obtain⟨off,hr⟩:=NX hb
      have hop:∀σ,CI E (orc o.dst) o.op fr σ=(match E.tab t with
          |some d=>(storeA σ d (.ref b off) (ev fr x)).map fun σ'=>(AV.junk,σ')
          |none=>none):=by
        intro σ;rw[ho];simp only[CI,E4,hr];cases E.tab t<;>rfl
      simp only[hop]at h ⊢;right;cases ht:E.tab t with
      |none=>simp[ht]at h
      | some d=>
        simp only[ht]at h ⊢;rw[ApS]at h;obtain⟨σ1,h,h2⟩:=h;cases h2;unfold storeA at h ⊢;cases hc:(ev fr x).cells? with
        |none=>simp[hc]at h
        | some xs=>
          simp only[hc]at h ⊢;by_cases hl:xs.length≠d.size
          · simp[hl]at h
          · simp only[hl,ArA]at h ⊢
            split at h
            case h_2=>cases h
            rename_i cs hcs;split at h
            case isFalse=>cases h
            rename_i hle;cases h;refine⟨off,xs,cs,hcs,rfl,fun σ2 h2=>?_⟩;simp[h2,hle]
theorem EH{σ2:Am}{p:Nat}(hp:PC o.op=some p)(ha:Ig (ev fr (.tmp p))=some a)(h:E0 E orc ops o fr σ=some (v,σ'))(h2:σ2[a]?=σ[a]?) :σ'=σ∧E0 E orc ops o fr σ2=some (v,σ2):=by
  have hf:F7 E ops o=false:=by
    cases hf:F7 E ops o
    · rfl
    · rcases Ec hf with⟨t,n,l,h⟩|⟨s,d,x,h,_⟩<;>rw[h]at hp<;>cases hp
  have e:∀σ,FF false σ=some:=fun σ=>by funext r;simp[FF]
  unfold E0 at h ⊢;rw[hf]at h ⊢;cases hw:Ix ops fr o with
  |none=>simp[hw]at h
  | some w=>
    cases w with
    | false=>
      simp only[hw,ApT,Ap2]at h ⊢;exact⟨h.2.symm,h.1,trivial⟩
    | true=>
      simp only[hw,e,Bk]at h ⊢;obtain⟨off,hr⟩:=NX ha;unfold PC at hp;split at hp
      case h_3=>cases hp
      · rename_i t p' ho
        cases hp;rw[ho]at h ⊢;simp only[CI,E4,hr]at h ⊢;cases ht:E.tab t with
        |none=>simp[ht]at h
        | some d=>
          simp only[ht,loadA,h2]at h ⊢;rw[ApS]at h;obtain⟨x,h,h3⟩:=h;cases h3;exact⟨rfl,by rw[h];rfl⟩
      · rename_i s p' f ho
        cases hp;rw[ho]at h ⊢;simp only[CI,E4,hr]at h ⊢;rw[ApS]at h;obtain⟨x,h,h3⟩:=h;cases h3;refine⟨rfl,?_⟩
        have:B0 E σ2 s (.ref a off) f=B0 E σ s (.ref a off) f:=by
          unfold B0;rfl
        rw[this,h];rfl
theorem XO(hb:Me o.op=true)(hf:F7 E ops o=false)(h:E0 E orc ops o fr σ=some (v,σ')) :(∀σ2,E0 E orc ops o fr σ2=some (v,σ2))∧σ'=σ∨∃k els ro,σ'=σ++[.buf k els ro]∧∀σ2:Am,σ2.length=σ.length→E0 E orc ops o fr σ2=some (v,σ2++[.buf k els ro]):=by
  have e:∀σ,FF false σ=some:=fun σ=>by funext r;simp[FF]
  unfold E0 at h ⊢;rw[hf]at h ⊢;cases hw:Ix ops fr o with
  |none=>simp[hw]at h
  | some w=>
    cases w with
    | false=>
      simp only[hw,ApT,Ap2]at h ⊢;exact .inl ⟨fun σ2=>⟨h.1,trivial⟩,h.2.symm⟩
    | true=>
      simp only[hw,e,Bk]at h ⊢;right;unfold Me at hb;split at hb
      case h_2=>cases hb
      rename_i t n l ho;rw[ho]at h ⊢;simp only[CI,E4]at h ⊢;unfold Dj at h ⊢;split at h
      case h_1=>cases h
      rename_i d hd;split at h
      case h_2=>cases h
      rename_i e' he;split at h
      case h_2=>cases h
      rename_i de hde;split at h
      case isTrue=>cases h
      rename_i hle;split at h
      case h_2=>cases h
      rename_i els hels;cases h;refine⟨_,_,_,rfl,fun σ2 h2=>?_⟩;simp only[hle,ArA,hels,h2]
theorem AgH{s:TypeId}{p f:Nat}(ho:o.op=.fieldAddr s (.tmp p) f)(ha:Ig (ev fr (.tmp p))=some a)(h:E0 E orc ops o fr σ=some (v,σ')) :σ'=σ∧∀σ2,E0 E orc ops o fr σ2=some (v,σ2):=by
  have hf:F7 E ops o=false:=by
    cases hf:F7 E ops o
    · rfl
    · rcases Ec hf with⟨t,n,l,h⟩|⟨s,d,x,h,_⟩<;>rw[h]at ho<;>cases ho
  have e:∀σ,FF false σ=some:=fun σ=>by funext r;simp[FF]
  unfold E0 at h ⊢;rw[hf]at h ⊢;cases hw:Ix ops fr o with
  |none=>simp[hw]at h
  | some w=>
    cases w with
    | false=>
      simp only[hw,ApT,Ap2]at h ⊢;exact⟨h.2.symm,fun σ2=>⟨h.1,trivial⟩⟩
    | true=>
      simp only[hw,e,Bk]at h ⊢;obtain⟨off,hr⟩:=NX ha;rw[ho]at h ⊢;simp only[CI,E4,hr]at h ⊢;rw[ApS]at h;obtain⟨x,h,h3⟩:=h;cases h3;refine⟨rfl,fun σ2=>?_⟩
      have:B0 E σ2 s (.ref a off) f=B0 E σ s (.ref a off) f:=by
        unfold B0;rfl
      rw[this,h];rfl
inductive Sep(E:Env)(orc:Option Tmp→Orc)(ops:Array Oper)(x y:Oper)(frF:List AV):Prop
  |call (p a:Nat) (hp:PC y.op=some p) (ha:Ig (ev frF (.tmp p))=some a) (hx:∀σ σ1 v,E0 E orc ops x frF σ=some (v,σ1)→σ1[a]?=σ[a]?)
  |look (p q a b:Nat) (hp:PC x.op=some p) (hq:Sd y.op=some q) (ha:Ig (ev frF (.tmp p))=some a) (hb:Ig (ev frF (.tmp q))=some b) (hne:a≠b)
  |callY (p a:Nat) (hp:PC x.op=some p) (ha:Ig (ev frF (.tmp p))=some a) (hy:∀σ σ1 v,E0 E orc ops y frF σ=some (v,σ1)→σ1[a]?=σ[a]?)
  |fa (s:TypeId) (p f a:Nat) (ho:y.op=.fieldAddr s (.tmp p) f) (ha:Ig (ev frF (.tmp p))=some a)
  |build (q b:Nat) (hx:Me x.op=true) (hf:F7 E ops x=false) (hq:Sd y.op=some q) (hb:Ig (ev frF (.tmp q))=some b)
theorem N4{x y:Oper}{st st1 st2:St}(hap:x.apart ops y=true)(hc:Sep E orc ops x y st.fr) (h1:CC E orc ops x st=some st1) (h2:CC E orc ops y st1=some st2):∃st3,CC E orc ops y st=some st3∧CC E orc ops x st3=some st2:=by
  obtain⟨a1,a2,a3⟩:=Oper.apart_spec hap;unfold CC at h1 h2 ⊢;rw[ApS]at h1 h2;obtain⟨⟨v,σ1⟩,hv,rfl⟩:=h1;obtain⟨⟨u,σ2⟩,hu,rfl⟩:=h2;simp only at hu ⊢;rw[BC a1]at hu
  have fin:∀σ3,E0 E orc ops y st.fr st.σ=some (u,σ3)→E0 E orc ops x st.fr σ3=some (v,σ2) →
      ∃st3,(E0 E orc ops y st.fr st.σ).map (fun r=>(⟨AP st.fr y.dst r.1,r.2⟩:St))=some st3∧(E0 E orc ops x st3.fr st3.σ).map (fun r=>(⟨AP st3.fr x.dst r.1,r.2⟩:St))=some ⟨AP (AP st.fr x.dst v) y.dst u,σ2⟩:=by
    intro σ3 hy hx;refine⟨⟨AP st.fr y.dst u,σ3⟩,by rw[hy];rfl,?_⟩;simp only;rw[BC a3,hx];simp only[Aqv,DZ st.fr v u a2]
  cases hc with
  | call p a hp ha hx=>
    have h1:=hx _ _ _ hv;obtain⟨rfl,_⟩:=EH hp ha hu rfl;exact fin _ (EH hp ha hu h1.symm).2 hv
  | fa s p f a ho ha=>
    obtain⟨rfl,hy⟩:=AgH ho ha hu;exact fin _ (hy _) hv
  | callY p a hp ha hy=>
    obtain⟨rfl,_⟩:=EH hp ha hv rfl;exact fin _ hu (EH hp ha hv (hy _ _ _ hu)).2
  | look p q a b hp hq ha hb hne=>
    obtain⟨rfl,_⟩:=EH hp ha hv rfl;refine fin _ hu (EH hp ha hv ?_).2;rcases Qx hq hb hu with⟨_,rfl⟩|⟨off,xs,cs,_,rfl,_⟩
    · rfl
    · exact Aqx (fun h=>hne h.symm)
  | build q b hx hf hq hb=>
    rcases XO hx hf hv with⟨hall,rfl⟩|⟨k,els,ro,rfl,hall⟩
    · exact fin _ hu (hall _)
    · rcases Qx hq hb hu with⟨hs,rfl⟩|⟨off,xs,cs,hcs,rfl,hs⟩
      · exact fin _ (hs _) (hall _ rfl)
      · have hlt:b<st.σ.length:=by
          have:=(ApR.1 hcs).1;by_cases hb':b<st.σ.length
          · exact hb'
          · have he:b=st.σ.length:=by simp at this;omega
            rw[he]at hcs;simp at hcs
        have hcs':st.σ[b]?=some (.box cs false):=by
          rw[Ap0 hlt]at hcs;exact hcs
        refine fin _ (hs _ hcs') ?_;rw[hall _ (by simp),List.set_append_left _ _ hlt]
theorem Kx{orc:Option Tmp→Orc}{ops:Array Oper}{i:Nat}{y:Oper}(hi:ops[i]?=some y){l2:List Nat}{st':St}:∀(l1:List Nat) (st:St),(∀m1 j m2,l1=m1++j::m2→∀x,ops[j]?=some x→JW E ops x y=true∨x.apart ops y=true∧∀st,B2 E orc ops ((j::m2)++i::l2) st=some st'→Sep E orc ops x y st.fr)→B2 E orc ops (l1++i::l2) st=some st' →∃st1,CC E orc ops y st=some st1∧B2 E orc ops (l1++l2) st1=some st'
  | [],st,_,h=>by
    simp only[AqP,B2,hi]at h;rw[Ap4]at h;exact h
  | j :: l1,st,hc,h0=>by
    have h:=h0;simp only[Aqh,B2]at h;cases hj:ops[j]? with
    |none=>simp[hj]at h
    | some x=>
      simp only[hj]at h;rw[Ap4]at h;obtain⟨s1,h1,h⟩:=h;obtain⟨s2,h2,h⟩:=Kx hi l1 s1 (fun m1 k m2 e=>hc (j::m1) k m2 (by rw[e];rfl)) h
      have:∃st3,CC E orc ops y st=some st3∧CC E orc ops x st3=some s2:=by
        rcases hc [] j l1 rfl x hj with hcb|⟨hap,hcy⟩
        · exact IR hcb h1 h2
        · exact N4 hap (hcy st h0) h1 h2
      obtain⟨s3,h3,h4⟩:=this;refine⟨s3,h3,?_⟩;simp only[Aqh,B2,hj,h4,ApX];exact h
def GI(ops:Array Oper)(ts:List Nat)(ok:Nat→Bool)(t:Nat):Bool :=
 ts.contains t&&(List.range ops.size).all fun k=>ok k||(match ops[k]? with
  |some o=>o.dst != some t
  |none=>true)
def WU(ps:List (Nat×Nat))(t:Nat):Option Nat:=(ps.find? fun p=>p.1==t).map (·.2)
def AoA(e:Nat×FuncId×List AV×Am×AV×Am):List (Nat×Nat)→Prop
 |[]=>True
 |q::xs=>(e.1=q.1→e.2.2.2.2.2[q.2]?=e.2.2.2.1[q.2]?)∧AoA e xs
def XOk:List (Nat×FuncId×List AV×Am×AV×Am)→List (Nat×Nat)→Prop
 |[],_=>True
 |e::m,xs=>AoA e xs∧XOk m xs
theorem AaE{e:Nat×FuncId×List AV×Am×AV×Am}:∀{xs:List (Nat×Nat)},AoA e xs→∀{a:Nat},(e.1,a)∈xs→e.2.2.2.2.2[a]?=e.2.2.2.1[a]?
  | q :: xs,h,a,hq=>by
    rcases Aqq.1 hq with hq|hq
    · have:=h.1 (by rw[←hq])
      rw[←hq]at this;exact this
    · exact AaE h.2 hq
theorem Aaq{xs:List (Nat×Nat)}{t a:Nat}(ht:(t,a)∈xs){f:FuncId}{as:List AV}{σ σ':Am}{r:AV}:∀{m:List (Nat×FuncId×List AV×Am×AV×Am)},XOk m xs→T5 m (some t) f as σ=some (r,σ')→σ'[a]?=σ[a]?
  |[],_,h=>by cases h
  | e :: m,hx,h=>by
    unfold T5 at h;split at h
    · rename_i he
      split at h
      · rename_i hh
        cases he;have:=AaE hx.1 ht;have hr:e.2.2.2.2=(r,σ'):=Aqp h;rw[hr,←hh.2.2]at this;exact this
      · cases h
    · exact Aaq ht hx.2 h
theorem K3{l:List (Nat×FuncId×List AV×AV)}{m:List (Nat×FuncId×List AV×Am×AV×Am)}{xs:List (Nat×Nat)}{t:Nat}(ho:Im E o=true)(hd:o.dst=some t)(hm:XOk m xs)(ht:(t,a)∈xs)(hval:E0 E (K5 l m) ops o fr σ=some (v,σ')):σ'[a]?=σ[a]?:=by
  unfold E0 at hval;cases hwn:Ix ops fr o with
  |none=>rw[hwn]at hval;cases hval
  | some b=>
    cases b with
    |false=>rw[hwn]at hval;cases hval;rfl
    | true=>
      rw[hwn]at hval;simp only at hval
      have hfz:F7 E ops o=false:=by
        unfold Im at ho;unfold F7;split
        · split
          · rename_i ee;rw[ee]at ho;cases ho
          · rename_i ee;rw[ee]at ho;cases ho
          · rfl
        · rfl
      have hfr:FF (F7 E ops o) σ=some:=by rw[hfz];funext q;simp[FF]
      rw[hfr,Bk]at hval;unfold Im at ho;unfold CI at hval;split at ho
      case h_2=>cases ho
      rename_i c ec;simp only[ec]at hval;split at hval
      · rename_i bi eb
        unfold Rg at ho;rw[eb]at ho;cases ho
      · rw[ApU ho]at hval
        unfold Aec at hval;split at hval
        case h_2=>cases hval
        split at hval
        case h_2=>cases hval
        rw[hd]at hval;exact Aaq ht hm hval
def AlA(E:Env)(ops:Array Oper)(T:List (List Nat))(ps xs:List (Nat×Nat))(ts:List Nat)(i:Nat)(x y:Oper):Bool :=
 match PC y.op,x.dst with
 |some p,some t=>match WU ps p with
  |none=>false
  |some a=>GI ops ts (fun k=>(T.getD i []).contains k&&decide (k<i)) p&&Im E x&&xs.contains (t,a)
 |_,_=>false
def Alx(E:Env)(ops:Array Oper)(ps xs:List (Nat×Nat))(ts:List Nat)(j:Nat)(x y:Oper):Bool :=
 match PC x.op,y.dst with
 |some p,some t=>match WU ps p with
  |none=>false
  |some a=>GI ops ts (fun k=>decide (k<j)) p&&Im E y&&xs.contains (t,a)
 |_,_=>false
def Alz(E:Env)(ops:Array Oper)(T:List (List Nat))(ps:List (Nat×Nat))(ts:List Nat)(j i:Nat)(x y:Oper):Bool :=
 match Sd y.op with
 |none=>false
 | some q=>match WU ps q with
  |none=>false
  | some b=>GI ops ts (fun k=>(T.getD i []).contains k&&decide (k<i)) q&&((Me x.op&&!F7 E ops x)||(match PC x.op with
   |none=>false
   |some p=>match WU ps p with
    |none=>false
    |some a=>a != b&&GI ops ts (fun k=>decide (k<j)) p))
def AlG(ops:Array Oper)(T:List (List Nat))(ps:List (Nat×Nat))(ts:List Nat)(i:Nat)(y:Oper):Bool :=
 match y.op with
 |.fieldAddr _ (.tmp p) _=>match WU ps p with
  |none=>false
  |some _=>GI ops ts (fun k=>(T.getD i []).contains k&&decide (k<i)) p
 |_=>false
def Aax(E:Env)(ops:Array Oper)(T:List (List Nat))(ps xs:List (Nat×Nat))(ts:List Nat):Bool :=
 (List.range ops.size).all fun i=>(List.range i).all fun j=>(T.getD i []).contains j||(match ops[j]?,ops[i]? with
  |some x,some y=>JW E ops x y||(x.apart ops y&&(Alz E ops T ps ts j i x y||AlA E ops T ps xs ts i x y||AlG ops T ps ts i y||Alx E ops ps xs ts j x y))
  |_,_=>false)
def WZ(n:Nat)(fr:Fr):List (Nat×Nat)→Prop
 |[]=>True
 |p::ps=>Ig (evL n fr (.tmp p.1))=some p.2∧WZ n fr ps
theorem Q4{n:Nat}{fr:Fr}:∀{ps:List (Nat×Nat)} {t a:Nat},WZ n fr ps→WU ps t=some a→Ig (evL n fr (.tmp t))=some a
  |[],t,a,_,h=>by cases h
  | p :: ps,t,a,hr,h=>by
    unfold WU at h;rw[AsW]at h;by_cases e:(p.1==t)=true
    · simp only[e]at h
      cases h;rw[←eq_of_beq e];exact hr.1
    · simp only[e]at h
      exact Q4 hr.2 h
end Go.Rv
