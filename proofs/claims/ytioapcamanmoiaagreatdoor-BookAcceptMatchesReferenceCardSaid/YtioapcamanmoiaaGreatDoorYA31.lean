/-
  Part 31.
-/
import Derived.Test.YtioapcamanmoiaaGreatDoorYA30
namespace Go.Rv
open Go.RowKit
variable{orc:Option Tmp→Orc}{ops:Array Oper}{o:Oper}{fr:List AV}{σ σ':Ad}{v:AV}{a:Nat}
variable {E:Env}
@[go_sem] theorem AoB(f:FuncId)(l:List AV):(AV.fn f l).cells?=some [.fn f l]:=rfl
theorem ArS(n:Nat):(((no_index (OfNat.ofNat n)):Nat):Int)=(no_index (OfNat.ofNat n):Int):=rfl
def I1:AV→Option Nat
 |.ref id _=>some id
 |_=>none
theorem QH{x:AV}{id:Nat}(h:I1 x=some id):∃o,x=.ref id o:=by
 unfold I1 at h;split at h
 ·cases h;exact⟨_,rfl⟩
 ·cases h
def RR:Op→Option Nat
 |.load _ (.tmp p)=>some p
 |.fieldAddr _ (.tmp p) _=>some p
 |_=>none
def Vy:Op→Option Nat
 |.store _ (.tmp q) _=>some q
 |_=>none
def Oa:Op→Bool
 |.buildSlice ..=>true
 |_=>false
theorem Sj{u:AV}{q b:Nat}(hq:Vy o.op=some q)(hb:I1 (ev fr (.tmp q))=some b)(h:EV E orc ops o fr σ=some (u,σ')) :(∀σ2,EV E orc ops o fr σ2=some (u,σ2))∧σ'=σ∨∃off xs cs,σ[b]?=some (.box cs false)∧σ'=σ.set b (.box (splice cs off xs) false)∧∀σ2:Ad,σ2[b]?=some (.box cs false)→EV E orc ops o fr σ2=some (u,σ2.set b (.box (splice cs off xs) false)):=by
  have hf:FX E ops o=false:=by
    cases hf:FX E ops o
    · rfl
    · rcases Es hf with⟨t,n,l,h⟩|⟨s,d,x,h,_⟩<;>rw[h]at hq<;>cases hq
  have e:∀σ,G8 false σ=some:=fun σ=>by funext r;simp[G8]
  unfold EV at h ⊢;rw[hf]at h ⊢;cases hw:Ke ops fr o with
  |none=>simp[hw]at h
  | some w=>
    cases w with
    | false=>
      simp only[hw,AsW,As4]at h ⊢;exact .inl ⟨fun σ2=>⟨h.1,trivial⟩,h.2.symm⟩
    | true=>
      simp only[hw,e,Bw]at h ⊢;unfold Vy at hq;split at hq
      case h_2=>cases hq
      rename_i t q' x ho;cases hq;obtain⟨off,hr⟩:=QH hb
      have hop:∀σ,Dg E (orc o.dst) o.op fr σ=(match E.tab t with
          |some d=>(storeA σ d (.ref b off) (ev fr x)).map fun σ'=>(AV.junk,σ')
          |none=>none):=by
        intro σ;rw[ho];simp only[Dg,Ff,hr];cases E.tab t<;>rfl
      simp only[hop]at h ⊢;right;cases ht:E.tab t with
      |none=>simp[ht]at h
      | some d=>
        simp only[ht]at h ⊢;rw[AsV]at h;obtain⟨σ1,h,h2⟩:=h;cases h2;unfold storeA at h ⊢;cases hc:(ev fr x).cells? with
        |none=>simp[hc]at h
        | some xs=>
          simp only[hc]at h ⊢;by_cases hl:xs.length≠d.size
          · simp[hl]at h
          · simp only[hl,AuH]at h ⊢
            split at h
            case h_2=>cases h
            rename_i cs hcs;split at h
            case isFalse=>cases h
            rename_i hle;cases h;refine⟨off,xs,cs,hcs,rfl,fun σ2 h2=>?_⟩;simp[h2,hle]
theorem Fs{σ2:Ad}{p:Nat}(hp:RR o.op=some p)(ha:I1 (ev fr (.tmp p))=some a)(h:EV E orc ops o fr σ=some (v,σ'))(h2:σ2[a]?=σ[a]?) :σ'=σ∧EV E orc ops o fr σ2=some (v,σ2):=by
  have hf:FX E ops o=false:=by
    cases hf:FX E ops o
    · rfl
    · rcases Es hf with⟨t,n,l,h⟩|⟨s,d,x,h,_⟩<;>rw[h]at hp<;>cases hp
  have e:∀σ,G8 false σ=some:=fun σ=>by funext r;simp[G8]
  unfold EV at h ⊢;rw[hf]at h ⊢;cases hw:Ke ops fr o with
  |none=>simp[hw]at h
  | some w=>
    cases w with
    | false=>
      simp only[hw,AsW,As4]at h ⊢;exact⟨h.2.symm,h.1,trivial⟩
    | true=>
      simp only[hw,e,Bw]at h ⊢;obtain⟨off,hr⟩:=QH ha;unfold RR at hp;split at hp
      case h_3=>cases hp
      · rename_i t p' ho
        cases hp;rw[ho]at h ⊢;simp only[Dg,Ff,hr]at h ⊢;cases ht:E.tab t with
        |none=>simp[ht]at h
        | some d=>
          simp only[ht,loadA,h2]at h ⊢;rw[AsV]at h;obtain⟨x,h,h3⟩:=h;cases h3;exact⟨rfl,by rw[h];rfl⟩
      · rename_i s p' f ho
        cases hp;rw[ho]at h ⊢;simp only[Dg,Ff,hr]at h ⊢;rw[AsV]at h;obtain⟨x,h,h3⟩:=h;cases h3;refine⟨rfl,?_⟩
        have:BB E σ2 s (.ref a off) f=BB E σ s (.ref a off) f:=by
          unfold BB;rfl
        rw[this,h];rfl
theorem AaK(hb:Oa o.op=true)(hf:FX E ops o=false)(h:EV E orc ops o fr σ=some (v,σ')) :(∀σ2,EV E orc ops o fr σ2=some (v,σ2))∧σ'=σ∨∃k els ro,σ'=σ++[.buf k els ro]∧∀σ2:Ad,σ2.length=σ.length→EV E orc ops o fr σ2=some (v,σ2++[.buf k els ro]):=by
  have e:∀σ,G8 false σ=some:=fun σ=>by funext r;simp[G8]
  unfold EV at h ⊢;rw[hf]at h ⊢;cases hw:Ke ops fr o with
  |none=>simp[hw]at h
  | some w=>
    cases w with
    | false=>
      simp only[hw,AsW,As4]at h ⊢;exact .inl ⟨fun σ2=>⟨h.1,trivial⟩,h.2.symm⟩
    | true=>
      simp only[hw,e,Bw]at h ⊢;right;unfold Oa at hb;split at hb
      case h_2=>cases hb
      rename_i t n l ho;rw[ho]at h ⊢;simp only[Dg,Ff]at h ⊢;unfold DL at h ⊢;split at h
      case h_1=>cases h
      rename_i d hd;split at h
      case h_2=>cases h
      rename_i e' he;split at h
      case h_2=>cases h
      rename_i de hde;split at h
      case isTrue=>cases h
      rename_i hle;split at h
      case h_2=>cases h
      rename_i els hels;cases h;refine⟨_,_,_,rfl,fun σ2 h2=>?_⟩;simp only[hle,AuH,hels,h2]
theorem Aih{s:TypeId}{p f:Nat}(ho:o.op=.fieldAddr s (.tmp p) f)(ha:I1 (ev fr (.tmp p))=some a)(h:EV E orc ops o fr σ=some (v,σ')) :σ'=σ∧∀σ2,EV E orc ops o fr σ2=some (v,σ2):=by
  have hf:FX E ops o=false:=by
    cases hf:FX E ops o
    · rfl
    · rcases Es hf with⟨t,n,l,h⟩|⟨s,d,x,h,_⟩<;>rw[h]at ho<;>cases ho
  have e:∀σ,G8 false σ=some:=fun σ=>by funext r;simp[G8]
  unfold EV at h ⊢;rw[hf]at h ⊢;cases hw:Ke ops fr o with
  |none=>simp[hw]at h
  | some w=>
    cases w with
    | false=>
      simp only[hw,AsW,As4]at h ⊢;exact⟨h.2.symm,fun σ2=>⟨h.1,trivial⟩⟩
    | true=>
      simp only[hw,e,Bw]at h ⊢;obtain⟨off,hr⟩:=QH ha;rw[ho]at h ⊢;simp only[Dg,Ff,hr]at h ⊢;rw[AsV]at h;obtain⟨x,h,h3⟩:=h;cases h3;refine⟨rfl,fun σ2=>?_⟩
      have:BB E σ2 s (.ref a off) f=BB E σ s (.ref a off) f:=by
        unfold BB;rfl
      rw[this,h];rfl
inductive Sep(E:Env)(orc:Option Tmp→Orc)(ops:Array Oper)(x y:Oper)(frF:List AV):Prop
  |call (p a:Nat) (hp:RR y.op=some p) (ha:I1 (ev frF (.tmp p))=some a) (hx:∀σ σ1 v,EV E orc ops x frF σ=some (v,σ1)→σ1[a]?=σ[a]?)
  |look (p q a b:Nat) (hp:RR x.op=some p) (hq:Vy y.op=some q) (ha:I1 (ev frF (.tmp p))=some a) (hb:I1 (ev frF (.tmp q))=some b) (hne:a≠b)
  |callY (p a:Nat) (hp:RR x.op=some p) (ha:I1 (ev frF (.tmp p))=some a) (hy:∀σ σ1 v,EV E orc ops y frF σ=some (v,σ1)→σ1[a]?=σ[a]?)
  |fa (s:TypeId) (p f a:Nat) (ho:y.op=.fieldAddr s (.tmp p) f) (ha:I1 (ev frF (.tmp p))=some a)
  |build (q b:Nat) (hx:Oa x.op=true) (hf:FX E ops x=false) (hq:Vy y.op=some q) (hb:I1 (ev frF (.tmp q))=some b)
theorem Q4{x y:Oper}{st st1 st2:St}(hap:x.apart ops y=true)(hc:Sep E orc ops x y st.fr) (h1:CW E orc ops x st=some st1) (h2:CW E orc ops y st1=some st2):∃st3,CW E orc ops y st=some st3∧CW E orc ops x st3=some st2:=by
  obtain⟨a1,a2,a3⟩:=Oper.apart_spec hap;unfold CW at h1 h2 ⊢;rw[AsV]at h1 h2;obtain⟨⟨v,σ1⟩,hv,rfl⟩:=h1;obtain⟨⟨u,σ2⟩,hu,rfl⟩:=h2;simp only at hu ⊢;rw[BN a1]at hu
  have fin:∀σ3,EV E orc ops y st.fr st.σ=some (u,σ3)→EV E orc ops x st.fr σ3=some (v,σ2) →
      ∃st3,(EV E orc ops y st.fr st.σ).map (fun r=>(⟨AY st.fr y.dst r.1,r.2⟩:St))=some st3∧(EV E orc ops x st3.fr st3.σ).map (fun r=>(⟨AY st3.fr x.dst r.1,r.2⟩:St))=some ⟨AY (AY st.fr x.dst v) y.dst u,σ2⟩:=by
    intro σ3 hy hx;refine⟨⟨AY st.fr y.dst u,σ3⟩,by rw[hy];rfl,?_⟩;simp only;rw[BN a3,hx];simp only[AtC,Eh st.fr v u a2]
  cases hc with
  | call p a hp ha hx=>
    have h1:=hx _ _ _ hv;obtain⟨rfl,_⟩:=Fs hp ha hu rfl;exact fin _ (Fs hp ha hu h1.symm).2 hv
  | fa s p f a ho ha=>
    obtain⟨rfl,hy⟩:=Aih ho ha hu;exact fin _ (hy _) hv
  | callY p a hp ha hy=>
    obtain⟨rfl,_⟩:=Fs hp ha hv rfl;exact fin _ hu (Fs hp ha hv (hy _ _ _ hu)).2
  | look p q a b hp hq ha hb hne=>
    obtain⟨rfl,_⟩:=Fs hp ha hv rfl;refine fin _ hu (Fs hp ha hv ?_).2;rcases Sj hq hb hu with⟨_,rfl⟩|⟨off,xs,cs,_,rfl,_⟩
    · rfl
    · exact AtF (fun h=>hne h.symm)
  | build q b hx hf hq hb=>
    rcases AaK hx hf hv with⟨hall,rfl⟩|⟨k,els,ro,rfl,hall⟩
    · exact fin _ hu (hall _)
    · rcases Sj hq hb hu with⟨hs,rfl⟩|⟨off,xs,cs,hcs,rfl,hs⟩
      · exact fin _ (hs _) (hall _ rfl)
      · have hlt:b<st.σ.length:=by
          have:=(AsT.1 hcs).1;by_cases hb':b<st.σ.length
          · exact hb'
          · have he:b=st.σ.length:=by simp at this;omega
            rw[he]at hcs;simp at hcs
        have hcs':st.σ[b]?=some (.box cs false):=by
          rw[As3 hlt]at hcs;exact hcs
        refine fin _ (hs _ hcs') ?_;rw[hall _ (by simp),List.set_append_left _ _ hlt]
theorem Mg{orc:Option Tmp→Orc}{ops:Array Oper}{i:Nat}{y:Oper}(hi:ops[i]?=some y){l2:List Nat}{st':St}:∀(l1:List Nat) (st:St),(∀m1 j m2,l1=m1++j::m2→∀x,ops[j]?=some x→KJ E ops x y=true∨x.apart ops y=true∧∀st,BC E orc ops ((j::m2)++i::l2) st=some st'→Sep E orc ops x y st.fr)→BC E orc ops (l1++i::l2) st=some st' →∃st1,CW E orc ops y st=some st1∧BC E orc ops (l1++l2) st1=some st'
  | [],st,_,h=>by
    simp only[AtH,BC,hi]at h;rw[As6]at h;exact h
  | j :: l1,st,hc,h0=>by
    have h:=h0;simp only[Atj,BC]at h;cases hj:ops[j]? with
    |none=>simp[hj]at h
    | some x=>
      simp only[hj]at h;rw[As6]at h;obtain⟨s1,h1,h⟩:=h;obtain⟨s2,h2,h⟩:=Mg hi l1 s1 (fun m1 k m2 e=>hc (j::m1) k m2 (by rw[e];rfl)) h
      have:∃st3,CW E orc ops y st=some st3∧CW E orc ops x st3=some s2:=by
        rcases hc [] j l1 rfl x hj with hcb|⟨hap,hcy⟩
        · exact K3 hcb h1 h2
        · exact Q4 hap (hcy st h0) h1 h2
      obtain⟨s3,h3,h4⟩:=this;refine⟨s3,h3,?_⟩;simp only[Atj,BC,hj,h4,AsY];exact h
def G1(ops:Array Oper)(ts:List Nat)(ok:Nat→Bool)(t:Nat):Bool :=
 ts.contains t&&(List.range ops.size).all fun k=>ok k||(match ops[k]? with
  |some o=>o.dst != some t
  |none=>true)
def Ym(ps:List (Nat×Nat))(t:Nat):Option Nat:=(ps.find? fun p=>p.1==t).map (·.2)
def AqM(e:Nat×FuncId×List AV×Ad×AV×Ad):List (Nat×Nat)→Prop
 |[]=>True
 |q::xs=>(e.1=q.1→e.2.2.2.2.2[q.2]?=e.2.2.2.1[q.2]?)∧AqM e xs
def XOk:List (Nat×FuncId×List AV×Ad×AV×Ad)→List (Nat×Nat)→Prop
 |[],_=>True
 |e::m,xs=>AqM e xs∧XOk m xs
theorem AbP{e:Nat×FuncId×List AV×Ad×AV×Ad}:∀{xs:List (Nat×Nat)},AqM e xs→∀{a:Nat},(e.1,a)∈xs→e.2.2.2.2.2[a]?=e.2.2.2.1[a]?
  | q :: xs,h,a,hq=>by
    rcases Atu.1 hq with hq|hq
    · have:=h.1 (by rw[←hq])
      rw[←hq]at this;exact this
    · exact AbP h.2 hq
theorem Ad7{xs:List (Nat×Nat)}{t a:Nat}(ht:(t,a)∈xs){f:FuncId}{as:List AV}{σ σ':Ad}{r:AV}:∀{m:List (Nat×FuncId×List AV×Ad×AV×Ad)},XOk m xs→VQ m (some t) f as σ=some (r,σ')→σ'[a]?=σ[a]?
  |[],_,h=>by cases h
  | e :: m,hx,h=>by
    unfold VQ at h;split at h
    · rename_i he
      split at h
      · rename_i hh
        cases he;have:=AbP hx.1 ht;have hr:e.2.2.2.2=(r,σ'):=AtA h;rw[hr,←hh.2.2]at this;exact this
      · cases h
    · exact Ad7 ht hx.2 h
theorem Iv{l:List (Nat×FuncId×List AV×AV)}{m:List (Nat×FuncId×List AV×Ad×AV×Ad)}{xs:List (Nat×Nat)}{t:Nat}(ho:Kw E o=true)(hd:o.dst=some t)(hm:XOk m xs)(ht:(t,a)∈xs)(hval:EV E (J4 l m) ops o fr σ=some (v,σ')):σ'[a]?=σ[a]?:=by
  unfold EV at hval;cases hwn:Ke ops fr o with
  |none=>rw[hwn]at hval;cases hval
  | some b=>
    cases b with
    |false=>rw[hwn]at hval;cases hval;rfl
    | true=>
      rw[hwn]at hval;simp only at hval
      have hfz:FX E ops o=false:=by
        unfold Kw at ho;unfold FX;split
        · split
          · rename_i ee;rw[ee]at ho;cases ho
          · rename_i ee;rw[ee]at ho;cases ho
          · rfl
        · rfl
      have hfr:G8 (FX E ops o) σ=some:=by rw[hfz];funext q;simp[G8]
      rw[hfr,Bw]at hval;unfold Kw at ho;unfold Dg at hval;split at ho
      case h_2=>cases ho
      rename_i c ec;simp only[ec]at hval;split at hval
      · rename_i bi eb
        unfold T7 at ho;rw[eb]at ho;cases ho
      · rw[AsU ho]at hval
        unfold Ahh at hval;split at hval
        case h_2=>cases hval
        split at hval
        case h_2=>cases hval
        rw[hd]at hval;exact Ad7 ht hm hval
def AkF(E:Env)(ops:Array Oper)(T:List (List Nat))(ps xs:List (Nat×Nat))(ts:List Nat)(i:Nat)(x y:Oper):Bool :=
 match RR y.op,x.dst with
 |some p,some t=>match Ym ps p with
  |none=>false
  |some a=>G1 ops ts (fun k=>(T.getD i []).contains k&&decide (k<i)) p&&Kw E x&&xs.contains (t,a)
 |_,_=>false
def Akz(E:Env)(ops:Array Oper)(ps xs:List (Nat×Nat))(ts:List Nat)(j:Nat)(x y:Oper):Bool :=
 match RR x.op,y.dst with
 |some p,some t=>match Ym ps p with
  |none=>false
  |some a=>G1 ops ts (fun k=>decide (k<j)) p&&Kw E y&&xs.contains (t,a)
 |_,_=>false
def AkG(E:Env)(ops:Array Oper)(T:List (List Nat))(ps:List (Nat×Nat))(ts:List Nat)(j i:Nat)(x y:Oper):Bool :=
 match Vy y.op with
 |none=>false
 | some q=>match Ym ps q with
  |none=>false
  | some b=>G1 ops ts (fun k=>(T.getD i []).contains k&&decide (k<i)) q&&((Oa x.op&&!FX E ops x)||(match RR x.op with
   |none=>false
   |some p=>match Ym ps p with
    |none=>false
    |some a=>a != b&&G1 ops ts (fun k=>decide (k<j)) p))
def AkA(ops:Array Oper)(T:List (List Nat))(ps:List (Nat×Nat))(ts:List Nat)(i:Nat)(y:Oper):Bool :=
 match y.op with
 |.fieldAddr _ (.tmp p) _=>match Ym ps p with
  |none=>false
  |some _=>G1 ops ts (fun k=>(T.getD i []).contains k&&decide (k<i)) p
 |_=>false
def Ade(E:Env)(ops:Array Oper)(T:List (List Nat))(ps xs:List (Nat×Nat))(ts:List Nat):Bool :=
 (List.range ops.size).all fun i=>(List.range i).all fun j=>(T.getD i []).contains j||(match ops[j]?,ops[i]? with
  |some x,some y=>KJ E ops x y||(x.apart ops y&&(AkG E ops T ps ts j i x y||AkF E ops T ps xs ts i x y||AkA ops T ps ts i y||Akz E ops ps xs ts j x y))
  |_,_=>false)
def VK(n:Nat)(fr:Fr):List (Nat×Nat)→Prop
 |[]=>True
 |p::ps=>I1 (evL n fr (.tmp p.1))=some p.2∧VK n fr ps
theorem Of{n:Nat}{fr:Fr}:∀{ps:List (Nat×Nat)} {t a:Nat},VK n fr ps→Ym ps t=some a→I1 (evL n fr (.tmp t))=some a
  |[],t,a,_,h=>by cases h
  | p :: ps,t,a,hr,h=>by
    unfold Ym at h;rw[Av8]at h;by_cases e:(p.1==t)=true
    · simp only[e]at h
      cases h;rw[←eq_of_beq e];exact hr.1
    · simp only[e]at h
      exact Of hr.2 h
end Go.Rv
