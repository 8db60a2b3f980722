/-
  Part 35.
-/
import Derived.Test.YtldngkmkhfddpaaDoorYT34
namespace Go.Rv
open Go.RowKit
set_option linter.unusedVariables false
set_option linter.unusedSimpArgs false
variable {E:Env}
@[go_sem] theorem Acm(f:FuncId)(l:List AV):(AV.fn f l).cells?=some [.fn f l]:=rfl
theorem Acu(n:Nat):(((no_index (OfNat.ofNat n)):Nat):Int)=(no_index (OfNat.ofNat n):Int):=rfl
def FW:AV→Option Nat
 |.ref id _=>some id
 |_=>none
theorem IV{x:AV}{id:Nat}(h:FW x=some id):∃o,x=.ref id o:=by
 unfold FW at h
 split at h
 ·cases h;exact⟨_,rfl⟩
 ·cases h
def K1:Op→Option Nat
 |.load _ (.tmp p)=>some p
 |.fieldAddr _ (.tmp p) _=>some p
 |_=>none
def Pb:Op→Option Nat
 |.store _ (.tmp q) _=>some q
 |_=>none
def G8:Op→Bool
 |.buildSlice ..=>true
 |_=>false
theorem Mq{orc:Option Tmp→Orc}{ops:Array Oper}{o:Oper}{fr:List AV}{σ σ':Ad}{u:AV}{q b:Nat}(hq:Pb o.op=some q)(hb:FW (ev fr (.tmp q))=some b)(h:D1 E orc ops o fr σ=some (u,σ')) :
    (∀σ2,D1 E orc ops o fr σ2=some (u,σ2))∧σ'=σ∨∃off xs cs,σ[b]?=some (.box cs false)∧σ'=σ.set b (.box (splice cs off xs) false)∧∀σ2:Ad,σ2[b]?=some (.box cs false)→D1 E orc ops o fr σ2=some (u,σ2.set b (.box (splice cs off xs) false)):=by
  have hf:EE E ops o=false:=by
    cases hf:EE E ops o
    · rfl
    · rcases DG hf with⟨t,n,l,h⟩|⟨s,d,x,h,_⟩<;>rw[h]at hq<;>cases hq
  have e:∀σ,EX false σ=some:=fun σ=>by funext r;simp[EX]
  unfold D1 at h ⊢
  rw[hf]at h ⊢
  cases hw:Gr ops fr o with
  |none=>simp[hw]at h
  | some w=>
    cases w with
    | false=>
      simp only[hw,Option.some.injEq,Prod.mk.injEq]at h ⊢
      exact .inl ⟨fun σ2=>⟨h.1,trivial⟩,h.2.symm⟩
    | true=>
      simp only[hw,e,Bj]at h ⊢
      unfold Pb at hq
      split at hq
      case h_2=>cases hq
      rename_i t q' x ho
      cases hq
      obtain⟨off,hr⟩:=IV hb
      have hop:∀σ,Cm E (orc o.dst) o.op fr σ=(match E.tab t with
          |some d=>(storeA σ d (.ref b off) (ev fr x)).map fun σ'=>(AV.junk,σ')
          |none=>none):=by
        intro σ
        rw[ho]
        simp only[Cm,DE,hr]
        cases E.tab t<;>rfl
      simp only[hop]at h ⊢
      right
      cases ht:E.tab t with
      |none=>simp[ht]at h
      | some d=>
        simp only[ht]at h ⊢
        rw[Option.map_eq_some_iff]at h
        obtain⟨σ1,h,h2⟩:=h
        cases h2
        unfold storeA at h ⊢
        cases hc:(ev fr x).cells? with
        |none=>simp[hc]at h
        | some xs=>
          simp only[hc]at h ⊢
          by_cases hl:xs.length≠d.size
          · simp[hl]at h
          · simp only[hl,if_false]at h ⊢
            split at h
            case h_2=>cases h
            rename_i cs hcs
            split at h
            case isFalse=>cases h
            rename_i hle
            cases h
            refine⟨off,xs,cs,hcs,rfl,fun σ2 h2=>?_⟩
            simp[h2,hle]
theorem DN{orc:Option Tmp→Orc}{ops:Array Oper}{o:Oper}{fr:List AV}{σ σ' σ2:Ad}{v:AV}{p a:Nat}(hp:K1 o.op=some p)(ha:FW (ev fr (.tmp p))=some a)(h:D1 E orc ops o fr σ=some (v,σ'))(h2:σ2[a]?=σ[a]?) :
    σ'=σ∧D1 E orc ops o fr σ2=some (v,σ2):=by
  have hf:EE E ops o=false:=by
    cases hf:EE E ops o
    · rfl
    · rcases DG hf with⟨t,n,l,h⟩|⟨s,d,x,h,_⟩<;>rw[h]at hp<;>cases hp
  have e:∀σ,EX false σ=some:=fun σ=>by funext r;simp[EX]
  unfold D1 at h ⊢
  rw[hf]at h ⊢
  cases hw:Gr ops fr o with
  |none=>simp[hw]at h
  | some w=>
    cases w with
    | false=>
      simp only[hw,Option.some.injEq,Prod.mk.injEq]at h ⊢
      exact⟨h.2.symm,h.1,trivial⟩
    | true=>
      simp only[hw,e,Bj]at h ⊢
      obtain⟨off,hr⟩:=IV ha
      unfold K1 at hp
      split at hp
      case h_3=>cases hp
      · rename_i t p' ho
        cases hp
        rw[ho]at h ⊢
        simp only[Cm,DE,hr]at h ⊢
        cases ht:E.tab t with
        |none=>simp[ht]at h
        | some d=>
          simp only[ht,loadA,h2]at h ⊢
          rw[Option.map_eq_some_iff]at h
          obtain⟨x,h,h3⟩:=h
          cases h3
          exact⟨rfl,by rw[h];rfl⟩
      · rename_i s p' f ho
        cases hp
        rw[ho]at h ⊢
        simp only[Cm,DE,hr]at h ⊢
        rw[Option.map_eq_some_iff]at h
        obtain⟨x,h,h3⟩:=h
        cases h3
        refine⟨rfl,?_⟩
        have:AW E σ2 s (.ref a off) f=AW E σ s (.ref a off) f:=by
          unfold AW;rfl
        rw[this,h];rfl
theorem S7{orc:Option Tmp→Orc}{ops:Array Oper}{o:Oper}{fr:List AV}{σ σ':Ad}{v:AV}(hb:G8 o.op=true)(hf:EE E ops o=false)(h:D1 E orc ops o fr σ=some (v,σ')) :
    (∀σ2,D1 E orc ops o fr σ2=some (v,σ2))∧σ'=σ∨∃k els ro,σ'=σ++[.buf k els ro]∧∀σ2:Ad,σ2.length=σ.length→D1 E orc ops o fr σ2=some (v,σ2++[.buf k els ro]):=by
  have e:∀σ,EX false σ=some:=fun σ=>by funext r;simp[EX]
  unfold D1 at h ⊢
  rw[hf]at h ⊢
  cases hw:Gr ops fr o with
  |none=>simp[hw]at h
  | some w=>
    cases w with
    | false=>
      simp only[hw,Option.some.injEq,Prod.mk.injEq]at h ⊢
      exact .inl ⟨fun σ2=>⟨h.1,trivial⟩,h.2.symm⟩
    | true=>
      simp only[hw,e,Bj]at h ⊢
      right
      unfold G8 at hb
      split at hb
      case h_2=>cases hb
      rename_i t n l ho
      rw[ho]at h ⊢
      simp only[Cm,DE]at h ⊢
      unfold C4 at h ⊢
      split at h
      case h_1=>cases h
      rename_i d hd
      split at h
      case h_2=>cases h
      rename_i e' he
      split at h
      case h_2=>cases h
      rename_i de hde
      split at h
      case isTrue=>cases h
      rename_i hle
      split at h
      case h_2=>cases h
      rename_i els hels
      cases h
      refine⟨_,_,_,rfl,fun σ2 h2=>?_⟩
      simp only[hle,if_false,hels,h2]
theorem Zn{orc:Option Tmp→Orc}{ops:Array Oper}{o:Oper}{fr:List AV}{σ σ':Ad}{v:AV}{s:TypeId}{p f a:Nat}(ho:o.op=.fieldAddr s (.tmp p) f)(ha:FW (ev fr (.tmp p))=some a)(h:D1 E orc ops o fr σ=some (v,σ')) :
    σ'=σ∧∀σ2,D1 E orc ops o fr σ2=some (v,σ2):=by
  have hf:EE E ops o=false:=by
    cases hf:EE E ops o
    · rfl
    · rcases DG hf with⟨t,n,l,h⟩|⟨s,d,x,h,_⟩<;>rw[h]at ho<;>cases ho
  have e:∀σ,EX false σ=some:=fun σ=>by funext r;simp[EX]
  unfold D1 at h ⊢
  rw[hf]at h ⊢
  cases hw:Gr ops fr o with
  |none=>simp[hw]at h
  | some w=>
    cases w with
    | false=>
      simp only[hw,Option.some.injEq,Prod.mk.injEq]at h ⊢
      exact⟨h.2.symm,fun σ2=>⟨h.1,trivial⟩⟩
    | true=>
      simp only[hw,e,Bj]at h ⊢
      obtain⟨off,hr⟩:=IV ha
      rw[ho]at h ⊢
      simp only[Cm,DE,hr]at h ⊢
      rw[Option.map_eq_some_iff]at h
      obtain⟨x,h,h3⟩:=h
      cases h3
      refine⟨rfl,fun σ2=>?_⟩
      have:AW E σ2 s (.ref a off) f=AW E σ s (.ref a off) f:=by
        unfold AW;rfl
      rw[this,h];rfl
inductive Sep(E:Env)(orc:Option Tmp→Orc)(ops:Array Oper)(x y:Oper)(frF:List AV):Prop
  |call (p a:Nat) (hp:K1 y.op=some p) (ha:FW (ev frF (.tmp p))=some a) (hx:∀σ σ1 v,D1 E orc ops x frF σ=some (v,σ1)→σ1[a]?=σ[a]?)
  |look (p q a b:Nat) (hp:K1 x.op=some p) (hq:Pb y.op=some q) (ha:FW (ev frF (.tmp p))=some a) (hb:FW (ev frF (.tmp q))=some b) (hne:a≠b)
  |callY (p a:Nat) (hp:K1 x.op=some p) (ha:FW (ev frF (.tmp p))=some a) (hy:∀σ σ1 v,D1 E orc ops y frF σ=some (v,σ1)→σ1[a]?=σ[a]?)
  |fa (s:TypeId) (p f a:Nat) (ho:y.op=.fieldAddr s (.tmp p) f) (ha:FW (ev frF (.tmp p))=some a)
  |build (q b:Nat) (hx:G8 x.op=true) (hf:EE E ops x=false) (hq:Pb y.op=some q) (hb:FW (ev frF (.tmp q))=some b)
theorem QM{orc:Option Tmp→Orc}{ops:Array Oper}{x y:Oper}{st st1 st2:St}(hap:x.apart ops y=true)(hc:Sep E orc ops x y st.fr)
    (h1:C6 E orc ops x st=some st1) (h2:C6 E orc ops y st1=some st2):∃st3,C6 E orc ops y st=some st3∧C6 E orc ops x st3=some st2:=by
  obtain⟨a1,a2,a3⟩:=Oper.apart_spec hap
  unfold C6 at h1 h2 ⊢
  rw[Option.map_eq_some_iff]at h1 h2
  obtain⟨⟨v,σ1⟩,hv,rfl⟩:=h1
  obtain⟨⟨u,σ2⟩,hu,rfl⟩:=h2
  simp only at hu ⊢
  rw[CN a1]at hu
  have fin:∀σ3,D1 E orc ops y st.fr st.σ=some (u,σ3)→D1 E orc ops x st.fr σ3=some (v,σ2) →
      ∃st3,(D1 E orc ops y st.fr st.σ).map (fun r=>(⟨A7 st.fr y.dst r.1,r.2⟩:St))=some st3∧(D1 E orc ops x st3.fr st3.σ).map (fun r=>(⟨A7 st3.fr x.dst r.1,r.2⟩:St))=some ⟨A7 (A7 st.fr x.dst v) y.dst u,σ2⟩:=by
    intro σ3 hy hx
    refine⟨⟨A7 st.fr y.dst u,σ3⟩,by rw[hy];rfl,?_⟩
    simp only
    rw[CN a3,hx]
    simp only[Option.map_some,F9 st.fr v u a2]
  cases hc with
  | call p a hp ha hx=>
    have h1:=hx _ _ _ hv
    obtain⟨rfl,_⟩:=DN hp ha hu rfl
    exact fin _ (DN hp ha hu h1.symm).2 hv
  | fa s p f a ho ha=>
    obtain⟨rfl,hy⟩:=Zn ho ha hu
    exact fin _ (hy _) hv
  | callY p a hp ha hy=>
    obtain⟨rfl,_⟩:=DN hp ha hv rfl
    exact fin _ hu (DN hp ha hv (hy _ _ _ hu)).2
  | look p q a b hp hq ha hb hne=>
    obtain⟨rfl,_⟩:=DN hp ha hv rfl
    refine fin _ hu (DN hp ha hv ?_).2
    rcases Mq hq hb hu with⟨_,rfl⟩|⟨off,xs,cs,_,rfl,_⟩
    · rfl
    · exact List.getElem?_set_ne (fun h=>hne h.symm)
  | build q b hx hf hq hb=>
    rcases S7 hx hf hv with⟨hall,rfl⟩|⟨k,els,ro,rfl,hall⟩
    · exact fin _ hu (hall _)
    · rcases Mq hq hb hu with⟨hs,rfl⟩|⟨off,xs,cs,hcs,rfl,hs⟩
      · exact fin _ (hs _) (hall _ rfl)
      · have hlt:b<st.σ.length:=by
          have:=(List.getElem?_eq_some_iff.1 hcs).1
          by_cases hb':b<st.σ.length
          · exact hb'
          · have he:b=st.σ.length:=by simp at this;omega
            rw[he]at hcs
            simp at hcs
        have hcs':st.σ[b]?=some (.box cs false):=by
          rw[List.getElem?_append_left hlt]at hcs
          exact hcs
        refine fin _ (hs _ hcs') ?_
        rw[hall _ (by simp),List.set_append_left _ _ hlt]
theorem G5{orc:Option Tmp→Orc}{ops:Array Oper}{i:Nat}{y:Oper}(hi:ops[i]?=some y){l2:List Nat}{st':St}:∀(l1:List Nat) (st:St),
    (∀m1 j m2,l1=m1++j::m2→∀x,ops[j]?=some x→Im E ops x y=true∨x.apart ops y=true∧∀st,AF E orc ops ((j::m2)++i::l2) st=some st'→Sep E orc ops x y st.fr)→AF E orc ops (l1++i::l2) st=some st' →
    ∃st1,C6 E orc ops y st=some st1∧AF E orc ops (l1++l2) st1=some st'
  | [],st,_,h=>by
    simp only[List.nil_append,AF,hi]at h
    rw[Option.bind_eq_some_iff]at h
    exact h
  | j :: l1,st,hc,h0=>by
    have h:=h0
    simp only[List.cons_append,AF]at h
    cases hj:ops[j]? with
    |none=>simp[hj]at h
    | some x=>
      simp only[hj]at h
      rw[Option.bind_eq_some_iff]at h
      obtain⟨s1,h1,h⟩:=h
      obtain⟨s2,h2,h⟩:=G5 hi l1 s1 (fun m1 k m2 e=>hc (j::m1) k m2 (by rw[e];rfl)) h
      have:∃st3,C6 E orc ops y st=some st3∧C6 E orc ops x st3=some s2:=by
        rcases hc [] j l1 rfl x hj with hcb|⟨hap,hcy⟩
        · exact H2 hcb h1 h2
        · exact QM hap (hcy st h0) h1 h2
      obtain⟨s3,h3,h4⟩:=this
      refine⟨s3,h3,?_⟩
      simp only[List.cons_append,AF,hj,h4,Option.bind_some]
      exact h
def Eh(ops:Array Oper)(ts:List Nat)(ok:Nat→Bool)(t:Nat):Bool :=
 ts.contains t&&(List.range ops.size).all fun k=>ok k||(match ops[k]? with
  |some o=>o.dst != some t
  |none=>true)
def LZ(ps:List (Nat×Nat))(t:Nat):Option Nat:=(ps.find? fun p=>p.1==t).map (·.2)
def AeT(e:Nat×FuncId×List AV×Ad×AV×Ad):List (Nat×Nat)→Prop
 |[]=>True
 |q::xs=>(e.1=q.1→e.2.2.2.2.2[q.2]?=e.2.2.2.1[q.2]?)∧AeT e xs
def XOk:List (Nat×FuncId×List AV×Ad×AV×Ad)→List (Nat×Nat)→Prop
 |[],_=>True
 |e::m,xs=>AeT e xs∧XOk m xs
theorem Vs{e:Nat×FuncId×List AV×Ad×AV×Ad}:∀{xs:List (Nat×Nat)},AeT e xs→∀{a:Nat},(e.1,a)∈xs→e.2.2.2.2.2[a]?=e.2.2.2.1[a]?
  | q :: xs,h,a,hq=>by
    rcases List.mem_cons.1 hq with hq|hq
    · have:=h.1 (by rw[←hq])
      rw[←hq]at this
      exact this
    · exact Vs h.2 hq
theorem Vh{xs:List (Nat×Nat)}{t a:Nat}(ht:(t,a)∈xs){f:FuncId}{as:List AV}{σ σ':Ad}{r:AV}:∀{m:List (Nat×FuncId×List AV×Ad×AV×Ad)},XOk m xs→Mv m (some t) f as σ=some (r,σ')→σ'[a]?=σ[a]?
  |[],_,h=>by cases h
  | e :: m,hx,h=>by
    unfold Mv at h
    split at h
    · rename_i he
      split at h
      · rename_i hh
        cases he
        have:=Vs hx.1 ht
        have hr:e.2.2.2.2=(r,σ'):=Option.some.inj h
        rw[hr,←hh.2.2]at this
        exact this
      · cases h
    · exact Vh ht hx.2 h
theorem I4{l:List (Nat×FuncId×List AV×AV)}{m:List (Nat×FuncId×List AV×Ad×AV×Ad)}{xs:List (Nat×Nat)}{ops:Array Oper}{o:Oper}{fr:List AV}{σ σ':Ad}{v:AV}{t a:Nat}(ho:Hg E o=true)(hd:o.dst=some t)(hm:XOk m xs)(ht:(t,a)∈xs)(hval:D1 E (HI l m) ops o fr σ=some (v,σ')):σ'[a]?=σ[a]?:=by
  unfold D1 at hval
  cases hwn:Gr ops fr o with
  |none=>rw[hwn]at hval;cases hval
  | some b=>
    cases b with
    |false=>rw[hwn]at hval;cases hval;rfl
    | true=>
      rw[hwn]at hval
      simp only at hval
      have hfz:EE E ops o=false:=by
        unfold Hg at ho
        unfold EE
        split
        · split
          · rename_i ee;rw[ee]at ho;cases ho
          · rename_i ee;rw[ee]at ho;cases ho
          · rfl
        · rfl
      have hfr:EX (EE E ops o) σ=some:=by rw[hfz];funext q;simp[EX]
      rw[hfr,Bj]at hval
      unfold Hg at ho
      unfold Cm at hval
      split at ho
      case h_2=>cases ho
      rename_i c ec
      simp only[ec]at hval
      split at hval
      · rename_i bi eb
        unfold N5 at ho
        rw[eb]at ho;cases ho
      · rw[if_pos ho]at hval
        obtain⟨_,_,hval⟩:=Ol hval
        rw[hd]at hval
        exact Vh ht hm hval
def Ac7(E:Env)(ops:Array Oper)(T:List (List Nat))(ps xs:List (Nat×Nat))(ts:List Nat)(i:Nat)(x y:Oper):Bool :=
 match K1 y.op,x.dst with
 |some p,some t=>match LZ ps p with
  |none=>false
  |some a=>Eh ops ts (fun k=>(T.getD i []).contains k&&decide (k<i)) p&&Hg E x&&xs.contains (t,a)
 |_,_=>false
def AeL(E:Env)(ops:Array Oper)(ps xs:List (Nat×Nat))(ts:List Nat)(j:Nat)(x y:Oper):Bool :=
 match K1 x.op,y.dst with
 |some p,some t=>match LZ ps p with
  |none=>false
  |some a=>Eh ops ts (fun k=>decide (k<j)) p&&Hg E y&&xs.contains (t,a)
 |_,_=>false
def AdY(E:Env)(ops:Array Oper)(T:List (List Nat))(ps:List (Nat×Nat))(ts:List Nat)(j i:Nat)(x y:Oper):Bool :=
 match Pb y.op with
 |none=>false
 | some q=>match LZ ps q with
  |none=>false
  | some b=>Eh ops ts (fun k=>(T.getD i []).contains k&&decide (k<i)) q&&((G8 x.op&&!EE E ops x)||(match K1 x.op with
   |none=>false
   |some p=>match LZ ps p with
    |none=>false
    |some a=>a != b&&Eh ops ts (fun k=>decide (k<j)) p))
def AcI(ops:Array Oper)(T:List (List Nat))(ps:List (Nat×Nat))(ts:List Nat)(i:Nat)(y:Oper):Bool :=
 match y.op with
 |.fieldAddr _ (.tmp p) _=>match LZ ps p with
  |none=>false
  |some _=>Eh ops ts (fun k=>(T.getD i []).contains k&&decide (k<i)) p
 |_=>false
def Nj(E:Env)(ops:Array Oper)(T:List (List Nat))(ps xs:List (Nat×Nat))(ts:List Nat):Bool :=
 (List.range ops.size).all fun i=>(List.range i).all fun j=>(T.getD i []).contains j||(match ops[j]?,ops[i]? with
  |some x,some y=>Im E ops x y||(x.apart ops y&&(AdY E ops T ps ts j i x y||Ac7 E ops T ps xs ts i x y||AcI ops T ps ts i y||AeL E ops ps xs ts j x y))
  |_,_=>false)
def Oz(n:Nat)(fr:Fr):List (Nat×Nat)→Prop
 |[]=>True
 |p::ps=>FW (evL n fr (.tmp p.1))=some p.2∧Oz n fr ps
theorem I8{n:Nat}{fr:Fr}:∀{ps:List (Nat×Nat)} {t a:Nat},Oz n fr ps→LZ ps t=some a→FW (evL n fr (.tmp t))=some a
  |[],t,a,_,h=>by cases h
  | p :: ps,t,a,hr,h=>by
    unfold LZ at h
    rw[List.find?_cons]at h
    by_cases e:(p.1==t)=true
    · simp only[e]at h
      cases h
      rw[←eq_of_beq e]
      exact hr.1
    · simp only[e]at h
      exact I8 hr.2 h
theorem HM(hE:E.Ok)(hP:E.P.follows .mixedOrders=true){m n id:Nat}{l:List Oper}(T:List (List Nat))(hok1:Er l.toArray T=true)(ps xs:List (Nat×Nat))(ts:List Nat)(hok2:Nj E l.toArray T ps xs ts=true){fr fr':Fr}{σ σ':Ad}{K:C0}(hw:Mi E m K)
  (hps:Oz n fr' ps) (h:∃lz m,GV E.toBase (HI lz m)∧XOk m xs∧Jf E (HI lz m) true n l ts (fr,σ)=some (fr',σ'))
  (hk:K .normal ⟨Am n fr',σ'⟩):Run E m (.region id l.toArray true) ⟨Am n fr,σ⟩ K:=by
 obtain⟨lz,mz,hO,hX,h⟩:=h
 simp only[Jf,Option.bind_eq_some_iff,Option.some.injEq,Prod.mk.injEq]at h
 obtain⟨⟨fr1,σ2⟩,h1,rfl,rfl⟩:=h
 have hsteps:=E0 (E:=E) (ops:=l.toArray) 0 l fr fr1 σ σ2 (by simp) h1
 rw[←List.range_eq_range']at hsteps
 intro hcm ac w g hr Q hq
 refine FE (GE hcm) (wp_region_any hP ?_)
 have hsm:SameMem w { w with drawn:=w.drawn+1 }:=⟨rfl,rfl,rfl,rfl⟩
 have hval:∀t a,ts.contains t=true→LZ ps t=some a→FW (ev (Am n fr1) (.tmp t))=some a:=by
  intro t a ht ha
  have:=I8 hps ha
  rw[CO]
  have e:evL n (keep ts fr1) (.tmp t)=evL n fr1 (.tmp t):=by
   show(if t<n then look (keep ts fr1) t else .junk)=if t<n then look fr1 t else .junk
   rw[K8 ts fr1 t (List.contains_iff_mem.1 ht)]
  rw[e]at this
  exact this
 refine Ir hE hO hok1 (st':=⟨Am n fr1,σ2⟩) ?_ l.toArray.size (List.range l.length) _ ⟨Am n fr,σ⟩ ac _ g (by simp) List.pairwise_lt_range (by simp) ?_ ?_ hsteps (G9 hr hsm) ?_
 ·intro i his l1 l2 st hp hT hst
  have hi:l.toArray[i]?=some l.toArray[i]:=Array.getElem?_eq_getElem his
  refine G5 hi l1 st (fun m1 j m2 e x hx=>?_) hst
  have hj:j∈l1:=by rw[e];simp
  have hji:j<i:=by
   rw[List.pairwise_append]at hp
   exact hp.2.2 j hj i List.mem_cons_self
  have h1':=Ax (Ax hok2 his) hji
  simp only[Bool.or_eq_true,List.contains_iff_mem]at h1'
  rcases h1' with h1'|h1'
  ·exact(hT j hj h1').elim
  ·simp only[hx,hi,Bool.or_eq_true,Bool.and_eq_true]at h1'
   rcases h1' with h1'|⟨h1',h2'⟩
   ·exact .inl h1'
   ·refine .inr ⟨h1',fun st3 h3=>?_⟩
    have hst3:∀t,(∀k∈((j::m2)++i::l2),∀o,l.toArray[k]?=some o→o.dst≠some t)→ev st3.fr (.tmp t)=ev (Am n fr1) (.tmp t):=fun t hk=>(DL _ _ _ hk h3).symm
    have hpw:((j::m2)++i::l2).Pairwise (·<·):=by
     rw[e,List.append_assoc]at hp
     exact(List.pairwise_append.1 hp).2.1
    have hge:∀k∈((j::m2)++i::l2),j≤k:=by
     intro k hk
     rw[List.cons_append]at hpw hk
     rcases List.mem_cons.1 hk with rfl|hk
     ·exact Nat.le_refl _
     ·exact Nat.le_of_lt (List.rel_of_pairwise_cons hpw hk)
    have hnT:∀k∈((j::m2)++i::l2),¬(k∈T.getD i []∧k<i):=by
     rintro k hk ⟨q1,q2⟩
     rcases List.mem_append.1 hk with hk|hk
     ·exact hT k (by rw[e];simp only[List.mem_append];exact .inr hk) q1
     ·rcases List.mem_cons.1 hk with rfl|hk
      ·omega
      ·have:=List.rel_of_pairwise_cons (List.pairwise_append.1 hpw).2.1 hk
       omega
    have hstill:∀(ok:Nat→Bool) t,Eh l.toArray ts ok t=true→(∀k∈((j::m2)++i::l2),ok k=false)→ts.contains t=true∧ev st3.fr (.tmp t)=ev (Am n fr1) (.tmp t):=by
     intro ok t h hno
     simp only[Eh,Bool.and_eq_true]at h
     refine⟨h.1,hst3 t fun k hk o hko=>?_⟩
     have h2:=Ax h.2 (Array.getElem?_eq_some_iff.1 hko).1
     rw[hno k hk,hko]at h2
     simpa using h2
    have hq0:∀q,Eh l.toArray ts (fun k=>(T.getD i []).contains k&&decide (k<i)) q=true→ts.contains q=true∧ev st3.fr (.tmp q)=ev (Am n fr1) (.tmp q):=fun q s1=>hstill _ q s1 (fun k hk=>by
     have:=hnT k hk
     simp only[Bool.and_eq_false_iff,decide_eq_false_iff_not]
     by_cases hm:k∈T.getD i []
     ·exact .inr fun h=>this ⟨hm,h⟩
     ·exact .inl (by simpa using hm))
    rcases h2' with h2'|h2'
    case inr=>
     unfold AeL at h2'
     split at h2'
     case h_2=>cases h2'
     rename_i p t hp' ht'
     split at h2'
     case h_1=>cases h2'
     rename_i a ha
     simp only[Bool.and_eq_true,List.contains_iff_mem]at h2'
     obtain⟨⟨s1,s2⟩,s3⟩:=h2'
     obtain⟨c1,c2⟩:=hstill _ p s1 (fun k hk=>by
      have:=hge k hk
      simp only[decide_eq_false_iff_not];omega)
     exact .callY p a hp' (by rw[c2];exact hval p a c1 ha) fun σ σ1 v hv=>I4 s2 ht' hX s3 hv
    rcases h2' with h2'|h2'
    case inr=>
     unfold AcI at h2'
     split at h2'
     case h_2=>cases h2'
     rename_i p f hop
     split at h2'
     case h_1=>cases h2'
     rename_i a ha
     obtain⟨c1,c2⟩:=hq0 p h2'
     exact .fa _ p f a hop (by rw[c2];exact hval p a c1 ha)
    rcases h2' with h2'|h2'
    case inr=>
     unfold Ac7 at h2'
     split at h2'
     case h_2=>cases h2'
     rename_i p t hp' ht'
     split at h2'
     case h_1=>cases h2'
     rename_i a ha
     simp only[Bool.and_eq_true,List.contains_iff_mem]at h2'
     obtain⟨⟨s1,s2⟩,s3⟩:=h2'
     obtain⟨c1,c2⟩:=hq0 p s1
     exact .call p a hp' (by rw[c2];exact hval p a c1 ha) fun σ σ1 v hv=>I4 s2 ht' hX s3 hv
    unfold AdY at h2'
    split at h2'
    case h_1=>cases h2'
    rename_i q hq'
    split at h2'
    case h_1=>cases h2'
    rename_i b hb
    simp only[Bool.and_eq_true,Bool.or_eq_true,Bool.not_eq_true']at h2'
    obtain⟨s1,h2'⟩:=h2'
    obtain⟨c1,c2⟩:=hq0 q s1
    have hbq:FW (ev st3.fr (.tmp q))=some b:=by rw[c2];exact hval q b c1 hb
    rcases h2' with⟨h4,h5⟩|h4
    ·exact .build q b h4 h5 hq' hbq
    ·split at h4
     case h_1=>cases h4
     rename_i p hp'
     split at h4
     case h_1=>cases h4
     rename_i a ha
     simp only[Bool.and_eq_true,bne_iff_ne]at h4
     obtain⟨c3,c4⟩:=hstill _ p h4.2 (fun k hk=>by
      have:=hge k hk
      simp only[decide_eq_false_iff_not];omega)
     exact .look p q a b hp' hq' (by rw[c4];exact hval p a c3 ha) hbq h4.1
 ·intro j
  rw[List.mem_range]
  by_cases h:j<l.length<;>simp[Array.getD,h]
 ·intro k hk hkn
  exact(hkn (List.mem_range.2 (by simpa using hk))).elim
 ·intro a' w' g' hr' he hg
  exact hq _ _ _ _ _ (hw _ _ (CV _ _ _ _ _) hk) hr' ((Evo.same hsm).trans (he.of_gle hg))
theorem Vu(hE:E.Ok)(hP:E.P.follows .mixedOrders=true){m n id:Nat}{l:List Oper}(T:List (List Nat))(hok1:Er l.toArray T=true)(ps xs:List (Nat×Nat))(ts:List Nat)(hok2:Nj E l.toArray T ps xs ts=true){fr fr':Fr}{σ σ':Ad}{K:C0}
 (hps:Oz n fr' ps) (h:∃lz m,GV E.toBase (HI lz m)∧XOk m xs∧Jf E (HI lz m) true n l ts (fr,σ)=some (fr',σ'))
 {y:Code} (hk:Run E m y ⟨Am n fr',σ'⟩ K):Run E m (.seq (.region id l.toArray true) y) ⟨Am n fr,σ⟩ K :=
 Fp (HM hE hP T hok1 ps xs ts hok2 EZ hps h hk)
end Go.Rv
