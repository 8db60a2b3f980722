/-
  Part 5.
-/
import Derived.Test.YtioapcamanmoiaaGreatDoorYA4
import Derived.Laws.BytesString
namespace Go.Rv
variable{cs:List AV}{i:Nat}{v:Value}{x y:AV}{t:TypeId}{pr:Addr→Prop}
variable {E:Env}{w:World}{g:Gh}{σ:Ad}
theorem AqP{a:Addr}(h:CellsAt w (AA E g) [] a cs)(hp:∀(j:Nat) (x:AV),cs[j]?=some x→AA E g (a.add j)):Rep w (AA E g) g (.pointer (some a)) (.rp cs):=by
 have hcell:∀(j:Nat) (x:AV),cs[j]?=some x→w.cell? (a.add j)=some ((w.cell? (a.add j)).getD undef)∧Rep w (AA E g) [] ((w.cell? (a.add j)).getD undef) x∧one ((w.cell? (a.add j)).getD undef)=true:=by
  intro j x hx;obtain⟨u,hu,hr,ho⟩:=h j x hx;rw[hu];exact⟨rfl,hr,ho⟩
 exact .rp _ a cs (fun j=>(w.cell? (a.add j)).getD undef) (fun j x hx=>⟨(hcell j x hx).1,hp j x hx,(hcell j x hx).2.2⟩) (fun j x hx=>(hcell j x hx).2.1)
theorem TI{a:Addr}(h:CellsAt w (AA E g) [] a cs)(hp:∀(j:Nat) (x:AV),cs[j]?=some x→AA E g (a.add j))(n:Nat):Rep w (AA E g) g (.pointer (some (a.add n))) (.rp (cs.drop n)):=by
 refine AqP (h.drop n) ?_;intro j x hx;rw[Atq]at hx;rw[JF];exact hp _ _ hx
theorem UG(hm:Mem E w g σ)(h:E.G i=some cs):∀(j:Nat) (x:AV),cs[j]?=some x→AA E g ((⟨i,0,none⟩:Addr).add j):=by
 intro j x _;rw[B2];exact(KD hm h).2 _
theorem Y4(hm:Mem E w g σ){id tot j:Nat}(hv:Rep w (AA E g) g v (.eref id tot i j))(hc:Acp σ id tot=true) :∃b β,g[id]?=some b∧b.isBox=false∧b.len=tot∧b.blk=some β∧v=.pointer (some ⟨β,b.o+i*b.k+j,none⟩):=by
  cases hv with
  | eref _ _ _ _ _ _ b hb hbx htot h ho=>
    unfold Acp at hc;split at hc
    · rename_i k els ro hσ
      have hbl:b.len=tot:=by
        have:=(hm.blk id b _ hb hσ).2.2.2.1;have:=AtW.1 hc;omega
      obtain⟨β,hβ,e⟩:=h hbl;exact⟨b,β,hb,hbx,hbl,hβ,e⟩
    · cases hc
theorem QN(hE:E.Ok)(hm:Mem E w g σ){s:TypeId}{f:Nat}(hv:Rep w (AA E g) g v x)(hx:BB E σ s x f=some y) :∃u,(Instr.fieldAt s v f).run E.P w=.ok u w∧Rep w (AA E g) g u y:=by
  unfold BB at hx;cases hs:E.tab s with
  |none=>simp[hs]at hx
  | some d=>
    simp only[hs]at hx;cases hd:d.desc<;>simp only[hd]at hx<;>try (cases hx;done)
    rename_i fields;cases hf:fields[f]? with
    |none=>simp[hf]at hx
    | some fl=>
      simp only[hf]at hx;cases htf:E.tab fl.type with
      |none=>simp[htf]at hx
      | some df=>
        simp only[htf]at hx;split at hx
        · cases hx
        rename_i hsz
        have key:∀a,(Instr.fieldAt s (.pointer (some a)) f).run E.P w=.ok (.pointer (some (a.add fl.offset))) w:=by
          intro a;simp[Instr.fieldAt,Instr.sureAddr,AR hE hs,hd,hf,fieldPlace,BA hE htf,hsz]
        cases x with
        | ref id off=>
          simp only[AsW]at hx;subst hx;cases hv with
          |ref _ _ _ β b hb hbx hβ=>exact⟨_,key _,by rw[B2];exact .ref _ _ _ β b hb hbx hβ⟩
        | tref id t=>
          simp only[AsW]at hx;subst hx;cases hv with
          |tref _ _ _ β b hb hbx hβ ht=>exact⟨_,key _,by rw[B2,AtN];exact .ref _ _ _ β b hb hbx hβ⟩
        | eref id tot i j=>
          simp only at hx;split at hx
          case isFalse=>cases hx
          rename_i hcur;simp only[AsW]at hx;subst hx;obtain⟨b,β,hb,hbx,hbl,hβ,rfl⟩:=Y4 hm hv hcur;refine⟨_,key _,.eref _ _ _ _ _ _ b hb hbx (by omega) (fun _=>⟨β,hβ,?_⟩) rfl⟩;rw[B2,Auz]
        | rp cs=>
          simp only[AsW]at hx;subst hx;obtain⟨a,rfl,hc,hp⟩:=T1 hv;exact⟨_,key _,TI hc hp _⟩
        | glob i=>
          cases hG:E.G i with
          |none=>simp[hG]at hx
          | some cs=>
            simp only[hG,AsW]at hx;subst hx;cases hv with
            |glob=>exact⟨_,key _,TI (KD hm hG).1 (UG hm hG) _⟩
        |_=>simp at hx
theorem YP(hE:E.Ok){d:TD}(ht:E.tab t=some d){vs:Array Value}(hv:Rep w pr g (.agg vs) (.agg cs)){off:Nat}(hx:partA d cs off=some x) :∃u,(part t vs off).run E.P w=.ok u w∧Rep w pr g u x:=by
  cases hv with
  | agg _ _ _ hs ho hr=>
    unfold partA at hx;unfold part;rw[Sem.run_bind,UY hE ht];cases hag:d.isAgg with
    | true=>
      rw[hag]at hx;simp only[AuA]at hx;split at hx
      case isFalse=>cases hx
      rename_i hl;simp only[AsW]at hx;subst hx;refine⟨.agg (vs.extract off (off+d.size)),by simp[BA hE ht],.agg _ _ _ (by simp;omega) ?_ ?_⟩
      all_goals
        intro i y hy;have hil:i<d.size:=by have:=(AsT.1 hy).1;simp at this;omega
        rw[Ato,AsU hil,Atq]at hy
        have e:(vs.extract off (off+d.size)).getD i undef=vs.getD (off+i) undef:=by
          have h2:off+i<vs.size:=by omega
          refine A7 ?_;rw[Array.getElem?_extract,AsU (by omega),AH h2]
        rw[e]
      · exact ho _ _ hy
      · exact hr _ _ hy
    | false=>
      rw[hag]at hx;simp only[AtQ,AuH]at hx;have hl:off<vs.size:=by have:=(AsT.1 hx).1;omega
      exact⟨vs.getD off undef,by rw[Result.andThen_ok];simp only[AtQ,AuH,AH hl,Sem.run_pure],hr _ _ hx⟩
theorem W3(hE:E.Ok){s:TypeId}{f:Nat}(hv:Rep w pr g v x)(hx:UJ E s x f=some y) :∃u,(Instr.field s v f).run E.P w=.ok u w∧Rep w pr g u y:=by
  unfold UJ at hx;split at hx
  case h_2=>cases hx
  rename_i d cs hs;cases hd:d.desc<;>simp only[hd]at hx<;>try (cases hx;done)
  rename_i fields;cases hf:fields[f]? with
  |none=>simp[hf]at hx
  | some fl=>
    simp only[hf]at hx;cases htf:E.tab fl.type with
    |none=>simp[htf]at hx
    | some df=>
      simp only[htf]at hx;have hv2:=hv;cases hv with
      | agg _ vs _ h1 h2 h3=>
        obtain⟨u,hu,hr⟩:=YP hE htf hv2 hx;exact⟨u,by simp[Instr.field,AR hE hs,hd,hf,asAgg,hu],hr⟩
theorem PO{n:Nat}(hv:Rep w pr g v x)(hx:idx x n=some i):∃k,v=.int k (i:Int)∧i<n:=by
 unfold idx at hx;split at hx
 ·rename_i k z;split at hx
  ·rename_i h;simp only[AsW]at hx;cases hv;exact⟨k,by rw[←hx];congr 1;omega,by omega⟩
  ·cases hx
 ·cases hx
theorem Pu(hE:E.Ok)(hm:Mem E w g σ){vi:Value}{ix:AV}(hv:Rep w (AA E g) g v x)(hi:Rep w (AA E g) g vi ix)(hx:Az E σ t x ix=some y) :∃u,(Instr.indexAt t v vi).run E.P w=.ok u w∧Rep w (AA E g) g u y:=by
  unfold Az at hx;cases ht:E.tab t with
  |none=>simp[ht]at hx
  | some d=>
    simp only[ht]at hx;cases hd:d.desc<;>simp only[hd]at hx<;>try (cases hx;done)
    · rename_i e
      split at hx
      · rename_i de full els hte
        split at hx
        case h_2=>cases hx
        rename_i i hidx;obtain⟨ki,rfl,hlt⟩:=PO hi hidx;cases hei:els[i]? with
        |none=>simp[hei]at hx
        | some cs=>
          simp only[hei]at hx;split at hx
          case isFalse=>cases hx
          rename_i hcs;simp only[AsW]at hx;subst hx;cases hv with
          | sl _ a len cap _ _ k c hlen hcap hfull hnone hk hc hr=>
            have hkk:k=de.size:=by rw[←hk i cs hei];exact hcs
            subst hkk;have hpos:0<cap:=by omega
            cases a with
            |none=>have:=hnone rfl;omega
            | some b=>
              have h1:i<len:=by omega
              refine⟨.pointer (some (b.add (i*de.size))),?_,?_⟩
              · simp[Instr.indexAt,asIntOf,AR hE ht,hd,BA hE hte,h1]
              · refine .rp _ _ _ (c i) ?_ (fun j x hj=>hr i cs j x hei hj)
                intro j x hj;obtain⟨b',hb',q1,q2,q3⟩:=hc i cs j x hei hj;cases hb';rw[JF];exact⟨q1,q2,q3⟩
      · rename_i de full id tot off len hte
        split at hx
        case h_2=>cases hx
        rename_i k els ro i hσ hidx;obtain⟨ki,rfl,hlt⟩:=PO hi hidx;split at hx
        case isFalse=>cases hx
        rename_i hcond;obtain⟨c1,c2,c3⟩:=hcond;simp only[AsW]at hx;subst hx;cases hv with
        | bs _ _ _ _ _ _ _ b hb hbx htot h ho=>
          have hk:=hm.blk id b _ hb hσ;have hbl:b.len=tot:=by have:=hk.2.2.2.1;omega
          have hbk:b.k=k:=hk.2.2.1;obtain⟨a,cap,rfl,q2,q3,q4,q5⟩:=h hbl;rcases q5 with q5|⟨β,hβ,rfl,q6⟩
          · omega
          · have h1:i<len:=by omega
            refine⟨.pointer (some ⟨β,b.o+(off+i)*b.k+0,none⟩),?_,.eref _ _ _ _ _ _ b hb hbx htot (fun _=>⟨β,hβ,rfl⟩) rfl⟩;have e:b.o+(off+i)*b.k+0=b.o+off*b.k+i*de.size:=by rw[Atn,hbk,c2];omega
            simp[Instr.indexAt,asIntOf,AR hE ht,hd,BA hE hte,h1,B2,e]
      · cases hx
    · rename_i n e
      split at hx
      case h_2=>cases hx
      rename_i de i hte hidx;obtain⟨ki,rfl,hlt⟩:=PO hi hidx;have h1:i<n:=by omega
      have key:∀a,(Instr.indexAt t (.pointer (some a)) (.int ki i)).run E.P w=.ok (.pointer (some (a.add (i*de.size)))) w:=by
        intro a;simp[Instr.indexAt,asIntOf,Instr.sureAddr,AR hE ht,hd,BA hE hte,h1]
      cases x with
      | ref id off=>
        simp only[AsW]at hx;subst hx;cases hv with
        |ref _ _ _ β b hb hbx hβ=>exact⟨_,key _,by rw[B2];exact .ref _ _ _ β b hb hbx hβ⟩
      | eref id tot i0 j=>
        simp only at hx;split at hx
        case isFalse=>cases hx
        rename_i hcur;simp only[AsW]at hx;subst hx;obtain⟨b,β,hb,hbx,hbl,hβ,rfl⟩:=Y4 hm hv hcur;refine⟨_,key _,.eref _ _ _ _ _ _ b hb hbx (by omega) (fun _=>⟨β,hβ,?_⟩) rfl⟩;rw[B2,Auz]
      | rp cs=>
        simp only[AsW]at hx;subst hx;obtain⟨a,rfl,hc,hp⟩:=T1 hv;exact⟨_,key _,TI hc hp _⟩
      | glob i=>
        cases hG:E.G i with
        |none=>simp[hG]at hx
        | some cs=>
          simp only[hG,AsW]at hx;subst hx;cases hv with
          |glob=>exact⟨_,key _,TI (KD hm hG).1 (UG hm hG) _⟩
      |_=>simp at hx
theorem LC:∀{els:List (List AV)},(∀cs∈els,cs.length=1)→∀{n j:Nat} {x:AV},(els.take n).flatten[j]?=some x→∃cs:List AV,els[j]?=some cs∧cs[0]?=some x
  |[],_,n,j,x,h=>by simp at h
  |cs::els,hl,0,j,x,h=>by simp at h
  | cs::els,hl,n+1,j,x,h=>by
    obtain⟨y,rfl⟩:=List.length_eq_one_iff.1 (hl cs (by simp));rw[List.take_succ_cons,List.flatten_cons]at h;cases j with
    |zero=>exact⟨_,rfl,by simpa using h⟩
    | succ j=>
      rw[List.singleton_append,Avj]at h;exact LC (fun c hc=>hl c (AtO _ hc)) h
theorem UT(hE:E.Ok)(hv:Rep w pr g v x)(hx:TJ E t x=some y) :∃u,(Instr.arrayAt t v).run E.P w=.ok u w∧Rep w pr g u y:=by
  unfold TJ at hx;cases ht:E.tab t with
  |none=>simp[ht]at hx
  | some d=>
    simp only[ht]at hx;split at hx
    case h_2=>cases hx
    rename_i full els hd0;cases hd0;split at hx
    case h_2=>cases hx
    rename_i n e hd;split at hx
    case isFalse=>cases hx
    rename_i hc;obtain⟨c1,c2,c3⟩:=hc;have c4:∀cs∈els,cs.length=1:=by simpa using c3
    cases hx;cases hv with
    | sl _ a len cap _ _ k c hlen hcap hfull hnone hk hc hr=>
      have hkk:k=1:=by
        have h0:=AsZ (l:=els) (i:=0) (by omega);rw[←hk 0 _ h0];exact c4 _ (AtL _)
      subst hkk;cases a with
      |none=>have:=hnone rfl;omega
      | some b=>
        refine⟨.pointer (some b),?_,.rp _ _ _ (fun j=>c j 0) (fun j x hj=>?_) (fun j x hj=>?_)⟩
        · have h1:¬len<n:=by omega
          simp[Instr.arrayAt,AR hE ht,hd,h1]
        · obtain⟨cs,q1,q2⟩:=LC c4 hj
          obtain⟨b',hb',p1,p2,p3⟩:=hc j cs 0 x q1 q2;cases hb';simp only[AuR,AuE]at p1 p2;exact⟨p1,p2,p3⟩
        · obtain⟨cs,q1,q2⟩:=LC c4 hj
          exact hr j cs 0 x q1 q2
theorem XU(hE:E.Ok){vi:Value}{ix:AV}(hv:Rep w pr g v x)(hi:Rep w pr g vi ix)(hx:JL E t x ix=some y) :∃u,(Instr.index t v vi).run E.P w=.ok u w∧Rep w pr g u y:=by
  unfold JL at hx;cases ht:E.tab t with
  |none=>simp[ht]at hx
  | some d=>
    simp only[ht]at hx;split at hx
    · rename_i n e cs hd
      split at hx
      case h_2=>cases hx
      rename_i de i hte hidx;obtain⟨ki,rfl,hlt⟩:=PO hi hidx;have hv2:=hv;cases hv with
      | agg _ vs _ h1 h2 h3=>
        obtain⟨u,hu,hr⟩:=YP hE hte hv2 hx;have h1:i<n:=by omega
        exact⟨u,by simp[Instr.index,asIntOf,AR hE ht,hd,BA hE hte,h1,hu],hr⟩
    · rename_i s hd
      split at hx
      case h_2=>cases hx
      rename_i i hidx;obtain⟨ki,rfl,hlt⟩:=PO hi hidx;cases hsi:s[i]? with
      |none=>simp[hsi]at hx
      | some b=>
        simp only[hsi,AsW]at hx;subst hx;cases hv with
        | str _ ba _ hl=>
          have hb:ba[i]?=some b:=by
            rw[←hl]at hsi;have:ba.data[i]?=some b:=by simpa using hsi
            rw[←this];rfl
          exact⟨.int .u8 b.toNat,by simp[Instr.index,asIntOf,AR hE ht,hd,hb],.int _ _ _⟩
    · cases hx
end Go.Rv
