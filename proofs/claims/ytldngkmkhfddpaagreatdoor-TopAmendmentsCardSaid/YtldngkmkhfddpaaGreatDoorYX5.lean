/-
  Part 5.
-/
import Derived.Test.YtldngkmkhfddpaaGreatDoorYX4
import Derived.Laws.BytesString
namespace Go.Rv
set_option linter.unusedVariables false
set_option linter.unusedSimpArgs false
variable{cs:List AV}{i:Nat}{v:Value}{x y:AV}{t:TypeId}{pr:Addr->Prop}
variable {E:Env}{w:World}{g:Gh}{O:Ac}
theorem Aoy{a:Addr}(h:CellsAt w (A3 E g) [] a cs)(hp:∀(j:Nat) (x:AV),cs[j]?=some x->A3 E g (a.add j)):Rep w (A3 E g) g (.pointer (some a)) (.rp cs):=by
 have hcell:∀(j:Nat) (x:AV),cs[j]?=some x->w.cell? (a.add j)=some ((w.cell? (a.add j)).getD undef)/\Rep w (A3 E g) [] ((w.cell? (a.add j)).getD undef) x/\one ((w.cell? (a.add j)).getD undef)=true:=by
  intro j x hx;obtain⟨u,hu,hr,ho⟩:=h j x hx;rw[hu];exact⟨rfl,hr,ho⟩
 exact .rp _ a cs (fun j=>(w.cell? (a.add j)).getD undef) (fun j x hx=>⟨(hcell j x hx).1,hp j x hx,(hcell j x hx).2.2⟩) (fun j x hx=>(hcell j x hx).2.1)
theorem RW{a:Addr}(h:CellsAt w (A3 E g) [] a cs)(hp:∀(j:Nat) (x:AV),cs[j]?=some x->A3 E g (a.add j))(n:Nat):Rep w (A3 E g) g (.pointer (some (a.add n))) (.rp (cs.drop n)):=by
 refine Aoy (h.drop n) ?_;intro j x hx;rw[ApJ]at hx;rw[L6];exact hp _ _ hx
theorem Uk(hm:Mem E w g O)(h:E.G i=some cs):∀(j:Nat) (x:AV),cs[j]?=some x->A3 E g ((⟨i,0,none⟩:Addr).add j):=by
 intro j x _;rw[Bv];exact(Kt hm h).2 _
theorem XE(hm:Mem E w g O){id tot j:Nat}(hv:Rep w (A3 E g) g v (.eref id tot i j))(hc:X1 O id tot=true) :∃b β,g[id]?=some b/\b.isBox=false/\b.len=tot/\b.blk=some β/\v=.pointer (some ⟨β,b.o+i*b.k+j,none⟩):=by
 cases hv with
 | eref _ _ _ _ _ _ b hb hbx htot h ho=>
  unfold X1 at hc;split at hc
  ·rename_i k els ro hO
   have hbl:b.len=tot:=by
    have:=(hm.blk id b _ hb hO).2.2.2.1;have:=Aqg.1 hc;omega
   obtain⟨β,hβ,e⟩:=h hbl;exact⟨b,β,hb,hbx,hbl,hβ,e⟩
  cases hc
theorem PU(hE:E.Ok)(hm:Mem E w g O){s:TypeId}{f:Nat}(hv:Rep w (A3 E g) g v x)(hx:AP E O s x f=some y) :∃u,(Instr.fieldAt s v f).run E.P w=.ok u w/\Rep w (A3 E g) g u y:=by
 unfold AP at hx;cases hs:E.tab s with
 |none=>simp[hs]at hx
 | some d=>
  simp only[hs]at hx;cases hd:d.desc<;>simp only[hd]at hx<;>try (cases hx;done)
  rename_i fields;cases hf:fields[f]? with
  |none=>simp[hf]at hx
  | some fl=>
   simp only[hf]at hx;cases htf:E.tab fl.type with
   |none=>simp[htf]at hx
   | some df=>
    simp only[htf]at hx;split at hx
    ·cases hx
    rename_i hsz
    have key:∀a,(Instr.fieldAt s (.pointer (some a)) f).run E.P w=.ok (.pointer (some (a.add fl.offset))) w:=by
     intro a;simp[Instr.fieldAt,Instr.sureAddr,AF hE hs,hd,hf,fieldPlace,B9 hE htf,hsz]
    cases x with
    |ref id off=>
     simp only[Ao7]at hx;subst hx;cases hv with
     |ref _ _ _ β b hb hbx hβ=>exact⟨_,key _,by rw[Bv];exact .ref _ _ _ β b hb hbx hβ⟩
    |tref id t=>
     simp only[Ao7]at hx;subst hx;cases hv with
     |tref _ _ _ β b hb hbx hβ ht=>exact⟨_,key _,by rw[Bv,Aqn];exact .ref _ _ _ β b hb hbx hβ⟩
    |eref id tot i j=>
     simp only at hx;split at hx
     case isFalse=>cases hx
     rename_i hcur;simp only[Ao7]at hx;subst hx;obtain⟨b,β,hb,hbx,hbl,hβ,rfl⟩:=XE hm hv hcur;refine⟨_,key _,.eref _ _ _ _ _ _ b hb hbx (by omega) (fun _=>⟨β,hβ,?_⟩) rfl⟩;rw[Bv,AqI]
    |rp cs=>
     simp only[Ao7]at hx;subst hx;obtain⟨a,rfl,hc,hp⟩:=Rb hv;exact⟨_,key _,RW hc hp _⟩
    | glob i=>
     cases hG:E.G i with
     |none=>simp[hG]at hx
     |some cs=>
      simp only[hG,Ao7]at hx;subst hx;cases hv with
      |glob=>exact⟨_,key _,RW (Kt hm hG).1 (Uk hm hG) _⟩
    |_=>simp at hx
theorem XH(hE:E.Ok){d:TD}(ht:E.tab t=some d){vs:Array Value}(hv:Rep w pr g (.agg vs) (.agg cs)){off:Nat}(hx:partA d cs off=some x) :∃u,(part t vs off).run E.P w=.ok u w/\Rep w pr g u x:=by
 cases hv with
 | agg _ _ _ hs ho hr=>
  unfold partA at hx;unfold part;rw[Sem.run_bind,Tm hE ht];cases hag:d.isAgg with
  | true=>
   rw[hag]at hx;simp only[ApT]at hx;split at hx
   case isFalse=>cases hx
   rename_i hl;simp only[Ao7]at hx;subst hx;refine⟨.agg (vs.extract off (off+d.size)),by simp[B9 hE ht],.agg _ _ _ (by simp;omega) ?_ ?_⟩
   all_goals
    intro i y hy;have hil:i<d.size:=by have:=(Ao6.1 hy).1;simp at this;omega
    rw[ApK,Apb hil,ApJ]at hy
    have e:(vs.extract off (off+d.size)).getD i undef=vs.getD (off+i) undef:=by
     have h2:off+i<vs.size:=by omega
     refine A2 ?_;rw[Array.getElem?_extract,Apb (by omega),AB h2]
    rw[e]
   ·exact ho _ _ hy
   exact hr _ _ hy
  |false=>
   rw[hag]at hx;simp only[ApC,Ap5]at hx;have hl:off<vs.size:=by have:=(Ao6.1 hx).1;omega
   exact⟨vs.getD off undef,by rw[Result.andThen_ok];simp only[ApC,Ap5,AB hl,Sem.run_pure],hr _ _ hx⟩
theorem UH(hE:E.Ok){s:TypeId}{f:Nat}(hv:Rep w pr g v x)(hx:T7 E s x f=some y) :∃u,(Instr.field s v f).run E.P w=.ok u w/\Rep w pr g u y:=by
 unfold T7 at hx;split at hx
 case h_2=>cases hx
 rename_i d cs hs;cases hd:d.desc<;>simp only[hd]at hx<;>try (cases hx;done)
 rename_i fields;cases hf:fields[f]? with
 |none=>simp[hf]at hx
 | some fl=>
  simp only[hf]at hx;cases htf:E.tab fl.type with
  |none=>simp[htf]at hx
  | some df=>
   simp only[htf]at hx;have hv2:=hv;cases hv with
   |agg _ vs _ h1 h2 h3=>
    obtain⟨u,hu,hr⟩:=XH hE htf hv2 hx;exact⟨u,by simp[Instr.field,AF hE hs,hd,hf,asAgg,hu],hr⟩
theorem OS{n:Nat}(hv:Rep w pr g v x)(hx:idx x n=some i):∃k,v=.int k (i:Int)/\i<n:=by
 unfold idx at hx;split at hx
 ·rename_i k z;split at hx
  ·rename_i h;simp only[Ao7]at hx;cases hv;exact⟨k,by rw[<-hx];congr 1;omega,by omega⟩
  cases hx
 cases hx
theorem PJ(hE:E.Ok)(hm:Mem E w g O){vi:Value}{ix:AV}(hv:Rep w (A3 E g) g v x)(hi:Rep w (A3 E g) g vi ix)(hx:Ao E O t x ix=some y) :∃u,(Instr.indexAt t v vi).run E.P w=.ok u w/\Rep w (A3 E g) g u y:=by
 unfold Ao at hx;cases ht:E.tab t with
 |none=>simp[ht]at hx
 | some d=>
  simp only[ht]at hx;cases hd:d.desc<;>simp only[hd]at hx<;>try (cases hx;done)
  ·rename_i e;split at hx
   ·rename_i de full els hte;split at hx
    case h_2=>cases hx
    rename_i i hidx;obtain⟨ki,rfl,hlt⟩:=OS hi hidx;cases hei:els[i]? with
    |none=>simp[hei]at hx
    | some cs=>
     simp only[hei]at hx;split at hx
     case isFalse=>cases hx
     rename_i hcs;simp only[Ao7]at hx;subst hx;cases hv with
     | sl _ a len cap _ _ k c hlen hcap hfull hnone hk hc hr=>
      have hkk:k=de.size:=by rw[<-hk i cs hei];exact hcs
      subst hkk;have hpos:0<cap:=by omega
      cases a with
      |none=>have:=hnone rfl;omega
      | some b=>
       have h1:i<len:=by omega
       refine⟨.pointer (some (b.add (i*de.size))),?_,?_⟩
       ·simp[Instr.indexAt,asIntOf,AF hE ht,hd,B9 hE hte,h1]
       refine .rp _ _ _ (c i) ?_ (fun j x hj=>hr i cs j x hei hj);intro j x hj;obtain⟨b',hb',q1,q2,q3⟩:=hc i cs j x hei hj;cases hb';rw[L6];exact⟨q1,q2,q3⟩
   ·rename_i de full id tot off len hte;split at hx
    case h_2=>cases hx
    rename_i k els ro i hO hidx;obtain⟨ki,rfl,hlt⟩:=OS hi hidx;split at hx
    case isFalse=>cases hx
    rename_i hcond;obtain⟨c1,c2,c3⟩:=hcond;simp only[Ao7]at hx;subst hx;cases hv with
    | bs _ _ _ _ _ _ _ b hb hbx htot h ho=>
     have hk:=hm.blk id b _ hb hO;have hbl:b.len=tot:=by have:=hk.2.2.2.1;omega
     have hbk:b.k=k:=hk.2.2.1;obtain⟨a,cap,rfl,q2,q3,q4,q5⟩:=h hbl;rcases q5 with q5|⟨β,hβ,rfl,q6⟩
     ·omega
     have h1:i<len:=by omega
     refine⟨.pointer (some ⟨β,b.o+(off+i)*b.k+0,none⟩),?_,.eref _ _ _ _ _ _ b hb hbx htot (fun _=>⟨β,hβ,rfl⟩) rfl⟩;have e:b.o+(off+i)*b.k+0=b.o+off*b.k+i*de.size:=by rw[ApH,hbk,c2];omega
     simp[Instr.indexAt,asIntOf,AF hE ht,hd,B9 hE hte,h1,Bv,e]
   cases hx
  rename_i n e;split at hx
  case h_2=>cases hx
  rename_i de i hte hidx;obtain⟨ki,rfl,hlt⟩:=OS hi hidx;have h1:i<n:=by omega
  have key:∀a,(Instr.indexAt t (.pointer (some a)) (.int ki i)).run E.P w=.ok (.pointer (some (a.add (i*de.size)))) w:=by
   intro a;simp[Instr.indexAt,asIntOf,Instr.sureAddr,AF hE ht,hd,B9 hE hte,h1]
  cases x with
  |ref id off=>
   simp only[Ao7]at hx;subst hx;cases hv with
   |ref _ _ _ β b hb hbx hβ=>exact⟨_,key _,by rw[Bv];exact .ref _ _ _ β b hb hbx hβ⟩
  |eref id tot i0 j=>
   simp only at hx;split at hx
   case isFalse=>cases hx
   rename_i hcur;simp only[Ao7]at hx;subst hx;obtain⟨b,β,hb,hbx,hbl,hβ,rfl⟩:=XE hm hv hcur;refine⟨_,key _,.eref _ _ _ _ _ _ b hb hbx (by omega) (fun _=>⟨β,hβ,?_⟩) rfl⟩;rw[Bv,AqI]
  |rp cs=>
   simp only[Ao7]at hx;subst hx;obtain⟨a,rfl,hc,hp⟩:=Rb hv;exact⟨_,key _,RW hc hp _⟩
  | glob i=>
   cases hG:E.G i with
   |none=>simp[hG]at hx
   |some cs=>
    simp only[hG,Ao7]at hx;subst hx;cases hv with
    |glob=>exact⟨_,key _,RW (Kt hm hG).1 (Uk hm hG) _⟩
  |_=>simp at hx
theorem S6:∀{els:List (List AV)},(∀cs∈els,cs.length=1)->∀{n j:Nat} {x:AV},(els.take n).flatten[j]?=some x->∃cs:List AV,els[j]?=some cs/\cs[0]?=some x
 |[],_,n,j,x,h=>by simp at h
 |cs::els,hl,0,j,x,h=>by simp at h
 | cs::els,hl,n+1,j,x,h=>by
  obtain⟨y,rfl⟩:=List.length_eq_one_iff.1 (hl cs (by simp));rw[ArE,Arc]at h;cases j with
  |zero=>exact⟨_,rfl,by simpa using h⟩
  |succ j=>
   rw[Aru,Arl]at h;exact S6 (fun c hc=>hl c (ApP _ hc)) h
theorem Abb{z:Value}{n:Nat}(hz:z.cells.size=n)(hn:2<=n):z=.agg z.cells:=by
 cases z<;>simp[Value.cells]at hz ⊢<;>omega
theorem Acf{d:TD}{z:Value}(hz1:z.cells.size=d.size)(hz2:d.zero.length=d.size)(hz3:∀(j:Nat) (x:AV),d.zero[j]?=some x->Rep w pr g (z.cells.getD j undef) x/\one (z.cells.getD j undef)=true):Rep w pr g z (XW d):=by
 unfold XW;split
 ·rename_i h2;rw[Abb hz1 h2];refine .agg _ _ _ (by simpa using(by omega:z.cells.size=d.zero.length)) (fun i x hi=>?_) (fun i x hi=>?_)
  ·exact(hz3 i x hi).2
  exact(hz3 i x hi).1
 exact .junk _ _
theorem TQ(hE:E.Ok){xt:TypeId}{ok:Bool}(hv:Rep w pr g v x)(hx:Ng E x t ok=some y) :∃u,(Instr.typeAssert v xt t ok).run E.P w=.ok u w/\Rep w pr g u y:=by
 unfold Ng at hx;cases ht:E.tab t with
 |none=>simp[ht]at hx
 | some d=>
  simp only[ht]at hx;obtain⟨z,hz,hz1,hz2,hz3⟩:=K4 hE ht w;have hzr:=Acf (w:=w) (g:=g) (pr:=pr) hz1 hz2 (fun j x h=>hz3 w pr g j x h)
  have pair:∀{u:Value} {p:AV} {b:Bool},Rep w pr g u p->Rep w pr g (.tuple #[u,.bool b]) (.tup [p,.bool b]):=by
   intro u p b h;refine .tup _ _ _ rfl ?_;intro i q hi
   match i,hi with
   |0,hi=>cases hi;exact h
   |1,hi=>cases hi;exact .bool _ _
  split at hx
  case h_1=>cases hx
  rename_i hni;split at hx
  ·rename_i tx p;cases hv with
   | iface _ _ u _ hr=>
    split at hx
    ·rename_i e;cases hx;subst e;refine⟨.tuple #[u,.bool true],?_,pair hr⟩;unfold Instr.typeAssert;simp only[Sem.run_bind,AF hE ht,Result.andThen_ok];cases hd:d.desc<;>first|(exact(hni _ hd).elim)|(simp only[ApT,Sem.run_pure])
    rename_i e;cases hx;refine⟨.tuple #[z,.bool false],?_,pair hzr⟩;unfold Instr.typeAssert;simp only[Sem.run_bind,AF hE ht,Result.andThen_ok];cases hd:d.desc<;>first|(exact(hni _ hd).elim)|(simp only[Apd e,ApT,Sem.run_bind,hz,Result.andThen_ok,Sem.run_pure])
  ·cases hv with
   |val _ _ _=>
    cases hx;refine⟨.tuple #[z,.bool false],?_,pair hzr⟩;unfold Instr.typeAssert;simp only[Sem.run_bind,AF hE ht,Result.andThen_ok];cases hd:d.desc<;>first|(exact(hni _ hd).elim)|(simp only[ApT,Sem.run_bind,hz,Result.andThen_ok,Sem.run_pure])
  cases hx
theorem TB(hE:E.Ok)(hv:Rep w pr g v x)(hx:RZ E t x=some y) :∃u,(Instr.arrayAt t v).run E.P w=.ok u w/\Rep w pr g u y:=by
 unfold RZ at hx;cases ht:E.tab t with
 |none=>simp[ht]at hx
 | some d=>
  simp only[ht]at hx;split at hx
  case h_2=>cases hx
  rename_i full els hd0;cases hd0;split at hx
  case h_2=>cases hx
  rename_i n e hd;split at hx
  case isFalse=>cases hx
  rename_i hc;obtain⟨c1,c2,c3⟩:=hc;have c4:∀cs∈els,cs.length=1:=by simpa using c3
  cases hx;cases hv with
  | sl _ a len cap _ _ k c hlen hcap hfull hnone hk hc hr=>
   have hkk:k=1:=by
    have h0:=Ao9 (l:=els) (i:=0) (by omega);rw[<-hk 0 _ h0];exact c4 _ (Aqp _)
   subst hkk;cases a with
   |none=>have:=hnone rfl;omega
   | some b=>
    refine⟨.pointer (some b),?_,.rp _ _ _ (fun j=>c j 0) (fun j x hj=>?_) (fun j x hj=>?_)⟩
    ·have h1:¬len<n:=by omega
     simp[Instr.arrayAt,AF hE ht,hd,h1]
    ·obtain⟨cs,q1,q2⟩:=S6 c4 hj;obtain⟨b',hb',p1,p2,p3⟩:=hc j cs 0 x q1 q2;cases hb';simp only[Aro,AqD]at p1 p2;exact⟨p1,p2,p3⟩
    obtain⟨cs,q1,q2⟩:=S6 c4 hj;exact hr j cs 0 x q1 q2
theorem VD(hE:E.Ok){vi:Value}{ix:AV}(hv:Rep w pr g v x)(hi:Rep w pr g vi ix)(hx:JC E t x ix=some y) :∃u,(Instr.index t v vi).run E.P w=.ok u w/\Rep w pr g u y:=by
 unfold JC at hx;cases ht:E.tab t with
 |none=>simp[ht]at hx
 | some d=>
  simp only[ht]at hx;split at hx
  ·rename_i n e cs hd;split at hx
   case h_2=>cases hx
   rename_i de i hte hidx;obtain⟨ki,rfl,hlt⟩:=OS hi hidx;have hv2:=hv;cases hv with
   |agg _ vs _ h1 h2 h3=>
    obtain⟨u,hu,hr⟩:=XH hE hte hv2 hx;have h1:i<n:=by omega
    exact⟨u,by simp[Instr.index,asIntOf,AF hE ht,hd,B9 hE hte,h1,hu],hr⟩
  ·rename_i s hd;split at hx
   case h_2=>cases hx
   rename_i i hidx;obtain⟨ki,rfl,hlt⟩:=OS hi hidx;cases hsi:s[i]? with
   |none=>simp[hsi]at hx
   | some b=>
    simp only[hsi,Ao7]at hx;subst hx;cases hv with
    | str _ ba _ hl=>
     have hb:ba[i]?=some b:=by
      rw[<-hl]at hsi;have:ba.data[i]?=some b:=by simpa using hsi
      rw[<-this];rfl
     exact⟨.int .u8 b.toNat,by simp[Instr.index,asIntOf,AF hE ht,hd,hb],.int _ _ _⟩
  cases hx
end Go.Rv
