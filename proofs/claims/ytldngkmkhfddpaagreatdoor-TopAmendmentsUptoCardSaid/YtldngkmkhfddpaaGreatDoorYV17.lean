/-
  Part 17.
-/
import Derived.Test.YtldngkmkhfddpaaGreatDoorYV16
namespace Go.Rv
set_option linter.unusedVariables false
set_option linter.unusedSimpArgs false
variable{x y:AV}{b:Bool}{v:Value}{n N t:Nat}{l:List (Nat×FuncId×List AV×AV)}{O:Ad}{st:St}{B:Base}{K:CX}{c:Code}{f:FuncId}{m:List (Nat×FuncId×List AV×Ad×AV×Ad)}{α:Type}
variable {E:Env}
def Ae3:AV->Bool
 |.tup _=>true
 |_=>false
def wkc(sel:List Nat):AV->AV->Prop
 |.ref i o,.ref id o'=>sel[id]?=some i/\o=o'
 |.tref i t,.tref id t'=>sel[id]?=some i/\t=t'
 |x,y=>x=y/\y.closed=true/\Ae3 y=false
def AnK(sel:List Nat):List AV->List AV->Prop
 |[],[]=>True
 |x::xs,y::ys=>wkc sel x y/\AnK sel xs ys
 |_,_=>False
theorem Rj{sel:List Nat}:∀{xs ys:List AV},AnK sel xs ys->xs.length=ys.length/\∀(i:Nat) (y:AV),ys[i]?=some y->∃x,xs[i]?=some x/\wkc sel x y
 |[],[],_=>⟨rfl,fun i y h=>by simp at h⟩
 |x::xs,y::ys,h=>by
  obtain⟨h1,h2⟩:=Rj h.2;refine⟨by simp[h1],fun i z hz=>?_⟩;cases i with
  |zero=>simp at hz;subst hz;exact⟨x,rfl,h.1⟩
  |succ i=>simpa using h2 i z (by simpa using hz)
theorem Mr{sel:List Nat}(h:wkc sel x y):∀ys,y≠.tup ys:=by
 rintro ys rfl;cases x<;>(simp only[wkc]at h;obtain⟨_,_,h3⟩:=h;cases h3)
theorem Mf{sel:List Nat}(h:wkc sel x y):(∃i o id,x=.ref i o/\y=.ref id o/\sel[id]?=some i)\/(∃i o id,x=.tref i o/\y=.tref id o/\sel[id]?=some i)\/(x=y/\y.closed=true):=by
 unfold wkc at h;split at h
 ·obtain⟨h1,rfl⟩:=h;exact .inl ⟨_,_,_,rfl,rfl,h1⟩
 ·obtain⟨h1,rfl⟩:=h;exact .inr (.inl ⟨_,_,_,rfl,rfl,h1⟩)
 exact .inr (.inr ⟨h.1,h.2.1⟩)
def wkB(sel:List Nat):List AV->List AV->Prop
 |[.tup [.ref i o]],[.tup [.ref id o']]=>sel[id]?=some i/\o=o'
 |_,_=>False
def wk0(sel:List Nat):AV->AV->Prop
 |_,.junk=>True
 |.bs f i t o l,.bs f' id t' o' l'=>sel[id]?=some i/\(f'=true->f=true)/\t=t'/\o=o'/\l=l'
 |.ref i o,.ref id o'=>sel[id]?=some i/\o=o'
 |.tref i t,.tref id t'=>sel[id]?=some i/\t=t'
 |.mref i,.mref id=>sel[id]?=some i
 |.yld i,.yld id=>sel[id]?=some i
 |.nref i,.nref id=>sel[id]?=some i
 |.eref i t a b,.eref id t' a' b'=>sel[id]?=some i/\t=t'/\a=a'/\b=b'
 |.sl f els,.sl f' els'=>(f'=true->f=true)/\els=els'
 |.fn f cs,.fn f' cs'=>(AV.fn f cs=AV.fn f' cs'/\(AV.fn f' cs').closed=true)\/(f=f'/\AnK sel cs cs')\/(f=f'/\wkB sel cs cs')
 |x,y=>x=y/\y.closed=true
def wkL(sel:List Nat):List AV->List AV->Prop
 |[],[]=>True
 |x::xs,y::ys=>wk0 sel x y/\wkL sel xs ys
 |_,_=>False
def wk1(sel:List Nat):AV->AV->Prop
 |.agg xs,.agg ys=>wkL sel xs ys
 |.tup xs,.tup ys=>wkL sel xs ys
 |x,y=>wk0 sel x y
def wkT(sel:List Nat):List (Nat×AV)->List (Nat×AV)->Prop
 |_,[]=>True
 |x::xs,y::ys=>(x.1=y.1/\wk1 sel x.2 y.2)/\wkT sel xs ys
 |_,_=>False
def Ts(sel:List Nat):ABlk->ABlk->Prop
 |.box cs ro,.box cs' ro'=>ro=ro'/\wkL sel cs cs'
 |.buf k els ro,.buf k' els' ro'=>k=k'/\ro=ro'/\els=els'/\DJ els'=true
 |.obj o,.obj o'=>o=o'
 |.tb T l,.tb T' l'=>T=T'/\l=l'
 |.mp st es,.mp st' es'=>st=st'/\es=es'
 |.lp y N l ps a b,.lp y' N' l' ps' a' b'=>y=y'/\N=N'/\ps=ps'/\a=a'/\b=b'/\wkT sel l l'
 |.gone,.gone=>True
 |_,_=>False
def Im(sel:List Nat)(O:Ad):List Nat->Ad->Prop
 |[],[]=>True
 |i::l,b'::O'=>(match O[i]? with
  |some b=>Ts sel b b'
  |none=>False)/\Im sel O l O'
 |_,_=>False
def Ah1(sel:List Nat)(l:Fr):Fr->Prop
 |[]=>True
 |p::l'=>wk1 sel (look l p.1) p.2/\Ah1 sel l l'
theorem JU{sel:List Nat}:∀{xs ys:List AV},wkL sel xs ys->xs.length=ys.length/\∀(i:Nat) (y:AV),ys[i]?=some y->∃x,xs[i]?=some x/\wk0 sel x y
 |[],[],_=>⟨rfl,fun i y h=>by simp at h⟩
 |x::xs,y::ys,h=>by
  obtain⟨h1,h2⟩:=JU h.2;refine⟨by simp[h1],fun i z hz=>?_⟩;cases i with
  |zero=>simp at hz;subst hz;exact⟨x,rfl,h.1⟩
  |succ i=>simpa using h2 i z (by simpa using hz)
theorem Rg{sel:List Nat}:∀{xs ys:List (Nat×AV)},wkT sel xs ys->∀y∈ys,∃x∈xs,x.1=y.1/\wk1 sel x.2 y.2
 |xs,[],_=>fun y h=>by simp at h
 |[],y::ys,h=>h.elim
 | x::xs,y::ys,h=>by
  intro z hz;rcases Apq.1 hz with rfl|hz
  ·exact⟨x,Apn,h.1⟩
  obtain⟨x',h1,h2⟩:=Rg h.2 z hz;exact⟨x',ApI _ h1,h2⟩
theorem M2{sel:List Nat}{O:Ad}:∀{l:List Nat} {O':Ad},Im sel O l O'->l.length=O'.length/\∀(id:Nat) (b':ABlk),O'[id]?=some b'->∃i b,l[id]?=some i/\O[i]?=some b/\Ts sel b b'
 |[],[],_=>⟨rfl,fun i y h=>by simp at h⟩
 | i::l,b'::O',h=>by
  obtain⟨h1,h2⟩:=M2 h.2;refine⟨by simp[h1],fun id z hz=>?_⟩;cases id with
  |zero=>
   simp at hz;subst hz;have h3:=h.1;split at h3
   ·rename_i b hb;exact⟨i,b,rfl,hb,h3⟩
   exact h3.elim
  |succ id=>simpa using h2 id z (by simpa using hz)
theorem OJ{sel:List Nat}{l:Fr}:∀{l':Fr},Ah1 sel l l'->∀t,look l' t=.junk\/wk1 sel (look l t) (look l' t)
 |[],_,t=>.inl rfl
 |p::l',h,t=>by
  show(if t=p.1 then p.2 else look l' t)=_\/wk1 sel _ (if t=p.1 then p.2 else look l' t);by_cases e:t=p.1
  ·rw[Ao4 e];right;rw[e];exact h.1
  rw[Ao6 e];exact OJ h.2 t
def CK(sel:List Nat)(g:Gh):Gh:=sel.map fun i=>g.getD i ⟨none,0,0,0,0,false,false⟩
theorem A6{sel:List Nat}{g:Gh}{id:Nat}{b:GB}(hs:∀i∈sel,i<g.length):(CK sel g)[id]?=some b↔∃i,sel[id]?=some i/\g[i]?=some b:=by
 unfold CK;rw[Apw,AoY];constructor
 ·rintro⟨i,hi,rfl⟩;have:=hs i (Ao8 hi);exact⟨i,hi,by rw[Ao2 this,Apm,Ao2 this];rfl⟩
 rintro⟨i,hi,hb⟩;exact⟨i,hi,by rw[Apm,hb];rfl⟩
section
variable {w:World}{g:Gh}{sel:List Nat}
theorem Gn(hs:∀i∈sel,i<g.length){a:Addr}(h:A2 E g a):A2 E (CK sel g) a :=
 ⟨h.1,fun id b hb hβ=>by obtain⟨i,_,hi⟩:=(A6 hs).1 hb;exact h.2 i b hi hβ⟩
theorem DD(hs:∀i∈sel,i<g.length){β:Nat}(h:Fy (CK sel g) β):Fy g β:=by
 obtain⟨id,b,hb,hβ⟩:=h;obtain⟨i,_,hi⟩:=(A6 hs).1 hb;exact⟨i,b,hi,hβ⟩
theorem PI(hs:∀i∈sel,i<g.length)(h:Rep w (A2 E g) g v x)(hw:wk0 sel x y):Rep w (A2 E (CK sel g)) (CK sel g) v y:=by
 have hcl:∀{z:AV},Rep w (A2 E g) g v z->z.closed=true->Rep w (A2 E (CK sel g)) (CK sel g) v z:=fun h1 h2=>
  (Cq h1 h2).mono (fun a u hc hp=>⟨hc,Gn hs hp⟩) (GLe.nil _)
 by_cases hj:y=.junk
 ·subst hj;exact .junk _ _
 cases x<;>cases y<;>first
  |exact(hj rfl).elim
  |(simp only[wk0]at hw;exfalso;have h1:=hw.1;cases h1;done)
  |(simp only[wk0]at hw;obtain⟨e,hc⟩:=hw;rw[<-e]at hc ⊢;exact hcl h hc;done)
  |skip
 case bs.bs f i t o l f' id t' o' l'=>
  simp only[wk0]at hw;obtain⟨h1,h2,rfl,rfl,rfl⟩:=hw;cases h with
  |bs _ _ _ _ _ _ _ b hb hx ht h ho=>
   refine .bs _ _ _ _ _ _ _ b ((A6 hs).2 ⟨i,h1,hb⟩) hx ht (fun e=>?_) ho;obtain⟨a,cap,q1,q2,q3,q4,q5⟩:=h e;exact⟨a,cap,q1,q2,fun e=>q3 (h2 e),q4,q5⟩
 case ref.ref i o id o'=>
  simp only[wk0]at hw;obtain⟨h1,rfl⟩:=hw;cases h with
  |ref _ _ _ β b hb hx hβ=>exact .ref _ _ _ β b ((A6 hs).2 ⟨i,h1,hb⟩) hx hβ
 case tref.tref i t id t'=>
  simp only[wk0]at hw;obtain⟨h1,rfl⟩:=hw;cases h with
  |tref _ _ _ β b hb hx hβ ht=>exact .tref _ _ _ β b ((A6 hs).2 ⟨i,h1,hb⟩) hx hβ ht
 case mref.mref i id=>
  simp only[wk0]at hw;cases h with
  |mref _ _ β b hb hx hβ=>exact .mref _ _ β b ((A6 hs).2 ⟨i,hw,hb⟩) hx hβ
 case yld.yld i id=>
  simp only[wk0]at hw;cases h with
  |yld _ _ β b hb hx hβ=>exact .yld _ _ β b ((A6 hs).2 ⟨i,hw,hb⟩) hx hβ
 case nref.nref i id=>
  simp only[wk0]at hw;cases h with
  |nref _ _ _ b hb hx h=>exact .nref _ _ _ b ((A6 hs).2 ⟨i,hw,hb⟩) hx h
 case eref.eref i t a b' id t' a' b2=>
  simp only[wk0]at hw;obtain⟨h1,rfl,rfl,rfl⟩:=hw;cases h with
  |eref _ _ _ _ _ _ b hb hx ht h ho=>exact .eref _ _ _ _ _ _ b ((A6 hs).2 ⟨i,h1,hb⟩) hx ht h ho
 case sl.sl f els f' els'=>
  simp only[wk0]at hw;obtain⟨h1,rfl⟩:=hw
  have:Rep w (A2 E g) g v (.sl f' els):=by
   cases h with
   |sl _ a len cap _ _ k c hlen hcap hfull hnone hk hc hr=>exact .sl _ a len cap f' els k c hlen hcap (fun e=>hfull (h1 e)) hnone hk hc hr
  exact hcl this (by simp[AV.closed])
 case fn.fn f cs f' cs'=>
  simp only[wk0]at hw;rcases hw with⟨e,hc⟩|⟨rfl,hw⟩|⟨rfl,hw⟩
  ·rw[<-e]at hc ⊢;exact hcl h hc
  rotate_left
  ·unfold wkB at hw;split at hw
   case h_2=>exact hw.elim
   obtain⟨h1,rfl⟩:=hw;cases h with
   |fn _ _ caps _ hsz hr hn=>exact absurd rfl (hn _)
   | fnb _ _ fs _ hsz hr=>
    refine .fnb _ _ fs _ hsz (fun j y hy=>?_)
    match j,hy with
    |0,hy=>
     cases hy;have h3:=hr 0 _ rfl;generalize fs.getD 0 undef=u at h3 ⊢;cases h3 with
     |ref _ _ _ β b hb hx hβ=>exact .ref _ _ _ β b ((A6 hs).2 ⟨_,h1,hb⟩) hx hβ
  obtain⟨l1,l2⟩:=Rj hw
  have hnt:∀ys,cs'≠[.tup ys]:=by
   rintro ys rfl;obtain⟨x,_,hx⟩:=l2 0 _ rfl;exact Mr hx ys rfl
  have conv:∀{u:Value} {x y:AV},Rep w (A2 E g) g u x->wkc sel x y->Rep w (A2 E (CK sel g)) (CK sel g) u y:=by
   intro u x y hr hxy;rcases Mf hxy with⟨i,o,id,rfl,rfl,h1⟩|⟨i,o,id,rfl,rfl,h1⟩|⟨rfl,hc⟩
   ·cases hr with
    |ref _ _ _ β b hb hx hβ=>exact .ref _ _ _ β b ((A6 hs).2 ⟨i,h1,hb⟩) hx hβ
   ·cases hr with
    |tref _ _ _ β b hb hx hβ ht=>exact .tref _ _ _ β b ((A6 hs).2 ⟨i,h1,hb⟩) hx hβ ht
   exact(Cq hr hc).mono (fun a u hc hp=>⟨hc,Gn hs hp⟩) (GLe.nil _)
  cases h with
  |fn _ _ caps _ hsz hr hn=>
   refine .fn _ _ caps cs' (by omega) (fun i y hy=>?_) hnt;obtain⟨x,hx,hxy⟩:=l2 i y hy;exact conv (hr i x hx) hxy
  | fnb _ _ fs xs hsz hr=>
   exfalso
   match cs',hw with
   |[y],hw=>
    obtain⟨hy,_⟩:=hw;rcases Mf hy with⟨i,o,id,h1,_⟩|⟨i,o,id,h1,_⟩|⟨h1,_⟩
    ·cases h1
    ·cases h1
    exact Mr hy _ h1.symm
theorem Rd(hs:∀i∈sel,i<g.length)(h:Rep w (A2 E g) g v x)(hw:wk1 sel x y):Rep w (A2 E (CK sel g)) (CK sel g) v y:=by
 by_cases ha:∃xs ys,x=.agg xs/\y=.agg ys
 ·obtain⟨xs,ys,rfl,rfl⟩:=ha;simp only[wk1]at hw;obtain⟨h1,h2⟩:=JU hw;cases h with
  |agg _ vs _ hs' ho hr=>
   refine .agg _ vs ys (by omega) (fun i y hy=>?_) (fun i y hy=>?_)
   ·obtain⟨x,hx,_⟩:=h2 i y hy;exact ho i x hx
   obtain⟨x,hx,hxy⟩:=h2 i y hy;exact PI hs (hr i x hx) hxy
 by_cases hb:∃xs ys,x=.tup xs/\y=.tup ys
 ·obtain⟨xs,ys,rfl,rfl⟩:=hb;simp only[wk1]at hw;obtain⟨h1,h2⟩:=JU hw;cases h with
  |tup _ vs _ hs' hr=>
   refine .tup _ vs ys (by omega) (fun i y hy=>?_);obtain⟨x,hx,hxy⟩:=h2 i y hy;exact PI hs (hr i x hx) hxy
 have:wk1 sel x y=wk0 sel x y:=by
  cases x<;>cases y<;>first
   |rfl
   |exact(ha ⟨_,_,rfl,rfl⟩).elim
   |exact(hb ⟨_,_,rfl,rfl⟩).elim
 exact PI hs h (this ▸ hw)
end
theorem LO:∀{l:List Nat},l.Nodup->∀{i j:Nat} (hi:i<l.length) (hj:j<l.length),l[i]=l[j]->i=j
 |[],_,i,j,hi,_,_=>by simp at hi
 |x::l,h,0,0,_,_,_=>rfl
 |x::l,h,0,j+1,_,hj,e=>by
  exfalso;have:=(Ary.1 h).1;refine this ?_;have e':x=l[j]'(by simpa using hj):=e;rw[e'];exact Aqi _
 |x::l,h,i+1,0,hi,_,e=>by
  exfalso;have:=(Ary.1 h).1;refine this ?_;have e':l[i]'(by simpa using hi)=x:=e;rw[<-e'];exact Aqi _
 |x::l,h,i+1,j+1,hi,hj,e=>by
  have:=LO (Ary.1 h).2 (by simpa using hi) (by simpa using hj) e;omega
theorem WF{l l':Fr}{O':Ad}(sel:List Nat)(hnd:sel.Nodup)(hn:sel.take n=List.range n)(hO:Im sel O sel O')(hf:Ah1 sel l l'):Weak E n ⟨Al N l,O⟩ ⟨Al N l',O'⟩:=by
 obtain⟨hl,hget⟩:=M2 hO;refine Eh fun a w g h=>?_
 have hm:=h.mem;have hlen:g.length=O.length:=hm.len
 have hs:∀i∈sel,i<g.length:=by
  intro i hi;obtain⟨id,hid,rfl⟩:=ApW hi;obtain⟨i',b,h1,h2,_⟩:=hget id (O'[id]'(by omega)) (Ao2 _);rw[Ao2 hid]at h1;cases h1;rw[hlen];exact(AoZ.1 h2).1
 refine⟨CK sel g,⟨?_,?_,?_,h.defers.sub (fun β hh=>DD hs hh)⟩,?_⟩
 ·have:=h.size;simpa [Al]using this
 ·intro t x hx;rw[BS]at hx;split at hx
  case isFalse=>cases hx
  rename_i ht;cases hx;rcases OJ hf t with e|e
  ·rw[e];exact .junk _ _
  exact Rd hs (h.slot t _ (by rw[BS,Ao4 ht])) e
 ·refine⟨by simp[CK,hl],?_,?_,fun a ha=>⟨(hm.foreign a ha).1,fun hh=>(hm.foreign a ha).2 (DD hs hh)⟩,?_,hm.maps,fun i vs h=>⟨fun hh=>(hm.whole i vs h).1 (DD hs hh),(hm.whole i vs h).2⟩⟩
  ·intro id b ab' h1 h2;obtain⟨i,ab,e1,e2,e3⟩:=hget id ab' h2;obtain⟨i',f1,f2⟩:=(A6 hs).1 h1;rw[e1]at f1;cases f1;have hk:=hm.blk i b ab f2 e2;cases ab with
   | box cs ro=>
    cases ab' with
    |buf=>exact e3.elim
    |obj=>exact e3.elim
    |mp=>exact e3.elim
    |lp=>exact e3.elim
    |gone=>exact e3.elim
    |tb=>exact e3.elim
    |box cs' ro'=>
     obtain⟨rfl,e4⟩:=e3;obtain⟨e5,e6⟩:=JU e4;obtain⟨k1,k2,k3,k4,k5,β,arr,t,fz,k6,k7,k8,k9,k10⟩:=hk;refine⟨k1,k2,k3,by omega,k5,β,arr,t,fz,k6,k7,by omega,k9,fun j y hj=>?_⟩;obtain⟨x,hx,hxy⟩:=e6 j y hj;exact⟨PI hs (k10 j x hx).1 hxy,(k10 j x hx).2⟩
   | buf k els ro=>
    cases ab' with
    |box=>exact e3.elim
    |obj=>exact e3.elim
    |mp=>exact e3.elim
    |lp=>exact e3.elim
    |gone=>exact e3.elim
    |tb=>exact e3.elim
    |buf k' els' ro'=>
     obtain⟨rfl,rfl,rfl,e4⟩:=e3;obtain⟨k1,k2,k3,k4,k5,k6,k7⟩:=hk;refine⟨k1,k2,k3,k4,k5,k6,fun β hβ=>?_⟩;obtain⟨arr,t,fz,g1,g2,g3,g4,g5⟩:=k7 β hβ;refine⟨arr,t,fz,g1,g2,g3,g4,fun i cs j x hi hj=>⟨?_,(g5 i cs j x hi hj).2⟩⟩;have hcl:x.closed=true:=Api.1 (Api.1 e4 cs (Ao8 hi)) x (Ao8 hj);exact(Cq (g5 i cs j x hi hj).1 hcl).mono (fun a u hc hp=>⟨hc,Gn hs hp⟩) (GLe.nil _)
   | mp st es=>
    cases ab' with
    |box=>exact e3.elim
    |buf=>exact e3.elim
    |obj=>exact e3.elim
    |tb=>exact e3.elim
    |lp=>exact e3.elim
    |gone=>exact e3.elim
    |mp st' es'=>
     obtain⟨rfl,rfl⟩:st=st'/\es=es':=e3;obtain⟨k1,kx,ky,β,arr,cl,k2,k3,k4,k5,k6⟩:=hk;refine⟨k1,kx,ky,β,arr,cl,k2,k3,k4,k5,fun j e hj=>?_⟩;obtain⟨k,x,q1,q2,q3⟩:=k6 j e hj;exact⟨k,x,q1,q2,q3.mono (fun a u hc hp=>⟨hc,Gn hs hp⟩) (GLe.nil _)⟩
   | lp y N1 l1 ps as1 bd=>
    cases ab' with
    |box=>exact e3.elim
    |buf=>exact e3.elim
    |obj=>exact e3.elim
    |tb=>exact e3.elim
    |mp=>exact e3.elim
    |gone=>exact e3.elim
    |lp y' N2 l2 ps' as2 bd'=>
     obtain⟨rfl,rfl,rfl,rfl,rfl,e4⟩:=e3;obtain⟨k1,β,f,T,D,k2,k3,k4,k5⟩:=hk;refine⟨k1,β,f,T,D,k2,k3,k4,fun z hz=>?_⟩;obtain⟨x,hx,hx1,hxy⟩:=Rg e4 z hz;rw[<-hx1];exact Rd hs (k5 x hx) hxy
   |gone=>
    cases ab' with
    |box=>exact e3.elim
    |buf=>exact e3.elim
    |obj=>exact e3.elim
    |tb=>exact e3.elim
    |mp=>exact e3.elim
    |lp=>exact e3.elim
    |gone=>exact hk
   | obj o=>
    cases ab' with
    |box=>exact e3.elim
    |buf=>exact e3.elim
    |tb=>exact e3.elim
    |mp=>exact e3.elim
    |lp=>exact e3.elim
    |gone=>exact e3.elim
    |obj o'=>
     obtain rfl:o=o':=e3;exact hk
   | tb T l=>
    cases ab' with
    |box=>exact e3.elim
    |buf=>exact e3.elim
    |obj=>exact e3.elim
    |mp=>exact e3.elim
    |lp=>exact e3.elim
    |gone=>exact e3.elim
    |tb T' l'=>
     obtain⟨rfl,rfl⟩:=e3;exact Xu hk
  ·intro id id' b b' β h1 h2 e1 e2;obtain⟨i,f1,f2⟩:=(A6 hs).1 h1;obtain⟨i',f1',f2'⟩:=(A6 hs).1 h2;have:=hm.inj i i' b b' β f2 f2' e1 e2;subst this;have hi1:=(AoZ.1 f1);have hi2:=(AoZ.1 f1');obtain⟨l1,q1⟩:=hi1;obtain⟨l2,q2⟩:=hi2;exact LO hnd l1 l2 (q1.trans q2.symm)
  intro i cs hG;obtain⟨q1,q2,q3,c,q4⟩:=hm.glob i cs hG;exact⟨q1,fun hh=>q2 (DD hs hh),q3,c,fun j x hj=>⟨(q4 j x hj).1,(q4 j x hj).2.1.mono (fun a u hc hp=>⟨hc,Gn hs hp⟩) (GLe.nil _),(q4 j x hj).2.2⟩⟩
 refine⟨rfl,rfl,rfl,Apf _,fun a u hc hp=>⟨hc,Gn hs hp⟩,fun β _ hn'=>⟨rfl,fun hh=>hn' (DD hs hh)⟩,fun id hid b hb=>⟨b,(A6 hs).2 ⟨id,?_,hb⟩,GB.step.refl b⟩⟩;have:(sel.take n)[id]?=some id:=by rw[hn,AqT hid]
 rw[ApD,Ao4 hid]at this;exact this
theorem GY{w:World}{g:Gh}(hm:Mem E w g O)(k:Nat):Mem E w (g++[⟨none,0,k,0,0,false,false⟩]) (O++[.buf k [] false]) /\(∀a,A2 E g a->A2 E (g++[⟨none,0,k,0,0,false,false⟩]) a)/\(∀β,Fy (g++[⟨none,0,k,0,0,false,false⟩]) β->Fy g β):=by
 have hget:∀(id:Nat) (b:GB),(g++[(⟨none,0,k,0,0,false,false⟩:GB)])[id]?=some b->(g[id]?=some b)\/(id=g.length/\b=⟨none,0,k,0,0,false,false⟩):=by
  intro id b h;rcases ApQ id g.length with hl|hl
  ·rw[Ao9 hl]at h;exact .inl h
  rw[Ao7 hl]at h
  have:id-g.length=0:=by
   have:=(AoZ.1 h).1;simp at this;exact this
  rw[this]at h;simp at h;exact .inr ⟨by omega,h.symm⟩
 have hp:∀a,A2 E g a->A2 E (g++[⟨none,0,k,0,0,false,false⟩]) a:=fun a h=>⟨h.1,fun id b hb hβ=>by
  rcases hget id b hb with h2|⟨_,rfl⟩
  ·exact h.2 id b h2 hβ
  cases hβ⟩
 have hmine:∀β,Fy (g++[⟨none,0,k,0,0,false,false⟩]) β->Fy g β:=by
  rintro β ⟨id,b,hb,hβ⟩;rcases hget id b hb with h2|⟨_,rfl⟩
  ·exact⟨id,b,h2,hβ⟩
  cases hβ
 refine⟨⟨by simp[hm.len],?_,?_,fun a ha=>⟨(hm.foreign a ha).1,fun hh=>(hm.foreign a ha).2 (hmine _ hh)⟩,?_,hm.maps,fun i vs h=>⟨fun hh=>(hm.whole i vs h).1 (hmine _ hh),(hm.whole i vs h).2⟩⟩,hp,hmine⟩
 ·intro id b ab h1 h2;rcases hget id b h1 with h3|⟨rfl,rfl⟩
  ·have hl:id<O.length:=by rw[<-hm.len];exact(AoZ.1 h3).1
   rw[Ao9 hl]at h2;exact(hm.blk id b ab h3 h2).mono (fun a u hc hpr=>⟨hc,hp a hpr⟩) (GLe.append _ _) (fun _ _=>rfl)
  rw[hm.len,Ao7 (Apf _)]at h2;simp at h2;subst h2;exact⟨rfl,rfl,rfl,rfl,by simp,fun _=>⟨.inl rfl,rfl⟩,by simp⟩
 ·intro id id' b b' β h1 h2 e1 e2;rcases hget id b h1 with h3|⟨rfl,rfl⟩
  ·rcases hget id' b' h2 with h4|⟨rfl,rfl⟩
   ·exact hm.inj id id' b b' β h3 h4 e1 e2
   cases e2
  cases e1
 intro i cs hG;obtain⟨q1,q2,q3,c,q4⟩:=hm.glob i cs hG;exact⟨q1,fun hh=>q2 (hmine _ hh),q3,c,fun j x hj=>⟨(q4 j x hj).1,(q4 j x hj).2.1.mono (fun a u hc hpr=>⟨hc,hp a hpr⟩) (GLe.nil _),(q4 j x hj).2.2⟩⟩
theorem Ns{w:World}{g:Gh}{pr pr':Addr->Prop}(h:Rep w pr g v (.sl true []))(k:Nat):Rep w pr' (g++[⟨none,0,k,0,0,false,false⟩]) v (.bs true g.length 0 0 0):=by
 cases h with
 |sl _ a len cap _ _ k' c hlen hcap hfull hnone hk hc hr=>
  simp at hlen;subst hlen;have:=hfull rfl;refine .bs _ _ _ _ _ _ _ ⟨none,0,k,0,0,false,false⟩ (by rw[Ao7 (Apf _)];simp) rfl (Apf _) (fun _=>⟨a,cap,rfl,hcap,fun _=>this,Apf _,.inl this⟩) rfl
theorem Iu{w:World}{g:Gh}(hm:Mem E w g O)(n k:Nat):Evo E n w g w (g++[⟨none,0,k,0,0,false,false⟩]):=by
 obtain⟨_,hp,hmine⟩:=GY hm k;exact⟨rfl,rfl,rfl,Apf _,fun a u hc hpr=>⟨hc,hp a hpr⟩,fun β _ hn=>⟨rfl,fun hh=>hn (hmine β hh)⟩,fun id _ b hb=>GLe.append g _ id b hb⟩
theorem LV{l:Fr}(t k:Nat)(h:look l t=.sl true []):Weak E n ⟨Al N l,O⟩ ⟨Al N ((t,.bs true O.length 0 0 0)::l),O++[.buf k [] false]⟩:=by
 refine Eh fun a w g hr=>⟨_,⟨?_,?_,(GY hr.mem k).1,hr.defers.evo (Iu hr.mem n k)⟩,Iu hr.mem n k⟩
 ·have:=hr.size;simpa [Al]using this
 intro s x hx;rw[BS]at hx;split at hx
 case isFalse=>cases hx
 rename_i hs;cases hx;show Rep _ _ _ _ (if s=t then _ else look l s);have hslot:=hr.slot s (look l s) (by rw[BS,Ao4 hs]);by_cases e:s=t
 ·subst e;rw[Ao4 rfl,<-hr.mem.len];rw[h]at hslot;exact Ns hslot k
 rw[Ao6 e];exact hslot.mono (fun a u hc hpr=>⟨hc,(GY hr.mem k).2.1 a hpr⟩) (GLe.append _ _)
theorem Ib{l:Fr}(id j k:Nat){cs:List AV}{ro:Bool}(hO:O[id]?=some (.box cs ro))(h:cs[j]?=some (.sl true [])) :Weak E n ⟨Al N l,O⟩ ⟨Al N l,O.set id (.box (cs.set j (.bs true O.length 0 0 0)) ro)++[.buf k [] false]⟩:=by
 refine Eh fun a w g hr=>⟨_,⟨?_,?_,?_,hr.defers.evo (Iu hr.mem n k)⟩,Iu hr.mem n k⟩
 ·have:=hr.size;simpa [Al]using this
 ·intro s x hx;exact(hr.slot s x hx).mono (fun a u hc hpr=>⟨hc,(GY hr.mem k).2.1 a hpr⟩) (GLe.append _ _)
 have hm:=(GY hr.mem k).1;have hid:id<O.length:=(AoZ.1 hO).1;refine⟨by simp[hr.mem.len],?_,hm.inj,hm.foreign,hm.glob,hm.maps,hm.whole⟩;intro id' b ab h1 h2;by_cases e:id'=id
 ·subst e;rw[Ao9 (by simpa using hid),Ap7 hid]at h2;cases h2;obtain⟨k1,k2,k3,k4,k5,β,arr,t,fz,k6,k7,k8,k9,k10⟩:=hm.blk id' b (.box cs ro) h1 (by rw[Ao9 hid];exact hO);refine⟨k1,k2,k3,by simpa using k4,k5,β,arr,t,fz,k6,k7,by simpa using k8,k9,fun j' x hj=>?_⟩;rw[ApO]at hj;by_cases e2:j=j'
  ·subst e2;rw[Ao4 rfl]at hj;split at hj
   case isFalse=>cases hj
   cases hj;refine⟨?_,(k10 j _ h).2⟩
   have hb0:g[id']?=some b:=by
    rw[Ao9 (by rw[hr.mem.len];exact hid)]at h1;exact h1
   obtain⟨_,_,_,_,_,β0,arr0,t0,fz0,k60,k70,_,_,k100⟩:=hr.mem.blk id' b (.box cs ro) hb0 hO;rw[k6]at k60;cases k60;rw[k7]at k70;obtain⟨rfl,_,_⟩:=Obj.cells.inj (Ao1 k70);rw[<-hr.mem.len];exact Ns (k100 j _ h).1 k
  rw[Ao6 e2]at hj;exact k10 j' x hj
 refine hm.blk id' b ab h1 ?_;rcases ApQ id' O.length with hl|hl
 ·rw[Ao9 (by simpa using hl),ApR (fun e2=>e e2.symm)]at h2;rw[Ao9 hl];exact h2
 rw[Ao7 (by simpa using hl)]at h2;rw[Ao7 hl];simpa using h2
theorem IK{w:World}{g:Gh}{a:Act}(h:Rel E w g st a)(n:Nat)(ids:List Nat):∃g',Rel E w g' ⟨st.fr,E0 st.O ids⟩ a/\Evo E n w g w g'/\X0 g g'/\(∀a,A2 E g a->A2 E g' a):=by
 obtain⟨g',m1,hle,he,hs,hp⟩:=KO ids h.mem;exact⟨g',⟨h.size,fun t x hx=>(h.slot t x hx).mono (fun a u hc hpr=>⟨hc,hp a hpr⟩) hle,m1,h.defers.evo he⟩,he.of_gle hle,hs,hp⟩
def S7(E:Env){V:Type}(n:Nat)(S:V->St)(J:V->Prop)(K:CX):CX:=fun ex st'=>match ex with
 |.normal=>∃v,J v/\Weak E n st' (S v)
 |ex=>K ex st'
theorem WP{V:Type}{A B:Code}(S:V->St)(J:V->Prop)(hA:Run E n A st (S7 E n S J K))(hB:∀v,J v->Run E n B (S v) K):Run E n (.seq A B) st K:=by
 refine Hl (Iv hA ?_);intro ex st' h
 cases ex<;>first
  |(obtain⟨v,hv,hw⟩:=h;exact EZ hw (hB v hv))
  |exact h
def RI{V X:Type}(f:V->Option (V⊕X)):Nat->V->Option X
 |0,_=>none
 |n+1,v=>match f v with
  |none=>none
  |some (.inl v')=>RI f n v'
  |some (.inr x)=>some x
def Be{V X:Type}(f:V->Option (V⊕X))(v:V):Option X:=RI f 18446744073709551616 v
def lpK(E:Env){V X:Type}(n:Nat)(S:V->St)(o:V⊕X)(K:CX):CX:=fun ex st'=>match ex with
 |.normal=>∃v',o=.inl v'/\Weak E n st' (S v')
 |ex=>K ex st'
theorem TT{V X:Type}{f:V->Option (V⊕X)}{n:Nat}{c:Code}{K:CX}{x:X}(S:V->St)(h:∀v o,f v=some o->(∀x',o=.inr x'->x'=x)->Run E n c (S v) (lpK E n S o K)) :∀(m:Nat) (v:V),RI f m v=some x->PF E n c K m (S v)
  |0,v,hx=>by cases hx
  | m + 1,v,hx=>by
    unfold RI at hx;split at hx
    · cases hx
    · rename_i v' hv
      refine Iv (h v _ hv (fun x' e=>by cases e)) ?_;intro ex st' hk
      cases ex<;>first
        | (obtain⟨v2,e,hw⟩:=hk
           cases e;have h2:=TT S h m v' hx;cases m with
           |zero=>exact h2.elim
           |succ m=>exact EZ hw h2)
        |exact hk
    rename_i x' hv;cases hx;refine Iv (h v _ hv (fun x' e=>by cases e;rfl)) ?_;intro ex st' hk
    cases ex<;>first
      |(obtain⟨v2,e,hw⟩:=hk;cases e)
      |exact hk
theorem Ab1{V X:Type}{f:V->Option (V⊕X)}{v0:V}{x:X}(hx:Be f v0=some x)(S:V->St)(h0:Weak E n st (S v0)) (h:∀v o,f v=some o->(∀x',o=.inr x'->x'=x)->Run E n c (S v) (lpK E n S o K)):Run E n (.loop c) st K :=
 EZ h0 (Xo _ (TT S h _ _ hx))
def WS(K:CX):CX:=fun ex st'=>match ex with
 |.goto _=>False
 |ex=>K ex st'
theorem Ab7(h:Run E n c st (WS K)):Run E n (.scope c) st K:=by
 intro hcm a w g hr Q hq;refine Hv (ID hcm) (wp_scope_straight (Hs h (ID hcm) hr ?_));intro ex st' a' w' g' hk hr' he
 cases ex<;>first
  |exact hk.elim
  |exact hq _ st' a' w' g' hk hr' he
theorem IL{x y:Code}{l:Fr}(hc:look l t=.bool b)(hN:t<N)(ht:b=true->Run E n x ⟨Al N l,O⟩ K)(hf:b=false->Run E n y ⟨Al N l,O⟩ K):Run E n (.cond (.tmp t) x y) ⟨Al N l,O⟩ K:=by
 refine WC (t:=b) ?_ ht hf;rw[CS];simp only[evL,Ao4 hN,hc]
def V0(E:Env)(n:Nat)(l:Fr)(O:Ad):List ResultVar->Option (List AV)
 |[]=>some []
 |.tmp t::r=>(V0 E n l O r).bind fun xs=>some (evL n l (.tmp t)::xs)
 |.cell p t::r=>match E.tab t with
  |some d=>(loadA E O d (evL n l (.tmp p))).bind fun x=>(V0 E n l O r).bind fun xs=>some (x::xs)
  |none=>none
theorem Nf(n:Nat)(l:Fr)(O:Ad):∀rs:List ResultVar,Fv E O (Al n l) rs=V0 E n l O rs
 |[]=>rfl
 |.tmp t::r=>by
  have:(Al n l).getD t .junk=evL n l (.tmp t):=by rw[<-CS];rfl
  simp only[Fv,V0,Nf n l O r,this];cases V0 E n l O r<;>rfl
 | .cell p t::r=>by
  have:(Al n l).getD p .junk=evL n l (.tmp p):=by rw[<-CS];rfl
  simp only[Fv,V0,Nf n l O r,this];cases E.tab t with
  |none=>rfl
  |some d=>
   simp only;cases loadA E O d (evL n l (.tmp p))<;>cases V0 E n l O r<;>rfl
def AlO(E:Env)(rs:List ResultVar)(r0:AV):CX:=fun ex st=>(ex=.normal\/ex=.ret)/\∃xs,Fv E st.O st.fr rs=some xs/\fzR st.O (HO xs)=some r0
theorem AkS{l:Fr}{rs:List ResultVar}{r0:AV}{ex:Exit}(hex:ex=.normal\/ex=.ret)(h:(V0 E n l O rs).bind (fun xs=>fzR O (HO xs))=some r0):AlO E rs r0 ex ⟨Al n l,O⟩:=by
 rw[Ao3]at h;obtain⟨xs,h1,h2⟩:=h;exact⟨hex,xs,by rw[Nf];exact h1,h2⟩
theorem G3(n:Nat)(args:List AV)(h:args.length<=n)(l:Fr)(hl:∀t,t<n->look l t=args.getD t .junk):Qo n args=Al n l:=by
 refine Ap2 fun t=>?_
 rw[BS];unfold Qo;rcases ApQ t args.length with h1|h1
 ·rw[Ao9 h1,Ao4 (by omega),hl t (by omega),Ao2 h1];simp[Apm,Ao2 h1]
 rw[Ao7 h1,AqR];by_cases h2:t<n
 ·rw[Ao4 (by omega),Ao4 h2,hl t h2];simp[Apm,Aqe h1]
 rw[Ao6 (by omega),Ao6 h2]
def NE:Nat->List AV->Fr
 |_,[]=>[]
 |i,x::l=>(i,x)::NE (i+1) l
theorem GZ:∀(args:List AV) (i t:Nat),i<=t->look (NE i args) t=args.getD (t-i) .junk
 |[],i,t,h=>by simp[NE,look]
 | x::l,i,t,h=>by
  show(if t=i then x else look (NE (i+1) l) t)=_;by_cases e:t=i
  ·subst e;simp
  rw[Ao6 e,GZ l (i+1) t (by omega)];have:t-i=(t-(i+1))+1:=by omega
  rw[this];rfl
theorem FD{fn:Func}{args:List AV}{r0:AV}{rs:List ResultVar}(hB:B.Ok)(hf:B.P.funcs[f]?=some fn)(hb:fn.body=some c)(hn:(fn.name == "runtime.NumGoroutine")=false) (hN:fn.ntmps=N) (hrs:fn.results.toList=rs) (hlen:args.length<=N) (h:∀F:Addr->Prop,Run (B.env F) 0 c ⟨Al N (NE 0 args),[]⟩ (AlO (B.env F) rs r0)):Con B f args [] (fun r' O'=>r'=r0/\O'=[]):=by
 refine QW (R:=fun r O'=>fzR O' r=some r0) ?_ (fun r O' h=>h);refine ZK hB hf hb hn (fun F=>?_);subst hN hrs;rw[G3 fn.ntmps args hlen (NE 0 args) (fun t _=>GZ args 0 t (Apx _))];refine Iv (h F) ?_;rintro ex st ⟨h1,xs,h2,h3⟩;exact⟨h1,xs,h2,h3⟩
open Classical in
noncomputable def AcI:List (Nat×FuncId×List AV×AV)->Option Tmp->FuncId->List AV->Option AV
 |[],_,_,_=>none
 |e::l,d,f,a=>if d=some e.1 then(if f=e.2.1/\a=e.2.2.1 then some e.2.2.2 else none)else AcI l d f a
open Classical in
noncomputable def Q9:List (Nat×FuncId×List AV×Ad×AV×Ad)->Option Tmp->FuncId->List AV->Ad->Option (AV×Ad)
 |[],_,_,_,_=>none
 |e::l,d,f,a,O=>if d=some e.1 then(if f=e.2.1/\a=e.2.2.1/\O=e.2.2.2.1 then some e.2.2.2.2 else none)else Q9 l d f a O
noncomputable def LA(l:List (Nat×FuncId×List AV×AV))(m:List (Nat×FuncId×List AV×Ad×AV×Ad))(d:Option Tmp):Orc:=⟨AcI l d,Q9 m d⟩
def AeT(B:Base):List (Nat×FuncId×List AV×AV)->Prop
 |[]=>True
 |e::l=>Con B e.2.1 e.2.2.1 [] (fun r' O'=>r'=e.2.2.2/\O'=[])/\AeT B l
def Ahe(B:Base):List (Nat×FuncId×List AV×Ad×AV×Ad)->Prop
 |[]=>True
 |e::l=>(∀F:Addr->Prop,AcA (B.env F) e.2.1 e.2.2.1 e.2.2.2.1 e.2.2.2.2.1 e.2.2.2.2.2)/\Ahe B l
theorem Abs{B:Base}:∀{l:List (Nat×FuncId×List AV×AV)},AeT B l->∀d f a r,AcI l d f a=some r->Con B f a [] (fun r' O'=>r'=r/\O'=[])
 |[],_,d,f,a,r,h=>by cases h
 | e::l,hl,d,f,a,r,h=>by
  unfold AcI at h;split at h
  ·split at h
   ·rename_i hfa;obtain⟨rfl,rfl⟩:=hfa;cases h;exact hl.1
   cases h
  exact Abs hl.2 d f a r h
theorem AbT{B:Base}:∀{l:List (Nat×FuncId×List AV×Ad×AV×Ad)},Ahe B l->∀d f a O r O',Q9 l d f a O=some (r,O')->∀F:Addr->Prop,AcA (B.env F) f a O r O'
 |[],_,d,f,a,O,r,O',h=>by cases h
 | e::l,hl,d,f,a,O,r,O',h=>by
  unfold Q9 at h;split at h
  ·split at h
   ·rename_i hfa;obtain⟨rfl,rfl,rfl⟩:=hfa;obtain⟨t,f,a,O,r2,σ2⟩:=e;cases h;exact hl.1
   cases h
  exact AbT hl.2 d f a O r O' h
theorem Ag(h1:AeT B l)(h2:Ahe B m):Hh B (LA l m):=fun d=>⟨Abs h1 d,AbT h2 d⟩
theorem P6(h1:AeT B l):Hh B (LA l []):=Ag h1 trivial
theorem Ac:Hh B (LA [] []):=P6 trivial
theorem AhT{d:Option Tmp}:(LA l m d).fz=AcI l d:=rfl
theorem Adn{d:Option Tmp}:(LA l m d).own=Q9 m d:=rfl
theorem Acq{a:List AV}{r:AV}:AcI ((t,f,a,r)::l) (some t) f a=some r:=by simp[AcI]
theorem AaH{s:Nat}{e:FuncId×List AV×AV}(h:(s==t)=false):AcI ((t,e)::l) (some s)=AcI l (some s):=by
 funext f a;simp only[AqU,ne_eq]at h;simp[AcI,h]
theorem Aac{a:List AV}{r:AV×Ad}{l:List (Nat×FuncId×List AV×Ad×AV×Ad)}:Q9 ((t,f,a,O,r)::l) (some t) f a O=some r:=by simp[Q9]
theorem Acx{s:Nat}{e:FuncId×List AV×Ad×AV×Ad}{l:List (Nat×FuncId×List AV×Ad×AV×Ad)}(h:(s==t)=false):Q9 ((t,e)::l) (some s)=Q9 l (some s):=by
 funext f a O;simp only[AqU,ne_eq]at h;simp[Q9,h]
def lt1{α β:Type}(x:α)(f:α->Option β):Option β:=f x
theorem KE{β:Type}{x:α}{f:α->Option β}{r:β}(h:lt1 x f=some r):∃y,y=x/\f y=some r:=⟨x,rfl,h⟩
theorem An{β:Type}{x:Option α}{f:α->Option β}{r:β}(h:x.bind f=some r):∃y,x=some y/\f y=some r:=Ao3.1 h
theorem Akc{x y:α}{r:α}(h:(if b then x else y)=r)(hb:b=true):x=r:=by rw[Ao4 hb]at h;exact h
theorem Ak0{x y:α}{r:α}(h:(if b then x else y)=r)(hb:b=false):y=r:=by rw[Ao6 (by simp[hb])]at h;exact h
theorem J4{c:Prop}[Decidable c]{x:Option α}{r:α}(h:(if c then x else none)=some r):c/\x=some r:=by
 by_cases hc:c
 ·rw[Ao4 hc]at h;exact⟨hc,h⟩
 rw[Ao6 hc]at h;cases h
variable {E:Env}{n:Nat}{K:CX}{st:St}
theorem AeY{i:Nat}(h:K .normal st):IH i K (.exit i) st:=by simp only[IH,ApL];exact h
theorem Aeu{i j:Nat}(h:K (.exit j) st)(hne:(j==i)=false):IH i K (.exit j) st:=by
 simp only[AqU,ne_eq]at hne;simp only[IH,Ao6 hne];exact h
theorem AmF:(true==true)=true:=rfl
theorem Amj:(true==false)=false:=rfl
theorem AmO:(false==true)=false:=rfl
theorem Aoj:(false==false)=true:=rfl
end Go.Rv
