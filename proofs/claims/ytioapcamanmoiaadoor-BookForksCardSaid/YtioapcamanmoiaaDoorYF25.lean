/-
  Part 25.
-/
import Derived.Test.YtioapcamanmoiaaDoorYF24
namespace Go.Rv
set_option linter.unusedVariables false
set_option linter.unusedSimpArgs false
variable{v:Value}{x y:AV}{B:Base}{f:FuncId}{args1 args:List AV}{σ1 σ2 σ:Al}
def L3{α:Type}:List α→List Nat→List α→List α
 |l,i::sel,b::bs=>L3 (l.set i b) sel bs
 |l,[],bs=>l++bs
 |l,_::_,[]=>l
def FJ(sel:List Nat)(N i:Nat):Nat:=if i<sel.length then sel.getD i 0 else N+(i-sel.length)
theorem Po{α:Type}:∀(sel:List Nat) (l bs:List α),sel.length≤bs.length→(L3 l sel bs).length=l.length+(bs.length-sel.length)
  |[],l,bs,_=>by simp[L3]
  |i::sel,l,[],h=>by simp at h
  | i::sel,l,b::bs,h=>by
    rw[L3,Po sel _ bs (by simpa using h)];simp
theorem FE{α:Type}:∀(sel:List Nat) (l bs:List α) (j:Nat),j<l.length→j ∉ sel→(L3 l sel bs)[j]?=l[j]?
  |[],l,bs,j,hj,_=>by rw[L3,AkW hj]
  |i::sel,l,[],j,hj,_=>rfl
  | i::sel,l,b::bs,j,hj,hn=>by
    rw[L3,FE sel _ bs j (by simpa using hj) (fun h=>hn (Alx _ h)),Alt];intro e;exact hn (by rw[e];exact Ak7)
theorem OW{α:Type}:∀(sel:List Nat) (l bs:List α),sel.Nodup→(∀i∈sel,i<l.length)→sel.length≤bs.length→∀i,(L3 l sel bs)[FJ sel l.length i]?=bs[i]?
  | [],l,bs,_,_,_,i=>by
    have e:FJ [] l.length i=l.length+i:=by simp[FJ]
    rw[e,L3,AkU (by omega)];congr 1;omega
  |i0::sel,l,[],_,_,h,i=>by simp at h
  | i0::sel,l,b::bs,hnd,hs,h,i=>by
    have h':sel.length≤bs.length:=by simpa using h
    have hnd':=AmL.1 hnd;have hs':∀i∈sel,i<(l.set i0 b).length:=fun i hi=>by simpa using hs i (Alx _ hi)
    rw[L3];cases i with
    | zero=>
      have e:FJ (i0::sel) l.length 0=i0:=by simp[FJ]
      have hi0:=hs i0 Ak7;rw[e,FE sel _ bs i0 (by simpa using hi0) hnd'.1,AlA hi0];rfl
    | succ i=>
      have e:FJ (i0::sel) l.length (i+1)=FJ sel (l.set i0 b).length i:=by
        unfold FJ;simp only[Alb,Al8];by_cases hi:i<sel.length
        · rw[AkS (by omega),AkS hi];rfl
        · rw[AkT (by omega),AkT hi];congr 1;omega
      rw[e,OW sel _ bs hnd'.2 hs' h' i];rfl
theorem Qv{sel:List Nat}{N:Nat}(j:Nat):(j<N∧j ∉ sel)∨∃i,j=FJ sel N i:=by
 by_cases hj:j∈sel
 ·right;obtain⟨i,hi,rfl⟩:=AlK hj;exact⟨i,by rw[FJ,AkS hi];simp[Ak1,hi]⟩
 ·by_cases hN:j<N
  ·exact .inl ⟨hN,hj⟩
  ·right;exact⟨sel.length+(j-N),by rw[FJ,AkT (by omega)];omega⟩
def Lz(sel:List Nat)(N:Nat):AV→AV
 |.fn f [.ref id o]=>.fn f [.ref (FJ sel N id) o]
 |.bs f id t o l=>.bs f (FJ sel N id) t o l
 |.ref id o=>.ref (FJ sel N id) o
 |.tref id t=>.tref (FJ sel N id) t
 |.mref id=>.mref (FJ sel N id)
 |.yld id=>.yld (FJ sel N id)
 |.nref id=>.nref (FJ sel N id)
 |.eref id t i j=>.eref (FJ sel N id) t i j
 |x=>match x.closed with
  |true=>x
  |false=>.junk
def Wa(sel:List Nat)(N:Nat):AV→AV
 |.agg xs=>.agg (xs.map (Lz sel N))
 |x=>Lz sel N x
def Ss(sel:List Nat)(N:Nat):AV→AV
 |.tup xs=>.tup (xs.map (Wa sel N))
 |x=>Wa sel N x
def AbR(sel:List Nat)(N:Nat):ABlk→ABlk
 |.box cs ro=>.box (cs.map (Lz sel N)) ro
 |.buf k els ro=>.buf k els ro
 |.obj o=>.obj o
 |.tb T l=>.tb T l
 |.mp es=>.mp es
 |.lp y M l ps a b=>.lp y M (l.map fun p=>(p.1,Wa sel N p.2)) ps a b
 |.gone=>.gone
def C0:Al→Bool
 |[]=>true
 |.box _ _::σ=>C0 σ
 |.buf _ els _::σ=>B7 els&&C0 σ
 |.obj _::σ=>C0 σ
 |.tb _ _::σ=>C0 σ
 |.mp _::σ=>C0 σ
 |.lp _ _ _ _ _ _::σ=>C0 σ
 |.gone::σ=>C0 σ
theorem Cs:∀{σ:Al} {i k:Nat} {els:List (List AV)} {ro:Bool},C0 σ=true→σ[i]?=some (.buf k els ro)→B7 els=true
  |[],i,k,els,ro,_,h=>by simp at h
  |.box _ _::σ,0,k,els,ro,_,h=>by simp at h
  |.obj _::σ,0,k,els,ro,_,h=>by simp at h
  |.tb _ _::σ,0,k,els,ro,_,h=>by simp at h
  |.mp _::σ,0,k,els,ro,_,h=>by simp at h
  |.lp _ _ _ _ _ _::σ,0,k,els,ro,_,h=>by simp at h
  |.gone::σ,0,k,els,ro,_,h=>by simp at h
  | .buf _ els' _::σ,0,k,els,ro,hc,h=>by
    simp at h;obtain⟨_,rfl,_⟩:=h;exact(Am6.1 hc).1
  |.box _ _::σ,i+1,k,els,ro,hc,h=>Cs (σ:=σ) hc (by simpa using h)
  |.obj _::σ,i+1,k,els,ro,hc,h=>Cs (σ:=σ) hc (by simpa using h)
  |.tb _ _::σ,i+1,k,els,ro,hc,h=>Cs (σ:=σ) hc (by simpa using h)
  |.mp _::σ,i+1,k,els,ro,hc,h=>Cs (σ:=σ) hc (by simpa using h)
  |.lp _ _ _ _ _ _::σ,i+1,k,els,ro,hc,h=>Cs (σ:=σ) hc (by simpa using h)
  |.gone::σ,i+1,k,els,ro,hc,h=>Cs (σ:=σ) hc (by simpa using h)
  |.buf _ _ _::σ,i+1,k,els,ro,hc,h=>Cs (σ:=σ) (Am6.1 hc).2 (by simpa using h)
section
variable {w:World}{pr pr':Addr→Prop}{g1 g:Gh}{sel:List Nat}{N:Nat}
theorem Ad8{id o:Nat}(h:Rep w pr g1 v (.ref id o)):∃(β:Nat) (b:GB),g1[id]?=some b∧b.isBox=true∧b.blk=some β∧v=.pointer (some ⟨β,o,none⟩):=by
 cases h with
 |ref _ _ _ β b hb hx hβ=>exact⟨β,b,hb,hx,hβ,rfl⟩
theorem Pb(hg:∀(i:Nat) (b:GB),g1[i]?=some b→g[FJ sel N i]?=some b)(hp:∀a u,w.cell? a=some u→pr a→pr' a)(h:Rep w pr g1 v x):Rep w pr' g v (Lz sel N x):=by
  have hcl:x.closed=true→Rep w pr' g v x:=fun hc=>(BL h hc).mono (fun a u hcc hpr=>⟨hcc,hp a u hcc hpr⟩) (GLe.nil _)
  have hgen:Rep w pr' g v (match x.closed with
    |true=>x
    |false=>.junk):=by
    cases hc:x.closed with
    |true=>exact hcl hc
    |false=>exact .junk _ _
  cases x with
  | bs f id t o l=>
    cases h with
    |bs _ _ _ _ _ _ _ b hb hx ht h ho=>exact .bs _ _ _ _ _ _ _ b (hg _ _ hb) hx ht h ho
  | ref id o=>
    cases h with
    |ref _ _ _ β b hb hx hβ=>exact .ref _ _ _ β b (hg _ _ hb) hx hβ
  | tref id t=>
    cases h with
    |tref _ _ _ β b hb hx hβ ht=>exact .tref _ _ _ β b (hg _ _ hb) hx hβ ht
  | mref id=>
    cases h with
    |mref _ _ β b hb hx hβ=>exact .mref _ _ β b (hg _ _ hb) hx hβ
  | yld id=>
    cases h with
    |yld _ _ β b hb hx hβ=>exact .yld _ _ β b (hg _ _ hb) hx hβ
  | nref id=>
    cases h with
    |nref _ _ _ b hb hx h=>exact .nref _ _ _ b (hg _ _ hb) hx h
  | eref id t i j=>
    cases h with
    |eref _ _ _ _ _ _ b hb hx ht h ho=>exact .eref _ _ _ _ _ _ b (hg _ _ hb) hx ht h ho
  | fn f xs =>
    rcases xs with _|⟨x,_|⟨y,l⟩⟩
    · exact hgen
    · cases x with
      | ref id o=>
        cases h with
        | fn _ _ caps _ hs hr hn=>
          refine .fn _ _ caps _ (by simpa using hs) (fun i x hx=>?_) (fun ys e=>by cases e)
          have hi:i=0:=by
            have:=(AkN.1 hx).1;simpa using this
          subst hi;have hx':x=.ref (FJ sel N id) o:=by simpa using hx.symm
          subst hx';obtain⟨β,b,hb,hxb,hβ,hv⟩:=Ad8 (hr 0 (.ref id o) rfl);rw[hv];exact .ref _ _ _ β b (hg _ _ hb) hxb hβ
      |_=>exact hgen
    · cases x<;>exact hgen
  |_=>exact hgen
theorem OI(hg:∀(i:Nat) (b:GB),g1[i]?=some b→g[FJ sel N i]?=some b)(hp:∀a u,w.cell? a=some u→pr a→pr' a)(h:Rep w pr g1 v x):Rep w pr' g v (Wa sel N x):=by
  cases x with
  | agg xs=>
    cases h with
    | agg _ vs _ hs ho hr=>
      refine .agg _ vs _ (by simpa using hs) (fun i y hy=>?_) (fun i y hy=>?_)
      · rw[Ak8,AkO]at hy
        obtain⟨x,hx,_⟩:=hy;exact ho i x hx
      · rw[Ak8,AkO]at hy
        obtain⟨x,hx,rfl⟩:=hy;exact Pb hg hp (hr i x hx)
  |_=>exact Pb hg hp h
theorem YM(hg:∀(i:Nat) (b:GB),g1[i]?=some b→g[FJ sel N i]?=some b)(hp:∀a u,w.cell? a=some u→pr a→pr' a)(h:Rep w pr g1 v x):Rep w pr' g v (Ss sel N x):=by
  cases x with
  | tup xs=>
    cases h with
    | tup _ vs _ hs hr=>
      refine .tup _ vs _ (by simpa using hs) (fun i y hy=>?_);rw[Ak8,AkO]at hy;obtain⟨x,hx,rfl⟩:=hy;exact OI hg hp (hr i x hx)
  |_=>exact OI hg hp h
end
section
variable {w:World}{g:Gh}{sel:List Nat}{pr pr':Addr→Prop}
theorem LJ(hp:∀a,pr a→pr' a)(hs:∀i∈sel,i<g.length)(h:Rep w pr g v x)(hw:wk0 sel x y):Rep w pr' (DW sel g) v y:=by
  have hcl:∀{z:AV},Rep w pr g v z→z.closed=true→Rep w pr' (DW sel g) v z:=fun h1 h2=>
    (BL h1 h2).mono (fun a u hc hpr=>⟨hc,hp a hpr⟩) (GLe.nil _)
  by_cases hj:y=.junk
  · subst hj;exact .junk _ _
  cases x<;>cases y<;>first
    |exact(hj rfl).elim
    |(simp only[wk0]at hw;exfalso;have h1:=hw.1;cases h1;done)
    |(simp only[wk0]at hw;obtain⟨e,hc⟩:=hw;rw[←e]at hc ⊢;exact hcl h hc;done)
    |skip
  case bs.bs f i t o l f' id t' o' l'=>
    simp only[wk0]at hw;obtain⟨h1,h2,rfl,rfl,rfl⟩:=hw;cases h with
    | bs _ _ _ _ _ _ _ b hb hx ht h ho=>
      refine .bs _ _ _ _ _ _ _ b ((A7 hs).2 ⟨i,h1,hb⟩) hx ht (fun e=>?_) ho;obtain⟨a,cap,q1,q2,q3,q4,q5⟩:=h e;exact⟨a,cap,q1,q2,fun e=>q3 (h2 e),q4,q5⟩
  case ref.ref i o id o'=>
    simp only[wk0]at hw;obtain⟨h1,rfl⟩:=hw;cases h with
    |ref _ _ _ β b hb hx hβ=>exact .ref _ _ _ β b ((A7 hs).2 ⟨i,h1,hb⟩) hx hβ
  case tref.tref i t id t'=>
    simp only[wk0]at hw;obtain⟨h1,rfl⟩:=hw;cases h with
    |tref _ _ _ β b hb hx hβ ht=>exact .tref _ _ _ β b ((A7 hs).2 ⟨i,h1,hb⟩) hx hβ ht
  case mref.mref i id=>
    simp only[wk0]at hw;cases h with
    |mref _ _ β b hb hx hβ=>exact .mref _ _ β b ((A7 hs).2 ⟨i,hw,hb⟩) hx hβ
  case yld.yld i id=>
    simp only[wk0]at hw;cases h with
    |yld _ _ β b hb hx hβ=>exact .yld _ _ β b ((A7 hs).2 ⟨i,hw,hb⟩) hx hβ
  case nref.nref i id=>
    simp only[wk0]at hw;cases h with
    |nref _ _ _ b hb hx h=>exact .nref _ _ _ b ((A7 hs).2 ⟨i,hw,hb⟩) hx h
  case eref.eref i t a b id t' a' b2=>
    simp only[wk0]at hw;obtain⟨h1,rfl,rfl,rfl⟩:=hw;cases h with
    |eref _ _ _ _ _ _ b hb hx ht h ho=>exact .eref _ _ _ _ _ _ b ((A7 hs).2 ⟨i,h1,hb⟩) hx ht h ho
  case sl.sl f els f' els'=>
    simp only[wk0]at hw;obtain⟨h1,rfl⟩:=hw
    have:Rep w pr g v (.sl f' els):=by
      cases h with
      |sl _ a len cap _ _ k c hlen hcap hfull hnone hk hc hr=>exact .sl _ a len cap f' els k c hlen hcap (fun e=>hfull (h1 e)) hnone hk hc hr
    exact hcl this (by simp[AV.closed])
  case fn.fn f cs f' cs'=>
    simp only[wk0]at hw;rcases hw with⟨e,hc⟩|⟨rfl,hw⟩
    · rw[←e]at hc ⊢;exact hcl h hc
    obtain⟨l1,l2⟩:=Pr hw
    have hnt:∀ys,cs'≠[.tup ys]:=by
      rintro ys rfl;obtain⟨x,_,hx⟩:=l2 0 _ rfl;exact Ji hx ys rfl
    have conv:∀{u:Value} {x y:AV},Rep w (pr) g u x→wkc sel x y→Rep w (pr') (DW sel g) u y:=by
      intro u x y hr hxy;rcases Jg hxy with⟨i,o,id,rfl,rfl,h1⟩|⟨i,o,id,rfl,rfl,h1⟩|⟨rfl,hc⟩
      · cases hr with
        |ref _ _ _ β b hb hx hβ=>exact .ref _ _ _ β b ((A7 hs).2 ⟨i,h1,hb⟩) hx hβ
      · cases hr with
        |tref _ _ _ β b hb hx hβ ht=>exact .tref _ _ _ β b ((A7 hs).2 ⟨i,h1,hb⟩) hx hβ ht
      · exact(BL hr hc).mono (fun a u hc hpr=>⟨hc,hp a hpr⟩) (GLe.nil _)
    cases h with
    | fn _ _ caps _ hsz hr hn=>
      refine .fn _ _ caps cs' (by omega) (fun i y hy=>?_) hnt;obtain⟨x,hx,hxy⟩:=l2 i y hy;exact conv (hr i x hx) hxy
    | fnb _ _ fs xs hsz hr=>
      exfalso
      match cs',hw with
      | [y],hw=>
        obtain⟨hy,_⟩:=hw;rcases Jg hy with⟨i,o,id,h1,_⟩|⟨i,o,id,h1,_⟩|⟨h1,_⟩
        · cases h1
        · cases h1
        · exact Ji hy _ h1.symm
theorem L0(hp:∀a,pr a→pr' a)(hs:∀i∈sel,i<g.length)(h:Rep w pr g v x)(hw:wk1 sel x y):Rep w pr' (DW sel g) v y:=by
  by_cases ha:∃xs ys,x=.agg xs∧y=.agg ys
  · obtain⟨xs,ys,rfl,rfl⟩:=ha
    simp only[wk1]at hw;obtain⟨h1,h2⟩:=HL hw;cases h with
    | agg _ vs _ hs' ho hr=>
      refine .agg _ vs ys (by omega) (fun i y hy=>?_) (fun i y hy=>?_)
      · obtain⟨x,hx,_⟩:=h2 i y hy;exact ho i x hx
      · obtain⟨x,hx,hxy⟩:=h2 i y hy;exact LJ hp hs (hr i x hx) hxy
  by_cases hb:∃xs ys,x=.tup xs∧y=.tup ys
  · obtain⟨xs,ys,rfl,rfl⟩:=hb
    simp only[wk1]at hw;obtain⟨h1,h2⟩:=HL hw;cases h with
    | tup _ vs _ hs' hr=>
      refine .tup _ vs ys (by omega) (fun i y hy=>?_);obtain⟨x,hx,hxy⟩:=h2 i y hy;exact LJ hp hs (hr i x hx) hxy
  have:wk1 sel x y=wk0 sel x y:=by
    cases x<;>cases y<;>first
      |rfl
      |exact(ha ⟨_,_,rfl,rfl⟩).elim
      |exact(hb ⟨_,_,rfl,rfl⟩).elim
  exact LJ hp hs h (this ▸ hw)
end
def wkA(sel:List Nat):List AV→List AV→Prop
 |[],[]=>True
 |x::xs,y::ys=>wk1 sel x y∧wkA sel xs ys
 |_,_=>False
theorem Qt{w:World}{g:Gh}{sel:List Nat}{pr pr':Addr→Prop}(hp:∀a,pr a→pr' a)(hs:∀i∈sel,i<g.length):∀{vs:List Value} {xs ys:List AV},BQ w pr g vs xs→wkA sel xs ys→BQ w pr' (DW sel g) vs ys
 |[],[],[],_,_=>trivial
 |[],[],_::_,_,h=>h.elim
 |_::_,_::_,[],_,h=>h.elim
 |_::_,_::_,_::_,h,k=>⟨L0 hp hs h.1 k.1,Qt hp hs h.2 k.2⟩
theorem VZ{Fin:Ending→World→(Addr→Prop)→Gh→Prop} (hcall:∀(F:Addr→Prop) (w:World) (g:Gh) (vs:Array Value),Mem (B.env F) w g σ1→BQ w (A0 (B.env F) g) g vs.toList args1 →DoCall B.P f vs w (fun e w'=>∃g',Fin e w' (A0 (B.env F) g') g'∧Mem (B.env F) w' g' σ2∧Evo (B.env F) σ1.length w g w' g')) {σ:Al} {args:List AV} (sel:List Nat) (hnd:sel.Nodup) (hσ:Uq sel σ sel σ1) (ha:wkA sel args args1) (hb:C0 σ2=true) (F:Addr→Prop) {w:World} {g:Gh} {vs:Array Value} (hm:Mem (B.env F) w g σ) (har:BQ w (A0 (B.env F) g) g vs.toList args) :DoCall B.P f vs w (fun e w'=>∃g' pr1 g1,Fin e w' pr1 g1∧(∀v r,Rep w' pr1 g1 v r→Rep w' (A0 (B.env F) g') g' v (Ss sel σ.length r)) ∧Mem (B.env F) w' g' (L3 σ sel (σ2.map (AbR sel σ.length)))∧GLe g g'∧Evo (B.env F) 0 w g w' g'):=by
  obtain⟨hl,hget⟩:=Lv hσ;have hlen:g.length=σ.length:=hm.len
  have hs:∀i∈sel,i<g.length:=by
    intro i hi;obtain⟨id,hid,rfl⟩:=AlK hi;obtain⟨i',b,h1,h2,_⟩:=hget id (σ1[id]'(by omega)) (AkR _);rw[AkR hid]at h1;cases h1;rw[hlen];exact(AkN.1 h2).1
  let F1:Addr→Prop:=fun a=>¬A0 (B.env F) g a∧¬EK (DW sel g) a.block∧a.block<w.heap.size
  have p1:∀a,A0 (B.env F) g a→A0 (B.env F1) (DW sel g) a:=fun a hp=>⟨fun h=>h.1 hp,fun id b hb hβ=>by
    obtain⟨i,_,hi⟩:=(A7 hs).1 hb;exact hp.2 i b hi hβ⟩
  have hm1:Mem (B.env F1) w (DW sel g) σ1:=by
    refine⟨by simp[DW,hl],?_,?_,fun a ha=>⟨ha.2.2,ha.2.1⟩,?_,hm.maps,fun i vs h=>⟨fun hh=>(hm.whole i vs h).1 (Du hs hh),(hm.whole i vs h).2⟩⟩
    · intro id b ab' h1 h2
      obtain⟨i,ab,e1,e2,e3⟩:=hget id ab' h2;obtain⟨i',f1,f2⟩:=(A7 hs).1 h1;rw[e1]at f1;cases f1;have hk:=hm.blk i b ab f2 e2;cases ab with
      | box cs ro=>
        cases ab' with
        |buf=>exact e3.elim
        |obj=>exact e3.elim
        |mp=>exact e3.elim
        |lp=>exact e3.elim
        |gone=>exact e3.elim
        |tb=>exact e3.elim
        | box cs' ro'=>
          obtain⟨rfl,e4⟩:=e3;obtain⟨e5,e6⟩:=HL e4;obtain⟨k1,k2,k3,k4,k5,β,arr,t,fz,k6,k7,k8,k9,k10⟩:=hk;refine⟨k1,k2,k3,by omega,k5,β,arr,t,fz,k6,k7,by omega,k9,fun j y hj=>?_⟩;obtain⟨x,hx,hxy⟩:=e6 j y hj;exact⟨LJ p1 hs (k10 j x hx).1 hxy,(k10 j x hx).2⟩
      | buf k els ro=>
        cases ab' with
        |box=>exact e3.elim
        |obj=>exact e3.elim
        |mp=>exact e3.elim
        |lp=>exact e3.elim
        |gone=>exact e3.elim
        |tb=>exact e3.elim
        | buf k' els' ro'=>
          obtain⟨rfl,rfl,rfl,e4⟩:=e3;obtain⟨k1,k2,k3,k4,k5,k6,k7⟩:=hk;refine⟨k1,k2,k3,k4,k5,k6,fun β hβ=>?_⟩;obtain⟨arr,t,fz,g1,g2,g3,g4,g5⟩:=k7 β hβ;refine⟨arr,t,fz,g1,g2,g3,g4,fun i cs j x hi hj=>⟨?_,(g5 i cs j x hi hj).2⟩⟩;have hcl:x.closed=true:=Ak4.1 (Ak4.1 e4 cs (AkV hi)) x (AkV hj);exact(BL (g5 i cs j x hi hj).1 hcl).mono (fun a u hc hp=>⟨hc,p1 a hp⟩) (GLe.nil _)
      | mp es=>
        cases ab' with
        |box=>exact e3.elim
        |buf=>exact e3.elim
        |obj=>exact e3.elim
        |tb=>exact e3.elim
        |lp=>exact e3.elim
        |gone=>exact e3.elim
        | mp es'=>
          obtain rfl:es=es':=e3;obtain⟨k1,β,arr,cl,k2,k3,k4,k5,k6⟩:=hk;refine⟨k1,β,arr,cl,k2,k3,k4,k5,fun j k x hj=>?_⟩;obtain⟨e,q1,q2,q3⟩:=k6 j k x hj;exact⟨e,q1,q2,q3.mono (fun a u hc hp=>⟨hc,p1 a hp⟩) (GLe.nil _)⟩
      | lp y N1 l1 ps as1 bd=>
        cases ab' with
        |box=>exact e3.elim
        |buf=>exact e3.elim
        |obj=>exact e3.elim
        |tb=>exact e3.elim
        |mp=>exact e3.elim
        |gone=>exact e3.elim
        | lp y' N2 l2 ps' as2 bd'=>
          obtain⟨rfl,rfl,rfl,rfl,rfl,e4⟩:=e3;obtain⟨k1,β,f,T,D,k2,k3,k4,k5⟩:=hk;refine⟨k1,β,f,T,D,k2,k3,k4,fun z hz=>?_⟩;obtain⟨x,hx,hx1,hxy⟩:=OG e4 z hz;rw[←hx1];exact L0 p1 hs (k5 x hx) hxy
      | gone=>
        cases ab' with
        |box=>exact e3.elim
        |buf=>exact e3.elim
        |obj=>exact e3.elim
        |tb=>exact e3.elim
        |mp=>exact e3.elim
        |lp=>exact e3.elim
        |gone=>exact hk
      | obj o=>
        cases ab' with
        |box=>exact e3.elim
        |buf=>exact e3.elim
        |tb=>exact e3.elim
        |mp=>exact e3.elim
        |lp=>exact e3.elim
        |gone=>exact e3.elim
        | obj o'=>
          obtain rfl:o=o':=e3;exact hk
      | tb T l=>
        cases ab' with
        |box=>exact e3.elim
        |buf=>exact e3.elim
        |obj=>exact e3.elim
        |mp=>exact e3.elim
        |lp=>exact e3.elim
        |gone=>exact e3.elim
        | tb T' l'=>
          obtain⟨rfl,rfl⟩:=e3;exact UL hk
    · intro id id' b b' β h1 h2 e1 e2
      obtain⟨i,f1,f2⟩:=(A7 hs).1 h1;obtain⟨i',f1',f2'⟩:=(A7 hs).1 h2;have:=hm.inj i i' b b' β f2 f2' e1 e2;subst this;obtain⟨l1,q1⟩:=AkN.1 f1;obtain⟨l2,q2⟩:=AkN.1 f1';exact JD hnd l1 l2 (q1.trans q2.symm)
    · intro i cs hG
      obtain⟨q1,q2,q3,c,q4⟩:=hm.glob i cs hG;exact⟨q1,fun hh=>q2 (Du hs hh),fun j hj=>hj.1 (Bk (q3 j) q2),c,fun j x hj=>⟨(q4 j x hj).1,(q4 j x hj).2.1.mono (fun a u hc hp=>⟨hc,p1 a hp⟩) (GLe.nil _),(q4 j x hj).2.2⟩⟩
  refine(hcall F1 w (DW sel g) vs hm1 (Qt p1 hs har ha)).mono ?_;rintro e w' ⟨g1,hfin,hm2,he⟩;have hl1:g1.length=σ2.length:=hm2.len
  have hsl:sel.length≤g1.length:=by
    refine Nat.le_of_not_lt fun hlt=>?_
    have hgl:g1.length<(DW sel g).length:=by simpa [DW]using hlt
    obtain⟨b',hb',_⟩:=he.ids g1.length (by rw[←hl];exact hlt) _ (AkR hgl);have:=(AkN.1 hb').1;omega
  have hren:∀i,(L3 g sel g1)[FJ sel g.length i]?=g1[i]?:=OW sel g g1 hnd hs hsl;have hsσ:∀i∈sel,i<σ.length:=fun i hi=>by rw[←hlen];exact hs i hi
  have hren2:∀i,(L3 σ sel (σ2.map (AbR sel σ.length)))[FJ sel g.length i]?=(σ2.map (AbR sel σ.length))[i]?:=fun i=>by
    rw[hlen];exact OW sel σ _ hnd hsσ (by simpa [←hl1]using hsl) i
  have hcls:∀j b,(L3 g sel g1)[j]?=some b→(j<g.length∧j ∉ sel∧g[j]?=some b)∨∃i,j=FJ sel g.length i∧g1[i]?=some b:=by
    intro j b hb;rcases Qv (sel:=sel) (N:=g.length) j with⟨h1,h2⟩|⟨i,rfl⟩
    · rw[FE sel g g1 j h1 h2]at hb;exact .inl ⟨h1,h2,hb⟩
    · rw[hren i]at hb;exact .inr ⟨i,rfl,hb⟩
  have hmine:∀β,EK (L3 g sel g1) β→EK g β∨EK g1 β:=by
    rintro β ⟨j,b,hb,hβ⟩;rcases hcls j b hb with⟨_,_,h3⟩|⟨i,_,h3⟩
    · exact .inl ⟨j,b,h3,hβ⟩
    · exact .inr ⟨i,b,h3,hβ⟩
  have hout:∀j b β,j ∉ sel→g[j]?=some b→b.blk=some β→¬EK (DW sel g) β:=by
    rintro j b β hj hb hβ ⟨i,b',hb',hβ'⟩;obtain⟨i',h1,h2⟩:=(A7 hs).1 hb';have:=hm.inj j i' b b' β hb h2 hβ hβ';subst this;exact hj (AkV h1)
  have hP:∀a u,w'.cell? a=some u→A0 (B.env F1) g1 a→A0 (B.env F) (L3 g sel g1) a:=by
    intro a u hc hp;refine⟨fun hF=>hp.1 ⟨fun h=>h.1 hF,fun h=>(hm.foreign a hF).2 (Du hs h),(hm.foreign a hF).1⟩,fun id b hb hβ=>?_⟩;rcases hcls id b hb with⟨h1,h2,h3⟩|⟨i,_,h3⟩
    · have hlt:=Da hm h3 hβ
      have hnm:=hout id b a.block h2 h3 hβ;have:A0 (B.env F) g a:=Ank fun hn=>hp.1 ⟨hn,hnm,hlt⟩
      exact this.2 id b h3 hβ
    · exact hp.2 i b h3 hβ
  have hQ:∀a u,w.cell? a=some u→A0 (B.env F) g a→w'.cell? a=some u∧A0 (B.env F) (L3 g sel g1) a:=by
    intro a u hc hp;obtain⟨h1,h2⟩:=he.cells a u hc (p1 a hp);exact⟨h1,hP a u h1 h2⟩
  have hle:GLe g (L3 g sel g1):=by
    intro id b hb;by_cases hi:id∈sel
    · obtain⟨i,hil,rfl⟩:=AlK hi
      obtain⟨b',hb',hst⟩:=he.ids i (by omega) b ((A7 hs).2 ⟨sel[i],AkR hil,hb⟩);refine⟨b',?_,hst⟩;have:=hren i;rw[FJ,AkS hil]at this;rw[←hb',←this];simp[Ak1,hil]
    · exact⟨b,by rw[FE sel g g1 id (AkN.1 hb).1 hi];exact hb,GB.step.refl b⟩
  have hgren:∀(i:Nat) (b:GB),g1[i]?=some b→(L3 g sel g1)[FJ sel σ.length i]?=some b:=fun i b hb=>by rw[←hlen,hren i];exact hb
  refine⟨L3 g sel g1,_,g1,hfin,fun v r hrep=>YM hgren hP hrep,⟨?_,?_,?_,?_,?_,hm2.maps,fun i vs h=>⟨fun hh=>(hmine _ hh).elim (hm.whole i vs h).1 (hm2.whole i vs h).1,(hm2.whole i vs h).2⟩⟩,hle,⟨he.os,he.tape,he.output,he.size,hQ,?_,fun _ h=>absurd h (Alr _)⟩⟩
  · rw[Po sel g g1 hsl,Po sel σ _ (by simpa [←hl1]using hsl),hlen,hl1];simp
  · intro id b ab hb1 hab
    rcases Qv (sel:=sel) (N:=g.length) id with⟨h1,h2⟩|⟨i,rfl⟩
    · rw[FE sel g g1 id h1 h2]at hb1
      rw[FE sel σ _ id (by omega) h2]at hab;refine(hm.blk id b ab hb1 hab).mono hQ hle (fun β hβ=>?_);exact(he.blocks β (Da hm hb1 hβ) (hout id b β h2 hb1 hβ)).1
    · rw[hren i]at hb1
      rw[hren2 i,Ak8,AkO]at hab;obtain⟨ab1,hab1,rfl⟩:=hab;have hk:=hm2.blk i b ab1 hb1 hab1;cases ab1 with
      | box cs ro=>
        obtain⟨k1,k2,k3,k4,k5,β,arr,t,fz,k6,k7,k8,k9,k10⟩:=hk;refine⟨k1,k2,k3,by simpa using k4,k5,β,arr,t,fz,k6,k7,by simpa using k8,k9,fun j y hj=>?_⟩;rw[Ak8,AkO]at hj;obtain⟨x,hx,rfl⟩:=hj;exact⟨Pb hgren hP (k10 j x hx).1,(k10 j x hx).2⟩
      | buf k els ro=>
        obtain⟨k1,k2,k3,k4,k5,k6,k7⟩:=hk;refine⟨k1,k2,k3,k4,k5,k6,fun β hβ=>?_⟩;obtain⟨arr,t,fz,g1',g2',g3',g4',g5'⟩:=k7 β hβ;refine⟨arr,t,fz,g1',g2',g3',g4',fun i' cs j x hi hj=>⟨?_,(g5' i' cs j x hi hj).2⟩⟩;have hec:=Cs hb hab1;have hcl:x.closed=true:=Ak4.1 (Ak4.1 hec cs (AkV hi)) x (AkV hj);exact(BL (g5' i' cs j x hi hj).1 hcl).mono (fun a u hc hp=>⟨hc,hP a u hc hp⟩) (GLe.nil _)
      |obj o=>exact hk
      | mp es=>
        obtain⟨k1,β,arr,cl,k2,k3,k4,k5,k6⟩:=hk;refine⟨k1,β,arr,cl,k2,k3,k4,k5,fun j k x hj=>?_⟩;obtain⟨e,q1,q2,q3⟩:=k6 j k x hj;exact⟨e,q1,q2,q3.mono (fun a u hc hp=>⟨hc,hP a u hc hp⟩) (GLe.nil _)⟩
      | lp y N1 l1 ps as1 bd=>
        obtain⟨k1,β,f,T,D,k2,k3,k4,k5⟩:=hk;refine⟨k1,β,f,T,D,k2,k3,k4,fun z hz=>?_⟩;obtain⟨x,hx,rfl⟩:=AlW.1 hz;exact OI hgren hP (k5 x hx)
      |gone=>exact hk
      |tb T l=>exact UL hk
  · intro id id' b b' β h1 h2 e1 e2
    have cross:∀(j i:Nat) (c c':GB),j ∉ sel→g[j]?=some c→g1[i]?=some c'→c.blk=some β→c'.blk=some β→False:=by
      intro j i c c' hj hc hc' x1 x2;exact(he.blocks β (Da hm hc x1) (hout j c β hj hc x1)).2 ⟨i,c',hc',x2⟩
    rcases hcls id b h1 with⟨_,n1,f1⟩|⟨i,rfl,f1⟩
    · rcases hcls id' b' h2 with⟨_,n2,f2⟩|⟨i',rfl,f2⟩
      · exact hm.inj id id' b b' β f1 f2 e1 e2
      · exact(cross id i' b b' n1 f1 f2 e1 e2).elim
    · rcases hcls id' b' h2 with⟨_,n2,f2⟩|⟨i',rfl,f2⟩
      · exact(cross id' i b' b n2 f2 f1 e2 e1).elim
      · rw[hm2.inj i i' b b' β f1 f2 e1 e2]
  · intro a ha'
    refine⟨Amb (hm.foreign a ha').1 he.size,fun hh=>?_⟩;rcases hmine _ hh with h|h
    · exact(hm.foreign a ha').2 h
    · exact(hm2.foreign a ⟨fun h=>h.1 ha',fun h=>(hm.foreign a ha').2 (Du hs h),(hm.foreign a ha').1⟩).2 h
  · intro i cs hG
    obtain⟨q1,q2,q3,_⟩:=hm.glob i cs hG;obtain⟨_,r2,_,c,r4⟩:=hm2.glob i cs hG;refine⟨Amb q1 he.size,fun hh=>?_,q3,c,fun j x hj=>⟨(r4 j x hj).1,(r4 j x hj).2.1.mono (fun a u hc hp=>⟨hc,hP a u hc hp⟩) (GLe.nil _),(r4 j x hj).2.2⟩⟩;rcases hmine _ hh with h|h
    · exact q2 h
    · exact r2 h
  · intro β hβ hn
    obtain⟨h1,h2⟩:=he.blocks β hβ (fun h=>hn (Du hs h));refine⟨h1,fun hh=>?_⟩;rcases hmine _ hh with h|h
    · exact hn h
    · exact h2 h
theorem Vu{r1:AV}(hcon:Con B f args1 σ1 (fun r σ'=>r=r1∧σ'=σ2))(sel:List Nat)(hnd:sel.Nodup)(hσ:Uq sel σ sel σ1) (ha:wkA sel args args1) (hb:C0 σ2=true) (F:Addr→Prop):QZ (B.env F) f args σ (Ss sel σ.length r1) (L3 σ sel (σ2.map (AbR sel σ.length))):=by
 refine fun w g vs hm har=>?_
 refine(VZ (Fin:=fun e w' pr g=>∃v,e=.returned v∧Rep w' pr g v r1) (fun F w g vs hm har=>(hcon.call F w g vs hm har).mono ?_) sel hnd hσ ha hb F hm har).mono ?_
 ·rintro e w' ⟨v,r,σ',g',h1,⟨rfl,rfl⟩,h3,h4,h5⟩;exact⟨g',⟨v,h1,h5⟩,h3,h4⟩
 ·rintro e w' ⟨g',pr1,g1,⟨v,h1,h5⟩,hrr,h3,h4,h6⟩;exact⟨v,g',h1,h3,h4,h6,hrr v _ h5⟩
theorem Ye{r1:AV}(hcon:Con B f args1 σ1 (fun r σ'=>r=r1∧σ'=σ2))(sel:List Nat)(hnd:sel.Nodup)(hσ:Uq sel σ sel σ1) (ha:wkA sel args args1) (hb:C0 σ2=true) {r:AV} {σ':Al} (hr:Ss sel σ.length r1=r) (hs:L3 σ sel (σ2.map (AbR sel σ.length))=σ'):∀F:Addr→Prop,QZ (B.env F) f args σ r σ':=by
 subst hr hs;exact Vu hcon sel hnd hσ ha hb
def YX(N:Nat):AV→AV→Prop
 |.sl true [],.bs true id 0 0 0=>id=N
 |x,y=>x=y
def Ql(N:Nat):List AV→List AV→Prop
 |[],[]=>True
 |x::xs,y::ys=>YX N x y∧Ql N xs ys
 |_,_=>False
def Acw(N:Nat):AV→AV→Prop
 |.agg xs,.agg ys=>Ql N xs ys
 |x,y=>YX N x y
def AgN(N:Nat):List AV→List AV→Prop
 |[],[]=>True
 |x::xs,y::ys=>Acw N x y∧AgN N xs ys
 |_,_=>False
theorem Q6{N:Nat}:∀{xs ys:List AV},Ql N xs ys→xs.length=ys.length∧∀(i:Nat) (y:AV),ys[i]?=some y→∃x,xs[i]?=some x∧YX N x y
  |[],[],_=>⟨rfl,fun i y h=>by simp at h⟩
  | x::xs,y::ys,h=>by
    obtain⟨h1,h2⟩:=Q6 h.2;refine⟨by simp[h1],fun i z hz=>?_⟩;cases i with
    |zero=>simp at hz;subst hz;exact⟨x,rfl,h.1⟩
    |succ i=>simpa using h2 i z (by simpa using hz)
theorem UD{w:World}{g:Gh}{pr pr':Addr→Prop}(hp:∀a,pr a→pr' a)(k:Nat)(h:Rep w pr g v x)(hn:YX g.length x y):Rep w pr' (g++[⟨none,0,k,0,0,false,false⟩]) v y:=by
 have same:x=y→Rep w pr' (g++[⟨none,0,k,0,0,false,false⟩]) v y:=fun e=>by
  subst e;exact h.mono (fun a u hc hpr=>⟨hc,hp a hpr⟩) (GLe.append _ _)
 unfold YX at hn;split at hn
 ·subst hn;exact HP h k
 ·exact same hn
theorem YN{w:World}{g:Gh}{pr pr':Addr→Prop}(hp:∀a,pr a→pr' a)(k:Nat)(h:Rep w pr g v x)(hn:Acw g.length x y):Rep w pr' (g++[⟨none,0,k,0,0,false,false⟩]) v y:=by
  unfold Acw at hn;split at hn
  · obtain⟨h1,h2⟩:=Q6 hn
    cases h with
    | agg _ vs _ hs' ho hr=>
      refine .agg _ vs _ (by omega) (fun i y hy=>?_) (fun i y hy=>?_)
      · obtain⟨x,hx,_⟩:=h2 i y hy;exact ho i x hx
      · obtain⟨x,hx,hxy⟩:=h2 i y hy;exact UD hp k (hr i x hx) hxy
  · exact UD hp k h hn
theorem O1{w:World}{g:Gh}{pr pr':Addr→Prop}(hp:∀a,pr a→pr' a)(k:Nat):∀{vs:List Value} {xs ys:List AV},BQ w pr g vs xs→AgN g.length xs ys→BQ w pr' (g++[⟨none,0,k,0,0,false,false⟩]) vs ys
 |[],[],[],_,_=>trivial
 |[],[],_::_,_,h=>h.elim
 |_::_,_::_,[],_,h=>h.elim
 |_::_,_::_,_::_,h,k'=>⟨YN hp k h.1 k'.1,O1 hp k h.2 k'.2⟩
theorem Aal{args':List AV}{r:AV}{σ':Al}(k:Nat)(hn:AgN σ.length args args')(h:∀F:Addr→Prop,QZ (B.env F) f args' (σ++[.buf k [] false]) r σ'):∀F:Addr→Prop,QZ (B.env F) f args σ r σ':=by
 intro F;have h2:=h F;refine fun w g vs hm har=>?_
 obtain⟨m1,m2,m3⟩:=Eo hm k;refine(h2 w _ vs m1 (O1 m2 k har (by rw[hm.len];exact hn))).mono ?_;rintro e w' ⟨v,g',e1,e2,e3,e4,e5⟩;exact⟨v,g',e1,e2,(GLe.append _ _).trans e3,(Fy hm 0 k).trans e4,e5⟩
def wk2(sel:List Nat):AV→AV→Prop
 |.tup xs,.tup ys=>wkA sel xs ys
 |x,y=>wk1 sel x y
def Afu(sel:List Nat)(r0:AV):Option (List AV)→Prop
 |some xs=>wk2 sel (He xs) r0
 |none=>False
def AgT(E:Env)(n:Nat)(rs:List ResultVar)(r0:AV)(σ0:Al):CV:=fun ex st=>(ex=.normal∨ex=.ret)∧∃sel,Afu sel r0 (EC E st.σ st.fr rs)∧sel.Nodup∧sel.take n=List.range n∧Uq sel st.σ sel σ0
theorem AdO{E:Env}{n N:Nat}{l:Fr}{σ0:Al}{rs:List ResultVar}{r0:AV}{ex:Exit}(hex:ex=.normal∨ex=.ret)(sel:List Nat)(hnd:sel.Nodup)(hn:sel.take n=List.range n)(h:Afu sel r0 (Wj E N l σ rs))(hσ:Uq sel σ sel σ0):AgT E n rs r0 σ0 ex ⟨Aq N l,σ⟩ :=
 ⟨hex,sel,by rw[Ku];exact h,hnd,hn,hσ⟩
theorem WB{sel:List Nat}:∀{xs ys:List AV},wkA sel xs ys→xs.length=ys.length∧∀(i:Nat) (y:AV),ys[i]?=some y→∃x,xs[i]?=some x∧wk1 sel x y
  |[],[],_=>⟨rfl,fun i y h=>by simp at h⟩
  | x::xs,y::ys,h=>by
    obtain⟨h1,h2⟩:=WB h.2;refine⟨by simp[h1],fun i z hz=>?_⟩;cases i with
    |zero=>simp at hz;subst hz;exact⟨x,rfl,h.1⟩
    |succ i=>simpa using h2 i z (by simpa using hz)
theorem Adk{w:World}{g:Gh}{sel:List Nat}{pr pr':Addr→Prop}(hp:∀a,pr a→pr' a)(hs:∀i∈sel,i<g.length)(h:Rep w pr g v x)(hw:wk2 sel x y):Rep w pr' (DW sel g) v y:=by
  unfold wk2 at hw;split at hw
  · obtain⟨h1,h2⟩:=WB hw
    cases h with
    | tup _ vs _ hs' hr=>
      refine .tup _ vs _ (by omega) (fun i y hy=>?_);obtain⟨x,hx,hxy⟩:=h2 i y hy;exact L0 hp hs (hr i x hx) hxy
  · exact L0 hp hs h hw
theorem Ab1{E:Env}{w:World}{g:Gh}{σ':Al}{n:Nat}(hm:Mem E w g σ)(sel:List Nat)(hnd:sel.Nodup)(hn:sel.take n=List.range n)(hσ:Uq sel σ sel σ') :(∀i∈sel,i<g.length)∧Mem E w (DW sel g) σ'∧Evo E n w g w (DW sel g)∧∀a,A0 E g a→A0 E (DW sel g) a:=by
  have hw:=Uj (E:=E) (n:=n) (N:=0) (l:=[]) (l':=[]) sel hnd hn hσ trivial;obtain⟨hl,hget⟩:=Lv hσ;have hlen:g.length=σ.length:=hm.len
  have hs:∀i∈sel,i<g.length:=by
    intro i hi;obtain⟨id,hid,rfl⟩:=AlK hi;obtain⟨i',b,h1,h2,_⟩:=hget id (σ'[id]'(by omega)) (AkR _);rw[AkR hid]at h1;cases h1;rw[hlen];exact(AkN.1 h2).1
  refine⟨hs,⟨by simp[DW,hl],?_,?_,fun a ha=>⟨(hm.foreign a ha).1,fun hh=>(hm.foreign a ha).2 (Du hs hh)⟩,?_,hm.maps,fun i vs h=>⟨fun hh=>(hm.whole i vs h).1 (Du hs hh),(hm.whole i vs h).2⟩⟩,?_,fun a=>EA hs⟩
  · intro id b ab' h1 h2
    obtain⟨i,ab,e1,e2,e3⟩:=hget id ab' h2;obtain⟨i',f1,f2⟩:=(A7 hs).1 h1;rw[e1]at f1;cases f1;have hk:=hm.blk i b ab f2 e2;cases ab with
    | box cs ro=>
      cases ab' with
      |buf=>exact e3.elim
      |obj=>exact e3.elim
      |mp=>exact e3.elim
      |lp=>exact e3.elim
      |gone=>exact e3.elim
      |tb=>exact e3.elim
      | box cs' ro'=>
        obtain⟨rfl,e4⟩:=e3;obtain⟨e5,e6⟩:=HL e4;obtain⟨k1,k2,k3,k4,k5,β,arr,t,fz,k6,k7,k8,k9,k10⟩:=hk;refine⟨k1,k2,k3,by omega,k5,β,arr,t,fz,k6,k7,by omega,k9,fun j y hj=>?_⟩;obtain⟨x,hx,hxy⟩:=e6 j y hj;exact⟨MD hs (k10 j x hx).1 hxy,(k10 j x hx).2⟩
    | buf k els ro=>
      cases ab' with
      |box=>exact e3.elim
      |obj=>exact e3.elim
      |mp=>exact e3.elim
      |lp=>exact e3.elim
      |gone=>exact e3.elim
      |tb=>exact e3.elim
      | buf k' els' ro'=>
        obtain⟨rfl,rfl,rfl,e4⟩:=e3;obtain⟨k1,k2,k3,k4,k5,k6,k7⟩:=hk;refine⟨k1,k2,k3,k4,k5,k6,fun β hβ=>?_⟩;obtain⟨arr,t,fz,g1,g2,g3,g4,g5⟩:=k7 β hβ;refine⟨arr,t,fz,g1,g2,g3,g4,fun i cs j x hi hj=>⟨?_,(g5 i cs j x hi hj).2⟩⟩;have hcl:x.closed=true:=Ak4.1 (Ak4.1 e4 cs (AkV hi)) x (AkV hj);exact(BL (g5 i cs j x hi hj).1 hcl).mono (fun a u hc hp=>⟨hc,EA hs hp⟩) (GLe.nil _)
    | mp es=>
      cases ab' with
      |box=>exact e3.elim
      |buf=>exact e3.elim
      |obj=>exact e3.elim
      |tb=>exact e3.elim
      |lp=>exact e3.elim
      |gone=>exact e3.elim
      | mp es'=>
        obtain rfl:es=es':=e3;obtain⟨k1,β,arr,cl,k2,k3,k4,k5,k6⟩:=hk;refine⟨k1,β,arr,cl,k2,k3,k4,k5,fun j k x hj=>?_⟩;obtain⟨e,q1,q2,q3⟩:=k6 j k x hj;exact⟨e,q1,q2,q3.mono (fun a u hc hp=>⟨hc,EA hs hp⟩) (GLe.nil _)⟩
    | lp y N1 l1 ps as1 bd=>
      cases ab' with
      |box=>exact e3.elim
      |buf=>exact e3.elim
      |obj=>exact e3.elim
      |tb=>exact e3.elim
      |mp=>exact e3.elim
      |gone=>exact e3.elim
      | lp y' N2 l2 ps' as2 bd'=>
        obtain⟨rfl,rfl,rfl,rfl,rfl,e4⟩:=e3;obtain⟨k1,β,f,T,D,k2,k3,k4,k5⟩:=hk;refine⟨k1,β,f,T,D,k2,k3,k4,fun z hz=>?_⟩;obtain⟨x,hx,hx1,hxy⟩:=OG e4 z hz;rw[←hx1];exact SG hs (k5 x hx) hxy
    | gone=>
      cases ab' with
      |box=>exact e3.elim
      |buf=>exact e3.elim
      |obj=>exact e3.elim
      |tb=>exact e3.elim
      |mp=>exact e3.elim
      |lp=>exact e3.elim
      |gone=>exact hk
    | obj o=>
      cases ab' with
      |box=>exact e3.elim
      |buf=>exact e3.elim
      |tb=>exact e3.elim
      |mp=>exact e3.elim
      |lp=>exact e3.elim
      |gone=>exact e3.elim
      | obj o'=>
        obtain rfl:o=o':=e3;exact hk
    | tb T l=>
      cases ab' with
      |box=>exact e3.elim
      |buf=>exact e3.elim
      |obj=>exact e3.elim
      |mp=>exact e3.elim
      |lp=>exact e3.elim
      |gone=>exact e3.elim
      | tb T' l'=>
        obtain⟨rfl,rfl⟩:=e3;exact UL hk
  · intro id id' b b' β h1 h2 e1 e2
    obtain⟨i,f1,f2⟩:=(A7 hs).1 h1;obtain⟨i',f1',f2'⟩:=(A7 hs).1 h2;have:=hm.inj i i' b b' β f2 f2' e1 e2;subst this;obtain⟨l1,q1⟩:=AkN.1 f1;obtain⟨l2,q2⟩:=AkN.1 f1';exact JD hnd l1 l2 (q1.trans q2.symm)
  · intro i cs hG
    obtain⟨q1,q2,q3,c,q4⟩:=hm.glob i cs hG;exact⟨q1,fun hh=>q2 (Du hs hh),q3,c,fun j x hj=>⟨(q4 j x hj).1,(q4 j x hj).2.1.mono (fun a u hc hp=>⟨hc,EA hs hp⟩) (GLe.nil _),(q4 j x hj).2.2⟩⟩
  · refine⟨rfl,rfl,rfl,Ak2 _,fun a u hc hp=>⟨hc,EA hs hp⟩,fun β _ hn'=>⟨rfl,fun hh=>hn' (Du hs hh)⟩,fun id hid b hb=>⟨b,(A7 hs).2 ⟨id,?_,hb⟩,GB.step.refl b⟩⟩
    have:(sel.take n)[id]?=some id:=by rw[hn,Al5 hid]
    rw[Alg,AkS hid]at this;exact this
theorem KZ{fn:Func}{c:Code}{σ0:Al}{r0:AV}{rs:List ResultVar}{N:Nat}(n:Nat)(hn0:σ.length=n)(hB:B.Ok)(hf:B.P.funcs[f]?=some fn)(hb:fn.body=some c)(hn:(fn.name == "runtime.NumGoroutine")=false) (hN:fn.ntmps=N) (hrs:fn.results.toList=rs) (hlen:args.length≤N) (h:∀F:Addr→Prop,Run (B.env F) n c ⟨Aq N (N9 0 args),σ⟩ (AgT (B.env F) n rs r0 σ0)):Con B f args σ (fun r' σ'=>r'=r0∧σ'=σ0):=by
 subst hn0
 have h0:Con B f args σ (fun r σ'=>∃sel:List Nat,wk2 sel r r0∧sel.Nodup∧sel.take σ.length=List.range σ.length∧Uq sel σ' sel σ0):=by
  refine Wx hB hf hb hn (fun F=>?_);subst hN hrs;rw[GI fn.ntmps args hlen (N9 0 args) (fun t _=>GM args 0 t (Ali _))];refine Ed (h F) ?_;rintro ex st ⟨h1,sel,h2,h3,h4,h5⟩;unfold Afu at h2;split at h2
  ·rename_i xs hxs;exact⟨h1,xs,hxs,sel,h2,h3,h4,h5⟩
  ·exact h2.elim
 refine⟨fun F w g vs hm ha=>(h0.call F w g vs hm ha).mono ?_⟩;rintro e w' ⟨v,r,σ',g',h1,⟨sel,k1,k2,k3,k4⟩,h3,h4,h5⟩;obtain⟨s1,s2,s3,s4⟩:=Ab1 h3 sel k2 k3 k4;exact⟨v,r0,σ0,DW sel g',h1,⟨rfl,rfl⟩,s2,h4.trans s3,Adk s4 s1 h5 k1⟩
theorem MS{N:Nat}:YX N x x=True:=by
 unfold YX;split<;>first|(exfalso;simp_all;done)|simp
theorem TE{N:Nat}:YX N (.sl true []) (.bs true N 0 0 0)=True:=by simp[YX]
theorem AaO{N:Nat}:Acw N (.sl true []) (.bs true N 0 0 0)=True:=TE
theorem Ov{N:Nat}:∀{l:List AV},Ql N l l=True
 |[]=>by simp[Ql]
 |x::l=>by simp[Ql,MS,Ov (l:=l)]
theorem WG{N:Nat}:Acw N x x=True:=by
 cases x<;>unfold Acw<;>first|exact MS|exact Ov
theorem YU{N:Nat}{xs ys:List AV}:Acw N (.agg xs) (.agg ys)=Ql N xs ys:=rfl
section
variable {sel:List Nat}{N:Nat}
theorem Uk(x:Int):Lz sel N (i64 x:AV)=(i64 x:AV):=by
 show(match(i64 x:AV).closed with|true=>(i64 x:AV)|false=>.junk)=_;rw[closed_i64]
theorem AaX(x:Int):Ss sel N (i64 x:AV)=(i64 x:AV):=Uk (sel:=sel) (N:=N) x
theorem Ue(x:UInt64):Lz sel N (u64 x:AV)=(u64 x:AV):=by
 show(match(u64 x:AV).closed with|true=>(u64 x:AV)|false=>.junk)=_;rw[closed_u64]
theorem Aa0(x:UInt64):Ss sel N (u64 x:AV)=(u64 x:AV):=Ue (sel:=sel) (N:=N) x
theorem Q1(b:Bool):Lz sel N (.bool b:AV)=(.bool b:AV):=by
 show(match(.bool b:AV).closed with|true=>(.bool b:AV)|false=>.junk)=_;rw[closed_bool]
theorem Xs(b:Bool):Ss sel N (.bool b:AV)=(.bool b:AV):=Q1 (sel:=sel) (N:=N) b
theorem ZE(s:List UInt8):Lz sel N (.str s:AV)=(.str s:AV):=by
 show(match(.str s:AV).closed with|true=>(.str s:AV)|false=>.junk)=_;rw[closed_str]
theorem Ac2(f:Bool)(els:List (List AV)):Lz sel N (.sl f els:AV)=(.sl f els:AV):=by
 show(match(.sl f els:AV).closed with|true=>(.sl f els:AV)|false=>.junk)=_;rw[closed_sl]
theorem Adg(f:Bool)(id t o l:Nat):Lz sel N (.bs f id t o l)=.bs f (FJ sel N id) t o l:=rfl
theorem AaU(id o:Nat):Lz sel N (.ref id o)=.ref (FJ sel N id) o:=rfl
theorem W6(id:Nat):Lz sel N (.mref id)=.mref (FJ sel N id):=rfl
theorem WS(id:Nat):Lz sel N (.nref id)=.nref (FJ sel N id):=rfl
theorem Wz(id:Nat):Wa sel N (.mref id)=.mref (FJ sel N id):=rfl
theorem WC(id:Nat):Wa sel N (.nref id)=.nref (FJ sel N id):=rfl
theorem Xp(id t:Nat):Lz sel N (.tref id t)=.tref (FJ sel N id) t:=rfl
theorem Xt(id t:Nat):Wa sel N (.tref id t)=.tref (FJ sel N id) t:=rfl
theorem Wu(id t:Nat):Ss sel N (.tref id t)=.tref (FJ sel N id) t:=rfl
theorem XL(id t i j:Nat):Lz sel N (.eref id t i j)=.eref (FJ sel N id) t i j:=rfl
theorem AdB(f:Bool)(id t o l:Nat):Wa sel N (.bs f id t o l)=.bs f (FJ sel N id) t o l:=rfl
theorem ZY(id o:Nat):Wa sel N (.ref id o)=.ref (FJ sel N id) o:=rfl
theorem XS(id t i j:Nat):Wa sel N (.eref id t i j)=.eref (FJ sel N id) t i j:=rfl
theorem AcU(f:Bool)(id t o l:Nat):Ss sel N (.bs f id t o l)=.bs f (FJ sel N id) t o l:=rfl
theorem Aah(id o:Nat):Ss sel N (.ref id o)=.ref (FJ sel N id) o:=rfl
theorem XY(id t i j:Nat):Ss sel N (.eref id t i j)=.eref (FJ sel N id) t i j:=rfl
theorem AaF(xs:List AV):Wa sel N (.agg xs)=.agg (xs.map (Lz sel N)):=rfl
theorem Aad(xs:List AV):Ss sel N (.agg xs)=.agg (xs.map (Lz sel N)):=rfl
theorem AaN(xs:List AV):Ss sel N (.tup xs)=.tup (xs.map (Wa sel N)):=rfl
end
attribute [go_sem] Afu wk2 wkA AgN MS TE AaO WG YU Ql W6 Wz WS WC Xp Xt Wu Uk AaX Ue Aa0 Q1 Xs ZE Ac2 Adg AaU XL AdB ZY XS AcU Aah XY AaF Aad AaN AbR FJ L3 C0 List.getD_cons_zero List.getD_cons_succ
end Go.Rv
