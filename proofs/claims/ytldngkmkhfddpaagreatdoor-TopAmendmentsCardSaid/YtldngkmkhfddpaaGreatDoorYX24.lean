/-
  Part 24.
-/
import Derived.Test.YtldngkmkhfddpaaGreatDoorYX23
namespace Go.Rv
set_option linter.unusedVariables false
set_option linter.unusedSimpArgs false
variable{v:Value}{x y:AV}{B:Base}{f:FuncId}{args1 args:List AV}{σ1 σ2 O:Ac}
def M6{α:Type}:List α->List Nat->List α->List α
 |l,i::sel,b::bs=>M6 (l.set i b) sel bs
 |l,[],bs=>l++bs
 |l,_::_,[]=>l
def Gv(sel:List Nat)(N i:Nat):Nat:=if i<sel.length then sel.getD i 0 else N+(i-sel.length)
theorem RU{α:Type}:∀(sel:List Nat) (l bs:List α),sel.length<=bs.length->(M6 l sel bs).length=l.length+(bs.length-sel.length)
 |[],l,bs,_=>by simp[M6]
 |i::sel,l,[],h=>by simp at h
 |i::sel,l,b::bs,h=>by
  rw[M6,RU sel _ bs (by simpa using h)];simp
theorem Hz{α:Type}:∀(sel:List Nat) (l bs:List α) (j:Nat),j<l.length->j ∉ sel->(M6 l sel bs)[j]?=l[j]?
 |[],l,bs,j,hj,_=>by rw[M6,Aph hj]
 |i::sel,l,[],j,hj,_=>rfl
 |i::sel,l,b::bs,j,hj,hn=>by
  rw[M6,Hz sel _ bs j (by simpa using hj) (fun h=>hn (ApP _ h)),ApY];intro e;exact hn (by rw[e];exact Apu)
theorem Rm{α:Type}:∀(sel:List Nat) (l bs:List α),sel.Nodup->(∀i∈sel,i<l.length)->sel.length<=bs.length->∀i,(M6 l sel bs)[Gv sel l.length i]?=bs[i]?
 |[],l,bs,_,_,_,i=>by
  have e:Gv [] l.length i=l.length+i:=by simp[Gv]
  rw[e,M6,Ape (by omega)];congr 1;omega
 |i0::sel,l,[],_,_,h,i=>by simp at h
 | i0::sel,l,b::bs,hnd,hs,h,i=>by
  have h':sel.length<=bs.length:=by simpa using h
  have hnd':=ArF.1 hnd;have hs':∀i∈sel,i<(l.set i0 b).length:=fun i hi=>by simpa using hs i (ApP _ hi)
  rw[M6];cases i with
  |zero=>
   have e:Gv (i0::sel) l.length 0=i0:=by simp[Gv]
   have hi0:=hs i0 Apu;rw[e,Hz sel _ bs i0 (by simpa using hi0) hnd'.1,Aqd hi0];rfl
  | succ i=>
   have e:Gv (i0::sel) l.length (i+1)=Gv sel (l.set i0 b).length i:=by
    unfold Gv;simp only[Api,AqK];by_cases hi:i<sel.length
    ·rw[Apb (by omega),Apb hi];rfl
    rw[Apd (by omega),Apd hi];congr 1;omega
   rw[e,Rm sel _ bs hnd'.2 hs' h' i];rfl
theorem T6{sel:List Nat}{N:Nat}(j:Nat):(j<N/\j ∉ sel)\/∃i,j=Gv sel N i:=by
 by_cases hj:j∈sel
 ·right;obtain⟨i,hi,rfl⟩:=Ap3 hj;exact⟨i,by rw[Gv,Apb hi];simp[Apt,hi]⟩
 by_cases hN:j<N
 ·exact .inl ⟨hN,hj⟩
 right;exact⟨sel.length+(j-N),by rw[Gv,Apd (by omega)];omega⟩
def MG(sel:List Nat)(N:Nat):AV->AV
 |.fn f [.ref id o]=>.fn f [.ref (Gv sel N id) o]
 |.fn f [.ref id o,.ref jd p]=>.fn f [.ref (Gv sel N id) o,.ref (Gv sel N jd) p]
 |.bs f id t o l=>.bs f (Gv sel N id) t o l
 |.ref id o=>.ref (Gv sel N id) o
 |.tref id t=>.tref (Gv sel N id) t
 |.mref id=>.mref (Gv sel N id)
 |.yld id=>.yld (Gv sel N id)
 |.nref id=>.nref (Gv sel N id)
 |.eref id t i j=>.eref (Gv sel N id) t i j
 |x=>match x.closed with
  |true=>x
  |false=>.junk
def Wq(sel:List Nat)(N:Nat):AV->AV
 |.agg xs=>.agg (xs.map (MG sel N))
 |x=>MG sel N x
def SI(sel:List Nat)(N:Nat):AV->AV
 |.tup xs=>.tup (xs.map (Wq sel N))
 |x=>Wq sel N x
def AcC(sel:List Nat)(N:Nat):ABlk->ABlk
 |.box cs ro=>.box (cs.map (MG sel N)) ro
 |.buf k els ro=>.buf k els ro
 |.obj o=>.obj o
 |.tb T l=>.tb T l
 |.mp st es=>.mp st es
 |.lp y M l ps a b=>.lp y M (l.map fun p=>(p.1,Wq sel N p.2)) ps a b
 |.gone=>.gone
def BU:Ac->Bool
 |[]=>true
 |.box _ _::O=>BU O
 |.buf _ els _::O=>D4 els&&BU O
 |.obj _::O=>BU O
 |.tb _ _::O=>BU O
 |.mp _ _::O=>BU O
 |.lp _ _ _ _ _ _::O=>BU O
 |.gone::O=>BU O
theorem Db:∀{O:Ac} {i k:Nat} {els:List (List AV)} {ro:Bool},BU O=true->O[i]?=some (.buf k els ro)->D4 els=true
 |[],i,k,els,ro,_,h=>by simp at h
 |.box _ _::O,0,k,els,ro,_,h=>by simp at h
 |.obj _::O,0,k,els,ro,_,h=>by simp at h
 |.tb _ _::O,0,k,els,ro,_,h=>by simp at h
 |.mp _ _::O,0,k,els,ro,_,h=>by simp at h
 |.lp _ _ _ _ _ _::O,0,k,els,ro,_,h=>by simp at h
 |.gone::O,0,k,els,ro,_,h=>by simp at h
 |.buf _ els' _::O,0,k,els,ro,hc,h=>by
  simp at h;obtain⟨_,rfl,_⟩:=h;exact(ArC.1 hc).1
 |.box _ _::O,i+1,k,els,ro,hc,h=>Db (O:=O) hc (by simpa using h)
 |.obj _::O,i+1,k,els,ro,hc,h=>Db (O:=O) hc (by simpa using h)
 |.tb _ _::O,i+1,k,els,ro,hc,h=>Db (O:=O) hc (by simpa using h)
 |.mp _ _::O,i+1,k,els,ro,hc,h=>Db (O:=O) hc (by simpa using h)
 |.lp _ _ _ _ _ _::O,i+1,k,els,ro,hc,h=>Db (O:=O) hc (by simpa using h)
 |.gone::O,i+1,k,els,ro,hc,h=>Db (O:=O) hc (by simpa using h)
 |.buf _ _ _::O,i+1,k,els,ro,hc,h=>Db (O:=O) (ArC.1 hc).2 (by simpa using h)
section
variable {w:World}{pr pr':Addr->Prop}{g1 g:Gh}{sel:List Nat}{N:Nat}
theorem M8{id o:Nat}(h:Rep w pr g1 v (.ref id o)):∃(β:Nat) (b:GB),g1[id]?=some b/\b.isBox=true/\b.blk=some β/\v=.pointer (some ⟨β,o,none⟩):=by
 cases h with
 |ref _ _ _ β b hb hx hβ=>exact⟨β,b,hb,hx,hβ,rfl⟩
theorem SE(hg:∀(i:Nat) (b:GB),g1[i]?=some b->g[Gv sel N i]?=some b)(hp:∀a u,w.cell? a=some u->pr a->pr' a)(h:Rep w pr g1 v x):Rep w pr' g v (MG sel N x):=by
 have hcl:x.closed=true->Rep w pr' g v x:=fun hc=>(Cj h hc).mono (fun a u hcc hpr=>⟨hcc,hp a u hcc hpr⟩) (GLe.nil _)
 have hgen:Rep w pr' g v (match x.closed with
  |true=>x
  |false=>.junk):=by
  cases hc:x.closed with
  |true=>exact hcl hc
  |false=>exact .junk _ _
 cases x with
 |bs f id t o l=>
  cases h with
  |bs _ _ _ _ _ _ _ b hb hx ht h ho=>exact .bs _ _ _ _ _ _ _ b (hg _ _ hb) hx ht h ho
 |ref id o=>
  cases h with
  |ref _ _ _ β b hb hx hβ=>exact .ref _ _ _ β b (hg _ _ hb) hx hβ
 |tref id t=>
  cases h with
  |tref _ _ _ β b hb hx hβ ht=>exact .tref _ _ _ β b (hg _ _ hb) hx hβ ht
 |mref id=>
  cases h with
  |mref _ _ β b hb hx hβ=>exact .mref _ _ β b (hg _ _ hb) hx hβ
 |yld id=>
  cases h with
  |yld _ _ β b hb hx hβ=>exact .yld _ _ β b (hg _ _ hb) hx hβ
 |nref id=>
  cases h with
  |nref _ _ _ b hb hx h=>exact .nref _ _ _ b (hg _ _ hb) hx h
 |eref id t i j=>
  cases h with
  |eref _ _ _ _ _ _ b hb hx ht h ho=>exact .eref _ _ _ _ _ _ b (hg _ _ hb) hx ht h ho
 | fn f xs=>
  rcases xs with _|⟨x,_|⟨y,l⟩⟩
  ·exact hgen
  ·cases x with
   | ref id o=>
    cases h with
    | fn _ _ caps _ hs hr hn=>
     refine .fn _ _ caps _ (by simpa using hs) (fun i x hx=>?_) (fun ys e=>by cases e)
     have hi:i=0:=by
      have:=(Ao6.1 hx).1;simpa using this
     subst hi;have hx':x=.ref (Gv sel N id) o:=by simpa using hx.symm
     subst hx';obtain⟨β,b,hb,hxb,hβ,hv⟩:=M8 (hr 0 (.ref id o) rfl);rw[hv];exact .ref _ _ _ β b (hg _ _ hb) hxb hβ
   |_=>exact hgen
  rcases l with _|⟨z,l⟩
  ·cases x with
   | ref id o=>
    cases y with
    | ref jd p=>
     cases h with
     | fn _ _ caps _ hs hr hn=>
      refine .fn _ _ caps _ (by simpa using hs) (fun i x hx=>?_) (fun ys e=>by cases e)
      have hi:i<2:=by
       have:=(Ao6.1 hx).1;simpa using this
      match i,hi with
      |0,_=>
       have hx':x=.ref (Gv sel N id) o:=by simpa using hx.symm
       subst hx';obtain⟨β,b,hb,hxb,hβ,hv⟩:=M8 (hr 0 (.ref id o) rfl);rw[hv];exact .ref _ _ _ β b (hg _ _ hb) hxb hβ
      |1,_=>
       have hx':x=.ref (Gv sel N jd) p:=by simpa using hx.symm
       subst hx';obtain⟨β,b,hb,hxb,hβ,hv⟩:=M8 (hr 1 (.ref jd p) rfl);rw[hv];exact .ref _ _ _ β b (hg _ _ hb) hxb hβ
    |_=>exact hgen
   |_=>cases y<;>exact hgen
  cases x<;>cases y<;>exact hgen
 |_=>exact hgen
theorem Sm(hg:∀(i:Nat) (b:GB),g1[i]?=some b->g[Gv sel N i]?=some b)(hp:∀a u,w.cell? a=some u->pr a->pr' a)(h:Rep w pr g1 v x):Rep w pr' g v (Wq sel N x):=by
 cases x with
 | agg xs=>
  cases h with
  | agg _ vs _ hs ho hr=>
   refine .agg _ vs _ (by simpa using hs) (fun i y hy=>?_) (fun i y hy=>?_)
   ·rw[ApE,Ao5]at hy;obtain⟨x,hx,_⟩:=hy;exact ho i x hx
   rw[ApE,Ao5]at hy;obtain⟨x,hx,rfl⟩:=hy;exact SE hg hp (hr i x hx)
 |_=>exact SE hg hp h
theorem AdN(hg:∀(i:Nat) (b:GB),g1[i]?=some b->g[Gv sel N i]?=some b)(hp:∀a u,w.cell? a=some u->pr a->pr' a)(h:Rep w pr g1 v x):Rep w pr' g v (SI sel N x):=by
 cases x with
 | tup xs=>
  cases h with
  |tup _ vs _ hs hr=>
   refine .tup _ vs _ (by simpa using hs) (fun i y hy=>?_);rw[ApE,Ao5]at hy;obtain⟨x,hx,rfl⟩:=hy;exact Sm hg hp (hr i x hx)
 |_=>exact Sm hg hp h
end
section
variable {w:World}{g:Gh}{sel:List Nat}{pr pr':Addr->Prop}
theorem Of(hp:∀a,pr a->pr' a)(hs:∀i∈sel,i<g.length)(h:Rep w pr g v x)(hw:wk0 sel x y):Rep w pr' (CG sel g) v y:=by
 have hcl:∀{z:AV},Rep w pr g v z->z.closed=true->Rep w pr' (CG sel g) v z:=fun h1 h2=>
  (Cj h1 h2).mono (fun a u hc hpr=>⟨hc,hp a hpr⟩) (GLe.nil _)
 by_cases hj:y=.junk
 ·subst hj;exact .junk _ _
 cases x<;>cases y<;>first
  |exact(hj rfl).elim
  |(simp only[wk0]at hw;exfalso;have h1:=hw.1;cases h1;done)
  |(simp only[wk0]at hw;obtain⟨e,hc⟩:=hw;rw[<-e]at hc ⊢;exact hcl h hc;done)
  |skip
 case bs.bs f i t o l f' id t' o' l'=>
  simp only[wk0]at hw;obtain⟨h1,h2,rfl,rfl,rfl⟩:=hw;cases h with
  |bs _ _ _ _ _ _ _ b hb hx ht h ho=>
   refine .bs _ _ _ _ _ _ _ b ((A5 hs).2 ⟨i,h1,hb⟩) hx ht (fun e=>?_) ho;obtain⟨a,cap,q1,q2,q3,q4,q5⟩:=h e;exact⟨a,cap,q1,q2,fun e=>q3 (h2 e),q4,q5⟩
 case ref.ref i o id o'=>
  simp only[wk0]at hw;obtain⟨h1,rfl⟩:=hw;cases h with
  |ref _ _ _ β b hb hx hβ=>exact .ref _ _ _ β b ((A5 hs).2 ⟨i,h1,hb⟩) hx hβ
 case tref.tref i t id t'=>
  simp only[wk0]at hw;obtain⟨h1,rfl⟩:=hw;cases h with
  |tref _ _ _ β b hb hx hβ ht=>exact .tref _ _ _ β b ((A5 hs).2 ⟨i,h1,hb⟩) hx hβ ht
 case mref.mref i id=>
  simp only[wk0]at hw;cases h with
  |mref _ _ β b hb hx hβ=>exact .mref _ _ β b ((A5 hs).2 ⟨i,hw,hb⟩) hx hβ
 case yld.yld i id=>
  simp only[wk0]at hw;cases h with
  |yld _ _ β b hb hx hβ=>exact .yld _ _ β b ((A5 hs).2 ⟨i,hw,hb⟩) hx hβ
 case nref.nref i id=>
  simp only[wk0]at hw;cases h with
  |nref _ _ _ b hb hx h=>exact .nref _ _ _ b ((A5 hs).2 ⟨i,hw,hb⟩) hx h
 case eref.eref i t a b id t' a' b2=>
  simp only[wk0]at hw;obtain⟨h1,rfl,rfl,rfl⟩:=hw;cases h with
  |eref _ _ _ _ _ _ b hb hx ht h ho=>exact .eref _ _ _ _ _ _ b ((A5 hs).2 ⟨i,h1,hb⟩) hx ht h ho
 case sl.sl f els f' els'=>
  simp only[wk0]at hw;obtain⟨h1,rfl⟩:=hw
  have:Rep w pr g v (.sl f' els):=by
   cases h with
   |sl _ a len cap _ _ k c hlen hcap hfull hnone hk hc hr=>exact .sl _ a len cap f' els k c hlen hcap (fun e=>hfull (h1 e)) hnone hk hc hr
  exact hcl this (by simp[AV.closed])
 case fn.fn f cs f' cs'=>
  simp only[wk0]at hw;rcases hw with⟨e,hc⟩|⟨rfl,hw⟩|⟨rfl,hw⟩
  ·rw[<-e]at hc ⊢;exact hcl h hc
  rotate_left
  ·unfold wkB at hw;split at hw
   case h_2=>exact hw.elim
   obtain⟨h1,rfl⟩:=hw;cases h with
   |fn _ _ caps _ hsz hr hn=>exact absurd rfl (hn _)
   | fnb _ _ fs _ hsz hr=>
    refine .fnb _ _ fs _ hsz (fun j y hy=>?_)
    match j,hy with
    |0,hy=>
     cases hy;have h3:=hr 0 _ rfl;generalize fs.getD 0 undef=u at h3 ⊢;cases h3 with
     |ref _ _ _ β b hb hx hβ=>exact .ref _ _ _ β b ((A5 hs).2 ⟨_,h1,hb⟩) hx hβ
  obtain⟨l1,l2⟩:=R6 hw
  have hnt:∀ys,cs'≠[.tup ys]:=by
   rintro ys rfl;obtain⟨x,_,hx⟩:=l2 0 _ rfl;exact LO hx ys rfl
  have conv:∀{u:Value} {x y:AV},Rep w (pr) g u x->wkc sel x y->Rep w (pr') (CG sel g) u y:=by
   intro u x y hr hxy;rcases Ml hxy with⟨i,o,id,rfl,rfl,h1⟩|⟨i,o,id,rfl,rfl,h1⟩|⟨rfl,hc⟩
   ·cases hr with
    |ref _ _ _ β b hb hx hβ=>exact .ref _ _ _ β b ((A5 hs).2 ⟨i,h1,hb⟩) hx hβ
   ·cases hr with
    |tref _ _ _ β b hb hx hβ ht=>exact .tref _ _ _ β b ((A5 hs).2 ⟨i,h1,hb⟩) hx hβ ht
   exact(Cj hr hc).mono (fun a u hc hpr=>⟨hc,hp a hpr⟩) (GLe.nil _)
  cases h with
  |fn _ _ caps _ hsz hr hn=>
   refine .fn _ _ caps cs' (by omega) (fun i y hy=>?_) hnt;obtain⟨x,hx,hxy⟩:=l2 i y hy;exact conv (hr i x hx) hxy
  | fnb _ _ fs xs hsz hr=>
   exfalso
   match cs',hw with
   |[y],hw=>
    obtain⟨hy,_⟩:=hw;rcases Ml hy with⟨i,o,id,h1,_⟩|⟨i,o,id,h1,_⟩|⟨h1,_⟩
    ·cases h1
    ·cases h1
    exact LO hy _ h1.symm
theorem Oj(hp:∀a,pr a->pr' a)(hs:∀i∈sel,i<g.length)(h:Rep w pr g v x)(hw:wk1 sel x y):Rep w pr' (CG sel g) v y:=by
 by_cases ha:∃xs ys,x=.agg xs/\y=.agg ys
 ·obtain⟨xs,ys,rfl,rfl⟩:=ha;simp only[wk1]at hw;obtain⟨h1,h2⟩:=JN hw;cases h with
  |agg _ vs _ hs' ho hr=>
   refine .agg _ vs ys (by omega) (fun i y hy=>?_) (fun i y hy=>?_)
   ·obtain⟨x,hx,_⟩:=h2 i y hy;exact ho i x hx
   obtain⟨x,hx,hxy⟩:=h2 i y hy;exact Of hp hs (hr i x hx) hxy
 by_cases hb:∃xs ys,x=.tup xs/\y=.tup ys
 ·obtain⟨xs,ys,rfl,rfl⟩:=hb;simp only[wk1]at hw;obtain⟨h1,h2⟩:=JN hw;cases h with
  |tup _ vs _ hs' hr=>
   refine .tup _ vs ys (by omega) (fun i y hy=>?_);obtain⟨x,hx,hxy⟩:=h2 i y hy;exact Of hp hs (hr i x hx) hxy
 have:wk1 sel x y=wk0 sel x y:=by
  cases x<;>cases y<;>first
   |rfl
   |exact(ha ⟨_,_,rfl,rfl⟩).elim
   |exact(hb ⟨_,_,rfl,rfl⟩).elim
 exact Of hp hs h (this ▸ hw)
end
def wkA(sel:List Nat):List AV->List AV->Prop
 |[],[]=>True
 |x::xs,y::ys=>wk1 sel x y/\wkA sel xs ys
 |_,_=>False
theorem U8{w:World}{g:Gh}{sel:List Nat}{pr pr':Addr->Prop}(hp:∀a,pr a->pr' a)(hs:∀i∈sel,i<g.length):∀{vs:List Value} {xs ys:List AV},C4 w pr g vs xs->wkA sel xs ys->C4 w pr' (CG sel g) vs ys
 |[],[],[],_,_=>trivial
 |[],[],_::_,_,h=>h.elim
 |_::_,_::_,[],_,h=>h.elim
 |_::_,_::_,_::_,h,k=>⟨Oj hp hs h.1 k.1,U8 hp hs h.2 k.2⟩
theorem QB{Fin:Ending->World->(Addr->Prop)->Gh->Prop} (hcall:∀(F:Addr->Prop) (w:World) (g:Gh) (vs:Array Value),Mem (B.env F) w g σ1->C4 w (A3 (B.env F) g) g vs.toList args1 ->DoCall B.P f vs w (fun e w'=>∃g',Fin e w' (A3 (B.env F) g') g'/\Mem (B.env F) w' g' σ2/\Evo (B.env F) σ1.length w g w' g')) {O:Ac} {args:List AV} (sel:List Nat) (hnd:sel.Nodup) (hO:JI sel O sel σ1) (ha:wkA sel args args1) (hb:BU σ2=true) (F:Addr->Prop) {w:World} {g:Gh} {vs:Array Value} (hm:Mem (B.env F) w g O) (har:C4 w (A3 (B.env F) g) g vs.toList args) :DoCall B.P f vs w (fun e w'=>∃g' pr1 g1,Fin e w' pr1 g1/\(∀v r,Rep w' pr1 g1 v r->Rep w' (A3 (B.env F) g') g' v (SI sel O.length r)) /\Mem (B.env F) w' g' (M6 O sel (σ2.map (AcC sel O.length)))/\GLe g g'/\Evo (B.env F) 0 w g w' g'):=by
 obtain⟨hl,hget⟩:=Mi hO;have hlen:g.length=O.length:=hm.len
 have hs:∀i∈sel,i<g.length:=by
  intro i hi;obtain⟨id,hid,rfl⟩:=Ap3 hi;obtain⟨i',b,h1,h2,_⟩:=hget id (σ1[id]'(by omega)) (Ao9 _);rw[Ao9 hid]at h1;cases h1;rw[hlen];exact(Ao6.1 h2).1
 let F1:Addr->Prop:=fun a=>¬A3 (B.env F) g a/\¬Ft (CG sel g) a.block/\a.block<w.heap.size
 have p1:∀a,A3 (B.env F) g a->A3 (B.env F1) (CG sel g) a:=fun a hp=>⟨fun h=>h.1 hp,fun id b hb hβ=>by
  obtain⟨i,_,hi⟩:=(A5 hs).1 hb;exact hp.2 i b hi hβ⟩
 have hm1:Mem (B.env F1) w (CG sel g) σ1:=by
  refine⟨by simp[CG,hl],?_,?_,fun a ha=>⟨ha.2.2,ha.2.1⟩,?_,hm.maps,fun i vs h=>⟨fun hh=>(hm.whole i vs h).1 (DC hs hh),(hm.whole i vs h).2⟩⟩
  ·intro id b ab' h1 h2;obtain⟨i,ab,e1,e2,e3⟩:=hget id ab' h2;obtain⟨i',f1,f2⟩:=(A5 hs).1 h1;rw[e1]at f1;cases f1;have hk:=hm.blk i b ab f2 e2;cases ab with
   | box cs ro=>
    cases ab' with
    |buf=>exact e3.elim
    |obj=>exact e3.elim
    |mp=>exact e3.elim
    |lp=>exact e3.elim
    |gone=>exact e3.elim
    |tb=>exact e3.elim
    |box cs' ro'=>
     obtain⟨rfl,e4⟩:=e3;obtain⟨e5,e6⟩:=JN e4;obtain⟨k1,k2,k3,k4,k5,β,arr,t,fz,k6,k7,k8,k9,k10⟩:=hk;refine⟨k1,k2,k3,by omega,k5,β,arr,t,fz,k6,k7,by omega,k9,fun j y hj=>?_⟩;obtain⟨x,hx,hxy⟩:=e6 j y hj;exact⟨Of p1 hs (k10 j x hx).1 hxy,(k10 j x hx).2⟩
   | buf k els ro=>
    cases ab' with
    |box=>exact e3.elim
    |obj=>exact e3.elim
    |mp=>exact e3.elim
    |lp=>exact e3.elim
    |gone=>exact e3.elim
    |tb=>exact e3.elim
    |buf k' els' ro'=>
     obtain⟨rfl,rfl,rfl,e4⟩:=e3;obtain⟨k1,k2,k3,k4,k5,k6,k7⟩:=hk;refine⟨k1,k2,k3,k4,k5,k6,fun β hβ=>?_⟩;obtain⟨arr,t,fz,g1,g2,g3,g4,g5⟩:=k7 β hβ;refine⟨arr,t,fz,g1,g2,g3,g4,fun i cs j x hi hj=>⟨?_,(g5 i cs j x hi hj).2⟩⟩;have hcl:x.closed=true:=App.1 (App.1 e4 cs (Apg hi)) x (Apg hj);exact(Cj (g5 i cs j x hi hj).1 hcl).mono (fun a u hc hp=>⟨hc,p1 a hp⟩) (GLe.nil _)
   | mp st es=>
    cases ab' with
    |box=>exact e3.elim
    |buf=>exact e3.elim
    |obj=>exact e3.elim
    |tb=>exact e3.elim
    |lp=>exact e3.elim
    |gone=>exact e3.elim
    |mp st' es'=>
     obtain⟨rfl,rfl⟩:st=st'/\es=es':=e3;obtain⟨k1,kx,ky,β,arr,cl,k2,k3,k4,k5,k6⟩:=hk;refine⟨k1,kx,ky,β,arr,cl,k2,k3,k4,k5,fun j e hj=>?_⟩;obtain⟨k,x,q1,q2,q3⟩:=k6 j e hj;exact⟨k,x,q1,q2,q3.mono (fun a u hc hp=>⟨hc,p1 a hp⟩) (GLe.nil _)⟩
   | lp y N1 l1 ps as1 bd=>
    cases ab' with
    |box=>exact e3.elim
    |buf=>exact e3.elim
    |obj=>exact e3.elim
    |tb=>exact e3.elim
    |mp=>exact e3.elim
    |gone=>exact e3.elim
    |lp y' N2 l2 ps' as2 bd'=>
     obtain⟨rfl,rfl,rfl,rfl,rfl,e4⟩:=e3;obtain⟨k1,β,f,T,D,k2,k3,k4,k5⟩:=hk;refine⟨k1,β,f,T,D,k2,k3,k4,fun z hz=>?_⟩;obtain⟨x,hx,hx1,hxy⟩:=Re e4 z hz;rw[<-hx1];exact Oj p1 hs (k5 x hx) hxy
   |gone=>
    cases ab' with
    |box=>exact e3.elim
    |buf=>exact e3.elim
    |obj=>exact e3.elim
    |tb=>exact e3.elim
    |mp=>exact e3.elim
    |lp=>exact e3.elim
    |gone=>exact hk
   | obj o=>
    cases ab' with
    |box=>exact e3.elim
    |buf=>exact e3.elim
    |tb=>exact e3.elim
    |mp=>exact e3.elim
    |lp=>exact e3.elim
    |gone=>exact e3.elim
    |obj o'=>
     obtain rfl:o=o':=e3;exact hk
   | tb T l=>
    cases ab' with
    |box=>exact e3.elim
    |buf=>exact e3.elim
    |obj=>exact e3.elim
    |mp=>exact e3.elim
    |lp=>exact e3.elim
    |gone=>exact e3.elim
    |tb T' l'=>
     obtain⟨rfl,rfl⟩:=e3;exact X9 hk
  ·intro id id' b b' β h1 h2 e1 e2;obtain⟨i,f1,f2⟩:=(A5 hs).1 h1;obtain⟨i',f1',f2'⟩:=(A5 hs).1 h2;have:=hm.inj i i' b b' β f2 f2' e1 e2;subst this;obtain⟨l1,q1⟩:=Ao6.1 f1;obtain⟨l2,q2⟩:=Ao6.1 f1';exact Mo hnd l1 l2 (q1.trans q2.symm)
  intro i cs hG;obtain⟨q1,q2,q3,c,q4⟩:=hm.glob i cs hG;exact⟨q1,fun hh=>q2 (DC hs hh),fun j hj=>hj.1 (Bt (q3 j) q2),c,fun j x hj=>⟨(q4 j x hj).1,(q4 j x hj).2.1.mono (fun a u hc hp=>⟨hc,p1 a hp⟩) (GLe.nil _),(q4 j x hj).2.2⟩⟩
 refine(hcall F1 w (CG sel g) vs hm1 (U8 p1 hs har ha)).mono ?_;rintro e w' ⟨g1,hfin,hm2,he⟩;have hl1:g1.length=σ2.length:=hm2.len
 have hsl:sel.length<=g1.length:=by
  refine Nat.le_of_not_lt fun hlt=>?_
  have hgl:g1.length<(CG sel g).length:=by simpa [CG]using hlt
  obtain⟨b',hb',_⟩:=he.ids g1.length (by rw[<-hl];exact hlt) _ (Ao9 hgl);have:=(Ao6.1 hb').1;omega
 have hren:∀i,(M6 g sel g1)[Gv sel g.length i]?=g1[i]?:=Rm sel g g1 hnd hs hsl;have hsO:∀i∈sel,i<O.length:=fun i hi=>by rw[<-hlen];exact hs i hi
 have hren2:∀i,(M6 O sel (σ2.map (AcC sel O.length)))[Gv sel g.length i]?=(σ2.map (AcC sel O.length))[i]?:=fun i=>by
  rw[hlen];exact Rm sel O _ hnd hsO (by simpa [<-hl1]using hsl) i
 have hcls:∀j b,(M6 g sel g1)[j]?=some b->(j<g.length/\j ∉ sel/\g[j]?=some b)\/∃i,j=Gv sel g.length i/\g1[i]?=some b:=by
  intro j b hb;rcases T6 (sel:=sel) (N:=g.length) j with⟨h1,h2⟩|⟨i,rfl⟩
  ·rw[Hz sel g g1 j h1 h2]at hb;exact .inl ⟨h1,h2,hb⟩
  rw[hren i]at hb;exact .inr ⟨i,rfl,hb⟩
 have hmine:∀β,Ft (M6 g sel g1) β->Ft g β\/Ft g1 β:=by
  rintro β ⟨j,b,hb,hβ⟩;rcases hcls j b hb with⟨_,_,h3⟩|⟨i,_,h3⟩
  ·exact .inl ⟨j,b,h3,hβ⟩
  exact .inr ⟨i,b,h3,hβ⟩
 have hout:∀j b β,j ∉ sel->g[j]?=some b->b.blk=some β->¬Ft (CG sel g) β:=by
  rintro j b β hj hb hβ ⟨i,b',hb',hβ'⟩;obtain⟨i',h1,h2⟩:=(A5 hs).1 hb';have:=hm.inj j i' b b' β hb h2 hβ hβ';subst this;exact hj (Apg h1)
 have hP:∀a u,w'.cell? a=some u->A3 (B.env F1) g1 a->A3 (B.env F) (M6 g sel g1) a:=by
  intro a u hc hp;refine⟨fun hF=>hp.1 ⟨fun h=>h.1 hF,fun h=>(hm.foreign a hF).2 (DC hs h),(hm.foreign a hF).1⟩,fun id b hb hβ=>?_⟩;rcases hcls id b hb with⟨h1,h2,h3⟩|⟨i,_,h3⟩
  ·have hlt:=EG hm h3 hβ;have hnm:=hout id b a.block h2 h3 hβ;have:A3 (B.env F) g a:=ArP fun hn=>hp.1 ⟨hn,hnm,hlt⟩
   exact this.2 id b h3 hβ
  exact hp.2 i b h3 hβ
 have hQ:∀a u,w.cell? a=some u->A3 (B.env F) g a->w'.cell? a=some u/\A3 (B.env F) (M6 g sel g1) a:=by
  intro a u hc hp;obtain⟨h1,h2⟩:=he.cells a u hc (p1 a hp);exact⟨h1,hP a u h1 h2⟩
 have hle:GLe g (M6 g sel g1):=by
  intro id b hb;by_cases hi:id∈sel
  ·obtain⟨i,hil,rfl⟩:=Ap3 hi;obtain⟨b',hb',hst⟩:=he.ids i (by omega) b ((A5 hs).2 ⟨sel[i],Ao9 hil,hb⟩);refine⟨b',?_,hst⟩;have:=hren i;rw[Gv,Apb hil]at this;rw[<-hb',<-this];simp[Apt,hil]
  exact⟨b,by rw[Hz sel g g1 id (Ao6.1 hb).1 hi];exact hb,GB.step.refl b⟩
 have hgren:∀(i:Nat) (b:GB),g1[i]?=some b->(M6 g sel g1)[Gv sel O.length i]?=some b:=fun i b hb=>by rw[<-hlen,hren i];exact hb
 refine⟨M6 g sel g1,_,g1,hfin,fun v r hrep=>AdN hgren hP hrep,⟨?_,?_,?_,?_,?_,hm2.maps,fun i vs h=>⟨fun hh=>(hmine _ hh).elim (hm.whole i vs h).1 (hm2.whole i vs h).1,(hm2.whole i vs h).2⟩⟩,hle,⟨he.os,he.tape,he.output,he.size,hQ,?_,fun _ h=>absurd h (Ap0 _)⟩⟩
 ·rw[RU sel g g1 hsl,RU sel O _ (by simpa [<-hl1]using hsl),hlen,hl1];simp
 ·intro id b ab hb1 hab;rcases T6 (sel:=sel) (N:=g.length) id with⟨h1,h2⟩|⟨i,rfl⟩
  ·rw[Hz sel g g1 id h1 h2]at hb1;rw[Hz sel O _ id (by omega) h2]at hab;refine(hm.blk id b ab hb1 hab).mono hQ hle (fun β hβ=>?_);exact(he.blocks β (EG hm hb1 hβ) (hout id b β h2 hb1 hβ)).1
  rw[hren i]at hb1;rw[hren2 i,ApE,Ao5]at hab;obtain⟨ab1,hab1,rfl⟩:=hab;have hk:=hm2.blk i b ab1 hb1 hab1;cases ab1 with
  |box cs ro=>
   obtain⟨k1,k2,k3,k4,k5,β,arr,t,fz,k6,k7,k8,k9,k10⟩:=hk;refine⟨k1,k2,k3,by simpa using k4,k5,β,arr,t,fz,k6,k7,by simpa using k8,k9,fun j y hj=>?_⟩;rw[ApE,Ao5]at hj;obtain⟨x,hx,rfl⟩:=hj;exact⟨SE hgren hP (k10 j x hx).1,(k10 j x hx).2⟩
  |buf k els ro=>
   obtain⟨k1,k2,k3,k4,k5,k6,k7⟩:=hk;refine⟨k1,k2,k3,k4,k5,k6,fun β hβ=>?_⟩;obtain⟨arr,t,fz,g1',g2',g3',g4',g5'⟩:=k7 β hβ;refine⟨arr,t,fz,g1',g2',g3',g4',fun i' cs j x hi hj=>⟨?_,(g5' i' cs j x hi hj).2⟩⟩;have hec:=Db hb hab1;have hcl:x.closed=true:=App.1 (App.1 hec cs (Apg hi)) x (Apg hj);exact(Cj (g5' i' cs j x hi hj).1 hcl).mono (fun a u hc hp=>⟨hc,hP a u hc hp⟩) (GLe.nil _)
  |obj o=>exact hk
  |mp st es=>
   obtain⟨k1,kx,ky,β,arr,cl,k2,k3,k4,k5,k6⟩:=hk;refine⟨k1,kx,ky,β,arr,cl,k2,k3,k4,k5,fun j e hj=>?_⟩;obtain⟨k,x,q1,q2,q3⟩:=k6 j e hj;exact⟨k,x,q1,q2,q3.mono (fun a u hc hp=>⟨hc,hP a u hc hp⟩) (GLe.nil _)⟩
  |lp y N1 l1 ps as1 bd=>
   obtain⟨k1,β,f,T,D,k2,k3,k4,k5⟩:=hk;refine⟨k1,β,f,T,D,k2,k3,k4,fun z hz=>?_⟩;obtain⟨x,hx,rfl⟩:=Aqz.1 hz;exact Sm hgren hP (k5 x hx)
  |gone=>exact hk
  |tb T l=>exact X9 hk
 ·intro id id' b b' β h1 h2 e1 e2
  have cross:∀(j i:Nat) (c c':GB),j ∉ sel->g[j]?=some c->g1[i]?=some c'->c.blk=some β->c'.blk=some β->False:=by
   intro j i c c' hj hc hc' x1 x2;exact(he.blocks β (EG hm hc x1) (hout j c β hj hc x1)).2 ⟨i,c',hc',x2⟩
  rcases hcls id b h1 with⟨_,n1,f1⟩|⟨i,rfl,f1⟩
  ·rcases hcls id' b' h2 with⟨_,n2,f2⟩|⟨i',rfl,f2⟩
   ·exact hm.inj id id' b b' β f1 f2 e1 e2
   exact(cross id i' b b' n1 f1 f2 e1 e2).elim
  rcases hcls id' b' h2 with⟨_,n2,f2⟩|⟨i',rfl,f2⟩
  ·exact(cross id' i b' b n2 f2 f1 e2 e1).elim
  rw[hm2.inj i i' b b' β f1 f2 e1 e2]
 ·intro a ha';refine⟨AqH (hm.foreign a ha').1 he.size,fun hh=>?_⟩;rcases hmine _ hh with h|h
  ·exact(hm.foreign a ha').2 h
  exact(hm2.foreign a ⟨fun h=>h.1 ha',fun h=>(hm.foreign a ha').2 (DC hs h),(hm.foreign a ha').1⟩).2 h
 ·intro i cs hG;obtain⟨q1,q2,q3,_⟩:=hm.glob i cs hG;obtain⟨_,r2,_,c,r4⟩:=hm2.glob i cs hG;refine⟨AqH q1 he.size,fun hh=>?_,q3,c,fun j x hj=>⟨(r4 j x hj).1,(r4 j x hj).2.1.mono (fun a u hc hp=>⟨hc,hP a u hc hp⟩) (GLe.nil _),(r4 j x hj).2.2⟩⟩;rcases hmine _ hh with h|h
  ·exact q2 h
  exact r2 h
 intro β hβ hn;obtain⟨h1,h2⟩:=he.blocks β hβ (fun h=>hn (DC hs h));refine⟨h1,fun hh=>?_⟩;rcases hmine _ hh with h|h
 ·exact hn h
 exact h2 h
theorem YY{r1:AV}(hcon:Con B f args1 σ1 (fun r O'=>r=r1/\O'=σ2))(sel:List Nat)(hnd:sel.Nodup)(hO:JI sel O sel σ1) (ha:wkA sel args args1) (hb:BU σ2=true) (F:Addr->Prop):UD (B.env F) f args O (SI sel O.length r1) (M6 O sel (σ2.map (AcC sel O.length))):=by
 refine fun w g vs hm har=>?_
 refine(QB (Fin:=fun e w' pr g=>∃v,e=.returned v/\Rep w' pr g v r1) (fun F w g vs hm har=>(hcon.call F w g vs hm har).mono ?_) sel hnd hO ha hb F hm har).mono ?_
 ·rintro e w' ⟨v,r,O',g',h1,⟨rfl,rfl⟩,h3,h4,h5⟩;exact⟨g',⟨v,h1,h5⟩,h3,h4⟩
 rintro e w' ⟨g',pr1,g1,⟨v,h1,h5⟩,hrr,h3,h4,h6⟩;exact⟨v,g',h1,h3,h4,h6,hrr v _ h5⟩
theorem Tv{r1:AV}(hcon:Con B f args1 σ1 (fun r O'=>r=r1/\O'=σ2))(sel:List Nat)(hnd:sel.Nodup)(hO:JI sel O sel σ1) (ha:wkA sel args args1) (hb:BU σ2=true) {r:AV} {O':Ac} (hr:SI sel O.length r1=r) (hs:M6 O sel (σ2.map (AcC sel O.length))=O'):∀F:Addr->Prop,UD (B.env F) f args O r O':=by
 subst hr hs;exact YY hcon sel hnd hO ha hb
def nil0(N:Nat):AV->AV->Prop
 |.sl true [],.bs true id 0 0 0=>id=N
 |x,y=>x=y
def Ada(N:Nat):List AV->List AV->Prop
 |[],[]=>True
 |x::xs,y::ys=>nil0 N x y/\Ada N xs ys
 |_,_=>False
def nil1(N:Nat):AV->AV->Prop
 |.agg xs,.agg ys=>Ada N xs ys
 |x,y=>nil0 N x y
def nilA(N:Nat):List AV->List AV->Prop
 |[],[]=>True
 |x::xs,y::ys=>nil1 N x y/\nilA N xs ys
 |_,_=>False
def wk2(sel:List Nat):AV->AV->Prop
 |.tup xs,.tup ys=>wkA sel xs ys
 |x,y=>wk1 sel x y
def Aft(sel:List Nat)(r0:AV):Option (List AV)->Prop
 |some xs=>wk2 sel (Hf xs) r0
 |none=>False
def Adg(E:Env)(n:Nat)(rs:List ResultVar)(r0:AV)(σ0:Ac):CO:=fun ex st=>(ex=.normal\/ex=.ret)/\∃sel,Aft sel r0 (Fp E st.O st.fr rs)/\sel.Nodup/\sel.take n=List.range n/\JI sel st.O sel σ0
theorem RT{E:Env}{n N:Nat}{l:Fr}{σ0:Ac}{rs:List ResultVar}{r0:AV}{ex:Exit}(hex:ex=.normal\/ex=.ret)(sel:List Nat)(hnd:sel.Nodup)(hn:sel.take n=List.range n)(h:Aft sel r0 (UC E N l O rs))(hO:JI sel O sel σ0):Adg E n rs r0 σ0 ex ⟨Ai N l,O⟩ :=
 ⟨hex,sel,by rw[MV];exact h,hnd,hn,hO⟩
theorem AaV{sel:List Nat}:∀{xs ys:List AV},wkA sel xs ys->xs.length=ys.length/\∀(i:Nat) (y:AV),ys[i]?=some y->∃x,xs[i]?=some x/\wk1 sel x y
 |[],[],_=>⟨rfl,fun i y h=>by simp at h⟩
 |x::xs,y::ys,h=>by
  obtain⟨h1,h2⟩:=AaV h.2;refine⟨by simp[h1],fun i z hz=>?_⟩;cases i with
  |zero=>simp at hz;subst hz;exact⟨x,rfl,h.1⟩
  |succ i=>simpa using h2 i z (by simpa using hz)
theorem VE{w:World}{g:Gh}{sel:List Nat}{pr pr':Addr->Prop}(hp:∀a,pr a->pr' a)(hs:∀i∈sel,i<g.length)(h:Rep w pr g v x)(hw:wk2 sel x y):Rep w pr' (CG sel g) v y:=by
 unfold wk2 at hw;split at hw
 ·obtain⟨h1,h2⟩:=AaV hw;cases h with
  |tup _ vs _ hs' hr=>
   refine .tup _ vs _ (by omega) (fun i y hy=>?_);obtain⟨x,hx,hxy⟩:=h2 i y hy;exact Oj hp hs (hr i x hx) hxy
 exact Oj hp hs h hw
theorem Jz{E:Env}{w:World}{g:Gh}{O':Ac}{n:Nat}(hm:Mem E w g O)(sel:List Nat)(hnd:sel.Nodup)(hn:sel.take n=List.range n)(hO:JI sel O sel O') :(∀i∈sel,i<g.length)/\Mem E w (CG sel g) O'/\Evo E n w g w (CG sel g)/\∀a,A3 E g a->A3 E (CG sel g) a:=by
 have hw:=XB (E:=E) (n:=n) (N:=0) (l:=[]) (l':=[]) sel hnd hn hO trivial;obtain⟨hl,hget⟩:=Mi hO;have hlen:g.length=O.length:=hm.len
 have hs:∀i∈sel,i<g.length:=by
  intro i hi;obtain⟨id,hid,rfl⟩:=Ap3 hi;obtain⟨i',b,h1,h2,_⟩:=hget id (O'[id]'(by omega)) (Ao9 _);rw[Ao9 hid]at h1;cases h1;rw[hlen];exact(Ao6.1 h2).1
 refine⟨hs,⟨by simp[CG,hl],?_,?_,fun a ha=>⟨(hm.foreign a ha).1,fun hh=>(hm.foreign a ha).2 (DC hs hh)⟩,?_,hm.maps,fun i vs h=>⟨fun hh=>(hm.whole i vs h).1 (DC hs hh),(hm.whole i vs h).2⟩⟩,?_,fun a=>Gt hs⟩
 ·intro id b ab' h1 h2;obtain⟨i,ab,e1,e2,e3⟩:=hget id ab' h2;obtain⟨i',f1,f2⟩:=(A5 hs).1 h1;rw[e1]at f1;cases f1;have hk:=hm.blk i b ab f2 e2;cases ab with
  | box cs ro=>
   cases ab' with
   |buf=>exact e3.elim
   |obj=>exact e3.elim
   |mp=>exact e3.elim
   |lp=>exact e3.elim
   |gone=>exact e3.elim
   |tb=>exact e3.elim
   |box cs' ro'=>
    obtain⟨rfl,e4⟩:=e3;obtain⟨e5,e6⟩:=JN e4;obtain⟨k1,k2,k3,k4,k5,β,arr,t,fz,k6,k7,k8,k9,k10⟩:=hk;refine⟨k1,k2,k3,by omega,k5,β,arr,t,fz,k6,k7,by omega,k9,fun j y hj=>?_⟩;obtain⟨x,hx,hxy⟩:=e6 j y hj;exact⟨Pp hs (k10 j x hx).1 hxy,(k10 j x hx).2⟩
  | buf k els ro=>
   cases ab' with
   |box=>exact e3.elim
   |obj=>exact e3.elim
   |mp=>exact e3.elim
   |lp=>exact e3.elim
   |gone=>exact e3.elim
   |tb=>exact e3.elim
   |buf k' els' ro'=>
    obtain⟨rfl,rfl,rfl,e4⟩:=e3;obtain⟨k1,k2,k3,k4,k5,k6,k7⟩:=hk;refine⟨k1,k2,k3,k4,k5,k6,fun β hβ=>?_⟩;obtain⟨arr,t,fz,g1,g2,g3,g4,g5⟩:=k7 β hβ;refine⟨arr,t,fz,g1,g2,g3,g4,fun i cs j x hi hj=>⟨?_,(g5 i cs j x hi hj).2⟩⟩;have hcl:x.closed=true:=App.1 (App.1 e4 cs (Apg hi)) x (Apg hj);exact(Cj (g5 i cs j x hi hj).1 hcl).mono (fun a u hc hp=>⟨hc,Gt hs hp⟩) (GLe.nil _)
  | mp st es=>
   cases ab' with
   |box=>exact e3.elim
   |buf=>exact e3.elim
   |obj=>exact e3.elim
   |tb=>exact e3.elim
   |lp=>exact e3.elim
   |gone=>exact e3.elim
   |mp st' es'=>
    obtain⟨rfl,rfl⟩:st=st'/\es=es':=e3;obtain⟨k1,kx,ky,β,arr,cl,k2,k3,k4,k5,k6⟩:=hk;refine⟨k1,kx,ky,β,arr,cl,k2,k3,k4,k5,fun j e hj=>?_⟩;obtain⟨k,x,q1,q2,q3⟩:=k6 j e hj;exact⟨k,x,q1,q2,q3.mono (fun a u hc hp=>⟨hc,Gt hs hp⟩) (GLe.nil _)⟩
  | lp y N1 l1 ps as1 bd=>
   cases ab' with
   |box=>exact e3.elim
   |buf=>exact e3.elim
   |obj=>exact e3.elim
   |tb=>exact e3.elim
   |mp=>exact e3.elim
   |gone=>exact e3.elim
   |lp y' N2 l2 ps' as2 bd'=>
    obtain⟨rfl,rfl,rfl,rfl,rfl,e4⟩:=e3;obtain⟨k1,β,f,T,D,k2,k3,k4,k5⟩:=hk;refine⟨k1,β,f,T,D,k2,k3,k4,fun z hz=>?_⟩;obtain⟨x,hx,hx1,hxy⟩:=Re e4 z hz;rw[<-hx1];exact R7 hs (k5 x hx) hxy
  |gone=>
   cases ab' with
   |box=>exact e3.elim
   |buf=>exact e3.elim
   |obj=>exact e3.elim
   |tb=>exact e3.elim
   |mp=>exact e3.elim
   |lp=>exact e3.elim
   |gone=>exact hk
  | obj o=>
   cases ab' with
   |box=>exact e3.elim
   |buf=>exact e3.elim
   |tb=>exact e3.elim
   |mp=>exact e3.elim
   |lp=>exact e3.elim
   |gone=>exact e3.elim
   |obj o'=>
    obtain rfl:o=o':=e3;exact hk
  | tb T l=>
   cases ab' with
   |box=>exact e3.elim
   |buf=>exact e3.elim
   |obj=>exact e3.elim
   |mp=>exact e3.elim
   |lp=>exact e3.elim
   |gone=>exact e3.elim
   |tb T' l'=>
    obtain⟨rfl,rfl⟩:=e3;exact X9 hk
 ·intro id id' b b' β h1 h2 e1 e2;obtain⟨i,f1,f2⟩:=(A5 hs).1 h1;obtain⟨i',f1',f2'⟩:=(A5 hs).1 h2;have:=hm.inj i i' b b' β f2 f2' e1 e2;subst this;obtain⟨l1,q1⟩:=Ao6.1 f1;obtain⟨l2,q2⟩:=Ao6.1 f1';exact Mo hnd l1 l2 (q1.trans q2.symm)
 ·intro i cs hG;obtain⟨q1,q2,q3,c,q4⟩:=hm.glob i cs hG;exact⟨q1,fun hh=>q2 (DC hs hh),q3,c,fun j x hj=>⟨(q4 j x hj).1,(q4 j x hj).2.1.mono (fun a u hc hp=>⟨hc,Gt hs hp⟩) (GLe.nil _),(q4 j x hj).2.2⟩⟩
 refine⟨rfl,rfl,rfl,Apm _,fun a u hc hp=>⟨hc,Gt hs hp⟩,fun β _ hn'=>⟨rfl,fun hh=>hn' (DC hs hh)⟩,fun id hid b hb=>⟨b,(A5 hs).2 ⟨id,?_,hb⟩,GB.step.refl b⟩⟩;have:(sel.take n)[id]?=some id:=by rw[hn,Aq0 hid]
 rw[ApK,Apb hid]at this;exact this
theorem HU{fn:Func}{c:Code}{σ0:Ac}{r0:AV}{rs:List ResultVar}{N:Nat}(n:Nat)(hn0:O.length=n)(hB:B.Ok)(hf:B.P.funcs[f]?=some fn)(hb:fn.body=some c)(hn:(fn.name == "runtime.NumGoroutine")=false) (hN:fn.ntmps=N) (hrs:fn.results.toList=rs) (hlen:args.length<=N) (h:∀F:Addr->Prop,Run (B.env F) n c ⟨Ai N (Nx 0 args),O⟩ (Adg (B.env F) n rs r0 σ0)):Con B f args O (fun r' O'=>r'=r0/\O'=σ0):=by
 subst hn0
 have h0:Con B f args O (fun r O'=>∃sel:List Nat,wk2 sel r r0/\sel.Nodup/\sel.take O.length=List.range O.length/\JI sel O' sel σ0):=by
  refine AbR hB hf hb hn (fun F=>?_);subst hN hrs;rw[GD fn.ntmps args hlen (Nx 0 args) (fun t _=>GW args 0 t (Apz _))];refine Ie (h F) ?_;rintro ex st ⟨h1,sel,h2,h3,h4,h5⟩;unfold Aft at h2;split at h2
  ·rename_i xs hxs;exact⟨h1,xs,hxs,sel,h2,h3,h4,h5⟩
  exact h2.elim
 refine⟨fun F w g vs hm ha=>(h0.call F w g vs hm ha).mono ?_⟩;rintro e w' ⟨v,r,O',g',h1,⟨sel,k1,k2,k3,k4⟩,h3,h4,h5⟩;obtain⟨s1,s2,s3,s4⟩:=Jz h3 sel k2 k3 k4;exact⟨v,r0,σ0,CG sel g',h1,⟨rfl,rfl⟩,s2,h4.trans s3,VE s4 s1 h5 k1⟩
theorem Ad2{N:Nat}{xs ys:List AV}:nil1 N (.agg xs) (.agg ys)=Ada N xs ys:=rfl
section
variable {sel:List Nat}{N:Nat}
theorem Sv(x:Int):MG sel N (i64 x:AV)=(i64 x:AV):=by
 show(match(i64 x:AV).closed with|true=>(i64 x:AV)|false=>.junk)=_;rw[closed_i64]
theorem AeJ(x:Int):Wq sel N (i64 x:AV)=(i64 x:AV):=Sv (sel:=sel) (N:=N) x
theorem AeQ(x:Int):SI sel N (i64 x:AV)=(i64 x:AV):=Sv (sel:=sel) (N:=N) x
theorem O5(b:Bool):MG sel N (.bool b:AV)=(.bool b:AV):=by
 show(match(.bool b:AV).closed with|true=>(.bool b:AV)|false=>.junk)=_;rw[closed_bool]
theorem Aai(b:Bool):Wq sel N (.bool b:AV)=(.bool b:AV):=O5 (sel:=sel) (N:=N) b
theorem Abq(b:Bool):SI sel N (.bool b:AV)=(.bool b:AV):=O5 (sel:=sel) (N:=N) b
theorem WU(s:List UInt8):MG sel N (.str s:AV)=(.str s:AV):=by
 show(match(.str s:AV).closed with|true=>(.str s:AV)|false=>.junk)=_;rw[closed_str]
theorem AcY(s:List UInt8):SI sel N (.str s:AV)=(.str s:AV):=WU (sel:=sel) (N:=N) s
theorem Ag6(f:Bool)(els:List (List AV)):MG sel N (.sl f els:AV)=(.sl f els:AV):=by
 show(match(.sl f els:AV).closed with|true=>(.sl f els:AV)|false=>.junk)=_;rw[closed_sl]
theorem Ahz(f:Bool)(id t o l:Nat):MG sel N (.bs f id t o l)=.bs f (Gv sel N id) t o l:=rfl
theorem Ad8(id o:Nat):MG sel N (.ref id o)=.ref (Gv sel N id) o:=rfl
theorem AbJ(id:Nat):MG sel N (.mref id)=.mref (Gv sel N id):=rfl
theorem AaI(id:Nat):MG sel N (.nref id)=.nref (Gv sel N id):=rfl
theorem ZW(id:Nat):Wq sel N (.mref id)=.mref (Gv sel N id):=rfl
theorem Abt(id:Nat):Wq sel N (.nref id)=.nref (Gv sel N id):=rfl
theorem Acm(id t:Nat):MG sel N (.tref id t)=.tref (Gv sel N id) t:=rfl
theorem ZH(id t:Nat):Wq sel N (.tref id t)=.tref (Gv sel N id) t:=rfl
theorem Ace(id t:Nat):SI sel N (.tref id t)=.tref (Gv sel N id) t:=rfl
theorem ZL(id t i j:Nat):MG sel N (.eref id t i j)=.eref (Gv sel N id) t i j:=rfl
theorem Ahg(f:Bool)(id t o l:Nat):Wq sel N (.bs f id t o l)=.bs f (Gv sel N id) t o l:=rfl
theorem Aer(id o:Nat):Wq sel N (.ref id o)=.ref (Gv sel N id) o:=rfl
theorem Ab6(id t i j:Nat):Wq sel N (.eref id t i j)=.eref (Gv sel N id) t i j:=rfl
theorem Agx(f:Bool)(id t o l:Nat):SI sel N (.bs f id t o l)=.bs f (Gv sel N id) t o l:=rfl
theorem Ae6(id o:Nat):SI sel N (.ref id o)=.ref (Gv sel N id) o:=rfl
theorem AcE(id t i j:Nat):SI sel N (.eref id t i j)=.eref (Gv sel N id) t i j:=rfl
theorem Adf(xs:List AV):Wq sel N (.agg xs)=.agg (xs.map (MG sel N)):=rfl
theorem Ad6(xs:List AV):SI sel N (.agg xs)=.agg (xs.map (MG sel N)):=rfl
theorem AeB(xs:List AV):SI sel N (.tup xs)=.tup (xs.map (Wq sel N)):=rfl
end
attribute [go_sem] Aft wk2 wkA nilA Ad2 Ada AbJ ZW AaI Abt Acm ZH Ace Sv AeJ AeQ O5 Aai Abq WU AcY Ag6 Ahz Ad8 ZL Ahg Aer Ab6 Agx Ae6 AcE Adf Ad6 AeB AcC Gv M6 BU List.getD_cons_zero List.getD_cons_succ
end Go.Rv
