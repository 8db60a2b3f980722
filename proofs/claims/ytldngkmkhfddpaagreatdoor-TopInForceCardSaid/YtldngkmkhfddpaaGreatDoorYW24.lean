/-
  Part 24.
-/
import Derived.Test.YtldngkmkhfddpaaGreatDoorYW23
namespace Go.Rv
set_option linter.unusedVariables false
set_option linter.unusedSimpArgs false
variable{v:Value}{x y:AV}{B:Base}{f:FuncId}{args1 args:List AV}{σ1 σ2 O:Ac}
def Ni{α:Type}:List α->List Nat->List α->List α
 |l,i::sel,b::bs=>Ni (l.set i b) sel bs
 |l,[],bs=>l++bs
 |l,_::_,[]=>l
def G6(sel:List Nat)(N i:Nat):Nat:=if i<sel.length then sel.getD i 0 else N+(i-sel.length)
theorem Sv{α:Type}:∀(sel:List Nat) (l bs:List α),sel.length<=bs.length->(Ni l sel bs).length=l.length+(bs.length-sel.length)
 |[],l,bs,_=>by simp[Ni]
 |i::sel,l,[],h=>by simp at h
 |i::sel,l,b::bs,h=>by
  rw[Ni,Sv sel _ bs (by simpa using h)];simp
theorem HD{α:Type}:∀(sel:List Nat) (l bs:List α) (j:Nat),j<l.length->j ∉ sel->(Ni l sel bs)[j]?=l[j]?
 |[],l,bs,j,hj,_=>by rw[Ni,AqN hj]
 |i::sel,l,[],j,hj,_=>rfl
 |i::sel,l,b::bs,j,hj,hn=>by
  rw[Ni,HD sel _ bs j (by simpa using hj) (fun h=>hn (Arn _ h)),ArC];intro e;exact hn (by rw[e];exact Aq4)
theorem SL{α:Type}:∀(sel:List Nat) (l bs:List α),sel.Nodup->(∀i∈sel,i<l.length)->sel.length<=bs.length->∀i,(Ni l sel bs)[G6 sel l.length i]?=bs[i]?
 |[],l,bs,_,_,_,i=>by
  have e:G6 [] l.length i=l.length+i:=by simp[G6]
  rw[e,Ni,AqL (by omega)];congr 1;omega
 |i0::sel,l,[],_,_,h,i=>by simp at h
 | i0::sel,l,b::bs,hnd,hs,h,i=>by
  have h':sel.length<=bs.length:=by simpa using h
  have hnd':=Atd.1 hnd;have hs':∀i∈sel,i<(l.set i0 b).length:=fun i hi=>by simpa using hs i (Arn _ hi)
  rw[Ni];cases i with
  |zero=>
   have e:G6 (i0::sel) l.length 0=i0:=by simp[G6]
   have hi0:=hs i0 Aq4;rw[e,HD sel _ bs i0 (by simpa using hi0) hnd'.1,ArP hi0];rfl
  | succ i=>
   have e:G6 (i0::sel) l.length (i+1)=G6 sel (l.set i0 b).length i:=by
    unfold G6;simp only[AqP,Asj];by_cases hi:i<sel.length
    ·rw[AqJ (by omega),AqJ hi];rfl
    rw[AqI (by omega),AqI hi];congr 1;omega
   rw[e,SL sel _ bs hnd'.2 hs' h' i];rfl
theorem Uv{sel:List Nat}{N:Nat}(j:Nat):(j<N/\j ∉ sel)\/∃i,j=G6 sel N i:=by
 by_cases hj:j∈sel
 ·right;obtain⟨i,hi,rfl⟩:=ArA hj;exact⟨i,by rw[G6,AqJ hi];simp[AqY,hi]⟩
 by_cases hN:j<N
 ·exact .inl ⟨hN,hj⟩
 right;exact⟨sel.length+(j-N),by rw[G6,AqI (by omega)];omega⟩
def Nw(sel:List Nat)(N:Nat):AV->AV
 |.fn f [.ref id o]=>.fn f [.ref (G6 sel N id) o]
 |.fn f [.ref id o,.ref jd p]=>.fn f [.ref (G6 sel N id) o,.ref (G6 sel N jd) p]
 |.bs f id t o l=>.bs f (G6 sel N id) t o l
 |.ref id o=>.ref (G6 sel N id) o
 |.tref id t=>.tref (G6 sel N id) t
 |.mref id=>.mref (G6 sel N id)
 |.yld id=>.yld (G6 sel N id)
 |.nref id=>.nref (G6 sel N id)
 |.eref id t i j=>.eref (G6 sel N id) t i j
 |x=>match x.closed with
  |true=>x
  |false=>.junk
def Xn(sel:List Nat)(N:Nat):AV->AV
 |.agg xs=>.agg (xs.map (Nw sel N))
 |x=>Nw sel N x
def T5(sel:List Nat)(N:Nat):AV->AV
 |.tup xs=>.tup (xs.map (Xn sel N))
 |x=>Xn sel N x
def AcH(sel:List Nat)(N:Nat):ABlk->ABlk
 |.box cs ro=>.box (cs.map (Nw sel N)) ro
 |.buf k els ro=>.buf k els ro
 |.obj o=>.obj o
 |.tb T l=>.tb T l
 |.mp st es=>.mp st es
 |.lp y M l ps a b=>.lp y M (l.map fun p=>(p.1,Xn sel N p.2)) ps a b
 |.gone=>.gone
def Cn:Ac->Bool
 |[]=>true
 |.box _ _::O=>Cn O
 |.buf _ els _::O=>DH els&&Cn O
 |.obj _::O=>Cn O
 |.tb _ _::O=>Cn O
 |.mp _ _::O=>Cn O
 |.lp _ _ _ _ _ _::O=>Cn O
 |.gone::O=>Cn O
theorem Dn:∀{O:Ac} {i k:Nat} {els:List (List AV)} {ro:Bool},Cn O=true->O[i]?=some (.buf k els ro)->DH els=true
 |[],i,k,els,ro,_,h=>by simp at h
 |.box _ _::O,0,k,els,ro,_,h=>by simp at h
 |.obj _::O,0,k,els,ro,_,h=>by simp at h
 |.tb _ _::O,0,k,els,ro,_,h=>by simp at h
 |.mp _ _::O,0,k,els,ro,_,h=>by simp at h
 |.lp _ _ _ _ _ _::O,0,k,els,ro,_,h=>by simp at h
 |.gone::O,0,k,els,ro,_,h=>by simp at h
 |.buf _ els' _::O,0,k,els,ro,hc,h=>by
  simp at h;obtain⟨_,rfl,_⟩:=h;exact(Ata.1 hc).1
 |.box _ _::O,i+1,k,els,ro,hc,h=>Dn (O:=O) hc (by simpa using h)
 |.obj _::O,i+1,k,els,ro,hc,h=>Dn (O:=O) hc (by simpa using h)
 |.tb _ _::O,i+1,k,els,ro,hc,h=>Dn (O:=O) hc (by simpa using h)
 |.mp _ _::O,i+1,k,els,ro,hc,h=>Dn (O:=O) hc (by simpa using h)
 |.lp _ _ _ _ _ _::O,i+1,k,els,ro,hc,h=>Dn (O:=O) hc (by simpa using h)
 |.gone::O,i+1,k,els,ro,hc,h=>Dn (O:=O) hc (by simpa using h)
 |.buf _ _ _::O,i+1,k,els,ro,hc,h=>Dn (O:=O) (Ata.1 hc).2 (by simpa using h)
section
variable {w:World}{pr pr':Addr->Prop}{g1 g:Gh}{sel:List Nat}{N:Nat}
theorem N7{id o:Nat}(h:Rep w pr g1 v (.ref id o)):∃(β:Nat) (b:GB),g1[id]?=some b/\b.isBox=true/\b.blk=some β/\v=.pointer (some ⟨β,o,none⟩):=by
 cases h with
 |ref _ _ _ β b hb hx hβ=>exact⟨β,b,hb,hx,hβ,rfl⟩
theorem S1(hg:∀(i:Nat) (b:GB),g1[i]?=some b->g[G6 sel N i]?=some b)(hp:∀a u,w.cell? a=some u->pr a->pr' a)(h:Rep w pr g1 v x):Rep w pr' g v (Nw sel N x):=by
 have hcl:x.closed=true->Rep w pr' g v x:=fun hc=>(C7 h hc).mono (fun a u hcc hpr=>⟨hcc,hp a u hcc hpr⟩) (GLe.nil _)
 have hgen:Rep w pr' g v (match x.closed with
  |true=>x
  |false=>.junk):=by
  cases hc:x.closed with
  |true=>exact hcl hc
  |false=>exact .junk _ _
 cases x with
 |bs f id t o l=>
  cases h with
  |bs _ _ _ _ _ _ _ b hb hx ht h ho=>exact .bs _ _ _ _ _ _ _ b (hg _ _ hb) hx ht h ho
 |ref id o=>
  cases h with
  |ref _ _ _ β b hb hx hβ=>exact .ref _ _ _ β b (hg _ _ hb) hx hβ
 |tref id t=>
  cases h with
  |tref _ _ _ β b hb hx hβ ht=>exact .tref _ _ _ β b (hg _ _ hb) hx hβ ht
 |mref id=>
  cases h with
  |mref _ _ β b hb hx hβ=>exact .mref _ _ β b (hg _ _ hb) hx hβ
 |yld id=>
  cases h with
  |yld _ _ β b hb hx hβ=>exact .yld _ _ β b (hg _ _ hb) hx hβ
 |nref id=>
  cases h with
  |nref _ _ _ b hb hx h=>exact .nref _ _ _ b (hg _ _ hb) hx h
 |eref id t i j=>
  cases h with
  |eref _ _ _ _ _ _ b hb hx ht h ho=>exact .eref _ _ _ _ _ _ b (hg _ _ hb) hx ht h ho
 | fn f xs=>
  rcases xs with _|⟨x,_|⟨y,l⟩⟩
  ·exact hgen
  ·cases x with
   | ref id o=>
    cases h with
    | fn _ _ caps _ hs hr hn=>
     refine .fn _ _ caps _ (by simpa using hs) (fun i x hx=>?_) (fun ys e=>by cases e)
     have hi:i=0:=by
      have:=(AqD.1 hx).1;simpa using this
     subst hi;have hx':x=.ref (G6 sel N id) o:=by simpa using hx.symm
     subst hx';obtain⟨β,b,hb,hxb,hβ,hv⟩:=N7 (hr 0 (.ref id o) rfl);rw[hv];exact .ref _ _ _ β b (hg _ _ hb) hxb hβ
   |_=>exact hgen
  rcases l with _|⟨z,l⟩
  ·cases x with
   | ref id o=>
    cases y with
    | ref jd p=>
     cases h with
     | fn _ _ caps _ hs hr hn=>
      refine .fn _ _ caps _ (by simpa using hs) (fun i x hx=>?_) (fun ys e=>by cases e)
      have hi:i<2:=by
       have:=(AqD.1 hx).1;simpa using this
      match i,hi with
      |0,_=>
       have hx':x=.ref (G6 sel N id) o:=by simpa using hx.symm
       subst hx';obtain⟨β,b,hb,hxb,hβ,hv⟩:=N7 (hr 0 (.ref id o) rfl);rw[hv];exact .ref _ _ _ β b (hg _ _ hb) hxb hβ
      |1,_=>
       have hx':x=.ref (G6 sel N jd) p:=by simpa using hx.symm
       subst hx';obtain⟨β,b,hb,hxb,hβ,hv⟩:=N7 (hr 1 (.ref jd p) rfl);rw[hv];exact .ref _ _ _ β b (hg _ _ hb) hxb hβ
    |_=>exact hgen
   |_=>cases y<;>exact hgen
  cases x<;>cases y<;>exact hgen
 |_=>exact hgen
theorem Ty(hg:∀(i:Nat) (b:GB),g1[i]?=some b->g[G6 sel N i]?=some b)(hp:∀a u,w.cell? a=some u->pr a->pr' a)(h:Rep w pr g1 v x):Rep w pr' g v (Xn sel N x):=by
 cases x with
 | agg xs=>
  cases h with
  | agg _ vs _ hs ho hr=>
   refine .agg _ vs _ (by simpa using hs) (fun i y hy=>?_) (fun i y hy=>?_)
   ·rw[Aq8,AqE]at hy;obtain⟨x,hx,_⟩:=hy;exact ho i x hx
   rw[Aq8,AqE]at hy;obtain⟨x,hx,rfl⟩:=hy;exact S1 hg hp (hr i x hx)
 |_=>exact S1 hg hp h
theorem Ae4(hg:∀(i:Nat) (b:GB),g1[i]?=some b->g[G6 sel N i]?=some b)(hp:∀a u,w.cell? a=some u->pr a->pr' a)(h:Rep w pr g1 v x):Rep w pr' g v (T5 sel N x):=by
 cases x with
 | tup xs=>
  cases h with
  |tup _ vs _ hs hr=>
   refine .tup _ vs _ (by simpa using hs) (fun i y hy=>?_);rw[Aq8,AqE]at hy;obtain⟨x,hx,rfl⟩:=hy;exact Ty hg hp (hr i x hx)
 |_=>exact Ty hg hp h
end
section
variable {w:World}{g:Gh}{sel:List Nat}{pr pr':Addr->Prop}
theorem OM(hp:∀a,pr a->pr' a)(hs:∀i∈sel,i<g.length)(h:Rep w pr g v x)(hw:wk0 sel x y):Rep w pr' (CP sel g) v y:=by
 have hcl:∀{z:AV},Rep w pr g v z->z.closed=true->Rep w pr' (CP sel g) v z:=fun h1 h2=>
  (C7 h1 h2).mono (fun a u hc hpr=>⟨hc,hp a hpr⟩) (GLe.nil _)
 by_cases hj:y=.junk
 ·subst hj;exact .junk _ _
 cases x<;>cases y<;>first
  |exact(hj rfl).elim
  |(simp only[wk0]at hw;exfalso;have h1:=hw.1;cases h1;done)
  |(simp only[wk0]at hw;obtain⟨e,hc⟩:=hw;rw[<-e]at hc ⊢;exact hcl h hc;done)
  |skip
 case bs.bs f i t o l f' id t' o' l'=>
  simp only[wk0]at hw;obtain⟨h1,h2,rfl,rfl,rfl⟩:=hw;cases h with
  |bs _ _ _ _ _ _ _ b hb hx ht h ho=>
   refine .bs _ _ _ _ _ _ _ b ((A8 hs).2 ⟨i,h1,hb⟩) hx ht (fun e=>?_) ho;obtain⟨a,cap,q1,q2,q3,q4,q5⟩:=h e;exact⟨a,cap,q1,q2,fun e=>q3 (h2 e),q4,q5⟩
 case ref.ref i o id o'=>
  simp only[wk0]at hw;obtain⟨h1,rfl⟩:=hw;cases h with
  |ref _ _ _ β b hb hx hβ=>exact .ref _ _ _ β b ((A8 hs).2 ⟨i,h1,hb⟩) hx hβ
 case tref.tref i t id t'=>
  simp only[wk0]at hw;obtain⟨h1,rfl⟩:=hw;cases h with
  |tref _ _ _ β b hb hx hβ ht=>exact .tref _ _ _ β b ((A8 hs).2 ⟨i,h1,hb⟩) hx hβ ht
 case mref.mref i id=>
  simp only[wk0]at hw;cases h with
  |mref _ _ β b hb hx hβ=>exact .mref _ _ β b ((A8 hs).2 ⟨i,hw,hb⟩) hx hβ
 case yld.yld i id=>
  simp only[wk0]at hw;cases h with
  |yld _ _ β b hb hx hβ=>exact .yld _ _ β b ((A8 hs).2 ⟨i,hw,hb⟩) hx hβ
 case nref.nref i id=>
  simp only[wk0]at hw;cases h with
  |nref _ _ _ b hb hx h=>exact .nref _ _ _ b ((A8 hs).2 ⟨i,hw,hb⟩) hx h
 case eref.eref i t a b id t' a' b2=>
  simp only[wk0]at hw;obtain⟨h1,rfl,rfl,rfl⟩:=hw;cases h with
  |eref _ _ _ _ _ _ b hb hx ht h ho=>exact .eref _ _ _ _ _ _ b ((A8 hs).2 ⟨i,h1,hb⟩) hx ht h ho
 case sl.sl f els f' els'=>
  simp only[wk0]at hw;obtain⟨h1,rfl⟩:=hw
  have:Rep w pr g v (.sl f' els):=by
   cases h with
   |sl _ a len cap _ _ k c hlen hcap hfull hnone hk hc hr=>exact .sl _ a len cap f' els k c hlen hcap (fun e=>hfull (h1 e)) hnone hk hc hr
  exact hcl this (by simp[AV.closed])
 case fn.fn f cs f' cs'=>
  simp only[wk0]at hw;rcases hw with⟨e,hc⟩|⟨rfl,hw⟩|⟨rfl,hw⟩
  ·rw[<-e]at hc ⊢;exact hcl h hc
  rotate_left
  ·unfold wkB at hw;split at hw
   case h_2=>exact hw.elim
   obtain⟨h1,rfl⟩:=hw;cases h with
   |fn _ _ caps _ hsz hr hn=>exact absurd rfl (hn _)
   | fnb _ _ fs _ hsz hr=>
    refine .fnb _ _ fs _ hsz (fun j y hy=>?_)
    match j,hy with
    |0,hy=>
     cases hy;have h3:=hr 0 _ rfl;generalize fs.getD 0 undef=u at h3 ⊢;cases h3 with
     |ref _ _ _ β b hb hx hβ=>exact .ref _ _ _ β b ((A8 hs).2 ⟨_,h1,hb⟩) hx hβ
  obtain⟨l1,l2⟩:=S5 hw
  have hnt:∀ys,cs'≠[.tup ys]:=by
   rintro ys rfl;obtain⟨x,_,hx⟩:=l2 0 _ rfl;exact MU hx ys rfl
  have conv:∀{u:Value} {x y:AV},Rep w (pr) g u x->wkc sel x y->Rep w (pr') (CP sel g) u y:=by
   intro u x y hr hxy;rcases Mz hxy with⟨i,o,id,rfl,rfl,h1⟩|⟨i,o,id,rfl,rfl,h1⟩|⟨rfl,hc⟩
   ·cases hr with
    |ref _ _ _ β b hb hx hβ=>exact .ref _ _ _ β b ((A8 hs).2 ⟨i,h1,hb⟩) hx hβ
   ·cases hr with
    |tref _ _ _ β b hb hx hβ ht=>exact .tref _ _ _ β b ((A8 hs).2 ⟨i,h1,hb⟩) hx hβ ht
   exact(C7 hr hc).mono (fun a u hc hpr=>⟨hc,hp a hpr⟩) (GLe.nil _)
  cases h with
  |fn _ _ caps _ hsz hr hn=>
   refine .fn _ _ caps cs' (by omega) (fun i y hy=>?_) hnt;obtain⟨x,hx,hxy⟩:=l2 i y hy;exact conv (hr i x hx) hxy
  | fnb _ _ fs xs hsz hr=>
   exfalso
   match cs',hw with
   |[y],hw=>
    obtain⟨hy,_⟩:=hw;rcases Mz hy with⟨i,o,id,h1,_⟩|⟨i,o,id,h1,_⟩|⟨h1,_⟩
    ·cases h1
    ·cases h1
    exact MU hy _ h1.symm
theorem OB(hp:∀a,pr a->pr' a)(hs:∀i∈sel,i<g.length)(h:Rep w pr g v x)(hw:wk1 sel x y):Rep w pr' (CP sel g) v y:=by
 by_cases ha:∃xs ys,x=.agg xs/\y=.agg ys
 ·obtain⟨xs,ys,rfl,rfl⟩:=ha;simp only[wk1]at hw;obtain⟨h1,h2⟩:=Kt hw;cases h with
  |agg _ vs _ hs' ho hr=>
   refine .agg _ vs ys (by omega) (fun i y hy=>?_) (fun i y hy=>?_)
   ·obtain⟨x,hx,_⟩:=h2 i y hy;exact ho i x hx
   obtain⟨x,hx,hxy⟩:=h2 i y hy;exact OM hp hs (hr i x hx) hxy
 by_cases hb:∃xs ys,x=.tup xs/\y=.tup ys
 ·obtain⟨xs,ys,rfl,rfl⟩:=hb;simp only[wk1]at hw;obtain⟨h1,h2⟩:=Kt hw;cases h with
  |tup _ vs _ hs' hr=>
   refine .tup _ vs ys (by omega) (fun i y hy=>?_);obtain⟨x,hx,hxy⟩:=h2 i y hy;exact OM hp hs (hr i x hx) hxy
 have:wk1 sel x y=wk0 sel x y:=by
  cases x<;>cases y<;>first
   |rfl
   |exact(ha ⟨_,_,rfl,rfl⟩).elim
   |exact(hb ⟨_,_,rfl,rfl⟩).elim
 exact OM hp hs h (this ▸ hw)
end
def wkA(sel:List Nat):List AV->List AV->Prop
 |[],[]=>True
 |x::xs,y::ys=>wk1 sel x y/\wkA sel xs ys
 |_,_=>False
theorem TN{w:World}{g:Gh}{sel:List Nat}{pr pr':Addr->Prop}(hp:∀a,pr a->pr' a)(hs:∀i∈sel,i<g.length):∀{vs:List Value} {xs ys:List AV},Cj w pr g vs xs->wkA sel xs ys->Cj w pr' (CP sel g) vs ys
 |[],[],[],_,_=>trivial
 |[],[],_::_,_,h=>h.elim
 |_::_,_::_,[],_,h=>h.elim
 |_::_,_::_,_::_,h,k=>⟨OB hp hs h.1 k.1,TN hp hs h.2 k.2⟩
theorem Rs{Fin:Ending->World->(Addr->Prop)->Gh->Prop} (hcall:∀(F:Addr->Prop) (w:World) (g:Gh) (vs:Array Value),Mem (B.env F) w g σ1->Cj w (Ay (B.env F) g) g vs.toList args1 ->DoCall B.P f vs w (fun e w'=>∃g',Fin e w' (Ay (B.env F) g') g'/\Mem (B.env F) w' g' σ2/\Evo (B.env F) σ1.length w g w' g')) {O:Ac} {args:List AV} (sel:List Nat) (hnd:sel.Nodup) (hO:Kh sel O sel σ1) (ha:wkA sel args args1) (hb:Cn σ2=true) (F:Addr->Prop) {w:World} {g:Gh} {vs:Array Value} (hm:Mem (B.env F) w g O) (har:Cj w (Ay (B.env F) g) g vs.toList args) :DoCall B.P f vs w (fun e w'=>∃g' pr1 g1,Fin e w' pr1 g1/\(∀v r,Rep w' pr1 g1 v r->Rep w' (Ay (B.env F) g') g' v (T5 sel O.length r)) /\Mem (B.env F) w' g' (Ni O sel (σ2.map (AcH sel O.length)))/\GLe g g'/\Evo (B.env F) 0 w g w' g'):=by
 obtain⟨hl,hget⟩:=Mu hO;have hlen:g.length=O.length:=hm.len
 have hs:∀i∈sel,i<g.length:=by
  intro i hi;obtain⟨id,hid,rfl⟩:=ArA hi;obtain⟨i',b,h1,h2,_⟩:=hget id (σ1[id]'(by omega)) (AqH _);rw[AqH hid]at h1;cases h1;rw[hlen];exact(AqD.1 h2).1
 let F1:Addr->Prop:=fun a=>¬Ay (B.env F) g a/\¬EJ (CP sel g) a.block/\a.block<w.heap.size
 have p1:∀a,Ay (B.env F) g a->Ay (B.env F1) (CP sel g) a:=fun a hp=>⟨fun h=>h.1 hp,fun id b hb hβ=>by
  obtain⟨i,_,hi⟩:=(A8 hs).1 hb;exact hp.2 i b hi hβ⟩
 have hm1:Mem (B.env F1) w (CP sel g) σ1:=by
  refine⟨by simp[CP,hl],?_,?_,fun a ha=>⟨ha.2.2,ha.2.1⟩,?_,hm.maps,fun i vs h=>⟨fun hh=>(hm.whole i vs h).1 (DC hs hh),(hm.whole i vs h).2⟩⟩
  ·intro id b ab' h1 h2;obtain⟨i,ab,e1,e2,e3⟩:=hget id ab' h2;obtain⟨i',f1,f2⟩:=(A8 hs).1 h1;rw[e1]at f1;cases f1;have hk:=hm.blk i b ab f2 e2;cases ab with
   | box cs ro=>
    cases ab' with
    |buf=>exact e3.elim
    |obj=>exact e3.elim
    |mp=>exact e3.elim
    |lp=>exact e3.elim
    |gone=>exact e3.elim
    |tb=>exact e3.elim
    |box cs' ro'=>
     obtain⟨rfl,e4⟩:=e3;obtain⟨e5,e6⟩:=Kt e4;obtain⟨k1,k2,k3,k4,k5,β,arr,t,fz,k6,k7,k8,k9,k10⟩:=hk;refine⟨k1,k2,k3,by omega,k5,β,arr,t,fz,k6,k7,by omega,k9,fun j y hj=>?_⟩;obtain⟨x,hx,hxy⟩:=e6 j y hj;exact⟨OM p1 hs (k10 j x hx).1 hxy,(k10 j x hx).2⟩
   | buf k els ro=>
    cases ab' with
    |box=>exact e3.elim
    |obj=>exact e3.elim
    |mp=>exact e3.elim
    |lp=>exact e3.elim
    |gone=>exact e3.elim
    |tb=>exact e3.elim
    |buf k' els' ro'=>
     obtain⟨rfl,rfl,rfl,e4⟩:=e3;obtain⟨k1,k2,k3,k4,k5,k6,k7⟩:=hk;refine⟨k1,k2,k3,k4,k5,k6,fun β hβ=>?_⟩;obtain⟨arr,t,fz,g1,g2,g3,g4,g5⟩:=k7 β hβ;refine⟨arr,t,fz,g1,g2,g3,g4,fun i cs j x hi hj=>⟨?_,(g5 i cs j x hi hj).2⟩⟩;have hcl:x.closed=true:=AqW.1 (AqW.1 e4 cs (AqO hi)) x (AqO hj);exact(C7 (g5 i cs j x hi hj).1 hcl).mono (fun a u hc hp=>⟨hc,p1 a hp⟩) (GLe.nil _)
   | mp st es=>
    cases ab' with
    |box=>exact e3.elim
    |buf=>exact e3.elim
    |obj=>exact e3.elim
    |tb=>exact e3.elim
    |lp=>exact e3.elim
    |gone=>exact e3.elim
    |mp st' es'=>
     obtain⟨rfl,rfl⟩:st=st'/\es=es':=e3;obtain⟨k1,kx,ky,β,arr,cl,k2,k3,k4,k5,k6⟩:=hk;refine⟨k1,kx,ky,β,arr,cl,k2,k3,k4,k5,fun j e hj=>?_⟩;obtain⟨k,x,q1,q2,q3⟩:=k6 j e hj;exact⟨k,x,q1,q2,q3.mono (fun a u hc hp=>⟨hc,p1 a hp⟩) (GLe.nil _)⟩
   | lp y N1 l1 ps as1 bd=>
    cases ab' with
    |box=>exact e3.elim
    |buf=>exact e3.elim
    |obj=>exact e3.elim
    |tb=>exact e3.elim
    |mp=>exact e3.elim
    |gone=>exact e3.elim
    |lp y' N2 l2 ps' as2 bd'=>
     obtain⟨rfl,rfl,rfl,rfl,rfl,e4⟩:=e3;obtain⟨k1,β,f,T,D,k2,k3,k4,k5⟩:=hk;refine⟨k1,β,f,T,D,k2,k3,k4,fun z hz=>?_⟩;obtain⟨x,hx,hx1,hxy⟩:=RZ e4 z hz;rw[<-hx1];exact OB p1 hs (k5 x hx) hxy
   |gone=>
    cases ab' with
    |box=>exact e3.elim
    |buf=>exact e3.elim
    |obj=>exact e3.elim
    |tb=>exact e3.elim
    |mp=>exact e3.elim
    |lp=>exact e3.elim
    |gone=>exact hk
   | obj o=>
    cases ab' with
    |box=>exact e3.elim
    |buf=>exact e3.elim
    |tb=>exact e3.elim
    |mp=>exact e3.elim
    |lp=>exact e3.elim
    |gone=>exact e3.elim
    |obj o'=>
     obtain rfl:o=o':=e3;exact hk
   | tb T l=>
    cases ab' with
    |box=>exact e3.elim
    |buf=>exact e3.elim
    |obj=>exact e3.elim
    |mp=>exact e3.elim
    |lp=>exact e3.elim
    |gone=>exact e3.elim
    |tb T' l'=>
     obtain⟨rfl,rfl⟩:=e3;exact XL hk
  ·intro id id' b b' β h1 h2 e1 e2;obtain⟨i,f1,f2⟩:=(A8 hs).1 h1;obtain⟨i',f1',f2'⟩:=(A8 hs).1 h2;have:=hm.inj i i' b b' β f2 f2' e1 e2;subst this;obtain⟨l1,q1⟩:=AqD.1 f1;obtain⟨l2,q2⟩:=AqD.1 f1';exact MO hnd l1 l2 (q1.trans q2.symm)
  intro i cs hG;obtain⟨q1,q2,q3,c,q4⟩:=hm.glob i cs hG;exact⟨q1,fun hh=>q2 (DC hs hh),fun j hj=>hj.1 (B8 (q3 j) q2),c,fun j x hj=>⟨(q4 j x hj).1,(q4 j x hj).2.1.mono (fun a u hc hp=>⟨hc,p1 a hp⟩) (GLe.nil _),(q4 j x hj).2.2⟩⟩
 refine(hcall F1 w (CP sel g) vs hm1 (TN p1 hs har ha)).mono ?_;rintro e w' ⟨g1,hfin,hm2,he⟩;have hl1:g1.length=σ2.length:=hm2.len
 have hsl:sel.length<=g1.length:=by
  refine Nat.le_of_not_lt fun hlt=>?_
  have hgl:g1.length<(CP sel g).length:=by simpa [CP]using hlt
  obtain⟨b',hb',_⟩:=he.ids g1.length (by rw[<-hl];exact hlt) _ (AqH hgl);have:=(AqD.1 hb').1;omega
 have hren:∀i,(Ni g sel g1)[G6 sel g.length i]?=g1[i]?:=SL sel g g1 hnd hs hsl;have hsO:∀i∈sel,i<O.length:=fun i hi=>by rw[<-hlen];exact hs i hi
 have hren2:∀i,(Ni O sel (σ2.map (AcH sel O.length)))[G6 sel g.length i]?=(σ2.map (AcH sel O.length))[i]?:=fun i=>by
  rw[hlen];exact SL sel O _ hnd hsO (by simpa [<-hl1]using hsl) i
 have hcls:∀j b,(Ni g sel g1)[j]?=some b->(j<g.length/\j ∉ sel/\g[j]?=some b)\/∃i,j=G6 sel g.length i/\g1[i]?=some b:=by
  intro j b hb;rcases Uv (sel:=sel) (N:=g.length) j with⟨h1,h2⟩|⟨i,rfl⟩
  ·rw[HD sel g g1 j h1 h2]at hb;exact .inl ⟨h1,h2,hb⟩
  rw[hren i]at hb;exact .inr ⟨i,rfl,hb⟩
 have hmine:∀β,EJ (Ni g sel g1) β->EJ g β\/EJ g1 β:=by
  rintro β ⟨j,b,hb,hβ⟩;rcases hcls j b hb with⟨_,_,h3⟩|⟨i,_,h3⟩
  ·exact .inl ⟨j,b,h3,hβ⟩
  exact .inr ⟨i,b,h3,hβ⟩
 have hout:∀j b β,j ∉ sel->g[j]?=some b->b.blk=some β->¬EJ (CP sel g) β:=by
  rintro j b β hj hb hβ ⟨i,b',hb',hβ'⟩;obtain⟨i',h1,h2⟩:=(A8 hs).1 hb';have:=hm.inj j i' b b' β hb h2 hβ hβ';subst this;exact hj (AqO h1)
 have hP:∀a u,w'.cell? a=some u->Ay (B.env F1) g1 a->Ay (B.env F) (Ni g sel g1) a:=by
  intro a u hc hp;refine⟨fun hF=>hp.1 ⟨fun h=>h.1 hF,fun h=>(hm.foreign a hF).2 (DC hs h),(hm.foreign a hF).1⟩,fun id b hb hβ=>?_⟩;rcases hcls id b hb with⟨h1,h2,h3⟩|⟨i,_,h3⟩
  ·have hlt:=DY hm h3 hβ;have hnm:=hout id b a.block h2 h3 hβ;have:Ay (B.env F) g a:=Atm fun hn=>hp.1 ⟨hn,hnm,hlt⟩
   exact this.2 id b h3 hβ
  exact hp.2 i b h3 hβ
 have hQ:∀a u,w.cell? a=some u->Ay (B.env F) g a->w'.cell? a=some u/\Ay (B.env F) (Ni g sel g1) a:=by
  intro a u hc hp;obtain⟨h1,h2⟩:=he.cells a u hc (p1 a hp);exact⟨h1,hP a u h1 h2⟩
 have hle:GLe g (Ni g sel g1):=by
  intro id b hb;by_cases hi:id∈sel
  ·obtain⟨i,hil,rfl⟩:=ArA hi;obtain⟨b',hb',hst⟩:=he.ids i (by omega) b ((A8 hs).2 ⟨sel[i],AqH hil,hb⟩);refine⟨b',?_,hst⟩;have:=hren i;rw[G6,AqJ hil]at this;rw[<-hb',<-this];simp[AqY,hil]
  exact⟨b,by rw[HD sel g g1 id (AqD.1 hb).1 hi];exact hb,GB.step.refl b⟩
 have hgren:∀(i:Nat) (b:GB),g1[i]?=some b->(Ni g sel g1)[G6 sel O.length i]?=some b:=fun i b hb=>by rw[<-hlen,hren i];exact hb
 refine⟨Ni g sel g1,_,g1,hfin,fun v r hrep=>Ae4 hgren hP hrep,⟨?_,?_,?_,?_,?_,hm2.maps,fun i vs h=>⟨fun hh=>(hmine _ hh).elim (hm.whole i vs h).1 (hm2.whole i vs h).1,(hm2.whole i vs h).2⟩⟩,hle,⟨he.os,he.tape,he.output,he.size,hQ,?_,fun _ h=>absurd h (ArF _)⟩⟩
 ·rw[Sv sel g g1 hsl,Sv sel O _ (by simpa [<-hl1]using hsl),hlen,hl1];simp
 ·intro id b ab hb1 hab;rcases Uv (sel:=sel) (N:=g.length) id with⟨h1,h2⟩|⟨i,rfl⟩
  ·rw[HD sel g g1 id h1 h2]at hb1;rw[HD sel O _ id (by omega) h2]at hab;refine(hm.blk id b ab hb1 hab).mono hQ hle (fun β hβ=>?_);exact(he.blocks β (DY hm hb1 hβ) (hout id b β h2 hb1 hβ)).1
  rw[hren i]at hb1;rw[hren2 i,Aq8,AqE]at hab;obtain⟨ab1,hab1,rfl⟩:=hab;have hk:=hm2.blk i b ab1 hb1 hab1;cases ab1 with
  |box cs ro=>
   obtain⟨k1,k2,k3,k4,k5,β,arr,t,fz,k6,k7,k8,k9,k10⟩:=hk;refine⟨k1,k2,k3,by simpa using k4,k5,β,arr,t,fz,k6,k7,by simpa using k8,k9,fun j y hj=>?_⟩;rw[Aq8,AqE]at hj;obtain⟨x,hx,rfl⟩:=hj;exact⟨S1 hgren hP (k10 j x hx).1,(k10 j x hx).2⟩
  |buf k els ro=>
   obtain⟨k1,k2,k3,k4,k5,k6,k7⟩:=hk;refine⟨k1,k2,k3,k4,k5,k6,fun β hβ=>?_⟩;obtain⟨arr,t,fz,g1',g2',g3',g4',g5'⟩:=k7 β hβ;refine⟨arr,t,fz,g1',g2',g3',g4',fun i' cs j x hi hj=>⟨?_,(g5' i' cs j x hi hj).2⟩⟩;have hec:=Dn hb hab1;have hcl:x.closed=true:=AqW.1 (AqW.1 hec cs (AqO hi)) x (AqO hj);exact(C7 (g5' i' cs j x hi hj).1 hcl).mono (fun a u hc hp=>⟨hc,hP a u hc hp⟩) (GLe.nil _)
  |obj o=>exact hk
  |mp st es=>
   obtain⟨k1,kx,ky,β,arr,cl,k2,k3,k4,k5,k6⟩:=hk;refine⟨k1,kx,ky,β,arr,cl,k2,k3,k4,k5,fun j e hj=>?_⟩;obtain⟨k,x,q1,q2,q3⟩:=k6 j e hj;exact⟨k,x,q1,q2,q3.mono (fun a u hc hp=>⟨hc,hP a u hc hp⟩) (GLe.nil _)⟩
  |lp y N1 l1 ps as1 bd=>
   obtain⟨k1,β,f,T,D,k2,k3,k4,k5⟩:=hk;refine⟨k1,β,f,T,D,k2,k3,k4,fun z hz=>?_⟩;obtain⟨x,hx,rfl⟩:=Ar0.1 hz;exact Ty hgren hP (k5 x hx)
  |gone=>exact hk
  |tb T l=>exact XL hk
 ·intro id id' b b' β h1 h2 e1 e2
  have cross:∀(j i:Nat) (c c':GB),j ∉ sel->g[j]?=some c->g1[i]?=some c'->c.blk=some β->c'.blk=some β->False:=by
   intro j i c c' hj hc hc' x1 x2;exact(he.blocks β (DY hm hc x1) (hout j c β hj hc x1)).2 ⟨i,c',hc',x2⟩
  rcases hcls id b h1 with⟨_,n1,f1⟩|⟨i,rfl,f1⟩
  ·rcases hcls id' b' h2 with⟨_,n2,f2⟩|⟨i',rfl,f2⟩
   ·exact hm.inj id id' b b' β f1 f2 e1 e2
   exact(cross id i' b b' n1 f1 f2 e1 e2).elim
  rcases hcls id' b' h2 with⟨_,n2,f2⟩|⟨i',rfl,f2⟩
  ·exact(cross id' i b' b n2 f2 f1 e2 e1).elim
  rw[hm2.inj i i' b b' β f1 f2 e1 e2]
 ·intro a ha';refine⟨Ase (hm.foreign a ha').1 he.size,fun hh=>?_⟩;rcases hmine _ hh with h|h
  ·exact(hm.foreign a ha').2 h
  exact(hm2.foreign a ⟨fun h=>h.1 ha',fun h=>(hm.foreign a ha').2 (DC hs h),(hm.foreign a ha').1⟩).2 h
 ·intro i cs hG;obtain⟨q1,q2,q3,_⟩:=hm.glob i cs hG;obtain⟨_,r2,_,c,r4⟩:=hm2.glob i cs hG;refine⟨Ase q1 he.size,fun hh=>?_,q3,c,fun j x hj=>⟨(r4 j x hj).1,(r4 j x hj).2.1.mono (fun a u hc hp=>⟨hc,hP a u hc hp⟩) (GLe.nil _),(r4 j x hj).2.2⟩⟩;rcases hmine _ hh with h|h
  ·exact q2 h
  exact r2 h
 intro β hβ hn;obtain⟨h1,h2⟩:=he.blocks β hβ (fun h=>hn (DC hs h));refine⟨h1,fun hh=>?_⟩;rcases hmine _ hh with h|h
 ·exact hn h
 exact h2 h
theorem Aae{r1:AV}(hcon:Con B f args1 σ1 (fun r O'=>r=r1/\O'=σ2))(sel:List Nat)(hnd:sel.Nodup)(hO:Kh sel O sel σ1) (ha:wkA sel args args1) (hb:Cn σ2=true) (F:Addr->Prop):Vx (B.env F) f args O (T5 sel O.length r1) (Ni O sel (σ2.map (AcH sel O.length))):=by
 refine fun w g vs hm har=>?_
 refine(Rs (Fin:=fun e w' pr g=>∃v,e=.returned v/\Rep w' pr g v r1) (fun F w g vs hm har=>(hcon.call F w g vs hm har).mono ?_) sel hnd hO ha hb F hm har).mono ?_
 ·rintro e w' ⟨v,r,O',g',h1,⟨rfl,rfl⟩,h3,h4,h5⟩;exact⟨g',⟨v,h1,h5⟩,h3,h4⟩
 rintro e w' ⟨g',pr1,g1,⟨v,h1,h5⟩,hrr,h3,h4,h6⟩;exact⟨v,g',h1,h3,h4,h6,hrr v _ h5⟩
theorem Uw{r1:AV}(hcon:Con B f args1 σ1 (fun r O'=>r=r1/\O'=σ2))(sel:List Nat)(hnd:sel.Nodup)(hO:Kh sel O sel σ1) (ha:wkA sel args args1) (hb:Cn σ2=true) {r:AV} {O':Ac} (hr:T5 sel O.length r1=r) (hs:Ni O sel (σ2.map (AcH sel O.length))=O'):∀F:Addr->Prop,Vx (B.env F) f args O r O':=by
 subst hr hs;exact Aae hcon sel hnd hO ha hb
def nil0(N:Nat):AV->AV->Prop
 |.sl true [],.bs true id 0 0 0=>id=N
 |x,y=>x=y
def AeJ(N:Nat):List AV->List AV->Prop
 |[],[]=>True
 |x::xs,y::ys=>nil0 N x y/\AeJ N xs ys
 |_,_=>False
def nil1(N:Nat):AV->AV->Prop
 |.agg xs,.agg ys=>AeJ N xs ys
 |x,y=>nil0 N x y
def nilA(N:Nat):List AV->List AV->Prop
 |[],[]=>True
 |x::xs,y::ys=>nil1 N x y/\nilA N xs ys
 |_,_=>False
def wk2(sel:List Nat):AV->AV->Prop
 |.tup xs,.tup ys=>wkA sel xs ys
 |x,y=>wk1 sel x y
def AgE(sel:List Nat)(r0:AV):Option (List AV)->Prop
 |some xs=>wk2 sel (H1 xs) r0
 |none=>False
def AfI(E:Env)(n:Nat)(rs:List ResultVar)(r0:AV)(σ0:Ac):CX:=fun ex st=>(ex=.normal\/ex=.ret)/\∃sel,AgE sel r0 (Fx E st.O st.fr rs)/\sel.Nodup/\sel.take n=List.range n/\Kh sel st.O sel σ0
theorem Tf{E:Env}{n N:Nat}{l:Fr}{σ0:Ac}{rs:List ResultVar}{r0:AV}{ex:Exit}(hex:ex=.normal\/ex=.ret)(sel:List Nat)(hnd:sel.Nodup)(hn:sel.take n=List.range n)(h:AgE sel r0 (V0 E N l O rs))(hO:Kh sel O sel σ0):AfI E n rs r0 σ0 ex ⟨Ah N l,O⟩ :=
 ⟨hex,sel,by rw[Nm];exact h,hnd,hn,hO⟩
theorem AbO{sel:List Nat}:∀{xs ys:List AV},wkA sel xs ys->xs.length=ys.length/\∀(i:Nat) (y:AV),ys[i]?=some y->∃x,xs[i]?=some x/\wk1 sel x y
 |[],[],_=>⟨rfl,fun i y h=>by simp at h⟩
 |x::xs,y::ys,h=>by
  obtain⟨h1,h2⟩:=AbO h.2;refine⟨by simp[h1],fun i z hz=>?_⟩;cases i with
  |zero=>simp at hz;subst hz;exact⟨x,rfl,h.1⟩
  |succ i=>simpa using h2 i z (by simpa using hz)
theorem Xm{w:World}{g:Gh}{sel:List Nat}{pr pr':Addr->Prop}(hp:∀a,pr a->pr' a)(hs:∀i∈sel,i<g.length)(h:Rep w pr g v x)(hw:wk2 sel x y):Rep w pr' (CP sel g) v y:=by
 unfold wk2 at hw;split at hw
 ·obtain⟨h1,h2⟩:=AbO hw;cases h with
  |tup _ vs _ hs' hr=>
   refine .tup _ vs _ (by omega) (fun i y hy=>?_);obtain⟨x,hx,hxy⟩:=h2 i y hy;exact OB hp hs (hr i x hx) hxy
 exact OB hp hs h hw
theorem J8{E:Env}{w:World}{g:Gh}{O':Ac}{n:Nat}(hm:Mem E w g O)(sel:List Nat)(hnd:sel.Nodup)(hn:sel.take n=List.range n)(hO:Kh sel O sel O') :(∀i∈sel,i<g.length)/\Mem E w (CP sel g) O'/\Evo E n w g w (CP sel g)/\∀a,Ay E g a->Ay E (CP sel g) a:=by
 have hw:=XB (E:=E) (n:=n) (N:=0) (l:=[]) (l':=[]) sel hnd hn hO trivial;obtain⟨hl,hget⟩:=Mu hO;have hlen:g.length=O.length:=hm.len
 have hs:∀i∈sel,i<g.length:=by
  intro i hi;obtain⟨id,hid,rfl⟩:=ArA hi;obtain⟨i',b,h1,h2,_⟩:=hget id (O'[id]'(by omega)) (AqH _);rw[AqH hid]at h1;cases h1;rw[hlen];exact(AqD.1 h2).1
 refine⟨hs,⟨by simp[CP,hl],?_,?_,fun a ha=>⟨(hm.foreign a ha).1,fun hh=>(hm.foreign a ha).2 (DC hs hh)⟩,?_,hm.maps,fun i vs h=>⟨fun hh=>(hm.whole i vs h).1 (DC hs hh),(hm.whole i vs h).2⟩⟩,?_,fun a=>G3 hs⟩
 ·intro id b ab' h1 h2;obtain⟨i,ab,e1,e2,e3⟩:=hget id ab' h2;obtain⟨i',f1,f2⟩:=(A8 hs).1 h1;rw[e1]at f1;cases f1;have hk:=hm.blk i b ab f2 e2;cases ab with
  | box cs ro=>
   cases ab' with
   |buf=>exact e3.elim
   |obj=>exact e3.elim
   |mp=>exact e3.elim
   |lp=>exact e3.elim
   |gone=>exact e3.elim
   |tb=>exact e3.elim
   |box cs' ro'=>
    obtain⟨rfl,e4⟩:=e3;obtain⟨e5,e6⟩:=Kt e4;obtain⟨k1,k2,k3,k4,k5,β,arr,t,fz,k6,k7,k8,k9,k10⟩:=hk;refine⟨k1,k2,k3,by omega,k5,β,arr,t,fz,k6,k7,by omega,k9,fun j y hj=>?_⟩;obtain⟨x,hx,hxy⟩:=e6 j y hj;exact⟨OU hs (k10 j x hx).1 hxy,(k10 j x hx).2⟩
  | buf k els ro=>
   cases ab' with
   |box=>exact e3.elim
   |obj=>exact e3.elim
   |mp=>exact e3.elim
   |lp=>exact e3.elim
   |gone=>exact e3.elim
   |tb=>exact e3.elim
   |buf k' els' ro'=>
    obtain⟨rfl,rfl,rfl,e4⟩:=e3;obtain⟨k1,k2,k3,k4,k5,k6,k7⟩:=hk;refine⟨k1,k2,k3,k4,k5,k6,fun β hβ=>?_⟩;obtain⟨arr,t,fz,g1,g2,g3,g4,g5⟩:=k7 β hβ;refine⟨arr,t,fz,g1,g2,g3,g4,fun i cs j x hi hj=>⟨?_,(g5 i cs j x hi hj).2⟩⟩;have hcl:x.closed=true:=AqW.1 (AqW.1 e4 cs (AqO hi)) x (AqO hj);exact(C7 (g5 i cs j x hi hj).1 hcl).mono (fun a u hc hp=>⟨hc,G3 hs hp⟩) (GLe.nil _)
  | mp st es=>
   cases ab' with
   |box=>exact e3.elim
   |buf=>exact e3.elim
   |obj=>exact e3.elim
   |tb=>exact e3.elim
   |lp=>exact e3.elim
   |gone=>exact e3.elim
   |mp st' es'=>
    obtain⟨rfl,rfl⟩:st=st'/\es=es':=e3;obtain⟨k1,kx,ky,β,arr,cl,k2,k3,k4,k5,k6⟩:=hk;refine⟨k1,kx,ky,β,arr,cl,k2,k3,k4,k5,fun j e hj=>?_⟩;obtain⟨k,x,q1,q2,q3⟩:=k6 j e hj;exact⟨k,x,q1,q2,q3.mono (fun a u hc hp=>⟨hc,G3 hs hp⟩) (GLe.nil _)⟩
  | lp y N1 l1 ps as1 bd=>
   cases ab' with
   |box=>exact e3.elim
   |buf=>exact e3.elim
   |obj=>exact e3.elim
   |tb=>exact e3.elim
   |mp=>exact e3.elim
   |gone=>exact e3.elim
   |lp y' N2 l2 ps' as2 bd'=>
    obtain⟨rfl,rfl,rfl,rfl,rfl,e4⟩:=e3;obtain⟨k1,β,f,T,D,k2,k3,k4,k5⟩:=hk;refine⟨k1,β,f,T,D,k2,k3,k4,fun z hz=>?_⟩;obtain⟨x,hx,hx1,hxy⟩:=RZ e4 z hz;rw[<-hx1];exact SK hs (k5 x hx) hxy
  |gone=>
   cases ab' with
   |box=>exact e3.elim
   |buf=>exact e3.elim
   |obj=>exact e3.elim
   |tb=>exact e3.elim
   |mp=>exact e3.elim
   |lp=>exact e3.elim
   |gone=>exact hk
  | obj o=>
   cases ab' with
   |box=>exact e3.elim
   |buf=>exact e3.elim
   |tb=>exact e3.elim
   |mp=>exact e3.elim
   |lp=>exact e3.elim
   |gone=>exact e3.elim
   |obj o'=>
    obtain rfl:o=o':=e3;exact hk
  | tb T l=>
   cases ab' with
   |box=>exact e3.elim
   |buf=>exact e3.elim
   |obj=>exact e3.elim
   |mp=>exact e3.elim
   |lp=>exact e3.elim
   |gone=>exact e3.elim
   |tb T' l'=>
    obtain⟨rfl,rfl⟩:=e3;exact XL hk
 ·intro id id' b b' β h1 h2 e1 e2;obtain⟨i,f1,f2⟩:=(A8 hs).1 h1;obtain⟨i',f1',f2'⟩:=(A8 hs).1 h2;have:=hm.inj i i' b b' β f2 f2' e1 e2;subst this;obtain⟨l1,q1⟩:=AqD.1 f1;obtain⟨l2,q2⟩:=AqD.1 f1';exact MO hnd l1 l2 (q1.trans q2.symm)
 ·intro i cs hG;obtain⟨q1,q2,q3,c,q4⟩:=hm.glob i cs hG;exact⟨q1,fun hh=>q2 (DC hs hh),q3,c,fun j x hj=>⟨(q4 j x hj).1,(q4 j x hj).2.1.mono (fun a u hc hp=>⟨hc,G3 hs hp⟩) (GLe.nil _),(q4 j x hj).2.2⟩⟩
 refine⟨rfl,rfl,rfl,AqT _,fun a u hc hp=>⟨hc,G3 hs hp⟩,fun β _ hn'=>⟨rfl,fun hh=>hn' (DC hs hh)⟩,fun id hid b hb=>⟨b,(A8 hs).2 ⟨id,?_,hb⟩,GB.step.refl b⟩⟩;have:(sel.take n)[id]?=some id:=by rw[hn,Asl hid]
 rw[Arj,AqJ hid]at this;exact this
theorem Ix{fn:Func}{c:Code}{σ0:Ac}{r0:AV}{rs:List ResultVar}{N:Nat}(n:Nat)(hn0:O.length=n)(hB:B.Ok)(hf:B.P.funcs[f]?=some fn)(hb:fn.body=some c)(hn:(fn.name == "runtime.NumGoroutine")=false) (hN:fn.ntmps=N) (hrs:fn.results.toList=rs) (hlen:args.length<=N) (h:∀F:Addr->Prop,Run (B.env F) n c ⟨Ah N (LG 0 args),O⟩ (AfI (B.env F) n rs r0 σ0)):Con B f args O (fun r' O'=>r'=r0/\O'=σ0):=by
 subst hn0
 have h0:Con B f args O (fun r O'=>∃sel:List Nat,wk2 sel r r0/\sel.Nodup/\sel.take O.length=List.range O.length/\Kh sel O' sel σ0):=by
  refine Aa4 hB hf hb hn (fun F=>?_);subst hN hrs;rw[Fl fn.ntmps args hlen (LG 0 args) (fun t _=>FF args 0 t (Aq5 _))];refine I3 (h F) ?_;rintro ex st ⟨h1,sel,h2,h3,h4,h5⟩;unfold AgE at h2;split at h2
  ·rename_i xs hxs;exact⟨h1,xs,hxs,sel,h2,h3,h4,h5⟩
  exact h2.elim
 refine⟨fun F w g vs hm ha=>(h0.call F w g vs hm ha).mono ?_⟩;rintro e w' ⟨v,r,O',g',h1,⟨sel,k1,k2,k3,k4⟩,h3,h4,h5⟩;obtain⟨s1,s2,s3,s4⟩:=J8 h3 sel k2 k3 k4;exact⟨v,r0,σ0,CP sel g',h1,⟨rfl,rfl⟩,s2,h4.trans s3,Xm s4 s1 h5 k1⟩
theorem Afw{N:Nat}{xs ys:List AV}:nil1 N (.agg xs) (.agg ys)=AeJ N xs ys:=rfl
section
variable {sel:List Nat}{N:Nat}
theorem Tl(x:Int):Nw sel N (i64 x:AV)=(i64 x:AV):=by
 show(match(i64 x:AV).closed with|true=>(i64 x:AV)|false=>.junk)=_;rw[closed_i64]
theorem Agc(x:Int):Xn sel N (i64 x:AV)=(i64 x:AV):=Tl (sel:=sel) (N:=N) x
theorem AfO(x:Int):T5 sel N (i64 x:AV)=(i64 x:AV):=Tl (sel:=sel) (N:=N) x
theorem Qi(b:Bool):Nw sel N (.bool b:AV)=(.bool b:AV):=by
 show(match(.bool b:AV).closed with|true=>(.bool b:AV)|false=>.junk)=_;rw[closed_bool]
theorem Acr(b:Bool):Xn sel N (.bool b:AV)=(.bool b:AV):=Qi (sel:=sel) (N:=N) b
theorem Adj(b:Bool):T5 sel N (.bool b:AV)=(.bool b:AV):=Qi (sel:=sel) (N:=N) b
theorem XF(s:List UInt8):Nw sel N (.str s:AV)=(.str s:AV):=by
 show(match(.str s:AV).closed with|true=>(.str s:AV)|false=>.junk)=_;rw[closed_str]
theorem Aey(s:List UInt8):T5 sel N (.str s:AV)=(.str s:AV):=XF (sel:=sel) (N:=N) s
theorem AhS(f:Bool)(els:List (List AV)):Nw sel N (.sl f els:AV)=(.sl f els:AV):=by
 show(match(.sl f els:AV).closed with|true=>(.sl f els:AV)|false=>.junk)=_;rw[closed_sl]
theorem AiJ(f:Bool)(id t o l:Nat):Nw sel N (.bs f id t o l)=.bs f (G6 sel N id) t o l:=rfl
theorem AfZ(id o:Nat):Nw sel N (.ref id o)=.ref (G6 sel N id) o:=rfl
theorem AbU(id:Nat):Nw sel N (.mref id)=.mref (G6 sel N id):=rfl
theorem AcE(id:Nat):Nw sel N (.nref id)=.nref (G6 sel N id):=rfl
theorem Abn(id:Nat):Xn sel N (.mref id)=.mref (G6 sel N id):=rfl
theorem Acj(id:Nat):Xn sel N (.nref id)=.nref (G6 sel N id):=rfl
theorem AcG(id t:Nat):Nw sel N (.tref id t)=.tref (G6 sel N id) t:=rfl
theorem AbH(id t:Nat):Xn sel N (.tref id t)=.tref (G6 sel N id) t:=rfl
theorem AaU(id t:Nat):T5 sel N (.tref id t)=.tref (G6 sel N id) t:=rfl
theorem Abe(id t i j:Nat):Nw sel N (.eref id t i j)=.eref (G6 sel N id) t i j:=rfl
theorem Ag1(f:Bool)(id t o l:Nat):Xn sel N (.bs f id t o l)=.bs f (G6 sel N id) t o l:=rfl
theorem AfD(id o:Nat):Xn sel N (.ref id o)=.ref (G6 sel N id) o:=rfl
theorem Adv(id t i j:Nat):Xn sel N (.eref id t i j)=.eref (G6 sel N id) t i j:=rfl
theorem Ahr(f:Bool)(id t o l:Nat):T5 sel N (.bs f id t o l)=.bs f (G6 sel N id) t o l:=rfl
theorem AeI(id o:Nat):T5 sel N (.ref id o)=.ref (G6 sel N id) o:=rfl
theorem Aca(id t i j:Nat):T5 sel N (.eref id t i j)=.eref (G6 sel N id) t i j:=rfl
theorem AeE(xs:List AV):Xn sel N (.agg xs)=.agg (xs.map (Nw sel N)):=rfl
theorem Agd(xs:List AV):T5 sel N (.agg xs)=.agg (xs.map (Nw sel N)):=rfl
theorem AeP(xs:List AV):T5 sel N (.tup xs)=.tup (xs.map (Xn sel N)):=rfl
end
attribute [go_sem] AgE wk2 wkA nilA Afw AeJ AbU Abn AcE Acj AcG AbH AaU Tl Agc AfO Qi Acr Adj XF Aey AhS AiJ AfZ Abe Ag1 AfD Adv Ahr AeI Aca AeE Agd AeP AcH G6 Ni Cn List.getD_cons_zero List.getD_cons_succ
end Go.Rv
