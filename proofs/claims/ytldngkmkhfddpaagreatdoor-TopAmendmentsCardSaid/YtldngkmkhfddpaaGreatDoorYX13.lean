/-
  Part 13.
-/
import Derived.Test.YtldngkmkhfddpaaGreatDoorYX12
namespace Go.Rv
set_option linter.unusedVariables false
set_option linter.unusedSimpArgs false
variable{pr pr':Addr->Prop}{v:Value}{x y:AV}{g':Gh}{B:Base}{o:Oper}{c:Call}{f:Operand}{fid:FuncId}{st:St}
variable {E:Env}{w:World}{g:Gh}{O:Ac}
def D4(els:List (List AV)):Bool:=els.all fun cs=>cs.all AV.closed
def Bm(O:Ac):AV->Option AV
 |.bs full id tot off len=>match O[id]? with
  |some (.buf k els ro)=>if els.length=tot/\D4 els=true then some (.sl false ((els.drop off).take len))else none
  |_=>none
 |.ref ..|.tref ..|.mref ..|.yld ..|.nref ..|.eref ..|.agg _|.tup _=>none
 |.iface t x=>if x.closed=true then some (.iface t x)else none
 |.fn f cs=>if cs.all AV.closed then some (.fn f cs)else none
 |.sl _ els=>some (.sl false els)
 |x=>some x
def fz(O:Ac):AV->Option AV
 |.agg cs=>(cs.mapM (Bm O)).map .agg
 |x=>Bm O x
def BW:AV->List Nat
 |.bs _ id ..=>[id]
 |.agg cs=>cs.filterMap fun|.bs _ id ..=>some id|_=>none
 |_=>[]
def D0(O:Ac)(id:Nat):Ac :=
 match O[id]? with
 |some (.box cs _)=>O.set id (.box cs true)
 |some (.buf k els _)=>O.set id (.buf k els true)
 |some (.obj o)=>O.set id (.obj o)
 |some (.tb T l)=>O.set id (.tb T l)
 |some (.mp st es)=>O.set id (.mp st es)
 |some (.lp y N l ps a b)=>O.set id (.lp y N l ps a b)
 |some .gone=>O.set id .gone
 |none=>O
def Es(O:Ac):List Nat->Ac
 |[]=>O
 |id::ids=>Es (D0 O id) ids
def isRo(O:Ac)(id:Nat):Prop:=∀k els ro,O[id]?=some (.buf k els ro)->ro=true
theorem DJ(O:Ac)(id i:Nat):(D0 O id)[i]?=(if i=id then(O[i]?).map (fun ab=>match ab with|.box cs _=>.box cs true|.buf k els _=>.buf k els true|.obj o=>.obj o|.tb T l=>.tb T l|.mp st es=>.mp st es|.lp y N l ps a b=>.lp y N l ps a b|.gone=>.gone)else O[i]?):=by
 unfold D0;cases h:O[id]? with
 |none=>
  simp only;by_cases e:i=id
  ·subst e;simp[h]
  rw[Apd e]
 | some ab=>
  by_cases e:i=id
  ·subst e;rw[Apb rfl,h];cases ab<;>simp[AJ h]
  rw[Apd e];cases ab<;>simp[Dy e]
theorem M3:∀(ids:List Nat) (O:Ac) (id:Nat),id∈ids\/isRo O id->isRo (Es O ids) id
 |[],O,id,h=>by simpa [Es]using h
 | j::ids,O,id,h=>by
  refine M3 ids _ id ?_;by_cases hmem:id∈ids
  ·exact .inl hmem
  right;by_cases e:id=j
  ·subst e;intro k els ro hk;rw[DJ,Apb rfl]at hk;cases hs:O[id]? with
   |none=>simp[hs]at hk
   |some ab=>cases ab<;>simp[hs]at hk;exact hk.2.2
  intro k els ro hk;rw[DJ,Apd e]at hk;rcases h with h|h
  ·rcases Apx.1 h with h|h
   ·exact(e h).elim
   exact(hmem h).elim
  exact h k els ro hk
theorem KE:∀(ids:List Nat) (O:Ac) (id:Nat) {k:Nat} {els:List (List AV)} {ro:Bool},O[id]?=some (.buf k els ro)->∃ro',(Es O ids)[id]?=some (.buf k els ro')
 |[],O,id,k,els,ro,h=>⟨ro,h⟩
 | j::ids,O,id,k,els,ro,h=>by
  have:∃ro1,(D0 O j)[id]?=some (.buf k els ro1):=by
   rw[DJ];split
   ·rw[h];exact⟨true,rfl⟩
   exact⟨ro,h⟩
  obtain⟨ro1,h1⟩:=this;exact KE ids _ id h1
theorem K1(hm:Mem E w g O)(hv:Rep w (A3 E g) g v x)(hy:Bm O x=some y) (hp:∀a,A3 E g a->pr a) (hb:∀id b,(∃full tot off len,x=.bs full id tot off len)->g[id]?=some b->∀β off,b.blk=some β->off<b.o+b.len*b.k->pr ⟨β,off,none⟩):Rep w pr [] v y:=by
 have hmono:∀{v:Value} {x:AV},Rep w (A3 E g) [] v x->Rep w pr [] v x:=fun h=>h.mono (fun a u hc hpr=>⟨hc,hp a hpr⟩) (GLe.nil _)
 cases x with
 | bs full id tot off len=>
  simp only[Bm]at hy;split at hy
  case h_2=>cases hy
  rename_i k els ro hO;split at hy
  case isFalse=>cases hy
  rename_i hcond;obtain⟨c1,c2⟩:=hcond;simp only[Ao7]at hy;subst hy;cases hv with
  | bs _ _ _ _ _ _ _ b hgb hbx htot hat ho=>
   obtain⟨k1,k2,k3,k4,k5,k6,k7⟩:=hm.blk id b _ hgb hO;have hbl:b.len=tot:=by omega
   obtain⟨a,cap,rfl,q2,q3,q4,q5⟩:=hat hbl;have hlen:((els.drop off).take len).length=len:=by simp;omega
   rcases q5 with q5|⟨β,hβ,rfl,q6⟩
   ·have hnil:(els.drop off).take len=[]:=ApM.1 (by omega);rw[hnil];refine .sl _ a len cap false [] 0 (fun _ _=>undef) (by simp;omega) q2 (by intro e;cases e) (fun _=>q5) (by simp) (by simp) (by simp)
   obtain⟨arr,t',fz',g1,g2,g3,g4,g5⟩:=k7 β hβ
   have hgets:∀(i:Nat) (cs:List AV),((els.drop off).take len)[i]?=some cs->i<len/\els[off+i]?=some cs:=by
    intro i cs hi;rw[ApK]at hi;split at hi
    case isFalse=>cases hi
    rw[ApJ]at hi;exact⟨by assumption,hi⟩
   refine .sl _ _ len cap false _ k (fun i j=>arr.getD (b.o+(off+i)*k+j) undef) hlen q2 (by intro e;cases e) (by intro e;cases e) ?_ ?_ ?_
   ·intro i cs hi;exact k5 _ _ (hgets i cs hi).2
   ·intro i cs j x hi hj;obtain⟨hil,hi2⟩:=hgets i cs hi;obtain⟨r1,r2⟩:=g5 _ _ _ _ hi2 hj;have hjk:j<k:=by have:=(Ao6.1 hj).1;rw[k5 _ _ hi2]at this;exact this
    have hoi:off+i<els.length:=(Ao6.1 hi2).1;have hb1:(off+i+1)*k<=els.length*k:=Apn k hoi;have hb2:els.length*k<=b.ce*k:=Apn k g3;rw[ApH,Ap1]at hb1;have e1:b.o+off*b.k+(i*k+j)=b.o+(off+i)*k+j:=by rw[k3,ApH];omega
    refine⟨_,rfl,?_,?_,r2⟩
    ·rw[Bv,e1,cell?_eq g1,AB (by omega)]
    rw[Bv,e1];refine hb id b ⟨_,_,_,_,rfl⟩ hgb β _ hβ ?_;rw[k3,k4];omega
   intro i cs j x hi hj;obtain⟨hil,hi2⟩:=hgets i cs hi;obtain⟨r1,r2⟩:=g5 _ _ _ _ hi2 hj;have hcl:x.closed=true:=App.1 (App.1 c2 cs (Apg hi2)) x (Apg hj);exact hmono (Cj r1 hcl)
 |fn f cs=>
  simp only[Bm]at hy;split at hy
  case isFalse=>cases hy
  rename_i hc;cases hy;refine hmono (Cj hv ?_);simp only[AV.closed,App];rintro⟨x,hx⟩ _;exact App.1 hc x hx
 | sl full els=>
  simp only[Bm,Ao7]at hy;subst hy;cases hv with
  |sl _ a len cap _ _ k c hlen hcap hfull hnone hk hc hr=>
   refine hmono ?_;exact .sl _ a len cap false els k c hlen hcap (by intro e;cases e) hnone hk hc hr
 |ref id off=>simp[Bm]at hy
 |tref id t=>simp[Bm]at hy
 |mref id=>simp[Bm]at hy
 |yld id=>simp[Bm]at hy
 |nref id=>simp[Bm]at hy
 |eref id tot i j=>simp[Bm]at hy
 |agg cs=>simp[Bm]at hy
 |tup cs=>simp[Bm]at hy
 |iface t x=>
  simp only[Bm]at hy;split at hy
  case isFalse=>cases hy
  rename_i hc;simp only[Ao7]at hy;subst hy;exact hmono (Cj hv (by simpa [AV.closed]using hc))
 |_=>simp only[Bm,Ao7]at hy;subst hy;exact hmono (Cj hv (by simp[AV.closed]))
theorem Ju{α β:Type}(f:α->Option β):∀(l:List α) (r:List β),l.mapM f=some r->l.length=r.length/\∀(i:Nat) (y:β),r[i]?=some y->∃x,l[i]?=some x/\f x=some y
 |[],r,h=>by simp at h;subst h;simp
 |a::l,r,h=>by
  simp only[AqB,Arj,Apa,Option.pure_def,Ao7]at h;obtain⟨b,hb,r',hr',rfl⟩:=h;obtain⟨h1,h2⟩:=Ju f l r' hr';refine⟨by simp[h1],?_⟩;intro i y hy;cases i with
  |zero=>simp at hy;subst hy;exact⟨a,rfl,hb⟩
  |succ i=>simpa using h2 i y (by simpa using hy)
theorem Ow(hm:Mem E w g O)(hv:Rep w (A3 E g) g v x)(hy:fz O x=some y) (hp:∀a,A3 E g a->pr a) (hb:∀id b,id∈BW x->g[id]?=some b->∀β off,b.blk=some β->off<b.o+b.len*b.k->pr ⟨β,off,none⟩):Rep w pr [] v y:=by
 by_cases hag:∃cs,x=.agg cs
 ·obtain⟨cs,rfl⟩:=hag;simp only[fz,Ao5]at hy;obtain⟨ys,hys,rfl⟩:=hy;obtain⟨hl,hget⟩:=Ju _ _ _ hys;cases hv with
  | agg _ vs _ hs ho hr=>
   refine .agg _ vs ys (by omega) ?_ ?_
   ·intro i y hi;obtain⟨x,hx,_⟩:=hget i y hi;exact ho i x hx
   intro i y hi;obtain⟨x,hx,hxy⟩:=hget i y hi;refine K1 hm (hr i x hx) hxy hp ?_;rintro id b ⟨full,tot,off,len,rfl⟩ hgb;refine hb id b ?_ hgb;simp only[BW,ArL];exact⟨_,Apg hx,rfl⟩
 have e:fz O x=Bm O x:=by cases x<;>first|rfl|(exact(hag ⟨_,rfl⟩).elim)
 rw[e]at hy;refine K1 hm hv hy hp ?_;rintro id b ⟨full,tot,off,len,rfl⟩ hgb;exact hb id b (by simp[BW]) hgb
theorem PD(hm:Mem E w g O){pr:Addr->Prop}(hp:∀a,A3 E g a->pr a):∀{vs:List Value} {xs ys:List AV},C4 w (A3 E g) g vs xs->xs.mapM (fz O)=some ys ->(∀id b,(∃x∈xs,id∈BW x)->g[id]?=some b->∀β off,b.blk=some β->off<b.o+b.len*b.k->pr ⟨β,off,none⟩)->C4 w pr [] vs ys
 |[],[],ys,_,h,_=>by simp at h;subst h;trivial
 |v::vs,x::xs,ys,hr,h,hb=>by
  simp only[AqB,Arj,Apa,Option.pure_def,Ao7]at h;obtain⟨y,hy,ys',hys,rfl⟩:=h;exact⟨Ow hm hr.1 hy hp (fun id b hi=>hb id b ⟨x,by simp,hi⟩),PD hm hp hr.2 hys (fun id b ⟨x,hx,hi⟩=>hb id b ⟨x,by simp[hx],hi⟩)⟩
theorem Aaq(hm:Mem E w g O)(F:Addr->Prop)(hF:∀a,F a->a.block<w.heap.size)(hG:∀i cs,E.G i=some cs->∀j,¬F ⟨i,j,none⟩)(hp:∀a,A3 E g a->¬F a):Mem (E.toBase.env F) w [] []:=by
 have hnm:∀β,¬Ft [] β:=by rintro β ⟨id,b,h,_⟩;simp at h
 refine⟨rfl,fun id b ab h=>by simp at h,fun id id' b b' β h=>by simp at h,fun a ha=>⟨hF a ha,hnm _⟩,fun i cs h=>?_,hm.maps,fun i vs h=>⟨hnm _,(hm.whole i vs h).2⟩⟩;obtain⟨h1,h2,h3,c,hc⟩:=hm.glob i cs h;refine⟨h1,hnm _,hG i cs h,c,fun j x hj=>?_⟩;obtain⟨q1,q2,q3⟩:=hc j x hj;exact⟨q1,q2.mono (fun a u hcc hpr=>⟨hcc,Bt (hp a hpr) (hnm _)⟩) (GLe.nil _),q3⟩
theorem Oi(hm:Mem E w g O){F:Addr->Prop}{w':World}(he:Evo (E.toBase.env F) 0 w [] w' g'):Mem E w' g O/\Evo E 0 w g w' g:=by
 have hnm:∀β,¬Ft [] β:=by rintro β ⟨id,b,h,_⟩;simp at h
 have hb:∀β,β<w.heap.size->w'.heap[β]?=w.heap[β]?:=fun β hβ=>(he.blocks β hβ (hnm _)).1
 have hcells:∀a u,w.cell? a=some u->A3 E g a->w'.cell? a=some u/\A3 E g a:=fun a u hc hp=>by
  refine⟨?_,hp⟩;rw[<-hc];simp only[World.cell?,hb _ (cell?_lt hc)]
 refine⟨⟨hm.len,fun id b ab h1 h2=>(hm.blk id b ab h1 h2).mono hcells (GLe.refl _) (fun β hβ=>hb _ (EG hm h1 hβ)),hm.inj,D8 hm he.size (fun _ _ h=>h),Gd hm he.size hcells (fun _ _ h=>h),H5 hm (fun r es cl hr=>(hb r (Apl.1 hr).1).trans hr),Ey hm (fun β hβ hn=>⟨hb β hβ,hn⟩)⟩,?_⟩;exact⟨he.os,he.tape,he.output,he.size,hcells,fun β hβ hn=>⟨hb β hβ,hn⟩,fun _ h=>absurd h (Ap0 _)⟩
def AV.flat:AV->Bool
 |.bool _|.int ..|.str _=>true
 |_=>false
def AV.flatAgg:AV->Bool
 |.agg cs=>cs.all AV.flat
 |x=>x.flat
def AV.scalar:AV->Bool
 |.tup xs=>xs.all AV.flatAgg
 |x=>x.flatAgg
theorem XC(h:Rep w pr g v x)(hx:x.flat=true):Rep w pr' g' v x:=by
 cases x<;>first
  |(simp[AV.flat]at hx;done)
  |(cases h;exact .bool _ _)
  |(cases h;exact .int _ _ _)
  |(cases h;exact .str _ _ _ (by assumption))
theorem PX(h:Rep w pr g v x)(hx:x.flatAgg=true):Rep w pr' g' v x:=by
 by_cases hag:∃cs,x=.agg cs
 ·obtain⟨cs,rfl⟩:=hag;cases h with
  |agg _ vs _ hs ho hr=>exact .agg _ vs cs hs ho (fun i x hi=>XC (hr i x hi) (App.1 hx x (Apg hi)))
 have e:x.flatAgg=x.flat:=by cases x<;>first|rfl|(exact(hag ⟨_,rfl⟩).elim)
 exact XC h (e ▸ hx)
theorem Y8(h:Rep w pr g v x)(hx:x.scalar=true):Rep w pr' g' v x:=by
 by_cases htu:∃xs,x=.tup xs
 ·obtain⟨xs,rfl⟩:=htu;cases h with
  |tup _ vs _ hs hr=>exact .tup _ vs xs hs (fun i x hi=>PX (hr i x hi) (App.1 hx x (Apg hi)))
 have e:x.scalar=x.flatAgg:=by cases x<;>first|rfl|(exact(htu ⟨_,rfl⟩).elim)
 exact PX h (e ▸ hx)
theorem Lk{id:Nat}{b:GB}(hb:g[id]?=some b){a:Addr}(hp:A3 E g a):A3 E (g.set id { b with ro:=true }) a:=by
 refine⟨hp.1,fun id' c hc he=>?_⟩;by_cases e:id'=id
 ·subst e;rw[AJ hb]at hc;cases hc;exact⟨rfl,(hp.2 id' b hb he).2⟩
 rw[Dy e]at hc;exact hp.2 id' c hc he
def Xp(g g':Gh):Prop:=∀(id:Nat) (b:GB),g[id]?=some b->∃b',g'[id]?=some b'/\b.same b'
theorem US(hm:Mem E w g O)(id:Nat):∃g',Mem E w g' (D0 O id)/\GLe g g'/\Evo E 0 w g w g'/\Xp g g'/\∀a,A3 E g a->A3 E g' a:=by
 unfold D0;cases h:O[id]? with
 |none=>exact⟨g,hm,GLe.refl _,Evo.refl _ _ _ _,fun id b hb=>⟨b,hb,GB.same.refl b⟩,fun a h=>h⟩
 | some ab=>
  obtain⟨b,hb⟩:=g_of hm h;have:=Afi hm hb h
  have hs:Xp g (g.set id { b with ro:=true }):=by
   intro id' c hc;by_cases e:id'=id
   ·subst e;rw[hb]at hc;cases hc;exact⟨_,AJ hb,rfl,rfl,rfl,rfl,rfl,rfl⟩
   exact⟨c,by rw[Dy e];exact hc,GB.same.refl c⟩
  cases ab with
  |box cs ro=>exact⟨_,this.1,this.2.1,this.2.2,hs,fun a=>Lk hb⟩
  |buf k els ro=>exact⟨_,this.1,this.2.1,this.2.2,hs,fun a=>Lk hb⟩
  |obj o=>exact⟨_,this.1,this.2.1,this.2.2,hs,fun a=>Lk hb⟩
  |mp st es=>exact⟨_,this.1,this.2.1,this.2.2,hs,fun a=>Lk hb⟩
  |lp y N1 l1 ps as1 bd=>exact⟨_,this.1,this.2.1,this.2.2,hs,fun a=>Lk hb⟩
  |gone=>exact⟨_,this.1,this.2.1,this.2.2,hs,fun a=>Lk hb⟩
  |tb T l=>exact⟨_,this.1,this.2.1,this.2.2,hs,fun a=>Lk hb⟩
theorem GB.same.trans{a b c:GB}(h:a.same b)(k:b.same c):a.same c:=by
 obtain⟨h1,h2,h3,h4,h5,h6⟩:=h;obtain⟨k1,k2,k3,k4,k5,k6⟩:=k;exact⟨k1.trans h1,k2.trans h2,k3.trans h3,k4.trans h4,k5.trans h5,k6.trans h6⟩
theorem KH:∀(ids:List Nat) {g:Gh} {O:Ac},Mem E w g O->∃g',Mem E w g' (Es O ids)/\GLe g g'/\Evo E 0 w g w g'/\Xp g g'/\∀a,A3 E g a->A3 E g' a
 |[],g,O,hm=>⟨g,hm,GLe.refl _,Evo.refl _ _ _ _,fun id b hb=>⟨b,hb,GB.same.refl b⟩,fun a h=>h⟩
 |id::ids,g,O,hm=>by
  obtain⟨g1,h1,h2,h3,h4,h5⟩:=US hm id;obtain⟨g2,k1,k2,k3,k4,k5⟩:=KH ids h1;refine⟨g2,k1,h2.trans k2,h3.trans k3,fun i b hb=>?_,fun a h=>k5 a (h5 a h)⟩;obtain⟨b1,hb1,s1⟩:=h4 i b hb;obtain⟨b2,hb2,s2⟩:=k4 i b1 hb1;exact⟨b2,hb2,s1.trans s2⟩
theorem TI(h:fz O x=some y){id:Nat}(hi:id∈BW x):∃k els ro,O[id]?=some (.buf k els ro):=by
 have key:∀{x y:AV} {id:Nat} {full:Bool} {tot off len:Nat},x=.bs full id tot off len->Bm O x=some y->∃k els ro,O[id]?=some (.buf k els ro):=by
  intro x y id full tot off len hx h;subst hx;simp only[Bm]at h;split at h
  ·exact⟨_,_,_,by assumption⟩
  cases h
 cases x with
 |bs full j tot off len=>
  simp only[BW,ApQ]at hi;subst hi;exact key (full:=full) rfl h
 | agg cs=>
  simp only[fz,Ao5]at h;obtain⟨ys,hys,rfl⟩:=h;obtain⟨hl,hget⟩:=Ju _ _ _ hys;simp only[BW,ArL]at hi;obtain⟨c,hc,hcid⟩:=hi;obtain⟨i,hil,rfl⟩:=Ap3 hc;obtain⟨x,hx,hxy⟩:=hget i ys[i] (Ao9 (by omega));rw[Ao9 hil]at hx;cases hx;split at hcid
  ·rename_i full id' tot off len he;cases hcid;exact key he hxy
  cases hcid
 |_=>simp[BW]at hi
theorem AaH(hop:o.op=.call c)(hc:c.callee=.value f){ρ:Operand->Value}{caps:Array Value}(hf:ρ f=.func (.func fid) #[] caps) {fn:Func} {code:Code} (hfn:B.P.funcs[fid]?=some fn) (hb:fn.body=some code) (hn:(fn.name == "runtime.NumGoroutine")=false) (w:World) :(execOp ρ o).run B.P w=.ok (.enter fid (c.args.map ρ++caps)) w:=by
 simp only[execOp,hop,resolve,hc,hf,Deferred.ofValue,Sem.run_bind,Sem.run_pure,Result.andThen_ok,invoke,callFunc,run_program,hfn,hn,hb];simp[hn,hb]
theorem Jf(hop:o.op=.call c)(hc:c.callee=.value f){a:Act}{caps:Array Value}(hf:a.eval f=.func (.func fid) #[] caps){w:World}{R:Ending->World->Prop} (h:DoCall B.P fid (c.args.map a.eval++caps) w R) {next:Act->World->Prop} {Q:Exit->Act->World->Prop} (hk:∀e w',R e w'->match e with|.returned v=>next (a.put o.dst v) w'|.panicked ch=>Q (.panic ch) a w'|.outgrown=>LetsOut Q):o.wp B.P a w next Q:=by
 unfold Oper.wp;rcases h with⟨⟨fn,code,h1,h2,h3⟩,h⟩|⟨v,h1,h2⟩
 ·rw[AaH (B:=B) hop hc hf h1 h2 h3,Oper.upon_enter];refine h.mono fun e w' hr=>?_
  have:=hk e w' hr;cases e<;>exact this
 have:(execOp a.eval o).run B.P w=.ok (.value v) w:=by
  simp only[execOp,hop,resolve,hc,hf,Deferred.ofValue,Sem.run_bind,Sem.run_pure,Result.andThen_ok,invoke,Array.empty_append];exact h1
 rw[this,Oper.upon_value];exact hk _ _ h2
theorem DZ{w:World}{f:FuncId}{cs:List AV}(h:Rep w pr g v (.fn f cs))(hb:∀ys,cs≠[.tup ys]:=by simp):∃caps,v=.func (.func f) #[] caps/\C4 w pr g caps.toList cs:=by
 cases h with
 |fnb _ _ fs xs hs hr=>exact absurd rfl (hb xs)
 | fn _ _ caps _ hs hr hn=>
  refine⟨caps,rfl,?_⟩
  have key:∀(vs:List Value) (xs:List AV),vs.length=xs.length->(∀(i:Nat) (x:AV),xs[i]?=some x->Rep w pr g (vs.getD i undef) x)->C4 w pr g vs xs:=by
   intro vs
   induction vs with
   |nil=>intro xs hl _;cases xs<;>first|trivial|simp at hl
   |cons v vs ih=>
    intro xs hl h;cases xs with
    |nil=>simp at hl
    |cons x xs=>exact⟨by simpa using h 0 x rfl,ih xs (by simpa using hl) (fun i y hy=>by simpa using h (i+1) y (by simpa using hy))⟩
  refine key _ _ (by simpa using hs) (fun i x hi=>?_);have:=hr i x hi;simpa [Apt,ApU]using this
theorem Fc{pr:Addr->Prop}:∀{vs us:List Value} {xs ys:List AV},C4 w pr g vs xs->C4 w pr g us ys->C4 w pr g (vs++us) (xs++ys)
 |[],_,[],_,_,h=>h
 |_::_,_,_::_,_,h,k=>⟨h.1,Fc h.2 k⟩
theorem Afp(h:Mem E w g O):Mem (E.toBase.env E.F) w g O:=⟨h.len,h.blk,h.inj,h.foreign,h.glob,h.maps,h.whole⟩
theorem Afm(h:Mem (E.toBase.env E.F) w g O):Mem E w g O:=⟨h.len,h.blk,h.inj,h.foreign,h.glob,h.maps,h.whole⟩
theorem AfH{n:Nat}{w':World}(h:Evo (E.toBase.env E.F) n w g w' g'):Evo E n w g w' g':=⟨h.os,h.tape,h.output,h.size,h.cells,h.blocks,h.ids⟩
theorem KZ(hop:o.op=.call c)(hc:c.callee=.value f) {fid:FuncId} (hf:ev st.fr f=.fn fid []) {args:List AV} (ha:(c.args.toList.map (ev st.fr)).mapM (fz st.O)=some args) {r:AV} (hr0:r.scalar=true) (hcon:Con E.toBase fid args [] (fun r' _=>r'=r)) {a:Act} (hr:Rel E w g st a) {next:Act->World->Prop} {Q:Exit->Act->World->Prop} (hnext:∀a' w' g',Rel E w' g' ⟨Ay st.fr o.dst r,st.O⟩ a'->Evo E 0 w g w' g'->GLe g g'->next a' w'):o.wp E.P a w next Q:=by
 have hfv:=En hr f;rw[hf]at hfv;obtain⟨capv,hcv,hcr⟩:=DZ hfv
 have hcapv:capv=#[]:=by
  have:=CY hcr;apply AqM;simpa using this
 subst hcapv;have hmn:Mem (E.toBase.env noF) w [] []:=Aaq hr.mem _ (fun _ h=>h.elim) (fun _ _ _ _ h=>h) (fun _ _ h=>h);have hpt:∀a,A3 (E.toBase.env noF) [] a:=fun a=>Bt (fun h=>h) (by rintro⟨id,b,h,_⟩;simp at h)
 refine Jf (B:=E.toBase) hop hc hcv (hcon.call (fun _=>False) w [] (c.args.map a.eval++#[]) hmn ?_) ?_
 ·rw[Aq6,Aqe];exact PD hr.mem (fun a _=>hpt a) (DQ _ _ (En hr) _) ha (fun _ _ _ _ _ _ _ _=>hpt _)
 rintro e w' ⟨v,r',O',g',rfl,rfl,hm',he,hrep⟩;obtain⟨m1,m2⟩:=Oi hr.mem he;exact hnext _ w' g (FI (Iy hr m1 (GLe.refl _) m2) o.dst (Y8 hrep hr0)) m2 (GLe.refl _)
theorem I0(hop:o.op=.call c)(hc:c.callee=.value f) {fid:FuncId} (hf:ev st.fr f=.fn fid []) {args:List AV} (ha:(c.args.toList.map (ev st.fr)).mapM (fz st.O)=some args) {r:AV} (hcon:Con E.toBase fid args [] (fun r' O'=>r'=r/\O'=[])) {a:Act} (hr:Rel E w g st a) {next:Act->World->Prop} {Q:Exit->Act->World->Prop} (hnext:∀a' w' g',Rel E w' g' ⟨Ay st.fr o.dst r,Es st.O ((c.args.toList.map (ev st.fr)).flatMap BW)⟩ a'->Evo E 0 w g w' g'->GLe g g'->next a' w'):o.wp E.P a w next Q:=by
 have hfv:=En hr f;rw[hf]at hfv;obtain⟨capv,hcv,hcr⟩:=DZ hfv
 have hcapv:capv=#[]:=by
  have:=CY hcr;apply AqM;simpa using this
 subst hcapv;obtain⟨g1,m1,hle1,e1,hs1,hp1⟩:=KH ((c.args.toList.map (ev st.fr)).flatMap BW) hr.mem;have hnm:∀β,¬Ft [] β:=by rintro β ⟨id,b,h,_⟩;simp at h
 have hmn:Mem (E.toBase.env fun a=>¬A3 E g1 a) w [] []:=by
  refine Aaq m1 _ (fun a ha=>?_) (fun i cs hi j hn=>hn ?_) (fun a hp hn=>hn hp)
  ·refine ArQ fun hlt=>ha ⟨fun hF=>hlt (m1.foreign a hF).1,fun id b hb hβ=>?_⟩
   exact(hlt (EG m1 hb hβ)).elim
  exact Bt ((m1.glob i cs hi).2.2.1 j) (m1.glob i cs hi).2.1
 have hpi:∀a,A3 E g1 a->A3 (E.toBase.env fun a=>¬A3 E g1 a) [] a:=fun a ha=>Bt (fun hn=>hn ha) (hnm _)
 have hpo:∀a,A3 (E.toBase.env fun a=>¬A3 E g1 a) [] a->A3 E g1 a:=fun a ha=>Classical.not_not.1 ha.1
 refine Jf (B:=E.toBase) hop hc hcv (hcon.call (fun a=>¬A3 E g1 a) w [] (c.args.map a.eval++#[]) hmn ?_) ?_
 ·rw[Aq6,Aqe];refine PD hr.mem (fun a ha=>hpi a (hp1 a ha)) (DQ _ _ (En hr) _) ha ?_;rintro id b ⟨x,hx,hix⟩ hb β off hβ hoff;refine hpi _ ?_;obtain⟨hl,hget⟩:=Ju _ _ _ ha;obtain⟨i,hil,rfl⟩:=Ap3 hx;obtain⟨x',hx',hxy⟩:=hget i (args[i]'(by omega)) (Ao9 (by omega));rw[Ao9 hil]at hx';cases hx';obtain⟨k,els,ro,hO⟩:=TI hxy hix;obtain⟨ro',hO'⟩:=KE ((c.args.toList.map (ev st.fr)).flatMap BW) st.O id hO;obtain⟨b1,hb1,t1,t2,t3,t4,t5,t6⟩:=hs1 id b hb;have hro:=M3 ((c.args.toList.map (ev st.fr)).flatMap BW) st.O id (.inl (List.mem_flatMap.2 ⟨_,hx,hix⟩)) _ _ _ hO';have hbro:b1.ro=true:=by rw[(m1.blk id b1 _ hb1 hO').2.1,hro]
  refine⟨fun hF=>(m1.foreign _ hF).2 ⟨id,b1,hb1,t1.trans hβ⟩,fun id' c hc he=>?_⟩;have:id'=id:=m1.inj id' id c b1 β hc hb1 he (t1.trans hβ);subst this;rw[hb1]at hc;cases hc;exact⟨hbro,by rw[t2,t3,t4];exact hoff⟩
 rintro e w' ⟨v,r',O',g',rfl,⟨rfl,rfl⟩,hm',he,hrep⟩;obtain⟨n1,n2⟩:=Oi m1 he;have hg':g'=[]:=ApM.1 hm'.len;subst hg';have hE1:Evo E 0 w g w' g1:=e1.trans n2;exact hnext _ w' g1 (FI (Iy hr n1 hle1 hE1) o.dst (hrep.mono (fun a u hcell hp=>⟨hcell,hpo a hp⟩) (GLe.nil _))) hE1 hle1
def UD(E:Env)(f:FuncId)(args:List AV)(O:Ac)(r:AV)(O':Ac):Prop :=
 ∀(w:World) (g:Gh) (vs:Array Value),Mem E w g O->C4 w (A3 E g) g vs.toList args ->
  DoCall E.P f vs w (fun e w'=>∃v g',e=.returned v/\Mem E w' g' O'/\GLe g g'/\Evo E 0 w g w' g'/\Rep w' (A3 E g') g' v r)
theorem OR{f:FuncId}{args:List AV}{r:AV}{O':Ac}(h:UD (E.toBase.env E.F) f args O r O'):UD E f args O r O':=by
 refine fun w g vs hm ha=>(h w g vs (Afp hm) ha).mono ?_
 rintro e w' ⟨v,g',h1,h2,h3,h4,h5⟩;exact⟨v,g',h1,Afm h2,h3,AfH h4,h5⟩
theorem W8(hop:o.op=.call c)(hc:c.callee=.value f) {fid:FuncId} (hf:ev st.fr f=.fn fid []) {r:AV} {O':Ac} (hcon:UD E fid (c.args.toList.map (ev st.fr)) st.O r O') {a:Act} (hr:Rel E w g st a) {next:Act->World->Prop} {Q:Exit->Act->World->Prop} (hnext:∀a' w' g',Rel E w' g' ⟨Ay st.fr o.dst r,O'⟩ a'->Evo E 0 w g w' g'->GLe g g'->next a' w'):o.wp E.P a w next Q:=by
 have hfv:=En hr f;rw[hf]at hfv;obtain⟨capv,hcv,hcr⟩:=DZ hfv
 have hcapv:capv=#[]:=by
  have:=CY hcr;apply AqM;simpa using this
 subst hcapv;refine Jf (B:=E.toBase) hop hc hcv (hcon w g (c.args.map a.eval++#[]) hr.mem ?_) ?_
 ·rw[Aq6,Aqe];exact DQ _ _ (En hr) _
 rintro e w' ⟨v,g',rfl,hm',hle,he,hrep⟩;exact hnext _ w' g' (FI (Iy hr hm' hle he) o.dst hrep) he hle
theorem VK(hop:o.op=.call c)(hc:c.callee=.value f){ρ:Operand->Value}{fs:Array Value}(hf:ρ f=.func (.func fid) fs #[]) {fn:Func} {code:Code} (hfn:B.P.funcs[fid]?=some fn) (hb:fn.body=some code) (hn:(fn.name == "runtime.NumGoroutine")=false) (w:World) :(execOp ρ o).run B.P w=.ok (.enter fid (fs++c.args.map ρ)) w:=by
 simp only[execOp,hop,resolve,hc,hf,Deferred.ofValue,Sem.run_bind,Sem.run_pure,Result.andThen_ok,invoke,callFunc,run_program,hfn,hn,hb];simp[hn,hb]
theorem OP(hop:o.op=.call c)(hc:c.callee=.value f){a:Act}{fs:Array Value}(hf:a.eval f=.func (.func fid) fs #[]){w:World}{R:Ending->World->Prop} (h:DoCall B.P fid (fs++c.args.map a.eval) w R) {next:Act->World->Prop} {Q:Exit->Act->World->Prop} (hk:∀e w',R e w'->match e with|.returned v=>next (a.put o.dst v) w'|.panicked ch=>Q (.panic ch) a w'|.outgrown=>LetsOut Q):o.wp B.P a w next Q:=by
 unfold Oper.wp;rcases h with⟨⟨fn,code,h1,h2,h3⟩,h⟩|⟨v,h1,h2⟩
 ·rw[VK (B:=B) hop hc hf h1 h2 h3,Oper.upon_enter];refine h.mono fun e w' hr=>?_
  have:=hk e w' hr;cases e<;>exact this
 have:(execOp a.eval o).run B.P w=.ok (.value v) w:=by
  simp only[execOp,hop,resolve,hc,hf,Deferred.ofValue,Sem.run_bind,Sem.run_pure,Result.andThen_ok,invoke,Aq6];exact h1
 rw[this,Oper.upon_value];exact hk _ _ h2
theorem N8{w:World}{f:FuncId}{xs:List AV}(h:Rep w pr g v (.fn f [.tup xs])):∃fs,v=.func (.func f) fs #[]/\C4 w pr g fs.toList xs:=by
 cases h with
 |fn _ _ caps _ hs hr hn=>exact absurd rfl (hn xs)
 | fnb _ _ fs _ hs hr=>
  refine⟨fs,rfl,?_⟩
  have key:∀(vs:List Value) (xs:List AV),vs.length=xs.length->(∀(i:Nat) (x:AV),xs[i]?=some x->Rep w pr g (vs.getD i undef) x)->C4 w pr g vs xs:=by
   intro vs
   induction vs with
   |nil=>intro xs hl _;cases xs<;>first|trivial|simp at hl
   |cons v vs ih=>
    intro xs hl h;cases xs with
    |nil=>simp at hl
    |cons x xs=>exact⟨by simpa using h 0 x rfl,ih xs (by simpa using hl) (fun i y hy=>by simpa using h (i+1) y (by simpa using hy))⟩
  refine key _ _ (by simpa using hs) (fun i x hi=>?_);have:=hr i x hi;simpa [Apt,ApU]using this
theorem LH(hop:o.op=.call c)(hc:c.callee=.value f) {fid:FuncId} {xs:List AV} (hf:ev st.fr f=.fn fid [.tup xs]) {r:AV} {O':Ac} (hcon:UD E fid (xs++c.args.toList.map (ev st.fr)) st.O r O') {a:Act} (hr:Rel E w g st a) {next:Act->World->Prop} {Q:Exit->Act->World->Prop} (hnext:∀a' w' g',Rel E w' g' ⟨Ay st.fr o.dst r,O'⟩ a'->Evo E 0 w g w' g'->GLe g g'->next a' w'):o.wp E.P a w next Q:=by
 have hfv:=En hr f;rw[hf]at hfv;obtain⟨fs,hcv,hcr⟩:=N8 hfv;refine OP (B:=E.toBase) hop hc hcv (hcon w g (fs++c.args.map a.eval) hr.mem ?_) ?_
 ·rw[AqZ,Aqe];exact Fc hcr (DQ _ _ (En hr) _)
 rintro e w' ⟨v,g',rfl,hm',hle,he,hrep⟩;exact hnext _ w' g' (FI (Iy hr hm' hle he) o.dst hrep) he hle
theorem PP(hop:o.op=.call c)(hc:c.callee=.value f) {fid:FuncId} {caps:List AV} (hb:∀ys,caps≠[.tup ys]) (hf:ev st.fr f=.fn fid caps) {r:AV} {O':Ac} (hcon:UD E fid (c.args.toList.map (ev st.fr)++caps) st.O r O') {a:Act} (hr:Rel E w g st a) {next:Act->World->Prop} {Q:Exit->Act->World->Prop} (hnext:∀a' w' g',Rel E w' g' ⟨Ay st.fr o.dst r,O'⟩ a'->Evo E 0 w g w' g'->GLe g g'->next a' w'):o.wp E.P a w next Q:=by
 have hfv:=En hr f;rw[hf]at hfv;obtain⟨capv,hcv,hcr⟩:=DZ hfv hb;refine Jf (B:=E.toBase) hop hc hcv (hcon w g (c.args.map a.eval++capv) hr.mem ?_) ?_
 ·rw[AqZ,Aqe];exact Fc (DQ _ _ (En hr) _) hcr
 rintro e w' ⟨v,g',rfl,hm',hle,he,hrep⟩;exact hnext _ w' g' (FI (Iy hr hm' hle he) o.dst hrep) he hle
end Go.Rv
