/-
  Part 43.
-/
import Derived.Test.YtldngkmkhfddpaaGreatDoorYW42
namespace Go.Rv
set_option linter.unusedVariables false
set_option linter.unusedSimpArgs false
variable{v:Value}{x y:AV}
variable {E:Env}
def AeG(f:AV->Option AV):List AV->Option (List AV)
 |[]=>some []
 |x::l=>(f x).bind fun y=>(AeG f l).bind fun ys=>some (y::ys)
theorem MR{f:AV->Option AV}:∀{l l':List AV},AeG f l=some l'->l'.length=l.length/\∀(i:Nat) y,l'[i]?=some y->∃x,l[i]?=some x/\f x=some y
 |[],l',h=>by cases h;exact⟨rfl,fun i y h=>by simp at h⟩
 |x::l,l',h=>by
  unfold AeG at h;rw[AqK]at h;obtain⟨y,hy,h⟩:=h;rw[AqK]at h;obtain⟨ys,hys,h⟩:=h;cases h;obtain⟨q1,q2⟩:=MR hys;refine⟨by simp[q1],fun i z hz=>?_⟩;cases i with
  |zero=>simp at hz;subst hz;exact⟨x,rfl,hy⟩
  |succ i=>simp at hz;obtain⟨u,hu,hf⟩:=q2 i z hz;exact⟨u,by simpa using hu,hf⟩
def Zx(O:Ac)(id:Nat):AV->Option AV
 |.ref i off=>if i=id then(match O[id]? with
  |some (.box cs _)=>if cs.all AV.closed=true then some (.rp (cs.drop off))else none
  |_=>none)else some (.ref i off)
 |x=>some x
def AaG(O:Ac)(id:Nat):AV->Option AV
 |.fn _ [.tup _]=>none
 |.fn f cs=>(AeG (Zx O id) cs).map (.fn f)
 |x=>some x
def Akp(O:Ac)(id:Nat):AV->Option AV
 |.agg cs=>(AeG (AaG O id) cs).map .agg
 |x=>AaG O id x
section
variable {w:World}{g:Gh}{O:Ac}{id:Nat}
theorem X7(hm:Mem E w g O)(hro:∀cs ro,O[id]?=some (.box cs ro)->ro=true)(hr:Rep w (Ay E g) g v x)(h:Zx O id x=some y):Rep w (Ay E g) g v y:=by
 unfold Zx at h;split at h
 ·rename_i i off;split at h
  ·rename_i hi;subst hi;split at h
   ·rename_i cs ro hO;split at h
    ·rename_i hc;cases h;cases hr with
     |ref _ _ _ β b hb hx hβ=>
     obtain⟨k1,k2,k3,k4,k5,β',arr,t,fz,k6,k7,k8,k9,k10⟩:=hm.blk _ b _ hb hO;rw[hβ]at k6;cases k6;have:=hro cs ro hO;subst this;have hcl:∀(j:Nat) x,(cs.drop off)[j]?=some x->cs[off+j]?=some x:=fun j x hx=>by rw[Are]at hx;exact hx
     refine .rp _ _ _ (fun j=>arr.getD (off+j) undef) (fun j x hx=>?_) (fun j x hx=>?_)
     ·have h1:=hcl j x hx;have hlt:off+j<arr.size:=by rw[k8];exact(AqD.1 h1).1
      have hadd:(⟨β,off,none⟩:Addr).add j=⟨β,off+j,none⟩:=by
       unfold Addr.add;split
       ·rename_i e;subst e;rfl
       rfl
      rw[hadd];refine⟨?_,⟨fun hF=>(hm.foreign _ hF).2 ⟨_,b,hb,hβ⟩,fun id2 b2 hb2 hβ2=>?_⟩,(k10 _ _ h1).2⟩
      ·show(match w.heap[β]? with
        |some (.cells c _ _)=>if(none:Option _).isSome=true then none else c[off+j]?
        |_=>none)=_
       rw[k7,Arv,Aq2 hlt];simp[Aq2 hlt]
      have:id2=i:=hm.inj _ _ _ _ _ hb2 hb hβ2 hβ;subst this;rw[hb]at hb2;cases hb2;refine⟨k2,?_⟩;show off+j<_;rw[k3,k4,k5];omega
     have h1:=hcl j x hx;exact C7 (k10 _ _ h1).1 (AqW.1 hc x (AqO h1))
    cases h
   cases h
  cases h;exact hr
 cases h;exact hr
theorem Tt(hm:Mem E w g O)(hro:∀cs ro,O[id]?=some (.box cs ro)->ro=true)(hr:Rep w (Ay E g) g v x)(h:AaG O id x=some y):Rep w (Ay E g) g v y:=by
 unfold AaG at h;split at h
 ·cases h
 ·rename_i f cs hne;rw[AqE]at h;obtain⟨l,hl,h⟩:=h;cases h;obtain⟨q1,q2⟩:=MR hl;cases hr with
  |fnb=>exact(hne _ rfl).elim
  |fn _ _ caps _ hs hr hn=>
  refine .fn _ _ _ _ (by omega) (fun i y hy=>?_) (fun ys e=>?_)
  ·obtain⟨x,hx,hf⟩:=q2 i y hy;exact X7 hm hro (hr i x hx) hf
  subst e;obtain⟨x,hx,hf⟩:=q2 0 (.tup ys) rfl;cases x with
  |ref i off=>
   simp only[Zx]at hf
   repeat' split at hf
   all_goals cases hf
  | tup zs=>
   cases cs with
   |nil=>cases hx
   | cons c r=>
    cases hx
    have:r=[]:=by
     have:=q1;simp at this;exact this
    subst this;exact hne _ rfl
  |_=>simp[Zx]at hf
 cases h;exact hr
theorem AdU(hm:Mem E w g O)(hro:∀cs ro,O[id]?=some (.box cs ro)->ro=true)(hr:Rep w (Ay E g) g v x)(h:Akp O id x=some y):Rep w (Ay E g) g v y:=by
 unfold Akp at h;split at h
 ·rename_i cs;rw[AqE]at h;obtain⟨l,hl,h⟩:=h;cases h;obtain⟨q1,q2⟩:=MR hl;cases hr with
  |agg _ vs _ hs ho hr=>
  refine .agg _ _ _ (by omega) (fun i y hy=>?_) (fun i y hy=>?_)
  ·obtain⟨x,hx,hf⟩:=q2 i y hy;exact ho i x hx
  obtain⟨x,hx,hf⟩:=q2 i y hy;exact Tt hm hro (hr i x hx) hf
 exact Tt hm hro hr h
end
theorem Anm{n N:Nat}{l:Fr}{O O':Ac}(t id:Nat)(h:look l t=x)(hz:Akp O id x=some y)(hm:EB O [id]=O') :Weak E n ⟨Ah N l,O⟩ ⟨Ah N ((t,y)::l),O'⟩:=by
 subst hm;refine Er fun a w g hr=>?_
 obtain⟨g',hr',he,hs,hp⟩:=IR hr n [id];refine⟨g',⟨?_,?_,hr'.mem,hr.defers.evo he⟩,he⟩
 ·have:=hr.size;simpa [Ah]using this
 intro s x' hx;rw[BT]at hx;split at hx
 case isFalse=>cases hx
 rename_i hs';cases hx;show Rep _ _ _ _ (if s=t then _ else look l s);by_cases e:s=t
 ·subst e;rw[AqJ rfl];have hslot:=hr'.slot s (look l s) (by rw[BT,AqJ hs']);rw[h]at hslot;have hO:∀i,(EB O [id])[i]?=if i=id then(O[i]?).map (fun ab=>match ab with|.box cs _=>.box cs true|.buf k els _=>.buf k els true|.obj o=>.obj o|.tb T l=>.tb T l|.mp st es=>.mp st es|.lp y N l ps a b=>.lp y N l ps a b|.gone=>.gone)else O[i]?:=fun i=>DN O id i
  refine AdU (id:=id) hr'.mem ?_ hslot (y:=y) ?_
  ·intro cs ro h1;rw[hO,AqJ rfl]at h1;cases h2:O[id]? with
   |none=>rw[h2]at h1;cases h1
   |some b=>rw[h2]at h1;cases b<;>simp at h1;exact h1.2
  rw[<-hz]
  have hC:Zx (EB O [id]) id=Zx O id:=by
   funext x;cases x<;>try rfl
   rename_i i off;simp only[Zx];split
   ·rename_i e;subst e;rw[hO,AqJ rfl];cases O[i]? with
    |none=>rfl
    |some b=>cases b<;>rfl
   rfl
  have hF:AaG (EB O [id]) id=AaG O id:=by
   funext x;unfold AaG;rw[hC]
  unfold Akp;rw[hF]
 rw[AqI e];exact hr'.slot s (look l s) (by rw[BT,AqJ hs'])
theorem AdX{w:World}{g:Gh}{O:Ac}(hm:Mem E w g O){id:Nat}{b:GB}{ab ab':ABlk}(hb:g[id]?=some b)(hO:O[id]?=some ab)(hab:BlkOk E w g b ab'):Mem E w g (O.set id ab'):=by
 refine⟨by simp[hm.len],fun id' c ab2 e1 e2=>?_,hm.inj,hm.foreign,hm.glob,hm.maps,hm.whole⟩;by_cases e:id'=id
 ·subst e;rw[hb]at e1;cases e1;rw[AW hO]at e2;cases e2;exact hab
 rw[D6 e]at e2;exact hm.blk id' c ab2 e1 e2
theorem Wr{n:Nat}{fr:List AV}{O O':Ac}(b id:Nat){cs cs':List AV}{ro:Bool}(hb:O[b]?=some (.box cs ro))(hne:b≠id)(hz:AeG (AaG O id) cs=some cs')(hm:(EB O [id]).set b (.box cs' ro)=O'):Weak E n ⟨fr,O⟩ ⟨fr,O'⟩:=by
 subst hm;refine Er fun a w g hr=>?_
 obtain⟨g',hr',he,hs,hp⟩:=IR hr n [id];have hO:∀i,(EB O [id])[i]?=if i=id then(O[i]?).map (fun ab=>match ab with|.box cs _=>.box cs true|.buf k els _=>.buf k els true|.obj o=>.obj o|.tb T l=>.tb T l|.mp st es=>.mp st es|.lp y N l ps a b=>.lp y N l ps a b|.gone=>.gone)else O[i]?:=fun i=>DN O id i
 have hro:∀cs ro,(EB O [id])[id]?=some (.box cs ro)->ro=true:=by
  intro cs ro h1;rw[hO,AqJ rfl]at h1;cases h2:O[id]? with
  |none=>rw[h2]at h1;cases h1
  |some b=>rw[h2]at h1;cases b<;>simp at h1;exact h1.2
 have hF:AaG (EB O [id]) id=AaG O id:=by
  have hC:Zx (EB O [id]) id=Zx O id:=by
   funext x;cases x<;>try rfl
   rename_i i off;simp only[Zx];split
   ·rename_i e;subst e;rw[hO,AqJ rfl];cases O[i]? with
    |none=>rfl
    |some b=>cases b<;>rfl
   rfl
  funext x;unfold AaG;rw[hC]
 have hb':(EB O [id])[b]?=some (.box cs ro):=by rw[hO,AqI hne];exact hb
 have hlt:b<g'.length:=by rw[hr'.mem.len];exact(AqD.1 hb').1
 have hgb:=AqH hlt;obtain⟨q1,q2⟩:=MR hz;refine⟨g',⟨hr'.size,hr'.slot,AdX hr'.mem hgb hb' ?_,hr'.defers⟩,he⟩;obtain⟨k1,k2,k3,k4,k5,β,arr,t,fz,k6,k7,k8,k9,k10⟩:=hr'.mem.blk b _ _ hgb hb';refine⟨k1,k2,k3,by omega,k5,β,arr,t,fz,k6,k7,by omega,k9,fun j y hy=>?_⟩;obtain⟨x,hx,hf⟩:=q2 j y hy;exact⟨Tt (id:=id) hr'.mem hro (k10 j x hx).1 (by rw[hF];exact hf),(k10 j x hx).2⟩
theorem Vh{n:Nat}:∀(l:List (Arr Int n)) (i:Nat),i<l.length->(((l.map fun a=>C1 i64 a.l).flatten).drop (i*n)).take n=C1 i64 (nth l i).l
 |[],i,h=>by simp at h
 |a::l,0,_=>by
  have hl:(C1 i64 a.l).length=n:=Dr;simp only[AsT,Atl,Arc,Asv];rw[As8 (by omega),Arp (by omega)];rfl
 |a::l,i+1,h=>by
  have hl:(C1 i64 a.l).length=n:=Dr;simp only[Arc,Asv];have he:(i+1)*n=(C1 i64 a.l).length+i*n:=by rw[hl,Ard,ArG,Ast]
  rw[he,List.drop_append];have:=Vh l i (by simpa using h);rw[List.drop_eq_nil_of_le (by omega),Aru,Nat.add_sub_cancel_left,this];rfl
theorem Yv{n:Nat}:∀(l:List (Arr Int n)),((l.map fun a=>C1 i64 a.l).flatten).length=l.length*n
 |[]=>by simp
 |a::l=>by simp only[Arc,Asv,AqM,Yv l,Dr,AqP,Ard,ArG];omega
theorem V2{t e m n a b b2:Nat}{z z2:List AV}{de:TypeDesc}(ht:E.tab t=some ⟨.array m e,a,b,z⟩)(he:E.tab e=some ⟨de,n,b2,z2⟩)(hag:(⟨de,n,b2,z2⟩:TD).isAgg=true)(l:List (Arr Int n))(hl:l.length=m)(x:AV) :Ka E t (.agg ((l.map fun a=>C1 i64 a.l).flatten)) x=match idx x m with
   |some i=>some (.agg (C1 i64 (nth l i).l))
   |none=>none:=by
 rw[QY ht he];cases hi:idx x m with
 |none=>rfl
 | some i=>
  have hlt:i<m:=by
   unfold idx at hi;split at hi
   ·split at hi
    ·cases hi;omega
    cases hi
   all_goals cases hi
  simp only[partA,hag,Aro];rw[AqJ,Vh l i (by omega)];rw[Yv,hl];have:(i+1)*n<=m*n:=AqU n (by omega);rw[Ard,ArG]at this;exact this
theorem Wv{op:BinOp}{t n e b1 b2:Nat}{z1 z2:List AV}(ht:E.tab t=some ⟨.array n e,n,b1,z1⟩)(he:E.tab e=some ⟨.int .i64,1,b2,z2⟩)(a b:Arr Int n) :BF E op t (.agg (C1 i64 a.l)) (.agg (C1 i64 b.l))=match op with
  |.eql=>some (.bool (a==b))
  |.neq=>some (.bool (!(a==b)))
  |_=>none:=Aas (k:=.i64) (fun x=>x) (fun x y h=>h) (fun x=>rfl) ht he a b
theorem XK{α:Type}{l m:List α}{n:Nat}:(ovl l (m.take (min m.length (l.length-n))) n).length=l.length:=by
 unfold ovl;simp only[AqM,ArH,Ar4];omega
attribute [go_sem] XK
theorem Q7{ts:List Nat}{k:Nat}{l:List Bool}:List.map (Nw ts k) (C1 AV.bool l)=C1 AV.bool l:=by
 have:=Yc (ts:=ts) (k:=k) (c:=AV.bool) (r:=[]) (fun x=>by simp only[Nw,AV.closed]) (l:=l);simpa using this
attribute [go_sem] Q7
section
variable {n N:Nat}{P:Prop}{K:CX}
theorem CfK{x y:Code}{l:Fr}{O:Ac}(k:P->Run E n y ⟨Ah N l,O⟩ K):P->Run E n (.cond (.const (.bool false)) x y) ⟨Ah N l,O⟩ K:=fun p=>X8 (t:=false) rfl (fun hb=>by cases hb) (fun _=>k p)
end
theorem Aea{f:AV->Option AV}:AeG f []=some []:=rfl
theorem AbW{f:AV->Option AV}{l:List AV}:AeG f (x::l)=(f x).bind fun y=>(AeG f l).bind fun ys=>some (y::ys):=rfl
attribute [go_sem] Aea AbW Zx AaG Akp
end Go.Rv
