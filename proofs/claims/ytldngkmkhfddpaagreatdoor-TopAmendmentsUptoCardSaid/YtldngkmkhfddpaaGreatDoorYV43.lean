/-
  Part 43.
-/
import Derived.Test.YtldngkmkhfddpaaGreatDoorYV42
namespace Go.Rv
set_option linter.unusedVariables false
set_option linter.unusedSimpArgs false
variable{v:Value}{x y:AV}
variable {E:Env}
def AdN(f:AV->Option AV):List AV->Option (List AV)
 |[]=>some []
 |x::l=>(f x).bind fun y=>(AdN f l).bind fun ys=>some (y::ys)
theorem Mj{f:AV->Option AV}:∀{l l':List AV},AdN f l=some l'->l'.length=l.length/\∀(i:Nat) y,l'[i]?=some y->∃x,l[i]?=some x/\f x=some y
 |[],l',h=>by cases h;exact⟨rfl,fun i y h=>by simp at h⟩
 |x::l,l',h=>by
  unfold AdN at h;rw[Ao3]at h;obtain⟨y,hy,h⟩:=h;rw[Ao3]at h;obtain⟨ys,hys,h⟩:=h;cases h;obtain⟨q1,q2⟩:=Mj hys;refine⟨by simp[q1],fun i z hz=>?_⟩;cases i with
  |zero=>simp at hz;subst hz;exact⟨x,rfl,hy⟩
  |succ i=>simp at hz;obtain⟨u,hu,hf⟩:=q2 i z hz;exact⟨u,by simpa using hu,hf⟩
def XY(O:Ad)(id:Nat):AV->Option AV
 |.ref i off=>if i=id then(match O[id]? with
  |some (.box cs _)=>if cs.all AV.closed=true then some (.rp (cs.drop off))else none
  |_=>none)else some (.ref i off)
 |x=>some x
def Z2(O:Ad)(id:Nat):AV->Option AV
 |.fn _ [.tup _]=>none
 |.fn f cs=>(AdN (XY O id) cs).map (.fn f)
 |x=>some x
def Ajc(O:Ad)(id:Nat):AV->Option AV
 |.agg cs=>(AdN (Z2 O id) cs).map .agg
 |x=>Z2 O id x
section
variable {w:World}{g:Gh}{O:Ad}{id:Nat}
theorem Xd(hm:Mem E w g O)(hro:∀cs ro,O[id]?=some (.box cs ro)->ro=true)(hr:Rep w (A2 E g) g v x)(h:XY O id x=some y):Rep w (A2 E g) g v y:=by
 unfold XY at h;split at h
 ·rename_i i off;split at h
  ·rename_i hi;subst hi;split at h
   ·rename_i cs ro hO;split at h
    ·rename_i hc;cases h;cases hr with
     |ref _ _ _ β b hb hx hβ=>
     obtain⟨k1,k2,k3,k4,k5,β',arr,t,fz,k6,k7,k8,k9,k10⟩:=hm.blk _ b _ hb hO;rw[hβ]at k6;cases k6;have:=hro cs ro hO;subst this;have hcl:∀(j:Nat) x,(cs.drop off)[j]?=some x->cs[off+j]?=some x:=fun j x hx=>by rw[ApC]at hx;exact hx
     refine .rp _ _ _ (fun j=>arr.getD (off+j) undef) (fun j x hx=>?_) (fun j x hx=>?_)
     ·have h1:=hcl j x hx;have hlt:off+j<arr.size:=by rw[k8];exact(AoZ.1 h1).1
      have hadd:(⟨β,off,none⟩:Addr).add j=⟨β,off+j,none⟩:=by
       unfold Addr.add;split
       ·rename_i e;subst e;rfl
       rfl
      rw[hadd];refine⟨?_,⟨fun hF=>(hm.foreign _ hF).2 ⟨_,b,hb,hβ⟩,fun id2 b2 hb2 hβ2=>?_⟩,(k10 _ _ h1).2⟩
      ·show(match w.heap[β]? with
        |some (.cells c _ _)=>if(none:Option _).isSome=true then none else c[off+j]?
        |_=>none)=_
       rw[k7,ApM,Apk hlt];simp[Apk hlt]
      have:id2=i:=hm.inj _ _ _ _ _ hb2 hb hβ2 hβ;subst this;rw[hb]at hb2;cases hb2;refine⟨k2,?_⟩;show off+j<_;rw[k3,k4,k5];omega
     have h1:=hcl j x hx;exact Cq (k10 _ _ h1).1 (Api.1 hc x (Ao8 h1))
    cases h
   cases h
  cases h;exact hr
 cases h;exact hr
theorem RT(hm:Mem E w g O)(hro:∀cs ro,O[id]?=some (.box cs ro)->ro=true)(hr:Rep w (A2 E g) g v x)(h:Z2 O id x=some y):Rep w (A2 E g) g v y:=by
 unfold Z2 at h;split at h
 ·cases h
 ·rename_i f cs hne;rw[AoY]at h;obtain⟨l,hl,h⟩:=h;cases h;obtain⟨q1,q2⟩:=Mj hl;cases hr with
  |fnb=>exact(hne _ rfl).elim
  |fn _ _ caps _ hs hr hn=>
  refine .fn _ _ _ _ (by omega) (fun i y hy=>?_) (fun ys e=>?_)
  ·obtain⟨x,hx,hf⟩:=q2 i y hy;exact Xd hm hro (hr i x hx) hf
  subst e;obtain⟨x,hx,hf⟩:=q2 0 (.tup ys) rfl;cases x with
  |ref i off=>
   simp only[XY]at hf
   repeat' split at hf
   all_goals cases hf
  | tup zs=>
   cases cs with
   |nil=>cases hx
   | cons c r=>
    cases hx
    have:r=[]:=by
     have:=q1;simp at this;exact this
    subst this;exact hne _ rfl
  |_=>simp[XY]at hf
 cases h;exact hr
theorem Ad5(hm:Mem E w g O)(hro:∀cs ro,O[id]?=some (.box cs ro)->ro=true)(hr:Rep w (A2 E g) g v x)(h:Ajc O id x=some y):Rep w (A2 E g) g v y:=by
 unfold Ajc at h;split at h
 ·rename_i cs;rw[AoY]at h;obtain⟨l,hl,h⟩:=h;cases h;obtain⟨q1,q2⟩:=Mj hl;cases hr with
  |agg _ vs _ hs ho hr=>
  refine .agg _ _ _ (by omega) (fun i y hy=>?_) (fun i y hy=>?_)
  ·obtain⟨x,hx,hf⟩:=q2 i y hy;exact ho i x hx
  obtain⟨x,hx,hf⟩:=q2 i y hy;exact RT hm hro (hr i x hx) hf
 exact RT hm hro hr h
end
theorem AlN{n N:Nat}{l:Fr}{O O':Ad}(t id:Nat)(h:look l t=x)(hz:Ajc O id x=some y)(hm:E0 O [id]=O') :Weak E n ⟨Al N l,O⟩ ⟨Al N ((t,y)::l),O'⟩:=by
 subst hm;refine Eh fun a w g hr=>?_
 obtain⟨g',hr',he,hs,hp⟩:=IK hr n [id];refine⟨g',⟨?_,?_,hr'.mem,hr.defers.evo he⟩,he⟩
 ·have:=hr.size;simpa [Al]using this
 intro s x' hx;rw[BS]at hx;split at hx
 case isFalse=>cases hx
 rename_i hs';cases hx;show Rep _ _ _ _ (if s=t then _ else look l s);by_cases e:s=t
 ·subst e;rw[Ao4 rfl];have hslot:=hr'.slot s (look l s) (by rw[BS,Ao4 hs']);rw[h]at hslot;have hO:∀i,(E0 O [id])[i]?=if i=id then(O[i]?).map (fun ab=>match ab with|.box cs _=>.box cs true|.buf k els _=>.buf k els true|.obj o=>.obj o|.tb T l=>.tb T l|.mp st es=>.mp st es|.lp y N l ps a b=>.lp y N l ps a b|.gone=>.gone)else O[i]?:=fun i=>DN O id i
  refine Ad5 (id:=id) hr'.mem ?_ hslot (y:=y) ?_
  ·intro cs ro h1;rw[hO,Ao4 rfl]at h1;cases h2:O[id]? with
   |none=>rw[h2]at h1;cases h1
   |some b=>rw[h2]at h1;cases b<;>simp at h1;exact h1.2
  rw[<-hz]
  have hC:XY (E0 O [id]) id=XY O id:=by
   funext x;cases x<;>try rfl
   rename_i i off;simp only[XY];split
   ·rename_i e;subst e;rw[hO,Ao4 rfl];cases O[i]? with
    |none=>rfl
    |some b=>cases b<;>rfl
   rfl
  have hF:Z2 (E0 O [id]) id=Z2 O id:=by
   funext x;unfold Z2;rw[hC]
  unfold Ajc;rw[hF]
 rw[Ao6 e];exact hr'.slot s (look l s) (by rw[BS,Ao4 hs'])
theorem AeW{w:World}{g:Gh}{O:Ad}(hm:Mem E w g O){id:Nat}{b:GB}{ab ab':ABlk}(hb:g[id]?=some b)(hO:O[id]?=some ab)(hab:BlkOk E w g b ab'):Mem E w g (O.set id ab'):=by
 refine⟨by simp[hm.len],fun id' c ab2 e1 e2=>?_,hm.inj,hm.foreign,hm.glob,hm.maps,hm.whole⟩;by_cases e:id'=id
 ·subst e;rw[hb]at e1;cases e1;rw[AM hO]at e2;cases e2;exact hab
 rw[D3 e]at e2;exact hm.blk id' c ab2 e1 e2
theorem Wm{n:Nat}{fr:List AV}{O O':Ad}(b id:Nat){cs cs':List AV}{ro:Bool}(hb:O[b]?=some (.box cs ro))(hne:b≠id)(hz:AdN (Z2 O id) cs=some cs')(hm:(E0 O [id]).set b (.box cs' ro)=O'):Weak E n ⟨fr,O⟩ ⟨fr,O'⟩:=by
 subst hm;refine Eh fun a w g hr=>?_
 obtain⟨g',hr',he,hs,hp⟩:=IK hr n [id];have hO:∀i,(E0 O [id])[i]?=if i=id then(O[i]?).map (fun ab=>match ab with|.box cs _=>.box cs true|.buf k els _=>.buf k els true|.obj o=>.obj o|.tb T l=>.tb T l|.mp st es=>.mp st es|.lp y N l ps a b=>.lp y N l ps a b|.gone=>.gone)else O[i]?:=fun i=>DN O id i
 have hro:∀cs ro,(E0 O [id])[id]?=some (.box cs ro)->ro=true:=by
  intro cs ro h1;rw[hO,Ao4 rfl]at h1;cases h2:O[id]? with
  |none=>rw[h2]at h1;cases h1
  |some b=>rw[h2]at h1;cases b<;>simp at h1;exact h1.2
 have hF:Z2 (E0 O [id]) id=Z2 O id:=by
  have hC:XY (E0 O [id]) id=XY O id:=by
   funext x;cases x<;>try rfl
   rename_i i off;simp only[XY];split
   ·rename_i e;subst e;rw[hO,Ao4 rfl];cases O[i]? with
    |none=>rfl
    |some b=>cases b<;>rfl
   rfl
  funext x;unfold Z2;rw[hC]
 have hb':(E0 O [id])[b]?=some (.box cs ro):=by rw[hO,Ao6 hne];exact hb
 have hlt:b<g'.length:=by rw[hr'.mem.len];exact(AoZ.1 hb').1
 have hgb:=Ao2 hlt;obtain⟨q1,q2⟩:=Mj hz;refine⟨g',⟨hr'.size,hr'.slot,AeW hr'.mem hgb hb' ?_,hr'.defers⟩,he⟩;obtain⟨k1,k2,k3,k4,k5,β,arr,t,fz,k6,k7,k8,k9,k10⟩:=hr'.mem.blk b _ _ hgb hb';refine⟨k1,k2,k3,by omega,k5,β,arr,t,fz,k6,k7,by omega,k9,fun j y hy=>?_⟩;obtain⟨x,hx,hf⟩:=q2 j y hy;exact⟨RT (id:=id) hr'.mem hro (k10 j x hx).1 (by rw[hF];exact hf),(k10 j x hx).2⟩
theorem T2{n:Nat}:∀(l:List (Arr Int n)) (i:Nat),i<l.length->(((l.map fun a=>C1 i64 a.l).flatten).drop (i*n)).take n=C1 i64 (nth l i).l
 |[],i,h=>by simp at h
 |a::l,0,_=>by
  have hl:(C1 i64 a.l).length=n:=DP;simp only[Arc,ArH,ApE,Aq4];rw[Art (by omega),ApP (by omega)];rfl
 |a::l,i+1,h=>by
  have hl:(C1 i64 a.l).length=n:=DP;simp only[ApE,Aq4];have he:(i+1)*n=(C1 i64 a.l).length+i*n:=by rw[hl,ApA,ApU,AqI]
  rw[he,List.drop_append];have:=T2 l i (by simpa using h);rw[List.drop_eq_nil_of_le (by omega),ApN,Nat.add_sub_cancel_left,this];rfl
theorem WA{n:Nat}:∀(l:List (Arr Int n)),((l.map fun a=>C1 i64 a.l).flatten).length=l.length*n
 |[]=>by simp
 |a::l=>by simp only[ApE,Aq4,Ao5,WA l,DP,Apb,ApA,ApU];omega
theorem VT{t e m n a b b2:Nat}{z z2:List AV}{de:TypeDesc}(ht:E.tab t=some ⟨.array m e,a,b,z⟩)(he:E.tab e=some ⟨de,n,b2,z2⟩)(hag:(⟨de,n,b2,z2⟩:TD).isAgg=true)(l:List (Arr Int n))(hl:l.length=m)(x:AV) :JH E t (.agg ((l.map fun a=>C1 i64 a.l).flatten)) x=match idx x m with
   |some i=>some (.agg (C1 i64 (nth l i).l))
   |none=>none:=by
 rw[Q7 ht he];cases hi:idx x m with
 |none=>rfl
 | some i=>
  have hlt:i<m:=by
   unfold idx at hi;split at hi
   ·split at hi
    ·cases hi;omega
    cases hi
   all_goals cases hi
  simp only[partA,hag,ApL];rw[Ao4,T2 l i (by omega)];rw[WA,hl];have:(i+1)*n<=m*n:=Aph n (by omega);rw[ApA,ApU]at this;exact this
theorem Wt{op:BinOp}{t n e b1 b2:Nat}{z1 z2:List AV}(ht:E.tab t=some ⟨.array n e,n,b1,z1⟩)(he:E.tab e=some ⟨.int .i64,1,b2,z2⟩)(a b:Arr Int n) :BD E op t (.agg (C1 i64 a.l)) (.agg (C1 i64 b.l))=match op with
  |.eql=>some (.bool (a==b))
  |.neq=>some (.bool (!(a==b)))
  |_=>none:=YP (k:=.i64) (fun x=>x) (fun x y h=>h) (fun x=>rfl) ht he a b
theorem Xj{α:Type}{l m:List α}{n:Nat}:(ovl l (m.take (min m.length (l.length-n))) n).length=l.length:=by
 unfold ovl;simp only[Ao5,Aqb,Aql];omega
attribute [go_sem] Xj
theorem Qt{ts:List Nat}{k:Nat}{l:List Bool}:List.map (MN ts k) (C1 AV.bool l)=C1 AV.bool l:=by
 have:=WL (ts:=ts) (k:=k) (c:=AV.bool) (r:=[]) (fun x=>by simp only[MN,AV.closed]) (l:=l);simpa using this
attribute [go_sem] Qt
section
variable {n N:Nat}{P:Prop}{K:CX}
theorem CfK{x y:Code}{l:Fr}{O:Ad}(k:P->Run E n y ⟨Al N l,O⟩ K):P->Run E n (.cond (.const (.bool false)) x y) ⟨Al N l,O⟩ K:=fun p=>WC (t:=false) rfl (fun hb=>by cases hb) (fun _=>k p)
end
theorem Ad7{f:AV->Option AV}:AdN f []=some []:=rfl
theorem AbG{f:AV->Option AV}{l:List AV}:AdN f (x::l)=(f x).bind fun y=>(AdN f l).bind fun ys=>some (y::ys):=rfl
attribute [go_sem] Ad7 AbG XY Z2 Ajc
end Go.Rv
