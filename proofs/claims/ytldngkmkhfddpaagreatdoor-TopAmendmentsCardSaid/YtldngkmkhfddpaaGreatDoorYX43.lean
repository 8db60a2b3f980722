/-
  Part 43.
-/
import Derived.Test.YtldngkmkhfddpaaGreatDoorYX42
namespace Go.Rv
set_option linter.unusedVariables false
set_option linter.unusedSimpArgs false
variable{v:Value}{x y:AV}
variable {E:Env}
def Ad9(f:AV->Option AV):List AV->Option (List AV)
 |[]=>some []
 |x::l=>(f x).bind fun y=>(Ad9 f l).bind fun ys=>some (y::ys)
theorem Me{f:AV->Option AV}:∀{l l':List AV},Ad9 f l=some l'->l'.length=l.length/\∀(i:Nat) y,l'[i]?=some y->∃x,l[i]?=some x/\f x=some y
 |[],l',h=>by cases h;exact⟨rfl,fun i y h=>by simp at h⟩
 |x::l,l',h=>by
  unfold Ad9 at h;rw[Apa]at h;obtain⟨y,hy,h⟩:=h;rw[Apa]at h;obtain⟨ys,hys,h⟩:=h;cases h;obtain⟨q1,q2⟩:=Me hys;refine⟨by simp[q1],fun i z hz=>?_⟩;cases i with
  |zero=>simp at hz;subst hz;exact⟨x,rfl,hy⟩
  |succ i=>simp at hz;obtain⟨u,hu,hf⟩:=q2 i z hz;exact⟨u,by simpa using hu,hf⟩
def YP(O:Ac)(id:Nat):AV->Option AV
 |.ref i off=>if i=id then(match O[id]? with
  |some (.box cs _)=>if cs.all AV.closed=true then some (.rp (cs.drop off))else none
  |_=>none)else some (.ref i off)
 |x=>some x
def ZC(O:Ac)(id:Nat):AV->Option AV
 |.fn _ [.tup _]=>none
 |.fn f cs=>(Ad9 (YP O id) cs).map (.fn f)
 |x=>some x
def Ali(O:Ac)(id:Nat):AV->Option AV
 |.agg cs=>(Ad9 (ZC O id) cs).map .agg
 |x=>ZC O id x
section
variable {w:World}{g:Gh}{O:Ac}{id:Nat}
theorem WH(hm:Mem E w g O)(hro:∀cs ro,O[id]?=some (.box cs ro)->ro=true)(hr:Rep w (A3 E g) g v x)(h:YP O id x=some y):Rep w (A3 E g) g v y:=by
 unfold YP at h;split at h
 ·rename_i i off;split at h
  ·rename_i hi;subst hi;split at h
   ·rename_i cs ro hO;split at h
    ·rename_i hc;cases h;cases hr with
     |ref _ _ _ β b hb hx hβ=>
     obtain⟨k1,k2,k3,k4,k5,β',arr,t,fz,k6,k7,k8,k9,k10⟩:=hm.blk _ b _ hb hO;rw[hβ]at k6;cases k6;have:=hro cs ro hO;subst this;have hcl:∀(j:Nat) x,(cs.drop off)[j]?=some x->cs[off+j]?=some x:=fun j x hx=>by rw[ApJ]at hx;exact hx
     refine .rp _ _ _ (fun j=>arr.getD (off+j) undef) (fun j x hx=>?_) (fun j x hx=>?_)
     ·have h1:=hcl j x hx;have hlt:off+j<arr.size:=by rw[k8];exact(Ao6.1 h1).1
      have hadd:(⟨β,off,none⟩:Addr).add j=⟨β,off+j,none⟩:=by
       unfold Addr.add;split
       ·rename_i e;subst e;rfl
       rfl
      rw[hadd];refine⟨?_,⟨fun hF=>(hm.foreign _ hF).2 ⟨_,b,hb,hβ⟩,fun id2 b2 hb2 hβ2=>?_⟩,(k10 _ _ h1).2⟩
      ·show(match w.heap[β]? with
        |some (.cells c _ _)=>if(none:Option _).isSome=true then none else c[off+j]?
        |_=>none)=_
       rw[k7,ApU,Apr hlt];simp[Apr hlt]
      have:id2=i:=hm.inj _ _ _ _ _ hb2 hb hβ2 hβ;subst this;rw[hb]at hb2;cases hb2;refine⟨k2,?_⟩;show off+j<_;rw[k3,k4,k5];omega
     have h1:=hcl j x hx;exact Cj (k10 _ _ h1).1 (App.1 hc x (Apg h1))
    cases h
   cases h
  cases h;exact hr
 cases h;exact hr
theorem Rf(hm:Mem E w g O)(hro:∀cs ro,O[id]?=some (.box cs ro)->ro=true)(hr:Rep w (A3 E g) g v x)(h:ZC O id x=some y):Rep w (A3 E g) g v y:=by
 unfold ZC at h;split at h
 ·cases h
 ·rename_i f cs hne;rw[Ao5]at h;obtain⟨l,hl,h⟩:=h;cases h;obtain⟨q1,q2⟩:=Me hl;cases hr with
  |fnb=>exact(hne _ rfl).elim
  |fn _ _ caps _ hs hr hn=>
  refine .fn _ _ _ _ (by omega) (fun i y hy=>?_) (fun ys e=>?_)
  ·obtain⟨x,hx,hf⟩:=q2 i y hy;exact WH hm hro (hr i x hx) hf
  subst e;obtain⟨x,hx,hf⟩:=q2 0 (.tup ys) rfl;cases x with
  |ref i off=>
   simp only[YP]at hf
   repeat' split at hf
   all_goals cases hf
  | tup zs=>
   cases cs with
   |nil=>cases hx
   | cons c r=>
    cases hx
    have:r=[]:=by
     have:=q1;simp at this;exact this
    subst this;exact hne _ rfl
  |_=>simp[YP]at hf
 cases h;exact hr
theorem AdA(hm:Mem E w g O)(hro:∀cs ro,O[id]?=some (.box cs ro)->ro=true)(hr:Rep w (A3 E g) g v x)(h:Ali O id x=some y):Rep w (A3 E g) g v y:=by
 unfold Ali at h;split at h
 ·rename_i cs;rw[Ao5]at h;obtain⟨l,hl,h⟩:=h;cases h;obtain⟨q1,q2⟩:=Me hl;cases hr with
  |agg _ vs _ hs ho hr=>
  refine .agg _ _ _ (by omega) (fun i y hy=>?_) (fun i y hy=>?_)
  ·obtain⟨x,hx,hf⟩:=q2 i y hy;exact ho i x hx
  obtain⟨x,hx,hf⟩:=q2 i y hy;exact Rf hm hro (hr i x hx) hf
 exact Rf hm hro hr h
end
theorem AlZ{n N:Nat}{l:Fr}{O O':Ac}(t id:Nat)(h:look l t=x)(hz:Ali O id x=some y)(hm:Es O [id]=O') :Weak E n ⟨Ai N l,O⟩ ⟨Ai N ((t,y)::l),O'⟩:=by
 subst hm;refine Ec fun a w g hr=>?_
 obtain⟨g',hr',he,hs,hp⟩:=IY hr n [id];refine⟨g',⟨?_,?_,hr'.mem,hr.defers.evo he⟩,he⟩
 ·have:=hr.size;simpa [Ai]using this
 intro s x' hx;rw[BN]at hx;split at hx
 case isFalse=>cases hx
 rename_i hs';cases hx;show Rep _ _ _ _ (if s=t then _ else look l s);by_cases e:s=t
 ·subst e;rw[Apb rfl];have hslot:=hr'.slot s (look l s) (by rw[BN,Apb hs']);rw[h]at hslot;have hO:∀i,(Es O [id])[i]?=if i=id then(O[i]?).map (fun ab=>match ab with|.box cs _=>.box cs true|.buf k els _=>.buf k els true|.obj o=>.obj o|.tb T l=>.tb T l|.mp st es=>.mp st es|.lp y N l ps a b=>.lp y N l ps a b|.gone=>.gone)else O[i]?:=fun i=>DJ O id i
  refine AdA (id:=id) hr'.mem ?_ hslot (y:=y) ?_
  ·intro cs ro h1;rw[hO,Apb rfl]at h1;cases h2:O[id]? with
   |none=>rw[h2]at h1;cases h1
   |some b=>rw[h2]at h1;cases b<;>simp at h1;exact h1.2
  rw[<-hz]
  have hC:YP (Es O [id]) id=YP O id:=by
   funext x;cases x<;>try rfl
   rename_i i off;simp only[YP];split
   ·rename_i e;subst e;rw[hO,Apb rfl];cases O[i]? with
    |none=>rfl
    |some b=>cases b<;>rfl
   rfl
  have hF:ZC (Es O [id]) id=ZC O id:=by
   funext x;unfold ZC;rw[hC]
  unfold Ali;rw[hF]
 rw[Apd e];exact hr'.slot s (look l s) (by rw[BN,Apb hs'])
theorem AdF{w:World}{g:Gh}{O:Ac}(hm:Mem E w g O){id:Nat}{b:GB}{ab ab':ABlk}(hb:g[id]?=some b)(hO:O[id]?=some ab)(hab:BlkOk E w g b ab'):Mem E w g (O.set id ab'):=by
 refine⟨by simp[hm.len],fun id' c ab2 e1 e2=>?_,hm.inj,hm.foreign,hm.glob,hm.maps,hm.whole⟩;by_cases e:id'=id
 ·subst e;rw[hb]at e1;cases e1;rw[AJ hO]at e2;cases e2;exact hab
 rw[Dy e]at e2;exact hm.blk id' c ab2 e1 e2
theorem VC{n:Nat}{fr:List AV}{O O':Ac}(b id:Nat){cs cs':List AV}{ro:Bool}(hb:O[b]?=some (.box cs ro))(hne:b≠id)(hz:Ad9 (ZC O id) cs=some cs')(hm:(Es O [id]).set b (.box cs' ro)=O'):Weak E n ⟨fr,O⟩ ⟨fr,O'⟩:=by
 subst hm;refine Ec fun a w g hr=>?_
 obtain⟨g',hr',he,hs,hp⟩:=IY hr n [id];have hO:∀i,(Es O [id])[i]?=if i=id then(O[i]?).map (fun ab=>match ab with|.box cs _=>.box cs true|.buf k els _=>.buf k els true|.obj o=>.obj o|.tb T l=>.tb T l|.mp st es=>.mp st es|.lp y N l ps a b=>.lp y N l ps a b|.gone=>.gone)else O[i]?:=fun i=>DJ O id i
 have hro:∀cs ro,(Es O [id])[id]?=some (.box cs ro)->ro=true:=by
  intro cs ro h1;rw[hO,Apb rfl]at h1;cases h2:O[id]? with
  |none=>rw[h2]at h1;cases h1
  |some b=>rw[h2]at h1;cases b<;>simp at h1;exact h1.2
 have hF:ZC (Es O [id]) id=ZC O id:=by
  have hC:YP (Es O [id]) id=YP O id:=by
   funext x;cases x<;>try rfl
   rename_i i off;simp only[YP];split
   ·rename_i e;subst e;rw[hO,Apb rfl];cases O[i]? with
    |none=>rfl
    |some b=>cases b<;>rfl
   rfl
  funext x;unfold ZC;rw[hC]
 have hb':(Es O [id])[b]?=some (.box cs ro):=by rw[hO,Apd hne];exact hb
 have hlt:b<g'.length:=by rw[hr'.mem.len];exact(Ao6.1 hb').1
 have hgb:=Ao9 hlt;obtain⟨q1,q2⟩:=Me hz;refine⟨g',⟨hr'.size,hr'.slot,AdF hr'.mem hgb hb' ?_,hr'.defers⟩,he⟩;obtain⟨k1,k2,k3,k4,k5,β,arr,t,fz,k6,k7,k8,k9,k10⟩:=hr'.mem.blk b _ _ hgb hb';refine⟨k1,k2,k3,by omega,k5,β,arr,t,fz,k6,k7,by omega,k9,fun j y hy=>?_⟩;obtain⟨x,hx,hf⟩:=q2 j y hy;exact⟨Rf (id:=id) hr'.mem hro (k10 j x hx).1 (by rw[hF];exact hf),(k10 j x hx).2⟩
theorem T2{n:Nat}:∀(l:List (Arr Int n)) (i:Nat),i<l.length->(((l.map fun a=>C1 i64 a.l).flatten).drop (i*n)).take n=C1 i64 (nth l i).l
 |[],i,h=>by simp at h
 |a::l,0,_=>by
  have hl:(C1 i64 a.l).length=n:=DK;simp only[Arb,ArO,ApL,Arc];rw[ArA (by omega),ApW (by omega)];rfl
 |a::l,i+1,h=>by
  have hl:(C1 i64 a.l).length=n:=DK;simp only[ApL,Arc];have he:(i+1)*n=(C1 i64 a.l).length+i*n:=by rw[hl,ApH,Ap1,AqP]
  rw[he,List.drop_append];have:=T2 l i (by simpa using h);rw[List.drop_eq_nil_of_le (by omega),ApR,Nat.add_sub_cancel_left,this];rfl
theorem Xa{n:Nat}:∀(l:List (Arr Int n)),((l.map fun a=>C1 i64 a.l).flatten).length=l.length*n
 |[]=>by simp
 |a::l=>by simp only[ApL,Arc,Apc,Xa l,DK,Api,ApH,Ap1];omega
theorem Wg{t e m n a b b2:Nat}{z z2:List AV}{de:TypeDesc}(ht:E.tab t=some ⟨.array m e,a,b,z⟩)(he:E.tab e=some ⟨de,n,b2,z2⟩)(hag:(⟨de,n,b2,z2⟩:TD).isAgg=true)(l:List (Arr Int n))(hl:l.length=m)(x:AV) :JC E t (.agg ((l.map fun a=>C1 i64 a.l).flatten)) x=match idx x m with
   |some i=>some (.agg (C1 i64 (nth l i).l))
   |none=>none:=by
 rw[QH ht he];cases hi:idx x m with
 |none=>rfl
 | some i=>
  have hlt:i<m:=by
   unfold idx at hi;split at hi
   ·split at hi
    ·cases hi;omega
    cases hi
   all_goals cases hi
  simp only[partA,hag,ApT];rw[Apb,T2 l i (by omega)];rw[Xa,hl];have:(i+1)*n<=m*n:=Apn n (by omega);rw[ApH,Ap1]at this;exact this
theorem Wo{op:BinOp}{t n e b1 b2:Nat}{z1 z2:List AV}(ht:E.tab t=some ⟨.array n e,n,b1,z1⟩)(he:E.tab e=some ⟨.int .i64,1,b2,z2⟩)(a b:Arr Int n) :B8 E op t (.agg (C1 i64 a.l)) (.agg (C1 i64 b.l))=match op with
  |.eql=>some (.bool (a==b))
  |.neq=>some (.bool (!(a==b)))
  |_=>none:=Ya (k:=.i64) (fun x=>x) (fun x y h=>h) (fun x=>rfl) ht he a b
theorem Xt{α:Type}{l m:List α}{n:Nat}:(ovl l (m.take (min m.length (l.length-n))) n).length=l.length:=by
 unfold ovl;simp only[Apc,Aqi,Aqs];omega
attribute [go_sem] Xt
theorem Qu{ts:List Nat}{k:Nat}{l:List Bool}:List.map (MG ts k) (C1 AV.bool l)=C1 AV.bool l:=by
 have:=Xd (ts:=ts) (k:=k) (c:=AV.bool) (r:=[]) (fun x=>by simp only[MG,AV.closed]) (l:=l);simpa using this
attribute [go_sem] Qu
section
variable {n N:Nat}{P:Prop}{K:CO}
theorem CfK{x y:Code}{l:Fr}{O:Ac}(k:P->Run E n y ⟨Ai N l,O⟩ K):P->Run E n (.cond (.const (.bool false)) x y) ⟨Ai N l,O⟩ K:=fun p=>Xb (t:=false) rfl (fun hb=>by cases hb) (fun _=>k p)
end
theorem Adt{f:AV->Option AV}:Ad9 f []=some []:=rfl
theorem AcI{f:AV->Option AV}{l:List AV}:Ad9 f (x::l)=(f x).bind fun y=>(Ad9 f l).bind fun ys=>some (y::ys):=rfl
attribute [go_sem] Adt AcI YP ZC Ali
end Go.Rv
