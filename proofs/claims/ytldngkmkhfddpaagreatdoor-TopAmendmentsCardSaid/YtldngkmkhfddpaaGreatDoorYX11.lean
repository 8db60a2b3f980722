/-
  Part 11.
-/
import Derived.Test.YtldngkmkhfddpaaGreatDoorYX10
namespace Go.Rv
set_option linter.unusedVariables false
set_option linter.unusedSimpArgs false
variable{k x y:AV}{v kv:Value}{a:Act}{t ty:TypeId}{ok:Bool}{ts:Array TypeId}{β id:Nat}{o:Obj}{w':World}{st:St}{O':Ac}
variable {E:Env}{w:World}{g:Gh}{O:Ac}
theorem Ma{pr:Addr->Prop}(h:FO k=true)(hr:Rep w pr g v k):v=avV k:=by
 cases hr<;>simp only[FO]at h<;>try (cases h;done)
 case bool=>rfl
 case int=>rfl
 case str s l hs=>subst hs;rfl
theorem SY{pr:Addr->Prop}(h:FO k=true):Rep w pr g (avV k) k:=by
 cases k<;>simp only[FO]at h<;>try (cases h;done)
 case bool b=>exact .bool _ _
 case int k n=>exact .int _ _ _
 case str s=>exact .str _ _ _ (by simp)
theorem T4{a:AV}(h:FO a=true):TV a=true:=by
 cases a<;>simp only[FO]at h<;>first|(cases h;done)|rfl
theorem Kz{pr:Addr->Prop}(h:TV k=true):Rep w pr g (avV k) k:=by
 unfold TV at h;split at h
 ·refine .fnb _ _ _ _ rfl ?_;intro i x hi
  match i,hi with
  |0,hi=>cases hi;exact .glob _ _
 ·exact .val _ _ h
 exact SY h
theorem AfW{a b:AV}(ha:FO a=true)(hb:FO b=true)(h:avV a=avV b):a=b:=by
 cases a<;>simp only[FO]at ha<;>try (cases ha;done)
 all_goals cases b<;>simp only[FO]at hb<;>try (cases hb;done)
 all_goals simp[avV]at h
 all_goals simp[h]
theorem AaL{d:TypeDesc}(h:AiY d k=true):MapKept.IsKey d (avV k)/\FO k=true:=by
 cases d<;>cases k<;>simp[AiY]at h<;>simp[MapKept.IsKey,avV,FO];exact h.symm
theorem Ud(hm:Mem E w g O)(hx:Ka E t x k ok=some y)(hv:Rep w (A3 E g) g v x)(hk:Rep w (A3 E g) g kv k) :∃u,(Instr.lookup t v kv ok).run E.P w=.ok u w/\Rep w (A3 E g) g u y:=by
 unfold Ka at hx;split at hx
 case h_2=>cases hx
 rename_i m hM;split at hx
 case h_2=>cases hx
 rename_i r;split at hx
 case isFalse=>cases hx
 rename_i hc;obtain⟨rfl,hkey⟩:=hc;simp only[Ao7]at hx;subst hx;obtain⟨hik,hpl⟩:=AaL hkey;obtain⟨h1,h2,h3,h4,es,cl,h5,h6,h7⟩:=hm.maps t m hM;have hkv:=Ma hpl hk;subst hkv;have hvv:v=.map (some m.r):=by cases hv;rfl
 subst hvv;rcases MapKept.findNow_spec hik es.toList 0 (fun x hx=>(h6 x hx).1)with⟨f1,f2⟩|⟨j,e,f1,f2,f3⟩
 ·have hn:m.ans k=none:=by
   refine ArP fun hne=>?_
   obtain⟨e,he,hek⟩:=h7 k hpl hne;exact f2 e he hek
  refine⟨if ok then .tuple #[avV m.zv,.bool false]else avV m.zv,?_,?_⟩
  ·cases ok<;>simp[Instr.lookup,run_underlying h1,MapKept.run_getObj_map h5,MapKept.run_checkKey h2 hik,MapKept.run_findKey h2 f1,h3,Result.andThen]
  rw[hn];cases ok
  ·exact Kz h4
  refine .tup _ _ _ rfl ?_;intro i x hi
  match i,hi with
  |0,hi=>cases hi;exact Kz h4
  |1,hi=>cases hi;exact .bool _ _
 obtain⟨_,ka,va,q1,q2,q3,q4,q5⟩:=h6 e (Apg f2);have:ka=k:=AfW q3 hpl (q1.symm.trans f3);subst this;refine⟨if ok then .tuple #[avV va,.bool true]else avV va,?_,?_⟩
 ·cases ok<;>simp[Instr.lookup,run_underlying h1,MapKept.run_getObj_map h5,MapKept.run_checkKey h2 hik,MapKept.run_findKey h2 f1,Result.andThen,q2]
 rw[q5];cases ok
 ·exact Kz q4
 refine .tup _ _ _ rfl ?_;intro i x hi
 match i,hi with
 |0,hi=>cases hi;exact Kz q4
 |1,hi=>cases hi;exact .bool _ _
theorem AbK(hE:E.Ok)(hm:Mem E w g O)(hts:ts[0]?=some t){n:Nat}(hv:Rep w (A3 E g) g v x)(hx:Xz E O t x=some n) :(Builtin.len_ ts ty #[v]).run E.P w=.ok (.int .i64 n) w:=by
 unfold Xz at hx;cases ht:E.tab t with
 |none=>simp[ht]at hx
 | some d=>
  simp only[ht]at hx;split at hx
  ·rename_i s hd;simp only[Ao7]at hx;subst hx;obtain⟨ba,rfl,rfl⟩:=G7 hv;simp[Builtin.len_,hts,AF hE ht,hd,goInt]
  ·rename_i m e hd;simp only[Ao7]at hx;subst hx;have e:(#[v]:Array Value)[0]?=some v:=rfl;simp only[Builtin.len_,hts,e,AF hE ht,hd,goInt,Sem.run_bind,Result.andThen_ok,Sem.run_pure]
  ·rename_i e full els hd;simp only[Ao7]at hx;subst hx;cases hv with
   |sl _ a len cap _ _ k c hlen hcap hfull hnone hk hc hr=>simp[Builtin.len_,hts,AF hE ht,hd,goInt,hlen]
  ·rename_i e full id tot off len hd;split at hx
   case h_2=>cases hx
   rename_i k els ro hO;split at hx
   case isFalse=>cases hx
   simp only[Ao7]at hx;subst hx;cases hv with
   |bs _ _ _ _ _ _ _ b hgb hbx htot hat ho=>
    have hk:=hm.blk id b _ hgb hO;have hbl:b.len=tot:=by have:=hk.2.2.2.1;omega
    obtain⟨a,cap,rfl,_⟩:=hat hbl;simp[Builtin.len_,hts,AF hE ht,hd,goInt]
  cases hx
def C4(w:World)(pr:Addr->Prop)(g:Gh):List Value->List AV->Prop
 |[],[]=>True
 |v::r,x::s=>Rep w pr g v x/\C4 w pr g r s
 |_,_=>False
theorem I7{pr:Addr->Prop}{P:Program}{f:Int->Int->Int}{m:Value->Value->Sem Value}{k:IntKind}(hm:∀a b,(m (.int k a) (.int k b)).run P w=.ok (.int k (f a b)) w) :∀(r:List AV) (vs:List Value) (a n:Int),C4 w pr g vs r->K8 f k a r=some n->(vs.foldlM m (.int k a)).run P w=.ok (.int k n) w
 |[],[],a,n,_,h=>by simp[K8]at h;subst h;rfl
 |[],_::_,_,_,h,_=>by simp[C4]at h
 |_::_,[],_,_,h,_=>by simp[C4]at h
 | x::r,v::vs,a,n,hr,h=>by
  unfold K8 at h;split at h
  ·rename_i h1;cases h1
  ·rename_i k' b r' h1;cases h1;split at h
   case isFalse=>cases h
   rename_i hk;subst hk;obtain rfl:=DI hr.1;rw[List.foldlM_cons,Sem.run_bind,hm,Result.andThen_ok];exact I7 hm r vs _ n hr.2 h
  cases h
theorem DQ{pr:Addr->Prop}{α:Type}(f:α->Value)(h:α->AV)(hf:∀a,Rep w pr g (f a) (h a)):∀l:List α,C4 w pr g (l.map f) (l.map h)
 |[]=>trivial
 |a::l=>⟨hf a,DQ f h hf l⟩
theorem Kk{pr:Addr->Prop}(f:Operand->Value)(h:Operand->AV)(hf:∀a,Rep w pr g (f a) (h a)):∀l:List (Nat×Operand),GM w pr g (l.map fun(i,x)=>(i,f x)) (l.map fun(i,x)=>(i,h x))
 |[]=>trivial
 |(i,a)::l=>⟨rfl,hf a,Kk f h hf l⟩
theorem MX{pr:Addr->Prop}(f:Operand->Value)(h:Operand->AV)(hf:∀a,Rep w pr g (f a) (h a))(o:Option Operand):Ib w pr g (o.map f) (o.map h):=by
 cases o with
 |none=>trivial
 |some x=>exact hf x
def OpSound(E:Env)(w:World)(g:Gh)(r:Result Next)(x:AV)(O':Ac):Prop :=
 ∃v w' g',(r=.ok (.value v) w'\/(r=.ok .skip w'/\v=undef))/\Mem E w' g' O'/\GLe g g'/\Evo E 0 w g w' g'/\Rep w' (A3 E g') g' v x
theorem OpSound.of{r:Result Value}{x:AV}{O':Ac}(h:Sound E w g r x O'):OpSound E w g (r.andThen fun v w'=>.ok (.value v) w') x O':=by
 obtain⟨v,w',g',rfl,h1,h2,h3,h4⟩:=h;exact⟨v,w',g',.inl rfl,h1,h2,h3,h4⟩
theorem OpSound.pure{r:Result Value}{v:Value}{x:AV}(hm:Mem E w g O)(h:r=.ok v w)(hr:Rep w (A3 E g) g v x):OpSound E w g (r.andThen fun v w'=>.ok (.value v) w') x O:=OpSound.of (Sound.pure hm h hr)
theorem WJ{w:World}(h:w.heap[β]?=some o)(hn:OT o=true){a:Addr}(ha:a.block=β):w.cell? a=none:=by
 unfold World.cell?;rw[ha,h];cases o<;>first|rfl|cases hn
theorem AaN(hm:Mem E w g O){b:GB}{o':Obj}(hb:g[id]?=some b)(hO:O[id]?=some (.obj o))(hβ:b.blk=some β)(hn:OT o'=true)(hmap:(∀es cl,o≠.map es cl)\/∀t,E.maps t=none) (h1:w'.heap[β]?=some o') (h2:∀k,k≠β->w'.heap[k]?=w.heap[k]?) (hsz:w'.heap.size=w.heap.size) (hos:w'.os=w.os) (ht:w'.tape=w.tape) (hout:w'.output=w.output) :Mem E w' g (O.set id (.obj o'))/\Evo E 0 w g w' g:=by
 obtain⟨k1,k2,β',k3,k4⟩:=hm.blk id b _ hb hO;rw[hβ]at k3;cases k3
 have hcells:∀a u,w.cell? a=some u->A3 E g a->w'.cell? a=some u/\A3 E g a:=by
  intro a u hc hp;refine⟨?_,hp⟩;by_cases e:a.block=β
  ·rw[WJ k4 k2 e]at hc;cases hc
  rw[<-hc];unfold World.cell?;rw[h2 _ e]
 have hmine:Ft g β:=⟨id,b,hb,hβ⟩;have hne:∀k,¬Ft g k->k≠β:=fun k hk e=>hk (e ▸ hmine)
 refine⟨⟨by simp[hm.len],?_,hm.inj,D8 hm (by omega) (fun _ _ h=>h),Gd hm (by omega) hcells (fun _ _ h=>h),?_,Ey hm (fun k _ hk=>⟨h2 k (hne k hk),hk⟩)⟩,
  ⟨hos,ht,hout,by omega,hcells,fun k _ hk=>⟨h2 k (hne k hk),hk⟩,fun _ h=>absurd h (Ap0 _)⟩⟩
 ·intro id' c ab e1 e2;by_cases e:id'=id
  ·subst e;rw[hb]at e1;cases e1;rw[AJ hO]at e2;cases e2;exact⟨k1,hn,β,hβ,h1⟩
  rw[Dy e]at e2;refine(hm.blk id' c ab e1 e2).mono hcells (GLe.refl _) (fun β2 hβ2=>h2 β2 fun e3=>e (hm.inj id' id c b β e1 hb (e3 ▸ hβ2) hβ))
 rcases hmap with hmap|hmap
 ·refine H5 hm (fun r es cl hr=>?_);by_cases e:r=β
  ·subst e;rw[k4]at hr;cases hr;exact(hmap es cl rfl).elim
  rw[h2 r e];exact hr
 intro t m h;rw[hmap t]at h;cases h
theorem AcF(hm:Mem E w g O){b:GB}{ab ab':ABlk}(hb:g[id]?=some b)(hO:O[id]?=some ab)(hβ:b.blk=some β)(k4:w.heap[β]?=some o)(k2:OT o=true)(hmap:∀t m,E.maps t=some m->b.blk≠some m.r) (h2:∀k,k≠β->w'.heap[k]?=w.heap[k]?) (hsz:w'.heap.size=w.heap.size) (hos:w'.os=w.os) (ht:w'.tape=w.tape) (hout:w'.output=w.output) (hab:(∀a u,w.cell? a=some u->A3 E g a->w'.cell? a=some u/\A3 E g a)->BlkOk E w' g b ab') :Mem E w' g (O.set id ab')/\Evo E 0 w g w' g:=by
 have hcells:∀a u,w.cell? a=some u->A3 E g a->w'.cell? a=some u/\A3 E g a:=by
  intro a u hc hp;refine⟨?_,hp⟩;by_cases e:a.block=β
  ·rw[WJ k4 k2 e]at hc;cases hc
  rw[<-hc];unfold World.cell?;rw[h2 _ e]
 have hmine:Ft g β:=⟨id,b,hb,hβ⟩;have hne:∀k,¬Ft g k->k≠β:=fun k hk e=>hk (e ▸ hmine)
 refine⟨⟨by simp[hm.len],?_,hm.inj,D8 hm (by omega) (fun _ _ h=>h),Gd hm (by omega) hcells (fun _ _ h=>h),?_,Ey hm (fun k _ hk=>⟨h2 k (hne k hk),hk⟩)⟩,
  ⟨hos,ht,hout,by omega,hcells,fun k _ hk=>⟨h2 k (hne k hk),hk⟩,fun _ h=>absurd h (Ap0 _)⟩⟩
 ·intro id' c ab2 e1 e2;by_cases e:id'=id
  ·subst e;rw[hb]at e1;cases e1;rw[AJ hO]at e2;cases e2;exact hab hcells
  rw[Dy e]at e2;refine(hm.blk id' c ab2 e1 e2).mono hcells (GLe.refl _) (fun β2 hβ2=>h2 β2 fun e3=>e (hm.inj id' id c b β e1 hb (e3 ▸ hβ2) hβ))
 intro t m h;obtain⟨q1,q2,q3,q4,es,cl,q5,q6⟩:=hm.maps t m h;exact⟨q1,q2,q3,q4,es,cl,by rw[h2 m.r (fun e=>hmap t m h (by rw[hβ,e]))];exact q5,q6⟩
theorem Sy{k k':Ky}(h:N3 k=N3 k'):k=k':=by
 cases k<;>cases k'<;>simp[N3]at h<;>simp[h]
theorem S1{pr:Addr->Prop}{kd:TypeDesc}{k:Ky}(hk:ZB kd x=some k)(hr:Rep w pr g v x):v=N3 k/\∀k',kyS k'=kyS k->MapKept.IsKey kd (N3 k'):=by
 unfold ZB at hk;split at hk
 ·cases hk;obtain⟨sa,hsa,hl⟩:=G7 hr;refine⟨?_,fun k' h=>?_⟩
  ·subst hl;rw[hsa];simp[N3]
  cases k'<;>simp[kyS]at h;exact trivial
 ·cases hk;have:=DI hr;refine⟨this,fun k' h=>?_⟩;cases k'<;>simp[kyS]at h;exact rfl
 cases hk
section
variable {arr:Array MapEntry}{f:Ky->Option AV}{kt:TypeId}{kd:TypeDesc}{pr:Addr->Prop}
theorem UM(hd:E.P.underlying kt=some kd)(h2:∀k x,f k=some x->∃(i:Nat) (e:MapEntry),arr[i]?=some e/\e.key=N3 k)(hr:∀(i:Nat) e,arr[i]?=some e->∃k x,e.key=N3 k/\f k=some x/\Rep w pr [] e.val x)(k:Ky)(hk:∀k',kyS k'=kyS k->MapKept.IsKey kd (N3 k'))(hh:∀k' x,f k'=some x->kyS k'=kyS k)(w':World) :((Instr.findKey kt (N3 k) arr.toList).run E.P w'=.ok none w'/\f k=none/\∀(i:Nat) e,arr[i]?=some e->e.key≠N3 k) \/∃j e x,(Instr.findKey kt (N3 k) arr.toList).run E.P w'=.ok (some (j,e.val)) w'/\arr[j]?=some e/\e.key=N3 k/\f k=some x/\Rep w pr [] e.val x:=by
 have hkeys:∀e∈arr.toList,MapKept.IsKey kd e.key:=by
  intro e he;obtain⟨i,hi⟩:=List.getElem?_of_mem he;rw[Aqh]at hi;obtain⟨k',x,q1,q2,_⟩:=hr i e hi;rw[q1];exact hk _ (hh _ _ q2)
 rcases MapKept.findNow_spec (hk k rfl) arr.toList 0 hkeys with⟨h1,h3⟩|⟨j,e,h1,h3,h4⟩
 ·have hno:∀(i:Nat) e,arr[i]?=some e->e.key≠N3 k:=fun i e hi=>h3 e (Apg (by rw[Aqh];exact hi))
  refine .inl ⟨MapKept.run_findKey hd h1,?_,hno⟩;cases hf:f k with
  |none=>rfl
  |some x=>
   obtain⟨i,e,q1,q2⟩:=h2 k x hf;exact absurd q2 (hno i e q1)
 rw[Aqh]at h3;obtain⟨k',x,q1,q2,q3⟩:=hr j e h3;have hkk:k'=k:=Sy (q1.symm.trans h4);subst hkk;have h1':=MapKept.run_findKey (w:=w') hd h1;rw[Aqn]at h1';exact .inr ⟨j,e,x,h1',h3,h4,q2,q3⟩
end
theorem Kf(hE:E.Ok){kd:TypeDesc}(h:H7 E t=some kd):∃kt et,E.P.underlying t=some (.map kt et)/\E.P.underlying kt=some kd:=by
 unfold H7 at h;split at h
 case h_2=>cases h
 rename_i d hd;split at h
 case h_2=>cases h
 rename_i kt et hs;split at h
 case h_2=>cases h
 rename_i dk hk;cases h;have h1:=hE.desc t d hd;rw[hs]at h1;exact⟨kt,et,h1,hE.desc kt dk hk⟩
theorem LG{f:Ky->Option AV}{k:Ky}{x:Option AV}:KG f k x k=x:=Apb rfl
theorem J4{f:Ky->Option AV}{k k':Ky}{x:Option AV}(h:k'≠k):KG f k x k'=f k':=Apd h
theorem SZ(hE:E.Ok)(hm:Mem E w g O){st:Bool}{f:Ky->Option AV}(hO:O[id]?=some (.mp st f))(hx:JB E t st f k ok=some y)(hv:Rep w (A3 E g) g v (.mref id))(hk:Rep w (A3 E g) g kv k) :∃u,(Instr.lookup t v kv ok).run E.P w=.ok u w/\Rep w (A3 E g) g u y:=by
 unfold JB at hx;split at hx
 case h_2=>cases hx
 rename_i kd z hT hz;split at hx
 case h_2=>cases hx
 rename_i kk hkk;split at hx
 case isFalse=>cases hx
 rename_i hst;subst hst;cases hx;obtain⟨kt,et,e1,e2⟩:=Kf hE hT;obtain⟨kt',et',zv,o1,o2,o3⟩:=E.mpOk t z hz;rw[e1]at o1;cases o1;have hzr:=o3 w (A3 E g) g;cases hv with
 |mref _ _ β b hb hbx hβ=>
 obtain⟨k1,_,hh,β',arr,cl,k3,k4,k5,k6,k7⟩:=hm.blk id b _ hb hO;rw[hβ]at k3;cases k3;obtain⟨rfl,hik⟩:=S1 hkk hk;rcases UM e2 k6 k7 kk hik hh w with⟨f1,f2,_⟩|⟨j,e,x,f1,f2,f3,f4,f5⟩
 ·rw[f2];refine⟨if ok then .tuple #[zv,.bool false]else zv,?_,?_⟩
  ·cases ok<;>simp[Instr.lookup,run_underlying e1,MapKept.run_getObj_map k4,MapKept.run_checkKey e2 (hik kk rfl),f1,o2,Result.andThen]
  cases ok
  ·exact hzr
  refine .tup _ _ _ rfl ?_;intro i x hi
  match i,hi with
  |0,hi=>cases hi;exact hzr
  |1,hi=>cases hi;exact .bool _ _
 rw[f4];have hxr:Rep w (A3 E g) g e.val x:=f5.mono (fun a u h1 h2=>⟨h1,h2⟩) (GLe.nil _);refine⟨if ok then .tuple #[e.val,.bool true]else e.val,?_,?_⟩
 ·cases ok<;>simp[Instr.lookup,run_underlying e1,MapKept.run_getObj_map k4,MapKept.run_checkKey e2 (hik kk rfl),f1,Result.andThen]
 cases ok
 ·exact hxr
 refine .tup _ _ _ rfl ?_;intro i x' hi
 match i,hi with
 |0,hi=>cases hi;exact hxr
 |1,hi=>cases hi;exact .bool _ _
theorem QJ(hE:E.Ok)(hm:Mem E w g O){m:AV}{vm vk vx:Value}(hx:LQ E O t m k x=some O')(hv:Rep w (A3 E g) g vm m)(hk:Rep w (A3 E g) g vk k)(hxr:Rep w (A3 E g) g vx x) :∃w',(Instr.mapUpdate t vm vk vx).run E.P w=.ok () w'/\Mem E w' g O'/\Evo E 0 w g w' g:=by
 unfold LQ at hx;split at hx
 case h_2=>cases hx
 rename_i kd id hT;split at hx
 case h_2=>cases hx
 rename_i st f kk hO hkk;split at hx
 case isFalse=>cases hx
 rename_i hc;obtain⟨hc,hst⟩:=hc;subst hst;cases hx;obtain⟨kt,et,e1,e2⟩:=Kf hE hT;cases hv with
 |mref _ _ β b hb hbx hβ=>
 obtain⟨k1,hmp,hh,β',arr,cl,k3,k4,k5,k6,k7⟩:=hm.blk id b _ hb hO;rw[hβ]at k3;cases k3;obtain⟨rfl,hik⟩:=S1 hkk hk;have hxc:=Cj hxr hc
 have hh':∀k' y,KG f kk (some x) k'=some y->kyS k'=kyS kk:=by
  intro k' y h;by_cases e:k'=kk
  ·rw[e]
  rw[J4 e]at h;exact hh _ _ h
 rcases UM e2 k6 k7 kk hik hh w with⟨f1,_,f2⟩|⟨j,e,y,f1,f2,f3,f4,f5⟩
 ·have hs:=MapKept.heap_set (o':=.map (arr.push { key:=N3 kk,val:=vx,born:=cl }) (cl+1)) k4
  have hget:∀i e,(arr.push { key:=N3 kk,val:=vx,born:=cl })[i]?=some e->(i<arr.size/\arr[i]?=some e)\/(i=arr.size/\e={ key:=N3 kk,val:=vx,born:=cl }):=by
   intro i e hi;rw[Ari]at hi;split at hi
   ·rename_i h;exact .inr ⟨h,(Ao8 hi).symm⟩
   exact .inl ⟨(Apl.1 hi).1,hi⟩
  refine⟨{ w with heap:=w.heap.setIfInBounds β (.map (arr.push { key:=N3 kk,val:=vx,born:=cl }) (cl+1)) },?_,?_⟩
  ·simp[Instr.mapUpdate,run_underlying e1,MapKept.run_getObj_map k4,MapKept.run_checkKey e2 (hik kk rfl),f1,MapKept.run_setObj_map _ k4,Result.andThen]
  refine AcF hm hb hO hβ k4 rfl hmp hs.2 (by simp) rfl rfl rfl (fun hcells=>⟨k1,hmp,hh',β,_,_,hβ,hs.1,?_,?_,?_⟩)
  ·intro i j e e' hi hj he;rcases hget i e hi with⟨a1,a2⟩|⟨a1,a2⟩<;>rcases hget j e' hj with⟨b1,b2⟩|⟨b1,b2⟩
   ·exact k5 i j e e' a2 b2 he
   ·subst b2;exact absurd he (f2 i e a2)
   ·subst a2;exact absurd he.symm (f2 j e' b2)
   omega
  ·intro k' y h;by_cases e:k'=kk
   ·exact⟨arr.size,_,Array.getElem?_push_size,by rw[e]⟩
   rw[J4 e]at h;obtain⟨i,e2,q1,q2⟩:=k6 k' y h;have hl:=(Apl.1 q1).1;exact⟨i,e2,by rw[Ari,Apd (by omega)];exact q1,q2⟩
  intro i e hi;rcases hget i e hi with⟨a1,a2⟩|⟨a1,a2⟩
  ·obtain⟨k',y,q1,q2,q3⟩:=k7 i e a2;exact⟨k',y,q1,by rw[J4 (fun h=>f2 i e a2 (by rw[q1,h]))];exact q2,q3.mono hcells (GLe.refl _)⟩
  subst a2;exact⟨kk,x,rfl,LG,hxc.mono hcells (GLe.refl _)⟩
 have hs:=MapKept.heap_set (o':=.map (arr.modify j fun e=>{ e with key:=N3 kk,val:=vx }) cl) k4
 have hget:∀i e',(arr.modify j fun e=>{ e with key:=N3 kk,val:=vx })[i]?=some e'->(i≠j/\arr[i]?=some e')\/(i=j/\e'={ e with key:=N3 kk,val:=vx }):=by
  intro i e' hi;rw[AqF]at hi;split at hi
  ·rename_i h;subst h;rw[f2]at hi;exact .inr ⟨rfl,(Ao8 hi).symm⟩
  rename_i h;exact .inl ⟨fun e=>h e.symm,hi⟩
 have hself:(arr.modify j fun e=>{ e with key:=N3 kk,val:=vx })[j]?=some { e with key:=N3 kk,val:=vx }:=by
  rw[AqF,Apb rfl,f2];rfl
 refine⟨{ w with heap:=w.heap.setIfInBounds β (.map (arr.modify j fun e=>{ e with key:=N3 kk,val:=vx }) cl) },?_,?_⟩
 ·simp[Instr.mapUpdate,run_underlying e1,MapKept.run_getObj_map k4,MapKept.run_checkKey e2 (hik kk rfl),f1,f2,f3,MapKept.run_keyThatStays (hik kk rfl),MapKept.run_setObj_map _ k4,Result.andThen]
 refine AcF hm hb hO hβ k4 rfl hmp hs.2 (by simp) rfl rfl rfl (fun hcells=>⟨k1,hmp,hh',β,_,_,hβ,hs.1,?_,?_,?_⟩)
 ·intro i i' e1 e2 hi hj he;rcases hget i e1 hi with⟨a1,a2⟩|⟨a1,a2⟩<;>rcases hget i' e2 hj with⟨b1,b2⟩|⟨b1,b2⟩
  ·exact k5 i i' e1 e2 a2 b2 he
  ·subst b2;exact absurd (k5 i j e1 e a2 f2 (he.trans f3.symm)) a1
  ·subst a2;exact absurd (k5 i' j e2 e b2 f2 (he.symm.trans f3.symm)) b1
  omega
 ·intro k' y h;by_cases ek:k'=kk
  ·exact⟨j,_,hself,by rw[ek]⟩
  rw[J4 ek]at h;obtain⟨i,e2,q1,q2⟩:=k6 k' y h
  have hne:j≠i:=by
   intro h3;subst h3;rw[f2]at q1;cases q1;exact ek (Sy (q2.symm.trans f3))
  exact⟨i,e2,by rw[AqF,Apd hne];exact q1,q2⟩
 intro i e' hi;rcases hget i e' hi with⟨a1,a2⟩|⟨a1,a2⟩
 ·obtain⟨k',y,q1,q2,q3⟩:=k7 i e' a2;refine⟨k',y,q1,?_,q3.mono hcells (GLe.refl _)⟩;rw[J4]
  ·exact q2
  intro h;subst h;exact a1 (k5 i j e' e a2 f2 (q1.trans f3.symm))
 subst a2;exact⟨kk,x,rfl,LG,hxc.mono hcells (GLe.refl _)⟩
theorem VT(hE:E.Ok)(hm:Mem E w g O)(hts:ts[0]?=some t){m:AV}{vm vk:Value}(hx:Ph E O t m k=some O')(hv:Rep w (A3 E g) g vm m)(hk:Rep w (A3 E g) g vk k) :∃w',(Builtin.delete_ ts ty #[vm,vk]).run E.P w=.ok (.tuple #[]) w'/\Mem E w' g O'/\Evo E 0 w g w' g:=by
 unfold Ph at hx;split at hx
 case h_2=>cases hx
 rename_i kd id hT;split at hx
 case h_2=>cases hx
 rename_i st f kk hO hkk;split at hx
 case isFalse=>cases hx
 rename_i hst;subst hst;cases hx;obtain⟨kt,et,e1,e2⟩:=Kf hE hT;cases hv with
 |mref _ _ β b hb hbx hβ=>
 obtain⟨k1,hmp,hh,β',arr,cl,k3,k4,k5,k6,k7⟩:=hm.blk id b _ hb hO;rw[hβ]at k3;cases k3;obtain⟨rfl,hik⟩:=S1 hkk hk
 have hh':∀k' y,KG f kk none k'=some y->kyS k'=kyS kk:=by
  intro k' y h;by_cases e:k'=kk
  ·rw[e]
  rw[J4 e]at h;exact hh _ _ h
 rcases UM e2 k6 k7 kk hik hh w with⟨f1,f0,f2⟩|⟨j,e,y,f1,f2,f3,f4,f5⟩
 ·have e0:KG f kk none=f:=by
   funext k';by_cases e:k'=kk
   ·rw[e,LG,f0]
   exact J4 e
  rw[e0]
  have e0:O.set id (.mp (kyS kk) f)=O:=by
   apply Aqa;intro i;by_cases e:i=id
   ·subst e;rw[AJ hO,hO]
   rw[Dy e]
  rw[e0];refine⟨w,?_,hm,Evo.refl _ _ _ _⟩
  have hsame:w.heap.setIfInBounds β (.map arr cl)=w.heap:=by
   apply ArK;intro i;rw[Aqk];split
   ·rename_i e;subst e;rw[Apb (Apl.1 k4).1,k4]
   rfl
  simp[Builtin.delete_,hts,run_underlying e1,MapKept.run_getObj_map k4,MapKept.run_checkKey e2 (hik kk rfl),f1,MapKept.run_setObj_map _ k4,Result.andThen,hsame]
 have hs:=MapKept.heap_set (o':=.map (arr.eraseIdxIfInBounds j) cl) k4;have hj:j<arr.size:=(Apl.1 f2).1
 have hq:∀i,(arr.eraseIdxIfInBounds j)[i]?=arr[if i<j then i else i+1]?:=by
  intro i;rw[Array.eraseIdxIfInBounds,dif_pos hj,Array.getElem?_eraseIdx];split<;>rfl
 have hne:∀i,(if i<j then i else i+1)≠j:=by intro i;split<;>omega
 refine⟨{ w with heap:=w.heap.setIfInBounds β (.map (arr.eraseIdxIfInBounds j) cl) },?_,?_⟩
 ·simp[Builtin.delete_,hts,run_underlying e1,MapKept.run_getObj_map k4,MapKept.run_checkKey e2 (hik kk rfl),f1,MapKept.run_setObj_map _ k4,Result.andThen]
 refine AcF hm hb hO hβ k4 rfl hmp hs.2 (by simp) rfl rfl rfl (fun hcells=>⟨k1,hmp,hh',β,_,_,hβ,hs.1,?_,?_,?_⟩)
 ·intro i i' e1 e2 hi hj he;rw[hq]at hi hj;have:=k5 _ _ e1 e2 hi hj he;split at this<;>split at this<;>omega
 ·intro k' y h
  have ek:k'≠kk:=by
   intro ek;rw[ek,LG]at h;cases h
  rw[J4 ek]at h;obtain⟨i,e2,q1,q2⟩:=k6 k' y h
  have hij:i≠j:=by
   intro h3;subst h3;rw[f2]at q1;cases q1;exact ek (Sy (q2.symm.trans f3))
  by_cases hlt:i<j
  ·exact⟨i,e2,by rw[hq,Apb hlt];exact q1,q2⟩
  have h1:i-1+1=i:=by omega
  exact⟨i-1,e2,by rw[hq,Apd (by omega),h1];exact q1,q2⟩
 intro i e' hi;rw[hq]at hi;obtain⟨k',y,q1,q2,q3⟩:=k7 _ e' hi;refine⟨k',y,q1,?_,q3.mono hcells (GLe.refl _)⟩;rw[J4]
 ·exact q2
 intro h;subst h;exact hne i (k5 _ j e' e hi f2 (q1.trans f3.symm))
theorem Se(hE:E.Ok)(hm:Mem E w g O){b:Builtin}{consts:Array Bool}{vs:Array Value}{xs:List AV}(hv:C4 w (A3 E g) g vs.toList xs) (hy:AU E O b ts.toList xs=some (y,O')):OpSound E w g ((builtin b ts ty consts vs).run E.P w) y O':=by
 unfold AU at hy;split at hy
 ·rename_i t _ x hts
  obtain⟨v,rfl,hx⟩:∃v,vs=#[v]/\Rep w (A3 E g) g v x:=by
   match hvs:vs.toList,hv with
   |[v],h=>exact⟨v,by apply AqM;simp[hvs],h.1⟩
  rw[Ao5]at hy;obtain⟨n,hn,hy⟩:=hy;simp only[Apf]at hy;obtain⟨rfl,rfl⟩:=hy;have h0:ts[0]?=some t:=by rw[<-Aqh,hts];rfl
  have:=AbK (ty:=ty) hE hm h0 hx hn;refine⟨.int .i64 n,w,g,.inl ?_,hm,GLe.refl _,Evo.refl _ _ _ _,.int _ _ _⟩;simp[builtin,this]
 ·rename_i t u _ s x hts
  obtain⟨v1,v2,rfl,h1,h2⟩:∃v1 v2,vs=#[v1,v2]/\Rep w (A3 E g) g v1 s/\Rep w (A3 E g) g v2 x:=by
   match hvs:vs.toList,hv with
   |[v1,v2],h=>exact⟨v1,v2,by apply AqM;simp[hvs],h.1,h.2.1⟩
  cases hu:E.tab u with
  |none=>simp[hu]at hy
  | some du=>
   simp only[hu]at hy;split at hy
   ·cases hy
   rename_i hnu
   have ht:(Builtin.append_ ts ty #[v1,v2])=Builtin.append_ #[t,u] ty #[v1,v2]:=by
    have h0:ts[0]?=some t:=by rw[<-Aqh,hts];rfl
    have h1:ts[1]?=some u:=by rw[<-Aqh,hts];rfl
    unfold Builtin.append_;simp only[h0,h1];rfl
   have:=SK (ty:=ty) hE hm h1 h2 hu (fun k h=>hnu k h) hy;rw[<-ht]at this;have:=OpSound.of this;simpa [builtin]using this
 ·rename_i t _ d s hts
  obtain⟨v1,v2,rfl,h1,h2⟩:∃v1 v2,vs=#[v1,v2]/\Rep w (A3 E g) g v1 d/\Rep w (A3 E g) g v2 s:=by
   match hvs:vs.toList,hv with
   |[v1,v2],h=>exact⟨v1,v2,by apply AqM;simp[hvs],h.1,h.2.1⟩
  have ht:(Builtin.copy_ ts ty #[v1,v2])=Builtin.copy_ #[t,0] ty #[v1,v2]:=by
   have h0:ts[0]?=some t:=by rw[<-Aqh,hts];rfl
   unfold Builtin.copy_;simp only[h0];rfl
  have:=Yc (ty:=ty) (u:=0) hE hm h1 h2 hy;rw[<-ht]at this;have:=OpSound.of this;simpa [builtin]using this
 ·rename_i t _ m k hts
  obtain⟨v1,v2,rfl,h1,h2⟩:∃v1 v2,vs=#[v1,v2]/\Rep w (A3 E g) g v1 m/\Rep w (A3 E g) g v2 k:=by
   match hvs:vs.toList,hv with
   |[v1,v2],h=>exact⟨v1,v2,by apply AqM;simp[hvs],h.1,h.2.1⟩
  rw[Ao5]at hy;obtain⟨σ1,h3,hy⟩:=hy;cases hy;have h0:ts[0]?=some t:=by rw[<-Aqh,hts];rfl
  obtain⟨w',hu,hm',he⟩:=VT (ty:=ty) hE hm h0 h3 h1 h2;refine⟨.tuple #[],w',g,.inl ?_,hm',GLe.refl _,he,.tup _ _ _ rfl (fun i x hi=>by simp at hi)⟩;simp[builtin,hu]
 ·rename_i k a r;rw[Ao5]at hy;obtain⟨n,hn,hy⟩:=hy;simp only[Apf]at hy;obtain⟨rfl,rfl⟩:=hy
  match hvs:vs.toList,hv with
  |v::vr,h=>
   obtain rfl:=DI h.1;have:=I7 (P:=E.P) (m:=Builtin.min2) (f:=fun a b=>if b<a then b else a) (k:=k) (by intro a b;simp[Builtin.min2]) r vr a n h.2 hn;refine⟨.int k n,w,g,.inl ?_,hm,GLe.refl _,Evo.refl _ _ _ _,.int _ _ _⟩;simp[builtin,Builtin.min_,hvs,this]
 ·rename_i k a r;rw[Ao5]at hy;obtain⟨n,hn,hy⟩:=hy;simp only[Apf]at hy;obtain⟨rfl,rfl⟩:=hy
  match hvs:vs.toList,hv with
  |v::vr,h=>
   obtain rfl:=DI h.1;have:=I7 (P:=E.P) (m:=Builtin.max2) (f:=fun a b=>if b>a then b else a) (k:=k) (by intro a b;simp[Builtin.max2]) r vr a n h.2 hn;refine⟨.int k n,w,g,.inl ?_,hm,GLe.refl _,Evo.refl _ _ _ _,.int _ _ _⟩;simp[builtin,Builtin.max_,hvs,this]
 cases hy
theorem Su(hE:E.Ok)(hm:Mem E w g O)(hx:Ga E O t x k ok=some y)(hv:Rep w (A3 E g) g v x)(hk:Rep w (A3 E g) g kv k) :∃u,(Instr.lookup t v kv ok).run E.P w=.ok u w/\Rep w (A3 E g) g u y:=by
 unfold Ga at hx;split at hx
 case h_2=>exact Ud hm hx hv hk
 rename_i id;split at hx
 case h_1 st es hO=>exact SZ hE hm hO hx hv hk
 split at hx
 case h_2=>cases hx
 rename_i b es cl hT hO;split at hx
 case h_2=>cases hx
 rename_i s1 s0 h1 h0;cases hx;obtain⟨kt,et,e1,e2⟩:=Kf hE hT;cases hv with
 |mref _ _ β b' hb hbx hβ=>
 obtain⟨k1,k2,β',k3,k4⟩:=hm.blk id b' _ hb hO;rw[hβ]at k3;cases k3;obtain rfl:=EZ hk
 have key:∀{c:Bool} {s:List UInt8},M9 .bool c es=some s->∃u,(Instr.lookup t (.map (some β)) (.bool c) false).run E.P w=.ok u w/\Rep w (A3 E g) g u (.str s):=by
  intro c s hf;unfold M9 at hf;split at hf
  case h_2=>cases hf
  rename_i i sb hfn;cases hf;exact⟨.string sb,by simp[Instr.lookup,run_underlying e1,MapKept.run_getObj_map k4,MapKept.run_checkKey e2 (k:=.bool c) trivial,MapKept.run_findKey e2 hfn,Result.andThen],.str _ _ _ rfl⟩
 cases b
 ·exact key h0
 exact key h1
theorem Z8(hE:E.Ok)(h:Xy E t=true):E.P.underlying t=some .string:=by
 unfold Xy at h;split at h
 case h_2=>cases h
 rename_i d hd;split at h
 case h_2=>cases h
 rename_i hs;have:=hE.desc t d hd;rw[hs]at this;exact this
theorem Ks(hE:E.Ok)(h:Rel E w g st a){o:Oper}(hx:DX E st.fr st.O o.op=some (x,O')) :OpSound E w g ((execOp a.eval o).run E.P w) x O':=by
  have hr:=En h;have hm:=h.mem;unfold execOp;unfold DX at hx;cases hop:o.op<;>simp only[hop]at hx<;>try (cases hx;done)
  case move y=>
    simp only[Ao7,Apf]at hx;obtain⟨rfl,rfl⟩:=hx;exact⟨_,w,g,.inl rfl,hm,GLe.refl _,Evo.refl _ _ _ _,hr y⟩
  case assign y=>
    simp only[Ao7,Apf]at hx;obtain⟨rfl,rfl⟩:=hx;exact⟨_,w,g,.inl rfl,hm,GLe.refl _,Evo.refl _ _ _ _,hr y⟩
  case pick c y z=>
    cases hc:ev st.fr c<;>simp only[hc]at hx<;>try (cases hx;done)
    rename_i t;simp only[Ao7,Apf]at hx;obtain⟨rfl,rfl⟩:=hx;have hcv:=hr c;rw[hc]at hcv;have:=EZ hcv;refine⟨if t then a.eval y else a.eval z,w,g,.inl ?_,hm,GLe.refl _,Evo.refl _ _ _ _,?_⟩
    · cases t<;>simp[this,asBool]
    cases t
    · exact hr z
    exact hr y
  case alloc t=>
    cases ht:E.tab t with
    |none=>simp[ht]at hx
    | some d=>
      simp only[ht]at hx;split at hx
      · cases hx
      obtain⟨z,hz,hz1,hz2,hz3⟩:=K4 hE ht w;by_cases hty:E.bty=some t
      · rw[Apb hty]at hx
        simp only[Ao7,Apf]at hx;obtain⟨rfl,rfl⟩:=hx;obtain⟨w',g',n1,n2,n3,n4,n5⟩:=Rg hm t (z:=z) (cs:=d.zero) (by omega) (fun j x hj=>hz3 _ _ _ j x hj);refine⟨_,w',g',.inl ?_,n2,n3,n4,n5⟩;simp[Instr.alloc,hz,n1]
      rw[Apd hty]at hx;simp only[Ao7,Apf]at hx;obtain⟨rfl,rfl⟩:=hx;obtain⟨w',g',n1,n2,n3,n4,n5⟩:=Nw hm t (z:=z) (cs:=d.zero) (by omega) (fun j x hj=>hz3 _ _ _ j x hj);refine⟨_,w',g',.inl ?_,n2,n3,n4,n5⟩;simp[Instr.alloc,hz,n1]
  case box t y=>
    cases hc:(ev st.fr y).cells? with
    |none=>simp[hc]at hx
    | some xs=>
      simp only[hc]at hx;split at hx
      · cases hx
      simp only[Ao7,Apf]at hx;obtain⟨rfl,rfl⟩:=hx;obtain⟨c1,c2⟩:=Ki (hr y) hc;obtain⟨w',g',n1,n2,n3,n4,n5⟩:=Nw hm t c1 c2;refine⟨_,w',g',.inl ?_,n2,n3,n4,n5⟩;simp[Instr.box,n1]
  case build t parts=>
    rw[Ao5]at hx;obtain⟨y,hy,hx⟩:=hx;simp only[Apf]at hx;obtain⟨rfl,rfl⟩:=hx;obtain⟨u,hu,hru⟩:=Vz (w:=w) (g:=g) (pr:=A3 E g) (parts:=parts.map fun(i,x)=>(i,a.eval x)) hE (by rw[Aqe];exact Kk _ _ hr _) hy;exact⟨u,w,g,.inl (by simp[hu]),hm,GLe.refl _,Evo.refl _ _ _ _,hru⟩
  case buildSlice t n parts=>
    have:=NF (parts:=parts.map fun(i,x)=>(i,a.eval x)) hE hm (by rw[Aqe];exact Kk _ _ hr _) hx;simpa using OpSound.of this
  case load t y=>
    cases ht:E.tab t with
    |none=>simp[ht]at hx
    | some d=>
      simp only[ht,Ao5]at hx;obtain⟨z,hz,hx⟩:=hx;simp only[Apf]at hx;obtain⟨rfl,rfl⟩:=hx;obtain⟨u,hu,hru⟩:=Q9 hE hm ht (hr y) hz;exact⟨u,w,g,.inl (by simp[hu]),hm,GLe.refl _,Evo.refl _ _ _ _,hru⟩
  case store t y z=>
    cases ht:E.tab t with
    |none=>simp[ht]at hx
    | some d=>
      simp only[ht,Ao5]at hx;obtain⟨σ1,hz,hx⟩:=hx;simp only[Apf]at hx;obtain⟨rfl,rfl⟩:=hx;obtain⟨w',g',h1,h2,h3,h4⟩:=VX hE hm ht (hr y) (hr z) hz;exact⟨undef,w',g',.inr ⟨by simp[h1],rfl⟩,h2,h3,h4,.junk _ _⟩
  case nilCheck y=>
    have hy:=hr y
    cases hc:ev st.fr y<;>simp only[hc]at hx<;>first
      |(cases hx;done)
      | (simp only[Ao7,Apf]at hx
         obtain⟨rfl,rfl⟩:=hx;rw[hc]at hy;refine⟨a.eval y,w,g,.inl ?_,hm,GLe.refl _,Evo.refl _ _ _ _,hy⟩;generalize hv:a.eval y=v at hy;cases hy<;>simp[hv])
  case makeMap t r=>
    cases r with
    |some _=>cases hx
    |none=>
    cases hx
    have ha:=JV hm (CW w (.map #[] 0)) { blk:=some w.heap.size,o:=0,k:=0,len:=1,ce:=1,isBox:=true,ro:=false } (if(E.mp t).isSome=true then .mp (P0 E t) (mp0 t)else .obj (.map #[] 0)) (.inl rfl)
      (fun _ _=>by
        split
        · refine⟨rfl,fun t m h e=>?_,fun k x h=>(by cases h),w.heap.size,_,_,rfl,(CW w _).new,fun i j e e' hi=>by simp at hi,fun k x h=>(by cases h),fun i e hi=>by simp at hi⟩
          obtain⟨q1,q2,q3,q4,es,cl,q5,q6⟩:=hm.maps t m h;have:=(Apl.1 q5).1;have e2:=Ao8 e;omega
        exact⟨rfl,rfl,w.heap.size,rfl,(CW w _).new⟩)
    refine⟨.map (some w.heap.size),_,_,.inl ?_,ha.1,ha.2.1,ha.2.2,?_⟩
    · have hu:(Instr.makeMap t none).run E.P w=.ok (.map (some w.heap.size)) (w.alloc (.map #[] 0)):=by simp[Instr.makeMap]
      show(do pure (.value (<-Instr.makeMap t (Option.map a.eval none))):Sem Next).run E.P w=_;rw[Ar2,Sem.run_bind,hu];rfl
    rw[<-hm.len];exact .mref _ _ _ _ (by rw[Ape (Apm _)];simp;rfl) rfl rfl
  case insert t m k x1=>
    rw[Ao5]at hx;obtain⟨σ1,h1,hx⟩:=hx;cases hx;unfold Ov at h1;split at h1
    · obtain⟨w',hu,hm',he⟩:=QJ hE hm h1 (hr m) (hr k) (hr x1)
      refine⟨undef,_,g,.inr ⟨?_,rfl⟩,hm',GLe.refl _,he,.junk _ _⟩;rw[Sem.run_bind,hu];rfl
    split at h1
    case h_2=>cases h1
    rename_i kd id hlm hT hmv;split at h1
    case h_2=>cases h1
    rename_i es cl hO;split at h1
    case isFalse=>cases h1
    rename_i hc;obtain⟨c1,c2,c3⟩:=hc;cases h1;obtain⟨kt,et,e1,e2⟩:=Kf hE hT;have hv:=hr m;rw[hmv]at hv;cases hvv:a.eval m with
    | map p=>
      rw[hvv]at hv;cases hv with
      |mref _ _ β b hb hbx hβ=>
      obtain⟨k1,k2,β',k3,k4⟩:=hm.blk id b _ hb hO;rw[hβ]at k3;cases k3;obtain⟨hik,hpl⟩:=AaL c1;have hkv:=Ma hpl (hr k);have hxv:=Ma c2 (hr x1)
      have hfk:Instr.findNow kd (avV (ev st.fr k)) es.toList 0=some none:=by
        unfold Xn at c3;split at c3
        · assumption
        cases c3
      have hu:(Instr.mapUpdate t (.map (some β)) (avV (ev st.fr k)) (avV (ev st.fr x1))).run E.P w=.ok () { w with heap:=w.heap.setIfInBounds β (.map (es.push { key:=avV (ev st.fr k),val:=avV (ev st.fr x1),born:=cl }) (cl+1)) }:=by
        simp[Instr.mapUpdate,run_underlying e1,MapKept.run_getObj_map k4,MapKept.run_checkKey e2 hik,MapKept.run_findKey e2 hfk,MapKept.run_setObj_map _ k4,Result.andThen]
      have hs:=MapKept.heap_set (o':=.map (es.push { key:=avV (ev st.fr k),val:=avV (ev st.fr x1),born:=cl }) (cl+1)) k4
      have hmo:=AaN (w':={ w with heap:=w.heap.setIfInBounds β (.map (es.push { key:=avV (ev st.fr k),val:=avV (ev st.fr x1),born:=cl }) (cl+1)) }) hm hb hO hβ (o':=.map (es.push { key:=avV (ev st.fr k),val:=avV (ev st.fr x1),born:=cl }) (cl+1)) rfl (.inr (E.lmOk hlm))
        hs.1 hs.2 (by simp) rfl rfl rfl
      refine⟨undef,_,g,.inr ⟨?_,rfl⟩,hmo.1,GLe.refl _,hmo.2,.junk _ _⟩;rw[Sem.run_bind,hvv,hkv,hxv,hu];rfl
    |_=>rw[hvv]at hv;cases hv
  case mapUpdate t m k x1=>
    rw[Ao5]at hx;obtain⟨σ1,h1,hx⟩:=hx;cases hx;obtain⟨w',hu,hm',he⟩:=QJ hE hm h1 (hr m) (hr k) (hr x1);refine⟨undef,_,g,.inr ⟨?_,rfl⟩,hm',GLe.refl _,he,.junk _ _⟩;rw[Sem.run_bind,hu];rfl
  case range t y=>
    split at hx
    case h_2=>cases hx
    rename_i s hst hy;cases hx;have hv:=hr y;rw[hy]at hv;obtain⟨sa,hsa,hl⟩:=G7 hv;have hbs:(⟨s.toArray⟩:ByteArray)=sa:=by subst hl;simp
    rw[hbs]
    have ha:=JV hm (CW w (.stringIter sa 0)) { blk:=some w.heap.size,o:=0,k:=0,len:=1,ce:=1,isBox:=true,ro:=false } (.obj (.stringIter sa 0)) (.inl rfl)
      (fun _ _=>⟨rfl,rfl,w.heap.size,rfl,(CW w _).new⟩)
    refine⟨.pointer (some ⟨w.heap.size,0,none⟩),_,_,.inl ?_,ha.1,ha.2.1,ha.2.2,?_⟩
    · have hu:(Instr.range t (a.eval y)).run E.P w=.ok (.pointer (some ⟨w.heap.size,0,none⟩)) (w.alloc (.stringIter sa 0)):=by
        rw[hsa];simp[Instr.range,run_underlying (Z8 hE hst)]
      rw[Sem.run_bind,hu];rfl
    rw[<-hm.len];exact .ref _ _ _ _ _ (by rw[Ape (Apm _)];simp;rfl) rfl rfl
  case next y isS=>
    cases isS with
    |false=>cases hx
    |true=>
    simp only at hx;split at hx
    case h_2=>cases hx
    rename_i id hy;split at hx
    case h_2=>cases hx
    rename_i s pos hO;have hv:=hr y;rw[hy]at hv;cases hvv:a.eval y with
    | pointer p=>
      rw[hvv]at hv;cases hv with
      |ref _ _ _ β b hb hbx hβ=>
      obtain⟨k1,k2,β',k3,k4⟩:=hm.blk id b _ hb hO;rw[hβ]at k3;cases k3;have hg:(getObj β).run E.P w=.ok (.stringIter s pos) w:=by simp[getObj,Sem.run,k4]
      split at hx
      · rename_i hlt
        cases hx;have hset:(setObj β (.stringIter s (pos+(Utf8.decode s pos).2))).run E.P w=.ok () { w with heap:=w.heap.setIfInBounds β (.stringIter s (pos+(Utf8.decode s pos).2)) }:=by simp[setObj,Sem.run,k4]
        have hlt2:β<w.heap.size:=(Apl.1 k4).1
        have hmo:=AaN (w':={ w with heap:=w.heap.setIfInBounds β (.stringIter s (pos+(Utf8.decode s pos).2)) }) hm hb hO hβ (o':=.stringIter s (pos+(Utf8.decode s pos).2)) rfl (.inl fun _ _=>by simp)
          (by simp[Aqk,hlt2]) (fun k hk=>by simp[Aqk,Ne.symm hk]) (by simp) rfl rfl rfl
        refine⟨.tuple #[.bool true,.int .i64 pos,.int .i32 (Utf8.decode s pos).1],_,g,.inl ?_,hmo.1,GLe.refl _,hmo.2,?_⟩
        · have hu:(Instr.next (.pointer (some ⟨β,0,none⟩)) true o.type).run E.P w=.ok (.tuple #[.bool true,.int .i64 pos,.int .i32 (Utf8.decode s pos).1]) { w with heap:=w.heap.setIfInBounds β (.stringIter s (pos+(Utf8.decode s pos).2)) }:=by
            simp[Instr.next,hg,hlt,hset,goInt]
          rw[Sem.run_bind,hvv,hu];rfl
        refine .tup _ _ _ (by simp) (fun i x hi=>?_);rcases i with _|_|_|i
        · simp at hi;subst hi;exact .bool _ _
        · simp at hi;subst hi;exact .int _ _ _
        · simp at hi;subst hi;exact .int _ _ _
        simp at hi
      rename_i hlt;cases hx;refine⟨.tuple #[.bool false],w,g,.inl ?_,hm,GLe.refl _,Evo.refl _ _ _ _,?_⟩
      · have hu:(Instr.next (.pointer (some ⟨β,0,none⟩)) true o.type).run E.P w=.ok (.tuple #[.bool false]) w:=by
          simp[Instr.next,hg,hlt]
        rw[Sem.run_bind,hvv,hu];rfl
      refine .tup _ _ _ (by simp) (fun i x hi=>?_);rcases i with _|i
      · simp at hi;subst hi;exact .bool _ _
      simp at hi
    |_=>rw[hvv]at hv;cases hv
  case binOp op t y z yt=>
    rw[Ao5]at hx;obtain⟨v,hv,hx⟩:=hx;simp only[Apf]at hx;obtain⟨rfl,rfl⟩:=hx;cases hn:PF z with
    | true=>
      rw[hn]at hv;obtain⟨u,hu,hru⟩:=Tb hE (hr y) hv y z hn
      have hz:a.eval z=.nilIface:=by
        unfold PF at hn;split at hn
        · rfl
        cases hn
      exact⟨u,w,g,.inl (by rw[Sem.run_bind,hz,hu];rfl),hm,GLe.refl _,Evo.refl _ _ _ _,hru⟩
    |false=>
    rw[hn]at hv;obtain⟨u,hu,hru⟩:=W9 hE (hr y) (hr z) hv y z;exact⟨u,w,g,.inl (by rw[Sem.run_bind,hu];rfl),hm,GLe.refl _,Evo.refl _ _ _ _,hru⟩
  case unOp op t y=>
    rw[Ao5]at hx;obtain⟨v,hv,hx⟩:=hx;simp only[Apf]at hx;obtain⟨rfl,rfl⟩:=hx;obtain⟨u,hu,hru⟩:=XY (P:=E.P) (hr y) hv;exact⟨u,w,g,.inl (by simp[hu]),hm,GLe.refl _,Evo.refl _ _ _ _,hru⟩
  case convert s d y=>
    have:=Ry hE hm (hr y) hx;simpa using OpSound.of this
  case makeFunc fn first caps=>
    cases fn<;>simp only at hx<;>try (cases hx;done)
    rename_i f;split at hx
    · rename_i h1
      obtain rfl:first=#[]:=by apply AqM;simpa using h1
      have hne:∀ys,caps.toList.map (ev st.fr)≠[.tup ys]:=fun ys e=>by
        rw[e]at hx;cases hx
      have hx':some (AV.fn f (caps.toList.map (ev st.fr)),st.O)=some (x,O'):=by
        split at hx
        · rename_i h2;exact absurd h2 (hne _)
        exact hx
      simp only[Ao7,Apf]at hx';obtain⟨rfl,rfl⟩:=hx';refine⟨.func (.func f) #[] (caps.map a.eval),w,g,.inl (by simp[Instr.makeFunc]),hm,GLe.refl _,Evo.refl _ _ _ _,.fn _ _ _ _ (by simp) ?_ hne⟩;intro i x hi;rw[ApE,Ao5]at hi;obtain⟨y,hy,rfl⟩:=hi
      have:(caps.map a.eval).getD i undef=a.eval y:=by
        refine A2 ?_;have:caps[i]?=some y:=by simpa using hy
        simp[this]
      rw[this];exact hr y
    split at hx
    · rename_i h1 h2
      obtain rfl:caps=#[]:=by apply AqM;simpa using h2
      simp only[Ao7,Apf]at hx;obtain⟨rfl,rfl⟩:=hx;refine⟨.func (.func f) (first.map a.eval) #[],w,g,.inl (by simp[Instr.makeFunc]),hm,GLe.refl _,Evo.refl _ _ _ _,.fnb _ _ _ _ (by simp) ?_⟩;intro i x hi;rw[ApE,Ao5]at hi;obtain⟨y,hy,rfl⟩:=hi
      have:(first.map a.eval).getD i undef=a.eval y:=by
        refine A2 ?_;have:first[i]?=some y:=by simpa using hy
        simp[this]
      rw[this];exact hr y
    cases hx
  case makeInterface t y=>
    cases ht:E.tab t with
    |none=>simp[ht]at hx
    | some d=>
      simp only[ht]at hx;split at hx
      · cases hx
      rename_i hni;simp only[Ao7,Apf]at hx;obtain⟨rfl,rfl⟩:=hx;refine⟨.iface t (a.eval y),w,g,.inl ?_,hm,GLe.refl _,Evo.refl _ _ _ _,.iface _ _ _ _ (hr y)⟩;cases hd:d.desc<;>first|(exact(hni _ hd).elim)|simp[Instr.makeInterface,AF hE ht,hd]
  case makeSlice t l c=>
    have:=Qa hE hm (hr l) (hr c) hx;simpa using OpSound.of this
  case slice t y lo hi mx=>
    have:=VH hE hm (hr y) (MX a.eval _ hr lo) (MX a.eval _ hr hi) (MX a.eval _ hr mx) hx;simpa using OpSound.of this
  case fieldAddr s y f=>
    rw[Ao5]at hx;obtain⟨v,hv,hx⟩:=hx;simp only[Apf]at hx;obtain⟨rfl,rfl⟩:=hx;obtain⟨u,hu,hru⟩:=PU hE hm (hr y) hv;exact⟨u,w,g,.inl (by simp[hu]),hm,GLe.refl _,Evo.refl _ _ _ _,hru⟩
  case field s y f=>
    rw[Ao5]at hx;obtain⟨v,hv,hx⟩:=hx;simp only[Apf]at hx;obtain⟨rfl,rfl⟩:=hx;obtain⟨u,hu,hru⟩:=UH (w:=w) hE (hr y) hv;exact⟨u,w,g,.inl (by simp[hu]),hm,GLe.refl _,Evo.refl _ _ _ _,hru⟩
  case indexAddr t y i=>
    rw[Ao5]at hx;obtain⟨v,hv,hx⟩:=hx;simp only[Apf]at hx;obtain⟨rfl,rfl⟩:=hx;obtain⟨u,hu,hru⟩:=PJ hE hm (hr y) (hr i) hv;exact⟨u,w,g,.inl (by simp[hu]),hm,GLe.refl _,Evo.refl _ _ _ _,hru⟩
  case index t y i=>
    rw[Ao5]at hx;obtain⟨v,hv,hx⟩:=hx;simp only[Apf]at hx;obtain⟨rfl,rfl⟩:=hx;obtain⟨u,hu,hru⟩:=VD (w:=w) hE (hr y) (hr i) hv;exact⟨u,w,g,.inl (by simp[hu]),hm,GLe.refl _,Evo.refl _ _ _ _,hru⟩
  case typeAssert y xt t ok=>
    rw[Ao5]at hx;obtain⟨v,hv,hx⟩:=hx;simp only[Apf]at hx;obtain⟨rfl,rfl⟩:=hx;obtain⟨u,hu,hru⟩:=TQ (w:=w) (xt:=xt) hE (hr y) hv;exact⟨u,w,g,.inl (by simp[hu]),hm,GLe.refl _,Evo.refl _ _ _ _,hru⟩
  case sliceToArrayPointer t y=>
    rw[Ao5]at hx;obtain⟨v,hv,hx⟩:=hx;simp only[Apf]at hx;obtain⟨rfl,rfl⟩:=hx;obtain⟨u,hu,hru⟩:=TB (w:=w) hE (hr y) hv;exact⟨u,w,g,.inl (by simp[hu]),hm,GLe.refl _,Evo.refl _ _ _ _,hru⟩
  case lookup t y z ok=>
    cases hc:Ga E st.O t (ev st.fr y) (ev st.fr z) ok with
    |none=>simp[hc]at hx
    | some u=>
      simp only[hc,ApG,Ao7,Apf]at hx;obtain⟨rfl,rfl⟩:=hx;obtain⟨v,hv1,hv2⟩:=Su hE hm hc (hr y) (hr z);exact⟨v,w,g,.inl (by simp[hv1]),hm,GLe.refl _,Evo.refl _ _ _ _,hv2⟩
  case extract y i=>
    have hy:=hr y;cases hc:ev st.fr y<;>simp only[hc]at hx<;>try (cases hx;done)
    rename_i vs;cases hi:vs[i]? with
    |none=>simp[hi]at hx
    | some z=>
      simp only[hi,Ao7,Apf]at hx;obtain⟨rfl,rfl⟩:=hx;rw[hc]at hy;generalize hv:a.eval y=v at hy;cases hy with
      | tup _ us _ hs hru=>
        have hl:i<us.size:=by have:=(Ao6.1 hi).1;omega
        exact⟨us.getD i undef,w,g,.inl (by simp only[Instr.extract,hv,AB hl,Sem.run_bind,Sem.run_pure,Result.andThen_ok]),hm,GLe.refl _,Evo.refl _ _ _ _,hru _ _ hi⟩
  case call c=>
    cases hc:c.callee<;>simp only[hc]at hx<;>try (cases hx;done)
    rename_i b
    have key:∀consts,OpSound E w g ((builtin b c.argTypes o.type consts (c.args.map a.eval)).run E.P w) x O':=fun consts=>
      Se (b:=b) (ts:=c.argTypes) (ty:=o.type) (consts:=consts) (vs:=c.args.map a.eval) hE hm (by rw[Aqe];exact DQ _ _ hr _) hx
    simp only[resolve,hc,Sem.run_bind,Sem.run_pure,Result.andThen_ok,invoke];exact key _
theorem Iy(h:Rel E w g st a){g':Gh}(hm:Mem E w' g' O')(hle:GLe g g')(he:Evo E 0 w g w' g'):Rel E w' g' ⟨st.fr,O'⟩ a :=
 ⟨h.size,fun t x hx=>(h.slot t x hx).mono he.cells hle,hm,h.defers.evo he⟩
def Ay(fr:List AV)(d:Option Tmp)(x:AV):List AV :=
 match d with
 |some t=>fr.set t x
 |none=>fr
theorem FI(h:Rel E w g st a)(d:Option Tmp)(hv:Rep w (A3 E g) g v x):Rel E w g ⟨Ay st.fr d x,st.O⟩ (a.put d v):=by
 cases d with
 |none=>exact h
 | some t=>
  refine⟨by simp[Ay,Act.put,h.size],?_,h.mem,h.defers⟩;intro t' x' hx';simp only[Ay,Act.put]at hx' ⊢;by_cases e:t'=t
  ·subst e;rw[ApV]at hx';simp only[ApT]at hx';split at hx'
   ·rename_i hl;cases hx'
    have:(a.tmps.setIfInBounds t' v).getD t' undef=v:=by
     have hl':t'<a.tmps.size:=by rw[h.size];exact hl
     simp[Array.getD,hl']
    rw[this];exact hv
   cases hx'
  rw[Dy e]at hx'
  have:(a.tmps.setIfInBounds t v).getD t' undef=a.tmps.getD t' undef:=by
   simp only[ApU,Aqk];rw[Apd (fun h=>e h.symm)]
  rw[this];exact h.slot t' x' hx'
theorem Evo.of_gle{n:Nat}{w w':World}{g g':Gh}(h:Evo E 0 w g w' g')(hle:GLe g g'):Evo E n w g w' g' :=
 ⟨h.os,h.tape,h.output,h.size,h.cells,h.blocks,fun id _ b hb=>hle id b hb⟩
end Go.Rv
