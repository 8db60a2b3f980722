/-
  Part 11.
-/
import Derived.Test.YtldngkmkhfddpaaGreatDoorYW10
namespace Go.Rv
set_option linter.unusedVariables false
set_option linter.unusedSimpArgs false
variable{k x y:AV}{v kv:Value}{a:Act}{t ty:TypeId}{ok:Bool}{ts:Array TypeId}{β id:Nat}{o:Obj}{w':World}{st:St}{O':Ac}
variable {E:Env}{w:World}{g:Gh}{O:Ac}
theorem Mo{pr:Addr->Prop}(h:Ga k=true)(hr:Rep w pr g v k):v=avV k:=by
 cases hr<;>simp only[Ga]at h<;>try (cases h;done)
 case bool=>rfl
 case int=>rfl
 case str s l hs=>subst hs;rfl
theorem U6{pr:Addr->Prop}(h:Ga k=true):Rep w pr g (avV k) k:=by
 cases k<;>simp only[Ga]at h<;>try (cases h;done)
 case bool b=>exact .bool _ _
 case int k n=>exact .int _ _ _
 case str s=>exact .str _ _ _ (by simp)
theorem Vp{a:AV}(h:Ga a=true):UL a=true:=by
 cases a<;>simp only[Ga]at h<;>first|(cases h;done)|rfl
theorem KY{pr:Addr->Prop}(h:UL k=true):Rep w pr g (avV k) k:=by
 unfold UL at h;split at h
 ·refine .fnb _ _ _ _ rfl ?_;intro i x hi
  match i,hi with
  |0,hi=>cases hi;exact .glob _ _
 ·exact .val _ _ h
 exact U6 h
theorem AhW{a b:AV}(ha:Ga a=true)(hb:Ga b=true)(h:avV a=avV b):a=b:=by
 cases a<;>simp only[Ga]at ha<;>try (cases ha;done)
 all_goals cases b<;>simp only[Ga]at hb<;>try (cases hb;done)
 all_goals simp[avV]at h
 all_goals simp[h]
theorem Acf{d:TypeDesc}(h:Aj2 d k=true):MapKept.IsKey d (avV k)/\Ga k=true:=by
 cases d<;>cases k<;>simp[Aj2]at h<;>simp[MapKept.IsKey,avV,Ga];exact h.symm
theorem TV(hm:Mem E w g O)(hx:K2 E t x k ok=some y)(hv:Rep w (Ay E g) g v x)(hk:Rep w (Ay E g) g kv k) :∃u,(Instr.lookup t v kv ok).run E.P w=.ok u w/\Rep w (Ay E g) g u y:=by
 unfold K2 at hx;split at hx
 case h_2=>cases hx
 rename_i m hM;split at hx
 case h_2=>cases hx
 rename_i r;split at hx
 case isFalse=>cases hx
 rename_i hc;obtain⟨rfl,hkey⟩:=hc;simp only[AqG]at hx;subst hx;obtain⟨hik,hpl⟩:=Acf hkey;obtain⟨h1,h2,h3,h4,es,cl,h5,h6,h7⟩:=hm.maps t m hM;have hkv:=Mo hpl hk;subst hkv;have hvv:v=.map (some m.r):=by cases hv;rfl
 subst hvv;rcases MapKept.findNow_spec hik es.toList 0 (fun x hx=>(h6 x hx).1)with⟨f1,f2⟩|⟨j,e,f1,f2,f3⟩
 ·have hn:m.ans k=none:=by
   refine Atm fun hne=>?_
   obtain⟨e,he,hek⟩:=h7 k hpl hne;exact f2 e he hek
  refine⟨if ok then .tuple #[avV m.zv,.bool false]else avV m.zv,?_,?_⟩
  ·cases ok<;>simp[Instr.lookup,run_underlying h1,MapKept.run_getObj_map h5,MapKept.run_checkKey h2 hik,MapKept.run_findKey h2 f1,h3,Result.andThen]
  rw[hn];cases ok
  ·exact KY h4
  refine .tup _ _ _ rfl ?_;intro i x hi
  match i,hi with
  |0,hi=>cases hi;exact KY h4
  |1,hi=>cases hi;exact .bool _ _
 obtain⟨_,ka,va,q1,q2,q3,q4,q5⟩:=h6 e (AqO f2);have:ka=k:=AhW q3 hpl (q1.symm.trans f3);subst this;refine⟨if ok then .tuple #[avV va,.bool true]else avV va,?_,?_⟩
 ·cases ok<;>simp[Instr.lookup,run_underlying h1,MapKept.run_getObj_map h5,MapKept.run_checkKey h2 hik,MapKept.run_findKey h2 f1,Result.andThen,q2]
 rw[q5];cases ok
 ·exact KY q4
 refine .tup _ _ _ rfl ?_;intro i x hi
 match i,hi with
 |0,hi=>cases hi;exact KY q4
 |1,hi=>cases hi;exact .bool _ _
theorem Abt(hE:E.Ok)(hm:Mem E w g O)(hts:ts[0]?=some t){n:Nat}(hv:Rep w (Ay E g) g v x)(hx:XE E O t x=some n) :(Builtin.len_ ts ty #[v]).run E.P w=.ok (.int .i64 n) w:=by
 unfold XE at hx;cases ht:E.tab t with
 |none=>simp[ht]at hx
 | some d=>
  simp only[ht]at hx;split at hx
  ·rename_i s hd;simp only[AqG]at hx;subst hx;obtain⟨ba,rfl,rfl⟩:=GF hv;simp[Builtin.len_,hts,AP hE ht,hd,goInt]
  ·rename_i m e hd;simp only[AqG]at hx;subst hx;have e:(#[v]:Array Value)[0]?=some v:=rfl;simp only[Builtin.len_,hts,e,AP hE ht,hd,goInt,Sem.run_bind,Result.andThen_ok,Sem.run_pure]
  ·rename_i e full els hd;simp only[AqG]at hx;subst hx;cases hv with
   |sl _ a len cap _ _ k c hlen hcap hfull hnone hk hc hr=>simp[Builtin.len_,hts,AP hE ht,hd,goInt,hlen]
  ·rename_i e full id tot off len hd;split at hx
   case h_2=>cases hx
   rename_i k els ro hO;split at hx
   case isFalse=>cases hx
   simp only[AqG]at hx;subst hx;cases hv with
   |bs _ _ _ _ _ _ _ b hgb hbx htot hat ho=>
    have hk:=hm.blk id b _ hgb hO;have hbl:b.len=tot:=by have:=hk.2.2.2.1;omega
    obtain⟨a,cap,rfl,_⟩:=hat hbl;simp[Builtin.len_,hts,AP hE ht,hd,goInt]
  cases hx
def Cj(w:World)(pr:Addr->Prop)(g:Gh):List Value->List AV->Prop
 |[],[]=>True
 |v::r,x::s=>Rep w pr g v x/\Cj w pr g r s
 |_,_=>False
theorem IG{pr:Addr->Prop}{P:Program}{f:Int->Int->Int}{m:Value->Value->Sem Value}{k:IntKind}(hm:∀a b,(m (.int k a) (.int k b)).run P w=.ok (.int k (f a b)) w) :∀(r:List AV) (vs:List Value) (a n:Int),Cj w pr g vs r->KM f k a r=some n->(vs.foldlM m (.int k a)).run P w=.ok (.int k n) w
 |[],[],a,n,_,h=>by simp[KM]at h;subst h;rfl
 |[],_::_,_,_,h,_=>by simp[Cj]at h
 |_::_,[],_,_,h,_=>by simp[Cj]at h
 | x::r,v::vs,a,n,hr,h=>by
  unfold KM at h;split at h
  ·rename_i h1;cases h1
  ·rename_i k' b r' h1;cases h1;split at h
   case isFalse=>cases h
   rename_i hk;subst hk;obtain rfl:=DK hr.1;rw[List.foldlM_cons,Sem.run_bind,hm,Result.andThen_ok];exact IG hm r vs _ n hr.2 h
  cases h
theorem Ea{pr:Addr->Prop}{α:Type}(f:α->Value)(h:α->AV)(hf:∀a,Rep w pr g (f a) (h a)):∀l:List α,Cj w pr g (l.map f) (l.map h)
 |[]=>trivial
 |a::l=>⟨hf a,Ea f h hf l⟩
theorem KD{pr:Addr->Prop}(f:Operand->Value)(h:Operand->AV)(hf:∀a,Rep w pr g (f a) (h a)):∀l:List (Nat×Operand),GU w pr g (l.map fun(i,x)=>(i,f x)) (l.map fun(i,x)=>(i,h x))
 |[]=>trivial
 |(i,a)::l=>⟨rfl,hf a,KD f h hf l⟩
theorem N9{pr:Addr->Prop}(f:Operand->Value)(h:Operand->AV)(hf:∀a,Rep w pr g (f a) (h a))(o:Option Operand):I4 w pr g (o.map f) (o.map h):=by
 cases o with
 |none=>trivial
 |some x=>exact hf x
def OpSound(E:Env)(w:World)(g:Gh)(r:Result Next)(x:AV)(O':Ac):Prop :=
 ∃v w' g',(r=.ok (.value v) w'\/(r=.ok .skip w'/\v=undef))/\Mem E w' g' O'/\GLe g g'/\Evo E 0 w g w' g'/\Rep w' (Ay E g') g' v x
theorem OpSound.of{r:Result Value}{x:AV}{O':Ac}(h:Sound E w g r x O'):OpSound E w g (r.andThen fun v w'=>.ok (.value v) w') x O':=by
 obtain⟨v,w',g',rfl,h1,h2,h3,h4⟩:=h;exact⟨v,w',g',.inl rfl,h1,h2,h3,h4⟩
theorem OpSound.pure{r:Result Value}{v:Value}{x:AV}(hm:Mem E w g O)(h:r=.ok v w)(hr:Rep w (Ay E g) g v x):OpSound E w g (r.andThen fun v w'=>.ok (.value v) w') x O:=OpSound.of (Sound.pure hm h hr)
theorem XR{w:World}(h:w.heap[β]?=some o)(hn:OX o=true){a:Addr}(ha:a.block=β):w.cell? a=none:=by
 unfold World.cell?;rw[ha,h];cases o<;>first|rfl|cases hn
theorem WF(hm:Mem E w g O){b:GB}{o':Obj}(hb:g[id]?=some b)(hO:O[id]?=some (.obj o))(hβ:b.blk=some β)(hn:OX o'=true)(hmap:(∀es cl,o≠.map es cl)\/∀t,E.maps t=none) (h1:w'.heap[β]?=some o') (h2:∀k,k≠β->w'.heap[k]?=w.heap[k]?) (hsz:w'.heap.size=w.heap.size) (hos:w'.os=w.os) (ht:w'.tape=w.tape) (hout:w'.output=w.output) :Mem E w' g (O.set id (.obj o'))/\Evo E 0 w g w' g:=by
 obtain⟨k1,k2,β',k3,k4⟩:=hm.blk id b _ hb hO;rw[hβ]at k3;cases k3
 have hcells:∀a u,w.cell? a=some u->Ay E g a->w'.cell? a=some u/\Ay E g a:=by
  intro a u hc hp;refine⟨?_,hp⟩;by_cases e:a.block=β
  ·rw[XR k4 k2 e]at hc;cases hc
  rw[<-hc];unfold World.cell?;rw[h2 _ e]
 have hmine:EJ g β:=⟨id,b,hb,hβ⟩;have hne:∀k,¬EJ g k->k≠β:=fun k hk e=>hk (e ▸ hmine)
 refine⟨⟨by simp[hm.len],?_,hm.inj,DF hm (by omega) (fun _ _ h=>h),FG hm (by omega) hcells (fun _ _ h=>h),?_,Eg hm (fun k _ hk=>⟨h2 k (hne k hk),hk⟩)⟩,
  ⟨hos,ht,hout,by omega,hcells,fun k _ hk=>⟨h2 k (hne k hk),hk⟩,fun _ h=>absurd h (ArF _)⟩⟩
 ·intro id' c ab e1 e2;by_cases e:id'=id
  ·subst e;rw[hb]at e1;cases e1;rw[AW hO]at e2;cases e2;exact⟨k1,hn,β,hβ,h1⟩
  rw[D6 e]at e2;refine(hm.blk id' c ab e1 e2).mono hcells (GLe.refl _) (fun β2 hβ2=>h2 β2 fun e3=>e (hm.inj id' id c b β e1 hb (e3 ▸ hβ2) hβ))
 rcases hmap with hmap|hmap
 ·refine Hx hm (fun r es cl hr=>?_);by_cases e:r=β
  ·subst e;rw[k4]at hr;cases hr;exact(hmap es cl rfl).elim
  rw[h2 r e];exact hr
 intro t m h;rw[hmap t]at h;cases h
theorem AdC(hm:Mem E w g O){b:GB}{ab ab':ABlk}(hb:g[id]?=some b)(hO:O[id]?=some ab)(hβ:b.blk=some β)(k4:w.heap[β]?=some o)(k2:OX o=true)(hmap:∀t m,E.maps t=some m->b.blk≠some m.r) (h2:∀k,k≠β->w'.heap[k]?=w.heap[k]?) (hsz:w'.heap.size=w.heap.size) (hos:w'.os=w.os) (ht:w'.tape=w.tape) (hout:w'.output=w.output) (hab:(∀a u,w.cell? a=some u->Ay E g a->w'.cell? a=some u/\Ay E g a)->BlkOk E w' g b ab') :Mem E w' g (O.set id ab')/\Evo E 0 w g w' g:=by
 have hcells:∀a u,w.cell? a=some u->Ay E g a->w'.cell? a=some u/\Ay E g a:=by
  intro a u hc hp;refine⟨?_,hp⟩;by_cases e:a.block=β
  ·rw[XR k4 k2 e]at hc;cases hc
  rw[<-hc];unfold World.cell?;rw[h2 _ e]
 have hmine:EJ g β:=⟨id,b,hb,hβ⟩;have hne:∀k,¬EJ g k->k≠β:=fun k hk e=>hk (e ▸ hmine)
 refine⟨⟨by simp[hm.len],?_,hm.inj,DF hm (by omega) (fun _ _ h=>h),FG hm (by omega) hcells (fun _ _ h=>h),?_,Eg hm (fun k _ hk=>⟨h2 k (hne k hk),hk⟩)⟩,
  ⟨hos,ht,hout,by omega,hcells,fun k _ hk=>⟨h2 k (hne k hk),hk⟩,fun _ h=>absurd h (ArF _)⟩⟩
 ·intro id' c ab2 e1 e2;by_cases e:id'=id
  ·subst e;rw[hb]at e1;cases e1;rw[AW hO]at e2;cases e2;exact hab hcells
  rw[D6 e]at e2;refine(hm.blk id' c ab2 e1 e2).mono hcells (GLe.refl _) (fun β2 hβ2=>h2 β2 fun e3=>e (hm.inj id' id c b β e1 hb (e3 ▸ hβ2) hβ))
 intro t m h;obtain⟨q1,q2,q3,q4,es,cl,q5,q6⟩:=hm.maps t m h;exact⟨q1,q2,q3,q4,es,cl,by rw[h2 m.r (fun e=>hmap t m h (by rw[hβ,e]))];exact q5,q6⟩
theorem Tm{k k':Ky}(h:Ol k=Ol k'):k=k':=by
 cases k<;>cases k'<;>simp[Ol]at h<;>simp[h]
theorem SA{pr:Addr->Prop}{kd:TypeDesc}{k:Ky}(hk:AaF kd x=some k)(hr:Rep w pr g v x):v=Ol k/\∀k',kyS k'=kyS k->MapKept.IsKey kd (Ol k'):=by
 unfold AaF at hk;split at hk
 ·cases hk;obtain⟨sa,hsa,hl⟩:=GF hr;refine⟨?_,fun k' h=>?_⟩
  ·subst hl;rw[hsa];simp[Ol]
  cases k'<;>simp[kyS]at h;exact trivial
 ·cases hk;have:=DK hr;refine⟨this,fun k' h=>?_⟩;cases k'<;>simp[kyS]at h;exact rfl
 cases hk
section
variable {arr:Array MapEntry}{f:Ky->Option AV}{kt:TypeId}{kd:TypeDesc}{pr:Addr->Prop}
theorem VJ(hd:E.P.underlying kt=some kd)(h2:∀k x,f k=some x->∃(i:Nat) (e:MapEntry),arr[i]?=some e/\e.key=Ol k)(hr:∀(i:Nat) e,arr[i]?=some e->∃k x,e.key=Ol k/\f k=some x/\Rep w pr [] e.val x)(k:Ky)(hk:∀k',kyS k'=kyS k->MapKept.IsKey kd (Ol k'))(hh:∀k' x,f k'=some x->kyS k'=kyS k)(w':World) :((Instr.findKey kt (Ol k) arr.toList).run E.P w'=.ok none w'/\f k=none/\∀(i:Nat) e,arr[i]?=some e->e.key≠Ol k) \/∃j e x,(Instr.findKey kt (Ol k) arr.toList).run E.P w'=.ok (some (j,e.val)) w'/\arr[j]?=some e/\e.key=Ol k/\f k=some x/\Rep w pr [] e.val x:=by
 have hkeys:∀e∈arr.toList,MapKept.IsKey kd e.key:=by
  intro e he;obtain⟨i,hi⟩:=List.getElem?_of_mem he;rw[ArR]at hi;obtain⟨k',x,q1,q2,_⟩:=hr i e hi;rw[q1];exact hk _ (hh _ _ q2)
 rcases MapKept.findNow_spec (hk k rfl) arr.toList 0 hkeys with⟨h1,h3⟩|⟨j,e,h1,h3,h4⟩
 ·have hno:∀(i:Nat) e,arr[i]?=some e->e.key≠Ol k:=fun i e hi=>h3 e (AqO (by rw[ArR];exact hi))
  refine .inl ⟨MapKept.run_findKey hd h1,?_,hno⟩;cases hf:f k with
  |none=>rfl
  |some x=>
   obtain⟨i,e,q1,q2⟩:=h2 k x hf;exact absurd q2 (hno i e q1)
 rw[ArR]at h3;obtain⟨k',x,q1,q2,q3⟩:=hr j e h3;have hkk:k'=k:=Tm (q1.symm.trans h4);subst hkk;have h1':=MapKept.run_findKey (w:=w') hd h1;rw[Ar7]at h1';exact .inr ⟨j,e,x,h1',h3,h4,q2,q3⟩
end
theorem Kp(hE:E.Ok){kd:TypeDesc}(h:HZ E t=some kd):∃kt et,E.P.underlying t=some (.map kt et)/\E.P.underlying kt=some kd:=by
 unfold HZ at h;split at h
 case h_2=>cases h
 rename_i d hd;split at h
 case h_2=>cases h
 rename_i kt et hs;split at h
 case h_2=>cases h
 rename_i dk hk;cases h;have h1:=hE.desc t d hd;rw[hs]at h1;exact⟨kt,et,h1,hE.desc kt dk hk⟩
theorem M8{f:Ky->Option AV}{k:Ky}{x:Option AV}:KU f k x k=x:=AqJ rfl
theorem JB{f:Ky->Option AV}{k k':Ky}{x:Option AV}(h:k'≠k):KU f k x k'=f k':=AqI h
theorem US(hE:E.Ok)(hm:Mem E w g O){st:Bool}{f:Ky->Option AV}(hO:O[id]?=some (.mp st f))(hx:JW E t st f k ok=some y)(hv:Rep w (Ay E g) g v (.mref id))(hk:Rep w (Ay E g) g kv k) :∃u,(Instr.lookup t v kv ok).run E.P w=.ok u w/\Rep w (Ay E g) g u y:=by
 unfold JW at hx;split at hx
 case h_2=>cases hx
 rename_i kd z hT hz;split at hx
 case h_2=>cases hx
 rename_i kk hkk;split at hx
 case isFalse=>cases hx
 rename_i hst;subst hst;cases hx;obtain⟨kt,et,e1,e2⟩:=Kp hE hT;obtain⟨kt',et',zv,o1,o2,o3⟩:=E.mpOk t z hz;rw[e1]at o1;cases o1;have hzr:=o3 w (Ay E g) g;cases hv with
 |mref _ _ β b hb hbx hβ=>
 obtain⟨k1,_,hh,β',arr,cl,k3,k4,k5,k6,k7⟩:=hm.blk id b _ hb hO;rw[hβ]at k3;cases k3;obtain⟨rfl,hik⟩:=SA hkk hk;rcases VJ e2 k6 k7 kk hik hh w with⟨f1,f2,_⟩|⟨j,e,x,f1,f2,f3,f4,f5⟩
 ·rw[f2];refine⟨if ok then .tuple #[zv,.bool false]else zv,?_,?_⟩
  ·cases ok<;>simp[Instr.lookup,run_underlying e1,MapKept.run_getObj_map k4,MapKept.run_checkKey e2 (hik kk rfl),f1,o2,Result.andThen]
  cases ok
  ·exact hzr
  refine .tup _ _ _ rfl ?_;intro i x hi
  match i,hi with
  |0,hi=>cases hi;exact hzr
  |1,hi=>cases hi;exact .bool _ _
 rw[f4];have hxr:Rep w (Ay E g) g e.val x:=f5.mono (fun a u h1 h2=>⟨h1,h2⟩) (GLe.nil _);refine⟨if ok then .tuple #[e.val,.bool true]else e.val,?_,?_⟩
 ·cases ok<;>simp[Instr.lookup,run_underlying e1,MapKept.run_getObj_map k4,MapKept.run_checkKey e2 (hik kk rfl),f1,Result.andThen]
 cases ok
 ·exact hxr
 refine .tup _ _ _ rfl ?_;intro i x' hi
 match i,hi with
 |0,hi=>cases hi;exact hxr
 |1,hi=>cases hi;exact .bool _ _
theorem RB(hE:E.Ok)(hm:Mem E w g O){m:AV}{vm vk vx:Value}(hx:Nd E O t m k x=some O')(hv:Rep w (Ay E g) g vm m)(hk:Rep w (Ay E g) g vk k)(hxr:Rep w (Ay E g) g vx x) :∃w',(Instr.mapUpdate t vm vk vx).run E.P w=.ok () w'/\Mem E w' g O'/\Evo E 0 w g w' g:=by
 unfold Nd at hx;split at hx
 case h_2=>cases hx
 rename_i kd id hT;split at hx
 case h_2=>cases hx
 rename_i st f kk hO hkk;split at hx
 case isFalse=>cases hx
 rename_i hc;obtain⟨hc,hst⟩:=hc;subst hst;cases hx;obtain⟨kt,et,e1,e2⟩:=Kp hE hT;cases hv with
 |mref _ _ β b hb hbx hβ=>
 obtain⟨k1,hmp,hh,β',arr,cl,k3,k4,k5,k6,k7⟩:=hm.blk id b _ hb hO;rw[hβ]at k3;cases k3;obtain⟨rfl,hik⟩:=SA hkk hk;have hxc:=C7 hxr hc
 have hh':∀k' y,KU f kk (some x) k'=some y->kyS k'=kyS kk:=by
  intro k' y h;by_cases e:k'=kk
  ·rw[e]
  rw[JB e]at h;exact hh _ _ h
 rcases VJ e2 k6 k7 kk hik hh w with⟨f1,_,f2⟩|⟨j,e,y,f1,f2,f3,f4,f5⟩
 ·have hs:=MapKept.heap_set (o':=.map (arr.push { key:=Ol kk,val:=vx,born:=cl }) (cl+1)) k4
  have hget:∀i e,(arr.push { key:=Ol kk,val:=vx,born:=cl })[i]?=some e->(i<arr.size/\arr[i]?=some e)\/(i=arr.size/\e={ key:=Ol kk,val:=vx,born:=cl }):=by
   intro i e hi;rw[AsP]at hi;split at hi
   ·rename_i h;exact .inr ⟨h,(AqF hi).symm⟩
   exact .inl ⟨(AqS.1 hi).1,hi⟩
  refine⟨{ w with heap:=w.heap.setIfInBounds β (.map (arr.push { key:=Ol kk,val:=vx,born:=cl }) (cl+1)) },?_,?_⟩
  ·simp[Instr.mapUpdate,run_underlying e1,MapKept.run_getObj_map k4,MapKept.run_checkKey e2 (hik kk rfl),f1,MapKept.run_setObj_map _ k4,Result.andThen]
  refine AdC hm hb hO hβ k4 rfl hmp hs.2 (by simp) rfl rfl rfl (fun hcells=>⟨k1,hmp,hh',β,_,_,hβ,hs.1,?_,?_,?_⟩)
  ·intro i j e e' hi hj he;rcases hget i e hi with⟨a1,a2⟩|⟨a1,a2⟩<;>rcases hget j e' hj with⟨b1,b2⟩|⟨b1,b2⟩
   ·exact k5 i j e e' a2 b2 he
   ·subst b2;exact absurd he (f2 i e a2)
   ·subst a2;exact absurd he.symm (f2 j e' b2)
   omega
  ·intro k' y h;by_cases e:k'=kk
   ·exact⟨arr.size,_,Array.getElem?_push_size,by rw[e]⟩
   rw[JB e]at h;obtain⟨i,e2,q1,q2⟩:=k6 k' y h;have hl:=(AqS.1 q1).1;exact⟨i,e2,by rw[AsP,AqI (by omega)];exact q1,q2⟩
  intro i e hi;rcases hget i e hi with⟨a1,a2⟩|⟨a1,a2⟩
  ·obtain⟨k',y,q1,q2,q3⟩:=k7 i e a2;exact⟨k',y,q1,by rw[JB (fun h=>f2 i e a2 (by rw[q1,h]))];exact q2,q3.mono hcells (GLe.refl _)⟩
  subst a2;exact⟨kk,x,rfl,M8,hxc.mono hcells (GLe.refl _)⟩
 have hs:=MapKept.heap_set (o':=.map (arr.modify j fun e=>{ e with key:=Ol kk,val:=vx }) cl) k4
 have hget:∀i e',(arr.modify j fun e=>{ e with key:=Ol kk,val:=vx })[i]?=some e'->(i≠j/\arr[i]?=some e')\/(i=j/\e'={ e with key:=Ol kk,val:=vx }):=by
  intro i e' hi;rw[Asd]at hi;split at hi
  ·rename_i h;subst h;rw[f2]at hi;exact .inr ⟨rfl,(AqF hi).symm⟩
  rename_i h;exact .inl ⟨fun e=>h e.symm,hi⟩
 have hself:(arr.modify j fun e=>{ e with key:=Ol kk,val:=vx })[j]?=some { e with key:=Ol kk,val:=vx }:=by
  rw[Asd,AqJ rfl,f2];rfl
 refine⟨{ w with heap:=w.heap.setIfInBounds β (.map (arr.modify j fun e=>{ e with key:=Ol kk,val:=vx }) cl) },?_,?_⟩
 ·simp[Instr.mapUpdate,run_underlying e1,MapKept.run_getObj_map k4,MapKept.run_checkKey e2 (hik kk rfl),f1,f2,f3,MapKept.run_keyThatStays (hik kk rfl),MapKept.run_setObj_map _ k4,Result.andThen]
 refine AdC hm hb hO hβ k4 rfl hmp hs.2 (by simp) rfl rfl rfl (fun hcells=>⟨k1,hmp,hh',β,_,_,hβ,hs.1,?_,?_,?_⟩)
 ·intro i i' e1 e2 hi hj he;rcases hget i e1 hi with⟨a1,a2⟩|⟨a1,a2⟩<;>rcases hget i' e2 hj with⟨b1,b2⟩|⟨b1,b2⟩
  ·exact k5 i i' e1 e2 a2 b2 he
  ·subst b2;exact absurd (k5 i j e1 e a2 f2 (he.trans f3.symm)) a1
  ·subst a2;exact absurd (k5 i' j e2 e b2 f2 (he.symm.trans f3.symm)) b1
  omega
 ·intro k' y h;by_cases ek:k'=kk
  ·exact⟨j,_,hself,by rw[ek]⟩
  rw[JB ek]at h;obtain⟨i,e2,q1,q2⟩:=k6 k' y h
  have hne:j≠i:=by
   intro h3;subst h3;rw[f2]at q1;cases q1;exact ek (Tm (q2.symm.trans f3))
  exact⟨i,e2,by rw[Asd,AqI hne];exact q1,q2⟩
 intro i e' hi;rcases hget i e' hi with⟨a1,a2⟩|⟨a1,a2⟩
 ·obtain⟨k',y,q1,q2,q3⟩:=k7 i e' a2;refine⟨k',y,q1,?_,q3.mono hcells (GLe.refl _)⟩;rw[JB]
  ·exact q2
  intro h;subst h;exact a1 (k5 i j e' e a2 f2 (q1.trans f3.symm))
 subst a2;exact⟨kk,x,rfl,M8,hxc.mono hcells (GLe.refl _)⟩
theorem Wh(hE:E.Ok)(hm:Mem E w g O)(hts:ts[0]?=some t){m:AV}{vm vk:Value}(hx:PF E O t m k=some O')(hv:Rep w (Ay E g) g vm m)(hk:Rep w (Ay E g) g vk k) :∃w',(Builtin.delete_ ts ty #[vm,vk]).run E.P w=.ok (.tuple #[]) w'/\Mem E w' g O'/\Evo E 0 w g w' g:=by
 unfold PF at hx;split at hx
 case h_2=>cases hx
 rename_i kd id hT;split at hx
 case h_2=>cases hx
 rename_i st f kk hO hkk;split at hx
 case isFalse=>cases hx
 rename_i hst;subst hst;cases hx;obtain⟨kt,et,e1,e2⟩:=Kp hE hT;cases hv with
 |mref _ _ β b hb hbx hβ=>
 obtain⟨k1,hmp,hh,β',arr,cl,k3,k4,k5,k6,k7⟩:=hm.blk id b _ hb hO;rw[hβ]at k3;cases k3;obtain⟨rfl,hik⟩:=SA hkk hk
 have hh':∀k' y,KU f kk none k'=some y->kyS k'=kyS kk:=by
  intro k' y h;by_cases e:k'=kk
  ·rw[e]
  rw[JB e]at h;exact hh _ _ h
 rcases VJ e2 k6 k7 kk hik hh w with⟨f1,f0,f2⟩|⟨j,e,y,f1,f2,f3,f4,f5⟩
 ·have e0:KU f kk none=f:=by
   funext k';by_cases e:k'=kk
   ·rw[e,M8,f0]
   exact JB e
  rw[e0]
  have e0:O.set id (.mp (kyS kk) f)=O:=by
   apply ArJ;intro i;by_cases e:i=id
   ·subst e;rw[AW hO,hO]
   rw[D6 e]
  rw[e0];refine⟨w,?_,hm,Evo.refl _ _ _ _⟩
  have hsame:w.heap.setIfInBounds β (.map arr cl)=w.heap:=by
   apply Ati;intro i;rw[ArT];split
   ·rename_i e;subst e;rw[AqJ (AqS.1 k4).1,k4]
   rfl
  simp[Builtin.delete_,hts,run_underlying e1,MapKept.run_getObj_map k4,MapKept.run_checkKey e2 (hik kk rfl),f1,MapKept.run_setObj_map _ k4,Result.andThen,hsame]
 have hs:=MapKept.heap_set (o':=.map (arr.eraseIdxIfInBounds j) cl) k4;have hj:j<arr.size:=(AqS.1 f2).1
 have hq:∀i,(arr.eraseIdxIfInBounds j)[i]?=arr[if i<j then i else i+1]?:=by
  intro i;rw[Array.eraseIdxIfInBounds,dif_pos hj,Array.getElem?_eraseIdx];split<;>rfl
 have hne:∀i,(if i<j then i else i+1)≠j:=by intro i;split<;>omega
 refine⟨{ w with heap:=w.heap.setIfInBounds β (.map (arr.eraseIdxIfInBounds j) cl) },?_,?_⟩
 ·simp[Builtin.delete_,hts,run_underlying e1,MapKept.run_getObj_map k4,MapKept.run_checkKey e2 (hik kk rfl),f1,MapKept.run_setObj_map _ k4,Result.andThen]
 refine AdC hm hb hO hβ k4 rfl hmp hs.2 (by simp) rfl rfl rfl (fun hcells=>⟨k1,hmp,hh',β,_,_,hβ,hs.1,?_,?_,?_⟩)
 ·intro i i' e1 e2 hi hj he;rw[hq]at hi hj;have:=k5 _ _ e1 e2 hi hj he;split at this<;>split at this<;>omega
 ·intro k' y h
  have ek:k'≠kk:=by
   intro ek;rw[ek,M8]at h;cases h
  rw[JB ek]at h;obtain⟨i,e2,q1,q2⟩:=k6 k' y h
  have hij:i≠j:=by
   intro h3;subst h3;rw[f2]at q1;cases q1;exact ek (Tm (q2.symm.trans f3))
  by_cases hlt:i<j
  ·exact⟨i,e2,by rw[hq,AqJ hlt];exact q1,q2⟩
  have h1:i-1+1=i:=by omega
  exact⟨i-1,e2,by rw[hq,AqI (by omega),h1];exact q1,q2⟩
 intro i e' hi;rw[hq]at hi;obtain⟨k',y,q1,q2,q3⟩:=k7 _ e' hi;refine⟨k',y,q1,?_,q3.mono hcells (GLe.refl _)⟩;rw[JB]
 ·exact q2
 intro h;subst h;exact hne i (k5 _ j e' e hi f2 (q1.trans f3.symm))
theorem SU(hE:E.Ok)(hm:Mem E w g O){b:Builtin}{consts:Array Bool}{vs:Array Value}{xs:List AV}(hv:Cj w (Ay E g) g vs.toList xs) (hy:Bg E O b ts.toList xs=some (y,O')):OpSound E w g ((builtin b ts ty consts vs).run E.P w) y O':=by
 unfold Bg at hy;split at hy
 ·rename_i t _ x hts
  obtain⟨v,rfl,hx⟩:∃v,vs=#[v]/\Rep w (Ay E g) g v x:=by
   match hvs:vs.toList,hv with
   |[v],h=>exact⟨v,by apply Aso;simp[hvs],h.1⟩
  rw[AqE]at hy;obtain⟨n,hn,hy⟩:=hy;simp only[AqQ]at hy;obtain⟨rfl,rfl⟩:=hy;have h0:ts[0]?=some t:=by rw[<-ArR,hts];rfl
  have:=Abt (ty:=ty) hE hm h0 hx hn;refine⟨.int .i64 n,w,g,.inl ?_,hm,GLe.refl _,Evo.refl _ _ _ _,.int _ _ _⟩;simp[builtin,this]
 ·rename_i t u _ s x hts
  obtain⟨v1,v2,rfl,h1,h2⟩:∃v1 v2,vs=#[v1,v2]/\Rep w (Ay E g) g v1 s/\Rep w (Ay E g) g v2 x:=by
   match hvs:vs.toList,hv with
   |[v1,v2],h=>exact⟨v1,v2,by apply Aso;simp[hvs],h.1,h.2.1⟩
  cases hu:E.tab u with
  |none=>simp[hu]at hy
  | some du=>
   simp only[hu]at hy;split at hy
   ·cases hy
   rename_i hnu
   have ht:(Builtin.append_ ts ty #[v1,v2])=Builtin.append_ #[t,u] ty #[v1,v2]:=by
    have h0:ts[0]?=some t:=by rw[<-ArR,hts];rfl
    have h1:ts[1]?=some u:=by rw[<-ArR,hts];rfl
    unfold Builtin.append_;simp only[h0,h1];rfl
   have:=U5 (ty:=ty) hE hm h1 h2 hu (fun k h=>hnu k h) hy;rw[<-ht]at this;have:=OpSound.of this;simpa [builtin]using this
 ·rename_i t _ d s hts
  obtain⟨v1,v2,rfl,h1,h2⟩:∃v1 v2,vs=#[v1,v2]/\Rep w (Ay E g) g v1 d/\Rep w (Ay E g) g v2 s:=by
   match hvs:vs.toList,hv with
   |[v1,v2],h=>exact⟨v1,v2,by apply Aso;simp[hvs],h.1,h.2.1⟩
  have ht:(Builtin.copy_ ts ty #[v1,v2])=Builtin.copy_ #[t,0] ty #[v1,v2]:=by
   have h0:ts[0]?=some t:=by rw[<-ArR,hts];rfl
   unfold Builtin.copy_;simp only[h0];rfl
  have:=ZR (ty:=ty) (u:=0) hE hm h1 h2 hy;rw[<-ht]at this;have:=OpSound.of this;simpa [builtin]using this
 ·rename_i t _ m k hts
  obtain⟨v1,v2,rfl,h1,h2⟩:∃v1 v2,vs=#[v1,v2]/\Rep w (Ay E g) g v1 m/\Rep w (Ay E g) g v2 k:=by
   match hvs:vs.toList,hv with
   |[v1,v2],h=>exact⟨v1,v2,by apply Aso;simp[hvs],h.1,h.2.1⟩
  rw[AqE]at hy;obtain⟨σ1,h3,hy⟩:=hy;cases hy;have h0:ts[0]?=some t:=by rw[<-ArR,hts];rfl
  obtain⟨w',hu,hm',he⟩:=Wh (ty:=ty) hE hm h0 h3 h1 h2;refine⟨.tuple #[],w',g,.inl ?_,hm',GLe.refl _,he,.tup _ _ _ rfl (fun i x hi=>by simp at hi)⟩;simp[builtin,hu]
 ·rename_i k a r;rw[AqE]at hy;obtain⟨n,hn,hy⟩:=hy;simp only[AqQ]at hy;obtain⟨rfl,rfl⟩:=hy
  match hvs:vs.toList,hv with
  |v::vr,h=>
   obtain rfl:=DK h.1;have:=IG (P:=E.P) (m:=Builtin.min2) (f:=fun a b=>if b<a then b else a) (k:=k) (by intro a b;simp[Builtin.min2]) r vr a n h.2 hn;refine⟨.int k n,w,g,.inl ?_,hm,GLe.refl _,Evo.refl _ _ _ _,.int _ _ _⟩;simp[builtin,Builtin.min_,hvs,this]
 ·rename_i k a r;rw[AqE]at hy;obtain⟨n,hn,hy⟩:=hy;simp only[AqQ]at hy;obtain⟨rfl,rfl⟩:=hy
  match hvs:vs.toList,hv with
  |v::vr,h=>
   obtain rfl:=DK h.1;have:=IG (P:=E.P) (m:=Builtin.max2) (f:=fun a b=>if b>a then b else a) (k:=k) (by intro a b;simp[Builtin.max2]) r vr a n h.2 hn;refine⟨.int k n,w,g,.inl ?_,hm,GLe.refl _,Evo.refl _ _ _ _,.int _ _ _⟩;simp[builtin,Builtin.max_,hvs,this]
 cases hy
theorem RP(hE:E.Ok)(hm:Mem E w g O)(hx:Gx E O t x k ok=some y)(hv:Rep w (Ay E g) g v x)(hk:Rep w (Ay E g) g kv k) :∃u,(Instr.lookup t v kv ok).run E.P w=.ok u w/\Rep w (Ay E g) g u y:=by
 unfold Gx at hx;split at hx
 case h_2=>exact TV hm hx hv hk
 rename_i id;split at hx
 case h_1 st es hO=>exact US hE hm hO hx hv hk
 split at hx
 case h_2=>cases hx
 rename_i b es cl hT hO;split at hx
 case h_2=>cases hx
 rename_i s1 s0 h1 h0;cases hx;obtain⟨kt,et,e1,e2⟩:=Kp hE hT;cases hv with
 |mref _ _ β b' hb hbx hβ=>
 obtain⟨k1,k2,β',k3,k4⟩:=hm.blk id b' _ hb hO;rw[hβ]at k3;cases k3;obtain rfl:=Fb hk
 have key:∀{c:Bool} {s:List UInt8},Nr .bool c es=some s->∃u,(Instr.lookup t (.map (some β)) (.bool c) false).run E.P w=.ok u w/\Rep w (Ay E g) g u (.str s):=by
  intro c s hf;unfold Nr at hf;split at hf
  case h_2=>cases hf
  rename_i i sb hfn;cases hf;exact⟨.string sb,by simp[Instr.lookup,run_underlying e1,MapKept.run_getObj_map k4,MapKept.run_checkKey e2 (k:=.bool c) trivial,MapKept.run_findKey e2 hfn,Result.andThen],.str _ _ _ rfl⟩
 cases b
 ·exact key h0
 exact key h1
theorem Aaz(hE:E.Ok)(h:XN E t=true):E.P.underlying t=some .string:=by
 unfold XN at h;split at h
 case h_2=>cases h
 rename_i d hd;split at h
 case h_2=>cases h
 rename_i hs;have:=hE.desc t d hd;rw[hs]at this;exact this
theorem KR(hE:E.Ok)(h:Rel E w g st a){o:Oper}(hx:EF E st.fr st.O o.op=some (x,O')) :OpSound E w g ((execOp a.eval o).run E.P w) x O':=by
  have hr:=DQ h;have hm:=h.mem;unfold execOp;unfold EF at hx;cases hop:o.op<;>simp only[hop]at hx<;>try (cases hx;done)
  case move y=>
    simp only[AqG,AqQ]at hx;obtain⟨rfl,rfl⟩:=hx;exact⟨_,w,g,.inl rfl,hm,GLe.refl _,Evo.refl _ _ _ _,hr y⟩
  case assign y=>
    simp only[AqG,AqQ]at hx;obtain⟨rfl,rfl⟩:=hx;exact⟨_,w,g,.inl rfl,hm,GLe.refl _,Evo.refl _ _ _ _,hr y⟩
  case pick c y z=>
    cases hc:ev st.fr c<;>simp only[hc]at hx<;>try (cases hx;done)
    rename_i t;simp only[AqG,AqQ]at hx;obtain⟨rfl,rfl⟩:=hx;have hcv:=hr c;rw[hc]at hcv;have:=Fb hcv;refine⟨if t then a.eval y else a.eval z,w,g,.inl ?_,hm,GLe.refl _,Evo.refl _ _ _ _,?_⟩
    · cases t<;>simp[this,asBool]
    cases t
    · exact hr z
    exact hr y
  case alloc t=>
    cases ht:E.tab t with
    |none=>simp[ht]at hx
    | some d=>
      simp only[ht]at hx;split at hx
      · cases hx
      obtain⟨z,hz,hz1,hz2,hz3⟩:=KO hE ht w;by_cases hty:E.bty=some t
      · rw[AqJ hty]at hx
        simp only[AqG,AqQ]at hx;obtain⟨rfl,rfl⟩:=hx;obtain⟨w',g',n1,n2,n3,n4,n5⟩:=RF hm t (z:=z) (cs:=d.zero) (by omega) (fun j x hj=>hz3 _ _ _ j x hj);refine⟨_,w',g',.inl ?_,n2,n3,n4,n5⟩;simp[Instr.alloc,hz,n1]
      rw[AqI hty]at hx;simp only[AqG,AqQ]at hx;obtain⟨rfl,rfl⟩:=hx;obtain⟨w',g',n1,n2,n3,n4,n5⟩:=NZ hm t (z:=z) (cs:=d.zero) (by omega) (fun j x hj=>hz3 _ _ _ j x hj);refine⟨_,w',g',.inl ?_,n2,n3,n4,n5⟩;simp[Instr.alloc,hz,n1]
  case box t y=>
    cases hc:(ev st.fr y).cells? with
    |none=>simp[hc]at hx
    | some xs=>
      simp only[hc]at hx;split at hx
      · cases hx
      simp only[AqG,AqQ]at hx;obtain⟨rfl,rfl⟩:=hx;obtain⟨c1,c2⟩:=K4 (hr y) hc;obtain⟨w',g',n1,n2,n3,n4,n5⟩:=NZ hm t c1 c2;refine⟨_,w',g',.inl ?_,n2,n3,n4,n5⟩;simp[Instr.box,n1]
  case build t parts=>
    rw[AqE]at hx;obtain⟨y,hy,hx⟩:=hx;simp only[AqQ]at hx;obtain⟨rfl,rfl⟩:=hx;obtain⟨u,hu,hru⟩:=Xh (w:=w) (g:=g) (pr:=Ay E g) (parts:=parts.map fun(i,x)=>(i,a.eval x)) hE (by rw[ArK];exact KD _ _ hr _) hy;exact⟨u,w,g,.inl (by simp[hu]),hm,GLe.refl _,Evo.refl _ _ _ _,hru⟩
  case buildSlice t n parts=>
    have:=Oq (parts:=parts.map fun(i,x)=>(i,a.eval x)) hE hm (by rw[ArK];exact KD _ _ hr _) hx;simpa using OpSound.of this
  case load t y=>
    cases ht:E.tab t with
    |none=>simp[ht]at hx
    | some d=>
      simp only[ht,AqE]at hx;obtain⟨z,hz,hx⟩:=hx;simp only[AqQ]at hx;obtain⟨rfl,rfl⟩:=hx;obtain⟨u,hu,hru⟩:=Rb hE hm ht (hr y) hz;exact⟨u,w,g,.inl (by simp[hu]),hm,GLe.refl _,Evo.refl _ _ _ _,hru⟩
  case store t y z=>
    cases ht:E.tab t with
    |none=>simp[ht]at hx
    | some d=>
      simp only[ht,AqE]at hx;obtain⟨σ1,hz,hx⟩:=hx;simp only[AqQ]at hx;obtain⟨rfl,rfl⟩:=hx;obtain⟨w',g',h1,h2,h3,h4⟩:=W8 hE hm ht (hr y) (hr z) hz;exact⟨undef,w',g',.inr ⟨by simp[h1],rfl⟩,h2,h3,h4,.junk _ _⟩
  case nilCheck y=>
    have hy:=hr y
    cases hc:ev st.fr y<;>simp only[hc]at hx<;>first
      |(cases hx;done)
      | (simp only[AqG,AqQ]at hx
         obtain⟨rfl,rfl⟩:=hx;rw[hc]at hy;refine⟨a.eval y,w,g,.inl ?_,hm,GLe.refl _,Evo.refl _ _ _ _,hy⟩;generalize hv:a.eval y=v at hy;cases hy<;>simp[hv])
  case makeMap t r=>
    cases r with
    |some _=>cases hx
    |none=>
    cases hx
    have ha:=Kx hm (Dd w (.map #[] 0)) { blk:=some w.heap.size,o:=0,k:=0,len:=1,ce:=1,isBox:=true,ro:=false } (if(E.mp t).isSome=true then .mp (Qp E t) (mp0 t)else .obj (.map #[] 0)) (.inl rfl)
      (fun _ _=>by
        split
        · refine⟨rfl,fun t m h e=>?_,fun k x h=>(by cases h),w.heap.size,_,_,rfl,(Dd w _).new,fun i j e e' hi=>by simp at hi,fun k x h=>(by cases h),fun i e hi=>by simp at hi⟩
          obtain⟨q1,q2,q3,q4,es,cl,q5,q6⟩:=hm.maps t m h;have:=(AqS.1 q5).1;have e2:=AqF e;omega
        exact⟨rfl,rfl,w.heap.size,rfl,(Dd w _).new⟩)
    refine⟨.map (some w.heap.size),_,_,.inl ?_,ha.1,ha.2.1,ha.2.2,?_⟩
    · have hu:(Instr.makeMap t none).run E.P w=.ok (.map (some w.heap.size)) (w.alloc (.map #[] 0)):=by simp[Instr.makeMap]
      show(do pure (.value (<-Instr.makeMap t (Option.map a.eval none))):Sem Next).run E.P w=_;rw[AtA,Sem.run_bind,hu];rfl
    rw[<-hm.len];exact .mref _ _ _ _ (by rw[AqL (AqT _)];simp;rfl) rfl rfl
  case insert t m k x1=>
    rw[AqE]at hx;obtain⟨σ1,h1,hx⟩:=hx;cases hx;unfold Pg at h1;split at h1
    · obtain⟨w',hu,hm',he⟩:=RB hE hm h1 (hr m) (hr k) (hr x1)
      refine⟨undef,_,g,.inr ⟨?_,rfl⟩,hm',GLe.refl _,he,.junk _ _⟩;rw[Sem.run_bind,hu];rfl
    split at h1
    case h_2=>cases h1
    rename_i kd id hlm hT hmv;split at h1
    case h_2=>cases h1
    rename_i es cl hO;split at h1
    case isFalse=>cases h1
    rename_i hc;obtain⟨c1,c2,c3⟩:=hc;cases h1;obtain⟨kt,et,e1,e2⟩:=Kp hE hT;have hv:=hr m;rw[hmv]at hv;cases hvv:a.eval m with
    | map p=>
      rw[hvv]at hv;cases hv with
      |mref _ _ β b hb hbx hβ=>
      obtain⟨k1,k2,β',k3,k4⟩:=hm.blk id b _ hb hO;rw[hβ]at k3;cases k3;obtain⟨hik,hpl⟩:=Acf c1;have hkv:=Mo hpl (hr k);have hxv:=Mo c2 (hr x1)
      have hfk:Instr.findNow kd (avV (ev st.fr k)) es.toList 0=some none:=by
        unfold OJ at c3;split at c3
        · assumption
        cases c3
      have hu:(Instr.mapUpdate t (.map (some β)) (avV (ev st.fr k)) (avV (ev st.fr x1))).run E.P w=.ok () { w with heap:=w.heap.setIfInBounds β (.map (es.push { key:=avV (ev st.fr k),val:=avV (ev st.fr x1),born:=cl }) (cl+1)) }:=by
        simp[Instr.mapUpdate,run_underlying e1,MapKept.run_getObj_map k4,MapKept.run_checkKey e2 hik,MapKept.run_findKey e2 hfk,MapKept.run_setObj_map _ k4,Result.andThen]
      have hs:=MapKept.heap_set (o':=.map (es.push { key:=avV (ev st.fr k),val:=avV (ev st.fr x1),born:=cl }) (cl+1)) k4
      have hmo:=WF (w':={ w with heap:=w.heap.setIfInBounds β (.map (es.push { key:=avV (ev st.fr k),val:=avV (ev st.fr x1),born:=cl }) (cl+1)) }) hm hb hO hβ (o':=.map (es.push { key:=avV (ev st.fr k),val:=avV (ev st.fr x1),born:=cl }) (cl+1)) rfl (.inr (E.lmOk hlm))
        hs.1 hs.2 (by simp) rfl rfl rfl
      refine⟨undef,_,g,.inr ⟨?_,rfl⟩,hmo.1,GLe.refl _,hmo.2,.junk _ _⟩;rw[Sem.run_bind,hvv,hkv,hxv,hu];rfl
    |_=>rw[hvv]at hv;cases hv
  case mapUpdate t m k x1=>
    rw[AqE]at hx;obtain⟨σ1,h1,hx⟩:=hx;cases hx;obtain⟨w',hu,hm',he⟩:=RB hE hm h1 (hr m) (hr k) (hr x1);refine⟨undef,_,g,.inr ⟨?_,rfl⟩,hm',GLe.refl _,he,.junk _ _⟩;rw[Sem.run_bind,hu];rfl
  case range t y=>
    split at hx
    case h_2=>cases hx
    rename_i s hst hy;cases hx;have hv:=hr y;rw[hy]at hv;obtain⟨sa,hsa,hl⟩:=GF hv;have hbs:(⟨s.toArray⟩:ByteArray)=sa:=by subst hl;simp
    rw[hbs]
    have ha:=Kx hm (Dd w (.stringIter sa 0)) { blk:=some w.heap.size,o:=0,k:=0,len:=1,ce:=1,isBox:=true,ro:=false } (.obj (.stringIter sa 0)) (.inl rfl)
      (fun _ _=>⟨rfl,rfl,w.heap.size,rfl,(Dd w _).new⟩)
    refine⟨.pointer (some ⟨w.heap.size,0,none⟩),_,_,.inl ?_,ha.1,ha.2.1,ha.2.2,?_⟩
    · have hu:(Instr.range t (a.eval y)).run E.P w=.ok (.pointer (some ⟨w.heap.size,0,none⟩)) (w.alloc (.stringIter sa 0)):=by
        rw[hsa];simp[Instr.range,run_underlying (Aaz hE hst)]
      rw[Sem.run_bind,hu];rfl
    rw[<-hm.len];exact .ref _ _ _ _ _ (by rw[AqL (AqT _)];simp;rfl) rfl rfl
  case next y isS=>
    cases isS with
    |false=>cases hx
    |true=>
    simp only at hx;split at hx
    case h_2=>cases hx
    rename_i id hy;split at hx
    case h_2=>cases hx
    rename_i s pos hO;have hv:=hr y;rw[hy]at hv;cases hvv:a.eval y with
    | pointer p=>
      rw[hvv]at hv;cases hv with
      |ref _ _ _ β b hb hbx hβ=>
      obtain⟨k1,k2,β',k3,k4⟩:=hm.blk id b _ hb hO;rw[hβ]at k3;cases k3;have hg:(getObj β).run E.P w=.ok (.stringIter s pos) w:=by simp[getObj,Sem.run,k4]
      split at hx
      · rename_i hlt
        cases hx;have hset:(setObj β (.stringIter s (pos+(Utf8.decode s pos).2))).run E.P w=.ok () { w with heap:=w.heap.setIfInBounds β (.stringIter s (pos+(Utf8.decode s pos).2)) }:=by simp[setObj,Sem.run,k4]
        have hlt2:β<w.heap.size:=(AqS.1 k4).1
        have hmo:=WF (w':={ w with heap:=w.heap.setIfInBounds β (.stringIter s (pos+(Utf8.decode s pos).2)) }) hm hb hO hβ (o':=.stringIter s (pos+(Utf8.decode s pos).2)) rfl (.inl fun _ _=>by simp)
          (by simp[ArT,hlt2]) (fun k hk=>by simp[ArT,Ne.symm hk]) (by simp) rfl rfl rfl
        refine⟨.tuple #[.bool true,.int .i64 pos,.int .i32 (Utf8.decode s pos).1],_,g,.inl ?_,hmo.1,GLe.refl _,hmo.2,?_⟩
        · have hu:(Instr.next (.pointer (some ⟨β,0,none⟩)) true o.type).run E.P w=.ok (.tuple #[.bool true,.int .i64 pos,.int .i32 (Utf8.decode s pos).1]) { w with heap:=w.heap.setIfInBounds β (.stringIter s (pos+(Utf8.decode s pos).2)) }:=by
            simp[Instr.next,hg,hlt,hset,goInt]
          rw[Sem.run_bind,hvv,hu];rfl
        refine .tup _ _ _ (by simp) (fun i x hi=>?_);rcases i with _|_|_|i
        · simp at hi;subst hi;exact .bool _ _
        · simp at hi;subst hi;exact .int _ _ _
        · simp at hi;subst hi;exact .int _ _ _
        simp at hi
      rename_i hlt;cases hx;refine⟨.tuple #[.bool false],w,g,.inl ?_,hm,GLe.refl _,Evo.refl _ _ _ _,?_⟩
      · have hu:(Instr.next (.pointer (some ⟨β,0,none⟩)) true o.type).run E.P w=.ok (.tuple #[.bool false]) w:=by
          simp[Instr.next,hg,hlt]
        rw[Sem.run_bind,hvv,hu];rfl
      refine .tup _ _ _ (by simp) (fun i x hi=>?_);rcases i with _|i
      · simp at hi;subst hi;exact .bool _ _
      simp at hi
    |_=>rw[hvv]at hv;cases hv
  case binOp op t y z yt=>
    rw[AqE]at hx;obtain⟨v,hv,hx⟩:=hx;simp only[AqQ]at hx;obtain⟨rfl,rfl⟩:=hx;cases hn:Pv z with
    | true=>
      rw[hn]at hv;obtain⟨u,hu,hru⟩:=Vn hE (hr y) hv y z hn
      have hz:a.eval z=.nilIface:=by
        unfold Pv at hn;split at hn
        · rfl
        cases hn
      exact⟨u,w,g,.inl (by rw[Sem.run_bind,hz,hu];rfl),hm,GLe.refl _,Evo.refl _ _ _ _,hru⟩
    |false=>
    rw[hn]at hv;obtain⟨u,hu,hru⟩:=Wa hE (hr y) (hr z) hv y z;exact⟨u,w,g,.inl (by rw[Sem.run_bind,hu];rfl),hm,GLe.refl _,Evo.refl _ _ _ _,hru⟩
  case unOp op t y=>
    rw[AqE]at hx;obtain⟨v,hv,hx⟩:=hx;simp only[AqQ]at hx;obtain⟨rfl,rfl⟩:=hx;obtain⟨u,hu,hru⟩:=ZO (P:=E.P) (hr y) hv;exact⟨u,w,g,.inl (by simp[hu]),hm,GLe.refl _,Evo.refl _ _ _ _,hru⟩
  case convert s d y=>
    have:=SF hE hm (hr y) hx;simpa using OpSound.of this
  case makeFunc fn first caps=>
    cases fn<;>simp only at hx<;>try (cases hx;done)
    rename_i f;split at hx
    · rename_i h1
      obtain rfl:first=#[]:=by apply Aso;simpa using h1
      have hne:∀ys,caps.toList.map (ev st.fr)≠[.tup ys]:=fun ys e=>by
        rw[e]at hx;cases hx
      have hx':some (AV.fn f (caps.toList.map (ev st.fr)),st.O)=some (x,O'):=by
        split at hx
        · rename_i h2;exact absurd h2 (hne _)
        exact hx
      simp only[AqG,AqQ]at hx';obtain⟨rfl,rfl⟩:=hx';refine⟨.func (.func f) #[] (caps.map a.eval),w,g,.inl (by simp[Instr.makeFunc]),hm,GLe.refl _,Evo.refl _ _ _ _,.fn _ _ _ _ (by simp) ?_ hne⟩;intro i x hi;rw[Aq8,AqE]at hi;obtain⟨y,hy,rfl⟩:=hi
      have:(caps.map a.eval).getD i undef=a.eval y:=by
        refine A3 ?_;have:caps[i]?=some y:=by simpa using hy
        simp[this]
      rw[this];exact hr y
    split at hx
    · rename_i h1 h2
      obtain rfl:caps=#[]:=by apply Aso;simpa using h2
      simp only[AqG,AqQ]at hx;obtain⟨rfl,rfl⟩:=hx;refine⟨.func (.func f) (first.map a.eval) #[],w,g,.inl (by simp[Instr.makeFunc]),hm,GLe.refl _,Evo.refl _ _ _ _,.fnb _ _ _ _ (by simp) ?_⟩;intro i x hi;rw[Aq8,AqE]at hi;obtain⟨y,hy,rfl⟩:=hi
      have:(first.map a.eval).getD i undef=a.eval y:=by
        refine A3 ?_;have:first[i]?=some y:=by simpa using hy
        simp[this]
      rw[this];exact hr y
    cases hx
  case makeInterface t y=>
    cases ht:E.tab t with
    |none=>simp[ht]at hx
    | some d=>
      simp only[ht]at hx;split at hx
      · cases hx
      rename_i hni;simp only[AqG,AqQ]at hx;obtain⟨rfl,rfl⟩:=hx;refine⟨.iface t (a.eval y),w,g,.inl ?_,hm,GLe.refl _,Evo.refl _ _ _ _,.iface _ _ _ _ (hr y)⟩;cases hd:d.desc<;>first|(exact(hni _ hd).elim)|simp[Instr.makeInterface,AP hE ht,hd]
  case makeSlice t l c=>
    have:=Pr hE hm (hr l) (hr c) hx;simpa using OpSound.of this
  case slice t y lo hi mx=>
    have:=V8 hE hm (hr y) (N9 a.eval _ hr lo) (N9 a.eval _ hr hi) (N9 a.eval _ hr mx) hx;simpa using OpSound.of this
  case fieldAddr s y f=>
    rw[AqE]at hx;obtain⟨v,hv,hx⟩:=hx;simp only[AqQ]at hx;obtain⟨rfl,rfl⟩:=hx;obtain⟨u,hu,hru⟩:=Pl hE hm (hr y) hv;exact⟨u,w,g,.inl (by simp[hu]),hm,GLe.refl _,Evo.refl _ _ _ _,hru⟩
  case field s y f=>
    rw[AqE]at hx;obtain⟨v,hv,hx⟩:=hx;simp only[AqQ]at hx;obtain⟨rfl,rfl⟩:=hx;obtain⟨u,hu,hru⟩:=Xk (w:=w) hE (hr y) hv;exact⟨u,w,g,.inl (by simp[hu]),hm,GLe.refl _,Evo.refl _ _ _ _,hru⟩
  case indexAddr t y i=>
    rw[AqE]at hx;obtain⟨v,hv,hx⟩:=hx;simp only[AqQ]at hx;obtain⟨rfl,rfl⟩:=hx;obtain⟨u,hu,hru⟩:=Qf hE hm (hr y) (hr i) hv;exact⟨u,w,g,.inl (by simp[hu]),hm,GLe.refl _,Evo.refl _ _ _ _,hru⟩
  case index t y i=>
    rw[AqE]at hx;obtain⟨v,hv,hx⟩:=hx;simp only[AqQ]at hx;obtain⟨rfl,rfl⟩:=hx;obtain⟨u,hu,hru⟩:=WD (w:=w) hE (hr y) (hr i) hv;exact⟨u,w,g,.inl (by simp[hu]),hm,GLe.refl _,Evo.refl _ _ _ _,hru⟩
  case typeAssert y xt t ok=>
    rw[AqE]at hx;obtain⟨v,hv,hx⟩:=hx;simp only[AqQ]at hx;obtain⟨rfl,rfl⟩:=hx;obtain⟨u,hu,hru⟩:=TG (w:=w) (xt:=xt) hE (hr y) hv;exact⟨u,w,g,.inl (by simp[hu]),hm,GLe.refl _,Evo.refl _ _ _ _,hru⟩
  case sliceToArrayPointer t y=>
    rw[AqE]at hx;obtain⟨v,hv,hx⟩:=hx;simp only[AqQ]at hx;obtain⟨rfl,rfl⟩:=hx;obtain⟨u,hu,hru⟩:=U3 (w:=w) hE (hr y) hv;exact⟨u,w,g,.inl (by simp[hu]),hm,GLe.refl _,Evo.refl _ _ _ _,hru⟩
  case lookup t y z ok=>
    cases hc:Gx E st.O t (ev st.fr y) (ev st.fr z) ok with
    |none=>simp[hc]at hx
    | some u=>
      simp only[hc,Arg,AqG,AqQ]at hx;obtain⟨rfl,rfl⟩:=hx;obtain⟨v,hv1,hv2⟩:=RP hE hm hc (hr y) (hr z);exact⟨v,w,g,.inl (by simp[hv1]),hm,GLe.refl _,Evo.refl _ _ _ _,hv2⟩
  case extract y i=>
    have hy:=hr y;cases hc:ev st.fr y<;>simp only[hc]at hx<;>try (cases hx;done)
    rename_i vs;cases hi:vs[i]? with
    |none=>simp[hi]at hx
    | some z=>
      simp only[hi,AqG,AqQ]at hx;obtain⟨rfl,rfl⟩:=hx;rw[hc]at hy;generalize hv:a.eval y=v at hy;cases hy with
      | tup _ us _ hs hru=>
        have hl:i<us.size:=by have:=(AqD.1 hi).1;omega
        exact⟨us.getD i undef,w,g,.inl (by simp only[Instr.extract,hv,AJ hl,Sem.run_bind,Sem.run_pure,Result.andThen_ok]),hm,GLe.refl _,Evo.refl _ _ _ _,hru _ _ hi⟩
  case call c=>
    cases hc:c.callee<;>simp only[hc]at hx<;>try (cases hx;done)
    rename_i b
    have key:∀consts,OpSound E w g ((builtin b c.argTypes o.type consts (c.args.map a.eval)).run E.P w) x O':=fun consts=>
      SU (b:=b) (ts:=c.argTypes) (ty:=o.type) (consts:=consts) (vs:=c.args.map a.eval) hE hm (by rw[ArK];exact Ea _ _ hr _) hx
    simp only[resolve,hc,Sem.run_bind,Sem.run_pure,Result.andThen_ok,invoke];exact key _
theorem IE(h:Rel E w g st a){g':Gh}(hm:Mem E w' g' O')(hle:GLe g g')(he:Evo E 0 w g w' g'):Rel E w' g' ⟨st.fr,O'⟩ a :=
 ⟨h.size,fun t x hx=>(h.slot t x hx).mono he.cells hle,hm,h.defers.evo he⟩
def AC(fr:List AV)(d:Option Tmp)(x:AV):List AV :=
 match d with
 |some t=>fr.set t x
 |none=>fr
theorem Fw(h:Rel E w g st a)(d:Option Tmp)(hv:Rep w (Ay E g) g v x):Rel E w g ⟨AC st.fr d x,st.O⟩ (a.put d v):=by
 cases d with
 |none=>exact h
 | some t=>
  refine⟨by simp[AC,Act.put,h.size],?_,h.mem,h.defers⟩;intro t' x' hx';simp only[AC,Act.put]at hx' ⊢;by_cases e:t'=t
  ·subst e;rw[Arw]at hx';simp only[Aro]at hx';split at hx'
   ·rename_i hl;cases hx'
    have:(a.tmps.setIfInBounds t' v).getD t' undef=v:=by
     have hl':t'<a.tmps.size:=by rw[h.size];exact hl
     simp[Array.getD,hl']
    rw[this];exact hv
   cases hx'
  rw[D6 e]at hx'
  have:(a.tmps.setIfInBounds t v).getD t' undef=a.tmps.getD t' undef:=by
   simp only[Arv,ArT];rw[AqI (fun h=>e h.symm)]
  rw[this];exact h.slot t' x' hx'
theorem Evo.of_gle{n:Nat}{w w':World}{g g':Gh}(h:Evo E 0 w g w' g')(hle:GLe g g'):Evo E n w g w' g' :=
 ⟨h.os,h.tape,h.output,h.size,h.cells,h.blocks,fun id _ b hb=>hle id b hb⟩
end Go.Rv
