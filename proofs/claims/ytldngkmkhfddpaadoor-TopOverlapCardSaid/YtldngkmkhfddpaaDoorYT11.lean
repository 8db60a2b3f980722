/-
  Part 11.
-/
import Derived.Test.YtldngkmkhfddpaaDoorYT10
namespace Go.Rv
set_option linter.unusedVariables false
set_option linter.unusedSimpArgs false
variable {E:Env}{w:World}{g:Gh}{σ:Ad}
theorem IF{pr:Addr→Prop}{k:AV}(h:DO k=true){v:Value}(hr:Rep w pr g v k):v=avV k:=by
 cases hr<;>simp only[DO]at h<;>try (cases h;done)
 case bool=>rfl
 case int=>rfl
 case str s l hs=>subst hs;rfl
theorem Ot{pr:Addr→Prop}{k:AV}(h:DO k=true):Rep w pr g (avV k) k:=by
 cases k<;>simp only[DO]at h<;>try (cases h;done)
 case bool b=>exact .bool _ _
 case int k n=>exact .int _ _ _
 case str s=>exact .str _ _ _ (by simp)
theorem OR{a:AV}(h:DO a=true):OA a=true:=by
 cases a<;>simp only[DO]at h<;>first|(cases h;done)|rfl
theorem H4{pr:Addr→Prop}{k:AV}(h:OA k=true):Rep w pr g (avV k) k:=by
 unfold OA at h
 split at h
 ·refine .fnb _ _ _ _ rfl ?_
  intro i x hi
  match i,hi with
  |0,hi=>cases hi;exact .glob _ _
 ·exact .val _ _ h
 ·exact Ot h
theorem Y6{a b:AV}(ha:DO a=true)(hb:DO b=true)(h:avV a=avV b):a=b:=by
 cases a<;>simp only[DO]at ha<;>try (cases ha;done)
 all_goals cases b<;>simp only[DO]at hb<;>try (cases hb;done)
 all_goals simp[avV]at h
 all_goals simp[h]
theorem TB{d:TypeDesc}{k:AV}(h:R9 d k=true):MapKept.IsKey d (avV k)∧DO k=true:=by
 cases d<;>cases k<;>simp[R9]at h<;>simp[MapKept.IsKey,avV,DO]
 exact h.symm
theorem OG(hm:Mem E w g σ){t:TypeId}{x k y:AV}{v kv:Value}{ok:Bool}(hx:BD E t x k ok=some y)(hv:Rep w (Aw E g) g v x)(hk:Rep w (Aw E g) g kv k) :
    ∃u,(Instr.lookup t v kv ok).run E.P w=.ok u w∧Rep w (Aw E g) g u y:=by
  unfold BD at hx
  split at hx
  case h_2=>cases hx
  rename_i m hM
  split at hx
  case h_2=>cases hx
  rename_i r
  split at hx
  case isFalse=>cases hx
  rename_i hc
  obtain⟨rfl,hkey⟩:=hc
  simp only[Option.some.injEq]at hx
  subst hx
  obtain⟨hik,hpl⟩:=TB hkey
  obtain⟨h1,h2,h3,h4,es,cl,h5,h6,h7⟩:=hm.maps t m hM
  have hkv:=IF hpl hk
  subst hkv
  have hvv:v=.map (some m.r):=by cases hv;rfl
  subst hvv
  rcases MapKept.findNow_spec hik es.toList 0 (fun x hx=>(h6 x hx).1)with⟨f1,f2⟩|⟨j,e,f1,f2,f3⟩
  · have hn:m.ans k=none:=by
      refine Classical.byContradiction fun hne=>?_
      obtain⟨e,he,hek⟩:=h7 k hpl hne
      exact f2 e he hek
    refine⟨if ok then .tuple #[avV m.zv,.bool false]else avV m.zv,?_,?_⟩
    · cases ok<;>simp[Instr.lookup,run_underlying h1,MapKept.run_getObj_map h5,MapKept.run_checkKey h2 hik,MapKept.run_findKey h2 f1,h3,Result.andThen]
    · rw[hn]
      cases ok
      · exact H4 h4
      · refine .tup _ _ _ rfl ?_
        intro i x hi
        match i,hi with
        |0,hi=>cases hi;exact H4 h4
        |1,hi=>cases hi;exact .bool _ _
  · obtain⟨_,ka,va,q1,q2,q3,q4,q5⟩:=h6 e (List.mem_of_getElem? f2)
    have:ka=k:=Y6 q3 hpl (q1.symm.trans f3)
    subst this
    refine⟨if ok then .tuple #[avV va,.bool true]else avV va,?_,?_⟩
    · cases ok<;>simp[Instr.lookup,run_underlying h1,MapKept.run_getObj_map h5,MapKept.run_checkKey h2 hik,MapKept.run_findKey h2 f1,Result.andThen,q2]
    · rw[q5]
      cases ok
      · exact H4 q4
      · refine .tup _ _ _ rfl ?_
        intro i x hi
        match i,hi with
        |0,hi=>cases hi;exact H4 q4
        |1,hi=>cases hi;exact .bool _ _
theorem Vf(hE:E.Ok)(hm:Mem E w g σ){t ty:TypeId}{ts:Array TypeId}(hts:ts[0]?=some t){v:Value}{x:AV}{n:Nat}(hv:Rep w (Aw E g) g v x)(hx:V0 E σ t x=some n) :
    (Builtin.len_ ts ty #[v]).run E.P w=.ok (.int .i64 n) w:=by
  unfold V0 at hx
  cases ht:E.tab t with
  |none=>simp[ht]at hx
  | some d=>
    simp only[ht]at hx
    split at hx
    · rename_i s hd
      simp only[Option.some.injEq]at hx
      subst hx
      obtain⟨ba,rfl,rfl⟩:=FR hv
      simp[Builtin.len_,hts,A5 hE ht,hd,goInt]
    · rename_i m e hd
      simp only[Option.some.injEq]at hx
      subst hx
      have e:(#[v]:Array Value)[0]?=some v:=rfl
      simp only[Builtin.len_,hts,e,A5 hE ht,hd,goInt,Sem.run_bind,Result.andThen_ok,Sem.run_pure]
    · rename_i e full els hd
      simp only[Option.some.injEq]at hx
      subst hx
      cases hv with
      |sl _ a len cap _ _ k c hlen hcap hfull hnone hk hc hr=>simp[Builtin.len_,hts,A5 hE ht,hd,goInt,hlen]
    · rename_i e full id tot off len hd
      split at hx
      case h_2=>cases hx
      rename_i k els ro hσ
      split at hx
      case isFalse=>cases hx
      simp only[Option.some.injEq]at hx
      subst hx
      cases hv with
      | bs _ _ _ _ _ _ _ b hgb hbx htot hat ho=>
        have hk:=hm.blk id b _ hgb hσ
        have hbl:b.len=tot:=by have:=hk.2.2.2.1;omega
        obtain⟨a,cap,rfl,_⟩:=hat hbl
        simp[Builtin.len_,hts,A5 hE ht,hd,goInt]
    · cases hx
def Bt(w:World)(pr:Addr→Prop)(g:Gh):List Value→List AV→Prop
 |[],[]=>True
 |v::r,x::s=>Rep w pr g v x∧Bt w pr g r s
 |_,_=>False
theorem FJ{pr:Addr→Prop}{P:Program}{f:Int→Int→Int}{m:Value→Value→Sem Value}{k:IntKind}(hm:∀a b,(m (.int k a) (.int k b)).run P w=.ok (.int k (f a b)) w) :
    ∀(r:List AV) (vs:List Value) (a n:Int),Bt w pr g vs r→H3 f k a r=some n→(vs.foldlM m (.int k a)).run P w=.ok (.int k n) w
  |[],[],a,n,_,h=>by simp[H3]at h;subst h;rfl
  |[],_::_,_,_,h,_=>by simp[Bt]at h
  |_::_,[],_,_,h,_=>by simp[Bt]at h
  | x :: r,v::vs,a,n,hr,h=>by
    unfold H3 at h
    split at h
    · rename_i h1;cases h1
    · rename_i k' b r' h1
      cases h1
      split at h
      case isFalse=>cases h
      rename_i hk
      subst hk
      obtain rfl:=CE hr.1
      rw[List.foldlM_cons,Sem.run_bind,hm,Result.andThen_ok]
      exact FJ hm r vs _ n hr.2 h
    · cases h
theorem CA{pr:Addr→Prop}{α:Type}(f:α→Value)(h:α→AV)(hf:∀a,Rep w pr g (f a) (h a)):∀l:List α,Bt w pr g (l.map f) (l.map h)
 |[]=>trivial
 |a::l=>⟨hf a,CA f h hf l⟩
theorem GW{pr:Addr→Prop}(f:Operand→Value)(h:Operand→AV)(hf:∀a,Rep w pr g (f a) (h a)):∀l:List (Nat×Operand),EK w pr g (l.map fun(i,x)=>(i,f x)) (l.map fun(i,x)=>(i,h x))
 |[]=>trivial
 |(i,a)::l=>⟨rfl,hf a,GW f h hf l⟩
theorem J5{pr:Addr→Prop}(f:Operand→Value)(h:Operand→AV)(hf:∀a,Rep w pr g (f a) (h a))(o:Option Operand):FA w pr g (o.map f) (o.map h):=by
 cases o with
 |none=>trivial
 |some x=>exact hf x
def OpSound(E:Env)(w:World)(g:Gh)(r:Result Next)(x:AV)(σ':Ad):Prop :=
 ∃v w' g',(r=.ok (.value v) w'∨(r=.ok .skip w'∧v=undef))∧Mem E w' g' σ'∧GLe g g'∧Evo E 0 w g w' g'∧Rep w' (Aw E g') g' v x
theorem OpSound.of{r:Result Value}{x:AV}{σ':Ad}(h:Sound E w g r x σ'):OpSound E w g (r.andThen fun v w'=>.ok (.value v) w') x σ':=by
 obtain⟨v,w',g',rfl,h1,h2,h3,h4⟩:=h
 exact⟨v,w',g',.inl rfl,h1,h2,h3,h4⟩
theorem OpSound.pure{r:Result Value}{v:Value}{x:AV}(hm:Mem E w g σ)(h:r=.ok v w)(hr:Rep w (Aw E g) g v x):OpSound E w g (r.andThen fun v w'=>.ok (.value v) w') x σ:=OpSound.of (Sound.pure hm h hr)
theorem MB(hE:E.Ok)(hm:Mem E w g σ){b:Builtin}{ts:Array TypeId}{ty:TypeId}{consts:Array Bool}{vs:Array Value}{xs:List AV}{y:AV}{σ':Ad}(hv:Bt w (Aw E g) g vs.toList xs)
    (hy:Ba E σ b ts.toList xs=some (y,σ')):OpSound E w g ((builtin b ts ty consts vs).run E.P w) y σ':=by
  unfold Ba at hy
  split at hy
  · rename_i t _ x hts
    obtain⟨v,rfl,hx⟩:∃v,vs=#[v]∧Rep w (Aw E g) g v x:=by
      match hvs:vs.toList,hv with
      |[v],h=>exact⟨v,by apply Array.ext';simp[hvs],h.1⟩
    rw[Option.map_eq_some_iff]at hy
    obtain⟨n,hn,hy⟩:=hy
    simp only[Prod.mk.injEq]at hy
    obtain⟨rfl,rfl⟩:=hy
    have h0:ts[0]?=some t:=by rw[←Array.getElem?_toList,hts];rfl
    have:=Vf (ty:=ty) hE hm h0 hx hn
    refine⟨.int .i64 n,w,g,.inl ?_,hm,GLe.refl _,Evo.refl _ _ _ _,.int _ _ _⟩
    simp[builtin,this]
  · rename_i t u _ s x hts
    obtain⟨v1,v2,rfl,h1,h2⟩:∃v1 v2,vs=#[v1,v2]∧Rep w (Aw E g) g v1 s∧Rep w (Aw E g) g v2 x:=by
      match hvs:vs.toList,hv with
      |[v1,v2],h=>exact⟨v1,v2,by apply Array.ext';simp[hvs],h.1,h.2.1⟩
    cases hu:E.tab u with
    |none=>simp[hu]at hy
    | some du=>
      simp only[hu]at hy
      split at hy
      · cases hy
      rename_i hnu
      have ht:(Builtin.append_ ts ty #[v1,v2])=Builtin.append_ #[t,u] ty #[v1,v2]:=by
        have h0:ts[0]?=some t:=by rw[←Array.getElem?_toList,hts];rfl
        have h1:ts[1]?=some u:=by rw[←Array.getElem?_toList,hts];rfl
        unfold Builtin.append_
        simp only[h0,h1]
        rfl
      have:=Ou (ty:=ty) hE hm h1 h2 hu (fun k h=>hnu k h) hy
      rw[←ht]at this
      have:=OpSound.of this
      simpa [builtin]using this
  · rename_i t _ d s hts
    obtain⟨v1,v2,rfl,h1,h2⟩:∃v1 v2,vs=#[v1,v2]∧Rep w (Aw E g) g v1 d∧Rep w (Aw E g) g v2 s:=by
      match hvs:vs.toList,hv with
      |[v1,v2],h=>exact⟨v1,v2,by apply Array.ext';simp[hvs],h.1,h.2.1⟩
    have ht:(Builtin.copy_ ts ty #[v1,v2])=Builtin.copy_ #[t,0] ty #[v1,v2]:=by
      have h0:ts[0]?=some t:=by rw[←Array.getElem?_toList,hts];rfl
      unfold Builtin.copy_
      simp only[h0]
      rfl
    have:=SV (ty:=ty) (u:=0) hE hm h1 h2 hy
    rw[←ht]at this
    have:=OpSound.of this
    simpa [builtin]using this
  · rename_i k a r
    rw[Option.map_eq_some_iff]at hy
    obtain⟨n,hn,hy⟩:=hy
    simp only[Prod.mk.injEq]at hy
    obtain⟨rfl,rfl⟩:=hy
    match hvs:vs.toList,hv with
    | v::vr,h=>
      obtain rfl:=CE h.1
      have:=FJ (P:=E.P) (m:=Builtin.min2) (f:=fun a b=>if b<a then b else a) (k:=k) (by intro a b;simp[Builtin.min2]) r vr a n h.2 hn
      refine⟨.int k n,w,g,.inl ?_,hm,GLe.refl _,Evo.refl _ _ _ _,.int _ _ _⟩
      simp[builtin,Builtin.min_,hvs,this]
  · rename_i k a r
    rw[Option.map_eq_some_iff]at hy
    obtain⟨n,hn,hy⟩:=hy
    simp only[Prod.mk.injEq]at hy
    obtain⟨rfl,rfl⟩:=hy
    match hvs:vs.toList,hv with
    | v::vr,h=>
      obtain rfl:=CE h.1
      have:=FJ (P:=E.P) (m:=Builtin.max2) (f:=fun a b=>if b>a then b else a) (k:=k) (by intro a b;simp[Builtin.max2]) r vr a n h.2 hn
      refine⟨.int k n,w,g,.inl ?_,hm,GLe.refl _,Evo.refl _ _ _ _,.int _ _ _⟩
      simp[builtin,Builtin.max_,hvs,this]
  · cases hy
theorem QY{w:World}{β:Nat}{o:Obj}(h:w.heap[β]?=some o)(hn:KZ o=true){a:Addr}(ha:a.block=β):w.cell? a=none:=by
 unfold World.cell?
 rw[ha,h]
 cases o<;>first|rfl|cases hn
theorem QC{w':World}(hm:Mem E w g σ){id β:Nat}{b:GB}{o o':Obj}(hb:g[id]?=some b)(hσ:σ[id]?=some (.obj o))(hβ:b.blk=some β)(hn:KZ o'=true)(hmap:(∀es cl,o≠.map es cl)∨∀t,E.maps t=none)
  (h1:w'.heap[β]?=some o') (h2:∀k,k≠β→w'.heap[k]?=w.heap[k]?) (hsz:w'.heap.size=w.heap.size) (hos:w'.os=w.os) (ht:w'.tape=w.tape) (hout:w'.output=w.output) :
  Mem E w' g (σ.set id (.obj o'))∧Evo E 0 w g w' g:=by
 obtain⟨k1,k2,β',k3,k4⟩:=hm.blk id b _ hb hσ
 rw[hβ]at k3;cases k3
 have hcells:∀a u,w.cell? a=some u→Aw E g a→w'.cell? a=some u∧Aw E g a:=by
  intro a u hc hp
  refine⟨?_,hp⟩
  by_cases e:a.block=β
  ·rw[QY k4 k2 e]at hc;cases hc
  ·rw[←hc]
   unfold World.cell?
   rw[h2 _ e]
 have hmine:Et g β:=⟨id,b,hb,hβ⟩
 have hne:∀k,¬Et g k→k≠β:=fun k hk e=>hk (e ▸ hmine)
 refine⟨⟨by simp[hm.len],?_,hm.inj,Cy hm (by omega) (fun _ _ h=>h),D8 hm (by omega) hcells (fun _ _ h=>h),?_,CD hm (fun k _ hk=>⟨h2 k (hne k hk),hk⟩)⟩,
  ⟨hos,ht,hout,by omega,hcells,fun k _ hk=>⟨h2 k (hne k hk),hk⟩,fun _ h=>absurd h (Nat.not_lt_zero _)⟩⟩
 ·intro id' c ab e1 e2
  by_cases e:id'=id
  ·subst e
   rw[hb]at e1;cases e1
   rw[AA hσ]at e2;cases e2
   exact⟨k1,hn,β,hβ,h1⟩
  ·rw[CB e]at e2
   refine(hm.blk id' c ab e1 e2).mono hcells (GLe.refl _) (fun β2 hβ2=>h2 β2 fun e3=>e (hm.inj id' id c b β e1 hb (e3 ▸ hβ2) hβ))
 ·rcases hmap with hmap|hmap
  ·refine EM hm (fun r es cl hr=>?_)
   by_cases e:r=β
   ·subst e
    rw[k4]at hr
    cases hr
    exact(hmap es cl rfl).elim
   ·rw[h2 r e];exact hr
  ·intro t m h
   rw[hmap t]at h
   cases h
theorem XM{w':World}(hm:Mem E w g σ){id β:Nat}{b:GB}{o:Obj}{ab ab':ABlk}(hb:g[id]?=some b)(hσ:σ[id]?=some ab)(hβ:b.blk=some β)(k4:w.heap[β]?=some o)(k2:KZ o=true)(hmap:∀t,E.maps t=none)
 (h2:∀k,k≠β→w'.heap[k]?=w.heap[k]?) (hsz:w'.heap.size=w.heap.size) (hos:w'.os=w.os) (ht:w'.tape=w.tape) (hout:w'.output=w.output)
 (hab:(∀a u,w.cell? a=some u→Aw E g a→w'.cell? a=some u∧Aw E g a)→BlkOk E w' g b ab') :
 Mem E w' g (σ.set id ab')∧Evo E 0 w g w' g:=by
 have hcells:∀a u,w.cell? a=some u→Aw E g a→w'.cell? a=some u∧Aw E g a:=by
  intro a u hc hp
  refine⟨?_,hp⟩
  by_cases e:a.block=β
  ·rw[QY k4 k2 e]at hc;cases hc
  ·rw[←hc]
   unfold World.cell?
   rw[h2 _ e]
 have hmine:Et g β:=⟨id,b,hb,hβ⟩
 have hne:∀k,¬Et g k→k≠β:=fun k hk e=>hk (e ▸ hmine)
 refine⟨⟨by simp[hm.len],?_,hm.inj,Cy hm (by omega) (fun _ _ h=>h),D8 hm (by omega) hcells (fun _ _ h=>h),?_,CD hm (fun k _ hk=>⟨h2 k (hne k hk),hk⟩)⟩,
  ⟨hos,ht,hout,by omega,hcells,fun k _ hk=>⟨h2 k (hne k hk),hk⟩,fun _ h=>absurd h (Nat.not_lt_zero _)⟩⟩
 ·intro id' c ab2 e1 e2
  by_cases e:id'=id
  ·subst e
   rw[hb]at e1;cases e1
   rw[AA hσ]at e2;cases e2
   exact hab hcells
  ·rw[CB e]at e2
   refine(hm.blk id' c ab2 e1 e2).mono hcells (GLe.refl _) (fun β2 hβ2=>h2 β2 fun e3=>e (hm.inj id' id c b β e1 hb (e3 ▸ hβ2) hβ))
 ·intro t m h
  rw[hmap t]at h
  cases h
theorem Wu{k k':Int×Int}(h:Th k=Th k'):k=k':=by
 simp[Th]at h
 exact Prod.ext h.1 h.2
theorem RL{pr:Addr→Prop}{v:Value}{x:AV}{k:Int×Int}(hk:Acf x=some k)(hr:Rep w pr g v x):AdF v k:=by
  unfold Acf at hk
  split at hk
  case h_2=>cases hk
  rename_i a b
  split at hk
  case isFalse=>cases hk
  rename_i hkk
  cases hk
  refine⟨?_,hkk⟩
  cases hr with
  |agg _ vs cs hs ho hr=>
  have h0:=hr 0 _ rfl
  have h1:=hr 1 _ rfl
  obtain⟨l⟩:=vs
  match l,hs with
  | [x0,x1],_=>
    simp at h0 h1
    have e0:=CE h0
    have e1:=CE h1
    subst e0;subst e1
    rfl
theorem Ms{k:Int×Int}:∀{es:List ((Int×Int)×AV)},(∀(i:Nat) k' x,es[i]?=some (k',x)→k'≠k)→LR es k=none
  |[],_=>rfl
  | (k',x)::es,h=>by
    unfold LR
    rw[if_neg (h 0 k' x rfl)]
    exact Ms fun i k2 x2 h2=>h (i+1) k2 x2 (by simpa using h2)
theorem HN{k:Int×Int}{x:AV}:∀{es:List ((Int×Int)×AV)},(∀(i:Nat) k' y,es[i]?=some (k',y)→k'≠k)→Qj es k x=es++[(k,x)]
  |[],_=>rfl
  | (k',y)::es,h=>by
    unfold Qj
    rw[if_neg (h 0 k' y rfl),HN fun i k2 x2 h2=>h (i+1) k2 x2 (by simpa using h2)]
    rfl
theorem Li{k:Int×Int}:∀{es:List ((Int×Int)×AV)} {j:Nat} {x:AV},(es.map (·.1)).Nodup→es[j]?=some (k,x)→LR es k=some x∧∀y,Qj es k y=es.set j (k,y)
  |[],j,x,_,h=>by simp at h
  | (k',x')::es,0,x,_,h=>by
    simp at h
    obtain⟨rfl,rfl⟩:=h
    exact⟨by simp[LR],fun y=>by simp[Qj]⟩
  | (k',x')::es,j+1,x,hn,h=>by
    simp at h
    simp only[List.map_cons,List.nodup_cons]at hn
    have hne:k'≠k:=fun e=>hn.1 (e ▸ List.mem_map.2 ⟨_,List.mem_of_getElem? h,rfl⟩)
    obtain⟨q1,q2⟩:=Li hn.2 h
    exact⟨by simp[LR,hne,q1],fun y=>by simp[Qj,hne,q2]⟩
section
variable {arr:Array MapEntry}{es:List ((Int×Int)×AV)}{t kt et:TypeId}{pr:Addr→Prop}
theorem VJ(L:MpLaw E.P t kt et)(hs:arr.size=es.length)(hn:(es.map (·.1)).Nodup)(hr:∀(i:Nat) (k:Int×Int) (x:AV),es[i]?=some (k,x)→∃e,arr[i]?=some e∧AdF e.key k∧Rep w pr [] e.val x)(k:Int×Int)(hk2:Aak k.1 k.2)(w':World) :
  ((Instr.findKey kt (Th k) arr.toList).run E.P w'=.ok none w'∧LR es k=none∧∀(i:Nat) k' x,es[i]?=some (k',x)→k'≠k) ∨
  ∃j e x,(Instr.findKey kt (Th k) arr.toList).run E.P w'=.ok (some (j,e.val)) w'∧arr[j]?=some e∧e.key=Th k∧es[j]?=some (k,x)∧Rep w pr [] e.val x:=by
 obtain⟨l,hl⟩:=L.key k hk2
 have hkeys:∀e∈arr.toList,∃l,keyOf E.P kt e.key=some l:=by
  intro e he
  obtain⟨i,hi⟩:=List.getElem?_of_mem he
  rw[Array.getElem?_toList]at hi
  have hlt:i<es.length:=by
   rw[←hs]
   exact(Array.getElem?_eq_some_iff.1 hi).1
  obtain⟨e',h1,h2,_⟩:=hr i _ _ (List.getElem?_eq_getElem hlt)
  rw[hi]at h1;cases h1
  rw[h2.1]
  exact L.key _ h2.2
 rcases L.law.find w' hl arr.toList hkeys with⟨h1,h2⟩|⟨j,e,h1,h2,h3⟩
 ·have hno:∀(i:Nat) k' x,es[i]?=some (k',x)→k'≠k:=by
   intro i k' x hi e
   subst e
   obtain⟨e',q1,q2,_⟩:=hr i _ _ hi
   exact h2 e' (by rw[←Array.getElem?_toList]at q1;exact List.mem_of_getElem? q1) q2.1
  exact .inl ⟨h1,Ms hno,hno⟩
 ·rw[Array.getElem?_toList]at h2
  have hlt:j<es.length:=by
   rw[←hs]
   exact(Array.getElem?_eq_some_iff.1 h2).1
  obtain⟨e',q1,q2,q3⟩:=hr j _ _ (List.getElem?_eq_getElem hlt)
  rw[h2]at q1;cases q1
  have hk:es[j].1=k:=Wu (q2.1.symm.trans h3)
  exact .inr ⟨j,e,es[j].2,h1,h2,h3,by rw[List.getElem?_eq_getElem hlt,←hk],q3⟩
end
theorem XA{t:TypeId}(h:Ys E t=true):∃kt et,E.mp=some (t,kt,et):=by
 unfold Ys at h
 split at h
 case h_2=>cases h
 rename_i t' p hp
 have:t'=t:=by simpa using h
 subst this
 exact⟨p.1,p.2,hp⟩
theorem VO{z:Value}{n:Nat}(hz:z.cells.size=n)(hn:2≤n):z=.agg z.cells:=by
 cases z<;>simp[Value.cells]at hz ⊢<;>omega
theorem Of(hE:E.Ok)(hm:Mem E w g σ){t:TypeId}{id:Nat}{k y:AV}{v kv:Value}{ok:Bool}{es:List ((Int×Int)×AV)}(hσ:σ[id]?=some (.mp es))(hx:Rd E t es k ok=some y)(hv:Rep w (Aw E g) g v (.mref id))(hk:Rep w (Aw E g) g kv k) :
    ∃u,(Instr.lookup t v kv ok).run E.P w=.ok u w∧Rep w (Aw E g) g u y:=by
  unfold Rd at hx
  split at hx
  case h_2=>cases hx
  rename_i t' kt et kk hmp hkk
  split at hx
  case isFalse=>cases hx
  rename_i ht
  subst ht
  split at hx
  case h_2=>cases hx
  rename_i d hd
  split at hx
  case isFalse=>cases hx
  rename_i hd2
  cases hx
  have L:=E.mpOk t' kt et hmp
  cases hv with
  |mref _ _ β b hb hbx hβ=>
  obtain⟨k1,β',arr,cl,k3,k4,k5,k6,k7⟩:=hm.blk id b _ hb hσ
  rw[hβ]at k3;cases k3
  obtain⟨rfl,hk2⟩:=RL hkk hk
  obtain⟨l,hl⟩:=L.key kk hk2
  obtain⟨z,hz,hz1,hz2,hz3⟩:=G0 hE hd w
  have hza:=VO hz1 hd2
  have hzr:Rep w (Aw E g) g z (.agg (d.zero.map dn)):=by
    rw[hza]
    refine .agg _ _ _ (by simpa using(by omega:z.cells.size=d.zero.length)) (fun i x hi=>?_) (fun i x hi=>?_)
    · rw[List.getElem?_map,Option.map_eq_some_iff]at hi
      obtain⟨y,hy,rfl⟩:=hi
      exact(hz3 w (Aw E g) g i y hy).2
    · rw[List.getElem?_map,Option.map_eq_some_iff]at hi
      obtain⟨y,hy,rfl⟩:=hi
      exact XE (hz3 w (Aw E g) g i y hy).1
  rcases VJ L k5 k6 k7 kk hk2 w with⟨f1,f2,_⟩|⟨j,e,x,f1,f2,f3,f4,f5⟩
  · rw[f2]
    refine⟨if ok then .tuple #[z,.bool false]else z,?_,?_⟩
    · cases ok<;>simp[Instr.lookup,run_underlying L.und,MapKept.run_getObj_map k4,L.law.check w _ hl,f1,hz,Result.andThen]
    · cases ok
      · exact hzr
      · refine .tup _ _ _ rfl ?_
        intro i x hi
        match i,hi with
        |0,hi=>cases hi;exact hzr
        |1,hi=>cases hi;exact .bool _ _
  · rw[(Li k6 f4).1]
    have hxr:Rep w (Aw E g) g e.val x:=f5.mono (fun a u h1 h2=>⟨h1,h2⟩) (GLe.nil _)
    refine⟨if ok then .tuple #[e.val,.bool true]else e.val,?_,?_⟩
    · cases ok<;>simp[Instr.lookup,run_underlying L.und,MapKept.run_getObj_map k4,L.law.check w _ hl,f1,Result.andThen]
    · cases ok
      · exact hxr
      · refine .tup _ _ _ rfl ?_
        intro i x' hi
        match i,hi with
        |0,hi=>cases hi;exact hxr
        |1,hi=>cases hi;exact .bool _ _
theorem SK(hE:E.Ok)(hm:Mem E w g σ){t:TypeId}{m k x:AV}{vm vk vx:Value}{σ':Ad}(hlm:∀t,E.maps t=none)(hx:TF E σ t m k x=some σ')(hv:Rep w (Aw E g) g vm m)(hk:Rep w (Aw E g) g vk k)(hxr:Rep w (Aw E g) g vx x) :
    ∃w',(Instr.mapUpdate t vm vk vx).run E.P w=.ok () w'∧Mem E w' g σ'∧Evo E 0 w g w' g:=by
  unfold TF at hx
  split at hx
  case h_2=>cases hx
  rename_i id kk _ hmp hkk
  split at hx
  case h_2=>cases hx
  rename_i es hσ
  split at hx
  case isFalse=>cases hx
  rename_i hc
  cases hx
  obtain⟨kt,et,hmp⟩:=XA hmp
  have L:=E.mpOk t kt et hmp
  cases hv with
  |mref _ _ β b hb hbx hβ=>
  obtain⟨k1,β',arr,cl,k3,k4,k5,k6,k7⟩:=hm.blk id b _ hb hσ
  rw[hβ]at k3;cases k3
  obtain⟨rfl,hk2⟩:=RL hkk hk
  obtain⟨l,hl⟩:=L.key kk hk2
  have hxc:=BA hxr hc
  rcases VJ L k5 k6 k7 kk hk2 w with⟨f1,_,f2⟩|⟨j,e,y,f1,f2,f3,f4,f5⟩
  · have hs:=MapKept.heap_set (o':=.map (arr.push { key:=Th kk,val:=vx,born:=cl }) (cl+1)) k4
    refine⟨{ w with heap:=w.heap.setIfInBounds β (.map (arr.push { key:=Th kk,val:=vx,born:=cl }) (cl+1)) },?_,?_⟩
    · simp[Instr.mapUpdate,run_underlying L.und,MapKept.run_getObj_map k4,L.law.check w _ hl,f1,MapKept.run_setObj_map _ k4,Result.andThen]
    · refine XM hm hb hσ hβ k4 rfl hlm hs.2 (by simp) rfl rfl rfl (fun hcells=>⟨k1,β,_,_,hβ,hs.1,?_,?_,?_⟩)
      · rw[HN f2];simp[k5]
      · rw[HN f2,List.map_append,List.map_singleton]
        refine List.nodup_append.2 ⟨k6,by simp,?_⟩
        intro a ha c hc2
        simp only[List.mem_singleton]at hc2
        subst hc2
        obtain⟨p,hp,rfl⟩:=List.mem_map.1 ha
        obtain⟨i,hi⟩:=List.getElem?_of_mem hp
        exact f2 i p.1 p.2 hi
      · intro i k' x' hi
        rw[HN f2]at hi
        by_cases hlt:i<es.length
        · rw[List.getElem?_append_left hlt]at hi
          obtain⟨e,e1,e2,e3⟩:=k7 i k' x' hi
          refine⟨e,?_,e2,e3.mono hcells (GLe.refl _)⟩
          rw[Array.getElem?_push_lt (by omega)]
          rw[Array.getElem?_eq_getElem (by omega)]at e1
          exact e1
        · have he:i=es.length:=by
            have:=(List.getElem?_eq_some_iff.1 hi).1
            simp at this;omega
          subst he
          rw[List.getElem?_append_right (Nat.le_refl _)]at hi
          simp at hi
          obtain⟨rfl,rfl⟩:=hi
          refine⟨{ key:=Th kk,val:=vx,born:=cl },?_,⟨rfl,hk2⟩,hxc.mono hcells (GLe.refl _)⟩
          rw[←k5,Array.getElem?_push_size]
  · have hs:=MapKept.heap_set (o':=.map (arr.modify j fun e=>{ e with key:=Th kk,val:=vx }) cl) k4
    refine⟨{ w with heap:=w.heap.setIfInBounds β (.map (arr.modify j fun e=>{ e with key:=Th kk,val:=vx }) cl) },?_,?_⟩
    · simp[Instr.mapUpdate,run_underlying L.und,MapKept.run_getObj_map k4,L.law.check w _ hl,f1,f2,f3,L.law.stays w hl,MapKept.run_setObj_map _ k4,Result.andThen]
    · refine XM hm hb hσ hβ k4 rfl hlm hs.2 (by simp) rfl rfl rfl (fun hcells=>⟨k1,β,_,_,hβ,hs.1,?_,?_,?_⟩)
      · rw[(Li k6 f4).2];simp[k5]
      · rw[(Li k6 f4).2,List.map_set]
        have:(es.map (·.1)).set j kk=es.map (·.1):=by
          apply List.ext_getElem?
          intro i
          rw[List.getElem?_set]
          split
          · rename_i e;subst e
            have hlt:j<(es.map (·.1)).length:=by simpa using(List.getElem?_eq_some_iff.1 f4).1
            rw[if_pos hlt,List.getElem?_map,f4];rfl
          · rfl
        rw[this];exact k6
      · intro i k' x' hi
        rw[(Li k6 f4).2,List.getElem?_set]at hi
        rw[Array.getElem?_modify]
        split at hi
        · rename_i e;subst e
          split at hi
          case isFalse=>cases hi
          cases hi
          exact⟨_,by rw[if_pos rfl,f2];rfl,⟨rfl,hk2⟩,hxc.mono hcells (GLe.refl _)⟩
        · rename_i hne
          obtain⟨e2,q1,q2,q3⟩:=k7 i k' x' hi
          exact⟨e2,by rw[if_neg hne];exact q1,q2,q3.mono hcells (GLe.refl _)⟩
theorem Pc(hE:E.Ok){t:TypeId}{kd:TypeDesc}(h:Qp E t=some kd):∃kt et,E.P.underlying t=some (.map kt et)∧E.P.underlying kt=some kd:=by
 unfold Qp at h
 split at h
 case h_2=>cases h
 rename_i d hd
 split at h
 case h_2=>cases h
 rename_i kt et hs
 split at h
 case h_2=>cases h
 rename_i dk hk
 cases h
 have h1:=hE.desc t d hd
 rw[hs]at h1
 exact⟨kt,et,h1,hE.desc kt dk hk⟩
theorem Nz(hE:E.Ok)(hm:Mem E w g σ){t:TypeId}{x k y:AV}{v kv:Value}{ok:Bool}(hx:Ea E σ t x k ok=some y)(hv:Rep w (Aw E g) g v x)(hk:Rep w (Aw E g) g kv k) :
 ∃u,(Instr.lookup t v kv ok).run E.P w=.ok u w∧Rep w (Aw E g) g u y:=by
 unfold Ea at hx
 split at hx
 case h_2=>exact OG hm hx hv hk
 rename_i id
 split at hx
 case h_1 es hσ=>exact Of hE hm hσ hx hv hk
 split at hx
 case h_2=>cases hx
 rename_i b es cl hT hσ
 split at hx
 case h_2=>cases hx
 rename_i s1 s0 h1 h0
 cases hx
 obtain⟨kt,et,e1,e2⟩:=Pc hE hT
 cases hv with
 |mref _ _ β b' hb hbx hβ=>
 obtain⟨k1,k2,β',k3,k4⟩:=hm.blk id b' _ hb hσ
 rw[hβ]at k3;cases k3
 obtain rfl:=DU hk
 have key:∀{c:Bool} {s:List UInt8},J3 .bool c es=some s→∃u,(Instr.lookup t (.map (some β)) (.bool c) false).run E.P w=.ok u w∧Rep w (Aw E g) g u (.str s):=by
  intro c s hf
  unfold J3 at hf
  split at hf
  case h_2=>cases hf
  rename_i i sb hfn
  cases hf
  exact⟨.string sb,by simp[Instr.lookup,run_underlying e1,MapKept.run_getObj_map k4,MapKept.run_checkKey e2 (k:=.bool c) trivial,MapKept.run_findKey e2 hfn,Result.andThen],.str _ _ _ rfl⟩
 cases b
 ·exact key h0
 ·exact key h1
theorem S0(hE:E.Ok){t:TypeId}(h:Rg E t=true):E.P.underlying t=some .string:=by
 unfold Rg at h
 split at h
 case h_2=>cases h
 rename_i d hd
 split at h
 case h_2=>cases h
 rename_i hs
 have:=hE.desc t d hd
 rw[hs]at this
 exact this
theorem H9(hE:E.Ok){st:St}{a:Act}(h:Rel E w g st a){o:Oper}{x:AV}{σ':Ad}(hx:DE E st.fr st.σ o.op=some (x,σ')) :
    OpSound E w g ((execOp a.eval o).run E.P w) x σ':=by
  have hr:=CR h
  have hm:=h.mem
  unfold execOp
  unfold DE at hx
  cases hop:o.op<;>simp only[hop]at hx<;>try (cases hx;done)
  case move y=>
    simp only[Option.some.injEq,Prod.mk.injEq]at hx
    obtain⟨rfl,rfl⟩:=hx
    exact⟨_,w,g,.inl rfl,hm,GLe.refl _,Evo.refl _ _ _ _,hr y⟩
  case assign y=>
    simp only[Option.some.injEq,Prod.mk.injEq]at hx
    obtain⟨rfl,rfl⟩:=hx
    exact⟨_,w,g,.inl rfl,hm,GLe.refl _,Evo.refl _ _ _ _,hr y⟩
  case pick c y z=>
    cases hc:ev st.fr c<;>simp only[hc]at hx<;>try (cases hx;done)
    rename_i t
    simp only[Option.some.injEq,Prod.mk.injEq]at hx
    obtain⟨rfl,rfl⟩:=hx
    have hcv:=hr c
    rw[hc]at hcv
    have:=DU hcv
    refine⟨if t then a.eval y else a.eval z,w,g,.inl ?_,hm,GLe.refl _,Evo.refl _ _ _ _,?_⟩
    · cases t<;>simp[this,asBool]
    · cases t
      · exact hr z
      · exact hr y
  case alloc t=>
    cases ht:E.tab t with
    |none=>simp[ht]at hx
    | some d=>
      simp only[ht]at hx
      split at hx
      · cases hx
      obtain⟨z,hz,hz1,hz2,hz3⟩:=G0 hE ht w
      by_cases hty:E.bty=some t
      · rw[if_pos hty]at hx
        simp only[Option.some.injEq,Prod.mk.injEq]at hx
        obtain⟨rfl,rfl⟩:=hx
        obtain⟨w',g',n1,n2,n3,n4,n5⟩:=M8 hm t (z:=z) (cs:=d.zero) (by omega) (fun j x hj=>hz3 _ _ _ j x hj)
        refine⟨_,w',g',.inl ?_,n2,n3,n4,n5⟩
        simp[Instr.alloc,hz,n1]
      rw[if_neg hty]at hx
      simp only[Option.some.injEq,Prod.mk.injEq]at hx
      obtain⟨rfl,rfl⟩:=hx
      obtain⟨w',g',n1,n2,n3,n4,n5⟩:=JN hm t (z:=z) (cs:=d.zero) (by omega) (fun j x hj=>hz3 _ _ _ j x hj)
      refine⟨_,w',g',.inl ?_,n2,n3,n4,n5⟩
      simp[Instr.alloc,hz,n1]
  case box t y=>
    cases hc:(ev st.fr y).cells? with
    |none=>simp[hc]at hx
    | some xs=>
      simp only[hc]at hx
      split at hx
      · cases hx
      simp only[Option.some.injEq,Prod.mk.injEq]at hx
      obtain⟨rfl,rfl⟩:=hx
      obtain⟨c1,c2⟩:=Hk (hr y) hc
      obtain⟨w',g',n1,n2,n3,n4,n5⟩:=JN hm t c1 c2
      refine⟨_,w',g',.inl ?_,n2,n3,n4,n5⟩
      simp[Instr.box,n1]
  case build t parts=>
    rw[Option.map_eq_some_iff]at hx
    obtain⟨y,hy,hx⟩:=hx
    simp only[Prod.mk.injEq]at hx
    obtain⟨rfl,rfl⟩:=hx
    obtain⟨u,hu,hru⟩:=Qu (w:=w) (g:=g) (pr:=Aw E g) (parts:=parts.map fun(i,x)=>(i,a.eval x)) hE (by rw[Array.toList_map];exact GW _ _ hr _) hy
    exact⟨u,w,g,.inl (by simp[hu]),hm,GLe.refl _,Evo.refl _ _ _ _,hru⟩
  case buildSlice t n parts=>
    have:=JZ (parts:=parts.map fun(i,x)=>(i,a.eval x)) hE hm (by rw[Array.toList_map];exact GW _ _ hr _) hx
    simpa using OpSound.of this
  case load t y=>
    cases ht:E.tab t with
    |none=>simp[ht]at hx
    | some d=>
      simp only[ht,Option.map_eq_some_iff]at hx
      obtain⟨z,hz,hx⟩:=hx
      simp only[Prod.mk.injEq]at hx
      obtain⟨rfl,rfl⟩:=hx
      obtain⟨u,hu,hru⟩:=Mz hE hm ht (hr y) hz
      exact⟨u,w,g,.inl (by simp[hu]),hm,GLe.refl _,Evo.refl _ _ _ _,hru⟩
  case store t y z=>
    cases ht:E.tab t with
    |none=>simp[ht]at hx
    | some d=>
      simp only[ht,Option.map_eq_some_iff]at hx
      obtain⟨σ1,hz,hx⟩:=hx
      simp only[Prod.mk.injEq]at hx
      obtain⟨rfl,rfl⟩:=hx
      obtain⟨w',g',h1,h2,h3,h4⟩:=Qy hE hm ht (hr y) (hr z) hz
      exact⟨undef,w',g',.inr ⟨by simp[h1],rfl⟩,h2,h3,h4,.junk _ _⟩
  case nilCheck y=>
    have hy:=hr y
    cases hc:ev st.fr y<;>simp only[hc]at hx<;>first
      |(cases hx;done)
      | (simp only[Option.some.injEq,Prod.mk.injEq]at hx
         obtain⟨rfl,rfl⟩:=hx
         rw[hc]at hy
         refine⟨a.eval y,w,g,.inl ?_,hm,GLe.refl _,Evo.refl _ _ _ _,hy⟩
         generalize hv:a.eval y=v at hy
         cases hy<;>simp[hv])
  case makeMap t r=>
    cases r with
    |some _=>cases hx
    |none=>
    cases hx
    have ha:=GZ hm (BN w (.map #[] 0)) { blk:=some w.heap.size,o:=0,k:=0,len:=1,ce:=1,isBox:=true,ro:=false } (if Ys E t=true then .mp []else .obj (.map #[] 0)) (.inl rfl)
      (fun _ _=>by
        split
        · exact⟨rfl,w.heap.size,_,_,rfl,(BN w _).new,rfl,by simp,fun i k x hi=>by simp at hi⟩
        · exact⟨rfl,rfl,w.heap.size,rfl,(BN w _).new⟩)
    refine⟨.map (some w.heap.size),_,_,.inl ?_,ha.1,ha.2.1,ha.2.2,?_⟩
    · have hu:(Instr.makeMap t none).run E.P w=.ok (.map (some w.heap.size)) (w.alloc (.map #[] 0)):=by simp[Instr.makeMap]
      show(do pure (.value (←Instr.makeMap t (Option.map a.eval none))):Sem Next).run E.P w=_
      rw[Option.map_none,Sem.run_bind,hu];rfl
    · rw[←hm.len]
      exact .mref _ _ _ _ (by rw[List.getElem?_append_right (Nat.le_refl _)];simp;rfl) rfl rfl
  case insert t m k x1=>
    rw[Option.map_eq_some_iff]at hx
    obtain⟨σ1,h1,hx⟩:=hx
    cases hx
    unfold ML at h1
    split at h1
    case h_2=>cases h1
    rename_i kd id hlm hT hmv
    split at h1
    case h_2=>cases h1
    rename_i es cl hσ
    split at h1
    case isFalse=>cases h1
    rename_i hc
    obtain⟨c1,c2,c3⟩:=hc
    cases h1
    obtain⟨kt,et,e1,e2⟩:=Pc hE hT
    have hv:=hr m
    rw[hmv]at hv
    cases hvv:a.eval m with
    | map p=>
      rw[hvv]at hv
      cases hv with
      |mref _ _ β b hb hbx hβ=>
      obtain⟨k1,k2,β',k3,k4⟩:=hm.blk id b _ hb hσ
      rw[hβ]at k3;cases k3
      obtain⟨hik,hpl⟩:=TB c1
      have hkv:=IF hpl (hr k)
      have hxv:=IF c2 (hr x1)
      have hfk:Instr.findNow kd (avV (ev st.fr k)) es.toList 0=some none:=by
        unfold Kn at c3
        split at c3
        · assumption
        · cases c3
      have hu:(Instr.mapUpdate t (.map (some β)) (avV (ev st.fr k)) (avV (ev st.fr x1))).run E.P w=.ok () { w with heap:=w.heap.setIfInBounds β (.map (es.push { key:=avV (ev st.fr k),val:=avV (ev st.fr x1),born:=cl }) (cl+1)) }:=by
        simp[Instr.mapUpdate,run_underlying e1,MapKept.run_getObj_map k4,MapKept.run_checkKey e2 hik,MapKept.run_findKey e2 hfk,MapKept.run_setObj_map _ k4,Result.andThen]
      have hs:=MapKept.heap_set (o':=.map (es.push { key:=avV (ev st.fr k),val:=avV (ev st.fr x1),born:=cl }) (cl+1)) k4
      have hmo:=QC (w':={ w with heap:=w.heap.setIfInBounds β (.map (es.push { key:=avV (ev st.fr k),val:=avV (ev st.fr x1),born:=cl }) (cl+1)) }) hm hb hσ hβ (o':=.map (es.push { key:=avV (ev st.fr k),val:=avV (ev st.fr x1),born:=cl }) (cl+1)) rfl (.inr (E.lmOk hlm))
        hs.1 hs.2 (by simp) rfl rfl rfl
      refine⟨undef,_,g,.inr ⟨?_,rfl⟩,hmo.1,GLe.refl _,hmo.2,.junk _ _⟩
      rw[Sem.run_bind,hvv,hkv,hxv,hu];rfl
    |_=>rw[hvv]at hv;cases hv
  case mapUpdate t m k x1=>
    rw[Option.map_eq_some_iff]at hx
    obtain⟨σ1,h1,hx⟩:=hx
    cases hx
    cases hlm:E.lm with
    | false=>
      exfalso
      unfold TF at h1
      rw[hlm]at h1
      cases h1
    |true=>
    obtain⟨w',hu,hm',he⟩:=SK hE hm (E.lmOk hlm) h1 (hr m) (hr k) (hr x1)
    refine⟨undef,_,g,.inr ⟨?_,rfl⟩,hm',GLe.refl _,he,.junk _ _⟩
    rw[Sem.run_bind,hu];rfl
  case range t y=>
    split at hx
    case h_2=>cases hx
    rename_i s hst hy
    cases hx
    have hv:=hr y
    rw[hy]at hv
    obtain⟨sa,hsa,hl⟩:=FR hv
    have hbs:(⟨s.toArray⟩:ByteArray)=sa:=by subst hl;simp
    rw[hbs]
    have ha:=GZ hm (BN w (.stringIter sa 0)) { blk:=some w.heap.size,o:=0,k:=0,len:=1,ce:=1,isBox:=true,ro:=false } (.obj (.stringIter sa 0)) (.inl rfl)
      (fun _ _=>⟨rfl,rfl,w.heap.size,rfl,(BN w _).new⟩)
    refine⟨.pointer (some ⟨w.heap.size,0,none⟩),_,_,.inl ?_,ha.1,ha.2.1,ha.2.2,?_⟩
    · have hu:(Instr.range t (a.eval y)).run E.P w=.ok (.pointer (some ⟨w.heap.size,0,none⟩)) (w.alloc (.stringIter sa 0)):=by
        rw[hsa]
        simp[Instr.range,run_underlying (S0 hE hst)]
      rw[Sem.run_bind,hu];rfl
    · rw[←hm.len]
      exact .ref _ _ _ _ _ (by rw[List.getElem?_append_right (Nat.le_refl _)];simp;rfl) rfl rfl
  case next y isS=>
    cases isS with
    |false=>cases hx
    |true=>
    simp only at hx
    split at hx
    case h_2=>cases hx
    rename_i id hy
    split at hx
    case h_2=>cases hx
    rename_i s pos hσ
    have hv:=hr y
    rw[hy]at hv
    cases hvv:a.eval y with
    | pointer p=>
      rw[hvv]at hv
      cases hv with
      |ref _ _ _ β b hb hbx hβ=>
      obtain⟨k1,k2,β',k3,k4⟩:=hm.blk id b _ hb hσ
      rw[hβ]at k3;cases k3
      have hg:(getObj β).run E.P w=.ok (.stringIter s pos) w:=by simp[getObj,Sem.run,k4]
      split at hx
      · rename_i hlt
        cases hx
        have hset:(setObj β (.stringIter s (pos+(Utf8.decode s pos).2))).run E.P w=.ok () { w with heap:=w.heap.setIfInBounds β (.stringIter s (pos+(Utf8.decode s pos).2)) }:=by simp[setObj,Sem.run,k4]
        have hlt2:β<w.heap.size:=(Array.getElem?_eq_some_iff.1 k4).1
        have hmo:=QC (w':={ w with heap:=w.heap.setIfInBounds β (.stringIter s (pos+(Utf8.decode s pos).2)) }) hm hb hσ hβ (o':=.stringIter s (pos+(Utf8.decode s pos).2)) rfl (.inl fun _ _=>by simp)
          (by simp[Array.getElem?_setIfInBounds,hlt2]) (fun k hk=>by simp[Array.getElem?_setIfInBounds,Ne.symm hk]) (by simp) rfl rfl rfl
        refine⟨.tuple #[.bool true,.int .i64 pos,.int .i32 (Utf8.decode s pos).1],_,g,.inl ?_,hmo.1,GLe.refl _,hmo.2,?_⟩
        · have hu:(Instr.next (.pointer (some ⟨β,0,none⟩)) true o.type).run E.P w=.ok (.tuple #[.bool true,.int .i64 pos,.int .i32 (Utf8.decode s pos).1]) { w with heap:=w.heap.setIfInBounds β (.stringIter s (pos+(Utf8.decode s pos).2)) }:=by
            simp[Instr.next,hg,hlt,hset,goInt]
          rw[Sem.run_bind,hvv,hu];rfl
        · refine .tup _ _ _ (by simp) (fun i x hi=>?_)
          rcases i with _|_|_|i
          · simp at hi;subst hi;exact .bool _ _
          · simp at hi;subst hi;exact .int _ _ _
          · simp at hi;subst hi;exact .int _ _ _
          · simp at hi
      · rename_i hlt
        cases hx
        refine⟨.tuple #[.bool false],w,g,.inl ?_,hm,GLe.refl _,Evo.refl _ _ _ _,?_⟩
        · have hu:(Instr.next (.pointer (some ⟨β,0,none⟩)) true o.type).run E.P w=.ok (.tuple #[.bool false]) w:=by
            simp[Instr.next,hg,hlt]
          rw[Sem.run_bind,hvv,hu];rfl
        · refine .tup _ _ _ (by simp) (fun i x hi=>?_)
          rcases i with _|i
          · simp at hi;subst hi;exact .bool _ _
          · simp at hi
    |_=>rw[hvv]at hv;cases hv
  case binOp op t y z yt=>
    rw[Option.map_eq_some_iff]at hx
    obtain⟨v,hv,hx⟩:=hx
    simp only[Prod.mk.injEq]at hx
    obtain⟨rfl,rfl⟩:=hx
    cases hn:L3 z with
    | true=>
      rw[hn]at hv
      obtain⟨u,hu,hru⟩:=NL hE (hr y) hv y z hn
      have hz:a.eval z=.nilIface:=by
        unfold L3 at hn
        split at hn
        · rfl
        · cases hn
      exact⟨u,w,g,.inl (by rw[Sem.run_bind,hz,hu];rfl),hm,GLe.refl _,Evo.refl _ _ _ _,hru⟩
    |false=>
    rw[hn]at hv
    obtain⟨u,hu,hru⟩:=Pu hE (hr y) (hr z) hv y z
    exact⟨u,w,g,.inl (by rw[Sem.run_bind,hu];rfl),hm,GLe.refl _,Evo.refl _ _ _ _,hru⟩
  case unOp op t y=>
    rw[Option.map_eq_some_iff]at hx
    obtain⟨v,hv,hx⟩:=hx
    simp only[Prod.mk.injEq]at hx
    obtain⟨rfl,rfl⟩:=hx
    obtain⟨u,hu,hru⟩:=Tl (P:=E.P) (hr y) hv
    exact⟨u,w,g,.inl (by simp[hu]),hm,GLe.refl _,Evo.refl _ _ _ _,hru⟩
  case convert s d y=>
    have:=M3 hE hm (hr y) hx
    simpa using OpSound.of this
  case makeFunc fn first caps=>
    cases fn<;>simp only at hx<;>try (cases hx;done)
    rename_i f
    split at hx
    · rename_i h1
      obtain rfl:first=#[]:=by apply Array.ext';simpa using h1
      have hne:∀ys,caps.toList.map (ev st.fr)≠[.tup ys]:=fun ys e=>by
        rw[e]at hx;cases hx
      have hx':some (AV.fn f (caps.toList.map (ev st.fr)),st.σ)=some (x,σ'):=by
        split at hx
        · rename_i h2;exact absurd h2 (hne _)
        · exact hx
      simp only[Option.some.injEq,Prod.mk.injEq]at hx'
      obtain⟨rfl,rfl⟩:=hx'
      refine⟨.func (.func f) #[] (caps.map a.eval),w,g,.inl (by simp[Instr.makeFunc]),hm,GLe.refl _,Evo.refl _ _ _ _,.fn _ _ _ _ (by simp) ?_ hne⟩
      intro i x hi
      rw[List.getElem?_map,Option.map_eq_some_iff]at hi
      obtain⟨y,hy,rfl⟩:=hi
      have:(caps.map a.eval).getD i undef=a.eval y:=by
        refine Av ?_
        have:caps[i]?=some y:=by simpa using hy
        simp[this]
      rw[this]
      exact hr y
    · split at hx
      · rename_i h1 h2
        obtain rfl:caps=#[]:=by apply Array.ext';simpa using h2
        simp only[Option.some.injEq,Prod.mk.injEq]at hx
        obtain⟨rfl,rfl⟩:=hx
        refine⟨.func (.func f) (first.map a.eval) #[],w,g,.inl (by simp[Instr.makeFunc]),hm,GLe.refl _,Evo.refl _ _ _ _,.fnb _ _ _ _ (by simp) ?_⟩
        intro i x hi
        rw[List.getElem?_map,Option.map_eq_some_iff]at hi
        obtain⟨y,hy,rfl⟩:=hi
        have:(first.map a.eval).getD i undef=a.eval y:=by
          refine Av ?_
          have:first[i]?=some y:=by simpa using hy
          simp[this]
        rw[this]
        exact hr y
      · cases hx
  case makeInterface t y=>
    cases ht:E.tab t with
    |none=>simp[ht]at hx
    | some d=>
      simp only[ht]at hx
      split at hx
      · cases hx
      rename_i hni
      simp only[Option.some.injEq,Prod.mk.injEq]at hx
      obtain⟨rfl,rfl⟩:=hx
      refine⟨.iface t (a.eval y),w,g,.inl ?_,hm,GLe.refl _,Evo.refl _ _ _ _,.iface _ _ _ _ (hr y)⟩
      cases hd:d.desc<;>first|(exact(hni _ hd).elim)|simp[Instr.makeInterface,A5 hE ht,hd]
  case makeSlice t l c=>
    have:=KT hE hm (hr l) (hr c) hx
    simpa using OpSound.of this
  case slice t y lo hi mx=>
    have:=PF hE hm (hr y) (J5 a.eval _ hr lo) (J5 a.eval _ hr hi) (J5 a.eval _ hr mx) hx
    simpa using OpSound.of this
  case fieldAddr s y f=>
    rw[Option.map_eq_some_iff]at hx
    obtain⟨v,hv,hx⟩:=hx
    simp only[Prod.mk.injEq]at hx
    obtain⟨rfl,rfl⟩:=hx
    obtain⟨u,hu,hru⟩:=L6 hE hm (hr y) hv
    exact⟨u,w,g,.inl (by simp[hu]),hm,GLe.refl _,Evo.refl _ _ _ _,hru⟩
  case field s y f=>
    rw[Option.map_eq_some_iff]at hx
    obtain⟨v,hv,hx⟩:=hx
    simp only[Prod.mk.injEq]at hx
    obtain⟨rfl,rfl⟩:=hx
    obtain⟨u,hu,hru⟩:=Qd (w:=w) hE (hr y) hv
    exact⟨u,w,g,.inl (by simp[hu]),hm,GLe.refl _,Evo.refl _ _ _ _,hru⟩
  case indexAddr t y i=>
    rw[Option.map_eq_some_iff]at hx
    obtain⟨v,hv,hx⟩:=hx
    simp only[Prod.mk.injEq]at hx
    obtain⟨rfl,rfl⟩:=hx
    obtain⟨u,hu,hru⟩:=Ld hE hm (hr y) (hr i) hv
    exact⟨u,w,g,.inl (by simp[hu]),hm,GLe.refl _,Evo.refl _ _ _ _,hru⟩
  case index t y i=>
    rw[Option.map_eq_some_iff]at hx
    obtain⟨v,hv,hx⟩:=hx
    simp only[Prod.mk.injEq]at hx
    obtain⟨rfl,rfl⟩:=hx
    obtain⟨u,hu,hru⟩:=PZ (w:=w) hE (hr y) (hr i) hv
    exact⟨u,w,g,.inl (by simp[hu]),hm,GLe.refl _,Evo.refl _ _ _ _,hru⟩
  case typeAssert y xt t ok=>
    rw[Option.map_eq_some_iff]at hx
    obtain⟨v,hv,hx⟩:=hx
    simp only[Prod.mk.injEq]at hx
    obtain⟨rfl,rfl⟩:=hx
    obtain⟨u,hu,hru⟩:=O4 (w:=w) (xt:=xt) hE (hr y) hv
    exact⟨u,w,g,.inl (by simp[hu]),hm,GLe.refl _,Evo.refl _ _ _ _,hru⟩
  case sliceToArrayPointer t y=>
    rw[Option.map_eq_some_iff]at hx
    obtain⟨v,hv,hx⟩:=hx
    simp only[Prod.mk.injEq]at hx
    obtain⟨rfl,rfl⟩:=hx
    obtain⟨u,hu,hru⟩:=Oj (w:=w) hE (hr y) hv
    exact⟨u,w,g,.inl (by simp[hu]),hm,GLe.refl _,Evo.refl _ _ _ _,hru⟩
  case lookup t y z ok=>
    cases hc:Ea E st.σ t (ev st.fr y) (ev st.fr z) ok with
    |none=>simp[hc]at hx
    | some u=>
      simp only[hc,Option.map_some,Option.some.injEq,Prod.mk.injEq]at hx
      obtain⟨rfl,rfl⟩:=hx
      obtain⟨v,hv1,hv2⟩:=Nz hE hm hc (hr y) (hr z)
      exact⟨v,w,g,.inl (by simp[hv1]),hm,GLe.refl _,Evo.refl _ _ _ _,hv2⟩
  case extract y i=>
    have hy:=hr y
    cases hc:ev st.fr y<;>simp only[hc]at hx<;>try (cases hx;done)
    rename_i vs
    cases hi:vs[i]? with
    |none=>simp[hi]at hx
    | some z=>
      simp only[hi,Option.some.injEq,Prod.mk.injEq]at hx
      obtain⟨rfl,rfl⟩:=hx
      rw[hc]at hy
      generalize hv:a.eval y=v at hy
      cases hy with
      | tup _ us _ hs hru=>
        have hl:i<us.size:=by have:=(List.getElem?_eq_some_iff.1 hi).1;omega
        exact⟨us.getD i undef,w,g,.inl (by simp only[Instr.extract,hv,A2 hl,Sem.run_bind,Sem.run_pure,Result.andThen_ok]),hm,GLe.refl _,Evo.refl _ _ _ _,hru _ _ hi⟩
  case call c=>
    cases hc:c.callee<;>simp only[hc]at hx<;>try (cases hx;done)
    rename_i b
    have key:∀consts,OpSound E w g ((builtin b c.argTypes o.type consts (c.args.map a.eval)).run E.P w) x σ':=fun consts=>
      MB (b:=b) (ts:=c.argTypes) (ty:=o.type) (consts:=consts) (vs:=c.args.map a.eval) hE hm (by rw[Array.toList_map];exact CA _ _ hr _) hx
    simp only[resolve,hc,Sem.run_bind,Sem.run_pure,Result.andThen_ok,invoke]
    exact key _
theorem FL{st:St}{a:Act}(h:Rel E w g st a){w':World}{g':Gh}{σ':Ad}(hm:Mem E w' g' σ')(hle:GLe g g')(he:Evo E 0 w g w' g'):Rel E w' g' ⟨st.fr,σ'⟩ a :=
 ⟨h.size,fun t x hx=>(h.slot t x hx).mono he.cells hle,hm,h.defers.evo he⟩
def A7(fr:List AV)(d:Option Tmp)(x:AV):List AV :=
 match d with
 |some t=>fr.set t x
 |none=>fr
theorem Ey{st:St}{a:Act}(h:Rel E w g st a)(d:Option Tmp){v:Value}{x:AV}(hv:Rep w (Aw E g) g v x):Rel E w g ⟨A7 st.fr d x,st.σ⟩ (a.put d v):=by
  cases d with
  |none=>exact h
  | some t=>
    refine⟨by simp[A7,Act.put,h.size],?_,h.mem,h.defers⟩
    intro t' x' hx'
    simp only[A7,Act.put]at hx' ⊢
    by_cases e:t'=t
    · subst e
      rw[List.getElem?_set]at hx'
      simp only[if_true]at hx'
      split at hx'
      · rename_i hl
        cases hx'
        have:(a.tmps.setIfInBounds t' v).getD t' undef=v:=by
          have hl':t'<a.tmps.size:=by rw[h.size];exact hl
          simp[Array.getD,hl']
        rw[this]
        exact hv
      · cases hx'
    · rw[CB e]at hx'
      have:(a.tmps.setIfInBounds t v).getD t' undef=a.tmps.getD t' undef:=by
        simp only[Array.getD_eq_getD_getElem?,Array.getElem?_setIfInBounds]
        rw[if_neg (fun h=>e h.symm)]
      rw[this]
      exact h.slot t' x' hx'
theorem Evo.of_gle{n:Nat}{w w':World}{g g':Gh}(h:Evo E 0 w g w' g')(hle:GLe g g'):Evo E n w g w' g' :=
 ⟨h.os,h.tape,h.output,h.size,h.cells,h.blocks,fun id _ b hb=>hle id b hb⟩
end Go.Rv
