/-
  Part 45.
-/
import Derived.Test.YtldngkmkhfddpaaGreatDoorYX43
import Derived.Test.YtldngkmkhfddpaaGreatDoorYX44
namespace Go.Rv
set_option linter.unusedVariables false
set_option linter.unusedSimpArgs false
theorem Adj{sel:List Nat}{f:FuncId}{n:Int}:wk0 sel (.fn f [.rp [i64 n]]) (.fn f [.rp [i64 n]])=True:=by simp[wk0,i64,AV.closed]
theorem YU{f:FuncId}:(AV.fn f []).closed=true:=by simp[AV.closed]
attribute [go_sem] Adj YU
theorem VV{l:List Int}:List.map dn (C1 i64 l)=C1 i64 l:=AiP i64 (fun _=>rfl) l
attribute [go_sem] VV
theorem Abi{sel:List Nat}{N:Nat}(id:Nat):SI sel N (.mref id)=.mref (Gv sel N id):=rfl
attribute [go_sem] Abi
theorem Ip{α:Type}{c:Prop}[Decidable c]{p q:Option α}{r:α}{Q:Prop}(h:c)(k:p=some r->Q):(if c then p else q)=some r->Q:=fun e=>k (by rwa[Apb h]at e)
theorem In{α:Type}{c:Prop}[Decidable c]{p q:Option α}{r:α}{Q:Prop}(h:¬c)(k:q=some r->Q):(if c then p else q)=some r->Q:=fun e=>k (by rwa[Apd h]at e)
set_option linter.unusedVariables false
variable{orc:Option Tmp->Orc}
variable {E:Env}
theorem Nb(hE:E.Ok){orc:Option Tmp->Orc}(hO:He E.toBase orc){m n:Nat}{ops:Array Oper}{K:CO}:∀(l:List Oper) (fr:Fr) (O:Ac) (fr':Fr) (O':Ac),Cc E orc true n ops l (fr,O)=some (fr',O')->K .normal ⟨Ai n fr',O'⟩->Np E m ops l ⟨Ai n fr,O⟩ K
 |[],fr,O,fr',O',h,hk=>by
  simp only[Cc,Ao7,Apf]at h;obtain⟨rfl,rfl⟩:=h;exact Wx hk
 | o :: l,fr,O,fr',O',h,hk=>by
  simp only[Cc,Apa]at h;obtain⟨⟨fr1,σ1⟩,h1,h2⟩:=h;have hv:=IV h1;intro hcm a w g hr Q hq;obtain⟨cm1,cm2⟩:=Mp hcm;unfold Bw at hv;rw[Ao5]at hv;obtain⟨⟨x,σ2⟩,hv,e⟩:=hv
  have next:∀a' w' g',Rel E w' g' ⟨Ay (Ai n fr) o.dst x,σ2⟩ a'->Evo E 0 w g w' g'->GLe g g'->wpListIn E.fen 0 E.P ops Q l a' w':=by
   intro a' w' g' hr' he hg;have e':(⟨Ay (Ai n fr) o.dst x,σ2⟩:St)=⟨Ai n fr1,σ1⟩:=e;rw[e']at hr';refine Nb (m:=m) hE hO l _ _ _ _ h2 hk cm2 a' w' g' hr' Q ?_;intro ex st' a2 w2 g2 k r e;exact hq ex st' a2 w2 g2 k r ((he.of_gle hg).trans e)
  unfold Dz G8 at hv;cases hg:o.guard with
  |none=>
   simp only[hg]at hv;simp only[wpListIn,Region.wanted,hg,ApT];exact Sj (MW hE hO hv hr next) cm1
  | some p=>
   obtain⟨j,want⟩:=p;simp only[hg]at hv;cases hy:Io ops (Ai n fr) j with
   |none=>simp[hy]at hv
   | some b=>
    simp only[wpListIn,Region.wanted,hg,GQ hr hy];simp only[hy,ApG]at hv;by_cases e:b=some want
    ·rw[Apb (by simp[e])];rw[show(b==some want)=true by simp[e]]at hv;exact Sj (MW hE hO hv hr next) cm1
    rw[Apd (by simp[e])];rw[show(b==some want)=false by simp[e]]at hv;cases hv;exact⟨fun _ _=>trivial,next _ w g (FI hr o.dst (Km _ _ _)) (Evo.refl _ _ _ _) (GLe.refl _)⟩
theorem Abw(hE:E.Ok)(hO:He E.toBase orc){m n id:Nat}{l:List Oper}{fr fr':Fr}{O O':Ac}{K:CO}(ts:List Nat) (h:Hq E orc true n l ts (fr,O)=some (fr',O')) {y:Code} (hk:Run E m y ⟨Ai n fr',O'⟩ K):Run E m (.seq (.region id l.toArray false) y) ⟨Ai n fr,O⟩ K:=by
 simp only[Hq,Apa,Ao7,Apf]at h;obtain⟨⟨fr1,σ1⟩,h1,rfl,rfl⟩:=h;exact Hh (G4 (Nb hE hO _ _ _ _ _ h1 (Fa (Dh _ _ _ _ _) hk)))
theorem Z3(hE:E.Ok)(hO:He E.toBase orc){m n id:Nat}{l:List Oper}{fr fr':Fr}{O O':Ac}{K:CO}(hw:Lm E m K)(ts:List Nat) (h:Hq E orc true n l ts (fr,O)=some (fr',O')) (hk:K .normal ⟨Ai n fr',O'⟩):Run E m (.region id l.toArray false) ⟨Ai n fr,O⟩ K:=by
 simp only[Hq,Apa,Ao7,Apf]at h;obtain⟨⟨fr1,σ1⟩,h1,rfl,rfl⟩:=h;exact G4 (Nb hE hO _ _ _ _ _ h1 (hw _ _ (Dh _ _ _ _ _) hk))
section
variable {N m id:Nat}{l:List Oper}{fr:Fr}{O:Ac}{V R:Type}{X:Option V}{f:V->Option R}{r:R}{K:CO}{y:Code}
theorem Tfe{fr':Fr}{O':Ac}{P:Prop}(ts:List Nat)(o:He E.toBase orc)(e:Is (Hq E orc true N l ts (fr,O)) fr' O')(k:P->Run E m y ⟨Ai N fr',O'⟩ K)(hE:E.Ok:=by assumption):P->Run E m (.seq (.region id l.toArray false) y) ⟨Ai N fr,O⟩ K:=fun p=>Abw hE o ts e (k p)
theorem Ffe{fr':Fr}{O':Ac}{P:Prop}(ts:List Nat)(o:He E.toBase orc)(e:Is (Hq E orc true N l ts (fr,O)) fr' O')(k:P->K .normal ⟨Ai N fr',O'⟩)(hw:Lm E m K:=by repeat' first|exact Ea|exact FJ|exact Qm|exact Qw|exact Kr|refine E4 ?_|refine GJ ?_)(hE:E.Ok:=by assumption):P->Run E m (.region id l.toArray false) ⟨Ai N fr,O⟩ K:=fun p=>Z3 hE o hw ts e (k p)
end
set_option linter.unusedSimpArgs false
def Ak9(B:Base)(f:FuncId)(args:List AV)(O:Ac)(R:AV->Ac->Prop):Prop :=
 ∀(F:Addr->Prop) (w:World) (g:Gh) (vs:Array Value) (u:FrameMode),Mem (B.env F) w g O->C4 w (A3 (B.env F) g) g vs.toList args ->
  CallsD B.P f vs u w fun e u' w'=>u'=u/\∃v r O' g',e=.returned v/\R r O'/\Mem (B.env F) w' g' O'/\Evo (B.env F) O.length w g w' g'/\Rep w' (A3 (B.env F) g') g' v r
theorem AhC{B:Base}{f:FuncId}{fn:Func}{c:Code}{args:List AV}{O:Ac}{R:AV->Ac->Prop}(hB:B.Ok)(hf:B.P.funcs[f]?=some fn)(hb:fn.body=some c) (h:∀F:Addr->Prop,Run (B.env F) O.length c ⟨Qs fn.ntmps args,O⟩ (fun ex st=>(ex=.normal\/ex=.ret)/\∃xs,Fp (B.env F) st.O st.fr fn.results.toList=some xs/\R (Hf xs) st.O)):Ak9 B f args O R:=by
 intro F w g vs u hm ha;have hE:=hB.env F;refine callsD_of_wp hf hb ?_;have hr0:=Mv (fn:=fn) hm ha;refine Hu (h F) rfl hr0 ?_;intro ex st a' w' g' hk hr he;obtain⟨hex,xs,hxs,hR⟩:=hk;obtain⟨us,hus,hrep⟩:=Gm hE hr fn.results.toList xs hxs
 have hres:(results fn a'.tmps).run B.P w'=.ok (if h:us.toArray.size=1 then us.toArray[0]else .tuple us.toArray) w':=by
  have e:results fn a'.tmps=(do let vs <-fn.results.mapM (JP a'.tmps);pure (if h:vs.size=1 then vs[0]else .tuple vs)):=rfl;have hus':(fn.results.toList.mapM (JP a'.tmps)).run B.P w'=.ok us w':=hus;rw[e,Sem.run_bind,AqC,Sem.run_map,hus'];rfl
 rcases hex with rfl|rfl
 ·exact⟨hr.defers.eq rfl,_,hres,_,_,_,g',rfl,hR,hr.mem,he,HD hrep⟩
 exact⟨hr.defers.eq rfl,_,hres,_,_,_,g',rfl,hR,hr.mem,he,HD hrep⟩
theorem ZK{B:Base}{f:FuncId}{fn:Func}{c:Code}{args:List AV}{O σ0:Ac}{r0:AV}{rs:List ResultVar}{N:Nat}(n:Nat)(hn0:O.length=n)(hB:B.Ok)(hf:B.P.funcs[f]?=some fn)(hb:fn.body=some c)(hN:fn.ntmps=N)(hrs:fn.results.toList=rs) (hlen:args.length<=N) (h:∀F:Addr->Prop,Run (B.env F) n c ⟨Ai N (Nx 0 args),O⟩ (Adg (B.env F) n rs r0 σ0)):Ak9 B f args O (fun r' O'=>r'=r0/\O'=σ0):=by
 subst hn0
 have h0:Ak9 B f args O (fun r O'=>∃sel:List Nat,wk2 sel r r0/\sel.Nodup/\sel.take O.length=List.range O.length/\JI sel O' sel σ0):=by
  refine AhC hB hf hb (fun F=>?_);subst hN hrs;rw[GD fn.ntmps args hlen (Nx 0 args) (fun t _=>GW args 0 t (Apz _))];refine Ie (h F) ?_;rintro ex st ⟨h1,sel,h2,h3,h4,h5⟩;unfold Aft at h2;split at h2
  ·rename_i xs hxs;exact⟨h1,xs,hxs,sel,h2,h3,h4,h5⟩
  exact h2.elim
 intro F w g vs u hm ha;refine(h0 F w g vs u hm ha).mono ?_;rintro e u' w' ⟨hu,v,r,O',g',h1,⟨sel,k1,k2,k3,k4⟩,h3,h4,h5⟩;obtain⟨s1,s2,s3,s4⟩:=Jz h3 sel k2 k3 k4;exact⟨hu,v,r0,σ0,CG sel g',h1,⟨rfl,rfl⟩,s2,h4.trans s3,VE s4 s1 h5 k1⟩
section
variable {B:Base}{f:FuncId}{fn:Func}{c:Code}{args:List AV}{l:Fr}{O σ0:Ac}{r0:AV}{P:Prop}
theorem Cdf(n N:Nat)(rs:List ResultVar)(hf:B.P.funcs[f]?=some fn)(h:∀F:Addr->Prop,(B.env F).Ok->P->Run (B.env F) n c ⟨Ai N l,O⟩ (wkP (B.env F) n (Adg (B.env F) n rs r0 σ0)))(p:P)(hl:Nx 0 args=l:=by first|(simp only[Nx,Nat.reduceAdd];exact rfl)|(simp only[Nx,Nat.reduceAdd];done))(hB:B.Ok:=by exact ok)(hb:fn.body=some c:=by exact rfl) (hN:fn.ntmps=N:=by exact rfl) (hrs:fn.results.toList=rs:=by exact rfl) (hlen:args.length<=N:=by exact Apq rfl) (hO:O.length=n:=by exact rfl):Ak9 B f args O (fun r' O'=>r'=r0/\O'=σ0):=ZK n hO hB hf hb hN hrs hlen fun F=>by rw[hl];exact BM (h F (hB.env F) p)
end
theorem AfT{E:Env}{w:World}{g:Gh}{O:Ac}(hm:Mem E w g O){α:Nat}{arr:Array Value}{t:TypeId}{fz:Nat×Nat}{x:AV}(hα:w.heap[α]?=some (.cells arr t fz))(hsz:arr.size=1)(hn:¬Ft g α)(hF:∀a,E.F a->a.block≠α) (hG:∀i cs,E.G i=some cs->i≠α) (hW:∀i vs,E.whole i=some vs->i≠α) (hfz:noFreeze fz 0 1) (ho:one (arr.getD 0 undef)=true) (hx:∀pr g',GLe g g'->Rep w pr g' (arr.getD 0 undef) x) :Mem E w (g++[⟨some α,0,1,1,0,true,true⟩]) (O++[.box [x] true])/\∀a u,w.cell? a=some u->A3 E g a->A3 E (g++[⟨some α,0,1,1,0,true,true⟩]) a:=by
 have hget:∀(id:Nat) (b:GB),(g++[(⟨some α,0,1,1,0,true,true⟩:GB)])[id]?=some b->(g[id]?=some b)\/(id=g.length/\b=⟨some α,0,1,1,0,true,true⟩):=by
  intro id b h;rcases ApX id g.length with hl|hl
  ·rw[Aph hl]at h;exact .inl h
  rw[Ape hl]at h
  have:id-g.length=0:=by
   have:=(Ao6.1 h).1;simp at this;exact this
  rw[this]at h;simp at h;exact .inr ⟨by omega,h.symm⟩
 have hp:∀a u,w.cell? a=some u->A3 E g a->A3 E (g++[⟨some α,0,1,1,0,true,true⟩]) a:=fun a u hc h=>⟨h.1,fun id b hb hβ=>by
  rcases hget id b hb with h2|⟨_,rfl⟩
  ·exact h.2 id b h2 hβ
  have e:α=a.block:=Ao8 hβ;refine⟨rfl,?_⟩;unfold World.cell? at hc;rw[<-e,hα]at hc;simp only at hc;split at hc
  ·cases hc
  have:=(Apl.1 hc).1;show a.off<0+1*1;omega⟩
 have hmine:∀β,Ft (g++[⟨some α,0,1,1,0,true,true⟩]) β->Ft g β\/β=α:=by
  rintro β ⟨id,b,hb,hβ⟩;rcases hget id b hb with h2|⟨_,rfl⟩
  ·exact .inl ⟨id,b,h2,hβ⟩
  exact .inr (Ao8 hβ).symm
 refine⟨⟨by simp[hm.len],?_,?_,fun a ha=>⟨(hm.foreign a ha).1,fun hh=>?_⟩,?_,hm.maps,fun i vs h=>⟨fun hh=>?_,(hm.whole i vs h).2⟩⟩,hp⟩
 ·intro id b ab h1 h2;rcases hget id b h1 with h3|⟨rfl,rfl⟩
  ·have hl:id<O.length:=by rw[<-hm.len];exact(Ao6.1 h3).1
   rw[Aph hl]at h2;exact(hm.blk id b ab h3 h2).mono (fun a u hc hpr=>⟨hc,hp a u hc hpr⟩) (GLe.append _ _) (fun _ _=>rfl)
  rw[hm.len,Ape (Apm _),Arw]at h2;cases h2;refine⟨rfl,rfl,rfl,rfl,rfl,α,arr,t,fz,rfl,hα,hsz,by rw[hsz];exact hfz,fun j y hj=>?_⟩
  match j,hj with
  |0,hj=>cases hj;exact⟨hx _ _ (GLe.append _ _),ho⟩
 ·intro id id' b b' β h1 h2 e1 e2;rcases hget id b h1 with h3|⟨rfl,rfl⟩
  ·rcases hget id' b' h2 with h4|⟨rfl,rfl⟩
   ·exact hm.inj id id' b b' β h3 h4 e1 e2
   have e:α=β:=Ao8 e2;exact(hn ⟨id,b,h3,e ▸ e1⟩).elim
  rcases hget id' b' h2 with h4|⟨rfl,rfl⟩
  ·have e:α=β:=Ao8 e1;exact(hn ⟨id',b',h4,e ▸ e2⟩).elim
  rfl
 ·rcases hmine _ hh with h|h
  ·exact(hm.foreign a ha).2 h
  exact hF a ha h
 ·intro i cs hGi;obtain⟨q1,q2,q3,c,q4⟩:=hm.glob i cs hGi;refine⟨q1,fun hh=>?_,q3,c,fun j y hj=>⟨(q4 j y hj).1,(q4 j y hj).2.1.mono (fun a u hc hpr=>⟨hc,hp a u hc hpr⟩) (GLe.nil _),(q4 j y hj).2.2⟩⟩;rcases hmine _ hh with h|h
  ·exact q2 h
  exact hG i cs hGi h
 rcases hmine _ hh with h'|h'
 ·exact(hm.whole i vs h).1 h'
 exact hW i vs h h'
theorem Abj{E:Env}{O:Ac}{t u:TypeId}{m k:AV}:AU E O .delete [t,u] [m,k]=(Ph E O t m k).map fun O'=>(AV.tup [],O'):=rfl
attribute [go_sem] Abj Afq
theorem XZ{α:Type}{c:α->AV}{n:Nat}(a:Arr α n):List.take n (List.map (fun x=>[x]) (C1 c a.l))=L (fun x=>[c x]) a.l:=by
 have h:(List.map (fun x=>[x]) (C1 c a.l)).length<=n:=by rw[Ap8];exact Nat.le_of_eq DK
 rw[ApW h];simp[C1,L]
theorem AeW{α:Type}[Inhabited α]{c:α->List AV}{l:List α}{j i:Nat}{y:α}(h:i<l.length):((L c l).set j (c y))[i]?=some (c (nth (l.set j y) i)):=by
 have e:(L c l).set j (c y)=L c (l.set j y):=by simp[L,Ar4]
 rw[e];have h2:i<(l.set j y).length:=by rw[AqK];exact h
 show((l.set j y).map c)[i]?=_;rw[ApE,Ao9 h2];simp[nth,h]
end Go.Rv
