/-
  Part 42.
-/
import Derived.Test.YtioapcamanmoiaaGreatDoorYR41
import Derived.DeepKeys3
namespace Go.Rv
set_option linter.unusedVariables false
set_option linter.unusedSimpArgs false
variable{N id t kt et:Nat}
variable {E:Env}
theorem LQ{n:Nat}{l:Fr}{σ σ':Ab}(bid i:Nat){kb:Nat}{els0:List (List AV)}{full:Bool}{tot off len k:Nat}{els:List (List AV)}{ro:Bool}(hB:σ[bid]?=some (.buf kb els0 false))(h:els0[i]?=some [.bs full id tot off len]) (hσ:σ[id]?=some (.buf k els ro)) (ht:els.length=tot) (hc:B6 els=true) (hne:bid≠id) (hs':(BP σ id).set bid (.buf kb (els0.set i [.sl false ((els.drop off).take len)]) false)=σ'):Weak E n ⟨Aq N l,σ⟩ ⟨Aq N l,σ'⟩:=by
 subst hs';refine EE fun a w g hr=>?_
 obtain⟨g',hr',he,hs,hp⟩:=PM hr n [id]
 have hbm:(Gi σ [id])[bid]?=some (.buf kb els0 false):=by
  show(BP σ id)[bid]?=_;rw[CL,AoQ (fun e=>hne e)];exact hB
 have hbl:bid<(BP σ id).length:=(AoK.1 hbm).1;refine⟨g',⟨hr'.size,hr'.slot,?_,hr'.defers⟩,he⟩;have hm:=hr'.mem;refine⟨by rw[Aqy];exact hm.len,?_,hm.inj,hm.foreign,hm.glob,hm.maps,hm.whole⟩;intro id' b ab h1 h2;by_cases e:id'=bid
 ·subst e;rw[ApA hbl]at h2;cases h2;obtain⟨k1,k2,k3,k4,k5,k6,k7⟩:=hm.blk id' b (.buf kb els0 false) h1 hbm;have hil:i<els0.length:=(AoK.1 h).1;have hk1:kb=1:=(k5 i _ h).symm;refine⟨k1,k2,k3,by simpa using k4,fun i' cs hi=>?_,fun hn=>?_,fun β hβ=>?_⟩
  ·rw[Apq]at hi;by_cases e2:i=i'
   ·rw[AoO e2,AoO hil]at hi;cases hi;exact hk1.symm
   ·rw[AoQ e2]at hi;exact k5 i' cs hi
  ·obtain⟨q1,q2⟩:=k6 hn;refine⟨?_,q2⟩;rcases q1 with q1|q1
   ·subst q1;simp at hil
   ·exact .inr q1
  obtain⟨arr,t,fz,g1,g2,g3,g4,g5⟩:=k7 β hβ;refine⟨arr,t,fz,g1,g2,by simpa using g3,g4,fun i' cs j x hi hj=>?_⟩;rw[Apq]at hi;by_cases e2:i=i'
  ·subst e2;rw[AoO rfl,AoO hil]at hi;cases hi;have hj1:j<1:=(AoK.1 hj).1;obtain rfl:j=0:=by omega
   simp only[AqL,AoM]at hj;subst hj;refine⟨?_,(g5 i _ 0 _ h rfl).2⟩
   obtain⟨b0,hb0⟩:∃b0,g[id']?=some b0:=by
    have:id'<g.length:=by rw[hr.mem.len];exact(AoK.1 hB).1
    exact⟨_,AoN this⟩
   obtain⟨_,_,y3,_,_,_,y7⟩:=hr.mem.blk id' b0 (.buf kb els0 false) hb0 hB;obtain⟨b1,hb1,t1,t2,t3,t4,t5,t6⟩:=hs id' b0 hb0;rw[h1]at hb1;cases hb1;obtain⟨arr0,t0,fz0,x1,x2,x3,x4,x5⟩:=y7 β (t1 ▸ hβ);rw[g1]at x1;obtain⟨rfl,_,_⟩:=Obj.cells.inj (AoR x1);have hslot:=(x5 i _ 0 _ h rfl).1;rw[←t2]at hslot;have hfz:Bf σ (.bs full id tot off len)=some (.sl false ((els.drop off).take len)):=by simp[Bf,hσ,ht,hc]
   refine(GT hr.mem hslot hfz hp ?_).mono (fun a u hcc hpr=>⟨hcc,hpr⟩) (GLe.nil _);rintro id2 b2 ⟨full',tot',off',len',e'⟩ hb2 β2 off2 hβ2 hoff;cases e';obtain⟨b3,hb3,s1,s2,s3,s4,s5,s6⟩:=hs id b2 hb2
   have hmk:(Gi σ [id])[id]?=some (.buf k els true):=by
    show(BP σ id)[id]?=_;rw[CL,AoO rfl,hσ];rfl
   have hbro:b3.ro=true:=(hr'.mem.blk id b3 _ hb3 hmk).2.1;refine⟨fun hF=>(hr'.mem.foreign _ hF).2 ⟨id,b3,hb3,s1.trans hβ2⟩,fun id3 c hc3 he3=>?_⟩;have:id3=id:=hr'.mem.inj id3 id c b3 β2 hc3 hb3 he3 (s1.trans hβ2);subst this;rw[hb3]at hc3;cases hc3;exact⟨hbro,by rw[s2,s3,s4];exact hoff⟩
  ·rw[AoQ e2]at hi;exact g5 i' cs j x hi hj
 ·rw[Apv (fun e2=>e e2.symm)]at h2;exact hm.blk id' b ab h1 h2
def Aoh(E:Env)(M:Nat)(N:Nat)(l:Fr)(ps:Array Tmp)(as bd body:Code)(K:Cl):Cl:=fun ex st=>ex=.normal∧st.σ[M]?=some (.lp false N l ps as bd)∧Run E (M+1) body ⟨st.fr,st.σ.set M (.lp true N l ps as bd)⟩ K
def Am0(M:Nat)(S:Ab):Cl:=fun ex st=>ex=.normal∧st.σ=S
theorem Yb{P:Prop}{M N':Nat}{l:Fr}{fr:List AV}{ps:Array Tmp}{as bd body:Code}{K:Cl}{σ:Ab}(σ2:Ab)(k:P→Run E (M+1) body ⟨fr,σ2⟩ K)(h:σ[M]?=some (.lp false N l ps as bd):=by rfl)(h2:σ.set M (.lp true N l ps as bd)=σ2:=by rfl):P→Aoh E M N l ps as bd body K .normal ⟨fr,σ⟩ :=
 fun p=>⟨rfl,h,h2 ▸ k p⟩
theorem AbX{B:Base}{o:Out}{n:Nat}{L:List Oper}{op:Oper}{fr fr1 fr2 fr3:Fr}{σ σ1:Ab}{K:Cl}(k:Nat)(hE:(B.env o).Ok)(hL0:L[k]?=some op) (h1:Bp (B.env o) (JR [] []) false N L.toArray (L.take k) (fr,σ)=some (fr1,σ1)) (hrd:o.rd=none) (hgd:op.guard=none) {c:Call} {f:Operand} (hop:op.op=.call c) (hc:c.callee=.value f) {idl:Nat} (hf:evL N fr1 f=.yld idl) {M:Nat} {l:Fr} {ps:Array Tmp} {assign body:Code} (hσ:σ1[idl]?=some (.lp false M l ps assign body)) (hps:c.args.size=ps.size) (hid:idl<n) (hca:JH assign=true) (hcb:JH body=true) (hle2:leL (Aq N fr1) (Aq N fr2)) (hun:QR n (Aq N fr2)) (hp1:∀p∈ps.toList,p<M) (hp2:∀p∈l,p.1 ∉ ps.toList) (hp3:ps.toList.Nodup) (args:List AV) (hargs:c.args.toList.map (evL N fr1)=args) (h3:∀σ3:Ab,Bp (B.env o) (JR [] []) false N L.toArray (L.drop (k+1)) (put op.dst (.bool true) fr2,σ3)=some (fr3,σ3)) (h:∀lp:Nat,Run (B.env { F:=o.F,rd:=some lp }) n assign ⟨Aq M (RZ ps.toList args l),σ1⟩ (fun ex st1=>ex=.normal∧st1.σ[idl]?=some (.lp false M l ps assign body) ∧Run (B.env { F:=o.F,rd:=some lp }) n body ⟨st1.fr,st1.σ.set idl (.lp true M l ps assign body)⟩ (fun ex st2=>ex=.normal∧st2.σ[idl]?=some (.lp true M l ps assign body) ∧K .normal ⟨Aq N fr3,st2.σ.set idl (.lp false M l ps assign body)⟩))) :Run (B.env o) n (.region id L.toArray false) ⟨Aq N fr,σ⟩ K:=by
 refine Ha ?_;have hkl:=(AoK.1 hL0).1
 have hL:L=L.take k++(op::L.drop (k+1)):=by
  conv=>lhs;rw[←AqD k L,Apn hkl]
  rw[(AoK.1 hL0).2]
 have:=FQ (E:=B.env o) (m:=n) (K:=K) (ops:=L.toArray) (rest:=op::L.drop (k+1)) hE Aa (L.take k) fr σ fr1 σ1 h1 (by
  refine Yu (fr2:=Aq N fr2) hrd hgd hop hc (by rw[DI];exact hf) hσ hps hid hca hcb hle2 hun hp1 hp2 hp3 (fun lp=>?_);rw[DI,hargs];refine D4 (h lp) ?_;rintro ex st1 ⟨rfl,q1,q2⟩;refine⟨rfl,q1,D4 q2 ?_⟩;rintro ex st2 ⟨rfl,q3,q4⟩;refine⟨rfl,q3,?_⟩;rw[Da];exact IM hE Aa (L.drop (k+1)) _ _ _ _ (h3 _) q4)
 rw[←hL]at this;exact this
theorem L4{P:Program}{fn:Func}{tmps:Array Value}{R:Ending→World→Prop}{b:Nat}:∀(ms:List Deferred) (w:World),(∀m∈ms,∃d,m={ target:=.collected d,args:=#[] }∧b≤d∧w.heap[d]?=some (.deferred (some [])))→ms.Pairwise (fun a b=>a.target≠b.target) →(∀w',w'.heap.size=w.heap.size→w'.os=w.os→w'.tape=w.tape→w'.output=w.output→(∀k,(∀m∈ms,m.target≠.collected k)→w'.heap[k]?=w.heap[k]?)→(∀k,k<b→w'.heap[k]?=w.heap[k]?)→∃v,(results fn tmps).run P w'=.ok v w'∧R (.returned v) w') →LeavesInM Fence.wide 0 P fn tmps R ms .returning w
  |[],w,_,_,h=>h w rfl rfl rfl rfl (fun _ _=>rfl) (fun _ _=>rfl)
  | m :: ms,w,hm,hp,h=>by
    obtain⟨d,rfl,hbd,hd⟩:=hm m Ao2;rw[List.pairwise_cons]at hp;refine⟨by simp,.inl ⟨d,_,rfl,run_takeDeferred hd,?_⟩⟩;have ho:∀k,k≠d→(w.putObj d (.deferred none)).heap[k]?=w.heap[k]?:=fun k hk=>World.putObj_heap_other hk
    refine L4 (b:=b) ms _ (fun m' hm'=>?_) hp.2 (fun w' z1 z2 z3 z4 z5 z6=>?_)
    · obtain⟨d',rfl,q2,q3⟩:=hm m' (Api _ hm')
      refine⟨d',rfl,q2,?_⟩;have hne:d'≠d:=fun e=>hp.1 _ hm' (by rw[e])
      rw[ho _ hne];exact q3
    · refine h w' (z1.trans (by simp[World.putObj])) z2 z3 z4 (fun k hk=>?_) (fun k hk=>?_)
      · rw[z5 k (fun m' hm'=>hk m' (Api _ hm'))]
        exact ho k (fun e=>hk _ Ao2 (by rw[e]))
      · rw[z6 k hk]
        exact ho k (by omega)
theorem Y7{B:Base}{f:FuncId}{fn:Func}{c:Code}{args:List AV}{σ:Ab}{R:AV→Ab→Prop}(hB:B.Ok)(hf:B.P.funcs[f]?=some fn)(hb:fn.body=some c)(hn:(fn.name == "runtime.NumGoroutine")=false) (h:∀(F:Addr→Prop) (b:Nat),Run (B.env { F:=F,mks:=true,base:=b }) σ.length c ⟨Kt fn.ntmps args,σ⟩ (fun ex st=>(ex=.normal∨ex=.ret)∧∃xs,Dh (B.env { F:=F,mks:=true,base:=b }) st.σ st.fr fn.results.toList=some xs∧R (Fq xs) st.σ)):Con B f args σ R:=by
 refine⟨fun F w g vs hm ha=>.inl ⟨⟨fn,c,hf,hb,hn⟩,?_⟩⟩;refine(callsIn_wide (n:=0)).1 (callsIn_of_wp_marks hf hb trivial ?_);have hr0:=Kj (fn:=fn) hm ha
 have hrel:Rel (B.env { F:=F,mks:=true,base:=w.heap.size }) w g ⟨Kt fn.ntmps args,σ⟩ { tmps:=vs++Array.replicate (fn.ntmps-vs.size) undef,defers:=[] } :=
  ⟨hr0.size,fun t x hx=>AfS (o:={ F:=F }) (o':={ F:=F,mks:=true,base:=w.heap.size }) rfl (hr0.slot t x hx),WR (o:={ F:=F }) (o':={ F:=F,mks:=true,base:=w.heap.size }) rfl hm,.plain rfl (Ao0 _)⟩
 have hrun:=h F w.heap.size (.inl rfl) _ w g hrel (bodyPostM Fence.wide 0 B.P fn (fun e w'=>∃v r σ' g',e=.returned v∧R r σ'∧Mem (B.env F) w' g' σ'∧Evo (B.env F) σ.length w g w' g'∧Rep w' (A4 (B.env F) g') g' v r)) ?_
 ·rw[H4 rfl]at hrun;exact hrun
 rintro ex st a' w' g' ⟨hex,xs,hxs,hR⟩ hr he;obtain⟨h0,ms,h1,h2,hpw,h3⟩:=hr.defers;have hds:a'.defers=ms:=by rw[h1];exact Aqf _
 have hE:=hB.env { F:=F,mks:=true,base:=w.heap.size }
 have key:LeavesInM Fence.wide 0 B.P fn a'.tmps (fun e w'=>∃v r σ' g',e=.returned v∧R r σ'∧Mem (B.env F) w' g' σ'∧Evo (B.env F) σ.length w g w' g'∧Rep w' (A4 (B.env F) g') g' v r) a'.defers .returning w':=by
  rw[hds];have hmarks:∀m∈ms,∃d,m={ target:=.collected d,args:=#[] }∧w.heap.size≤d∧w'.heap[d]?=some (.deferred (some []))∧¬E6 g' d:=h3;refine L4 (b:=w.heap.size) ms w' (fun m hm=>?_) hpw ?_
  ·obtain⟨d,q1,q2,q3,_⟩:=hmarks m hm;exact⟨d,q1,q2,q3⟩
  intro w2 z1 z2 z3 z4 z5 z6
  have hcell:∀a u,w'.cell? a=some u→w2.cell? a=some u:=by
   intro a u hc;rw[←hc];unfold World.cell?;rw[z5 a.block (fun m hm e=>?_)];obtain⟨d,q1,q2,q3,q4⟩:=hmarks m hm;subst q1;simp only[Target.collected.injEq]at e;rw[Mn (e ▸ q3) rfl rfl]at hc;cases hc
  have hnm:∀k,E6 g' k→w2.heap[k]?=w'.heap[k]?:=by
   intro k hk;refine z5 k (fun m hm e=>?_);obtain⟨d,q1,q2,q3,q4⟩:=hmarks m hm;subst q1;simp only[Target.collected.injEq]at e;exact q4 (e ▸ hk)
  have hm2:Mem (B.env { F:=F,mks:=true,base:=w.heap.size }) w2 g' st.σ:=by
   refine⟨hr.mem.len,fun id bb ab h1 h2=>(hr.mem.blk id bb ab h1 h2).mono (fun a u hc hp=>⟨hcell a u hc,hp⟩) (GLe.refl _) (fun β hβ=>hnm β ⟨id,bb,h1,hβ⟩),hr.mem.inj,BM hr.mem (ArC z1.symm) (fun _ _ h=>h),Du hr.mem (ArC z1.symm) (fun a u hc hp=>⟨hcell a u hc,hp⟩) (fun _ _ h=>h),Er hr.mem (fun r es cl hh=>?_),fun i vs hh=>?_⟩
   ·rw[z5 r (fun m hm e=>?_)]
    ·exact hh
    ·obtain⟨d,q1,q2,q3,q4⟩:=hmarks m hm;subst q1;simp only[Target.collected.injEq]at e;rw[e,hh]at q3;cases q3
   ·obtain⟨y1,t,oo,y2⟩:=hr.mem.whole i vs hh;refine⟨y1,t,oo,?_⟩;rw[z5 i (fun m hm e=>?_)]
    ·exact y2
    ·obtain⟨d,q1,q2,q3,q4⟩:=hmarks m hm;subst q1;simp only[Target.collected.injEq]at e;rw[e,y2]at q3;cases q3
  have hr2:Rel (B.env { F:=F,mks:=true,base:=w.heap.size }) w2 g' st { a' with defers:=[] }:=⟨hr.size,fun t x hx=>(hr.slot t x hx).mono (fun a u hc hp=>⟨hcell a u hc,hp⟩) (GLe.refl _),hm2,.plain rfl (by rw[z1];exact h0)⟩;obtain⟨us2,hus2,hrep2⟩:=Es hE hr2 fn.results.toList xs hxs
  have hev:Evo (B.env { F:=F,mks:=true,base:=w.heap.size }) σ.length w g w2 g' :=
   ⟨z2.trans he.os,z3.trans he.tape,z4.trans he.output,by rw[z1];exact he.size,fun a u hc hp=>let⟨x1,x2⟩:=he.cells a u hc hp;⟨hcell a u x1,x2⟩,fun β hβ hn=>let⟨x1,x2⟩:=he.blocks β hβ hn;⟨(z6 β hβ).trans x1,x2⟩,he.ids⟩
  have hres:(results fn a'.tmps).run B.P w2=.ok (if h:us2.toArray.size=1 then us2.toArray[0]else .tuple us2.toArray) w2:=by
   have e:results fn a'.tmps=(do let vs ←fn.results.mapM (Jv a'.tmps);pure (if h:vs.size=1 then vs[0]else .tuple vs)):=rfl;have hus':(fn.results.toList.mapM (Jv a'.tmps)).run B.P w2=.ok us2 w2:=hus2;rw[e,Sem.run_bind,Aqm,Sem.run_map,hus'];rfl
  exact⟨_,hres,_,_,st.σ,g',rfl,hR,WR (o:={ F:=F,mks:=true,base:=w.heap.size }) (o':={ F:=F }) rfl hm2,Ab3 (o:={ F:=F,mks:=true,base:=w.heap.size }) (o':={ F:=F }) rfl hev,AfS (o:={ F:=F,mks:=true,base:=w.heap.size }) (o':={ F:=F }) rfl (HI hrep2)⟩
 rcases hex with rfl|rfl
 ·exact key
 ·exact key
theorem U6{B:Base}{f:FuncId}{fn:Func}{c:Code}{args:List AV}{r0:AV}{rs:List ResultVar}(hB:B.Ok)(hf:B.P.funcs[f]?=some fn)(hb:fn.body=some c)(hn:(fn.name == "runtime.NumGoroutine")=false) (hN:fn.ntmps=N) (hrs:fn.results.toList=rs) (hlen:args.length≤N) (h:∀(F:Addr→Prop) (b:Nat),Run (B.env { F:=F,mks:=true,base:=b }) 0 c ⟨Aq N (Ll 0 args),[]⟩ (AgK (B.env { F:=F,mks:=true,base:=b }) rs r0)):Con B f args [] (fun r' σ'=>r'=r0∧σ'=[]):=by
 refine KZ (R:=fun r σ'=>fzR σ' r=some r0) ?_ (fun r σ' h=>h);refine Y7 hB hf hb hn (fun F b=>?_);subst hN hrs;rw[Eb fn.ntmps args hlen (Ll 0 args) (fun t _=>E3 args 0 t (Apx _))];refine D4 (h F b) ?_;rintro ex st ⟨h1,xs,h2,h3⟩;exact⟨h1,xs,h2,h3⟩
section
variable {P:Prop}{B:Base}{f:FuncId}{fn:Func}{c:Code}{args:List AV}{r0:AV}{l:Fr}
theorem Cm(N:Nat)(rs:List ResultVar)(hf:B.P.funcs[f]?=some fn)(h:∀(F:Addr→Prop) (b:Nat),(B.env { F:=F,mks:=true,base:=b }).Ok→P→Run (B.env { F:=F,mks:=true,base:=b }) 0 c ⟨Aq N l,[]⟩ (wkP (B.env { F:=F,mks:=true,base:=b }) 0 (AgK (B.env { F:=F,mks:=true,base:=b }) rs r0)))(p:P)(hl:Ll 0 args=l:=by first|(simp only[Ll,Nat.reduceAdd];exact rfl)|(simp only[Ll,Nat.reduceAdd];done))(hB:B.Ok:=by exact ok)(hb:fn.body=some c:=by exact rfl)(hn:(fn.name == "runtime.NumGoroutine")=false:=by decide +kernel) (hN:fn.ntmps=N:=by exact rfl) (hrs:fn.results.toList=rs:=by exact rfl) (hlen:args.length≤N:=by exact Apm rfl):Con B f args [] (fun r' σ'=>r'=r0∧σ'=[]):=U6 hB hf hb hn hN hrs hlen fun F b=>by rw[hl];exact FT (h F b (hB.env { F:=F,mks:=true,base:=b }) p)
theorem Yf{M:Nat}{S σ:Ab}{fr:List AV}(h:P→σ=S:=by intro h;obtain rfl:=AoR h;rfl):P→Am0 M S .normal ⟨fr,σ⟩:=fun p=>⟨rfl,h p⟩
end
def AnP(N:Nat)(fr:Fr):Fr→Prop
 |[]=>True
 |p::l=>(p.1<N∧look fr p.1=p.2)∧AnP N fr l
theorem V9{N:Nat}{fr:Fr}:∀{l:Fr},AnP N fr l→∀p∈l,p.1<N∧look fr p.1=p.2
  |[],_,p,h=>by simp at h
  | q::l,h,p,hp=>by
    rcases Ao9.1 hp with rfl|hp
    · exact h.1
    · exact V9 h.2 p hp
section
variable {α:Type}{c:α→AV}{l:List ((Int×Int)×α)}{σ:Ab}
theorem X4{k:AV}{ok:Bool}:Ex E σ t (.mref id) k ok=(match σ[id]? with
    |some (.mp es)=>MI E t es k ok
    | ab=>match ok,k,Tz E t,ab with
      | false,.bool b,some .bool,some (.obj (.map es _))=>match K8 .bool true es,K8 .bool false es with
        |some s1,some s0=>some (.str (if b then s1 else s0))
        |_,_=>none
      |_,_,_,_=>none):=rfl
theorem Yr{a b:Int}{x:AV}(hl:E.lm=true)(hm:AdD E t=true):SB E σ t (.mref id) (.agg [i64 a,i64 b]) x=(if Tg a b then(match σ[id]? with
 |some (.mp es)=>if x.closed=true then some (σ.set id (.mp (LY es (a,b) x)))else none
 |_=>none)else none):=by
 have hk:AgF (.agg [i64 a,i64 b])=if Tg a b then some (a,b)else none:=rfl
 unfold SB;rw[hl,hm,hk];by_cases h:Tg a b
 ·rw[AoO h,AoO h];rfl
 ·rw[AoQ h,AoQ h]
theorem Vf{cs:List AV}:(AV.agg cs).closed=cs.all AV.closed:=by
 simp[AV.closed]
theorem AaR{a b:Int}{d:TD}{z:α}(hm:E.mp=some (t,kt,et))(hd:E.tab et=some d)(hs:2≤d.size)(hz:AV.agg (d.zero.map dn)=c z) :MI E t (M2 c l) (.agg [i64 a,i64 b]) true=if Tg a b then some (.tup [c ((Fv l (a,b)).getD z),.bool (Fv l (a,b)).isSome])else none:=by
 have hk:AgF (.agg [i64 a,i64 b])=if Tg a b then some (a,b)else none:=rfl
 unfold MI;rw[hm,hk];by_cases h:Tg a b
 case neg=>rw[AoQ h,AoQ h]
 rw[AoO h,AoO h];simp only[hd,hs,Aqe,AdL,hz];cases Fv l (a,b)<;>rfl
theorem Aij:M2 c []=[]:=rfl
end
attribute [go_sem] X4 Yr Vf Aij
theorem Afg{P:Program}{m:Nat}(f1 f2:Field)(hU:P.underlying kt=some (.struct #[f1,f2]))(hK:P.keyType kt=true)(hc:P.cellsOf kt=2)(h3:P.underlying f1.type=some (.int .i64))(h4:P.underlying f2.type=some (.int .i64))(c1:P.cellsOf f1.type=1)(c2:P.cellsOf f2.type=1) (o1:f1.offset=0) (o2:f2.offset=1) (n1:(f1.name != "_")=true) (n2:(f2.name != "_")=true) (hs:P.types.size=m+1) {a b:Int} (h:Tg a b):(keyOf P kt (P8 (a,b))).isSome=true:=by
 obtain⟨⟨a1,a2⟩,b1,b2⟩:=h;have w1:(Lit.int .i64 a).wf=true:=by simp[Lit.wf,a1];exact a2
 have w2:(Lit.int .i64 b).wf=true:=by simp[Lit.wf,b1];exact b2
 unfold keyOf;simp only[hU,hK,P8,Value.formed,hc,hs,Program.keyLits,Value.cells,Bool.true_and];simp[h3,h4,c1,c2,o1,o2,n1,n2,w1,w2]
theorem AcY{P:Program}{m:Nat}(h1:P.underlying t=some (.map kt et))(hm:m+1≤10000)(hk:P.keyTypeAt m kt=true)(ht:P.tiled m kt=true)(hw:(match P.underlying kt with|some (.array _ _)|some (.struct _)=>true|_=>false)=true)(h2:∀a b:Int,Tg a b→(keyOf P kt (P8 (a,b))).isSome=true):MpLaw P t kt et :=
 ⟨h1,deep_law hm hk ht hw,fun k h=>ArI.1 (h2 k.1 k.2 h)⟩
theorem Afy{P:Program}(h:MpLaw P t kt et):∀t' kt' et',some (t,kt,et)=some (t',kt',et')→MpLaw P t' kt' et':=by
 intro t' kt' et' e;cases e;exact h
end Go.Rv
