/-
  Part 39.
-/
import Derived.Test.YtioapcamanmoiaaGreatDoorYA38
import Derived.DeepKeys3
namespace Go.Rv
variable{N id t kt et:Nat}
variable {E:Env}
theorem NA{n:Nat}{l:Fr}{σ σ':Ad}(bid i:Nat){kb:Nat}{els0:List (List AV)}{full:Bool}{tot off len k:Nat}{els:List (List AV)}{ro:Bool}(hB:σ[bid]?=some (.buf kb els0 false))(h:els0[i]?=some [.bs full id tot off len]) (hσ:σ[id]?=some (.buf k els ro)) (ht:els.length=tot) (hc:Cc els=true) (hne:bid≠id) (hs':(C9 σ id).set bid (.buf kb (els0.set i [.sl false ((els.drop off).take len)]) false)=σ'):Weak E n ⟨Ao N l,σ⟩ ⟨Ao N l,σ'⟩:=by
 subst hs';refine Gd fun a w g hr=>?_
 obtain⟨g',hr',he,hs,hp⟩:=S0 hr n [id]
 have hbm:(HA σ [id])[bid]?=some (.buf kb els0 false):=by
  show(C9 σ id)[bid]?=_;rw[DG,AsX (fun e=>hne e)];exact hB
 have hbl:bid<(C9 σ id).length:=(AsT.1 hbm).1;refine⟨g',⟨hr'.size,hr'.slot,?_,hr'.defers⟩,he⟩;have hm:=hr'.mem;refine⟨by rw[Auw];exact hm.len,?_,hm.inj,hm.foreign,hm.glob,hm.maps,hm.whole⟩;intro id' b ab h1 h2;by_cases e:id'=bid
 ·subst e;rw[AtS hbl]at h2;cases h2;obtain⟨k1,k2,k3,k4,k5,k6,k7⟩:=hm.blk id' b (.buf kb els0 false) h1 hbm;have hil:i<els0.length:=(AsT.1 h).1;have hk1:kb=1:=(k5 i _ h).symm;refine⟨k1,k2,k3,by simpa using k4,fun i' cs hi=>?_,fun hn=>?_,fun β hβ=>?_⟩
  ·rw[AtG]at hi;by_cases e2:i=i'
   ·rw[AsU e2,AsU hil]at hi;cases hi;exact hk1.symm
   ·rw[AsX e2]at hi;exact k5 i' cs hi
  ·obtain⟨q1,q2⟩:=k6 hn;refine⟨?_,q2⟩;rcases q1 with q1|q1
   ·subst q1;simp at hil
   ·exact .inr q1
  obtain⟨arr,t,fz,g1,g2,g3,g4,g5⟩:=k7 β hβ;refine⟨arr,t,fz,g1,g2,by simpa using g3,g4,fun i' cs j x hi hj=>?_⟩;rw[AtG]at hi;by_cases e2:i=i'
  ·subst e2;rw[AsU rfl,AsU hil]at hi;cases hi;have hj1:j<1:=(AsT.1 hj).1;obtain rfl:j=0:=by omega
   simp only[AuS,AsW]at hj;subst hj;refine⟨?_,(g5 i _ 0 _ h rfl).2⟩
   obtain⟨b0,hb0⟩:∃b0,g[id']?=some b0:=by
    have:id'<g.length:=by rw[hr.mem.len];exact(AsT.1 hB).1
    exact⟨_,AsZ this⟩
   obtain⟨_,_,y3,_,_,_,y7⟩:=hr.mem.blk id' b0 (.buf kb els0 false) hb0 hB;obtain⟨b1,hb1,t1,t2,t3,t4,t5,t6⟩:=hs id' b0 hb0;rw[h1]at hb1;cases hb1;obtain⟨arr0,t0,fz0,x1,x2,x3,x4,x5⟩:=y7 β (t1 ▸ hβ);rw[g1]at x1;obtain⟨rfl,_,_⟩:=Obj.cells.inj (AtA x1);have hslot:=(x5 i _ 0 _ h rfl).1;rw[←t2]at hslot;have hfz:B3 σ (.bs full id tot off len)=some (.sl false ((els.drop off).take len)):=by simp[B3,hσ,ht,hc]
   refine(Il hr.mem hslot hfz hp ?_).mono (fun a u hcc hpr=>⟨hcc,hpr⟩) (GLe.nil _);rintro id2 b2 ⟨full',tot',off',len',e'⟩ hb2 β2 off2 hβ2 hoff;cases e';obtain⟨b3,hb3,s1,s2,s3,s4,s5,s6⟩:=hs id b2 hb2
   have hmk:(HA σ [id])[id]?=some (.buf k els true):=by
    show(C9 σ id)[id]?=_;rw[DG,AsU rfl,hσ];rfl
   have hbro:b3.ro=true:=(hr'.mem.blk id b3 _ hb3 hmk).2.1;refine⟨fun hF=>(hr'.mem.foreign _ hF).2 ⟨id,b3,hb3,s1.trans hβ2⟩,fun id3 c hc3 he3=>?_⟩;have:id3=id:=hr'.mem.inj id3 id c b3 β2 hc3 hb3 he3 (s1.trans hβ2);subst this;rw[hb3]at hc3;cases hc3;exact⟨hbro,by rw[s2,s3,s4];exact hoff⟩
  ·rw[AsX e2]at hi;exact g5 i' cs j x hi hj
 ·rw[AtF (fun e2=>e e2.symm)]at h2;exact hm.blk id' b ab h1 h2
def Ao0(E:Env)(M:Nat)(N:Nat)(l:Fr)(ps:Array Tmp)(as bd body:Code)(K:DB):DB:=fun ex st=>ex=.normal∧st.σ[M]?=some (.lp false N l ps as bd)∧Run E (M+1) body ⟨st.fr,st.σ.set M (.lp true N l ps as bd)⟩ K
def AqS(M:Nat)(S:Ad):DB:=fun ex st=>ex=.normal∧st.σ=S
theorem Yb{P:Prop}{M N':Nat}{l:Fr}{fr:List AV}{ps:Array Tmp}{as bd body:Code}{K:DB}{σ:Ad}(σ2:Ad)(k:P→Run E (M+1) body ⟨fr,σ2⟩ K)(h:σ[M]?=some (.lp false N l ps as bd):=by rfl)(h2:σ.set M (.lp true N l ps as bd)=σ2:=by rfl):P→Ao0 E M N l ps as bd body K .normal ⟨fr,σ⟩ :=
 fun p=>⟨rfl,h,h2 ▸ k p⟩
theorem Agh{B:Base}{o:Out}{n:Nat}{L:List Oper}{op:Oper}{fr fr1 fr2 fr3:Fr}{σ σ1:Ad}{K:DB}(k:Nat)(hE:(B.env o).Ok)(hL0:L[k]?=some op) (h1:BQ (B.env o) (J4 [] []) false N L.toArray (L.take k) (fr,σ)=some (fr1,σ1)) (hrd:o.rd=none) (hgd:op.guard=none) {c:Call} {f:Operand} (hop:op.op=.call c) (hc:c.callee=.value f) {idl:Nat} (hf:evL N fr1 f=.yld idl) {M:Nat} {l:Fr} {ps:Array Tmp} {assign body:Code} (hσ:σ1[idl]?=some (.lp false M l ps assign body)) (hps:c.args.size=ps.size) (hid:idl<n) (hca:L2 assign=true) (hcb:L2 body=true) (hle2:leL (Ao N fr1) (Ao N fr2)) (hun:TT n (Ao N fr2)) (hp1:∀p∈ps.toList,p<M) (hp2:∀p∈l,p.1 ∉ ps.toList) (hp3:ps.toList.Nodup) (args:List AV) (hargs:c.args.toList.map (evL N fr1)=args) (h3:∀σ3:Ad,BQ (B.env o) (J4 [] []) false N L.toArray (L.drop (k+1)) (put op.dst (.bool true) fr2,σ3)=some (fr3,σ3)) (h:∀lp:Nat,Run (B.env { F:=o.F,rd:=some lp }) n assign ⟨Ao M (UW ps.toList args l),σ1⟩ (fun ex st1=>ex=.normal∧st1.σ[idl]?=some (.lp false M l ps assign body) ∧Run (B.env { F:=o.F,rd:=some lp }) n body ⟨st1.fr,st1.σ.set idl (.lp true M l ps assign body)⟩ (fun ex st2=>ex=.normal∧st2.σ[idl]?=some (.lp true M l ps assign body) ∧K .normal ⟨Ao N fr3,st2.σ.set idl (.lp false M l ps assign body)⟩))) :Run (B.env o) n (.region id L.toArray false) ⟨Ao N fr,σ⟩ K:=by
 refine MP ?_;have hkl:=(AsT.1 hL0).1
 have hL:L=L.take k++(op::L.drop (k+1)):=by
  conv=>lhs;rw[←At8 k L,AtB hkl]
  rw[(AsT.1 hL0).2]
 have:=Ji (E:=B.env o) (m:=n) (K:=K) (ops:=L.toArray) (rest:=op::L.drop (k+1)) hE Aa (L.take k) fr σ fr1 σ1 h1 (by
  refine Ac5 (fr2:=Ao N fr2) hrd hgd hop hc (by rw[EP];exact hf) hσ hps hid hca hcb hle2 hun hp1 hp2 hp3 (fun lp=>?_);rw[EP,hargs];refine EZ (h lp) ?_;rintro ex st1 ⟨rfl,q1,q2⟩;refine⟨rfl,q1,EZ q2 ?_⟩;rintro ex st2 ⟨rfl,q3,q4⟩;refine⟨rfl,q3,?_⟩;rw[Eu];exact MX hE Aa (L.drop (k+1)) _ _ _ _ (h3 _) q4)
 rw[←hL]at this;exact this
theorem Ng{P:Program}{fn:Func}{tmps:Array Value}{R:Ending→World→Prop}{b:Nat}:∀(ms:List Deferred) (w:World),(∀m∈ms,∃d,m={ target:=.collected d,args:=#[] }∧b≤d∧w.heap[d]?=some (.deferred (some [])))→ms.Pairwise (fun a b=>a.target≠b.target) →(∀w',w'.heap.size=w.heap.size→w'.os=w.os→w'.tape=w.tape→w'.output=w.output→(∀k,(∀m∈ms,m.target≠.collected k)→w'.heap[k]?=w.heap[k]?)→(∀k,k<b→w'.heap[k]?=w.heap[k]?)→∃v,(results fn tmps).run P w'=.ok v w'∧R (.returned v) w') →LeavesInM Fence.wide 0 P fn tmps R ms .returning w
  |[],w,_,_,h=>h w rfl rfl rfl rfl (fun _ _=>rfl) (fun _ _=>rfl)
  | m :: ms,w,hm,hp,h=>by
    obtain⟨d,rfl,hbd,hd⟩:=hm m Ath;rw[List.pairwise_cons]at hp;refine⟨by simp,.inl ⟨d,_,rfl,run_takeDeferred hd,?_⟩⟩;have ho:∀k,k≠d→(w.putObj d (.deferred none)).heap[k]?=w.heap[k]?:=fun k hk=>World.putObj_heap_other hk
    refine Ng (b:=b) ms _ (fun m' hm'=>?_) hp.2 (fun w' z1 z2 z3 z4 z5 z6=>?_)
    · obtain⟨d',rfl,q2,q3⟩:=hm m' (AtO _ hm')
      refine⟨d',rfl,q2,?_⟩;have hne:d'≠d:=fun e=>hp.1 _ hm' (by rw[e])
      rw[ho _ hne];exact q3
    · refine h w' (z1.trans (by simp[World.putObj])) z2 z3 z4 (fun k hk=>?_) (fun k hk=>?_)
      · rw[z5 k (fun m' hm'=>hk m' (AtO _ hm'))]
        exact ho k (fun e=>hk _ Ath (by rw[e]))
      · rw[z6 k hk]
        exact ho k (by omega)
theorem Ad6{B:Base}{f:FuncId}{fn:Func}{c:Code}{args:List AV}{σ:Ad}{R:AV→Ad→Prop}(hB:B.Ok)(hf:B.P.funcs[f]?=some fn)(hb:fn.body=some c)(hn:(fn.name == "runtime.NumGoroutine")=false) (h:∀(F:Addr→Prop) (b:Nat),Run (B.env { F:=F,mks:=true,base:=b }) σ.length c ⟨MU fn.ntmps args,σ⟩ (fun ex st=>(ex=.normal∨ex=.ret)∧∃xs,FH (B.env { F:=F,mks:=true,base:=b }) st.σ st.fr fn.results.toList=some xs∧R (Jf xs) st.σ)):Con B f args σ R:=by
 refine⟨fun F w g vs hm ha=>.inl ⟨⟨fn,c,hf,hb,hn⟩,?_⟩⟩;refine(callsIn_wide (n:=0)).1 (callsIn_of_wp_marks hf hb trivial ?_);have hr0:=Vj (fn:=fn) hm ha
 have hrel:Rel (B.env { F:=F,mks:=true,base:=w.heap.size }) w g ⟨MU fn.ntmps args,σ⟩ { tmps:=vs++Array.replicate (fn.ntmps-vs.size) undef,defers:=[] } :=
  ⟨hr0.size,fun t x hx=>Ajp (o:={ F:=F }) (o':={ F:=F,mks:=true,base:=w.heap.size }) rfl (hr0.slot t x hx),Abp (o:={ F:=F }) (o':={ F:=F,mks:=true,base:=w.heap.size }) rfl hm,.plain rfl (Atb _)⟩
 have hrun:=h F w.heap.size (.inl rfl) _ w g hrel (bodyPostM Fence.wide 0 B.P fn (fun e w'=>∃v r σ' g',e=.returned v∧R r σ'∧Mem (B.env F) w' g' σ'∧Evo (B.env F) σ.length w g w' g'∧Rep w' (AA (B.env F) g') g' v r)) ?_
 ·rw[Jl rfl]at hrun;exact hrun
 rintro ex st a' w' g' ⟨hex,xs,hxs,hR⟩ hr he;obtain⟨h0,ms,h1,h2,hpw,h3⟩:=hr.defers;have hds:a'.defers=ms:=by rw[h1];exact At1 _
 have hE:=hB.env { F:=F,mks:=true,base:=w.heap.size }
 have key:LeavesInM Fence.wide 0 B.P fn a'.tmps (fun e w'=>∃v r σ' g',e=.returned v∧R r σ'∧Mem (B.env F) w' g' σ'∧Evo (B.env F) σ.length w g w' g'∧Rep w' (AA (B.env F) g') g' v r) a'.defers .returning w':=by
  rw[hds];have hmarks:∀m∈ms,∃d,m={ target:=.collected d,args:=#[] }∧w.heap.size≤d∧w'.heap[d]?=some (.deferred (some []))∧¬FY g' d:=h3;refine Ng (b:=w.heap.size) ms w' (fun m hm=>?_) hpw ?_
  ·obtain⟨d,q1,q2,q3,_⟩:=hmarks m hm;exact⟨d,q1,q2,q3⟩
  intro w2 z1 z2 z3 z4 z5 z6
  have hcell:∀a u,w'.cell? a=some u→w2.cell? a=some u:=by
   intro a u hc;rw[←hc];unfold World.cell?;rw[z5 a.block (fun m hm e=>?_)];obtain⟨d,q1,q2,q3,q4⟩:=hmarks m hm;subst q1;simp only[Target.collected.injEq]at e;rw[NR (e ▸ q3) rfl rfl]at hc;cases hc
  have hnm:∀k,FY g' k→w2.heap[k]?=w'.heap[k]?:=by
   intro k hk;refine z5 k (fun m hm e=>?_);obtain⟨d,q1,q2,q3,q4⟩:=hmarks m hm;subst q1;simp only[Target.collected.injEq]at e;exact q4 (e ▸ hk)
  have hm2:Mem (B.env { F:=F,mks:=true,base:=w.heap.size }) w2 g' st.σ:=by
   refine⟨hr.mem.len,fun id bb ab h1 h2=>(hr.mem.blk id bb ab h1 h2).mono (fun a u hc hp=>⟨hcell a u hc,hp⟩) (GLe.refl _) (fun β hβ=>hnm β ⟨id,bb,h1,hβ⟩),hr.mem.inj,C3 hr.mem (AvH z1.symm) (fun _ _ h=>h),Ed hr.mem (AvH z1.symm) (fun a u hc hp=>⟨hcell a u hc,hp⟩) (fun _ _ h=>h),FL hr.mem (fun r es cl hh=>?_),fun i vs hh=>?_⟩
   ·rw[z5 r (fun m hm e=>?_)]
    ·exact hh
    ·obtain⟨d,q1,q2,q3,q4⟩:=hmarks m hm;subst q1;simp only[Target.collected.injEq]at e;rw[e,hh]at q3;cases q3
   ·obtain⟨y1,t,oo,y2⟩:=hr.mem.whole i vs hh;refine⟨y1,t,oo,?_⟩;rw[z5 i (fun m hm e=>?_)]
    ·exact y2
    ·obtain⟨d,q1,q2,q3,q4⟩:=hmarks m hm;subst q1;simp only[Target.collected.injEq]at e;rw[e,y2]at q3;cases q3
  have hr2:Rel (B.env { F:=F,mks:=true,base:=w.heap.size }) w2 g' st { a' with defers:=[] }:=⟨hr.size,fun t x hx=>(hr.slot t x hx).mono (fun a u hc hp=>⟨hcell a u hc,hp⟩) (GLe.refl _),hm2,.plain rfl (by rw[z1];exact h0)⟩;obtain⟨us2,hus2,hrep2⟩:=GW hE hr2 fn.results.toList xs hxs
  have hev:Evo (B.env { F:=F,mks:=true,base:=w.heap.size }) σ.length w g w2 g' :=
   ⟨z2.trans he.os,z3.trans he.tape,z4.trans he.output,by rw[z1];exact he.size,fun a u hc hp=>let⟨x1,x2⟩:=he.cells a u hc hp;⟨hcell a u x1,x2⟩,fun β hβ hn=>let⟨x1,x2⟩:=he.blocks β hβ hn;⟨(z6 β hβ).trans x1,x2⟩,he.ids⟩
  have hres:(results fn a'.tmps).run B.P w2=.ok (if h:us2.toArray.size=1 then us2.toArray[0]else .tuple us2.toArray) w2:=by
   have e:results fn a'.tmps=(do let vs ←fn.results.mapM (PM a'.tmps);pure (if h:vs.size=1 then vs[0]else .tuple vs)):=rfl;have hus':(fn.results.toList.mapM (PM a'.tmps)).run B.P w2=.ok us2 w2:=hus2;rw[e,Sem.run_bind,Avc,Sem.run_map,hus'];rfl
  exact⟨_,hres,_,_,st.σ,g',rfl,hR,Abp (o:={ F:=F,mks:=true,base:=w.heap.size }) (o':={ F:=F }) rfl hm2,Aff (o:={ F:=F,mks:=true,base:=w.heap.size }) (o':={ F:=F }) rfl hev,Ajp (o:={ F:=F,mks:=true,base:=w.heap.size }) (o':={ F:=F }) rfl (Li hrep2)⟩
 rcases hex with rfl|rfl
 ·exact key
 ·exact key
theorem Xb{B:Base}{f:FuncId}{fn:Func}{c:Code}{args:List AV}{r0:AV}{rs:List ResultVar}(hB:B.Ok)(hf:B.P.funcs[f]?=some fn)(hb:fn.body=some c)(hn:(fn.name == "runtime.NumGoroutine")=false) (hN:fn.ntmps=N) (hrs:fn.results.toList=rs) (hlen:args.length≤N) (h:∀(F:Addr→Prop) (b:Nat),Run (B.env { F:=F,mks:=true,base:=b }) 0 c ⟨Ao N (QW 0 args),[]⟩ (AkD (B.env { F:=F,mks:=true,base:=b }) rs r0)):Con B f args [] (fun r' σ'=>r'=r0∧σ'=[]):=by
 refine Sd (R:=fun r σ'=>fzR σ' r=some r0) ?_ (fun r σ' h=>h);refine Ad6 hB hf hb hn (fun F b=>?_);subst hN hrs;rw[Iq fn.ntmps args hlen (QW 0 args) (fun t _=>I2 args 0 t (Atp _))];refine EZ (h F b) ?_;rintro ex st ⟨h1,xs,h2,h3⟩;exact⟨h1,xs,h2,h3⟩
section
variable {P:Prop}{B:Base}{f:FuncId}{fn:Func}{c:Code}{args:List AV}{r0:AV}{l:Fr}
theorem Cm(N:Nat)(rs:List ResultVar)(hf:B.P.funcs[f]?=some fn)(h:∀(F:Addr→Prop) (b:Nat),(B.env { F:=F,mks:=true,base:=b }).Ok→P→Run (B.env { F:=F,mks:=true,base:=b }) 0 c ⟨Ao N l,[]⟩ (wkP (B.env { F:=F,mks:=true,base:=b }) 0 (AkD (B.env { F:=F,mks:=true,base:=b }) rs r0)))(p:P)(hl:QW 0 args=l:=by first|(simp only[QW,Nat.reduceAdd];exact rfl)|(simp only[QW,Nat.reduceAdd];done))(hB:B.Ok:=by exact ok)(hb:fn.body=some c:=by exact rfl)(hn:(fn.name == "runtime.NumGoroutine")=false:=by decide +kernel) (hN:fn.ntmps=N:=by exact rfl) (hrs:fn.results.toList=rs:=by exact rfl) (hlen:args.length≤N:=by exact AtM rfl):Con B f args [] (fun r' σ'=>r'=r0∧σ'=[]):=Xb hB hf hb hn hN hrs hlen fun F b=>by rw[hl];exact Gn (h F b (hB.env { F:=F,mks:=true,base:=b }) p)
theorem Yf{M:Nat}{S σ:Ad}{fr:List AV}(h:P→σ=S:=by intro h;obtain rfl:=AtA h;rfl):P→AqS M S .normal ⟨fr,σ⟩:=fun p=>⟨rfl,h p⟩
end
def Api(N:Nat)(fr:Fr):Fr→Prop
 |[]=>True
 |p::l=>(p.1<N∧look fr p.1=p.2)∧Api N fr l
theorem YO{N:Nat}{fr:Fr}:∀{l:Fr},Api N fr l→∀p∈l,p.1<N∧look fr p.1=p.2
  |[],_,p,h=>by simp at h
  | q::l,h,p,hp=>by
    rcases Atu.1 hp with rfl|hp
    · exact h.1
    · exact YO h.2 p hp
section
variable {α:Type}{c:α→AV}{l:List ((Int×Int)×α)}{σ:Ad}
theorem Abk{k:AV}{ok:Bool}:FU E σ t (.mref id) k ok=(match σ[id]? with
    |some (.mp es)=>OJ E t es k ok
    | ab=>match ok,k,Xw E t,ab with
      | false,.bool b,some .bool,some (.obj (.map es _))=>match M4 .bool true es,M4 .bool false es with
        |some s1,some s0=>some (.str (if b then s1 else s0))
        |_,_=>none
      |_,_,_,_=>none):=rfl
theorem Adx{a b:Int}{x:AV}(hl:E.lm=true)(hm:Ahk E t=true):VI E σ t (.mref id) (.agg [i64 a,i64 b]) x=(if U4 a b then(match σ[id]? with
 |some (.mp es)=>if x.closed=true then some (σ.set id (.mp (NL es (a,b) x)))else none
 |_=>none)else none):=by
 have hk:AkB (.agg [i64 a,i64 b])=if U4 a b then some (a,b)else none:=rfl
 unfold VI;rw[hl,hm,hk];by_cases h:U4 a b
 ·rw[AsU h,AsU h];rfl
 ·rw[AsX h,AsX h]
theorem XV{cs:List AV}:(AV.agg cs).closed=cs.all AV.closed:=by
 simp[AV.closed]
theorem Adq{a b:Int}{d:TD}{z:α}(hm:E.mp=some (t,kt,et))(hd:E.tab et=some d)(hs:2≤d.size)(hz:AV.agg (d.zero.map dn)=c z) :OJ E t (M2 c l) (.agg [i64 a,i64 b]) true=if U4 a b then some (.tup [c ((GO l (a,b)).getD z),.bool (GO l (a,b)).isSome])else none:=by
 have hk:AkB (.agg [i64 a,i64 b])=if U4 a b then some (a,b)else none:=rfl
 unfold OJ;rw[hm,hk];by_cases h:U4 a b
 case neg=>rw[AsX h,AsX h]
 rw[AsU h,AsU h];simp only[hd,hs,AuA,AgS,hz];cases GO l (a,b)<;>rfl
theorem Am3:M2 c []=[]:=rfl
end
attribute [go_sem] Abk Adx XV Am3
theorem Ajo{P:Program}{m:Nat}(f1 f2:Field)(hU:P.underlying kt=some (.struct #[f1,f2]))(hK:P.keyType kt=true)(hc:P.cellsOf kt=2)(h3:P.underlying f1.type=some (.int .i64))(h4:P.underlying f2.type=some (.int .i64))(c1:P.cellsOf f1.type=1)(c2:P.cellsOf f2.type=1) (o1:f1.offset=0) (o2:f2.offset=1) (n1:(f1.name != "_")=true) (n2:(f2.name != "_")=true) (hs:P.types.size=m+1) {a b:Int} (h:U4 a b):(keyOf P kt (Pb (a,b))).isSome=true:=by
 obtain⟨⟨a1,a2⟩,b1,b2⟩:=h;have w1:(Lit.int .i64 a).wf=true:=by simp[Lit.wf,a1];exact a2
 have w2:(Lit.int .i64 b).wf=true:=by simp[Lit.wf,b1];exact b2
 unfold keyOf;simp only[hU,hK,Pb,Value.formed,hc,hs,Program.keyLits,Value.cells,AuU];simp[h3,h4,c1,c2,o1,o2,n1,n2,w1,w2]
theorem Aes{P:Program}{m:Nat}(h1:P.underlying t=some (.map kt et))(hm:m+1≤10000)(hk:P.keyTypeAt m kt=true)(ht:P.tiled m kt=true)(hw:(match P.underlying kt with|some (.array _ _)|some (.struct _)=>true|_=>false)=true)(h2:∀a b:Int,U4 a b→(keyOf P kt (Pb (a,b))).isSome=true):MpLaw P t kt et :=
 ⟨h1,deep_law hm hk ht hw,fun k h=>AvR.1 (h2 k.1 k.2 h)⟩
theorem AiQ{P:Program}(h:MpLaw P t kt et):∀t' kt' et',some (t,kt,et)=some (t',kt',et')→MpLaw P t' kt' et':=by
 intro t' kt' et' e;cases e;exact h
end Go.Rv
