/-
  Part 38.
-/
import Derived.Test.YtioapcamanmoiaaGreatDoorYA37
namespace Go.Rv
variable{o':Out}{sel:List Nat}
section
variable {E:Env}{w w':World}{g:Gh}{σ:Ad}
theorem Wu(hm:Mem E w g σ){id β:Nat}{b:GB}{o:Obj}{ab ab':ABlk}(hb:g[id]?=some b)(hσ:σ[id]?=some ab)(hβ:b.blk=some β)(k4:w.heap[β]?=some o)(k2:MZ o=true)(hmap:∀es cl,o≠.map es cl) (h2:∀k,k≠β→w'.heap[k]?=w.heap[k]?) (hsz:w'.heap.size=w.heap.size) (hos:w'.os=w.os) (ht:w'.tape=w.tape) (hout:w'.output=w.output) (hab:(∀a u,w.cell? a=some u→AA E g a→w'.cell? a=some u∧AA E g a)→BlkOk E w' g b ab') :Mem E w' g (σ.set id ab')∧Evo E 0 w g w' g:=by
 have hcells:∀a u,w.cell? a=some u→AA E g a→w'.cell? a=some u∧AA E g a:=by
  intro a u hc hp;refine⟨?_,hp⟩;by_cases e:a.block=β
  ·rw[NR k4 k2 e]at hc;cases hc
  ·rw[←hc];unfold World.cell?;rw[h2 _ e]
 have hmine:FY g β:=⟨id,b,hb,hβ⟩;have hne:∀k,¬FY g k→k≠β:=fun k hk e=>hk (e ▸ hmine)
 refine⟨⟨by simp[hm.len],?_,hm.inj,C3 hm (by omega) (fun _ _ h=>h),Ed hm (by omega) hcells (fun _ _ h=>h),?_,D8 hm (fun k _ hk=>⟨h2 k (hne k hk),hk⟩)⟩,
  ⟨hos,ht,hout,by omega,hcells,fun k _ hk=>⟨h2 k (hne k hk),hk⟩,fun _ h=>absurd h (Atw _)⟩⟩
 ·intro id' c ab2 e1 e2;by_cases e:id'=id
  ·subst e;rw[hb]at e1;cases e1;rw[AU hσ]at e2;cases e2;exact hab hcells
  ·rw[Dy e]at e2;refine(hm.blk id' c ab2 e1 e2).mono hcells (GLe.refl _) (fun β2 hβ2=>h2 β2 fun e3=>e (hm.inj id' id c b β e1 hb (e3 ▸ hβ2) hβ))
 ·refine FL hm (fun r es cl hr=>?_);by_cases e:r=β
  ·subst e;rw[k4]at hr;cases hr;exact(hmap es cl rfl).elim
  ·rw[h2 r e];exact hr
theorem Akn(hm:Mem E w g σ){o:Obj}(hw:OneMore w w' o):Mem E w' g σ∧Evo E 0 w g w' g:=by
 have ha:=Hm hm hw ⟨none,0,0,0,0,false,false⟩ (.buf 0 [] false) (.inr rfl) (fun _ _=>⟨rfl,rfl,rfl,rfl,by simp,fun _=>⟨.inl rfl,rfl⟩,fun β h=>by cases h⟩);have e1:(σ++[ABlk.buf 0 [] false]).take g.length=σ:=by rw[hm.len];simp
 have e2:(g++[(⟨none,0,0,0,0,false,false⟩:GB)]).take g.length=g:=by simp
 have ht:=SD ha.1 g.length (by rw[e1,hm.len];exact PJ hm);rw[e1,e2]at ht;refine⟨ht,ha.2.2.os,ha.2.2.tape,ha.2.2.output,ha.2.2.size,fun a u hc hp=>?_,fun β hβ hn=>?_,fun _ h=>absurd h (Atw _)⟩
 ·obtain⟨q1,q2⟩:=ha.2.2.cells a u hc hp;have:=IA (m:=g.length) q2;rw[e2]at this;exact⟨q1,this⟩
 ·obtain⟨q1,q2⟩:=ha.2.2.blocks β hβ hn;refine⟨q1,fun hh=>q2 ?_⟩;obtain⟨i,b,h1,h2⟩:=hh;exact⟨i,b,by rw[As3 (AsT.1 h1).1];exact h1,h2⟩
end
variable {B:Base}{o:Out}{w w':World}{g g':Gh}{σ:Ad}
theorem Abp(hF:o.F=o'.F)(h:Mem (B.env o) w g σ):Mem (B.env o') w g σ:=by
 obtain⟨F,D,rd,mks,base⟩:=o;obtain⟨F',D',rd',mks',base'⟩:=o';simp only at hF;subst hF;exact⟨h.len,h.blk,h.inj,h.foreign,h.glob,h.maps,h.whole⟩
theorem Aff(hF:o.F=o'.F){n:Nat}(h:Evo (B.env o) n w g w' g'):Evo (B.env o') n w g w' g':=by
 obtain⟨F,D,rd,mks,base⟩:=o;obtain⟨F',D',rd',mks',base'⟩:=o';simp only at hF;subst hF;exact⟨h.os,h.tape,h.output,h.size,h.cells,h.blocks,h.ids⟩
theorem Ajp(hF:o.F=o'.F){v:Value}{x:AV}(h:Rep w (AA (B.env o) g) g v x):Rep w (AA (B.env o') g) g v x:=by
 obtain⟨F,D,rd,mks,base⟩:=o;obtain⟨F',D',rd',mks',base'⟩:=o';simp only at hF;subst hF;exact h
theorem Afa{E:Env}{n:Nat}(h:Evo E n w g w' g'):Evo E 0 w g w' g':=⟨h.os,h.tape,h.output,h.size,h.cells,h.blocks,fun _ h=>absurd h (Atw _)⟩
theorem Ajn{E:Env}{n:Nat}(h:Evo E n w g w' g')(hn:g.length≤n):GLe g g':=fun id b hb=>h.ids id (by have:=(AsT.1 hb).1;omega) b hb
theorem SA{b b':GB}(h:b.step b')(hx:b.isBox=true):b'.blk=b.blk∧b'.isBox=true:=by
 rcases h with h|⟨h1,_,_⟩
 ·exact⟨h.1,h.2.2.2.2.2.trans hx⟩
 ·rw[hx]at h1;cases h1
def UW:List Nat→List AV→Fr→Fr
 |p::ps,x::xs,l=>UW ps xs ((p,x)::l)
 |_,_,l=>l
theorem Z8{pr:Addr→Prop}:∀(ps:List Nat) (vs:List Value) (xs:List AV) (T:Array Value) (l:Fr),C8 w pr g vs xs→(∀p∈ps,p<T.size)→(∀p∈l,p.1 ∉ ps)→ps.Nodup→(∀p∈l,Rep w pr g (T.getD p.1 undef) p.2) →((ps.zip vs).foldl (fun T (t,a)=>T.setIfInBounds t a) T).size=T.size∧∀p∈UW ps xs l,Rep w pr g (((ps.zip vs).foldl (fun T (t,a)=>T.setIfInBounds t a) T).getD p.1 undef) p.2
  |[],vs,xs,T,l,_,_,_,_,h=>by cases xs<;>exact⟨by simp,by simpa [UW]using h⟩
  |p::ps,[],[],T,l,_,_,_,_,h=>⟨by simp,by simpa [UW]using h⟩
  |p::ps,[],_::_,T,l,hv,_,_,_,h=>hv.elim
  |p::ps,_::_,[],T,l,hv,_,_,_,h=>hv.elim
  | p :: ps,v::vs,x::xs,T,l,hv,hp,hl,hn,h=>by
    rw[Au6]at hn
    have ih:=Z8 ps vs xs (T.setIfInBounds p v) ((p,x)::l) hv.2 (fun q hq=>by simpa using hp q (AtO _ hq)) (fun q hq=>by
      rcases Atu.1 hq with rfl|hq
      · exact hn.1
      · exact fun hh=>hl q hq (AtO _ hh)) hn.2 (fun q hq=>by
      have hps:p<T.size:=hp p Ath;rcases Atu.1 hq with rfl|hq
      · simp only
        have h0:(T.setIfInBounds p v)[p]?=some v:=by rw[AtZ,AsU rfl,AsU hps]
        rw[A7 h0];exact hv.1
      · have hne:q.1≠p:=fun e=>hl q hq (by rw[e];exact Ath)
        have:(T.setIfInBounds p v).getD q.1 undef=T.getD q.1 undef:=by
          rw[AtK,AtK,AtZ,AsX (fun e=>hne (Eq.symm e))]
        rw[this];exact h q hq)
    refine⟨?_,?_⟩
    · simpa using ih.1
    · simpa [UW]using ih.2
theorem PP{w w':World}{pr pr':Addr→Prop}{g g':Gh}(hw:∀a u,w.cell? a=some u→pr a→w'.cell? a=some u∧pr' a)(hg:GLe g g'):∀{vs:List Value} {xs:List AV},C8 w pr g vs xs→C8 w' pr' g' vs xs
 |[],[],_=>trivial
 |[],_::_,h=>h.elim
 |_::_,[],h=>h.elim
 |_::_,_::_,h=>⟨h.1.mono hw hg,PP hw hg h.2⟩
theorem Ad1(hB:B.Ok){n:Nat}{gop:Operand}{ps:Array Tmp}{assign body:Code}{N:Nat}{fr:Fr}{K:DB}{fid:FuncId}{caps:List AV}{fn:Func}{c:Code} (hmk:o.mks=true) (hg:ev (Ao N fr) gop=.fn fid caps) (hcap:∀ys,caps≠[.tup ys]) (hfn:B.P.funcs[fid]?=some fn) (hb:fn.body=some c) (hname:(fn.name == "runtime.NumGoroutine")=false) (hres:fn.results=#[]) (l:Fr) (hl:∀p∈l,p.1<N∧look fr p.1=p.2) (h:Run (B.env { F:=o.F }) (σ.length+1) c ⟨MU fn.ntmps (.yld σ.length::caps),σ++[.lp false N l ps assign body]⟩ (fun ex st=>(ex=.normal∨ex=.ret)∧st.σ[σ.length]?=some (.lp false N l ps assign body)∧K .normal ⟨Ao N fr,st.σ.set σ.length .gone⟩)) :Run (B.env o) n (.rangeFunc gop ps assign body) ⟨Ao N fr,σ⟩ K:=by
 intro hcm a w g hr Q hq;have hrd:(B.env o).rd=none:=Lg hcm;have hro:o.rd=none:=hrd;have hgv:=GD hr gop;rw[hg]at hgv;obtain⟨capv,hcv,hcr⟩:=Gz hgv hcap;rw[Jl hrd];refine wpIn_rangeFunc fun f0 _=>?_
 have hm:=hr.mem;have o1:=Cg w (.deferred (some []));obtain⟨m1,e1⟩:=Akn hm o1;generalize hw1:w.alloc (.deferred (some []))=w1 at o1 m1 e1;have hs1:w1.heap.size=w.heap.size+1:=o1.size;have o2:=Cg w1 (.loop { state:=.ready,pending:=none,fn:=f0,tmps:=a.tmps,params:=ps,assign:=assign,body:=body,defers:=w.heap.size })
 have hslot:∀p∈l,Rep w (AA (B.env o) g) g (a.tmps.getD p.1 undef) p.2:=by
  intro p hp;obtain⟨q1,q2⟩:=hl p hp;have:=hr.slot p.1 (look fr p.1) (by rw[DD,AsU q1]);rwa[q2]at this
 have hsz:a.tmps.size=N:=by have:=hr.size;simpa [Ao]using this
 have ha:=Hm m1 o2 { blk:=some w1.heap.size,o:=0,k:=0,len:=1,ce:=1,isBox:=true,ro:=false } (.lp false N l ps assign body) (.inl rfl)
  (fun hcells hle=>⟨rfl,w1.heap.size,f0,a.tmps,w.heap.size,rfl,o2.new,hsz,fun p hp=>((hslot p hp).mono e1.cells (GLe.refl _)).mono hcells hle⟩)
 obtain⟨m2,le2,e2⟩:=ha;generalize hw2:w1.alloc (.loop { state:=.ready,pending:=none,fn:=f0,tmps:=a.tmps,params:=ps,assign:=assign,body:=body,defers:=w.heap.size })=w2 at o2 m2 e2;generalize hg2:g++[({ blk:=some w1.heap.size,o:=0,k:=0,len:=1,ce:=1,isBox:=true,ro:=false }:GB)]=g2 at m2 le2 e2;have hlen:g.length=σ.length:=hm.len
 have hb2:g2[σ.length]?=some { blk:=some w1.heap.size,o:=0,k:=0,len:=1,ce:=1,isBox:=true,ro:=false }:=by
  rw[←hg2,As0 (by omega),hlen];simp
 have e12:Evo (B.env o) 0 w g w2 g2:=e1.trans e2;have hd2:w2.heap[w.heap.size]?=some (.deferred (some [])):=(o2.old (by omega)).trans o1.new
 have hdn:¬FY g2 w.heap.size:=by
  rw[←hg2];intro hh;rcases Lw hh with⟨i,b,h1,h2⟩|h2
  ·exact absurd (DM hm h1 h2) (Nat.lt_irrefl _)
  ·simp only[AsW]at h2;omega
 refine⟨w.heap.size+1,[{ target:=.collected w.heap.size,args:=#[] }],w2,{ target:=.fn (.func fid) capv,args:=#[.func (.yield (w.heap.size+1)) #[] #[]] },w2,fid,#[.func (.yield (w.heap.size+1)) #[] #[]]++capv,w2,?_,?_,fun _ _=>trivial,?_,fun e=>absurd (show false=true from e) (by decide),?_⟩
 ·rw[←hw2,←hw1];exact run_enterLoop_outer _ _ _ _ _
 ·simp only[resolve,rangeCall,hcv,Deferred.ofValue,Sem.run_bind,Sem.run_pure,Result.andThen_ok,Option.map_none];simp[Act.eval]
 ·exact LJ hfn hb hname _ _
 ·refine callsIn_of_wp hfn hb trivial ?_ rfl
  have hrel:Rel (B.env { F:=o.F }) w2 g2 ⟨MU fn.ntmps (.yld σ.length::caps),σ++[.lp false N l ps assign body]⟩ { tmps:=(#[.func (.yield (w.heap.size+1)) #[] #[]]++capv)++Array.replicate (fn.ntmps-(#[Value.func (.yield (w.heap.size+1)) #[] #[]]++capv).size) undef,defers:=[] }:=by
   refine Vj (F:=o.F) (Abp (o:=o) (o':={ F:=o.F }) rfl m2) ?_;rw[Avz];refine⟨?_,PP (fun a u hc hp=>e12.cells a u hc hp) le2 hcr⟩;have:=Rep.yld (w:=w2) (pr:=AA (B.env o) g2) g2 σ.length w1.heap.size _ hb2 rfl rfl;rw[hs1]at this;exact this
  have hrun:=h (.inl rfl) _ w2 g2 hrel (bodyPost B.P fn (rangePost Fence.wide 0 B.P (w.heap.size+1) Q { a with defers:=[{ target:=.collected w.heap.size,args:=#[] }]++a.defers })) ?_
  ·rw[Jl rfl]at hrun;exact hrun
  ·rintro ex st a' w' g' ⟨hex,hlp,hK⟩ hr' he';have hle':GLe g2 g':=Ajn he' (by rw[m2.len];simp);obtain⟨b',hb',hstep⟩:=hle' _ _ hb2;obtain⟨hblk,hbx⟩:=SA hstep rfl;obtain⟨k1,β,f1,T,D1,k2,k3,k4,k5⟩:=hr'.mem.blk _ b' _ hb' hlp;rw[hblk]at k2;simp only[AsW]at k2;have hβ:β=w.heap.size+1:=by omega
   subst hβ;have hend:=run_endLoop (P:=B.P) k3 (by simp);have hlt:w.heap.size+1<w'.heap.size:=(As7.1 k3).1
   obtain⟨m4,e4⟩:=Wu (w':=w'.putObj (w.heap.size+1) (.loop { state:=.exhausted,pending:=none,fn:=f1,tmps:=T,params:=ps,assign:=assign,body:=body,defers:=D1 })) (ab':=.gone) hr'.mem hb' hlp (by rw[hblk,hs1]) k3 rfl (by intro es cl e;cases e)
    (fun k hk=>World.putObj_heap_other hk) (by simp[World.putObj]) rfl rfl rfl
    (fun _=>⟨hbx,w.heap.size+1,_,by rw[hblk,hs1],World.putObj_heap_same hlt,rfl⟩)
   have m5:Mem (B.env o) _ g' (st.σ.set σ.length .gone):=Abp (o:={ F:=o.F }) rfl m4;have e5:Evo (B.env o) 0 w g _ g':=(e12.trans (Aff (o:={ F:=o.F }) (o':=o) rfl (Afa he'))).trans (Aff (o:={ F:=o.F }) (o':=o) rfl e4);have hle:GLe g g':=le2.trans hle'
   have hd':w'.heap[w.heap.size]?=some (.deferred (some []))∧¬FY g' w.heap.size:=by
    obtain⟨q1,q2⟩:=he'.blocks w.heap.size (As7.1 hd2).1 hdn;exact⟨q1.trans hd2,q2⟩
   have hfin:rangePost Fence.wide 0 B.P (w.heap.size+1) Q { a with defers:=[{ target:=.collected w.heap.size,args:=#[] }]++a.defers } (.returned (.tuple #[])) w':=by
    refine⟨none,_,hend,?_⟩;refine hq .normal ⟨Ao N fr,st.σ.set σ.length .gone⟩ _ _ g' hK ⟨hr.size,fun t x hx=>(hr.slot t x hx).mono e5.cells hle,m5,?_⟩ (e5.of_gle hle);obtain⟨h0,ms,h1,h2,hn,h3⟩:=hr.defers;refine⟨AuL h0 e5.size,{ target:=.collected w.heap.size,args:=#[] }::ms,by simp[h1],(fun e=>absurd (hmk.symm.trans e) (by decide)),List.pairwise_cons.2 ⟨fun m hm' e=>?_,hn⟩,?_⟩
    ·obtain⟨d,q1,q2,q3,q4⟩:=h3 m hm';subst q1;simp only[Target.collected.injEq]at e;subst e;have:=(As7.1 q3).1;omega
    intro m hmem;rcases Atu.1 hmem with rfl|hmem
    ·exact⟨w.heap.size,rfl,h0,(World.putObj_heap_other (by omega)).trans hd'.1,hd'.2⟩
    ·obtain⟨d,q1,q2,q3,q4⟩:=h3 m hmem;obtain⟨r1,r2⟩:=e5.blocks d (As7.1 q3).1 q4;exact⟨d,q1,q2,r1.trans q3,r2⟩
   rcases hex with rfl|rfl
   ·exact bodyPost_end (results_none hres _ _ _) (hr'.defers.eq rfl) hfin
   ·exact bodyPost_ret (results_none hres _ _ _) (hr'.defers.eq rfl) hfin
theorem Ac5{n:Nat}{ops:Array Oper}{op:Oper}{rest:List Oper}{fr:List AV}{K:DB}(hrd:o.rd=none)(hgd:op.guard=none){c:Call}{f:Operand}(hop:op.op=.call c)(hc:c.callee=.value f){id:Nat}(hf:ev fr f=.yld id) {N:Nat} {l:Fr} {ps:Array Tmp} {assign body:Code} (hσ:σ[id]?=some (.lp false N l ps assign body)) (hps:c.args.size=ps.size) (hid:id<n) (hca:L2 assign=true) (hcb:L2 body=true) (fr2:List AV) (hle2:leL fr fr2) (hun:TT n fr2) (hp1:∀p∈ps.toList,p<N) (hp2:∀p∈l,p.1 ∉ ps.toList) (hp3:ps.toList.Nodup) (h:∀lp:Nat,Run (B.env { F:=o.F,rd:=some lp }) n assign ⟨Ao N (UW ps.toList (c.args.toList.map (ev fr)) l),σ⟩ (fun ex st1=>ex=.normal∧st1.σ[id]?=some (.lp false N l ps assign body) ∧Run (B.env { F:=o.F,rd:=some lp }) n body ⟨st1.fr,st1.σ.set id (.lp true N l ps assign body)⟩ (fun ex st2=>ex=.normal∧st2.σ[id]?=some (.lp true N l ps assign body) ∧Qv (B.env o) n ops rest ⟨AY fr2 op.dst (.bool true),st2.σ.set id (.lp false N l ps assign body)⟩ K))) :Qv (B.env o) n ops (op::rest) ⟨fr,σ⟩ K:=by
  intro hcm a w g hr Q hq;obtain⟨cm1,cm2⟩:=VC hcm;simp only[wpListIn,Region.wanted,hgd,AuA];have hE:(B.env o).fen=Fence.wide:=Jl hrd;rw[hE];have hfv:=GD hr f;rw[hf]at hfv;generalize hvv:a.eval f=fv at hfv;cases hfv with
  |yld _ _ β b hb hbx hβ=>
  obtain⟨k1,β',f1,T,D1,k2,k3,k4,k5⟩:=hr.mem.blk id b _ hb hσ;rw[hβ]at k2;cases k2;refine⟨fun _ _=>trivial,?_⟩
  have hex:(op.semAt Fence.wide.round a.eval).run B.P w=.ok (.round β f1 ((ps.zip (c.args.map a.eval)).foldl (fun tmps (t,a)=>tmps.setIfInBounds t a) T) assign body) w:=by
    have hy:=run_yield (P:=B.P) (args:=c.args.map a.eval) k3 (by simpa using hps);show(execOp a.eval op).run B.P w=_;simp only[execOp,hop,resolve,hc,hvv,Deferred.ofValue,Sem.run_bind,Sem.run_pure,Result.andThen_ok,invoke,Array.empty_append,Au1];exact hy
  have hPP:(B.env o).P=B.P:=rfl;rw[hPP,hex,Oper.uponIn_round];refine⟨fun e=>absurd (show false=true from e) (by decide),?_⟩;refine roundIn_of_wpIn trivial ?_;have hlt:β<w.heap.size:=(As7.1 k3).1;have hargs:C8 w (AA (B.env o) g) g (c.args.toList.map a.eval) (c.args.toList.map (ev fr)):=Fx _ _ (GD hr) _;have hput:=Z8 ps.toList _ _ T l hargs (fun p hp=>by rw[k4];exact hp1 p hp) hp2 hp3 k5
  have hzip:(ps.zip (c.args.map a.eval)).foldl (fun tmps (t,a)=>tmps.setIfInBounds t a) T=(ps.toList.zip (c.args.toList.map a.eval)).foldl (fun T (t,a)=>T.setIfInBounds t a) T:=by
    rw[←AvD,Array.toList_zip,Aug]
  rw[hzip];generalize(ps.toList.zip (c.args.toList.map a.eval)).foldl (fun T (t,a)=>T.setIfInBounds t a) T=T2 at hput
  have hrel:Rel (B.env { F:=o.F,rd:=some β }) w g ⟨Ao N (UW ps.toList (c.args.toList.map (ev fr)) l),σ⟩ { tmps:=T2,defers:=[] } :=
    ⟨by rw[hput.1,k4];simp[Ao],fun t x hx=>Ajp (o:=o) (o':={ F:=o.F,rd:=some β }) rfl (Aem hput.2 t x hx),Abp (o:=o) (o':={ F:=o.F,rd:=some β }) rfl hr.mem,.plain rfl⟩
  refine h β (.inr hca) _ w g hrel _ ?_;rintro ex st1 a1 w1 g1 ⟨rfl,hl1,hbody⟩ hr1 he1;have hg1:∃b1,g1[id]?=some b1∧b.step b1:=he1.ids id hid b hb;obtain⟨b1,hb1,hst1⟩:=hg1;obtain⟨hblk1,hbx1⟩:=SA hst1 hbx;obtain⟨j1,β1,f2,T3,D2,j2,j3,j4,j5⟩:=hr1.mem.blk id b1 _ hb1 hl1;rw[hblk1,hβ]at j2;cases j2;have hlt1:β<w1.heap.size:=(As7.1 j3).1;refine⟨_,run_beginRound j3 rfl,?_⟩
  obtain⟨m2,e2⟩:=Wu (w':=w1.putObj β (.loop { state:=.busy,pending:=none,fn:=f2,tmps:=T3,params:=ps,assign:=assign,body:=body,defers:=D2 })) (ab':=.lp true N l ps assign body) hr1.mem hb1 hl1 (by rw[hblk1,hβ]) j3 rfl (by intro es cl e;cases e)
    (fun k hk=>World.putObj_heap_other hk) (by simp[World.putObj]) rfl rfl rfl
    (fun hcells=>⟨hbx1,β,f2,T3,D2,by rw[hblk1,hβ],World.putObj_heap_same hlt1,j4,fun p hp=>(j5 p hp).mono hcells (GLe.refl _)⟩)
  refine hbody (.inr hcb) a1 _ g1 ⟨hr1.size,fun t x hx=>(hr1.slot t x hx).mono e2.cells (GLe.refl _),m2,hr1.defers.evo e2⟩ _ ?_;rintro ex st2 a2 w2 g2 ⟨rfl,hl2,hrest⟩ hr2 he2;obtain⟨b2,hb2,hst2⟩:=he2.ids id hid b1 hb1;obtain⟨hblk2,hbx2⟩:=SA hst2 hbx1;obtain⟨i1,β2,f3,T4,D3,i2,i3,i4,i5⟩:=hr2.mem.blk id b2 _ hb2 hl2;rw[hblk2,hblk1,hβ]at i2;cases i2;have hlt2:β<w2.heap.size:=(As7.1 i3).1;refine⟨_,_,run_endRound none i3,?_⟩
  obtain⟨m3,e3⟩:=Wu (w':=w2.putObj β (.loop { state:=.ready,pending:=none,fn:=f3,tmps:=T4,params:=ps,assign:=assign,body:=body,defers:=D3 })) (ab':=.lp false N l ps assign body) hr2.mem hb2 hl2 (by rw[hblk2,hblk1,hβ]) i3 rfl (by intro es cl e;cases e)
    (fun k hk=>World.putObj_heap_other hk) (by simp[World.putObj]) rfl rfl rfl
    (fun hcells=>⟨hbx2,β,f3,T4,D3,by rw[hblk2,hblk1,hβ],World.putObj_heap_same hlt2,i4,fun p hp=>(i5 p hp).mono hcells (GLe.refl _)⟩)
  have hev:Evo (B.env { F:=o.F,rd:=some β }) n w g _ g2:=((he1.trans (e2.of_gle (GLe.refl _))).trans he2).trans (e3.of_gle (GLe.refl _));have hev':Evo (B.env o) n w g _ g2:=Aff (o:={ F:=o.F,rd:=some β }) (o':=o) rfl hev;have hm3:Mem (B.env o) _ g2 (st2.σ.set id (.lp false N l ps assign body)):=Abp (o:={ F:=o.F,rd:=some β }) (o':=o) rfl m3
  have hgle:GLe (g.take n) g2:=fun i c hc=>by
    obtain⟨q1,q2⟩:=GR hc;exact hev'.ids i q2 c q1
  have hr2':=Aoz hr (Vm hle2)
  have hrf:Rel (B.env o) (w2.putObj β (.loop { state:=.ready,pending:=none,fn:=f3,tmps:=T4,params:=ps,assign:=assign,body:=body,defers:=D3 })) g2 ⟨fr2,st2.σ.set id (.lp false N l ps assign body)⟩ a :=
    ⟨hr2'.size,fun t x hx=>(SB (hr2'.slot t x hx) (hun x (As2 hx))).mono (fun a u hc hp=>hev'.cells a u hc hp) hgle,hm3,hr.defers.evo hev'⟩
  rw[←hE];exact hrest cm2 (a.put op.dst (.bool true)) _ g2 (Gq hrf op.dst (.bool _ _)) Q (fun ex st' a' w' g' k r e=>hq ex st' a' w' g' k r (hev'.trans e))
section
variable {α:Type}{c:α→AV}{N n:Nat}{a b:Arr α N}{r r':List AV}{σ:Ad}
theorem AjA(h:N≤n):List.drop n (C1 c a.l++r)=List.drop (n-N) r:=by
 rw[List.drop_append,Em,List.drop_of_length_le (by rw[Em];exact h)];rfl
theorem Ai7(h:N≤n):List.take n (C1 c a.l++r)=C1 c a.l++List.take (n-N) r:=by
 rw[List.take_append,Em,Aut (by rw[Em];exact h)]
theorem AmG(h:N≤n):(C1 c a.l++r)[n]?=r[n-N]?:=by
 rw[As0 (by rw[Em];exact h),Em]
theorem Ahj{v:AV}(h:N≤n):(C1 c a.l++r).set n v=C1 c a.l++r.set (n-N) v:=by
 rw[Aun _ _ (by rw[Em];exact h),Em]
theorem Aaq:∀{xs l r:List AV},xs.length=l.length→splice (l++r) 0 xs=xs++r:=by
  have key:∀(xs p l r:List AV),xs.length=l.length→splice (p++(l++r)) p.length xs=p++(xs++r):=by
    intro xs
    induction xs with
    | nil=>
      intro p l r h;have:l=[]:=Atl.1 h.symm;subst this;rfl
    | cons x xs ih=>
      intro p l r h
      match l,h with
      | y::l,h=>
        rw[Gr,Aun _ _ (Atb _),AuQ,Atj,Avl];have:=ih (p++[x]) l r (by simpa using h);simpa using this
  intro xs l r h;exact key xs [] l r h
theorem AcQ:splice (C1 c a.l++r) 0 (C1 c b.l)=C1 c b.l++r:=Aaq (by rw[Em,Em])
theorem Ls{x:AV}:∀{xs:List AV} {cs:List AV} {n:Nat},splice (x::cs) (n+1) xs=x::splice cs n xs
  |[],cs,n=>rfl
  | y::xs,cs,n=>by
    rw[Gr,List.set_cons_succ,Ls,Gr]
theorem Qu{ys:List AV}:∀{p r:List AV},splice (p++r) p.length ys=p++splice r 0 ys
  |[],r=>rfl
  | x::p,r=>by
    show splice (x::(p++r)) (p.length+1) ys=_;rw[Ls,Qu];rfl
theorem Wn:∀{xs l r ys:List AV},xs.length=l.length→splice (l++r) 0 (xs++ys)=xs++splice r 0 ys:=by
  have key:∀(xs p l r ys:List AV),xs.length=l.length→splice (p++(l++r)) p.length (xs++ys)=p++(xs++splice r 0 ys):=by
    intro xs
    induction xs with
    | nil=>
      intro p l r ys h;have:l=[]:=Atl.1 h.symm;subst this;exact Qu
    | cons x xs ih=>
      intro p l r ys h
      match l,h with
      | y::l,h=>
        rw[show(x::xs)++ys=x::(xs++ys)from rfl,Gr,Aun _ _ (Atb _),AuQ,Atj,Avl];have:=ih (p++[x]) l r ys (by simpa using h);simpa using this
  intro xs l r ys h;exact key xs [] l r ys h
theorem X9{r2:List AV}:splice (C1 c a.l++r) 0 (C1 c b.l++r2)=C1 c b.l++splice r 0 r2:=Wn (by rw[Em,Em])
theorem Vr{xs:List AV}(h:N≤n):splice (C1 c a.l++r) n xs=C1 c a.l++splice r (n-N) xs:=by
  induction xs generalizing r n with
  |nil=>rfl
  | cons x xs ih=>
    rw[Gr,Ahj h,ih (by omega),Gr];congr 2;omega
theorem Aq1(h:∀x,B3 σ (c x)=some (c x)){l:List α}:fzCells σ (C1 c l++r)=(fzCells σ r).bind fun ys=>some (C1 c l++ys):=by
  induction l with
  |nil=>show fzCells σ r=_;cases fzCells σ r<;>rfl
  | cons x l ih=>
    show(B3 σ (c x)).bind (fun y=>(fzCells σ (C1 c l++r)).bind fun ys=>some (y::ys))=_;rw[h,ih];cases fzCells σ r<;>rfl
theorem AhI{l:List UInt8}:fzCells σ (C1 u8 l++r)=(fzCells σ r).bind fun ys=>some (C1 u8 l++ys):=Aq1 fun _=>rfl
theorem AoU(h:∀x,wk0 sel (c x) (c x)){l:List α}:wkL sel (C1 c l++r) (C1 c l++r')=wkL sel r r':=by
  induction l with
  |nil=>rfl
  | cons x l ih=>
    show(wk0 sel (c x) (c x)∧wkL sel (C1 c l++r) (C1 c l++r'))=_;rw[ih,eq_true (h x),Awv]
theorem AiF{l:List UInt8}:wkL sel (C1 u8 l++r) (C1 u8 l++r')=wkL sel r r':=AoU fun _=>Avx Ab9
theorem Aks{l:List UInt8}:Ci (.agg (C1 u8 l++r))=Ci (.agg r):=by
 show List.filterMap _ (C1 u8 l++r)=_;rw[List.filterMap_append];have:=bsU8 (l:=l);rw[show List.filterMap _ (C1 u8 l)=[]from this];rfl
end
attribute [go_sem] X9 AjA Ai7 AmG Ahj AcQ Vr AhI AiF Aks List.length_append List.all_append
attribute [go_sem ↓] Ls
def M2{α:Type}(c:α→AV)(l:List ((Int×Int)×α)):List ((Int×Int)×AV):=l.map fun p=>(p.1,c p.2)
def GO{α:Type}:List ((Int×Int)×α)→Int×Int→Option α
 |[],_=>none
 |(k',x)::l,k=>if k'=k then some x else GO l k
def Als{α:Type}:List ((Int×Int)×α)→Int×Int→α→List ((Int×Int)×α)
 |[],k,x=>[(k,x)]
 |(k',y)::l,k,x=>if k'=k then(k',x)::l else(k',y)::Als l k x
section
variable {α:Type}{c:α→AV}{l:List ((Int×Int)×α)}{k:Int×Int}{E:Env}{σ:Ad}
theorem AgS:∀{l:List ((Int×Int)×α)},NH (M2 c l) k=(GO l k).map c
  |[]=>rfl
  | (k',x)::l=>by
    show(if k'=k then some (c x)else NH (M2 c l) k)=_;rw[GO,AgS];split<;>rfl
theorem Ag3{x:α}:∀{l:List ((Int×Int)×α)},NL (M2 c l) k (c x)=M2 c (Als l k x)
  |[]=>rfl
  | (k',y)::l=>by
    show(if k'=k then(k',c x)::M2 c l else(k',c y)::NL (M2 c l) k (c x))=_;rw[Als,Ag3];split<;>rfl
end
theorem AeZ{es es':List ((Int×Int)×AV)}:UV sel (.mp es) (.mp es')=(es=es'):=rfl
attribute [go_sem] AeZ
theorem Aco(a b:UInt64):JZ (.int .u64) (u64 a) (u64 b)=some (a==b):=by
 show(if(IntKind.u64=IntKind.u64∧IntKind.u64=IntKind.u64)then some ((a.toNat:Int)==(b.toNat:Int))else none)=_;rw[AsU ⟨rfl,rfl⟩];congr 1;rw[Atz,AtW,AtW];exact⟨fun h=>Avf.1 (by omega),fun h=>by rw[h]⟩
def Ab8(a b:UInt64):UInt64:=if a<b then b else a
theorem Ahs{E:Env}{σ:Ad}{t:TypeId}{ts:List TypeId}(a b:UInt64):Bp E σ .max (t::ts) [u64 a,u64 b]=some (u64 (Ab8 a b),σ):=by
 show(Jz (fun a b=>if b>a then b else a) .u64 (a.toNat:Int) [u64 b]).map (fun n=>(AV.int .u64 n,σ))=_;show some (AV.int .u64 (if(b.toNat:Int)>(a.toNat:Int)then(b.toNat:Int)else(a.toNat:Int)),σ)=_;unfold Ab8;by_cases h:a<b
 ·have h2:(b.toNat:Int)>(a.toNat:Int):=by have:=AtJ.1 h;omega
  rw[AsU h,AsU h2];rfl
 ·have h2:¬(b.toNat:Int)>(a.toNat:Int):=by intro h3;exact h (AtJ.2 (by omega))
  rw[AsX h,AsX h2];rfl
attribute [go_sem] Ahs
end Go.Rv
