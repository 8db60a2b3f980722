/-
  Part 12.
-/
import Derived.Test.YtioapcamanmoiaaGreatDoorYA11
import Derived.LoopNIn
import Derived.TacticsIn
import Derived.RangeFuncCalls
namespace Go.Rv
variable{n id:Nat}{P:Program}{f:FuncId}{w:World}{o:Oper}{a:Act}{Q:Exit→Act→World→Prop}{c:Code}{st:St}{g:Gh}
variable {E:Env}
abbrev DB:=Exit→St→Prop
def Env.fen(E:Env):Fence:={ Fence.wide with round:=E.rd }
theorem Jl(h:E.rd=none):E.fen=Fence.wide:=by unfold Env.fen;rw[h];rfl
theorem Acu{args:Array Value}{R:Ending→World→Prop}(h:Calls P f args w R):CallsIn E.fen n P f args w R:=(callsIn_wide (n:=n)).2 h
theorem AeL{row:String}{args:Array Value}{R:Value→World→Prop}(h:Rows P row args w R):RowsIn E.fen n P row args w R:=by
 intro c cs _;obtain⟨v,w',r,s⟩:=h c cs;exact⟨v,w',r,(stepsIn_wide).2 s⟩
def RF(o:Oper):Bool:=match o.op with
 |.defer _=>false
 |_=>true
def L2:Code→Bool
 |.region _ ops draw=>!draw&&ops.toList.all RF
 |.seq a b|.cond _ a b=>L2 a&&L2 b
 |.block _ a|.loop a=>L2 a
 |.scope _|.rangeFunc ..|.goto _|.refuse _=>false
 |_=>true
theorem Afi(h:RF o=true)(c:Call):o.op≠.defer c:=by
 intro e;unfold RF at h;rw[e]at h;cases h
theorem AeQ{next:Act→World→Prop}(h:o.wp E.P a w next Q)(hd:E.rd=none∨RF o=true):o.wpIn E.fen 0 E.P a w next Q:=by
  refine⟨fun _ _=>trivial,?_⟩
  have hs:o.semAt E.fen.round a.eval=execOp a.eval o:=by
    rcases hd with hd|hd
    · rw[Jl hd];rfl
    · exact Oper.semAt_eq _ _ _ (Afi hd)
  rw[hs];unfold Oper.wp at h;generalize(execOp a.eval o).run E.P w=r at h ⊢;cases r with
  | ok nx w'=>
    cases nx<;>first
      |exact h
      |exact h.elim
      |exact⟨fun e=>absurd (show false=true from e) (by decide),Acu h⟩
      |exact⟨fun e=>absurd (show false=true from e) (by decide),AeL h⟩
  |halt hh w'=>cases hh<;>first|exact h|exact h.elim
def Qv(E:Env)(n:Nat)(ops:Array Oper)(l:List Oper)(st:St)(K:DB):Prop :=
 (E.rd=none∨l.all RF=true)→∀a w g,Rel E w g st a→∀Q:Exit→Act→World→Prop,(∀ex st' a' w' g',K ex st'→Rel E w' g' st' a'→Evo E n w g w' g'→Q ex a' w')→wpListIn E.fen 0 E.P ops Q l a w
def Run(E:Env)(n:Nat)(c:Code)(st:St)(K:DB):Prop :=
 (E.rd=none∨L2 c=true)→∀a w g,Rel E w g st a→∀Q:Exit→Act→World→Prop,(∀ex st' a' w' g',K ex st'→Rel E w' g' st' a'→Evo E n w g w' g'→Q ex a' w')→c.wpIn E.fen 0 E.P Q a w
theorem NW{x y:Bool}{p:Prop}(h:p∨(x&&y)=true):(p∨x=true)∧(p∨y=true):=by
 rcases h with h|h
 ·exact⟨.inl h,.inl h⟩
 ·rw[Ata]at h;exact⟨.inr h.1,.inr h.2⟩
theorem VC{l:List Oper}{p:Prop}(h:p∨(o::l).all RF=true):(p∨RF o=true)∧(p∨l.all RF=true):=NW h
theorem Aeo{K:DB}(h:Run E n c st K)(hE:E.rd=none)(hr:Rel E w g st a) (hq:∀ex st' a' w' g',K ex st'→Rel E w' g' st' a'→Evo E n w g w' g'→Q ex a' w'):c.wp E.P Q a w:=by
 have:=h (.inl hE) a w g hr Q hq;rw[Jl hE]at this;exact wpIn_wide.1 this
theorem K4(hE:E.rd=none)(h:c.wp E.P Q a w):c.wpIn E.fen 0 E.P Q a w:=by
 rw[Jl hE];exact wpIn_wide.2 h
theorem Lg(h:E.rd=none∨L2 c=true)(hc:L2 c=false:=by rfl):E.rd=none:=by
 rcases h with h|h
 ·exact h
 ·rw[hc]at h;cases h
theorem EZ{K K':DB}(h:Run E n c st K)(hk:∀ex st',K ex st'→K' ex st'):Run E n c st K' :=
 fun hc a w g hr Q hq=>h hc a w g hr Q (fun ex st' a' w' g' k r e=>hq ex st' a' w' g' (hk ex st' k) r e)
def Aaa(E:Env)(n:Nat)(y:Code)(K:DB):DB:=fun ex st'=>match ex with
 |.normal=>Run E n y st' K
 |ex=>K ex st'
theorem Kl{x y:Code}{K:DB}(h:Run E n x st (Aaa E n y K)):Run E n (.seq x y) st K:=by
 intro hc a w g hr Q hq;obtain⟨c1,c2⟩:=NW hc;refine wpIn_seq (h c1 a w g hr _ ?_);intro ex st' a' w' g' hk hr' he
 cases ex<;>first
  |exact hk c2 a' w' g' hr' Q (fun ex2 st2 a2 w2 g2 k r e=>hq ex2 st2 a2 w2 g2 k r (he.trans e))
  |exact hq _ st' a' w' g' hk hr' he
theorem AeI{K:DB}(h:K .normal st):Run E n .skip st K:=fun _ a w g hr Q hq=>wpIn_skip (hq _ _ _ _ _ h hr (Evo.refl _ _ _ _))
theorem Xm{K:DB}(h:K .ret st):Run E n .ret st K:=fun _ a w g hr Q hq=>wpIn_ret (hq _ _ _ _ _ h hr (Evo.refl _ _ _ _))
theorem AgK{K:DB}(h:K (.exit id) st):Run E n (.exit id) st K:=fun _ a w g hr Q hq=>wpIn_exit (hq _ _ _ _ _ h hr (Evo.refl _ _ _ _))
theorem Aep{c:Operand}{x y:Code}{K:DB}{t:Bool}(hc:ev st.fr c=.bool t)(ht:t=true→Run E n x st K)(hf:t=false→Run E n y st K):Run E n (.cond c x y) st K:=by
 intro hcm a w g hr Q hq;have:=GD hr c;rw[hc]at this;obtain⟨c1,c2⟩:=NW hcm;cases t with
 |true=>exact wpIn_cond_true (F8 this) (ht rfl c1 a w g hr Q hq)
 |false=>exact wpIn_cond_false (F8 this) (hf rfl c2 a w g hr Q hq)
def J2(id:Nat)(K:DB):DB:=fun ex st'=>match ex with
 |.exit id'=>if id'=id then K .normal st' else K (.exit id') st'
 |ex=>K ex st'
theorem AdL{K:DB}(h:Run E n c st (J2 id K)):Run E n (.block id c) st K:=by
  intro hc a w g hr Q hq;refine wpIn_block (h hc a w g hr _ ?_);intro ex st' a' w' g' hk hr' he;cases ex with
  | exit id'=>
    simp only[J2]at hk;simp only[Exit.inBlock];split
    · rename_i e;rw[AsU e]at hk;exact hq _ _ _ _ _ hk hr' he
    · rename_i e;rw[AsX e]at hk;exact hq _ _ _ _ _ hk hr' he
  |_=>exact hq _ _ _ _ _ hk hr' he
def O1(E:Env)(n:Nat)(c:Code)(K:DB):Nat→St→Prop
 |0,_=>False
 |m+1,st=>Run E n c st (fun ex st'=>match ex with
  |.normal=>O1 E n c K m st'
  |ex=>K ex st')
theorem Y7{K:DB}(m:Nat)(h:O1 E n c K m st):Run E n (.loop c) st K:=by
  intro hc a w g hr Q hq;refine wpIn_loop_rounds m ?_
  have key:∀m st a w1 g1,O1 E n c K m st→Rel E w1 g1 st a→Evo E n w g w1 g1→Code.roundsIn E.fen 0 E.P c Q m a w1:=by
    intro m
    induction m with
    |zero=>intro st a w1 g1 h _ _;exact h.elim
    | succ m ih=>
      intro st a w1 g1 h hr1 he1;rw[roundsIn_succ];refine h hc a w1 g1 hr1 _ ?_;intro ex st' a' w' g' hk hr' he'
      cases ex<;>first
        |exact ih st' a' w' g' hk hr' (he1.trans he')
        |exact hq _ _ _ _ _ hk hr' (he1.trans he')
  exact key m st a w g h hr (Evo.refl _ _ _ _)
def AV.wk:AV→AV→Prop
 |.bs full id tot off len,y=>y=.bs full id tot off len∨y=.bs false id tot off len
 |.sl full els,y=>y=.sl full els∨y=.sl false els
 |x,y=>x=y
theorem AV.wk_refl(x:AV):AV.wk x x:=by cases x<;>simp[AV.wk]
theorem AkT{pr:Addr→Prop}{v:Value}{x y:AV}(h:Rep w pr g v x)(hw:AV.wk x y):Rep w pr g v y:=by
  cases h with
  | bs _ v full id tot off len b hb hx ht h ho=>
    rcases hw with rfl|rfl
    · exact .bs _ _ _ _ _ _ _ b hb hx ht h ho
    · refine .bs _ _ _ _ _ _ _ b hb hx ht (fun e=>?_) ho
      obtain⟨a,cap,h1,h2,h3,h4⟩:=h e;exact⟨a,cap,h1,h2,(fun e=>by cases e),h4⟩
  | sl _ a len cap full els k c hlen hcap hfull hnone hk hc hr=>
    rcases hw with rfl|rfl
    · exact .sl _ a len cap full els k c hlen hcap hfull hnone hk hc hr
    · exact .sl _ a len cap false els k c hlen hcap (fun e=>by cases e) hnone hk hc hr
  | _=>
    simp only[AV.wk]at hw;subst hw;constructor
    all_goals assumption
def Le(fr fr':List AV):Prop:=fr.length=fr'.length∧∀(t:Nat) (x:AV),fr'[t]?=some x→x=.junk∨∃y,fr[t]?=some y∧AV.wk y x
theorem Aoz{fr fr':List AV}{σ:Ad}(h:Rel E w g ⟨fr,σ⟩ a)(hl:Le fr fr'):Rel E w g ⟨fr',σ⟩ a :=
 ⟨h.size.trans hl.1,fun t x hx=>by
  rcases hl.2 t x hx with rfl|⟨y,h2,h3⟩
  ·exact .junk _ _
  ·exact AkT (h.slot t y h2) h3,h.mem,h.defers⟩
theorem MP{l:List Oper}{K:DB}(h:Qv E n l.toArray l st K):Run E n (.region id l.toArray false) st K :=
 fun hc a w g hr Q hq=>wpIn_region_lit (h (by simpa [L2]using hc) a w g hr Q hq)
theorem Akm{ops:Array Oper}{K:DB}(h:K .normal st):Qv E n ops [] st K :=
 fun _ a w g hr Q hq=>wpListIn_nil (hq _ _ _ _ _ h hr (Evo.refl _ _ _ _))
theorem TN{v:Value}{w':World}{next:Act→World→Prop}{r:Result Next}(h:r=.ok (.value v) w'∨(r=.ok .skip w'∧v=undef)) (hn:next (a.put o.dst v) w'):o.upon P a next Q r:=by
 rcases h with rfl|⟨rfl,rfl⟩
 ·exact hn
 ·exact hn
def Mb(ops:Array Oper)(fr:List AV)(j:Nat):Option (Option Bool) :=
 match(ops[j]?).bind (·.dst)with
 |some d=>match fr[d]? with
  |some (.bool b)=>some (some b)
  |some (.tup _)=>some none
  |_=>none
 |none=>none
theorem OZ(w:World)(pr:Addr→Prop)(g:Gh):Rep w pr g undef (.tup []):=.tup _ #[] [] rfl (by simp)
theorem JI{ops:Array Oper}(hr:Rel E w g st a){j:Nat}{y:Option Bool}(h:Mb ops st.fr j=some y):yielded ops a.tmps j=y:=by
 unfold Mb at h;unfold yielded;split at h
 case h_2=>cases h
 rename_i d hd;split at h
 case h_3=>cases h
 ·rename_i b' hb;cases h;have:=F8 (hr.slot d _ hb);have hl:d<a.tmps.size:=by rw[hr.size];exact(AsT.1 hb).1
  rw[hd];simp only[AsY,AH hl,this]
 ·rename_i xs hb;cases h;have hl:d<a.tmps.size:=by rw[hr.size];exact(AsT.1 hb).1
  have hs:=hr.slot d _ hb;rw[hd];simp only[AsY,AH hl];generalize a.tmps.getD d undef=v at hs;cases hs with
  |tup _ vs _ _ _=>rfl
def Base.Ok(B:Base):Prop:=(B.env noF).Ok
theorem Base.Ok.env{B:Base}(h:B.Ok)(F:Out):(B.env F).Ok:=⟨h.desc,h.info⟩
def DoCall(P:Program)(f:FuncId)(vs:Array Value)(w:World)(R:Ending→World→Prop):Prop :=
 ((∃fn c,P.funcs[f]?=some fn∧fn.body=some c∧(fn.name == "runtime.NumGoroutine")=false)∧Calls P f vs w R) ∨
 ∃v,(callFunc f vs).run P w=.ok (.value v) w∧R (.returned v) w
theorem DoCall.mono{P:Program}{f:FuncId}{vs:Array Value}{w:World}{R R':Ending→World→Prop}(h:DoCall P f vs w R)(hr:∀e w',R e w'→R' e w'):DoCall P f vs w R':=by
 rcases h with⟨h1,h2⟩|⟨v,h1,h2⟩
 ·exact .inl ⟨h1,h2.mono hr⟩
 ·exact .inr ⟨v,h1,hr _ _ h2⟩
theorem LJ{fn:Func}(hf:P.funcs[f]?=some fn)(hb:fn.body=some c)(hn:(fn.name == "runtime.NumGoroutine")=false) (vs:Array Value) (w:World) :(callFunc f vs).run P w=.ok (.enter f vs) w:=by
 simp only[Sem.run_bind,Sem.run_pure,Result.andThen_ok,callFunc,run_program,hf,hn,hb];simp[hn,hb]
theorem DoCall.calls{P:Program}{f:FuncId}{vs:Array Value}{w:World}{R:Ending→World→Prop}(h:DoCall P f vs w R){fn:Func}{c:Code}(hf:P.funcs[f]?=some fn)(hb:fn.body=some c)(hn:(fn.name == "runtime.NumGoroutine")=false):Calls P f vs w R:=by
 rcases h with⟨h1,h2⟩|⟨v,h1,h2⟩
 ·exact h2
 ·rw[LJ hf hb hn]at h1;cases h1
structure Con(B:Base)(f:FuncId)(args:List AV)(σ:Ad)(R:AV→Ad→Prop):Prop where
  call:∀(F:Addr→Prop) (w:World) (g:Gh) (vs:Array Value),Mem (B.env F) w g σ→C8 w (AA (B.env F) g) g vs.toList args →
    DoCall B.P f vs w (fun e w'=>∃v r σ' g',e=.returned v∧R r σ'∧Mem (B.env F) w' g' σ'∧Evo (B.env F) σ.length w g w' g'∧Rep w' (AA (B.env F) g') g' v r)
theorem Con.mono{B:Base}{f:FuncId}{args:List AV}{σ:Ad}{R R':AV→Ad→Prop}(h:Con B f args σ R)(hr:∀r σ',R r σ'→R' r σ'):Con B f args σ R' :=
 ⟨fun F w g vs hm ha=>(h.call F w g vs hm ha).mono fun e w' ⟨v,r,σ',g',h1,h2,h3⟩=>⟨v,r,σ',g',h1,hr _ _ h2,h3⟩⟩
def MU(n:Nat)(args:List AV):List AV:=args++List.replicate (n-args.length) .junk
theorem DF{w:World}{pr:Addr→Prop}{g:Gh}:∀{vs:List Value} {xs:List AV},C8 w pr g vs xs→vs.length=xs.length
 |[],[],_=>rfl
 |v::vs,x::xs,h=>by simp[DF h.2]
theorem Kz{w:World}{pr:Addr→Prop}{g:Gh}:∀{vs:List Value} {xs:List AV},C8 w pr g vs xs→∀(i:Nat) (x:AV),xs[i]?=some x→Rep w pr g (vs.getD i undef) x
 |[],[],_,i,x,h=>by simp at h
 |v::vs,y::ys,h,0,x,hx=>by simp at hx;subst hx;exact h.1
 |v::vs,y::ys,h,i+1,x,hx=>by simpa using Kz h.2 i x (by simpa using hx)
def FH(E:Env)(σ:Ad)(fr:List AV):List ResultVar→Option (List AV)
 |[]=>some []
 |.tmp t::r=>(FH E σ fr r).map (fr.getD t .junk::·)
 | .cell p t::r=>match E.tab t with
  |some d=>match loadA E σ d (fr.getD p .junk),FH E σ fr r with
   |some x,some xs=>some (x::xs)
   |_,_=>none
  |none=>none
def Jf:List AV→AV
 |[x]=>x
 |xs=>.tup xs
def PM(tmps:Array Value):ResultVar→Sem Value
 |.tmp t=>pure (tmps.getD t undef)
 |.cell p t=>do loadVar t (←asAddr (tmps.getD p undef))
theorem GW(hE:E.Ok){w:World}{g:Gh}{st:St}{a:Act}(hr:Rel E w g st a):∀(rs:List ResultVar) (xs:List AV),FH E st.σ st.fr rs=some xs →∃vs,(rs.mapM (PM a.tmps)).run E.P w=.ok vs w∧C8 w (AA E g) g vs xs
  |[],xs,h=>by simp[FH]at h;subst h;exact⟨[],rfl,trivial⟩
  | .tmp t::r,xs,h=>by
    simp only[FH,AsV]at h;obtain⟨ys,hy,rfl⟩:=h;obtain⟨vs,h1,h2⟩:=GW hE hr r ys hy;refine⟨a.tmps.getD t undef::vs,?_,?_,h2⟩
    · rw[AuF,Sem.run_bind]
      simp only[PM,Sem.run_pure,Result.andThen_ok,Sem.run_bind,h1]
    · have:=GD hr (.tmp t)
      exact this
  | .cell p t::r,xs,h=>by
    simp only[FH]at h;split at h
    case h_2=>cases h
    rename_i d ht;split at h
    case h_2=>cases h
    rename_i x ys hx hy;cases h;obtain⟨vs,h1,h2⟩:=GW hE hr r ys hy;have hrep:=GD hr (.tmp p);obtain⟨u,hu,hru⟩:=S1 hE hr.mem ht hrep hx
    have hptr:∃ad,a.tmps.getD p undef=.pointer (some ad):=by
      have h3:(Instr.loadAt t (a.tmps.getD p undef)).run E.P w=.ok u w:=hu;generalize a.tmps.getD p undef=v at h3
      cases v<;>first
        |(simp[Instr.loadAt,Instr.sureAddr]at h3;done)
        |(rename_i o;cases o<;>first|(simp[Instr.loadAt,Instr.sureAddr]at h3;done)|exact⟨_,rfl⟩)
    obtain⟨ad,had⟩:=hptr;refine⟨u::vs,?_,hru,h2⟩;have h3:(Instr.loadAt t (a.tmps.getD p undef)).run E.P w=.ok u w:=hu;rw[had]at h3;simp only[Instr.loadAt,Instr.sureAddr,Sem.run_bind,Sem.run_pure,Result.andThen_ok]at h3;rw[AuF,Sem.run_bind];simp only[PM,had,asAddr,Sem.run_bind,Sem.run_pure,Result.andThen_ok,h3,h1]
theorem Li{pr:Addr→Prop}{vs:List Value}{xs:List AV}(h:C8 w pr g vs xs):Rep w pr g (if h:vs.toArray.size=1 then vs.toArray[0]else .tuple vs.toArray) (Jf xs):=by
  match vs,xs,h with
  |[],[],_=>exact .tup _ #[] [] rfl (by simp)
  |[v],[x],h=>exact h.1
  | v::v2::vs,x::x2::xs,h=>
    have hl:=DF h;rw[dif_neg (by simp)];refine .tup _ _ _ (by simpa using hl) ?_;intro i y hy;have:=Kz h i y hy;simpa [As8,AtK]using this
theorem Ac3{B:Base}{fn:Func}{args:List AV}{σ:Ad}{R:AV→Ad→Prop}(hB:B.Ok)(hf:B.P.funcs[f]?=some fn)(hb:fn.body=some c)(hn:(fn.name == "runtime.NumGoroutine")=false) (h:∀F:Addr→Prop,Run (B.env F) σ.length c ⟨MU fn.ntmps args,σ⟩ (fun ex st=>(ex=.normal∨ex=.ret)∧∃xs,FH (B.env F) st.σ st.fr fn.results.toList=some xs∧R (Jf xs) st.σ)):Con B f args σ R:=by
 refine⟨fun F w g vs hm ha=>.inl ⟨⟨fn,c,hf,hb,hn⟩,?_⟩⟩;have hE:=hB.env F;refine calls_of_wp hf hb ?_;have hlen:=DF ha;simp only[AtY]at hlen;refine Aeo (h F) rfl (g:=g) ⟨?_,?_,hm,.plain rfl⟩ ?_
 ·simp[MU,hlen]
 ·intro t x hx;simp only[MU]at hx;rcases AtV t args.length with hl|hl
  ·rw[As3 hl]at hx;have:=Kz ha t x hx
   have e:(vs++Array.replicate (fn.ntmps-vs.size) undef).getD t undef=vs.toList.getD t undef:=by
    refine A7 ?_;rw[AuI (by omega),AH (by omega)];simp[As8,AtK]
   rw[e];exact this
  ·rw[As0 hl,AuB]at hx;split at hx
   ·cases hx;exact .junk _ _
   ·cases hx
 ·intro ex st a' w' g' hk hr he;obtain⟨hex,xs,hxs,hR⟩:=hk;obtain⟨us,hus,hrep⟩:=GW hE hr fn.results.toList xs hxs
  have hres:(results fn a'.tmps).run B.P w'=.ok (if h:us.toArray.size=1 then us.toArray[0]else .tuple us.toArray) w':=by
   have e:results fn a'.tmps=(do let vs ←fn.results.mapM (PM a'.tmps);pure (if h:vs.size=1 then vs[0]else .tuple vs)):=rfl;have hus':(fn.results.toList.mapM (PM a'.tmps)).run B.P w'=.ok us w':=hus;rw[e,Sem.run_bind,Avc,Sem.run_map,hus'];rfl
  rcases hex with rfl|rfl
  ·exact⟨hr.defers.eq rfl,_,hres,_,_,_,g',rfl,hR,hr.mem,he,Li hrep⟩
  ·exact⟨hr.defers.eq rfl,_,hres,_,_,_,g',rfl,hR,hr.mem,he,Li hrep⟩
end Go.Rv
