/-
  Part 12.
-/
import Derived.Test.YtioapcamanmoiaaGreatDoorYR11
import Derived.LoopNIn
import Derived.TacticsIn
import Derived.RangeFuncCalls
namespace Go.Rv
set_option linter.unusedVariables false
set_option linter.unusedSimpArgs false
variable{n id:Nat}{P:Program}{f:FuncId}{w:World}{o:Oper}{a:Act}{Q:Exit→Act→World→Prop}{c:Code}{st:St}{g:Gh}
variable {E:Env}
abbrev Cl:=Exit→St→Prop
def Env.fen(E:Env):Fence:={ Fence.wide with round:=E.rd }
theorem H4(h:E.rd=none):E.fen=Fence.wide:=by unfold Env.fen;rw[h];rfl
theorem AaS{args:Array Value}{R:Ending→World→Prop}(h:Calls P f args w R):CallsIn E.fen n P f args w R:=(callsIn_wide (n:=n)).2 h
theorem AcO{row:String}{args:Array Value}{R:Value→World→Prop}(h:Rows P row args w R):RowsIn E.fen n P row args w R:=by
 intro c cs _;obtain⟨v,w',r,s⟩:=h c cs;exact⟨v,w',r,(stepsIn_wide).2 s⟩
def Px(o:Oper):Bool:=match o.op with
 |.defer _=>false
 |_=>true
def JH:Code→Bool
 |.region _ ops draw=>!draw&&ops.toList.all Px
 |.seq a b|.cond _ a b=>JH a&&JH b
 |.block _ a|.loop a=>JH a
 |.scope _|.rangeFunc ..|.goto _|.refuse _=>false
 |_=>true
theorem Acl(h:Px o=true)(c:Call):o.op≠.defer c:=by
 intro e;unfold Px at h;rw[e]at h;cases h
theorem ZF{next:Act→World→Prop}(h:o.wp E.P a w next Q)(hd:E.rd=none∨Px o=true):o.wpIn E.fen 0 E.P a w next Q:=by
  refine⟨fun _ _=>trivial,?_⟩
  have hs:o.semAt E.fen.round a.eval=execOp a.eval o:=by
    rcases hd with hd|hd
    · rw[H4 hd];rfl
    · exact Oper.semAt_eq _ _ _ (Acl hd)
  rw[hs];unfold Oper.wp at h;generalize(execOp a.eval o).run E.P w=r at h ⊢;cases r with
  | ok nx w'=>
    cases nx<;>first
      |exact h
      |exact h.elim
      |exact⟨fun e=>absurd (show false=true from e) (by decide),AaS h⟩
      |exact⟨fun e=>absurd (show false=true from e) (by decide),AcO h⟩
  |halt hh w'=>cases hh<;>first|exact h|exact h.elim
def M9(E:Env)(n:Nat)(ops:Array Oper)(l:List Oper)(st:St)(K:Cl):Prop :=
 (E.rd=none∨l.all Px=true)→∀a w g,Rel E w g st a→∀Q:Exit→Act→World→Prop,(∀ex st' a' w' g',K ex st'→Rel E w' g' st' a'→Evo E n w g w' g'→Q ex a' w')→wpListIn E.fen 0 E.P ops Q l a w
def Run(E:Env)(n:Nat)(c:Code)(st:St)(K:Cl):Prop :=
 (E.rd=none∨JH c=true)→∀a w g,Rel E w g st a→∀Q:Exit→Act→World→Prop,(∀ex st' a' w' g',K ex st'→Rel E w' g' st' a'→Evo E n w g w' g'→Q ex a' w')→c.wpIn E.fen 0 E.P Q a w
theorem Mf{x y:Bool}{p:Prop}(h:p∨(x&&y)=true):(p∨x=true)∧(p∨y=true):=by
 rcases h with h|h
 ·exact⟨.inl h,.inl h⟩
 ·rw[Apb]at h;exact⟨.inr h.1,.inr h.2⟩
theorem NI{l:List Oper}{p:Prop}(h:p∨(o::l).all Px=true):(p∨Px o=true)∧(p∨l.all Px=true):=Mf h
theorem K2{K:Cl}(h:Run E n c st K)(hE:E.rd=none)(hr:Rel E w g st a) (hq:∀ex st' a' w' g',K ex st'→Rel E w' g' st' a'→Evo E n w g w' g'→Q ex a' w'):c.wp E.P Q a w:=by
 have:=h (.inl hE) a w g hr Q hq;rw[H4 hE]at this;exact wpIn_wide.1 this
theorem IU(hE:E.rd=none)(h:c.wp E.P Q a w):c.wpIn E.fen 0 E.P Q a w:=by
 rw[H4 hE];exact wpIn_wide.2 h
theorem JE(h:E.rd=none∨JH c=true)(hc:JH c=false:=by rfl):E.rd=none:=by
 rcases h with h|h
 ·exact h
 ·rw[hc]at h;cases h
theorem D4{K K':Cl}(h:Run E n c st K)(hk:∀ex st',K ex st'→K' ex st'):Run E n c st K' :=
 fun hc a w g hr Q hq=>h hc a w g hr Q (fun ex st' a' w' g' k r e=>hq ex st' a' w' g' (hk ex st' k) r e)
def UJ(E:Env)(n:Nat)(y:Code)(K:Cl):Cl:=fun ex st'=>match ex with
 |.normal=>Run E n y st' K
 |ex=>K ex st'
theorem Io{x y:Code}{K:Cl}(h:Run E n x st (UJ E n y K)):Run E n (.seq x y) st K:=by
 intro hc a w g hr Q hq;obtain⟨c1,c2⟩:=Mf hc;refine wpIn_seq (h c1 a w g hr _ ?_);intro ex st' a' w' g' hk hr' he
 cases ex<;>first
  |exact hk c2 a' w' g' hr' Q (fun ex2 st2 a2 w2 g2 k r e=>hq ex2 st2 a2 w2 g2 k r (he.trans e))
  |exact hq _ st' a' w' g' hk hr' he
theorem VH{K:Cl}(h:K .normal st):Run E n .skip st K:=fun _ a w g hr Q hq=>wpIn_skip (hq _ _ _ _ _ h hr (Evo.refl _ _ _ _))
theorem TV{K:Cl}(h:K .ret st):Run E n .ret st K:=fun _ a w g hr Q hq=>wpIn_ret (hq _ _ _ _ _ h hr (Evo.refl _ _ _ _))
theorem Acd{K:Cl}(h:K (.exit id) st):Run E n (.exit id) st K:=fun _ a w g hr Q hq=>wpIn_exit (hq _ _ _ _ _ h hr (Evo.refl _ _ _ _))
theorem AbF{c:Operand}{x y:Code}{K:Cl}{t:Bool}(hc:ev st.fr c=.bool t)(ht:t=true→Run E n x st K)(hf:t=false→Run E n y st K):Run E n (.cond c x y) st K:=by
 intro hcm a w g hr Q hq;have:=DP hr c;rw[hc]at this;obtain⟨c1,c2⟩:=Mf hcm;cases t with
 |true=>exact wpIn_cond_true (E5 this) (ht rfl c1 a w g hr Q hq)
 |false=>exact wpIn_cond_false (E5 this) (hf rfl c2 a w g hr Q hq)
def Hk(id:Nat)(K:Cl):Cl:=fun ex st'=>match ex with
 |.exit id'=>if id'=id then K .normal st' else K (.exit id') st'
 |ex=>K ex st'
theorem AaY{K:Cl}(h:Run E n c st (Hk id K)):Run E n (.block id c) st K:=by
  intro hc a w g hr Q hq;refine wpIn_block (h hc a w g hr _ ?_);intro ex st' a' w' g' hk hr' he;cases ex with
  | exit id'=>
    simp only[Hk]at hk;simp only[Exit.inBlock];split
    · rename_i e;rw[AoO e]at hk;exact hq _ _ _ _ _ hk hr' he
    · rename_i e;rw[AoQ e]at hk;exact hq _ _ _ _ _ hk hr' he
  |_=>exact hq _ _ _ _ _ hk hr' he
def Nu(E:Env)(n:Nat)(c:Code)(K:Cl):Nat→St→Prop
 |0,_=>False
 |m+1,st=>Run E n c st (fun ex st'=>match ex with
  |.normal=>Nu E n c K m st'
  |ex=>K ex st')
theorem Wk{K:Cl}(m:Nat)(h:Nu E n c K m st):Run E n (.loop c) st K:=by
  intro hc a w g hr Q hq;refine wpIn_loop_rounds m ?_
  have key:∀m st a w1 g1,Nu E n c K m st→Rel E w1 g1 st a→Evo E n w g w1 g1→Code.roundsIn E.fen 0 E.P c Q m a w1:=by
    intro m
    induction m with
    |zero=>intro st a w1 g1 h _ _;exact h.elim
    | succ m ih=>
      intro st a w1 g1 h hr1 he1;rw[roundsIn_succ];refine h hc a w1 g1 hr1 _ ?_;intro ex st' a' w' g' hk hr' he'
      cases ex<;>first
        |exact ih st' a' w' g' hk hr' (he1.trans he')
        |exact hq _ _ _ _ _ hk hr' (he1.trans he')
  exact key m st a w g h hr (Evo.refl _ _ _ _)
def AV.wk:AV→AV→Prop
 |.bs full id tot off len,y=>y=.bs full id tot off len∨y=.bs false id tot off len
 |.sl full els,y=>y=.sl full els∨y=.sl false els
 |x,y=>x=y
theorem AV.wk_refl(x:AV):AV.wk x x:=by cases x<;>simp[AV.wk]
theorem Aif{pr:Addr→Prop}{v:Value}{x y:AV}(h:Rep w pr g v x)(hw:AV.wk x y):Rep w pr g v y:=by
  cases h with
  | bs _ v full id tot off len b hb hx ht h ho=>
    rcases hw with rfl|rfl
    · exact .bs _ _ _ _ _ _ _ b hb hx ht h ho
    · refine .bs _ _ _ _ _ _ _ b hb hx ht (fun e=>?_) ho
      obtain⟨a,cap,h1,h2,h3,h4⟩:=h e;exact⟨a,cap,h1,h2,(fun e=>by cases e),h4⟩
  | sl _ a len cap full els k c hlen hcap hfull hnone hk hc hr=>
    rcases hw with rfl|rfl
    · exact .sl _ a len cap full els k c hlen hcap hfull hnone hk hc hr
    · exact .sl _ a len cap false els k c hlen hcap (fun e=>by cases e) hnone hk hc hr
  | _=>
    simp only[AV.wk]at hw;subst hw;constructor
    all_goals assumption
def Le(fr fr':List AV):Prop:=fr.length=fr'.length∧∀(t:Nat) (x:AV),fr'[t]?=some x→x=.junk∨∃y,fr[t]?=some y∧AV.wk y x
theorem Ai9{fr fr':List AV}{σ:Ab}(h:Rel E w g ⟨fr,σ⟩ a)(hl:Le fr fr'):Rel E w g ⟨fr',σ⟩ a :=
 ⟨h.size.trans hl.1,fun t x hx=>by
  rcases hl.2 t x hx with rfl|⟨y,h2,h3⟩
  ·exact .junk _ _
  ·exact Aif (h.slot t y h2) h3,h.mem,h.defers⟩
theorem Ha{l:List Oper}{K:Cl}(h:M9 E n l.toArray l st K):Run E n (.region id l.toArray false) st K :=
 fun hc a w g hr Q hq=>wpIn_region_lit (h (by simpa [JH]using hc) a w g hr Q hq)
theorem Af9{ops:Array Oper}{K:Cl}(h:K .normal st):M9 E n ops [] st K :=
 fun _ a w g hr Q hq=>wpListIn_nil (hq _ _ _ _ _ h hr (Evo.refl _ _ _ _))
theorem QE{v:Value}{w':World}{next:Act→World→Prop}{r:Result Next}(h:r=.ok (.value v) w'∨(r=.ok .skip w'∧v=undef)) (hn:next (a.put o.dst v) w'):o.upon P a next Q r:=by
 rcases h with rfl|⟨rfl,rfl⟩
 ·exact hn
 ·exact hn
def K0(ops:Array Oper)(fr:List AV)(j:Nat):Option (Option Bool) :=
 match(ops[j]?).bind (·.dst)with
 |some d=>match fr[d]? with
  |some (.bool b)=>some (some b)
  |some (.tup _)=>some none
  |_=>none
 |none=>none
theorem O5(w:World)(pr:Addr→Prop)(g:Gh):Rep w pr g undef (.tup []):=.tup _ #[] [] rfl (by simp)
theorem Ih{ops:Array Oper}(hr:Rel E w g st a){j:Nat}{y:Option Bool}(h:K0 ops st.fr j=some y):yielded ops a.tmps j=y:=by
 unfold K0 at h;unfold yielded;split at h
 case h_2=>cases h
 rename_i d hd;split at h
 case h_3=>cases h
 ·rename_i b' hb;cases h;have:=E5 (hr.slot d _ hb);have hl:d<a.tmps.size:=by rw[hr.size];exact(AoK.1 hb).1
  rw[hd];simp only[AoP,AE hl,this]
 ·rename_i xs hb;cases h;have hl:d<a.tmps.size:=by rw[hr.size];exact(AoK.1 hb).1
  have hs:=hr.slot d _ hb;rw[hd];simp only[AoP,AE hl];generalize a.tmps.getD d undef=v at hs;cases hs with
  |tup _ vs _ _ _=>rfl
def Base.Ok(B:Base):Prop:=(B.env noF).Ok
theorem Base.Ok.env{B:Base}(h:B.Ok)(F:Out):(B.env F).Ok:=⟨h.desc,h.info⟩
def DoCall(P:Program)(f:FuncId)(vs:Array Value)(w:World)(R:Ending→World→Prop):Prop :=
 ((∃fn c,P.funcs[f]?=some fn∧fn.body=some c∧(fn.name == "runtime.NumGoroutine")=false)∧Calls P f vs w R) ∨
 ∃v,(callFunc f vs).run P w=.ok (.value v) w∧R (.returned v) w
theorem DoCall.mono{P:Program}{f:FuncId}{vs:Array Value}{w:World}{R R':Ending→World→Prop}(h:DoCall P f vs w R)(hr:∀e w',R e w'→R' e w'):DoCall P f vs w R':=by
 rcases h with⟨h1,h2⟩|⟨v,h1,h2⟩
 ·exact .inl ⟨h1,h2.mono hr⟩
 ·exact .inr ⟨v,h1,hr _ _ h2⟩
theorem HM{fn:Func}(hf:P.funcs[f]?=some fn)(hb:fn.body=some c)(hn:(fn.name == "runtime.NumGoroutine")=false) (vs:Array Value) (w:World) :(callFunc f vs).run P w=.ok (.enter f vs) w:=by
 simp only[Sem.run_bind,Sem.run_pure,Result.andThen_ok,callFunc,run_program,hf,hn,hb];simp[hn,hb]
theorem DoCall.calls{P:Program}{f:FuncId}{vs:Array Value}{w:World}{R:Ending→World→Prop}(h:DoCall P f vs w R){fn:Func}{c:Code}(hf:P.funcs[f]?=some fn)(hb:fn.body=some c)(hn:(fn.name == "runtime.NumGoroutine")=false):Calls P f vs w R:=by
 rcases h with⟨h1,h2⟩|⟨v,h1,h2⟩
 ·exact h2
 ·rw[HM hf hb hn]at h1;cases h1
structure Con(B:Base)(f:FuncId)(args:List AV)(σ:Ab)(R:AV→Ab→Prop):Prop where
  call:∀(F:Addr→Prop) (w:World) (g:Gh) (vs:Array Value),Mem (B.env F) w g σ→BA w (A4 (B.env F) g) g vs.toList args →
    DoCall B.P f vs w (fun e w'=>∃v r σ' g',e=.returned v∧R r σ'∧Mem (B.env F) w' g' σ'∧Evo (B.env F) σ.length w g w' g'∧Rep w' (A4 (B.env F) g') g' v r)
theorem Con.mono{B:Base}{f:FuncId}{args:List AV}{σ:Ab}{R R':AV→Ab→Prop}(h:Con B f args σ R)(hr:∀r σ',R r σ'→R' r σ'):Con B f args σ R' :=
 ⟨fun F w g vs hm ha=>(h.call F w g vs hm ha).mono fun e w' ⟨v,r,σ',g',h1,h2,h3⟩=>⟨v,r,σ',g',h1,hr _ _ h2,h3⟩⟩
def Kt(n:Nat)(args:List AV):List AV:=args++List.replicate (n-args.length) .junk
theorem Cu{w:World}{pr:Addr→Prop}{g:Gh}:∀{vs:List Value} {xs:List AV},BA w pr g vs xs→vs.length=xs.length
 |[],[],_=>rfl
 |v::vs,x::xs,h=>by simp[Cu h.2]
theorem IW{w:World}{pr:Addr→Prop}{g:Gh}:∀{vs:List Value} {xs:List AV},BA w pr g vs xs→∀(i:Nat) (x:AV),xs[i]?=some x→Rep w pr g (vs.getD i undef) x
 |[],[],_,i,x,h=>by simp at h
 |v::vs,y::ys,h,0,x,hx=>by simp at hx;subst hx;exact h.1
 |v::vs,y::ys,h,i+1,x,hx=>by simpa using IW h.2 i x (by simpa using hx)
def Dh(E:Env)(σ:Ab)(fr:List AV):List ResultVar→Option (List AV)
 |[]=>some []
 |.tmp t::r=>(Dh E σ fr r).map (fr.getD t .junk::·)
 | .cell p t::r=>match E.tab t with
  |some d=>match loadA E σ d (fr.getD p .junk),Dh E σ fr r with
   |some x,some xs=>some (x::xs)
   |_,_=>none
  |none=>none
def Fq:List AV→AV
 |[x]=>x
 |xs=>.tup xs
def Jv(tmps:Array Value):ResultVar→Sem Value
 |.tmp t=>pure (tmps.getD t undef)
 |.cell p t=>do loadVar t (←asAddr (tmps.getD p undef))
theorem Es(hE:E.Ok){w:World}{g:Gh}{st:St}{a:Act}(hr:Rel E w g st a):∀(rs:List ResultVar) (xs:List AV),Dh E st.σ st.fr rs=some xs →∃vs,(rs.mapM (Jv a.tmps)).run E.P w=.ok vs w∧BA w (A4 E g) g vs xs
  |[],xs,h=>by simp[Dh]at h;subst h;exact⟨[],rfl,trivial⟩
  | .tmp t::r,xs,h=>by
    simp only[Dh,AoL]at h;obtain⟨ys,hy,rfl⟩:=h;obtain⟨vs,h1,h2⟩:=Es hE hr r ys hy;refine⟨a.tmps.getD t undef::vs,?_,?_,h2⟩
    · rw[Aqv,Sem.run_bind]
      simp only[Jv,Sem.run_pure,Result.andThen_ok,Sem.run_bind,h1]
    · have:=DP hr (.tmp t)
      exact this
  | .cell p t::r,xs,h=>by
    simp only[Dh]at h;split at h
    case h_2=>cases h
    rename_i d ht;split at h
    case h_2=>cases h
    rename_i x ys hx hy;cases h;obtain⟨vs,h1,h2⟩:=Es hE hr r ys hy;have hrep:=DP hr (.tmp p);obtain⟨u,hu,hru⟩:=Qi hE hr.mem ht hrep hx
    have hptr:∃ad,a.tmps.getD p undef=.pointer (some ad):=by
      have h3:(Instr.loadAt t (a.tmps.getD p undef)).run E.P w=.ok u w:=hu;generalize a.tmps.getD p undef=v at h3
      cases v<;>first
        |(simp[Instr.loadAt,Instr.sureAddr]at h3;done)
        |(rename_i o;cases o<;>first|(simp[Instr.loadAt,Instr.sureAddr]at h3;done)|exact⟨_,rfl⟩)
    obtain⟨ad,had⟩:=hptr;refine⟨u::vs,?_,hru,h2⟩;have h3:(Instr.loadAt t (a.tmps.getD p undef)).run E.P w=.ok u w:=hu;rw[had]at h3;simp only[Instr.loadAt,Instr.sureAddr,Sem.run_bind,Sem.run_pure,Result.andThen_ok]at h3;rw[Aqv,Sem.run_bind];simp only[Jv,had,asAddr,Sem.run_bind,Sem.run_pure,Result.andThen_ok,h3,h1]
theorem HI{pr:Addr→Prop}{vs:List Value}{xs:List AV}(h:BA w pr g vs xs):Rep w pr g (if h:vs.toArray.size=1 then vs.toArray[0]else .tuple vs.toArray) (Fq xs):=by
  match vs,xs,h with
  |[],[],_=>exact .tup _ #[] [] rfl (by simp)
  |[v],[x],h=>exact h.1
  | v::v2::vs,x::x2::xs,h=>
    have hl:=Cu h;rw[dif_neg (by simp)];refine .tup _ _ _ (by simpa using hl) ?_;intro i y hy;have:=IW h i y hy;simpa [Ao3,Apt]using this
theorem VI{B:Base}{fn:Func}{args:List AV}{σ:Ab}{R:AV→Ab→Prop}(hB:B.Ok)(hf:B.P.funcs[f]?=some fn)(hb:fn.body=some c)(hn:(fn.name == "runtime.NumGoroutine")=false) (h:∀F:Addr→Prop,Run (B.env F) σ.length c ⟨Kt fn.ntmps args,σ⟩ (fun ex st=>(ex=.normal∨ex=.ret)∧∃xs,Dh (B.env F) st.σ st.fr fn.results.toList=some xs∧R (Fq xs) st.σ)):Con B f args σ R:=by
 refine⟨fun F w g vs hm ha=>.inl ⟨⟨fn,c,hf,hb,hn⟩,?_⟩⟩;have hE:=hB.env F;refine calls_of_wp hf hb ?_;have hlen:=Cu ha;simp only[ApM]at hlen;refine K2 (h F) rfl (g:=g) ⟨?_,?_,hm,.plain rfl⟩ ?_
 ·simp[Kt,hlen]
 ·intro t x hx;simp only[Kt]at hx;rcases ApF t args.length with hl|hl
  ·rw[AoU hl]at hx;have:=IW ha t x hx
   have e:(vs++Array.replicate (fn.ntmps-vs.size) undef).getD t undef=vs.toList.getD t undef:=by
    refine Ay ?_;rw[AqA (by omega),AE (by omega)];simp[Ao3,Apt]
   rw[e];exact this
  ·rw[AoS hl,AqN]at hx;split at hx
   ·cases hx;exact .junk _ _
   ·cases hx
 ·intro ex st a' w' g' hk hr he;obtain⟨hex,xs,hxs,hR⟩:=hk;obtain⟨us,hus,hrep⟩:=Es hE hr fn.results.toList xs hxs
  have hres:(results fn a'.tmps).run B.P w'=.ok (if h:us.toArray.size=1 then us.toArray[0]else .tuple us.toArray) w':=by
   have e:results fn a'.tmps=(do let vs ←fn.results.mapM (Jv a'.tmps);pure (if h:vs.size=1 then vs[0]else .tuple vs)):=rfl;have hus':(fn.results.toList.mapM (Jv a'.tmps)).run B.P w'=.ok us w':=hus;rw[e,Sem.run_bind,Aqm,Sem.run_map,hus'];rfl
  rcases hex with rfl|rfl
  ·exact⟨hr.defers.eq rfl,_,hres,_,_,_,g',rfl,hR,hr.mem,he,HI hrep⟩
  ·exact⟨hr.defers.eq rfl,_,hres,_,_,_,g',rfl,hR,hr.mem,he,HI hrep⟩
end Go.Rv
