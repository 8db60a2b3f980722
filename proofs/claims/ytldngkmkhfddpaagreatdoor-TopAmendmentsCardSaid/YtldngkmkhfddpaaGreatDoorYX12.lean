/-
  Part 12.
-/
import Derived.Test.YtldngkmkhfddpaaGreatDoorYX11
import Derived.LoopNIn
import Derived.TacticsIn
import Derived.RangeFuncCalls
namespace Go.Rv
set_option linter.unusedVariables false
set_option linter.unusedSimpArgs false
variable{n id:Nat}{P:Program}{f:FuncId}{w:World}{o:Oper}{a:Act}{Q:Exit->Act->World->Prop}{c:Code}{st:St}{g:Gh}
variable {E:Env}
abbrev CO:=Exit->St->Prop
def Env.fen(E:Env):Fence:={ Fence.wide with round:=E.rd }
theorem S5(h:E.rd=none):E.fen=Fence.wide:=by unfold Env.fen;rw[h];rfl
theorem ZN{args:Array Value}{R:Ending->World->Prop}(h:Calls P f args w R):CallsIn E.fen n P f args w R:=(callsIn_wide (n:=n)).2 h
theorem Aeg{row:String}{args:Array Value}{R:Value->World->Prop}(h:Rows P row args w R):RowsIn E.fen n P row args w R:=by
 intro c cs _;obtain⟨v,w',r,s⟩:=h c cs;exact⟨v,w',r,(stepsIn_wide).2 s⟩
def Qe(o:Oper):Bool:=match o.op with
 |.defer _=>false
 |_=>true
def UR:Code->Bool
 |.region _ ops draw=>!draw&&ops.toList.all Qe
 |.seq a b|.cond _ a b=>UR a&&UR b
 |.block _ a|.loop a=>UR a
 |.scope _|.rangeFunc ..|.goto _|.refuse _=>false
 |_=>true
theorem AcS(h:Qe o=true)(c:Call):o.op≠.defer c:=by
 intro e;unfold Qe at h;rw[e]at h;cases h
theorem Sj{next:Act->World->Prop}(h:o.wp E.P a w next Q)(hd:E.rd=none\/Qe o=true):o.wpIn E.fen 0 E.P a w next Q:=by
 refine⟨fun _ _=>trivial,?_⟩
 have hs:o.semAt E.fen.round a.eval=execOp a.eval o:=by
  rcases hd with hd|hd
  ·rw[S5 hd];rfl
  exact Oper.semAt_eq _ _ _ (AcS hd)
 rw[hs];unfold Oper.wp at h;generalize(execOp a.eval o).run E.P w=r at h ⊢;cases r with
 | ok nx w'=>
  cases nx<;>first
   |exact h
   |exact h.elim
   |exact⟨fun e=>absurd (show false=true from e) (by decide),ZN h⟩
   |exact⟨fun e=>absurd (show false=true from e) (by decide),Aeg h⟩
 |halt hh w'=>cases hh<;>first|exact h|exact h.elim
def Np(E:Env)(n:Nat)(ops:Array Oper)(l:List Oper)(st:St)(K:CO):Prop :=
 (E.rd=none\/l.all Qe=true)->∀a w g,Rel E w g st a->∀Q:Exit->Act->World->Prop,(∀ex st' a' w' g',K ex st'->Rel E w' g' st' a'->Evo E n w g w' g'->Q ex a' w')->wpListIn E.fen 0 E.P ops Q l a w
def Run(E:Env)(n:Nat)(c:Code)(st:St)(K:CO):Prop :=
 (E.rd=none\/UR c=true)->∀a w g,Rel E w g st a->∀Q:Exit->Act->World->Prop,(∀ex st' a' w' g',K ex st'->Rel E w' g' st' a'->Evo E n w g w' g'->Q ex a' w')->c.wpIn E.fen 0 E.P Q a w
theorem On{x y:Bool}{p:Prop}(h:p\/(x&&y)=true):(p\/x=true)/\(p\/y=true):=by
 rcases h with h|h
 ·exact⟨.inl h,.inl h⟩
 rw[Apj]at h;exact⟨.inr h.1,.inr h.2⟩
theorem Mp{l:List Oper}{p:Prop}(h:p\/(o::l).all Qe=true):(p\/Qe o=true)/\(p\/l.all Qe=true):=On h
theorem Hu{K:CO}(h:Run E n c st K)(hE:E.rd=none)(hr:Rel E w g st a) (hq:∀ex st' a' w' g',K ex st'->Rel E w' g' st' a'->Evo E n w g w' g'->Q ex a' w'):c.wp E.P Q a w:=by
 have:=h (.inl hE) a w g hr Q hq;rw[S5 hE]at this;exact wpIn_wide.1 this
theorem Hr(hE:E.rd=none)(h:c.wp E.P Q a w):c.wpIn E.fen 0 E.P Q a w:=by
 rw[S5 hE];exact wpIn_wide.2 h
theorem Iu(h:E.rd=none\/UR c=true)(hc:UR c=false:=by rfl):E.rd=none:=by
 rcases h with h|h
 ·exact h
 rw[hc]at h;cases h
theorem Ie{K K':CO}(h:Run E n c st K)(hk:∀ex st',K ex st'->K' ex st'):Run E n c st K' :=
 fun hc a w g hr Q hq=>h hc a w g hr Q (fun ex st' a' w' g' k r e=>hq ex st' a' w' g' (hk ex st' k) r e)
def VN(E:Env)(n:Nat)(y:Code)(K:CO):CO:=fun ex st'=>match ex with
 |.normal=>Run E n y st' K
 |ex=>K ex st'
theorem Hh{x y:Code}{K:CO}(h:Run E n x st (VN E n y K)):Run E n (.seq x y) st K:=by
 intro hc a w g hr Q hq;obtain⟨c1,c2⟩:=On hc;refine wpIn_seq (h c1 a w g hr _ ?_);intro ex st' a' w' g' hk hr' he
 cases ex<;>first
  |exact hk c2 a' w' g' hr' Q (fun ex2 st2 a2 w2 g2 k r e=>hq ex2 st2 a2 w2 g2 k r (he.trans e))
  |exact hq _ st' a' w' g' hk hr' he
theorem Sf{K:CO}(h:K .normal st):Run E n .skip st K:=fun _ a w g hr Q hq=>wpIn_skip (hq _ _ _ _ _ h hr (Evo.refl _ _ _ _))
theorem AhD{K:CO}(h:K .ret st):Run E n .ret st K:=fun _ a w g hr Q hq=>wpIn_ret (hq _ _ _ _ _ h hr (Evo.refl _ _ _ _))
theorem Ae3{K:CO}(h:K (.exit id) st):Run E n (.exit id) st K:=fun _ a w g hr Q hq=>wpIn_exit (hq _ _ _ _ _ h hr (Evo.refl _ _ _ _))
theorem AaM{l:Nat}{K:CO}(h:K .normal st):Run E n (.label l) st K:=fun _ a w g hr Q hq=>wpIn_label (hq _ _ _ _ _ h hr (Evo.refl _ _ _ _))
theorem Xb{c:Operand}{x y:Code}{K:CO}{t:Bool}(hc:ev st.fr c=.bool t)(ht:t=true->Run E n x st K)(hf:t=false->Run E n y st K):Run E n (.cond c x y) st K:=by
 intro hcm a w g hr Q hq;have:=En hr c;rw[hc]at this;obtain⟨c1,c2⟩:=On hcm;cases t with
 |true=>exact wpIn_cond_true (EZ this) (ht rfl c1 a w g hr Q hq)
 |false=>exact wpIn_cond_false (EZ this) (hf rfl c2 a w g hr Q hq)
def IG(id:Nat)(K:CO):CO:=fun ex st'=>match ex with
 |.exit id'=>if id'=id then K .normal st' else K (.exit id') st'
 |ex=>K ex st'
theorem AaS{K:CO}(h:Run E n c st (IG id K)):Run E n (.block id c) st K:=by
 intro hc a w g hr Q hq;refine wpIn_block (h hc a w g hr _ ?_);intro ex st' a' w' g' hk hr' he;cases ex with
 |exit id'=>
  simp only[IG]at hk;simp only[Exit.inBlock];split
  ·rename_i e;rw[Apb e]at hk;exact hq _ _ _ _ _ hk hr' he
  rename_i e;rw[Apd e]at hk;exact hq _ _ _ _ _ hk hr' he
 |_=>exact hq _ _ _ _ _ hk hr' he
def O9(E:Env)(n:Nat)(c:Code)(K:CO):Nat->St->Prop
 |0,_=>False
 |m+1,st=>Run E n c st (fun ex st'=>match ex with
  |.normal=>O9 E n c K m st'
  |ex=>K ex st')
theorem WE{K:CO}(m:Nat)(h:O9 E n c K m st):Run E n (.loop c) st K:=by
 intro hc a w g hr Q hq;refine wpIn_loop_rounds m ?_
 have key:∀m st a w1 g1,O9 E n c K m st->Rel E w1 g1 st a->Evo E n w g w1 g1->Code.roundsIn E.fen 0 E.P c Q m a w1:=by
  intro m
  induction m with
  |zero=>intro st a w1 g1 h _ _;exact h.elim
  | succ m ih=>
   intro st a w1 g1 h hr1 he1;rw[roundsIn_succ];refine h hc a w1 g1 hr1 _ ?_;intro ex st' a' w' g' hk hr' he'
   cases ex<;>first
    |exact ih st' a' w' g' hk hr' (he1.trans he')
    |exact hq _ _ _ _ _ hk hr' (he1.trans he')
 exact key m st a w g h hr (Evo.refl _ _ _ _)
theorem G4{l:List Oper}{K:CO}(h:Np E n l.toArray l st K):Run E n (.region id l.toArray false) st K :=
 fun hc a w g hr Q hq=>wpIn_region_lit (h (by simpa [UR]using hc) a w g hr Q hq)
theorem Wx{ops:Array Oper}{K:CO}(h:K .normal st):Np E n ops [] st K :=
 fun _ a w g hr Q hq=>wpListIn_nil (hq _ _ _ _ _ h hr (Evo.refl _ _ _ _))
theorem RM{v:Value}{w':World}{next:Act->World->Prop}{r:Result Next}(h:r=.ok (.value v) w'\/(r=.ok .skip w'/\v=undef)) (hn:next (a.put o.dst v) w'):o.upon P a next Q r:=by
 rcases h with rfl|⟨rfl,rfl⟩
 ·exact hn
 exact hn
def Io(ops:Array Oper)(fr:List AV)(j:Nat):Option (Option Bool) :=
 match(ops[j]?).bind (·.dst)with
 |some d=>match fr[d]? with
  |some (.bool b)=>some (some b)
  |some (.tup _)=>some none
  |_=>none
 |none=>none
theorem Km(w:World)(pr:Addr->Prop)(g:Gh):Rep w pr g undef (.tup []):=.tup _ #[] [] rfl (by simp)
theorem GQ{ops:Array Oper}(hr:Rel E w g st a){j:Nat}{y:Option Bool}(h:Io ops st.fr j=some y):yielded ops a.tmps j=y:=by
 unfold Io at h;unfold yielded;split at h
 case h_2=>cases h
 rename_i d hd;split at h
 case h_3=>cases h
 ·rename_i b' hb;cases h;have:=EZ (hr.slot d _ hb);have hl:d<a.tmps.size:=by rw[hr.size];exact(Ao6.1 hb).1
  rw[hd];simp only[Ap4,AB hl,this]
 rename_i xs hb;cases h;have hl:d<a.tmps.size:=by rw[hr.size];exact(Ao6.1 hb).1
 have hs:=hr.slot d _ hb;rw[hd];simp only[Ap4,AB hl];generalize a.tmps.getD d undef=v at hs;cases hs with
 |tup _ vs _ _ _=>rfl
def Base.Ok(B:Base):Prop:=(B.env noF).Ok
theorem Base.Ok.env{B:Base}(h:B.Ok)(F:Out):(B.env F).Ok:=⟨h.desc,h.info⟩
def DoCall(P:Program)(f:FuncId)(vs:Array Value)(w:World)(R:Ending->World->Prop):Prop :=
 ((∃fn c,P.funcs[f]?=some fn/\fn.body=some c/\(fn.name == "runtime.NumGoroutine")=false)/\Calls P f vs w R) \/
 ∃v,(callFunc f vs).run P w=.ok (.value v) w/\R (.returned v) w
theorem DoCall.mono{P:Program}{f:FuncId}{vs:Array Value}{w:World}{R R':Ending->World->Prop}(h:DoCall P f vs w R)(hr:∀e w',R e w'->R' e w'):DoCall P f vs w R':=by
 rcases h with⟨h1,h2⟩|⟨v,h1,h2⟩
 ·exact .inl ⟨h1,h2.mono hr⟩
 exact .inr ⟨v,h1,hr _ _ h2⟩
theorem Ji{fn:Func}(hf:P.funcs[f]?=some fn)(hb:fn.body=some c)(hn:(fn.name == "runtime.NumGoroutine")=false) (vs:Array Value) (w:World) :(callFunc f vs).run P w=.ok (.enter f vs) w:=by
 simp only[Sem.run_bind,Sem.run_pure,Result.andThen_ok,callFunc,run_program,hf,hn,hb];simp[hn,hb]
theorem DoCall.calls{P:Program}{f:FuncId}{vs:Array Value}{w:World}{R:Ending->World->Prop}(h:DoCall P f vs w R){fn:Func}{c:Code}(hf:P.funcs[f]?=some fn)(hb:fn.body=some c)(hn:(fn.name == "runtime.NumGoroutine")=false):Calls P f vs w R:=by
 rcases h with⟨h1,h2⟩|⟨v,h1,h2⟩
 ·exact h2
 rw[Ji hf hb hn]at h1;cases h1
structure Con(B:Base)(f:FuncId)(args:List AV)(O:Ac)(R:AV->Ac->Prop):Prop where
  call:∀(F:Addr->Prop) (w:World) (g:Gh) (vs:Array Value),Mem (B.env F) w g O->C4 w (A3 (B.env F) g) g vs.toList args ->
    DoCall B.P f vs w (fun e w'=>∃v r O' g',e=.returned v/\R r O'/\Mem (B.env F) w' g' O'/\Evo (B.env F) O.length w g w' g'/\Rep w' (A3 (B.env F) g') g' v r)
theorem Con.mono{B:Base}{f:FuncId}{args:List AV}{O:Ac}{R R':AV->Ac->Prop}(h:Con B f args O R)(hr:∀r O',R r O'->R' r O'):Con B f args O R' :=
 ⟨fun F w g vs hm ha=>(h.call F w g vs hm ha).mono fun e w' ⟨v,r,O',g',h1,h2,h3⟩=>⟨v,r,O',g',h1,hr _ _ h2,h3⟩⟩
def Qs(n:Nat)(args:List AV):List AV:=args++List.replicate (n-args.length) .junk
theorem CY{w:World}{pr:Addr->Prop}{g:Gh}:∀{vs:List Value} {xs:List AV},C4 w pr g vs xs->vs.length=xs.length
 |[],[],_=>rfl
 |v::vs,x::xs,h=>by simp[CY h.2]
theorem KA{w:World}{pr:Addr->Prop}{g:Gh}:∀{vs:List Value} {xs:List AV},C4 w pr g vs xs->∀(i:Nat) (x:AV),xs[i]?=some x->Rep w pr g (vs.getD i undef) x
 |[],[],_,i,x,h=>by simp at h
 |v::vs,y::ys,h,0,x,hx=>by simp at hx;subst hx;exact h.1
 |v::vs,y::ys,h,i+1,x,hx=>by simpa using KA h.2 i x (by simpa using hx)
def Fp(E:Env)(O:Ac)(fr:List AV):List ResultVar->Option (List AV)
 |[]=>some []
 |.tmp t::r=>(Fp E O fr r).map (fr.getD t .junk::·)
 | .cell p t::r=>match E.tab t with
  |some d=>match loadA E O d (fr.getD p .junk),Fp E O fr r with
   |some x,some xs=>some (x::xs)
   |_,_=>none
  |none=>none
def Hf:List AV->AV
 |[x]=>x
 |xs=>.tup xs
def JP(tmps:Array Value):ResultVar->Sem Value
 |.tmp t=>pure (tmps.getD t undef)
 |.cell p t=>do loadVar t (<-asAddr (tmps.getD p undef))
theorem Gm(hE:E.Ok){w:World}{g:Gh}{st:St}{a:Act}(hr:Rel E w g st a):∀(rs:List ResultVar) (xs:List AV),Fp E st.O st.fr rs=some xs ->∃vs,(rs.mapM (JP a.tmps)).run E.P w=.ok vs w/\C4 w (A3 E g) g vs xs
 |[],xs,h=>by simp[Fp]at h;subst h;exact⟨[],rfl,trivial⟩
 | .tmp t::r,xs,h=>by
  simp only[Fp,Ao5]at h;obtain⟨ys,hy,rfl⟩:=h;obtain⟨vs,h1,h2⟩:=Gm hE hr r ys hy;refine⟨a.tmps.getD t undef::vs,?_,?_,h2⟩
  ·rw[AqB,Sem.run_bind];simp only[JP,Sem.run_pure,Result.andThen_ok,Sem.run_bind,h1]
  have:=En hr (.tmp t);exact this
 | .cell p t::r,xs,h=>by
  simp only[Fp]at h;split at h
  case h_2=>cases h
  rename_i d ht;split at h
  case h_2=>cases h
  rename_i x ys hx hy;cases h;obtain⟨vs,h1,h2⟩:=Gm hE hr r ys hy;have hrep:=En hr (.tmp p);obtain⟨u,hu,hru⟩:=Q9 hE hr.mem ht hrep hx
  have hptr:∃ad,a.tmps.getD p undef=.pointer (some ad):=by
   have h3:(Instr.loadAt t (a.tmps.getD p undef)).run E.P w=.ok u w:=hu;generalize a.tmps.getD p undef=v at h3
   cases v<;>first
    |(simp[Instr.loadAt,Instr.sureAddr]at h3;done)
    |(rename_i o;cases o<;>first|(simp[Instr.loadAt,Instr.sureAddr]at h3;done)|exact⟨_,rfl⟩)
  obtain⟨ad,had⟩:=hptr;refine⟨u::vs,?_,hru,h2⟩;have h3:(Instr.loadAt t (a.tmps.getD p undef)).run E.P w=.ok u w:=hu;rw[had]at h3;simp only[Instr.loadAt,Instr.sureAddr,Sem.run_bind,Sem.run_pure,Result.andThen_ok]at h3;rw[AqB,Sem.run_bind];simp only[JP,had,asAddr,Sem.run_bind,Sem.run_pure,Result.andThen_ok,h3,h1]
theorem HD{pr:Addr->Prop}{vs:List Value}{xs:List AV}(h:C4 w pr g vs xs):Rep w pr g (if h:vs.toArray.size=1 then vs.toArray[0]else .tuple vs.toArray) (Hf xs):=by
 match vs,xs,h with
 |[],[],_=>exact .tup _ #[] [] rfl (by simp)
 |[v],[x],h=>exact h.1
 |v::v2::vs,x::x2::xs,h=>
  have hl:=CY h;rw[dif_neg (by simp)];refine .tup _ _ _ (by simpa using hl) ?_;intro i y hy;have:=KA h i y hy;simpa [Apt,ApU]using this
theorem AbR{B:Base}{fn:Func}{args:List AV}{O:Ac}{R:AV->Ac->Prop}(hB:B.Ok)(hf:B.P.funcs[f]?=some fn)(hb:fn.body=some c)(hn:(fn.name == "runtime.NumGoroutine")=false) (h:∀F:Addr->Prop,Run (B.env F) O.length c ⟨Qs fn.ntmps args,O⟩ (fun ex st=>(ex=.normal\/ex=.ret)/\∃xs,Fp (B.env F) st.O st.fr fn.results.toList=some xs/\R (Hf xs) st.O)):Con B f args O R:=by
 refine⟨fun F w g vs hm ha=>.inl ⟨⟨fn,c,hf,hb,hn⟩,?_⟩⟩;have hE:=hB.env F;refine calls_of_wp hf hb ?_;have hlen:=CY ha;simp only[Aqb]at hlen;refine Hu (h F) rfl (g:=g) ⟨?_,?_,hm,.plain rfl⟩ ?_
 ·simp[Qs,hlen]
 ·intro t x hx;simp only[Qs]at hx;rcases ApX t args.length with hl|hl
  ·rw[Aph hl]at hx;have:=KA ha t x hx
   have e:(vs++Array.replicate (fn.ntmps-vs.size) undef).getD t undef=vs.toList.getD t undef:=by
    refine A2 ?_;rw[AqL (by omega),AB (by omega)];simp[Apt,ApU]
   rw[e];exact this
  rw[Ape hl,AqY]at hx;split at hx
  ·cases hx;exact .junk _ _
  cases hx
 intro ex st a' w' g' hk hr he;obtain⟨hex,xs,hxs,hR⟩:=hk;obtain⟨us,hus,hrep⟩:=Gm hE hr fn.results.toList xs hxs
 have hres:(results fn a'.tmps).run B.P w'=.ok (if h:us.toArray.size=1 then us.toArray[0]else .tuple us.toArray) w':=by
  have e:results fn a'.tmps=(do let vs <-fn.results.mapM (JP a'.tmps);pure (if h:vs.size=1 then vs[0]else .tuple vs)):=rfl;have hus':(fn.results.toList.mapM (JP a'.tmps)).run B.P w'=.ok us w':=hus;rw[e,Sem.run_bind,AqC,Sem.run_map,hus'];rfl
 rcases hex with rfl|rfl
 ·exact⟨hr.defers.eq rfl,_,hres,_,_,_,g',rfl,hR,hr.mem,he,HD hrep⟩
 exact⟨hr.defers.eq rfl,_,hres,_,_,_,g',rfl,hR,hr.mem,he,HD hrep⟩
end Go.Rv
