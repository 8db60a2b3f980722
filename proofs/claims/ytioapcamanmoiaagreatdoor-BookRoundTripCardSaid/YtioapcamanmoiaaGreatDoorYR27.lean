/-
  Part 27.
-/
import Derived.Test.YtioapcamanmoiaaGreatDoorYR26
namespace Go.Rv
set_option linter.unusedVariables false
set_option linter.unusedSimpArgs false
variable{f:FuncId}{args vals:List AV}{σ σ' σ1 σ2:Ab}{v:Value}{o x:Oper}{st:St}{orc:Option Tmp→Orc}{m n id k:Nat}{l:List Oper}{fr:Fr}{K:Cl}{ops:Array Oper}
variable {E:Env}
abbrev VZ(v:Value):List PanicEntry:=[{ v:=v,recovered:=false }]
structure Pan(B:Base)(f:FuncId)(args:List AV)(σ:Ab)(v:Value)(σ2:Ab):Prop where
  call:∀(F:Addr→Prop) (w:World) (g:Gh) (vs:Array Value),Mem (B.env F) w g σ→BA w (A4 (B.env F) g) g vs.toList args →
    DoCall B.P f vs w (fun e w'=>∃g',e=.panicked (VZ v)∧Mem (B.env F) w' g' σ2∧Evo (B.env F) σ.length w g w' g')
inductive Outc
  |ret (r:AV) (σ:Ab)
  |pan (v:Value) (σ:Ab)
def PCon(B:Base)(f:FuncId)(args:List AV)(σ:Ab):Outc→Prop
 |.ret r σ'=>Con B f args σ (fun r1 σ1=>r1=r∧σ1=σ')
 |.pan v σ'=>Pan B f args σ v σ'
theorem PCon.to{B:Base}{f:FuncId}{args:List AV}{σ:Ab}{o:Outc}(h:PCon B f args σ o){r:AV}{σ':Ab}(ho:o=.ret r σ'):Con B f args σ (fun r1 σ1=>r1=r∧σ1=σ'):=by
 subst ho;exact h
theorem PCon.pan{B:Base}{f:FuncId}{args:List AV}{σ:Ab}{o:Outc}(h:PCon B f args σ o){v:Value}{σ':Ab}(ho:o=.pan v σ'):Pan B f args σ v σ':=by
 subst ho;exact h
def Agf(E:Env)(f:FuncId)(args:List AV)(σ:Ab)(v:Value)(σ':Ab):Prop :=
 ∀(w:World) (g:Gh) (vs:Array Value),Mem E w g σ→BA w (A4 E g) g vs.toList args →
  DoCall E.P f vs w (fun e w'=>∃g',e=.panicked (VZ v)∧Mem E w' g' σ'∧GLe g g'∧Evo E 0 w g w' g')
theorem Aeg(h:Agf (E.toBase.env E.F) f args σ v σ'):Agf E f args σ v σ':=by
 refine fun w g vs hm ha=>(h w g vs (AdJ hm) ha).mono ?_
 rintro e w' ⟨g',h1,h2,h3,h4⟩;exact⟨g',h1,AdU h2,h3,AdQ h4⟩
theorem Xe{B:Base}{args1:List AV}(hcon:Pan B f args1 σ1 v σ2)(sel:List Nat)(hnd:sel.Nodup)(hσ:HX sel σ sel σ1) (ha:wkA sel args args1) (hb:BE σ2=true) (F:Addr→Prop):Agf (B.env F) f args σ v (LG σ sel (σ2.map (Abk sel σ.length))):=by
 refine fun w g vs hm har=>?_
 refine(PV (Fin:=fun e w' pr g=>e=.panicked (VZ v)) (fun F w g vs hm har=>(hcon.call F w g vs hm har).mono ?_) sel hnd hσ ha hb F hm har).mono ?_
 ·rintro e w' ⟨g',h1,h3,h4⟩;exact⟨g',h1,h3,h4⟩
 ·rintro e w' ⟨g',pr1,g1,h1,_,h3,h4,h6⟩;exact⟨g',h1,h3,h4,h6⟩
theorem Dy{B:Base}{args1:List AV}(hcon:Pan B f args1 σ1 v σ2)(sel:List Nat)(hnd:sel.Nodup)(hσ:HX sel σ sel σ1) (ha:wkA sel args args1) (hb:BE σ2=true) {σ':Ab} (hs:LG σ sel (σ2.map (Abk sel σ.length))=σ'):∀F:Addr→Prop,Agf (B.env F) f args σ v σ':=by
 subst hs;exact Xe hcon sel hnd hσ ha hb
def Q4(E:Env)(ρ:Operand→AV)(σ:Ab)(op:Op)(v:Value)(σ':Ab):Prop :=
 (∃x t k n,op=.panic x∧ρ x=.iface t (.int k n)∧v=.iface t (.int k n)∧σ'=σ) ∨
 (∃c f fid,op=.call c∧c.callee=.value f∧ρ f=.fn fid []∧Agf E fid (c.args.toList.map ρ) σ v σ')
theorem AdN(h:Q4 E (ev st.fr) st.σ o.op v σ'){a:Act}{w:World}{g:Gh}(hr:Rel E w g st a){next:Act→World→Prop}{Q:Exit→Act→World→Prop} (hk:∀w' g',Rel E w' g' ⟨st.fr,σ'⟩ a→Evo E 0 w g w' g'→GLe g g'→Q (.panic (VZ v)) a w'):o.wp E.P a w next Q:=by
 rcases h with⟨x,t,k,n,hop,hx,rfl,rfl⟩|⟨c,f,fid,hop,hc,hf,hp⟩
 ·have hv:=DP hr x;rw[hx]at hv
  have e:a.eval x=.iface t (.int k n):=by
   generalize a.eval x=u at hv;cases hv with
   |iface _ _ v _ h2=>cases h2;rfl
  unfold Oper.wp
  have:(execOp a.eval o).run E.P w=.halt (.panic (.iface t (.int k n))) w:=by
   unfold execOp;rw[hop];simp only[e];rfl
  rw[this,Oper.upon_panic];exact hk w g hr (Evo.refl _ _ _ _) (GLe.refl _)
 ·have hfv:=DP hr f;rw[hf]at hfv;obtain⟨capv,hcv,hcr⟩:=Df hfv
  have hcapv:capv=#[]:=by
   have:=Cu hcr;apply AqB;simpa using this
  subst hcapv;refine Im (B:=E.toBase) hop hc hcv (hp w g (c.args.map a.eval++#[]) hr.mem ?_) ?_
  ·rw[AqE,ApZ];exact D8 _ _ (DP hr) _
  ·rintro e w' ⟨g',rfl,hm',hle,he⟩;exact hk w' g' (Ho hr hm' hle he) he hle
theorem Vu(fr:List AV)(d:Option Tmp)(v:AV):(AM fr d v).length=fr.length:=by cases d<;>simp[AM]
theorem Hw(n:Nat)(l:Fr):(Aq n l).length=n:=by simp[Aq]
theorem WZ{E:Env}(hE:E.Ok)(hO:HU E.toBase orc)(hk0:l[k]?=some o)(hg:o.guard=none){fr1:Fr} (h:Bp E orc false n l.toArray (l.take k) (fr,σ)=some (fr1,σ1)) (hp:Q4 E (ev (Aq n fr1)) σ1 o.op v σ2) (hk:K (.panic (VZ v)) ⟨Aq n fr1,σ2⟩):Run E m (.region id l.toArray false) ⟨Aq n fr,σ⟩ K:=by
 refine Ha ?_;have hkl:=(AoK.1 hk0).1
 have hl:l=l.take k++(o::l.drop (k+1)):=by
  conv=>lhs;rw[←AqD k l,Apn hkl]
  rw[(AoK.1 hk0).2]
 have:=FQ (E:=E) (m:=m) (K:=K) (ops:=l.toArray) (rest:=o::l.drop (k+1)) hE hO (l.take k) fr σ fr1 σ1 h (by
  intro hcm a w g hr Q hq;obtain⟨cm1,cm2⟩:=NI hcm;simp only[wpListIn,Region.wanted,hg,Aqe];refine ZF ?_ cm1;refine AdN (st:=⟨Aq n fr1,σ1⟩) hp hr (fun w' g' hr' he hle=>?_);exact hq _ _ _ _ _ hk hr' (he.of_gle hle))
 rw[←hl]at this;exact this
def AaE:AV→Option AV
 |.iface t (.int k z)=>some (.val (.iface t (.int k z)))
 |_=>none
theorem WA{t:TypeId}{x:Int}:AaE (.iface t (i64 x))=some (.val (.iface t (.int .i64 x))):=rfl
noncomputable def AgG(m:List (Nat×FuncId×List AV×Ab×AV×Ab))(n:Nat)(ks:List Nat)(o:Oper):Option (Fr×Ab)→Option ((AV×Ab)×List AV)
 | some (fr,σ)=>match o.op with
  |.panic x=>(AaE (evL n fr x)).map fun u=>((u,σ),ks.map fun t=>evL n fr (.tmp t))
  | .call c=>match c.callee with
   |.value f=>match evL n fr f with
    |.fn fid []=>(R6 m o.dst fid (c.args.toList.map (evL n fr)) σ).map fun r=>(r,ks.map fun t=>evL n fr (.tmp t))
    |_=>none
   |_=>none
  |_=>none
 |none=>none
def XZ(B:Base):List (Nat×FuncId×List AV×Ab×AV×Ab)→Prop
 |[]=>True
 |e::l=>(∀v,e.2.2.2.2.1=.val v→∀F:Addr→Prop,Agf (B.env F) e.2.1 e.2.2.1 e.2.2.2.1 v e.2.2.2.2.2)∧XZ B l
theorem Aa5{B:Base}:∀{l:List (Nat×FuncId×List AV×Ab×AV×Ab)},XZ B l→∀d f a σ v σ',R6 l d f a σ=some (.val v,σ')→∀F:Addr→Prop,Agf (B.env F) f a σ v σ'
  |[],_,d,f,a,σ,v,σ',h=>by cases h
  | e :: l,hl,d,f,a,σ,v,σ',h=>by
    unfold R6 at h;split at h
    · split at h
      · rename_i hfa
        obtain⟨rfl,rfl,rfl⟩:=hfa;obtain⟨t,f,a,σ,r2,σ2⟩:=e;cases h;exact hl.1 v rfl
      · cases h
    · exact Aa5 hl.2 d f a σ v σ' h
theorem Qm{m:List (Nat×FuncId×List AV×Ab×AV×Ab)}(hm:XZ E.toBase m){ks:List Nat}(h:AgG m n ks o (some (fr,σ))=some ((.val v,σ'),vals)) :Q4 E (ev (Aq n fr)) σ o.op v σ'∧vals=ks.map fun t=>ev (Aq n fr) (.tmp t):=by
 simp only[AgG]at h;rw[DI];split at h
 ·rename_i x hop;rw[AoL]at h;obtain⟨u,h1,h2⟩:=h;unfold AaE at h1;split at h1
  ·rename_i t k z hx;simp only[AoM]at h1;subst h1;simp only[AoV,AV.val.injEq]at h2;obtain⟨⟨rfl,rfl⟩,rfl⟩:=h2;exact⟨.inl ⟨x,t,k,z,hop,hx,rfl,rfl⟩,rfl⟩
  ·cases h1
 ·rename_i c hop;split at h
  ·rename_i f hc;split at h
   ·rename_i fid hf;rw[AoL]at h;obtain⟨r,h,e⟩:=h;simp only[AoV]at e;obtain⟨rfl,rfl⟩:=e;exact⟨.inr ⟨c,f,fid,hop,hc,hf,Aeg (Aa5 hm _ _ _ _ _ _ h E.F)⟩,rfl⟩
   ·cases h
  ·cases h
 ·cases h
def AgI(E:Env)(orc:Option Tmp→Orc)(dr:Bool)(n:Nat)(l:List Oper)(k:Nat)(s:Fr×Ab):Option (Fr×Ab):=Bp E orc dr n l.toArray (l.take k) s
theorem Afh{dr:Bool}{s:Fr×Ab}:AgI E orc dr n l k s=HT E orc dr n l.toArray (l.take k) (some s):=by
 rw[Dv];rfl
theorem GX(hE:E.Ok)(ks:List Nat)(k:Nat)(o:Oper)(hk0:l[k]?=some o)(hg:o.guard=none) (h:∃orc pl,HU E.toBase orc∧XZ E.toBase pl∧AgG pl n ks o (AgI E orc false n l k (fr,σ))=some ((.val v,σ2),vals)) (hk:∀fr',fr'.length=n→(ks.map fun t=>ev fr' (.tmp t))=vals→K (.panic (VZ v)) ⟨fr',σ2⟩):Run E m (.region id l.toArray false) ⟨Aq n fr,σ⟩ K:=by
  obtain⟨orc,pl,hO,hP,h⟩:=h;cases hpre:AgI E orc false n l k (fr,σ)with
  |none=>rw[hpre]at h;cases h
  | some s=>
    rw[hpre]at h;exact WZ hE hO hk0 hg hpre (Qm hP h).1 (hk _ (Hw _ _) (Qm hP h).2.symm)
theorem Fz(hE:E.Ok)(ks:List Nat)(k:Nat)(o:Oper)(hk0:l[k]?=some o)(hg:o.guard=none) (h:∃orc pl,HU E.toBase orc∧XZ E.toBase pl∧AgG pl n ks o (AgI E orc false n l k (fr,σ))=some ((.val v,σ2),vals)) {y:Code} (hk:∀fr',fr'.length=n→(ks.map fun t=>ev fr' (.tmp t))=vals→K (.panic (VZ v)) ⟨fr',σ2⟩):Run E m (.seq (.region id l.toArray false) y) ⟨Aq n fr,σ⟩ K :=
 Io (GX hE ks k o hk0 hg h hk)
def AaL(ops:Array Oper)(o x:Oper):Bool:=match x.dst with
 |some d=>(o.looksAt ops).contains d
 |none=>false
def U2(E:Env)(ops:Array Oper)(T:List (List Nat))(k:Nat):Bool :=
 (List.range k).all fun i=>(List.range i).all fun j=>(T.getD i []).contains j||(match ops[j]?,ops[i]? with
  |some x,some y=>Ji E ops x y
  |_,_=>false)
def AbL(E:Env)(ops:Array Oper)(T:List (List Nat))(k:Nat):Bool:=match ops[k]? with
 |some o=>(List.range ops.size).all fun j=>j==k||(if j<k then(T.getD k []).contains j||(match ops[j]? with
  |some x=>!OQ E ops x&&!AaL ops o x
  |none=>false)else(T.getD j []).contains k)
 |none=>false
theorem XJ{ρ ρ':Operand→AV}{op:Op}(hρ:∀x∈op.operands,ρ x=ρ' x)(h:Q4 E ρ σ op v σ'):Q4 E ρ' σ op v σ':=by
 rcases h with⟨x,t,k,n,rfl,hx,rfl,rfl⟩|⟨c,f,fid,rfl,hc,hf,hp⟩
 ·exact .inl ⟨x,t,k,n,rfl,by rw[←hρ x (by simp[Op.operands])];exact hx,rfl,rfl⟩
 ·have hfo:f∈(Op.call c).operands:=by simp[Op.operands,Call.operands,hc]
  have hargs:c.args.toList.map ρ=c.args.toList.map ρ':=Ap6 fun x hx=>hρ x (by
   simp only[Op.operands,Call.operands];simp only[Array.mem_append,Array.mem_toList_iff]at hx ⊢;simp[hx])
  exact .inr ⟨c,f,fid,rfl,hc,by rw[←hρ f hfo];exact hf,by rw[←hargs];exact hp⟩
theorem Xd{st1:St}(he:OQ E ops x=false)(h:BU E orc ops x st=some st1):st1.σ=st.σ∧∃v,st1.fr=AM st.fr x.dst v:=by
 unfold BU at h;rw[AoL]at h;obtain⟨⟨v,σ'⟩,hv,rfl⟩:=h;exact⟨CC he hv,v,rfl⟩
theorem Mw{orc:Option Tmp→Orc}{ops:Array Oper}{o:Oper}{v:Value}{σ':Ab}:∀(l:List Nat) (st st1:St),(∀j∈l,∀x,ops[j]?=some x→OQ E ops x=false∧AaL ops o x=false) →AY E orc ops l st=some st1→Q4 E (ev st1.fr) st1.σ o.op v σ'→Q4 E (ev st.fr) st.σ o.op v σ'
  | [],st,st1,_,h,hp=>by
    simp only[AY,AoM]at h;subst h;exact hp
  | i :: l,st,st1,hl,h,hp=>by
    unfold AY at h;cases hi:ops[i]? with
    |none=>simp[hi]at h
    | some x=>
      simp only[hi,AoW]at h;obtain⟨st2,h2,h3⟩:=h;have hp2:=Mw l st2 st1 (fun j hj=>hl j (Api _ hj)) h3 hp;obtain⟨e1,e2⟩:=hl i Ao2 x hi;obtain⟨s1,u,s2⟩:=Xd e1 h2;rw[s1]at hp2;refine XJ (fun y hy=>?_) hp2;rw[s2];refine Lg fun d hd hyd=>?_
      subst hyd;have:=Ov (ops:=ops) hy;unfold AaL at e2;rw[hd]at e2;simp[this]at e2
def ZW(ks:List Nat)(l:List Oper):Bool:=ks.all fun t=>l.all fun o=>o.dst != some t
theorem I9{fr:List AV}{d:Option Tmp}{v:AV}{t:Nat}(h:d≠some t):ev (AM fr d v) (.tmp t)=ev fr (.tmp t) :=
 Lg fun e he h2=>by cases h2;exact h he
theorem Rg{st1:St}(h:BU E orc ops x st=some st1):∃v,st1.fr=AM st.fr x.dst v:=by
 unfold BU at h;rw[AoL]at h;obtain⟨⟨v,σ'⟩,hv,rfl⟩:=h;exact⟨v,rfl⟩
theorem Wq{ks:List Nat}(hks:ZW ks l=true){i:Nat}(hx:l.toArray[i]?=some x){t:Nat}(ht:t∈ks):x.dst≠some t:=by
 have h1:=AoZ.1 hks t ht;have h2:=AoZ.1 h1 x (AoT (by simpa using hx));simpa using h2
theorem NJ{orc:Option Tmp→Orc}{ks:List Nat}{l:List Oper}(hks:ZW ks l=true){t:Nat}(ht:t∈ks):∀(js:List Nat) (st st1:St),AY E orc l.toArray js st=some st1→ev st1.fr (.tmp t)=ev st.fr (.tmp t)
  | [],st,st1,h=>by
    simp only[AY,AoM]at h;subst h;rfl
  | i :: js,st,st1,h=>by
    unfold AY at h;cases hi:l.toArray[i]? with
    |none=>simp[hi]at h
    | some x=>
      simp only[hi,AoW]at h;obtain⟨st2,h2,h3⟩:=h;rw[NJ hks ht js st2 st1 h3];obtain⟨v,e⟩:=Rg h2;rw[e,I9 (Wq hks hi ht)]
theorem Y0(hE:E.Ok)(hO:∀d,LW E.toBase (orc d)){T:List (List Nat)}(hc:E7 ops T=true)(hm:U2 E ops T k=true)(hkp:AbL E ops T k=true)(hok:ops[k]?=some o)(hgo:o.guard=none) {v:Value} {σ':Ab} {Q:Exit→Act→World→Prop} {l:List Oper} (hlo:l.toArray=ops) (ks:List Nat) (hks:ZW ks l=true) (fr0:List AV) :∀ (fuel:Nat) (l1 l2:List Nat) (listed:Array Bool) (st stk:St) (a:Act) (w:World) (g:Gh),(l1++k::l2).length=fuel→(l1++k::l2).Pairwise (·<·)→listed.size=ops.size →(∀j,listed.getD j true=false↔j∈l1++k::l2)→(∀i,i<ops.size→i ∉ l1++k::l2→∀d∈CS ops i,d ∉ l1++k::l2) →AY E orc ops l1 st=some stk→Q4 E (ev stk.fr) stk.σ o.op v σ'→Rel E w g st a→((∀t∈ks,ev st.fr (.tmp t)=ev fr0 (.tmp t))∧st.fr.length=fr0.length)→(∀a' fr' w' g',((∀t∈ks,ev fr' (.tmp t)=ev fr0 (.tmp t))∧fr'.length=fr0.length)→Rel E w' g' ⟨fr',σ'⟩ a'→Evo E 0 w g w' g'→GLe g g'→Q (.panic (VZ v)) a' w') →wpAny E.P .any ops Q fuel listed a w:=by
  have hksz:k<ops.size:=(AoY.1 hok).1
  have hin:∀(rem:List Nat) (listed:Array Bool),listed.size=ops.size→(∀j,listed.getD j true=false↔j∈rem)→∀j∈rem,j<ops.size:=by
    intro rem listed hs hl j hj;have:=(hl j).2 hj;by_cases e:j<listed.size
    · omega
    · simp[Array.getD,e]at this
  have hgd:∀(rem:List Nat) (listed:Array Bool),listed.size=ops.size→(∀j,listed.getD j true=false↔j∈rem)→∀d,d<ops.size→(listed.getD d false=true↔d ∉ rem):=by
    intro rem listed hs hl d hd
    have h1:listed.getD d false=listed.getD d true:=by
      have:d<listed.size:=by omega
      simp[Array.getD,this]
    rw[h1,←hl d];cases listed.getD d true<;>simp
  have hrd:∀(rem:List Nat) (listed:Array Bool),listed.size=ops.size→(∀j,listed.getD j true=false↔j∈rem)→∀i,
      (i∈Region.ready .any ops listed↔i∈rem∧∀d∈CS ops i,d ∉ rem):=by
    intro rem listed hs hl i;rw[mem_ready,hl i];constructor
    · rintro⟨h1,o,ho,h2⟩
      refine⟨h1,fun d hd=>?_⟩;have hlt:=Cj hc (hin rem listed hs hl i h1) hd;have hds:=Aqh hlt (hin rem listed hs hl i h1);obtain⟨e,he,hb,rfl⟩:=(CV ho).1 hd;exact(hgd rem listed hs hl _ hds).1 (h2 e he hb)
    · rintro⟨h1,h2⟩
      have hi:=hin rem listed hs hl i h1;refine⟨h1,ops[i],Ao1 hi,fun e he hb=>?_⟩;have hd:e.on∈CS ops i:=(CV (Ao1 hi)).2 ⟨e,he,hb,rfl⟩;exact(hgd rem listed hs hl _ (Aqh (Cj hc hi hd) hi)).2 (h2 _ hd)
  have hpan:∀j,j<ops.size→j≠k→(j<k→j∈T.getD k []∨∀x,ops[j]?=some x→OQ E ops x=false∧AaL ops o x=false)∧(k<j→k∈T.getD j []):=by
    intro j hj hne;unfold AbL at hkp;rw[hok]at hkp;have:=A5 hkp hj;simp only[Apu,ApQ,hne,false_or]at this;constructor
    · intro hlt
      rw[AoO hlt]at this;simp only[Apu,Apf]at this;rcases this with h|h
      · exact .inl h
      · refine .inr fun x hx=>?_
        rw[hx]at h;simpa using h
    · intro hlt
      rw[AoQ (by omega)]at this;simpa using this
  intro fuel
  induction fuel with
  | zero=>
    intro l1 l2 listed st stk a w g hf;simp at hf
  | succ fuel ih=>
    intro l1 l2 listed st stk a w g hf hp hs hl hd hst hpa hr hag hq;have hkmem:k∈l1++k::l2:=by simp
    have hnosub:∀i∈l1++k::l2,(∀d∈CS ops i,d ∉ l1++k::l2)→∀j∈T.getD i [],j ∉ l1++k::l2:=fun i hi hid j hj=>D0 hc hd i (hin _ listed hs hl i hi) hid j hj
    refine⟨fun h=>?_,fun i hi=>?_⟩
    · exfalso
      have:∃i,i∈Region.ready .any ops listed:=by
        cases l1 with
        | nil=>
          refine⟨k,(hrd _ listed hs hl k).2 ⟨by simp,fun d hdk hm=>?_⟩⟩;have hlt:=Cj hc hksz hdk;rcases Ao9.1 hm with e|hm
          · omega
          · have:=Apc (by simpa using hp) hm
            omega
        | cons i0 l1'=>
          have hi0:i0<ops.size:=hin _ listed hs hl i0 (by simp);refine⟨i0,(hrd _ listed hs hl i0).2 ⟨by simp,fun d hdk hm=>?_⟩⟩;have hlt:=Cj hc hi0 hdk;rw[Ao5]at hm hp;rcases Ao9.1 hm with e|hm
          · omega
          · have:=Apc hp hm
            omega
      obtain⟨i,hi⟩:=this;rw[h]at hi;cases hi
    · obtain ⟨hir,hid⟩:=(hrd _ listed hs hl i).1 hi
      have his:=hin _ listed hs hl i hir;have hp':=hp;rw[Apl]at hp';obtain⟨p1,p2,p3⟩:=hp';rcases Ao8.1 hir with h1|h1
      ·
        obtain⟨l11,l12,rfl⟩:=AqU h1;have hik:i<k:=p3 i h1 k (by simp)
        have hcm:∀j∈l11,∀x,ops[j]?=some x→Ji E ops x ops[i]=true:=by
          intro j hj x hx
          have hji:j<i:=by
            rw[Apl]at p1;exact p1.2.2 j hj i Ao2
          have h1:=A5 (A5 hm hik) hji;simp only[Apu,Apf]at h1;rcases h1 with h1|h1
          · exact(hnosub i hir hid j h1 (by simp[hj])).elim
          · simp only[hx,Ao1 his]at h1
            exact h1
        obtain⟨st1,q1,q2⟩:=Fg (Ao1 his) l11 st hcm hst
        have hmem:∀j,j∈(l11++l12)++k::l2↔j∈(l11++i::l12)++k::l2∧j≠i:=by
          have hnd:∀j∈(l11++l12)++k::l2,j≠i:=by
            intro j hj e;subst e;rw[Apl]at p1;obtain⟨a1,a2,a3⟩:=p1;rcases Ao8.1 hj with hj|hj
            · rcases Ao8.1 hj with hj|hj
              · have:=a3 j hj j Ao2;omega
              · have:=Apc a2 hj;omega
            · rcases Ao9.1 hj with e|hj
              · omega
              · have:=p3 j h1 j (Api _ hj);omega
          intro j;constructor
          · intro hj
            refine⟨?_,hnd j hj⟩;simp only[Ao8,Ao9]at hj ⊢;rcases hj with(hj|hj)|hj
            · exact .inl (.inl hj)
            · exact .inl (.inr (.inr hj))
            · exact .inr hj
          · rintro⟨hj,hne⟩
            simp only[Ao8,Ao9]at hj ⊢;rcases hj with(hj|hj|hj)|hj
            · exact .inl (.inl hj)
            · exact(hne hj).elim
            · exact .inl (.inr hj)
            · exact .inr hj
        refine JU hE hO (Ao1 his) q1 hr fun a1 w1 g1 hr1 he1 hg1=>?_
        refine ih (l11++l12) l2 (listed.setIfInBounds i true) st1 stk a1 w1 g1 ?_ ?_ ?_ ?_ ?_ q2 hpa hr1 ?_ ?_
        · simp at hf ⊢;omega
        · refine hp.sublist ?_
          exact Aq0 (Aqr (Aqz i l12) l11) _
        · simp[hs]
        · intro j
          rw[hmem j,←hl j];by_cases e:j=i
          · subst e
            have:j<listed.size:=by omega
            simp[Array.getD,this]
          · rw[getD_set_ne true (fun h=>e h.symm)]
            simp[e]
        · intro j hj hjn d hdk hdm
          have hd2:=((hmem d).1 hdm).1;by_cases e:j=i
          · subst e
            exact hid d hdk hd2
          · exact hd j hj (fun h=>hjn ((hmem j).2 ⟨h,e⟩)) d hdk hd2
        · obtain⟨v1,e1⟩:=Rg q1
          refine⟨fun t ht=>?_,by rw[e1,Vu];exact hag.2⟩;have hx:l.toArray[i]?=some ops[i]:=by rw[hlo];exact Ao1 his
          rw[e1,I9 (Wq hks hx ht)];exact hag.1 t ht
        · intro a' fr' w' g' ha' hr' he' hg'
          exact hq a' fr' w' g' ha' hr' (he1.trans he') (hg1.trans hg')
      · rcases Ao9.1 h1 with rfl|h2
        ·
          have hlk:∀j∈l1,∀x,ops[j]?=some x→OQ E ops x=false∧AaL ops o x=false:=by
            intro j hj;have hjk:j<i:=p3 j hj i (by simp);rcases(hpan j (by omega) (by omega)).1 hjk with h|h
            · exact(hnosub i hir hid j h (by simp[hj])).elim
            · exact h
          have hp0:=Mw l1 st stk hlk hst hpa;unfold wpOp;simp only[hok,Region.wanted,hgo,Aqe];left;exact AdN hp0 hr (fun w' g' hr' he hle=>hq _ _ _ _ hag hr' he hle)
        · exfalso
          have hki:k<i:=Apc p2 h2;exact hnosub i hir hid k ((hpan i his (by omega)).2 hki) hkmem
theorem MR(hE:E.Ok)(hO:HU E.toBase orc)(hP:E.P.follows .mixedOrders=true)(ks:List Nat)(hks:ZW ks l=true)(hk0:l[k]?=some o)(hg:o.guard=none)(T:List (List Nat))(hok1:E7 l.toArray T=true)(hok2:U2 E l.toArray T k=true)(hok3:AbL E l.toArray T k=true) {fr fr1:Fr} {σ σ1:Ab} {v:Value} {σ2:Ab} {K:Cl} (h:Bp E orc true n l.toArray (l.take k) (fr,σ)=some (fr1,σ1)) (hp:Q4 E (ev (Aq n fr1)) σ1 o.op v σ2) (hk:∀fr',fr'.length=n→(ks.map fun t=>ev fr' (.tmp t))=(ks.map fun t=>ev (Aq n fr1) (.tmp t))→K (.panic (VZ v)) ⟨fr',σ2⟩):Run E m (.region id l.toArray true) ⟨Aq n fr,σ⟩ K:=by
  intro hcm a w g hr Q hq;refine IU (JE hcm) (wp_region_any hP ?_);have hsm:SameMem w { w with drawn:=w.drawn+1 }:=⟨rfl,rfl,rfl,rfl⟩;have hkl:=(AoK.1 hk0).1
  have hsp:List.range l.length=List.range k++k::List.range' (k+1) (l.length-(k+1)):=by
    rw[ApD,ApD]
    have h1:List.range' 0 l.length=List.range' 0 k++List.range' (0+1*k) (l.length-k):=by
      rw[List.range'_append];congr 1;omega
    rw[h1];congr 1;have:l.length-k=(l.length-(k+1))+1:=by omega
    rw[this,Arj];simp
  have hst:AY E orc l.toArray (List.range k) ⟨Aq n fr,σ⟩=some ⟨Aq n fr1,σ1⟩:=by
    have key:∀(q j:Nat) (fr fr':Fr) (σ σ':Ab),j+q≤l.length→Bp E orc true n l.toArray ((l.drop j).take q) (fr,σ)=some (fr',σ') →
        AY E orc l.toArray (List.range' j q) ⟨Aq n fr,σ⟩=some ⟨Aq n fr',σ'⟩:=by
      intro q
      induction q with
      | zero=>
        intro j fr fr' σ σ' _ h;simp only[List.take_zero,Bp,AoM,AoV]at h;obtain⟨rfl,rfl⟩:=h;rfl
      | succ q ih=>
        intro j fr fr' σ σ' hle h;have hj:j<l.length:=by omega
        rw[Apn hj,Aq2]at h;simp only[Bp,AoW]at h;obtain⟨⟨fr2,σ2⟩,h1,h2⟩:=h;rw[Arj];unfold AY;have:l.toArray[j]?=some l[j]:=by simp[hj]
        simp only[this,KL h1,AoP];exact ih (j+1) _ _ _ _ (by omega) h2
    have:=key k 0 fr fr1 σ σ1 (by omega) (by simpa using h);rw[ApD];exact this
  refine Y0 hE hO hok1 hok2 hok3 (by simpa using hk0) hg rfl ks hks (Aq n fr) l.toArray.size (List.range k) (List.range' (k+1) (l.length-(k+1))) _ _ _ a _ g ?_ ?_ (by simp) ?_ ?_ hst hp (IV hr hsm) ⟨fun _ _=>rfl,rfl⟩ ?_
  · rw[←hsp];simp
  · rw[←hsp];exact Aqk
  · intro j
    rw[←hsp,Apz];by_cases h:j<l.length<;>simp[Array.getD,h]
  · intro i hi hin
    rw[←hsp]at hin;exact(hin (Apz.2 (by simpa using hi))).elim
  · intro a' fr' w' g' ha' hr' he hg
    exact hq _ _ _ _ _ (hk fr' (ha'.2.trans (Hw _ _)) (Ap6 fun t ht=>(ha'.1 t ht).trans (NJ hks ht _ _ _ hst).symm)) hr' ((Evo.same hsm).trans (he.of_gle hg))
theorem Abi(hE:E.Ok)(hP:E.P.follows .mixedOrders=true)(ks:List Nat)(hks:ZW ks l=true)(T:List (List Nat))(hok1:E7 l.toArray T=true)(k:Nat)(hok2:U2 E l.toArray T k=true)(hok3:AbL E l.toArray T k=true)(o:Oper)(hk0:l[k]?=some o)(hg:o.guard=none) (h:∃orc pl,HU E.toBase orc∧XZ E.toBase pl∧AgG pl n ks o (AgI E orc true n l k (fr,σ))=some ((.val v,σ2),vals)) (hk:∀fr',fr'.length=n→(ks.map fun t=>ev fr' (.tmp t))=vals→K (.panic (VZ v)) ⟨fr',σ2⟩):Run E m (.region id l.toArray true) ⟨Aq n fr,σ⟩ K:=by
  obtain⟨orc,pl,hO,hPl,h⟩:=h;cases hpre:AgI E orc true n l k (fr,σ)with
  |none=>rw[hpre]at h;cases h
  | some s=>
    rw[hpre]at h;exact MR hE hO hP ks hks hk0 hg T hok1 hok2 hok3 hpre (Qm hPl h).1 (fun fr' hl' h'=>hk fr' hl' (h'.trans (Qm hPl h).2.symm))
end Go.Rv
