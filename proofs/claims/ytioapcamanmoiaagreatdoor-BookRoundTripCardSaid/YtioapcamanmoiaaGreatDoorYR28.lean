/-
  Part 28.
-/
import Derived.Test.YtioapcamanmoiaaGreatDoorYR27
namespace Go.Rv
set_option linter.unusedVariables false
set_option linter.unusedSimpArgs false
variable{E:Env}{n:Nat}{K:Cl}{st:St}{c:List PanicEntry}{σ σ0:Ab}{v:Value}{rs:List ResultVar}{o:Outc}{B:Base}{fn:Func}{args:List AV}
theorem Oi{y:Code}(h:K (.panic c) st):UJ E n y K (.panic c) st:=h
theorem BR{i:Nat}(h:K (.panic c) st):Hk i K (.panic c) st:=h
theorem Uc{V X:Type}{S:V→St}{o:V⊕X}(h:K (.panic c) st):lpK E n S o K (.panic c) st:=h
theorem Gc{V:Type}{S:V→St}{J:V→Prop}(h:K (.panic c) st):Ri E n S J K (.panic c) st:=h
def SU(n:Nat)(σ:Ab):Bool:=(List.range n).all fun i=>match σ[i]? with
 |some (.box ..)=>true
 |_=>false
theorem ZB(h:SU n σ=true){i:Nat}(hi:i<n):∃cs ro,σ[i]?=some (.box cs ro):=by
 have:=AoZ.1 h i (Apz.2 hi);split at this
 ·rename_i cs ro e;exact⟨cs,ro,e⟩
 ·cases this
theorem Ad0{w:World}{g:Gh}(hm:Mem E w g σ){pr:Addr→Prop}{x y:AV}(hv:Rep w (A4 E g) g v x)(hy:fzR σ x=some y) (hp:∀a,A4 E g a→pr a) (hb:∀(id:Nat) (b:GB),g[id]?=some b→(∃k els ro,σ[id]?=some (.buf k els ro))→∀β off,b.blk=some β→pr ⟨β,off,none⟩):Rep w pr [] v y:=by
  by_cases htu:∃xs,x=.tup xs
  · obtain⟨xs,rfl⟩:=htu
    simp only[fzR,AoL]at hy;obtain⟨ys,hys,rfl⟩:=hy;obtain⟨hl,hget⟩:=HE _ _ _ hys;cases hv with
    | tup _ vs _ hs hr=>
      refine .tup _ vs ys (by omega) ?_;intro i y hi;obtain⟨x,hx,hxy⟩:=hget i y hi;exact PX hm (hr i x hx) hxy hp (fun id b hid hgb β off hβ _=>hb id b hgb (VX hxy hid) β off hβ)
  · have e:fzR σ x=fz σ x:=by cases x<;>first|rfl|(exact(htu ⟨_,rfl⟩).elim)
    rw[e]at hy;exact PX hm hv hy hp (fun id b hid hgb β off hβ _=>hb id b hgb (VX hy hid) β off hβ)
def Alg(E:Env)(n:Nat)(rs:List ResultVar)(r0:AV)(σ0:Ab):Cl:=fun ex st=>(ex=.normal∨ex=.ret)∧(∃xs,Dh E st.σ st.fr rs=some xs∧fzR st.σ (Fq xs)=some r0)∧SU n st.σ=true∧HX (List.range n) st.σ (List.range n) σ0
theorem M4{N:Nat}{l:Fr}{r0:AV}{ex:Exit}(hex:ex=.normal∨ex=.ret)(h:(VS E N l σ rs).bind (fun xs=>fzR σ (Fq xs))=some r0)(hb:SU n σ=true)(hσ:HX (List.range n) σ (List.range n) σ0):Alg E n rs r0 σ0 ex ⟨Aq N l,σ⟩:=by
 rw[AoW]at h;obtain⟨xs,h1,h2⟩:=h;exact⟨hex,⟨xs,by rw[IB];exact h1,h2⟩,hb,hσ⟩
def AmV(E:Env)(n:Nat)(rs:List ResultVar):Outc→Cl
 |.ret r0 σ0=>fun ex st=>Ag2 E n rs r0 σ0 ex st∨Alg E n rs r0 σ0 ex st
 |.pan v σ0=>fun ex st=>ex=.panic (VZ v)∧∃sel:List Nat,sel.Nodup∧sel.take n=List.range n∧HX sel st.σ sel σ0
theorem JC{ex:Exit}{r0:AV}(ho:o=.ret r0 σ0)(h:Alg E n rs r0 σ0 ex st):AmV E n rs o ex st:=by subst ho;exact .inr h
theorem DD{fr:List AV}(ho:o=.pan v σ0)(sel:List Nat)(hnd:sel.Nodup)(hn:sel.take n=List.range n)(hσ:HX sel σ sel σ0):AmV E n rs o (.panic (VZ v)) ⟨fr,σ⟩:=by
 subst ho;exact⟨rfl,sel,hnd,hn,hσ⟩
theorem Kj{F:Addr→Prop}{w:World}{g:Gh}{vs:Array Value}(hm:Mem (B.env F) w g σ)(ha:BA w (A4 (B.env F) g) g vs.toList args) :Rel (B.env F) w g ⟨Kt fn.ntmps args,σ⟩ { tmps:=vs++Array.replicate (fn.ntmps-vs.size) undef,defers:=[] }:=by
 have hlen:=Cu ha;simp only[ApM]at hlen;refine⟨?_,?_,hm,.plain rfl⟩
 ·simp[Kt,hlen]
 ·intro t x hx;simp only[Kt]at hx;rcases ApF t args.length with hl|hl
  ·rw[AoU hl]at hx;have:=IW ha t x hx
   have e:(vs++Array.replicate (fn.ntmps-vs.size) undef).getD t undef=vs.toList.getD t undef:=by
    refine Ay ?_;rw[AqA (by omega),AE (by omega)];simp[Ao3,Apt]
   rw[e];exact this
  ·rw[AoS hl,AqN]at hx;split at hx
   ·cases hx;exact .junk _ _
   ·cases hx
theorem AgU{f:FuncId}{c:Code}(hB:B.Ok)(hf:B.P.funcs[f]?=some fn)(hb:fn.body=some c)(hn:(fn.name == "runtime.NumGoroutine")=false) (h:∀F:Addr→Prop,Run (B.env F) σ.length c ⟨Kt fn.ntmps args,σ⟩ (fun ex st=>ex=.panic (VZ v)∧∃sel:List Nat,sel.Nodup∧sel.take σ.length=List.range σ.length∧HX sel st.σ sel σ0)):Pan B f args σ v σ0:=by
 refine⟨fun F w g vs hm ha=>.inl ⟨⟨fn,c,hf,hb,hn⟩,?_⟩⟩;refine calls_of_wp hf hb ?_;refine K2 (h F) rfl (Kj hm ha) ?_;rintro ex st a' w' g' ⟨rfl,sel,h1,h2,h3⟩ hr he;obtain⟨s1,s2,s3,s4⟩:=NR hr.mem sel h1 h2 h3;exact⟨hr.defers.eq rfl,CD sel g',rfl,s2,he.trans s3⟩
theorem Gs{f:FuncId}{c:Code}{N:Nat}(n:Nat)(hn0:σ.length=n)(hB:B.Ok)(hf:B.P.funcs[f]?=some fn)(hb:fn.body=some c)(hn:(fn.name == "runtime.NumGoroutine")=false) (hN:fn.ntmps=N) (hrs:fn.results.toList=rs) (hlen:args.length≤N) (h:∀F:Addr→Prop,Run (B.env F) n c ⟨Aq N (Ll 0 args),σ⟩ (AmV (B.env F) n rs o)):PCon B f args σ o:=by
  cases o with
  | ret r0 σ0=>
    subst hn0
    have h0:Con B f args σ (fun r σ'=>(∃sel:List Nat,wk2 sel r r0∧sel.Nodup∧sel.take σ.length=List.range σ.length∧HX sel σ' sel σ0) ∨
        (fzR σ' r=some r0∧SU σ.length σ'=true∧HX (List.range σ.length) σ' (List.range σ.length) σ0)):=by
      refine VI hB hf hb hn (fun F=>?_);subst hN hrs;rw[Eb fn.ntmps args hlen (Ll 0 args) (fun t _=>E3 args 0 t (Apx _))];refine D4 (h F) ?_;rintro ex st (⟨h1,sel,h2,h3,h4,h5⟩|⟨h1,⟨xs,h2,h3⟩,h4,h5⟩)
      · unfold AgE at h2
        split at h2
        · rename_i xs hxs;exact⟨h1,xs,hxs,.inl ⟨sel,h2,h3,h4,h5⟩⟩
        · exact h2.elim
      · exact⟨h1,xs,h2,.inr ⟨h3,h4,h5⟩⟩
    refine⟨fun F w g vs hm ha=>(h0.call F w g vs hm ha).mono ?_⟩;rintro e w' ⟨v,r,σ',g',h1,⟨sel,k1,k2,k3,k4⟩|⟨k1,k2,k3⟩,h3,h4,h5⟩
    · obtain⟨s1,s2,s3,s4⟩:=NR h3 sel k2 k3 k4
      exact⟨v,r0,σ0,CD sel g',h1,⟨rfl,rfl⟩,s2,h4.trans s3,Abe s4 s1 h5 k1⟩
    · have hrl:(List.range σ.length).length=σ.length:=Aqw
      obtain⟨s1,s2,s3,s4⟩:=NR (n:=σ.length) h3 (List.range σ.length) List.nodup_range (Aps (by simp)) k3;refine⟨v,r0,σ0,CD (List.range σ.length) g',h1,⟨rfl,rfl⟩,s2,h4.trans s3,(Ad0 h3 h5 k1 s4 ?_).mono (fun a u hc hp=>⟨hc,hp⟩) (GLe.nil _)⟩;rintro id b hgb ⟨k,els,ro,hbuf⟩ β off hβ
      have hid:¬id<σ.length:=fun hlt=>by
        obtain⟨cs,ro',e⟩:=ZB k2 hlt;rw[e]at hbuf;cases hbuf
      refine⟨fun hF=>(h3.foreign _ hF).2 ⟨id,b,hgb,hβ⟩,fun id' c hc he=>?_⟩;exfalso;obtain⟨i,e1,e2⟩:=(AC s1).1 hc;have:=h3.inj i id c b β e2 hgb he hβ;subst this;exact hid (by simpa using AoT e1)
  | pan v σ0=>
    subst hn0;refine AgU hB hf hb hn (fun F=>?_);subst hN hrs;rw[Eb fn.ntmps args hlen (Ll 0 args) (fun t _=>E3 args 0 t (Apx _))];exact h F
theorem XQ{α:Type}(l:List α):l.take 0=[]:=rfl
theorem Uv:SU 0 σ=true:=rfl
attribute [go_sem] WA Option.map_some Uv Afh AgG List.take_succ_cons XQ List.take_zero
end Go.Rv
