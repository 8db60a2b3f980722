/-
  Part 28.
-/
import Derived.Test.YtioapcamanmoiaaGreatDoorYR27
namespace Go.Rv
set_option linter.unusedVariables false
set_option linter.unusedSimpArgs false
variable{E:Env}{n:Nat}{K:Ch}{st:St}{c:List PanicEntry}{σ σ0:Am}{v:Value}{rs:List ResultVar}{o:Outc}{B:Base}{fn:Func}{args:List AV}
theorem MZ{y:Code}(h:K (.panic c) st):TN E n y K (.panic c) st:=h
theorem BN{i:Nat}(h:K (.panic c) st):GM i K (.panic c) st:=h
theorem Tt{V X:Type}{S:V→St}{o:V⊕X}(h:K (.panic c) st):lpK E n S o K (.panic c) st:=h
theorem FJ{V:Type}{S:V→St}{J:V→Prop}(h:K (.panic c) st):QK E n S J K (.panic c) st:=h
def S3(n:Nat)(σ:Am):Bool:=(List.range n).all fun i=>match σ[i]? with
 |some (.box ..)=>true
 |_=>false
theorem Aas(h:S3 n σ=true){i:Nat}(hi:i<n):∃cs ro,σ[i]?=some (.box cs ro):=by
 have:=AoZ.1 h i (Apz.2 hi);split at this
 ·rename_i cs ro e;exact⟨cs,ro,e⟩
 ·cases this
theorem Aga{w:World}{g:Gh}(hm:Mem E w g σ){pr:Addr→Prop}{x y:AV}(hv:Rep w (A2 E g) g v x)(hy:fzR σ x=some y) (hp:∀a,A2 E g a→pr a) (hb:∀(id:Nat) (b:GB),g[id]?=some b→(∃k els ro,σ[id]?=some (.buf k els ro))→∀β off,b.blk=some β→pr ⟨β,off,none⟩):Rep w pr [] v y:=by
  by_cases htu:∃xs,x=.tup xs
  · obtain⟨xs,rfl⟩:=htu
    simp only[fzR,AoL]at hy;obtain⟨ys,hys,rfl⟩:=hy;obtain⟨hl,hget⟩:=Hp _ _ _ hys;cases hv with
    | tup _ vs _ hs hr=>
      refine .tup _ vs ys (by omega) ?_;intro i y hi;obtain⟨x,hx,hxy⟩:=hget i y hi;exact PO hm (hr i x hx) hxy hp (fun id b hid hgb β off hβ _=>hb id b hgb (Wg hxy hid) β off hβ)
  · have e:fzR σ x=fz σ x:=by cases x<;>first|rfl|(exact(htu ⟨_,rfl⟩).elim)
    rw[e]at hy;exact PO hm hv hy hp (fun id b hid hgb β off hβ _=>hb id b hgb (Wg hy hid) β off hβ)
def AkS(E:Env)(n:Nat)(rs:List ResultVar)(r0:AV)(σ0:Am):Ch:=fun ex st=>(ex=.normal∨ex=.ret)∧(∃xs,Di E st.σ st.fr rs=some xs∧fzR st.σ (Fj xs)=some r0)∧S3 n st.σ=true∧HS (List.range n) st.σ (List.range n) σ0
theorem Ow{N:Nat}{l:Fr}{r0:AV}{ex:Exit}(hex:ex=.normal∨ex=.ret)(h:(Wq E N l σ rs).bind (fun xs=>fzR σ (Fj xs))=some r0)(hb:S3 n σ=true)(hσ:HS (List.range n) σ (List.range n) σ0):AkS E n rs r0 σ0 ex ⟨Aq N l,σ⟩:=by
 rw[AoW]at h;obtain⟨xs,h1,h2⟩:=h;exact⟨hex,⟨xs,by rw[Ip];exact h1,h2⟩,hb,hσ⟩
def Amk(E:Env)(n:Nat)(rs:List ResultVar):Outc→Ch
 |.ret r0 σ0=>fun ex st=>Akl E n rs r0 σ0 ex st∨AkS E n rs r0 σ0 ex st
 |.pan v σ0=>fun ex st=>ex=.panic (VG v)∧∃sel:List Nat,sel.Nodup∧sel.take n=List.range n∧HS sel st.σ sel σ0
theorem J8{ex:Exit}{r0:AV}(ho:o=.ret r0 σ0)(h:AkS E n rs r0 σ0 ex st):Amk E n rs o ex st:=by subst ho;exact .inr h
theorem D5{fr:List AV}(ho:o=.pan v σ0)(sel:List Nat)(hnd:sel.Nodup)(hn:sel.take n=List.range n)(hσ:HS sel σ sel σ0):Amk E n rs o (.panic (VG v)) ⟨fr,σ⟩:=by
 subst ho;exact⟨rfl,sel,hnd,hn,hσ⟩
theorem Ka{F:Addr→Prop}{w:World}{g:Gh}{vs:Array Value}(hm:Mem (B.env F) w g σ)(ha:B1 w (A2 (B.env F) g) g vs.toList args) :Rel (B.env F) w g ⟨Kf fn.ntmps args,σ⟩ { tmps:=vs++Array.replicate (fn.ntmps-vs.size) undef,defers:=[] }:=by
 have hlen:=Cn ha;simp only[ApM]at hlen;refine⟨?_,?_,hm,.plain rfl⟩
 ·simp[Kf,hlen]
 ·intro t x hx;simp only[Kf]at hx;rcases ApF t args.length with hl|hl
  ·rw[AoU hl]at hx;have:=IH ha t x hx
   have e:(vs++Array.replicate (fn.ntmps-vs.size) undef).getD t undef=vs.toList.getD t undef:=by
    refine Ax ?_;rw[AqA (by omega),AA (by omega)];simp[Ao3,Apt]
   rw[e];exact this
  ·rw[AoS hl,AqN]at hx;split at hx
   ·cases hx;exact .junk _ _
   ·cases hx
theorem Ain{f:FuncId}{c:Code}(hB:B.Ok)(hf:B.P.funcs[f]?=some fn)(hb:fn.body=some c)(hn:(fn.name == "runtime.NumGoroutine")=false) (h:∀F:Addr→Prop,Run (B.env F) σ.length c ⟨Kf fn.ntmps args,σ⟩ (fun ex st=>ex=.panic (VG v)∧∃sel:List Nat,sel.Nodup∧sel.take σ.length=List.range σ.length∧HS sel st.σ sel σ0)):Pan B f args σ v σ0:=by
 refine⟨fun F w g vs hm ha=>.inl ⟨⟨fn,c,hf,hb,hn⟩,?_⟩⟩;refine calls_of_wp hf hb ?_;refine Kg (h F) rfl (Ka hm ha) ?_;rintro ex st a' w' g' ⟨rfl,sel,h1,h2,h3⟩ hr he;obtain⟨s1,s2,s3,s4⟩:=NB hr.mem sel h1 h2 h3;exact⟨hr.defers.eq rfl,C9 sel g',rfl,s2,he.trans s3⟩
theorem Gr{f:FuncId}{c:Code}{N:Nat}(n:Nat)(hn0:σ.length=n)(hB:B.Ok)(hf:B.P.funcs[f]?=some fn)(hb:fn.body=some c)(hn:(fn.name == "runtime.NumGoroutine")=false) (hN:fn.ntmps=N) (hrs:fn.results.toList=rs) (hlen:args.length≤N) (h:∀F:Addr→Prop,Run (B.env F) n c ⟨Aq N (Lg 0 args),σ⟩ (Amk (B.env F) n rs o)):PCon B f args σ o:=by
  cases o with
  | ret r0 σ0=>
    subst hn0
    have h0:Con B f args σ (fun r σ'=>(∃sel:List Nat,wk2 sel r r0∧sel.Nodup∧sel.take σ.length=List.range σ.length∧HS sel σ' sel σ0) ∨
        (fzR σ' r=some r0∧S3 σ.length σ'=true∧HS (List.range σ.length) σ' (List.range σ.length) σ0)):=by
      refine Wx hB hf hb hn (fun F=>?_);subst hN hrs;rw[DX fn.ntmps args hlen (Lg 0 args) (fun t _=>Eu args 0 t (Apx _))];refine D9 (h F) ?_;rintro ex st (⟨h1,sel,h2,h3,h4,h5⟩|⟨h1,⟨xs,h2,h3⟩,h4,h5⟩)
      · unfold AgF at h2
        split at h2
        · rename_i xs hxs;exact⟨h1,xs,hxs,.inl ⟨sel,h2,h3,h4,h5⟩⟩
        · exact h2.elim
      · exact⟨h1,xs,h2,.inr ⟨h3,h4,h5⟩⟩
    refine⟨fun F w g vs hm ha=>(h0.call F w g vs hm ha).mono ?_⟩;rintro e w' ⟨v,r,σ',g',h1,⟨sel,k1,k2,k3,k4⟩|⟨k1,k2,k3⟩,h3,h4,h5⟩
    · obtain⟨s1,s2,s3,s4⟩:=NB h3 sel k2 k3 k4
      exact⟨v,r0,σ0,C9 sel g',h1,⟨rfl,rfl⟩,s2,h4.trans s3,Z9 s4 s1 h5 k1⟩
    · have hrl:(List.range σ.length).length=σ.length:=Aqw
      obtain⟨s1,s2,s3,s4⟩:=NB (n:=σ.length) h3 (List.range σ.length) List.nodup_range (Aps (by simp)) k3;refine⟨v,r0,σ0,C9 (List.range σ.length) g',h1,⟨rfl,rfl⟩,s2,h4.trans s3,(Aga h3 h5 k1 s4 ?_).mono (fun a u hc hp=>⟨hc,hp⟩) (GLe.nil _)⟩;rintro id b hgb ⟨k,els,ro,hbuf⟩ β off hβ
      have hid:¬id<σ.length:=fun hlt=>by
        obtain⟨cs,ro',e⟩:=Aas k2 hlt;rw[e]at hbuf;cases hbuf
      refine⟨fun hF=>(h3.foreign _ hF).2 ⟨id,b,hgb,hβ⟩,fun id' c hc he=>?_⟩;exfalso;obtain⟨i,e1,e2⟩:=(A8 s1).1 hc;have:=h3.inj i id c b β e2 hgb he hβ;subst this;exact hid (by simpa using AoT e1)
  | pan v σ0=>
    subst hn0;refine Ain hB hf hb hn (fun F=>?_);subst hN hrs;rw[DX fn.ntmps args hlen (Lg 0 args) (fun t _=>Eu args 0 t (Apx _))];exact h F
theorem WU{α:Type}(l:List α):l.take 0=[]:=rfl
theorem UR:S3 0 σ=true:=rfl
attribute [go_sem] WV Option.map_some UR Ad9 AgG List.take_succ_cons WU List.take_zero
end Go.Rv
