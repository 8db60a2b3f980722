/-
  Part 28.
-/
import Derived.Test.YtldngkmkhfddpaaDoorYT27
namespace Go.Rv
set_option linter.unusedVariables false
set_option linter.unusedSimpArgs false
theorem B9{E:Env}{n:Nat}{K:C0}{st:St}{y:Code}{c:List PanicEntry}(h:K (.panic c) st):PQ E n y K (.panic c) st:=h
theorem Cx{K:C0}{st:St}{i:Nat}{c:List PanicEntry}(h:K (.panic c) st):FT i K (.panic c) st:=h
theorem On{E:Env}{n:Nat}{K:C0}{st:St}{V X:Type}{S:V→St}{o:V⊕X}{c:List PanicEntry}(h:K (.panic c) st):lpK E n S o K (.panic c) st:=h
theorem E6{E:Env}{n:Nat}{K:C0}{st:St}{V:Type}{S:V→St}{J:V→Prop}{c:List PanicEntry}(h:K (.panic c) st):Nb E n S J K (.panic c) st:=h
def Oi(n:Nat)(σ:Ad):Bool:=(List.range n).all fun i=>match σ[i]? with
 |some (.box ..)=>true
 |_=>false
theorem Ul{n:Nat}{σ:Ad}(h:Oi n σ=true){i:Nat}(hi:i<n):∃cs ro,σ[i]?=some (.box cs ro):=by
 have:=List.all_eq_true.1 h i (List.mem_range.2 hi)
 split at this
 ·rename_i cs ro e;exact⟨cs,ro,e⟩
 ·cases this
theorem Yn{E:Env}{w:World}{g:Gh}{σ:Ad}(hm:Mem E w g σ){pr:Addr→Prop}{v:Value}{x y:AV}(hv:Rep w (Aw E g) g v x)(hy:fzR σ x=some y)
    (hp:∀a,Aw E g a→pr a) (hb:∀(id:Nat) (b:GB),g[id]?=some b→(∃k els ro,σ[id]?=some (.buf k els ro))→∀β off,b.blk=some β→pr ⟨β,off,none⟩):Rep w pr [] v y:=by
  by_cases htu:∃xs,x=.tup xs
  · obtain⟨xs,rfl⟩:=htu
    simp only[fzR,Option.map_eq_some_iff]at hy
    obtain⟨ys,hys,rfl⟩:=hy
    obtain⟨hl,hget⟩:=G4 _ _ _ hys
    cases hv with
    | tup _ vs _ hs hr=>
      refine .tup _ vs ys (by omega) ?_
      intro i y hi
      obtain⟨x,hx,hxy⟩:=hget i y hi
      exact Mt hm (hr i x hx) hxy hp (fun id b hid hgb β off hβ _=>hb id b hgb (RB hxy hid) β off hβ)
  · have e:fzR σ x=fz σ x:=by cases x<;>first|rfl|(exact(htu ⟨_,rfl⟩).elim)
    rw[e]at hy
    exact Mt hm hv hy hp (fun id b hid hgb β off hβ _=>hb id b hgb (RB hy hid) β off hβ)
def Adw(E:Env)(n:Nat)(rs:List ResultVar)(r0:AV)(σ0:Ad):C0:=fun ex st=>(ex=.normal∨ex=.ret)∧(∃xs,DF E st.σ st.fr rs=some xs∧fzR st.σ (FQ xs)=some r0)∧Oi n st.σ=true∧D3 (List.range n) st.σ (List.range n) σ0
theorem Bm{E:Env}{n N:Nat}{l:Fr}{σ σ0:Ad}{rs:List ResultVar}{r0:AV}{ex:Exit}(hex:ex=.normal∨ex=.ret)(h:(R0 E N l σ rs).bind (fun xs=>fzR σ (FQ xs))=some r0)(hb:Oi n σ=true)(hσ:D3 (List.range n) σ (List.range n) σ0):Adw E n rs r0 σ0 ex ⟨Am N l,σ⟩:=by
 rw[Option.bind_eq_some_iff]at h
 obtain⟨xs,h1,h2⟩:=h
 exact⟨hex,⟨xs,by rw[Jj];exact h1,h2⟩,hb,hσ⟩
def Acp(E:Env)(n:Nat)(rs:List ResultVar):Outc→C0
 |.ret r0 σ0=>fun ex st=>ZT E n rs r0 σ0 ex st∨Adw E n rs r0 σ0 ex st
 |.pan v σ0=>fun ex st=>ex=.panic (NH v)∧∃sel:List Nat,sel.Nodup∧sel.take n=List.range n∧D3 sel st.σ sel σ0
theorem R6{E:Env}{n:Nat}{rs:List ResultVar}{o:Outc}{ex:Exit}{st:St}{r0:AV}{σ0:Ad}(ho:o=.ret r0 σ0)(h:ZT E n rs r0 σ0 ex st):Acp E n rs o ex st:=by subst ho;exact .inl h
theorem AB{E:Env}{n:Nat}{rs:List ResultVar}{o:Outc}{ex:Exit}{st:St}{r0:AV}{σ0:Ad}(ho:o=.ret r0 σ0)(h:Adw E n rs r0 σ0 ex st):Acp E n rs o ex st:=by subst ho;exact .inr h
theorem An{E:Env}{n:Nat}{rs:List ResultVar}{o:Outc}{v:Value}{fr:List AV}{σ σ0:Ad}(ho:o=.pan v σ0)(sel:List Nat)(hnd:sel.Nodup)(hn:sel.take n=List.range n)(hσ:D3 sel σ sel σ0):Acp E n rs o (.panic (NH v)) ⟨fr,σ⟩:=by
 subst ho;exact⟨rfl,sel,hnd,hn,hσ⟩
theorem IA{B:Base}{fn:Func}{args:List AV}{σ:Ad}{F:Addr→Prop}{w:World}{g:Gh}{vs:Array Value}(hm:Mem (B.env F) w g σ)(ha:Bt w (Aw (B.env F) g) g vs.toList args) :
  Rel (B.env F) w g ⟨N3 fn.ntmps args,σ⟩ { tmps:=vs++Array.replicate (fn.ntmps-vs.size) undef,defers:=[] }:=by
 have hlen:=BQ ha
 simp only[Array.length_toList]at hlen
 refine⟨?_,?_,hm,.plain rfl⟩
 ·simp[N3,hlen]
 ·intro t x hx
  simp only[N3]at hx
  rcases Nat.lt_or_ge t args.length with hl|hl
  ·rw[List.getElem?_append_left hl]at hx
   have:=HB ha t x hx
   have e:(vs++Array.replicate (fn.ntmps-vs.size) undef).getD t undef=vs.toList.getD t undef:=by
    refine Av ?_
    rw[Array.getElem?_append_left (by omega),A2 (by omega)]
    simp[List.getD_eq_getElem?_getD,Array.getD_eq_getD_getElem?]
   rw[e]
   exact this
  ·rw[List.getElem?_append_right hl,List.getElem?_replicate]at hx
   split at hx
   ·cases hx;exact .junk _ _
   ·cases hx
theorem Abx{B:Base}{f:FuncId}{fn:Func}{c:Code}{args:List AV}{σ σ0:Ad}{v:Value}(hB:B.Ok)(hf:B.P.funcs[f]?=some fn)(hb:fn.body=some c)(hn:(fn.name == "runtime.NumGoroutine")=false)
 (h:∀F:Addr→Prop,Run (B.env F) σ.length c ⟨N3 fn.ntmps args,σ⟩ (fun ex st=>ex=.panic (NH v)∧∃sel:List Nat,sel.Nodup∧sel.take σ.length=List.range σ.length∧D3 sel st.σ sel σ0)):Pan B f args σ v σ0:=by
 refine⟨fun F w g vs hm ha=>.inl ⟨⟨fn,c,hf,hb,hn⟩,?_⟩⟩
 refine calls_of_wp hf hb ?_
 refine GA (h F) rfl (IA hm ha) ?_
 rintro ex st a' w' g' ⟨rfl,sel,h1,h2,h3⟩ hr he
 obtain⟨s1,s2,s3,s4⟩:=KN hr.mem sel h1 h2 h3
 exact⟨hr.defers.eq rfl,CL sel g',rfl,s2,he.trans s3⟩
theorem Au{B:Base}{f:FuncId}{fn:Func}{c:Code}{args:List AV}{σ:Ad}{o:Outc}{rs:List ResultVar}{N:Nat}(n:Nat)(hn0:σ.length=n)(hB:B.Ok)(hf:B.P.funcs[f]?=some fn)(hb:fn.body=some c)(hn:(fn.name == "runtime.NumGoroutine")=false) (hN:fn.ntmps=N) (hrs:fn.results.toList=rs)
    (hlen:args.length≤N) (h:∀F:Addr→Prop,Run (B.env F) n c ⟨Am N (Jv 0 args),σ⟩ (Acp (B.env F) n rs o)):PCon B f args σ o:=by
  cases o with
  | ret r0 σ0=>
    subst hn0
    have h0:Con B f args σ (fun r σ'=>(∃sel:List Nat,wk2 sel r r0∧sel.Nodup∧sel.take σ.length=List.range σ.length∧D3 sel σ' sel σ0) ∨
        (fzR σ' r=some r0∧Oi σ.length σ'=true∧D3 (List.range σ.length) σ' (List.range σ.length) σ0)):=by
      refine T9 hB hf hb hn (fun F=>?_)
      subst hN hrs
      rw[E7 fn.ntmps args hlen (Jv 0 args) (fun t _=>ET args 0 t (Nat.zero_le _))]
      refine HE (h F) ?_
      rintro ex st (⟨h1,sel,h2,h3,h4,h5⟩|⟨h1,⟨xs,h2,h3⟩,h4,h5⟩)
      · unfold ZU at h2
        split at h2
        · rename_i xs hxs;exact⟨h1,xs,hxs,.inl ⟨sel,h2,h3,h4,h5⟩⟩
        · exact h2.elim
      · exact⟨h1,xs,h2,.inr ⟨h3,h4,h5⟩⟩
    refine⟨fun F w g vs hm ha=>(h0.call F w g vs hm ha).mono ?_⟩
    rintro e w' ⟨v,r,σ',g',h1,⟨sel,k1,k2,k3,k4⟩|⟨k1,k2,k3⟩,h3,h4,h5⟩
    · obtain⟨s1,s2,s3,s4⟩:=KN h3 sel k2 k3 k4
      exact⟨v,r0,σ0,CL sel g',h1,⟨rfl,rfl⟩,s2,h4.trans s3,TM s4 s1 h5 k1⟩
    · have hrl:(List.range σ.length).length=σ.length:=List.length_range
      obtain⟨s1,s2,s3,s4⟩:=KN (n:=σ.length) h3 (List.range σ.length) List.nodup_range (List.take_of_length_le (by simp)) k3
      refine⟨v,r0,σ0,CL (List.range σ.length) g',h1,⟨rfl,rfl⟩,s2,h4.trans s3,(Yn h3 h5 k1 s4 ?_).mono (fun a u hc hp=>⟨hc,hp⟩) (GLe.nil _)⟩
      rintro id b hgb ⟨k,els,ro,hbuf⟩ β off hβ
      have hid:¬id<σ.length:=fun hlt=>by
        obtain⟨cs,ro',e⟩:=Ul k2 hlt
        rw[e]at hbuf;cases hbuf
      refine⟨fun hF=>(h3.foreign _ hF).2 ⟨id,b,hgb,hβ⟩,fun id' c hc he=>?_⟩
      exfalso
      obtain⟨i,e1,e2⟩:=(A1 s1).1 hc
      have:=h3.inj i id c b β e2 hgb he hβ
      subst this
      exact hid (by simpa using List.mem_of_getElem? e1)
  | pan v σ0=>
    subst hn0
    refine Abx hB hf hb hn (fun F=>?_)
    subst hN hrs
    rw[E7 fn.ntmps args hlen (Jv 0 args) (fun t _=>ET args 0 t (Nat.zero_le _))]
    exact h F
theorem RX{α:Type}(l:List α):l.take 0=[]:=rfl
theorem P0{σ:Ad}:Oi 0 σ=true:=rfl
attribute [go_sem] Sm Ql QI Option.map_some P0 ZI ZJ List.take_succ_cons RX List.take_zero
end Go.Rv
