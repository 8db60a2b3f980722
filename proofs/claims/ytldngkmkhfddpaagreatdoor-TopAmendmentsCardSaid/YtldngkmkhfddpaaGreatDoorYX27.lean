/-
  Part 27.
-/
import Derived.Test.YtldngkmkhfddpaaGreatDoorYX26
namespace Go.Rv
set_option linter.unusedVariables false
set_option linter.unusedSimpArgs false
variable{E:Env}{n:Nat}{K:CO}{st:St}{c:List PanicEntry}{O σ0:Ac}{v:Value}{rs:List ResultVar}{r0:AV}{ex:Exit}{o:Outc}{B:Base}{fn:Func}{args:List AV}
theorem Ed{y:Code}(h:K (.panic c) st):VN E n y K (.panic c) st:=h
theorem E5{i:Nat}(h:K (.panic c) st):IG i K (.panic c) st:=h
theorem Vd{V X:Type}{S:V->St}{o:V⊕X}(h:K (.panic c) st):lpK E n S o K (.panic c) st:=h
theorem Hi{V:Type}{S:V->St}{J:V->Prop}(h:K (.panic c) st):Ri E n S J K (.panic c) st:=h
def QU(n:Nat)(O:Ac):Bool:=(List.range n).all fun i=>match O[i]? with
 |some (.box ..)=>true
 |_=>false
theorem AaX(h:QU n O=true){i:Nat}(hi:i<n):∃cs ro,O[i]?=some (.box cs ro):=by
 have:=App.1 h i (ApS.2 hi);split at this
 ·rename_i cs ro e;exact⟨cs,ro,e⟩
 cases this
theorem AgM{w:World}{g:Gh}(hm:Mem E w g O){pr:Addr->Prop}{x y:AV}(hv:Rep w (A3 E g) g v x)(hy:fzR O x=some y) (hp:∀a,A3 E g a->pr a) (hb:∀(id:Nat) (b:GB),g[id]?=some b->(∃k els ro,O[id]?=some (.buf k els ro))->∀β off,b.blk=some β->pr ⟨β,off,none⟩):Rep w pr [] v y:=by
 by_cases htu:∃xs,x=.tup xs
 ·obtain⟨xs,rfl⟩:=htu;simp only[fzR,Ao5]at hy;obtain⟨ys,hys,rfl⟩:=hy;obtain⟨hl,hget⟩:=Ju _ _ _ hys;cases hv with
  |tup _ vs _ hs hr=>
   refine .tup _ vs ys (by omega) ?_;intro i y hi;obtain⟨x,hx,hxy⟩:=hget i y hi;exact Ow hm (hr i x hx) hxy hp (fun id b hid hgb β off hβ _=>hb id b hgb (TI hxy hid) β off hβ)
 have e:fzR O x=fz O x:=by cases x<;>first|rfl|(exact(htu ⟨_,rfl⟩).elim)
 rw[e]at hy;exact Ow hm hv hy hp (fun id b hid hgb β off hβ _=>hb id b hgb (TI hy hid) β off hβ)
def Anl(E:Env)(n:Nat)(rs:List ResultVar)(r0:AV)(σ0:Ac):CO:=fun ex st=>(ex=.normal\/ex=.ret)/\(∃xs,Fp E st.O st.fr rs=some xs/\fzR st.O (Hf xs)=some r0)/\QU n st.O=true/\JI (List.range n) st.O (List.range n) σ0
theorem AaY{N:Nat}{l:Fr}(hex:ex=.normal\/ex=.ret)(h:(UC E N l O rs).bind (fun xs=>fzR O (Hf xs))=some r0)(hb:QU n O=true)(hO:JI (List.range n) O (List.range n) σ0):Anl E n rs r0 σ0 ex ⟨Ai N l,O⟩:=by
 rw[Apa]at h;obtain⟨xs,h1,h2⟩:=h;exact⟨hex,⟨xs,by rw[MV];exact h1,h2⟩,hb,hO⟩
def Aic(E:Env)(n:Nat)(rs:List ResultVar):Outc->CO
 |.ret r0 σ0=>fun ex st=>Adg E n rs r0 σ0 ex st\/Anl E n rs r0 σ0 ex st
 |.pan v σ0=>fun ex st=>ex=.panic (NL v)/\∃sel:List Nat,sel.Nodup/\sel.take n=List.range n/\JI sel st.O sel σ0
theorem WG(ho:o=.ret r0 σ0)(h:Adg E n rs r0 σ0 ex st):Aic E n rs o ex st:=by subst ho;exact .inl h
theorem Vf(ho:o=.ret r0 σ0)(h:Anl E n rs r0 σ0 ex st):Aic E n rs o ex st:=by subst ho;exact .inr h
theorem Ad4{fr:List AV}(ho:o=.pan v σ0)(sel:List Nat)(hnd:sel.Nodup)(hn:sel.take n=List.range n)(hO:JI sel O sel σ0):Aic E n rs o (.panic (NL v)) ⟨fr,O⟩:=by
 subst ho;exact⟨rfl,sel,hnd,hn,hO⟩
theorem Mv{F:Addr->Prop}{w:World}{g:Gh}{vs:Array Value}(hm:Mem (B.env F) w g O)(ha:C4 w (A3 (B.env F) g) g vs.toList args) :Rel (B.env F) w g ⟨Qs fn.ntmps args,O⟩ { tmps:=vs++Array.replicate (fn.ntmps-vs.size) undef,defers:=[] }:=by
 have hlen:=CY ha;simp only[Aqb]at hlen;refine⟨?_,?_,hm,.plain rfl⟩
 ·simp[Qs,hlen]
 intro t x hx;simp only[Qs]at hx;rcases ApX t args.length with hl|hl
 ·rw[Aph hl]at hx;have:=KA ha t x hx
  have e:(vs++Array.replicate (fn.ntmps-vs.size) undef).getD t undef=vs.toList.getD t undef:=by
   refine A2 ?_;rw[AqL (by omega),AB (by omega)];simp[Apt,ApU]
  rw[e];exact this
 rw[Ape hl,AqY]at hx;split at hx
 ·cases hx;exact .junk _ _
 cases hx
theorem AiT{f:FuncId}{c:Code}(hB:B.Ok)(hf:B.P.funcs[f]?=some fn)(hb:fn.body=some c)(hn:(fn.name == "runtime.NumGoroutine")=false) (h:∀F:Addr->Prop,Run (B.env F) O.length c ⟨Qs fn.ntmps args,O⟩ (fun ex st=>ex=.panic (NL v)/\∃sel:List Nat,sel.Nodup/\sel.take O.length=List.range O.length/\JI sel st.O sel σ0)):Pan B f args O v σ0:=by
 refine⟨fun F w g vs hm ha=>.inl ⟨⟨fn,c,hf,hb,hn⟩,?_⟩⟩;refine calls_of_wp hf hb ?_;refine Hu (h F) rfl (Mv hm ha) ?_;rintro ex st a' w' g' ⟨rfl,sel,h1,h2,h3⟩ hr he;obtain⟨s1,s2,s3,s4⟩:=Jz hr.mem sel h1 h2 h3;exact⟨hr.defers.eq rfl,CG sel g',rfl,s2,he.trans s3⟩
theorem BE{f:FuncId}{c:Code}{N:Nat}(n:Nat)(hn0:O.length=n)(hB:B.Ok)(hf:B.P.funcs[f]?=some fn)(hb:fn.body=some c)(hn:(fn.name == "runtime.NumGoroutine")=false) (hN:fn.ntmps=N) (hrs:fn.results.toList=rs) (hlen:args.length<=N) (h:∀F:Addr->Prop,Run (B.env F) n c ⟨Ai N (Nx 0 args),O⟩ (Aic (B.env F) n rs o)):PCon B f args O o:=by
 cases o with
 | ret r0 σ0=>
  subst hn0
  have h0:Con B f args O (fun r O'=>(∃sel:List Nat,wk2 sel r r0/\sel.Nodup/\sel.take O.length=List.range O.length/\JI sel O' sel σ0) \/
    (fzR O' r=some r0/\QU O.length O'=true/\JI (List.range O.length) O' (List.range O.length) σ0)):=by
   refine AbR hB hf hb hn (fun F=>?_);subst hN hrs;rw[GD fn.ntmps args hlen (Nx 0 args) (fun t _=>GW args 0 t (Apz _))];refine Ie (h F) ?_;rintro ex st (⟨h1,sel,h2,h3,h4,h5⟩|⟨h1,⟨xs,h2,h3⟩,h4,h5⟩)
   ·unfold Aft at h2;split at h2
    ·rename_i xs hxs;exact⟨h1,xs,hxs,.inl ⟨sel,h2,h3,h4,h5⟩⟩
    exact h2.elim
   exact⟨h1,xs,h2,.inr ⟨h3,h4,h5⟩⟩
  refine⟨fun F w g vs hm ha=>(h0.call F w g vs hm ha).mono ?_⟩;rintro e w' ⟨v,r,O',g',h1,⟨sel,k1,k2,k3,k4⟩|⟨k1,k2,k3⟩,h3,h4,h5⟩
  ·obtain⟨s1,s2,s3,s4⟩:=Jz h3 sel k2 k3 k4;exact⟨v,r0,σ0,CG sel g',h1,⟨rfl,rfl⟩,s2,h4.trans s3,VE s4 s1 h5 k1⟩
  have hrl:(List.range O.length).length=O.length:=Ard;obtain⟨s1,s2,s3,s4⟩:=Jz (n:=O.length) h3 (List.range O.length) List.nodup_range (ApW (by simp)) k3;refine⟨v,r0,σ0,CG (List.range O.length) g',h1,⟨rfl,rfl⟩,s2,h4.trans s3,(AgM h3 h5 k1 s4 ?_).mono (fun a u hc hp=>⟨hc,hp⟩) (GLe.nil _)⟩;rintro id b hgb ⟨k,els,ro,hbuf⟩ β off hβ
  have hid:¬id<O.length:=fun hlt=>by
   obtain⟨cs,ro',e⟩:=AaX k2 hlt;rw[e]at hbuf;cases hbuf
  refine⟨fun hF=>(h3.foreign _ hF).2 ⟨id,b,hgb,hβ⟩,fun id' c hc he=>?_⟩;exfalso;obtain⟨i,e1,e2⟩:=(A5 s1).1 hc;have:=h3.inj i id c b β e2 hgb he hβ;subst this;exact hid (by simpa using Apg e1)
 |pan v σ0=>
  subst hn0;refine AiT hB hf hb hn (fun F=>?_);subst hN hrs;rw[GD fn.ntmps args hlen (Nx 0 args) (fun t _=>GW args 0 t (Apz _))];exact h F
theorem Yf{α:Type}(l:List α):l.take 0=[]:=rfl
theorem W7:QU 0 O=true:=rfl
attribute [go_sem] Yx Vn V8 Option.map_some W7 AhM Wz List.take_succ_cons Yf List.take_zero
end Go.Rv
