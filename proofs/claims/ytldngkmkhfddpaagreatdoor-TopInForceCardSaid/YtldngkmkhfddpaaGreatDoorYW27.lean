/-
  Part 27.
-/
import Derived.Test.YtldngkmkhfddpaaGreatDoorYW26
namespace Go.Rv
set_option linter.unusedVariables false
set_option linter.unusedSimpArgs false
variable{E:Env}{n:Nat}{K:CX}{st:St}{c:List PanicEntry}{O σ0:Ac}{v:Value}{rs:List ResultVar}{r0:AV}{ex:Exit}{o:Outc}{B:Base}{fn:Func}{args:List AV}
theorem Dx{y:Code}(h:K (.panic c) st):VC E n y K (.panic c) st:=h
theorem DU{i:Nat}(h:K (.panic c) st):J2 i K (.panic c) st:=h
theorem TC{V X:Type}{S:V->St}{o:V⊕X}(h:K (.panic c) st):lpK E n S o K (.panic c) st:=h
theorem GP{V:Type}{S:V->St}{J:V->Prop}(h:K (.panic c) st):SE E n S J K (.panic c) st:=h
def Ru(n:Nat)(O:Ac):Bool:=(List.range n).all fun i=>match O[i]? with
 |some (.box ..)=>true
 |_=>false
theorem AcO(h:Ru n O=true){i:Nat}(hi:i<n):∃cs ro,O[i]?=some (.box cs ro):=by
 have:=AqW.1 h i (ArD.2 hi);split at this
 ·rename_i cs ro e;exact⟨cs,ro,e⟩
 cases this
theorem Ahd{w:World}{g:Gh}(hm:Mem E w g O){pr:Addr->Prop}{x y:AV}(hv:Rep w (Ay E g) g v x)(hy:fzR O x=some y) (hp:∀a,Ay E g a->pr a) (hb:∀(id:Nat) (b:GB),g[id]?=some b->(∃k els ro,O[id]?=some (.buf k els ro))->∀β off,b.blk=some β->pr ⟨β,off,none⟩):Rep w pr [] v y:=by
 by_cases htu:∃xs,x=.tup xs
 ·obtain⟨xs,rfl⟩:=htu;simp only[fzR,AqE]at hy;obtain⟨ys,hys,rfl⟩:=hy;obtain⟨hl,hget⟩:=JK _ _ _ hys;cases hv with
  |tup _ vs _ hs hr=>
   refine .tup _ vs ys (by omega) ?_;intro i y hi;obtain⟨x,hx,hxy⟩:=hget i y hi;exact PR hm (hr i x hx) hxy hp (fun id b hid hgb β off hβ _=>hb id b hgb (UI hxy hid) β off hβ)
 have e:fzR O x=fz O x:=by cases x<;>first|rfl|(exact(htu ⟨_,rfl⟩).elim)
 rw[e]at hy;exact PR hm hv hy hp (fun id b hid hgb β off hβ _=>hb id b hgb (UI hy hid) β off hβ)
def AnM(E:Env)(n:Nat)(rs:List ResultVar)(r0:AV)(σ0:Ac):CX:=fun ex st=>(ex=.normal\/ex=.ret)/\(∃xs,Fx E st.O st.fr rs=some xs/\fzR st.O (H1 xs)=some r0)/\Ru n st.O=true/\Kh (List.range n) st.O (List.range n) σ0
theorem AaQ{N:Nat}{l:Fr}(hex:ex=.normal\/ex=.ret)(h:(V0 E N l O rs).bind (fun xs=>fzR O (H1 xs))=some r0)(hb:Ru n O=true)(hO:Kh (List.range n) O (List.range n) σ0):AnM E n rs r0 σ0 ex ⟨Ah N l,O⟩:=by
 rw[AqK]at h;obtain⟨xs,h1,h2⟩:=h;exact⟨hex,⟨xs,by rw[Nm];exact h1,h2⟩,hb,hO⟩
def Ajp(E:Env)(n:Nat)(rs:List ResultVar):Outc->CX
 |.ret r0 σ0=>fun ex st=>AfI E n rs r0 σ0 ex st\/AnM E n rs r0 σ0 ex st
 |.pan v σ0=>fun ex st=>ex=.panic (Oi v)/\∃sel:List Nat,sel.Nodup/\sel.take n=List.range n/\Kh sel st.O sel σ0
theorem XU(ho:o=.ret r0 σ0)(h:AfI E n rs r0 σ0 ex st):Ajp E n rs o ex st:=by subst ho;exact .inl h
theorem WT(ho:o=.ret r0 σ0)(h:AnM E n rs r0 σ0 ex st):Ajp E n rs o ex st:=by subst ho;exact .inr h
theorem AdZ{fr:List AV}(ho:o=.pan v σ0)(sel:List Nat)(hnd:sel.Nodup)(hn:sel.take n=List.range n)(hO:Kh sel O sel σ0):Ajp E n rs o (.panic (Oi v)) ⟨fr,O⟩:=by
 subst ho;exact⟨rfl,sel,hnd,hn,hO⟩
theorem Jq{F:Addr->Prop}{w:World}{g:Gh}{vs:Array Value}(hm:Mem (B.env F) w g O)(ha:Cj w (Ay (B.env F) g) g vs.toList args) :Rel (B.env F) w g ⟨QO fn.ntmps args,O⟩ { tmps:=vs++Array.replicate (fn.ntmps-vs.size) undef,defers:=[] }:=by
 have hlen:=Da ha;simp only[ArN]at hlen;refine⟨?_,?_,hm,.plain rfl⟩
 ·simp[QO,hlen]
 intro t x hx;simp only[QO]at hx;rcases Ary t args.length with hl|hl
 ·rw[AqN hl]at hx;have:=Lc ha t x hx
  have e:(vs++Array.replicate (fn.ntmps-vs.size) undef).getD t undef=vs.toList.getD t undef:=by
   refine A3 ?_;rw[Asn (by omega),AJ (by omega)];simp[AqY,Arv]
  rw[e];exact this
 rw[AqL hl,AsA]at hx;split at hx
 ·cases hx;exact .junk _ _
 cases hx
theorem AlY{f:FuncId}{c:Code}(hB:B.Ok)(hf:B.P.funcs[f]?=some fn)(hb:fn.body=some c)(hn:(fn.name == "runtime.NumGoroutine")=false) (h:∀F:Addr->Prop,Run (B.env F) O.length c ⟨QO fn.ntmps args,O⟩ (fun ex st=>ex=.panic (Oi v)/\∃sel:List Nat,sel.Nodup/\sel.take O.length=List.range O.length/\Kh sel st.O sel σ0)):Pan B f args O v σ0:=by
 refine⟨fun F w g vs hm ha=>.inl ⟨⟨fn,c,hf,hb,hn⟩,?_⟩⟩;refine calls_of_wp hf hb ?_;refine Ha (h F) rfl (Jq hm ha) ?_;rintro ex st a' w' g' ⟨rfl,sel,h1,h2,h3⟩ hr he;obtain⟨s1,s2,s3,s4⟩:=J8 hr.mem sel h1 h2 h3;exact⟨hr.defers.eq rfl,CP sel g',rfl,s2,he.trans s3⟩
theorem BH{f:FuncId}{c:Code}{N:Nat}(n:Nat)(hn0:O.length=n)(hB:B.Ok)(hf:B.P.funcs[f]?=some fn)(hb:fn.body=some c)(hn:(fn.name == "runtime.NumGoroutine")=false) (hN:fn.ntmps=N) (hrs:fn.results.toList=rs) (hlen:args.length<=N) (h:∀F:Addr->Prop,Run (B.env F) n c ⟨Ah N (LG 0 args),O⟩ (Ajp (B.env F) n rs o)):PCon B f args O o:=by
 cases o with
 | ret r0 σ0=>
  subst hn0
  have h0:Con B f args O (fun r O'=>(∃sel:List Nat,wk2 sel r r0/\sel.Nodup/\sel.take O.length=List.range O.length/\Kh sel O' sel σ0) \/
    (fzR O' r=some r0/\Ru O.length O'=true/\Kh (List.range O.length) O' (List.range O.length) σ0)):=by
   refine Aa4 hB hf hb hn (fun F=>?_);subst hN hrs;rw[Fl fn.ntmps args hlen (LG 0 args) (fun t _=>FF args 0 t (Aq5 _))];refine I3 (h F) ?_;rintro ex st (⟨h1,sel,h2,h3,h4,h5⟩|⟨h1,⟨xs,h2,h3⟩,h4,h5⟩)
   ·unfold AgE at h2;split at h2
    ·rename_i xs hxs;exact⟨h1,xs,hxs,.inl ⟨sel,h2,h3,h4,h5⟩⟩
    exact h2.elim
   exact⟨h1,xs,h2,.inr ⟨h3,h4,h5⟩⟩
  refine⟨fun F w g vs hm ha=>(h0.call F w g vs hm ha).mono ?_⟩;rintro e w' ⟨v,r,O',g',h1,⟨sel,k1,k2,k3,k4⟩|⟨k1,k2,k3⟩,h3,h4,h5⟩
  ·obtain⟨s1,s2,s3,s4⟩:=J8 h3 sel k2 k3 k4;exact⟨v,r0,σ0,CP sel g',h1,⟨rfl,rfl⟩,s2,h4.trans s3,Xm s4 s1 h5 k1⟩
  have hrl:(List.range O.length).length=O.length:=AsK;obtain⟨s1,s2,s3,s4⟩:=J8 (n:=O.length) h3 (List.range O.length) List.nodup_range (Arp (by simp)) k3;refine⟨v,r0,σ0,CP (List.range O.length) g',h1,⟨rfl,rfl⟩,s2,h4.trans s3,(Ahd h3 h5 k1 s4 ?_).mono (fun a u hc hp=>⟨hc,hp⟩) (GLe.nil _)⟩;rintro id b hgb ⟨k,els,ro,hbuf⟩ β off hβ
  have hid:¬id<O.length:=fun hlt=>by
   obtain⟨cs,ro',e⟩:=AcO k2 hlt;rw[e]at hbuf;cases hbuf
  refine⟨fun hF=>(h3.foreign _ hF).2 ⟨id,b,hgb,hβ⟩,fun id' c hc he=>?_⟩;exfalso;obtain⟨i,e1,e2⟩:=(A8 s1).1 hc;have:=h3.inj i id c b β e2 hgb he hβ;subst this;exact hid (by simpa using AqO e1)
 |pan v σ0=>
  subst hn0;refine AlY hB hf hb hn (fun F=>?_);subst hN hrs;rw[Fl fn.ntmps args hlen (LG 0 args) (fun t _=>FF args 0 t (Aq5 _))];exact h F
theorem Aaa{α:Type}(l:List α):l.take 0=[]:=rfl
theorem VB:Ru 0 O=true:=rfl
attribute [go_sem] YZ WR WA Option.map_some VB AgZ Wz List.take_succ_cons Aaa List.take_zero
end Go.Rv
