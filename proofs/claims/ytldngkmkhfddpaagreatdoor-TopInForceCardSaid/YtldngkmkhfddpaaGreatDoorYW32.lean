/-
  Part 32.
-/
import Derived.Test.YtldngkmkhfddpaaGreatDoorYW31
import Derived.WideKeyElems2
import Derived.Maps.StringElems
import Derived.ChangeKeys
namespace Go.Rv
open Go.WideElems Go.ChangeShapes Go.WideShapes Go.MapKept
set_option linter.unusedSimpArgs false
set_option linter.unusedVariables false
variable{W:World}{sp:Nat->Bool}{n:Nat}{v:Value}
section
variable {H:Type}{enc:TypeId×Value->H}{P:Program}{base:Nat}{held:Bool}{e k:TypeId}
theorem W6(he:P.underlying e=some .bool){z:DataW H×List MemPlace}(h:elemAt enc P W base sp held n e v=some z):∃b:Bool,v=.bool b/\z.1=.lit (.bool b):=by
 unfold elemAt at h;split at h
 ·rename_i hf;cases n with
  |zero=>cases h
  | succ n=>
   unfold DataW.trod at h;rw[he]at h;cases v with
   |bool b=>
    refine⟨b,rfl,?_⟩;simp[Value.cells]at h;rw[<-h]
   |agg cs=>simp[Value.formed,he]at hf
   |_=>simp[Value.cells]at h
 cases h
theorem AiI(hk:P.underlying k=some .string){a:List UInt8}(h:keyOf P k v=some (.string a)):IsKey .string v/\v=avV (.str a):=by
 rw[keyOf_string hk]at h;unfold mapKey at h;rw[hk]at h;cases v with
 | string s=>
  simp only at h;split at h
  ·simp only[AqG,Lit.string.injEq]at h;subst h;exact⟨trivial,rfl⟩
  cases h
 |_=>simp at h
theorem AkP(hk:P.underlying k=some (.int .u8)){a:UInt8}(h:keyOf P k v=some (.int .u8 (a.toNat:Int))):IsKey (.int .u8) v/\v=avV (u8 a):=by
 rw[keyOf_int hk]at h;unfold mapKey at h;rw[hk]at h;cases v with
 | int q n=>
  simp only at h;split at h
  ·rename_i hc;simp only[AqG,Lit.int.injEq]at h;obtain⟨h1,h2⟩:=h;obtain⟨h3,_⟩:=hc;subst h3;rw[h2];exact⟨rfl,rfl⟩
  cases h
 |_=>simp at h
theorem Aiv(he:P.underlying e=some .string){pl:List MemPlace}{b:List UInt8}(h:elemAt enc P W base sp held n e v=some (.lit (.string b),pl)):v=avV (.str b):=by
 obtain⟨s,rfl,h2,_⟩:=WideElems.elemAt_string he h;simp only[AqQ,DataW.lit.injEq,Lit.string.injEq]at h2;rw[h2.1];rfl
theorem AeX(he:P.underlying e=some .bool){pl:List MemPlace}{b:Bool}(h:elemAt enc P W base sp held n e v=some (.lit (.bool b),pl)):v=avV (.bool b):=by
 obtain⟨s,rfl,h2⟩:=W6 he h;simp only[DataW.lit.injEq,Lit.bool.injEq]at h2;rw[h2];rfl
theorem AaK{x y:AV}(h:eqA x y=true):x=y:=by
 unfold eqA at h;split at h
 ·rw[ArO]at h;rw[h]
 ·rw[AqZ,ArO,ArO]at h;rw[h.1,h.2]
 ·rw[ArO]at h;rw[h]
 cases h
theorem AaP{κ ν:Type}{cK:κ->AV}{cV:ν->AV}{ka:AV}:∀{l:List (κ×ν)},QK cK cV l ka≠none->∃p∈l,cK p.1=ka
 |[],h=>absurd rfl h
 | p::l,h=>by
  unfold QK at h;by_cases hp:eqA (cK p.1) ka=true
  ·exact⟨p,by simp,AaK hp⟩
  rw[AqI hp]at h;obtain⟨q,hq,e⟩:=AaP h;exact⟨q,by simp[hq],e⟩
theorem UG{t:TypeId}{kd:TypeDesc}{zv:AV}{κ ν:Type}{tab:List (κ×ν)}{cK:κ->AV}{cV:ν->AV}{lK:κ->Lit}{lV:ν->Lit}{cs:List Value}{ps:List MemPlace}{fuel:Nat} (ht:P.underlying t=some (.map k e)) (hk:P.underlying k=some kd) (hz:∀w,(zeroValue e).run P w=.ok (avV zv) w) (hzp:Ga zv=true) (h:DataW.trod enc P W base sp held fuel t cs=some (.map (tab.map fun p=>(lK p.1,.lit (lV p.2))),ps)) (pK:∀a,Ga (cK a)=true) (pV:∀a,Ga (cV a)=true) (HK:∀v a,keyOf P k v=some (lK a)->IsKey kd v/\v=avV (cK a)) (HV:∀n v b pl,elemAt enc P W base sp held n e v=some (.lit (lV b),pl)->v=avV (cV b)) (hans:∀p∈tab,QK cK cV tab (cK p.1)=some (cV p.2)):∃r,cs=[.map (some r)]/\Ad2 P t ⟨r,k,e,kd,zv,QK cK cV tab⟩ W:=by
 rcases open_map ht h with⟨_,h2⟩|⟨b,es,clock,n,rfl,rfl,hb,hbase,F,h2⟩
 ·cases(As1 h2).1
 refine⟨b,rfl,ht,hk,hz,Vp hzp,es,clock,hb,?_,?_⟩
 ·intro x hx;obtain⟨y,hy⟩:=F.reads x hx
  have hm:y∈tab.map fun p=>(lK p.1,(.lit (lV p.2):DataW H)):=by
   rw[DataW.map.inj (As1 h2).1,(sorted_perm _).mem_iff];exact Ar0.2 ⟨x,hx,rg_of hy⟩
  obtain⟨p,hp,rfl⟩:=Ar0.1 hm;obtain⟨k1,k2⟩:=HK x.key p.1 (rd_key hy);obtain⟨⟨d,pl⟩,hv,hd⟩:=rd_val hy;simp only at hd;subst hd;exact⟨k1,cK p.1,cV p.2,k2,HV n x.val p.2 pl hv,pK _,Vp (pV _),hans p hp⟩
 intro ka hka hne;obtain⟨p,hp,rfl⟩:=AaP hne
 have hm:(lK p.1,(.lit (lV p.2):DataW H))∈es.toList.map (rg P k (elemAt enc P W base sp held n e)):=by
  rw[<-(sorted_perm _).mem_iff,<-DataW.map.inj (As1 h2).1];exact Ar0.2 ⟨p,hp,rfl⟩
 obtain⟨x,hx,hxe⟩:=Ar0.1 hm;obtain⟨y,hy⟩:=F.reads x hx;have hy2:=rd_key hy;rw[rg_of hy]at hxe;rw[hxe]at hy2;exact⟨x,hx,(HK x.key p.1 hy2).2⟩
end
end Go.Rv
