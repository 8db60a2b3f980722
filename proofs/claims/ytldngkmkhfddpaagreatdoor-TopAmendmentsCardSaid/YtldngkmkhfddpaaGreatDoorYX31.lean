/-
  Part 31.
-/
import Derived.Test.YtldngkmkhfddpaaGreatDoorYX30
import Derived.Lib.SliceRun
namespace Go.Rv
open Go.RowKit
set_option linter.unusedVariables false
set_option linter.unusedSimpArgs false
variable{m n:Nat}{K:CO}{c:Code}{st:St}
variable {E:Env}
theorem ZA(hE:E.Ok){N id:Nat}{o1 o2:Oper}{fr:Fr}{O:Ac}{y:Code}{f:Bool}{els:List (List AV)}(s d1 d2:Nat)(T e:TypeId) (h1:o1.op=.move (.tmp s)) (e1:o1.dst=some d1) (g1:o1.guard=none) (h2:o2.op=.binOp .eql T (.tmp d1) (.const (.slice none 0 0)) T) (e2:o2.dst=some d2) (g2:o2.guard=none) (hs:look fr s=.sl f els) (hd:s<N/\d1<N) (hT:E.P.underlying T=some (.slice e)) (hk:∀b:Bool,(b=true->els=[])->Run E m y ⟨Ai N ((d2,.bool b)::(d1,.sl f els)::fr),O⟩ K):Run E m (.seq (.region id #[o1,o2] false) y) ⟨Ai N fr,O⟩ K:=by
 intro hcm a w g hr Q hq;obtain⟨_,cm2⟩:=On hcm;refine wpIn_seq ?_;refine wpIn_region_lit ?_;simp only[wpListIn,Region.wanted,g1,ApT];refine Sj ?_ (.inr (by unfold Qe;rw[h1]))
 have hop1:opL E (I6 [] [] none) false (evL N fr) O o1.op=some (.sl f els,O):=by
  rw[h1];show MU E (evL N fr) O (.move (.tmp s))=_;simp only[MU,evL,Apb hd.1,hs]
 refine Nd hE (Ab (B:=E.toBase) none) hop1 hr ?_;intro a2 w2 g2' hr2 he2 hle2;simp only[wpListIn,Region.wanted,g2,ApT];refine Sj ?_ (.inr (by unfold Qe;rw[h2]));simp only[e1]at hr2;have hrep:=hr2.slot d1 (.sl f els) (by rw[BN,Apb hd.2];show some (if d1=d1 then _ else _)=_;rw[Apb rfl]);obtain⟨v,hv⟩:∃v,v=a2.tmps.getD d1 undef:=⟨_,rfl⟩;rw[<-hv]at hrep;cases hrep with
 | sl _ p len cap _ _ k c hlen hcap hfull hnone hk0 hc hr0=>
  have hev:a2.eval (.tmp d1)=.slice p len cap:=hv.symm
  have hrun:(execOp a2.eval o2).run E.P w2=.ok (.value (.bool p.isNone)) w2:=by
   have:=Lib.run_eql_slice_nil (P:=E.P) w2 T e p len cap 0 0 hT;have hc0:a2.eval (.const (.slice none 0 0))=.slice none 0 0:=rfl;have hg:∀x y,(eqGuard .eql T x y (.slice p len cap) (.slice none 0 0)).run E.P w2=.ok () w2:=fun _ _=>rfl
   simp[execOp,h2,hev,hc0,hg,this,Result.andThen]
  unfold Oper.wp;refine RM (.inl hrun) ?_
  have hb:p.isNone=true->els=[]:=fun hp=>by
   have:p=none:=by simpa using hp
   have h0:=hnone this;exact ApM.1 (by omega)
  have hr3:=FI hr2 o2.dst (Rep.bool g2' p.isNone)
  have hr4:Rel E w2 g2' ⟨Ai N ((d2,.bool p.isNone)::(d1,.sl f els)::fr),O⟩ (a2.put o2.dst (.bool p.isNone)):=by
   have:Ay (Ai N (put (some d1) (.sl f els) fr)) o2.dst (.bool p.isNone)=Ai N ((d2,.bool p.isNone)::(d1,.sl f els)::fr):=by
    rw[EO,e2];rfl
   rw[<-this];exact hr3
  refine hk p.isNone hb cm2 _ w2 g2' hr4 Q ?_;intro ex st' a' w' g' kk rr ee;exact hq ex st' a' w' g' kk rr ((he2.of_gle hle2).trans ee)
def unK(E:Env)(n:Nat)(c:Code)(m:Nat)(K:CO):CO:=fun ex st'=>match ex with
 |.normal=>O9 E n c K m st'
 |ex=>K ex st'
theorem AdC(h:Run E n c st (unK E n c m K)):O9 E n c K (m+1) st :=
 Ie h fun ex st' hk=>by cases ex<;>exact hk
theorem Yj{st':St}(hw:Weak E n st st')(h:O9 E n c K m st'):O9 E n c K m st:=by
 cases m with
 |zero=>exact h
 |succ m=>exact Fa hw h
theorem Qw:Lm E n (unK E n c m K):=fun st st' h k=>Yj h k
def wkP(E:Env)(n:Nat)(K:CO):CO:=fun ex st=>∃st',Weak E n st st'/\K ex st'
theorem FU{ex:Exit}{st':St}(h:Weak E n st st')(k:K ex st'):wkP E n K ex st:=⟨st',h,k⟩
theorem BM(h:Run E n c st (wkP E n K)):Run E n c st K:=by
 intro hcm a w g hr Q hq;refine h hcm a w g hr Q ?_;rintro ex st' a' w' g' ⟨st2,hw,hk⟩ hr' he;obtain⟨g2,hr2,he2⟩:=hw a' w' g' hr';exact hq ex st2 a' w' g2 hk hr2 (he.trans he2)
theorem Kr:Lm E n (wkP E n K):=fun st st' h ⟨st2,h2,k⟩=>⟨st2,h.trans h2,k⟩
theorem JZ{N:Nat}{l:Fr}{O:Ac}(bid j:Nat){cs:List AV}{bro:Bool}{full:Bool}{id tot off len k:Nat}{els:List (List AV)}{ro:Bool}(hB:O[bid]?=some (.box cs bro))(h:cs[j]?=some (.bs full id tot off len)) (hO:O[id]?=some (.buf k els ro)) (ht:els.length=tot) (hc:D4 els=true):Weak E n ⟨Ai N l,O⟩ ⟨Ai N l,(D0 O id).set bid (.box (cs.set j (.sl false ((els.drop off).take len))) bro)⟩:=by
 refine Ec fun a w g hr=>?_
 obtain⟨g',hr',he,hs,hp⟩:=IY hr n [id];have hne:bid≠id:=fun e=>by subst e;rw[hB]at hO;cases hO
 have hbm:(Es O [id])[bid]?=some (.box cs bro):=by
  show(D0 O id)[bid]?=_;rw[DJ,Apd (fun e=>hne e)];exact hB
 have hbl:bid<(D0 O id).length:=(Ao6.1 hbm).1;refine⟨g',⟨hr'.size,hr'.slot,?_,hr'.defers⟩,he⟩;have hm:=hr'.mem;refine⟨by rw[AqK];exact hm.len,?_,hm.inj,hm.foreign,hm.glob,hm.maps,hm.whole⟩;intro id' b ab h1 h2;by_cases e:id'=bid
 ·subst e;rw[Aqd hbl]at h2;cases h2;obtain⟨k1,k2,k3,k4,k5,β,arr,t,fz,k6,k7,k8,k9,k10⟩:=hm.blk id' b (.box cs bro) h1 hbm;refine⟨k1,k2,k3,by simpa using k4,k5,β,arr,t,fz,k6,k7,by simpa using k8,k9,fun j' x hj=>?_⟩;rw[ApV]at hj;by_cases e2:j=j'
  ·subst e2;rw[Apb rfl]at hj;split at hj
   case isFalse=>cases hj
   cases hj;refine⟨?_,(k10 j _ h).2⟩
   obtain⟨b0,hb0⟩:∃b0,g[id']?=some b0:=by
    have:id'<g.length:=by rw[hr.mem.len];exact(Ao6.1 hB).1
    exact⟨_,Ao9 this⟩
   obtain⟨_,_,_,_,_,β0,arr0,t0,fz0,k60,k70,_,_,k100⟩:=hr.mem.blk id' b0 (.box cs bro) hb0 hB;obtain⟨b1,hb1,t1,t2,t3,t4,t5,t6⟩:=hs id' b0 hb0;rw[h1]at hb1;cases hb1;rw[t1]at k6;rw[k60]at k6;cases k6;rw[k7]at k70;obtain⟨rfl,_,_⟩:=Obj.cells.inj (Ao8 k70);have hslot:=(k100 j _ h).1;have hfz:Bm O (.bs full id tot off len)=some (.sl false ((els.drop off).take len)):=by simp[Bm,hO,ht,hc]
   refine(K1 hr.mem hslot hfz hp ?_).mono (fun a u hcc hpr=>⟨hcc,hpr⟩) (GLe.nil _);rintro id2 b2 ⟨full',tot',off',len',e'⟩ hb2 β2 off2 hβ2 hoff;cases e';obtain⟨b3,hb3,s1,s2,s3,s4,s5,s6⟩:=hs id b2 hb2
   have hmk:(Es O [id])[id]?=some (.buf k els true):=by
    show(D0 O id)[id]?=_;rw[DJ,Apb rfl,hO];rfl
   have hbro:b3.ro=true:=(hr'.mem.blk id b3 _ hb3 hmk).2.1;refine⟨fun hF=>(hr'.mem.foreign _ hF).2 ⟨id,b3,hb3,s1.trans hβ2⟩,fun id3 c hc3 he3=>?_⟩;have:id3=id:=hr'.mem.inj id3 id c b3 β2 hc3 hb3 he3 (s1.trans hβ2);subst this;rw[hb3]at hc3;cases hc3;exact⟨hbro,by rw[s2,s3,s4];exact hoff⟩
  rw[Apd e2]at hj;exact k10 j' x hj
 rw[ApY (fun e2=>e e2.symm)]at h2;exact hm.blk id' b ab h1 h2
end Go.Rv
