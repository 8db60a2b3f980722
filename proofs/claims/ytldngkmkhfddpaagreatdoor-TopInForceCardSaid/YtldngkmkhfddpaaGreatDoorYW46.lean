/-
  Part 46.
-/
import Derived.Test.YtldngkmkhfddpaaGreatDoorYW45
namespace Go.Rv
set_option linter.unusedSimpArgs false
set_option linter.unusedVariables false
variable{f:FuncId}{i:Nat}{a:Act}{st':St}{w:World}{g:Gh}{α:Type}
variable {E:Env}
section
variable {sel:List Nat}
theorem Ys{o i' j p j':Nat}:wk0 sel (.fn f [.ref i o,.ref j p]) (.fn f [.ref i' o,.ref j' p])=(sel[i']?=some i/\sel[j']?=some j):=by
 refine propext ⟨fun h=>?_,fun h=>.inr (.inl ⟨rfl,⟨h.1,rfl⟩,⟨h.2,rfl⟩,trivial⟩)⟩;rcases h with⟨_,h⟩|⟨_,⟨h,_⟩,⟨k,_⟩,_⟩|⟨_,h⟩
 ·simp[AV.closed]at h
 ·exact⟨h,k⟩
 exact h.elim
theorem Aeo{o i' j p j':Nat}:wk1 sel (.fn f [.ref i o,.ref j p]) (.fn f [.ref i' o,.ref j' p])=(sel[i']?=some i/\sel[j']?=some j):=Ys
theorem TS{N:Nat}(i o j p:Nat):Nw sel N (.fn f [.ref i o,.ref j p])=.fn f [.ref (G6 sel N i) o,.ref (G6 sel N j) p]:=rfl
theorem AbD{N:Nat}(i o j p:Nat):T5 sel N (.fn f [.ref i o,.ref j p])=.fn f [.ref (G6 sel N i) o,.ref (G6 sel N j) p]:=TS i o j p
attribute [go_sem] Ys Aeo TS AbD
end
theorem PE(hE:E.Ok){orc:Option Tmp->Orc}(hO:H3 E.toBase orc){m n:Nat}{ops:Array Oper}{K:CX}{rest:List Oper}:∀(l:List Oper) (fr:Fr) (O:Ac) (fr':Fr) (O':Ac),Cy E orc true n ops l (fr,O)=some (fr',O')->Om E m ops rest ⟨Ah n fr',O'⟩ K->Om E m ops (l++rest) ⟨Ah n fr,O⟩ K
 |[],fr,O,fr',O',h,hk=>by
  simp only[Cy,AqG,AqQ]at h;obtain⟨rfl,rfl⟩:=h;exact hk
 | o :: l,fr,O,fr',O',h,hk=>by
  simp only[Cy,AqK]at h;obtain⟨⟨fr1,σ1⟩,h1,h2⟩:=h;have hv:=Jg h1;intro hcm a w g hr Q hq;obtain⟨cm1,cm2⟩:=MN hcm;unfold Cc at hv;rw[AqE]at hv;obtain⟨⟨x,σ2⟩,hv,e⟩:=hv
  have next:∀a' w' g',Rel E w' g' ⟨AC (Ah n fr) o.dst x,σ2⟩ a'->Evo E 0 w g w' g'->GLe g g'->wpListIn E.fen 0 E.P ops Q (l++rest) a' w':=by
   intro a' w' g' hr' he hg;have e':(⟨AC (Ah n fr) o.dst x,σ2⟩:St)=⟨Ah n fr1,σ1⟩:=e;rw[e']at hr';refine PE (m:=m) hE hO l _ _ _ _ h2 hk cm2 a' w' g' hr' Q ?_;intro ex st' a2 w2 g2 k r e;exact hq ex st' a2 w2 g2 k r ((he.of_gle hg).trans e)
  unfold DP Ig at hv;cases hg:o.guard with
  |none=>
   simp only[hg]at hv;simp only[Aq7,wpListIn,Region.wanted,hg,Aro];exact O6 (NI hE hO hv hr next) cm1
  | some p=>
   obtain⟨j,want⟩:=p;simp only[hg]at hv;cases hy:Iz ops (Ah n fr) j with
   |none=>simp[hy]at hv
   | some b=>
    simp only[Aq7,wpListIn,Region.wanted,hg,He hr hy];simp only[hy,Arg]at hv;by_cases e:b=some want
    ·rw[AqJ (by simp[e])];rw[show(b==some want)=true by simp[e]]at hv;exact O6 (NI hE hO hv hr next) cm1
    rw[AqI (by simp[e])];rw[show(b==some want)=false by simp[e]]at hv;cases hv;exact⟨fun _ _=>trivial,next _ w g (Fw hr o.dst (Kq _ _ _)) (Evo.refl _ _ _ _) (GLe.refl _)⟩
theorem U2(hE:E.Ok){orc:Option Tmp->Orc}(hO:H3 E.toBase orc){m n id:Nat}{l:List Oper}{fr fr1 fr':Fr}{O σ1 O':Ac}{K:CX}(h1:Cy E orc true n l.toArray (Ou l) (fr,O)=some (fr1,σ1))(h2:Cy E orc false n l.toArray (QD l) (fr1,σ1)=some (fr',O'))(hk:K .normal ⟨Ah n fr',O'⟩) :Run E m (.region id l.toArray false) ⟨Ah n fr,O⟩ K:=by
 cases l with
 |nil=>
  simp only[Ou,QD,Cy,AqG,AqQ]at h1 h2;obtain⟨rfl,rfl⟩:=h1;obtain⟨rfl,rfl⟩:=h2;exact GR (W1 hk)
 |cons x l=>
  obtain⟨o,ho,hl⟩:=PC x l;refine GR ?_;have:=PE (m:=m) (K:=K) (rest:=[o]) hE hO _ _ _ _ _ h1 (NM hE hO [o] _ _ _ _ (by rw[<-ho];exact h2) hk);rw[<-hl]at this;exact this
section
variable {P:Prop}{N id:Nat}{l:List Oper}{fr fr':Fr}{O O':Ac}{y:Code}{orc:Option Tmp->Orc}{m:Nat}{K:CX}
theorem Ffq(ts:List Nat)(o:H3 E.toBase orc)(e:Is (Agh E orc N l ts (fr,O)) fr' O')(k:P->K .normal ⟨Ah N fr',O'⟩)(hw:MC E m K:=by repeat' first|exact EK|exact Gl|exact SD|exact Se|exact LB|refine Eo ?_|refine H8 ?_)(hE:E.Ok:=by assumption):P->Run E m (.region id l.toArray false) ⟨Ah N fr,O⟩ K:=fun p=>by
 have h:Agh E orc N l ts (fr,O)=some (fr',O'):=e;simp only[Agh,AqK,AqG,AqQ]at h;obtain⟨⟨fr1,σ1⟩,h1,⟨fr2,σ2⟩,h2,rfl,rfl⟩:=h;exact U2 hE o h1 h2 (hw _ _ (D0 _ _ _ _ _) (k p))
end
theorem AdT{a b:List UInt8}(h:i<2):[[AV.str a],[AV.str b]][i]?=some [AV.str (nth [a,b] i)]:=by
 match i,h with
 |0,_=>rfl
 |1,_=>rfl
theorem AdJ{a b c:List UInt8}(h:i<3):[[AV.str a],[AV.str b],[AV.str c]][i]?=some [AV.str (nth [a,b,c] i)]:=by
 match i,h with
 |0,_=>rfl
 |1,_=>rfl
 |2,_=>rfl
attribute [go_sem] AdT AdJ
def toK(E:Env)(n:Nat)(st':St):CX:=fun ex st=>ex=.normal/\Weak E n st st'
theorem AiE{n:Nat}:MC E n (toK E n st'):=fun st st2 h ⟨e,k⟩=>⟨e,h.trans k⟩
section
variable {N id n:Nat}{l:List Oper}{fr fr':Fr}{O O':Ac}{orc:Option Tmp->Orc}
theorem to0(ts:List Nat)(e:Is (Ib E (HX [] []) false N l ts (fr,O)) fr' O':=by simp only[go_sem];exact Ce)(hE:E.Ok:=by assumption):Run E n (.region id l.toArray false) ⟨Ah N fr,O⟩ (toK E n ⟨Ah N fr',O'⟩) :=
 F0 (P:=True) ts (fun _=>⟨rfl,Weak.refl _ _⟩) e AiE hE trivial
theorem toe(ts:List Nat)(o:H3 E.toBase orc)(e:Is (Ib E orc false N l ts (fr,O)) fr' O')(hE:E.Ok:=by assumption):Run E n (.region id l.toArray false) ⟨Ah N fr,O⟩ (toK E n ⟨Ah N fr',O'⟩) :=
 Fe (P:=True) ts o e (fun _=>⟨rfl,Weak.refl _ _⟩) AiE hE trivial
theorem tow(ts:List Nat)(o:H3 E.toBase orc)(e:Is (Ib E orc false N l ts (fr,O)) fr' O')(w:Weak E n ⟨Ah N fr',O'⟩ st')(hE:E.Ok:=by assumption):Run E n (.region id l.toArray false) ⟨Ah N fr,O⟩ (toK E n st') :=
 Fe (P:=True) ts o e (fun _=>⟨rfl,w⟩) AiE hE trivial
end
theorem Uy{n:Nat}{c y:Code}{st:St}(h:Run E n c st (toK E n st'))(hE:E.rd=none){Q:Exit->Act->World->Prop}(hr:Rel E w g st a) (k:∀a' w' g',Rel E w' g' st' a'->Evo E n w g w' g'->y.wp E.P Q a' w'):(Code.seq c y).wp E.P Q a w:=by
 refine wp_seq (Ha h hE hr ?_);rintro ex st1 a1 w1 g1 ⟨rfl,hw⟩ hr1 he1;obtain⟨g2,hr2,he2⟩:=hw a1 w1 g1 hr1;exact k _ _ _ hr2 (he1.trans he2)
theorem Agl{n:Nat}{c:Code}{st:St}(h:Run E n c st (toK E n st'))(hE:E.rd=none){Q:Exit->Act->World->Prop}(hr:Rel E w g st a) (k:∀a' w' g',Rel E w' g' st' a'->Evo E n w g w' g'->Q .normal a' w'):c.wp E.P Q a w:=by
 refine Ha h hE hr ?_;rintro ex st1 a1 w1 g1 ⟨rfl,hw⟩ hr1 he1;obtain⟨g2,hr2,he2⟩:=hw a1 w1 g1 hr1;exact k _ _ _ hr2 (he1.trans he2)
theorem Ag6{n N:Nat}{l l':Fr}{O O':Ac}(sel:List Nat)(hnd:sel.Nodup)(hn:sel.take n=List.range n)(hO:Kh sel O sel O')(hf:Ajn sel l l')(h:Rel E w g ⟨Ah N l,O⟩ a) :Rel E w (CP sel g) ⟨Ah N l',O'⟩ a/\Evo E n w g w (CP sel g)/\∀i∈sel,i<g.length:=by
 obtain⟨hs,hm,he,hp⟩:=J8 (n:=n) h.mem sel hnd hn hO;refine⟨⟨?_,?_,hm,h.defers.sub (fun β hh=>DC hs hh)⟩,he,hs⟩
 ·have:=h.size;simpa [Ah]using this
 intro t x hx;rw[BT]at hx;split at hx
 case isFalse=>cases hx
 rename_i ht;cases hx;rcases PW hf t with e|e
 ·rw[e];exact .junk _ _
 exact SK hs (h.slot t _ (by rw[BT,AqJ ht])) e
theorem Aix{n N:Nat}{l:Fr}{O O':Ac}(t id:Nat){cs:List AV}{ro:Bool}(h:look l t=.ref id 0)(hb:O[id]?=some (.box cs ro))(hc:cs.all AV.closed=true)(hm:EB O [id]=O') :Weak E n ⟨Ah N l,O⟩ ⟨Ah N ((t,.rp cs)::l),O'⟩:=by
 subst hm;refine Er fun a w g hr=>?_
 obtain⟨g',hr',he,hs,hp⟩:=IR hr n [id];refine⟨g',⟨?_,?_,hr'.mem,hr.defers.evo he⟩,he⟩
 ·have:=hr.size;simpa [Ah]using this
 intro s x' hx;rw[BT]at hx;split at hx
 case isFalse=>cases hx
 rename_i hs';cases hx;show Rep _ _ _ _ (if s=t then _ else look l s);by_cases e:s=t
 ·subst e;rw[AqJ rfl];have hslot:=hr'.slot s (look l s) (by rw[BT,AqJ hs']);rw[h]at hslot;have hO:∀i,(EB O [id])[i]?=if i=id then(O[i]?).map (fun ab=>match ab with|.box cs _=>.box cs true|.buf k els _=>.buf k els true|.obj o=>.obj o|.tb T l=>.tb T l|.mp st es=>.mp st es|.lp y N l ps a b=>.lp y N l ps a b|.gone=>.gone)else O[i]?:=fun i=>DN O id i
  refine X7 (id:=id) hr'.mem ?_ hslot (y:=.rp cs) ?_
  ·intro cs ro h1;rw[hO,AqJ rfl]at h1;cases h2:O[id]? with
   |none=>rw[h2]at h1;cases h1
   |some b=>rw[h2]at h1;cases b<;>simp at h1;exact h1.2
  unfold Zx;simp only;rw[AqJ trivial,hO,AqJ rfl,hb];simp only[Arg];rw[AqJ hc];rfl
 rw[AqI e];exact hr'.slot s (look l s) (by rw[BT,AqJ hs'])
theorem Am7[Inhabited α](a b c d:α):nth [a,b,c,d] 0=a:=rfl
theorem Anc[Inhabited α](a b c d:α):nth [a,b,c,d] 1=b:=rfl
theorem Ako[Inhabited α](a b c d:α):nth [a,b,c,d] 2=c:=rfl
theorem Alo[Inhabited α](a b c d:α):nth [a,b,c,d] 3=d:=rfl
theorem WN(f:FuncId)(cs:List AV):(AV.fn f [AV.rp cs]).closed=true:=by simp[AV.closed]
attribute [go_sem] Am7 Anc Ako Alo WN
end Go.Rv
