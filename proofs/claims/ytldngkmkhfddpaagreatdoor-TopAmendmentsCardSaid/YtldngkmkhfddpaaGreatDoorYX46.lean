/-
  Part 46.
-/
import Derived.Test.YtldngkmkhfddpaaGreatDoorYX45
namespace Go.Rv
set_option linter.unusedSimpArgs false
set_option linter.unusedVariables false
variable{f:FuncId}{i:Nat}{a:Act}{st':St}{w:World}{g:Gh}{α:Type}
variable {E:Env}
section
variable {sel:List Nat}
theorem WO{o i' j p j':Nat}:wk0 sel (.fn f [.ref i o,.ref j p]) (.fn f [.ref i' o,.ref j' p])=(sel[i']?=some i/\sel[j']?=some j):=by
 refine propext ⟨fun h=>?_,fun h=>.inr (.inl ⟨rfl,⟨h.1,rfl⟩,⟨h.2,rfl⟩,trivial⟩)⟩;rcases h with⟨_,h⟩|⟨_,⟨h,_⟩,⟨k,_⟩,_⟩|⟨_,h⟩
 ·simp[AV.closed]at h
 ·exact⟨h,k⟩
 exact h.elim
theorem Ac6{o i' j p j':Nat}:wk1 sel (.fn f [.ref i o,.ref j p]) (.fn f [.ref i' o,.ref j' p])=(sel[i']?=some i/\sel[j']?=some j):=WO
theorem Uu{N:Nat}(i o j p:Nat):MG sel N (.fn f [.ref i o,.ref j p])=.fn f [.ref (Gv sel N i) o,.ref (Gv sel N j) p]:=rfl
theorem Aa8{N:Nat}(i o j p:Nat):SI sel N (.fn f [.ref i o,.ref j p])=.fn f [.ref (Gv sel N i) o,.ref (Gv sel N j) p]:=Uu i o j p
attribute [go_sem] WO Ac6 Uu Aa8
end
theorem P2(hE:E.Ok){orc:Option Tmp->Orc}(hO:He E.toBase orc){m n:Nat}{ops:Array Oper}{K:CO}{rest:List Oper}:∀(l:List Oper) (fr:Fr) (O:Ac) (fr':Fr) (O':Ac),Cc E orc true n ops l (fr,O)=some (fr',O')->Np E m ops rest ⟨Ai n fr',O'⟩ K->Np E m ops (l++rest) ⟨Ai n fr,O⟩ K
 |[],fr,O,fr',O',h,hk=>by
  simp only[Cc,Ao7,Apf]at h;obtain⟨rfl,rfl⟩:=h;exact hk
 | o :: l,fr,O,fr',O',h,hk=>by
  simp only[Cc,Apa]at h;obtain⟨⟨fr1,σ1⟩,h1,h2⟩:=h;have hv:=IV h1;intro hcm a w g hr Q hq;obtain⟨cm1,cm2⟩:=Mp hcm;unfold Bw at hv;rw[Ao5]at hv;obtain⟨⟨x,σ2⟩,hv,e⟩:=hv
  have next:∀a' w' g',Rel E w' g' ⟨Ay (Ai n fr) o.dst x,σ2⟩ a'->Evo E 0 w g w' g'->GLe g g'->wpListIn E.fen 0 E.P ops Q (l++rest) a' w':=by
   intro a' w' g' hr' he hg;have e':(⟨Ay (Ai n fr) o.dst x,σ2⟩:St)=⟨Ai n fr1,σ1⟩:=e;rw[e']at hr';refine P2 (m:=m) hE hO l _ _ _ _ h2 hk cm2 a' w' g' hr' Q ?_;intro ex st' a2 w2 g2 k r e;exact hq ex st' a2 w2 g2 k r ((he.of_gle hg).trans e)
  unfold Dz G8 at hv;cases hg:o.guard with
  |none=>
   simp only[hg]at hv;simp only[Apv,wpListIn,Region.wanted,hg,ApT];exact Sj (MW hE hO hv hr next) cm1
  | some p=>
   obtain⟨j,want⟩:=p;simp only[hg]at hv;cases hy:Io ops (Ai n fr) j with
   |none=>simp[hy]at hv
   | some b=>
    simp only[Apv,wpListIn,Region.wanted,hg,GQ hr hy];simp only[hy,ApG]at hv;by_cases e:b=some want
    ·rw[Apb (by simp[e])];rw[show(b==some want)=true by simp[e]]at hv;exact Sj (MW hE hO hv hr next) cm1
    rw[Apd (by simp[e])];rw[show(b==some want)=false by simp[e]]at hv;cases hv;exact⟨fun _ _=>trivial,next _ w g (FI hr o.dst (Km _ _ _)) (Evo.refl _ _ _ _) (GLe.refl _)⟩
theorem Th(hE:E.Ok){orc:Option Tmp->Orc}(hO:He E.toBase orc){m n id:Nat}{l:List Oper}{fr fr1 fr':Fr}{O σ1 O':Ac}{K:CO}(h1:Cc E orc true n l.toArray (NU l) (fr,O)=some (fr1,σ1))(h2:Cc E orc false n l.toArray (Qd l) (fr1,σ1)=some (fr',O'))(hk:K .normal ⟨Ai n fr',O'⟩) :Run E m (.region id l.toArray false) ⟨Ai n fr,O⟩ K:=by
 cases l with
 |nil=>
  simp only[NU,Qd,Cc,Ao7,Apf]at h1 h2;obtain⟨rfl,rfl⟩:=h1;obtain⟨rfl,rfl⟩:=h2;exact G4 (Wx hk)
 |cons x l=>
  obtain⟨o,ho,hl⟩:=P7 x l;refine G4 ?_;have:=P2 (m:=m) (K:=K) (rest:=[o]) hE hO _ _ _ _ _ h1 (MM hE hO [o] _ _ _ _ (by rw[<-ho];exact h2) hk);rw[<-hl]at this;exact this
section
variable {P:Prop}{N id:Nat}{l:List Oper}{fr fr':Fr}{O O':Ac}{y:Code}{orc:Option Tmp->Orc}{m:Nat}{K:CO}
theorem Ffq(ts:List Nat)(o:He E.toBase orc)(e:Is (Afh E orc N l ts (fr,O)) fr' O')(k:P->K .normal ⟨Ai N fr',O'⟩)(hw:Lm E m K:=by repeat' first|exact Ea|exact FJ|exact Qm|exact Qw|exact Kr|refine E4 ?_|refine GJ ?_)(hE:E.Ok:=by assumption):P->Run E m (.region id l.toArray false) ⟨Ai N fr,O⟩ K:=fun p=>by
 have h:Afh E orc N l ts (fr,O)=some (fr',O'):=e;simp only[Afh,Apa,Ao7,Apf]at h;obtain⟨⟨fr1,σ1⟩,h1,⟨fr2,σ2⟩,h2,rfl,rfl⟩:=h;exact Th hE o h1 h2 (hw _ _ (Dh _ _ _ _ _) (k p))
end
theorem Adn{a b:List UInt8}(h:i<2):[[AV.str a],[AV.str b]][i]?=some [AV.str (nth [a,b] i)]:=by
 match i,h with
 |0,_=>rfl
 |1,_=>rfl
theorem AcZ{a b c:List UInt8}(h:i<3):[[AV.str a],[AV.str b],[AV.str c]][i]?=some [AV.str (nth [a,b,c] i)]:=by
 match i,h with
 |0,_=>rfl
 |1,_=>rfl
 |2,_=>rfl
attribute [go_sem] Adn AcZ
def toK(E:Env)(n:Nat)(st':St):CO:=fun ex st=>ex=.normal/\Weak E n st st'
theorem AfN{n:Nat}:Lm E n (toK E n st'):=fun st st2 h ⟨e,k⟩=>⟨e,h.trans k⟩
section
variable {N id n:Nat}{l:List Oper}{fr fr':Fr}{O O':Ac}{orc:Option Tmp->Orc}
theorem to0(ts:List Nat)(e:Is (Hq E (I6 [] []) false N l ts (fr,O)) fr' O':=by simp only[go_sem];exact C2)(hE:E.Ok:=by assumption):Run E n (.region id l.toArray false) ⟨Ai N fr,O⟩ (toK E n ⟨Ai N fr',O'⟩) :=
 F0 (P:=True) ts (fun _=>⟨rfl,Weak.refl _ _⟩) e AfN hE trivial
theorem toe(ts:List Nat)(o:He E.toBase orc)(e:Is (Hq E orc false N l ts (fr,O)) fr' O')(hE:E.Ok:=by assumption):Run E n (.region id l.toArray false) ⟨Ai N fr,O⟩ (toK E n ⟨Ai N fr',O'⟩) :=
 Fe (P:=True) ts o e (fun _=>⟨rfl,Weak.refl _ _⟩) AfN hE trivial
theorem tow(ts:List Nat)(o:He E.toBase orc)(e:Is (Hq E orc false N l ts (fr,O)) fr' O')(w:Weak E n ⟨Ai N fr',O'⟩ st')(hE:E.Ok:=by assumption):Run E n (.region id l.toArray false) ⟨Ai N fr,O⟩ (toK E n st') :=
 Fe (P:=True) ts o e (fun _=>⟨rfl,w⟩) AfN hE trivial
end
theorem U5{n:Nat}{c y:Code}{st:St}(h:Run E n c st (toK E n st'))(hE:E.rd=none){Q:Exit->Act->World->Prop}(hr:Rel E w g st a) (k:∀a' w' g',Rel E w' g' st' a'->Evo E n w g w' g'->y.wp E.P Q a' w'):(Code.seq c y).wp E.P Q a w:=by
 refine wp_seq (Hu h hE hr ?_);rintro ex st1 a1 w1 g1 ⟨rfl,hw⟩ hr1 he1;obtain⟨g2,hr2,he2⟩:=hw a1 w1 g1 hr1;exact k _ _ _ hr2 (he1.trans he2)
theorem Afo{n:Nat}{c:Code}{st:St}(h:Run E n c st (toK E n st'))(hE:E.rd=none){Q:Exit->Act->World->Prop}(hr:Rel E w g st a) (k:∀a' w' g',Rel E w' g' st' a'->Evo E n w g w' g'->Q .normal a' w'):c.wp E.P Q a w:=by
 refine Hu h hE hr ?_;rintro ex st1 a1 w1 g1 ⟨rfl,hw⟩ hr1 he1;obtain⟨g2,hr2,he2⟩:=hw a1 w1 g1 hr1;exact k _ _ _ hr2 (he1.trans he2)
theorem AhY{n N:Nat}{l l':Fr}{O O':Ac}(sel:List Nat)(hnd:sel.Nodup)(hn:sel.take n=List.range n)(hO:JI sel O sel O')(hf:Ah4 sel l l')(h:Rel E w g ⟨Ai N l,O⟩ a) :Rel E w (CG sel g) ⟨Ai N l',O'⟩ a/\Evo E n w g w (CG sel g)/\∀i∈sel,i<g.length:=by
 obtain⟨hs,hm,he,hp⟩:=Jz (n:=n) h.mem sel hnd hn hO;refine⟨⟨?_,?_,hm,h.defers.sub (fun β hh=>DC hs hh)⟩,he,hs⟩
 ·have:=h.size;simpa [Ai]using this
 intro t x hx;rw[BN]at hx;split at hx
 case isFalse=>cases hx
 rename_i ht;cases hx;rcases Pa hf t with e|e
 ·rw[e];exact .junk _ _
 exact R7 hs (h.slot t _ (by rw[BN,Apb ht])) e
theorem AhB{n N:Nat}{l:Fr}{O O':Ac}(t id:Nat){cs:List AV}{ro:Bool}(h:look l t=.ref id 0)(hb:O[id]?=some (.box cs ro))(hc:cs.all AV.closed=true)(hm:Es O [id]=O') :Weak E n ⟨Ai N l,O⟩ ⟨Ai N ((t,.rp cs)::l),O'⟩:=by
 subst hm;refine Ec fun a w g hr=>?_
 obtain⟨g',hr',he,hs,hp⟩:=IY hr n [id];refine⟨g',⟨?_,?_,hr'.mem,hr.defers.evo he⟩,he⟩
 ·have:=hr.size;simpa [Ai]using this
 intro s x' hx;rw[BN]at hx;split at hx
 case isFalse=>cases hx
 rename_i hs';cases hx;show Rep _ _ _ _ (if s=t then _ else look l s);by_cases e:s=t
 ·subst e;rw[Apb rfl];have hslot:=hr'.slot s (look l s) (by rw[BN,Apb hs']);rw[h]at hslot;have hO:∀i,(Es O [id])[i]?=if i=id then(O[i]?).map (fun ab=>match ab with|.box cs _=>.box cs true|.buf k els _=>.buf k els true|.obj o=>.obj o|.tb T l=>.tb T l|.mp st es=>.mp st es|.lp y N l ps a b=>.lp y N l ps a b|.gone=>.gone)else O[i]?:=fun i=>DJ O id i
  refine WH (id:=id) hr'.mem ?_ hslot (y:=.rp cs) ?_
  ·intro cs ro h1;rw[hO,Apb rfl]at h1;cases h2:O[id]? with
   |none=>rw[h2]at h1;cases h1
   |some b=>rw[h2]at h1;cases b<;>simp at h1;exact h1.2
  unfold YP;simp only;rw[Apb trivial,hO,Apb rfl,hb];simp only[ApG];rw[Apb hc];rfl
 rw[Apd e];exact hr'.slot s (look l s) (by rw[BN,Apb hs'])
theorem AjR[Inhabited α](a b c d:α):nth [a,b,c,d] 0=a:=rfl
theorem Aiq[Inhabited α](a b c d:α):nth [a,b,c,d] 1=b:=rfl
theorem AkA[Inhabited α](a b c d:α):nth [a,b,c,d] 2=c:=rfl
theorem Ai1[Inhabited α](a b c d:α):nth [a,b,c,d] 3=d:=rfl
theorem WD(f:FuncId)(cs:List AV):(AV.fn f [AV.rp cs]).closed=true:=by simp[AV.closed]
attribute [go_sem] AjR Aiq AkA Ai1 WD
end Go.Rv
