/-
  Part 46.
-/
import Derived.Test.YtldngkmkhfddpaaGreatDoorYV45
namespace Go.Rv
set_option linter.unusedVariables false
set_option linter.unusedSimpArgs false
variable{f:FuncId}{i:Nat}{a:Act}{st':St}{w:World}{g:Gh}{α:Type}
variable {E:Env}
section
variable {sel:List Nat}
theorem WV{o i' j p j':Nat}:wk0 sel (.fn f [.ref i o,.ref j p]) (.fn f [.ref i' o,.ref j' p])=(sel[i']?=some i/\sel[j']?=some j):=by
 refine propext ⟨fun h=>?_,fun h=>.inr (.inl ⟨rfl,⟨h.1,rfl⟩,⟨h.2,rfl⟩,trivial⟩)⟩;rcases h with⟨_,h⟩|⟨_,⟨h,_⟩,⟨k,_⟩,_⟩|⟨_,h⟩
 ·simp[AV.closed]at h
 ·exact⟨h,k⟩
 exact h.elim
theorem Aeg{o i' j p j':Nat}:wk1 sel (.fn f [.ref i o,.ref j p]) (.fn f [.ref i' o,.ref j' p])=(sel[i']?=some i/\sel[j']?=some j):=WV
theorem T1{N:Nat}(i o j p:Nat):MN sel N (.fn f [.ref i o,.ref j p])=.fn f [.ref (Gy sel N i) o,.ref (Gy sel N j) p]:=rfl
theorem Abe{N:Nat}(i o j p:Nat):Tm sel N (.fn f [.ref i o,.ref j p])=.fn f [.ref (Gy sel N i) o,.ref (Gy sel N j) p]:=T1 i o j p
attribute [go_sem] WV Aeg T1 Abe
end
theorem PR(hE:E.Ok){orc:Option Tmp->Orc}(hO:Hh E.toBase orc){m n:Nat}{ops:Array Oper}{K:CX}{rest:List Oper}:∀(l:List Oper) (fr:Fr) (O:Ad) (fr':Fr) (O':Ad),Ci E orc true n ops l (fr,O)=some (fr',O')->NG E m ops rest ⟨Al n fr',O'⟩ K->NG E m ops (l++rest) ⟨Al n fr,O⟩ K
 |[],fr,O,fr',O',h,hk=>by
  simp only[Ci,Ao0,Apa]at h;obtain⟨rfl,rfl⟩:=h;exact hk
 | o :: l,fr,O,fr',O',h,hk=>by
  simp only[Ci,Ao3]at h;obtain⟨⟨fr1,σ1⟩,h1,h2⟩:=h;have hv:=IJ h1;intro hcm a w g hr Q hq;obtain⟨cm1,cm2⟩:=Md hcm;unfold B6 at hv;rw[AoY]at hv;obtain⟨⟨x,σ2⟩,hv,e⟩:=hv
  have next:∀a' w' g',Rel E w' g' ⟨Ay (Al n fr) o.dst x,σ2⟩ a'->Evo E 0 w g w' g'->GLe g g'->wpListIn E.fen 0 E.P ops Q (l++rest) a' w':=by
   intro a' w' g' hr' he hg;have e':(⟨Ay (Al n fr) o.dst x,σ2⟩:St)=⟨Al n fr1,σ1⟩:=e;rw[e']at hr';refine PR (m:=m) hE hO l _ _ _ _ h2 hk cm2 a' w' g' hr' Q ?_;intro ex st' a2 w2 g2 k r e;exact hq ex st' a2 w2 g2 k r ((he.of_gle hg).trans e)
  unfold D2 G9 at hv;cases hg:o.guard with
  |none=>
   simp only[hg]at hv;simp only[Apo,wpListIn,Region.wanted,hg,ApL];exact R9 (ME hE hO hv hr next) cm1
  | some p=>
   obtain⟨j,want⟩:=p;simp only[hg]at hv;cases hy:Il ops (Al n fr) j with
   |none=>simp[hy]at hv
   | some b=>
    simp only[Apo,wpListIn,Region.wanted,hg,Hg hr hy];simp only[hy,Apz]at hv;by_cases e:b=some want
    ·rw[Ao4 (by simp[e])];rw[show(b==some want)=true by simp[e]]at hv;exact R9 (ME hE hO hv hr next) cm1
    rw[Ao6 (by simp[e])];rw[show(b==some want)=false by simp[e]]at hv;cases hv;exact⟨fun _ _=>trivial,next _ w g (FQ hr o.dst (Kt _ _ _)) (Evo.refl _ _ _ _) (GLe.refl _)⟩
theorem SU(hE:E.Ok){orc:Option Tmp->Orc}(hO:Hh E.toBase orc){m n id:Nat}{l:List Oper}{fr fr1 fr':Fr}{O σ1 O':Ad}{K:CX}(h1:Ci E orc true n l.toArray (Od l) (fr,O)=some (fr1,σ1))(h2:Ci E orc false n l.toArray (Qr l) (fr1,σ1)=some (fr',O'))(hk:K .normal ⟨Al n fr',O'⟩) :Run E m (.region id l.toArray false) ⟨Al n fr,O⟩ K:=by
 cases l with
 |nil=>
  simp only[Od,Qr,Ci,Ao0,Apa]at h1 h2;obtain⟨rfl,rfl⟩:=h1;obtain⟨rfl,rfl⟩:=h2;exact GH (V5 hk)
 |cons x l=>
  obtain⟨o,ho,hl⟩:=O9 x l;refine GH ?_;have:=PR (m:=m) (K:=K) (rest:=[o]) hE hO _ _ _ _ _ h1 (Nd hE hO [o] _ _ _ _ (by rw[<-ho];exact h2) hk);rw[<-hl]at this;exact this
section
variable {P:Prop}{N id:Nat}{l:List Oper}{fr fr':Fr}{O O':Ad}{y:Code}{orc:Option Tmp->Orc}{m:Nat}{K:CX}
theorem Ffq(ts:List Nat)(o:Hh E.toBase orc)(e:Is (Ae9 E orc N l ts (fr,O)) fr' O')(k:P->K .normal ⟨Al N fr',O'⟩)(hw:LW E m K:=by repeat' first|exact E6|exact G8|exact Uw|exact Ud|exact Ma|refine Fc ?_|refine Ik ?_)(hE:E.Ok:=by assumption):P->Run E m (.region id l.toArray false) ⟨Al N fr,O⟩ K:=fun p=>by
 have h:Ae9 E orc N l ts (fr,O)=some (fr',O'):=e;simp only[Ae9,Ao3,Ao0,Apa]at h;obtain⟨⟨fr1,σ1⟩,h1,⟨fr2,σ2⟩,h2,rfl,rfl⟩:=h;exact SU hE o h1 h2 (hw _ _ (Do _ _ _ _ _) (k p))
end
theorem Aex{a b:List UInt8}(h:i<2):[[AV.str a],[AV.str b]][i]?=some [AV.str (nth [a,b] i)]:=by
 match i,h with
 |0,_=>rfl
 |1,_=>rfl
theorem Aea{a b c:List UInt8}(h:i<3):[[AV.str a],[AV.str b],[AV.str c]][i]?=some [AV.str (nth [a,b,c] i)]:=by
 match i,h with
 |0,_=>rfl
 |1,_=>rfl
 |2,_=>rfl
attribute [go_sem] Aex Aea
def toK(E:Env)(n:Nat)(st':St):CX:=fun ex st=>ex=.normal/\Weak E n st st'
theorem AhH{n:Nat}:LW E n (toK E n st'):=fun st st2 h ⟨e,k⟩=>⟨e,h.trans k⟩
section
variable {N id n:Nat}{l:List Oper}{fr fr':Fr}{O O':Ad}{orc:Option Tmp->Orc}
theorem to0(ts:List Nat)(e:Is (HT E (LA [] []) false N l ts (fr,O)) fr' O':=by simp only[go_sem];exact CL)(hE:E.Ok:=by assumption):Run E n (.region id l.toArray false) ⟨Al N fr,O⟩ (toK E n ⟨Al N fr',O'⟩) :=
 F0 (P:=True) ts (fun _=>⟨rfl,Weak.refl _ _⟩) e AhH hE trivial
theorem toe(ts:List Nat)(o:Hh E.toBase orc)(e:Is (HT E orc false N l ts (fr,O)) fr' O')(hE:E.Ok:=by assumption):Run E n (.region id l.toArray false) ⟨Al N fr,O⟩ (toK E n ⟨Al N fr',O'⟩) :=
 Fe (P:=True) ts o e (fun _=>⟨rfl,Weak.refl _ _⟩) AhH hE trivial
theorem tow(ts:List Nat)(o:Hh E.toBase orc)(e:Is (HT E orc false N l ts (fr,O)) fr' O')(w:Weak E n ⟨Al N fr',O'⟩ st')(hE:E.Ok:=by assumption):Run E n (.region id l.toArray false) ⟨Al N fr,O⟩ (toK E n st') :=
 Fe (P:=True) ts o e (fun _=>⟨rfl,w⟩) AhH hE trivial
end
theorem Tc{n:Nat}{c y:Code}{st:St}(h:Run E n c st (toK E n st'))(hE:E.rd=none){Q:Exit->Act->World->Prop}(hr:Rel E w g st a) (k:∀a' w' g',Rel E w' g' st' a'->Evo E n w g w' g'->y.wp E.P Q a' w'):(Code.seq c y).wp E.P Q a w:=by
 refine wp_seq (Hs h hE hr ?_);rintro ex st1 a1 w1 g1 ⟨rfl,hw⟩ hr1 he1;obtain⟨g2,hr2,he2⟩:=hw a1 w1 g1 hr1;exact k _ _ _ hr2 (he1.trans he2)
theorem Afz{n:Nat}{c:Code}{st:St}(h:Run E n c st (toK E n st'))(hE:E.rd=none){Q:Exit->Act->World->Prop}(hr:Rel E w g st a) (k:∀a' w' g',Rel E w' g' st' a'->Evo E n w g w' g'->Q .normal a' w'):c.wp E.P Q a w:=by
 refine Hs h hE hr ?_;rintro ex st1 a1 w1 g1 ⟨rfl,hw⟩ hr1 he1;obtain⟨g2,hr2,he2⟩:=hw a1 w1 g1 hr1;exact k _ _ _ hr2 (he1.trans he2)
theorem AfF{n N:Nat}{l l':Fr}{O O':Ad}(sel:List Nat)(hnd:sel.Nodup)(hn:sel.take n=List.range n)(hO:Im sel O sel O')(hf:Ah1 sel l l')(h:Rel E w g ⟨Al N l,O⟩ a) :Rel E w (CK sel g) ⟨Al N l',O'⟩ a/\Evo E n w g w (CK sel g)/\∀i∈sel,i<g.length:=by
 obtain⟨hs,hm,he,hp⟩:=J6 (n:=n) h.mem sel hnd hn hO;refine⟨⟨?_,?_,hm,h.defers.sub (fun β hh=>DD hs hh)⟩,he,hs⟩
 ·have:=h.size;simpa [Al]using this
 intro t x hx;rw[BS]at hx;split at hx
 case isFalse=>cases hx
 rename_i ht;cases hx;rcases OJ hf t with e|e
 ·rw[e];exact .junk _ _
 exact Rd hs (h.slot t _ (by rw[BS,Ao4 ht])) e
theorem Ag4{n N:Nat}{l:Fr}{O O':Ad}(t id:Nat){cs:List AV}{ro:Bool}(h:look l t=.ref id 0)(hb:O[id]?=some (.box cs ro))(hc:cs.all AV.closed=true)(hm:E0 O [id]=O') :Weak E n ⟨Al N l,O⟩ ⟨Al N ((t,.rp cs)::l),O'⟩:=by
 subst hm;refine Eh fun a w g hr=>?_
 obtain⟨g',hr',he,hs,hp⟩:=IK hr n [id];refine⟨g',⟨?_,?_,hr'.mem,hr.defers.evo he⟩,he⟩
 ·have:=hr.size;simpa [Al]using this
 intro s x' hx;rw[BS]at hx;split at hx
 case isFalse=>cases hx
 rename_i hs';cases hx;show Rep _ _ _ _ (if s=t then _ else look l s);by_cases e:s=t
 ·subst e;rw[Ao4 rfl];have hslot:=hr'.slot s (look l s) (by rw[BS,Ao4 hs']);rw[h]at hslot;have hO:∀i,(E0 O [id])[i]?=if i=id then(O[i]?).map (fun ab=>match ab with|.box cs _=>.box cs true|.buf k els _=>.buf k els true|.obj o=>.obj o|.tb T l=>.tb T l|.mp st es=>.mp st es|.lp y N l ps a b=>.lp y N l ps a b|.gone=>.gone)else O[i]?:=fun i=>DN O id i
  refine Xd (id:=id) hr'.mem ?_ hslot (y:=.rp cs) ?_
  ·intro cs ro h1;rw[hO,Ao4 rfl]at h1;cases h2:O[id]? with
   |none=>rw[h2]at h1;cases h1
   |some b=>rw[h2]at h1;cases b<;>simp at h1;exact h1.2
  unfold XY;simp only;rw[Ao4 trivial,hO,Ao4 rfl,hb];simp only[Apz];rw[Ao4 hc];rfl
 rw[Ao6 e];exact hr'.slot s (look l s) (by rw[BS,Ao4 hs'])
theorem AiV[Inhabited α](a b c d:α):nth [a,b,c,d] 0=a:=rfl
theorem AjW[Inhabited α](a b c d:α):nth [a,b,c,d] 1=b:=rfl
theorem AkN[Inhabited α](a b c d:α):nth [a,b,c,d] 2=c:=rfl
theorem Ain[Inhabited α](a b c d:α):nth [a,b,c,d] 3=d:=rfl
theorem Wd(f:FuncId)(cs:List AV):(AV.fn f [AV.rp cs]).closed=true:=by simp[AV.closed]
attribute [go_sem] AiV AjW AkN Ain Wd
end Go.Rv
