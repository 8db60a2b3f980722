/-
  Part 50.
-/
import Derived.Test.YtldngkmkhfddpaaDoorYT47
import Derived.Lib.Bytealg
import Derived.Lib.Join
namespace Go.Proofs.YtldngkmkhfddpaaDoor
open Go.Rv
set_option linter.unusedVariables false
set_option linter.unusedSimpArgs false
set_option maxRecDepth 8000
theorem Em{α β:Type}(x:α)(f:α→Option β):lt1 x f=f x:=of_eq_true (eq_self (f x))
theorem D9{k:Nat}(h:k<9223372036854775807):w64 ((k:Int)+1)=((k+1:Nat):Int):=by rw[JI (by omega)];rfl
theorem A3{α β:Type}(x:α)(f:α→Option β):(some x).bind f=f x:=of_eq_true (eq_self (f x))
theorem R3{α X:Type}[Inhabited α](l:List α)(f:Int→Option (Int⊕X))(p:α→Bool)(good bad:X)(hl:l.length<1152921504606846976)
  (hs:∀k:Nat,k<l.length→f (k:Int)=some (if p (nth l k)=true then .inl ((k+1:Nat):Int)else .inr bad)) (he:f (l.length:Int)=some (.inr good)) :
  CJ (fun v=>f v) 0=some (if l.all p=true then good else bad):=by
 obtain⟨x,hx,hq⟩:∃x,CJ (fun v=>f v) 0=some x∧x=(if l.all p=true then good else bad):=by
  refine FU (fun v=>∃k:Nat,v=(k:Int)∧k≤l.length∧(l.take k).all p=true) (fun v=>(l.length-v).toNat) _ ?_ ⟨0,rfl,Nat.zero_le _,rfl⟩ (by simp;omega)
  rintro v ⟨k,rfl,hk,ht⟩
  by_cases h1:k<l.length
  ·have hn:nth l k=l[k]:=by simp[nth,h1]
   rw[hs k h1]
   by_cases hp:p (nth l k)=true
   ·left
    refine⟨_,by rw[if_pos hp],⟨k+1,rfl,by omega,?_⟩,by omega⟩
    rw[List.take_succ_eq_append_getElem h1,List.all_append,ht,←hn]
    simp[hp]
   ·right
    refine⟨_,by rw[if_neg hp],?_⟩
    rw[if_neg]
    intro ha
    rw[List.all_eq_true]at ha
    exact hp (by rw[hn];exact ha _ (List.getElem_mem h1))
  ·right
   have:k=l.length:=by omega
   subst this
   rw[List.take_length]at ht
   exact⟨_,he,by rw[if_pos ht]⟩
 rw[hx,hq]
def TP{α:Type}(o:Option α)(P:α→Prop):Prop:=∃a,o=some a∧P a
abbrev Aci{α:Type}(o:Option α):Prop:=TP o fun _=>True
section
variable {α β:Type}{P:α→Prop}{Q:β→Prop}
theorem A0{a:α}(h:P a):TP (some a) P:=⟨a,rfl,h⟩
theorem Pi{a:α}:Aci (some a):=⟨a,rfl,trivial⟩
theorem BI{o:Option β}{f:β→Option α}(h:TP o Q)(k:∀b,Q b→TP (f b) P):TP (o.bind f) P:=by
 obtain⟨b,rfl,hb⟩:=h
 exact k b hb
theorem WM{o:Option β}{f:β→Option α}(h:Aci o)(k:∀b,TP (f b) P):TP (o.bind f) P:=BI h fun b _=>k b
theorem Ca{c:Prop}[Decidable c]{x y:Option α}(h:c→TP x P)(k:¬c→TP y P):TP (if c then x else y) P:=by
 by_cases hc:c
 ·rw[if_pos hc];exact h hc
 ·rw[if_neg hc];exact k hc
theorem Je{c:Prop}[Decidable c]{x:Option α}(h:c)(k:TP x P):TP (if c then x else none) P:=by rw[if_pos h];exact k
theorem Rq{x:β}{f:β→Option α}(h:TP (f x) P):TP (lt1 x f) P:=by rw[Em];exact h
end
theorem Db{V X:Type}(I:V→Prop)(μ:V→Nat){Q:X→Prop}{f:V→Option (V⊕X)}{v0:V}(h:∀v,I v→TP (f v) fun y=>match y with|.inl v'=>I v'∧μ v'<μ v|.inr x=>Q x)(h0:I v0)(hm:μ v0<18446744073709551616):TP (CJ f v0) Q:=by
 refine FU I μ Q (fun v hv=>?_) h0 hm
 obtain⟨y,e,hy⟩:=h v hv
 cases y with
 |inl v'=>exact .inl ⟨v',e,hy.1,hy.2⟩
 |inr x=>exact .inr ⟨x,e,hy⟩
theorem Ce{k n:Nat}(h:k<n):InR (k:Int) n:=by unfold InR;omega
theorem OJ{k n:Nat}(h:k≤n):InB (k:Int) n:=by unfold InB;omega
theorem LQ{α β:Type}{o:Option α}{a:α}{f:α→Option β}(h:o=some a):o.bind f=f a:=by rw[h];rfl
theorem Ei{α:Type}[Inhabited α]{l:List α}{k:Nat}(h:k<l.length):nth l k=l[k]:=by simp[nth,h]
theorem CI{α:Type}[Inhabited α]{l:List α}{k:Nat}(h:k<l.length):nth l k∈l:=by rw[Ei h];exact List.getElem_mem h
theorem HC(x:Api_Expr):Api_Expr.mk x.Op x.N x.Unit x.L=x:=by cases x;rfl
theorem Sg(c:Api_Clause):({ Zd:=c.Zd,Ze:=c.Ze,Pay:=Api_Expr.mk c.Pay.Op c.Pay.N c.Pay.Unit c.Pay.L }:Api_Clause)=c:=by rw[HC]
def Hf:List (List UInt8):=[[116,121,112,101],[111,119,110,101,114],[114,97,105,108,119,97,121],[115,104,105,112,112,101,114],[99,108,97,115,115],[119,101,105,103,104,116],[107,109],[109,105,110,117,116,101,115],[119,111,114,107,105,110,103],[99,111,100,101],[119,111,114,116,104],[99,111,115,116],[109,111,110,116,104],[98,101,103,105,110],[112,97,114,116,115],[112,97,114,116]]
theorem JT:BC ([116,121,112,101,32,111,119,110,101,114,32,114,97,105,108,119,97,121,32,115,104,105,112,112,101,114,32,99,108,97,115,115,32,119,101,105,103,104,116,32,107,109,32,109,105,110,117,116,101,115,32,119,111,114,107,105,110,103,32,99,111,100,101,32,119,111,114,116,104,32,99,111,115,116,32,109,111,110,116,104,32,98,101,103,105,110,32,112,97,114,116,115,32,112,97,114,116]:List UInt8)=some Hf:=by decide +kernel
def UW:List (List UInt8):=[[104,105,114,101],[100,101,109,117,114,114,97,103,101],[102,114,101,105,103,104,116],[114,101,112,97,105,114],[108,111,115,115],[99,108,101,97,110,105,110,103]]
theorem ZO:BC ([104,105,114,101,32,100,101,109,117,114,114,97,103,101,32,102,114,101,105,103,104,116,32,114,101,112,97,105,114,32,108,111,115,115,32,99,108,101,97,110,105,110,103]:List UInt8)=some UW:=by decide +kernel
def Qq:List (List UInt8):=[[109,111,110,101,121],[109,105,110,117,116,101],[107,109],[107,103]]
theorem Vx:BC ([109,111,110,101,121,32,109,105,110,117,116,101,32,107,109,32,107,103]:List UInt8)=some Qq:=by decide +kernel
def TX:List (List UInt8):=[[109,105,110],[109,97,120],[100,111,119,110],[117,112],[104,97,108,102]]
theorem Yk:BC ([109,105,110,32,109,97,120,32,100,111,119,110,32,117,112,32,104,97,108,102]:List UInt8)=some TX:=by decide +kernel
abbrev Ps:=Tparse_parser
abbrev Xq:=Int×Int×Ps
def Aah(p:Ps):Int:=match p.l with
 |[]=>p.end_
 |t::_=>t.At
def KB(p:Ps)(s:List UInt8):Bool×Ps:=match p.l with
 |[]=>(false,p)
 |t::r=>if t.Za≠2∧t.Zb=s then(true,⟨r,p.end_⟩)else(false,p)
def Lk(p:Ps):Xq:=(Aah p,160,p)
def PL(p:Ps)(s:List UInt8):Ps⊕Xq:=if(KB p s).1=true then .inl (KB p s).2 else .inr (Lk p)
def XD(p:Ps):(Int×Ps)⊕Xq:=match p.l with
 |[]=>.inr (Lk p)
 |t::r=>if t.Za=2 then .inl (t.N,⟨r,p.end_⟩)else .inr (Lk p)
def resB(s:List UInt8):Bool:=Gl false tab1 s
def Sn(p:Ps):(List UInt8×Ps)⊕Xq:=match p.l with
 |[]=>.inr (Lk p)
 |t::r=>if t.Za=1 then(if resB t.Zb=true then .inr (t.At,161,p)else .inl (t.Zb,⟨r,p.end_⟩))else .inr (Lk p)
def chS(p:Ps)(ws:List (List UInt8)):Option (Nat×Ps):=match p.l with
 |[]=>none
 |t::r=>if t.Za=1∧ws.findIdx (t.Zb==·)<ws.length then some (ws.findIdx (t.Zb==·),⟨r,p.end_⟩)else none
def OZ(p:Ps)(ws:List (List UInt8)):(Int×Ps)⊕Xq:=match chS p ws with
 |some (i,q)=>.inl ((i:Int),q)
 |none=>.inr (Lk p)
theorem J6(p:Ps):AE p=some (Aah p,p):=by
  obtain⟨l,e⟩:=p
  cases l with
  |nil=>rfl
  | cons t r=>
    unfold AE
    rw[if_pos (by simp),if_pos (show InR 0 _ from⟨by decide,by simp⟩)]
    rfl
theorem IC(p:Ps):AL p=some (.inr (Lk p)):=by
 unfold AL
 rw[J6];rfl
theorem Ng{t:Api_Token}{r:List Api_Token}:(((t::r).drop 1).take ((t::r).length-1))=r:=by
 simp
def QE(p:Ps)(k:Int):Api_Token×Bool×Ps:=match p.l with
 |[]=>({ Za:=0,Zb:=[],N:=0,At:=0 },false,p)
 |t::r=>if t.Za=k then(t,true,p)else({ Za:=0,Zb:=[],N:=0,At:=0 },false,p)
theorem ZR{p:Ps}{k:Int}:(QE p k).2.2=p:=by
 unfold QE
 split
 ·rfl
 ·split<;>rfl
theorem MA(p:Ps)(k:Int):Be p k=some (QE p k):=by
  unfold QE
  obtain⟨l,e⟩:=p
  cases l with
  |nil=>rfl
  | cons t r=>
    unfold Be
    have hi:InR 0 (t::r).length:=⟨by decide,by simp⟩
    rw[if_neg (by simp;omega)]
    simp only[if_pos hi,A3]
    show(if(t.Za != k)then _ else _)=_
    by_cases h:t.Za=k
    · rw[if_neg (by simp[h])]
      simp only[h,if_true]
      rfl
    · rw[if_pos (by simp[h])]
      simp only[h,if_false]
theorem Dq(p:Ps)(s:List UInt8):Aq p s=some (KB p s):=by
  obtain⟨l,e⟩:=p
  cases l with
  |nil=>rfl
  | cons t r=>
    unfold Aq KB
    have hi:InR 0 (t::r).length:=⟨by decide,by simp⟩
    have hb:InB 1 (t::r).length:=⟨by decide,by simp⟩
    rw[if_neg (by simp;omega)]
    simp only[if_pos hi,if_pos hb,Ng,Em]
    show((if(t.Za==2)then some true else some (!(t.Zb==s))).bind _)=_
    by_cases h:t.Za=2
    · rw[if_pos (by simp[h])]
      simp[h]
    · rw[if_neg (by simp[h])]
      simp only[A3]
      by_cases h2:t.Zb=s
      · simp[h,h2]
      · simp[h,h2]
theorem Do(p:Ps)(s:List UInt8):Ar p s=some (PL p s):=by
 unfold Ar PL
 rw[Dq]
 simp only[A3]
 by_cases h:(KB p s).1=true
 ·rw[if_neg (by simp[h]),if_pos h]
 ·rw[if_pos (by simp[h]),if_neg h]
  have:(KB p s).2=p:=by
   unfold KB at h ⊢
   split<;>rename_i hl
   ·rfl
   ·rw[hl]at h
    simp only at h
    split at h
    ·exact(h rfl).elim
    ·rename_i hc;rw[if_neg hc]
  rw[this,IC]
  rfl
theorem HL(p:Ps):AH p=some (XD p):=by
  unfold AH XD
  rw[MA]
  unfold QE
  obtain⟨l,e⟩:=p
  cases l with
  |nil=>rfl
  | cons t r=>
    have hb:InB 1 (t::r).length:=⟨by decide,by simp⟩
    simp only[A3]
    by_cases h:t.Za=2
    · simp only[h,if_true,Bool.not_true,Bool.false_eq_true,if_false,A3,if_pos hb,Ng,Em]
    · simp only[h,if_false,Bool.not_false,if_true,IC,A3]
theorem PH(s:List UInt8):Ed s=some (resB s):=by
 unfold Ed
 rfl
theorem TS(p:Ps):BK p=some (Sn p):=by
  unfold BK Sn
  rw[MA]
  unfold QE
  obtain⟨l,e⟩:=p
  cases l with
  |nil=>rfl
  | cons t r=>
    have hb:InB 1 (t::r).length:=⟨by decide,by simp⟩
    simp only[A3]
    by_cases h:t.Za=1
    · simp only[h,if_true,Bool.not_true,Bool.false_eq_true,if_false,A3,if_pos hb,Ng,Em,PH]
      split<;>rfl
    · simp only[h,if_false,Bool.not_false,if_true,IC,A3]
theorem MV(s : List (List UInt8))(v:List UInt8)(hl:s.length<1000000):CH s v=some (if s.findIdx (v==·)<s.length then((s.findIdx (v==·):Nat):Int)else -1):=by
  have key:TP (CH s v) fun r=>r=if s.findIdx (v==·)<s.length then((s.findIdx (v==·):Nat):Int)else -1:=by
    unfold CH
    refine BI (Q:=fun z=>match z with
      |.inl ()=>s.findIdx (v==·)=s.length
      |.inr r=>s.findIdx (v==·)<s.length∧r=((s.findIdx (v==·):Nat):Int)) ?_ fun z hz=>?_
    · refine BI (Q:=fun z=>match z with
        |.inl ()=>s.findIdx (v==·)=s.length
        |.inr (.inr r)=>s.findIdx (v==·)<s.length∧r=((s.findIdx (v==·):Nat):Int)
        |_=>False) ?_ fun z hz=>?_
      · refine Db (fun i=>∃k:Nat,i=(k:Int)∧k≤s.length∧∀j,j<k→(v==nth s j)=false) (fun i=>((s.length:Int)-i).toNat) ?_ ⟨0,rfl,Nat.zero_le _,fun j h=>by omega⟩ (by simp;omega)
        rintro _ ⟨k,rfl,hk,hj⟩
        unfold Dd
        refine Ca (fun h=>?_) fun h=>A0 ?_
        · have hk':k<s.length:=by simpa using h
          refine Je (Ce hk') ?_
          simp only[Int.toNat_natCast]
          refine Ca (fun hv=>?_) fun hv=>A0 ⟨⟨k+1,D9 (by omega),hk',fun j h1=>?_⟩,by rw[D9 (by omega)];omega⟩
          · have he:s.findIdx (v==·)=k:=by
              rw[List.findIdx_eq hk']
              refine⟨by rw[←Ei hk'];exact hv,fun j hjk=>?_⟩
              rw[←Ei (by omega)]
              exact hj j hjk
            refine A0 ⟨by rw[he];exact hk',by rw[he]⟩
          · by_cases e:j<k
            · exact hj j e
            · have:j=k:=by omega
              subst this
              exact eq_false_of_ne_true hv
        · have:k=s.length:=by simp at h;omega
          subst this
          rw[List.findIdx_eq_length]
          intro x hx
          obtain⟨j,hj',rfl⟩:=List.getElem_of_mem hx
          rw[←Ei hj']
          exact hj j hj'
      · match z,hz with
        |.inl (),hz=>exact A0 hz
        |.inr (.inr r),hz=>exact A0 hz
    · match z,hz with
      |.inl (),hz=>exact A0 (by rw[if_neg (by omega)])
      |.inr r,hz=>exact A0 (by rw[if_pos hz.1];exact hz.2)
  obtain⟨r,e,h⟩:=key
  rw[e,h]
theorem K9(p:Ps){words:List UInt8}{ws:List (List UInt8)}(hf:BC words=some ws)(hl:ws.length<1000000):Bc p words=some (match chS p ws with
    |some (i,q)=>((i:Int),true,q)
    |none=>(0,false,p)):=by
  unfold Bc chS
  rw[MA,hf]
  unfold QE
  obtain⟨l,e⟩:=p
  cases l with
  | nil=>
    simp only[A3,MV _ _ hl]
    rfl
  | cons t r=>
    have hb:InB 1 (t::r).length:=⟨by decide,by simp⟩
    simp only[A3]
    by_cases h:t.Za=1
    · simp only[h,if_true,MV _ _ hl,A3,Bool.not_true,Bool.false_eq_true,if_false,true_and]
      by_cases h2:ws.findIdx (t.Zb==·)<ws.length
      · rw[if_pos h2,if_pos h2,if_neg (by simp),if_pos hb,Em,Ng]
      · rw[if_neg h2,if_neg h2,if_pos (by decide)]
    · simp only[h,if_false,false_and,MV _ _ hl,A3,Bool.not_false,if_true]
theorem MM(p:Ps){words:List UInt8}{ws:List (List UInt8)}(hf:BC words=some ws)(hl:ws.length<1000000):Bf p words=some (OZ p ws):=by
 unfold Bf OZ
 rw[K9 p hf hl]
 simp only[A3]
 cases h:chS p ws with
 |none=>simp only[Bool.not_false,if_true,IC,A3]
 |some q=>simp only[Bool.not_true,Bool.false_eq_true,if_false,A3]
theorem HW{p:Ps}{s:List UInt8}(h:(KB p s).1=true):(KB p s).2.l.length+1=p.l.length:=by
 unfold KB at h ⊢
 split<;>rename_i hl
 ·rw[hl]at h;cases h
 ·rw[hl]at h ⊢
  simp only at h
  split at h<;>rename_i hc
  ·rw[if_pos hc];simp
  ·cases h
theorem JX{p:Ps}{s:List UInt8}(h:¬(KB p s).1=true):(KB p s).2=p:=by
 unfold KB at h ⊢
 split<;>rename_i hl
 ·rfl
 ·rw[hl]at h
  simp only at h
  split at h<;>rename_i hc
  ·exact(h rfl).elim
  ·rw[if_neg hc]
theorem Lc{p:Ps}{s:List UInt8}:(KB p s).2.l.length≤p.l.length:=by
 by_cases h:(KB p s).1=true
 ·have:=HW h;omega
 ·rw[JX h];exact Nat.le_refl _
theorem EH{p q:Ps}{s:List UInt8}(h:PL p s=.inl q):q.l.length+1=p.l.length:=by
 unfold PL at h
 split at h
 ·rename_i hc
  cases h
  exact HW hc
 ·cases h
theorem Kk{p q:Ps}{n:Int}(h:XD p=.inl (n,q)):q.l.length+1=p.l.length:=by
 unfold XD at h
 split at h
 ·cases h
 ·rename_i hl
  split at h
  ·cases h;rw[hl];simp
  ·cases h
theorem NP{p q:Ps}{n:List UInt8}(h:Sn p=.inl (n,q)):q.l.length+1=p.l.length:=by
 unfold Sn at h
 split at h
 ·cases h
 ·rename_i hl
  split at h
  ·split at h
   ·cases h
   ·cases h;rw[hl];simp
  ·cases h
theorem QN{p q:Ps}{ws:List (List UInt8)}{i:Nat}(h:chS p ws=some (i,q)):q.l.length+1=p.l.length∧i<ws.length:=by
 unfold chS at h
 split at h
 ·cases h
 ·rename_i hl
  split at h
  ·rename_i hc
   cases h
   exact⟨by rw[hl];simp,hc.2⟩
  ·cases h
theorem IQ{p q:Ps}{ws:List (List UInt8)}{i:Int}(h:OZ p ws=.inl (i,q)):q.l.length+1=p.l.length∧0≤i∧i<(ws.length:Int):=by
 unfold OZ at h
 split at h
 ·rename_i hc
  cases h
  have:=QN hc
  exact⟨this.1,by omega,by omega⟩
 ·cases h
abbrev Aec{α:Type}(p:Ps)(r:(α×Ps)⊕Xq):Prop:=∀x q,r=.inl (x,q)→q.l.length≤p.l.length
theorem V9(p:Ps):TP (Cp p) (Aec p):=by
  unfold Cp
  refine BI (Q:=fun z=>z.1.length≤p.l.length) ?_ ?_
  · rw[K9 p Vx (by decide)]
    simp only[A3]
    cases h:chS p Qq with
    | none=>
      simp only[Bool.false_eq_true,if_false]
      exact A0 (Nat.le_refl _)
    | some q=>
      obtain⟨i,q⟩:=q
      obtain⟨h1,h2⟩:=QN h
      simp only[if_true]
      have h4:i<4:=h2
      exact Je (Ce h4) (Je (Ce h4) (Rq (A0 (by simp only;omega))))
  · rintro⟨l,e,d⟩ hl
    simp only at hl ⊢
    refine BI (Q:=fun z=>match z with
      |.inl z=>z.1.length≤p.l.length
      |.inr (.inl _)=>False
      |.inr (.inr _)=>True) ?_ fun z hz=>?_
    · rw[Dq]
      simp only[A3]
      have ha:=Lc (p:=⟨l,e⟩) (s:=[112,101,114])
      refine Ca (fun h=>?_) fun h=>A0 ?_
      · rw[MM _ Vx (by decide)]
        simp only[A3]
        cases hm:OZ (KB ⟨l,e⟩ [112,101,114]).2 Qq with
        |inr e=>exact A0 trivial
        | inl q=>
          obtain⟨i,q⟩:=q
          obtain⟨h1,h2,h3⟩:=IQ hm
          have h4:i<4:=h3
          refine Je ⟨h2,by omega⟩ (Je ⟨h2,by omega⟩ (Rq (A0 ?_)))
          have h1':q.l.length+1=_:=h1
          show q.l.length≤_
          have ha':(KB ⟨l,e⟩ [112,101,114]).2.l.length≤l.length:=ha
          omega
      · have ha':(KB ⟨l,e⟩ [112,101,114]).2.l.length≤l.length:=ha
        show(KB ⟨l,e⟩ [112,101,114]).2.l.length≤_
        omega
    · match z,hz with
      | .inl (l2,e2,d2),hz=>
        refine A0 fun x q hh=>?_
        cases hh
        exact hz
      |.inr (.inr z),hz=>exact A0 fun x q hh=>by cases hh
def Dp:Nat→Api_Expr→Prop
 |0,_=>False
 |d+1,x=>x.L.length≤4∧∀y∈x.L,Dp d y
theorem Dp.mono:∀{d e:Nat} {x:Api_Expr},Dp d x→d≤e→Dp e x
 |0,_,_,h,_=>h.elim
 |d+1,0,_,_,h=>by omega
 |d+1,e+1,x,h,hh=>⟨h.1,fun y hy=>(h.2 y hy).mono (by omega)⟩
theorem TL{x:Api_Expr}{d:Nat}(h:x.L=[])(hd:0<d):Dp d x:=by
 obtain⟨d,rfl⟩:∃e,d=e+1:=⟨d-1,by omega⟩
 exact⟨by rw[h];simp,by rw[h];simp⟩
theorem JC:∀(d:Nat) (x:Api_Expr) (n:Nat),Dp d x→d≤n→d<1000000→TP (CS n x) fun k=>0≤k∧k≤(d:Int)
  |0,x,n,h,_,_=>h.elim
  |d+1,x,0,_,h,_=>by omega
  | d + 1,x,n+1,h,hn,hd=>by
    show TP (CU (CS n) x) _
    unfold CU
    refine BI (Q:=fun k=>0≤k∧k≤(d:Int)) (BI (Q:=fun k=>0≤k∧k≤(d:Int)) ?_ fun k hk=>A0 hk) fun k hk=>A0 ?_
    · refine Db (fun v=>(0≤v.1∧v.1≤(d:Int))∧∃k:Nat,v.2=(k:Int)∧k≤x.L.length) (fun v=>((x.L.length:Int)-v.2).toNat) ?_ ⟨⟨by decide,by simp⟩,0,rfl,Nat.zero_le _⟩ (by have:=h.1;simp;omega)
      rintro⟨m,_⟩ ⟨hm,k,rfl,hk⟩
      simp only at hm ⊢
      have h4:=h.1
      unfold Dv
      refine Ca (fun hh=>?_) fun hh=>A0 hm
      have hk':k<x.L.length:=by simpa using hh
      simp only[if_pos (Ce hk'),Em,Int.toNat_natCast,HC]
      refine BI (JC d _ n (h.2 _ (CI hk')) (by omega) (by omega)) fun r hr=>A0 ⟨⟨?_,k+1,D9 (by omega),hk'⟩,by simp only;rw[D9 (by omega)];omega⟩
      simp only
      unfold Ph
      split<;>omega
    · rw[JI (by omega)]
      omega
abbrev RW(p:Ps)(r:(Api_Expr×Ps)⊕Xq):Prop:=∀x q,r=.inl (x,q)→q.l.length<p.l.length∧Dp (p.l.length-q.l.length) x
def NJ(n:Nat)(rec_:Ps→Option ((Api_Expr×Ps)⊕Xq)):Prop:=∀p:Ps,p.l.length<n→TP (rec_ p) (RW p)
section
variable {rec_:Ps→Option ((Api_Expr×Ps)⊕Xq)}{n:Nat}
theorem Jb(hr:NJ n rec_)(hn:n<1000000)(p:Ps)(hp:p.l.length≤n)(op:Int)(signs:List (List UInt8))(hs:signs.length≤4) :
    TP (Bk rec_ p op signs) fun r=>∀x q ss,r=.inl (x,q,ss)→q.l.length<p.l.length∧Dp (p.l.length-q.l.length) x:=by
  unfold Bk
  rw[Do]
  simp only[A3]
  cases he:PL p [40]with
  |inr e=>exact A0 fun x q ss h=>by cases h
  | inl q0=>
    have hq0:=EH he
    refine BI (Q:=fun z=>match z with
      |.inl z=>z.1.length≤q0.l.length∧z.2.2.length≤4∧∀y∈z.2.2,Dp (q0.l.length-z.1.length) y
      |.inr (.inl _)=>False
      |.inr (.inr _)=>True) ?_ fun z hz=>?_
    · refine BI (Q:=fun z=>match z with
        |.inl z=>z.1.length≤q0.l.length∧z.2.2.length≤4∧∀y∈z.2.2,Dp (q0.l.length-z.1.length) y
        |.inr (.inr (.inr _))=>True
        |_=>False) ?_ fun z hz=>?_
      · refine Db (fun v=>∃k:Nat,v.1=(k:Int)∧k≤signs.length∧v.2.1.length≤q0.l.length∧v.2.2.2.length=k∧∀y∈v.2.2.2,Dp (q0.l.length-v.2.1.length) y) (fun v=>((signs.length:Int)-v.1).toNat) ?_ ⟨0,rfl,Nat.zero_le _,Nat.le_refl _,rfl,by simp⟩ (by simp;omega)
        rintro⟨_,l,e,xs⟩ ⟨k,rfl,hk,hl,hx,hd⟩
        simp only at hl hx hd ⊢
        unfold BB
        refine Ca (fun hh=>?_) fun hh=>A0 ⟨hl,by simp only;omega,hd⟩
        have hk':k<signs.length:=by simpa using hh
        simp only[if_pos (Ce hk'),Em,Int.toNat_natCast]
        refine BI (hr ⟨l,e⟩ (by show l.length<n;omega)) fun y hy=>?_
        cases y with
        |inr e=>exact A0 trivial
        | inl y=>
          obtain⟨y,q⟩:=y
          obtain⟨y1,y2⟩:=hy y q rfl
          have y1':q.l.length<l.length:=y1
          have y2':Dp (l.length-q.l.length) y:=y2
          refine Je ⟨by unfold maxLen;omega,by unfold FV;omega⟩ ?_
          rw[Do]
          simp only[A3]
          cases he2:PL q (nth signs k)with
          |inr e=>exact A0 trivial
          | inl q2=>
            have hq2:=EH he2
            refine A0 ⟨⟨k+1,D9 (by omega),hk',by simp only;omega,by simp[hx],fun z hz=>?_⟩,by simp only;rw[D9 (by omega)];omega⟩
            simp only at hz ⊢
            rcases List.mem_append.1 hz with hz|hz
            · exact(hd z hz).mono (by omega)
            · simp only[List.mem_singleton]at hz
              subst hz
              exact y2'.mono (by omega)
      · match z,hz with
        |.inl z,hz=>exact A0 hz
        |.inr (.inr (.inr z)),hz=>exact A0 hz
    · match z,hz with
      | .inl (l,e,xs),hz=>
        refine A0 fun x q ss h=>?_
        cases h
        obtain⟨h1,h2,h3⟩:=hz
        simp only at h1 h2 h3
        refine⟨by simp only;omega,?_⟩
        have e:p.l.length-l.length=(q0.l.length-l.length)+1:=by omega
        simp only
        rw[e]
        exact⟨h2,h3⟩
      |.inr (.inr z),hz=>exact A0 fun x q ss h=>by cases h
theorem LD(hr:NJ n rec_)(hn:n<1000000)(p:Ps)(hp:p.l.length≤n):TP (Bw rec_ p) (RW p):=by
  unfold Bw
  rw[MA]
  simp only[A3]
  rw[ZR]
  refine Ca (fun _=>?_) fun _=>?_
  · rw[HL]
    simp only[A3]
    cases hi:XD p with
    |inr e=>exact A0 fun x q h=>by cases h
    | inl q=>
      obtain⟨m,q⟩:=q
      have hq:=Kk hi
      simp only
      refine BI (V9 q) fun r hu=>?_
      cases r with
      |inr e=>exact A0 fun x q h=>by cases h
      | inl r=>
        obtain⟨d,q2⟩:=r
        refine A0 fun x q' h=>?_
        cases h
        have:=hu d q2 rfl
        exact⟨by simp only;omega,TL rfl (by simp only;omega)⟩
  · rw[Dq]
    simp only[A3]
    refine Ca (fun h=>?_) fun h=>?_
    · have hq:=HW h
      refine BI (hr _ (by omega)) fun y hy=>?_
      cases y with
      |inr e=>exact A0 fun x q h=>by cases h
      | inl y=>
        obtain⟨y,q⟩:=y
        obtain⟨y1,y2⟩:=hy y q rfl
        simp only[Do,A3]
        cases he:PL q [41]with
        |inr e=>exact A0 fun x q h=>by cases h
        | inl q2=>
          have h2:=EH he
          refine A0 fun x q' h=>?_
          cases h
          exact⟨by omega,y2.mono (by omega)⟩
    · rw[JX h,Dq]
      simp only[A3]
      refine Ca (fun h=>?_) fun h=>?_
      · have hq:=HW h
        refine BI (Jb hr hn _ (by omega) _ _ (by decide)) fun r hh=>?_
        cases r with
        |inr e=>exact A0 fun x q h=>by cases h
        | inl r=>
          obtain⟨x,q,ss⟩:=r
          obtain⟨h1,h2⟩:=hh x q ss rfl
          refine A0 fun x q' h=>?_
          cases h
          exact⟨by simp only;omega,h2.mono (by simp only;omega)⟩
      · rw[JX h,K9 p Yk (by decide)]
        simp only[A3]
        cases hc:chS p TX with
        | some q=>
          obtain⟨i,q⟩:=q
          obtain⟨h1,h2⟩:=QN hc
          simp only[if_true]
          refine BI (Jb hr hn q (by omega) _ _ (by decide)) fun r hh=>?_
          cases r with
          |inr e=>exact A0 fun x q h=>by cases h
          | inl r=>
            obtain⟨x,q2,ss⟩:=r
            obtain⟨h3,h4⟩:=hh x q2 ss rfl
            refine A0 fun x q' h=>?_
            cases h
            exact⟨by simp only;omega,h4.mono (by simp only;omega)⟩
        | none=>
          simp only[Bool.false_eq_true,if_false]
          rw[MM p JT (by decide)]
          simp only[A3]
          cases hm:OZ p Hf with
          |inr e=>exact A0 fun x q h=>by cases h
          | inl q=>
            obtain⟨i,q⟩:=q
            obtain⟨h1,_⟩:=IQ hm
            refine A0 fun x q' h=>?_
            cases h
            exact⟨by simp only;omega,TL rfl (by simp only;omega)⟩
theorem OV(p:Ps):TP (Bi p) fun r=>(r.1=0→r.2.l.length=p.l.length)∧(r.1≠0→r.2.l.length+1=p.l.length):=by
 unfold Bi
 rw[Dq]
 simp only[A3]
 refine Ca (fun h=>A0 ⟨fun e=>(by cases e),fun _=>HW h⟩) fun h=>A0 ⟨fun _=>by rw[JX h],fun e=>(e rfl).elim⟩
theorem Vo(p:Ps):TP (Bz p) fun r=>(r.1=0→r.2.l.length=p.l.length)∧(r.1≠0→r.2.l.length+1=p.l.length):=by
 unfold Bz
 rw[Dq]
 simp only[A3]
 refine Ca (fun h=>A0 ⟨fun e=>(by cases e),fun _=>HW h⟩) fun h=>?_
 rw[JX h,Dq]
 simp only[A3]
 refine Ca (fun h=>A0 ⟨fun e=>(by cases e),fun _=>HW h⟩) fun h=>A0 ⟨fun _=>by rw[JX h],fun e=>(e rfl).elim⟩
theorem XK{a b:Api_Expr}{op:Int}{u:Arr Int 4}{d1 d2 d:Nat}(h1:Dp d1 a)(h2:Dp d2 b)(e1:d1<d)(e2:d2<d):Dp d (Api_Expr.mk op 0 u [a,b]):=by
 obtain⟨d,rfl⟩:∃e,d=e+1:=⟨d-1,by omega⟩
 refine⟨by show[a,b].length≤4;simp,fun y hy=>?_⟩
 have hy':y∈[a,b]:=hy
 simp only[List.mem_cons,List.not_mem_nil,or_false]at hy'
 rcases hy' with rfl|rfl
 ·exact h1.mono (by omega)
 ·exact h2.mono (by omega)
theorem Px(hr:NJ n rec_)(hn:n<1000000)(p:Ps)(hp:p.l.length≤n):TP (AG rec_ p) (RW p):=by
  unfold AG
  refine BI (LD hr hn p hp) fun r h0=>?_
  cases r with
  |inr e=>exact A0 fun x q h=>by cases h
  | inl r =>
    obtain⟨x,q⟩:=r
    obtain⟨h1,h2⟩:=h0 x q rfl
    simp only
    refine BI (Q:=fun z=>match z with
      |.inl z=>z.1.length<p.l.length∧Dp (p.l.length-z.1.length) (Api_Expr.mk z.2.2.1 z.2.2.2.1 z.2.2.2.2.1 z.2.2.2.2.2)
      |.inr (.inl _)=>False
      |.inr (.inr _)=>True) ?_ fun z hz=>?_
    · refine BI (OV q) fun y hy=>BI (Q:=fun z=>match z with
        |.inl z=>z.1.length<p.l.length∧Dp (p.l.length-z.1.length) (Api_Expr.mk z.2.2.1 z.2.2.2.1 z.2.2.2.2.1 z.2.2.2.2.2)
        |.inr (.inr (.inr _))=>True
        |_=>False) ?_ fun z hz=>?_
      · obtain ⟨op,q1⟩:=y
        simp only at hy ⊢
        refine Db (fun v=>∃d:Nat,v.2.1.length<p.l.length∧Dp d (Api_Expr.mk v.2.2.2.1 v.2.2.2.2.1 v.2.2.2.2.2.1 v.2.2.2.2.2.2)∧(v.1=0→d+v.2.1.length≤p.l.length)∧(v.1≠0→d+1+v.2.1.length≤p.l.length)) (fun v=>v.2.1.length+(if v.1=0 then 0 else 1)) ?_
          ⟨p.l.length-q.l.length,?_,by simp only[HC];exact h2,fun e=>?_,fun e=>?_⟩ ?_
        · rintro⟨op,l,e,a,b,c,xs⟩ ⟨d,hl,hd,g0,g1⟩
          simp only at hl hd g0 g1 ⊢
          unfold AU
          refine Ca (fun hh=>?_) fun hh=>A0 ⟨hl,hd.mono ?_⟩
          · have hop:op≠0:=by simpa using hh
            refine BI (LD hr hn ⟨l,e⟩ (by show l.length≤n;omega)) fun r2 hh2=>?_
            cases r2 with
            |inr e=>exact A0 trivial
            | inl r2=>
              obtain⟨x2,q2⟩:=r2
              obtain⟨k1,k2⟩:=hh2 x2 q2 rfl
              have k1':q2.l.length<l.length:=k1
              have k2':Dp (l.length-q2.l.length) x2:=k2
              refine Rq (BI (OV q2) fun y hy=>A0 ?_)
              have g1':=g1 hop
              obtain⟨op2,q3⟩:=y
              simp only at hy ⊢
              have hle:q3.l.length≤q2.l.length:=by
                by_cases e0:op2=0
                · have:=hy.1 e0;omega
                · have:=hy.2 e0;omega
              refine⟨⟨p.l.length-q2.l.length,by omega,XK hd k2' (by omega) (by omega),fun e0=>?_,fun e0=>?_⟩,?_⟩
              · have:=hy.1 e0;omega
              · have:=hy.2 e0;omega
              · rw[if_neg hop]
                by_cases e0:op2=0
                · have:=hy.1 e0;rw[if_pos e0];omega
                · have:=hy.2 e0;rw[if_neg e0];omega
          · have:op=0:=by simpa using hh
            have:=g0 this
            simp only
            omega
        · simp only
          by_cases e0:op=0
          · have:=hy.1 e0;omega
          · have:=hy.2 e0;omega
        · have:=hy.1 e;simp only;omega
        · have:=hy.2 e;simp only;omega
        · simp only
          have:q1.l.length≤n:=by
            by_cases e0:op=0
            · have:=hy.1 e0;omega
            · have:=hy.2 e0;omega
          split<;>omega
      · match z,hz with
        |.inl z,hz=>exact A0 hz
        |.inr (.inr (.inr z)),hz=>exact A0 hz
    · match z,hz with
      | .inl (l,e,a,b,c,xs),hz=>
        refine A0 fun x q h=>?_
        cases h
        exact hz
      |.inr (.inr z),hz=>exact A0 fun x q h=>by cases h
theorem NV(hr:NJ n rec_)(hn:n<1000000)(p:Ps)(hp:p.l.length≤n):TP (B1 rec_ p) (RW p):=by
 unfold B1
 refine BI (Px hr hn p hp) fun r h=>?_
 cases r with
 |inr e=>exact A0 fun x q h=>by cases h
 |inl r=>exact A0 h
theorem Pt(hr:NJ n rec_)(hn:n<1000000)(p:Ps)(hp:p.l.length≤n):TP (AJ rec_ p) (RW p):=by
  unfold AJ
  refine BI (NV hr hn p hp) fun r h0=>?_
  cases r with
  |inr e=>exact A0 fun x q h=>by cases h
  | inl r =>
    obtain⟨x,q⟩:=r
    obtain⟨h1,h2⟩:=h0 x q rfl
    simp only
    refine BI (Q:=fun z=>match z with
      |.inl z=>z.1.length<p.l.length∧Dp (p.l.length-z.1.length) (Api_Expr.mk z.2.2.1 z.2.2.2.1 z.2.2.2.2.1 z.2.2.2.2.2)
      |.inr (.inl _)=>False
      |.inr (.inr _)=>True) ?_ fun z hz=>?_
    · refine BI (Vo q) fun y hy=>BI (Q:=fun z=>match z with
        |.inl z=>z.1.length<p.l.length∧Dp (p.l.length-z.1.length) (Api_Expr.mk z.2.2.1 z.2.2.2.1 z.2.2.2.2.1 z.2.2.2.2.2)
        |.inr (.inr (.inr _))=>True
        |_=>False) ?_ fun z hz=>?_
      · obtain ⟨op,q1⟩:=y
        simp only at hy ⊢
        refine Db (fun v=>∃d:Nat,v.2.1.length<p.l.length∧Dp d (Api_Expr.mk v.2.2.2.1 v.2.2.2.2.1 v.2.2.2.2.2.1 v.2.2.2.2.2.2)∧(v.1=0→d+v.2.1.length≤p.l.length)∧(v.1≠0→d+1+v.2.1.length≤p.l.length)) (fun v=>v.2.1.length+(if v.1=0 then 0 else 1)) ?_
          ⟨p.l.length-q.l.length,?_,by simp only[HC];exact h2,fun e=>?_,fun e=>?_⟩ ?_
        · rintro⟨op,l,e,a,b,c,xs⟩ ⟨d,hl,hd,g0,g1⟩
          simp only at hl hd g0 g1 ⊢
          unfold AQ
          refine Ca (fun hh=>?_) fun hh=>A0 ⟨hl,hd.mono ?_⟩
          · have hop:op≠0:=by simpa using hh
            refine BI (NV hr hn ⟨l,e⟩ (by show l.length≤n;omega)) fun r2 hh2=>?_
            cases r2 with
            |inr e=>exact A0 trivial
            | inl r2=>
              obtain⟨x2,q2⟩:=r2
              obtain⟨k1,k2⟩:=hh2 x2 q2 rfl
              have k1':q2.l.length<l.length:=k1
              have k2':Dp (l.length-q2.l.length) x2:=k2
              refine Rq (BI (Vo q2) fun y hy=>A0 ?_)
              have g1':=g1 hop
              obtain⟨op2,q3⟩:=y
              simp only at hy ⊢
              have hle:q3.l.length≤q2.l.length:=by
                by_cases e0:op2=0
                · have:=hy.1 e0;omega
                · have:=hy.2 e0;omega
              refine⟨⟨p.l.length-q2.l.length,by omega,XK hd k2' (by omega) (by omega),fun e0=>?_,fun e0=>?_⟩,?_⟩
              · have:=hy.1 e0;omega
              · have:=hy.2 e0;omega
              · rw[if_neg hop]
                by_cases e0:op2=0
                · have:=hy.1 e0;rw[if_pos e0];omega
                · have:=hy.2 e0;rw[if_neg e0];omega
          · have:op=0:=by simpa using hh
            have:=g0 this
            simp only
            omega
        · simp only
          by_cases e0:op=0
          · have:=hy.1 e0;omega
          · have:=hy.2 e0;omega
        · have:=hy.1 e;simp only;omega
        · have:=hy.2 e;simp only;omega
        · simp only
          have:q1.l.length≤n:=by
            by_cases e0:op=0
            · have:=hy.1 e0;omega
            · have:=hy.2 e0;omega
          split<;>omega
      · match z,hz with
        |.inl z,hz=>exact A0 hz
        |.inr (.inr (.inr z)),hz=>exact A0 hz
    · match z,hz with
      | .inl (l,e,a,b,c,xs),hz=>
        refine A0 fun x q h=>?_
        cases h
        exact hz
      |.inr (.inr z),hz=>exact A0 fun x q h=>by cases h
theorem VG(hr:NJ n rec_)(hn:n<1000000):NJ (n+1) (BL rec_):=by
 intro p hp
 unfold BL
 refine BI (Pt hr hn p (by omega)) fun r h=>?_
 cases r with
 |inr e=>exact A0 fun x q h=>by cases h
 |inl r=>exact A0 h
end
theorem Me:∀k n,k<1000000→k≤n→NJ k (C9 n)
 |0,n,_,_=>fun p h=>absurd h (Nat.not_lt_zero _)
 |k+1,0,_,h=>by omega
 |k+1,n+1,h,hn=>VG (Me k n (by omega) (by omega)) (by omega)
theorem Xc(p:Ps)(hp:p.l.length<900000):TP (Eo p) (RW p):=Me 900000 _ (by omega) (by omega) p hp
theorem Us{j k:Nat}(h:j+k<9223372036854775807):w64 ((j:Int)+(k:Int))=((j+k:Nat):Int):=by rw[JI (by omega)];omega
theorem MJ{k:Nat}(h:k+1<9223372036854775807):w64 ((k:Int)+1)=((k+1:Nat):Int):=by rw[JI (by omega)];omega
def isL(c:UInt8):Bool:=decide ((97:UInt8)≤c)&&decide (c≤(122:UInt8))
def isD(c:UInt8):Bool:=decide ((48:UInt8)≤c)&&decide (c≤(57:UInt8))
def Kc(c:UInt8):Bool:=isL c||isD c
def isB(c:UInt8):Bool:=c==32||(c==9||(c==13||c==10))
theorem Oe(c:UInt8):Ez c=some (isL c):=by
 unfold Ez isL
 cases decide ((97:UInt8)≤c)<;>simp
theorem M6(c:UInt8):EA c=some (isD c):=by
 unfold EA isD
 cases decide ((48:UInt8)≤c)<;>simp
theorem VB(c:UInt8):EU c=some (Kc c):=by
 unfold EU Kc
 rw[Oe,M6]
 cases isL c<;>simp
theorem XH(p:UInt8→Bool):∀(l:List UInt8) (k:Nat),(k<(l.takeWhile p).length→p (nth l k)=true)∧(k=(l.takeWhile p).length→k<l.length→p (nth l k)=false)
  |[],k=>by simp
  | a :: l,k=>by
    rw[List.takeWhile_cons]
    cases ha:p a with
    | false=>
      simp only[Bool.false_eq_true,if_false,List.length_nil,List.length_cons]
      refine⟨fun h=>absurd h (by omega),fun h _=>?_⟩
      subst h
      simpa [nth]using ha
    | true=>
      simp only[if_true,List.length_cons]
      cases k with
      |zero=>exact⟨fun _=>by simpa [nth]using ha,fun h=>absurd h (by omega)⟩
      | succ k=>
        have:=XH p l k
        have e:nth (a::l) (k+1)=nth l k:=by simp[nth]
        rw[e]
        exact⟨fun h=>this.1 (by omega),fun h1 h2=>this.2 (by omega) (by omega)⟩
theorem R4(p:UInt8→Bool):∀l:List UInt8,(l.takeWhile p).length≤l.length
  |[]=>by simp
  | a::l=>by
    rw[List.takeWhile_cons]
    have:=R4 p l
    cases p a<;>simp<;>omega
theorem L4(p:UInt8→Bool):∀l:List UInt8,l.take (l.takeWhile p).length=l.takeWhile p
  |[]=>by simp
  | a::l=>by
    rw[List.takeWhile_cons]
    have:=L4 p l
    cases p a<;>simp[this]
theorem Ub(s:List UInt8)(f:UInt8→Option Bool)(p:UInt8→Bool)(hf:∀c,f c=some (p c))(hs:s.length≤1000000):Gm s f=some ((s.takeWhile p).length:Int):=by
 unfold Gm
 have hl:=R4 p s
 obtain⟨x,hx,hq⟩:=FU (f:=fun v:Int=>BS s f v) (fun v=>∃k:Nat,v=(k:Int)∧k≤(s.takeWhile p).length) (fun v=>s.length-v.toNat)
  (fun x:Unit⊕(Unit⊕Int)=>(match x with|.inl ()=>(s.length:Int)|.inr (.inl ())=>(s.length:Int)|.inr (.inr z)=>z)=((s.takeWhile p).length:Int)) (by
   rintro v ⟨k,rfl,hk⟩
   have ht:=XH p s k
   by_cases h1:k<s.length
   ·have e1:decide ((k:Int)<(s.length:Int))=true:=by simp;omega
    by_cases h2:k<(s.takeWhile p).length
    ·left
     refine⟨((k+1:Nat):Int),?_,⟨k+1,rfl,by omega⟩,by simp;omega⟩
     show BS s f (k:Int)=_
     unfold BS
     rw[if_pos e1,if_pos (Ce h1),Int.toNat_natCast,hf,ht.1 h2,MJ (by omega)]
     rfl
    ·right
     refine⟨.inr (.inr (k:Int)),?_,?_⟩
     ·show BS s f (k:Int)=_
      unfold BS
      rw[if_pos e1,if_pos (Ce h1),Int.toNat_natCast,hf,ht.2 (by omega) h1]
      rfl
     ·show(k:Int)=_
      omega
   ·right
    refine⟨.inl (),?_,?_⟩
    ·show BS s f (k:Int)=_
     unfold BS
     rw[if_neg (by simp;omega)]
    ·show(s.length:Int)=_
     omega) (v0:=(0:Int)) ⟨0,rfl,by omega⟩ (by show s.length-0<_;omega)
 rw[hx]
 rcases x with u|(u|z)
 ·simpa using hq
 ·simpa using hq
 ·simpa using hq
def dg(n:Nat)(c:UInt8):Nat:=10*n+(c-48).toNat
def dval(d:List UInt8):Nat:=d.foldl dg 0
theorem UR(d:List UInt8)(c:UInt8):dval (d++[c])=dg (dval d) c:=by simp[dval]
theorem YZ(l:List UInt8):∀n,n≤l.foldl dg n:=by
 induction l with
 |nil=>intro n;exact Nat.le_refl _
 |cons c l ih=>intro n;exact Nat.le_trans (by unfold dg;omega) (ih (dg n c))
theorem W6(a b:List UInt8):dval a≤dval (a++b):=by
 unfold dval
 rw[List.foldl_append]
 exact YZ b _
theorem Vn(d:List UInt8)(k:Nat):dval (d.take k)≤dval d:=by
 have:=W6 (d.take k) (d.drop k)
 rwa[List.take_append_drop]at this
theorem VV{α:Type}[Inhabited α]{l:List α}{k:Nat}(h:k<l.length):l.take (k+1)=l.take k++[nth l k]:=by
 rw[List.take_succ_eq_append_getElem h]
 congr 2
 simp[nth,h]
theorem AdW(n:Nat)(c:UInt8):dg n c≤10*n+255:=by
 have:=UInt8.toNat_lt (c-48)
 unfold dg;omega
def num(d:List UInt8):Int×Int:=if d.length>1∧nth d 0=48 then(0,150)else if 1099511627776<dval d then(0,2)else((dval d:Int),0)
theorem U8(d:List UInt8)(hd:d.length≤1000000):Fq d=some (num d):=by
 unfold Fq num
 have h1:(if(decide ((d.length:Int)>1))then if InR 0 d.length then some (((nth d 0)==(48:UInt8)))else none else some false:Option Bool)=some (decide (d.length>1∧nth d 0=48)):=by
  by_cases h:d.length>1
  ·rw[if_pos (by simp;omega),if_pos (by unfold InR;omega)]
   by_cases h2:nth d 0=48<;>simp[h,h2]
  ·rw[if_neg (by simp;omega)];simp[h]
 rw[LQ h1]
 by_cases hz:d.length>1∧nth d 0=48
 ·simp[hz]
 ·rw [if_neg (by simpa using hz),if_neg hz]
  obtain⟨x,hx,hq⟩:=FU (f:=fun v:Int×Int=>Bu d v.1 v.2) (fun v=>∃k:Nat,v=((dval (d.take k):Int),(k:Int))∧k≤d.length∧dval (d.take k)≤1099511627776) (fun v=>d.length-v.2.toNat)
   (fun x:Int⊕(Int⊕(Int×Int))=>(match x with|.inl n=>(n,(0:Int))|.inr (.inl n)=>(n,(0:Int))|.inr (.inr z)=>z)=if 1099511627776<dval d then(0,2)else((dval d:Int),0)) (by
    rintro v ⟨k,rfl,hk,hv⟩
    by_cases h1:k<d.length
    ·have e1:decide ((k:Int)<(d.length:Int))=true:=by simp;omega
     have hb:=AdW (dval (d.take k)) (nth d k)
     have e2:w64 ((w64 (10*(dval (d.take k):Int)))+((((nth d k)-(48:UInt8))).toNat:Int))=(dval (d.take (k+1)):Int):=by
      rw[VV h1,UR]
      unfold dg at hb ⊢
      have:=UInt8.toNat_lt (nth d k-48)
      have e0:w64 (10*(dval (d.take k):Int))=10*(dval (d.take k):Int):=JI (by omega)
      rw[e0,JI (by omega)]
      omega
     have e3:Bu d (dval (d.take k):Int) (k:Int)=if(decide ((dval (d.take (k+1)):Int)>1099511627776))then some (.inr (.inr (.inr (0,2))))else some (.inl ((dval (d.take (k+1)):Int),((k+1:Nat):Int))):=by
      unfold Bu
      rw[if_pos e1,if_pos (Ce h1),Int.toNat_natCast]
      show(if _ then _ else _)=_
      rw[e2,MJ (by omega)]
      rfl
     by_cases h3:dval (d.take (k+1))≤1099511627776
     ·left
      refine⟨((dval (d.take (k+1)):Int),((k+1:Nat):Int)),?_,⟨k+1,rfl,by omega,h3⟩,by simp;omega⟩
      show Bu d _ _=_
      rw[e3,if_neg (by simp;omega)]
     ·right
      refine⟨.inr (.inr (0,2)),?_,?_⟩
      ·show Bu d _ _=_
       rw[e3,if_pos (by simp;omega)]
      ·have:=Vn d (k+1)
       show((0:Int),(2:Int))=_
       rw[if_pos (by omega)]
    ·right
     have hk':k=d.length:=by omega
     subst hk'
     rw[List.take_length]at hv ⊢
     refine⟨.inl (dval d:Int),?_,?_⟩
     ·show Bu d _ _=_
      unfold Bu
      rw[if_neg (by simp)]
     ·show((dval d:Int),(0:Int))=_
      rw[if_neg (by omega)]) (v0:=((0,0):Int×Int)) ⟨0,rfl,by omega,by simp[dval]⟩ (by show d.length-0<_;omega)
  rw[hx]
  rcases x with n|(n|z)
  ·simpa using hq
  ·simpa using hq
  ·simpa using hq
def sgn(c:UInt8):List UInt8:=Gl ([]:List UInt8) tab0 c
theorem Pf(s p:List UInt8):BW s p=some (decide (s.take p.length=p)):=by
 unfold BW Cq
 by_cases h:p.length≤s.length
 ·rw[if_pos (by simp;omega),if_pos (by unfold InB;omega),Int.toNat_natCast]
  by_cases h2:s.take p.length=p
  ·simp[h2]
  ·simp[h2]
 ·rw[if_neg (by simp;omega)]
  have:¬s.take p.length=p:=fun e=>by
   have:=congrArg List.length e
   simp at this
   omega
  simp[this]
def tok(s:List UInt8):Api_Token×Int :=
 if isL (nth s 0)=true then
  if 32<(s.takeWhile Kc).length then(⟨0,[],0,0⟩,2)else(⟨1,s.takeWhile Kc,0,0⟩,0)
 else if isD (nth s 0)=true then(⟨2,s.takeWhile isD,(num (s.takeWhile isD)).1,0⟩,(num (s.takeWhile isD)).2)
 else if sgn (nth s 0)≠[]∧s.take (sgn (nth s 0)).length=sgn (nth s 0)then(⟨3,sgn (nth s 0),0,0⟩,0)
 else(⟨0,[],0,0⟩,150)
theorem RG(s:List UInt8)(h0:0<s.length)(hs:s.length≤1000000):Fi s=some (tok s):=by
 unfold Fi tok
 have hR:InR 0 s.length:=by unfold InR;omega
 have hw:=R4 Kc s
 have hd:=R4 isD s
 rw[if_pos hR,Oe]
 show(if isL (nth s 0)=true then _ else _)=_
 by_cases h1:isL (nth s 0)=true
 ·rw[if_pos h1,if_pos h1,LQ (Ub s _ Kc VB hs),if_pos (OJ hw),Int.toNat_natCast,L4]
  by_cases h2:32<(s.takeWhile Kc).length
  ·rw[if_pos (by simp;omega),if_pos h2]
  ·rw[if_neg (by simp;omega),if_neg h2]
 ·rw[if_neg h1,if_neg h1,M6]
  show(if isD (nth s 0)=true then _ else _)=_
  by_cases h2:isD (nth s 0)=true
  ·rw[if_pos h2,if_pos h2,LQ (Ub s _ isD M6 hs),if_pos (OJ hd),Int.toNat_natCast,L4,LQ (U8 _ (by omega))]
  ·rw[if_neg h2,if_neg h2,if_pos hR]
   show((if(!(sgn (nth s 0)==[]))then(BW s (sgn (nth s 0))).bind fun y=>some y else some false:Option Bool).bind fun t=>if t then some (({ Za:=3,Zb:=sgn (nth s 0),N:=0,At:=0 }:Api_Token),(0:Int))else some (({ Za:=0,Zb:=([]:List UInt8),N:=0,At:=0 }:Api_Token),150))=_
   rw[Pf]
   by_cases h3:sgn (nth s 0)=[]
   ·simp[h3]
   ·by_cases h4:s.take (sgn (nth s 0)).length=sgn (nth s 0)
    ·simp[h3,h4]
    ·simp[h3,h4]
theorem Zu:∀n:Fin 256,sgn (UInt8.ofNat n.val)=[]∨(nth (sgn (UInt8.ofNat n.val)) 0=UInt8.ofNat n.val∧isL (UInt8.ofNat n.val)=false∧isD (UInt8.ofNat n.val)=false∧isB (UInt8.ofNat n.val)=false∧UInt8.ofNat n.val≠35∧(sgn (UInt8.ofNat n.val)).length≤2):=by decide +kernel
theorem XS(c:UInt8)(h:sgn c≠[]):nth (sgn c) 0=c∧isL c=false∧isD c=false∧isB c=false∧c≠35∧(sgn c).length≤2:=by
 have:=Zu ⟨c.toNat,UInt8.toNat_lt c⟩
 have e:UInt8.ofNat c.toNat=c:=UInt8.ofNat_toNat
 simp only[e]at this
 exact this.resolve_left h
theorem X2:∀n:Fin 256,(isL (UInt8.ofNat n.val)=true→isB (UInt8.ofNat n.val)=false∧UInt8.ofNat n.val≠35∧isD (UInt8.ofNat n.val)=false)∧(isD (UInt8.ofNat n.val)=true→isB (UInt8.ofNat n.val)=false∧UInt8.ofNat n.val≠35∧isL (UInt8.ofNat n.val)=false)∧(isB (UInt8.ofNat n.val)=true→Kc (UInt8.ofNat n.val)=false):=by decide +kernel
theorem QD(c:UInt8):(isL c=true→isB c=false∧c≠35∧isD c=false)∧(isD c=true→isB c=false∧c≠35∧isL c=false)∧(isB c=true→Kc c=false):=by
 have:=X2 ⟨c.toNat,UInt8.toNat_lt c⟩
 have e:UInt8.ofNat c.toNat=c:=UInt8.ofNat_toNat
 simpa only[e]using this
def AcC(k:Int)(x:UInt8):Bool:=if k=1 then Kc x else if k=2 then isD x else false
def Tk(t:Api_Token):Prop:=t.Zb≠[]∧t.At=0∧((t.Za=1∧isL (nth t.Zb 0)=true∧(∀x∈t.Zb,Kc x=true)∧t.Zb.length≤32∧t.N=0)
 ∨ (t.Za=2∧isL (nth t.Zb 0)=false∧isD (nth t.Zb 0)=true∧(∀x∈t.Zb,isD x=true)∧num t.Zb=(t.N,0))
 ∨ (t.Za=3∧isL (nth t.Zb 0)=false∧isD (nth t.Zb 0)=false∧t.Zb=sgn (nth t.Zb 0)∧t.N=0))
def Adc(k:Int)(r:List UInt8):Prop:=∀x,r.head?=some x→AcC k x=false
theorem NZ(p:UInt8→Bool):∀l:List UInt8,(∀x∈l.takeWhile p,p x=true)∧∀x,(l.drop (l.takeWhile p).length).head?=some x→p x=false
  |[]=>by simp
  | a::l=>by
    rw[List.takeWhile_cons]
    have:=NZ p l
    cases ha:p a with
    |false=>simp[ha]
    |true=>simpa [ha]using this
theorem Um(p:UInt8→Bool):∀(t r:List UInt8),(∀x∈t,p x=true)→(∀x,r.head?=some x→p x=false)→(t++r).takeWhile p=t
  |[],[],_,_=>rfl
  | [],x::r,_,h=>by
    have:=h x rfl
    simp[this]
  | a::t,r,h1,h2=>by
    have h3:=h1 a (by simp)
    show List.takeWhile p (a::(t++r))=_
    rw[List.takeWhile_cons,h3,if_pos rfl,Um p t r (fun x hx=>h1 x (by simp[hx])) h2]
theorem AaS(p:UInt8→Bool){s:List UInt8}(h0:0<s.length)(h:p (nth s 0)=true):s.takeWhile p≠[]∧nth (s.takeWhile p) 0=nth s 0:=by
  cases s with
  |nil=>simp at h0
  | cons a s=>
    have e:nth (a::s) 0=a:=rfl
    rw[e]at h ⊢
    rw[List.takeWhile_cons,h,if_pos rfl]
    exact⟨by simp,rfl⟩
theorem Y9{t:List UInt8}(r:List UInt8)(h:t≠[]):nth (t++r) 0=nth t 0:=by
 cases t with
 |nil=>exact absurd rfl h
 |cons a t=>rfl
theorem N0{s:List UInt8}(h0:0<s.length)(h:(tok s).2=0):Tk (tok s).1∧s=(tok s).1.Zb++s.drop (tok s).1.Zb.length∧Adc (tok s).1.Za (s.drop (tok s).1.Zb.length)∧nth (tok s).1.Zb 0=nth s 0:=by
 unfold tok at h ⊢
 by_cases h1:isL (nth s 0)=true
 ·have hp:Kc (nth s 0)=true:=by unfold Kc;rw[h1];rfl
  obtain⟨n1,n2⟩:=AaS Kc h0 hp
  by_cases h2:32<(s.takeWhile Kc).length
  ·rw[if_pos h1,if_pos h2]at h;cases h
  ·rw[if_pos h1,if_neg h2]
   refine⟨⟨n1,rfl,.inl ⟨rfl,by simpa [n2]using h1,(NZ Kc s).1,by simp only;omega,rfl⟩⟩,?_,(NZ Kc s).2,n2⟩
   show s=s.takeWhile Kc++s.drop (s.takeWhile Kc).length
   conv=>lhs;rw[←List.take_append_drop (s.takeWhile Kc).length s,L4]
 ·rw[if_neg h1]at h ⊢
  have h1':isL (nth s 0)=false:=by simpa using h1
  by_cases h2:isD (nth s 0)=true
  ·obtain⟨n1,n2⟩:=AaS isD h0 h2
   rw[if_pos h2]at h ⊢
   refine⟨⟨n1,rfl,.inr (.inl ⟨rfl,by simpa [n2]using h1',by simpa [n2]using h2,(NZ isD s).1,Prod.ext rfl h⟩)⟩,?_,(NZ isD s).2,n2⟩
   show s=s.takeWhile isD++s.drop (s.takeWhile isD).length
   conv=>lhs;rw[←List.take_append_drop (s.takeWhile isD).length s,L4]
  ·rw[if_neg h2]at h ⊢
   have h2':isD (nth s 0)=false:=by simpa using h2
   by_cases h3:sgn (nth s 0)≠[]∧s.take (sgn (nth s 0)).length=sgn (nth s 0)
   ·rw[if_pos h3]
    have h4:=(XS _ h3.1).1
    refine⟨⟨h3.1,rfl,.inr (.inr ⟨rfl,by simpa [h4]using h1',by simpa [h4]using h2',by simp only[h4],rfl⟩)⟩,?_,fun x _=>rfl,h4⟩
    show s=sgn (nth s 0)++s.drop (sgn (nth s 0)).length
    conv=>lhs;rw[←List.take_append_drop (sgn (nth s 0)).length s,h3.2]
   ·rw[if_neg h3]at h;cases h
theorem AbS{t:Api_Token}(r:List UInt8)(h:Tk t)(he:Adc t.Za r):tok (t.Zb++r)=(t,0):=by
 obtain⟨k,x,n,a⟩:=t
 obtain⟨h1,h2,h3⟩:=h
 simp only at h1 h2 h3 he
 subst h2
 unfold tok
 simp only
 rw[Y9 r h1]
 rcases h3 with⟨rfl,a1,a2,a3,rfl⟩|⟨rfl,a0,a1,a2,a3⟩|⟨rfl,a0,a1,a2,rfl⟩
 ·rw[Um Kc x r a2 he,if_pos a1,if_neg (by omega)]
 ·rw[Um isD x r a2 he,a0,if_neg (by simp),if_pos a1,a3]
 ·rw[a0,a1,if_neg (by simp),if_neg (by simp),←a2,if_pos ⟨h1,by simp⟩]
def gb(c:Bool)(b:UInt8):Option Bool:=if(if b=10 then false else if b=35 then true else c)then some true else if isB b=true then some false else none
theorem Mf{b:UInt8}{c:Bool}(h:gb c b=none):c=false∧isB b=false∧b≠35∧b≠10:=by
 unfold gb at h
 by_cases h1:(if b=10 then false else if b=35 then true else c)=true
 ·rw[if_pos h1]at h;cases h
 ·rw[if_neg h1]at h
  by_cases h2:isB b=true
  ·rw[if_pos h2]at h;cases h
  ·have h2':isB b=false:=by simpa using h2
   by_cases h3:b=10
   ·subst h3;exact absurd h2' (by decide)
   ·rw[if_neg h3]at h1
    by_cases h4:b=35
    ·rw[if_pos h4]at h1;exact absurd rfl h1
    ·rw[if_neg h4]at h1;exact⟨by simpa using h1,h2',h4,h3⟩
theorem Pj{b:UInt8}(h1:isB b=false)(h2:b≠35):gb false b=none:=by
 unfold gb
 have h3:b≠10:=fun e=>by subst e;exact absurd h1 (by decide)
 rw[if_neg h3,if_neg h2,if_neg (by simp),if_neg (by simp[h1])]
theorem AdB(c:Bool):gb c 10=some false:=by unfold gb;rw[if_pos rfl];rfl
theorem Z7(c:Bool):gb c 35=some true:=rfl
theorem TH{b:UInt8}(h:b≠10):gb true b=some true:=by unfold gb;rw[if_neg h];by_cases h2:b=35<;>simp[h2]
theorem VW{b:UInt8}(h:isB b=true):gb false b=some false:=by
 unfold gb
 have h2:b≠35:=fun e=>by subst e;exact absurd h (by decide)
 by_cases h3:b=10
 ·rw[if_pos h3,if_neg (by simp),if_pos h]
 ·rw[if_neg h3,if_neg h2,if_neg (by simp),if_pos h]
inductive Rt:Bool→Nat→List UInt8→List Api_Token→Option (Nat×Int)→Prop
  |nil (c:Bool) (o:Nat):Rt c o [] [] none
  |skip {c c':Bool} {o:Nat} {b:UInt8} {s:List UInt8} {l:List Api_Token} {e:Option (Nat×Int)} (h:gb c b=some c') (r:Rt c' (o+1) s l e):Rt c o (b::s) l e
  |tok {c:Bool} {o:Nat} {b:UInt8} {s:List UInt8} {t:Api_Token} {l:List Api_Token} {e:Option (Nat×Int)} (h:gb c b=none) (ht:tok (b::s)=(t,0)) (r:Rt false (o+t.Zb.length) ((b::s).drop t.Zb.length) l e):Rt c o (b::s) ({ t with At:=o }::l) e
  |err {c:Bool} {o:Nat} {b:UInt8} {s:List UInt8} {x:Int} (h:gb c b=none) (ht:(tok (b::s)).2=x) (hx:x≠0):Rt c o (b::s) [] (some (o,x))
theorem Wd{s:List UInt8}(h:(tok s).2=0):tok s=((tok s).1,0):=Prod.ext rfl h
theorem Rt.total:∀(n:Nat) (s:List UInt8) (c:Bool) (o:Nat),s.length≤n→∃l e,Rt c o s l e
  |_,[],c,o,_=>⟨_,_,.nil c o⟩
  |0,b::s,c,o,h=>absurd h (by simp)
  | n + 1,b::s,c,o,h=>by
    simp only[List.length_cons]at h
    cases hg:gb c b with
    | some c'=>
      obtain⟨l,e,hr⟩:=Rt.total n s c' (o+1) (by omega)
      exact⟨l,e,.skip hg hr⟩
    | none=>
      by_cases hx:(Go.Proofs.YtldngkmkhfddpaaDoor.tok (b::s)).2=0
      · have hi:=(N0 (by simp) hx).1.1
        have hp:=List.length_pos_iff.2 hi
        obtain⟨l,e,hr⟩:=Rt.total n ((b::s).drop (Go.Proofs.YtldngkmkhfddpaaDoor.tok (b::s)).1.Zb.length) false (o+(Go.Proofs.YtldngkmkhfddpaaDoor.tok (b::s)).1.Zb.length) (by simp only[List.length_drop,List.length_cons];omega)
        exact⟨_,e,.tok hg (Wd hx) hr⟩
      · exact⟨[],_,.err hg rfl hx⟩
theorem PT{b:UInt8}{s:List UInt8}{t:Api_Token}(h:tok (b::s)=(t,0)):0<t.Zb.length∧t.Zb.length≤s.length+1:=by
 have h2:(tok (b::s)).2=0:=by rw[h]
 obtain⟨hk,hs,_⟩:=N0 (by simp) h2
 rw[h]at hk hs
 have:=congrArg List.length hs
 simp only[List.length_cons,List.length_append]at this
 exact⟨List.length_pos_iff.2 hk.1,by omega⟩
theorem Rt.len{c:Bool}{o:Nat}{s:List UInt8}{l:List Api_Token}{e:Option (Nat×Int)}(h:Rt c o s l e):l.length≤s.length:=by
  induction h with
  |nil=>simp
  |skip h r ih=>simp only[List.length_cons];omega
  | tok h ht r ih=>
    have:=PT ht
    simp only[List.length_drop,List.length_cons]at ih ⊢
    omega
  |err=>simp
theorem Rt.comment:∀{s:List UInt8} {o:Nat} {l:List Api_Token} {e:Option (Nat×Int)},Rt true o s l e→(Lib.indexByte s 10=-1∧l=[]∧e=none)∨∃n:Nat,Lib.indexByte s 10=(n:Int)∧n<s.length∧Rt false (o+(n+1)) (s.drop (n+1)) l e
  | [],o,l,e,h=>by
    cases h
    exact .inl ⟨rfl,rfl,rfl⟩
  | b :: s,o,l,e,h=>by
    unfold Lib.indexByte
    cases h with
    |tok h ht r=>exact absurd (Mf h).1 (by simp)
    |err h ht hx=>exact absurd (Mf h).1 (by simp)
    | skip h r=>
      by_cases hb:b=10
      · subst hb
        rw[AdB]at h
        obtain rfl:=Option.some.inj h
        exact .inr ⟨0,by rw[if_pos (by simp)];rfl,by simp,by simpa using r⟩
      · rw[TH hb]at h
        obtain rfl:=Option.some.inj h
        rw[if_neg (by simpa using hb)]
        rcases Rt.comment r with⟨h1,h2,h3⟩|⟨n,h1,h2,h3⟩
        · exact .inl ⟨by rw[h1];rfl,h2,h3⟩
        · refine .inr ⟨n+1,?_,by simp only[List.length_cons];omega,?_⟩
          · rw[h1,if_neg (show ¬(((n:Int)==-1)=true) by rw[beq_iff_eq];omega)];omega
          · have e:o+1+(n+1)=o+(n+1+1):=by omega
            rw[e]at h3
            exact h3
def res(l:List Api_Token):Option (Nat×Int)→List Api_Token×Int×Int
 |none=>(l,0,0)
 |some (o,x)=>([],(o:Int),x)
theorem IJ{s:List UInt8}{k:Nat}(h:k<s.length):s.drop k=nth s k::s.drop (k+1):=by
 rw[List.drop_eq_getElem_cons h]
 congr 1
 simp[nth,h]
theorem Un(s:List UInt8):BV s 10=some (Lib.indexByte s 10):=by
 unfold BV Cs CP PG VK
 rw[Lib.firstIdx_eq]
 rfl
theorem TK(s:List UInt8)(k:Nat):(s.drop k).take (s.length-k)=s.drop k:=List.take_of_length_le (by simp)
theorem AaF(c:UInt8):(if(c==(32:UInt8))then some (c==(32:UInt8))else if(c==(9:UInt8))then some (c==(9:UInt8))else if(c==(13:UInt8))then some (c==(13:UInt8))else some (c==(10:UInt8)):Option Bool)=some (isB c):=by
 unfold isB
 cases c==32<;>cases c==9<;>cases c==13<;>simp
theorem Aa8{n:Nat}(h:n≤1000000):Iu n 40:=by unfold Iu maxLen FV;omega
theorem U7{src : List UInt8}{l:List Api_Token}{e:Option (Nat×Int)}(h:Rt false 0 src l e)(hs:src.length≤2000):E5 src=some (res l e):=by
  unfold E5
  rw[if_neg (by simp;omega)]
  have hll:=h.len
  obtain ⟨x,hx,hq⟩:=FU (f:=fun v:Int×List Api_Token=>AD src v.1 v.2) (fun v=>∃(k:Nat) (acc l2:List Api_Token),v=((k:Int),acc)∧k≤src.length∧acc++l2=l∧Rt false k (src.drop k) l2 e) (fun v=>src.length-v.1.toNat)
    (fun x:List Api_Token⊕(List Api_Token⊕(List Api_Token×Int×Int))=>(match x with|.inl n=>(n,(0:Int),(0:Int))|.inr (.inl n)=>(n,(0:Int),(0:Int))|.inr (.inr z)=>z)=res l e) (by
      rintro v ⟨k,acc,l2,rfl,hk,hacc,hr⟩
      have hl:=congrArg List.length hacc
      simp only[List.length_append]at hl
      by_cases h1:k<src.length
      · have e1 : decide ((k:Int)<(src.length:Int))=true:=by simp;omega
        have hB:InB (k:Int) src.length:=OJ hk
        rw[IJ h1]at hr
        have step:AD src (k:Int) acc=if isB (nth src k)=true then some (.inl (((k+1:Nat):Int),acc))else if(nth src k==(35:UInt8))then
            (BV (nth src k::src.drop (k+1)) 10).bind fun y=>if(decide (y<0))then some (.inr (.inl acc))else some (.inl (w64 ((k:Int)+w64 (y+1)),acc))
            else(Fi (nth src k::src.drop (k+1))).bind fun y=>if(y.2 != 0)then some (.inr (.inr (.inr ([],(k:Int),y.2))))else some (.inl (w64 ((k:Int)+(y.1.Zb.length:Int)),acc++[{ y.1 with At:=(k:Int) }])):=by
          unfold AD
          rw[if_pos e1,if_pos (Ce h1),Int.toNat_natCast,LQ (AaF _),MJ (by omega),if_pos hB,TK,IJ h1,if_pos hB]
          simp only[if_pos (show Iu (acc.length+1) 40 from Aa8 (by omega))]
          rfl
        cases hr with
        | skip hg hr=>
          by_cases hb:isB (nth src k)=true
          · rw[VW hb]at hg
            obtain rfl:=Option.some.inj hg
            left
            refine⟨(((k+1:Nat):Int),acc),?_,⟨k+1,acc,l2,rfl,by omega,hacc,hr⟩,by simp;omega⟩
            show AD src (k:Int) acc=_
            rw[step,if_pos hb]
          · have hc:nth src k=35:=by
              have h0:=hg
              unfold gb at h0
              by_cases e10:nth src k=10
              · rw[e10]at hb;exact absurd (by decide) hb
              · rw[if_neg e10]at h0
                by_cases e35:nth src k=35
                · exact e35
                · rw[if_neg e35,if_neg (by simp),if_neg hb]at h0;cases h0
            rw[hc,Z7]at hg
            obtain rfl:=Option.some.inj hg
            have hcm:Rt true k (nth src k::src.drop (k+1)) l2 e:=.skip (by rw[hc];exact TH (by decide)) hr
            have hstep:AD src (k:Int) acc=if(decide (Lib.indexByte (nth src k::src.drop (k+1)) 10<0))then some (.inr (.inl acc))else some (.inl (w64 ((k:Int)+w64 (Lib.indexByte (nth src k::src.drop (k+1)) 10+1)),acc)):=by
              rw[step,if_neg hb,if_pos (by simp[hc]),LQ (Un _)]
            rcases hcm.comment with⟨i1,i2,i3⟩|⟨n,i1,i2,i3⟩
            · right
              subst i2 i3
              refine⟨.inl acc,?_,by rw[List.append_nil]at hacc;rw[hacc];rfl⟩
              show AD src (k:Int) acc=_
              rw[hstep,i1,if_pos (by decide)]
            · left
              simp only[List.length_cons,List.length_drop]at i2
              refine⟨(((k+(n+1):Nat):Int),acc),?_,⟨k+(n+1),acc,l2,rfl,by omega,hacc,?_⟩,by simp;omega⟩
              · show AD src (k:Int) acc=_
                rw[hstep,i1,if_neg (by simp),MJ (by omega),Us (by omega)]
              · rw[←IJ h1,List.drop_drop]at i3
                exact i3
        | tok hg ht hr=>
          rename_i t l2
          have hb:=Mf hg
          have hp:=PT ht
          simp only[List.length_drop]at hp
          left
          refine⟨(((k+t.Zb.length:Nat):Int),acc++[{ t with At:=(k:Int) }]),?_,⟨k+t.Zb.length,_,l2,rfl,by omega,by rw[List.append_assoc];exact hacc,?_⟩,by simp;omega⟩
          · show AD src (k:Int) acc=_
            rw[step,if_neg (by simp[hb.2.1]),if_neg (by simp[hb.2.2.1]),LQ (RG _ (by simp) (by simp;omega)),ht]
            dsimp only
            rw[if_neg (by simp),Us (by omega)]
          · rw[←IJ h1,List.drop_drop]at hr
            exact hr
        | err hg ht hx=>
          rename_i x
          have hb:=Mf hg
          right
          refine⟨.inr (.inr ([],(k:Int),x)),?_,rfl⟩
          show AD src (k:Int) acc=_
          rw[step,if_neg (by simp[hb.2.1]),if_neg (by simp[hb.2.2.1]),LQ (RG _ (by simp) (by simp;omega)),ht,if_pos (by simpa using hx)]
      · right
        have hk':k=src.length:=by omega
        subst hk'
        rw[List.drop_length]at hr
        cases hr
        refine⟨.inl acc,?_,by rw[List.append_nil]at hacc;rw[hacc];rfl⟩
        show AD src (src.length:Int) acc=_
        unfold AD
        rw[if_neg (by simp)]) (v0:=((0,[]):Int×List Api_Token)) ⟨0,[],l,rfl,by omega,rfl,h⟩ (by show src.length-0<_;omega)
  rw[hx]
  rcases x with n|(n|z)
  · simpa using hq
  · simpa using hq
  · simpa using hq
def chain(c:UInt8):Option Bool :=
 if(c==(123:UInt8))then some ((c==(123:UInt8)))else if(c==(125:UInt8))then some ((c==(125:UInt8)))else if(c==(40:UInt8))then some ((c==(40:UInt8)))else if(c==(41:UInt8))then some ((c==(41:UInt8)))else if(c==(59:UInt8))then some ((c==(59:UInt8)))
 else if(c==(44:UInt8))then some ((c==(44:UInt8)))else if(c==(43:UInt8))then some ((c==(43:UInt8)))else if(c==(45:UInt8))then some ((c==(45:UInt8)))else if(c==(42:UInt8))then some ((c==(42:UInt8)))else some ((c==(60:UInt8)))
theorem S4{c:UInt8}(h:Kc c=false):isL c=false∧isD c=false:=by
 unfold Kc at h
 rwa[Bool.or_eq_false_iff]at h
def er(t:Api_Token):Api_Token:={ t with At:=0 }
def sh(k:Nat)(t:Api_Token):Api_Token:={ t with At:=t.At+(k:Int) }
theorem AeK(k:Nat)(l:List Api_Token):(l.map (sh k)).map er=l.map er:=by simp[er,sh,Function.comp_def]
def Stop(x:UInt8):Prop:=isB x=true∨x=35
theorem UU{x:UInt8}(h:Stop x):Kc x=false∧isD x=false:=by
 have h1:Kc x=false:=by
  rcases h with h|rfl
  ·exact(QD x).2.2 h
  ·decide
 exact⟨h1,(S4 h1).2⟩
theorem Tu{x:UInt8}(h:Stop x)(k:Int):AcC k x=false:=by
 unfold AcC
 split
 ·exact(UU h).1
 ·split
  ·exact(UU h).2
  ·rfl
theorem Rt.shift{c:Bool}{o:Nat}{s:List UInt8}{l:List Api_Token}{e:Option (Nat×Int)}(k:Nat)(h:Rt c o s l e):Rt c (o+k) s (l.map (sh k)) (e.map fun p=>(p.1+k,p.2)):=by
  induction h with
  |nil c o=>exact .nil c (o+k)
  | skip h r ih=>
    rw[Nat.add_right_comm]at ih
    exact .skip h ih
  | tok h ht r ih=>
    rw[Nat.add_right_comm]at ih
    have:=Rt.tok h ht ih
    rw[List.map_cons]
    exact this
  |err h ht hx=>exact .err h ht hx
def JL:Bool→List UInt8→Option Bool
 |c,[]=>some c
 |c,b::s=>match gb c b with
  |some c'=>JL c' s
  |none=>none
theorem Rt.gap{s:List UInt8}{l:List Api_Token}{e:Option (Nat×Int)}{c':Bool}:∀(p:List UInt8) (c:Bool) (o:Nat),JL c p=some c'→Rt c' (o+p.length) s l e→Rt c o (p++s) l e
  | [],c,o,h,r=>by
    obtain rfl:=Option.some.inj h
    exact r
  | b :: p,c,o,h,r=>by
    unfold JL at h
    cases hg:gb c b with
    |none=>rw[hg]at h;cases h
    | some c2=>
      rw[hg]at h
      rw[List.length_cons,Nat.add_comm p.length 1,←Nat.add_assoc]at r
      exact .skip hg (Rt.gap p c2 (o+1) h r)
theorem Z1{t:Api_Token}(h:Tk t):gb false (nth t.Zb 0)=none:=by
 obtain⟨h1,_,h3⟩:=h
 rcases h3 with⟨_,a,_⟩|⟨_,_,a,_⟩|⟨_,_,_,a,_⟩
 ·have:=(QD (nth t.Zb 0)).1 a
  exact Pj this.1 this.2.1
 ·have:=(QD (nth t.Zb 0)).2.1 a
  exact Pj this.1 this.2.1
 ·have:=XS (nth t.Zb 0) (by rw[←a];exact h1)
  exact Pj this.2.2.2.1 this.2.2.2.2.1
theorem Rt.tok'{o:Nat}{r:List UInt8}{t:Api_Token}{l:List Api_Token}{e:Option (Nat×Int)}(h:Tk t)(he:Adc t.Za r)(hr:Rt false (o+t.Zb.length) r l e):Rt false o (t.Zb++r) ({ t with At:=(o:Int) }::l) e:=by
 have hh:=Z1 h
 have ht:=AbS r h he
 have hd:(t.Zb++r).drop t.Zb.length=r:=List.drop_left
 obtain⟨b,x,hx⟩:∃b x,t.Zb=b::x:=by
  cases hx:t.Zb with
  |nil=>exact absurd hx h.1
  |cons b x=>exact⟨b,x,rfl⟩
 have e0:t.Zb++r=b::(x++r):=by rw[hx];rfl
 have e1:nth t.Zb 0=b:=by rw[hx];rfl
 rw[e1]at hh
 rw[e0]at ht hd ⊢
 refine Rt.tok hh ht ?_
 rw[hd]
 exact hr
theorem Rt.sum{c:Bool}{o:Nat}{s:List UInt8}{l:List Api_Token}{e:Option (Nat×Int)}(h:Rt c o s l e):(l.map fun t=>t.Zb.length).sum≤s.length:=by
  induction h with
  |nil=>simp
  |skip h r ih=>simp only[List.length_cons];omega
  | tok h ht r ih=>
    have:=PT ht
    simp only[List.length_drop,List.length_cons,List.map_cons,List.sum_cons]at ih ⊢
    omega
  |err=>simp
theorem Rt.insert{p:List UInt8}(hp:JL false p=some false)(hs:∃x r,p=x::r∧Stop x){c:Bool}{o:Nat}{s:List UInt8}{l:List Api_Token}{e:Option (Nat×Int)}(h:Rt c o s l e) :
    e=none→∀n,n<l.length→∃k m,(nth l n).At=((o+k:Nat):Int)∧k≤s.length∧Rt c o (s.take k++(p++s.drop k)) m none∧m.map er=l.map er:=by
  induction h with
  |nil c o=>intro _ n hn;simp at hn
  | skip h r ih=>
    intro he n hn
    obtain⟨k,m,h1,h2,h3,h4⟩:=ih he n hn
    refine⟨k+1,m,by rw[h1];omega,by simp only[List.length_cons];omega,?_,h4⟩
    exact .skip h h3
  | tok h ht r ih=>
    intro he n hn
    subst he
    rename_i c o b s t l
    have hi:=N0 (s:=b::s) (by simp) (by rw[ht])
    rw[ht]at hi
    obtain⟨hk,hsplit,hends,hhead⟩:=hi
    obtain rfl:=(Mf h).1
    cases n with
    | zero=>
      refine⟨0,({ t with At:=(o:Int) }::l).map (sh p.length),rfl,by simp,?_,AeK _ _⟩
      show Rt false o (p++b::s) _ none
      exact Rt.gap p false o hp ((Rt.tok h ht r).shift p.length)
    | succ n=>
      obtain⟨k,m,h1,h2,h3,h4⟩:=ih rfl n (by simpa using hn)
      have hlen:=congrArg List.length hsplit
      simp only[List.length_append,List.length_cons]at hlen
      refine⟨t.Zb.length+k,{ t with At:=(o:Int) }::m,?_,by simp only[List.length_cons];omega,?_,by rw[List.map_cons,List.map_cons,h4]⟩
      · show(nth l n).At=_
        rw[h1];omega
      · have e1:(b::s).take (t.Zb.length+k)++(p++(b::s).drop (t.Zb.length+k))=t.Zb++(((b::s).drop t.Zb.length).take k++(p++((b::s).drop t.Zb.length).drop k)):=by
          rw[List.drop_drop,←List.append_assoc t.Zb]
          congr 1
          rw[List.take_add]
          congr 1
          conv=>lhs;rw[hsplit]
          exact List.take_left
        rw[e1]
        refine Rt.tok' hk ?_ h3
        intro x hx
        cases k with
        | zero=>
          obtain⟨y,q,rfl,hy⟩:=hs
          obtain rfl:=Option.some.inj hx
          exact Tu hy _
        | succ k=>
          cases hd:(b::s).drop t.Zb.length with
          |nil=>rw[hd]at h2;simp at h2
          | cons y q=>
            rw[hd]at hx hends
            exact hends x hx
  |err h ht hx=>intro he;cases he
theorem Rt.head{c:Bool}{o:Nat}{s:List UInt8}{l:List Api_Token}{e:Option (Nat×Int)}(h:Rt c o s l e):e=none→match l with
    |[]=>∃c',JL c s=some c'
    |t::l'=>∃g r,s=g++(t.Zb++r)∧JL c g=some false∧t.At=((o+g.length:Nat):Int)∧t.Zb≠[]∧Rt false (o+g.length+t.Zb.length) r l' none:=by
  induction h with
  |nil c o=>exact fun _=>⟨c,rfl⟩
  | skip h r ih=>
    intro he
    have:=ih he
    rename_i c c' o b s l e
    cases l with
    | nil=>
      obtain⟨c2,h2⟩:=this
      exact⟨c2,by unfold JL;rw[h];exact h2⟩
    | cons t l=>
      obtain⟨g,q,h1,h2,h3,h4,h5⟩:=this
      have e1:∀n,o+1+g.length+n=o+(b::g).length+n:=fun n=>by simp only[List.length_cons];omega
      refine⟨b::g,q,by rw[h1];rfl,by unfold JL;rw[h];exact h2,?_,h4,?_⟩
      · rw[h3];simp only[List.length_cons];omega
      · rw[←e1];exact h5
  | tok h ht r ih=>
    intro he
    subst he
    rename_i c o b s t l
    have hi:=N0 (s:=b::s) (by simp) (by rw[ht])
    rw[ht]at hi
    obtain⟨hk,hsplit,hends,hhead⟩:=hi
    exact⟨[],_,hsplit,by rw[(Mf h).1];rfl,rfl,hk.1,r⟩
  |err h ht hx=>intro he;cases he
theorem KG(l:List Int)(hl:l.length<1000000):TP (Fh l) fun b=>b=true→∀x∈l,-9007199254740992≤x∧x≤9007199254740992:=by
 have h:=R3 l (E1 l) (fun x=>decide (-9007199254740992≤x∧x≤9007199254740992)) (Sum.inl ()) (Sum.inr (Sum.inr false)) (by omega) (fun k hk=>?_) ?_
 ·unfold Fh
  rw[LQ h]
  by_cases ha:l.all (fun x=>decide (-9007199254740992≤x∧x≤9007199254740992))=true
  ·rw[if_pos ha]
   refine A0 fun _ x hx=>?_
   simpa using List.all_eq_true.1 ha x hx
  ·rw[if_neg ha]
   exact A0 fun e=>by cases e
 ·unfold E1
  rw[if_pos (by simpa using hk),if_pos (Ce hk),D9 (by omega)]
  simp only[Int.toNat_natCast]
  by_cases h1:nth l k < -9007199254740992
  ·rw[if_pos (by simpa using h1)]
   simp only[A3,if_true]
   rw[if_neg (by simp;omega)]
  ·rw[if_neg (by simpa using h1)]
   by_cases h2:nth l k>9007199254740992
   ·simp only[A3,h2,decide_true,if_true]
    rw[if_neg (by simp;omega)]
   ·simp only[A3,h2,decide_false,Bool.false_eq_true,if_false]
    rw[if_pos (by simp;omega)]
 ·unfold E1
  rw[if_neg (by simp)]
theorem KY(c:Int):TP (DM c) fun r=>r.2=0∨r.2=3:=by
 unfold DM
 refine BI (KG _ (by simp)) fun b _=>Ca (fun _=>A0 (.inr rfl)) fun _=>A0 (.inl rfl)
theorem Xy(a b:Int):TP (Hl a b) fun r=>r.2=0∨r.2=3:=by
 unfold Hl
 refine BI (KG _ (by simp)) fun b _=>Ca (fun _=>A0 (.inr rfl)) fun _=>BI (KY _) fun r h=>A0 h
theorem We(a b:Int):TP (Hu a b) fun r=>r.2=0∨r.2=3:=by
 unfold Hu
 refine BI (KG _ (by simp)) fun b _=>Ca (fun _=>A0 (.inr rfl)) fun _=>BI (KY _) fun r h=>A0 h
theorem Rm(a:Int):Aci (Gt a):=by
 unfold Gt
 exact Ca (fun _=>Pi) fun _=>Pi
theorem SY(a b:UInt64):Aci (Gg a b):=by
 unfold Gg
 simp only[Em]
 exact Pi
theorem WT(a b:Int):TP (Hp a b) fun r=>r.2=0∨r.2=3:=by
 unfold Hp
 refine BI (KG _ (by simp)) fun b _=>Ca (fun _=>A0 (.inr rfl)) fun _=>WM (Rm _) fun _=>WM (Rm _) fun _=>WM (SY _ _) fun _=>?_
 refine WM (Ca (fun _=>Pi) fun _=>Pi) fun t=>Ca (fun _=>A0 (.inr rfl)) fun _=>A0 (.inl rfl)
theorem Xs(a b m:Int):TP (Ha a b m) fun r=>r.2=0∨r.2=1∨r.2=3∨r.2=70:=by
  unfold Ha
  refine WM (Ca (fun _=>Ca (fun _=>Pi) fun _=>Pi) fun _=>Pi) fun t=>Ca (fun _=>A0 (.inr (.inl rfl))) fun _=>?_
  refine BI (KG _ (by simp)) fun y hy=>Ca (fun _=>A0 (.inr (.inr (.inl rfl)))) fun hn=>Ca (fun _=>A0 (.inr (.inr (.inr rfl)))) fun hb=>?_
  have hy':=hy (by simpa using hn)
  have hbb:=hy' b (by simp)
  have hb0:0<b:=by simpa using hb
  have w2:w64 (2*b)=2*b:=JI (by omega)
  refine BI (Q:=fun p=>p.2≠0) ?_ fun p hp=>?_
  · refine BI (Q:=fun z=>match z with|.inl q=>q.2≠0|.inr q=>q.2≠0) ?_ fun z hz=>?_
    · refine Ca (fun _=>Rq (A0 ?_)) fun _=>Ca (fun _=>A0 ?_) fun _=>?_
      · show w64 (2*b)≠0
        rw[w2];omega
      · show b≠0
        omega
      · refine BI (Q:=fun z=>z.2≠0) ?_ fun z hz=>A0 hz
        refine WM (Je (by omega) (Ca (fun _=>Pi) fun _=>Pi)) fun a=>A0 (show b≠0 by omega)
    · cases z with
      | inl q=>
        obtain⟨q1,q2⟩:=q
        refine WM (Je hz (Ca (fun _=>Pi) fun _=>Pi)) fun a=>A0 hz
      |inr q=>exact A0 hz
  · obtain⟨p1,p2⟩:=p
    exact Je hp (A0 (.inl rfl))
abbrev Ft{α:Type}(r:α⊕Int):Prop:=∀e,r=.inr e→e≠180
theorem I5(n e:Int)(he:e≠180):TP (DK n e) Ft:=by
 unfold DK
 refine Ca (fun _=>A0 fun e' h=>?_) fun _=>A0 fun e' h=>by cases h
 cases h;exact he
theorem VH(v:Api_Env)(a:Int):TP (AO v a) Ft:=by
 unfold AO
 refine BI (Q:=fun t=>t=false→0≤a∧a<16) ?_ fun t ht=>?_
 ·refine Ca (fun _=>A0 fun e=>by cases e) fun h=>A0 fun e=>?_
  simp at h e
  omega
 ·refine Ca (fun _=>A0 fun e h=>by cases h;decide) fun h=>?_
  obtain⟨h1,h2⟩:=ht (by simpa using h)
  refine Je h1 (Ca (fun _=>A0 fun e h=>by cases h;decide) fun _=>Je ⟨h1,by omega⟩ (Rq ?_))
  refine WM (Ca (fun _=>Pi) fun _=>Pi) fun t=>Ca (fun _=>A0 fun e h=>by cases h;decide) fun _=>A0 fun e h=>by cases h
def wfE:Nat→Api_Expr→Prop
 |0,_=>False
 |d+1,x=>(x.Op=1)∨(x.Op=2∧0≤x.N∧x.N<16)∨(3≤x.Op∧x.Op≤11∧x.L.length=(if x.Op=11 then 4 else 2)∧∀y∈x.L,wfE d y)
section
variable {rec_:Api_Env→Api_Expr→Option (Int⊕Int)}{v:Api_Env}{l:List Api_Expr}
theorem Bv{α:Type}{o:Option (α⊕Int)}{f:α⊕Int→Option (α⊕Int)}(h:TP o Ft)(hl:∀z,f (.inl z)=some (.inl z):=by intro z;rfl)(hr:∀z,f (.inr z)=some (.inr z):=by intro z;rfl):TP (o.bind f) Ft:=by
 refine BI h fun y hy=>?_
 cases y with
 |inl z=>rw[hl];exact A0 hy
 |inr z=>rw[hr];exact A0 hy
theorem Fz(hl:2≤l.length)(hr:∀y∈l,TP (rec_ v y) Ft):TP (A6 rec_ v l) Ft:=by
  unfold A6
  refine Je ⟨by omega,by simp;omega⟩ (BI (hr _ (CI (by omega))) fun y hy=>?_)
  cases y with
  |inr e=>exact A0 fun e' h=>by cases h;exact hy e rfl
  | inl a=>
    refine Je ⟨by omega,by simp;omega⟩ (BI (hr _ (CI (by omega))) fun y2 hy2=>?_)
    cases y2 with
    |inr e=>exact A0 fun e' h=>by cases h;exact hy2 e rfl
    |inl b=>exact A0 fun e' h=>by cases h
theorem Ady(hl:2≤l.length)(hr:∀y∈l,TP (rec_ v y) Ft):TP (Cc rec_ v l) Ft:=by
 unfold Cc
 refine BI (Fz hl hr) fun y hy=>?_
 cases y with
 |inr e=>exact A0 fun e' h=>by cases h;exact hy e rfl
 |inl a=>exact BI (Xy _ _) fun r h=>Bv (I5 _ _ (by have h':r.2=0∨r.2=3:=h;omega))
theorem Ad3(hl:2≤l.length)(hr:∀y∈l,TP (rec_ v y) Ft):TP (Cb rec_ v l) Ft:=by
 unfold Cb
 refine BI (Fz hl hr) fun y hy=>?_
 cases y with
 |inr e=>exact A0 fun e' h=>by cases h;exact hy e rfl
 |inl a=>exact BI (We _ _) fun r h=>Bv (I5 _ _ (by have h':r.2=0∨r.2=3:=h;omega))
theorem Aey(hl:2≤l.length)(hr:∀y∈l,TP (rec_ v y) Ft):TP (BZ rec_ v l) Ft:=by
 unfold BZ
 refine BI (Fz hl hr) fun y hy=>?_
 cases y with
 |inr e=>exact A0 fun e' h=>by cases h;exact hy e rfl
 |inl a=>exact BI (WT _ _) fun r h=>Bv (I5 _ _ (by have h':r.2=0∨r.2=3:=h;omega))
theorem MT(m:Int)(hl:2≤l.length)(hr:∀y∈l,TP (rec_ v y) Ft):TP (AP rec_ v l m) Ft:=by
 unfold AP
 refine BI (Fz hl hr) fun y hy=>?_
 cases y with
 |inr e=>exact A0 fun e' h=>by cases h;exact hy e rfl
 |inl a=>exact BI (Xs _ _ _) fun r h=>Bv (I5 _ _ (by have h':r.2=0∨r.2=1∨r.2=3∨r.2=70:=h;omega))
theorem ZG(hl:2≤l.length)(hr:∀y∈l,TP (rec_ v y) Ft):TP (BE rec_ v l) Ft:=by
 unfold BE
 refine BI (Fz hl hr) fun y hy=>?_
 cases y with
 |inr e=>exact A0 fun e' h=>by cases h;exact hy e rfl
 |inl a=>exact A0 fun e' h=>by cases h
theorem Tc(hl:2≤l.length)(hr:∀y∈l,TP (rec_ v y) Ft):TP (Bq rec_ v l) Ft:=by
 unfold Bq
 refine BI (Fz hl hr) fun y hy=>?_
 cases y with
 |inr e=>exact A0 fun e' h=>by cases h;exact hy e rfl
 |inl a=>exact A0 fun e' h=>by cases h
theorem X4(hl:4≤l.length)(hr:∀y∈l,TP (rec_ v y) Ft):TP (B6 rec_ v l) Ft:=by
  unfold B6
  refine BI (Fz (by omega) hr) fun y hy=>?_
  cases y with
  |inr e=>exact A0 fun e' h=>by cases h;exact hy e rfl
  | inl a=>
    refine Ca (fun _=>Je ⟨by omega,by simp;omega⟩ (Bv (hr _ (CI (k:=2) (by omega))))) fun _=>Je ⟨by omega,by simp;omega⟩ (Bv (hr _ (CI (k:=3) (by omega))))
end
theorem OK(v:Api_Env):∀(d:Nat) (x:Api_Expr) (n:Nat),wfE d x→d≤n→TP (Bh n v x) Ft
  |0,x,n,h,_=>h.elim
  |d+1,x,0,h,hn=>by omega
  | d + 1,x,n+1,h,hn=>by
    show TP (B7 (Bh n) v x) Ft
    unfold B7
    refine Ca (fun _=>A0 fun e h=>by cases h) fun h1=>Ca (fun h2=>Bv (VH _ _)) fun h2=>?_
    have h1':x.Op≠1:=by simpa using h1
    have h2':x.Op≠2:=by simpa using h2
    rcases h with h|h|⟨h3,h4,h5,h6⟩
    · exact(h1' h).elim
    · exact(h2' h.1).elim
    have hr:∀y∈x.L,TP (Bh n v y) Ft:=fun y hy=>OK v d y n (h6 y hy) (by omega)
    have hl:2≤x.L.length:=by rw[h5];split<;>omega
    refine Ca (fun _=>Bv (Ady hl hr)) fun n3=>Ca (fun _=>Bv (Ad3 hl hr)) fun n4=>Ca (fun _=>Bv (Aey hl hr)) fun n5=>Ca (fun _=>Bv (ZG hl hr)) fun n6=>Ca (fun _=>Bv (Tc hl hr)) fun n7=>?_
    refine Ca (fun _=>Bv ?_) fun n8=>Ca (fun _=>Bv ?_) fun n9=>Ca (fun _=>Bv ?_) fun n10=>Ca (fun h11=>Bv ?_) fun n11=>?_
    · unfold C8;exact Bv (MT _ hl hr)
    · unfold Dg;exact Bv (MT _ hl hr)
    · unfold C7;exact Bv (MT _ hl hr)
    · refine X4 ?_ hr
      rw[h5,if_pos h11]
      exact Nat.le_refl _
    · omega
theorem Q8(op:Int):D7 op=some (if op<1∨op>11 then -1 else if op=1∨op=2 then 0 else if op=11 then 4 else 2):=by
 unfold D7
 by_cases h1:op<1
 ·simp[h1]
 by_cases h2:op>11
 ·simp[h1,h2]
 by_cases h3:op=1
 ·subst h3;decide
 by_cases h4:op=2
 ·subst h4;decide
 by_cases h5:op=11
 ·subst h5;decide
 simp[h1,h2,h3,h4,h5]
theorem Lu:∀(d:Nat) (x:Api_Expr) (n:Nat),d<n→d<1000→TP (CZ n x (d:Int)) fun b=>b=true→wfE d x
  |d,x,0,h,_=>by omega
  | 0,x,n+1,_,_=>by
    show TP (C5 (CZ n) x 0) _
    unfold C5
    exact A0 fun e=>by cases e
  | d + 1,x,n + 1,hn,hd=>by
    show TP (C5 (CZ n) x ((d+1:Nat):Int)) _
    unfold C5
    rw[Q8]
    rw[if_neg (by simp;omega)]
    simp only[A3]
    refine Ca (fun _=>A0 fun e=>by cases e) fun hl=>?_
    have hl':(x.L.length:Int)=(if x.Op<1∨x.Op>11 then -1 else if x.Op=1∨x.Op=2 then 0 else if x.Op=11 then 4 else 2):=by simpa using hl
    have hop:¬(x.Op<1∨x.Op>11):=fun h=>by rw[if_pos h]at hl';omega
    rw[if_neg hop]at hl'
    refine Ca (fun h1=>WM (Ca (fun _=>Pi) fun _=>Pi) fun t=>A0 fun _=>.inl (by simpa using h1)) fun h1=>Ca (fun h2=>?_) fun h2=>?_
    · refine BI (Q:=fun t=>t=true→0≤x.N∧x.N<16) (Ca (fun h3=>A0 fun e=>?_) fun _=>A0 fun e=>by cases e) fun t ht=>A0 fun e=>.inr (.inl ⟨by simpa using h2,ht e⟩)
      simp at h3 e
      exact⟨h3,e⟩
    · have h1':x.Op≠1:=by simpa using h1
      have h2':x.Op≠2:=by simpa using h2
      rw[if_neg (by omega)]at hl'
      have hlen:x.L.length=(if x.Op=11 then 4 else 2):=by
        split at hl'<;>rename_i h11
        · rw[if_pos h11];omega
        · rw[if_neg h11];omega
      have hlt:x.L.length≤4:=by rw[hlen];split<;>omega
      refine BI (Q:=fun z=>(z=.inl ()→∀y∈x.L,wfE d y)∧∀b,z=.inr b→b=false) ?_ fun z hz=>?_
      · refine BI (Q:=fun z=>(z=.inl ()→∀y∈x.L,wfE d y)∧∀b,z=.inr b→b=.inr false) ?_ fun z hz=>?_
        · refine Db (fun v=>∃k:Nat,v=(k:Int)∧k≤x.L.length∧∀y∈x.L.take k,wfE d y) (fun v=>(x.L.length-v).toNat) ?_ ⟨0,rfl,Nat.zero_le _,by simp⟩ (by simp;omega)
          rintro _ ⟨k,rfl,hk,hall⟩
          unfold Ej
          refine Ca (fun h=>?_) fun h=>A0 ⟨fun _=>?_,fun b e=>by cases e⟩
          · have hk':k<x.L.length:=by simpa using h
            refine Je (Ce hk') (Rq (Rq (Rq (Rq ?_))))
            simp only[Int.toNat_natCast]
            rw[HC,show w64 (((d+1:Nat):Int)-1)=(d:Int) by rw[JI (by omega)];omega]
            refine BI (Lu d (nth x.L k) n (by omega) (by omega)) fun b hb=>Ca (fun _=>A0 ⟨fun e=>(by cases e),fun b e=>(by cases e;rfl)⟩) fun hbb=>A0 ⟨⟨k+1,D9 (by omega),hk',?_⟩,by rw[D9 (by omega)];omega⟩
            intro y hy
            rw[List.take_succ_eq_append_getElem hk']at hy
            rcases List.mem_append.1 hy with hy|hy
            · exact hall y hy
            · simp only[List.mem_singleton]at hy
              subst hy
              rw[←Ei hk']
              exact hb (by simpa using hbb)
          · have:k=x.L.length:=by simp at h;omega
            subst this
            rw[List.take_length]at hall
            exact hall
        · cases z with
          |inl u=>exact A0 ⟨fun _=>hz.1 rfl,fun b e=>by cases e⟩
          | inr z=>
            cases z with
            |inl u=>cases hz.2 _ rfl
            |inr b=>exact A0 ⟨fun e=>(by cases e),fun b' e=>by cases e;cases hz.2 _ rfl;rfl⟩
      · cases z with
        |inl u=>exact A0 fun _=>.inr (.inr ⟨by omega,by omega,hlen,hz.1 rfl⟩)
        |inr b=>exact A0 fun e=>by rw[hz.2 b rfl]at e;cases e
theorem V7(x:Api_Expr)(v:Api_Env):TP (E4 x v) fun r=>r.2≠180∧(r.2≠0→r.1=0):=by
 unfold E4
 refine BI (Lu 24 x _ (by omega) (by omega)) fun b hb=>Ca (fun h=>?_) fun _=>A0 ⟨by decide,fun _=>rfl⟩
 refine BI (OK v 24 x _ (hb h) (by omega)) fun r hr=>?_
 cases r with
 |inl n=>exact A0 ⟨show(0:Int)≠180 by decide,fun h=>(h rfl).elim⟩
 |inr e=>exact A0 ⟨hr e rfl,fun _=>rfl⟩
theorem Jw{α:Type}[Inhabited α]{n:Nat}{a:Arr α n}{i j:Nat}{x:α}(hj:j<n):(a.set i x).get j=if i=j then x else a.get j:=by
 have h:j<a.l.length:=by rw[a.h];exact hj
 simp only[Arr.get,Arr.set,nth]
 rw[List.getD_eq_getElem?_getD,List.getElem?_set]
 by_cases e:i=j
 ·subst e;simp[h]
 ·simp[e,List.getD_eq_getElem?_getD]
def CK(lo hi V:Arr Int 16):Prop:=∀a,a<16→lo.get a≤V.get a∧V.get a≤hi.get a
theorem UI{lo hi V:Arr Int 16}{k:Nat}{a b:Int}(hk:k<16):CK (lo.set k (Ph (lo.get k) a)) (hi.set k (QV (hi.get k) b)) V↔CK lo hi V∧(a≤V.get k∧V.get k≤b):=by
 constructor
 ·intro h
  have hk':=h k hk
  rw[Jw hk,Jw hk,if_pos rfl,if_pos rfl]at hk'
  unfold Ph QV at hk'
  refine⟨fun j hj=>?_,by split at hk'<;>split at hk'<;>omega⟩
  by_cases e:k=j
  ·subst e
   split at hk'<;>split at hk'<;>omega
  ·have:=h j hj
   rw[Jw hj,Jw hj,if_neg e,if_neg e]at this
   exact this
 ·rintro⟨h,h1,h2⟩ j hj
  rw[Jw hj,Jw hj]
  by_cases e:k=j
  ·subst e
   rw[if_pos rfl,if_pos rfl]
   have:=h k hk
   unfold Ph QV
   split<;>split<;>omega
  ·rw[if_neg e,if_neg e]
   exact h j hj
def boxAll:Tbox_box:=⟨Arr.rep 16 0,Arr.rep 16 9007199254740992⟩
theorem Abp:tbox_all=some boxAll:=by decide +kernel
theorem Q7{a:Nat}(h:a<16):boxAll.low.get a=0∧boxAll.high.get a=9007199254740992:=by
 have:∀a:Fin 16,boxAll.low.get a.val=0∧boxAll.high.get a.val=9007199254740992:=by decide +kernel
 exact this ⟨a,h⟩
theorem AbL(b:Tbox_box)(t:Api_Test)(h0:0≤t.Attr)(h1:t.Attr<16):EQ b t=some ⟨b.low.set t.Attr.toNat (Ph (b.low.get t.Attr.toNat) t.Low),b.high.set t.Attr.toNat (QV (b.high.get t.Attr.toNat) t.Zc)⟩:=by
 have hi:InR t.Attr 16:=⟨h0,by omega⟩
 unfold EQ
 simp only[if_pos hi,Em]
theorem NT(b c:Tbox_box):TP (Du b c) fun r=>(∀V,CK r.1.low r.1.high V↔CK b.low b.high V∧CK c.low c.high V)∧(r.2=false→∀V,¬(CK b.low b.high V∧CK c.low c.high V)):=by
  unfold Du
  refine BI (Q:=fun q=>(∀V,CK q.2.1 q.2.2 V↔CK b.low b.high V∧CK c.low c.high V)∧(q.1=false→∀V,¬(CK b.low b.high V∧CK c.low c.high V))) ?_ fun q hq=>A0 hq
  refine BI (Q:=fun q=>(∀V,CK q.2.1 q.2.2 V↔CK b.low b.high V∧CK c.low c.high V)∧(q.1=false→∀V,¬(CK b.low b.high V∧CK c.low c.high V))) ?_ fun q hq=>A0 hq
  refine Db (fun v=>∃k:Nat,v.2.1=(k:Int)∧k≤16∧(∀V,CK v.2.2.1 v.2.2.2 V↔CK b.low b.high V∧∀a,a<k→c.low.get a≤V.get a∧V.get a≤c.high.get a)∧(v.1=false→∀V,¬CK v.2.2.1 v.2.2.2 V)) (fun v=>(16-v.2.1).toNat) ?_ ⟨0,rfl,by omega,fun V=>⟨fun h=>⟨h,fun a ha=>by omega⟩,fun h=>h.1⟩,fun e=>by cases e⟩ (by simp)
  rintro⟨s,_,lo,hi⟩ ⟨k,rfl,hk,hV,hs⟩
  simp only at hV hs ⊢
  unfold DB
  refine Ca (fun h=>?_) fun h=>A0 ?_
  · have hk':k<16:=by simp at h;omega
    have hin:InR (k:Int) 16:=Ce hk'
    simp only[if_pos hin,Em,Int.toNat_natCast]
    refine BI (Q:=fun s'=>s'=(s&&decide ((lo.set k (Ph (lo.get k) (c.low.get k))).get k≤(hi.set k (QV (hi.get k) (c.high.get k))).get k))) ?_ fun s' hs'=>A0 ⟨⟨k+1,D9 (by omega),hk',fun V=>?_,fun e V hin=>?_⟩,?_⟩
    · cases s with
      |true=>exact Ca (fun _=>A0 (by simp)) fun h=>(h rfl).elim
      |false=>exact Ca (fun h=>by cases h) fun _=>A0 rfl
    · simp only
      rw[UI hk',hV]
      constructor
      · rintro⟨⟨h1,h2⟩,h3⟩
        refine⟨h1,fun a ha=>?_⟩
        by_cases e:a<k
        · exact h2 a e
        · have:a=k:=by omega
          subst this;exact h3
      · rintro⟨h1,h2⟩
        exact⟨⟨h1,fun a ha=>h2 a (by omega)⟩,h2 k (by omega)⟩
    · simp only at e hin
      rw[hs']at e
      cases s with
      |false=>exact hs rfl V ((UI hk').1 hin).1
      | true=>
        have h1:=hin k hk'
        simp at e
        omega
    · simp only
      rw[D9 (by omega)]
      omega
  · have:k=16:=by simp at h;omega
    subst this
    refine⟨fun V=>(hV V).trans ⟨fun h=>⟨h.1,fun a ha=>h.2 a ha⟩,fun h=>⟨h.1,fun a ha=>h.2 a ha⟩⟩,fun e V hh=>hs e V ((hV V).2 ⟨hh.1,fun a ha=>hh.2 a ha⟩)⟩
def HR(c:Api_Clause)(V:Arr Int 16):Prop:=∀t∈c.Ze,t.Low≤V.get t.Attr.toNat∧V.get t.Attr.toNat≤t.Zc
def Gz(c:Api_Clause):Prop:=∀t∈c.Ze,0≤t.Attr∧t.Attr<16
abbrev OfP(c:Api_Clause)(r:Tbox_box×Bool):Prop:=r.2=true→Gz c∧∀V,CK r.1.low r.1.high V↔CK boxAll.low boxAll.high V∧HR c V
theorem TJ(c : Api_Clause)(hl:c.Ze.length<1000000):TP (Fy c) (OfP c):=by
  unfold Fy
  rw[Abp]
  show TP (((CJ _ _).bind _:Option _).bind _) _
  refine BI (Q:=fun z=>match z with
    |.inl (lo,hi)=>Gz c∧∀V,CK lo hi V↔CK boxAll.low boxAll.high V∧HR c V
    |.inr r=>r.2=false) ?_ fun z hz=>?_
  · refine BI (Q:=fun z=>match z with
      |.inl (lo,hi)=>Gz c∧∀V,CK lo hi V↔CK boxAll.low boxAll.high V∧HR c V
      |.inr (.inl _)=>False
      |.inr (.inr r)=>r.2=false) ?_ fun z hz=>?_
    · refine Db (fun v=>∃k:Nat,v.1=(k:Int)∧k≤c.Ze.length∧(∀t∈c.Ze.take k,0≤t.Attr∧t.Attr<16)∧∀V,CK v.2.1 v.2.2 V↔CK boxAll.low boxAll.high V∧∀t∈c.Ze.take k,t.Low≤V.get t.Attr.toNat∧V.get t.Attr.toNat≤t.Zc) (fun v=>((c.Ze.length:Int)-v.1).toNat) ?_
        ⟨0,rfl,Nat.zero_le _,by simp,fun V=>⟨fun h=>⟨h,by simp⟩,fun h=>h.1⟩⟩ (by simp;omega)
      rintro⟨_,lo,hi⟩ ⟨k,rfl,hk,hA,hV⟩
      simp only at hV ⊢
      unfold H7
      refine Ca (fun h=>?_) fun h=>A0 ?_
      · have hk':k<c.Ze.length:=by simpa using h
        simp only[if_pos (Ce hk'),Em,Int.toNat_natCast]
        generalize ht:nth c.Ze k=t
        have htk:c.Ze.take (k+1)=c.Ze.take k++[t]:=by rw[List.take_succ_eq_append_getElem hk',←Ei hk',ht]
        refine BI (Q:=fun b=>b=false→0≤t.Attr∧t.Attr<16) (Ca (fun _=>A0 fun e=>by cases e) fun h=>A0 fun e=>?_) fun b hb=>Ca (fun h=>A0 rfl) fun h=>?_
        · simp at h e
          omega
        · obtain⟨h0,h1⟩:=hb (by simpa using h)
          rw[AbL _ _ h0 h1]
          refine A0 ⟨⟨k+1,D9 (by omega),hk',?_,fun V=>?_⟩,by simp only;rw[D9 (by omega)];omega⟩
          · intro t' ht'
            rw[htk]at ht'
            rcases List.mem_append.1 ht' with h|h
            · exact hA t' h
            · simp only[List.mem_singleton]at h
              subst h;exact⟨h0,h1⟩
          · simp only
            rw[UI (by omega),hV,htk]
            simp only[List.mem_append,List.mem_singleton]
            constructor
            · rintro⟨⟨a1,a2⟩,a3⟩
              refine⟨a1,fun t' h=>?_⟩
              rcases h with h|rfl
              · exact a2 t' h
              · exact a3
            · rintro⟨a1,a2⟩
              exact⟨⟨a1,fun t' h=>a2 t' (.inl h)⟩,a2 t (.inr rfl)⟩
      · have:k=c.Ze.length:=by simp at h;omega
        subst this
        rw[List.take_length]at hA hV
        exact⟨hA,hV⟩
    · match z,hz with
      |.inl (lo,hi),hz=>exact A0 hz
      |.inr (.inr r),hz=>exact A0 hz
  · match z,hz with
    | .inl (lo,hi),hz=>
      refine BI (NT _ _) fun r hr=>Ca (fun _=>A0 fun _=>⟨hz.1,fun V=>?_⟩) fun _=>A0 fun e=>by cases e
      rw[hr.1]
      exact⟨fun h=>(hz.2 V).1 h.1,fun h=>⟨(hz.2 V).2 h,(hz.2 V).2 h⟩⟩
    |.inr r,hz=>exact A0 fun e=>by rw[hz]at e;cases e
theorem R8(c:Api_Clause):({ Zd:=c.Zd,Ze:=c.Ze,Pay:=Api_Expr.mk c.Pay.Op c.Pay.N c.Pay.Unit c.Pay.L }:Api_Clause)=c:=Sg c
abbrev VC(c:Api_Clause)(r:Tbox_box×Bool):Prop:=Fy c=some r∧OfP c r
theorem Xd(c:Api_Clause)(hl:c.Ze.length<1000000):TP (Fy c) (VC c):=by
 obtain⟨r,e,h⟩:=TJ c hl
 exact⟨r,e,e,h⟩
abbrev LK(t:Api_Tariff):Prop:=t.Zf.length≤64∧∀c∈t.Zf,c.Ze.length<1000000
theorem SD(t:Api_Tariff)(hs:LK t)(l1:List Tbox_box)(l2:List Bool)(h1:l1.length=t.Zf.length)(h2:l2.length=t.Zf.length) :
 TP (CJ (fun(v:Int×List Tbox_box×List Bool)=>Dm t v.1 v.2.1 v.2.2) (0,l1,l2)) fun r=>r.1.length=t.Zf.length∧r.2.length=t.Zf.length∧∀k,k<t.Zf.length→VC (nth t.Zf k) (nth r.1 k,nth r.2 k):=by
 refine Db (fun v=>∃k:Nat,v.1=(k:Int)∧k≤t.Zf.length∧v.2.1.length=t.Zf.length∧v.2.2.length=t.Zf.length∧∀j,j<k→VC (nth t.Zf j) (nth v.2.1 j,nth v.2.2 j)) (fun v=>((t.Zf.length:Int)-v.1).toNat) ?_ ⟨0,rfl,Nat.zero_le _,h1,h2,fun j hj=>by omega⟩ (by have:=hs.1;simp;omega)
 rintro⟨_,m1,m2⟩ ⟨k,rfl,hk,e1,e2,hj⟩
 simp only at e1 e2 hj ⊢
 unfold Dm
 have h64:=hs.1
 refine Ca (fun h=>?_) fun h=>A0 ?_
 ·have hk':k<t.Zf.length:=by simpa using h
  simp only[if_pos (Ce hk'),Em,Int.toNat_natCast,R8]
  refine BI (Xd _ (hs.2 _ (CI hk'))) fun r hr=>Je (Ce (by omega)) (Je (Ce (by omega)) (A0 ⟨⟨k+1,D9 (by omega),hk',by simp[e1],by simp[e2],fun j hj'=>?_⟩,by simp only;rw[D9 (by omega)];omega⟩))
  by_cases e:k=j
  ·subst e
   have q1:nth (m1.set k r.1) k=r.1:=by simp[nth,e1,hk']
   have q2:nth (m2.set k r.2) k=r.2:=by simp[nth,e2,hk']
   rw[q1,q2]
   exact hr
  ·have q1:nth (m1.set k r.1) j=nth m1 j:=by simp[nth,List.getElem?_set,e]
   have q2:nth (m2.set k r.2) j=nth m2 j:=by simp[nth,List.getElem?_set,e]
   rw[q1,q2]
   exact hj j (by omega)
 ·have:k=t.Zf.length:=by simp at h;omega
  subst this
  exact⟨e1,e2,hj⟩
abbrev Q0(l1:List Tbox_box)(l2:List Bool)(i j:Nat):Prop:=nth l2 i=true→nth l2 j=true→∀V,¬(CK (nth l1 i).low (nth l1 i).high V∧CK (nth l1 j).low (nth l1 j).high V)
theorem SR(l1:List Tbox_box)(l2:List Bool)(n:Nat)(hn:n≤64)(e1:l1.length=n)(e2:l2.length=n)(i:Nat)(hi:i<n) :
    TP (CJ (fun(v:Int)=>Dn l1 l2 (i:Int) v) ((i+1:Nat):Int)) fun z=>match z with
      |.inl ()=>∀j,i<j→j<n→Q0 l1 l2 i j
      |.inr (.inr (.inr (.inr (.inr r))))=>r.2.2.2=true
      |_=>False:=by
  refine Db (fun v=>∃k:Nat,v=(k:Int)∧k≤n∧∀j,i<j→j<k→Q0 l1 l2 i j) (fun v=>((n:Int)-v).toNat) ?_ ⟨i+1,rfl,hi,fun j h1 h2=>by omega⟩ (by omega)
  rintro _ ⟨k,rfl,hk,hj⟩
  unfold Dn
  refine Ca (fun h=>?_) fun h=>A0 ?_
  · have hk':k<n:=by simp at h;omega
    refine Je (Ce (by omega)) (Je (Ce (by omega)) (BI (NT _ _) fun r hr=>?_))
    simp only[Int.toNat_natCast]at hr ⊢
    refine BI (Q:=fun b=>b=(r.2&&(nth l2 i&&nth l2 k))) ?_ fun b hb=>?_
    · refine Ca (fun h=>Je (Ce (by omega)) (Ca (fun h'=>Je (Ce (by omega)) (A0 ?_)) fun h'=>A0 ?_)) fun h=>A0 ?_
      · rw[h,h'];simp
      · rw[h,eq_false_of_ne_true h'];simp
      · rw[eq_false_of_ne_true h];simp
    · refine Ca (fun _=>?_) fun hnb=>?_
      · exact A0 rfl
      · refine A0 ⟨⟨k+1,D9 (by omega),hk',fun j h1 h2=>?_⟩,by rw[D9 (by omega)];omega⟩
        by_cases e:j<k
        · exact hj j h1 e
        · have:j=k:=by omega
          subst this
          intro s1 s2 V hV
          have hbf:b=false:=eq_false_of_ne_true hnb
          rw[hb,s1,s2]at hbf
          simp at hbf
          exact hr.2 hbf V hV
  · have:k=n:=by simp at h;omega
    subst this
    exact hj
theorem NW(t : Api_Tariff)(hs:LK t):TP (EO t) fun r=>r.2.2.2=false→∃l1 l2,(∀k,k<t.Zf.length→VC (nth t.Zf k) (nth l1 k,nth l2 k))∧∀i j,i<j→j<t.Zf.length→Q0 l1 l2 i j:=by
  unfold EO
  have h64:=hs.1
  refine Je ⟨by omega,by omega,by unfold maxLen;omega,by unfold FV;omega⟩ (Rq (Je ⟨by omega,by omega,by unfold maxLen;omega,by unfold FV;omega⟩ (Rq ?_)))
  refine BI (Q:=fun r=>r.1.length=t.Zf.length∧r.2.length=t.Zf.length∧∀k,k<t.Zf.length→VC (nth t.Zf k) (nth r.1 k,nth r.2 k)) (BI (SD t hs _ _ (by simp) (by simp)) fun r hr=>A0 hr) ?_
  rintro⟨l1,l2⟩ ⟨e1,e2,hk⟩
  simp only at e1 e2 hk ⊢
  refine BI (Q:=fun z=>match z with
    |.inl ()=>∀i j,i<j→j<t.Zf.length→Q0 l1 l2 i j
    |.inr r=>r.2.2.2=true) ?_ fun z hz=>?_
  · refine BI (Q:=fun z=>match z with
      |.inl ()=>∀i j,i<j→j<t.Zf.length→Q0 l1 l2 i j
      |.inr (.inr r)=>r.2.2.2=true
      |_=>False) ?_ fun z hz=>?_
    · refine Db (fun v=>∃k:Nat,v=(k:Int)∧k≤t.Zf.length∧∀i j,i<k→i<j→j<t.Zf.length→Q0 l1 l2 i j) (fun v=>((t.Zf.length:Int)-v).toNat) ?_ ⟨0,rfl,Nat.zero_le _,fun i j h=>by omega⟩ (by simp;omega)
      rintro _ ⟨k,rfl,hkk,hij⟩
      unfold Ee
      refine Ca (fun h=>?_) fun h=>A0 ?_
      · have hk':k<t.Zf.length:=by simp at h;omega
        rw[D9 (by omega)]
        refine BI (Q:=fun z=>match z with
          |.inl ()=>∀j,k<j→j<t.Zf.length→Q0 l1 l2 k j
          |.inr (.inr (.inr (.inr r)))=>r.2.2.2=true
          |_=>False) (BI (SR l1 l2 _ h64 e1 e2 k hk') fun z hz=>?_) fun z hz=>?_
        · match z,hz with
          |.inl (),hz=>exact A0 hz
          |.inr (.inr (.inr (.inr (.inr r)))),hz=>exact A0 hz
        · match z,hz with
          | .inl (),hz=>
            refine A0 ⟨⟨k+1,rfl,hk',fun i j h1 h2 h3=>?_⟩,by omega⟩
            by_cases e:i<k
            · exact hij i j e h2 h3
            · have:i=k:=by omega
              subst this
              exact hz j h2 h3
          |.inr (.inr (.inr (.inr r))),hz=>exact A0 hz
      · have:k=t.Zf.length:=by simp at h;omega
        subst this
        exact fun i j h1 h2=>hij i j (by omega) h1 h2
    · match z,hz with
      |.inl (),hz=>exact A0 hz
      |.inr (.inr r),hz=>exact A0 hz
  · match z,hz with
    |.inl (),hz=>exact A0 fun _=>⟨l1,l2,hk,hz⟩
    |.inr r,hz=>exact A0 fun e=>by rw[hz]at e;cases e
theorem SJ(t:Api_Tariff)(hs:LK t):TP (Gx t) fun e=>e=0→(∀c∈t.Zf,Gz c)∧∀i j,i<j→j<t.Zf.length→∀V,CK boxAll.low boxAll.high V→¬(HR (nth t.Zf i) V∧HR (nth t.Zf j) V):=by
  unfold Gx
  have h64:=hs.1
  refine BI (Q:=fun z=>match z with
    |.inl ()=>∀c∈t.Zf,∃b,Fy c=some (b,true)
    |.inr e=>e=190) ?_ fun z hz=>?_
  · refine BI (Q:=fun z=>match z with
      |.inl ()=>∀c∈t.Zf,∃b,Fy c=some (b,true)
      |.inr (.inr e)=>e=190
      |_=>False) ?_ fun z hz=>?_
    · refine Db (fun v=>∃k:Nat,v=(k:Int)∧k≤t.Zf.length∧∀c∈t.Zf.take k,∃b,Fy c=some (b,true)) (fun v=>((t.Zf.length:Int)-v).toNat) ?_ ⟨0,rfl,Nat.zero_le _,by simp⟩ (by simp;omega)
      rintro _ ⟨k,rfl,hk,hc⟩
      unfold Fg
      refine Ca (fun h=>?_) fun h=>A0 ?_
      · have hk':k<t.Zf.length:=by simpa using h
        simp only[if_pos (Ce hk'),Em,Int.toNat_natCast,R8]
        obtain⟨r,er,_⟩:=TJ _ (hs.2 _ (CI hk'))
        rw[er]
        refine Ca (fun h=>A0 rfl) fun h=>A0 ⟨⟨k+1,D9 (by omega),hk',fun c hc'=>?_⟩,by rw[D9 (by omega)];omega⟩
        rw[List.take_succ_eq_append_getElem hk',←Ei hk']at hc'
        rcases List.mem_append.1 hc' with h'|h'
        · exact hc c h'
        · simp only[List.mem_singleton]at h'
          subst h'
          have:r.2=true:=by simpa using h
          exact⟨r.1,by rw[er,←this]⟩
      · have:k=t.Zf.length:=by simp at h;omega
        subst this
        rw[List.take_length]at hc
        exact hc
    · match z,hz with
      |.inl (),hz=>exact A0 hz
      |.inr (.inr r),hz=>exact A0 hz
  · match z,hz with
    |.inr e,hz=>exact A0 fun e0=>by rw[hz]at e0;cases e0
    | .inl (),hz=>
      refine BI (NW t hs) fun r hr=>Ca (fun _=>A0 fun e=>by cases e) fun h=>A0 fun _=>?_
      obtain⟨l1,l2,hof,hap⟩:=hr (eq_false_of_ne_true h)
      have key:∀k,k<t.Zf.length→nth l2 k=true∧Gz (nth t.Zf k)∧∀V,CK (nth l1 k).low (nth l1 k).high V↔CK boxAll.low boxAll.high V∧HR (nth t.Zf k) V:=by
        intro k hk
        obtain⟨b,hb⟩:=hz _ (CI hk)
        obtain⟨e,ho⟩:=hof k hk
        rw[hb]at e
        have e2:=congrArg Prod.snd (Option.some.inj e)
        exact⟨e2.symm,ho e2.symm⟩
      refine⟨fun c hc=>?_,fun i j hij hj V hV hh=>?_⟩
      · obtain⟨k,hk,rfl⟩:=List.getElem_of_mem hc
        rw[←Ei hk]
        exact(key k hk).2.1
      · obtain⟨s1,_,i1⟩:=key i (by omega)
        obtain⟨s2,_,i2⟩:=key j hj
        exact hap i j hij hj s1 s2 V ⟨(i1 V).2 ⟨hV,hh.1⟩,(i2 V).2 ⟨hV,hh.2⟩⟩
theorem Yp:∀k:Fin 16,(X8 65535 (Aew 1 ((k.val:Nat):Int))==0)=false:=by decide +kernel
theorem XY{v:Api_Env}(hh:v.Has=65535)(hV:CK boxAll.low boxAll.high v.V){a:Int}(h0:0≤a)(h1:a<16):AO v a=some (.inl (v.V.get a.toNat)):=by
 obtain⟨k,rfl⟩:∃k:Nat,a=(k:Int):=⟨a.toNat,by omega⟩
 have hk:k<16:=by omega
 have hb:=Yp ⟨k,hk⟩
 obtain⟨q1,q2⟩:=hV k hk
 obtain⟨a1,a2⟩:=Q7 hk
 rw[a1]at q1
 rw[a2]at q2
 unfold AO
 rw[hh]
 rw[if_neg (by simp)]
 simp only[A3]
 rw[if_neg (by simp;omega),if_pos (show JE (k:Int)from by unfold JE;omega),if_neg (by rw[hb];simp),if_pos (Ce hk),Em]
 simp only[Int.toNat_natCast]
 rw[if_neg (by simp;omega)]
 simp only[A3]
 rw[if_neg (by simp;omega)]
def Dh(c:Api_Clause)(V:Arr Int 16):Bool:=c.Ze.all fun t=>decide (t.Low≤V.get t.Attr.toNat)&&decide (V.get t.Attr.toNat≤t.Zc)
theorem holdsB_iff{c:Api_Clause}{V:Arr Int 16}:Dh c V=true↔HR c V:=by
 simp[Dh,HR]
theorem QU{c:Api_Clause}{v:Api_Env}(hh:v.Has=65535)(hV:CK boxAll.low boxAll.high v.V)(hA:Gz c)(hl:c.Ze.length<1000000):E3 c v=some (Dh c v.V,0):=by
 have h:=R3 c.Ze (CX v c) (fun t=>decide (t.Low≤v.V.get t.Attr.toNat)&&decide (v.V.get t.Attr.toNat≤t.Zc)) (Sum.inl ()) (Sum.inr (Sum.inr (Sum.inl (false,0)))) (by omega) (fun k hk=>?_) ?_
 ·unfold E3 G2
  rw[LQ h]
  unfold Dh
  by_cases ha:(c.Ze.all fun t=>decide (t.Low≤v.V.get t.Attr.toNat)&&decide (v.V.get t.Attr.toNat≤t.Zc))=true
  ·rw[if_pos ha,ha];rfl
  ·rw[if_neg ha,eq_false_of_ne_true ha];rfl
 ·unfold CX
  rw[if_pos (by simpa using hk),if_pos (Ce hk)]
  simp only[Em,Int.toNat_natCast]
  obtain⟨a0,a1⟩:=hA _ (CI hk)
  rw[XY hh hV a0 a1]
  simp only[A3]
  rw[D9 (by omega)]
  generalize v.V.get (nth c.Ze k).Attr.toNat=n
  generalize nth c.Ze k=t
  by_cases h1:n<t.Low
  ·simp only[h1,decide_true,if_true,A3]
   rw[if_neg (by simp;omega)]
  ·by_cases h2:n>t.Zc
   ·simp only[h1,decide_false,Bool.false_eq_true,if_false,A3,h2,decide_true,if_true]
    rw[if_neg (by simp;omega)]
   ·simp only[h1,decide_false,Bool.false_eq_true,if_false,A3,h2]
    rw[if_pos (by simp;omega)]
 ·unfold CX
  rw[if_neg (by simp)]
def Ade(l:List Api_Clause)(v:Api_Env)(r:Int×Int×Int):Prop :=
 ((∀c∈l,Dh c v.V=false)∧r=(0,0,180)) ∨
 ∃k,k<l.length∧Dh (nth l k) v.V=true∧∃m e,E4 (nth l k).Pay v=some (m,e)∧e≠180∧r=if e=0 then(m,(k:Int),0)else(0,0,e)
theorem KQ{t:Api_Tariff}{v:Api_Env}(hh:v.Has=65535)(hV:CK boxAll.low boxAll.high v.V)(hs:LK t)(hA:∀c∈t.Zf,Gz c):TP (Dj t v) (Ade t.Zf v):=by
  have h64:=hs.1
  unfold Dj
  refine BI (Q:=fun z=>match z with
    |.inl ()=>∀c∈t.Zf,Dh c v.V=false
    |.inr r=>Ade t.Zf v r) ?_ fun z hz=>?_
  · refine BI (Q:=fun z=>match z with
      |.inl ()=>∀c∈t.Zf,Dh c v.V=false
      |.inr (.inr r)=>Ade t.Zf v r
      |_=>False) ?_ fun z hz=>?_
    · refine Db (fun s=>∃k:Nat,s=(k:Int)∧k≤t.Zf.length∧∀c∈t.Zf.take k,Dh c v.V=false) (fun s=>((t.Zf.length:Int)-s).toNat) ?_ ⟨0,rfl,Nat.zero_le _,by simp⟩ (by simp;omega)
      rintro _ ⟨k,rfl,hk,hc⟩
      unfold En
      refine Ca (fun h=>?_) fun h=>A0 ?_
      · have hk':k<t.Zf.length:=by simpa using h
        simp only[if_pos (Ce hk'),Em,Int.toNat_natCast,R8,HC]
        rw[QU hh hV (hA _ (CI hk')) (hs.2 _ (CI hk'))]
        simp only[A3]
        rw[if_neg (by simp)]
        refine Ca (fun h=>A0 ⟨⟨k+1,D9 (by omega),hk',fun c hc'=>?_⟩,by rw[D9 (by omega)];omega⟩) fun h=>?_
        · rw[List.take_succ_eq_append_getElem hk',←Ei hk']at hc'
          rcases List.mem_append.1 hc' with h'|h'
          · exact hc c h'
          · simp only[List.mem_singleton]at h'
            subst h'
            simpa using h
        · have hb:Dh (nth t.Zf k) v.V=true:=by simpa using h
          obtain⟨⟨m,e⟩,he,hne⟩:=V7 (nth t.Zf k).Pay v
          rw[he]
          simp only[A3]
          refine Ca (fun h=>A0 (.inr ⟨k,hk',hb,m,e,he,hne.1,?_⟩)) fun h=>A0 (.inr ⟨k,hk',hb,m,e,he,hne.1,?_⟩)
          · have:e≠0:=by simpa using h
            rw[if_neg this]
          · have:e=0:=by simpa using h
            rw[if_pos this]
      · have:k=t.Zf.length:=by simp at h;omega
        subst this
        rw[List.take_length]at hc
        exact hc
    · match z,hz with
      |.inl (),hz=>exact A0 hz
      |.inr (.inr r),hz=>exact A0 hz
  · match z,hz with
    |.inl (),hz=>exact A0 (.inl ⟨hz,rfl⟩)
    |.inr r,hz=>exact A0 hz
theorem SN(v:Api_Env):TP (CJ (fun(s:Int)=>CC v s) 0) fun z=>match z with
    |.inl ()=>CK boxAll.low boxAll.high v.V
    |.inr (.inr b)=>b=true
    |_=>False:=by
  refine Db (fun s=>∃k:Nat,s=(k:Int)∧k≤16∧∀a,a<k→boxAll.low.get a≤v.V.get a∧v.V.get a≤boxAll.high.get a) (fun s=>(16-s).toNat) ?_ ⟨0,rfl,Nat.zero_le _,fun a h=>by omega⟩ (by simp)
  rintro _ ⟨k,rfl,hk,ha⟩
  unfold CC
  refine Ca (fun h=>?_) fun h=>A0 ?_
  · have hk':k<16:=by simp at h;omega
    simp only[if_pos (Ce hk'),Em,Int.toNat_natCast]
    refine BI (Q:=fun b=>b=false→0≤v.V.get k∧v.V.get k≤9007199254740992) (Ca (fun _=>A0 fun e=>by cases e) fun h=>A0 fun e=>?_) fun b hb=>Ca (fun _=>A0 rfl) fun hnb=>A0 ⟨⟨k+1,D9 (by omega),hk',fun a haa=>?_⟩,by rw[D9 (by omega)];omega⟩
    · simp at h e
      omega
    · by_cases e:a<k
      · exact ha a e
      · have:a=k:=by omega
        subst this
        rw[(Q7 hk').1,(Q7 hk').2]
        exact hb (eq_false_of_ne_true hnb)
  · have:k=16:=by simp at h;omega
    subst this
    exact ha
theorem TZ{y:Api_Tariff×Int×Int}{v:Api_Env}(hh:v.Has=65535)(hV:CK boxAll.low boxAll.high v.V)(hs:LK y.1)(hA:∀c∈y.1.Zf,Gz c)
    (hap:∀i j,i<j→j<y.1.Zf.length→¬(Dh (nth y.1.Zf i) v.V=true∧Dh (nth y.1.Zf j) v.V=true)) :
    TP (CJ (fun(s:Int×Int)=>CF v y s.1 s.2) (0,0)) fun z=>match z with
      |.inl n=>(n=0∧∀j,j<y.1.Zf.length→Dh (nth y.1.Zf j) v.V=false)∨(n=1∧∃j,j<y.1.Zf.length∧Dh (nth y.1.Zf j) v.V=true)
      |_=>False:=by
  have h64:=hs.1
  refine Db (fun s=>∃k:Nat,s.2=(k:Int)∧k≤y.1.Zf.length∧((s.1=0∧∀j,j<k→Dh (nth y.1.Zf j) v.V=false)∨(s.1=1∧∃j,j<k∧Dh (nth y.1.Zf j) v.V=true))) (fun s=>((y.1.Zf.length:Int)-s.2).toNat) ?_ ⟨0,rfl,Nat.zero_le _,.inl ⟨rfl,fun j h=>by omega⟩⟩ (by simp;omega)
  rintro⟨n,_⟩ ⟨k,rfl,hk,hn⟩
  simp only at hn ⊢
  unfold CF
  refine Ca (fun h=>?_) fun h=>A0 ?_
  · have hk':k<y.1.Zf.length:=by simpa using h
    simp only[if_pos (Ce hk'),Em,Int.toNat_natCast,R8]
    rw[QU hh hV (hA _ (CI hk')) (hs.2 _ (CI hk'))]
    simp only[A3]
    rw[if_neg (by simp)]
    by_cases hb:Dh (nth y.1.Zf k) v.V=true
    · rw[if_pos hb]
      rcases hn with⟨rfl,hn⟩|⟨_,j,hj,hjb⟩
      · refine A0 ⟨⟨k+1,D9 (by omega),hk',.inr ⟨rfl,k,by omega,hb⟩⟩,?_⟩
        simp only
        rw[D9 (by omega)];omega
      · exact(hap j k hj hk' ⟨hjb,hb⟩).elim
    · rw[if_neg hb]
      refine A0 ⟨⟨k+1,D9 (by omega),hk',?_⟩,by simp only;rw[D9 (by omega)];omega⟩
      rcases hn with⟨rfl,hn⟩|⟨rfl,j,hj,hjb⟩
      · refine .inl ⟨rfl,fun j hj=>?_⟩
        by_cases e:j<k
        · exact hn j e
        · have:j=k:=by omega
          subst this
          exact eq_false_of_ne_true hb
      · exact .inr ⟨rfl,j,by omega,hjb⟩
  · have:k=y.1.Zf.length:=by simp at h;omega
    subst this
    exact hn
theorem AaO(src:List UInt8)(v:Api_Env)(front:Int)(hsane:top_tariffSane=some true)(hp:src.length≤600→TP (Dk src) fun y=>LK y.1):Da src v front=some true:=by
  have key:TP (Da src v front) fun b=>b=true:=by
    unfold Da
    rw[hsane]
    simp only[A3]
    rw[if_neg (by decide)]
    refine Ca (fun _=>A0 rfl) fun hlen=>?_
    refine BI (hp (by simp at hlen;omega)) fun y hs=>?_
    have h64:y.1.Zf.length≤64:=hs.1
    refine BI (Q:=fun b=>b=false→(∀c∈y.1.Zf,Gz c)∧(∀i j,i<j→j<y.1.Zf.length→∀V,CK boxAll.low boxAll.high V→¬(HR (nth y.1.Zf i) V∧HR (nth y.1.Zf j) V))∧0≤front∧front<(y.1.Zf.length:Int)∧v.Has=65535) ?_ fun b hb=>Ca (fun _=>A0 rfl) fun hnb=>?_
    · refine Ca (fun _=>A0 fun e=>by cases e) fun _=>BI (SJ y.1 hs) fun e he=>Ca (fun _=>A0 fun e=>by cases e) fun h0=>Ca (fun _=>A0 fun e=>by cases e) fun _=>Ca (fun _=>A0 fun e=>by cases e) fun h1=>Ca (fun _=>A0 fun e=>by cases e) fun h2=>A0 fun h3=>?_
      obtain⟨c1,c2⟩:=he (by simpa using h0)
      refine⟨c1,c2,by simpa using h1,by simp at h2;omega,by simpa using h3⟩
    · obtain⟨hA,hap,hf0,hf1,hh⟩:=hb (eq_false_of_ne_true hnb)
      obtain⟨f,rfl⟩:∃f:Nat,front=(f:Int):=⟨front.toNat,by omega⟩
      have hf:f<y.1.Zf.length:=by omega
      refine BI (Q:=fun z=>match z with
        |.inl ()=>CK boxAll.low boxAll.high v.V
        |.inr b=>b=true) (BI (SN v) fun z hz=>?_) fun z hz=>?_
      · match z,hz with
        |.inl (),hz=>exact A0 hz
        |.inr (.inr b),hz=>exact A0 hz
      match z,hz with
      |.inr b,hz=>exact A0 hz
      |.inl (),hV=>
      have hap':∀i j,i<j→j<y.1.Zf.length→¬(Dh (nth y.1.Zf i) v.V=true∧Dh (nth y.1.Zf j) v.V=true):=fun i j h1 h2 h3=>hap i j h1 h2 v.V hV ⟨holdsB_iff.1 h3.1,holdsB_iff.1 h3.2⟩
      refine BI (Q:=fun z=>match z with
        |.inl n=>(n=0∧∀j,j<y.1.Zf.length→Dh (nth y.1.Zf j) v.V=false)∨(n=1∧∃j,j<y.1.Zf.length∧Dh (nth y.1.Zf j) v.V=true)
        |.inr b=>False) (BI (TZ hh hV hs hA hap') fun z hz=>?_) fun z hz=>?_
      · match z,hz with
        |.inl n,hz=>exact A0 hz
      match z,hz with
      |.inl n,hn=>
      simp only[if_pos (Ce hf),if_pos (OJ (Nat.le_of_lt hf)),Int.toNat_natCast,D9 (show f<9223372036854775807 by omega),if_pos (OJ (show f+1≤y.1.Zf.length from hf)),Em]
      refine Je ⟨by unfold maxLen;simp;omega,by unfold FV;simp;omega⟩ (Je ⟨by unfold maxLen;simp;omega,by unfold FV;simp;omega⟩ ?_)
      have etk:(y.1.Zf.drop (f+1)).take (y.1.Zf.length-(f+1))=y.1.Zf.drop (f+1):=List.take_of_length_le (by simp)
      rw[etk]
      generalize hu:[nth y.1.Zf f]++y.1.Zf.take f++y.1.Zf.drop (f+1)=us
      have hlu:us.length=y.1.Zf.length:=by rw[←hu];simp;omega
      have hmem:∀c,c∈us↔c∈y.1.Zf:=by
        intro c
        have e:y.1.Zf=y.1.Zf.take f++nth y.1.Zf f::y.1.Zf.drop (f+1):=by
          rw[Ei hf,←List.drop_eq_getElem_cons hf,List.take_append_drop]
        rw[←hu]
        conv=>rhs;rw[e]
        simp only[List.mem_append,List.mem_cons,List.mem_singleton]
        constructor
        · rintro((h|h)|h)
          · exact .inr (.inl (by simpa using h))
          · exact .inl h
          · exact .inr (.inr h)
        · rintro(h|h|h)
          · exact .inl (.inr h)
          · exact .inl (.inl (by simpa using h))
          · exact .inr h
      have hsu:LK ⟨y.1.Zd,y.1.For,us⟩:=⟨by show us.length≤64;omega,fun c hc=>hs.2 c ((hmem c).1 hc)⟩
      refine BI (KQ hh hV hs hA) fun r1 h1=>BI (KQ (t:=⟨y.1.Zd,y.1.For,us⟩) hh hV hsu fun c hc=>hA c ((hmem c).1 hc)) fun r2 h2=>?_
      have hno:(∀j,j<y.1.Zf.length→Dh (nth y.1.Zf j) v.V=false)↔∀c∈y.1.Zf,Dh c v.V=false:=by
        constructor
        · intro h c hc
          obtain⟨k,hk,rfl⟩:=List.getElem_of_mem hc
          rw[←Ei hk]
          exact h k hk
        · intro h j hj
          exact h _ (CI hj)
      rcases hn with⟨rfl,hn⟩|⟨rfl,j,hj,hjb⟩
      · have hn':=hno.1 hn
        have e1:r1=(0,0,180):=by
          rcases h1 with⟨_,h1⟩|⟨k,hk,hb,_⟩
          · exact h1
          · rw[hn' _ (CI hk)]at hb;cases hb
        have e2:r2=(0,0,180):=by
          rcases h2 with⟨_,h2⟩|⟨k,hk,hb,_⟩
          · exact h2
          · rw[hn' _ ((hmem _).1 (CI hk))]at hb;cases hb
        rw[e1,e2]
        exact A0 rfl
      · rcases h1 with⟨h1,_⟩|⟨k,hk,hb,m,e,he,hne,e1⟩
        · rw[h1 _ (CI hj)]at hjb;cases hjb
        rcases h2 with⟨h2,_⟩|⟨k',hk',hb',m',e',he',_,e2⟩
        · have:=h2 _ ((hmem _).2 (CI hj))
          rw[this]at hjb;cases hjb
        have hk'':k'<us.length:=hk'
        have hsame:nth us k'=nth y.1.Zf k:=by
          obtain⟨i,hi,ei⟩:=List.getElem_of_mem ((hmem _).1 (CI hk''))
          have hbi:Dh (nth y.1.Zf i) v.V=true:=by
            rw[Ei hi,ei];exact hb'
          have:i=k:=by
            rcases Nat.lt_trichotomy i k with h|h|h
            · exact(hap' i k h hk ⟨hbi,hb⟩).elim
            · exact h
            · exact(hap' k i h hi ⟨hb,hbi⟩).elim
          subst this
          rw[Ei hi,ei]
        have he2:E4 (nth us k').Pay v=some (m',e'):=he'
        rw[hsame,he]at he2
        obtain⟨rfl,rfl⟩:=Prod.mk.inj (Option.some.inj he2)
        have b1:((1:Int)==0)=false:=rfl
        have b2:(e==180)=false:=by simpa using hne
        by_cases h0:e=0
        · subst h0
          rw[if_pos rfl]at e1 e2
          rw[e1,e2]
          simp only[A3]
          have z1:InR (k:Int) y.1.Zf.length:=Ce hk
          have z2:InR (k':Int) us.length:=Ce hk''
          have z3:((k:Int)<(y.1.Zf.length:Int)):=by omega
          have z4:((k':Int)<(us.length:Int)):=by omega
          have z5:((k:Int)≥0):=by omega
          have z6:((k':Int)≥0):=by omega
          refine⟨true,?_,rfl⟩
          simp[z1,z2,z3,z4,hsame]
        · rw[if_neg h0]at e1 e2
          rw[e1,e2]
          refine⟨true,?_,rfl⟩
          simp[b2,h0]
  obtain⟨b,e,rfl⟩:=key
  exact e
theorem TE(p : Ps)(before:Int):TP (Cv p before) fun r=>∀t q,r=.inl (t,q)→q.l.length<p.l.length∧before≠8:=by
  unfold Cv
  rw[J6]
  simp only[A3]
  rw[MM p JT (by decide)]
  simp only[A3]
  cases hm:OZ p Hf with
  |inr e=>exact A0 fun t q h=>by cases h
  | inl a =>
    obtain⟨i,q⟩:=a
    obtain⟨h1,_⟩:=IQ hm
    simp only
    refine Ca (fun _=>A0 fun t q h=>by cases h) fun hb=>?_
    have hb':before≠8:=by simpa using hb
    rw[Dq]
    simp only[A3]
    refine Ca (fun h=>?_) fun h=>?_
    · have h2:=HW h
      rw[HL]
      simp only[A3]
      cases hi:XD (KB q [105,115]).2 with
      |inr e=>exact A0 fun t q h=>by cases h
      | inl a=>
        obtain⟨n,q2⟩:=a
        have h3:=Kk hi
        refine A0 fun t q' hh=>?_
        cases hh
        exact⟨by simp only;omega,hb'⟩
    · rw[JX h,Do]
      simp only[A3]
      cases he:PL q [105,110]with
      |inr e=>exact A0 fun t q h=>by cases h
      | inl q1=>
        have h2:=EH he
        simp only[HL,A3]
        cases hi:XD q1 with
        |inr e=>exact A0 fun t q h=>by cases h
        | inl a=>
          obtain⟨n,q2⟩:=a
          have h3:=Kk hi
          simp only[Do,A3]
          cases he2:PL q2 [46,46]with
          |inr e=>exact A0 fun t q h=>by cases h
          | inl q3=>
            have h4:=EH he2
            simp only[HL,A3]
            cases hi2:XD q3 with
            |inr e=>exact A0 fun t q h=>by cases h
            | inl a=>
              obtain⟨n2,q4⟩:=a
              have h5:=Kk hi2
              refine A0 fun t q' hh=>?_
              cases hh
              exact⟨by simp only;omega,hb'⟩
theorem WL{α:Type}{p:α→Bool}{l:List α}{k:Nat}(h:k<l.length):(l.take (k+1)).any p=((l.take k).any p||p l[k]):=by
 rw[List.take_succ_eq_append_getElem h,List.any_append,List.any_cons,List.any_nil,Bool.or_false]
theorem MX(s:List Api_Clause)(f:Api_Clause)(hs:s.length<1000000):TP (AM s f) fun y=>y.1=(s.any fun b=>b.Zd==f.Zd)∧y.2.Zd=f.Zd:=by
  unfold AM
  refine BI (Q:=fun y=>(decide (y.1≥0)=s.any fun b=>b.Zd==f.Zd)∧y.2.Zd=f.Zd) ?_ fun y hy=>A0 hy
  unfold B3
  refine BI (Q:=fun z=>match z with
    |.inl z=>(s.any fun b=>b.Zd==f.Zd)=false∧z.1=f.Zd
    |.inr y=>(decide (y.1≥0)=s.any fun b=>b.Zd==f.Zd)∧y.2.Zd=f.Zd) ?_ fun z hz=>?_
  · refine BI (Q:=fun z=>match z with
      |.inl z=>(s.any fun b=>b.Zd==f.Zd)=false∧z.1=f.Zd
      |.inr (.inr y)=>(decide (y.1≥0)=s.any fun b=>b.Zd==f.Zd)∧y.2.Zd=f.Zd
      |_=>False) ?_ fun z hz=>?_
    · refine Db (fun v=>v.2.1=f.Zd∧∃k:Nat,v.1=(k:Int)∧k≤s.length∧((s.take k).any fun b=>b.Zd==f.Zd)=false) (fun v=>((s.length:Int)-v.1).toNat) ?_ ⟨rfl,0,rfl,Nat.zero_le _,rfl⟩ (by simp;omega)
      rintro⟨_,n,a,b,c⟩ ⟨hn,k,rfl,hk,ha⟩
      simp only at hn ⊢
      subst hn
      unfold Bl
      refine Ca (fun h=>?_) fun h=>A0 ?_
      · have hk':k<s.length:=by simpa using h
        simp only[if_pos (Ce hk'),Int.toNat_natCast,Ch,A3]
        refine Ca (fun hb=>A0 ⟨?_,rfl⟩) fun hb=>A0 ⟨⟨rfl,k+1,D9 (by omega),hk',?_⟩,by simp only;rw[D9 (by omega)];omega⟩
        · have:(s.any fun b=>b.Zd==f.Zd)=true:=List.any_eq_true.2 ⟨_,CI hk',hb⟩
          rw[this]
          simp
        · rw[WL hk',ha,←Ei hk']
          simpa using hb
      · have:k=s.length:=by simp at h;omega
        subst this
        rw[List.take_length]at ha
        exact⟨ha,rfl⟩
    · match z,hz with
      |.inl z,hz=>exact A0 hz
      |.inr (.inr z),hz=>exact A0 hz
  · match z,hz with
    |.inl (a,b,c,d),hz=>exact A0 ⟨by rw[hz.1];rfl,hz.2⟩
    |.inr z,hz=>exact A0 hz
theorem Q4(p : Ps)(before:List Api_Clause)(hp:p.l.length<900000)(hb:before.length<1000000):TP (BM p before) fun r=>∀c q,r=.inl (c,q)→q.l.length<p.l.length∧c.Ze.length≤8:=by
  unfold BM
  rw[J6]
  simp only[A3,TS]
  cases hn:Sn p with
  |inr e=>exact A0 fun c q h=>by cases h
  | inl a =>
    obtain⟨nm,q0⟩:=a
    have h0:=NP hn
    simp only
    refine BI (MX before _ hb) fun y hy=>Ca (fun _=>A0 fun c q h=>by cases h) fun _=>?_
    refine BI (Q:=fun z=>match z with
      |.inl z=>z.1.length≤q0.l.length∧z.2.2.length≤8
      |.inr (.inl _)=>False
      |.inr (.inr _)=>True) ?_ fun z hz=>?_
    · rw[Dq]
      simp only[A3]
      refine BI (Q:=fun z=>match z with
        |.inl z=>z.1.length≤q0.l.length∧z.2.2.length≤8
        |.inr (.inr (.inr _))=>True
        |_=>False) ?_ fun z hz=>?_
      · refine Db (fun v=>v.2.1.length≤q0.l.length∧v.2.2.2.length≤8) (fun v=>v.2.1.length+(if v.1=true then 1 else 0)) ?_ ⟨Lc,by simp⟩ ?_
        · rintro⟨more,l,e,ts⟩ ⟨hl,ht⟩
          simp only at hl ht ⊢
          unfold BP
          refine Ca (fun hm=>?_) fun hm=>A0 ⟨hl,ht⟩
          refine BI (TE _ _) fun r hr=>?_
          cases r with
          |inr e=>exact A0 trivial
          | inl a=>
            obtain⟨t,q⟩:=a
            obtain⟨r1,r2⟩:=hr t q rfl
            have r1':q.l.length<l.length:=r1
            have hlt:ts.length<8:=by omega
            refine Je ⟨by unfold maxLen;omega,by unfold FV;omega⟩ (Rq ?_)
            rw[Dq]
            simp only[A3]
            refine A0 ⟨⟨?_,by simp only[List.length_append,List.length_singleton];omega⟩,?_⟩
            · have:=Lc (p:=q) (s:=[97,110,100])
              simp only;omega
            · simp only
              rw[if_pos hm]
              by_cases ha:(KB q [97,110,100]).1=true
              · have:=HW ha
                rw[if_pos ha];omega
              · rw[if_neg ha,JX ha];omega
        · have:=Lc (p:=q0) (s:=[119,104,101,110])
          simp only
          split<;>omega
      · match z,hz with
        |.inl z,hz=>exact A0 hz
        |.inr (.inr (.inr z)),hz=>exact A0 hz
    · match z,hz with
      |.inr (.inr z),hz=>exact A0 fun c q h=>by cases h
      | .inl (l,e,ts),hz=>
        obtain⟨hl,ht⟩:=hz
        simp only at hl ht ⊢
        rw[Do]
        simp only[A3]
        cases he:PL ⟨l,e⟩ [112,97,121]with
        |inr e=>exact A0 fun c q h=>by cases h
        | inl q1=>
          have h1:=EH he
          have h1':q1.l.length+1=l.length:=h1
          simp only[J6,A3]
          refine BI (Xc q1 (by omega)) fun r hr=>?_
          cases r with
          |inr e=>exact A0 fun c q h=>by cases h
          | inl a=>
            obtain⟨x,q2⟩:=a
            obtain⟨r1,r2⟩:=hr x q2 rfl
            simp only
            refine BI (JC _ x _ r2 (by omega) (by omega)) fun k hk=>Ca (fun _=>A0 fun c q h=>by cases h) fun _=>?_
            rw[Do]
            simp only[A3]
            cases he2:PL q2 [59]with
            |inr e=>exact A0 fun c q h=>by cases h
            | inl q3=>
              have h2:=EH he2
              refine A0 fun c q h=>?_
              cases h
              exact⟨by omega,ht⟩
theorem TC(toks:List Api_Token)(e:Int)(at0:Int)(h:toks.length<900000):TP (CJ (fun(v:Int×List Api_Token×Int×List Api_Clause)=>Di v.1 v.2.1 v.2.2.1 v.2.2.2) (at0,toks,e,[])) fun z=>match z with
    |.inl z=>z.2.2.length≤64∧(∀c∈z.2.2,c.Ze.length≤8)∧z.1.length<900000
    |.inr (.inr y)=>y.1.Zf=[]
    |_=>False:=by
  refine Db (fun v=>v.2.1.length<900000∧v.2.2.2.length≤64∧∀c∈v.2.2.2,c.Ze.length≤8) (fun v=>v.2.1.length) ?_ ⟨h,by simp,by simp⟩ (by simp only;omega)
  rintro⟨a,l,e,cs⟩ ⟨hl,hc,hw⟩
  simp only at hl hc hw ⊢
  unfold Di
  rw[Dq]
  simp only[A3]
  refine Ca (fun ha=>?_) fun ha=>A0 ⟨hc,hw,?_⟩
  · have h1:=HW ha
    have h1':(KB ⟨l,e⟩ [99,108,97,117,115,101]).2.l.length+1=l.length:=h1
    refine Ca (fun _=>A0 rfl) fun h64=>?_
    have hc':cs.length≠64:=by
      intro e0;rw[e0]at h64;exact h64 rfl
    refine BI (Q4 _ cs (by omega) (by omega)) fun r hr=>?_
    cases r with
    |inr e=>exact A0 rfl
    | inl b=>
      obtain⟨c,q⟩:=b
      obtain⟨r1,r2⟩:=hr c q rfl
      refine Je ⟨by unfold maxLen;omega,by unfold FV;omega⟩ (Rq ?_)
      rw[J6]
      simp only[A3]
      refine A0 ⟨⟨by simp only;omega,by simp only[List.length_append,List.length_singleton];omega,fun c' hc'=>?_⟩,by simp only;omega⟩
      simp only at hc'
      rcases List.mem_append.1 hc' with hh|hh
      · exact hw c' hh
      · simp only[List.mem_singleton]at hh
        subst hh;exact r2
  · have:=Lc (p:=⟨l,e⟩) (s:=[99,108,97,117,115,101])
    have h1':(KB ⟨l,e⟩ [99,108,97,117,115,101]).2.l.length≤l.length:=this
    simp only
    omega
theorem Ek{y:Api_Tariff}(h:y.Zf=[]):LK y:=⟨by rw[h];simp,by rw[h];simp⟩
theorem SA(src : List UInt8)(hs:src.length≤2000):TP (Dk src) fun y=>LK y.1:=by
  obtain⟨l,e,ht⟩:=Rt.total src.length src false 0 (Nat.le_refl _)
  have htok:=U7 ht hs
  have hlen:=ht.len
  unfold Dk
  have key:∀r,C2 src=some r→LK r.1:=by
    intro r hr
    unfold C2 at hr
    rw[htok]at hr
    simp only[A3]at hr
    split at hr
    · cases hr;exact Ek rfl
    · cases hr
  cases he:C2 src with
  |some r=>exact A0 (key r he)
  | none=>
    have he':¬((res l e).2.2 != 0)=true:=by
      intro hc
      unfold C2 at he
      rw[htok]at he
      simp only[A3]at he
      rw[if_pos hc]at he
      cases he
    have hl:(res l e).1.length<900000:=by
      cases e with
      |none=>show l.length<_;omega
      |some q=>show([]:List Api_Token).length<_;simp
    show TP (DA src) _
    unfold DA
    rw[htok]
    simp only[A3]
    rw[if_neg he',Do]
    simp only[A3]
    cases h1:PL ⟨(res l e).1,(src.length:Int)⟩ [116,97,114,105,102,102]with
    |inr e=>exact A0 (Ek rfl)
    | inl q1=>
      have g1:=EH h1
      have g1':q1.l.length+1=(res l e).1.length:=g1
      simp only[TS,A3]
      cases h2:Sn q1 with
      |inr e=>exact A0 (Ek rfl)
      | inl a =>
        obtain⟨nm,q2⟩:=a
        have g2:=NP h2
        simp only[Do,A3]
        cases h3:PL q2 [102,111,114]with
        |inr e=>exact A0 (Ek rfl)
        | inl q3=>
          have g3:=EH h3
          simp only
          rw[MM q3 ZO (by decide)]
          simp only[A3]
          cases h4:OZ q3 UW with
          |inr e=>exact A0 (Ek rfl)
          | inl a =>
            obtain⟨i,q4⟩:=a
            have g4:=IQ h4
            simp only[Do,A3]
            cases h5:PL q4 [123]with
            |inr e=>exact A0 (Ek rfl)
            | inl q5=>
              have g5:=EH h5
              simp only[J6,A3]
              refine BI (Q:=fun z=>match z with
                |.inl z=>z.2.2.length≤64∧(∀c∈z.2.2,c.Ze.length≤8)∧z.1.length<900000
                |.inr y=>y.1.Zf=[]) (BI (TC q5.l q5.end_ _ (by omega)) fun z hz=>?_) fun z hz=>?_
              · match z,hz with
                |.inl z,hz=>exact A0 hz
                |.inr (.inr z),hz=>exact A0 hz
              · match z,hz with
                |.inr z,hz=>exact A0 (Ek hz)
                | .inl (l6,e6,cs),hz=>
                  simp only[Do,A3]
                  cases h6:PL ⟨l6,e6⟩ [125]with
                  |inr e=>exact A0 (Ek rfl)
                  | inl q7=>
                    simp only
                    refine BI (Q:=fun z=>match z with
                      |.inl ()=>True
                      |.inr y=>y.1.Zf=[]) (Ca (fun _=>?_) fun _=>A0 trivial) fun z hz'=>?_
                    · rw[IC]
                      exact A0 rfl
                    · match z,hz' with
                      |.inl (),_=>exact A0 ⟨hz.1,fun c hc=>by have:=hz.2.1 c hc;omega⟩
                      |.inr z,hz'=>exact A0 (Ek hz')
theorem YO:top_tariffSane=some true:=by decide +kernel
theorem Qo(src:List UInt8)(v:Api_Env)(front:Int):Da src v front=some true :=
 AaO src v front YO fun h=>SA src (by omega)
end Go.Proofs.YtldngkmkhfddpaaDoor
