/-
  Part 44.
-/
import Derived.Test.YtioapcamanmoiaaDoorRows
import Derived.Test.YtioapcamanmoiaaDoorYF26
import Derived.Test.YtioapcamanmoiaaDoorYF29
import Derived.Test.YtioapcamanmoiaaDoorYF39
import Derived.Test.YtioapcamanmoiaaDoorYF43
import Derived.WalkKit
import Derived.ProofKit
import Derived.OpenShut
import Derived.JoinedCond
import Derived.LaidMore
import Derived.Lay
import Derived.SevenTiedAt
import Derived.Stop.Joined
import Derived.Lib.Tables
import Derived.KernelRfl
namespace Go.Proofs.YtioapcamanmoiaaDoor
open Go.Rv Go.ChangeShapes Go.WideShapes Go.ChangeAt Go.RowKit
set_option linter.unusedVariables false
set_option linter.unusedSimpArgs false
theorem TA(H:Type)(l:List (DataW H)):(l.map (Rows.uptoBulk (H:=H))).sum=Rows.uptoBulkAll l:=by
 induction l with
 |nil=>rfl
 |cons x l ih=>simp only[Al6,List.sum_cons,ih,Rows.uptoBulkAll]
theorem AQ:BulkOk (fun H=>Rows.uptoBulk (H:=H)) where
 one:=fun H d=>by
  cases d with
  |lit l=>cases l<;>simp[Rows.uptoBulk]
  |_=>simp[Rows.uptoBulk]
 str:=fun H l=>by simp[Rows.uptoBulk]
 slice:=fun H e s=>by rw[TA];simp only[Rows.uptoBulk];omega
 agg:=fun H p=>by rw[TA];simp only[Rows.uptoBulk];omega
theorem V0{P:Program}{B:∀H:Type,DataW H→Nat}{t:TypeId}{α:Type}{c:α→List AV}{sz sz':α→Nat}{ok ok':α→Prop}(h:Opens P B t c sz ok)(h1:∀x,sz' x≤sz x)(h2:∀x,ok x→ok' x):Opens P B t c sz' ok':=by
 intro H enc W pr hpr fuel cs d ps hd;obtain⟨x,e1,e2,e3,e4⟩:=h H enc W pr hpr fuel cs d ps hd;exact⟨x,e1,Amm (h1 x) e2,h2 x e3,e4⟩
theorem JE{α:Type}{c:α→List AV}{k:Nat}(hk:∀x,(c x).length=k):∀(l:List α) (j:Nat) (y:AV),(l.flatMap c)[j]?=some y→∃i r x,j=i*k+r∧r<k∧l[i]?=some x∧(c x)[r]?=some y:=by
  intro l
  induction l with
  |nil=>intro j y h;simp at h
  | cons a l ih=>
    intro j y h;rw[List.flatMap_cons]at h;by_cases hj:j<k
    · rw[AkW (by rw[hk];exact hj)]at h
      exact⟨0,j,a,by omega,hj,rfl,h⟩
    · rw[AkU (by rw[hk];omega),hk]at h
      obtain⟨i,r,x,e1,e2,e3,e4⟩:=ih _ _ h;exact⟨i+1,r,x,by rw[Alf,Aly];omega,e2,by simpa using e3,e4⟩
theorem U2{α:Type}{c:α→List AV}{k:Nat}(hk:∀x,(c x).length=k):∀l:List α,(l.flatMap c).length=l.length*k:=by
 intro l
 induction l with
 |nil=>simp
 |cons a l ih=>rw[List.flatMap_cons,Ala,hk,ih,Alb,Alf,Aly,Nat.add_comm]
theorem Y5{α:Type}{c:α→List AV}{k n:Nat}(hk:∀x,(c x).length=k)(a:Arr α n):(a.l.flatMap c).length=n*k:=by rw[U2 hk,a.h]
theorem V9{P:Program}{B:∀H:Type,DataW H→Nat}{t e:TypeId}{n k m:Nat}(ht:P.underlying t=some (.array n e))(hn:P.cellsOf t=m)(h1:P.cellsOf e=k){α:Type}{c:α→List AV}{sz:α→Nat}{ok:α→Prop}(hck:∀x,(c x).length=k) (he:Opens P B e c sz ok) (hm:m=n*k:=by decide):Opens P B t (fun a:Arr α n=>a.l.flatMap c) (fun _=>0) (fun _=>True):=by
  subst hm;intro H enc W pr hpr fuel cs d ps h;cases fuel with
  |zero=>cases h
  | succ fuel=>
    unfold DataW.trod at h;rw[ht]at h;split at h<;>try (rename_i hh;cases hh;done)
    all_goals try (rename_i hh _;cases hh;done)
    all_goals try (cases h;done)
    all_goals try (exfalso;rename ∀(n':Nat) (e':TypeId),some (TypeDesc.array n e)=some (TypeDesc.array n' e')→False=>hh;exact hh _ _ rfl)
    rename_i cs _ _ n' e' hk;cases hk;split at h
    case isFalse=>cases h
    rename_i hl;rw[hn]at hl;rw[AkO]at h;obtain⟨xs,hxs,h⟩:=h;simp only[AkX]at h;obtain⟨rfl,_⟩:=h;obtain⟨hlen,hget⟩:=JL hxs;rw[AmP]at hlen
    have hex:∀i,i<n→∃x:α,∀(r:Nat) (y:AV),r<k→(c x)[r]?=some y→Rep W pr [] (cs.getD (i*k+r) undef) y∧one (cs.getD (i*k+r) undef)=true:=by
      intro i hi;obtain⟨i',hi',hf⟩:=hget i (xs[i]'(by omega)) (AkR _);rw[Al5 hi]at hi';cases hi';rw[h1]at hf;obtain⟨x,r1,r2,r3,r4⟩:=he H enc W pr hpr fuel _ _ _ hf;refine⟨x,fun r y hr hy=>?_⟩;have:=r4 r y hy
      have ed:((cs.drop (i*k)).take k).getD r undef=cs.getD (i*k+r) undef:=by
        simp only[Ak1,Alg,Alh,hr,Amq]
      rwa[ed]at this
    obtain⟨l,hll,hl2⟩:=Hk _ n hex;refine⟨⟨l,hll⟩,?_,Ali _,trivial,fun j y hj=>?_⟩
    · show cs.length=(l.flatMap c).length
      rw[U2 hck,hll,hl]
    · obtain⟨i,r,x,e1,e2,e3,e4⟩:=JE hck l j y hj
      subst e1;exact hl2 i x e3 r y e2 e4
theorem Se:Tryd.prog.cellsOf 40=2:=by kernel_rfl
theorem RP:Tryd.prog.cellsOf 37=1:=by kernel_rfl
theorem Sz:Tryd.prog.cellsOf 75=1:=by kernel_rfl
theorem Ho:Tryd.prog.cellsOf 56=53:=by kernel_rfl
theorem As:Tryd.prog.cellsOf 3=1:=by kernel_rfl
theorem AR:Opens Tryd.prog (fun H=>Rows.uptoBulk (H:=H)) 3 Iy (fun _=>1) I64:=WQ AQ Tryd.underlying3
theorem Nj:Tryd.prog.cellsOf 52=32:=by kernel_rfl
theorem Vx:Tryd.prog.cellsOf 5=1:=by kernel_rfl
theorem Afk:Opens Tryd.prog (fun H=>Rows.uptoBulk (H:=H)) 5 cU8 (fun _=>1) (fun s=>True):=Yu AQ Tryd.underlying5
theorem Acp:Opens Tryd.prog (fun H=>Rows.uptoBulk (H:=H)) 52 (fun a:Arr UInt8 32=>C1 u8 a.l) (fun _=>0) (fun s=>True):=V0 (XG AQ Tryd.underlying52 Nj Vx Afk) (fun _=>Ali _) (fun _ _=>trivial)
theorem Ni:Tryd.prog.cellsOf 46=16:=by kernel_rfl
theorem MD:Tryd.prog.cellsOf 43=2:=by kernel_rfl
def Ut(s:AkD):Prop:=I64 s.Zb∧I64 s.No∧True
theorem Ace:Opens Tryd.prog (fun H=>Rows.uptoBulk (H:=H)) 43 TS (fun _=>0) (fun s=>Ut s) :=
 AD AQ Tryd.underlying43 (n:=2) MD
  (Ao (k:=1) rfl As (fun _=>rfl) AR (Ao (k:=1) rfl As (fun _=>rfl) AR AM))
  (fun x=>(⟨x.1,x.2.1⟩:AkD)) (fun _=>rfl) (fun _=>rfl) (fun x=>Ali _) (fun x h=>h)
theorem Vi:Tryd.prog.cellsOf 9=1:=by kernel_rfl
theorem Aer:Opens Tryd.prog (fun H=>Rows.uptoBulk (H:=H)) 9 AfR (fun l=>l.length+1) (fun s=>s.length≤maxLen):=Xk AQ Tryd.underlying9
theorem Tp:Tryd.prog.cellsOf 44=1:=by kernel_rfl
theorem KJ:Tryd.prog.cellsOf 175=3:=by kernel_rfl
theorem UY:Tryd.prog.cellsOf 4=1:=by kernel_rfl
theorem AeH:Opens Tryd.prog (fun H=>Rows.uptoBulk (H:=H)) 4 Yh (fun _=>1) (fun s=>True):=Wc AQ Tryd.underlying4
def Nf(s:AkE):Prop:=I64 s.Za∧I64 s.Zl1∧True∧True
theorem Aav:Opens Tryd.prog (fun H=>Rows.uptoBulk (H:=H)) 175 Aj (fun _=>0) (fun s=>Nf s) :=
 AD AQ Tryd.underlying175 (n:=3) KJ
  (Ao (k:=1) rfl As (fun _=>rfl) AR (Ao (k:=1) rfl As (fun _=>rfl) AR (Ao (k:=1) rfl UY (fun _=>rfl) AeH AM)))
  (fun x=>(⟨x.1,x.2.1,x.2.2.1⟩:AkE)) (fun _=>rfl) (fun _=>rfl) (fun x=>Ali _) (fun x h=>h)
theorem AdM:Opens Tryd.prog (fun H=>Rows.uptoBulk (H:=H)) 44 (cSl Aj) (szL (fun _=>0)) (fun s=>(s.length≤maxLen∧∀t∈s,Nf t)):=BA AQ Tryd.underlying44 KJ (fun _=>rfl) Aav
def JF(s:AkF):Prop:=I64 s.Za∧Ut s.Ref∧I64 s.Zn1∧I64 s.Zb1∧I64 s.Zc∧I64 s.Zo1∧I64 s.Zw∧I64 s.To∧I64 s.Code∧I64 s.Zp1∧I64 s.Zq1∧I64 s.Zr1∧I64 s.Zs1∧s.Zt1.length≤maxLen∧(s.Zu1.length≤maxLen∧∀t∈s.Zu1,Nf t)∧True
theorem Tu:Opens Tryd.prog (fun H=>Rows.uptoBulk (H:=H)) 46 A3 (fun _=>0) (fun s=>JF s) :=
 AD AQ Tryd.underlying46 (n:=16) Ni
  (Ao (k:=1) rfl As (fun _=>rfl) AR (Ao (k:=2) rfl MD (fun _=>rfl) Ace (Ao (k:=1) rfl As (fun _=>rfl) AR (Ao (k:=1) rfl As (fun _=>rfl) AR (Ao (k:=1) rfl As (fun _=>rfl) AR (Ao (k:=1) rfl As (fun _=>rfl) AR (Ao (k:=1) rfl As (fun _=>rfl) AR (Ao (k:=1) rfl As (fun _=>rfl) AR (Ao (k:=1) rfl As (fun _=>rfl) AR (Ao (k:=1) rfl As (fun _=>rfl) AR (Ao (k:=1) rfl As (fun _=>rfl) AR (Ao (k:=1) rfl As (fun _=>rfl) AR (Ao (k:=1) rfl As (fun _=>rfl) AR (Ao (k:=1) rfl Vi (fun _=>rfl) Aer (Ao (k:=1) rfl Tp (fun _=>rfl) AdM AM)))))))))))))))
  (fun x=>(⟨x.1,x.2.1,x.2.2.1,x.2.2.2.1,x.2.2.2.2.1,x.2.2.2.2.2.1,x.2.2.2.2.2.2.1,x.2.2.2.2.2.2.2.1,x.2.2.2.2.2.2.2.2.1,x.2.2.2.2.2.2.2.2.2.1,x.2.2.2.2.2.2.2.2.2.2.1,x.2.2.2.2.2.2.2.2.2.2.2.1,x.2.2.2.2.2.2.2.2.2.2.2.2.1,x.2.2.2.2.2.2.2.2.2.2.2.2.2.1,x.2.2.2.2.2.2.2.2.2.2.2.2.2.2.1⟩:AkF)) (fun _=>rfl) (fun _=>rfl) (fun x=>Ali _) (fun x h=>h)
theorem Mt:Tryd.prog.cellsOf 54=2:=by kernel_rfl
theorem Hq:Tryd.prog.cellsOf 41=1:=by kernel_rfl
theorem N8:Opens Tryd.prog (fun H=>Rows.uptoBulk (H:=H)) 41 Pg (fun _=>1) (fun s=>True):=Xm AQ Tryd.underlying41
def UB(s:AkG):Prop:=True∧True∧True
theorem AbS:Opens Tryd.prog (fun H=>Rows.uptoBulk (H:=H)) 54 Pq (fun _=>0) (fun s=>UB s) :=
 AD AQ Tryd.underlying54 (n:=2) Mt
  (Ao (k:=1) rfl Hq (fun _=>rfl) N8 (Ao (k:=1) rfl Hq (fun _=>rfl) N8 AM))
  (fun x=>(⟨x.1,x.2.1⟩:AkG)) (fun _=>rfl) (fun _=>rfl) (fun x=>Ali _) (fun x h=>h)
def EM(s:AkH):Prop:=I64 s.Zb∧I64 s.No∧True∧I64 s.Zw1∧JF s.Zx1∧UB s.Sig∧True
theorem UF(x:AkH):(Ak x).length=53:=by
 simp only[Ak,Ala,Alb,Aln,DJ,Arr.h]
theorem Tl:Opens Tryd.prog (fun H=>Rows.uptoBulk (H:=H)) 56 Ak (fun _=>0) (fun s=>EM s) :=
 AD AQ Tryd.underlying56 (n:=53) Ho
  (Ao (k:=1) rfl As (fun _=>rfl) AR (Ao (k:=1) rfl As (fun _=>rfl) AR (Ao (k:=32) rfl Nj (fun a=>by simp[DJ,a.h]) Acp (Ao (k:=1) rfl As (fun _=>rfl) AR (Ao (k:=16) rfl Ni (fun _=>rfl) Tu (Ao (k:=2) rfl Mt (fun _=>rfl) AbS AM))))))
  (fun x=>(⟨x.1,x.2.1,x.2.2.1,x.2.2.2.1,x.2.2.2.2.1,x.2.2.2.2.2.1⟩:AkH)) (fun x=>by simp only[Ak,A3,Pq,Ale,AlC,AlT,Al7,Iy,Pg,cU8,AfR,Yh,cSl]) UF (fun x=>Ali _) (fun x h=>h)
theorem Adj:Opens Tryd.prog (fun H=>Rows.uptoBulk (H:=H)) 75 (cSl Ak) (szL (fun _=>0)) (fun s=>(s.length≤maxLen∧∀t∈s,EM t)):=BA AQ Tryd.underlying75 Ho UF Tl
theorem Ad3:Opens Tryd.prog (fun H=>Rows.uptoBulk (H:=H)) 37 (cSl (cSl Ak)) (szL (szL (fun _=>0))) (fun s=>(s.length≤maxLen∧∀t∈s,(t.length≤maxLen∧∀u∈t,EM u))):=BA AQ Tryd.underlying37 Sz (fun _=>rfl) Adj
theorem Rq:Tryd.prog.cellsOf 38=1:=by kernel_rfl
theorem Nr:Tryd.prog.cellsOf 96=106:=by kernel_rfl
def Me(s:AkI):Prop:=EM s.A∧EM s.B∧True
theorem Abi(x:AkI):(Aw x).length=106:=by
 simp only[Aw,Ala,Alb,Aln,DJ,Arr.h]
theorem AcR:Opens Tryd.prog (fun H=>Rows.uptoBulk (H:=H)) 96 Aw (fun _=>0) (fun s=>Me s) :=
 AD AQ Tryd.underlying96 (n:=106) Nr
  (Ao (k:=53) rfl Ho UF Tl (Ao (k:=53) rfl Ho UF Tl AM))
  (fun x=>(⟨x.1,x.2.1⟩:AkI)) (fun x=>by simp only[Aw,Ak,Ak,Ale,AlC,AlT,Al7,Iy,Pg,cU8,AfR,Yh,cSl]) Abi (fun x=>Ali _) (fun x h=>h)
theorem AbX:Opens Tryd.prog (fun H=>Rows.uptoBulk (H:=H)) 38 (cSl Aw) (szL (fun _=>0)) (fun s=>(s.length≤maxLen∧∀t∈s,Me t)):=BA AQ Tryd.underlying38 Nr Abi AcR
def K1(s:AkJ):Prop:=(s.Zy1.length≤maxLen∧∀t∈s.Zy1,(t.length≤maxLen∧∀u∈t,EM u))∧(s.Zz1.length≤maxLen∧∀t∈s.Zz1,Me t)∧True
theorem Acf:Opens Tryd.prog (fun H=>Rows.uptoBulk (H:=H)) 40 An (fun _=>0) (fun s=>K1 s) :=
 AD AQ Tryd.underlying40 (n:=2) Se
  (Ao (k:=1) rfl RP (fun _=>rfl) Ad3 (Ao (k:=1) rfl Rq (fun _=>rfl) AbX AM))
  (fun x=>(⟨x.1,x.2.1⟩:AkJ)) (fun _=>rfl) (fun _=>rfl) (fun x=>Ali _) (fun x h=>h)
theorem SG:Tryd.prog.cellsOf 36=9:=by kernel_rfl
theorem Mv:Tryd.prog.cellsOf 25=2:=by kernel_rfl
theorem R1:Tryd.prog.cellsOf 22=1:=by kernel_rfl
theorem KV:Tryd.prog.cellsOf 127=3:=by kernel_rfl
def K0(s:Akp):Prop:=I64 s.Za∧I64 s.Zb∧I64 s.Zc∧True
theorem ZM:Opens Tryd.prog (fun H=>Rows.uptoBulk (H:=H)) 127 Ag (fun _=>0) (fun s=>K0 s) :=
 AD AQ Tryd.underlying127 (n:=3) KV
  (Ao (k:=1) rfl As (fun _=>rfl) AR (Ao (k:=1) rfl As (fun _=>rfl) AR (Ao (k:=1) rfl As (fun _=>rfl) AR AM)))
  (fun x=>(⟨x.1,x.2.1,x.2.2.1⟩:Akp)) (fun _=>rfl) (fun _=>rfl) (fun x=>Ali _) (fun x h=>h)
theorem Abu:Opens Tryd.prog (fun H=>Rows.uptoBulk (H:=H)) 22 (cSl Ag) (szL (fun _=>0)) (fun s=>(s.length≤maxLen∧∀t∈s,K0 t)):=BA AQ Tryd.underlying22 KV (fun _=>rfl) ZM
theorem Sj:Tryd.prog.cellsOf 23=1:=by kernel_rfl
theorem KM:Tryd.prog.cellsOf 129=5:=by kernel_rfl
def Nz(s:Akq):Prop:=I64 s.A∧I64 s.B∧I64 s.Zb∧I64 s.Zd∧I64 s.Km∧True
theorem YH:Opens Tryd.prog (fun H=>Rows.uptoBulk (H:=H)) 129 Am (fun _=>0) (fun s=>Nz s) :=
 AD AQ Tryd.underlying129 (n:=5) KM
  (Ao (k:=1) rfl As (fun _=>rfl) AR (Ao (k:=1) rfl As (fun _=>rfl) AR (Ao (k:=1) rfl As (fun _=>rfl) AR (Ao (k:=1) rfl As (fun _=>rfl) AR (Ao (k:=1) rfl As (fun _=>rfl) AR AM)))))
  (fun x=>(⟨x.1,x.2.1,x.2.2.1,x.2.2.2.1,x.2.2.2.2.1⟩:Akq)) (fun _=>rfl) (fun _=>rfl) (fun x=>Ali _) (fun x h=>h)
theorem AdL:Opens Tryd.prog (fun H=>Rows.uptoBulk (H:=H)) 23 (cSl Am) (szL (fun _=>0)) (fun s=>(s.length≤maxLen∧∀t∈s,Nz t)):=BA AQ Tryd.underlying23 KM (fun _=>rfl) YH
def KZ(s:Akr):Prop:=(s.Ze.length≤maxLen∧∀t∈s.Ze,K0 t)∧(s.Zf.length≤maxLen∧∀t∈s.Zf,Nz t)∧True
theorem AdI:Opens Tryd.prog (fun H=>Rows.uptoBulk (H:=H)) 25 KW (fun _=>0) (fun s=>KZ s) :=
 AD AQ Tryd.underlying25 (n:=2) Mv
  (Ao (k:=1) rfl R1 (fun _=>rfl) Abu (Ao (k:=1) rfl Sj (fun _=>rfl) AdL AM))
  (fun x=>(⟨x.1,x.2.1⟩:Akr)) (fun _=>rfl) (fun _=>rfl) (fun x=>Ali _) (fun x h=>h)
theorem MN:Tryd.prog.cellsOf 31=4:=by kernel_rfl
theorem Tz:Tryd.prog.cellsOf 26=1:=by kernel_rfl
theorem KY:Tryd.prog.cellsOf 131=8:=by kernel_rfl
def G5(s:Aks):Prop:=I64 s.Zg∧I64 s.Zh∧I64 s.Zi∧I64 s.Zj∧I64 s.Zk∧True∧I64 s.Zm∧I64 s.Zn∧True
theorem ZY:Opens Tryd.prog (fun H=>Rows.uptoBulk (H:=H)) 131 Ab (fun _=>0) (fun s=>G5 s) :=
 AD AQ Tryd.underlying131 (n:=8) KY
  (Ao (k:=1) rfl As (fun _=>rfl) AR (Ao (k:=1) rfl As (fun _=>rfl) AR (Ao (k:=1) rfl As (fun _=>rfl) AR (Ao (k:=1) rfl As (fun _=>rfl) AR (Ao (k:=1) rfl As (fun _=>rfl) AR (Ao (k:=1) rfl Hq (fun _=>rfl) N8 (Ao (k:=1) rfl As (fun _=>rfl) AR (Ao (k:=1) rfl As (fun _=>rfl) AR AM))))))))
  (fun x=>(⟨x.1,x.2.1,x.2.2.1,x.2.2.2.1,x.2.2.2.2.1,x.2.2.2.2.2.1,x.2.2.2.2.2.2.1,x.2.2.2.2.2.2.2.1⟩:Aks)) (fun _=>rfl) (fun _=>rfl) (fun x=>Ali _) (fun x h=>h)
theorem Adm:Opens Tryd.prog (fun H=>Rows.uptoBulk (H:=H)) 26 (cSl Ab) (szL (fun _=>0)) (fun s=>(s.length≤maxLen∧∀t∈s,G5 t)):=BA AQ Tryd.underlying26 KY (fun _=>rfl) ZY
theorem So:Tryd.prog.cellsOf 27=1:=by kernel_rfl
theorem KP:Tryd.prog.cellsOf 133=5:=by kernel_rfl
def JR(s:Akt):Prop:=I64 s.Zo∧I64 s.Zp∧I64 s.Zq∧I64 s.Zr∧I64 s.Zs∧True
theorem Y6:Opens Tryd.prog (fun H=>Rows.uptoBulk (H:=H)) 133 Ae (fun _=>0) (fun s=>JR s) :=
 AD AQ Tryd.underlying133 (n:=5) KP
  (Ao (k:=1) rfl As (fun _=>rfl) AR (Ao (k:=1) rfl As (fun _=>rfl) AR (Ao (k:=1) rfl As (fun _=>rfl) AR (Ao (k:=1) rfl As (fun _=>rfl) AR (Ao (k:=1) rfl As (fun _=>rfl) AR AM)))))
  (fun x=>(⟨x.1,x.2.1,x.2.2.1,x.2.2.2.1,x.2.2.2.2.1⟩:Akt)) (fun _=>rfl) (fun _=>rfl) (fun x=>Ali _) (fun x h=>h)
theorem Adg:Opens Tryd.prog (fun H=>Rows.uptoBulk (H:=H)) 27 (cSl Ae) (szL (fun _=>0)) (fun s=>(s.length≤maxLen∧∀t∈s,JR t)):=BA AQ Tryd.underlying27 KP (fun _=>rfl) Y6
theorem R9:Tryd.prog.cellsOf 28=1:=by kernel_rfl
theorem KD:Tryd.prog.cellsOf 167=3:=by kernel_rfl
def Mj(s:Aku):Prop:=I64 s.Zt∧I64 s.Zu∧I64 s.Zv∧True
theorem YZ:Opens Tryd.prog (fun H=>Rows.uptoBulk (H:=H)) 167 Ai (fun _=>0) (fun s=>Mj s) :=
 AD AQ Tryd.underlying167 (n:=3) KD
  (Ao (k:=1) rfl As (fun _=>rfl) AR (Ao (k:=1) rfl As (fun _=>rfl) AR (Ao (k:=1) rfl As (fun _=>rfl) AR AM)))
  (fun x=>(⟨x.1,x.2.1,x.2.2.1⟩:Aku)) (fun _=>rfl) (fun _=>rfl) (fun x=>Ali _) (fun x h=>h)
theorem AdX:Opens Tryd.prog (fun H=>Rows.uptoBulk (H:=H)) 28 (cSl Ai) (szL (fun _=>0)) (fun s=>(s.length≤maxLen∧∀t∈s,Mj t)):=BA AQ Tryd.underlying28 KD (fun _=>rfl) YZ
theorem Rk:Tryd.prog.cellsOf 29=1:=by kernel_rfl
theorem KU:Tryd.prog.cellsOf 171=3:=by kernel_rfl
def Mp(s:Akv):Prop:=I64 s.Zw∧I64 s.To∧I64 s.Zd∧True
theorem AaH:Opens Tryd.prog (fun H=>Rows.uptoBulk (H:=H)) 171 Ah (fun _=>0) (fun s=>Mp s) :=
 AD AQ Tryd.underlying171 (n:=3) KU
  (Ao (k:=1) rfl As (fun _=>rfl) AR (Ao (k:=1) rfl As (fun _=>rfl) AR (Ao (k:=1) rfl As (fun _=>rfl) AR AM)))
  (fun x=>(⟨x.1,x.2.1,x.2.2.1⟩:Akv)) (fun _=>rfl) (fun _=>rfl) (fun x=>Ali _) (fun x h=>h)
theorem Adz:Opens Tryd.prog (fun H=>Rows.uptoBulk (H:=H)) 29 (cSl Ah) (szL (fun _=>0)) (fun s=>(s.length≤maxLen∧∀t∈s,Mp t)):=BA AQ Tryd.underlying29 KU (fun _=>rfl) AaH
def On(s:Akw):Prop:=(s.Zx.length≤maxLen∧∀t∈s.Zx,G5 t)∧(s.Zy.length≤maxLen∧∀t∈s.Zy,JR t)∧(s.Zz.length≤maxLen∧∀t∈s.Zz,Mj t)∧(s.Za1.length≤maxLen∧∀t∈s.Za1,Mp t)∧True
theorem AdG:Opens Tryd.prog (fun H=>Rows.uptoBulk (H:=H)) 31 O3 (fun _=>0) (fun s=>On s) :=
 AD AQ Tryd.underlying31 (n:=4) MN
  (Ao (k:=1) rfl Tz (fun _=>rfl) Adm (Ao (k:=1) rfl So (fun _=>rfl) Adg (Ao (k:=1) rfl R9 (fun _=>rfl) AdX (Ao (k:=1) rfl Rk (fun _=>rfl) Adz AM))))
  (fun x=>(⟨x.1,x.2.1,x.2.2.1,x.2.2.2.1⟩:Akw)) (fun _=>rfl) (fun _=>rfl) (fun x=>Ali _) (fun x h=>h)
theorem RC:Tryd.prog.cellsOf 32=1:=by kernel_rfl
theorem KK:Tryd.prog.cellsOf 135=3:=by kernel_rfl
def IG(s:Akx):Prop:=I64 s.Zb1∧I64 s.Low∧I64 s.Zc1∧True
theorem YX:Opens Tryd.prog (fun H=>Rows.uptoBulk (H:=H)) 135 Af (fun _=>0) (fun s=>IG s) :=
 AD AQ Tryd.underlying135 (n:=3) KK
  (Ao (k:=1) rfl As (fun _=>rfl) AR (Ao (k:=1) rfl As (fun _=>rfl) AR (Ao (k:=1) rfl As (fun _=>rfl) AR AM)))
  (fun x=>(⟨x.1,x.2.1,x.2.2.1⟩:Akx)) (fun _=>rfl) (fun _=>rfl) (fun x=>Ali _) (fun x h=>h)
theorem Aca:Opens Tryd.prog (fun H=>Rows.uptoBulk (H:=H)) 32 (cSl Af) (szL (fun _=>0)) (fun s=>(s.length≤maxLen∧∀t∈s,IG t)):=BA AQ Tryd.underlying32 KK (fun _=>rfl) YX
theorem Sd:Tryd.prog.cellsOf 33=1:=by kernel_rfl
theorem KX:Tryd.prog.cellsOf 137=1:=by kernel_rfl
def HH(s:Aky):Prop:=I64 s.Zb1∧True
theorem Aaj:Opens Tryd.prog (fun H=>Rows.uptoBulk (H:=H)) 137 Ad (fun _=>0) (fun s=>HH s) :=
 AD AQ Tryd.underlying137 (n:=1) KX
  (Ao (k:=1) rfl As (fun _=>rfl) AR AM)
  (fun x=>(⟨x.1⟩:Aky)) (fun _=>rfl) (fun _=>rfl) (fun x=>Ali _) (fun x h=>h)
theorem Adx:Opens Tryd.prog (fun H=>Rows.uptoBulk (H:=H)) 33 (cSl Ad) (szL (fun _=>0)) (fun s=>(s.length≤maxLen∧∀t∈s,HH t)):=BA AQ Tryd.underlying33 KX (fun _=>rfl) Aaj
theorem SW:Tryd.prog.cellsOf 34=1:=by kernel_rfl
theorem LQ:Tryd.prog.cellsOf 74=16:=by kernel_rfl
theorem LP:Tryd.prog.cellsOf 72=15:=by kernel_rfl
theorem LV:Tryd.prog.cellsOf 69=14:=by kernel_rfl
theorem MT:Tryd.prog.cellsOf 68=2:=by kernel_rfl
def Xx(s:Akz):Prop:=I64 s.Zw∧I64 s.To∧True
theorem Adb:Opens Tryd.prog (fun H=>Rows.uptoBulk (H:=H)) 68 JN (fun _=>0) (fun s=>Xx s) :=
 AD AQ Tryd.underlying68 (n:=2) MT
  (Ao (k:=1) rfl As (fun _=>rfl) AR (Ao (k:=1) rfl As (fun _=>rfl) AR AM))
  (fun x=>(⟨x.1,x.2.1⟩:Akz)) (fun _=>rfl) (fun _=>rfl) (fun x=>Ali _) (fun x h=>h)
theorem AdK:Opens Tryd.prog (fun H=>Rows.uptoBulk (H:=H)) 69 (fun a:Arr Akz 7=>a.l.flatMap JN) (fun _=>0) (fun s=>True):=V9 (n:=7) Tryd.underlying69 LV MT (fun _=>rfl) Adb
theorem Sa:Tryd.prog.cellsOf 70=1:=by kernel_rfl
theorem Abv:Opens Tryd.prog (fun H=>Rows.uptoBulk (H:=H)) 70 (cSl Iy) (szL (fun _=>1)) (fun s=>(s.length≤maxLen∧∀t∈s,I64 t)):=BA AQ Tryd.underlying70 As (fun _=>rfl) AR
def JI(s:AkA):Prop:=True∧(s.Ze1.length≤maxLen∧∀t∈s.Ze1,I64 t)∧True
theorem Ad9:Opens Tryd.prog (fun H=>Rows.uptoBulk (H:=H)) 72 Jq (fun _=>0) (fun s=>JI s) :=
 AD AQ Tryd.underlying72 (n:=15) LP
  (Ao (k:=14) rfl LV (Y5 (c:=JN) (k:=2) (n:=7) (fun _=>rfl)) AdK (Ao (k:=1) rfl Sa (fun _=>rfl) Abv AM))
  (fun x=>(⟨(nth x.1.l 0,nth x.1.l 1,nth x.1.l 2,nth x.1.l 3,nth x.1.l 4,nth x.1.l 5,nth x.1.l 6),x.2.1⟩:AkA)) (fun x=>by obtain⟨⟨l,hl⟩,y⟩:=x;match l,hl with|[_,_,_,_,_,_,_],_=>rfl) (fun _=>rfl) (fun x=>Ali _) (fun x h=>h)
def F3(s:AkB):Prop:=True∧JI s.Zf1∧True
theorem Ad1:Opens Tryd.prog (fun H=>Rows.uptoBulk (H:=H)) 74 Ac (fun _=>0) (fun s=>F3 s) :=
 AD AQ Tryd.underlying74 (n:=16) LQ
  (Ao (k:=1) rfl Hq (fun _=>rfl) N8 (Ao (k:=15) rfl LP (fun _=>rfl) Ad9 AM))
  (fun x=>(⟨x.1,x.2.1⟩:AkB)) (fun _=>rfl) (fun _=>rfl) (fun x=>Ali _) (fun x h=>h)
theorem AbH:Opens Tryd.prog (fun H=>Rows.uptoBulk (H:=H)) 34 (cSl Ac) (szL (fun _=>0)) (fun s=>(s.length≤maxLen∧∀t∈s,F3 t)):=BA AQ Tryd.underlying34 LQ (fun _=>rfl) Ad1
def Q4(s:AkC):Prop:=KZ s.Zg1∧On s.Zh1∧(s.Zi1.length≤maxLen∧∀t∈s.Zi1,IG t)∧(s.Zj1.length≤maxLen∧∀t∈s.Zj1,HH t)∧(s.Zk1.length≤maxLen∧∀t∈s.Zk1,F3 t)∧True
theorem Acv:Opens Tryd.prog (fun H=>Rows.uptoBulk (H:=H)) 36 Av (fun _=>0) (fun s=>Q4 s) :=
 AD AQ Tryd.underlying36 (n:=9) SG
  (Ao (k:=2) rfl Mv (fun _=>rfl) AdI (Ao (k:=4) rfl MN (fun _=>rfl) AdG (Ao (k:=1) rfl RC (fun _=>rfl) Aca (Ao (k:=1) rfl Sd (fun _=>rfl) Adx (Ao (k:=1) rfl SW (fun _=>rfl) AbH AM)))))
  (fun x=>(⟨x.1,x.2.1,x.2.2.1,x.2.2.2.1,x.2.2.2.2.1⟩:AkC)) (fun _=>rfl) (fun _=>rfl) (fun x=>Ali _) (fun x h=>h)
theorem own:ownKnob Tryd.prog.godebug=none:=by kernel_rfl
theorem AdJ:laidOutB Tryd.prog=true:=by kernel_rfl
abbrev S4:List (String×DataW Unit):=[("wagonpool/digest.k", Rows.laid_wagonpool_digest_k)]
def kz:List Int:=glob2.l.map fun x=>(x.toNat:Int)
theorem Af4:kz.length=64:=by simp[kz,glob2.h]
theorem Ab2:(Rows.laid_wagonpool_digest_k:DataW Unit)=.agg (kz.map fun n=>.lit (.int .u32 n)):=by kernel_rfl
theorem Aa9{W:World}(h:laidMetH Tryd.prog S4 W)(r:Nat)(hr:r<64):W.cell? ⟨2,r,none⟩=some (.int .u32 (kz.getD r 0)):=by
 rw[MakeChecks.laidMetH_plain _ _ _ (by kernel_rfl)]at h;obtain⟨ps,⟨g,t,cs,fuel,p,q,hg,ht,hv,hd,_,_⟩,_,_⟩:=h;obtain rfl:=Alm ((show Tryd.prog.globalNamed "wagonpool/digest.k" = some 2 by kernel_rfl).symm.trans hg);obtain rfl:=Alm ((show(Tryd.prog.globals[2]?).map (·.type)=some 188 by kernel_rfl).symm.trans ht);rw[Ab2]at hd;obtain⟨xs,m,_,ex,_,hl,hel⟩:=DataW.trod_array Tryd.underlying188 hd;have c5:Tryd.prog.cellsOf 161=1:=by kernel_rfl
 have hE:=hel r hr;rw[c5,AmY,AkR (by omega)]at hE;obtain⟨z,e1,e2,_⟩:=DataW.trod_int Tryd.underlying161 hE;have hlen:=Af4;have e3:(xs.map (·.1))=kz.map fun n=>.lit (.int .u32 n):=(DataW.agg.inj (Prod.mk.inj ex).1).symm
 have e4:(xs.map (·.1))[r]?=(kz.map fun n=>(DataW.lit (.int .u32 n):DataW Unit))[r]?:=by rw[e3]
 rw[Ak8,Ak8,AkR (by omega:r<xs.length),AkR (by omega:r<kz.length),e2]at e4
 have hz:z=kz.getD r 0:=by
  simp only[Als,AkP,DataW.lit.injEq,Lit.int.injEq,true_and]at e4;rw[e4,List.getD,AkR (by omega:r<kz.length)];rfl
 rw[World.var?_cell hg hv r,←hz]
 have:cs.toList[r]?=some (.int .u32 z):=by
  have h0:((cs.toList.drop r).take 1)[0]?=some (.int .u32 z):=by rw[e1];rfl
  simpa using h0
 simpa using this
theorem Ajh{W:World}(h:laidMetH Tryd.prog S4 W):Mem (B.env noF) W [] []:=by
 refine⟨rfl,fun id b ab h=>by simp at h,fun id id' b b' β h=>by simp at h,fun a h=>h.elim,fun i cs hG=>?_,fun t m h=>(by have h':(none:Option MapS)=some m:=h;cases h'),fun i p h=>(by have h':(none:Option (Array Value))=some p:=h;cases h')⟩;have hG':(if i=2 then some (C1 u32 glob2.l)else none)=some cs:=hG;by_cases hi:i=2
 ·rw[AkS hi]at hG';cases hG';subst hi;refine⟨cell?_lt (Aa9 h 0 (by omega)),(by rintro⟨id,b,hb,_⟩;simp at hb),fun _ hf=>hf,fun j=>.int .u32 (kz.getD j 0),fun j x hj=>?_⟩
  have hj64:j<64:=by
   have:=(AkN.1 hj).1;rwa[DJ]at this
  have hx:x=.int .u32 (kz.getD j 0):=by
   simp only[C1,Ak8,AkO]at hj;obtain⟨y,hy,rfl⟩:=hj;simp[kz,u32,Ak1,hy]
  subst hx;exact⟨Aa9 h j hj64,.int _ _ _,rfl⟩
 ·rw[AkT hi]at hG';cases hG'
theorem VS{f:FuncId}{avs:List AV}(h:Con B f avs [] (fun r σ'=>r=.bool true∧σ'=[])){fn:Func}{c:Code}(hf:B.P.funcs[f]?=some fn)(hb:fn.body=some c)(hn:(fn.name == "runtime.NumGoroutine")=false) {W:World} (hL:laidMetH Tryd.prog S4 W) {args:Array Value} (ha:BV W (A0 (B.env noF) []) [] args.toList avs):Calls B.P f args W fun e W'=>e=.returned (.bool true)∧Below W.heap.size W W':=by
 refine((h.call (fun _=>False) W [] args (Ajh hL) ha).calls hf hb hn).mono ?_;rintro e w' ⟨v,r,σ',g',rfl,⟨rfl,rfl⟩,hm,he,hr⟩;exact⟨by rw[EG hr],he.below⟩
open Go.Rv Go.RowKit
set_option maxRecDepth 20000
theorem AeN(F:Out):((B.env F).bty=some 181)=False:=AlO (fun h=>nomatch (show(none:Option Nat)=some 181 from h))
attribute [local go_sem] AeN
theorem ZL:Lib.len8tab.data.toList=([0,1,2,2,3,3,3,3,4,4,4,4,4,4,4,4,5,5,5,5,5,5,5,5,5,5,5,5,5,5,5,5,6,6,6,6,6,6,6,6,6,6,6,6,6,6,6,6,6,6,6,6,6,6,6,6,6,6,6,6,6,6,6,6,7,7,7,7,7,7,7,7,7,7,7,7,7,7,7,7,7,7,7,7,7,7,7,7,7,7,7,7,7,7,7,7,7,7,7,7,7,7,7,7,7,7,7,7,7,7,7,7,7,7,7,7,7,7,7,7,7,7,7,7,7,7,7,7,8,8,8,8,8,8,8,8,8,8,8,8,8,8,8,8,8,8,8,8,8,8,8,8,8,8,8,8,8,8,8,8,8,8,8,8,8,8,8,8,8,8,8,8,8,8,8,8,8,8,8,8,8,8,8,8,8,8,8,8,8,8,8,8,8,8,8,8,8,8,8,8,8,8,8,8,8,8,8,8,8,8,8,8,8,8,8,8,8,8,8,8,8,8,8,8,8,8,8,8,8,8,8,8,8,8,8,8,8,8,8,8,8,8,8,8,8,8,8,8,8,8,8,8,8,8,8,8]:List UInt8):=by kernel_rfl
attribute [go_sem] ZL
theorem L0{σ:Al}{b:ABlk}:(σ++[b])[σ.length]?=some b:=by
 rw[AkU (Ak2 _)];simp
theorem UG{σ:Al}{b c:ABlk}:(σ++[b]).set σ.length c=σ++[c]:=by
 rw[Al1 _ _ (Ak2 _)];simp
theorem Li{σ:Al}{id:Nat}:∀F:Addr→Prop,Rc (B.env F) 86 [.ref id 0] σ (.agg [.ref id 3,.ref id 4,.ref id 5,.ref id 6,.ref id 7,.ref id 8,.ref id 9,.ref id 10,.ref id 11,.ref id 12,.ref id 13]) σ:=by
  intro F w g vs hm ha
  have hid:id<σ.length:=by
    obtain⟨vs⟩:=vs
    match vs,ha with
    | [u],⟨h1,_⟩=>
      cases h1 with
      |ref _ _ _ β b hb _ _=>have:=(AkN.1 hb).1;rwa[hm.len]at this
  refine QU (N:=37) (rs:=[.cell 2 181]) σ.length rfl ok Tryd.func86 rfl (by decide +kernel) rfl rfl (AlD rfl) ?_ (fun F=>?_) F w g vs hm ha
  · simp[AV.under,hid]
  have hE:=ok.env F;show Run (B.env F) σ.length _ ⟨Aq 37 [(0,.ref id 0)],σ⟩ _;refine Jt hE [0,2] (fr':=[(0,.ref id 0),(2,.ref σ.length 0)]) (σ':=σ++[.box [.val (.pointer none),.val (.pointer none),.val (.pointer none),.val (.pointer none),.val (.pointer none),.val (.pointer none),.val (.pointer none),.val (.pointer none),.val (.pointer none),.val (.pointer none),.val (.pointer none)] false]) ⟨_,Aa,?_⟩ ?_
  · simp only[go_sem]
  refine N6 hE Mi [[],[0],[0,1],[],[3],[3,4],[],[6],[6,7],[],[9],[9,10],[],[12],[12,13],[],[15],[15,16],[],[18],[18,19],[],[21],[21,22],[],[24],[24,25],[],[27],[27,28],[],[30],[30,31],[0,1,2,3,4,5,6,7,8,9,10,11,12,13,14,15,16,17,18,19,20,21,22,23,24,25,26,27,28,29,30,31,32],[0,1,2,3,4,5,6,7,8,9,10,11,12,13,14,15,16,17,18,19,20,21,22,23,24,25,26,27,28,29,30,31,32,33]] (by kernel_rfl) (by kernel_rfl) [2] (fr':=[(2,.ref σ.length 0)]) (σ':=σ++[.box [.ref id 3,.ref id 4,.ref id 5,.ref id 6,.ref id 7,.ref id 8,.ref id 9,.ref id 10,.ref id 11,.ref id 12,.ref id 13] false]) ⟨_,Aa,?_⟩ ?_
  · simp only[go_sem,L0,UG,reduceIte,Nat.reduceLT,Nat.reduceEqDiff,Nat.reduceAdd,Nat.reduceGT,Nat.reduceLeDiff]
  refine SE ?_;refine⟨.inr rfl,[.agg [.ref id 3,.ref id 4,.ref id 5,.ref id 6,.ref id 7,.ref id 8,.ref id 9,.ref id 10,.ref id 11,.ref id 12,.ref id 13]],[.box [.ref id 3,.ref id 4,.ref id 5,.ref id 6,.ref id 7,.ref id 8,.ref id 9,.ref id 10,.ref id 11,.ref id 12,.ref id 13] false],?_,rfl,rfl⟩;rw[Kh];simp only[go_sem,L0,reduceIte,Nat.reduceLT,Nat.reduceEqDiff,Nat.reduceAdd,Nat.reduceLeDiff]
theorem Kl{σ:Al}{id:Nat}:∀F:Addr→Prop,Rc (B.env F) 86 [.ref id 9] σ (.agg [.ref id 12,.ref id 13,.ref id 14,.ref id 15,.ref id 16,.ref id 17,.ref id 18,.ref id 19,.ref id 20,.ref id 21,.ref id 22]) σ:=by
  intro F w g vs hm ha
  have hid:id<σ.length:=by
    obtain⟨vs⟩:=vs
    match vs,ha with
    | [u],⟨h1,_⟩=>
      cases h1 with
      |ref _ _ _ β b hb _ _=>have:=(AkN.1 hb).1;rwa[hm.len]at this
  refine QU (N:=37) (rs:=[.cell 2 181]) σ.length rfl ok Tryd.func86 rfl (by decide +kernel) rfl rfl (AlD rfl) ?_ (fun F=>?_) F w g vs hm ha
  · simp[AV.under,hid]
  have hE:=ok.env F;show Run (B.env F) σ.length _ ⟨Aq 37 [(0,.ref id 9)],σ⟩ _;refine Jt hE [0,2] (fr':=[(0,.ref id 9),(2,.ref σ.length 0)]) (σ':=σ++[.box [.val (.pointer none),.val (.pointer none),.val (.pointer none),.val (.pointer none),.val (.pointer none),.val (.pointer none),.val (.pointer none),.val (.pointer none),.val (.pointer none),.val (.pointer none),.val (.pointer none)] false]) ⟨_,Aa,?_⟩ ?_
  · simp only[go_sem]
  refine N6 hE Mi [[],[0],[0,1],[],[3],[3,4],[],[6],[6,7],[],[9],[9,10],[],[12],[12,13],[],[15],[15,16],[],[18],[18,19],[],[21],[21,22],[],[24],[24,25],[],[27],[27,28],[],[30],[30,31],[0,1,2,3,4,5,6,7,8,9,10,11,12,13,14,15,16,17,18,19,20,21,22,23,24,25,26,27,28,29,30,31,32],[0,1,2,3,4,5,6,7,8,9,10,11,12,13,14,15,16,17,18,19,20,21,22,23,24,25,26,27,28,29,30,31,32,33]] (by kernel_rfl) (by kernel_rfl) [2] (fr':=[(2,.ref σ.length 0)]) (σ':=σ++[.box [.ref id 12,.ref id 13,.ref id 14,.ref id 15,.ref id 16,.ref id 17,.ref id 18,.ref id 19,.ref id 20,.ref id 21,.ref id 22] false]) ⟨_,Aa,?_⟩ ?_
  · simp only[go_sem,L0,UG,reduceIte,Nat.reduceLT,Nat.reduceEqDiff,Nat.reduceAdd,Nat.reduceGT,Nat.reduceLeDiff]
  refine SE ?_;refine⟨.inr rfl,[.agg [.ref id 12,.ref id 13,.ref id 14,.ref id 15,.ref id 16,.ref id 17,.ref id 18,.ref id 19,.ref id 20,.ref id 21,.ref id 22]],[.box [.ref id 12,.ref id 13,.ref id 14,.ref id 15,.ref id 16,.ref id 17,.ref id 18,.ref id 19,.ref id 20,.ref id 21,.ref id 22] false],?_,rfl,rfl⟩;rw[Kh];simp only[go_sem,L0,reduceIte,Nat.reduceLT,Nat.reduceEqDiff,Nat.reduceAdd,Nat.reduceLeDiff]
set_option maxHeartbeats 4000000
theorem NN{a b r}(h:Hb a b=some r):Con B 71 [u64 a,u64 b] [] (fun r' σ'=>r'=.tup [u64 r.1,u64 r.2]∧σ'=[]):=by
 refine Cw 51 [.tmp 4,.tmp 5] Tryd.func71 (fun F hE=>?_) h;unfold Hb;refine T0 [0,1] ?_;refine Lt fun x0_2596 c =>Te (fr':=[(0,_),(1,_),(6,u64 x0_2596)]) [0,1,6] Aa (Ew1 c) ?_
 refine Lt fun x1_2598 d =>Te (fr':=[(0,_),(1,_),(6,_),(7,u64 x1_2598)]) [0,1,6,7] Aa (Ew1 d) ?_
 refine Lt fun y0_2600 e =>Te (fr':=[(0,_),(1,_),(6,_),(7,_),(8,u64 y0_2600)]) [0,1,6,7,8] Aa (Ew1 e) ?_
 refine Lt fun y1_2602 f =>Te (fr':=[(0,_),(1,_),(6,_),(7,_),(8,_),(9,u64 y1_2602)]) [0,1,6,7,8,9] Aa (Ew1 f) ?_
 refine T0 [0,1,6,7,8,9,10] ?_;refine Lt fun g i =>Te (fr':=[(0,_),(1,_),(6,_),(7,_),(9,_),(11,u64 g)]) [0,1,6,7,9,11] Aa (Ew1 i) ?_
 refine Lt fun w1_2606 j =>Te (fr':=[(0,_),(1,_),(6,_),(7,_),(9,_),(11,_),(12,u64 w1_2606)]) [0,1,6,7,9,11,12] Aa (Ew1 j) ?_
 refine Lt fun w2_2608 k =>Te (fr':=[(0,_),(1,_),(6,_),(7,_),(9,_),(12,_),(13,u64 w2_2608)]) [0,1,6,7,9,12,13] Aa (Ew1 k) ?_
 refine Lt fun w1_2610 l =>Te (fr':=[(0,_),(1,_),(7,_),(9,_),(12,u64 w1_2610),(13,_)]) [0,1,7,9,12,13] Aa (Ew1 l) ?_
 refine Lt fun m n =>Te (fr':=[(0,_),(1,_),(4,u64 m)]) [0,1,4] Aa (Ew1 n) ?_
 refine T0 [4,5] ?_;exact Sr <|Rr
theorem GE{b r}(h:EU b=some r):Con B 73 [u64 b] [] (fun r' σ'=>r'=i64 r∧σ'=[]):=by
 refine Cw 25 [.tmp 2] Tryd.func73 (fun F hE=>?_) h;unfold EU;refine T0 [0,2] ?_;refine Ja (fun(v:UInt64×Int)=>(⟨Aq 25 [(0,u64 v.1),(2,i64 v.2)],[]⟩:St)) ?_ ?_
 ·intro m;refine T0 [0,2,4] ?_;refine Cd ?_ ?_
  ·refine Lt fun d e =>Te (fr':=[(0,u64 d)]) [0] Aa (Ew1 e) ?_
   refine F0 [0,2] ?_;exact Jm (ws [])
  ·exact Sk <|Jm (ws [])
 rintro⟨n,o⟩;refine Ja (fun(v:UInt64×Int)=>(⟨Aq 25 [(0,u64 v.1),(2,i64 v.2)],[]⟩:St)) ?_ ?_
 ·intro p;refine T0 [0,2,8] ?_;refine Cd ?_ ?_
  ·refine Lt fun f g =>Te (fr':=[(0,u64 f),(2,_)]) [0,2] Aa (Ew1 g) ?_
   refine F0 [0,2] ?_;exact Jm (ws [])
  ·exact Sk <|Jm (ws [])
 rintro⟨q,s⟩;refine Ja (fun(v:UInt64×Int)=>(⟨Aq 25 [(0,u64 v.1),(2,i64 v.2)],[]⟩:St)) ?_ ?_
 ·intro t;refine T0 [0,2,14] ?_;refine Cd ?_ ?_
  ·refine Lt fun i j =>Te (fr':=[(0,u64 i),(2,_)]) [0,2] Aa (Ew1 j) ?_
   refine F0 [0,2] ?_;exact Jm (ws [])
  ·exact Sk <|Jm (ws [])
 rintro⟨u,w⟩;refine Ck fun c=>?_
 have a:=c;simp only[Ale,AlC,Ala,Alb,Aln,AlH,Nat.reduceAdd]at a;refine Lt fun k l =>Te (fr':=[(2,i64 k)]) [2] Aa (Ev (by simp only[go_sem,qN c,a,Px a,Ag5 (Px a),l];exact AZ)) ?_
 exact Sr <|Rr
theorem Hn{a r}(h:C6 a=some r):Con B 89 [u64 a] [] (fun r' σ'=>r'=i64 r∧σ'=[]):=by
 refine Cw 6 [.tmp 2] Tryd.func89 (fun F hE=>?_) h;unfold C6;refine T0 [0] ?_;refine Bd fun c b =>Te [2] (o1 4 (GE b)) Ev ?_
 exact Sr <|Rr
theorem NG{e f g r}(h:GZ e f g=some r):Con B 72 [u64 e,u64 f,u64 g] [] (fun r' σ'=>r'=.tup [u64 r.1,u64 r.2]∧σ'=[]):=by
 refine Cw 135 [.tmp 6,.tmp 7] Tryd.func72 (fun F hE=>?_) h;unfold GZ;refine T0 [0,1,2] ?_;refine Sq <|T0 [0,1,2,20] ?_
 refine Cd ?_ ?_
 ·exact Rn
 ·refine Sk <|Tn <|Sq <|T0 [0,1,2,24] ?_
  refine Cd ?_ ?_
  ·exact Rn
  ·refine Sk <|Tn <|Sq <|T0 [0,1,2,27] ?_
   refine Cd ?_ ?_
   ·refine Ck fun q =>Ck fun s =>De [[],[],[0,1],[],[],[3,4],[0,1,2],[0,1,2,3,4,5,6]] [6,7] Aa (Ew2 q s) ?_
    exact Sr <|Tr <|Rr
   ·refine Sk <|Tn <|Bd fun b t =>Te [0,1,2,8] (o1 35 (Hn t)) Ev ?_
    refine Lt fun a u =>Te (fr':=[(0,_),(1,_),(2,u64 a),(8,_)]) [0,1,2,8] Aa (Ew1 u) ?_
    refine Lt fun yn1_2658 w =>Te (fr':=[(0,_),(1,_),(2,_),(8,_),(9,u64 yn1_2658)]) [0,1,2,8,9] Aa (Ew1 w) ?_
    refine Lt fun yn0_2660 x =>Te (fr':=[(0,_),(1,_),(2,_),(8,_),(9,_),(10,u64 yn0_2660)]) [0,1,2,8,9,10] Aa (Ew1 x) ?_
    refine Lt fun un32_2662 y =>Te (fr':=[(1,_),(2,_),(8,_),(9,_),(10,_),(11,u64 un32_2662)]) [1,2,8,9,10,11] Aa (Ew1 y) ?_
    refine Lt fun un10_2664 z =>Te (fr':=[(2,_),(8,_),(9,_),(10,_),(11,_),(12,u64 un10_2664)]) [2,8,9,10,11,12] Aa (Ew1 z) ?_
    refine Lt fun un1_2666 aa =>Te (fr':=[(2,_),(8,_),(9,_),(10,_),(11,_),(12,_),(13,u64 un1_2666)]) [2,8,9,10,11,12,13] Aa (Ew1 aa) ?_
    refine Lt fun un0_2668 ab =>Te (fr':=[(2,_),(8,_),(9,_),(10,_),(11,_),(13,_),(14,u64 un0_2668)]) [2,8,9,10,11,13,14] Aa (Ew1 ab) ?_
    refine Ck fun ac =>Te [2,8,9,10,11,13,14,15] Aa (Ew1 ac) ?_
    refine Lt fun ad ae =>Te (fr':=[(2,_),(8,_),(9,_),(10,_),(11,_),(13,_),(14,_),(15,_),(16,u64 ad)]) [2,8,9,10,11,13,14,15,16] Aa (Ew1 ae) ?_
    refine Ja (fun q1_2692=>⟨Aq 135 [(2,u64 a),(8,u64 (UInt64.ofInt b)),(9,u64 yn1_2658),(10,u64 yn0_2660),(11,u64 un32_2662),(13,u64 un1_2666),(14,u64 un0_2668),(15,u64 q1_2692)],[]⟩) ?_ ?_
    ·intro ap;refine Sb ?_;refine Lo (fun(v:UInt64×UInt64)=>(⟨Aq 135 [(2,u64 a),(8,u64 (UInt64.ofInt b)),(9,u64 yn1_2658),(10,u64 yn0_2660),(11,u64 un32_2662),(13,u64 un1_2666),(14,u64 un0_2668),(15,u64 v.1),(16,u64 v.2)],[]⟩:St)) (ws []) ?_;rintro⟨q1_2701,i⟩ aq af j k;show DN yn1_2658 yn0_2660 un1_2666 q1_2701 i=some af→_;unfold DN;refine Sq ?_;refine Tw [2,8,9,10,11,13,14,15,16,78] (fun l=>⟨Aq 135 [(2,u64 a),(8,u64 (UInt64.ofInt b)),(9,u64 yn1_2658),(10,u64 yn0_2660),(11,u64 un32_2662),(13,u64 un1_2666),(14,u64 un0_2668),(15,u64 q1_2701),(16,u64 i),(78,.bool l)],[]⟩) ?_ ?_
     ·intro _;refine Sp (fun c=>?_) fun c=>?_
      ·exact Lf Aa (Ew1 c) (ws [])
      ·exact Lf Aa (Ew1 c) (ws [])
     intro l;refine Cd ?_ ?_
     ·refine Sk <|Tn <|Sb <|T0 [2,8,9,10,11,13,14,15,16] ?_
      refine T0 [2,8,9,10,11,13,14,15,16] ?_;refine T0 [2,8,9,10,11,13,14,15,16,85] ?_;refine Cd ?_ ?_
      ·refine Sx <|Bo <|Ly k j <|Bx <|?_
       exact Jm ((ws (l':=[(2,u64 a),(8,u64 (UInt64.ofInt b)),(9,u64 yn1_2658),(10,u64 yn0_2660),(11,u64 un32_2662),(13,u64 un1_2666),(14,u64 un0_2668),(15,u64 (q1_2701-(1:UInt64)))]) (σ':=[]) []).trans (ws []))
      ·exact Sk <|Bn <|Ln (ws [])
     ·refine Sx <|Tx <|Ly k j <|Bx <|?_
      exact Jm ((ws (l':=[(2,u64 a),(8,u64 (UInt64.ofInt b)),(9,u64 yn1_2658),(10,u64 yn0_2660),(11,u64 un32_2662),(13,u64 un1_2666),(14,u64 un0_2668),(15,u64 q1_2701)]) (σ':=[]) []).trans (ws []))
    intro q1_2692;refine Lt fun un21_2715 ag =>Te (fr':=[(2,_),(8,_),(9,_),(10,_),(14,_),(15,_),(17,u64 un21_2715)]) [2,8,9,10,14,15,17] Aa (Ew1 ag) ?_
    refine Ck fun ah =>Te [2,8,9,10,14,15,17,18] Aa (Ew1 ah) ?_
    refine Lt fun ai aj =>Te (fr':=[(2,_),(8,_),(9,_),(10,_),(14,_),(15,_),(16,u64 ai),(17,_),(18,_)]) [2,8,9,10,14,15,16,17,18] Aa (Ew1 aj) ?_
    refine Ja (fun q0_2739=>⟨Aq 135 [(2,u64 a),(8,u64 (UInt64.ofInt b)),(14,u64 un0_2668),(15,u64 q1_2692),(17,u64 un21_2715),(18,u64 q0_2739)],[]⟩) ?_ ?_
    ·intro ar;refine Sb ?_;refine Lo (fun(v:UInt64×UInt64)=>(⟨Aq 135 [(2,u64 a),(8,u64 (UInt64.ofInt b)),(9,u64 yn1_2658),(10,u64 yn0_2660),(14,u64 un0_2668),(15,u64 q1_2692),(16,u64 v.1),(17,u64 un21_2715),(18,u64 v.2)],[]⟩:St)) (ws []) ?_;rintro⟨m,q0_2749⟩ au ak n o;show DV yn1_2658 yn0_2660 un0_2668 m q0_2749=some ak→_;unfold DV;refine Sq ?_;refine Tw [2,8,9,10,14,15,16,17,18,113] (fun p=>⟨Aq 135 [(2,u64 a),(8,u64 (UInt64.ofInt b)),(9,u64 yn1_2658),(10,u64 yn0_2660),(14,u64 un0_2668),(15,u64 q1_2692),(16,u64 m),(17,u64 un21_2715),(18,u64 q0_2749),(113,.bool p)],[]⟩) ?_ ?_
     ·intro _;refine Sp (fun d=>?_) fun d=>?_
      ·exact Lf Aa (Ew1 d) (ws [])
      ·exact Lf Aa (Ew1 d) (ws [])
     intro p;refine Cd ?_ ?_
     ·refine Sk <|Tn <|Sb <|T0 [2,8,9,10,14,15,16,17,18] ?_
      refine T0 [2,8,9,10,14,15,16,17,18] ?_;refine T0 [2,8,9,10,14,15,16,17,18,120] ?_;refine Cd ?_ ?_
      ·refine Sx <|Bo <|Ly o n <|Bx <|?_
       exact Jm ((ws (l':=[(2,u64 a),(8,u64 (UInt64.ofInt b)),(14,u64 un0_2668),(15,u64 q1_2692),(17,u64 un21_2715),(18,u64 (q0_2749-(1:UInt64)))]) (σ':=[]) []).trans (ws []))
      ·exact Sk <|Bn <|Ln (ws [])
     ·refine Sx <|Tx <|Ly o n <|Bx <|?_
      exact Jm ((ws (l':=[(2,u64 a),(8,u64 (UInt64.ofInt b)),(14,u64 un0_2668),(15,u64 q1_2692),(17,u64 un21_2715),(18,u64 q0_2749)]) (σ':=[]) []).trans (ws []))
    intro q0_2739;refine Lt fun al am =>Lt fun an ao =>Te (fr':=[(6,u64 al),(7,u64 an)]) [6,7] Aa (Ew2 am ao) ?_
    exact Sr <|Rr
theorem DQ{a b c r}(h:BP a b c=some r):Con B 70 [u64 a,u64 b,.ref 0 0] [.box [u64 c] false] (fun r' σ'=>r'=u64 r.1∧σ'=[.box [u64 r.2] false]):=by
 refine Co 1 28 [.tmp 5] Tryd.func70 (fun F hE=>?_) h;unfold BP;refine T0 [0,1,2] ?_;refine Ck fun d =>Ck fun e =>Bd fun i f =>De [[],[],[0,1],[],[],[3,4],[0,1,2,3,4,5],[0,1,2,3,4,5,6],[0,1,2,3,4,5,6,7],[0,1,2,3,4,5,6,7],[0,1,2,3,4,5,6,7,8],[0,1,2,3,4,5,6,7,8,9,10]] [2,6,7] (o1 17 (NN f)) (Ew2 d e) ?_
 refine Bd fun j g =>Te [9] (o1 24 (NG g)) Ev ?_
 refine T0 [5] ?_;exact Sr <|Ro [0]
theorem Gg{a r}(h:El a=some r):Con B 47 [u64 a] [] (fun r' σ'=>r'=.fn 70 [.ref 0 0]∧σ'=[.box [u64 r] false]):=by
 refine Co 0 4 [.tmp 2] Tryd.func47 (fun F hE=>?_) h;unfold El;refine T0 [1] ?_;refine T0 [2] ?_;exact Sr <|Ro [0]
theorem Fy{a c r}(h:F7 a c=some r):Con B 48 [u64 a,u64 c] [] (fun r' σ'=>r'=u64 r∧σ'=[]):=by
 refine Cw 33 [.tmp 4] Tryd.func48 (fun F hE=>?_) h;unfold F7;refine T0 [0,1] ?_;refine Bd fun y j =>Te [0,1,5] (Ar (l:=[]) (m:=[(8,47,[u64 (2305843009213690799:UInt64)],[],_,_)]) trivial ⟨(wc (Gg j) []),trivial⟩) Ev ?_
 refine T0 [0,1,5,6] ?_;refine Ja (fun g=>⟨Aq 33 [(6,u64 g)],[]⟩) ?_ ?_
 ·intro z;refine Bd fun f k =>Te [0,1,5,6,10,11] (o1 10 (GE k)) Ev ?_
  refine Sb ?_;refine Lo (fun⟨b,d,e⟩=>⟨Aq 33 [(0,u64 a),(1,u64 c),(5,.fn 70 [.ref 0 0]),(6,u64 b),(10,i64 f),(11,i64 d)],[.box [u64 e] false]⟩) (ws [0]) ?_;rintro⟨b,d,e⟩ aa n o p;show FS a c f b d e=some n→_;unfold FS;refine T0 [0,1,5,6,10,11,12] ?_;refine Sq <|Cd ?_ ?_
  ·refine Sk <|Tn <|?_
   refine Ja (fun(v:UInt64×UInt64)=>(⟨Aq 33 [(0,u64 a),(1,u64 c),(5,.fn 70 [.ref 0 0]),(6,u64 v.1),(10,i64 f),(11,i64 d)],[.box [u64 v.2] false]⟩:St)) ?_ ?_
   ·intro ab;refine Sb <|T0 [0,1,5,6,7,10,11] ?_
    refine Bd fun i q =>Te [0,1,5,6,7,10,11] (Ar (l:=[]) (m:=[(17,70,[u64 b,u64 b,.ref 0 0],[.box [u64 e] false],_,_)]) trivial ⟨(wc (DQ q) [0]),trivial⟩) Ev ?_
    refine Bd fun ac s =>Ck fun t =>Lt fun u w =>Te (fr':=[(0,_),(1,_),(5,_),(6,_),(10,_),(11,_),(26,.bool u)]) [0,1,5,6,10,11,26] (o1 20 (GE s)) (Ew2 t w) ?_
    refine Cd ?_ ?_
    ·refine Bd fun ad x =>Fe [0,1,5,6,10,11] (Ar (l:=[]) (m:=[(30,70,[u64 i.1,u64 a,.ref 0 0],[.box [u64 i.2] false],_,_)]) trivial ⟨(wc (DQ x) [0]),trivial⟩) Ev ?_
     exact Bn <|Jm (ws [0])
    ·exact Sk <|Bn <|Jm (ws [0])
   rintro⟨ae,af⟩;refine F0 [0,1,5,6,10,11] ?_;exact Ln (ws [0])
  ·refine Sx <|Tx <|Ly p o <|Bx <|?_
   exact Jm ((ws (l':=[(6,u64 b)]) (σ':=[]) []).trans (ws []))
 intro g;refine T0 [4] ?_;exact Sr <|Rr
theorem I3{c r}(h:FE c=some r):Con B 46 [u64 c] [] (fun r' σ'=>r'=.bool r∧σ'=[]):=by
 refine Cw 14 [.tmp 2] Tryd.func46 (fun F hE=>?_) h;unfold FE;refine T0 [0] ?_;refine Tw [2] (fun d=>⟨Aq 14 [(2,.bool d)],[]⟩) ?_ ?_
 ·intro _;refine Sp (fun a=>?_) fun a=>?_
  ·refine Sp (fun b=>?_) fun b=>?_
   ·refine Bd fun f e=>?_
    exact Lf (o1 11 (Fy e)) (Ew2 a b) (ws [])
   ·exact Lf Aa (Ew2 a b) (ws [])
  ·exact Lf Aa (Ew1 a) (ws [])
 intro d;exact Sr <|Rr
theorem HD{a r}(h:EY a=some r):Con B 32 [u64 a] [] (fun r' σ'=>r'=.tup [u64 r.1,i64 r.2]∧σ'=[]):=by
 refine Cw 12 [.tmp 2,.tmp 3] Tryd.func32 (fun F hE=>?_) h;unfold EY;refine T0 [0] ?_;refine Sq ?_;refine Tw [0,9] (fun c=>⟨Aq 12 [(0,u64 a),(9,.bool c)],[]⟩) ?_ ?_
 ·intro _;refine Sp (fun b=>?_) fun b=>?_
  ·exact Lf Aa (Ew1 b) (ws [])
  ·exact Lf Aa (Ew1 b) (ws [])
 intro c;refine Cd ?_ ?_
 ·refine T0 [2,3] ?_;exact Sr <|Tr <|Rr
 ·refine Sk <|Tn <|Bd fun e d =>Te [2,3] (o1 11 (Fy d)) Ev ?_
  exact Sr <|Rr
theorem I5{a b r}(h:FI a b=some r):Con B 33 [.agg (An a),i64 b] [] (fun r' σ'=>r'=.sl false (L Ak r)∧σ'=[]):=by
 refine Cw 15 [.tmp 4] Tryd.func33 (fun F hE=>?_) h;unfold FI;refine T0 [1,2] ?_;refine Sq <|T0 [1,2,9] ?_
 refine Cd ?_ ?_
 ·refine T0 [4] ?_;exact Sr <|Tr <|Rr
 ·refine Sk <|Tn <|Ck fun c =>Te [4] Aa (Ew1 (qR c)) ?_
  exact Sr <|Rr
theorem F2{a r}(h:Fv a=some r):Con B 68 [i64 a] [] (fun r' σ'=>r'=.agg [i64 r.Za,i64 r.N,.sl false (L cU8 r.B),.sl false (L cApi_Value r.L)]∧σ'=[]):=by
 refine Cw 5 [.cell 2 112] Tryd.func68 (fun F hE=>?_) h;unfold Fv;refine T0 [0,2] ?_;refine T0 [2] ?_;exact Sr <|Rr
theorem I8{a r}(h:Ik a=some r):Con B 69 [.sl false (L cU8 a)] [] (fun r' σ'=>r'=.agg [i64 r.Za,i64 r.N,.sl false (L cU8 r.B),.sl false (L cApi_Value r.L)]∧σ'=[]):=by
 refine Cw 5 [.cell 2 112] Tryd.func69 (fun F hE=>?_) h;unfold Ik;refine T0 [0,2] ?_;refine T0 [2] ?_;exact Sr <|Rr
theorem A6{a r}(h:AL a=some r):Con B 84 [i64 a] [] (fun r' σ'=>r'=.agg [i64 r.Za,i64 r.N,.sl false (L cU8 r.B),.sl false (L cApi_Value r.L)]∧σ'=[]):=by
 refine Cw 5 [.cell 2 112] Tryd.func84 (fun F hE=>?_) h;unfold AL;refine T0 [0,2] ?_;refine T0 [2] ?_;exact Sr <|Rr
theorem Kn{r}(h:edi_list_cnil  = some r):Con B 85 [.sl true (L cApi_Value ([]))] [] (fun r' σ'=>r'=.agg [i64 r.Za,i64 r.N,.sl true (L cU8 ([])),.sl true (L cApi_Value ([]))]∧σ'=[]):=by
 refine Co 0 5 [.cell 2 112] Tryd.func85 (fun F hE=>?_) h;unfold edi_list_cnil;refine T0 [0,2] ?_;refine T0 [2] ?_;exact Sr <|Ro []
theorem Ld{a r}(h:Gq a=some r):Con B 85 [.bs false 0 (a.length) 0 (a.length)] [.buf 4 (L cApi_Value a) false] (fun r' σ'=>r'=.agg [i64 r.Za,i64 r.N,.sl true (L cU8 ([])),.bs false 0 (r.L.length) 0 (r.L.length)]∧σ'=[.buf 4 (L cApi_Value r.L) false]):=by
 refine Co 1 5 [.cell 2 112] Tryd.func85 (fun F hE=>?_) h;unfold Gq;refine T0 [0,2] ?_;refine T0 [2] ?_;exact Sr <|Ro [0]
theorem GL{a r}(h:DO a=some r):Con B 85 [.sl false (L cApi_Value a)] [] (fun r' σ'=>r'=.agg [i64 r.Za,i64 r.N,.sl true (L cU8 ([])),.sl false (L cApi_Value r.L)]∧σ'=[]):=by
 refine Co 0 5 [.cell 2 112] Tryd.func85 (fun F hE=>?_) h;unfold DO;refine T0 [0,2] ?_;refine T0 [2] ?_;exact Sr <|Ro []
theorem Qr{a r}(h:L6 a=some r):Con B 87 [.str a] [] (fun r' σ'=>r'=.agg [i64 r.Za,i64 r.N,.sl false (L cU8 r.B),.sl false (L cApi_Value r.L)]∧σ'=[]):=by
 refine Cw 6 [.cell 2 112] Tryd.func87 (fun F hE=>?_) h;unfold L6;refine T0 [0,2] ?_;refine T0 [2] ?_;exact Sr <|Rr
theorem JM{e f a r}(h:Jd e f a=some r):Con B 91 [u64 e,u64 f,u64 a] [] (fun r' σ'=>r'=u64 r∧σ'=[]):=by
 refine Cw 26 [.tmp 6] Tryd.func91 (fun F hE=>?_) h;unfold Jd;refine T0 [0,1,2] ?_;refine T0 [0,1,2,7] ?_;refine Ja (fun g=>⟨Aq 26 [(7,u64 g)],[]⟩) ?_ ?_
 ·intro q;refine Sb ?_;refine Lo (fun⟨b,c,d⟩=>⟨Aq 26 [(0,u64 b),(1,u64 c),(2,u64 a),(7,u64 d)],[]⟩) (ws []) ?_;rintro⟨b,c,d⟩ s j k l;show Ic a b c d=some j→_;unfold Ic;refine Sq <|T0 [0,1,2,7,9] ?_
  refine Cd ?_ ?_
  ·refine Sk <|Tn <|Sq <|Sb <|?_
   refine Ja (fun i=>⟨Aq 26 [(0,u64 b),(1,u64 c),(2,u64 a),(7,u64 i)],[]⟩) ?_ ?_
   ·intro t;have m:¬(2:UInt64)=0:=by decide
    refine Te [0,1,2,7,14] Aa (Ew1 m) ?_;refine Cd ?_ ?_
    ·refine Ck fun n =>Fe [0,1,2,7] Aa (Ew1 n) ?_
     exact Jm (ws [])
    ·exact Sk <|Jm (ws [])
   intro i;refine Ck fun o =>Fe [0,1,2,7] Aa (Ew1 o) ?_
   refine Bn <|Tn <|?_
   have p:¬(2:UInt64)=0:=by decide
   refine Fe [0,1,2,7] Aa (Ew1 p) ?_;exact Ln (ws [])
  ·refine Sx <|Tx <|Ly l k <|Bx <|?_
   exact Jm ((ws (l':=[(7,u64 d)]) (σ':=[]) []).trans (ws []))
 intro g;refine T0 [6] ?_;exact Sr <|Rr
theorem SV{d e r}(h:R5 d e=some r):Con B 76 [u64 d,u64 e] [] (fun r' σ'=>r'=u64 r∧σ'=[]):=by
 refine Cw 22 [.tmp 4] Tryd.func76 (fun F hE=>?_) h;unfold R5;refine T0 [0,1] ?_;refine T0 [0,1,5] ?_;refine Ja (fun f=>⟨Aq 22 [(5,u64 f)],[]⟩) ?_ ?_
 ·intro t;have i:¬(2305843009213690799:UInt64)=0:=by decide
  refine Lt fun j k =>Te (fr':=[(0,u64 j),(1,_),(5,_)]) [0,1,5] Aa (Ew2 i k) ?_
  refine Sb ?_;refine Lo (fun⟨a,b,c⟩=>⟨Aq 22 [(0,u64 a),(1,u64 b),(5,u64 c)],[]⟩) (ws []) ?_;rintro⟨a,b,c⟩ u l m n;show KB a b c=some l→_;unfold KB;refine Sq <|T0 [0,1,5,9] ?_
  refine Cd ?_ ?_
  ·refine Sk <|Tn <|Sq <|Sb <|?_
   refine Ja (fun g=>⟨Aq 22 [(0,u64 a),(1,u64 b),(5,u64 g)],[]⟩) ?_ ?_
   ·intro v;have o:¬(2:UInt64)=0:=by decide
    refine Te [0,1,5,14] Aa (Ew1 o) ?_;refine Cd ?_ ?_
    ·refine Bd fun w p =>Fe [0,1,5] (o1 17 (JM p)) Ev ?_
     exact Jm (ws [])
    ·exact Sk <|Jm (ws [])
   intro g;refine Bd fun x q =>Fe [0,1,5] (o1 20 (JM q)) Ev ?_
   refine Bn <|Tn <|?_
   have s:¬(2:UInt64)=0:=by decide
   refine Fe [0,1,5] Aa (Ew1 s) ?_;exact Ln (ws [])
  ·refine Sx <|Tx <|Ly n m <|Bx <|?_
   exact Jm ((ws (l':=[(5,u64 c)]) (σ':=[]) []).trans (ws []))
 intro f;refine T0 [4] ?_;exact Sr <|Rr
theorem NW{a r}(h:JQ a=some r):Con B 53 [u64 a] [] (fun r' σ'=>r'=.tup [u64 r.1,i64 r.2]∧σ'=[]):=by
 refine Cw 12 [.tmp 2,.tmp 3] Tryd.func53 (fun F hE=>?_) h;unfold JQ;refine T0 [0] ?_;refine Sq ?_;refine Tw [0,9] (fun c=>⟨Aq 12 [(0,u64 a),(9,.bool c)],[]⟩) ?_ ?_
 ·intro _;refine Sp (fun b=>?_) fun b=>?_
  ·exact Lf Aa (Ew1 b) (ws [])
  ·exact Lf Aa (Ew1 b) (ws [])
 intro c;refine Cd ?_ ?_
 ·refine T0 [2,3] ?_;exact Sr <|Tr <|Rr
 ·refine Sk <|Tn <|Bd fun e d =>Te [2,3] (o1 11 (SV d)) Ev ?_
  exact Sr <|Rr
theorem M4{r}(h:r14_Example  = some r):Con B 28 [] [] (fun r' σ'=>r'=.agg (Av r)∧σ'=[]):=by
 refine Cw 50 [.cell 0 36] Tryd.func28 (fun F hE=>?_) h;unfold r14_Example;refine T0 [0] ?_;refine T0 [0,1] ?_;refine Lt fun a k =>Te (σ':=[_,.box [.bs true 2 (a.length) 0 (a.length),.sl true (L Am ([])),.sl true (L Ab ([])),.sl true (L Ae ([])),.sl true (L Ai ([])),.sl true (L Ah ([])),.sl true (L Af ([])),.sl true (L Ad ([])),.sl true (L Ac ([]))] false,.buf 3 (L Ag a) false]) [0,1] Aa (Ew1 k) ?_
 refine Lt fun b l =>Te (σ':=[_,.box [.bs true 2 (a.length) 0 (a.length),.bs true 3 (b.length) 0 (b.length),.sl true (L Ab ([])),.sl true (L Ae ([])),.sl true (L Ai ([])),.sl true (L Ah ([])),.sl true (L Af ([])),.sl true (L Ad ([])),.sl true (L Ac ([]))] false,_,.buf 5 (L Am b) false]) [0,1] Aa (Ew1 l) ?_
 refine Lt fun c m =>Te (σ':=[_,.box [.bs true 2 (a.length) 0 (a.length),.bs true 3 (b.length) 0 (b.length),.bs true 4 (c.length) 0 (c.length),.sl true (L Ae ([])),.sl true (L Ai ([])),.sl true (L Ah ([])),.sl true (L Af ([])),.sl true (L Ad ([])),.sl true (L Ac ([]))] false,_,_,.buf 8 (L Ab c) false]) [0,1] Aa (Ew1 m) ?_
 refine Lt fun d n =>Te (σ':=[_,.box [.bs true 2 (a.length) 0 (a.length),.bs true 3 (b.length) 0 (b.length),.bs true 4 (c.length) 0 (c.length),.bs true 5 (d.length) 0 (d.length),.sl true (L Ai ([])),.sl true (L Ah ([])),.sl true (L Af ([])),.sl true (L Ad ([])),.sl true (L Ac ([]))] false,_,_,_,.buf 5 (L Ae d) false]) [0,1] Aa (Ew1 n) ?_
 refine Lt fun e o =>Te (σ':=[_,.box [.bs true 2 (a.length) 0 (a.length),.bs true 3 (b.length) 0 (b.length),.bs true 4 (c.length) 0 (c.length),.bs true 5 (d.length) 0 (d.length),.sl true (L Ai ([])),.sl true (L Ah ([])),.bs true 6 (e.length) 0 (e.length),.sl true (L Ad ([])),.sl true (L Ac ([]))] false,_,_,_,_,.buf 3 (L Af e) false]) [0,1] Aa (Ew1 o) ?_
 refine Lt fun f p =>Te (σ':=[_,.box [.bs true 2 (a.length) 0 (a.length),.bs true 3 (b.length) 0 (b.length),.bs true 4 (c.length) 0 (c.length),.bs true 5 (d.length) 0 (d.length),.sl true (L Ai ([])),.sl true (L Ah ([])),.bs true 6 (e.length) 0 (e.length),.bs true 7 (f.length) 0 (f.length),.sl true (L Ac ([]))] false,_,_,_,_,_,.buf 1 (L Ad f) false]) [0,1] Aa (Ew1 p) ?_
 refine Ja (fun g=>⟨Aq 50 [(0,.ref 0 0),(1,.ref 1 0)],[.box [.sl true (L Ag ([])),.sl true (L Am ([])),.sl true (L Ab ([])),.sl true (L Ae ([])),.sl true (L Ai ([])),.sl true (L Ah ([])),.sl true (L Af ([])),.sl true (L Ad ([])),.sl true (L Ac ([]))] false,.box [.bs true 2 (a.length) 0 (a.length),.bs true 3 (b.length) 0 (b.length),.bs true 4 (c.length) 0 (c.length),.bs true 5 (d.length) 0 (d.length),.sl true (L Ai ([])),.sl true (L Ah ([])),.bs true 6 (e.length) 0 (e.length),.bs true 7 (f.length) 0 (f.length),.bs false 8 (g.length) 0 (g.length)] false,.buf 3 (L Ag a) false,.buf 5 (L Am b) false,.buf 8 (L Ab c) false,.buf 5 (L Ae d) false,.buf 3 (L Af e) false,.buf 1 (L Ad f) false,.buf 16 (L Ac g) false]⟩) ?_ ?_
 ·intro z;refine T0 [0,1,2] ?_;refine Sb ?_;refine Lo (fun(v:Int×List AkB)=>(⟨Aq 50 [(0,.ref 0 0),(1,.ref 1 0),(2,i64 v.1)],[.box [.sl true (L Ag ([])),.sl true (L Am ([])),.sl true (L Ab ([])),.sl true (L Ae ([])),.sl true (L Ai ([])),.sl true (L Ah ([])),.sl true (L Af ([])),.sl true (L Ad ([])),.sl true (L Ac ([]))] false,.box [.bs true 2 (a.length) 0 (a.length),.bs true 3 (b.length) 0 (b.length),.bs true 4 (c.length) 0 (c.length),.bs true 5 (d.length) 0 (d.length),.sl true (L Ai ([])),.sl true (L Ah ([])),.bs true 6 (e.length) 0 (e.length),.bs true 7 (f.length) 0 (f.length),.bs false 8 (v.2.length) 0 (v.2.length)] false,.buf 3 (L Ag a) false,.buf 5 (L Am b) false,.buf 8 (L Ab c) false,.buf 5 (L Ae d) false,.buf 3 (L Af e) false,.buf 1 (L Ad f) false,.buf 16 (L Ac v.2) false]⟩:St)) ((Gy 1 8 16 rfl rfl).trans (ws [0,1,2,3,4,5,6,7,8])) ?_;rintro⟨q,i⟩ aa s t u;show G3 q i=some s→_;unfold G3;refine Sq <|T0 [0,1,2,32] ?_
  refine Cd ?_ ?_
  ·refine Sk <|Tn <|Sq <|Sb <|Bd fun ab w =>Te [0,1,2,3] (o1 39 (NW w)) Ev ?_
   refine Ck fun x =>Lt fun j y =>Fe (σ':=[_,.box [.bs true 2 (a.length) 0 (a.length),.bs true 3 (b.length) 0 (b.length),.bs true 4 (c.length) 0 (c.length),.bs true 5 (d.length) 0 (d.length),.sl true (L Ai ([])),.sl true (L Ah ([])),.bs true 6 (e.length) 0 (e.length),.bs true 7 (f.length) 0 (f.length),.bs false 8 (j.length) 0 (j.length)] false,_,_,_,_,_,_,.buf 16 (L Ac j) false,_]) [0,1,2] Aa (Ew2 x y) ?_
   refine Bn <|Tn <|F0 [0,1,2] ?_
   exact Ln (ws [0,1,2,3,4,5,6,7,8])
  ·refine Sx <|Tx <|Ly u t <|Bx <|?_
   exact Jm ((ws (l':=[(0,.ref 0 0),(1,.ref 1 0)]) (σ':=[.box [.sl true (L Ag ([])),.sl true (L Am ([])),.sl true (L Ab ([])),.sl true (L Ae ([])),.sl true (L Ai ([])),.sl true (L Ah ([])),.sl true (L Af ([])),.sl true (L Ad ([])),.sl true (L Ac ([]))] false,.box [.bs true 2 (a.length) 0 (a.length),.bs true 3 (b.length) 0 (b.length),.bs true 4 (c.length) 0 (c.length),.bs true 5 (d.length) 0 (d.length),.sl true (L Ai ([])),.sl true (L Ah ([])),.bs true 6 (e.length) 0 (e.length),.bs true 7 (f.length) 0 (f.length),.bs false 8 (i.length) 0 (i.length)] false,.buf 3 (L Ag a) false,.buf 5 (L Am b) false,.buf 8 (L Ab c) false,.buf 5 (L Ae d) false,.buf 3 (L Af e) false,.buf 1 (L Ad f) false,.buf 16 (L Ac i) false]) [0,1,2,3,4,5,6,7,8]).trans (ws [0,1,2,3,4,5,6,7,8]))
 intro g;refine T0 [0] ?_;exact Sr <|Rr
theorem Ed{a r}(h:Cu a=some r):Con B 29 [i64 a] [] (fun r' σ'=>r'=.agg (A3 r)∧σ'=[]):=by
 refine Cw 5 [.cell 2 46] Tryd.func29 (fun F hE=>?_) h;unfold Cu;refine T0 [0,2] ?_;refine T0 [2] ?_;exact Sr <|Rr
theorem Kf{a r}(h:Ey a=some r):Con B 77 [.agg [i64 a.Za,i64 a.Zb,i64 a.Zc]] [] (fun r' σ'=>r'=.bool r∧σ'=[]):=by
 refine Cw 42 [.tmp 2] Tryd.func77 (fun F hE=>?_) h;unfold Ey;refine T0 [1] ?_;refine Sq ?_;refine Tw [1,20] (fun g=>⟨Aq 42 [(1,.ref 0 0),(20,.bool g)],[.box [i64 a.Za,i64 a.Zb,i64 a.Zc] false]⟩) ?_ ?_
 ·intro _;refine Sp (fun b=>?_) fun b=>?_
  ·exact Lf Aa (Ew1 b) (ws [0])
  ·refine Sp (fun c=>?_) fun c=>?_
   ·exact Lf Aa (Ew2 b c) (ws [0])
   ·refine Sp (fun e=>?_) fun e=>?_
    ·exact Lf Aa (Ew3 b c e) (ws [0])
    ·exact Lf Aa (Ew3 b c e) (ws [0])
 intro g;refine Cd ?_ ?_
 ·refine T0 [2] ?_;exact Sr <|Tr <|Rr
 ·refine Sk <|Tn <|Sq <|T0 [1,23] ?_
  refine Cd ?_ ?_
  ·refine T0 [2] ?_;exact Sr <|Tr <|Rr
  ·refine Sk <|Tn <|?_
   refine Tw [2] (fun i=>⟨Aq 42 [(2,.bool i)],[]⟩) ?_ ?_
   ·intro _;refine Sp (fun d=>?_) fun d=>?_
    ·refine Sp (fun f=>?_) fun f=>?_
     ·exact Lf Aa (Ew2 d f) (ws [])
     ·exact Lf Aa (Ew2 d f) (ws [])
    ·exact Lf Aa (Ew1 d) (ws [])
   intro i;exact Sr <|Rr
theorem K6{a r}(h:E4 a=some r):Con B 54 [.agg [.sl false (L Ag a.Ze),.sl false (L Am a.Zf)]] [] (fun r' σ'=>r'=i64 r∧σ'=[]):=by
 refine Cw 84 [.tmp 2] Tryd.func54 (fun F hE=>?_) h;unfold E4;refine T0 [1] ?_;refine Lt fun b t =>Te (fr':=[(1,_),(3,i64 b)]) [1,3] Aa (Ew1 t) ?_
 refine Sq ?_;refine Tw [1,3,18] (fun m=>⟨Aq 84 [(1,.ref 0 0),(3,i64 b),(18,.bool m)],[.box [.sl false (L Ag a.Ze),.sl false (L Am a.Zf)] false]⟩) ?_ ?_
 ·intro _;refine Sp (fun j=>?_) fun j=>?_
  ·exact Lf Aa (Ew1 j) (ws [0])
  ·exact Lf Aa (Ew1 j) (ws [0])
 intro m;refine Cd ?_ ?_
 ·refine T0 [2] ?_;exact Sr <|Tr <|Rr
 ·refine Sk <|Tn <|?_
  refine Jo (fun _=>⟨Aq 84 [(1,.ref 0 0),(3,i64 b)],[.box [.sl false (L Ag a.Ze),.sl false (L Am a.Zf)] false]⟩) ?_ ?_
  ·intro ar u;refine T0 [1,3,20,21,22] ?_;refine Sb ?_;refine Lo (fun k=>⟨Aq 84 [(1,.ref 0 0),(3,i64 b),(20,.sl false (L Ag a.Ze)),(21,i64 (a.Ze.length:Int)),(22,i64 k)],[.box [.sl false (L Ag a.Ze),.sl false (L Am a.Zf)] false]⟩) (ws [0]) ?_;rintro k au v n o;show C9 a k=some v→_;unfold C9;refine T0 [1,3,20,21,22,23] ?_;refine Sq <|Cd ?_ ?_
   ·refine Sk <|Tn <|Sq <|Sb <|Ck fun w =>Lt fun x y =>Lt fun z aa =>Lt fun ab ac =>Te (σ':=[_,.box [i64 x,i64 z,i64 ab] false]) [1,3,5,20,21,22] Aa (Ew4 (qR w) y aa ac) ?_
    refine Bd fun av ad =>Te [1,3,20,21,22,28] (o1 27 (Kf ad)) Ev ?_
    refine Cd ?_ ?_
    ·refine T0 [2] ?_;exact Sr <|Br <|Tr <|Lr o n <|Br <|Jr u <|Rr
    ·refine Sk <|Bn <|Tn <|F0 [1,3,20,21,22] ?_
     exact Ln (ws [0])
   ·refine Sx <|Tx <|Lx o n <|Bx <|?_
    exact Jn ((ws (l':=[(1,.ref 0 0),(3,i64 b)]) (σ':=[.box [.sl false (L Ag a.Ze),.sl false (L Am a.Zf)] false]) [0]).trans (ws [0]))
  intro _;refine Jo (fun _=>⟨Aq 84 [],[]⟩) ?_ ?_
  ·intro aw ae;refine T0 [3,31,32,33] ?_;refine Sb ?_;refine Lo (fun g=>⟨Aq 84 [(3,i64 b),(31,.sl false (L Am a.Zf)),(32,i64 (a.Zf.length:Int)),(33,i64 g)],[]⟩) (ws []) ?_;rintro g ax af p q;show CD a b g=some af→_;unfold CD;refine T0 [3,31,32,33,34] ?_;refine Sq <|Cd ?_ ?_
   ·refine Sk <|Tn <|Sq <|Sb <|Ck fun ag =>Lt fun ah ai =>Lt fun aj ak =>Lt fun al am =>Lt fun an ao =>Lt fun ap aq =>Te (σ':=[.box [i64 ah,i64 aj,i64 al,i64 an,i64 ap] false]) [3,7,31,32,33] Aa (Ev (by simp only[go_sem,qR ag,ai,ak,am,ao,aq];exact AZ)) ?_
    refine Tw [3,31,32,33,82] (fun s=>⟨Aq 84 [(3,i64 b),(31,.sl false (L Am a.Zf)),(32,i64 (a.Zf.length:Int)),(33,i64 g),(82,.bool s)],[]⟩) ?_ ?_
    ·intro _;refine Sp (fun c=>?_) fun c=>?_
     ·exact Lf Aa (Ew1 c) (ws [])
     ·refine Sp (fun d=>?_) fun d=>?_
      ·exact Lf Aa (Ew2 c d) (ws [])
      ·refine Sp (fun e=>?_) fun e=>?_
       ·exact Lf Aa (Ew3 c d e) (ws [])
       ·refine Sp (fun f=>?_) fun f=>?_
        ·exact Lf Aa (Ew4 c d e f) (ws [])
        ·refine Sp (fun i=>?_) fun i=>?_
         ·exact Lf Aa (Ew5 c d e f i) (ws [])
         ·refine Sp (fun l=>?_) fun l=>?_
          ·exact Lf Aa (Ev (by simp only[go_sem,c,d,e,f,i,l];exact AZ)) (ws [])
          ·exact Lf Aa (Ev (by simp only[go_sem,c,d,e,f,i,l];exact AZ)) (ws [])
    intro s;refine Cd ?_ ?_
    ·refine T0 [2] ?_;exact Sr <|Br <|Tr <|Lr q p <|Br <|Jr ae <|Rr
    ·refine Sk <|Bn <|Tn <|F0 [3,31,32,33] ?_
     exact Ln (ws [])
   ·refine Sx <|Tx <|Lx q p <|Bx <|?_
    exact Jn ((ws (l':=[]) (σ':=[]) []).trans (ws []))
  intro _;refine T0 [2] ?_;exact Sr <|Rr
theorem A4{a b r}(h:AB a b=some r):Con B 78 [.bool a,.ref 0 0] [.box [i64 b] false] (fun r' σ'=>r'=.tup []∧σ'=[.box [i64 r] false]):=by
 refine Co 1 5 [] Tryd.func78 (fun F hE=>?_) h;unfold AB;refine T0 [1,4] ?_;refine Cd ?_ ?_
 ·refine F0 [] ?_;exact Ro [0]
 ·exact Sk <|Ro [0]
theorem Ap{b c d r}(h:Ay b c d=some r):Con B 56 [i64 b,i64 c,i64 d] [] (fun r' σ'=>r'=.bool r∧σ'=[]):=by
 refine Cw 15 [.tmp 6] Tryd.func56 (fun F hE=>?_) h;unfold Ay;refine T0 [0,1,2] ?_;refine Tw [6] (fun e=>⟨Aq 15 [(6,.bool e)],[]⟩) ?_ ?_
 ·intro _;refine Sp (fun a=>?_) fun a=>?_
  ·exact Lf Aa (Ew1 a) (ws [])
  ·exact Lf Aa (Ew1 a) (ws [])
 intro e;exact Sr <|Rr
theorem Mr{a r}(h:FT a=some r):Con B 55 [.agg [.sl false (L Ab a.Zx),.sl false (L Ae a.Zy),.sl false (L Ai a.Zz),.sl false (L Ah a.Za1)]] [] (fun r' σ'=>r'=i64 r∧σ'=[]):=by
 refine Cw 206 [.tmp 2] Tryd.func55 (fun F hE=>?_) h;unfold FT;refine T0 [1] ?_;refine Sq ?_;refine Tw [1,38] (fun aI=>⟨Aq 206 [(1,.ref 0 0),(38,.bool aI)],[.box [.sl false (L Ab a.Zx),.sl false (L Ae a.Zy),.sl false (L Ai a.Zz),.sl false (L Ah a.Za1)] false]⟩) ?_ ?_
 ·intro _;refine Sp (fun aa=>?_) fun aa=>?_
  ·exact Lf Aa (Ew1 aa) (ws [0])
  ·refine Sp (fun aj=>?_) fun aj=>?_
   ·exact Lf Aa (Ew2 aa aj) (ws [0])
   ·refine Sp (fun au=>?_) fun au=>?_
    ·exact Lf Aa (Ew3 aa aj au) (ws [0])
    ·exact Lf Aa (Ew3 aa aj au) (ws [0])
 intro aI;refine Cd ?_ ?_
 ·refine T0 [2] ?_;exact Sr <|Tr <|Rr
 ·refine Sk <|Tn <|T0 [1,3] ?_
  refine T0 [1,3,4] ?_;refine Ja (fun aJ=>⟨Aq 206 [(1,.ref 0 0),(3,.ref 1 0),(4,.fn 78 [.ref 1 0])],[.box [.sl false (L Ab a.Zx),.sl false (L Ae a.Zy),.sl false (L Ai a.Zz),.sl false (L Ah a.Za1)] false,.box [i64 aJ] false]⟩) ?_ ?_
  ·intro cf;refine T0 [1,3,4,41,42,43] ?_;refine Sb ?_;refine Lo (fun(v:Int×Int)=>(⟨Aq 206 [(1,.ref 0 0),(3,.ref 1 0),(4,.fn 78 [.ref 1 0]),(41,.sl false (L Ab a.Zx)),(42,i64 (a.Zx.length:Int)),(43,i64 v.1)],[.box [.sl false (L Ab a.Zx),.sl false (L Ae a.Zy),.sl false (L Ai a.Zz),.sl false (L Ah a.Za1)] false,.box [i64 v.2] false]⟩:St)) (ws [0,1]) ?_;rintro⟨x,aK⟩ cg a2 a3 a4;show Di a x aK=some a2→_;unfold Di;refine T0 [1,3,4,41,42,43,44] ?_;refine Sq <|Cd ?_ ?_
   ·refine Sk <|Tn <|?_
    refine Ja (fun aL=>⟨Aq 206 [(1,.ref 0 0),(3,.ref 1 0),(4,.fn 78 [.ref 1 0]),(41,.sl false (L Ab a.Zx)),(42,i64 (a.Zx.length:Int)),(43,i64 x)],[.box [.sl false (L Ab a.Zx),.sl false (L Ae a.Zy),.sl false (L Ai a.Zz),.sl false (L Ah a.Za1)] false,.box [i64 aL] false]⟩) ?_ ?_
    ·intro ch;refine Sb <|Ck fun a5 =>Lt fun d a6 =>Lt fun e a7 =>Lt fun f a8 =>Lt fun g a9 =>Lt fun i ba =>Lt fun j bb =>Lt fun k bc =>Lt fun n bd =>Te (σ':=[_,_,.box [i64 d,i64 e,i64 f,i64 g,i64 i,u64 j,i64 k,i64 n] false]) [1,3,4,6,41,42,43] Aa (Ev (by simp only[go_sem,qR a5,a6,a7,a8,a9,ba,bb,bc,bd];exact AZ)) ?_
     refine Ja (fun ab=>⟨Aq 206 [(1,.ref 0 0),(3,.ref 1 0),(4,.fn 78 [.ref 1 0]),(6,.ref 2 0),(41,.sl false (L Ab a.Zx)),(42,i64 (a.Zx.length:Int)),(43,i64 x)],[.box [.sl false (L Ab a.Zx),.sl false (L Ae a.Zy),.sl false (L Ai a.Zz),.sl false (L Ah a.Za1)] false,.box [i64 ab] false,.box [i64 d,i64 e,i64 f,i64 g,i64 i,u64 j,i64 k,i64 n] false]⟩) ?_ ?_
     ·intro ci;refine Lt fun av be =>Lt fun o bf =>Te (fr':=[(1,_),(3,_),(4,_),(6,_),(41,_),(42,_),(43,_),(55,.bs true 3 (o.length) 0 (o.length)),(56,i64 av),(57,_)]) (σ':=[_,_,_,.buf 1 (L Iy o) false]) [1,3,4,6,41,42,43,55,56,57] Aa (Ew2 be bf) ?_
      refine Sb ?_;refine Lo (fun(v:Int×Int)=>(⟨Aq 206 [(1,.ref 0 0),(3,.ref 1 0),(4,.fn 78 [.ref 1 0]),(6,.ref 2 0),(41,.sl false (L Ab a.Zx)),(42,i64 (a.Zx.length:Int)),(43,i64 x),(55,.bs true 3 (o.length) 0 (o.length)),(56,i64 av),(57,i64 v.1)],[.box [.sl false (L Ab a.Zx),.sl false (L Ae a.Zy),.sl false (L Ai a.Zz),.sl false (L Ah a.Za1)] false,.box [i64 v.2] false,.box [i64 d,i64 e,i64 f,i64 g,i64 i,u64 j,i64 k,i64 n] false,.buf 1 (L Iy o) false]⟩:St)) (ws [0,1,2,3]) ?_;rintro⟨bg,aw⟩ cj bh bi bj;show Ds av o bg aw=some bh→_;unfold Ds;refine T0 [1,3,4,6,41,42,43,55,56,57,58] ?_;refine Sq <|Cd ?_ ?_
      ·refine Sk <|Tn <|Sq <|Sb <|Ck fun bk =>Te [1,3,4,6,8,41,42,43,55,56,57] Aa (Ew1 (qR bk)) ?_
       refine Bd fun bl bm =>Bd fun ck bn =>Fe [1,3,4,6,41,42,43,55,56,57] (Ar (l:=[(63,_,_,_)]) (m:=[(64,78,[.bool bl,.ref 1 0],[.box [.sl false (L Ab a.Zx),.sl false (L Ae a.Zy),.sl false (L Ai a.Zz),.sl false (L Ah a.Za1)] false,.box [i64 aw] false,.box [i64 d,i64 e,i64 f,i64 g,i64 i,u64 j,i64 k,i64 n] false,.buf 1 (L Iy o) false],_,_)]) ⟨Ap  bm,trivial⟩ ⟨(wc (A4 bn) [1]),trivial⟩) Ev ?_
       refine Bn <|Tn <|F0 [1,3,4,6,41,42,43,55,56,57] ?_
       exact Ln (ws [0,1,2,3])
      ·refine Sx <|Tx <|Ly bj bi <|Bx <|?_
       exact Jm ((ws (l':=[(1,.ref 0 0),(3,.ref 1 0),(4,.fn 78 [.ref 1 0]),(6,.ref 2 0),(41,.sl false (L Ab a.Zx)),(42,i64 (a.Zx.length:Int)),(43,i64 x)]) (σ':=[.box [.sl false (L Ab a.Zx),.sl false (L Ae a.Zy),.sl false (L Ai a.Zz),.sl false (L Ah a.Za1)] false,.box [i64 aw] false,.box [i64 d,i64 e,i64 f,i64 g,i64 i,u64 j,i64 k,i64 n] false]) [0,1,2]).trans (ws [0,1,2]))
     intro ab;refine Fw [1,3,4,41,42,43] (fun aM=>⟨Aq 206 [(1,.ref 0 0),(3,.ref 1 0),(4,.fn 78 [.ref 1 0]),(41,.sl false (L Ab a.Zx)),(42,i64 (a.Zx.length:Int)),(43,i64 x)],[.box [.sl false (L Ab a.Zx),.sl false (L Ae a.Zy),.sl false (L Ai a.Zz),.sl false (L Ah a.Za1)] false,.box [i64 aM] false]⟩) ?_ ?_
     ·intro _;refine Bd fun cl ax=>?_
      refine Sp (fun ak=>?_) fun ak=>?_
      ·refine Bd fun cm aN=>?_
       refine Sp (fun ay=>?_) fun ay=>?_
       ·refine Bd fun bo bp =>Bd fun cn bq =>?_
        exact Lf (Ar (l:=[(69,_,_,_),(73,_,_,_),(78,_,_,_)]) (m:=[(80,78,[.bool bo,.ref 1 0],[.box [.sl false (L Ab a.Zx),.sl false (L Ae a.Zy),.sl false (L Ai a.Zz),.sl false (L Ah a.Za1)] false,.box [i64 ab] false,.box [i64 d,i64 e,i64 f,i64 g,i64 i,u64 j,i64 k,i64 n] false],_,_)]) ⟨Ap  ax,Ap  aN,Ap  bp,trivial⟩ ⟨(wc (A4 bq) [1]),trivial⟩) (Ew2 ak ay) (ws [0,1])
       ·refine Bd fun co br=>?_
        exact Lf (Ar (l:=[(69,_,_,_),(73,_,_,_)]) (m:=[(80,78,[.bool false,.ref 1 0],[.box [.sl false (L Ab a.Zx),.sl false (L Ae a.Zy),.sl false (L Ai a.Zz),.sl false (L Ah a.Za1)] false,.box [i64 ab] false,.box [i64 d,i64 e,i64 f,i64 g,i64 i,u64 j,i64 k,i64 n] false],_,_)]) ⟨Ap  ax,Ap  aN,trivial⟩ ⟨(wc (A4 br) [1]),trivial⟩) (Ew2 ak ay) (ws [0,1])
      ·refine Bd fun cp bt=>?_
       exact Lf (Ar (l:=[(69,_,_,_)]) (m:=[(80,78,[.bool false,.ref 1 0],[.box [.sl false (L Ab a.Zx),.sl false (L Ae a.Zy),.sl false (L Ai a.Zz),.sl false (L Ah a.Za1)] false,.box [i64 ab] false,.box [i64 d,i64 e,i64 f,i64 g,i64 i,u64 j,i64 k,i64 n] false],_,_)]) ⟨Ap  ax,trivial⟩ ⟨(wc (A4 bt) [1]),trivial⟩) (Ew1 ak) (ws [0,1])
     intro aM;exact Bn <|Jm (ws [0,1])
    intro aL;refine F0 [1,3,4,41,42,43] ?_;exact Ln (ws [0,1])
   ·refine Sx <|Tx <|Ly a4 a3 <|Bx <|?_
    exact Jm ((ws (l':=[(1,.ref 0 0),(3,.ref 1 0),(4,.fn 78 [.ref 1 0])]) (σ':=[.box [.sl false (L Ab a.Zx),.sl false (L Ae a.Zy),.sl false (L Ai a.Zz),.sl false (L Ah a.Za1)] false,.box [i64 aK] false]) [0,1]).trans (ws [0,1]))
  intro aJ;refine Ja (fun aO=>⟨Aq 206 [(1,.ref 0 0),(3,.ref 1 0),(4,.fn 78 [.ref 1 0])],[.box [.sl false (L Ab a.Zx),.sl false (L Ae a.Zy),.sl false (L Ai a.Zz),.sl false (L Ah a.Za1)] false,.box [i64 aO] false]⟩) ?_ ?_
  ·intro cq;refine T0 [1,3,4,83,84,85] ?_;refine Sb ?_;refine Lo (fun(v:Int×Int)=>(⟨Aq 206 [(1,.ref 0 0),(3,.ref 1 0),(4,.fn 78 [.ref 1 0]),(83,.sl false (L Ae a.Zy)),(84,i64 (a.Zy.length:Int)),(85,i64 v.1)],[.box [.sl false (L Ab a.Zx),.sl false (L Ae a.Zy),.sl false (L Ai a.Zz),.sl false (L Ah a.Za1)] false,.box [i64 v.2] false]⟩:St)) (ws [0,1]) ?_;rintro⟨az,ac⟩ cr bu bv bw;show Dm a az ac=some bu→_;unfold Dm;refine T0 [1,3,4,83,84,85,86] ?_;refine Sq <|Cd ?_ ?_
   ·refine Sk <|Tn <|Sq <|Sb <|Ck fun bx =>Lt fun p bz =>Lt fun q bA =>Lt fun s bB =>Lt fun t bC =>Lt fun u bD =>Te (σ':=[_,_,.box [i64 p,i64 q,i64 s,i64 t,i64 u] false]) [1,3,4,10,83,84,85] Aa (Ev (by simp only[go_sem,qR bx,bz,bA,bB,bC,bD];exact AZ)) ?_
    refine Tw [1,3,4,10,83,84,85] (fun al=>⟨Aq 206 [(1,.ref 0 0),(3,.ref 1 0),(4,.fn 78 [.ref 1 0]),(10,.ref 2 0),(83,.sl false (L Ae a.Zy)),(84,i64 (a.Zy.length:Int)),(85,i64 az)],[.box [.sl false (L Ab a.Zx),.sl false (L Ae a.Zy),.sl false (L Ai a.Zz),.sl false (L Ah a.Za1)] false,.box [i64 al] false,.box [i64 p,i64 q,i64 s,i64 t,i64 u] false]⟩) ?_ ?_
    ·intro _;refine Bd fun cs aA=>?_
     refine Sp (fun am=>?_) fun am=>?_
     ·refine Bd fun ct aP=>?_
      refine Sp (fun aB=>?_) fun aB=>?_
      ·refine Bd fun bE bF =>Bd fun cu bG =>?_
       exact Lf (Ar (l:=[(96,_,_,_),(100,_,_,_),(105,_,_,_)]) (m:=[(107,78,[.bool bE,.ref 1 0],[.box [.sl false (L Ab a.Zx),.sl false (L Ae a.Zy),.sl false (L Ai a.Zz),.sl false (L Ah a.Za1)] false,.box [i64 ac] false,.box [i64 p,i64 q,i64 s,i64 t,i64 u] false],_,_)]) ⟨Ap  aA,Ap  aP,Ap  bF,trivial⟩ ⟨(wc (A4 bG) [1]),trivial⟩) (Ew2 am aB) (ws [0,1,2])
      ·refine Bd fun cv bH=>?_
       exact Lf (Ar (l:=[(96,_,_,_),(100,_,_,_)]) (m:=[(107,78,[.bool false,.ref 1 0],[.box [.sl false (L Ab a.Zx),.sl false (L Ae a.Zy),.sl false (L Ai a.Zz),.sl false (L Ah a.Za1)] false,.box [i64 ac] false,.box [i64 p,i64 q,i64 s,i64 t,i64 u] false],_,_)]) ⟨Ap  aA,Ap  aP,trivial⟩ ⟨(wc (A4 bH) [1]),trivial⟩) (Ew2 am aB) (ws [0,1,2])
     ·refine Bd fun cw bI=>?_
      exact Lf (Ar (l:=[(96,_,_,_)]) (m:=[(107,78,[.bool false,.ref 1 0],[.box [.sl false (L Ab a.Zx),.sl false (L Ae a.Zy),.sl false (L Ai a.Zz),.sl false (L Ah a.Za1)] false,.box [i64 ac] false,.box [i64 p,i64 q,i64 s,i64 t,i64 u] false],_,_)]) ⟨Ap  aA,trivial⟩ ⟨(wc (A4 bI) [1]),trivial⟩) (Ew1 am) (ws [0,1,2])
    intro al;refine Fw [1,3,4,83,84,85] (fun aQ=>⟨Aq 206 [(1,.ref 0 0),(3,.ref 1 0),(4,.fn 78 [.ref 1 0]),(83,.sl false (L Ae a.Zy)),(84,i64 (a.Zy.length:Int)),(85,i64 az)],[.box [.sl false (L Ab a.Zx),.sl false (L Ae a.Zy),.sl false (L Ai a.Zz),.sl false (L Ah a.Za1)] false,.box [i64 aQ] false]⟩) ?_ ?_
    ·intro _;refine Bd fun cx aR=>?_
     refine Sp (fun aC=>?_) fun aC=>?_
     ·refine Bd fun bJ bK =>Bd fun cy bL =>?_
      exact Lf (Ar (l:=[(111,_,_,_),(115,_,_,_)]) (m:=[(117,78,[.bool bJ,.ref 1 0],[.box [.sl false (L Ab a.Zx),.sl false (L Ae a.Zy),.sl false (L Ai a.Zz),.sl false (L Ah a.Za1)] false,.box [i64 al] false,.box [i64 p,i64 q,i64 s,i64 t,i64 u] false],_,_)]) ⟨Ap  aR,Ap  bK,trivial⟩ ⟨(wc (A4 bL) [1]),trivial⟩) (Ew1 aC) (ws [0,1])
     ·refine Bd fun cz bM=>?_
      exact Lf (Ar (l:=[(111,_,_,_)]) (m:=[(117,78,[.bool false,.ref 1 0],[.box [.sl false (L Ab a.Zx),.sl false (L Ae a.Zy),.sl false (L Ai a.Zz),.sl false (L Ah a.Za1)] false,.box [i64 al] false,.box [i64 p,i64 q,i64 s,i64 t,i64 u] false],_,_)]) ⟨Ap  aR,trivial⟩ ⟨(wc (A4 bM) [1]),trivial⟩) (Ew1 aC) (ws [0,1])
    intro aQ;refine Bn <|Tn <|F0 [1,3,4,83,84,85] ?_
    exact Ln (ws [0,1])
   ·refine Sx <|Tx <|Ly bw bv <|Bx <|?_
    exact Jm ((ws (l':=[(1,.ref 0 0),(3,.ref 1 0),(4,.fn 78 [.ref 1 0])]) (σ':=[.box [.sl false (L Ab a.Zx),.sl false (L Ae a.Zy),.sl false (L Ai a.Zz),.sl false (L Ah a.Za1)] false,.box [i64 ac] false]) [0,1]).trans (ws [0,1]))
  intro aO;refine Ja (fun aS=>⟨Aq 206 [(1,.ref 0 0),(3,.ref 1 0),(4,.fn 78 [.ref 1 0])],[.box [.sl false (L Ab a.Zx),.sl false (L Ae a.Zy),.sl false (L Ai a.Zz),.sl false (L Ah a.Za1)] false,.box [i64 aS] false]⟩) ?_ ?_
  ·intro cA;refine T0 [1,3,4,120,121,122] ?_;refine Sb ?_;refine Lo (fun(v:Int×Int)=>(⟨Aq 206 [(1,.ref 0 0),(3,.ref 1 0),(4,.fn 78 [.ref 1 0]),(120,.sl false (L Ai a.Zz)),(121,i64 (a.Zz.length:Int)),(122,i64 v.1)],[.box [.sl false (L Ab a.Zx),.sl false (L Ae a.Zy),.sl false (L Ai a.Zz),.sl false (L Ah a.Za1)] false,.box [i64 v.2] false]⟩:St)) (ws [0,1]) ?_;rintro⟨aT,y⟩ cB bN bO bP;show Dp a aT y=some bN→_;unfold Dp;refine T0 [1,3,4,120,121,122,123] ?_;refine Sq <|Cd ?_ ?_
   ·refine Sk <|Tn <|Sq <|Sb <|Ck fun bQ =>Lt fun ad bR =>Lt fun ae bS =>Lt fun af bT =>Te (σ':=[_,_,.box [i64 ad,i64 ae,i64 af] false]) [1,3,4,12,120,121,122] Aa (Ew4 (qR bQ) bR bS bT) ?_
    refine Fw [1,3,4,120,121,122] (fun aU=>⟨Aq 206 [(1,.ref 0 0),(3,.ref 1 0),(4,.fn 78 [.ref 1 0]),(120,.sl false (L Ai a.Zz)),(121,i64 (a.Zz.length:Int)),(122,i64 aT)],[.box [.sl false (L Ab a.Zx),.sl false (L Ae a.Zy),.sl false (L Ai a.Zz),.sl false (L Ah a.Za1)] false,.box [i64 aU] false]⟩) ?_ ?_
    ·intro _;refine Bd fun cC an=>?_
     refine Sp (fun ag=>?_) fun ag=>?_
     ·refine Bd fun cD aD=>?_
      refine Sp (fun ao=>?_) fun ao=>?_
      ·refine Sp (fun aE=>?_) fun aE=>?_
       ·refine Bd fun bU bV =>Bd fun cE bW =>?_
        exact Lf (Ar (l:=[(133,_,_,_),(141,_,_,_),(153,_,_,_)]) (m:=[(155,78,[.bool bU,.ref 1 0],[.box [.sl false (L Ab a.Zx),.sl false (L Ae a.Zy),.sl false (L Ai a.Zz),.sl false (L Ah a.Za1)] false,.box [i64 y] false,.box [i64 ad,i64 ae,i64 af] false],_,_)]) ⟨Ap  an,Ap  aD,Ap  bV,trivial⟩ ⟨(wc (A4 bW) [1]),trivial⟩) (Ew3 ag ao aE) (ws [0,1])
       ·refine Bd fun cF bX=>?_
        exact Lf (Ar (l:=[(133,_,_,_),(141,_,_,_)]) (m:=[(155,78,[.bool false,.ref 1 0],[.box [.sl false (L Ab a.Zx),.sl false (L Ae a.Zy),.sl false (L Ai a.Zz),.sl false (L Ah a.Za1)] false,.box [i64 y] false,.box [i64 ad,i64 ae,i64 af] false],_,_)]) ⟨Ap  an,Ap  aD,trivial⟩ ⟨(wc (A4 bX) [1]),trivial⟩) (Ew3 ag ao aE) (ws [0,1])
      ·refine Bd fun cG bY=>?_
       exact Lf (Ar (l:=[(133,_,_,_),(141,_,_,_)]) (m:=[(155,78,[.bool false,.ref 1 0],[.box [.sl false (L Ab a.Zx),.sl false (L Ae a.Zy),.sl false (L Ai a.Zz),.sl false (L Ah a.Za1)] false,.box [i64 y] false,.box [i64 ad,i64 ae,i64 af] false],_,_)]) ⟨Ap  an,Ap  aD,trivial⟩ ⟨(wc (A4 bY) [1]),trivial⟩) (Ew2 ag ao) (ws [0,1])
     ·refine Bd fun cH bZ=>?_
      exact Lf (Ar (l:=[(133,_,_,_)]) (m:=[(155,78,[.bool false,.ref 1 0],[.box [.sl false (L Ab a.Zx),.sl false (L Ae a.Zy),.sl false (L Ai a.Zz),.sl false (L Ah a.Za1)] false,.box [i64 y] false,.box [i64 ad,i64 ae,i64 af] false],_,_)]) ⟨Ap  an,trivial⟩ ⟨(wc (A4 bZ) [1]),trivial⟩) (Ew1 ag) (ws [0,1])
    intro aU;refine Bn <|Tn <|F0 [1,3,4,120,121,122] ?_
    exact Ln (ws [0,1])
   ·refine Sx <|Tx <|Ly bP bO <|Bx <|?_
    exact Jm ((ws (l':=[(1,.ref 0 0),(3,.ref 1 0),(4,.fn 78 [.ref 1 0])]) (σ':=[.box [.sl false (L Ab a.Zx),.sl false (L Ae a.Zy),.sl false (L Ai a.Zz),.sl false (L Ah a.Za1)] false,.box [i64 y] false]) [0,1]).trans (ws [0,1]))
  intro aS;refine T0 [1,3,4,13] ?_;refine Ja (fun aV=>⟨Aq 206 [(3,.ref 0 0)],[.box [i64 aV] false]⟩) ?_ ?_
  ·intro cI;refine T0 [3,4,13,158,159,160] ?_;refine Sb ?_;refine Lo (fun⟨ah,z,w⟩=>⟨Aq 206 [(3,.ref 0 0),(4,.fn 78 [.ref 0 0]),(13,.ref 1 0),(158,.sl false (L Ah a.Za1)),(159,i64 (a.Za1.length:Int)),(160,i64 ah)],[.box [i64 z] false,.box (C1 AV.bool w.l) false]⟩) (ws [1,2]) ?_;rintro⟨ah,z,w⟩ cJ b0 b1 b2;show Dt a ah z w=some b0→_;unfold Dt;refine T0 [3,4,13,158,159,160,161] ?_;refine Sq <|Cd ?_ ?_
   ·refine Sk <|Tn <|?_
    refine Ja (fun(v:Int×Arr Bool 4096)=>(⟨Aq 206 [(3,.ref 0 0),(4,.fn 78 [.ref 0 0]),(13,.ref 1 0),(158,.sl false (L Ah a.Za1)),(159,i64 (a.Za1.length:Int)),(160,i64 ah)],[.box [i64 v.1] false,.box (C1 AV.bool v.2.l) false]⟩:St)) ?_ ?_
    ·intro cK;refine Sb <|Ck fun b3 =>Lt fun b b4 =>Lt fun c b5 =>Lt fun ap b6 =>Te (σ':=[_,_,.box [i64 b,i64 c,i64 ap] false]) [3,4,13,15,158,159,160] Aa (Ew4 (qR b3) b4 b5 b6) ?_
     refine Tw [3,4,13,15,16,158,159,160] (fun aF=>⟨Aq 206 [(3,.ref 0 0),(4,.fn 78 [.ref 0 0]),(13,.ref 1 0),(15,.ref 2 0),(16,.bool aF),(158,.sl false (L Ah a.Za1)),(159,i64 (a.Za1.length:Int)),(160,i64 ah)],[.box [i64 z] false,.box (C1 AV.bool w.l) false,.box [i64 b,i64 c,i64 ap] false]⟩) ?_ ?_
     ·intro _;refine Bd fun cL aq=>?_
      refine Sp (fun ai=>?_) fun ai=>?_
      ·refine Bd fun cM aG=>?_
       refine Sp (fun ar=>?_) fun ar=>?_
       ·refine Sp (fun aH=>?_) fun aH=>?_
        ·refine Bd fun cN b7=>?_
         exact Lf (D7 (l:=[(166,_,_,_),(170,_,_,_),(182,_,_,_)]) ⟨Ap  aq,Ap  aG,Ap  b7,trivial⟩) (Ew3 ai ar aH) (ws [0,1,2])
        ·exact Lf (o2 166 (Ap aq) 170 (Ap aG)) (Ew3 ai ar aH) (ws [0,1,2])
       ·exact Lf (o2 166 (Ap aq) 170 (Ap aG)) (Ew2 ai ar) (ws [0,1,2])
      ·exact Lf (o1 166 (Ap aq)) (Ew1 ai) (ws [0,1,2])
     intro aF;refine Bd fun b8 b9 =>Te [3,4,13,15,16,158,159,160] (Ar (l:=[]) (m:=[(186,78,[.bool aF,.ref 0 0],[.box [i64 z] false,.box (C1 AV.bool w.l) false,.box [i64 b,i64 c,i64 ap] false],_,_)]) trivial ⟨(wc (A4 b9) [0]),trivial⟩) Ev ?_
     refine T0 [3,4,13,15,158,159,160,187] ?_;refine Cd ?_ ?_
     ·refine Ck fun aW =>Ck fun aX =>?_
      have aY:b.toNat*64+c.toNat<4096:=XN aW.2 aX.2;have ca:b.toNat*64+c.toNat≤4095:=Nat.le_of_lt_succ aY;refine Bd fun cO cb=>?_
      refine Dq [[],[],[1],[],[3],[1,2],[1,2,3,4,5],[1,2,3,4,5,6],[1,2,3,4,5,6,7],[0,1,2,3,4,5,6,7,8]] [3,4,13,15,158,159,160] (Ar (l:=[]) (m:=[(197,78,[.bool (!(w.get (b.toNat*64+c.toNat))),.ref 0 0],[.box [i64 b8] false,.box (C1 AV.bool w.l) false,.box [i64 b,i64 c,i64 ap] false],_,_)]) trivial ⟨(wc (A4 cb) [0]),trivial⟩) (Ew4 (qR aW) (qR aX) aY ca) ?_;refine Ck fun aZ =>Ck fun a0 =>?_
      have a1:b.toNat*64+c.toNat<4096:=XN aZ.2 a0.2;have cc:b.toNat*64+c.toNat≤4095:=Nat.le_of_lt_succ a1;refine Lt fun cd ce =>Ge (σ':=[_,.box (C1 AV.bool cd.l) false,_]) [[],[0],[],[2],[0,1],[0,1,2,3,4],[0,1,2,3,4,5]] [3,4,13,158,159,160] Aa (Ew5 (qR aZ) (qR a0) a1 cc ce) ?_
      exact Bn <|Jm (ws [0,1])
     ·exact Sk <|Bn <|Jm (ws [0,1])
    rintro⟨cP,cQ⟩;refine F0 [3,4,13,158,159,160] ?_;exact Ln (ws [0,1])
   ·refine Sx <|Tx <|Ly b2 b1 <|Bx <|?_
    exact Jm ((ws (l':=[(3,.ref 0 0)]) (σ':=[.box [i64 z] false]) [0]).trans (ws [0]))
  intro aV;refine T0 [2] ?_;exact Sr <|Rr
theorem Gx{a r}(h:Ec a=some r):Con B 57 [.agg [i64 a.Zd1.1.Zw,i64 a.Zd1.1.To,i64 a.Zd1.2.1.Zw,i64 a.Zd1.2.1.To,i64 a.Zd1.2.2.1.Zw,i64 a.Zd1.2.2.1.To,i64 a.Zd1.2.2.2.1.Zw,i64 a.Zd1.2.2.2.1.To,i64 a.Zd1.2.2.2.2.1.Zw,i64 a.Zd1.2.2.2.2.1.To,i64 a.Zd1.2.2.2.2.2.1.Zw,i64 a.Zd1.2.2.2.2.2.1.To,i64 a.Zd1.2.2.2.2.2.2.Zw,i64 a.Zd1.2.2.2.2.2.2.To,.sl false (L Iy a.Ze1)]] [] (fun r' σ'=>r'=i64 r∧σ'=[]):=by
 refine Cw 45 [.tmp 2] Tryd.func57 (fun F hE=>?_) h;unfold Ec;refine Lt fun b aq =>Lt fun c ar =>Te (σ':=[.box [i64 a.Zd1.1.Zw,i64 a.Zd1.1.To,i64 a.Zd1.2.1.Zw,i64 a.Zd1.2.1.To,i64 a.Zd1.2.2.1.Zw,i64 a.Zd1.2.2.1.To,i64 a.Zd1.2.2.2.1.Zw,i64 a.Zd1.2.2.2.1.To,i64 a.Zd1.2.2.2.2.1.Zw,i64 a.Zd1.2.2.2.2.1.To,i64 b,i64 a.Zd1.2.2.2.2.2.1.To,i64 c,i64 a.Zd1.2.2.2.2.2.2.To,.sl false (L Iy a.Ze1)] false]) [1] Aa (Ew2 aq ar) ?_
 refine Jo (fun _=>⟨Aq 45 [(1,.ref 0 0)],[.box [i64 a.Zd1.1.Zw,i64 a.Zd1.1.To,i64 a.Zd1.2.1.Zw,i64 a.Zd1.2.1.To,i64 a.Zd1.2.2.1.Zw,i64 a.Zd1.2.2.1.To,i64 a.Zd1.2.2.2.1.Zw,i64 a.Zd1.2.2.2.1.To,i64 a.Zd1.2.2.2.2.1.Zw,i64 a.Zd1.2.2.2.2.1.To,i64 b,i64 a.Zd1.2.2.2.2.2.1.To,i64 c,i64 a.Zd1.2.2.2.2.2.2.To,.sl false (L Iy a.Ze1)] false]⟩) ?_ ?_
 ·intro aG d;refine T0 [1,9,10] ?_;refine Sb ?_;refine Ul 17 ?_;refine Ug (m:=16) ?_;refine T0 [1,9,10,11] ?_;refine Sq <|Ct <|Sk <|Tn <|Sq <|Sb <|?_
  have x:InR 0 7:=by decide
  refine Te [1,4,9,10] Aa (Ev (by simp only[go_sem,x,x.2];exact AZ)) ?_;refine Tw [1,9,10,27] (fun y=>⟨Aq 45 [(1,.ref 0 0),(9,.agg [i64 a.Zd1.1.Zw,i64 a.Zd1.1.To,i64 a.Zd1.2.1.Zw,i64 a.Zd1.2.1.To,i64 a.Zd1.2.2.1.Zw,i64 a.Zd1.2.2.1.To,i64 a.Zd1.2.2.2.1.Zw,i64 a.Zd1.2.2.2.1.To,i64 a.Zd1.2.2.2.2.1.Zw,i64 a.Zd1.2.2.2.2.1.To,i64 b,i64 a.Zd1.2.2.2.2.2.1.To,i64 c,i64 a.Zd1.2.2.2.2.2.2.To]),(10,i64 0),(27,.bool y)],[.box [i64 a.Zd1.1.Zw,i64 a.Zd1.1.To,i64 a.Zd1.2.1.Zw,i64 a.Zd1.2.1.To,i64 a.Zd1.2.2.1.Zw,i64 a.Zd1.2.2.1.To,i64 a.Zd1.2.2.2.1.Zw,i64 a.Zd1.2.2.2.1.To,i64 a.Zd1.2.2.2.2.1.Zw,i64 a.Zd1.2.2.2.2.1.To,i64 b,i64 a.Zd1.2.2.2.2.2.1.To,i64 c,i64 a.Zd1.2.2.2.2.2.2.To,.sl false (L Iy a.Ze1)] false]⟩) ?_ ?_
  ·intro _;refine Sp (fun e=>?_) fun e=>?_
   ·exact Lf Aa (Ew1 e) (ws [0])
   ·refine Sp (fun n=>?_) fun n=>?_
    ·exact Lf Aa (Ew2 e n) (ws [0])
    ·exact Lf Aa (Ew2 e n) (ws [0])
  intro y;refine Cd ?_ ?_
  ·refine T0 [2] ?_;exact Sr <|Br <|Tr <|Ur <|Br <|Jr d <|Rr
  ·refine Sk <|Bn <|Tn <|?_
   have au:w64 1=1:=by decide
   refine Fe [1,9,10] Aa (Ew1 au) ?_;refine Un ?_;refine Ug (m:=15) ?_;refine T0 [1,9,10,11] ?_;refine Sq <|Ct <|Sk <|Tn <|Sq <|Sb <|?_
   have z:InR 1 7:=by decide
   refine Te [1,4,9,10] Aa (Ev (by simp only[go_sem,z,z.2];exact AZ)) ?_;refine Tw [1,9,10,27] (fun aa=>⟨Aq 45 [(1,.ref 0 0),(9,.agg [i64 a.Zd1.1.Zw,i64 a.Zd1.1.To,i64 a.Zd1.2.1.Zw,i64 a.Zd1.2.1.To,i64 a.Zd1.2.2.1.Zw,i64 a.Zd1.2.2.1.To,i64 a.Zd1.2.2.2.1.Zw,i64 a.Zd1.2.2.2.1.To,i64 a.Zd1.2.2.2.2.1.Zw,i64 a.Zd1.2.2.2.2.1.To,i64 b,i64 a.Zd1.2.2.2.2.2.1.To,i64 c,i64 a.Zd1.2.2.2.2.2.2.To]),(10,i64 1),(27,.bool aa)],[.box [i64 a.Zd1.1.Zw,i64 a.Zd1.1.To,i64 a.Zd1.2.1.Zw,i64 a.Zd1.2.1.To,i64 a.Zd1.2.2.1.Zw,i64 a.Zd1.2.2.1.To,i64 a.Zd1.2.2.2.1.Zw,i64 a.Zd1.2.2.2.1.To,i64 a.Zd1.2.2.2.2.1.Zw,i64 a.Zd1.2.2.2.2.1.To,i64 b,i64 a.Zd1.2.2.2.2.2.1.To,i64 c,i64 a.Zd1.2.2.2.2.2.2.To,.sl false (L Iy a.Ze1)] false]⟩) ?_ ?_
   ·intro _;refine Sp (fun f=>?_) fun f=>?_
    ·exact Lf Aa (Ew1 f) (ws [0])
    ·refine Sp (fun o=>?_) fun o=>?_
     ·exact Lf Aa (Ew2 f o) (ws [0])
     ·exact Lf Aa (Ew2 f o) (ws [0])
   intro aa;refine Cd ?_ ?_
   ·refine T0 [2] ?_;exact Sr <|Br <|Tr <|Ur <|Br <|Jr d <|Rr
   ·refine Sk <|Bn <|Tn <|?_
    have av:w64 2=2:=by decide
    refine Fe [1,9,10] Aa (Ew1 av) ?_;refine Un ?_;refine Ug (m:=14) ?_;refine T0 [1,9,10,11] ?_;refine Sq <|Ct <|Sk <|Tn <|Sq <|Sb <|?_
    have ab:InR 2 7:=by decide
    refine Te [1,4,9,10] Aa (Ev (by simp only[go_sem,ab,ab.2];exact AZ)) ?_;refine Tw [1,9,10,27] (fun ac=>⟨Aq 45 [(1,.ref 0 0),(9,.agg [i64 a.Zd1.1.Zw,i64 a.Zd1.1.To,i64 a.Zd1.2.1.Zw,i64 a.Zd1.2.1.To,i64 a.Zd1.2.2.1.Zw,i64 a.Zd1.2.2.1.To,i64 a.Zd1.2.2.2.1.Zw,i64 a.Zd1.2.2.2.1.To,i64 a.Zd1.2.2.2.2.1.Zw,i64 a.Zd1.2.2.2.2.1.To,i64 b,i64 a.Zd1.2.2.2.2.2.1.To,i64 c,i64 a.Zd1.2.2.2.2.2.2.To]),(10,i64 2),(27,.bool ac)],[.box [i64 a.Zd1.1.Zw,i64 a.Zd1.1.To,i64 a.Zd1.2.1.Zw,i64 a.Zd1.2.1.To,i64 a.Zd1.2.2.1.Zw,i64 a.Zd1.2.2.1.To,i64 a.Zd1.2.2.2.1.Zw,i64 a.Zd1.2.2.2.1.To,i64 a.Zd1.2.2.2.2.1.Zw,i64 a.Zd1.2.2.2.2.1.To,i64 b,i64 a.Zd1.2.2.2.2.2.1.To,i64 c,i64 a.Zd1.2.2.2.2.2.2.To,.sl false (L Iy a.Ze1)] false]⟩) ?_ ?_
    ·intro _;refine Sp (fun g=>?_) fun g=>?_
     ·exact Lf Aa (Ew1 g) (ws [0])
     ·refine Sp (fun p=>?_) fun p=>?_
      ·exact Lf Aa (Ew2 g p) (ws [0])
      ·exact Lf Aa (Ew2 g p) (ws [0])
    intro ac;refine Cd ?_ ?_
    ·refine T0 [2] ?_;exact Sr <|Br <|Tr <|Ur <|Br <|Jr d <|Rr
    ·refine Sk <|Bn <|Tn <|?_
     have aw:w64 3=3:=by decide
     refine Fe [1,9,10] Aa (Ew1 aw) ?_;refine Un ?_;refine Ug (m:=13) ?_;refine T0 [1,9,10,11] ?_;refine Sq <|Ct <|Sk <|Tn <|Sq <|Sb <|?_
     have ad:InR 3 7:=by decide
     refine Te [1,4,9,10] Aa (Ev (by simp only[go_sem,ad,ad.2];exact AZ)) ?_;refine Tw [1,9,10,27] (fun ae=>⟨Aq 45 [(1,.ref 0 0),(9,.agg [i64 a.Zd1.1.Zw,i64 a.Zd1.1.To,i64 a.Zd1.2.1.Zw,i64 a.Zd1.2.1.To,i64 a.Zd1.2.2.1.Zw,i64 a.Zd1.2.2.1.To,i64 a.Zd1.2.2.2.1.Zw,i64 a.Zd1.2.2.2.1.To,i64 a.Zd1.2.2.2.2.1.Zw,i64 a.Zd1.2.2.2.2.1.To,i64 b,i64 a.Zd1.2.2.2.2.2.1.To,i64 c,i64 a.Zd1.2.2.2.2.2.2.To]),(10,i64 3),(27,.bool ae)],[.box [i64 a.Zd1.1.Zw,i64 a.Zd1.1.To,i64 a.Zd1.2.1.Zw,i64 a.Zd1.2.1.To,i64 a.Zd1.2.2.1.Zw,i64 a.Zd1.2.2.1.To,i64 a.Zd1.2.2.2.1.Zw,i64 a.Zd1.2.2.2.1.To,i64 a.Zd1.2.2.2.2.1.Zw,i64 a.Zd1.2.2.2.2.1.To,i64 b,i64 a.Zd1.2.2.2.2.2.1.To,i64 c,i64 a.Zd1.2.2.2.2.2.2.To,.sl false (L Iy a.Ze1)] false]⟩) ?_ ?_
     ·intro _;refine Sp (fun i=>?_) fun i=>?_
      ·exact Lf Aa (Ew1 i) (ws [0])
      ·refine Sp (fun q=>?_) fun q=>?_
       ·exact Lf Aa (Ew2 i q) (ws [0])
       ·exact Lf Aa (Ew2 i q) (ws [0])
     intro ae;refine Cd ?_ ?_
     ·refine T0 [2] ?_;exact Sr <|Br <|Tr <|Ur <|Br <|Jr d <|Rr
     ·refine Sk <|Bn <|Tn <|?_
      have ax:w64 4=4:=by decide
      refine Fe [1,9,10] Aa (Ew1 ax) ?_;refine Un ?_;refine Ug (m:=12) ?_;refine T0 [1,9,10,11] ?_;refine Sq <|Ct <|Sk <|Tn <|Sq <|Sb <|?_
      have af:InR 4 7:=by decide
      refine Te [1,4,9,10] Aa (Ev (by simp only[go_sem,af,af.2];exact AZ)) ?_;refine Tw [1,9,10,27] (fun ag=>⟨Aq 45 [(1,.ref 0 0),(9,.agg [i64 a.Zd1.1.Zw,i64 a.Zd1.1.To,i64 a.Zd1.2.1.Zw,i64 a.Zd1.2.1.To,i64 a.Zd1.2.2.1.Zw,i64 a.Zd1.2.2.1.To,i64 a.Zd1.2.2.2.1.Zw,i64 a.Zd1.2.2.2.1.To,i64 a.Zd1.2.2.2.2.1.Zw,i64 a.Zd1.2.2.2.2.1.To,i64 b,i64 a.Zd1.2.2.2.2.2.1.To,i64 c,i64 a.Zd1.2.2.2.2.2.2.To]),(10,i64 4),(27,.bool ag)],[.box [i64 a.Zd1.1.Zw,i64 a.Zd1.1.To,i64 a.Zd1.2.1.Zw,i64 a.Zd1.2.1.To,i64 a.Zd1.2.2.1.Zw,i64 a.Zd1.2.2.1.To,i64 a.Zd1.2.2.2.1.Zw,i64 a.Zd1.2.2.2.1.To,i64 a.Zd1.2.2.2.2.1.Zw,i64 a.Zd1.2.2.2.2.1.To,i64 b,i64 a.Zd1.2.2.2.2.2.1.To,i64 c,i64 a.Zd1.2.2.2.2.2.2.To,.sl false (L Iy a.Ze1)] false]⟩) ?_ ?_
      ·intro _;refine Sp (fun j=>?_) fun j=>?_
       ·exact Lf Aa (Ew1 j) (ws [0])
       ·refine Sp (fun s=>?_) fun s=>?_
        ·exact Lf Aa (Ew2 j s) (ws [0])
        ·exact Lf Aa (Ew2 j s) (ws [0])
      intro ag;refine Cd ?_ ?_
      ·refine T0 [2] ?_;exact Sr <|Br <|Tr <|Ur <|Br <|Jr d <|Rr
      ·refine Sk <|Bn <|Tn <|?_
       have ay:w64 5=5:=by decide
       refine Fe [1,9,10] Aa (Ew1 ay) ?_;refine Un ?_;refine Ug (m:=11) ?_;refine T0 [1,9,10,11] ?_;refine Sq <|Ct <|Sk <|Tn <|Sq <|Sb <|?_
       have ah:InR 5 7:=by decide
       refine Te [1,4,9,10] Aa (Ev (by simp only[go_sem,ah,ah.2];exact AZ)) ?_;refine Tw [1,9,10,27] (fun ai=>⟨Aq 45 [(1,.ref 0 0),(9,.agg [i64 a.Zd1.1.Zw,i64 a.Zd1.1.To,i64 a.Zd1.2.1.Zw,i64 a.Zd1.2.1.To,i64 a.Zd1.2.2.1.Zw,i64 a.Zd1.2.2.1.To,i64 a.Zd1.2.2.2.1.Zw,i64 a.Zd1.2.2.2.1.To,i64 a.Zd1.2.2.2.2.1.Zw,i64 a.Zd1.2.2.2.2.1.To,i64 b,i64 a.Zd1.2.2.2.2.2.1.To,i64 c,i64 a.Zd1.2.2.2.2.2.2.To]),(10,i64 5),(27,.bool ai)],[.box [i64 a.Zd1.1.Zw,i64 a.Zd1.1.To,i64 a.Zd1.2.1.Zw,i64 a.Zd1.2.1.To,i64 a.Zd1.2.2.1.Zw,i64 a.Zd1.2.2.1.To,i64 a.Zd1.2.2.2.1.Zw,i64 a.Zd1.2.2.2.1.To,i64 a.Zd1.2.2.2.2.1.Zw,i64 a.Zd1.2.2.2.2.1.To,i64 b,i64 a.Zd1.2.2.2.2.2.1.To,i64 c,i64 a.Zd1.2.2.2.2.2.2.To,.sl false (L Iy a.Ze1)] false]⟩) ?_ ?_
       ·intro _;refine Sp (fun k=>?_) fun k=>?_
        ·exact Lf Aa (Ew1 k) (ws [0])
        ·refine Sp (fun t=>?_) fun t=>?_
         ·exact Lf Aa (Ew2 k t) (ws [0])
         ·exact Lf Aa (Ew2 k t) (ws [0])
       intro ai;refine Cd ?_ ?_
       ·refine T0 [2] ?_;exact Sr <|Br <|Tr <|Ur <|Br <|Jr d <|Rr
       ·refine Sk <|Bn <|Tn <|?_
        have az:w64 6=6:=by decide
        refine Fe [1,9,10] Aa (Ew1 az) ?_;refine Un ?_;refine Ug (m:=10) ?_;refine T0 [1,9,10,11] ?_;refine Sq <|Ct <|Sk <|Tn <|Sq <|Sb <|?_
        have aj:InR 6 7:=by decide
        refine Te [1,4,9,10] Aa (Ev (by simp only[go_sem,aj,aj.2];exact AZ)) ?_;refine Tw [1,9,10,27] (fun ak=>⟨Aq 45 [(1,.ref 0 0),(9,.agg [i64 a.Zd1.1.Zw,i64 a.Zd1.1.To,i64 a.Zd1.2.1.Zw,i64 a.Zd1.2.1.To,i64 a.Zd1.2.2.1.Zw,i64 a.Zd1.2.2.1.To,i64 a.Zd1.2.2.2.1.Zw,i64 a.Zd1.2.2.2.1.To,i64 a.Zd1.2.2.2.2.1.Zw,i64 a.Zd1.2.2.2.2.1.To,i64 b,i64 a.Zd1.2.2.2.2.2.1.To,i64 c,i64 a.Zd1.2.2.2.2.2.2.To]),(10,i64 6),(27,.bool ak)],[.box [i64 a.Zd1.1.Zw,i64 a.Zd1.1.To,i64 a.Zd1.2.1.Zw,i64 a.Zd1.2.1.To,i64 a.Zd1.2.2.1.Zw,i64 a.Zd1.2.2.1.To,i64 a.Zd1.2.2.2.1.Zw,i64 a.Zd1.2.2.2.1.To,i64 a.Zd1.2.2.2.2.1.Zw,i64 a.Zd1.2.2.2.2.1.To,i64 b,i64 a.Zd1.2.2.2.2.2.1.To,i64 c,i64 a.Zd1.2.2.2.2.2.2.To,.sl false (L Iy a.Ze1)] false]⟩) ?_ ?_
        ·intro _;refine Sp (fun l=>?_) fun l=>?_
         ·exact Lf Aa (Ew1 l) (ws [0])
         ·refine Sp (fun u=>?_) fun u=>?_
          ·exact Lf Aa (Ew2 l u) (ws [0])
          ·exact Lf Aa (Ew2 l u) (ws [0])
        intro ak;refine Cd ?_ ?_
        ·refine T0 [2] ?_;exact Sr <|Br <|Tr <|Ur <|Br <|Jr d <|Rr
        ·refine Sk <|Bn <|Tn <|?_
         have aA:w64 7=7:=by decide
         refine Fe [1,9,10] Aa (Ew1 aA) ?_;refine Un ?_;refine Ug (m:=9) ?_;refine T0 [1,9,10,11] ?_;exact Sq <|Cf <|Sx <|Tx <|Ux <|Bx <|Jn (ws [0])
 intro _;refine T0 [1,5] ?_;refine Jo (fun _=>⟨Aq 45 [],[]⟩) ?_ ?_
 ·intro aH aB;refine T0 [5,30,31,32] ?_;refine Sb ?_;refine Lo (fun(v:Int×Int)=>(⟨Aq 45 [(5,i64 v.1),(30,.sl false (L Iy a.Ze1)),(31,i64 (a.Ze1.length:Int)),(32,i64 v.2)],[]⟩:St)) (ws []) ?_;rintro⟨aC,al⟩ aI aD am an;show Cz a aC al=some aD→_;unfold Cz;refine T0 [5,30,31,32,33] ?_;refine Sq <|Cd ?_ ?_
  ·refine Sk <|Tn <|Sq <|Sb <|Ck fun aE =>Lt fun ao aF =>Te (fr':=[(5,_),(7,i64 ao),(30,_),(31,_),(32,_)]) [5,7,30,31,32] Aa (Ew2 (qR aE) aF) ?_
   refine Sq ?_;refine Tw [7,30,31,32,42] (fun ap=>⟨Aq 45 [(7,i64 ao),(30,.sl false (L Iy a.Ze1)),(31,i64 (a.Ze1.length:Int)),(32,i64 al),(42,.bool ap)],[]⟩) ?_ ?_
   ·intro _;refine Sp (fun w=>?_) fun w=>?_
    ·exact Lf Aa (Ew1 w) (ws [])
    ·exact Lf Aa (Ew1 w) (ws [])
   intro ap;refine Cd ?_ ?_
   ·refine T0 [2] ?_;exact Sr <|Tr <|Br <|Tr <|Lr an am <|Br <|Jr aB <|Rr
   ·refine Sk <|Tn <|F0 [5,30,31,32] ?_
    refine Bn <|Tn <|F0 [5,30,31,32] ?_
    exact Ln (ws [])
  ·refine Sx <|Tx <|Lx an am <|Bx <|?_
   exact Jn ((ws (l':=[]) (σ':=[]) []).trans (ws []))
 intro _;refine T0 [2] ?_;exact Sr <|Rr
theorem Eg{a r}(h:BB a=some r):Con B 31 [.agg (Av a)] [] (fun r' σ'=>r'=i64 r∧σ'=[]):=by
 refine Cw 193 [.tmp 2] Tryd.func31 (fun F hE=>?_) h;unfold BB;refine T0 [1] ?_;refine Sq <|Bd fun b5 ax =>Te [1,3] (o1 22 (K6 ax)) Ev ?_
 refine T0 [1,3,24] ?_;refine Cd ?_ ?_
 ·refine T0 [2] ?_;exact Sr <|Tr <|Rr
 ·refine Sk <|Tn <|Sq <|Bd fun b6 ay =>Te [1,4] (o1 28 (Mr ay)) Ev ?_
  refine T0 [1,4,30] ?_;refine Cd ?_ ?_
  ·refine T0 [2] ?_;exact Sr <|Tr <|Rr
  ·refine Sk <|Tn <|Sq <|?_
   refine Tw [1,47] (fun t=>⟨Aq 193 [(1,.ref 0 0),(47,.bool t)],[.box (Av a) false]⟩) ?_ ?_
   ·intro _;refine Sp (fun e=>?_) fun e=>?_
    ·exact Lf Aa (Ew1 e) (ws [0])
    ·refine Sp (fun l=>?_) fun l=>?_
     ·exact Lf Aa (Ew2 e l) (ws [0])
     ·exact Lf Aa (Ew2 e l) (ws [0])
   intro t;refine Cd ?_ ?_
   ·refine T0 [2] ?_;exact Sr <|Tr <|Rr
   ·refine Sk <|Tn <|Lt fun b az =>De (fr':=[(1,_),(5,_),(6,i64 b)]) [[],[0],[0,1],[],[3],[3,4],[0,1,2],[0,1,2,3,4,5,6]] [1,5,6] Aa (Ew1 az) ?_
    refine T0 [1,5,6,7] ?_;refine Ja (fun u=>⟨Aq 193 [(1,.ref 0 0),(5,.sl false (L Ag a.Zg1.Ze)),(6,i64 b),(7,.bool u)],[.box (Av a) false]⟩) ?_ ?_
    ·intro b7;refine T0 [1,5,6,7,57,58,59] ?_;refine Sb ?_;refine Lo (fun(v:Bool×Int)=>(⟨Aq 193 [(1,.ref 0 0),(5,.sl false (L Ag a.Zg1.Ze)),(6,i64 b),(7,.bool v.1),(57,.sl false (L Af a.Zi1)),(58,i64 (a.Zi1.length:Int)),(59,i64 v.2)],[.box (Av a) false]⟩:St)) (ws [0]) ?_;rintro⟨w,x⟩ b8 aA aB aC;show Ca a w x=some aA→_;unfold Ca;refine T0 [1,5,6,7,57,58,59,60] ?_;refine Sq <|Cd ?_ ?_
     ·refine Sk <|Tn <|Sq <|Sb <|Ck fun aD =>Lt fun aE aF =>Lt fun aG aH =>Lt fun aI aJ =>Te (σ':=[_,.box [i64 aE,i64 aG,i64 aI] false]) [1,5,6,7,9,57,58,59] Aa (Ew4 (qR aD) aF aH aJ) ?_
      refine Fw [1,5,6,7,57,58,59] (fun y=>⟨Aq 193 [(1,.ref 0 0),(5,.sl false (L Ag a.Zg1.Ze)),(6,i64 b),(7,.bool y),(57,.sl false (L Af a.Zi1)),(58,i64 (a.Zi1.length:Int)),(59,i64 x)],[.box (Av a) false]⟩) ?_ ?_
      ·intro _;refine Sp (fun c=>?_) fun c=>?_
       ·exact Lf Aa (Ew1 c) (ws [0])
       ·refine Bd fun b9 f=>?_
        refine Sp (fun d=>?_) fun d=>?_
        ·exact Lf (o1 70 (Ap f)) (Ew2 c d) (ws [0])
        ·refine Sp (fun g=>?_) fun g=>?_
         ·exact Lf (o1 70 (Ap f)) (Ew3 c d g) (ws [0])
         ·refine Sp (fun m=>?_) fun m=>?_
          ·exact Lf (o1 70 (Ap f)) (Ew4 c d g m) (ws [0])
          ·exact Lf (o1 70 (Ap f)) (Ew4 c d g m) (ws [0])
      intro y;refine Bn <|Tn <|F0 [1,5,6,7,57,58,59] ?_
      exact Ln (ws [0])
     ·refine Sx <|Tx <|Ly aC aB <|Bx <|?_
      exact Jm ((ws (l':=[(1,.ref 0 0),(5,.sl false (L Ag a.Zg1.Ze)),(6,i64 b),(7,.bool w)]) (σ':=[.box (Av a) false]) [0]).trans (ws [0]))
    intro u;refine Ja (fun z=>⟨Aq 193 [(1,.ref 0 0),(5,.sl false (L Ag a.Zg1.Ze)),(6,i64 b),(7,.bool z)],[.box (Av a) false]⟩) ?_ ?_
    ·intro ca;refine T0 [1,5,6,7,92,93,94] ?_;refine Sb ?_;refine Lo (fun(v:Bool×Int)=>(⟨Aq 193 [(1,.ref 0 0),(5,.sl false (L Ag a.Zg1.Ze)),(6,i64 b),(7,.bool v.1),(92,.sl false (L Ad a.Zj1)),(93,i64 (a.Zj1.length:Int)),(94,i64 v.2)],[.box (Av a) false]⟩:St)) (ws [0]) ?_;rintro⟨aa,ab⟩ cb aK aL aM;show Ch a aa ab=some aK→_;unfold Ch;refine T0 [1,5,6,7,92,93,94,95] ?_;refine Sq <|Cd ?_ ?_
     ·refine Sk <|Tn <|Sq <|Sb <|Ck fun aN =>Lt fun aO aP =>Te (σ':=[_,.box [i64 aO] false]) [1,5,6,7,11,92,93,94] Aa (Ew2 (qR aN) aP) ?_
      refine Fw [1,5,6,7,92,93,94] (fun ac=>⟨Aq 193 [(1,.ref 0 0),(5,.sl false (L Ag a.Zg1.Ze)),(6,i64 b),(7,.bool ac),(92,.sl false (L Ad a.Zj1)),(93,i64 (a.Zj1.length:Int)),(94,i64 ab)],[.box (Av a) false]⟩) ?_ ?_
      ·intro _;refine Sp (fun i=>?_) fun i=>?_
       ·exact Lf Aa (Ew1 i) (ws [0])
       ·refine Bd fun cc ad=>?_
        refine Sp (fun n=>?_) fun n=>?_
        ·exact Lf (o1 105 (Ap ad)) (Ew2 i n) (ws [0])
        ·refine Ck fun aQ=>?_
         exact Lf (o1 105 (Ap ad)) (Ew3 i n (qR aQ)) (ws [0])
      intro ac;refine Bn <|Tn <|F0 [1,5,6,7,92,93,94] ?_
      exact Ln (ws [0])
     ·refine Sx <|Tx <|Ly aM aL <|Bx <|?_
      exact Jm ((ws (l':=[(1,.ref 0 0),(5,.sl false (L Ag a.Zg1.Ze)),(6,i64 b),(7,.bool aa)]) (σ':=[.box (Av a) false]) [0]).trans (ws [0]))
    intro z;refine Ja (fun ae=>⟨Aq 193 [(1,.ref 0 0),(5,.sl false (L Ag a.Zg1.Ze)),(6,i64 b),(7,.bool ae)],[.box (Av a) false]⟩) ?_ ?_
    ·intro cd;refine T0 [1,5,6,7,120,121,122] ?_;refine Sb ?_;refine Lo (fun(v:Bool×Int)=>(⟨Aq 193 [(1,.ref 0 0),(5,.sl false (L Ag a.Zg1.Ze)),(6,i64 b),(7,.bool v.1),(120,.sl false (L Ae a.Zh1.Zy)),(121,i64 (a.Zh1.Zy.length:Int)),(122,i64 v.2)],[.box (Av a) false]⟩:St)) (ws [0]) ?_;rintro⟨af,ag⟩ ce aR aS aT;show Cb a af ag=some aR→_;unfold Cb;refine T0 [1,5,6,7,120,121,122,123] ?_;refine Sq <|Cd ?_ ?_
     ·refine Sk <|Tn <|Sq <|Sb <|Ck fun aU =>Lt fun aV aW =>Lt fun aX aY =>Lt fun aZ a0 =>Lt fun a1 a2 =>Lt fun a3 a4 =>Te (σ':=[_,.box [i64 aV,i64 aX,i64 aZ,i64 a1,i64 a3] false]) [1,5,6,7,13,120,121,122] Aa (Ev (by simp only[go_sem,qR aU,aW,aY,a0,a2,a4];exact AZ)) ?_
      refine Fw [1,5,6,7,120,121,122] (fun ah=>⟨Aq 193 [(1,.ref 0 0),(5,.sl false (L Ag a.Zg1.Ze)),(6,i64 b),(7,.bool ah),(120,.sl false (L Ae a.Zh1.Zy)),(121,i64 (a.Zh1.Zy.length:Int)),(122,i64 ag)],[.box (Av a) false]⟩) ?_ ?_
      ·intro _;refine Sp (fun o=>?_) fun o=>?_
       ·exact Lf Aa (Ew1 o) (ws [0])
       ·exact Lf Aa (Ew1 o) (ws [0])
      intro ah;refine Bn <|Tn <|F0 [1,5,6,7,120,121,122] ?_
      exact Ln (ws [0])
     ·refine Sx <|Tx <|Ly aT aS <|Bx <|?_
      exact Jm ((ws (l':=[(1,.ref 0 0),(5,.sl false (L Ag a.Zg1.Ze)),(6,i64 b),(7,.bool af)]) (σ':=[.box (Av a) false]) [0]).trans (ws [0]))
    intro ae;refine Ja (fun ai=>⟨Aq 193 [(1,.ref 0 0),(6,i64 b),(7,.bool ai)],[.box (Av a) false]⟩) ?_ ?_
    ·intro cf;refine T0 [1,6,7,135,136,137] ?_;refine Sb ?_;refine Lo (fun(v:Bool×Int)=>(⟨Aq 193 [(1,.ref 0 0),(6,i64 b),(7,.bool v.1),(135,.sl false (L Ag a.Zg1.Ze)),(136,i64 (a.Zg1.Ze.length:Int)),(137,i64 v.2)],[.box (Av a) false]⟩:St)) (ws [0]) ?_;rintro⟨aj,ak⟩ cg a5 a6 a7;show Cg a b aj ak=some a5→_;unfold Cg;refine T0 [1,6,7,135,136,137,138] ?_;refine Sq <|Cd ?_ ?_
     ·refine Sk <|Tn <|Sq <|Sb <|Ck fun a8 =>Lt fun a9 ba =>Lt fun bb bc =>Lt fun bd be =>Te (σ':=[_,.box [i64 a9,i64 bb,i64 bd] false]) [1,6,7,15,135,136,137] Aa (Ew4 (qR a8) ba bc be) ?_
      refine Fw [1,6,7,135,136,137] (fun al=>⟨Aq 193 [(1,.ref 0 0),(6,i64 b),(7,.bool al),(135,.sl false (L Ag a.Zg1.Ze)),(136,i64 (a.Zg1.Ze.length:Int)),(137,i64 ak)],[.box (Av a) false]⟩) ?_ ?_
      ·intro _;refine Sp (fun j=>?_) fun j=>?_
       ·exact Lf Aa (Ew1 j) (ws [0])
       ·refine Sp (fun p=>?_) fun p=>?_
        ·exact Lf Aa (Ew2 j p) (ws [0])
        ·exact Lf Aa (Ew2 j p) (ws [0])
      intro al;refine Bn <|Tn <|F0 [1,6,7,135,136,137] ?_
      exact Ln (ws [0])
     ·refine Sx <|Tx <|Ly a7 a6 <|Bx <|?_
      exact Jm ((ws (l':=[(1,.ref 0 0),(6,i64 b),(7,.bool aj)]) (σ':=[.box (Av a) false]) [0]).trans (ws [0]))
    intro ai;refine Ja (fun am=>⟨Aq 193 [(1,.ref 0 0),(7,.bool am)],[.box (Av a) false]⟩) ?_ ?_
    ·intro ch;refine T0 [1,6,7,157,158,159] ?_;refine Sb ?_;refine Lo (fun(v:Bool×Int)=>(⟨Aq 193 [(1,.ref 0 0),(6,i64 b),(7,.bool v.1),(157,.sl false (L Am a.Zg1.Zf)),(158,i64 (a.Zg1.Zf.length:Int)),(159,i64 v.2)],[.box (Av a) false]⟩:St)) (ws [0]) ?_;rintro⟨an,ao⟩ ci bf bg bh;show Ci a b an ao=some bf→_;unfold Ci;refine T0 [1,6,7,157,158,159,160] ?_;refine Sq <|Cd ?_ ?_
     ·refine Sk <|Tn <|Sq <|Sb <|Ck fun bi =>Lt fun bj bk =>Lt fun bl bm =>Lt fun bn bo =>Lt fun bp bq =>Lt fun br bs =>Te (σ':=[_,.box [i64 bj,i64 bl,i64 bn,i64 bp,i64 br] false]) [1,6,7,17,157,158,159] Aa (Ev (by simp only[go_sem,qR bi,bk,bm,bo,bq,bs];exact AZ)) ?_
      refine Fw [1,6,7,157,158,159] (fun ap=>⟨Aq 193 [(1,.ref 0 0),(6,i64 b),(7,.bool ap),(157,.sl false (L Am a.Zg1.Zf)),(158,i64 (a.Zg1.Zf.length:Int)),(159,i64 ao)],[.box (Av a) false]⟩) ?_ ?_
      ·intro _;refine Sp (fun q=>?_) fun q=>?_
       ·exact Lf Aa (Ew1 q) (ws [0])
       ·exact Lf Aa (Ew1 q) (ws [0])
      intro ap;refine Bn <|Tn <|F0 [1,6,7,157,158,159] ?_
      exact Ln (ws [0])
     ·refine Sx <|Tx <|Ly bh bg <|Bx <|?_
      exact Jm ((ws (l':=[(1,.ref 0 0),(7,.bool an)]) (σ':=[.box (Av a) false]) [0]).trans (ws [0]))
    intro am;refine Ja (fun aq=>⟨Aq 193 [(7,.bool aq)],[]⟩) ?_ ?_
    ·intro cj;refine T0 [7,172,173,174] ?_;refine Sb ?_;refine Lo (fun(v:Bool×Int)=>(⟨Aq 193 [(7,.bool v.1),(172,.sl false (L Ac a.Zk1)),(173,i64 (a.Zk1.length:Int)),(174,i64 v.2)],[]⟩:St)) (ws []) ?_;rintro⟨ar,au⟩ ck bt bu bv;show Cc a ar au=some bt→_;unfold Cc;refine T0 [7,172,173,174,175] ?_;refine Sq <|Cd ?_ ?_
     ·refine Sk <|Tn <|Sq <|Sb <|Ck fun bw =>Lt fun bx bz =>Lt fun bA bB =>Lt fun bC bD =>Lt fun bE bF =>Lt fun bG bH =>Lt fun bI bJ =>Lt fun bK bL =>Lt fun bM bN =>Lt fun bO bP =>Lt fun bQ bR =>Lt fun bS bT =>Lt fun bU bV =>Lt fun bW bX =>Lt fun bY bZ =>Lt fun b0 b1 =>Lt fun b2 b3 =>Te (σ':=[.box [u64 bx,i64 bA,i64 bC,i64 bE,i64 bG,i64 bI,i64 bK,i64 bM,i64 bO,i64 bQ,i64 bS,i64 bU,i64 bW,i64 bY,i64 b0,.sl false (L Iy b2)] false]) [7,19,172,173,174] Aa (Ev (by simp only[go_sem,qR bw,bz,bB,bD,bF,bH,bJ,bL,bN,bP,bR,bT,bV,bX,bZ,b1,b3];exact AZ)) ?_
      refine Fw [7,172,173,174] (fun av=>⟨Aq 193 [(7,.bool av),(172,.sl false (L Ac a.Zk1)),(173,i64 (a.Zk1.length:Int)),(174,i64 au)],[]⟩) ?_ ?_
      ·intro _;refine Sp (fun k=>?_) fun k=>?_
       ·exact Lf Aa (Ew1 k) (ws [])
       ·refine Bd fun cl aw=>?_
        refine Sp (fun s=>?_) fun s=>?_
        ·exact Lf (o1 182 (Gx aw)) (Ew2 k s) (ws [])
        ·refine Bd fun cm b4=>?_
         exact Lf (o2 182 (Gx aw) 188 (I3 b4)) (Ew2 k s) (ws [])
      intro av;refine Bn <|Tn <|F0 [7,172,173,174] ?_
      exact Ln (ws [])
     ·refine Sx <|Tx <|Ly bv bu <|Bx <|?_
      exact Jm ((ws (l':=[(7,.bool ar)]) (σ':=[]) []).trans (ws []))
    intro aq;refine Sq <|T0 [192] ?_
    refine Cd ?_ ?_
    ·refine T0 [2] ?_;exact Sr <|Tr <|Rr
    ·refine Sk <|Tn <|T0 [2] ?_
     exact Sr <|Rr
theorem Hz{b r}(h:FL b=some r):Con B 64 [.agg (A3 b)] [] (fun r' σ'=>r'=.agg [i64 r.Za,i64 r.N,.sl false (L cU8 r.B),.sl false (L cApi_Value r.L)]∧σ'=[]):=by
 refine Cw 70 [.cell 2 112] Tryd.func64 (fun F hE=>?_) h;unfold FL;refine T0 [1,2] ?_;refine Bd fun bE au =>Bd fun av aw =>Bd fun ax ay =>Bd fun bF az =>Lt fun f aA =>De (fr':=[(1,_),(2,_),(3,.bs true 2 (f.length) 0 (f.length))]) (σ':=[_,_,.buf 4 (L cApi_Value f) false]) [[],[0],[0,1],[],[3],[3,4],[0,1,2,3,4,5],[],[7],[7,8],[0,1,2,3,4,5,6,7,8,9],[0,1,2,3,4,5,6,7,8,9,10],[0,1,2,3,4,5,6,7,8,9,10,11],[0,1,2,3,4,5,6,7,8,9,10,11,12],[0,1,2,3,4,5,6,7,8,9,10,11,12,13]] [1,2,3] (Ar (l:=[(12,_,_,_),(16,_,_,_),(20,_,_,_)]) (m:=[(22,85,[.sl false (L cApi_Value ([av,ax]:List AkK))],[.box (A3 b) false,.box [i64 0,i64 0,.sl true (L cU8 ([])),.sl true (L cApi_Value ([]))] false],_,_)]) ⟨A6  au,A6  aw,A6  ay,trivial⟩ ⟨(wc (GL az) []),trivial⟩) (Ew1 aA) ?_
 refine Ja (fun a=>⟨Aq 70 [(1,.ref 0 0),(2,.ref 1 0),(3,.bs false 2 (a.length) 0 (a.length))],[.box (A3 b) false,.box [i64 0,i64 0,.sl true (L cU8 ([])),.sl true (L cApi_Value ([]))] false,.buf 4 (L cApi_Value a) false]⟩) ?_ ?_
 ·intro bG;refine Te [1,2,3,24,25] (Ar (l:=[]) (m:=[(24,86,[.ref 0 0],[.box (A3 b) false,.box [i64 0,i64 0,.sl true (L cU8 ([])),.sl true (L cApi_Value ([]))] false,.buf 4 (L cApi_Value f) false],.agg [.ref 0 3,.ref 0 4,.ref 0 5,.ref 0 6,.ref 0 7,.ref 0 8,.ref 0 9,.ref 0 10,.ref 0 11,.ref 0 12,.ref 0 13],[.box (A3 b) false,.box [i64 0,i64 0,.sl true (L cU8 ([])),.sl true (L cApi_Value ([]))] false,.buf 4 (L cApi_Value f) false])]) trivial ⟨Li,trivial⟩) Ev ?_;refine Sb ?_;refine Ul 17 ?_;refine Ug (m:=16) ?_;refine T0 [1,2,3,24,25,26] ?_;refine Sq <|Ct <|Sk <|Tn <|Sq <|Sb <|?_
  have ad:InR 0 11:=by decide
  refine Te [1,2,3,5,24,25] Aa (Ev (by simp only[go_sem,ad,ad.2];exact AZ)) ?_;refine Bd fun bH aB =>Ck fun aC =>Lt fun k aD =>Fe (fr':=[(1,_),(2,_),(3,.bs false 2 (k.length) 0 (k.length)),(24,_),(25,_)]) (σ':=[_,_,.buf 4 (L cApi_Value k) false,_]) [1,2,3,24,25] (o1 32 (A6 aB)) (Ew2 aC aD) ?_
  refine Bn <|Tn <|?_
  have aE:w64 1=1:=by decide
  refine Fe [1,2,3,24,25] Aa (Ew1 aE) ?_;refine Un ?_;refine Ug (m:=15) ?_;refine T0 [1,2,3,24,25,26] ?_;refine Sq <|Ct <|Sk <|Tn <|Sq <|Sb <|?_
  have ae:InR 1 11:=by decide
  refine Te [1,2,3,5,24,25] Aa (Ev (by simp only[go_sem,ae,ae.2];exact AZ)) ?_;refine Bd fun bI aF =>Ck fun aG =>Lt fun n aH =>Fe (fr':=[(1,_),(2,_),(3,.bs false 2 (n.length) 0 (n.length)),(24,_),(25,_)]) (σ':=[_,_,.buf 4 (L cApi_Value n) false,_,_]) [1,2,3,24,25] (o1 32 (A6 aF)) (Ew2 aG aH) ?_
  refine Bn <|Tn <|?_
  have aI:w64 2=2:=by decide
  refine Fe [1,2,3,24,25] Aa (Ew1 aI) ?_;refine Un ?_;refine Ug (m:=14) ?_;refine T0 [1,2,3,24,25,26] ?_;refine Sq <|Ct <|Sk <|Tn <|Sq <|Sb <|?_
  have af:InR 2 11:=by decide
  refine Te [1,2,3,5,24,25] Aa (Ev (by simp only[go_sem,af,af.2];exact AZ)) ?_;refine Bd fun bJ aJ =>Ck fun aK =>Lt fun o aL =>Fe (fr':=[(1,_),(2,_),(3,.bs false 2 (o.length) 0 (o.length)),(24,_),(25,_)]) (σ':=[_,_,.buf 4 (L cApi_Value o) false,_,_,_]) [1,2,3,24,25] (o1 32 (A6 aJ)) (Ew2 aK aL) ?_
  refine Bn <|Tn <|?_
  have aM:w64 3=3:=by decide
  refine Fe [1,2,3,24,25] Aa (Ew1 aM) ?_;refine Un ?_;refine Ug (m:=13) ?_;refine T0 [1,2,3,24,25,26] ?_;refine Sq <|Ct <|Sk <|Tn <|Sq <|Sb <|?_
  have ag:InR 3 11:=by decide
  refine Te [1,2,3,5,24,25] Aa (Ev (by simp only[go_sem,ag,ag.2];exact AZ)) ?_;refine Bd fun bK aN =>Ck fun aO =>Lt fun p aP =>Fe (fr':=[(1,_),(2,_),(3,.bs false 2 (p.length) 0 (p.length)),(24,_),(25,_)]) (σ':=[_,_,.buf 4 (L cApi_Value p) false,_,_,_,_]) [1,2,3,24,25] (o1 32 (A6 aN)) (Ew2 aO aP) ?_
  refine Bn <|Tn <|?_
  have aQ:w64 4=4:=by decide
  refine Fe [1,2,3,24,25] Aa (Ew1 aQ) ?_;refine Un ?_;refine Ug (m:=12) ?_;refine T0 [1,2,3,24,25,26] ?_;refine Sq <|Ct <|Sk <|Tn <|Sq <|Sb <|?_
  have ah:InR 4 11:=by decide
  refine Te [1,2,3,5,24,25] Aa (Ev (by simp only[go_sem,ah,ah.2];exact AZ)) ?_;refine Bd fun bL aR =>Ck fun aS =>Lt fun q aT =>Fe (fr':=[(1,_),(2,_),(3,.bs false 2 (q.length) 0 (q.length)),(24,_),(25,_)]) (σ':=[_,_,.buf 4 (L cApi_Value q) false,_,_,_,_,_]) [1,2,3,24,25] (o1 32 (A6 aR)) (Ew2 aS aT) ?_
  refine Bn <|Tn <|?_
  have aU:w64 5=5:=by decide
  refine Fe [1,2,3,24,25] Aa (Ew1 aU) ?_;refine Un ?_;refine Ug (m:=11) ?_;refine T0 [1,2,3,24,25,26] ?_;refine Sq <|Ct <|Sk <|Tn <|Sq <|Sb <|?_
  have ai:InR 5 11:=by decide
  refine Te [1,2,3,5,24,25] Aa (Ev (by simp only[go_sem,ai,ai.2];exact AZ)) ?_;refine Bd fun bM aV =>Ck fun aW =>Lt fun s aX =>Fe (fr':=[(1,_),(2,_),(3,.bs false 2 (s.length) 0 (s.length)),(24,_),(25,_)]) (σ':=[_,_,.buf 4 (L cApi_Value s) false,_,_,_,_,_,_]) [1,2,3,24,25] (o1 32 (A6 aV)) (Ew2 aW aX) ?_
  refine Bn <|Tn <|?_
  have aY:w64 6=6:=by decide
  refine Fe [1,2,3,24,25] Aa (Ew1 aY) ?_;refine Un ?_;refine Ug (m:=10) ?_;refine T0 [1,2,3,24,25,26] ?_;refine Sq <|Ct <|Sk <|Tn <|Sq <|Sb <|?_
  have aj:InR 6 11:=by decide
  refine Te [1,2,3,5,24,25] Aa (Ev (by simp only[go_sem,aj,aj.2];exact AZ)) ?_;refine Bd fun bN aZ =>Ck fun a0 =>Lt fun t a1 =>Fe (fr':=[(1,_),(2,_),(3,.bs false 2 (t.length) 0 (t.length)),(24,_),(25,_)]) (σ':=[_,_,.buf 4 (L cApi_Value t) false,_,_,_,_,_,_,_]) [1,2,3,24,25] (o1 32 (A6 aZ)) (Ew2 a0 a1) ?_
  refine Bn <|Tn <|?_
  have a2:w64 7=7:=by decide
  refine Fe [1,2,3,24,25] Aa (Ew1 a2) ?_;refine Un ?_;refine Ug (m:=9) ?_;refine T0 [1,2,3,24,25,26] ?_;refine Sq <|Ct <|Sk <|Tn <|Sq <|Sb <|?_
  have ak:InR 7 11:=by decide
  refine Te [1,2,3,5,24,25] Aa (Ev (by simp only[go_sem,ak,ak.2];exact AZ)) ?_;refine Bd fun bO a3 =>Ck fun a4 =>Lt fun u a5 =>Fe (fr':=[(1,_),(2,_),(3,.bs false 2 (u.length) 0 (u.length)),(24,_),(25,_)]) (σ':=[_,_,.buf 4 (L cApi_Value u) false,_,_,_,_,_,_,_,_]) [1,2,3,24,25] (o1 32 (A6 a3)) (Ew2 a4 a5) ?_
  refine Bn <|Tn <|?_
  have a6:w64 8=8:=by decide
  refine Fe [1,2,3,24,25] Aa (Ew1 a6) ?_;refine Un ?_;refine Ug (m:=8) ?_;refine T0 [1,2,3,24,25,26] ?_;refine Sq <|Ct <|Sk <|Tn <|Sq <|Sb <|?_
  have al:InR 8 11:=by decide
  refine Te [1,2,3,5,24,25] Aa (Ev (by simp only[go_sem,al,al.2];exact AZ)) ?_;refine Bd fun bP a7 =>Ck fun a8 =>Lt fun w a9 =>Fe (fr':=[(1,_),(2,_),(3,.bs false 2 (w.length) 0 (w.length)),(24,_),(25,_)]) (σ':=[_,_,.buf 4 (L cApi_Value w) false,_,_,_,_,_,_,_,_,_]) [1,2,3,24,25] (o1 32 (A6 a7)) (Ew2 a8 a9) ?_
  refine Bn <|Tn <|?_
  have ba:w64 9=9:=by decide
  refine Fe [1,2,3,24,25] Aa (Ew1 ba) ?_;refine Un ?_;refine Ug (m:=7) ?_;refine T0 [1,2,3,24,25,26] ?_;refine Sq <|Ct <|Sk <|Tn <|Sq <|Sb <|?_
  have am:InR 9 11:=by decide
  refine Te [1,2,3,5,24,25] Aa (Ev (by simp only[go_sem,am,am.2];exact AZ)) ?_;refine Bd fun bQ bb =>Ck fun bc =>Lt fun x bd =>Fe (fr':=[(1,_),(2,_),(3,.bs false 2 (x.length) 0 (x.length)),(24,_),(25,_)]) (σ':=[_,_,.buf 4 (L cApi_Value x) false,_,_,_,_,_,_,_,_,_,_]) [1,2,3,24,25] (o1 32 (A6 bb)) (Ew2 bc bd) ?_
  refine Bn <|Tn <|?_
  have be:w64 10=10:=by decide
  refine Fe [1,2,3,24,25] Aa (Ew1 be) ?_;refine Un ?_;refine Ug (m:=6) ?_;refine T0 [1,2,3,24,25,26] ?_;refine Sq <|Ct <|Sk <|Tn <|Sq <|Sb <|?_
  have an:InR 10 11:=by decide
  refine Te [1,2,3,5,24,25] Aa (Ev (by simp only[go_sem,an,an.2];exact AZ)) ?_;refine Bd fun bR bf =>Ck fun bg =>Lt fun y bh =>Fe (fr':=[(1,_),(2,_),(3,.bs false 2 (y.length) 0 (y.length)),(24,_),(25,_)]) (σ':=[_,_,.buf 4 (L cApi_Value y) false,_,_,_,_,_,_,_,_,_,_,_]) [1,2,3,24,25] (o1 32 (A6 bf)) (Ew2 bg bh) ?_
  refine Bn <|Tn <|?_
  have bi:w64 11=11:=by decide
  refine Fe [1,2,3,24,25] Aa (Ew1 bi) ?_;refine Un ?_;refine Ug (m:=5) ?_;refine T0 [1,2,3,24,25,26] ?_;exact Sq <|Cf <|Sx <|Tx <|Ux <|Bx <|Jm (ws [0,1,2])
 intro a;refine Bd fun c bj =>Te [1,2,3,6] (Ar (l:=[]) (m:=[(36,85,[.sl true (L cApi_Value ([]))],[.box (A3 b) false,.box [i64 0,i64 0,.sl true (L cU8 ([])),.sl true (L cApi_Value ([]))] false,.buf 4 (L cApi_Value a) false],_,_)]) trivial ⟨(wc (Kn bj) []),trivial⟩) Ev ?_
 refine Ja (fun e=>⟨Aq 70 [(1,.ref 0 0),(2,.ref 1 0),(3,.bs false 2 (a.length) 0 (a.length)),(6,.ref 3 0)],[.box (A3 b) false,.box [i64 0,i64 0,.sl true (L cU8 ([])),.sl true (L cApi_Value ([]))] false,.buf 4 (L cApi_Value a) false,.box [i64 c.Za,i64 c.N,.sl true (L cU8 ([])),.bs false 4 (e.length) 0 (e.length)] false,.buf 4 (L cApi_Value e) false]⟩) ?_ ?_
 ·intro bS;refine T0 [1,2,3,6,38,39,40] ?_;refine Sb ?_;refine Lo (fun(v:Int×List AkK)=>(⟨Aq 70 [(1,.ref 0 0),(2,.ref 1 0),(3,.bs false 2 (a.length) 0 (a.length)),(6,.ref 3 0),(38,.sl false (L Aj b.Zu1)),(39,i64 (b.Zu1.length:Int)),(40,i64 v.1)],[.box (A3 b) false,.box [i64 0,i64 0,.sl true (L cU8 ([])),.sl true (L cApi_Value ([]))] false,.buf 4 (L cApi_Value a) false,.box [i64 c.Za,i64 c.N,.sl true (L cU8 ([])),.bs false 4 (v.2.length) 0 (v.2.length)] false,.buf 4 (L cApi_Value v.2) false]⟩:St)) ((Gy 3 3 4 rfl rfl).trans (ws [0,1,2,3,4])) ?_;rintro⟨z,d⟩ bT bk bl bm;show DB b z d=some bk→_;unfold DB;refine T0 [1,2,3,6,38,39,40,41] ?_;refine Sq <|Cd ?_ ?_
  ·refine Sk <|Tn <|Sq <|Sb <|Ck fun bn =>Lt fun g bo =>Lt fun i bp =>Lt fun j bq =>Te (σ':=[_,_,_,_,_,.box [i64 g,i64 i,.bool j] false]) [1,2,3,6,8,38,39,40] Aa (Ew4 (qR bn) bo bp bq) ?_
   refine T0 [1,2,3,6,8,9,38,39,40] ?_;refine Ja (fun ao=>⟨Aq 70 [(1,.ref 0 0),(2,.ref 1 0),(3,.bs false 2 (a.length) 0 (a.length)),(6,.ref 3 0),(8,.ref 4 0),(9,i64 ao),(38,.sl false (L Aj b.Zu1)),(39,i64 (b.Zu1.length:Int)),(40,i64 z)],[.box (A3 b) false,.box [i64 0,i64 0,.sl true (L cU8 ([])),.sl true (L cApi_Value ([]))] false,.buf 4 (L cApi_Value a) false,.box [i64 c.Za,i64 c.N,.sl true (L cU8 ([])),.bs false 5 (d.length) 0 (d.length)] false,.box [i64 g,i64 i,.bool j] false,.buf 4 (L cApi_Value d) false]⟩) ?_ ?_
   ·intro bU;refine T0 [1,2,3,6,8,9,38,39,40,45] ?_;refine Cd ?_ ?_
    ·refine F0 [1,2,3,6,8,9,38,39,40] ?_;exact Jm (ws [0,1,2,3,5,4])
    ·exact Sk <|Jm (ws [0,1,2,3,5,4])
   intro ao;refine Bd fun br bt =>Bd fun bu bv =>Bd fun bw bx =>Bd fun bV bz =>Ck fun ap =>Lt fun aa aq =>?_
   intro h;refine Vl hE Mi [[],[0],[],[2],[2,3],[],[5],[2,3,4,5,6],[],[2,3,4,5,6,7,8],[2,3,4,5,6,7,8,9],[2,3,4,5,6,7,8,9,10],[2,3,4,5,6,7,8,9,10,11],[0,1,2,3,4,5,6,7,8,9,10,11,12],[0,1,2,3,4,5,6,7,8,9,10,11,12,13],[0,1,2,3,4,5,6,7,8,9,10,11,12,13,14]] (by kernel_rfl) 11 [0,1] [1,2,3,6,38,39,40,46] (by kernel_rfl) (Je IZ) (fr':=[(1,.ref 0 0),(2,.ref 1 0),(3,.bs false 2 (a.length) 0 (a.length)),(6,.ref 3 0),(38,.sl false (L Aj b.Zu1)),(39,i64 (b.Zu1.length:Int)),(40,i64 z),(46,.ref 3 3)]) (σ':=[.box (A3 b) false,.box [i64 0,i64 0,.sl true (L cU8 ([])),.sl true (L cApi_Value ([]))] false,.buf 4 (L cApi_Value a) false,.box [i64 c.Za,i64 c.N,.sl true (L cU8 ([])),.bs false 5 (aa.length) 0 (aa.length)] false,.box [i64 g,i64 i,.bool j] false,.buf 4 (L cApi_Value aa) false]) ⟨_,_,_,_,_,_,_,rfl,?_,(Ar (l:=[(50,_,_,_),(53,_,_,_),(55,_,_,_)]) (m:=[(57,85,[.sl false (L cApi_Value ([br,bu,bw]:List AkK))],[.box (A3 b) false,.box [i64 0,i64 0,.sl true (L cU8 ([])),.sl true (L cApi_Value ([]))] false,.buf 4 (L cApi_Value a) false,.box [i64 c.Za,i64 c.N,.sl true (L cU8 ([])),.bs false 5 (d.length) 0 (d.length)] false,.box [i64 g,i64 i,.bool j] false,.buf 4 (L cApi_Value d) false],_,_)]) ⟨A6  bt,A6  bv,A6  bx,trivial⟩ ⟨(wc (GL bz) []),trivial⟩),?_⟩ ?_
   ·subst aq;simp only[go_sem,ap]
   ·subst aq;simp only[go_sem,ap]
   revert h;refine Bn <|Tn <|F0 [1,2,3,6,38,39,40] ?_
   exact Ln (ws [0,1,2,3,5])
  ·refine Sx <|Tx <|Ly bm bl <|Bx <|?_
   exact Jm ((ws (l':=[(1,.ref 0 0),(2,.ref 1 0),(3,.bs false 2 (a.length) 0 (a.length)),(6,.ref 3 0)]) (σ':=[.box (A3 b) false,.box [i64 0,i64 0,.sl true (L cU8 ([])),.sl true (L cApi_Value ([]))] false,.buf 4 (L cApi_Value a) false,.box [i64 c.Za,i64 c.N,.sl true (L cU8 ([])),.bs false 4 (d.length) 0 (d.length)] false,.buf 4 (L cApi_Value d) false]) [0,1,2,3,4]).trans (ws [0,1,2,3,4]))
 intro e;refine Rw (HY 3 3 rfl rfl rfl gs gs) ?_;refine Bd fun ab bA =>Ck fun bB =>Bd fun ar bC =>Lt fun ac bD =>De (σ':=[_,.box [i64 ar.Za,i64 ar.N,.sl true (L cU8 ([])),.bs false 2 (ac.length) 0 (ac.length)] false,.buf 4 (L cApi_Value ac) false,_,_]) [[],[],[1],[1,2],[],[1,2,3,4],[0,1,2,3,4,5],[0,1,2,3,4,5,6],[0,1,2,3,4,5,6,7]] [2] (Ar (l:=[(65,_,_,_)]) (m:=[(69,85,[.bs false 2 ((a++([ab,(AkK.mk c.Za c.N ([]) e)]:List AkK)).length) 0 ((a++([ab,(AkK.mk c.Za c.N ([]) e)]:List AkK)).length)],[.box (A3 b) false,.box [i64 0,i64 0,.sl true (L cU8 ([])),.sl true (L cApi_Value ([]))] false,.buf 4 (L cApi_Value (a++([ab,(AkK.mk c.Za c.N ([]) e)]:List AkK))) false,.box [i64 c.Za,i64 c.N,.sl true (L cU8 ([])),.sl false (L cApi_Value e)] false,.buf 4 (L cApi_Value e) true],_,_)]) ⟨Qr  bA,trivial⟩ ⟨(wc (Ld bC) [2]),trivial⟩) (Ew2 bB bD) ?_
 exact Sr <|Rr
theorem GT{b r}(h:DP b=some r):Con B 45 [.agg (Ak b)] [] (fun r' σ'=>r'=.bs false 0 (r.length) 0 (r.length)∧σ'=[.buf 4 (L cApi_Value r) false]):=by
 refine Co 0 19 [.tmp 2] Tryd.func45 (fun F hE=>?_) h;unfold DP;refine T0 [1] ?_;refine Bd fun j c =>Bd fun k d =>Bd fun m e =>Bd fun n f =>Bd fun o g =>Lt fun a i =>De (fr':=[(2,.bs true 1 (a.length) 0 (a.length))]) (σ':=[_,.buf 4 (L cApi_Value a) false]) [[],[0],[0,1],[],[3],[0,1,2,3,4],[],[6],[0,1,2,3,4,5,6,7],[],[9],[0,1,2,3,4,5,6,7,8,9,10],[],[12],[0,1,2,3,4,5,6,7,8,9,10,11,12,13],[0,1,2,3,4,5,6,7,8,9,10,11,12,13,14],[0,1,2,3,4,5,6,7,8,9,10,11,12,13,14,15]] [2] (D7 (l:=[(5,_,_,_),(8,_,_,_),(11,_,_,_),(14,_,_,_),(17,_,_,_)]) ⟨F2  c,F2  d,I8  e,F2  f,Hz  g,trivial⟩) (Ew1 i) ?_
 exact Sr <|Ro [1]
theorem J5{b r}(h:GH b=some r):Con B 51 [u64 b] [] (fun r' σ'=>r'=.agg [i64 r.Za,i64 r.N,.sl false (L cU8 r.B),.sl false (L cApi_Value r.L)]∧σ'=[]):=by
 refine Cw 23 [.cell 2 112] Tryd.func51 (fun F hE=>?_) h;unfold GH;refine T0 [0,2] ?_;refine Ck fun f =>Lt fun a g =>Te (fr':=[(0,_),(2,_),(3,.bs true 1 (a.length) 0 (a.length))]) (σ':=[_,.buf 1 (L cU8 a) false]) [0,2,3] Aa (Ew2 f g) ?_
 refine Ja (fun c=>⟨Aq 23 [(2,.ref 0 0),(3,.bs true 1 (c.length) 0 (c.length))],[.box [i64 0,i64 0,.sl true (L cU8 ([])),.sl true (L cApi_Value ([]))] false,.buf 1 (L cU8 c) false]⟩) ?_ ?_
 ·intro q;refine T0 [0,2,3,7,8] ?_;refine Sb ?_;refine Lo (fun(v:Int×List UInt8)=>(⟨Aq 23 [(0,u64 b),(2,.ref 0 0),(3,.bs true 1 (v.2.length) 0 (v.2.length)),(7,i64 (a.length:Int)),(8,i64 v.1)],[.box [i64 0,i64 0,.sl true (L cU8 ([])),.sl true (L cApi_Value ([]))] false,.buf 1 (L cU8 v.2) false]⟩:St)) (ws [0,1]) ?_;rintro⟨i,d⟩ s j k l;show DD b a i d=some j→_;unfold DD;refine T0 [0,2,3,7,8,9] ?_;refine Sq <|Cd ?_ ?_
  ·refine Sk <|Tn <|Sq <|Sb <|T0 [0,2,3,4,7,8] ?_
   refine Ck fun m =>Ck fun n =>Lt fun e o =>Fe (fr':=[(0,_),(2,_),(3,.bs true 1 (e.length) 0 (e.length)),(7,_),(8,_)]) (σ':=[_,.buf 1 (L cU8 e) false]) [0,2,3,7,8] Aa (Ew3 m (qR n) o) ?_
   refine Bn <|Tn <|F0 [0,2,3,7,8] ?_
   exact Ln (ws [0,1])
  ·refine Sx <|Tx <|Ly l k <|Bx <|?_
   exact Jm ((ws (l':=[(2,.ref 0 0),(3,.bs true 1 (d.length) 0 (d.length))]) (σ':=[.box [i64 0,i64 0,.sl true (L cU8 ([])),.sl true (L cApi_Value ([]))] false,.buf 1 (L cU8 d) false]) [0,1]).trans (ws [0,1]))
 intro c;refine Bd fun t p =>Te [2] (o1 22 (I8 p)) Ev ?_
 exact Sr <|Rr
theorem He{a r}(h:HI a=some r):Con B 44 [.sl false (L cApi_Value a)] [] (fun r' σ'=>r'=.agg [i64 r.Za,i64 r.N,.sl false (L cU8 r.B),.sl false (L cApi_Value r.L)]∧σ'=[]):=by
 refine Cw 5 [.cell 2 112] Tryd.func44 (fun F hE=>?_) h;unfold HI;refine T0 [0,2] ?_;refine T0 [2] ?_;exact Sr <|Rr
theorem Kg{rec_:AkK→Option (Int×Bool)}(hrec:∀{a:AkK} {r:Int×Bool},rec_ a=some r→Con B 66 [.agg [i64 a.Za,i64 a.N,.sl false (L cU8 a.B),.sl false (L cApi_Value a.L)]] [] (fun r' σ'=>r'=.tup [i64 r.1,.bool r.2]∧σ'=[])){a:AkK}{r:Int×Bool}(h:EE rec_ a=some r):Con B 66 [.agg [i64 a.Za,i64 a.N,.sl false (L cU8 a.B),.sl false (L cApi_Value a.L)]] [] (fun r' σ'=>r'=.tup [i64 r.1,.bool r.2]∧σ'=[]):=by
 refine Lu (N:=64) (rs:=[.tmp 2,.tmp 3]) ok Tryd.func66 rfl (by decide +kernel) rfl rfl (AlD rfl) (fun F=>?_);have hE:=ok.env F;unfold EE at h;show Run (B.env F) 0 _ ⟨Aq 64 [(0,.agg [i64 a.Za,i64 a.N,.sl false (L cU8 a.B),.sl false (L cApi_Value a.L)])],[]⟩ _;refine G8 ?_;revert h;refine T0 [1,2] ?_;refine Jo (fun _=>⟨Aq 64 [],[]⟩) ?_ ?_
 ·intro ac b;refine T0 [1,2,9] ?_;refine Sb <|T0 [1,2,9,10] ?_
  refine Cd ?_ ?_
  ·refine Dw [[],[0],[0,1],[0,1,2],[0,1,2,3],[0,1,2,3,4],[0,1,2,3,4,5],[0,1,2,3,4,5,6],[0,1,2,3,4,5,6,7],[0,1,2,3,4,5,6,7,8],[0,1,2,3,4],[0,1,2,3,4,5,6,7,8,9,10]] [2,3] (fun f=>⟨Aq 64 [(2,i64 0),(3,.bool f)],[]⟩) ?_ ?_
   ·intro _;refine Sp (fun c=>?_) fun c=>?_
    ·exact Lf Aa (Ew1 c) (ws [])
    ·exact Lf Aa (Ew1 c) (ws [])
   intro f;exact Sr <|Br <|Jr b <|Rr
  ·refine T0 [1,2,9,22] ?_;refine Cd ?_ ?_
   ·refine Dw [[],[0],[0,1],[0,1,2],[0,1,2,3],[0,1,2,3,4],[0,1,2,3,4,5],[0,1,2,3,4,5,6],[0,1,2,3,4,5,6,7],[0,1,2,3],[0,1,2,3,4,5,6,7,8,9]] [2,3] (fun g=>⟨Aq 64 [(2,i64 0),(3,.bool g)],[]⟩) ?_ ?_
    ·intro _;refine Sp (fun d=>?_) fun d=>?_
     ·exact Lf Aa (Ew1 d) (ws [])
     ·exact Lf Aa (Ew1 d) (ws [])
    intro g;exact Sr <|Br <|Jr b <|Rr
   ·refine T0 [1,2,33] ?_;refine Cd ?_ ?_
    ·refine Sq ?_;refine Tw [1,2,43] (fun i=>⟨Aq 64 [(1,.ref 0 0),(2,i64 0),(43,.bool i)],[.box [i64 a.Za,i64 a.N,.sl false (L cU8 a.B),.sl false (L cApi_Value a.L)] false]⟩) ?_ ?_
     ·intro _;refine Sp (fun e=>?_) fun e=>?_
      ·exact Lf Aa (Ew1 e) (ws [0])
      ·exact Lf Aa (Ew1 e) (ws [0])
     intro i;refine Cd ?_ ?_
     ·refine T0 [2,3] ?_;exact Sr <|Tr <|Br <|Jr b <|Rr
     ·refine Sk <|Tn <|?_
      refine Jo (fun j=>⟨Aq 64 [(2,i64 j)],[]⟩) ?_ ?_
      ·intro ad n;refine T0 [2,45,46,47] ?_;refine Sb ?_;refine Lo (fun(v:Int×Int)=>(⟨Aq 64 [(2,i64 v.1),(45,.sl false (L cApi_Value a.L)),(46,i64 (a.L.length:Int)),(47,i64 v.2)],[]⟩:St)) (ws []) ?_;rintro⟨k,o⟩ ae p l m;show BO a rec_ k o=some p→_;unfold BO;refine T0 [2,45,46,47,48] ?_;refine Sq <|Cd ?_ ?_
       ·refine Sk <|Tn <|Sq <|Sb <|Ck fun q =>Lt fun s t =>Lt fun u w =>Lt fun x y =>Lt fun z aa =>Te (σ':=[.box [i64 s,i64 u,.sl false (L cU8 x),.sl false (L cApi_Value z)] false]) [2,5,45,46,47] Aa (Ew5 (qR q) t w y aa) ?_
        refine Bd fun af ab =>Te [2,6,7,45,46,47] (o1 53 (hrec ab)) Ev ?_
        refine Sq <|T0 [2,6,45,46,47,57] ?_
        refine Cd ?_ ?_
        ·refine T0 [2,3] ?_;exact Sr <|Tr <|Br <|Tr <|Lr m l <|Br <|Jr n <|Br <|Jr b <|Rr
        ·refine Sk <|Tn <|F0 [2,45,46,47] ?_
         refine Bn <|Tn <|F0 [2,45,46,47] ?_
         exact Ln (ws [])
       ·refine Sx <|Tx <|Lx m l <|Bx <|?_
        exact Jn ((ws (l':=[(2,i64 k)]) (σ':=[]) []).trans (ws []))
      intro j;refine T0 [2,3] ?_;exact Sr <|Br <|Jr b <|Rr
    ·exact Sk <|Bn <|Jn (ws [])
 intro _;refine T0 [2,3] ?_;exact Sr <|Rr
theorem JT(n:Nat):∀{a:AkK} {r:Int×Bool},DU n a=some r→Con B 66 [.agg [i64 a.Za,i64 a.N,.sl false (L cU8 a.B),.sl false (L cApi_Value a.L)]] [] (fun r' σ'=>r'=.tup [i64 r.1,.bool r.2]∧σ'=[]):=by
 induction n with
 |zero=>intro a r h;cases h
 |succ n ih=>intro a r h;exact Kg ih h
theorem Nt{a:AkK}{r:Int×Bool}(h:IX a=some r):Con B 66 [.agg [i64 a.Za,i64 a.N,.sl false (L cU8 a.B),.sl false (L cApi_Value a.L)]] [] (fun r' σ'=>r'=.tup [i64 r.1,.bool r.2]∧σ'=[]):=JT _ h
theorem Fi{a r}(h:BK a=some r):Con B 96 [u64 a] [] (fun r' σ'=>r'=i64 r∧σ'=[]):=by
 refine Cw 10 [.tmp 2] Tryd.func96 (fun F hE=>?_) h;unfold BK;refine T0 [0,2] ?_;refine Ja (fun b=>⟨Aq 10 [(2,i64 b)],[]⟩) ?_ ?_
 ·intro k;refine Sb ?_;refine Lo (fun(v:UInt64×Int)=>(⟨Aq 10 [(0,u64 v.1),(2,i64 v.2)],[]⟩:St)) (ws []) ?_;rintro⟨d,c⟩ l e f g;show Bb d c=some e→_;unfold Bb;refine Sq <|T0 [0,2,4] ?_
  refine Cd ?_ ?_
  ·refine Sk <|Tn <|Sq <|Sb <|F0 [0,2] ?_
   refine Bn <|Tn <|Lt fun i j =>Fe (fr':=[(0,u64 i),(2,_)]) [0,2] Aa (Ew1 j) ?_
   exact Ln (ws [])
  ·refine Sx <|Tx <|Ly g f <|Bx <|?_
   exact Jm ((ws (l':=[(2,i64 c)]) (σ':=[]) []).trans (ws []))
 intro b;refine T0 [2] ?_;exact Sr <|Rr
theorem IY{a b r}(h:Dy a b=some r):Con B 88 [.bs false 0 (a.length) 0 (a.length),i64 b] [.buf 1 (L cU8 a) false] (fun r' σ'=>r'=.bs false 0 (r.length) 0 (r.length)∧σ'=[.buf 1 (L cU8 r) false]):=by
 refine Co 1 48 [.tmp 4] Tryd.func88 (fun F hE=>?_) h;unfold Dy;refine T0 [0,1] ?_;refine T0 [0,1,5] ?_;refine Bd fun z i =>Te [0,1,5,6] (o1 12 (Fi i)) Ev ?_
 refine Lt fun j k =>Te (fr':=[(0,_),(1,_),(5,_),(6,_),(7,u8 j)]) [0,1,5,6,7] Aa (Ew1 k) ?_
 refine Ja (fun(v:Int×UInt8)=>(⟨Aq 48 [(0,.bs false 0 (a.length) 0 (a.length)),(1,i64 b),(6,i64 v.1),(7,u8 v.2)],[.buf 1 (L cU8 a) false]⟩:St)) ?_ ?_
 ·intro aa;refine T0 [0,1,5,6,7,17] ?_;refine Cd ?_ ?_
  ·refine Bd fun ab l =>Te [0,1,6] (o1 22 (Fi l)) Ev ?_
   refine Lt fun m n =>Fe (fr':=[(0,_),(1,_),(6,_),(7,u8 m)]) [0,1,6,7] Aa (Ew1 n) ?_
   exact Jm (ws [0])
  ·exact Sk <|Jm (ws [0])
 rintro⟨e,ac⟩;refine Ck fun o =>Lt fun f p =>Te (fr':=[(0,.bs false 0 (f.length) 0 (f.length)),(1,_),(6,_)]) (σ':=[.buf 1 (L cU8 f) false,_]) [0,1,6] Aa (Ew2 o p) ?_
 refine Ja (fun c=>⟨Aq 48 [(0,.bs false 0 (c.length) 0 (c.length))],[.buf 1 (L cU8 c) false]⟩) ?_ ?_
 ·intro ad;refine T0 [0,1,6,30,31] ?_;refine Sb ?_;refine Lo (fun(v:Int×List UInt8)=>(⟨Aq 48 [(0,.bs false 0 (v.2.length) 0 (v.2.length)),(1,i64 b),(6,i64 e),(30,i64 e),(31,i64 v.1)],[.buf 1 (L cU8 v.2) false]⟩:St)) (ws [0]) ?_;rintro⟨q,d⟩ ae s t u;show Bf b e q d=some s→_;unfold Bf;refine T0 [0,1,6,30,31,32] ?_;refine Sq <|Cd ?_ ?_
  ·refine Sk <|Tn <|Sq <|Sb <|T0 [0,1,6,8,30,31] ?_
   refine Ck fun w =>Ck fun x =>Lt fun g y =>Fe (fr':=[(0,.bs false 0 (g.length) 0 (g.length)),(1,_),(6,_),(30,_),(31,_)]) (σ':=[.buf 1 (L cU8 g) false,_]) [0,1,6,30,31] Aa (Ew3 w x y) ?_
   refine Bn <|Tn <|F0 [0,1,6,30,31] ?_
   exact Ln (ws [0])
  ·refine Sx <|Tx <|Ly u t <|Bx <|?_
   exact Jm ((ws (l':=[(0,.bs false 0 (d.length) 0 (d.length))]) (σ':=[.buf 1 (L cU8 d) false]) [0]).trans (ws [0]))
 intro c;refine T0 [4] ?_;exact Sr <|Ro [0]
theorem Hu{rec_:(List UInt8)→AkK→Option (List UInt8)}(hrec:∀{b:List UInt8} {a:AkK} {r:List UInt8},rec_ b a=some r→Con B 67 [.bs false 0 (b.length) 0 (b.length),.agg [i64 a.Za,i64 a.N,.sl false (L cU8 a.B),.sl false (L cApi_Value a.L)]] [.buf 1 (L cU8 b) false] (fun r' σ'=>r'=.bs false 0 (r.length) 0 (r.length)∧σ'=[.buf 1 (L cU8 r) false])){b:List UInt8}{a:AkK}{r:List UInt8}(h:C7 rec_ b a=some r):Con B 67 [.bs false 0 (b.length) 0 (b.length),.agg [i64 a.Za,i64 a.N,.sl false (L cU8 a.B),.sl false (L cApi_Value a.L)]] [.buf 1 (L cU8 b) false] (fun r' σ'=>r'=.bs false 0 (r.length) 0 (r.length)∧σ'=[.buf 1 (L cU8 r) false]):=by
 refine KN (N:=59) (rs:=[.tmp 4]) 1 rfl ok Tryd.func67 rfl (by decide +kernel) rfl rfl (AlD rfl) (fun F=>?_);have hE:=ok.env F;unfold C7 at h;show Run (B.env F) 1 _ ⟨Aq 59 [(0,.bs false 0 (b.length) 0 (b.length)),(1,.agg [i64 a.Za,i64 a.N,.sl false (L cU8 a.B),.sl false (L cApi_Value a.L)])],[.buf 1 (L cU8 b) false]⟩ _;refine G8 ?_;revert h;refine T0 [0,3] ?_;refine Jo (fun _=>⟨Aq 59 [(0,.bs false 0 (b.length) 0 (b.length)),(3,.ref 1 0)],[.buf 1 (L cU8 b) false,.box [i64 a.Za,i64 a.N,.sl false (L cU8 a.B),.sl false (L cApi_Value a.L)] false]⟩) ?_ ?_
 ·intro aB w;refine T0 [0,3,10] ?_;refine Sb <|T0 [0,3,10,11] ?_
  refine Cd ?_ ?_
  ·refine Bd fun aC y =>Te [4] (Ar (l:=[]) (m:=[(16,88,[.bs false 0 (b.length) 0 (b.length),i64 a.N],[.buf 1 (L cU8 b) false,.box [i64 a.Za,i64 a.N,.sl false (L cU8 a.B),.sl false (L cApi_Value a.L)] false],_,_)]) trivial ⟨(wc (IY y) [0]),trivial⟩) Ev ?_
   exact Sr <|Br <|Jr w <|Ro [0]
  ·refine T0 [0,3,17] ?_;refine Cd ?_ ?_
   ·refine Ck fun z =>Lt fun i aa =>Te (fr':=[(0,.bs false 0 (i.length) 0 (i.length)),(3,_)]) (σ':=[.buf 1 (L cU8 i) false,_,_]) [0,3] Aa (Ew2 z aa) ?_
    refine Ja (fun d=>⟨Aq 59 [(0,.bs false 0 (d.length) 0 (d.length))],[.buf 1 (L cU8 d) false]⟩) ?_ ?_
    ·intro aD;refine T0 [0,23,24,25] ?_;refine Sb ?_;refine Lo (fun(v:Int×List UInt8)=>(⟨Aq 59 [(0,.bs false 0 (v.2.length) 0 (v.2.length)),(23,.sl false (L cU8 a.B)),(24,i64 (a.B.length:Int)),(25,i64 v.1)],[.buf 1 (L cU8 v.2) false]⟩:St)) (ws [0]) ?_;rintro⟨x,e⟩ aE ab ac ad;show AP a x e=some ab→_;unfold AP;refine T0 [0,23,24,25,26] ?_;refine Sq <|Cd ?_ ?_
     ·refine Sk <|Tn <|?_
      refine Ja (fun f=>⟨Aq 59 [(0,.bs false 0 (f.length) 0 (f.length)),(23,.sl false (L cU8 a.B)),(24,i64 (a.B.length:Int)),(25,i64 x)],[.buf 1 (L cU8 f) false]⟩) ?_ ?_
      ·intro aF;refine Sb <|Ck fun ae =>Te [0,6,23,24,25] Aa (Ew1 (qR ae)) ?_
       refine Ck fun af =>Lt fun j ag =>Te (fr':=[(0,.bs false 0 (j.length) 0 (j.length)),(6,_),(23,_),(24,_),(25,_)]) (σ':=[.buf 1 (L cU8 j) false,_]) [0,6,23,24,25] Aa (Ew2 af ag) ?_
       refine T0 [0,23,24,25,34] ?_;refine Cd ?_ ?_
       ·refine Ck fun ah =>Lt fun k ai =>Fe (fr':=[(0,.bs false 0 (k.length) 0 (k.length)),(23,_),(24,_),(25,_)]) (σ':=[.buf 1 (L cU8 k) false,_,_]) [0,23,24,25] Aa (Ew2 ah ai) ?_
        exact Bn <|Jm (ws [0])
       ·exact Sk <|Bn <|Jm (ws [0])
      intro f;refine F0 [0,23,24,25] ?_;exact Ln (ws [0])
     ·refine Sx <|Tx <|Ly ad ac <|Bx <|?_
      exact Jm ((ws (l':=[(0,.bs false 0 (e.length) 0 (e.length))]) (σ':=[.buf 1 (L cU8 e) false]) [0]).trans (ws [0]))
    intro d;refine Ck fun aj =>Lt fun n ak =>Te (fr':=[(4,.bs false 0 (n.length) 0 (n.length))]) (σ':=[.buf 1 (L cU8 n) false,_]) [4] Aa (Ew2 aj ak) ?_
    exact Sr <|Br <|Jr w <|Ro [0]
   ·exact Sk <|Bn <|Jn (ws [0,1])
 intro _;refine Ck fun al =>Lt fun o am =>Te (fr':=[(0,.bs false 0 (o.length) 0 (o.length)),(3,_)]) (σ':=[.buf 1 (L cU8 o) false,_,_]) [0,3] Aa (Ew2 al am) ?_
 refine Ja (fun g=>⟨Aq 59 [(0,.bs false 0 (g.length) 0 (g.length))],[.buf 1 (L cU8 g) false]⟩) ?_ ?_
 ·intro aG;refine T0 [0,46,47,48] ?_;refine Sb ?_;refine Lo (fun(v:Int×List UInt8)=>(⟨Aq 59 [(0,.bs false 0 (v.2.length) 0 (v.2.length)),(46,.sl false (L cApi_Value a.L)),(47,i64 (a.L.length:Int)),(48,i64 v.1)],[.buf 1 (L cU8 v.2) false]⟩:St)) (ws [0]) ?_;rintro⟨an,c⟩ aH ao ap aq;show AO a rec_ an c=some ao→_;unfold AO;refine T0 [0,46,47,48,49] ?_;refine Sq <|Cd ?_ ?_
  ·refine Sk <|Tn <|Sq <|Sb <|Ck fun ar =>Lt fun p au =>Lt fun q av =>Lt fun s aw =>Lt fun t ax =>Te (σ':=[_,.box [i64 p,i64 q,.sl false (L cU8 s),.sl false (L cApi_Value t)] false]) [0,8,46,47,48] Aa (Ew5 (qR ar) au av aw ax) ?_
   refine Bd fun aI ay =>Fe [0,46,47,48] (Ar (l:=[]) (m:=[(54,67,[.bs false 0 (c.length) 0 (c.length),.agg [i64 p,i64 q,.sl false (L cU8 s),.sl false (L cApi_Value t)]],[.buf 1 (L cU8 c) false,.box [i64 p,i64 q,.sl false (L cU8 s),.sl false (L cApi_Value t)] false],_,_)]) trivial ⟨(wc (hrec ay) [0]),trivial⟩) Ev ?_
   refine Bn <|Tn <|F0 [0,46,47,48] ?_
   exact Ln (ws [0])
  ·refine Sx <|Tx <|Ly aq ap <|Bx <|?_
   exact Jm ((ws (l':=[(0,.bs false 0 (c.length) 0 (c.length))]) (σ':=[.buf 1 (L cU8 c) false]) [0]).trans (ws [0]))
 intro g;refine Ck fun az =>Lt fun u aA =>Te (fr':=[(4,.bs false 0 (u.length) 0 (u.length))]) (σ':=[.buf 1 (L cU8 u) false,_]) [4] Aa (Ew2 az aA) ?_
 exact Sr <|Ro [0]
theorem Hg(n:Nat):∀{b:List UInt8} {a:AkK} {r:List UInt8},BJ n b a=some r→Con B 67 [.bs false 0 (b.length) 0 (b.length),.agg [i64 a.Za,i64 a.N,.sl false (L cU8 a.B),.sl false (L cApi_Value a.L)]] [.buf 1 (L cU8 b) false] (fun r' σ'=>r'=.bs false 0 (r.length) 0 (r.length)∧σ'=[.buf 1 (L cU8 r) false]):=by
 induction n with
 |zero=>intro b a r h;cases h
 |succ n ih=>intro b a r h;exact Hu ih h
theorem HX{b:List UInt8}{a:AkK}{r:List UInt8}(h:ES b a=some r):Con B 67 [.bs false 0 (b.length) 0 (b.length),.agg [i64 a.Za,i64 a.N,.sl false (L cU8 a.B),.sl false (L cApi_Value a.L)]] [.buf 1 (L cU8 b) false] (fun r' σ'=>r'=.bs false 0 (r.length) 0 (r.length)∧σ'=[.buf 1 (L cU8 r) false]):=Hg _ h
theorem H1{a r}(h:Ep a=some r):Con B 43 [.agg [i64 a.Za,i64 a.N,.sl false (L cU8 a.B),.sl false (L cApi_Value a.L)]] [] (fun r' σ'=>r'=.tup [.sl false (L cU8 r.1),i64 r.2]∧σ'=[]):=by
 refine Cw 22 [.tmp 2,.tmp 3] Tryd.func43 (fun F hE=>?_) h;unfold Ep;refine T0 [1] ?_;refine Bd fun d b =>Te [1,4,5] (o1 9 (Nt b)) Ev ?_
 refine Sq <|T0 [1,4,13] ?_
 refine Cd ?_ ?_
 ·refine T0 [2,3] ?_;exact Sr <|Tr <|Rr
 ·refine Sk <|Tn <|Sq <|T0 [1,15] ?_
  refine Cd ?_ ?_
  ·refine T0 [2,3] ?_;exact Sr <|Tr <|Rr
  ·refine Sk <|Tn <|Bd fun e c =>Te [6] (Ar (l:=[]) (m:=[(17,67,[.sl true (L cU8 ([])),.agg [i64 a.Za,i64 a.N,.sl false (L cU8 a.B),.sl false (L cApi_Value a.L)]],[.box [i64 a.Za,i64 a.N,.sl false (L cU8 a.B),.sl false (L cApi_Value a.L)] false],_,_)]) trivial ⟨(Yw 1 (args':=[.bs true 1 0 0 0,.agg [i64 a.Za,i64 a.N,.sl false (L cU8 a.B),.sl false (L cApi_Value a.L)]]) gs (wc (HX c) [1])),trivial⟩) Ev ?_
   refine Sq <|T0 [6,20] ?_
   refine Cd ?_ ?_
   ·refine T0 [2,3] ?_;exact Sr <|Tr <|Rr
   ·refine Sk <|Tn <|T0 [2,3] ?_
    exact Sr <|Rr
theorem Mg{a r}(h:FV a=some r):Con B 26 [.agg (Ak a)] [] (fun r' σ'=>r'=.tup [.sl false (L cU8 r.1),i64 r.2]∧σ'=[]):=by
 refine Cw 22 [.tmp 2,.tmp 3] Tryd.func26 (fun F hE=>?_) h;unfold FV;refine T0 [1] ?_;refine Bd fun e f =>Bd fun g i =>Bd fun j k =>Bd fun b n =>Ck fun c =>Bd fun q o =>Bd fun d p =>?_
 intro h;refine QR hE Mi [[],[0],[],[2],[2,3],[0,1,2,3,4],[],[6],[6,7],[0,1,2,3,4,5,6,7,8],[0,1,2,3,4,5,6,7,8,9],[0,1,2,3,4,5,6,7,8,9,10],[0,1,2,3,4,5,6,7,8,9,10,11],[0,1,2,3,4,5,6,7,8,9,10,11,12],[0,1,2,3,4,5,6,7,8,9,10,11,12,13],[0,1,2,3,4,5,6,7,8,9,10,11,12,13,14],[0,1,2,3,4,5,6,7,8,9,10,11,12,13,14,15],[0,1,2,3,4,5,6,7,8,9,10,11,12,13,14,15],[0,1,2,3,4,5,6,7,8,9,10,11,12,13,14,15,16,17],[0,1,2,3,4,5,6,7,8,9,10,11,12,13,14,15,16,17,18]] (by kernel_rfl) [(),(),(),(),(),(),(),(),()] [(),(),(),(),(),(),()] (by kernel_rfl) [(1,0),(6,0),(7,0),(10,0),(11,0)] [(5,0)] [1,6,7,10,11] [1,2,3,6,7,10,11] (by kernel_rfl) (fr':=[(1,.ref 0 0),(2,.sl false (L cU8 d.1)),(3,i64 d.2),(6,.ref 0 51),(7,.ref 0 51),(10,.ref 0 51),(11,.ref 0 52)]) (σ':=[.box (Ak a) false,.buf 4 (L cApi_Value (e++([b]:List AkK))) true,.buf 4 (L cApi_Value ([g,j]:List AkK)) true,.buf 4 (L cApi_Value ([b]:List AkK)) false]) ⟨_,_,(Ar (l:=[(9,_,_,_),(13,_,_,_),(15,_,_,_),(18,_,_,_),(19,_,_,_)]) (m:=[(5,45,[.agg (Ak a)],[.box (Ak a) false],_,_)]) ⟨J5  i,J5  k,He  n,He  o,H1  p,trivial⟩ ⟨(wc (GT f) []),trivial⟩),(by repeat' (first|exact trivial|(refine And.intro ?_ ?_)|exact fun _=>rfl|exact fun h=>absurd h (by decide))),_,_,(by simp only[go_sem,c];exact AZ),(by exact⟨rfl,rfl,rfl,rfl,rfl,trivial⟩),(by simp only[go_sem,c];exact AZ)⟩ ?_;revert h;exact Sr <|Rr
theorem AC{a b r}(h:A7 a b=some r):Con B 90 [u32 a,i64 b] [] (fun r' σ'=>r'=u32 r∧σ'=[]):=by
 refine Cw 17 [.tmp 4] Tryd.func90 (fun F hE=>?_) h;unfold A7;refine T0 [0,1] ?_;refine Lt fun c d =>Te (fr':=[(0,_),(5,u64 c)]) [0,5] Aa (Ew1 d) ?_
 refine Lt fun e f =>Te (fr':=[(4,u32 e)]) [4] Aa (Ew1 f) ?_
 exact Sr <|Rr
theorem Ll{a b r}(h:Fu a b=some r):Con B 75 [.agg (C1 u32 a.l),.sl false (L cU8 b)] [] (fun r' σ'=>r'=.agg (C1 u32 r.l)∧σ'=[]):=by
 refine Cw 195 [.cell 4 162] Tryd.func75 (fun F hE=>?_) h;unfold Fu;refine T0 [1,2,4] ?_;refine T0 [1,2,4,5] ?_;refine Ja (fun e=>⟨Aq 195 [(2,.ref 0 0),(4,.ref 1 0),(5,.ref 2 0)],[.box (C1 u32 a.l) false,.box (C1 u32 (Arr.rep 8 (0:UInt32)).l) false,.box (C1 u32 e.l) false]⟩) ?_ ?_
 ·intro bh;refine T0 [1,2,4,5,19] ?_;refine Sb ?_;refine Lo (fun(v:Int×Arr UInt32 64)=>(⟨Aq 195 [(1,.sl false (L cU8 b)),(2,.ref 0 0),(4,.ref 1 0),(5,.ref 2 0),(19,i64 v.1)],[.box (C1 u32 a.l) false,.box (C1 u32 (Arr.rep 8 (0:UInt32)).l) false,.box (C1 u32 v.2.l) false]⟩:St)) (ws [0,1,2]) ?_;rintro⟨ac,f⟩ bi ad ae af;show DH b ac f=some ad→_;unfold DH;refine T0 [1,2,4,5,19,20] ?_;refine Sq <|Cd ?_ ?_
  ·refine Sk <|Tn <|Sq <|Sb <|T0 [1,2,4,5,6,19] ?_
   refine Ck fun ag =>Ck fun ah =>Ck fun ai =>Ck fun aj =>Ck fun ak =>Lt fun al am =>Ge (σ':=[_,_,.box (C1 u32 al.l) false]) [[],[],[],[2],[1,2,3],[1,2,3,4],[1,2,3,4,5],[1,2,3,4,5,6],[],[],[9],[9,10],[8,9,10,11],[8,9,10,11,12],[8,9,10,11,12,13],[8,9,10,11,12,13,14],[1,2,3,4,5,6,7,8,9,10,11,12,13,14,15],[],[],[18],[18,19],[17,18,19,20],[17,18,19,20,21],[17,18,19,20,21,22],[17,18,19,20,21,22,23],[1,2,3,4,5,6,7,8,9,10,11,12,13,14,15,16,17,18,19,20,21,22,23,24],[],[],[27],[27,28],[26,27,28,29],[26,27,28,29,30],[26,27,28,29,30,31],[1,2,3,4,5,6,7,8,9,10,11,12,13,14,15,16,17,18,19,20,21,22,23,24,25,26,27,28,29,30,31,32],[0,1,2,3,4,5,6,7,8,9,10,11,12,13,14,15,16,17,18,19,20,21,22,23,24,25,26,27,28,29,30,31,32,33],[0,1,2,3,4,5,6,7,8,9,10,11,12,13,14,15,16,17,18,19,20,21,22,23,24,25,26,27,28,29,30,31,32,33,34]] [1,2,4,5,19] Aa (Ev (by simp only[go_sem,qR ag,qR ah,qR ai,qR aj,qR ak,am];exact AZ)) ?_
   refine Bn <|Tn <|F0 [1,2,4,5,19] ?_
   exact Ln (ws [0,1,2])
  ·refine Sx <|Tx <|Ly af ae <|Bx <|?_
   exact Jm ((ws (l':=[(2,.ref 0 0),(4,.ref 1 0),(5,.ref 2 0)]) (σ':=[.box (C1 u32 a.l) false,.box (C1 u32 (Arr.rep 8 (0:UInt32)).l) false,.box (C1 u32 f.l) false]) [0,1,2]).trans (ws [0,1,2]))
 intro e;refine Ja (fun c=>⟨Aq 195 [(2,.ref 0 0),(4,.ref 1 0),(5,.ref 2 0)],[.box (C1 u32 a.l) false,.box (C1 u32 (Arr.rep 8 (0:UInt32)).l) false,.box (C1 u32 c.l) false]⟩) ?_ ?_
 ·intro bj;refine T0 [2,4,5,7] ?_;refine Sb ?_;refine Lo (fun(v:Int×Arr UInt32 64)=>(⟨Aq 195 [(2,.ref 0 0),(4,.ref 1 0),(5,.ref 2 0),(7,i64 v.1)],[.box (C1 u32 a.l) false,.box (C1 u32 (Arr.rep 8 (0:UInt32)).l) false,.box (C1 u32 v.2.l) false]⟩:St)) (ws [0,1,2]) ?_;rintro⟨an,g⟩ bk ao ap aq;show D9 an g=some ao→_;unfold D9;refine Sq <|T0 [2,4,5,7,59] ?_
  refine Cd ?_ ?_
  ·refine Sk <|Tn <|Sq <|Sb <|Ck fun ar =>Ck fun au =>Lt fun av aw =>Lt fun ax ay =>De (fr':=[(2,_),(4,_),(5,_),(7,_),(8,u32 av),(9,u32 ax)]) [[],[0],[0,1],[0,1,2],[],[4],[4,5],[4,5,6],[0,1,2,3],[0,1,2,3,4,5,6,7,8]] [2,4,5,7,8,9] Aa (Ew4 (qR ar) (qR au) aw ay) ?_
   refine Bd fun bl az =>Bd fun bm aA =>Lt fun s0_5401 aB =>Te (fr':=[(2,_),(4,_),(5,_),(7,_),(9,_),(10,u32 s0_5401)]) [2,4,5,7,9,10] (o2 71 (AC az) 73 (AC aA)) (Ew1 aB) ?_
   refine Bd fun bn aC =>Bd fun bo aD =>Lt fun s1_5407 aE =>Te (fr':=[(2,_),(4,_),(5,_),(7,_),(10,_),(11,u32 s1_5407)]) [2,4,5,7,10,11] (o2 79 (AC aC) 81 (AC aD)) (Ew1 aE) ?_
   refine Ck fun aF =>Ck fun aG =>Ck fun aH =>Lt fun aI aJ =>Ge (σ':=[_,_,.box (C1 u32 aI.l) false]) [[],[],[1],[1,2],[1,2,3],[],[1,2,3,4,5],[],[7],[7,8],[7,8,9],[1,2,3,4,5,6,7,8,9,10],[],[1,2,3,4,5,6,7,8,9,10,11,12],[0,1,2,3,4,5,6,7,8,9,10,11,12,13],[0,1,2,3,4,5,6,7,8,9,10,11,12,13,14]] [2,4,5,7] Aa (Ew4 (qR aF) (qR aG) (qR aH) aJ) ?_
   refine Bn <|Tn <|F0 [2,4,5,7] ?_
   exact Ln (ws [0,1,2])
  ·refine Sx <|Tx <|Ly aq ap <|Bx <|?_
   exact Jm ((ws (l':=[(2,.ref 0 0),(4,.ref 1 0),(5,.ref 2 0)]) (σ':=[.box (C1 u32 a.l) false,.box (C1 u32 (Arr.rep 8 (0:UInt32)).l) false,.box (C1 u32 g.l) false]) [0,1,2]).trans (ws [0,1,2]))
 intro c;refine T0 [2,4,5,12] ?_;refine Ja (fun d=>⟨Aq 195 [(2,.ref 0 0),(4,.ref 1 0),(12,.ref 2 0)],[.box (C1 u32 a.l) false,.box (C1 u32 (Arr.rep 8 (0:UInt32)).l) false,.box (C1 u32 d.l) false]⟩) ?_ ?_
 ·intro bp;refine T0 [2,4,5,12,102] ?_;refine Sb ?_;refine Lo (fun(v:Int×Arr UInt32 8)=>(⟨Aq 195 [(2,.ref 0 0),(4,.ref 1 0),(5,.ref 2 0),(12,.ref 3 0),(102,i64 v.1)],[.box (C1 u32 a.l) false,.box (C1 u32 (Arr.rep 8 (0:UInt32)).l) false,.box (C1 u32 c.l) false,.box (C1 u32 v.2.l) false]⟩:St)) (ws [0,1,2,3]) ?_;rintro⟨aK,i⟩ bq aL aM aN;show DG c aK i=some aL→_;unfold DG;refine T0 [2,4,5,12,102,103] ?_;refine Sq <|Cd ?_ ?_
  ·refine Sk <|Tn <|Sq <|Sb <|T0 [2,4,5,12,13,102] ?_
   have j:InR 0 8:=by decide
   have k:InR 4 8:=by decide
   refine De [[],[0],[],[2],[0,1],[0,1,2,3,4]] [2,4,5,12,13,14,15,102] Aa (Ev (by simp only[go_sem,j,j.2,k,k.2];exact AZ)) ?_;have m:InR 7 8:=by decide
   refine Bd fun aO aP =>Bd fun aQ aR =>Bd fun aS aT =>?_
   have n:InR 5 8:=by decide
   have o:InR 6 8:=by decide
   refine Ck fun aU =>Ck fun aV =>Lt fun aW aX =>De (fr':=[(2,_),(4,_),(5,_),(12,_),(14,_),(15,_),(16,u32 aW),(102,_)]) [[],[0],[],[2],[],[2,3,4],[2,3,4,5],[],[2,3,4,5,7],[2,3,4,5,6,7,8],[0,1,2,3,4,5,6,7,8,9],[],[],[12],[11,12,13],[],[15],[],[17],[15,16,17,18],[11,12,13,14,15,16,17,18,19],[0,1,2,3,4,5,6,7,8,9,10,11,12,13,14,15,16,17,18,19,20],[],[22],[22,23],[0,1,2,3,4,5,6,7,8,9,10,11,12,13,14,15,16,17,18,19,20,21,22,23,24],[],[26],[26,27],[0,1,2,3,4,5,6,7,8,9,10,11,12,13,14,15,16,17,18,19,20,21,22,23,24,25,26,27,28],[0,1,2,3,4,5,6,7,8,9,10,11,12,13,14,15,16,17,18,19,20,21,22,23,24,25,26,27,28,29]] [2,4,5,12,14,15,16,102] (D7 (l:=[(112,_,_,u32 aO),(114,_,_,u32 aQ),(117,_,_,u32 aS)]) ⟨AC  aP,AC  aR,AC  aT,trivial⟩) (Ev (by simp only[go_sem,m,m.2,n,n.2,o,o.2,qR aU,qR aV,aX];exact AZ)) ?_
   refine Bd fun aY aZ =>Bd fun a0 a1 =>Bd fun a2 a3 =>?_
   have p:InR 1 8:=by decide
   have q:InR 2 8:=by decide
   have s:InR 1 8:=by decide
   have t:InR 2 8:=by decide
   refine Lt fun a4 a5 =>De (fr':=[(2,_),(4,_),(5,_),(12,_),(14,_),(15,_),(16,_),(17,u32 a4),(102,_)]) [[],[0],[],[0,1,2],[0,1,2,3],[],[0,1,2,3,5],[0,1,2,3,4,5,6],[],[],[9],[8,9,10],[],[],[13],[12,13,14],[8,9,10,11,12,13,14,15],[],[17],[],[19],[17,18,19,20],[8,9,10,11,12,13,14,15,16,17,18,19,20,21],[0,1,2,3,4,5,6,7,8,9,10,11,12,13,14,15,16,17,18,19,20,21,22],[0,1,2,3,4,5,6,7,8,9,10,11,12,13,14,15,16,17,18,19,20,21,22,23]] [2,4,5,12,14,15,16,17,102] (D7 (l:=[(140,_,_,u32 aY),(142,_,_,u32 a0),(145,_,_,u32 a2)]) ⟨AC  aZ,AC  a1,AC  a3,trivial⟩) (Ev (by simp only[go_sem,p,p.2,q,q.2,s,s.2,t,t.2,a5];exact AZ)) ?_
   have u:InR 1 8:=by decide
   have w:InR 2 8:=by decide
   have x:InR 3 8:=by decide
   have y:InR 5 8:=by decide
   have z:InR 6 8:=by decide
   refine Lt fun a6 a7 =>Fe (σ':=[_,.box (C1 u32 (Arr.rep 8 (0:UInt32)).l) false,_,.box (C1 u32 a6.l) false]) [2,4,5,12,102] Aa (Ev (by simp only[go_sem,u,u.2,w,w.2,x,x.2,y,y.2,z,z.2,I1,JB,Hl,a7];exact AZ)) ?_
   refine Bn <|Tn <|F0 [2,4,5,12,102] ?_
   exact Ln (ws [0,1,2,3])
  ·refine Sx <|Tx <|Ly aN aM <|Bx <|?_
   exact Jm ((ws (l':=[(2,.ref 0 0),(4,.ref 1 0),(12,.ref 2 0)]) (σ':=[.box (C1 u32 a.l) false,.box (C1 u32 (Arr.rep 8 (0:UInt32)).l) false,.box (C1 u32 i.l) false]) [0,1,3]).trans (ws [0,1,2]))
 intro d;refine Ja (fun aa=>⟨Aq 195 [(2,.ref 0 0),(4,.ref 1 0)],[.box (C1 u32 aa.l) false,.box (C1 u32 (Arr.rep 8 (0:UInt32)).l) false]⟩) ?_ ?_
 ·intro br;refine T0 [2,4,12,182] ?_;refine Sb ?_;refine Lo (fun(v:Int×Arr UInt32 8)=>(⟨Aq 195 [(2,.ref 0 0),(4,.ref 1 0),(12,.ref 2 0),(182,i64 v.1)],[.box (C1 u32 v.2.l) false,.box (C1 u32 (Arr.rep 8 (0:UInt32)).l) false,.box (C1 u32 d.l) false]⟩:St)) (ws [0,1,2]) ?_;rintro⟨a8,ab⟩ bs a9 ba bb;show D8 d a8 ab=some a9→_;unfold D8;refine T0 [2,4,12,182,183] ?_;refine Sq <|Cd ?_ ?_
  ·refine Sk <|Tn <|Sq <|Sb <|T0 [2,4,12,18,182] ?_
   refine Ck fun bc =>Ck fun bd =>Ck fun be =>Lt fun bf bg =>Ge (σ':=[.box (C1 u32 bf.l) false,_,_]) [[],[0],[0,1],[],[3],[3,4],[0,1,2,3,4,5],[0,1,2,3,4,5,6],[0,1,2,3,4,5,6,7]] [2,4,12,182] Aa (Ew4 (qR bc) (qR bd) (qR be) bg) ?_
   refine Bn <|Tn <|F0 [2,4,12,182] ?_
   exact Ln (ws [0,1,2])
  ·refine Sx <|Tx <|Ly bb ba <|Bx <|?_
   exact Jm ((ws (l':=[(2,.ref 0 0),(4,.ref 1 0)]) (σ':=[.box (C1 u32 ab.l) false,.box (C1 u32 (Arr.rep 8 (0:UInt32)).l) false]) [0,1]).trans (ws [0,1]))
 intro aa;refine T0 [4] ?_;exact Sr <|Rr
theorem NQ{d r}(h:GF d=some r):Con B 52 [.sl false (L (cSl cU8) d)] [] (fun r' σ'=>r'=.agg (C1 u8 r.l)∧σ'=[]):=by
 refine Cw 72 [.cell 2 52] Tryd.func52 (fun F hE=>?_) h;unfold GF;refine T0 [0,2] ?_;refine T0 [0,2,3] ?_;refine Ja (fun e=>⟨Aq 72 [(2,.ref 0 0),(3,.bs false 1 (e.length) 0 (e.length))],[.box (C1 u8 (Arr.rep 32 (0:UInt8)).l) false,.buf 1 (L cU8 e) false]⟩) ?_ ?_
 ·intro aQ;refine T0 [2,3,10,11,12] ?_;refine Sb ?_;refine Lo (fun(v:Int×List UInt8)=>(⟨Aq 72 [(2,.ref 0 0),(3,.bs false 1 (v.2.length) 0 (v.2.length)),(10,.sl false (L (cSl cU8) d)),(11,i64 (d.length:Int)),(12,i64 v.1)],[.box (C1 u8 (Arr.rep 32 (0:UInt8)).l) false,.buf 1 (L cU8 v.2) false]⟩:St)) ((Pl 3 1 rfl).trans (ws [0,1])) ?_;rintro⟨w,f⟩ aR x y z;show DR d w f=some x→_;unfold DR;refine T0 [2,3,10,11,12,13] ?_;refine Sq <|Cd ?_ ?_
  ·refine Sk <|Tn <|Sq <|Sb <|Ck fun aa =>Lt fun ab ac =>Te (fr':=[(2,_),(3,_),(5,.sl false (L cU8 ab)),(10,_),(11,_),(12,_)]) [2,3,5,10,11,12] Aa (Ew2 (qR aa) ac) ?_
   refine Ck fun ad =>Lt fun m ae =>Fe (fr':=[(2,_),(3,.bs false 1 (m.length) 0 (m.length)),(10,_),(11,_),(12,_)]) (σ':=[_,.buf 1 (L cU8 m) false]) [2,3,10,11,12] Aa (Ew2 ad ae) ?_
   refine Bn <|Tn <|F0 [2,3,10,11,12] ?_
   exact Ln (ws [0,1])
  ·refine Sx <|Tx <|Ly z y <|Bx <|?_
   exact Jm ((ws (l':=[(2,.ref 0 0),(3,.bs false 1 (f.length) 0 (f.length))]) (σ':=[.box (C1 u8 (Arr.rep 32 (0:UInt8)).l) false,.buf 1 (L cU8 f) false]) [0,1]).trans (ws [0,1]))
 intro e;refine Lt fun c af =>Te (fr':=[(2,_),(3,_),(6,u64 c)]) [2,3,6] Aa (Ew1 af) ?_
 refine Ck fun ag =>Lt fun n ah =>Te (fr':=[(2,_),(3,.bs false 1 (n.length) 0 (n.length)),(6,_)]) (σ':=[_,.buf 1 (L cU8 n) false,_]) [2,3,6] Aa (Ew2 ag ah) ?_
 refine Ja (fun g=>⟨Aq 72 [(2,.ref 0 0),(3,.bs false 1 (g.length) 0 (g.length)),(6,u64 c)],[.box (C1 u8 (Arr.rep 32 (0:UInt8)).l) false,.buf 1 (L cU8 g) false]⟩) ?_ ?_
 ·intro aS;refine Sb ?_;refine Lo (fun a=>⟨Aq 72 [(2,.ref 0 0),(3,.bs false 1 (a.length) 0 (a.length)),(6,u64 c)],[.box (C1 u8 (Arr.rep 32 (0:UInt8)).l) false,.buf 1 (L cU8 a) false]⟩) (ws [0,1]) ?_;rintro a aT ai aj ak;show E9 a=some ai→_;unfold E9;refine Sq ?_;have al:¬(64:Int)=0:=by decide
  refine Te [2,3,6,30] Aa (Ew1 al) ?_;refine Cd ?_ ?_
  ·refine Sk <|Tn <|Sb <|Ck fun am =>Lt fun o an =>Fe (fr':=[(2,_),(3,.bs false 1 (o.length) 0 (o.length)),(6,_)]) (σ':=[_,.buf 1 (L cU8 o) false,_]) [2,3,6] Aa (Ew2 am an) ?_
   exact Bn <|Ln (ws [0,1])
  ·refine Sx <|Tx <|Ly ak aj <|Bx <|?_
   exact Jm ((ws (l':=[(2,.ref 0 0),(3,.bs false 1 (a.length) 0 (a.length)),(6,u64 c)]) (σ':=[.box (C1 u8 (Arr.rep 32 (0:UInt8)).l) false,.buf 1 (L cU8 a) false]) [0,1]).trans (ws [0,1]))
 intro g;refine Ja (fun b=>⟨Aq 72 [(2,.ref 0 0),(3,.bs false 1 (b.length) 0 (b.length))],[.box (C1 u8 (Arr.rep 32 (0:UInt8)).l) false,.buf 1 (L cU8 b) false]⟩) ?_ ?_
 ·intro aU;refine T0 [2,3,6,7] ?_;refine Sb ?_;refine Lo (fun(v:Int×List UInt8)=>(⟨Aq 72 [(2,.ref 0 0),(3,.bs false 1 (v.2.length) 0 (v.2.length)),(6,u64 c),(7,i64 v.1)],[.box (C1 u8 (Arr.rep 32 (0:UInt8)).l) false,.buf 1 (L cU8 v.2) false]⟩:St)) (ws [0,1]) ?_;rintro⟨ao,i⟩ aV ap aq ar;show DS c ao i=some ap→_;unfold DS;refine Sq <|T0 [2,3,6,7,35] ?_
  refine Cd ?_ ?_
  ·refine Sk <|Tn <|Sq <|Sb <|Ck fun au =>Ck fun av =>Lt fun p aw =>Fe (fr':=[(2,_),(3,.bs false 1 (p.length) 0 (p.length)),(6,_),(7,_)]) (σ':=[_,.buf 1 (L cU8 p) false,_]) [2,3,6,7] Aa (Ew3 au av aw) ?_
   refine Bn <|Tn <|F0 [2,3,6,7] ?_
   exact Ln (ws [0,1])
  ·refine Sx <|Tx <|Ly ar aq <|Bx <|?_
   exact Jm ((ws (l':=[(2,.ref 0 0),(3,.bs false 1 (i.length) 0 (i.length))]) (σ':=[.box (C1 u8 (Arr.rep 32 (0:UInt8)).l) false,.buf 1 (L cU8 i) false]) [0,1]).trans (ws [0,1]))
 intro b;refine Lt fun ax ay =>Te (σ':=[.box (C1 u8 (Arr.rep 32 (0:UInt8)).l) false,_,.box (C1 u32 ax.l) false]) [2,3,8] Aa (Ev (by simp only[go_sem,I1,JB,Hl,ay];exact AZ)) ?_
 refine Ja (fun j=>⟨Aq 72 [(2,.ref 0 0),(8,.ref 1 0)],[.box (C1 u8 (Arr.rep 32 (0:UInt8)).l) false,.box (C1 u32 j.l) false]⟩) ?_ ?_
 ·intro aW;refine Sb ?_;refine Lo (fun⟨q,s,k⟩=>⟨Aq 72 [(2,.ref 0 0),(3,.bs false 1 (b.length) q s),(8,.ref 2 0)],[.box (C1 u8 (Arr.rep 32 (0:UInt8)).l) false,.buf 1 (L cU8 b) false,.box (C1 u32 k.l) false]⟩) (ws [0,1,2]) ?_;rintro⟨q,s,k⟩ aX az aA aB;show EB b q s k=some az→_;unfold EB;refine Sq <|T0 [2,3,8,48] ?_
  refine Cd ?_ ?_
  ·refine Sk <|Tn <|Sq <|Sb <|Ck fun aC =>Bd fun aY aD =>Ge [[],[],[1],[0,1,2],[0,1,2,3]] [2,3,8] (o1 54 (Ll aD)) (Ew1 aC) ?_
   refine Bn <|Tn <|Ck fun aE =>Fe [2,3,8] Aa (Ew1 aE) ?_
   exact Ln (ws [0,1,2])
  ·refine Sx <|Tx <|Ly aB aA <|Bx <|?_
   exact Jm ((ws (l':=[(2,.ref 0 0),(8,.ref 1 0)]) (σ':=[.box (C1 u8 (Arr.rep 32 (0:UInt8)).l) false,.box (C1 u32 k.l) false]) [0,2]).trans (ws [0,1]))
 intro j;refine Ja (fun t=>⟨Aq 72 [(2,.ref 0 0)],[.box (C1 u8 t.l) false]⟩) ?_ ?_
 ·intro aZ;refine T0 [2,8,55] ?_;refine Sb ?_;refine Lo (fun(v:Int×Arr UInt8 32)=>(⟨Aq 72 [(2,.ref 0 0),(8,.ref 1 0),(55,i64 v.1)],[.box (C1 u8 v.2.l) false,.box (C1 u32 j.l) false]⟩:St)) (ws [0,1]) ?_;rintro⟨aF,u⟩ a0 aG aH aI;show E3 j aF u=some aG→_;unfold E3;refine T0 [2,8,55,56] ?_;refine Sq <|Cd ?_ ?_
  ·refine Sk <|Tn <|Sq <|Sb <|T0 [2,8,9,55] ?_
   have aJ:¬(4:Int)=0:=by decide
   refine Ck fun aK=>?_
   have aL:¬(4:Int)=0:=by decide
   refine Ck fun aM =>Ck fun aN =>Lt fun aO aP =>Fe (σ':=[.box (C1 u8 aO.l) false,_]) [2,8,55] Aa (Ev (by simp only[go_sem,aJ,qR aK,aL,aM,qR aN,aP];exact AZ)) ?_
   refine Bn <|Tn <|F0 [2,8,55] ?_
   exact Ln (ws [0,1])
  ·refine Sx <|Tx <|Ly aI aH <|Bx <|?_
   exact Jm ((ws (l':=[(2,.ref 0 0)]) (σ':=[.box (C1 u8 u.l) false]) [0]).trans (ws [0]))
 intro t;refine T0 [2] ?_;exact Sr <|Rr
theorem EW{a b r}(h:CH a b=some r):Con B 27 [.str a,.sl false (L cU8 b)] [] (fun r' σ'=>r'=.agg (C1 u8 r.l)∧σ'=[]):=by
 refine Cw 19 [.cell 4 52] Tryd.func27 (fun F hE=>?_) h;unfold CH;refine T0 [0,1,4] ?_;refine Ck fun c =>Lt fun d e =>Te (fr':=[(0,.str d),(1,_),(4,_)]) [0,1,4] Aa (Ew2 c e) ?_
 refine Bd fun g f =>Te [4] (o1 18 (NQ f)) Ev ?_
 exact Sr <|Rr
theorem HQ{a r}(h:D0 a=some r):Con B 17 [.agg (Ak a)] [] (fun r' σ'=>r'=.tup [.agg (C1 u8 r.1.l),i64 r.2]∧σ'=[]):=by
 refine Cw 16 [.cell 2 52,.tmp 3] Tryd.func17 (fun F hE=>?_) h;unfold D0;refine T0 [1,2] ?_;refine Bd fun d b =>Te [2,3,4] (o1 7 (Mg b)) Ev ?_
 refine Sq <|T0 [2,3,4,11] ?_
 refine Cd ?_ ?_
 ·refine T0 [2,3] ?_;exact Sr <|Tr <|Rr
 ·refine Sk <|Tn <|Bd fun e c =>Te [2,3] (o1 15 (EW c)) Ev ?_
  exact Sr <|Rr
theorem Js{a r}(h:FP a=some r):Con B 14 [.agg (Ak a)] [] (fun r' σ'=>r'=.tup [.sl false (L cU8 r.1),i64 r.2]∧σ'=[]):=by
 refine Cw 10 [.tmp 2,.tmp 3] Tryd.func14 (fun F hE=>?_) h;unfold FP;refine T0 [1] ?_;refine Bd fun e b =>Bd fun f c =>Bd fun g d =>Te [2,3] (Ar (l:=[(6,_,_,_),(7,_,_,_)]) (m:=[(5,45,[.agg (Ak a)],[.box (Ak a) false],_,_)]) ⟨He  c,H1  d,trivial⟩ ⟨(wc (GT b) []),trivial⟩) Ev ?_
 exact Sr <|Rr
theorem HN{b a r}(h:Fb b a=some r):Con B 59 [.sl false (L cU8 b),.sl false (L Pg a)] [] (fun r' σ'=>r'=.sl false (L cU8 r)∧σ'=[]):=by
 refine Cw 39 [.tmp 4] Tryd.func59 (fun F hE=>?_) h;unfold Fb;refine T0 [0,1] ?_;refine Ck fun m =>Lt fun i n =>Te (fr':=[(0,_),(1,_),(5,.bs (0==(w64 ((w64 (8*(a.length:Int)))+(b.length:Int)))) 0 (i.length) 0 (i.length))]) (σ':=[.buf 1 (L cU8 i) false]) [0,1,5] Aa (Ew2 m n) ?_
 refine Ja (fun c=>⟨Aq 39 [(0,.sl false (L cU8 b)),(5,.bs false 0 (c.length) 0 (c.length))],[.buf 1 (L cU8 c) false]⟩) ?_ ?_
 ·intro ae;refine T0 [0,5,16,17,18] ?_;refine Sb ?_;refine Lo (fun(v:Int×List UInt8)=>(⟨Aq 39 [(0,.sl false (L cU8 b)),(5,.bs false 0 (v.2.length) 0 (v.2.length)),(16,.sl false (L Pg a)),(17,i64 (a.length:Int)),(18,i64 v.1)],[.buf 1 (L cU8 v.2) false]⟩:St)) (ws [0]) ?_;rintro⟨d,e⟩ af o p q;show Dr a d e=some o→_;unfold Dr;refine T0 [0,5,16,17,18,19] ?_;refine Sq <|Cd ?_ ?_
  ·refine Sk <|Tn <|?_
   refine Ja (fun f=>⟨Aq 39 [(0,.sl false (L cU8 b)),(5,.bs false 0 (f.length) 0 (f.length)),(16,.sl false (L Pg a)),(17,i64 (a.length:Int)),(18,i64 d)],[.buf 1 (L cU8 f) false]⟩) ?_ ?_
   ·intro ag;refine Sb <|Ck fun s =>Lt fun j t =>Te (fr':=[(0,_),(5,_),(7,u64 j),(16,_),(17,_),(18,_)]) [0,5,7,16,17,18] Aa (Ew2 (qR s) t) ?_
    refine T0 [0,5,7,16,17,18,22] ?_;refine Sb ?_;refine Lo (fun(v:Int×List UInt8)=>(⟨Aq 39 [(0,.sl false (L cU8 b)),(5,.bs false 0 (v.2.length) 0 (v.2.length)),(7,u64 j),(16,.sl false (L Pg a)),(17,i64 (a.length:Int)),(18,i64 d),(22,i64 v.1)],[.buf 1 (L cU8 v.2) false]⟩:St)) (ws [0]) ?_;rintro⟨u,g⟩ ah w x y;show Df j u g=some w→_;unfold Df;refine T0 [0,5,7,16,17,18,22,23] ?_;refine Sq <|Cd ?_ ?_
    ·refine Sk <|Tn <|Sq <|Sb <|T0 [0,5,7,8,16,17,18,22] ?_
     refine Ck fun z =>Ck fun aa =>Lt fun k ab =>Fe (fr':=[(0,_),(5,.bs false 0 (k.length) 0 (k.length)),(7,_),(16,_),(17,_),(18,_),(22,_)]) (σ':=[.buf 1 (L cU8 k) false,_]) [0,5,7,16,17,18,22] Aa (Ew3 z aa ab) ?_
     refine Bn <|Tn <|F0 [0,5,7,16,17,18,22] ?_
     exact Ln (ws [0])
    ·refine Sx <|Tx <|Ly y x <|Bx <|Bn <|?_
     exact Jm ((ws (l':=[(0,.sl false (L cU8 b)),(5,.bs false 0 (g.length) 0 (g.length)),(16,.sl false (L Pg a)),(17,i64 (a.length:Int)),(18,i64 d)]) (σ':=[.buf 1 (L cU8 g) false]) [0]).trans (ws [0]))
   intro f;refine F0 [0,5,16,17,18] ?_;exact Ln (ws [0])
  ·refine Sx <|Tx <|Ly q p <|Bx <|?_
   exact Jm ((ws (l':=[(0,.sl false (L cU8 b)),(5,.bs false 0 (e.length) 0 (e.length))]) (σ':=[.buf 1 (L cU8 e) false]) [0]).trans (ws [0]))
 intro c;refine Ck fun ac =>Lt fun l ad =>Te (fr':=[(4,.bs false 0 (l.length) 0 (l.length))]) (σ':=[.buf 1 (L cU8 l) false]) [4] Aa (Ew2 ac ad) ?_
 exact Sr <|Rr
theorem GI{a r}(h:DT a=some r):Con B 58 [.agg (C1 u8 a.l)] [] (fun r' σ'=>r'=u64 r∧σ'=[]):=by
 refine Cw 18 [.tmp 2] Tryd.func58 (fun F hE=>?_) h;unfold DT;refine T0 [1,2] ?_;refine Ja (fun b=>⟨Aq 18 [(2,u64 b)],[]⟩) ?_ ?_
 ·intro p;have d:InB 8 32:=by decide
  refine Te [2,5,6,7] Aa (Ew1 d) ?_;refine Sb ?_;refine Lo (fun(v:UInt64×Int)=>(⟨Aq 18 [(2,u64 v.1),(5,.sl false (L cU8 (a.l.take 8))),(6,i64 ((a.l.take 8).length:Int)),(7,i64 v.2)],[]⟩:St)) (ws []) ?_;rintro⟨c,e⟩ q f g i;show CB a c e=some f→_;unfold CB;refine T0 [2,5,6,7,8] ?_;refine Sq <|Cd ?_ ?_
  ·refine Sk <|Tn <|Sq <|Sb <|Ck fun j =>Lt fun k m =>Te (fr':=[(2,_),(4,u8 k),(5,_),(6,_),(7,_)]) [2,4,5,6,7] Aa (Ew2 (qR j) m) ?_
   refine Lt fun n o =>Fe (fr':=[(2,u64 n),(5,_),(6,_),(7,_)]) [2,5,6,7] Aa (Ew1 o) ?_
   refine Bn <|Tn <|F0 [2,5,6,7] ?_
   exact Ln (ws [])
  ·refine Sx <|Tx <|Ly i g <|Bx <|?_
   exact Jm ((ws (l':=[(2,u64 c)]) (σ':=[]) []).trans (ws []))
 intro b;refine T0 [2] ?_;exact Sr <|Rr
theorem Gu{a b c r}(h:Do a b c=some r):Con B 49 [u64 a,u64 b,.sl false (L cU8 c)] [] (fun r' σ'=>r'=u64 r∧σ'=[]):=by
 refine Cw 15 [.tmp 6] Tryd.func49 (fun F hE=>?_) h;unfold Do;refine T0 [0,1,2] ?_;refine Bd fun j d =>Bd fun k e =>Bd fun f g =>?_
 have i:¬(1152921504606845399:UInt64)=0:=by decide
 refine Te [6] (D7 (l:=[(11,_,_,_),(12,_,_,_),(13,_,_,u64 f)]) ⟨HN  d,EW  e,GI  g,trivial⟩) (Ew1 i) ?_;exact Sr <|Rr
theorem OW{a b r}(h:Ga a b=some r):Con B 34 [u64 a,.sl false (L cU8 b)] [] (fun r' σ'=>r'=.tup [.agg [u64 r.1.C,u64 r.1.S],i64 r.2]∧σ'=[]):=by
 refine Cw 45 [.cell 4 54,.tmp 5] Tryd.func34 (fun F hE=>?_) h;unfold Ga;refine T0 [0,1,4] ?_;refine Bd fun x d =>Te [0,1,4,6,7] (o1 12 (HD d)) Ev ?_
 refine Sq <|T0 [0,1,4,6,7,16] ?_
 refine Cd ?_ ?_
 ·refine T0 [4,5] ?_;exact Sr <|Tr <|Rr
 ·refine Sk <|Tn <|Sq <|T0 [0,1,4,6,21] ?_
  refine Cd ?_ ?_
  ·refine T0 [4,5] ?_;exact Sr <|Tr <|Rr
  ·refine Sk <|Tn <|Bd fun y e =>Bd fun z f =>Bd fun g i =>?_
   have j:¬(1152921504606845398:UInt64)=0:=by decide
   refine Lt fun k n =>Te (fr':=[(0,_),(1,_),(4,_),(6,_),(8,u64 k)]) [0,1,4,6,8] (D7 (l:=[(26,_,_,_),(27,_,_,_),(28,_,_,u64 g)]) ⟨HN  e,EW  f,GI  i,trivial⟩) (Ew2 j n) ?_
   refine Bd fun aa o =>Bd fun c p =>Te [0,4,8,9] (o2 32 (Fy o) 35 (Gu p)) Ev ?_
   refine Bd fun q s =>Bd fun ab t =>?_
   have u:¬(1152921504606845399:UInt64)=0:=by decide
   refine Lt fun v w =>Te (σ':=[.box [u64 c,u64 v] false,_,_]) [4,5] (Ar (l:=[]) (m:=[(38,47,[u64 (1152921504606845399:UInt64)],[.box [u64 (0:UInt64),u64 (0:UInt64)] false,.buf 1 (L Pg ([a]:List UInt64)) true],_,_),(41,70,[u64 c,u64 a,.ref 2 0],[.box [u64 (0:UInt64),u64 (0:UInt64)] false,.buf 1 (L Pg ([a]:List UInt64)) true,.box [u64 q] false],_,_)]) trivial ⟨(wc (Gg s) []),(wc (DQ t) [2]),trivial⟩) (Ew2 u w) ?_
   exact Sr <|Rr
theorem Hc{d r}(h:FC d=some r):Con B 79 [.agg (A3 d)] [] (fun r' σ'=>r'=.bool r∧σ'=[]):=by
 refine Cw 32 [.tmp 2] Tryd.func79 (fun F hE=>?_) h;unfold FC;refine T0 [1] ?_;refine Sq <|T0 [1,6] ?_
 refine Cd ?_ ?_
 ·refine T0 [2] ?_;exact Sr <|Tr <|Rr
 ·refine Sk <|Tn <|?_
  refine Tw [2] (fun e=>⟨Aq 32 [(2,.bool e)],[]⟩) ?_ ?_
  ·intro _;refine Sp (fun a=>?_) fun a=>?_
   ·refine Sp (fun b=>?_) fun b=>?_
    ·refine Sp (fun c=>?_) fun c=>?_
     ·exact Lf Aa (Ew3 a b c) (ws [])
     ·exact Lf Aa (Ew3 a b c) (ws [])
    ·exact Lf Aa (Ew2 a b) (ws [])
   ·exact Lf Aa (Ew1 a) (ws [])
  intro e;exact Sr <|Rr
theorem GD{a d e r}(h:BT a d e=some r):Con B 98 [.ref 0 0,.ref 0 12,i64 d,i64 e] [.box [.sl false (L Ag a.p.Zg1.Ze),.sl false (L Am a.p.Zg1.Zf),.sl false (L Ab a.p.Zh1.Zx),.sl false (L Ae a.p.Zh1.Zy),.sl false (L Ai a.p.Zh1.Zz),.sl false (L Ah a.p.Zh1.Za1),.sl false (L Af a.p.Zi1),.sl false (L Ad a.p.Zj1),.sl false (L Ac a.p.Zk1),i64 a.it.Za,i64 a.it.Ref.Zb,i64 a.it.Ref.No,i64 a.it.Zn1,i64 a.it.Zb1,i64 a.it.Zc,i64 a.it.Zo1,i64 a.it.Zw,i64 a.it.To,i64 a.it.Code,i64 a.it.Zp1,i64 a.it.Zq1,i64 a.it.Zr1,i64 a.it.Zs1,.str a.it.Zt1,.sl false (L Aj a.it.Zu1),.bool a.ok] false] (fun r' σ'=>r'=.tup []∧σ'=[.box [.sl false (L Ag r.p.Zg1.Ze),.sl false (L Am r.p.Zg1.Zf),.sl false (L Ab r.p.Zh1.Zx),.sl false (L Ae r.p.Zh1.Zy),.sl false (L Ai r.p.Zh1.Zz),.sl false (L Ah r.p.Zh1.Za1),.sl false (L Af r.p.Zi1),.sl false (L Ad r.p.Zj1),.sl false (L Ac r.p.Zk1),i64 r.it.Za,i64 r.it.Ref.Zb,i64 r.it.Ref.No,i64 r.it.Zn1,i64 r.it.Zb1,i64 r.it.Zc,i64 r.it.Zo1,i64 r.it.Zw,i64 r.it.To,i64 r.it.Code,i64 r.it.Zp1,i64 r.it.Zq1,i64 r.it.Zr1,i64 r.it.Zs1,.str r.it.Zt1,.sl false (L Aj r.it.Zu1),.bool r.ok] false]):=by
 refine Co 1 31 [] Tryd.func98 (fun F hE=>?_) h;unfold BT;refine Tw [1] (fun f=>⟨Aq 31 [(1,.ref 0 12)],[.box [.sl false (L Ag a.p.Zg1.Ze),.sl false (L Am a.p.Zg1.Zf),.sl false (L Ab a.p.Zh1.Zx),.sl false (L Ae a.p.Zh1.Zy),.sl false (L Ai a.p.Zh1.Zz),.sl false (L Ah a.p.Zh1.Za1),.sl false (L Af a.p.Zi1),.sl false (L Ad a.p.Zj1),.sl false (L Ac a.p.Zk1),i64 a.it.Za,i64 a.it.Ref.Zb,i64 a.it.Ref.No,i64 a.it.Zn1,i64 a.it.Zb1,i64 a.it.Zc,i64 a.it.Zo1,i64 a.it.Zw,i64 a.it.To,i64 a.it.Code,i64 a.it.Zp1,i64 a.it.Zq1,i64 a.it.Zr1,i64 a.it.Zs1,.str a.it.Zt1,.sl false (L Aj a.it.Zu1),.bool f] false]⟩) ?_ ?_
 ·intro _;refine Sp (fun b=>?_) fun b=>?_
  ·refine Sp (fun c=>?_) fun c=>?_
   ·exact Lf Aa (Ew2 b c) (ws [0])
   ·exact Lf Aa (Ew2 b c) (ws [0])
  ·exact Lf Aa (Ew1 b) (ws [0])
 intro f;refine F0 [] ?_;exact Ro [0]
theorem CJ{a d e r}(h:Bi a d e=some r):Con B 98 [.ref 0 0,.ref 0 14,i64 d,i64 e] [.box [.sl false (L Ag a.p.Zg1.Ze),.sl false (L Am a.p.Zg1.Zf),.sl false (L Ab a.p.Zh1.Zx),.sl false (L Ae a.p.Zh1.Zy),.sl false (L Ai a.p.Zh1.Zz),.sl false (L Ah a.p.Zh1.Za1),.sl false (L Af a.p.Zi1),.sl false (L Ad a.p.Zj1),.sl false (L Ac a.p.Zk1),i64 a.it.Za,i64 a.it.Ref.Zb,i64 a.it.Ref.No,i64 a.it.Zn1,i64 a.it.Zb1,i64 a.it.Zc,i64 a.it.Zo1,i64 a.it.Zw,i64 a.it.To,i64 a.it.Code,i64 a.it.Zp1,i64 a.it.Zq1,i64 a.it.Zr1,i64 a.it.Zs1,.str a.it.Zt1,.sl false (L Aj a.it.Zu1),.bool a.ok] false] (fun r' σ'=>r'=.tup []∧σ'=[.box [.sl false (L Ag r.p.Zg1.Ze),.sl false (L Am r.p.Zg1.Zf),.sl false (L Ab r.p.Zh1.Zx),.sl false (L Ae r.p.Zh1.Zy),.sl false (L Ai r.p.Zh1.Zz),.sl false (L Ah r.p.Zh1.Za1),.sl false (L Af r.p.Zi1),.sl false (L Ad r.p.Zj1),.sl false (L Ac r.p.Zk1),i64 r.it.Za,i64 r.it.Ref.Zb,i64 r.it.Ref.No,i64 r.it.Zn1,i64 r.it.Zb1,i64 r.it.Zc,i64 r.it.Zo1,i64 r.it.Zw,i64 r.it.To,i64 r.it.Code,i64 r.it.Zp1,i64 r.it.Zq1,i64 r.it.Zr1,i64 r.it.Zs1,.str r.it.Zt1,.sl false (L Aj r.it.Zu1),.bool r.ok] false]):=by
 refine Co 1 31 [] Tryd.func98 (fun F hE=>?_) h;unfold Bi;refine Tw [1] (fun f=>⟨Aq 31 [(1,.ref 0 14)],[.box [.sl false (L Ag a.p.Zg1.Ze),.sl false (L Am a.p.Zg1.Zf),.sl false (L Ab a.p.Zh1.Zx),.sl false (L Ae a.p.Zh1.Zy),.sl false (L Ai a.p.Zh1.Zz),.sl false (L Ah a.p.Zh1.Za1),.sl false (L Af a.p.Zi1),.sl false (L Ad a.p.Zj1),.sl false (L Ac a.p.Zk1),i64 a.it.Za,i64 a.it.Ref.Zb,i64 a.it.Ref.No,i64 a.it.Zn1,i64 a.it.Zb1,i64 a.it.Zc,i64 a.it.Zo1,i64 a.it.Zw,i64 a.it.To,i64 a.it.Code,i64 a.it.Zp1,i64 a.it.Zq1,i64 a.it.Zr1,i64 a.it.Zs1,.str a.it.Zt1,.sl false (L Aj a.it.Zu1),.bool f] false]⟩) ?_ ?_
 ·intro _;refine Sp (fun b=>?_) fun b=>?_
  ·refine Sp (fun c=>?_) fun c=>?_
   ·exact Lf Aa (Ew2 b c) (ws [0])
   ·exact Lf Aa (Ew2 b c) (ws [0])
  ·exact Lf Aa (Ew1 b) (ws [0])
 intro f;refine F0 [] ?_;exact Ro [0]
theorem CL{a d e r}(h:Bj a d e=some r):Con B 98 [.ref 0 0,.ref 0 15,i64 d,i64 e] [.box [.sl false (L Ag a.p.Zg1.Ze),.sl false (L Am a.p.Zg1.Zf),.sl false (L Ab a.p.Zh1.Zx),.sl false (L Ae a.p.Zh1.Zy),.sl false (L Ai a.p.Zh1.Zz),.sl false (L Ah a.p.Zh1.Za1),.sl false (L Af a.p.Zi1),.sl false (L Ad a.p.Zj1),.sl false (L Ac a.p.Zk1),i64 a.it.Za,i64 a.it.Ref.Zb,i64 a.it.Ref.No,i64 a.it.Zn1,i64 a.it.Zb1,i64 a.it.Zc,i64 a.it.Zo1,i64 a.it.Zw,i64 a.it.To,i64 a.it.Code,i64 a.it.Zp1,i64 a.it.Zq1,i64 a.it.Zr1,i64 a.it.Zs1,.str a.it.Zt1,.sl false (L Aj a.it.Zu1),.bool a.ok] false] (fun r' σ'=>r'=.tup []∧σ'=[.box [.sl false (L Ag r.p.Zg1.Ze),.sl false (L Am r.p.Zg1.Zf),.sl false (L Ab r.p.Zh1.Zx),.sl false (L Ae r.p.Zh1.Zy),.sl false (L Ai r.p.Zh1.Zz),.sl false (L Ah r.p.Zh1.Za1),.sl false (L Af r.p.Zi1),.sl false (L Ad r.p.Zj1),.sl false (L Ac r.p.Zk1),i64 r.it.Za,i64 r.it.Ref.Zb,i64 r.it.Ref.No,i64 r.it.Zn1,i64 r.it.Zb1,i64 r.it.Zc,i64 r.it.Zo1,i64 r.it.Zw,i64 r.it.To,i64 r.it.Code,i64 r.it.Zp1,i64 r.it.Zq1,i64 r.it.Zr1,i64 r.it.Zs1,.str r.it.Zt1,.sl false (L Aj r.it.Zu1),.bool r.ok] false]):=by
 refine Co 1 31 [] Tryd.func98 (fun F hE=>?_) h;unfold Bj;refine Tw [1] (fun f=>⟨Aq 31 [(1,.ref 0 15)],[.box [.sl false (L Ag a.p.Zg1.Ze),.sl false (L Am a.p.Zg1.Zf),.sl false (L Ab a.p.Zh1.Zx),.sl false (L Ae a.p.Zh1.Zy),.sl false (L Ai a.p.Zh1.Zz),.sl false (L Ah a.p.Zh1.Za1),.sl false (L Af a.p.Zi1),.sl false (L Ad a.p.Zj1),.sl false (L Ac a.p.Zk1),i64 a.it.Za,i64 a.it.Ref.Zb,i64 a.it.Ref.No,i64 a.it.Zn1,i64 a.it.Zb1,i64 a.it.Zc,i64 a.it.Zo1,i64 a.it.Zw,i64 a.it.To,i64 a.it.Code,i64 a.it.Zp1,i64 a.it.Zq1,i64 a.it.Zr1,i64 a.it.Zs1,.str a.it.Zt1,.sl false (L Aj a.it.Zu1),.bool f] false]⟩) ?_ ?_
 ·intro _;refine Sp (fun b=>?_) fun b=>?_
  ·refine Sp (fun c=>?_) fun c=>?_
   ·exact Lf Aa (Ew2 b c) (ws [0])
   ·exact Lf Aa (Ew2 b c) (ws [0])
  ·exact Lf Aa (Ew1 b) (ws [0])
 intro f;refine F0 [] ?_;exact Ro [0]
theorem GC{a d e r}(h:BX a d e=some r):Con B 98 [.ref 0 0,.ref 0 16,i64 d,i64 e] [.box [.sl false (L Ag a.p.Zg1.Ze),.sl false (L Am a.p.Zg1.Zf),.sl false (L Ab a.p.Zh1.Zx),.sl false (L Ae a.p.Zh1.Zy),.sl false (L Ai a.p.Zh1.Zz),.sl false (L Ah a.p.Zh1.Za1),.sl false (L Af a.p.Zi1),.sl false (L Ad a.p.Zj1),.sl false (L Ac a.p.Zk1),i64 a.it.Za,i64 a.it.Ref.Zb,i64 a.it.Ref.No,i64 a.it.Zn1,i64 a.it.Zb1,i64 a.it.Zc,i64 a.it.Zo1,i64 a.it.Zw,i64 a.it.To,i64 a.it.Code,i64 a.it.Zp1,i64 a.it.Zq1,i64 a.it.Zr1,i64 a.it.Zs1,.str a.it.Zt1,.sl false (L Aj a.it.Zu1),.bool a.ok] false] (fun r' σ'=>r'=.tup []∧σ'=[.box [.sl false (L Ag r.p.Zg1.Ze),.sl false (L Am r.p.Zg1.Zf),.sl false (L Ab r.p.Zh1.Zx),.sl false (L Ae r.p.Zh1.Zy),.sl false (L Ai r.p.Zh1.Zz),.sl false (L Ah r.p.Zh1.Za1),.sl false (L Af r.p.Zi1),.sl false (L Ad r.p.Zj1),.sl false (L Ac r.p.Zk1),i64 r.it.Za,i64 r.it.Ref.Zb,i64 r.it.Ref.No,i64 r.it.Zn1,i64 r.it.Zb1,i64 r.it.Zc,i64 r.it.Zo1,i64 r.it.Zw,i64 r.it.To,i64 r.it.Code,i64 r.it.Zp1,i64 r.it.Zq1,i64 r.it.Zr1,i64 r.it.Zs1,.str r.it.Zt1,.sl false (L Aj r.it.Zu1),.bool r.ok] false]):=by
 refine Co 1 31 [] Tryd.func98 (fun F hE=>?_) h;unfold BX;refine Tw [1] (fun f=>⟨Aq 31 [(1,.ref 0 16)],[.box [.sl false (L Ag a.p.Zg1.Ze),.sl false (L Am a.p.Zg1.Zf),.sl false (L Ab a.p.Zh1.Zx),.sl false (L Ae a.p.Zh1.Zy),.sl false (L Ai a.p.Zh1.Zz),.sl false (L Ah a.p.Zh1.Za1),.sl false (L Af a.p.Zi1),.sl false (L Ad a.p.Zj1),.sl false (L Ac a.p.Zk1),i64 a.it.Za,i64 a.it.Ref.Zb,i64 a.it.Ref.No,i64 a.it.Zn1,i64 a.it.Zb1,i64 a.it.Zc,i64 a.it.Zo1,i64 a.it.Zw,i64 a.it.To,i64 a.it.Code,i64 a.it.Zp1,i64 a.it.Zq1,i64 a.it.Zr1,i64 a.it.Zs1,.str a.it.Zt1,.sl false (L Aj a.it.Zu1),.bool f] false]⟩) ?_ ?_
 ·intro _;refine Sp (fun b=>?_) fun b=>?_
  ·refine Sp (fun c=>?_) fun c=>?_
   ·exact Lf Aa (Ew2 b c) (ws [0])
   ·exact Lf Aa (Ew2 b c) (ws [0])
  ·exact Lf Aa (Ew1 b) (ws [0])
 intro f;refine F0 [] ?_;exact Ro [0]
theorem G4{a d e r}(h:BZ a d e=some r):Con B 98 [.ref 0 0,.ref 0 17,i64 d,i64 e] [.box [.sl false (L Ag a.p.Zg1.Ze),.sl false (L Am a.p.Zg1.Zf),.sl false (L Ab a.p.Zh1.Zx),.sl false (L Ae a.p.Zh1.Zy),.sl false (L Ai a.p.Zh1.Zz),.sl false (L Ah a.p.Zh1.Za1),.sl false (L Af a.p.Zi1),.sl false (L Ad a.p.Zj1),.sl false (L Ac a.p.Zk1),i64 a.it.Za,i64 a.it.Ref.Zb,i64 a.it.Ref.No,i64 a.it.Zn1,i64 a.it.Zb1,i64 a.it.Zc,i64 a.it.Zo1,i64 a.it.Zw,i64 a.it.To,i64 a.it.Code,i64 a.it.Zp1,i64 a.it.Zq1,i64 a.it.Zr1,i64 a.it.Zs1,.str a.it.Zt1,.sl false (L Aj a.it.Zu1),.bool a.ok] false] (fun r' σ'=>r'=.tup []∧σ'=[.box [.sl false (L Ag r.p.Zg1.Ze),.sl false (L Am r.p.Zg1.Zf),.sl false (L Ab r.p.Zh1.Zx),.sl false (L Ae r.p.Zh1.Zy),.sl false (L Ai r.p.Zh1.Zz),.sl false (L Ah r.p.Zh1.Za1),.sl false (L Af r.p.Zi1),.sl false (L Ad r.p.Zj1),.sl false (L Ac r.p.Zk1),i64 r.it.Za,i64 r.it.Ref.Zb,i64 r.it.Ref.No,i64 r.it.Zn1,i64 r.it.Zb1,i64 r.it.Zc,i64 r.it.Zo1,i64 r.it.Zw,i64 r.it.To,i64 r.it.Code,i64 r.it.Zp1,i64 r.it.Zq1,i64 r.it.Zr1,i64 r.it.Zs1,.str r.it.Zt1,.sl false (L Aj r.it.Zu1),.bool r.ok] false]):=by
 refine Co 1 31 [] Tryd.func98 (fun F hE=>?_) h;unfold BZ;refine Tw [1] (fun f=>⟨Aq 31 [(1,.ref 0 17)],[.box [.sl false (L Ag a.p.Zg1.Ze),.sl false (L Am a.p.Zg1.Zf),.sl false (L Ab a.p.Zh1.Zx),.sl false (L Ae a.p.Zh1.Zy),.sl false (L Ai a.p.Zh1.Zz),.sl false (L Ah a.p.Zh1.Za1),.sl false (L Af a.p.Zi1),.sl false (L Ad a.p.Zj1),.sl false (L Ac a.p.Zk1),i64 a.it.Za,i64 a.it.Ref.Zb,i64 a.it.Ref.No,i64 a.it.Zn1,i64 a.it.Zb1,i64 a.it.Zc,i64 a.it.Zo1,i64 a.it.Zw,i64 a.it.To,i64 a.it.Code,i64 a.it.Zp1,i64 a.it.Zq1,i64 a.it.Zr1,i64 a.it.Zs1,.str a.it.Zt1,.sl false (L Aj a.it.Zu1),.bool f] false]⟩) ?_ ?_
 ·intro _;refine Sp (fun b=>?_) fun b=>?_
  ·refine Sp (fun c=>?_) fun c=>?_
   ·exact Lf Aa (Ew2 b c) (ws [0])
   ·exact Lf Aa (Ew2 b c) (ws [0])
  ·exact Lf Aa (Ew1 b) (ws [0])
 intro f;refine F0 [] ?_;exact Ro [0]
theorem BN{a d e r}(h:AU a d e=some r):Con B 98 [.ref 0 0,.ref 0 18,i64 d,i64 e] [.box [.sl false (L Ag a.p.Zg1.Ze),.sl false (L Am a.p.Zg1.Zf),.sl false (L Ab a.p.Zh1.Zx),.sl false (L Ae a.p.Zh1.Zy),.sl false (L Ai a.p.Zh1.Zz),.sl false (L Ah a.p.Zh1.Za1),.sl false (L Af a.p.Zi1),.sl false (L Ad a.p.Zj1),.sl false (L Ac a.p.Zk1),i64 a.it.Za,i64 a.it.Ref.Zb,i64 a.it.Ref.No,i64 a.it.Zn1,i64 a.it.Zb1,i64 a.it.Zc,i64 a.it.Zo1,i64 a.it.Zw,i64 a.it.To,i64 a.it.Code,i64 a.it.Zp1,i64 a.it.Zq1,i64 a.it.Zr1,i64 a.it.Zs1,.str a.it.Zt1,.sl false (L Aj a.it.Zu1),.bool a.ok] false] (fun r' σ'=>r'=.tup []∧σ'=[.box [.sl false (L Ag r.p.Zg1.Ze),.sl false (L Am r.p.Zg1.Zf),.sl false (L Ab r.p.Zh1.Zx),.sl false (L Ae r.p.Zh1.Zy),.sl false (L Ai r.p.Zh1.Zz),.sl false (L Ah r.p.Zh1.Za1),.sl false (L Af r.p.Zi1),.sl false (L Ad r.p.Zj1),.sl false (L Ac r.p.Zk1),i64 r.it.Za,i64 r.it.Ref.Zb,i64 r.it.Ref.No,i64 r.it.Zn1,i64 r.it.Zb1,i64 r.it.Zc,i64 r.it.Zo1,i64 r.it.Zw,i64 r.it.To,i64 r.it.Code,i64 r.it.Zp1,i64 r.it.Zq1,i64 r.it.Zr1,i64 r.it.Zs1,.str r.it.Zt1,.sl false (L Aj r.it.Zu1),.bool r.ok] false]):=by
 refine Co 1 31 [] Tryd.func98 (fun F hE=>?_) h;unfold AU;refine Tw [1] (fun f=>⟨Aq 31 [(1,.ref 0 18)],[.box [.sl false (L Ag a.p.Zg1.Ze),.sl false (L Am a.p.Zg1.Zf),.sl false (L Ab a.p.Zh1.Zx),.sl false (L Ae a.p.Zh1.Zy),.sl false (L Ai a.p.Zh1.Zz),.sl false (L Ah a.p.Zh1.Za1),.sl false (L Af a.p.Zi1),.sl false (L Ad a.p.Zj1),.sl false (L Ac a.p.Zk1),i64 a.it.Za,i64 a.it.Ref.Zb,i64 a.it.Ref.No,i64 a.it.Zn1,i64 a.it.Zb1,i64 a.it.Zc,i64 a.it.Zo1,i64 a.it.Zw,i64 a.it.To,i64 a.it.Code,i64 a.it.Zp1,i64 a.it.Zq1,i64 a.it.Zr1,i64 a.it.Zs1,.str a.it.Zt1,.sl false (L Aj a.it.Zu1),.bool f] false]⟩) ?_ ?_
 ·intro _;refine Sp (fun b=>?_) fun b=>?_
  ·refine Sp (fun c=>?_) fun c=>?_
   ·exact Lf Aa (Ew2 b c) (ws [0])
   ·exact Lf Aa (Ew2 b c) (ws [0])
  ·exact Lf Aa (Ew1 b) (ws [0])
 intro f;refine F0 [] ?_;exact Ro [0]
theorem G9{a d e r}(h:BR a d e=some r):Con B 98 [.ref 0 0,.ref 0 19,i64 d,i64 e] [.box [.sl false (L Ag a.p.Zg1.Ze),.sl false (L Am a.p.Zg1.Zf),.sl false (L Ab a.p.Zh1.Zx),.sl false (L Ae a.p.Zh1.Zy),.sl false (L Ai a.p.Zh1.Zz),.sl false (L Ah a.p.Zh1.Za1),.sl false (L Af a.p.Zi1),.sl false (L Ad a.p.Zj1),.sl false (L Ac a.p.Zk1),i64 a.it.Za,i64 a.it.Ref.Zb,i64 a.it.Ref.No,i64 a.it.Zn1,i64 a.it.Zb1,i64 a.it.Zc,i64 a.it.Zo1,i64 a.it.Zw,i64 a.it.To,i64 a.it.Code,i64 a.it.Zp1,i64 a.it.Zq1,i64 a.it.Zr1,i64 a.it.Zs1,.str a.it.Zt1,.sl false (L Aj a.it.Zu1),.bool a.ok] false] (fun r' σ'=>r'=.tup []∧σ'=[.box [.sl false (L Ag r.p.Zg1.Ze),.sl false (L Am r.p.Zg1.Zf),.sl false (L Ab r.p.Zh1.Zx),.sl false (L Ae r.p.Zh1.Zy),.sl false (L Ai r.p.Zh1.Zz),.sl false (L Ah r.p.Zh1.Za1),.sl false (L Af r.p.Zi1),.sl false (L Ad r.p.Zj1),.sl false (L Ac r.p.Zk1),i64 r.it.Za,i64 r.it.Ref.Zb,i64 r.it.Ref.No,i64 r.it.Zn1,i64 r.it.Zb1,i64 r.it.Zc,i64 r.it.Zo1,i64 r.it.Zw,i64 r.it.To,i64 r.it.Code,i64 r.it.Zp1,i64 r.it.Zq1,i64 r.it.Zr1,i64 r.it.Zs1,.str r.it.Zt1,.sl false (L Aj r.it.Zu1),.bool r.ok] false]):=by
 refine Co 1 31 [] Tryd.func98 (fun F hE=>?_) h;unfold BR;refine Tw [1] (fun f=>⟨Aq 31 [(1,.ref 0 19)],[.box [.sl false (L Ag a.p.Zg1.Ze),.sl false (L Am a.p.Zg1.Zf),.sl false (L Ab a.p.Zh1.Zx),.sl false (L Ae a.p.Zh1.Zy),.sl false (L Ai a.p.Zh1.Zz),.sl false (L Ah a.p.Zh1.Za1),.sl false (L Af a.p.Zi1),.sl false (L Ad a.p.Zj1),.sl false (L Ac a.p.Zk1),i64 a.it.Za,i64 a.it.Ref.Zb,i64 a.it.Ref.No,i64 a.it.Zn1,i64 a.it.Zb1,i64 a.it.Zc,i64 a.it.Zo1,i64 a.it.Zw,i64 a.it.To,i64 a.it.Code,i64 a.it.Zp1,i64 a.it.Zq1,i64 a.it.Zr1,i64 a.it.Zs1,.str a.it.Zt1,.sl false (L Aj a.it.Zu1),.bool f] false]⟩) ?_ ?_
 ·intro _;refine Sp (fun b=>?_) fun b=>?_
  ·refine Sp (fun c=>?_) fun c=>?_
   ·exact Lf Aa (Ew2 b c) (ws [0])
   ·exact Lf Aa (Ew2 b c) (ws [0])
  ·exact Lf Aa (Ew1 b) (ws [0])
 intro f;refine F0 [] ?_;exact Ro [0]
theorem G1{a d e r}(h:BS a d e=some r):Con B 98 [.ref 0 0,.ref 0 20,i64 d,i64 e] [.box [.sl false (L Ag a.p.Zg1.Ze),.sl false (L Am a.p.Zg1.Zf),.sl false (L Ab a.p.Zh1.Zx),.sl false (L Ae a.p.Zh1.Zy),.sl false (L Ai a.p.Zh1.Zz),.sl false (L Ah a.p.Zh1.Za1),.sl false (L Af a.p.Zi1),.sl false (L Ad a.p.Zj1),.sl false (L Ac a.p.Zk1),i64 a.it.Za,i64 a.it.Ref.Zb,i64 a.it.Ref.No,i64 a.it.Zn1,i64 a.it.Zb1,i64 a.it.Zc,i64 a.it.Zo1,i64 a.it.Zw,i64 a.it.To,i64 a.it.Code,i64 a.it.Zp1,i64 a.it.Zq1,i64 a.it.Zr1,i64 a.it.Zs1,.str a.it.Zt1,.sl false (L Aj a.it.Zu1),.bool a.ok] false] (fun r' σ'=>r'=.tup []∧σ'=[.box [.sl false (L Ag r.p.Zg1.Ze),.sl false (L Am r.p.Zg1.Zf),.sl false (L Ab r.p.Zh1.Zx),.sl false (L Ae r.p.Zh1.Zy),.sl false (L Ai r.p.Zh1.Zz),.sl false (L Ah r.p.Zh1.Za1),.sl false (L Af r.p.Zi1),.sl false (L Ad r.p.Zj1),.sl false (L Ac r.p.Zk1),i64 r.it.Za,i64 r.it.Ref.Zb,i64 r.it.Ref.No,i64 r.it.Zn1,i64 r.it.Zb1,i64 r.it.Zc,i64 r.it.Zo1,i64 r.it.Zw,i64 r.it.To,i64 r.it.Code,i64 r.it.Zp1,i64 r.it.Zq1,i64 r.it.Zr1,i64 r.it.Zs1,.str r.it.Zt1,.sl false (L Aj r.it.Zu1),.bool r.ok] false]):=by
 refine Co 1 31 [] Tryd.func98 (fun F hE=>?_) h;unfold BS;refine Tw [1] (fun f=>⟨Aq 31 [(1,.ref 0 20)],[.box [.sl false (L Ag a.p.Zg1.Ze),.sl false (L Am a.p.Zg1.Zf),.sl false (L Ab a.p.Zh1.Zx),.sl false (L Ae a.p.Zh1.Zy),.sl false (L Ai a.p.Zh1.Zz),.sl false (L Ah a.p.Zh1.Za1),.sl false (L Af a.p.Zi1),.sl false (L Ad a.p.Zj1),.sl false (L Ac a.p.Zk1),i64 a.it.Za,i64 a.it.Ref.Zb,i64 a.it.Ref.No,i64 a.it.Zn1,i64 a.it.Zb1,i64 a.it.Zc,i64 a.it.Zo1,i64 a.it.Zw,i64 a.it.To,i64 a.it.Code,i64 a.it.Zp1,i64 a.it.Zq1,i64 a.it.Zr1,i64 a.it.Zs1,.str a.it.Zt1,.sl false (L Aj a.it.Zu1),.bool f] false]⟩) ?_ ?_
 ·intro _;refine Sp (fun b=>?_) fun b=>?_
  ·refine Sp (fun c=>?_) fun c=>?_
   ·exact Lf Aa (Ew2 b c) (ws [0])
   ·exact Lf Aa (Ew2 b c) (ws [0])
  ·exact Lf Aa (Ew1 b) (ws [0])
 intro f;refine F0 [] ?_;exact Ro [0]
theorem Eb{a d e r}(h:B3 a d e=some r):Con B 98 [.ref 0 0,.ref 0 21,i64 d,i64 e] [.box [.sl false (L Ag a.p.Zg1.Ze),.sl false (L Am a.p.Zg1.Zf),.sl false (L Ab a.p.Zh1.Zx),.sl false (L Ae a.p.Zh1.Zy),.sl false (L Ai a.p.Zh1.Zz),.sl false (L Ah a.p.Zh1.Za1),.sl false (L Af a.p.Zi1),.sl false (L Ad a.p.Zj1),.sl false (L Ac a.p.Zk1),i64 a.it.Za,i64 a.it.Ref.Zb,i64 a.it.Ref.No,i64 a.it.Zn1,i64 a.it.Zb1,i64 a.it.Zc,i64 a.it.Zo1,i64 a.it.Zw,i64 a.it.To,i64 a.it.Code,i64 a.it.Zp1,i64 a.it.Zq1,i64 a.it.Zr1,i64 a.it.Zs1,.str a.it.Zt1,.sl false (L Aj a.it.Zu1),.bool a.ok] false] (fun r' σ'=>r'=.tup []∧σ'=[.box [.sl false (L Ag r.p.Zg1.Ze),.sl false (L Am r.p.Zg1.Zf),.sl false (L Ab r.p.Zh1.Zx),.sl false (L Ae r.p.Zh1.Zy),.sl false (L Ai r.p.Zh1.Zz),.sl false (L Ah r.p.Zh1.Za1),.sl false (L Af r.p.Zi1),.sl false (L Ad r.p.Zj1),.sl false (L Ac r.p.Zk1),i64 r.it.Za,i64 r.it.Ref.Zb,i64 r.it.Ref.No,i64 r.it.Zn1,i64 r.it.Zb1,i64 r.it.Zc,i64 r.it.Zo1,i64 r.it.Zw,i64 r.it.To,i64 r.it.Code,i64 r.it.Zp1,i64 r.it.Zq1,i64 r.it.Zr1,i64 r.it.Zs1,.str r.it.Zt1,.sl false (L Aj r.it.Zu1),.bool r.ok] false]):=by
 refine Co 1 31 [] Tryd.func98 (fun F hE=>?_) h;unfold B3;refine Tw [1] (fun f=>⟨Aq 31 [(1,.ref 0 21)],[.box [.sl false (L Ag a.p.Zg1.Ze),.sl false (L Am a.p.Zg1.Zf),.sl false (L Ab a.p.Zh1.Zx),.sl false (L Ae a.p.Zh1.Zy),.sl false (L Ai a.p.Zh1.Zz),.sl false (L Ah a.p.Zh1.Za1),.sl false (L Af a.p.Zi1),.sl false (L Ad a.p.Zj1),.sl false (L Ac a.p.Zk1),i64 a.it.Za,i64 a.it.Ref.Zb,i64 a.it.Ref.No,i64 a.it.Zn1,i64 a.it.Zb1,i64 a.it.Zc,i64 a.it.Zo1,i64 a.it.Zw,i64 a.it.To,i64 a.it.Code,i64 a.it.Zp1,i64 a.it.Zq1,i64 a.it.Zr1,i64 a.it.Zs1,.str a.it.Zt1,.sl false (L Aj a.it.Zu1),.bool f] false]⟩) ?_ ?_
 ·intro _;refine Sp (fun b=>?_) fun b=>?_
  ·refine Sp (fun c=>?_) fun c=>?_
   ·exact Lf Aa (Ew2 b c) (ws [0])
   ·exact Lf Aa (Ew2 b c) (ws [0])
  ·exact Lf Aa (Ew1 b) (ws [0])
 intro f;refine F0 [] ?_;exact Ro [0]
theorem DZ{a d e r}(h:B0 a d e=some r):Con B 98 [.ref 0 0,.ref 0 22,i64 d,i64 e] [.box [.sl false (L Ag a.p.Zg1.Ze),.sl false (L Am a.p.Zg1.Zf),.sl false (L Ab a.p.Zh1.Zx),.sl false (L Ae a.p.Zh1.Zy),.sl false (L Ai a.p.Zh1.Zz),.sl false (L Ah a.p.Zh1.Za1),.sl false (L Af a.p.Zi1),.sl false (L Ad a.p.Zj1),.sl false (L Ac a.p.Zk1),i64 a.it.Za,i64 a.it.Ref.Zb,i64 a.it.Ref.No,i64 a.it.Zn1,i64 a.it.Zb1,i64 a.it.Zc,i64 a.it.Zo1,i64 a.it.Zw,i64 a.it.To,i64 a.it.Code,i64 a.it.Zp1,i64 a.it.Zq1,i64 a.it.Zr1,i64 a.it.Zs1,.str a.it.Zt1,.sl false (L Aj a.it.Zu1),.bool a.ok] false] (fun r' σ'=>r'=.tup []∧σ'=[.box [.sl false (L Ag r.p.Zg1.Ze),.sl false (L Am r.p.Zg1.Zf),.sl false (L Ab r.p.Zh1.Zx),.sl false (L Ae r.p.Zh1.Zy),.sl false (L Ai r.p.Zh1.Zz),.sl false (L Ah r.p.Zh1.Za1),.sl false (L Af r.p.Zi1),.sl false (L Ad r.p.Zj1),.sl false (L Ac r.p.Zk1),i64 r.it.Za,i64 r.it.Ref.Zb,i64 r.it.Ref.No,i64 r.it.Zn1,i64 r.it.Zb1,i64 r.it.Zc,i64 r.it.Zo1,i64 r.it.Zw,i64 r.it.To,i64 r.it.Code,i64 r.it.Zp1,i64 r.it.Zq1,i64 r.it.Zr1,i64 r.it.Zs1,.str r.it.Zt1,.sl false (L Aj r.it.Zu1),.bool r.ok] false]):=by
 refine Co 1 31 [] Tryd.func98 (fun F hE=>?_) h;unfold B0;refine Tw [1] (fun f=>⟨Aq 31 [(1,.ref 0 22)],[.box [.sl false (L Ag a.p.Zg1.Ze),.sl false (L Am a.p.Zg1.Zf),.sl false (L Ab a.p.Zh1.Zx),.sl false (L Ae a.p.Zh1.Zy),.sl false (L Ai a.p.Zh1.Zz),.sl false (L Ah a.p.Zh1.Za1),.sl false (L Af a.p.Zi1),.sl false (L Ad a.p.Zj1),.sl false (L Ac a.p.Zk1),i64 a.it.Za,i64 a.it.Ref.Zb,i64 a.it.Ref.No,i64 a.it.Zn1,i64 a.it.Zb1,i64 a.it.Zc,i64 a.it.Zo1,i64 a.it.Zw,i64 a.it.To,i64 a.it.Code,i64 a.it.Zp1,i64 a.it.Zq1,i64 a.it.Zr1,i64 a.it.Zs1,.str a.it.Zt1,.sl false (L Aj a.it.Zu1),.bool f] false]⟩) ?_ ?_
 ·intro _;refine Sp (fun b=>?_) fun b=>?_
  ·refine Sp (fun c=>?_) fun c=>?_
   ·exact Lf Aa (Ew2 b c) (ws [0])
   ·exact Lf Aa (Ew2 b c) (ws [0])
  ·exact Lf Aa (Ew1 b) (ws [0])
 intro f;refine F0 [] ?_;exact Ro [0]
theorem DF{a r}(h:BL a=some r):Con B 97 [.ref 0 0] [.box [.sl false (L Ag a.p.Zg1.Ze),.sl false (L Am a.p.Zg1.Zf),.sl false (L Ab a.p.Zh1.Zx),.sl false (L Ae a.p.Zh1.Zy),.sl false (L Ai a.p.Zh1.Zz),.sl false (L Ah a.p.Zh1.Za1),.sl false (L Af a.p.Zi1),.sl false (L Ad a.p.Zj1),.sl false (L Ac a.p.Zk1),i64 a.it.Za,i64 a.it.Ref.Zb,i64 a.it.Ref.No,i64 a.it.Zn1,i64 a.it.Zb1,i64 a.it.Zc,i64 a.it.Zo1,i64 a.it.Zw,i64 a.it.To,i64 a.it.Code,i64 a.it.Zp1,i64 a.it.Zq1,i64 a.it.Zr1,i64 a.it.Zs1,.str a.it.Zt1,.sl false (L Aj a.it.Zu1),.bool a.ok] false] (fun r' σ'=>r'=.tup []∧σ'=[.box [.sl false (L Ag r.p.Zg1.Ze),.sl false (L Am r.p.Zg1.Zf),.sl false (L Ab r.p.Zh1.Zx),.sl false (L Ae r.p.Zh1.Zy),.sl false (L Ai r.p.Zh1.Zz),.sl false (L Ah r.p.Zh1.Za1),.sl false (L Af r.p.Zi1),.sl false (L Ad r.p.Zj1),.sl false (L Ac r.p.Zk1),i64 r.it.Za,i64 r.it.Ref.Zb,i64 r.it.Ref.No,i64 r.it.Zn1,i64 r.it.Zb1,i64 r.it.Zc,i64 r.it.Zo1,i64 r.it.Zw,i64 r.it.To,i64 r.it.Code,i64 r.it.Zp1,i64 r.it.Zq1,i64 r.it.Zr1,i64 r.it.Zs1,.str r.it.Zt1,.sl false (L Aj r.it.Zu1),.bool r.ok] false]):=by
 refine Co 1 16 [] Tryd.func97 (fun F hE=>?_) h;unfold BL;refine Bd fun c b =>Ge [[],[],[1],[1,2],[1,2,3],[],[5],[5,6],[5,6,7],[5,6,7,8],[5,6,7,8,9],[5,6,7,8,9,10],[5,6,7,8,9,10,11],[0,1,2,3,4,5,6,7,8,9,10,11,12]] [] (Ar (l:=[]) (m:=[(15,98,[.ref 0 0,.ref 0 12,i64 0,i64 (w64 ((a.p.Zh1.Zy.length:Int)-1))],[.box [.sl false (L Ag a.p.Zg1.Ze),.sl false (L Am a.p.Zg1.Zf),.sl false (L Ab a.p.Zh1.Zx),.sl false (L Ae a.p.Zh1.Zy),.sl false (L Ai a.p.Zh1.Zz),.sl false (L Ah a.p.Zh1.Za1),.sl false (L Af a.p.Zi1),.sl false (L Ad a.p.Zj1),.sl false (L Ac a.p.Zk1),i64 a.it.Za,i64 a.it.Ref.Zb,i64 a.it.Ref.No,i64 a.it.Zn1,i64 a.it.Zb1,i64 a.it.Zc,i64 a.it.Zo1,i64 a.it.Zw,i64 a.it.To,i64 a.it.Code,i64 a.it.Zp1,i64 a.it.Zq1,i64 a.it.Zr1,i64 a.it.Zs1,.str a.it.Zt1,.sl false (L Aj a.it.Zu1),.bool a.ok] false],_,_)]) trivial ⟨(wc (GD b) [0]),trivial⟩) Ev ?_
 exact Ro [0]
theorem Bs{a r}(h:AX a=some r):Con B 99 [.ref 0 0] [.box [.sl false (L Ag a.p.Zg1.Ze),.sl false (L Am a.p.Zg1.Zf),.sl false (L Ab a.p.Zh1.Zx),.sl false (L Ae a.p.Zh1.Zy),.sl false (L Ai a.p.Zh1.Zz),.sl false (L Ah a.p.Zh1.Za1),.sl false (L Af a.p.Zi1),.sl false (L Ad a.p.Zj1),.sl false (L Ac a.p.Zk1),i64 a.it.Za,i64 a.it.Ref.Zb,i64 a.it.Ref.No,i64 a.it.Zn1,i64 a.it.Zb1,i64 a.it.Zc,i64 a.it.Zo1,i64 a.it.Zw,i64 a.it.To,i64 a.it.Code,i64 a.it.Zp1,i64 a.it.Zq1,i64 a.it.Zr1,i64 a.it.Zs1,.str a.it.Zt1,.sl false (L Aj a.it.Zu1),.bool a.ok] false] (fun r' σ'=>r'=.tup []∧σ'=[.box [.sl false (L Ag r.p.Zg1.Ze),.sl false (L Am r.p.Zg1.Zf),.sl false (L Ab r.p.Zh1.Zx),.sl false (L Ae r.p.Zh1.Zy),.sl false (L Ai r.p.Zh1.Zz),.sl false (L Ah r.p.Zh1.Za1),.sl false (L Af r.p.Zi1),.sl false (L Ad r.p.Zj1),.sl false (L Ac r.p.Zk1),i64 r.it.Za,i64 r.it.Ref.Zb,i64 r.it.Ref.No,i64 r.it.Zn1,i64 r.it.Zb1,i64 r.it.Zc,i64 r.it.Zo1,i64 r.it.Zw,i64 r.it.To,i64 r.it.Code,i64 r.it.Zp1,i64 r.it.Zq1,i64 r.it.Zr1,i64 r.it.Zs1,.str r.it.Zt1,.sl false (L Aj r.it.Zu1),.bool r.ok] false]):=by
 refine Co 1 8 [] Tryd.func99 (fun F hE=>?_) h;unfold AX;refine Bd fun c b =>Fe [] (Ar (l:=[]) (m:=[(7,98,[.ref 0 0,.ref 0 16,i64 0,i64 1073741824],[.box [.sl false (L Ag a.p.Zg1.Ze),.sl false (L Am a.p.Zg1.Zf),.sl false (L Ab a.p.Zh1.Zx),.sl false (L Ae a.p.Zh1.Zy),.sl false (L Ai a.p.Zh1.Zz),.sl false (L Ah a.p.Zh1.Za1),.sl false (L Af a.p.Zi1),.sl false (L Ad a.p.Zj1),.sl false (L Ac a.p.Zk1),i64 a.it.Za,i64 a.it.Ref.Zb,i64 a.it.Ref.No,i64 a.it.Zn1,i64 a.it.Zb1,i64 a.it.Zc,i64 a.it.Zo1,i64 a.it.Zw,i64 a.it.To,i64 a.it.Code,i64 a.it.Zp1,i64 a.it.Zq1,i64 a.it.Zr1,i64 a.it.Zs1,.str a.it.Zt1,.sl false (L Aj a.it.Zu1),.bool a.ok] false],_,_)]) trivial ⟨(wc (GC b) [0]),trivial⟩) Ev ?_
 exact Ro [0]
theorem B1{a c r}(h:Ba a c=some r):Con B 100 [.ref 0 0,i64 c] [.box [.sl false (L Ag a.p.Zg1.Ze),.sl false (L Am a.p.Zg1.Zf),.sl false (L Ab a.p.Zh1.Zx),.sl false (L Ae a.p.Zh1.Zy),.sl false (L Ai a.p.Zh1.Zz),.sl false (L Ah a.p.Zh1.Za1),.sl false (L Af a.p.Zi1),.sl false (L Ad a.p.Zj1),.sl false (L Ac a.p.Zk1),i64 a.it.Za,i64 a.it.Ref.Zb,i64 a.it.Ref.No,i64 a.it.Zn1,i64 a.it.Zb1,i64 a.it.Zc,i64 a.it.Zo1,i64 a.it.Zw,i64 a.it.To,i64 a.it.Code,i64 a.it.Zp1,i64 a.it.Zq1,i64 a.it.Zr1,i64 a.it.Zs1,.str a.it.Zt1,.sl false (L Aj a.it.Zu1),.bool a.ok] false] (fun r' σ'=>r'=.agg [i64 r.1.Za,i64 r.1.Zb,i64 r.1.Zc]∧σ'=[.box [.sl false (L Ag r.2.p.Zg1.Ze),.sl false (L Am r.2.p.Zg1.Zf),.sl false (L Ab r.2.p.Zh1.Zx),.sl false (L Ae r.2.p.Zh1.Zy),.sl false (L Ai r.2.p.Zh1.Zz),.sl false (L Ah r.2.p.Zh1.Za1),.sl false (L Af r.2.p.Zi1),.sl false (L Ad r.2.p.Zj1),.sl false (L Ac r.2.p.Zk1),i64 r.2.it.Za,i64 r.2.it.Ref.Zb,i64 r.2.it.Ref.No,i64 r.2.it.Zn1,i64 r.2.it.Zb1,i64 r.2.it.Zc,i64 r.2.it.Zo1,i64 r.2.it.Zw,i64 r.2.it.To,i64 r.2.it.Code,i64 r.2.it.Zp1,i64 r.2.it.Zq1,i64 r.2.it.Zr1,i64 r.2.it.Zs1,.str r.2.it.Zt1,.sl false (L Aj r.2.it.Zu1),.bool r.2.ok] false]):=by
 refine Co 1 66 [.cell 4 127] Tryd.func100 (fun F hE=>?_) h;unfold Ba;refine T0 [0,1,4] ?_;refine Ja (fun⟨e,f,g⟩=>⟨Aq 66 [(0,.ref 0 0),(1,i64 c),(4,.ref 1 0)],[.box [.sl false (L Ag a.p.Zg1.Ze),.sl false (L Am a.p.Zg1.Zf),.sl false (L Ab a.p.Zh1.Zx),.sl false (L Ae a.p.Zh1.Zy),.sl false (L Ai a.p.Zh1.Zz),.sl false (L Ah a.p.Zh1.Za1),.sl false (L Af a.p.Zi1),.sl false (L Ad a.p.Zj1),.sl false (L Ac a.p.Zk1),i64 a.it.Za,i64 a.it.Ref.Zb,i64 a.it.Ref.No,i64 a.it.Zn1,i64 a.it.Zb1,i64 a.it.Zc,i64 a.it.Zo1,i64 a.it.Zw,i64 a.it.To,i64 a.it.Code,i64 a.it.Zp1,i64 a.it.Zq1,i64 a.it.Zr1,i64 a.it.Zs1,.str a.it.Zt1,.sl false (L Aj a.it.Zu1),.bool a.ok] false,.box [i64 e,i64 f,i64 g] false]⟩) ?_ ?_
 ·intro v;refine Dw [[],[0],[0,1],[0,1,2],[0,1,2,3],[0,1,2,3,4],[0,1,2,3,4,5],[0,1,2,3,4,5,6],[0,1,2,3,4,5,6,7],[0,1,2,3,4,5,6,7,8],[0,1,2,3,4,5,6,7,8,9],[0,1,2,3,4,5,6,7,8,9,10],[0,1,2,3,4,5,6],[0,1,2,3,4,5,6,12],[0,1,2,3,4,5,6,12,13],[0,1,2,3,4,5,6,12,13,14],[0,1,2,3,4,5,6,12,13,14,15],[0,1,2,3,4,5,6,12,13,14,15,16],[0,1,2,3,4,5,6,12,13,14,15,16,17],[0,1,2,3,4,5,6,7,8,9,10,11,12,13,14,15,16,17,18],[0,1,2,3,4,5,6,7,8,9,10,11,12,13,14,15,16,17,18,19]] [0,1,4,25] (fun k=>⟨Aq 66 [(0,.ref 0 0),(1,i64 c),(4,.ref 1 0),(25,.bool k)],[.box [.sl false (L Ag a.p.Zg1.Ze),.sl false (L Am a.p.Zg1.Zf),.sl false (L Ab a.p.Zh1.Zx),.sl false (L Ae a.p.Zh1.Zy),.sl false (L Ai a.p.Zh1.Zz),.sl false (L Ah a.p.Zh1.Za1),.sl false (L Af a.p.Zi1),.sl false (L Ad a.p.Zj1),.sl false (L Ac a.p.Zk1),i64 a.it.Za,i64 a.it.Ref.Zb,i64 a.it.Ref.No,i64 a.it.Zn1,i64 a.it.Zb1,i64 a.it.Zc,i64 a.it.Zo1,i64 a.it.Zw,i64 a.it.To,i64 a.it.Code,i64 a.it.Zp1,i64 a.it.Zq1,i64 a.it.Zr1,i64 a.it.Zs1,.str a.it.Zt1,.sl false (L Aj a.it.Zu1),.bool a.ok] false,.box [i64 0,i64 0,i64 0] false]⟩) ?_ ?_
  ·intro _;refine Sp (fun i=>?_) fun i=>?_
   ·exact Lf Aa (Ew1 i) (ws [0,1])
   ·exact Lf Aa (Ew1 i) (ws [0,1])
  intro k;refine Cd ?_ ?_
  ·refine Ck fun m =>Lt fun n o =>Lt fun q s =>Lt fun t u =>Ge (σ':=[_,.box [i64 n,i64 q,i64 t] false]) [[],[0],[0,1],[0,1,2],[0,1,2,3],[0,1,2,3,4],[],[6],[6,7],[6,7,8],[6,7,8,9],[0,1,2,3,4,5,6,7,8,9,10],[0,1,2,3,4,5,6,7,8,9,10,11],[0,1,2,3,4,5,6,7,8,9,10,11,12]] [0,1,4] Aa (Ew4 (qR m) o s u) ?_
   exact Jm (ws [0,1])
  ·exact Sk <|Jm (ws [0,1])
 rintro⟨e,f,g⟩;refine Tw [0,4] (fun l=>⟨Aq 66 [(0,.ref 0 0),(4,.ref 1 0)],[.box [.sl false (L Ag a.p.Zg1.Ze),.sl false (L Am a.p.Zg1.Zf),.sl false (L Ab a.p.Zh1.Zx),.sl false (L Ae a.p.Zh1.Zy),.sl false (L Ai a.p.Zh1.Zz),.sl false (L Ah a.p.Zh1.Za1),.sl false (L Af a.p.Zi1),.sl false (L Ad a.p.Zj1),.sl false (L Ac a.p.Zk1),i64 a.it.Za,i64 a.it.Ref.Zb,i64 a.it.Ref.No,i64 a.it.Zn1,i64 a.it.Zb1,i64 a.it.Zc,i64 a.it.Zo1,i64 a.it.Zw,i64 a.it.To,i64 a.it.Code,i64 a.it.Zp1,i64 a.it.Zq1,i64 a.it.Zr1,i64 a.it.Zs1,.str a.it.Zt1,.sl false (L Aj a.it.Zu1),.bool l] false,.box [i64 e,i64 f,i64 g] false]⟩) ?_ ?_
 ·intro _;refine Sp (fun b=>?_) fun b=>?_
  ·refine Sp (fun d=>?_) fun d=>?_
   ·refine Sp (fun j=>?_) fun j=>?_
    ·exact Lf Aa (Ew3 b d j) (ws [0,1])
    ·exact Lf Aa (Ew3 b d j) (ws [0,1])
   ·exact Lf Aa (Ew2 b d) (ws [0,1])
  ·exact Lf Aa (Ew1 b) (ws [0,1])
 intro l;refine T0 [4] ?_;refine T0 [4] ?_;exact Sr <|Ro [0]
theorem DW{a r}(h:Cl a=some r):Con B 101 [.ref 0 0] [.box [.sl false (L Ag a.p.Zg1.Ze),.sl false (L Am a.p.Zg1.Zf),.sl false (L Ab a.p.Zh1.Zx),.sl false (L Ae a.p.Zh1.Zy),.sl false (L Ai a.p.Zh1.Zz),.sl false (L Ah a.p.Zh1.Za1),.sl false (L Af a.p.Zi1),.sl false (L Ad a.p.Zj1),.sl false (L Ac a.p.Zk1),i64 a.it.Za,i64 a.it.Ref.Zb,i64 a.it.Ref.No,i64 a.it.Zn1,i64 a.it.Zb1,i64 a.it.Zc,i64 a.it.Zo1,i64 a.it.Zw,i64 a.it.To,i64 a.it.Code,i64 a.it.Zp1,i64 a.it.Zq1,i64 a.it.Zr1,i64 a.it.Zs1,.str a.it.Zt1,.sl false (L Aj a.it.Zu1),.bool a.ok] false] (fun r' σ'=>r'=.tup []∧σ'=[.box [.sl false (L Ag r.p.Zg1.Ze),.sl false (L Am r.p.Zg1.Zf),.sl false (L Ab r.p.Zh1.Zx),.sl false (L Ae r.p.Zh1.Zy),.sl false (L Ai r.p.Zh1.Zz),.sl false (L Ah r.p.Zh1.Za1),.sl false (L Af r.p.Zi1),.sl false (L Ad r.p.Zj1),.sl false (L Ac r.p.Zk1),i64 r.it.Za,i64 r.it.Ref.Zb,i64 r.it.Ref.No,i64 r.it.Zn1,i64 r.it.Zb1,i64 r.it.Zc,i64 r.it.Zo1,i64 r.it.Zw,i64 r.it.To,i64 r.it.Code,i64 r.it.Zp1,i64 r.it.Zq1,i64 r.it.Zr1,i64 r.it.Zs1,.str r.it.Zt1,.sl false (L Aj r.it.Zu1),.bool r.ok] false]):=by
 refine Co 1 16 [] Tryd.func101 (fun F hE=>?_) h;unfold Cl;refine Bd fun b c =>De [[],[],[1],[1,2],[1,2,3],[],[5],[5,6],[5,6,7],[5,6,7,8],[5,6,7,8,9],[0,1,2,3,4,5,6,7,8,9,10]] [0] (Ar (l:=[]) (m:=[(13,98,[.ref 0 0,.ref 0 17,i64 (Lv a.it.Zw 0),i64 1073741824],[.box [.sl false (L Ag a.p.Zg1.Ze),.sl false (L Am a.p.Zg1.Zf),.sl false (L Ab a.p.Zh1.Zx),.sl false (L Ae a.p.Zh1.Zy),.sl false (L Ai a.p.Zh1.Zz),.sl false (L Ah a.p.Zh1.Za1),.sl false (L Af a.p.Zi1),.sl false (L Ad a.p.Zj1),.sl false (L Ac a.p.Zk1),i64 a.it.Za,i64 a.it.Ref.Zb,i64 a.it.Ref.No,i64 a.it.Zn1,i64 a.it.Zb1,i64 a.it.Zc,i64 a.it.Zo1,i64 a.it.Zw,i64 a.it.To,i64 a.it.Code,i64 a.it.Zp1,i64 a.it.Zq1,i64 a.it.Zr1,i64 a.it.Zs1,.str a.it.Zt1,.sl false (L Aj a.it.Zu1),.bool a.ok] false],_,_)]) trivial ⟨(wc (G4 c) [0]),trivial⟩) Ev ?_
 refine Bd fun e d =>Fe [] (Ar (l:=[]) (m:=[(15,99,[.ref 0 0],[.box [.sl false (L Ag b.p.Zg1.Ze),.sl false (L Am b.p.Zg1.Zf),.sl false (L Ab b.p.Zh1.Zx),.sl false (L Ae b.p.Zh1.Zy),.sl false (L Ai b.p.Zh1.Zz),.sl false (L Ah b.p.Zh1.Za1),.sl false (L Af b.p.Zi1),.sl false (L Ad b.p.Zj1),.sl false (L Ac b.p.Zk1),i64 b.it.Za,i64 b.it.Ref.Zb,i64 b.it.Ref.No,i64 b.it.Zn1,i64 b.it.Zb1,i64 b.it.Zc,i64 b.it.Zo1,i64 b.it.Zw,i64 b.it.To,i64 b.it.Code,i64 b.it.Zp1,i64 b.it.Zq1,i64 b.it.Zr1,i64 b.it.Zs1,.str b.it.Zt1,.sl false (L Aj b.it.Zu1),.bool b.ok] false],_,_)]) trivial ⟨(wc (Bs d) [0]),trivial⟩) Ev ?_
 exact Ro [0]
theorem CU{a r}(h:Bw a=some r):Con B 102 [.ref 0 0] [.box [.sl false (L Ag a.p.Zg1.Ze),.sl false (L Am a.p.Zg1.Zf),.sl false (L Ab a.p.Zh1.Zx),.sl false (L Ae a.p.Zh1.Zy),.sl false (L Ai a.p.Zh1.Zz),.sl false (L Ah a.p.Zh1.Za1),.sl false (L Af a.p.Zi1),.sl false (L Ad a.p.Zj1),.sl false (L Ac a.p.Zk1),i64 a.it.Za,i64 a.it.Ref.Zb,i64 a.it.Ref.No,i64 a.it.Zn1,i64 a.it.Zb1,i64 a.it.Zc,i64 a.it.Zo1,i64 a.it.Zw,i64 a.it.To,i64 a.it.Code,i64 a.it.Zp1,i64 a.it.Zq1,i64 a.it.Zr1,i64 a.it.Zs1,.str a.it.Zt1,.sl false (L Aj a.it.Zu1),.bool a.ok] false] (fun r' σ'=>r'=.tup []∧σ'=[.box [.sl false (L Ag r.p.Zg1.Ze),.sl false (L Am r.p.Zg1.Zf),.sl false (L Ab r.p.Zh1.Zx),.sl false (L Ae r.p.Zh1.Zy),.sl false (L Ai r.p.Zh1.Zz),.sl false (L Ah r.p.Zh1.Za1),.sl false (L Af r.p.Zi1),.sl false (L Ad r.p.Zj1),.sl false (L Ac r.p.Zk1),i64 r.it.Za,i64 r.it.Ref.Zb,i64 r.it.Ref.No,i64 r.it.Zn1,i64 r.it.Zb1,i64 r.it.Zc,i64 r.it.Zo1,i64 r.it.Zw,i64 r.it.To,i64 r.it.Code,i64 r.it.Zp1,i64 r.it.Zq1,i64 r.it.Zr1,i64 r.it.Zs1,.str r.it.Zt1,.sl false (L Aj r.it.Zu1),.bool r.ok] false]):=by
 refine Co 1 15 [] Tryd.func102 (fun F hE=>?_) h;unfold Bw;refine Bd fun c b =>Ge [[],[],[1],[1,2],[1,2,3],[],[5],[5,6],[5,6,7],[5,6,7,8],[5,6,7,8,9],[5,6,7,8,9,10],[0,1,2,3,4,5,6,7,8,9,10,11]] [] (Ar (l:=[]) (m:=[(14,98,[.ref 0 0,.ref 0 14,i64 0,i64 (w64 ((a.p.Zj1.length:Int)-1))],[.box [.sl false (L Ag a.p.Zg1.Ze),.sl false (L Am a.p.Zg1.Zf),.sl false (L Ab a.p.Zh1.Zx),.sl false (L Ae a.p.Zh1.Zy),.sl false (L Ai a.p.Zh1.Zz),.sl false (L Ah a.p.Zh1.Za1),.sl false (L Af a.p.Zi1),.sl false (L Ad a.p.Zj1),.sl false (L Ac a.p.Zk1),i64 a.it.Za,i64 a.it.Ref.Zb,i64 a.it.Ref.No,i64 a.it.Zn1,i64 a.it.Zb1,i64 a.it.Zc,i64 a.it.Zo1,i64 a.it.Zw,i64 a.it.To,i64 a.it.Code,i64 a.it.Zp1,i64 a.it.Zq1,i64 a.it.Zr1,i64 a.it.Zs1,.str a.it.Zt1,.sl false (L Aj a.it.Zu1),.bool a.ok] false],_,_)]) trivial ⟨(wc (CJ b) [0]),trivial⟩) Ev ?_
 exact Ro [0]
theorem Fq{a r}(h:C0 a=some r):Con B 103 [.ref 0 0] [.box [.sl false (L Ag a.p.Zg1.Ze),.sl false (L Am a.p.Zg1.Zf),.sl false (L Ab a.p.Zh1.Zx),.sl false (L Ae a.p.Zh1.Zy),.sl false (L Ai a.p.Zh1.Zz),.sl false (L Ah a.p.Zh1.Za1),.sl false (L Af a.p.Zi1),.sl false (L Ad a.p.Zj1),.sl false (L Ac a.p.Zk1),i64 a.it.Za,i64 a.it.Ref.Zb,i64 a.it.Ref.No,i64 a.it.Zn1,i64 a.it.Zb1,i64 a.it.Zc,i64 a.it.Zo1,i64 a.it.Zw,i64 a.it.To,i64 a.it.Code,i64 a.it.Zp1,i64 a.it.Zq1,i64 a.it.Zr1,i64 a.it.Zs1,.str a.it.Zt1,.sl false (L Aj a.it.Zu1),.bool a.ok] false] (fun r' σ'=>r'=.tup []∧σ'=[.box [.sl false (L Ag r.p.Zg1.Ze),.sl false (L Am r.p.Zg1.Zf),.sl false (L Ab r.p.Zh1.Zx),.sl false (L Ae r.p.Zh1.Zy),.sl false (L Ai r.p.Zh1.Zz),.sl false (L Ah r.p.Zh1.Za1),.sl false (L Af r.p.Zi1),.sl false (L Ad r.p.Zj1),.sl false (L Ac r.p.Zk1),i64 r.it.Za,i64 r.it.Ref.Zb,i64 r.it.Ref.No,i64 r.it.Zn1,i64 r.it.Zb1,i64 r.it.Zc,i64 r.it.Zo1,i64 r.it.Zw,i64 r.it.To,i64 r.it.Code,i64 r.it.Zp1,i64 r.it.Zq1,i64 r.it.Zr1,i64 r.it.Zs1,.str r.it.Zt1,.sl false (L Aj r.it.Zu1),.bool r.ok] false]):=by
 refine Co 1 8 [] Tryd.func103 (fun F hE=>?_) h;unfold C0;refine Bd fun c b =>Fe [] (Ar (l:=[]) (m:=[(7,98,[.ref 0 0,.ref 0 20,i64 0,i64 63],[.box [.sl false (L Ag a.p.Zg1.Ze),.sl false (L Am a.p.Zg1.Zf),.sl false (L Ab a.p.Zh1.Zx),.sl false (L Ae a.p.Zh1.Zy),.sl false (L Ai a.p.Zh1.Zz),.sl false (L Ah a.p.Zh1.Za1),.sl false (L Af a.p.Zi1),.sl false (L Ad a.p.Zj1),.sl false (L Ac a.p.Zk1),i64 a.it.Za,i64 a.it.Ref.Zb,i64 a.it.Ref.No,i64 a.it.Zn1,i64 a.it.Zb1,i64 a.it.Zc,i64 a.it.Zo1,i64 a.it.Zw,i64 a.it.To,i64 a.it.Code,i64 a.it.Zp1,i64 a.it.Zq1,i64 a.it.Zr1,i64 a.it.Zs1,.str a.it.Zt1,.sl false (L Aj a.it.Zu1),.bool a.ok] false],_,_)]) trivial ⟨(wc (G1 b) [0]),trivial⟩) Ev ?_
 exact Ro [0]
end Go.Proofs.YtioapcamanmoiaaDoor
