/-
  Part 39.
-/
import Derived.Test.YtldngkmkhfddpaaGreatDoorYX38
import Derived.DeepKeys3
namespace Go.Rv
open Go.RowKit
set_option linter.unusedVariables false
set_option linter.unusedSimpArgs false
variable {E:Env}
theorem Py{n N:Nat}{l:Fr}{O O':Ac}(t:Nat){x y:AV}(h:look l t=x)(hz:fz O x=some y)(hm:Es O (BW x)=O') :Weak E n ⟨Ai N l,O⟩ ⟨Ai N ((t,y)::l),O'⟩:=by
 subst hm;refine Ec fun a w g hr=>?_
 obtain⟨g',hr',he,hs,hp⟩:=IY hr n (BW x);refine⟨g',⟨?_,?_,hr'.mem,hr.defers.evo he⟩,he⟩
 ·have:=hr.size;simpa [Ai]using this
 intro s x' hx;rw[BN]at hx;split at hx
 case isFalse=>cases hx
 rename_i hs';cases hx;show Rep _ _ _ _ (if s=t then _ else look l s);by_cases e:s=t
 ·subst e;rw[Apb rfl];have hslot:=hr.slot s (look l s) (by rw[BN,Apb hs']);rw[h]at hslot;refine(Ow hr.mem hslot hz hp ?_).mono (fun a u hcc hpr=>⟨hcc,hpr⟩) (GLe.nil _);intro id b hid hb β off2 hβ hoff;obtain⟨b1,hb1,t1,t2,t3,t4,t5,t6⟩:=hs id b hb;obtain⟨k,els,ro,hO⟩:=TI hz hid;obtain⟨ro',hmk⟩:=KE (BW x) _ id hO;have hro':ro'=true:=M3 (BW x) O id (.inl hid) k els ro' hmk;subst hro';have hbro:b1.ro=true:=(hr'.mem.blk id b1 _ hb1 hmk).2.1;refine⟨fun hF=>(hr'.mem.foreign _ hF).2 ⟨id,b1,hb1,t1.trans hβ⟩,fun id2 c hc2 he2=>?_⟩;have:id2=id:=hr'.mem.inj id2 id c b1 β hc2 hb1 he2 (t1.trans hβ);subst this;rw[hb1]at hc2;cases hc2;exact⟨hbro,by rw[t2,t3,t4];exact hoff⟩
 rw[Apd e];exact hr'.slot s (look l s) (by rw[BN,Apb hs'])
variable{k:List UInt8}
section
variable {E:Env}{w w':World}{g:Gh}{O:Ac}
end
variable {B:Base}{o:Out}{w w':World}{g g':Gh}{O:Ac}
section
variable {α:Type}{c:α->AV}{N n:Nat}{a b:Arr α N}{r r':List AV}{O:Ac}
theorem AhN(h:N<=n):List.drop n (C1 c a.l++r)=List.drop (n-N) r:=by
 rw[List.drop_append,DK,List.drop_of_length_le (by rw[DK];exact h)];rfl
theorem AhW(h:N<=n):List.take n (C1 c a.l++r)=C1 c a.l++List.take (n-N) r:=by
 rw[List.take_append,DK,ApW (by rw[DK];exact h)]
theorem AiL(h:N<=n):(C1 c a.l++r)[n]?=r[n-N]?:=by
 rw[Ape (by rw[DK];exact h),DK]
theorem Akm{v:AV}(h:N<=n):(C1 c a.l++r).set n v=C1 c a.l++r.set (n-N) v:=by
 rw[Arx _ _ (by rw[DK];exact h),DK]
theorem Y4:∀{xs l r:List AV},xs.length=l.length->splice (l++r) 0 xs=xs++r:=by
 have key:∀(xs p l r:List AV),xs.length=l.length->splice (p++(l++r)) p.length xs=p++(xs++r):=by
  intro xs
  induction xs with
  |nil=>
   intro p l r h;have:l=[]:=ApM.1 h.symm;subst this;rfl
  | cons x xs ih=>
   intro p l r h
   match l,h with
   |y::l,h=>
    rw[Jw,Arx _ _ (Apm _),Arw,Apv,List.set_cons_zero];have:=ih (p++[x]) l r (by simpa using h);simpa using this
 intro xs l r h;exact key xs [] l r h
theorem Aag:splice (C1 c a.l++r) 0 (C1 c b.l)=C1 c b.l++r:=Y4 (by rw[DK,DK])
theorem Lz{x:AV}:∀{xs:List AV} {cs:List AV} {n:Nat},splice (x::cs) (n+1) xs=x::splice cs n xs
 |[],cs,n=>rfl
 |y::xs,cs,n=>by
  rw[Jw,List.set_cons_succ,Lz,Jw]
theorem PO{ys:List AV}:∀{p r:List AV},splice (p++r) p.length ys=p++splice r 0 ys
 |[],r=>rfl
 |x::p,r=>by
  show splice (x::(p++r)) (p.length+1) ys=_;rw[Lz,PO];rfl
theorem W5:∀{xs l r ys:List AV},xs.length=l.length->splice (l++r) 0 (xs++ys)=xs++splice r 0 ys:=by
 have key:∀(xs p l r ys:List AV),xs.length=l.length->splice (p++(l++r)) p.length (xs++ys)=p++(xs++splice r 0 ys):=by
  intro xs
  induction xs with
  |nil=>
   intro p l r ys h;have:l=[]:=ApM.1 h.symm;subst this;exact PO
  | cons x xs ih=>
   intro p l r ys h
   match l,h with
   |y::l,h=>
    rw[show(x::xs)++ys=x::(xs++ys)from rfl,Jw,Arx _ _ (Apm _),Arw,Apv,List.set_cons_zero];have:=ih (p++[x]) l r ys (by simpa using h);simpa using this
 intro xs l r ys h;exact key xs [] l r ys h
theorem V7{r2:List AV}:splice (C1 c a.l++r) 0 (C1 c b.l++r2)=C1 c b.l++splice r 0 r2:=W5 (by rw[DK,DK])
theorem AkW(h:∀x,Bm O (c x)=some (c x)){l:List α}:fzCells O (C1 c l++r)=(fzCells O r).bind fun ys=>some (C1 c l++ys):=by
 induction l with
 |nil=>show fzCells O r=_;cases fzCells O r<;>rfl
 |cons x l ih=>
  show(Bm O (c x)).bind (fun y=>(fzCells O (C1 c l++r)).bind fun ys=>some (y::ys))=_;rw[h,ih];cases fzCells O r<;>rfl
theorem AhQ{l:List UInt8}:fzCells O (C1 u8 l++r)=(fzCells O r).bind fun ys=>some (C1 u8 l++ys):=AkW fun _=>rfl
theorem Al9{sel:List Nat}(h:∀x,wk0 sel (c x) (c x)){l:List α}:wkL sel (C1 c l++r) (C1 c l++r')=wkL sel r r':=by
 induction l with
 |nil=>rfl
 |cons x l ih=>
  show(wk0 sel (c x) (c x)/\wkL sel (C1 c l++r) (C1 c l++r'))=_;rw[ih,eq_true (h x),true_and]
end
attribute [go_sem] V7 AhN AhW AiL Akm Aag AhQ List.length_append List.all_append
attribute [go_sem ↓] Lz
def MS{α:Type}(c:α->AV)(m:List UInt8->Option α):Ky->Option AV
 |.str s=>(m s).map c
 |.int _=>none
def MI{α:Type}(c:α->AV)(m:Int->Option α):Ky->Option AV
 |.str _=>none
 |.int n=>(m n).map c
def no2{κ α:Type}:κ->Option α:=fun _=>none
def up2{κ α:Type}[DecidableEq κ](m:κ->Option α)(k:κ)(x:Option α):κ->Option α:=fun k'=>if k'=k then x else m k'
section
variable {α:Type}{c:α->AV}
theorem AlH{m:List UInt8->Option α}{x:Option α}:KG (MS c m) (.str k) (x.map c)=MS c (up2 m k x):=by
 funext k';cases k' with
 | str s=>
  by_cases h:s=k
  ·subst h;simp[KG,MS,up2]
  have:Ky.str s≠Ky.str k:=fun e=>h (by cases e;rfl)
  simp[KG,MS,up2,h]
 |int n=>simp[KG,MS]
theorem AoC{m:Int->Option α}{k:Int}{x:Option α}:KG (MI c m) (.int k) (x.map c)=MI c (up2 m k x):=by
 funext k';cases k' with
 | int s=>
  by_cases h:s=k
  ·subst h;simp[KG,MI,up2]
  have:Ky.int s≠Ky.int k:=fun e=>h (by cases e;rfl)
  simp[KG,MI,up2,h]
 |str n=>simp[KG,MI]
theorem AfC{m:List UInt8->Option α}(x:α):KG (MS c m) (.str k) (some (c x))=MS c (up2 m k (some x)):=AlH (x:=some x)
theorem X4{m:Int->Option α}{k:Int}(x:α):KG (MI c m) (.int k) (some (c x))=MI c (up2 m k (some x)):=AoC (x:=some x)
theorem Afq{m:List UInt8->Option α}:KG (MS c m) (.str k) none=MS c (up2 m k none):=AlH (x:=none)
theorem Aff{t:TypeId}:mp0 t=MS c no2:=by
 funext k;cases k<;>rfl
theorem Afe{t:TypeId}:mp0 t=MI c no2:=by
 funext k;cases k<;>rfl
end
theorem AcV{sel:List Nat}{st st':Bool}{f f':Ky->Option AV}:Ue sel (.mp st f) (.mp st' f')=(st=st'/\f=f'):=rfl
theorem Aab(s:List UInt8):kyS (.str s)=true:=rfl
theorem Aav(n:Int):kyS (.int n)=false:=rfl
attribute [go_sem] AcV Aab Aav Afq
variable{t id:Nat}{k:List UInt8}
variable {E:Env}
section
variable {P:Prop}{B:Base}{f:FuncId}{fn:Func}{c:Code}{args:List AV}{r0:AV}{l:Fr}
end
section
variable {α:Type}{c:α->AV}{O:Ac}
theorem XP{k:AV}{ok:Bool}:Ga E O t (.mref id) k ok=(match O[id]? with
  |some (.mp st f)=>JB E t st f k ok
  | ab=>match ok,k,H7 E t,ab with
   |false,.bool b,some .bool,some (.obj (.map es _))=>match M9 .bool true es,M9 .bool false es with
    |some s1,some s0=>some (.str (if b then s1 else s0))
    |_,_=>none
   |_,_,_,_=>none):=rfl
theorem WL{x:AV}(hT:H7 E t=some .string):LQ E O t (.mref id) (.str k) x=(match O[id]? with
 |some (.mp st f)=>if x.closed=true/\true=st then some (O.set id (.mp st (KG f (.str k) (some x))))else none
 |_=>none):=by
 have h:ZB .string (.str k)=some (Ky.str k):=rfl;unfold LQ;simp only[hT,h];rcases O[id]? with _|ab
 ·rfl
 cases ab<;>rfl
theorem WM{k:Int}{x:AV}(hT:H7 E t=some (.int .i64)):LQ E O t (.mref id) (i64 k) x=(match O[id]? with
 |some (.mp st f)=>if x.closed=true/\false=st then some (O.set id (.mp st (KG f (.int k) (some x))))else none
 |_=>none):=by
 have h:ZB (.int .i64) (i64 k)=some (Ky.int k):=rfl;unfold LQ;simp only[hT,h];rcases O[id]? with _|ab
 ·rfl
 cases ab<;>rfl
theorem Aa4(hT:H7 E t=some .string):Ph E O t (.mref id) (.str k)=(match O[id]? with
 |some (.mp st f)=>if true=st then some (O.set id (.mp st (KG f (.str k) none)))else none
 |_=>none):=by
 have h:ZB .string (.str k)=some (Ky.str k):=rfl;unfold Ph;simp only[hT,h];rcases O[id]? with _|ab
 ·rfl
 cases ab<;>rfl
theorem VO{cs:List AV}:(AV.agg cs).closed=cs.all AV.closed:=by
 simp[AV.closed]
theorem QZ{z:α}{m:List UInt8->Option α}{zA:AV}(hT:H7 E t=some .string)(hz:E.mp t=some zA)(hc:zA=c z)(ok:Bool) :JB E t true (MS c m) (.str k) ok=some (if ok then .tup [c ((m k).getD z),.bool (m k).isSome]else c ((m k).getD z)):=by
 have h:ZB .string (.str k)=some (Ky.str k):=rfl;have h2:MS c m (Ky.str k)=(m k).map c:=rfl;unfold JB;simp only[hT,hz,h,hc,Aab,ApT,h2];cases m k<;>rfl
theorem QC{k:Int}{z:α}{m:Int->Option α}{zA:AV}(hT:H7 E t=some (.int .i64))(hz:E.mp t=some zA)(hc:zA=c z)(ok:Bool) :JB E t false (MI c m) (i64 k) ok=some (if ok then .tup [c ((m k).getD z),.bool (m k).isSome]else c ((m k).getD z)):=by
 have h:ZB (.int .i64) (i64 k)=some (Ky.int k):=rfl;have h2:MI c m (Ky.int k)=(m k).map c:=rfl;unfold JB;simp only[hT,hz,h,hc,Aav,ApT,h2];cases m k<;>rfl
end
attribute [go_sem] XP VO
theorem Aas{z:Value}{n:Nat}(hz:z.cells.size=n)(hn:2<=n):z=.agg z.cells:=by
 cases z<;>simp[Value.cells]at hz ⊢<;>omega
theorem Adm{P:Program}{t kt et:TypeId}{d:TD}(h:P.underlying t=some (.map kt et))(hd:NV P et=some d)(h2:2<=d.size):Ah6 P t (.agg (d.zero.map dn)):=by
 obtain⟨i,z,hi,hs,hb,hz,q1,q2,q3⟩:=(Q6 P (fun _=>none) (fun _ _=>false)).info et d ((Pm P et).trans hd);replace hi:P.info? et=some i:=hi;have hza:=Aas (z:=z) (n:=d.size) (by omega) h2;refine⟨kt,et,z,h,fun w=>by simp[zeroValue,typeInfo,hi,hz],fun w pr g=>?_⟩;rw[hza];refine .agg _ _ _ (by simpa using(by omega:z.cells.size=d.zero.length)) (fun i x hi=>?_) (fun i x hi=>?_)
 ·rw[ApE,Ao5]at hi;obtain⟨y,hy,rfl⟩:=hi;exact(q3 w pr g i y hy).2
 rw[ApE,Ao5]at hi;obtain⟨y,hy,rfl⟩:=hi;exact AfA (q3 w pr g i y hy).1
theorem SC{P:Program}{t kt et:TypeId}{v:Value}(h:P.underlying t=some (.map kt et))(hz:(P.info? et).bind (·.zero)=some v):Ah6 P t (Ny v):=by
 rw[Apa]at hz;obtain⟨i,hi,hz⟩:=hz;exact⟨kt,et,v,h,fun w=>by simp[zeroValue,typeInfo,hi,hz],fun w pr g=>KF v⟩
open Go.RowKit
variable {E:Env}
def AkS:List Unit->List Oper->List Oper
 |[],_=>[]
 |_::_,[]=>[]
 |_::us,x::l=>x::AkS us l
def Aix:List Unit->List Oper->List Oper
 |[],l=>l
 |_::_,[]=>[]
 |_::us,_::l=>Aix us l
attribute [go_sem] AkS Aix
def AoH(E:Env)(ops:Array Oper)(n0 n1:Nat)(T:List (List Nat)):Bool:=decide (n0<=n1)&&decide (n1<=ops.size)&&(List.range ops.size).all fun i=>decide (i<n0)||(List.range i).all fun j=>(T.getD i []).contains j||(decide (n1<=j)&&(match ops[j]?,ops[i]? with
  |some x,some y=>J9 E ops x y
  |_,_=>false))
section
variable {ts:List Nat}{k:Nat}{r:List AV}
theorem Xd{α:Type}{c:α->AV}(h:∀x,MG ts k (c x)=c x):∀{l:List α},List.map (MG ts k) (C1 c l++r)=C1 c l++List.map (MG ts k) r:=by
 intro l;rw[AqU];congr 1;unfold C1;rw[Ar7];exact Aqu fun x _=>h x
end
inductive SepZ(E:Env)(orc:Option Tmp->Orc)(ops:Array Oper)(x y:Oper)(frF:List AV):Prop
  |old (h:Sep E orc ops x y frF)
  |appY (p a q d:Nat) (hp:NO x.op=some p) (ha:HQ (ev frF (.tmp p))=some a) (hq:Ake y.op=some q) (hw:Li (ev frF (.tmp q)) d) (hne:a≠d)
theorem Vr{orc:Option Tmp->Orc}{ops:Array Oper}{x y:Oper}{st st1 st2:St}(hap:x.apart ops y=true)(hc:SepZ E orc ops x y st.fr) (h1:Bw E orc ops x st=some st1) (h2:Bw E orc ops y st1=some st2):∃st3,Bw E orc ops y st=some st3/\Bw E orc ops x st3=some st2:=by
 cases hc with
 |old h=>exact OJ hap h h1 h2
 |appY p a q d hp ha hq hw hne=>
  obtain⟨a1,a2,a3⟩:=Oper.apart_spec hap;unfold Bw at h1 h2 ⊢;rw[Ao5]at h1 h2;obtain⟨⟨v,σ1⟩,hv,rfl⟩:=h1;obtain⟨⟨u,σ2⟩,hu,rfl⟩:=h2;simp only at hu ⊢;rw[AG a1]at hu;obtain⟨rfl,_⟩:=Ex hp ha hv rfl;refine⟨⟨Ay st.fr y.dst u,σ2⟩,by rw[hu];rfl,?_⟩;simp only;rw[AG a3,(Ex hp ha hv (X0 hq hw hne hu)).2];simp only[ApG,CD st.fr v u a2]
def AlV(ops:Array Oper)(T:List (List Nat))(ps ws:List (Nat×Nat))(ts:List Nat)(j i:Nat)(x y:Oper):Bool :=
 match NO x.op,Ake y.op with
 |some p,some q=>match NQ ps p,NQ ws q with
  |some a,some d=>a != d&&D6 ops ts (fun k=>decide (k<j)) p&&D6 ops ts (fun k=>(T.getD i []).contains k&&decide (k<i)) q
  |_,_=>false
 |_,_=>false
end Go.Rv
