/-
  Part 39.
-/
import Derived.Test.YtldngkmkhfddpaaGreatDoorYW38
import Derived.DeepKeys3
namespace Go.Rv
open Go.RowKit
set_option linter.unusedVariables false
set_option linter.unusedSimpArgs false
variable {E:Env}
theorem Qw{n N:Nat}{l:Fr}{O O':Ac}(t:Nat){x y:AV}(h:look l t=x)(hz:fz O x=some y)(hm:EB O (Cq x)=O') :Weak E n ⟨Ah N l,O⟩ ⟨Ah N ((t,y)::l),O'⟩:=by
 subst hm;refine Er fun a w g hr=>?_
 obtain⟨g',hr',he,hs,hp⟩:=IR hr n (Cq x);refine⟨g',⟨?_,?_,hr'.mem,hr.defers.evo he⟩,he⟩
 ·have:=hr.size;simpa [Ah]using this
 intro s x' hx;rw[BT]at hx;split at hx
 case isFalse=>cases hx
 rename_i hs';cases hx;show Rep _ _ _ _ (if s=t then _ else look l s);by_cases e:s=t
 ·subst e;rw[AqJ rfl];have hslot:=hr.slot s (look l s) (by rw[BT,AqJ hs']);rw[h]at hslot;refine(PR hr.mem hslot hz hp ?_).mono (fun a u hcc hpr=>⟨hcc,hpr⟩) (GLe.nil _);intro id b hid hb β off2 hβ hoff;obtain⟨b1,hb1,t1,t2,t3,t4,t5,t6⟩:=hs id b hb;obtain⟨k,els,ro,hO⟩:=UI hz hid;obtain⟨ro',hmk⟩:=KN (Cq x) _ id hO;have hro':ro'=true:=MD (Cq x) O id (.inl hid) k els ro' hmk;subst hro';have hbro:b1.ro=true:=(hr'.mem.blk id b1 _ hb1 hmk).2.1;refine⟨fun hF=>(hr'.mem.foreign _ hF).2 ⟨id,b1,hb1,t1.trans hβ⟩,fun id2 c hc2 he2=>?_⟩;have:id2=id:=hr'.mem.inj id2 id c b1 β hc2 hb1 he2 (t1.trans hβ);subst this;rw[hb1]at hc2;cases hc2;exact⟨hbro,by rw[t2,t3,t4];exact hoff⟩
 rw[AqI e];exact hr'.slot s (look l s) (by rw[BT,AqJ hs'])
variable{k:List UInt8}
section
variable {E:Env}{w w':World}{g:Gh}{O:Ac}
end
variable {B:Base}{o:Out}{w w':World}{g g':Gh}{O:Ac}
section
variable {α:Type}{c:α->AV}{N n:Nat}{a b:Arr α N}{r r':List AV}{O:Ac}
theorem AgV(h:N<=n):List.drop n (C1 c a.l++r)=List.drop (n-N) r:=by
 rw[List.drop_append,Dr,AsZ (by rw[Dr];exact h)];rfl
theorem AiY(h:N<=n):List.take n (C1 c a.l++r)=C1 c a.l++List.take (n-N) r:=by
 rw[List.take_append,Dr,Arp (by rw[Dr];exact h)]
theorem AjG(h:N<=n):(C1 c a.l++r)[n]?=r[n-N]?:=by
 rw[AqL (by rw[Dr];exact h),Dr]
theorem AlB{v:AV}(h:N<=n):(C1 c a.l++r).set n v=C1 c a.l++r.set (n-N) v:=by
 rw[As6 _ _ (by rw[Dr];exact h),Dr]
theorem Aan:∀{xs l r:List AV},xs.length=l.length->splice (l++r) 0 xs=xs++r:=by
 have key:∀(xs p l r:List AV),xs.length=l.length->splice (p++(l++r)) p.length xs=p++(xs++r):=by
  intro xs
  induction xs with
  |nil=>
   intro p l r h;have:l=[]:=Ari.1 h.symm;subst this;rfl
  | cons x xs ih=>
   intro p l r h
   match l,h with
   |y::l,h=>
    rw[J7,As6 _ _ (AqT _),AsJ,Aq7,List.set_cons_zero];have:=ih (p++[x]) l r (by simpa using h);simpa using this
 intro xs l r h;exact key xs [] l r h
theorem Ac9:splice (C1 c a.l++r) 0 (C1 c b.l)=C1 c b.l++r:=Aan (by rw[Dr,Dr])
theorem Ma{x:AV}:∀{xs:List AV} {cs:List AV} {n:Nat},splice (x::cs) (n+1) xs=x::splice cs n xs
 |[],cs,n=>rfl
 |y::xs,cs,n=>by
  rw[J7,List.set_cons_succ,Ma,J7]
theorem PM{ys:List AV}:∀{p r:List AV},splice (p++r) p.length ys=p++splice r 0 ys
 |[],r=>rfl
 |x::p,r=>by
  show splice (x::(p++r)) (p.length+1) ys=_;rw[Ma,PM];rfl
theorem X1:∀{xs l r ys:List AV},xs.length=l.length->splice (l++r) 0 (xs++ys)=xs++splice r 0 ys:=by
 have key:∀(xs p l r ys:List AV),xs.length=l.length->splice (p++(l++r)) p.length (xs++ys)=p++(xs++splice r 0 ys):=by
  intro xs
  induction xs with
  |nil=>
   intro p l r ys h;have:l=[]:=Ari.1 h.symm;subst this;exact PM
  | cons x xs ih=>
   intro p l r ys h
   match l,h with
   |y::l,h=>
    rw[show(x::xs)++ys=x::(xs++ys)from rfl,J7,As6 _ _ (AqT _),AsJ,Aq7,List.set_cons_zero];have:=ih (p++[x]) l r ys (by simpa using h);simpa using this
 intro xs l r ys h;exact key xs [] l r ys h
theorem WG{r2:List AV}:splice (C1 c a.l++r) 0 (C1 c b.l++r2)=C1 c b.l++splice r 0 r2:=X1 (by rw[Dr,Dr])
theorem AjN(h:∀x,B7 O (c x)=some (c x)){l:List α}:fzCells O (C1 c l++r)=(fzCells O r).bind fun ys=>some (C1 c l++ys):=by
 induction l with
 |nil=>show fzCells O r=_;cases fzCells O r<;>rfl
 |cons x l ih=>
  show(B7 O (c x)).bind (fun y=>(fzCells O (C1 c l++r)).bind fun ys=>some (y::ys))=_;rw[h,ih];cases fzCells O r<;>rfl
theorem Ahj{l:List UInt8}:fzCells O (C1 u8 l++r)=(fzCells O r).bind fun ys=>some (C1 u8 l++ys):=AjN fun _=>rfl
theorem ApD{sel:List Nat}(h:∀x,wk0 sel (c x) (c x)){l:List α}:wkL sel (C1 c l++r) (C1 c l++r')=wkL sel r r':=by
 induction l with
 |nil=>rfl
 |cons x l ih=>
  show(wk0 sel (c x) (c x)/\wkL sel (C1 c l++r) (C1 c l++r'))=_;rw[ih,eq_true (h x),true_and]
end
attribute [go_sem] WG AgV AiY AjG AlB Ac9 Ahj List.length_append List.all_append
attribute [go_sem ↓] Ma
def MS{α:Type}(c:α->AV)(m:List UInt8->Option α):Ky->Option AV
 |.str s=>(m s).map c
 |.int _=>none
def MI{α:Type}(c:α->AV)(m:Int->Option α):Ky->Option AV
 |.str _=>none
 |.int n=>(m n).map c
def no2{κ α:Type}:κ->Option α:=fun _=>none
def up2{κ α:Type}[DecidableEq κ](m:κ->Option α)(k:κ)(x:Option α):κ->Option α:=fun k'=>if k'=k then x else m k'
section
variable {α:Type}{c:α->AV}
theorem Amm{m:List UInt8->Option α}{x:Option α}:KU (MS c m) (.str k) (x.map c)=MS c (up2 m k x):=by
 funext k';cases k' with
 | str s=>
  by_cases h:s=k
  ·subst h;simp[KU,MS,up2]
  have:Ky.str s≠Ky.str k:=fun e=>h (by cases e;rfl)
  simp[KU,MS,up2,h]
 |int n=>simp[KU,MS]
theorem ApA{m:Int->Option α}{k:Int}{x:Option α}:KU (MI c m) (.int k) (x.map c)=MI c (up2 m k x):=by
 funext k';cases k' with
 | int s=>
  by_cases h:s=k
  ·subst h;simp[KU,MI,up2]
  have:Ky.int s≠Ky.int k:=fun e=>h (by cases e;rfl)
  simp[KU,MI,up2,h]
 |str n=>simp[KU,MI]
theorem Agq{m:List UInt8->Option α}(x:α):KU (MS c m) (.str k) (some (c x))=MS c (up2 m k (some x)):=Amm (x:=some x)
theorem XM{m:Int->Option α}{k:Int}(x:α):KU (MI c m) (.int k) (some (c x))=MI c (up2 m k (some x)):=ApA (x:=some x)
theorem AgS{m:List UInt8->Option α}:KU (MS c m) (.str k) none=MS c (up2 m k none):=Amm (x:=none)
theorem Agy{t:TypeId}:mp0 t=MS c no2:=by
 funext k;cases k<;>rfl
theorem Agw{t:TypeId}:mp0 t=MI c no2:=by
 funext k;cases k<;>rfl
end
theorem AfX{sel:List Nat}{st st':Bool}{f f':Ky->Option AV}:Uh sel (.mp st f) (.mp st' f')=(st=st'/\f=f'):=rfl
theorem Adx(s:List UInt8):kyS (.str s)=true:=rfl
theorem Acq(n:Int):kyS (.int n)=false:=rfl
attribute [go_sem] AfX Adx Acq AgS
variable{t id:Nat}{k:List UInt8}
variable {E:Env}
section
variable {P:Prop}{B:Base}{f:FuncId}{fn:Func}{c:Code}{args:List AV}{r0:AV}{l:Fr}
end
section
variable {α:Type}{c:α->AV}{O:Ac}
theorem Z2{k:AV}{ok:Bool}:Gx E O t (.mref id) k ok=(match O[id]? with
  |some (.mp st f)=>JW E t st f k ok
  | ab=>match ok,k,HZ E t,ab with
   |false,.bool b,some .bool,some (.obj (.map es _))=>match Nr .bool true es,Nr .bool false es with
    |some s1,some s0=>some (.str (if b then s1 else s0))
    |_,_=>none
   |_,_,_,_=>none):=rfl
theorem Yu{x:AV}(hT:HZ E t=some .string):Nd E O t (.mref id) (.str k) x=(match O[id]? with
 |some (.mp st f)=>if x.closed=true/\true=st then some (O.set id (.mp st (KU f (.str k) (some x))))else none
 |_=>none):=by
 have h:AaF .string (.str k)=some (Ky.str k):=rfl;unfold Nd;simp only[hT,h];rcases O[id]? with _|ab
 ·rfl
 cases ab<;>rfl
theorem Yi{k:Int}{x:AV}(hT:HZ E t=some (.int .i64)):Nd E O t (.mref id) (i64 k) x=(match O[id]? with
 |some (.mp st f)=>if x.closed=true/\false=st then some (O.set id (.mp st (KU f (.int k) (some x))))else none
 |_=>none):=by
 have h:AaF (.int .i64) (i64 k)=some (Ky.int k):=rfl;unfold Nd;simp only[hT,h];rcases O[id]? with _|ab
 ·rfl
 cases ab<;>rfl
theorem AcS(hT:HZ E t=some .string):PF E O t (.mref id) (.str k)=(match O[id]? with
 |some (.mp st f)=>if true=st then some (O.set id (.mp st (KU f (.str k) none)))else none
 |_=>none):=by
 have h:AaF .string (.str k)=some (Ky.str k):=rfl;unfold PF;simp only[hT,h];rcases O[id]? with _|ab
 ·rfl
 cases ab<;>rfl
theorem Xc{cs:List AV}:(AV.agg cs).closed=cs.all AV.closed:=by
 simp[AV.closed]
theorem R1{z:α}{m:List UInt8->Option α}{zA:AV}(hT:HZ E t=some .string)(hz:E.mp t=some zA)(hc:zA=c z)(ok:Bool) :JW E t true (MS c m) (.str k) ok=some (if ok then .tup [c ((m k).getD z),.bool (m k).isSome]else c ((m k).getD z)):=by
 have h:AaF .string (.str k)=some (Ky.str k):=rfl;have h2:MS c m (Ky.str k)=(m k).map c:=rfl;unfold JW;simp only[hT,hz,h,hc,Adx,Aro,h2];cases m k<;>rfl
theorem Rp{k:Int}{z:α}{m:Int->Option α}{zA:AV}(hT:HZ E t=some (.int .i64))(hz:E.mp t=some zA)(hc:zA=c z)(ok:Bool) :JW E t false (MI c m) (i64 k) ok=some (if ok then .tup [c ((m k).getD z),.bool (m k).isSome]else c ((m k).getD z)):=by
 have h:AaF (.int .i64) (i64 k)=some (Ky.int k):=rfl;have h2:MI c m (Ky.int k)=(m k).map c:=rfl;unfold JW;simp only[hT,hz,h,hc,Acq,Aro,h2];cases m k<;>rfl
end
attribute [go_sem] Z2 Xc
theorem AaZ{z:Value}{n:Nat}(hz:z.cells.size=n)(hn:2<=n):z=.agg z.cells:=by
 cases z<;>simp[Value.cells]at hz ⊢<;>omega
theorem Afc{P:Program}{t kt et:TypeId}{d:TD}(h:P.underlying t=some (.map kt et))(hd:Ku P et=some d)(h2:2<=d.size):Ajv P t (.agg (d.zero.map dn)):=by
 obtain⟨i,z,hi,hs,hb,hz,q1,q2,q3⟩:=(NK P (fun _=>none) (fun _ _=>false)).info et d ((GS P et).trans hd);replace hi:P.info? et=some i:=hi;have hza:=AaZ (z:=z) (n:=d.size) (by omega) h2;refine⟨kt,et,z,h,fun w=>by simp[zeroValue,typeInfo,hi,hz],fun w pr g=>?_⟩;rw[hza];refine .agg _ _ _ (by simpa using(by omega:z.cells.size=d.zero.length)) (fun i x hi=>?_) (fun i x hi=>?_)
 ·rw[Aq8,AqE]at hi;obtain⟨y,hy,rfl⟩:=hi;exact(q3 w pr g i y hy).2
 rw[Aq8,AqE]at hi;obtain⟨y,hy,rfl⟩:=hi;exact Agz (q3 w pr g i y hy).1
theorem SQ{P:Program}{t kt et:TypeId}{v:Value}(h:P.underlying t=some (.map kt et))(hz:(P.info? et).bind (·.zero)=some v):Ajv P t (NS v):=by
 rw[AqK]at hz;obtain⟨i,hi,hz⟩:=hz;exact⟨kt,et,v,h,fun w=>by simp[zeroValue,typeInfo,hi,hz],fun w pr g=>KL v⟩
open Go.RowKit
variable {E:Env}
def AlW:List Unit->List Oper->List Oper
 |[],_=>[]
 |_::_,[]=>[]
 |_::us,x::l=>x::AlW us l
def Am1:List Unit->List Oper->List Oper
 |[],l=>l
 |_::_,[]=>[]
 |_::us,_::l=>Am1 us l
attribute [go_sem] AlW Am1
def ApR(E:Env)(ops:Array Oper)(n0 n1:Nat)(T:List (List Nat)):Bool:=decide (n0<=n1)&&decide (n1<=ops.size)&&(List.range ops.size).all fun i=>decide (i<n0)||(List.range i).all fun j=>(T.getD i []).contains j||(decide (n1<=j)&&(match ops[j]?,ops[i]? with
  |some x,some y=>Ks E ops x y
  |_,_=>false))
section
variable {ts:List Nat}{k:Nat}{r:List AV}
theorem Yc{α:Type}{c:α->AV}(h:∀x,Nw ts k (c x)=c x):∀{l:List α},List.map (Nw ts k) (C1 c l++r)=C1 c l++List.map (Nw ts k) r:=by
 intro l;rw[Asm];congr 1;unfold C1;rw[Atk];exact Ar5 fun x _=>h x
end
inductive SepZ(E:Env)(orc:Option Tmp->Orc)(ops:Array Oper)(x y:Oper)(frF:List AV):Prop
  |old (h:Sep E orc ops x y frF)
  |appY (p a q d:Nat) (hp:QF x.op=some p) (ha:Jt (ev frF (.tmp p))=some a) (hq:Ani y.op=some q) (hw:LN (ev frF (.tmp q)) d) (hne:a≠d)
theorem VR{orc:Option Tmp->Orc}{ops:Array Oper}{x y:Oper}{st st1 st2:St}(hap:x.apart ops y=true)(hc:SepZ E orc ops x y st.fr) (h1:Cc E orc ops x st=some st1) (h2:Cc E orc ops y st1=some st2):∃st3,Cc E orc ops y st=some st3/\Cc E orc ops x st3=some st2:=by
 cases hc with
 |old h=>exact PU hap h h1 h2
 |appY p a q d hp ha hq hw hne=>
  obtain⟨a1,a2,a3⟩:=Oper.apart_spec hap;unfold Cc at h1 h2 ⊢;rw[AqE]at h1 h2;obtain⟨⟨v,σ1⟩,hv,rfl⟩:=h1;obtain⟨⟨u,σ2⟩,hu,rfl⟩:=h2;simp only at hu ⊢;rw[Be a1]at hu;obtain⟨rfl,_⟩:=FX hp ha hv rfl;refine⟨⟨AC st.fr y.dst u,σ2⟩,by rw[hu];rfl,?_⟩;simp only;rw[Be a3,(FX hp ha hv (Ad4 hq hw hne hu)).2];simp only[Arg,Dl st.fr v u a2]
def Ann(ops:Array Oper)(T:List (List Nat))(ps ws:List (Nat×Nat))(ts:List Nat)(j i:Nat)(x y:Oper):Bool :=
 match QF x.op,Ani y.op with
 |some p,some q=>match Vy ps p,Vy ws q with
  |some a,some d=>a != d&&FI ops ts (fun k=>decide (k<j)) p&&FI ops ts (fun k=>(T.getD i []).contains k&&decide (k<i)) q
  |_,_=>false
 |_,_=>false
end Go.Rv
