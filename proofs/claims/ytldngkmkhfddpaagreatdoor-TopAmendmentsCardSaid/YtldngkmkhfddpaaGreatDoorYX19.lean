/-
  Part 19.
-/
import Derived.Test.YtldngkmkhfddpaaGreatDoorYX18
namespace Go.Rv
set_option linter.unusedVariables false
set_option linter.unusedSimpArgs false
variable{n:Nat}{z:List AV}{de:TD}{dr:Bool}
variable {E:Env}{O:Ac}
def L{α:Type}(c:α->List AV)(l:List α):List (List AV):=l.map c
def cU8(x:UInt8):List AV:=[u8 x]
def cU32(x:UInt32):List AV:=[u32 x]
def cU64(x:UInt64):List AV:=[u64 x]
def IA(x:Int):List AV:=[i64 x]
def LF(x:Bool):List AV:=[.bool x]
def Bc(x:List UInt8):List AV:=[.str x]
def cSl{α:Type}(c:α->List AV)(x:List α):List AV:=[.sl false (L c x)]
def nth{α:Type}[Inhabited α](l:List α)(i:Nat):α:=l.getD i default
section
variable {α:Type}{c:α->List AV}{l m:List α}
theorem Ad5:(L c l).length=l.length:=by simp[L]
theorem AoL:L c []=[]:=rfl
theorem AiW{x:α}:L c (x::l)=c x::L c l:=rfl
theorem Aiv:L c (l++m)=L c l++L c m:=by simp[L]
theorem Afx:(L c l).take n=L c (l.take n):=by simp[L,List.map_take]
theorem Ae8:(L c l).drop n=L c (l.drop n):=by simp[L,List.map_drop]
theorem AnP{x:α}:L c (List.replicate n x)=List.replicate n (c x):=by simp[L]
theorem An7{i:Nat}{x:α}:L c (l.set i x)=(L c l).set i (c x):=by simp[L,Ar4]
theorem Ai5[Inhabited α]{i:Nat}(h:i<l.length):(L c l)[i]?=some (c (nth l i)):=by simp[L,nth,h]
theorem L_ok{k:Nat}(h:∀y,(c y).length=k):(∀cs∈L c l,cs.length=k)=True:=by
 refine eq_true ?_;intro cs hcs;simp only[L,Aqz]at hcs;obtain⟨y,_,rfl⟩:=hcs;exact h y
theorem L_eq_nil:(L c l=[])=(l=[]):=by simp[L]
theorem L_closed(h:∀y,(c y).all AV.closed=true):D4 (L c l)=true:=by
 simp only[D4,L,List.all_map,App];intro y _;exact h y
end
theorem L_bytes(l:List UInt8):(l.map fun b=>[AV.int .u8 b.toNat])=L cU8 l:=rfl
def ovl{α:Type}(l m:List α)(off:Nat):List α:=l.take off++m++l.drop (off+m.length)
theorem ovl_L{α:Type}{c:α->List AV}(l m:List α)(off:Nat):HG (L c l) (L c m) off=L c (ovl l m off):=by
 simp[HG,ovl,Aiv,Afx,Ae8,Ad5]
theorem Lc{α:Type}[Inhabited α](c:α->List AV){t e a b:Nat}(ht:E.tab t=some ⟨.slice e,a,b,z⟩)(he:E.tab e=some de)(hk:∀y,(c y).length=de.size)(f:Bool)(l:List α)(x:AV) :Ao E O t (.sl f (L c l)) x=match idx x l.length with
   |some i=>some (.rp (c (nth l i)))
   |none=>none:=by
 unfold Ao;simp only[ht,he,Ad5];cases hi:idx x l.length with
 |none=>rfl
 | some i=>
  have hl:i<l.length:=by
   unfold idx at hi;split at hi
   ·split at hi
    ·rename_i h;cases hi;exact h.2
    cases hi
   cases hi
  simp only[Ai5 hl,hk,ApT]
theorem Qb{t e a b:Nat}(ht:E.tab t=some ⟨.slice e,a,b,z⟩)(he:E.tab e=some de)(hk:0<de.size)(f:Bool)(id tot off len:Nat)(x:AV) :Ao E O t (.bs f id tot off len) x=match O[id]?,idx x len with
  |some (.buf k els _),some i=>if els.length=tot/\k=de.size then some (.eref id tot (off+i) 0)else none
  |_,_=>none:=by
 unfold Ao;simp only[ht,he];split
 ·rename_i k els ro i h1 h2;simp only[h1,h2];by_cases hc:els.length=tot/\k=de.size
  ·rw[Apb hc,Apb ⟨hc.1,hc.2,by omega⟩]
  rw[Apd hc,Apd (fun h=>hc ⟨h.1,h.2.1⟩)]
 rename_i h;split
 ·rename_i k els ro i h1 h2;exact(h k els ro i h1 h2).elim
 rfl
theorem Va{t e n a b:Nat}(ht:E.tab t=some ⟨.array n e,a,b,z⟩)(he:E.tab e=some de)(id off:Nat)(x:AV) :Ao E O t (.ref id off) x=match idx x n with
  |some i=>some (.ref id (off+i*de.size))
  |none=>none:=by
 unfold Ao;simp only[ht,he];cases idx x n<;>rfl
def NI(O:Ac)(id tot off len bytes size e T:Nat)(l:List UInt8)(new:List (List AV)):Option (AV×Ac) :=
 match J7 new with
 |some nl=>if off=0/\len=tot/\size=1/\FT (len+new.length) bytes/\e=T/\l.length=tot then some (.bs false id (tot+new.length) 0 (tot+new.length),O.set id (.tb T (l++nl)))else none
 |none=>none
theorem Gf{t u e a b:Nat}{du:TD}(ht:E.tab t=some ⟨.slice e,a,b,z⟩)(he:E.tab e=some de)(hk:0<de.size)(hu:E.tab u=some du)(hu2:(∃e',du.desc=.slice e')\/du.desc=.string)(s x:AV)(ts:List TypeId) :AU E O .append (t::u::ts) [s,x]=match GT O x with
   | some new=>if GY x de.size=true then none else if ∀cs∈new,cs.length=de.size then(match s with
     | .sl full els=>
      if els=[]/\full=true then
       if FT new.length de.bytes then some (.bs false O.length new.length 0 new.length,O++[.buf de.size new false])else none
      else if new=[]then some (.sl full els,O)
      else if full=true/\(∀cs∈els,cs.length=de.size)/\FT (els.length+new.length) de.bytes
      then some (.bs false O.length (els.length+new.length) 0 (els.length+new.length),O++[.buf de.size (els++new) false])else none
     | .bs full id tot off len=>match O[id]? with
      | some (.buf k els ro)=>
       if els.length=tot/\k=de.size/\FT (len+new.length) de.bytes then
        if off=0/\len=tot then some (.bs false id (tot+new.length) 0 (tot+new.length),O.set id (.buf k (els++new) ro))
        else if new=[]then some (.bs full id tot off len,O)
        else if full then some (.bs false O.length (len+new.length) 0 (len+new.length),O++[.buf k ((els.drop off).take len++new) false])
        else none
       else none
      |some (.tb T l)=>NI O id tot off len de.bytes de.size e T l new
      |_=>none
     |_=>none)
    else none
   |none=>none:=by
 have hu3:AU E O .append (t::u::ts) [s,x]=LB E O t s x:=by
  unfold AU;simp only[hu];rcases hu2 with⟨e',h⟩|h<;>simp only[h]
 rw[hu3];unfold LB;simp only[ht,he];cases GT O x with
 |none=>rfl
 | some new=>
  simp only;split
  ·rfl
  split
  case isFalse=>rfl
  cases s with
  | sl full els=>
   simp only;split
   ·by_cases h:FT new.length de.bytes
    ·rw[Apb h,Apb ⟨hk,h.1,h.2⟩]
    rw[Apd h,Apd (fun hh=>h hh.2)]
   split
   ·rfl
   by_cases h:full=true/\(∀cs∈els,cs.length=de.size)/\FT (els.length+new.length) de.bytes
   ·rw[Apb h,Apb ⟨h.1,h.2.1,hk,h.2.2.1,h.2.2.2⟩]
   rw[Apd h,Apd (fun hh=>h ⟨hh.1,hh.2.1,hh.2.2.2⟩)]
  | bs full id tot off len=>
   simp only;split
   ·rename_i k els ro hb;simp only[hb];by_cases h:els.length=tot/\k=de.size/\FT (len+new.length) de.bytes
    ·rw[Apb h,Apb ⟨h.1,h.2.1,by have:=h.2.1;omega,h.2.2.1,h.2.2.2⟩]
    rw[Apd h,Apd (fun hh=>h ⟨hh.1,hh.2.1,hh.2.2.2⟩)]
   ·rename_i T l hb;simp only[hb,NI];cases J7 new with
    |none=>rfl
    |some nl=>
     simp only;by_cases h:off=0/\len=tot/\de.size=1/\FT (len+new.length) de.bytes/\e=T/\l.length=tot
     ·rw[Apb h,Apb ⟨h.1,h.2.1,h.2.2.1,h.2.2.2.1.1,h.2.2.2.1.2,h.2.2.2.2⟩]
     rw[Apd h,Apd (fun hh=>h ⟨hh.1,hh.2.1,hh.2.2.1,⟨hh.2.2.2.1,hh.2.2.2.2.1⟩,hh.2.2.2.2.2⟩)]
   rename_i hno hno2;split
   ·rename_i k els ro hb;exact(hno k els ro hb).elim
   ·rename_i T l hb;exact(hno2 T l hb).elim
   rfl
  |_=>rfl
def Mk(l c:Int)(bytes:Nat):Prop:=0<=l/\l<=c/\c<=maxLen/\c.toNat*bytes<=Hv
instance (l c:Int)(b:Nat):Decidable (Mk l c b):=inferInstanceAs (Decidable (_/\_))
theorem RG{t e a b:Nat}(ht:E.tab t=some ⟨.slice e,a,b,z⟩)(he:E.tab e=some de)(hk:0<de.size)(l c:Int) :E0 E O t (i64 l) (i64 c)=if Mk l c de.bytes then some (.bs (l==c) O.length l.toNat 0 l.toNat,O++[.buf de.size (List.replicate l.toNat (de.zero.map dn)) false])else none:=by
 unfold E0 i64;simp only[ht,he];by_cases h:Mk l c de.bytes
 ·rw[Apb h,Apb ⟨h.1,h.2.1,h.2.2.1,h.2.2.2,hk⟩]
 rw[Apd h,Apd (fun hh=>h ⟨hh.1,hh.2.1,hh.2.2.1,hh.2.2.2.1⟩)]
theorem Ak3(x:Int):dn (i64 x)=i64 x:=rfl
theorem Ang(x:UInt8):dn (u8 x)=u8 x:=rfl
theorem AiJ(x:UInt32):dn (u32 x)=u32 x:=rfl
theorem Aln(x:UInt64):dn (u64 x)=u64 x:=rfl
theorem AfQ(x:Bool):dn (.bool x)=.bool x:=rfl
theorem AjZ(x:List UInt8):dn (.str x)=.str x:=rfl
theorem Anz(f:Bool)(l:List (List AV)):dn (.sl f l)=.sl false l:=rfl
theorem AnT(f:FuncId)(l:List AV):dn (.fn f l)=.fn f l:=rfl
theorem Ajm(v:Value):dn (.val v)=.val v:=rfl
theorem AhO(i:Nat)(t:TypeId):dn (.tref i t)=.tref i t:=rfl
theorem AiU(i o:Nat):dn (.ref i o)=.ref i o:=rfl
theorem An0(f:Bool)(i t o l:Nat):dn (.bs f i t o l)=.bs f i t o l:=rfl
theorem AcR(t:TypeId)(x:AV):dn (.iface t x)=.iface t x:=rfl
theorem AiP{α:Type}(k:α->AV)(h:∀x,dn (k x)=k x)(l:List α):(l.map k).map dn=l.map k:=by simp[ArT,h]
attribute [go_sem] Ak3 Ang AiJ Aln AfQ AjZ Anz AnT Ajm AiU AhO An0 AcR List.map_cons List.map_nil
def FitS(n:Nat):Prop:=n<=9223372036854775807
instance (n:Nat):Decidable (FitS n):=inferInstanceAs (Decidable (_<=_))
section
variable {t:TypeId}(a b:List UInt8)
theorem Wa:B8 E .add t (.str a) (.str b)=if FitS (a.length+b.length)then some (.str (a++b))else none:=rfl
theorem UJ:B8 E .eql t (.str a) (.str b)=some (.bool (a==b)):=rfl
theorem Wm:B8 E .neq t (.str a) (.str b)=some (.bool (!(a==b))):=rfl
theorem Wt:B8 E .lss t (.str a) (.str b)=some (.bool (Op.bytesLess a b)):=rfl
theorem Vk:B8 E .leq t (.str a) (.str b)=some (.bool (Op.bytesLess a b||a==b)):=rfl
theorem Vy:B8 E .gtr t (.str a) (.str b)=some (.bool (!(Op.bytesLess a b||a==b))):=rfl
theorem Vh:B8 E .geq t (.str a) (.str b)=some (.bool (!Op.bytesLess a b)):=rfl
end
theorem YT{t:TypeId}{a b:Nat}(ht:E.tab t=some ⟨.string,a,b,z⟩)(s:List UInt8)(x:AV):JC E t (.str s) x=match idx x s.length with
  |some i=>some (u8 (nth s i))
  |none=>none:=by
 unfold JC;simp only[ht];cases hi:idx x s.length with
 |none=>rfl
 | some i=>
  have hl:i<s.length:=by
   unfold idx at hi;split at hi
   ·split at hi
    ·rename_i h;cases hi;exact h.2
    cases hi
   cases hi
  simp only[Ao9 hl,nth,Apt];rfl
theorem YO{α:Type}(l:List α):l.toArray.toList=l:=rfl
theorem Af0{α:Type}(l:List α)(i:Nat):l.toArray[i]?=l[i]?:=by simp
theorem AcT(x:Int):AV.int .i64 x=i64 x:=rfl
theorem closed_i64(x:Int):(i64 x).closed=true:=by simp[i64,AV.closed]
theorem closed_u8(x:UInt8):(u8 x).closed=true:=by simp[u8,AV.closed]
theorem closed_u32(x:UInt32):(u32 x).closed=true:=by simp[u32,AV.closed]
theorem closed_u64(x:UInt64):(u64 x).closed=true:=by simp[u64,AV.closed]
theorem closed_bool(x:Bool):(AV.bool x).closed=true:=by simp[AV.closed]
theorem closed_str(x:List UInt8):(AV.str x).closed=true:=by simp[AV.closed]
theorem closed_sl(f:Bool)(x:List (List AV)):(AV.sl f x).closed=true:=by simp[AV.closed]
theorem cells_i64(x:Int):(i64 x).cells?=some [i64 x]:=rfl
theorem cells_u8(x:UInt8):(u8 x).cells?=some [u8 x]:=rfl
theorem cells_u32(x:UInt32):(u32 x).cells?=some [u32 x]:=rfl
theorem cells_u64(x:UInt64):(u64 x).cells?=some [u64 x]:=rfl
theorem cells_bool(x:Bool):(AV.bool x).cells?=some [.bool x]:=rfl
theorem cells_str(x:List UInt8):(AV.str x).cells?=some [.str x]:=rfl
theorem cells_sl(f:Bool)(x:List (List AV)):(AV.sl f x).cells?=some [.sl f x]:=rfl
theorem cells_bs(f:Bool)(a b c d:Nat):(AV.bs f a b c d).cells?=some [.bs f a b c d]:=rfl
theorem cells_nref(a:Nat):(AV.nref a).cells?=some [.nref a]:=rfl
theorem cells_mref(a:Nat):(AV.mref a).cells?=some [.mref a]:=rfl
theorem cells_tref(a b:Nat):(AV.tref a b).cells?=some [.tref a b]:=rfl
theorem cells_ref(a b:Nat):(AV.ref a b).cells?=some [.ref a b]:=rfl
theorem cells_agg(x:List AV):(AV.agg x).cells?=some x:=rfl
theorem fz_i64(x:Int):fz O (i64 x)=some (i64 x):=rfl
theorem fz_u8(x:UInt8):fz O (u8 x)=some (u8 x):=rfl
theorem fz_u32(x:UInt32):fz O (u32 x)=some (u32 x):=rfl
theorem fz_u64(x:UInt64):fz O (u64 x)=some (u64 x):=rfl
theorem fz_bool(x:Bool):fz O (.bool x)=some (.bool x):=rfl
theorem fz_str(x:List UInt8):fz O (.str x)=some (.str x):=rfl
theorem fz_sl(f:Bool)(x:List (List AV)):fz O (.sl f x)=some (.sl false x):=rfl
theorem fz_fn0(f:FuncId):fz O (.fn f [])=some (.fn f []):=rfl
theorem fz_bs(f:Bool)(id tot off len:Nat):fz O (.bs f id tot off len)=match O[id]? with
 |some (.buf k els ro)=>if els.length=tot/\D4 els=true then some (.sl false ((els.drop off).take len))else none
 |_=>none:=rfl
def fzCells(O:Ac):List AV->Option (List AV)
 |[]=>some []
 |x::l=>(Bm O x).bind fun y=>(fzCells O l).bind fun ys=>some (y::ys)
theorem Q7(O:Ac):∀l:List AV,l.mapM (Bm O)=fzCells O l
 |[]=>rfl
 |x::l=>by rw[AqB,Q7 O l];rfl
theorem fz_agg(cs:List AV):fz O (.agg cs)=(fzCells O cs).bind fun ys=>some (.agg ys):=by
 show(cs.mapM (Bm O)).map AV.agg=_;rw[Q7];cases fzCells O cs<;>rfl
theorem fzC_i64(x:Int):Bm O (i64 x)=some (i64 x):=rfl
theorem fzC_u8(x:UInt8):Bm O (u8 x)=some (u8 x):=rfl
theorem fzC_u32(x:UInt32):Bm O (u32 x)=some (u32 x):=rfl
theorem fzC_u64(x:UInt64):Bm O (u64 x)=some (u64 x):=rfl
theorem fzC_bool(x:Bool):Bm O (.bool x)=some (.bool x):=rfl
theorem fzC_str(x:List UInt8):Bm O (.str x)=some (.str x):=rfl
theorem fzC_sl(f:Bool)(x:List (List AV)):Bm O (.sl f x)=some (.sl false x):=rfl
theorem fzC_bs(f:Bool)(id tot off len:Nat):Bm O (.bs f id tot off len)=match O[id]? with
 |some (.buf k els ro)=>if els.length=tot/\D4 els=true then some (.sl false ((els.drop off).take len))else none
 |_=>none:=rfl
theorem fzR_tup(xs:List AV):fzR O (.tup xs)=(fzL O xs).bind fun ys=>some (.tup ys):=by
 show(xs.mapM (fz O)).map AV.tup=_;rw[X3];cases fzL O xs<;>rfl
theorem fzR_i64(x:Int):fzR O (i64 x)=some (i64 x):=rfl
theorem fzR_u8(x:UInt8):fzR O (u8 x)=some (u8 x):=rfl
theorem fzR_u32(x:UInt32):fzR O (u32 x)=some (u32 x):=rfl
theorem fzR_u64(x:UInt64):fzR O (u64 x)=some (u64 x):=rfl
theorem fzR_bool(x:Bool):fzR O (.bool x)=some (.bool x):=rfl
theorem fzR_str(x:List UInt8):fzR O (.str x)=some (.str x):=rfl
theorem fzR_sl(f:Bool)(x:List (List AV)):fzR O (.sl f x)=fz O (.sl f x):=rfl
theorem fzR_bs(f:Bool)(a b c d:Nat):fzR O (.bs f a b c d)=fz O (.bs f a b c d):=rfl
theorem fzR_agg(x:List AV):fzR O (.agg x)=fz O (.agg x):=rfl
theorem AiG(b:Bool):V5 .not (.bool b)=some (.bool !b):=rfl
theorem Ajy{t:TypeId}{ts:List TypeId}(x:AV):AU E O .len (t::ts) [x]=(Xz E O t x).map fun(n:Nat)=>(AV.int .i64 (n:Int),O):=rfl
theorem AgY{t:TypeId}{ts:List TypeId}(x y:AV):AU E O .copy (t::ts) [x,y]=AbP E O t x y:=rfl
theorem SF:D4 []=true:=rfl
theorem Qp{x:List AV}{l:List (List AV)}:D4 (x::l)=(x.all AV.closed&&D4 l):=rfl
def AmD(d:Option Tmp)(fr:Fr):Option (AV×Ac)->Option (Fr×Ac)
 |none=>none
 |some r=>some (put d r.1 fr,r.2)
def AfD(E:Env)(dr:Bool)(ops:Array Oper)(o:Oper)(O:Ac)(r:Option (AV×Ac)):Option (AV×Ac) :=
 match dr,o.op with
 |true,.buildSlice ..=>r.bind (Fl (ED E ops o) O)
 |true,.convert ..=>r.bind (Fl (ED E ops o) O)
 |_,_=>r
theorem Af8{ops:Array Oper}{o:Oper}{O:Ac}{r:Option (AV×Ac)}:AfD E dr ops o O r=r.bind (Fl (dr&&ED E ops o) O):=by
 have e:∀O,Fl false O=some:=fun O=>by funext r;simp[Fl]
 cases dr with
 |false=>
  have:AfD E false ops o O r=r:=by unfold AfD;split<;>first|rfl|(rename_i h _;cases h)
  rw[this,Bool.false_and,e,Ba]
 | true=>
  rw[Bool.true_and];cases hf:ED E ops o with
  |false=>
   unfold AfD;split
   ·rw[hf]
   ·rw[hf]
   rw[e,Ba]
  |true=>
   rcases Dn hf with⟨t,n,l,h⟩|⟨s,d,x,h,_⟩
   ·unfold AfD;simp only[h,hf]
   unfold AfD;simp only[h,hf]
def goO(E:Env)(orc:Orc)(dr:Bool)(n:Nat)(ops:Array Oper)(o:Oper)(s:Fr×Ac)(wt:Option Bool):Option (Fr×Ac) :=
 match wt with
 |some true=>AmD o.dst (Js dr n o.op s).1 (AfD E dr ops o (Js dr n o.op s).2 (opL E orc dr (evL n (Js dr n o.op s).1) (Js dr n o.op s).2 o.op))
 |some false=>some (put o.dst (.tup []) s.1,s.2)
 |none=>none
def PT(E:Env)(orc:Option Tmp->Orc)(dr:Bool)(n:Nat)(ops:Array Oper)(o:Oper):Option (Fr×Ac)->Option (Fr×Ac)
 |none=>none
 |some s=>goO E (orc o.dst) dr n ops o s (Qi ops n s.1 o)
def Mt(E:Env)(orc:Option Tmp->Orc)(dr:Bool)(n:Nat)(ops:Array Oper):List Oper->Option (Fr×Ac)->Option (Fr×Ac)
 |[],s=>s
 |o::l,s=>Mt E orc dr n ops l (PT E orc dr n ops o s)
def Aip(ts:List Nat):Option (Fr×Ac)->Option (Fr×Ac)
 |none=>none
 |some s=>some (keep ts s.1,s.2)
theorem AdR{orc:Option Tmp->Orc}{ops:Array Oper}{o:Oper}{s:Fr×Ac}:PT E orc dr n ops o (some s)=Qv E orc dr n ops o s:=by
 unfold Qv;show goO E (orc o.dst) dr n ops o s (Qi ops n s.1 o)=_;unfold goO;split
 ·rename_i h;simp only[h,Af8];unfold AmD;cases(opL E (orc o.dst) dr (evL n (Js dr n o.op s).1) (Js dr n o.op s).2 o.op).bind (Fl (dr&&ED E ops o) (Js dr n o.op s).2)<;>rfl
 ·rename_i h;simp only[h]
 rename_i h;simp only[h]
theorem Ls{orc:Option Tmp->Orc}{dr:Bool}{n:Nat}{ops:Array Oper}:∀l:List Oper,Mt E orc dr n ops l none=none
 |[]=>rfl
 |_::l=>Ls l
theorem Kj{orc:Option Tmp->Orc}{dr:Bool}{n:Nat}{ops:Array Oper}:∀(l:List Oper) (s:Fr×Ac),Mt E orc dr n ops l (some s)=Cc E orc dr n ops l s
 |[],_=>rfl
 |o::l,s=>by
  show Mt E orc dr n ops l (PT E orc dr n ops o (some s))=(Qv E orc dr n ops o s).bind _;rw[AdR];cases Qv E orc dr n ops o s with
  |none=>exact Ls l
  |some s'=>exact Kj l s'
theorem AhG{orc:Option Tmp->Orc}{l:List Oper}{ts:List Nat}{s:Fr×Ac}:Hq E orc dr n l ts s=Aip ts (Mt E orc dr n l.toArray l (some s)):=by
 rw[Kj];unfold Hq Aip;cases Cc E orc dr n l.toArray l s<;>rfl
attribute [go_sem] AhG Mt PT goO AmD Aip AfD Fl ED AgZ Aaw PN Abe Eg I9 List.any_cons List.any_nil Bool.or_false Bool.or_true Bool.false_or Bool.true_or Nat.reduceBEq
theorem Aae(t:Tmp):PF (.tmp t)=false:=rfl
theorem Abg(k:IntKind)(n:Int):PF (.const (.int k n))=false:=rfl
theorem AbM(s:ByteArray):PF (.const (.string s))=false:=rfl
theorem YI(b:Bool):PF (.const (.bool b))=false:=rfl
theorem AbF:PF (.const .nilIface)=true:=rfl
theorem Al7(x y:Option AV):goB true x y=x:=rfl
theorem Amh(x y:Option AV):goB false x y=y:=rfl
theorem UF(id:Nat):Hk id (.val (.pointer none))=.nref id:=rfl
theorem Yn(id:Nat)(f:Bool)(l:List (List AV)):Hk id (.sl f l)=.sl f l:=rfl
attribute [go_sem] UF Yn
attribute [go_sem] Aae Abg AbM YI AbF Al7 Amh eqB
attribute [go_sem] look put keep evL Qi QK opL MU Ab9 WW fzL YO Af0 VY UK Vt UU WB W0 Yt Wk Wv V1 VF VM V9 VZ XU XS XX AbS Y3 XR YF Y2 Y0 UN UE Vq WC P5 SM UW U2 QQ Wa UJ Wm Wt Vk Vy Vh Aha AkL Agl Ahl Adk Aib JJ AcT PB Ny Ai5 Aa0 Ad5 AoL AiW Aiv Afx Ae8 AnP An7 L_ok L_eq_nil L_closed L_bytes ovl_L closed_i64 closed_u8 closed_u32 closed_u64 closed_bool closed_str closed_sl cells_i64 cells_u8 cells_u32 cells_u64 cells_bool cells_str cells_sl cells_bs cells_ref cells_tref cells_nref cells_mref cells_agg fz_i64 fz_u8 fz_u32 fz_u64 fz_bool fz_str fz_sl fz_fn0 fz_bs fz_agg fzCells fzC_i64 fzC_u8 fzC_u32 fzC_u64 fzC_bool fzC_str fzC_sl fzC_bs fzR_tup fzR_i64 fzR_u8 fzR_u32 fzR_u64 fzR_bool fzR_str fzR_sl fzR_bs fzR_agg loadA storeA splice partA TD.isAgg GT GY Xz AP T7 X1 SQ UL C3 Nj AiG Gp Es D0 Hf UC Ajy AgY AbP SF Qp Abk AgU AdU AaJ Abp X7 Qr ownT cU8 cU32 cU64 IA LF Bc cSl Am1 Aor Amq AoI
end Go.Rv
