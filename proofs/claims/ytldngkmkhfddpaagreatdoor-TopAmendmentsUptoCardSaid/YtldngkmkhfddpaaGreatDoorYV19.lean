/-
  Part 19.
-/
import Derived.Test.YtldngkmkhfddpaaGreatDoorYV18
namespace Go.Rv
set_option linter.unusedVariables false
set_option linter.unusedSimpArgs false
variable{n:Nat}{z:List AV}{de:TD}{dr:Bool}
variable {E:Env}{O:Ad}
def L{α:Type}(c:α->List AV)(l:List α):List (List AV):=l.map c
def cU8(x:UInt8):List AV:=[u8 x]
def cU32(x:UInt32):List AV:=[u32 x]
def cU64(x:UInt64):List AV:=[u64 x]
def IF(x:Int):List AV:=[i64 x]
def Mc(x:Bool):List AV:=[.bool x]
def AU(x:List UInt8):List AV:=[.str x]
def cSl{α:Type}(c:α->List AV)(x:List α):List AV:=[.sl false (L c x)]
def nth{α:Type}[Inhabited α](l:List α)(i:Nat):α:=l.getD i default
section
variable {α:Type}{c:α->List AV}{l m:List α}
theorem Aec:(L c l).length=l.length:=by simp[L]
theorem AnO:L c []=[]:=rfl
theorem Aji{x:α}:L c (x::l)=c x::L c l:=rfl
theorem AkM:L c (l++m)=L c l++L c m:=by simp[L]
theorem Afi:(L c l).take n=L c (l.take n):=by simp[L,List.map_take]
theorem Ae8:(L c l).drop n=L c (l.drop n):=by simp[L,List.map_drop]
theorem An3{x:α}:L c (List.replicate n x)=List.replicate n (c x):=by simp[L]
theorem An5{i:Nat}{x:α}:L c (l.set i x)=(L c l).set i (c x):=by simp[L,ArX]
theorem AjL[Inhabited α]{i:Nat}(h:i<l.length):(L c l)[i]?=some (c (nth l i)):=by simp[L,nth,h]
theorem L_ok{k:Nat}(h:∀y,(c y).length=k):(∀cs∈L c l,cs.length=k)=True:=by
 refine eq_true ?_;intro cs hcs;simp only[L,Aqt]at hcs;obtain⟨y,_,rfl⟩:=hcs;exact h y
theorem L_eq_nil:(L c l=[])=(l=[]):=by simp[L]
theorem L_closed(h:∀y,(c y).all AV.closed=true):DJ (L c l)=true:=by
 simp only[DJ,L,List.all_map,Api];intro y _;exact h y
end
theorem L_bytes(l:List UInt8):(l.map fun b=>[AV.int .u8 b.toNat])=L cU8 l:=rfl
def ovl{α:Type}(l m:List α)(off:Nat):List α:=l.take off++m++l.drop (off+m.length)
theorem ovl_L{α:Type}{c:α->List AV}(l m:List α)(off:Nat):H7 (L c l) (L c m) off=L c (ovl l m off):=by
 simp[H7,ovl,AkM,Afi,Ae8,Aec]
theorem Le{α:Type}[Inhabited α](c:α->List AV){t e a b:Nat}(ht:E.tab t=some ⟨.slice e,a,b,z⟩)(he:E.tab e=some de)(hk:∀y,(c y).length=de.size)(f:Bool)(l:List α)(x:AV) :Ao E O t (.sl f (L c l)) x=match idx x l.length with
   |some i=>some (.rp (c (nth l i)))
   |none=>none:=by
 unfold Ao;simp only[ht,he,Aec];cases hi:idx x l.length with
 |none=>rfl
 | some i=>
  have hl:i<l.length:=by
   unfold idx at hi;split at hi
   ·split at hi
    ·rename_i h;cases hi;exact h.2
    cases hi
   cases hi
  simp only[AjL hl,hk,ApL]
theorem PG{t e a b:Nat}(ht:E.tab t=some ⟨.slice e,a,b,z⟩)(he:E.tab e=some de)(hk:0<de.size)(f:Bool)(id tot off len:Nat)(x:AV) :Ao E O t (.bs f id tot off len) x=match O[id]?,idx x len with
  |some (.buf k els _),some i=>if els.length=tot/\k=de.size then some (.eref id tot (off+i) 0)else none
  |_,_=>none:=by
 unfold Ao;simp only[ht,he];split
 ·rename_i k els ro i h1 h2;simp only[h1,h2];by_cases hc:els.length=tot/\k=de.size
  ·rw[Ao4 hc,Ao4 ⟨hc.1,hc.2,by omega⟩]
  rw[Ao6 hc,Ao6 (fun h=>hc ⟨h.1,h.2.1⟩)]
 rename_i h;split
 ·rename_i k els ro i h1 h2;exact(h k els ro i h1 h2).elim
 rfl
theorem VG{t e n a b:Nat}(ht:E.tab t=some ⟨.array n e,a,b,z⟩)(he:E.tab e=some de)(id off:Nat)(x:AV) :Ao E O t (.ref id off) x=match idx x n with
  |some i=>some (.ref id (off+i*de.size))
  |none=>none:=by
 unfold Ao;simp only[ht,he];cases idx x n<;>rfl
def NH(O:Ad)(id tot off len bytes size e T:Nat)(l:List UInt8)(new:List (List AV)):Option (AV×Ad) :=
 match Ju new with
 |some nl=>if off=0/\len=tot/\size=1/\FY (len+new.length) bytes/\e=T/\l.length=tot then some (.bs false id (tot+new.length) 0 (tot+new.length),O.set id (.tb T (l++nl)))else none
 |none=>none
theorem Gc{t u e a b:Nat}{du:TD}(ht:E.tab t=some ⟨.slice e,a,b,z⟩)(he:E.tab e=some de)(hk:0<de.size)(hu:E.tab u=some du)(hu2:(∃e',du.desc=.slice e')\/du.desc=.string)(s x:AV)(ts:List TypeId) :Ba E O .append (t::u::ts) [s,x]=match GS O x with
   | some new=>if GU x de.size=true then none else if ∀cs∈new,cs.length=de.size then(match s with
     | .sl full els=>
      if els=[]/\full=true then
       if FY new.length de.bytes then some (.bs false O.length new.length 0 new.length,O++[.buf de.size new false])else none
      else if new=[]then some (.sl full els,O)
      else if full=true/\(∀cs∈els,cs.length=de.size)/\FY (els.length+new.length) de.bytes
      then some (.bs false O.length (els.length+new.length) 0 (els.length+new.length),O++[.buf de.size (els++new) false])else none
     | .bs full id tot off len=>match O[id]? with
      | some (.buf k els ro)=>
       if els.length=tot/\k=de.size/\FY (len+new.length) de.bytes then
        if off=0/\len=tot then some (.bs false id (tot+new.length) 0 (tot+new.length),O.set id (.buf k (els++new) ro))
        else if new=[]then some (.bs full id tot off len,O)
        else if full then some (.bs false O.length (len+new.length) 0 (len+new.length),O++[.buf k ((els.drop off).take len++new) false])
        else none
       else none
      |some (.tb T l)=>NH O id tot off len de.bytes de.size e T l new
      |_=>none
     |_=>none)
    else none
   |none=>none:=by
 have hu3:Ba E O .append (t::u::ts) [s,x]=LH E O t s x:=by
  unfold Ba;simp only[hu];rcases hu2 with⟨e',h⟩|h<;>simp only[h]
 rw[hu3];unfold LH;simp only[ht,he];cases GS O x with
 |none=>rfl
 | some new=>
  simp only;split
  ·rfl
  split
  case isFalse=>rfl
  cases s with
  | sl full els=>
   simp only;split
   ·by_cases h:FY new.length de.bytes
    ·rw[Ao4 h,Ao4 ⟨hk,h.1,h.2⟩]
    rw[Ao6 h,Ao6 (fun hh=>h hh.2)]
   split
   ·rfl
   by_cases h:full=true/\(∀cs∈els,cs.length=de.size)/\FY (els.length+new.length) de.bytes
   ·rw[Ao4 h,Ao4 ⟨h.1,h.2.1,hk,h.2.2.1,h.2.2.2⟩]
   rw[Ao6 h,Ao6 (fun hh=>h ⟨hh.1,hh.2.1,hh.2.2.2⟩)]
  | bs full id tot off len=>
   simp only;split
   ·rename_i k els ro hb;simp only[hb];by_cases h:els.length=tot/\k=de.size/\FY (len+new.length) de.bytes
    ·rw[Ao4 h,Ao4 ⟨h.1,h.2.1,by have:=h.2.1;omega,h.2.2.1,h.2.2.2⟩]
    rw[Ao6 h,Ao6 (fun hh=>h ⟨hh.1,hh.2.1,hh.2.2.2⟩)]
   ·rename_i T l hb;simp only[hb,NH];cases Ju new with
    |none=>rfl
    |some nl=>
     simp only;by_cases h:off=0/\len=tot/\de.size=1/\FY (len+new.length) de.bytes/\e=T/\l.length=tot
     ·rw[Ao4 h,Ao4 ⟨h.1,h.2.1,h.2.2.1,h.2.2.2.1.1,h.2.2.2.1.2,h.2.2.2.2⟩]
     rw[Ao6 h,Ao6 (fun hh=>h ⟨hh.1,hh.2.1,hh.2.2.1,⟨hh.2.2.2.1,hh.2.2.2.2.1⟩,hh.2.2.2.2.2⟩)]
   rename_i hno hno2;split
   ·rename_i k els ro hb;exact(hno k els ro hb).elim
   ·rename_i T l hb;exact(hno2 T l hb).elim
   rfl
  |_=>rfl
def Mk(l c:Int)(bytes:Nat):Prop:=0<=l/\l<=c/\c<=maxLen/\c.toNat*bytes<=Hu
instance (l c:Int)(b:Nat):Decidable (Mk l c b):=inferInstanceAs (Decidable (_/\_))
theorem RR{t e a b:Nat}(ht:E.tab t=some ⟨.slice e,a,b,z⟩)(he:E.tab e=some de)(hk:0<de.size)(l c:Int) :E5 E O t (i64 l) (i64 c)=if Mk l c de.bytes then some (.bs (l==c) O.length l.toNat 0 l.toNat,O++[.buf de.size (List.replicate l.toNat (de.zero.map dn)) false])else none:=by
 unfold E5 i64;simp only[ht,he];by_cases h:Mk l c de.bytes
 ·rw[Ao4 h,Ao4 ⟨h.1,h.2.1,h.2.2.1,h.2.2.2,hk⟩]
 rw[Ao6 h,Ao6 (fun hh=>h ⟨hh.1,hh.2.1,hh.2.2.1,hh.2.2.2.1⟩)]
theorem Aja(x:Int):dn (i64 x)=i64 x:=rfl
theorem AmK(x:UInt8):dn (u8 x)=u8 x:=rfl
theorem AiX(x:UInt32):dn (u32 x)=u32 x:=rfl
theorem Ak6(x:UInt64):dn (u64 x)=u64 x:=rfl
theorem AfX(x:Bool):dn (.bool x)=.bool x:=rfl
theorem Aj2(x:List UInt8):dn (.str x)=.str x:=rfl
theorem Anj(f:Bool)(l:List (List AV)):dn (.sl f l)=.sl false l:=rfl
theorem AnJ(f:FuncId)(l:List AV):dn (.fn f l)=.fn f l:=rfl
theorem Ajv(v:Value):dn (.val v)=.val v:=rfl
theorem AfD(i:Nat)(t:TypeId):dn (.tref i t)=.tref i t:=rfl
theorem AkU(i o:Nat):dn (.ref i o)=.ref i o:=rfl
theorem Ame(f:Bool)(i t o l:Nat):dn (.bs f i t o l)=.bs f i t o l:=rfl
theorem AcN(t:TypeId)(x:AV):dn (.iface t x)=.iface t x:=rfl
theorem Ajq{α:Type}(k:α->AV)(h:∀x,dn (k x)=k x)(l:List α):(l.map k).map dn=l.map k:=by simp[ArM,h]
attribute [go_sem] Aja AmK AiX Ak6 AfX Aj2 Anj AnJ Ajv AkU AfD Ame AcN List.map_cons List.map_nil
def FitS(n:Nat):Prop:=n<=9223372036854775807
instance (n:Nat):Decidable (FitS n):=inferInstanceAs (Decidable (_<=_))
section
variable {t:TypeId}(a b:List UInt8)
theorem UV:BD E .add t (.str a) (.str b)=if FitS (a.length+b.length)then some (.str (a++b))else none:=rfl
theorem VS:BD E .eql t (.str a) (.str b)=some (.bool (a==b)):=rfl
theorem W0:BD E .neq t (.str a) (.str b)=some (.bool (!(a==b))):=rfl
theorem Wb:BD E .lss t (.str a) (.str b)=some (.bool (Op.bytesLess a b)):=rfl
theorem Ws:BD E .leq t (.str a) (.str b)=some (.bool (Op.bytesLess a b||a==b)):=rfl
theorem Vy:BD E .gtr t (.str a) (.str b)=some (.bool (!(Op.bytesLess a b||a==b))):=rfl
theorem Vb:BD E .geq t (.str a) (.str b)=some (.bool (!Op.bytesLess a b)):=rfl
end
theorem X7{t:TypeId}{a b:Nat}(ht:E.tab t=some ⟨.string,a,b,z⟩)(s:List UInt8)(x:AV):JH E t (.str s) x=match idx x s.length with
  |some i=>some (u8 (nth s i))
  |none=>none:=by
 unfold JH;simp only[ht];cases hi:idx x s.length with
 |none=>rfl
 | some i=>
  have hl:i<s.length:=by
   unfold idx at hi;split at hi
   ·split at hi
    ·rename_i h;cases hi;exact h.2
    cases hi
   cases hi
  simp only[Ao2 hl,nth,Apm];rfl
theorem YO{α:Type}(l:List α):l.toArray.toList=l:=rfl
theorem AfO{α:Type}(l:List α)(i:Nat):l.toArray[i]?=l[i]?:=by simp
theorem AdO(x:Int):AV.int .i64 x=i64 x:=rfl
theorem closed_i64(x:Int):(i64 x).closed=true:=by simp[i64,AV.closed]
theorem closed_u8(x:UInt8):(u8 x).closed=true:=by simp[u8,AV.closed]
theorem closed_u32(x:UInt32):(u32 x).closed=true:=by simp[u32,AV.closed]
theorem closed_u64(x:UInt64):(u64 x).closed=true:=by simp[u64,AV.closed]
theorem closed_bool(x:Bool):(AV.bool x).closed=true:=by simp[AV.closed]
theorem closed_str(x:List UInt8):(AV.str x).closed=true:=by simp[AV.closed]
theorem closed_sl(f:Bool)(x:List (List AV)):(AV.sl f x).closed=true:=by simp[AV.closed]
theorem cells_i64(x:Int):(i64 x).cells?=some [i64 x]:=rfl
theorem cells_u8(x:UInt8):(u8 x).cells?=some [u8 x]:=rfl
theorem cells_u32(x:UInt32):(u32 x).cells?=some [u32 x]:=rfl
theorem cells_u64(x:UInt64):(u64 x).cells?=some [u64 x]:=rfl
theorem cells_bool(x:Bool):(AV.bool x).cells?=some [.bool x]:=rfl
theorem cells_str(x:List UInt8):(AV.str x).cells?=some [.str x]:=rfl
theorem cells_sl(f:Bool)(x:List (List AV)):(AV.sl f x).cells?=some [.sl f x]:=rfl
theorem cells_bs(f:Bool)(a b c d:Nat):(AV.bs f a b c d).cells?=some [.bs f a b c d]:=rfl
theorem cells_nref(a:Nat):(AV.nref a).cells?=some [.nref a]:=rfl
theorem cells_mref(a:Nat):(AV.mref a).cells?=some [.mref a]:=rfl
theorem cells_tref(a b:Nat):(AV.tref a b).cells?=some [.tref a b]:=rfl
theorem cells_ref(a b:Nat):(AV.ref a b).cells?=some [.ref a b]:=rfl
theorem cells_agg(x:List AV):(AV.agg x).cells?=some x:=rfl
theorem fz_i64(x:Int):fz O (i64 x)=some (i64 x):=rfl
theorem fz_u8(x:UInt8):fz O (u8 x)=some (u8 x):=rfl
theorem fz_u32(x:UInt32):fz O (u32 x)=some (u32 x):=rfl
theorem fz_u64(x:UInt64):fz O (u64 x)=some (u64 x):=rfl
theorem fz_bool(x:Bool):fz O (.bool x)=some (.bool x):=rfl
theorem fz_str(x:List UInt8):fz O (.str x)=some (.str x):=rfl
theorem fz_sl(f:Bool)(x:List (List AV)):fz O (.sl f x)=some (.sl false x):=rfl
theorem fz_fn0(f:FuncId):fz O (.fn f [])=some (.fn f []):=rfl
theorem fz_bs(f:Bool)(id tot off len:Nat):fz O (.bs f id tot off len)=match O[id]? with
 |some (.buf k els ro)=>if els.length=tot/\DJ els=true then some (.sl false ((els.drop off).take len))else none
 |_=>none:=rfl
def fzCells(O:Ad):List AV->Option (List AV)
 |[]=>some []
 |x::l=>(Bu O x).bind fun y=>(fzCells O l).bind fun ys=>some (y::ys)
theorem QP(O:Ad):∀l:List AV,l.mapM (Bu O)=fzCells O l
 |[]=>rfl
 |x::l=>by rw[Aqu,QP O l];rfl
theorem fz_agg(cs:List AV):fz O (.agg cs)=(fzCells O cs).bind fun ys=>some (.agg ys):=by
 show(cs.mapM (Bu O)).map AV.agg=_;rw[QP];cases fzCells O cs<;>rfl
theorem fzC_i64(x:Int):Bu O (i64 x)=some (i64 x):=rfl
theorem fzC_u8(x:UInt8):Bu O (u8 x)=some (u8 x):=rfl
theorem fzC_u32(x:UInt32):Bu O (u32 x)=some (u32 x):=rfl
theorem fzC_u64(x:UInt64):Bu O (u64 x)=some (u64 x):=rfl
theorem fzC_bool(x:Bool):Bu O (.bool x)=some (.bool x):=rfl
theorem fzC_str(x:List UInt8):Bu O (.str x)=some (.str x):=rfl
theorem fzC_sl(f:Bool)(x:List (List AV)):Bu O (.sl f x)=some (.sl false x):=rfl
theorem fzC_bs(f:Bool)(id tot off len:Nat):Bu O (.bs f id tot off len)=match O[id]? with
 |some (.buf k els ro)=>if els.length=tot/\DJ els=true then some (.sl false ((els.drop off).take len))else none
 |_=>none:=rfl
theorem fzR_tup(xs:List AV):fzR O (.tup xs)=(fzL O xs).bind fun ys=>some (.tup ys):=by
 show(xs.mapM (fz O)).map AV.tup=_;rw[Xz];cases fzL O xs<;>rfl
theorem fzR_i64(x:Int):fzR O (i64 x)=some (i64 x):=rfl
theorem fzR_u8(x:UInt8):fzR O (u8 x)=some (u8 x):=rfl
theorem fzR_u32(x:UInt32):fzR O (u32 x)=some (u32 x):=rfl
theorem fzR_u64(x:UInt64):fzR O (u64 x)=some (u64 x):=rfl
theorem fzR_bool(x:Bool):fzR O (.bool x)=some (.bool x):=rfl
theorem fzR_str(x:List UInt8):fzR O (.str x)=some (.str x):=rfl
theorem fzR_sl(f:Bool)(x:List (List AV)):fzR O (.sl f x)=fz O (.sl f x):=rfl
theorem fzR_bs(f:Bool)(a b c d:Nat):fzR O (.bs f a b c d)=fz O (.bs f a b c d):=rfl
theorem fzR_agg(x:List AV):fzR O (.agg x)=fz O (.agg x):=rfl
theorem Ajb(b:Bool):Vv .not (.bool b)=some (.bool !b):=rfl
theorem Ale{t:TypeId}{ts:List TypeId}(x:AV):Ba E O .len (t::ts) [x]=(W4 E O t x).map fun(n:Nat)=>(AV.int .i64 (n:Int),O):=rfl
theorem Ahd{t:TypeId}{ts:List TypeId}(x y:AV):Ba E O .copy (t::ts) [x,y]=ZI E O t x y:=rfl
theorem S3:DJ []=true:=rfl
theorem Qp{x:List AV}{l:List (List AV)}:DJ (x::l)=(x.all AV.closed&&DJ l):=rfl
def Anz(d:Option Tmp)(fr:Fr):Option (AV×Ad)->Option (Fr×Ad)
 |none=>none
 |some r=>some (put d r.1 fr,r.2)
def Afv(E:Env)(dr:Bool)(ops:Array Oper)(o:Oper)(O:Ad)(r:Option (AV×Ad)):Option (AV×Ad) :=
 match dr,o.op with
 |true,.buildSlice ..=>r.bind (Fu (ES E ops o) O)
 |true,.convert ..=>r.bind (Fu (ES E ops o) O)
 |_,_=>r
theorem Ahc{ops:Array Oper}{o:Oper}{O:Ad}{r:Option (AV×Ad)}:Afv E dr ops o O r=r.bind (Fu (dr&&ES E ops o) O):=by
 have e:∀O,Fu false O=some:=fun O=>by funext r;simp[Fu]
 cases dr with
 |false=>
  have:Afv E false ops o O r=r:=by unfold Afv;split<;>first|rfl|(rename_i h _;cases h)
  rw[this,Bool.false_and,e,Bh]
 | true=>
  rw[Bool.true_and];cases hf:ES E ops o with
  |false=>
   unfold Afv;split
   ·rw[hf]
   ·rw[hf]
   rw[e,Bh]
  |true=>
   rcases Dq hf with⟨t,n,l,h⟩|⟨s,d,x,h,_⟩
   ·unfold Afv;simp only[h,hf]
   unfold Afv;simp only[h,hf]
def goO(E:Env)(orc:Orc)(dr:Bool)(n:Nat)(ops:Array Oper)(o:Oper)(s:Fr×Ad)(wt:Option Bool):Option (Fr×Ad) :=
 match wt with
 |some true=>Anz o.dst (Js dr n o.op s).1 (Afv E dr ops o (Js dr n o.op s).2 (opL E orc dr (evL n (Js dr n o.op s).1) (Js dr n o.op s).2 o.op))
 |some false=>some (put o.dst (.tup []) s.1,s.2)
 |none=>none
def PS(E:Env)(orc:Option Tmp->Orc)(dr:Bool)(n:Nat)(ops:Array Oper)(o:Oper):Option (Fr×Ad)->Option (Fr×Ad)
 |none=>none
 |some s=>goO E (orc o.dst) dr n ops o s (Qg ops n s.1 o)
def Mg(E:Env)(orc:Option Tmp->Orc)(dr:Bool)(n:Nat)(ops:Array Oper):List Oper->Option (Fr×Ad)->Option (Fr×Ad)
 |[],s=>s
 |o::l,s=>Mg E orc dr n ops l (PS E orc dr n ops o s)
def Ala(ts:List Nat):Option (Fr×Ad)->Option (Fr×Ad)
 |none=>none
 |some s=>some (keep ts s.1,s.2)
theorem AcV{orc:Option Tmp->Orc}{ops:Array Oper}{o:Oper}{s:Fr×Ad}:PS E orc dr n ops o (some s)=Qi E orc dr n ops o s:=by
 unfold Qi;show goO E (orc o.dst) dr n ops o s (Qg ops n s.1 o)=_;unfold goO;split
 ·rename_i h;simp only[h,Ahc];unfold Anz;cases(opL E (orc o.dst) dr (evL n (Js dr n o.op s).1) (Js dr n o.op s).2 o.op).bind (Fu (dr&&ES E ops o) (Js dr n o.op s).2)<;>rfl
 ·rename_i h;simp only[h]
 rename_i h;simp only[h]
theorem LC{orc:Option Tmp->Orc}{dr:Bool}{n:Nat}{ops:Array Oper}:∀l:List Oper,Mg E orc dr n ops l none=none
 |[]=>rfl
 |_::l=>LC l
theorem Ku{orc:Option Tmp->Orc}{dr:Bool}{n:Nat}{ops:Array Oper}:∀(l:List Oper) (s:Fr×Ad),Mg E orc dr n ops l (some s)=Ci E orc dr n ops l s
 |[],_=>rfl
 |o::l,s=>by
  show Mg E orc dr n ops l (PS E orc dr n ops o (some s))=(Qi E orc dr n ops o s).bind _;rw[AcV];cases Qi E orc dr n ops o s with
  |none=>exact LC l
  |some s'=>exact Ku l s'
theorem Ahf{orc:Option Tmp->Orc}{l:List Oper}{ts:List Nat}{s:Fr×Ad}:HT E orc dr n l ts s=Ala ts (Mg E orc dr n l.toArray l (some s)):=by
 rw[Ku];unfold HT Ala;cases Ci E orc dr n l.toArray l s<;>rfl
attribute [go_sem] Ahf Mg PS goO Anz Ala Afv Fu ES Ahv Aco Px AbU Ef I4 List.any_cons List.any_nil Bool.or_false Bool.or_true Bool.false_or Bool.true_or Nat.reduceBEq
theorem Aai(t:Tmp):O7 (.tmp t)=false:=rfl
theorem Aas(k:IntKind)(n:Int):O7 (.const (.int k n))=false:=rfl
theorem AcD(s:ByteArray):O7 (.const (.string s))=false:=rfl
theorem XE(b:Bool):O7 (.const (.bool b))=false:=rfl
theorem ZM:O7 (.const .nilIface)=true:=rfl
theorem AmA(x y:Option AV):goB true x y=x:=rfl
theorem Amb(x y:Option AV):goB false x y=y:=rfl
theorem V7(id:Nat):Ho id (.val (.pointer none))=.nref id:=rfl
theorem X8(id:Nat)(f:Bool)(l:List (List AV)):Ho id (.sl f l)=.sl f l:=rfl
attribute [go_sem] V7 X8
attribute [go_sem] Aai Aas AcD XE ZM AmA Amb eqB
attribute [go_sem] look put keep evL Qg Qy opL Nc Z9 Xx fzL YO AfO VA UH UN Wv VC VY Yq V3 Wc Wf Vt W2 Wu VW XW YX Yr Abq Yf YR Zx YK Y1 VD Ve Vs V1 Pg TI Vq Ua QL UV VS W0 Wb Ws Vy Vb AgC Ai5 AhF Ahh AeD Ah4 JW AdO OV Ny AjL AaH Aec AnO Aji AkM Afi Ae8 An3 An5 L_ok L_eq_nil L_closed L_bytes ovl_L closed_i64 closed_u8 closed_u32 closed_u64 closed_bool closed_str closed_sl cells_i64 cells_u8 cells_u32 cells_u64 cells_bool cells_str cells_sl cells_bs cells_ref cells_tref cells_nref cells_mref cells_agg fz_i64 fz_u8 fz_u32 fz_u64 fz_bool fz_str fz_sl fz_fn0 fz_bs fz_agg fzCells fzC_i64 fzC_u8 fzC_u32 fzC_u64 fzC_bool fzC_str fzC_sl fzC_bs fzR_tup fzR_i64 fzR_u8 fzR_u32 fzR_u64 fzR_bool fzR_str fzR_sl fzR_bs fzR_agg loadA storeA splice partA TD.isAgg GS GU W4 AX T7 Xi SQ U9 C6 MF Ajb Gi E0 D4 HO V0 Ale Ahd ZI S3 Qp Acq AhT Adn Aac Acx WQ Qd ownT cU8 cU32 cU64 IF Mc AU cSl AmF Amj AmO Aoj
end Go.Rv
