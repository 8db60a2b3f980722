/-
  Part 20.
-/
import Derived.Test.YtioapcamanmoiaaGreatDoorYG19
namespace Go.Rv
set_option linter.unusedVariables false
set_option linter.unusedSimpArgs false
variable{n:Nat}{z:List AV}{de:TD}{dr:Bool}
variable {E:Env}{σ:Am}
def L{α:Type}(c:α→List AV)(l:List α):List (List AV):=l.map c
def cU8(x:UInt8):List AV:=[u8 x]
def cU32(x:UInt32):List AV:=[u32 x]
def R0(x:UInt64):List AV:=[u64 x]
def GC(x:Int):List AV:=[i64 x]
def O7(x:Bool):List AV:=[.bool x]
def Akz(x:List UInt8):List AV:=[.str x]
def cSl{α:Type}(c:α→List AV)(x:List α):List AV:=[.sl false (L c x)]
def nth{α:Type}[Inhabited α](l:List α)(i:Nat):α:=l.getD i default
section
variable {α:Type}{c:α→List AV}{l m:List α}
theorem AbM:(L c l).length=l.length:=by simp[L]
theorem Anq:L c []=[]:=rfl
theorem Ak8{x:α}:L c (x::l)=c x::L c l:=rfl
theorem Ai5:L c (l++m)=L c l++L c m:=by simp[L]
theorem Aeh:(L c l).take n=L c (l.take n):=by simp[L,List.map_take]
theorem AdX:(L c l).drop n=L c (l.drop n):=by simp[L,List.map_drop]
theorem AnK{x:α}:L c (List.replicate n x)=List.replicate n (c x):=by simp[L]
theorem Am9{i:Nat}{x:α}:L c (l.set i x)=(L c l).set i (c x):=by simp[L,Asw]
theorem Ak5[Inhabited α]{i:Nat}(h:i<l.length):(L c l)[i]?=some (c (nth l i)):=by simp[L,nth,h]
theorem L_ok{k:Nat}(h:∀y,(c y).length=k):(∀cs∈L c l,cs.length=k)=True:=by
 refine eq_true ?_;intro cs hcs;simp only[L,Ara]at hcs;obtain⟨y,_,rfl⟩:=hcs;exact h y
theorem L_eq_nil:(L c l=[])=(l=[]):=by simp[L]
theorem L_closed(h:∀y,(c y).all AV.closed=true):BK (L c l)=true:=by
 simp only[BK,L,List.all_map,Ap8];intro y _;exact h y
end
theorem L_bytes(l:List UInt8):(l.map fun b=>[AV.int .u8 b.toNat])=L cU8 l:=rfl
def ovl{α:Type}(l m:List α)(off:Nat):List α:=l.take off++m++l.drop (off+m.length)
theorem ovl_L{α:Type}{c:α→List AV}(l m:List α)(off:Nat):G1 (L c l) (L c m) off=L c (ovl l m off):=by
 simp[G1,ovl,Ai5,Aeh,AdX,AbM]
theorem Fo{α:Type}[Inhabited α](c:α→List AV){t e a b:Nat}(ht:E.tab t=some ⟨.slice e,a,b,z⟩)(he:E.tab e=some de)(hk:∀y,(c y).length=de.size)(f:Bool)(l:List α)(x:AV) :Av E σ t (.sl f (L c l)) x=match idx x l.length with
      |some i=>some (.rp (c (nth l i)))
      |none=>none:=by
  unfold Av;simp only[ht,he,AbM];cases hi:idx x l.length with
  |none=>rfl
  | some i=>
    have hl:i<l.length:=by
      unfold idx at hi;split at hi
      · split at hi
        · rename_i h;cases hi;exact h.2
        · cases hi
      · cases hi
    simp only[Ak5 hl,hk,Arq]
theorem WN{t e a b:Nat}(ht:E.tab t=some ⟨.slice e,a,b,z⟩)(he:E.tab e=some de)(hk:0<de.size)(f:Bool)(id tot off len:Nat)(x:AV) :Av E σ t (.bs f id tot off len) x=match σ[id]?,idx x len with
  |some (.buf k els _),some i=>if els.length=tot∧k=de.size then some (.eref id tot (off+i) 0)else none
  |_,_=>none:=by
 unfold Av;simp only[ht,he];split
 ·rename_i k els ro i h1 h2;simp only[h1,h2];by_cases hc:els.length=tot∧k=de.size
  ·rw[ApU hc,ApU ⟨hc.1,hc.2,by omega⟩]
  ·rw[ApV hc,ApV (fun h=>hc ⟨h.1,h.2.1⟩)]
 ·rename_i h;split
  ·rename_i k els ro i h1 h2;exact(h k els ro i h1 h2).elim
  ·rfl
theorem KJ{t e n a b:Nat}(ht:E.tab t=some ⟨.array n e,a,b,z⟩)(he:E.tab e=some de)(id off:Nat)(x:AV) :Av E σ t (.ref id off) x=match idx x n with
  |some i=>some (.ref id (off+i*de.size))
  |none=>none:=by
 unfold Av;simp only[ht,he];cases idx x n<;>rfl
def P7(σ:Am)(id tot off len bytes size e T:Nat)(l:List UInt8)(new:List (List AV)):Option (AV×Am) :=
 match HH new with
 |some nl=>if off=0∧len=tot∧size=1∧Dt (len+new.length) bytes∧e=T∧l.length=tot then some (.bs false id (tot+new.length) 0 (tot+new.length),σ.set id (.tb T (l++nl)))else none
 |none=>none
theorem Gn{t u e a b:Nat}{du:TD}(ht:E.tab t=some ⟨.slice e,a,b,z⟩)(he:E.tab e=some de)(hk:0<de.size)(hu:E.tab u=some du)(hu2:(∃e',du.desc=.slice e')∨du.desc=.string)(s x:AV)(ts:List TypeId) :Bf E σ .append (t::u::ts) [s,x]=match Gg σ x with
      | some new=>if Gp x de.size=true then none else if ∀cs∈new,cs.length=de.size then(match s with
          | .sl full els=>
            if els=[]∧full=true then
              if Dt new.length de.bytes then some (.bs false σ.length new.length 0 new.length,σ++[.buf de.size new false])else none
            else if new=[]then some (.sl full els,σ)
            else if full=true∧(∀cs∈els,cs.length=de.size)∧Dt (els.length+new.length) de.bytes
            then some (.bs false σ.length (els.length+new.length) 0 (els.length+new.length),σ++[.buf de.size (els++new) false])else none
          | .bs full id tot off len=>match σ[id]? with
            | some (.buf k els ro)=>
              if els.length=tot∧k=de.size∧Dt (len+new.length) de.bytes then
                if off=0∧len=tot then some (.bs false id (tot+new.length) 0 (tot+new.length),σ.set id (.buf k (els++new) ro))
                else if new=[]then some (.bs full id tot off len,σ)
                else if full then some (.bs false σ.length (len+new.length) 0 (len+new.length),σ++[.buf k ((els.drop off).take len++new) false])
                else none
              else none
            |some (.tb T l)=>P7 σ id tot off len de.bytes de.size e T l new
            |_=>none
          |_=>none)
        else none
      |none=>none:=by
  have hu3:Bf E σ .append (t::u::ts) [s,x]=JF E σ t s x:=by
    unfold Bf;simp only[hu];rcases hu2 with⟨e',h⟩|h<;>simp only[h]
  rw[hu3];unfold JF;simp only[ht,he];cases Gg σ x with
  |none=>rfl
  | some new=>
    simp only;split
    · rfl
    split
    case isFalse=>rfl
    cases s with
    | sl full els=>
      simp only;split
      · by_cases h:Dt new.length de.bytes
        · rw[ApU h,ApU ⟨hk,h.1,h.2⟩]
        · rw[ApV h,ApV (fun hh=>h hh.2)]
      · split
        · rfl
        · by_cases h:full=true∧(∀cs∈els,cs.length=de.size)∧Dt (els.length+new.length) de.bytes
          · rw[ApU h,ApU ⟨h.1,h.2.1,hk,h.2.2.1,h.2.2.2⟩]
          · rw[ApV h,ApV (fun hh=>h ⟨hh.1,hh.2.1,hh.2.2.2⟩)]
    | bs full id tot off len=>
      simp only;split
      · rename_i k els ro hb
        simp only[hb];by_cases h:els.length=tot∧k=de.size∧Dt (len+new.length) de.bytes
        · rw[ApU h,ApU ⟨h.1,h.2.1,by have:=h.2.1;omega,h.2.2.1,h.2.2.2⟩]
        · rw[ApV h,ApV (fun hh=>h ⟨hh.1,hh.2.1,hh.2.2.2⟩)]
      · rename_i T l hb
        simp only[hb,P7];cases HH new with
        |none=>rfl
        | some nl=>
          simp only;by_cases h:off=0∧len=tot∧de.size=1∧Dt (len+new.length) de.bytes∧e=T∧l.length=tot
          · rw[ApU h,ApU ⟨h.1,h.2.1,h.2.2.1,h.2.2.2.1.1,h.2.2.2.1.2,h.2.2.2.2⟩]
          · rw[ApV h,ApV (fun hh=>h ⟨hh.1,hh.2.1,hh.2.2.1,⟨hh.2.2.2.1,hh.2.2.2.2.1⟩,hh.2.2.2.2.2⟩)]
      · rename_i hno hno2
        split
        · rename_i k els ro hb;exact(hno k els ro hb).elim
        · rename_i T l hb;exact(hno2 T l hb).elim
        · rfl
    |_=>rfl
def Mk(l c:Int)(bytes:Nat):Prop:=0≤l∧l≤c∧c≤maxLen∧c.toNat*bytes≤GT
instance (l c:Int)(b:Nat):Decidable (Mk l c b):=inferInstanceAs (Decidable (_∧_))
theorem U7{t e a b:Nat}(ht:E.tab t=some ⟨.slice e,a,b,z⟩)(he:E.tab e=some de)(hk:0<de.size)(l c:Int) :Em E σ t (i64 l) (i64 c)=if Mk l c de.bytes then some (.bs (l==c) σ.length l.toNat 0 l.toNat,σ++[.buf de.size (List.replicate l.toNat (de.zero.map dn)) false])else none:=by
 unfold Em i64;simp only[ht,he];by_cases h:Mk l c de.bytes
 ·rw[ApU h,ApU ⟨h.1,h.2.1,h.2.2.1,h.2.2.2,hk⟩]
 ·rw[ApV h,ApV (fun hh=>h ⟨hh.1,hh.2.1,hh.2.2.1,hh.2.2.2.1⟩)]
theorem AiS(x:Int):dn (i64 x)=i64 x:=rfl
theorem AoX(x:UInt8):dn (u8 x)=u8 x:=rfl
theorem Aki(x:UInt32):dn (u32 x)=u32 x:=rfl
theorem Alb(x:UInt64):dn (u64 x)=u64 x:=rfl
theorem Afx(x:Bool):dn (.bool x)=.bool x:=rfl
theorem Ajj(x:List UInt8):dn (.str x)=.str x:=rfl
theorem Amg(f:Bool)(l:List (List AV)):dn (.sl f l)=.sl false l:=rfl
theorem Ans(f:FuncId)(l:List AV):dn (.fn f l)=.fn f l:=rfl
theorem Aj5(v:Value):dn (.val v)=.val v:=rfl
theorem Af3(i:Nat)(t:TypeId):dn (.tref i t)=.tref i t:=rfl
theorem Ai7(i o:Nat):dn (.ref i o)=.ref i o:=rfl
theorem Ape(f:Bool)(i t o l:Nat):dn (.bs f i t o l)=.bs f i t o l:=rfl
theorem AdL(t:TypeId)(x:AV):dn (.iface t x)=.iface t x:=rfl
theorem Al4{α:Type}(k:α→AV)(h:∀x,dn (k x)=k x)(l:List α):(l.map k).map dn=l.map k:=by simp[Function.comp_def,h]
attribute [go_sem] AiS AoX Aki Alb Afx Ajj Amg Ans Aj5 Ai7 Af3 Ape AdL List.map_cons List.map_nil
def FitS(n:Nat):Prop:=n≤9223372036854775807
instance (n:Nat):Decidable (FitS n):=inferInstanceAs (Decidable (_≤_))
section
variable {t:TypeId}(a b:List UInt8)
theorem VD:AO E .add t (.str a) (.str b)=if FitS (a.length+b.length)then some (.str (a++b))else none:=rfl
theorem VN:AO E .eql t (.str a) (.str b)=some (.bool (a==b)):=rfl
theorem Uo:AO E .neq t (.str a) (.str b)=some (.bool (!(a==b))):=rfl
theorem UG:AO E .lss t (.str a) (.str b)=some (.bool (Op.bytesLess a b)):=rfl
theorem Vy:AO E .leq t (.str a) (.str b)=some (.bool (Op.bytesLess a b||a==b)):=rfl
theorem Vv:AO E .gtr t (.str a) (.str b)=some (.bool (!(Op.bytesLess a b||a==b))):=rfl
theorem VF:AO E .geq t (.str a) (.str b)=some (.bool (!Op.bytesLess a b)):=rfl
end
theorem Xi{t:TypeId}{a b:Nat}(ht:E.tab t=some ⟨.string,a,b,z⟩)(s:List UInt8)(x:AV):Io E t (.str s) x=match idx x s.length with
    |some i=>some (u8 (nth s i))
    |none=>none:=by
  unfold Io;simp only[ht];cases hi:idx x s.length with
  |none=>rfl
  | some i=>
    have hl:i<s.length:=by
      unfold idx at hi;split at hi
      · split at hi
        · rename_i h;cases hi;exact h.2
        · cases hi
      · cases hi
    simp only[ApW hl,nth,Ap7];rfl
theorem Y1{α:Type}(l:List α):l.toArray.toList=l:=rfl
theorem Ahs{α:Type}(l:List α)(i:Nat):l.toArray[i]?=l[i]?:=by simp
theorem Ab6(x:Int):AV.int .i64 x=i64 x:=rfl
theorem closed_i64(x:Int):(i64 x).closed=true:=by simp[i64,AV.closed]
theorem closed_u8(x:UInt8):(u8 x).closed=true:=by simp[u8,AV.closed]
theorem closed_u64(x:UInt64):(u64 x).closed=true:=by simp[u64,AV.closed]
theorem closed_bool(x:Bool):(AV.bool x).closed=true:=by simp[AV.closed]
theorem closed_str(x:List UInt8):(AV.str x).closed=true:=by simp[AV.closed]
theorem closed_sl(f:Bool)(x:List (List AV)):(AV.sl f x).closed=true:=by simp[AV.closed]
theorem cells_i64(x:Int):(i64 x).cells?=some [i64 x]:=rfl
theorem cells_u8(x:UInt8):(u8 x).cells?=some [u8 x]:=rfl
theorem cells_u32(x:UInt32):(u32 x).cells?=some [u32 x]:=rfl
theorem cells_u64(x:UInt64):(u64 x).cells?=some [u64 x]:=rfl
theorem cells_bool(x:Bool):(AV.bool x).cells?=some [.bool x]:=rfl
theorem cells_str(x:List UInt8):(AV.str x).cells?=some [.str x]:=rfl
theorem cells_sl(f:Bool)(x:List (List AV)):(AV.sl f x).cells?=some [.sl f x]:=rfl
theorem cells_bs(f:Bool)(a b c d:Nat):(AV.bs f a b c d).cells?=some [.bs f a b c d]:=rfl
theorem cells_nref(a:Nat):(AV.nref a).cells?=some [.nref a]:=rfl
theorem cells_mref(a:Nat):(AV.mref a).cells?=some [.mref a]:=rfl
theorem cells_tref(a b:Nat):(AV.tref a b).cells?=some [.tref a b]:=rfl
theorem cells_ref(a b:Nat):(AV.ref a b).cells?=some [.ref a b]:=rfl
theorem cells_agg(x:List AV):(AV.agg x).cells?=some x:=rfl
theorem fz_i64(x:Int):fz σ (i64 x)=some (i64 x):=rfl
theorem fz_u8(x:UInt8):fz σ (u8 x)=some (u8 x):=rfl
theorem fz_u32(x:UInt32):fz σ (u32 x)=some (u32 x):=rfl
theorem fz_u64(x:UInt64):fz σ (u64 x)=some (u64 x):=rfl
theorem fz_bool(x:Bool):fz σ (.bool x)=some (.bool x):=rfl
theorem fz_str(x:List UInt8):fz σ (.str x)=some (.str x):=rfl
theorem fz_sl(f:Bool)(x:List (List AV)):fz σ (.sl f x)=some (.sl false x):=rfl
theorem fz_fn0(f:FuncId):fz σ (.fn f [])=some (.fn f []):=rfl
theorem fz_bs(f:Bool)(id tot off len:Nat):fz σ (.bs f id tot off len)=match σ[id]? with
 |some (.buf k els ro)=>if els.length=tot∧BK els=true then some (.sl false ((els.drop off).take len))else none
 |_=>none:=rfl
def fzCells(σ:Am):List AV→Option (List AV)
 |[]=>some []
 |x::l=>(Bs σ x).bind fun y=>(fzCells σ l).bind fun ys=>some (y::ys)
theorem Qr(σ:Am):∀l:List AV,l.mapM (Bs σ)=fzCells σ l
 |[]=>rfl
 |x::l=>by rw[Arw,Qr σ l];rfl
theorem fz_agg(cs:List AV):fz σ (.agg cs)=(fzCells σ cs).bind fun ys=>some (.agg ys):=by
 show(cs.mapM (Bs σ)).map AV.agg=_;rw[Qr];cases fzCells σ cs<;>rfl
theorem fzC_i64(x:Int):Bs σ (i64 x)=some (i64 x):=rfl
theorem fzC_u8(x:UInt8):Bs σ (u8 x)=some (u8 x):=rfl
theorem fzC_u32(x:UInt32):Bs σ (u32 x)=some (u32 x):=rfl
theorem fzC_u64(x:UInt64):Bs σ (u64 x)=some (u64 x):=rfl
theorem fzC_bool(x:Bool):Bs σ (.bool x)=some (.bool x):=rfl
theorem fzC_str(x:List UInt8):Bs σ (.str x)=some (.str x):=rfl
theorem fzC_sl(f:Bool)(x:List (List AV)):Bs σ (.sl f x)=some (.sl false x):=rfl
theorem fzC_bs(f:Bool)(id tot off len:Nat):Bs σ (.bs f id tot off len)=match σ[id]? with
 |some (.buf k els ro)=>if els.length=tot∧BK els=true then some (.sl false ((els.drop off).take len))else none
 |_=>none:=rfl
theorem fzR_tup(xs:List AV):fzR σ (.tup xs)=(fzL σ xs).bind fun ys=>some (.tup ys):=by
 show(xs.mapM (fz σ)).map AV.tup=_;rw[Wa];cases fzL σ xs<;>rfl
theorem fzR_i64(x:Int):fzR σ (i64 x)=some (i64 x):=rfl
theorem fzR_u8(x:UInt8):fzR σ (u8 x)=some (u8 x):=rfl
theorem fzR_u32(x:UInt32):fzR σ (u32 x)=some (u32 x):=rfl
theorem fzR_u64(x:UInt64):fzR σ (u64 x)=some (u64 x):=rfl
theorem fzR_bool(x:Bool):fzR σ (.bool x)=some (.bool x):=rfl
theorem fzR_str(x:List UInt8):fzR σ (.str x)=some (.str x):=rfl
theorem fzR_sl(f:Bool)(x:List (List AV)):fzR σ (.sl f x)=fz σ (.sl f x):=rfl
theorem fzR_bs(f:Bool)(a b c d:Nat):fzR σ (.bs f a b c d)=fz σ (.bs f a b c d):=rfl
theorem fzR_agg(x:List AV):fzR σ (.agg x)=fz σ (.agg x):=rfl
theorem AhT(b:Bool):Pb .not (.bool b)=some (.bool !b):=rfl
theorem Ah2{t:TypeId}{ts:List TypeId}(x:AV):Bf E σ .len (t::ts) [x]=(AaD E σ t x).map fun(n:Nat)=>(AV.int .i64 (n:Int),σ):=rfl
theorem Afs{t:TypeId}{ts:List TypeId}(x y:AV):Bf E σ .copy (t::ts) [x,y]=AaB E σ t x y:=rfl
theorem Q8:BK []=true:=rfl
theorem PT{x:List AV}{l:List (List AV)}:BK (x::l)=(x.all AV.closed&&BK l):=rfl
theorem QW{l m:List (List AV)}:BK (l++m)=(BK l&&BK m):=by simp[BK]
def Ane(d:Option Tmp)(fr:Fr):Option (AV×Am)→Option (Fr×Am)
 |none=>none
 |some r=>some (put d r.1 fr,r.2)
def Aea(E:Env)(dr:Bool)(ops:Array Oper)(o:Oper)(σ:Am)(r:Option (AV×Am)):Option (AV×Am) :=
 match dr,o.op with
 |true,.buildSlice ..=>r.bind (FF (F7 E ops o) σ)
 |true,.convert ..=>r.bind (FF (F7 E ops o) σ)
 |_,_=>r
theorem Aez{ops:Array Oper}{o:Oper}{σ:Am}{r:Option (AV×Am)}:Aea E dr ops o σ r=r.bind (FF (dr&&F7 E ops o) σ):=by
  have e:∀σ,FF false σ=some:=fun σ=>by funext r;simp[FF]
  cases dr with
  | false=>
    have:Aea E false ops o σ r=r:=by unfold Aea;split<;>first|rfl|(rename_i h _;cases h)
    rw[this,Ar7,e,Bk]
  | true=>
    rw[ArO];cases hf:F7 E ops o with
    | false=>
      unfold Aea;split
      · rw[hf]
      · rw[hf]
      · rw[e,Bk]
    | true=>
      rcases Ec hf with⟨t,n,l,h⟩|⟨s,d,x,h,_⟩
      · unfold Aea;simp only[h,hf]
      · unfold Aea;simp only[h,hf]
def goO(E:Env)(orc:Orc)(dr:Bool)(n:Nat)(ops:Array Oper)(o:Oper)(s:Fr×Am)(wt:Option Bool):Option (Fr×Am) :=
 match wt with
 |some true=>Ane o.dst (HY dr n o.op s).1 (Aea E dr ops o (HY dr n o.op s).2 (opL E orc dr (evL n (HY dr n o.op s).1) (HY dr n o.op s).2 o.op))
 |some false=>some (put o.dst (.tup []) s.1,s.2)
 |none=>none
def Acy(E:Env)(orc:Option Tmp→Orc)(dr:Bool)(n:Nat)(ops:Array Oper)(o:Oper):Option (Fr×Am)→Option (Fr×Am)
 |none=>none
 |some s=>goO E (orc o.dst) dr n ops o s (PA ops n s.1 o)
def Ij(E:Env)(orc:Option Tmp→Orc)(dr:Bool)(n:Nat)(ops:Array Oper):List Oper→Option (Fr×Am)→Option (Fr×Am)
 |[],s=>s
 |o::l,s=>Ij E orc dr n ops l (Acy E orc dr n ops o s)
def AeX(ts:List Nat):Option (Fr×Am)→Option (Fr×Am)
 |none=>none
 |some s=>some (keep ts s.1,s.2)
theorem Ac3{orc:Option Tmp→Orc}{ops:Array Oper}{o:Oper}{s:Fr×Am}:Acy E orc dr n ops o (some s)=PJ E orc dr n ops o s:=by
 unfold PJ;show goO E (orc o.dst) dr n ops o s (PA ops n s.1 o)=_;unfold goO;split
 ·rename_i h;simp only[h,Aez];unfold Ane;cases(opL E (orc o.dst) dr (evL n (HY dr n o.op s).1) (HY dr n o.op s).2 o.op).bind (FF (dr&&F7 E ops o) (HY dr n o.op s).2)<;>rfl
 ·rename_i h;simp only[h]
 ·rename_i h;simp only[h]
theorem HV{orc:Option Tmp→Orc}{dr:Bool}{n:Nat}{ops:Array Oper}:∀l:List Oper,Ij E orc dr n ops l none=none
 |[]=>rfl
 |_::l=>HV l
theorem EU{orc:Option Tmp→Orc}{dr:Bool}{n:Nat}{ops:Array Oper}:∀(l:List Oper) (s:Fr×Am),Ij E orc dr n ops l (some s)=BT E orc dr n ops l s
  |[],_=>rfl
  | o::l,s=>by
    show Ij E orc dr n ops l (Acy E orc dr n ops o (some s))=(PJ E orc dr n ops o s).bind _;rw[Ac3];cases PJ E orc dr n ops o s with
    |none=>exact HV l
    |some s'=>exact EU l s'
theorem AeU{orc:Option Tmp→Orc}{l:List Oper}{ts:List Nat}{s:Fr×Am}:LU E orc dr n l ts s=AeX ts (Ij E orc dr n l.toArray l (some s)):=by
 rw[EU];unfold LU AeX;cases BT E orc dr n l.toArray l s<;>rfl
attribute [go_sem] AeU Ij Acy goO Ane AeX Aea FF F7 Af5 Aa6 M1 Ace Ei HK List.any_cons List.any_nil Bool.or_false Bool.or_true Bool.false_or Bool.true_or Nat.reduceBEq
theorem ZH(t:Tmp):OT (.tmp t)=false:=rfl
theorem YK(k:IntKind)(n:Int):OT (.const (.int k n))=false:=rfl
theorem Y5(s:ByteArray):OT (.const (.string s))=false:=rfl
theorem Xh(b:Bool):OT (.const (.bool b))=false:=rfl
theorem ZU:OT (.const .nilIface)=true:=rfl
theorem AoR(x y:Option AV):goB true x y=x:=rfl
theorem AnZ(x y:Option AV):goB false x y=y:=rfl
theorem Uj(id:Nat):FR id (.val (.pointer none))=.nref id:=rfl
theorem Xw(id:Nat)(f:Bool)(l:List (List AV)):FR id (.sl f l)=.sl f l:=rfl
attribute [go_sem] Uj Xw
attribute [go_sem] ZH YK Y5 Xh ZU AoR AnZ eqB
attribute [go_sem] look put keep evL PA Qj opL PQ ZI VQ fzL Y1 Ahs Uw Vg Uu TH TM Vj XM Um UB Vx UN V0 TP U9 Xv XD Yr V9 Ub Yg Ut NV MN Nx Ys UI V1 TB U0 XI V6 UL TA UZ UD UJ VJ T7 OU N9 Pg Xu Vq SF Ui TK Vd U1 TL Jj VD VN Uo UG Vy Vv VF AgP AkO Afu Afd Ac5 AhA IF Ab6 Pc OM Ak5 Aaa AbM Anq Ak8 Ai5 Aeh AdX AnK Am9 L_ok L_eq_nil L_closed L_bytes ovl_L closed_i64 closed_u8 closed_u64 closed_bool closed_str closed_sl cells_i64 cells_u8 cells_u32 cells_u64 cells_bool cells_str cells_sl cells_bs cells_ref cells_tref cells_nref cells_mref cells_agg fz_i64 fz_u8 fz_u32 fz_u64 fz_bool fz_str fz_sl fz_fn0 fz_bs fz_agg fzCells fzC_i64 fzC_u8 fzC_u32 fzC_u64 fzC_bool fzC_str fzC_sl fzC_bs fzR_tup fzR_i64 fzR_u8 fzR_u32 fzR_u64 fzR_bool fzR_str fzR_sl fzR_bs fzR_agg loadA storeA splice partA TD.isAgg Gg Gp AaD B0 Ts YX SN UK Dj Lp AhT GJ GM Ci H9 Y3 Ah2 Afs AaB Q8 PT QW Aa3 AfL Acg Z7 Aa1 W9 Rg ownT cU8 cU32 R0 GC O7 Akz cSl Aoy Apl AmS An0
end Go.Rv
