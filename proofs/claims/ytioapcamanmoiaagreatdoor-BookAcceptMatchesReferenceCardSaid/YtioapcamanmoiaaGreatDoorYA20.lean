/-
  Part 20.
-/
import Derived.Test.YtioapcamanmoiaaGreatDoorYA19
namespace Go.Rv
variable{n:Nat}{z:List AV}{de:TD}{dr:Bool}
variable {E:Env}{σ:Ad}
def L{α:Type}(c:α→List AV)(l:List α):List (List AV):=l.map c
def cU8(x:UInt8):List AV:=[u8 x]
def cU32(x:UInt32):List AV:=[u32 x]
def Ui(x:UInt64):List AV:=[u64 x]
def H9(x:Int):List AV:=[i64 x]
def Pw(x:Bool):List AV:=[.bool x]
def Amv(x:List UInt8):List AV:=[.str x]
def cSl{α:Type}(c:α→List AV)(x:List α):List AV:=[.sl false (L c x)]
def nth{α:Type}[Inhabited α](l:List α)(i:Nat):α:=l.getD i default
section
variable {α:Type}{c:α→List AV}{l m:List α}
theorem Af4:(L c l).length=l.length:=by simp[L]
theorem Asn:L c []=[]:=rfl
theorem AnO{x:α}:L c (x::l)=c x::L c l:=rfl
theorem Amu:L c (l++m)=L c l++L c m:=by simp[L]
theorem AgY:(L c l).take n=L c (l.take n):=by simp[L,List.map_take]
theorem Ag4:(L c l).drop n=L c (l.drop n):=by simp[L,List.map_drop]
theorem AqQ{x:α}:L c (List.replicate n x)=List.replicate n (c x):=by simp[L]
theorem Ar5{i:Nat}{x:α}:L c (l.set i x)=(L c l).set i (c x):=by simp[L,AvI]
theorem Alg[Inhabited α]{i:Nat}(h:i<l.length):(L c l)[i]?=some (c (nth l i)):=by simp[L,nth,h]
theorem L_ok{k:Nat}(h:∀y,(c y).length=k):(∀cs∈L c l,cs.length=k)=True:=by
 refine eq_true ?_;intro cs hcs;simp only[L,Aud]at hcs;obtain⟨y,_,rfl⟩:=hcs;exact h y
theorem L_eq_nil:(L c l=[])=(l=[]):=by simp[L]
theorem L_closed(h:∀y,(c y).all AV.closed=true):Cc (L c l)=true:=by
 simp only[Cc,L,List.all_map,Atc];intro y _;exact h y
end
theorem L_bytes(l:List UInt8):(l.map fun b=>[AV.int .u8 b.toNat])=L cU8 l:=rfl
def ovl{α:Type}(l m:List α)(off:Nat):List α:=l.take off++m++l.drop (off+m.length)
theorem ovl_L{α:Type}{c:α→List AV}(l m:List α)(off:Nat):Ho (L c l) (L c m) off=L c (ovl l m off):=by
 simp[Ho,ovl,Amu,AgY,Ag4,Af4]
theorem FZ{α:Type}[Inhabited α](c:α→List AV){t e a b:Nat}(ht:E.tab t=some ⟨.slice e,a,b,z⟩)(he:E.tab e=some de)(hk:∀y,(c y).length=de.size)(f:Bool)(l:List α)(x:AV) :Az E σ t (.sl f (L c l)) x=match idx x l.length with
      |some i=>some (.rp (c (nth l i)))
      |none=>none:=by
  unfold Az;simp only[ht,he,Af4];cases hi:idx x l.length with
  |none=>rfl
  | some i=>
    have hl:i<l.length:=by
      unfold idx at hi;split at hi
      · split at hi
        · rename_i h;cases hi;exact h.2
        · cases hi
      · cases hi
    simp only[Alg hl,hk,AuA]
theorem YD{t e a b:Nat}(ht:E.tab t=some ⟨.slice e,a,b,z⟩)(he:E.tab e=some de)(hk:0<de.size)(f:Bool)(id tot off len:Nat)(x:AV) :Az E σ t (.bs f id tot off len) x=match σ[id]?,idx x len with
  |some (.buf k els _),some i=>if els.length=tot∧k=de.size then some (.eref id tot (off+i) 0)else none
  |_,_=>none:=by
 unfold Az;simp only[ht,he];split
 ·rename_i k els ro i h1 h2;simp only[h1,h2];by_cases hc:els.length=tot∧k=de.size
  ·rw[AsU hc,AsU ⟨hc.1,hc.2,by omega⟩]
  ·rw[AsX hc,AsX (fun h=>hc ⟨h.1,h.2.1⟩)]
 ·rename_i h;split
  ·rename_i k els ro i h1 h2;exact(h k els ro i h1 h2).elim
  ·rfl
theorem MB{t e n a b:Nat}(ht:E.tab t=some ⟨.array n e,a,b,z⟩)(he:E.tab e=some de)(id off:Nat)(x:AV) :Az E σ t (.ref id off) x=match idx x n with
  |some i=>some (.ref id (off+i*de.size))
  |none=>none:=by
 unfold Az;simp only[ht,he];cases idx x n<;>rfl
def RH(σ:Ad)(id tot off len bytes size e T:Nat)(l:List UInt8)(new:List (List AV)):Option (AV×Ad) :=
 match IJ new with
 |some nl=>if off=0∧len=tot∧size=1∧Cj (len+new.length) bytes∧e=T∧l.length=tot then some (.bs false id (tot+new.length) 0 (tot+new.length),σ.set id (.tb T (l++nl)))else none
 |none=>none
theorem Hi{t u e a b:Nat}{du:TD}(ht:E.tab t=some ⟨.slice e,a,b,z⟩)(he:E.tab e=some de)(hk:0<de.size)(hu:E.tab u=some du)(hu2:(∃e',du.desc=.slice e')∨du.desc=.string)(s x:AV)(ts:List TypeId) :Bp E σ .append (t::u::ts) [s,x]=match Hd σ x with
      | some new=>if H5 x de.size=true then none else if ∀cs∈new,cs.length=de.size then(match s with
          | .sl full els=>
            if els=[]∧full=true then
              if Cj new.length de.bytes then some (.bs false σ.length new.length 0 new.length,σ++[.buf de.size new false])else none
            else if new=[]then some (.sl full els,σ)
            else if full=true∧(∀cs∈els,cs.length=de.size)∧Cj (els.length+new.length) de.bytes
            then some (.bs false σ.length (els.length+new.length) 0 (els.length+new.length),σ++[.buf de.size (els++new) false])else none
          | .bs full id tot off len=>match σ[id]? with
            | some (.buf k els ro)=>
              if els.length=tot∧k=de.size∧Cj (len+new.length) de.bytes then
                if off=0∧len=tot then some (.bs false id (tot+new.length) 0 (tot+new.length),σ.set id (.buf k (els++new) ro))
                else if new=[]then some (.bs full id tot off len,σ)
                else if full then some (.bs false σ.length (len+new.length) 0 (len+new.length),σ++[.buf k ((els.drop off).take len++new) false])
                else none
              else none
            |some (.tb T l)=>RH σ id tot off len de.bytes de.size e T l new
            |_=>none
          |_=>none)
        else none
      |none=>none:=by
  have hu3:Bp E σ .append (t::u::ts) [s,x]=L0 E σ t s x:=by
    unfold Bp;simp only[hu];rcases hu2 with⟨e',h⟩|h<;>simp only[h]
  rw[hu3];unfold L0;simp only[ht,he];cases Hd σ x with
  |none=>rfl
  | some new=>
    simp only;split
    · rfl
    split
    case isFalse=>rfl
    cases s with
    | sl full els=>
      simp only;split
      · by_cases h:Cj new.length de.bytes
        · rw[AsU h,AsU ⟨hk,h.1,h.2⟩]
        · rw[AsX h,AsX (fun hh=>h hh.2)]
      · split
        · rfl
        · by_cases h:full=true∧(∀cs∈els,cs.length=de.size)∧Cj (els.length+new.length) de.bytes
          · rw[AsU h,AsU ⟨h.1,h.2.1,hk,h.2.2.1,h.2.2.2⟩]
          · rw[AsX h,AsX (fun hh=>h ⟨hh.1,hh.2.1,hh.2.2.2⟩)]
    | bs full id tot off len=>
      simp only;split
      · rename_i k els ro hb
        simp only[hb];by_cases h:els.length=tot∧k=de.size∧Cj (len+new.length) de.bytes
        · rw[AsU h,AsU ⟨h.1,h.2.1,by have:=h.2.1;omega,h.2.2.1,h.2.2.2⟩]
        · rw[AsX h,AsX (fun hh=>h ⟨hh.1,hh.2.1,hh.2.2.2⟩)]
      · rename_i T l hb
        simp only[hb,RH];cases IJ new with
        |none=>rfl
        | some nl=>
          simp only;by_cases h:off=0∧len=tot∧de.size=1∧Cj (len+new.length) de.bytes∧e=T∧l.length=tot
          · rw[AsU h,AsU ⟨h.1,h.2.1,h.2.2.1,h.2.2.2.1.1,h.2.2.2.1.2,h.2.2.2.2⟩]
          · rw[AsX h,AsX (fun hh=>h ⟨hh.1,hh.2.1,hh.2.2.1,⟨hh.2.2.2.1,hh.2.2.2.2.1⟩,hh.2.2.2.2.2⟩)]
      · rename_i hno hno2
        split
        · rename_i k els ro hb;exact(hno k els ro hb).elim
        · rename_i T l hb;exact(hno2 T l hb).elim
        · rfl
    |_=>rfl
def Mk(l c:Int)(bytes:Nat):Prop:=0≤l∧l≤c∧c≤maxLen∧c.toNat*bytes≤Fi
instance (l c:Int)(b:Nat):Decidable (Mk l c b):=inferInstanceAs (Decidable (_∧_))
theorem XB{t e a b:Nat}(ht:E.tab t=some ⟨.slice e,a,b,z⟩)(he:E.tab e=some de)(hk:0<de.size)(l c:Int) :EL E σ t (i64 l) (i64 c)=if Mk l c de.bytes then some (.bs (l==c) σ.length l.toNat 0 l.toNat,σ++[.buf de.size (List.replicate l.toNat (de.zero.map dn)) false])else none:=by
 unfold EL i64;simp only[ht,he];by_cases h:Mk l c de.bytes
 ·rw[AsU h,AsU ⟨h.1,h.2.1,h.2.2.1,h.2.2.2,hk⟩]
 ·rw[AsX h,AsX (fun hh=>h ⟨hh.1,hh.2.1,hh.2.2.1,hh.2.2.2.1⟩)]
theorem AmJ(x:Int):dn (i64 x)=i64 x:=rfl
theorem AqF(x:UInt8):dn (u8 x)=u8 x:=rfl
theorem AmN(x:UInt32):dn (u32 x)=u32 x:=rfl
theorem Aor(x:UInt64):dn (u64 x)=u64 x:=rfl
theorem Aju(x:Bool):dn (.bool x)=.bool x:=rfl
theorem An8(x:List UInt8):dn (.str x)=.str x:=rfl
theorem ApM(f:Bool)(l:List (List AV)):dn (.sl f l)=.sl false l:=rfl
theorem Apl(f:FuncId)(l:List AV):dn (.fn f l)=.fn f l:=rfl
theorem Ak1(v:Value):dn (.val v)=.val v:=rfl
theorem AiK(i:Nat)(t:TypeId):dn (.tref i t)=.tref i t:=rfl
theorem Aon(i o:Nat):dn (.ref i o)=.ref i o:=rfl
theorem ArR(f:Bool)(i t o l:Nat):dn (.bs f i t o l)=.bs f i t o l:=rfl
theorem AgN(t:TypeId)(x:AV):dn (.iface t x)=.iface t x:=rfl
theorem ArY{α:Type}(k:α→AV)(h:∀x,dn (k x)=k x)(l:List α):(l.map k).map dn=l.map k:=by simp[Function.comp_def,h]
attribute [go_sem] AmJ AqF AmN Aor Aju An8 ApM Apl Ak1 Aon AiK ArR AgN List.map_cons List.map_nil
def FitS(n:Nat):Prop:=n≤9223372036854775807
instance (n:Nat):Decidable (FitS n):=inferInstanceAs (Decidable (_≤_))
section
variable {t:TypeId}(a b:List UInt8)
theorem XI:AM E .add t (.str a) (.str b)=if FitS (a.length+b.length)then some (.str (a++b))else none:=rfl
theorem Yh:AM E .eql t (.str a) (.str b)=some (.bool (a==b)):=rfl
theorem Xa:AM E .neq t (.str a) (.str b)=some (.bool (!(a==b))):=rfl
theorem Wk:AM E .lss t (.str a) (.str b)=some (.bool (Op.bytesLess a b)):=rfl
theorem WX:AM E .leq t (.str a) (.str b)=some (.bool (Op.bytesLess a b||a==b)):=rfl
theorem Yd:AM E .gtr t (.str a) (.str b)=some (.bool (!(Op.bytesLess a b||a==b))):=rfl
theorem WC:AM E .geq t (.str a) (.str b)=some (.bool (!Op.bytesLess a b)):=rfl
end
theorem Aa1{t:TypeId}{a b:Nat}(ht:E.tab t=some ⟨.string,a,b,z⟩)(s:List UInt8)(x:AV):JL E t (.str s) x=match idx x s.length with
    |some i=>some (u8 (nth s i))
    |none=>none:=by
  unfold JL;simp only[ht];cases hi:idx x s.length with
  |none=>rfl
  | some i=>
    have hl:i<s.length:=by
      unfold idx at hi;split at hi
      · split at hi
        · rename_i h;cases hi;exact h.2
        · cases hi
      · cases hi
    simp only[AsZ hl,nth,As8];rfl
theorem Vd{t a b:Nat}(ht:E.tab t=some ⟨.bool,a,b,z⟩)(x y:Bool):AM E .neq t (.bool x) (.bool y)=some (.bool (!(x==y))):=by
 unfold AM;simp only[ht]
theorem Aab{α:Type}(l:List α):l.toArray.toList=l:=rfl
theorem AjW{α:Type}(l:List α)(i:Nat):l.toArray[i]?=l[i]?:=by simp
theorem AfY(x:Int):AV.int .i64 x=i64 x:=rfl
theorem closed_i64(x:Int):(i64 x).closed=true:=by simp[i64,AV.closed]
theorem closed_u8(x:UInt8):(u8 x).closed=true:=by simp[u8,AV.closed]
theorem closed_u64(x:UInt64):(u64 x).closed=true:=by simp[u64,AV.closed]
theorem closed_bool(x:Bool):(AV.bool x).closed=true:=by simp[AV.closed]
theorem closed_str(x:List UInt8):(AV.str x).closed=true:=by simp[AV.closed]
theorem closed_sl(f:Bool)(x:List (List AV)):(AV.sl f x).closed=true:=by simp[AV.closed]
theorem cells_i64(x:Int):(i64 x).cells?=some [i64 x]:=rfl
theorem cells_u8(x:UInt8):(u8 x).cells?=some [u8 x]:=rfl
theorem cells_u32(x:UInt32):(u32 x).cells?=some [u32 x]:=rfl
theorem cells_u64(x:UInt64):(u64 x).cells?=some [u64 x]:=rfl
theorem cells_bool(x:Bool):(AV.bool x).cells?=some [.bool x]:=rfl
theorem cells_str(x:List UInt8):(AV.str x).cells?=some [.str x]:=rfl
theorem cells_sl(f:Bool)(x:List (List AV)):(AV.sl f x).cells?=some [.sl f x]:=rfl
theorem cells_bs(f:Bool)(a b c d:Nat):(AV.bs f a b c d).cells?=some [.bs f a b c d]:=rfl
theorem cells_nref(a:Nat):(AV.nref a).cells?=some [.nref a]:=rfl
theorem cells_mref(a:Nat):(AV.mref a).cells?=some [.mref a]:=rfl
theorem cells_tref(a b:Nat):(AV.tref a b).cells?=some [.tref a b]:=rfl
theorem cells_ref(a b:Nat):(AV.ref a b).cells?=some [.ref a b]:=rfl
theorem cells_agg(x:List AV):(AV.agg x).cells?=some x:=rfl
theorem fz_i64(x:Int):fz σ (i64 x)=some (i64 x):=rfl
theorem fz_u8(x:UInt8):fz σ (u8 x)=some (u8 x):=rfl
theorem fz_u32(x:UInt32):fz σ (u32 x)=some (u32 x):=rfl
theorem fz_u64(x:UInt64):fz σ (u64 x)=some (u64 x):=rfl
theorem fz_bool(x:Bool):fz σ (.bool x)=some (.bool x):=rfl
theorem fz_str(x:List UInt8):fz σ (.str x)=some (.str x):=rfl
theorem fz_sl(f:Bool)(x:List (List AV)):fz σ (.sl f x)=some (.sl false x):=rfl
theorem fz_fn0(f:FuncId):fz σ (.fn f [])=some (.fn f []):=rfl
theorem fz_bs(f:Bool)(id tot off len:Nat):fz σ (.bs f id tot off len)=match σ[id]? with
 |some (.buf k els ro)=>if els.length=tot∧Cc els=true then some (.sl false ((els.drop off).take len))else none
 |_=>none:=rfl
def fzCells(σ:Ad):List AV→Option (List AV)
 |[]=>some []
 |x::l=>(B3 σ x).bind fun y=>(fzCells σ l).bind fun ys=>some (y::ys)
theorem Sm(σ:Ad):∀l:List AV,l.mapM (B3 σ)=fzCells σ l
 |[]=>rfl
 |x::l=>by rw[AuF,Sm σ l];rfl
theorem fz_agg(cs:List AV):fz σ (.agg cs)=(fzCells σ cs).bind fun ys=>some (.agg ys):=by
 show(cs.mapM (B3 σ)).map AV.agg=_;rw[Sm];cases fzCells σ cs<;>rfl
theorem fzC_i64(x:Int):B3 σ (i64 x)=some (i64 x):=rfl
theorem fzC_u8(x:UInt8):B3 σ (u8 x)=some (u8 x):=rfl
theorem fzC_u32(x:UInt32):B3 σ (u32 x)=some (u32 x):=rfl
theorem fzC_u64(x:UInt64):B3 σ (u64 x)=some (u64 x):=rfl
theorem fzC_bool(x:Bool):B3 σ (.bool x)=some (.bool x):=rfl
theorem fzC_str(x:List UInt8):B3 σ (.str x)=some (.str x):=rfl
theorem fzC_sl(f:Bool)(x:List (List AV)):B3 σ (.sl f x)=some (.sl false x):=rfl
theorem fzC_bs(f:Bool)(id tot off len:Nat):B3 σ (.bs f id tot off len)=match σ[id]? with
 |some (.buf k els ro)=>if els.length=tot∧Cc els=true then some (.sl false ((els.drop off).take len))else none
 |_=>none:=rfl
theorem fzR_tup(xs:List AV):fzR σ (.tup xs)=(fzL σ xs).bind fun ys=>some (.tup ys):=by
 show(xs.mapM (fz σ)).map AV.tup=_;rw[YA];cases fzL σ xs<;>rfl
theorem fzR_i64(x:Int):fzR σ (i64 x)=some (i64 x):=rfl
theorem fzR_u8(x:UInt8):fzR σ (u8 x)=some (u8 x):=rfl
theorem fzR_u32(x:UInt32):fzR σ (u32 x)=some (u32 x):=rfl
theorem fzR_u64(x:UInt64):fzR σ (u64 x)=some (u64 x):=rfl
theorem fzR_bool(x:Bool):fzR σ (.bool x)=some (.bool x):=rfl
theorem fzR_str(x:List UInt8):fzR σ (.str x)=some (.str x):=rfl
theorem fzR_sl(f:Bool)(x:List (List AV)):fzR σ (.sl f x)=fz σ (.sl f x):=rfl
theorem fzR_bs(f:Bool)(a b c d:Nat):fzR σ (.bs f a b c d)=fz σ (.bs f a b c d):=rfl
theorem fzR_agg(x:List AV):fzR σ (.agg x)=fz σ (.agg x):=rfl
theorem Anw(b:Bool):OB .not (.bool b)=some (.bool !b):=rfl
theorem AlX{t:TypeId}{ts:List TypeId}(x:AV):Bp E σ .len (t::ts) [x]=(Ab5 E σ t x).map fun(n:Nat)=>(AV.int .i64 (n:Int),σ):=rfl
theorem Ahx{t:TypeId}{ts:List TypeId}(x y:AV):Bp E σ .copy (t::ts) [x,y]=AcV E σ t x y:=rfl
theorem SS:Cc []=true:=rfl
theorem RM{x:List AV}{l:List (List AV)}:Cc (x::l)=(x.all AV.closed&&Cc l):=rfl
theorem Ue{l m:List (List AV)}:Cc (l++m)=(Cc l&&Cc m):=by simp[Cc]
def Arn(d:Option Tmp)(fr:Fr):Option (AV×Ad)→Option (Fr×Ad)
 |none=>none
 |some r=>some (put d r.1 fr,r.2)
def Ahf(E:Env)(dr:Bool)(ops:Array Oper)(o:Oper)(σ:Ad)(r:Option (AV×Ad)):Option (AV×Ad) :=
 match dr,o.op with
 |true,.buildSlice ..=>r.bind (G8 (FX E ops o) σ)
 |true,.convert ..=>r.bind (G8 (FX E ops o) σ)
 |_,_=>r
theorem Aki{ops:Array Oper}{o:Oper}{σ:Ad}{r:Option (AV×Ad)}:Ahf E dr ops o σ r=r.bind (G8 (dr&&FX E ops o) σ):=by
  have e:∀σ,G8 false σ=some:=fun σ=>by funext r;simp[G8]
  cases dr with
  | false=>
    have:Ahf E false ops o σ r=r:=by unfold Ahf;split<;>first|rfl|(rename_i h _;cases h)
    rw[this,Ave,e,Bw]
  | true=>
    rw[AuU];cases hf:FX E ops o with
    | false=>
      unfold Ahf;split
      · rw[hf]
      · rw[hf]
      · rw[e,Bw]
    | true=>
      rcases Es hf with⟨t,n,l,h⟩|⟨s,d,x,h,_⟩
      · unfold Ahf;simp only[h,hf]
      · unfold Ahf;simp only[h,hf]
def goO(E:Env)(orc:Orc)(dr:Bool)(n:Nat)(ops:Array Oper)(o:Oper)(s:Fr×Ad)(wt:Option Bool):Option (Fr×Ad) :=
 match wt with
 |some true=>Arn o.dst (Jy dr n o.op s).1 (Ahf E dr ops o (Jy dr n o.op s).2 (opL E orc dr (evL n (Jy dr n o.op s).1) (Jy dr n o.op s).2 o.op))
 |some false=>some (put o.dst (.tup []) s.1,s.2)
 |none=>none
def Aga(E:Env)(orc:Option Tmp→Orc)(dr:Bool)(n:Nat)(ops:Array Oper)(o:Oper):Option (Fr×Ad)→Option (Fr×Ad)
 |none=>none
 |some s=>goO E (orc o.dst) dr n ops o s (Rg ops n s.1 o)
def Kk(E:Env)(orc:Option Tmp→Orc)(dr:Bool)(n:Nat)(ops:Array Oper):List Oper→Option (Fr×Ad)→Option (Fr×Ad)
 |[],s=>s
 |o::l,s=>Kk E orc dr n ops l (Aga E orc dr n ops o s)
def AhC(ts:List Nat):Option (Fr×Ad)→Option (Fr×Ad)
 |none=>none
 |some s=>some (keep ts s.1,s.2)
theorem AgC{orc:Option Tmp→Orc}{ops:Array Oper}{o:Oper}{s:Fr×Ad}:Aga E orc dr n ops o (some s)=QX E orc dr n ops o s:=by
 unfold QX;show goO E (orc o.dst) dr n ops o s (Rg ops n s.1 o)=_;unfold goO;split
 ·rename_i h;simp only[h,Aki];unfold Arn;cases(opL E (orc o.dst) dr (evL n (Jy dr n o.op s).1) (Jy dr n o.op s).2 o.op).bind (G8 (dr&&FX E ops o) (Jy dr n o.op s).2)<;>rfl
 ·rename_i h;simp only[h]
 ·rename_i h;simp only[h]
theorem Jj{orc:Option Tmp→Orc}{dr:Bool}{n:Nat}{ops:Array Oper}:∀l:List Oper,Kk E orc dr n ops l none=none
 |[]=>rfl
 |_::l=>Jj l
theorem FM{orc:Option Tmp→Orc}{dr:Bool}{n:Nat}{ops:Array Oper}:∀(l:List Oper) (s:Fr×Ad),Kk E orc dr n ops l (some s)=BQ E orc dr n ops l s
  |[],_=>rfl
  | o::l,s=>by
    show Kk E orc dr n ops l (Aga E orc dr n ops o (some s))=(QX E orc dr n ops o s).bind _;rw[AgC];cases QX E orc dr n ops o s with
    |none=>exact Jj l
    |some s'=>exact FM l s'
theorem Akh{orc:Option Tmp→Orc}{l:List Oper}{ts:List Nat}{s:Fr×Ad}:NJ E orc dr n l ts s=AhC ts (Kk E orc dr n l.toArray l (some s)):=by
 rw[FM];unfold NJ AhC;cases BQ E orc dr n l.toArray l s<;>rfl
attribute [go_sem] Akh Kk Aga goO Arn AhC Ahf G8 FX Ajt Ab2 Qm AfU EF Jd List.any_cons List.any_nil Bool.or_false Bool.or_true Bool.false_or Bool.true_or Nat.reduceBEq
theorem Adb(t:Tmp):OW (.tmp t)=false:=rfl
theorem Adj(k:IntKind)(n:Int):OW (.const (.int k n))=false:=rfl
theorem AcU(s:ByteArray):OW (.const (.string s))=false:=rfl
theorem AaB(b:Bool):OW (.const (.bool b))=false:=rfl
theorem AdF:OW (.const .nilIface)=true:=rfl
theorem Ape(x y:Option AV):goB true x y=x:=rfl
theorem ApX(x y:Option AV):goB false x y=y:=rfl
theorem XD(id:Nat):GM id (.val (.pointer none))=.nref id:=rfl
theorem AaN(id:Nat)(f:Bool)(l:List (List AV)):GM id (.sl f l)=.sl f l:=rfl
attribute [go_sem] XD AaN
attribute [go_sem] Adb Adj AcU AaB AdF Ape ApX eqB
attribute [go_sem] look put keep evL Rg Sw opL RG AcG YK fzL Aab AjW X1 WF X7 Xf XY Xg AaA W5 Ws WY Yc Xh Wf WI W7 VX Aa7 Abi Abc Aac ZZ X8 Wl AaL XQ OY Q8 O8 OQ Aad Yg WB X6 XP AaQ X0 Wd X3 Wx Xp Ww W2 Xe Qr O3 PZ AbB WP Vh VZ XJ XZ WD W1 KO XI Yh Xa Wk WX Yd WC AhT An5 AiY AiU AfF AkI Kh AfY P5 Q2 Alg AbK Af4 Asn AnO Amu AgY Ag4 AqQ Ar5 L_ok L_eq_nil L_closed L_bytes ovl_L closed_i64 closed_u8 closed_u64 closed_bool closed_str closed_sl cells_i64 cells_u8 cells_u32 cells_u64 cells_bool cells_str cells_sl cells_bs cells_ref cells_tref cells_nref cells_mref cells_agg fz_i64 fz_u8 fz_u32 fz_u64 fz_bool fz_str fz_sl fz_fn0 fz_bs fz_agg fzCells fzC_i64 fzC_u8 fzC_u32 fzC_u64 fzC_bool fzC_str fzC_sl fzC_bs fzR_tup fzR_i64 fzR_u8 fzR_u32 fzR_u64 fzR_bool fzR_str fzR_sl fzR_bs fzR_agg loadA storeA splice partA TD.isAgg Hd H5 Ab5 BB UJ Acp Uy Yj DL MJ Anw HK HA C9 Jf AbE AlX Ahx AcV SS RM Ue Ab4 AjK Afm AcY Adu Y0 T7 ownT cU8 cU32 Ui H9 Pw Amv cSl AoO AqT ApF Ap8
end Go.Rv
