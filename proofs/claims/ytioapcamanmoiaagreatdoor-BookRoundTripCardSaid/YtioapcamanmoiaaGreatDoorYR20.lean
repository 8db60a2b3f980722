/-
  Part 20.
-/
import Derived.Test.YtioapcamanmoiaaGreatDoorYR19
namespace Go.Rv
set_option linter.unusedVariables false
set_option linter.unusedSimpArgs false
variable{n:Nat}{z:List AV}{de:TD}{dr:Bool}
variable {E:Env}{σ:Ab}
def L{α:Type}(c:α→List AV)(l:List α):List (List AV):=l.map c
def cU8(x:UInt8):List AV:=[u8 x]
def cU32(x:UInt32):List AV:=[u32 x]
def R8(x:UInt64):List AV:=[u64 x]
def JB(x:Int):List AV:=[i64 x]
def AbZ(x:Bool):List AV:=[.bool x]
def Akt(x:List UInt8):List AV:=[.str x]
def cSl{α:Type}(c:α→List AV)(x:List α):List AV:=[.sl false (L c x)]
def nth{α:Type}[Inhabited α](l:List α)(i:Nat):α:=l.getD i default
section
variable {α:Type}{c:α→List AV}{l m:List α}
theorem WE:(L c l).length=l.length:=by simp[L]
theorem AmJ:L c []=[]:=rfl
theorem AdO{x:α}:L c (x::l)=c x::L c l:=rfl
theorem AiN:L c (l++m)=L c l++L c m:=by simp[L]
theorem AdK:(L c l).take n=L c (l.take n):=by simp[L,List.map_take]
theorem AdR:(L c l).drop n=L c (l.drop n):=by simp[L,List.map_drop]
theorem AkZ{x:α}:L c (List.replicate n x)=List.replicate n (c x):=by simp[L]
theorem Anf{i:Nat}{x:α}:L c (l.set i x)=(L c l).set i (c x):=by simp[L,ArD]
theorem Ajw[Inhabited α]{i:Nat}(h:i<l.length):(L c l)[i]?=some (c (nth l i)):=by simp[L,nth,h]
theorem L_ok{k:Nat}(h:∀y,(c y).length=k):(∀cs∈L c l,cs.length=k)=True:=by
 refine eq_true ?_;intro cs hcs;simp only[L,ApT]at hcs;obtain⟨y,_,rfl⟩:=hcs;exact h y
theorem L_eq_nil:(L c l=[])=(l=[]):=by simp[L]
theorem L_closed(h:∀y,(c y).all AV.closed=true):B6 (L c l)=true:=by
 simp only[B6,L,List.all_map,AoZ];intro y _;exact h y
end
theorem bytesOf_L(l:List UInt8):bytesOf (L cU8 l)=some l:=by
  induction l with
  |nil=>rfl
  | cons b l ih=>
    show(bytesOf (L cU8 l)).map (UInt8.ofNat (Int.toNat (b.toNat:Int))::·)=_;rw[ih];simp
theorem L_bytes(l:List UInt8):(l.map fun b=>[AV.int .u8 b.toNat])=L cU8 l:=rfl
def ovl{α:Type}(l m:List α)(off:Nat):List α:=l.take off++m++l.drop (off+m.length)
theorem ovl_L{α:Type}{c:α→List AV}(l m:List α)(off:Nat):FD (L c l) (L c m) off=L c (ovl l m off):=by
 simp[FD,ovl,AiN,AdK,AdR,WE]
theorem EA{α:Type}[Inhabited α](c:α→List AV){t e a b:Nat}(ht:E.tab t=some ⟨.slice e,a,b,z⟩)(he:E.tab e=some de)(hk:∀y,(c y).length=de.size)(f:Bool)(l:List α)(x:AV) :As E σ t (.sl f (L c l)) x=match idx x l.length with
      |some i=>some (.rp (c (nth l i)))
      |none=>none:=by
  unfold As;simp only[ht,he,WE];cases hi:idx x l.length with
  |none=>rfl
  | some i=>
    have hl:i<l.length:=by
      unfold idx at hi;split at hi
      · split at hi
        · rename_i h;cases hi;exact h.2
        · cases hi
      · cases hi
    simp only[Ajw hl,hk,Aqe]
theorem Aaq{t e a b:Nat}(ht:E.tab t=some ⟨.slice e,a,b,z⟩)(he:E.tab e=some de)(hk:0<de.size)(f:Bool)(id tot off len:Nat)(x:AV) :As E σ t (.bs f id tot off len) x=match σ[id]?,idx x len with
  |some (.buf k els _),some i=>if els.length=tot∧k=de.size then some (.eref id tot (off+i) 0)else none
  |_,_=>none:=by
 unfold As;simp only[ht,he];split
 ·rename_i k els ro i h1 h2;simp only[h1,h2];by_cases hc:els.length=tot∧k=de.size
  ·rw[AoO hc,AoO ⟨hc.1,hc.2,by omega⟩]
  ·rw[AoQ hc,AoQ (fun h=>hc ⟨h.1,h.2.1⟩)]
 ·rename_i h;split
  ·rename_i k els ro i h1 h2;exact(h k els ro i h1 h2).elim
  ·rfl
theorem KR{t e n a b:Nat}(ht:E.tab t=some ⟨.array n e,a,b,z⟩)(he:E.tab e=some de)(id off:Nat)(x:AV) :As E σ t (.ref id off) x=match idx x n with
  |some i=>some (.ref id (off+i*de.size))
  |none=>none:=by
 unfold As;simp only[ht,he];cases idx x n<;>rfl
def O6(σ:Ab)(id tot off len bytes size e T:Nat)(l:List UInt8)(new:List (List AV)):Option (AV×Ab) :=
 match HB new with
 |some nl=>if off=0∧len=tot∧size=1∧CM (len+new.length) bytes∧e=T∧l.length=tot then some (.bs false id (tot+new.length) 0 (tot+new.length),σ.set id (.tb T (l++nl)))else none
 |none=>none
theorem Ff{t u e a b:Nat}{du:TD}(ht:E.tab t=some ⟨.slice e,a,b,z⟩)(he:E.tab e=some de)(hk:0<de.size)(hu:E.tab u=some du)(hu2:(∃e',du.desc=.slice e')∨du.desc=.string)(s x:AV)(ts:List TypeId) :AZ E σ .append (t::u::ts) [s,x]=match ET σ x with
      | some new=>if E8 x de.size=true then none else if ∀cs∈new,cs.length=de.size then(match s with
          | .sl full els=>
            if els=[]∧full=true then
              if CM new.length de.bytes then some (.bs false σ.length new.length 0 new.length,σ++[.buf de.size new false])else none
            else if new=[]then some (.sl full els,σ)
            else if full=true∧(∀cs∈els,cs.length=de.size)∧CM (els.length+new.length) de.bytes
            then some (.bs false σ.length (els.length+new.length) 0 (els.length+new.length),σ++[.buf de.size (els++new) false])else none
          | .bs full id tot off len=>match σ[id]? with
            | some (.buf k els ro)=>
              if els.length=tot∧k=de.size∧CM (len+new.length) de.bytes then
                if off=0∧len=tot then some (.bs false id (tot+new.length) 0 (tot+new.length),σ.set id (.buf k (els++new) ro))
                else if new=[]then some (.bs full id tot off len,σ)
                else if full then some (.bs false σ.length (len+new.length) 0 (len+new.length),σ++[.buf k ((els.drop off).take len++new) false])
                else none
              else none
            |some (.tb T l)=>O6 σ id tot off len de.bytes de.size e T l new
            |_=>none
          |_=>none)
        else none
      |none=>none:=by
  have hu3:AZ E σ .append (t::u::ts) [s,x]=J2 E σ t s x:=by
    unfold AZ;simp only[hu];rcases hu2 with⟨e',h⟩|h<;>simp only[h]
  rw[hu3];unfold J2;simp only[ht,he];cases ET σ x with
  |none=>rfl
  | some new=>
    simp only;split
    · rfl
    split
    case isFalse=>rfl
    cases s with
    | sl full els=>
      simp only;split
      · by_cases h:CM new.length de.bytes
        · rw[AoO h,AoO ⟨hk,h.1,h.2⟩]
        · rw[AoQ h,AoQ (fun hh=>h hh.2)]
      · split
        · rfl
        · by_cases h:full=true∧(∀cs∈els,cs.length=de.size)∧CM (els.length+new.length) de.bytes
          · rw[AoO h,AoO ⟨h.1,h.2.1,hk,h.2.2.1,h.2.2.2⟩]
          · rw[AoQ h,AoQ (fun hh=>h ⟨hh.1,hh.2.1,hh.2.2.2⟩)]
    | bs full id tot off len=>
      simp only;split
      · rename_i k els ro hb
        simp only[hb];by_cases h:els.length=tot∧k=de.size∧CM (len+new.length) de.bytes
        · rw[AoO h,AoO ⟨h.1,h.2.1,by have:=h.2.1;omega,h.2.2.1,h.2.2.2⟩]
        · rw[AoQ h,AoQ (fun hh=>h ⟨hh.1,hh.2.1,hh.2.2.2⟩)]
      · rename_i T l hb
        simp only[hb,O6];cases HB new with
        |none=>rfl
        | some nl=>
          simp only;by_cases h:off=0∧len=tot∧de.size=1∧CM (len+new.length) de.bytes∧e=T∧l.length=tot
          · rw[AoO h,AoO ⟨h.1,h.2.1,h.2.2.1,h.2.2.2.1.1,h.2.2.2.1.2,h.2.2.2.2⟩]
          · rw[AoQ h,AoQ (fun hh=>h ⟨hh.1,hh.2.1,hh.2.2.1,⟨hh.2.2.2.1,hh.2.2.2.2.1⟩,hh.2.2.2.2.2⟩)]
      · rename_i hno hno2
        split
        · rename_i k els ro hb;exact(hno k els ro hb).elim
        · rename_i T l hb;exact(hno2 T l hb).elim
        · rfl
    |_=>rfl
def Mk(l c:Int)(bytes:Nat):Prop:=0≤l∧l≤c∧c≤maxLen∧c.toNat*bytes≤J0
instance (l c:Int)(b:Nat):Decidable (Mk l c b):=inferInstanceAs (Decidable (_∧_))
theorem Y8{t e a b:Nat}(ht:E.tab t=some ⟨.slice e,a,b,z⟩)(he:E.tab e=some de)(hk:0<de.size)(l c:Int) :Eg E σ t (i64 l) (i64 c)=if Mk l c de.bytes then some (.bs (l==c) σ.length l.toNat 0 l.toNat,σ++[.buf de.size (List.replicate l.toNat (de.zero.map dn)) false])else none:=by
 unfold Eg i64;simp only[ht,he];by_cases h:Mk l c de.bytes
 ·rw[AoO h,AoO ⟨h.1,h.2.1,h.2.2.1,h.2.2.2,hk⟩]
 ·rw[AoQ h,AoQ (fun hh=>h ⟨hh.1,hh.2.1,hh.2.2.1,hh.2.2.2.1⟩)]
theorem Akg(x:Int):dn (i64 x)=i64 x:=rfl
theorem AmP(x:UInt8):dn (u8 x)=u8 x:=rfl
theorem AgP(x:UInt32):dn (u32 x)=u32 x:=rfl
theorem Ahc(x:UInt64):dn (u64 x)=u64 x:=rfl
theorem AeP(x:Bool):dn (.bool x)=.bool x:=rfl
theorem Aj4(x:List UInt8):dn (.str x)=.str x:=rfl
theorem Ama(f:Bool)(l:List (List AV)):dn (.sl f l)=.sl false l:=rfl
theorem Anu(f:FuncId)(l:List AV):dn (.fn f l)=.fn f l:=rfl
theorem AiL(v:Value):dn (.val v)=.val v:=rfl
theorem Agk(i:Nat)(t:TypeId):dn (.tref i t)=.tref i t:=rfl
theorem Ah3(i o:Nat):dn (.ref i o)=.ref i o:=rfl
theorem Amz(f:Bool)(i t o l:Nat):dn (.bs f i t o l)=.bs f i t o l:=rfl
theorem AcD(t:TypeId)(x:AV):dn (.iface t x)=.iface t x:=rfl
theorem AmE{α:Type}(k:α→AV)(h:∀x,dn (k x)=k x)(l:List α):(l.map k).map dn=l.map k:=by simp[Function.comp_def,h]
attribute [go_sem] Akg AmP AgP Ahc AeP Aj4 Ama Anu AiL Ah3 Agk Amz AcD List.map_cons List.map_nil
def FitS(n:Nat):Prop:=n≤9223372036854775807
instance (n:Nat):Decidable (FitS n):=inferInstanceAs (Decidable (_≤_))
section
variable {t:TypeId}(a b:List UInt8)
theorem TO:AH E .add t (.str a) (.str b)=if FitS (a.length+b.length)then some (.str (a++b))else none:=rfl
theorem TC:AH E .eql t (.str a) (.str b)=some (.bool (a==b)):=rfl
theorem Vc:AH E .neq t (.str a) (.str b)=some (.bool (!(a==b))):=rfl
theorem Vl:AH E .lss t (.str a) (.str b)=some (.bool (Op.bytesLess a b)):=rfl
theorem TW:AH E .leq t (.str a) (.str b)=some (.bool (Op.bytesLess a b||a==b)):=rfl
theorem Va:AH E .gtr t (.str a) (.str b)=some (.bool (!(Op.bytesLess a b||a==b))):=rfl
theorem U1:AH E .geq t (.str a) (.str b)=some (.bool (!Op.bytesLess a b)):=rfl
end
theorem WI{t:TypeId}{a b:Nat}(ht:E.tab t=some ⟨.string,a,b,z⟩)(s:List UInt8)(x:AV):IA E t (.str s) x=match idx x s.length with
    |some i=>some (u8 (nth s i))
    |none=>none:=by
  unfold IA;simp only[ht];cases hi:idx x s.length with
  |none=>rfl
  | some i=>
    have hl:i<s.length:=by
      unfold idx at hi;split at hi
      · split at hi
        · rename_i h;cases hi;exact h.2
        · cases hi
      · cases hi
    simp only[AoN hl,nth,Ao3];rfl
theorem RD{t a b:Nat}(ht:E.tab t=some ⟨.bool,a,b,z⟩)(x y:Bool):AH E .neq t (.bool x) (.bool y)=some (.bool (!(x==y))):=by
 unfold AH;simp only[ht]
theorem WC{α:Type}(l:List α):l.toArray.toList=l:=rfl
theorem AeK{α:Type}(l:List α)(i:Nat):l.toArray[i]?=l[i]?:=by simp
theorem AcF(x:Int):AV.int .i64 x=i64 x:=rfl
theorem closed_i64(x:Int):(i64 x).closed=true:=by simp[i64,AV.closed]
theorem closed_u8(x:UInt8):(u8 x).closed=true:=by simp[u8,AV.closed]
theorem closed_u64(x:UInt64):(u64 x).closed=true:=by simp[u64,AV.closed]
theorem closed_bool(x:Bool):(AV.bool x).closed=true:=by simp[AV.closed]
theorem closed_str(x:List UInt8):(AV.str x).closed=true:=by simp[AV.closed]
theorem closed_sl(f:Bool)(x:List (List AV)):(AV.sl f x).closed=true:=by simp[AV.closed]
theorem cells_i64(x:Int):(i64 x).cells?=some [i64 x]:=rfl
theorem cells_u8(x:UInt8):(u8 x).cells?=some [u8 x]:=rfl
theorem cells_u32(x:UInt32):(u32 x).cells?=some [u32 x]:=rfl
theorem cells_u64(x:UInt64):(u64 x).cells?=some [u64 x]:=rfl
theorem cells_bool(x:Bool):(AV.bool x).cells?=some [.bool x]:=rfl
theorem cells_str(x:List UInt8):(AV.str x).cells?=some [.str x]:=rfl
theorem cells_sl(f:Bool)(x:List (List AV)):(AV.sl f x).cells?=some [.sl f x]:=rfl
theorem cells_bs(f:Bool)(a b c d:Nat):(AV.bs f a b c d).cells?=some [.bs f a b c d]:=rfl
theorem cells_nref(a:Nat):(AV.nref a).cells?=some [.nref a]:=rfl
theorem cells_mref(a:Nat):(AV.mref a).cells?=some [.mref a]:=rfl
theorem cells_tref(a b:Nat):(AV.tref a b).cells?=some [.tref a b]:=rfl
theorem cells_ref(a b:Nat):(AV.ref a b).cells?=some [.ref a b]:=rfl
theorem cells_agg(x:List AV):(AV.agg x).cells?=some x:=rfl
theorem fz_i64(x:Int):fz σ (i64 x)=some (i64 x):=rfl
theorem fz_u8(x:UInt8):fz σ (u8 x)=some (u8 x):=rfl
theorem fz_u32(x:UInt32):fz σ (u32 x)=some (u32 x):=rfl
theorem fz_u64(x:UInt64):fz σ (u64 x)=some (u64 x):=rfl
theorem fz_bool(x:Bool):fz σ (.bool x)=some (.bool x):=rfl
theorem fz_str(x:List UInt8):fz σ (.str x)=some (.str x):=rfl
theorem fz_sl(f:Bool)(x:List (List AV)):fz σ (.sl f x)=some (.sl false x):=rfl
theorem fz_fn0(f:FuncId):fz σ (.fn f [])=some (.fn f []):=rfl
theorem fz_bs(f:Bool)(id tot off len:Nat):fz σ (.bs f id tot off len)=match σ[id]? with
 |some (.buf k els ro)=>if els.length=tot∧B6 els=true then some (.sl false ((els.drop off).take len))else none
 |_=>none:=rfl
def fzCells(σ:Ab):List AV→Option (List AV)
 |[]=>some []
 |x::l=>(Bf σ x).bind fun y=>(fzCells σ l).bind fun ys=>some (y::ys)
theorem PH(σ:Ab):∀l:List AV,l.mapM (Bf σ)=fzCells σ l
 |[]=>rfl
 |x::l=>by rw[Aqv,PH σ l];rfl
theorem fz_agg(cs:List AV):fz σ (.agg cs)=(fzCells σ cs).bind fun ys=>some (.agg ys):=by
 show(cs.mapM (Bf σ)).map AV.agg=_;rw[PH];cases fzCells σ cs<;>rfl
theorem fzC_i64(x:Int):Bf σ (i64 x)=some (i64 x):=rfl
theorem fzC_u8(x:UInt8):Bf σ (u8 x)=some (u8 x):=rfl
theorem fzC_u32(x:UInt32):Bf σ (u32 x)=some (u32 x):=rfl
theorem fzC_u64(x:UInt64):Bf σ (u64 x)=some (u64 x):=rfl
theorem fzC_bool(x:Bool):Bf σ (.bool x)=some (.bool x):=rfl
theorem fzC_str(x:List UInt8):Bf σ (.str x)=some (.str x):=rfl
theorem fzC_sl(f:Bool)(x:List (List AV)):Bf σ (.sl f x)=some (.sl false x):=rfl
theorem fzC_bs(f:Bool)(id tot off len:Nat):Bf σ (.bs f id tot off len)=match σ[id]? with
 |some (.buf k els ro)=>if els.length=tot∧B6 els=true then some (.sl false ((els.drop off).take len))else none
 |_=>none:=rfl
theorem fzR_tup(xs:List AV):fzR σ (.tup xs)=(fzL σ xs).bind fun ys=>some (.tup ys):=by
 show(xs.mapM (fz σ)).map AV.tup=_;rw[W1];cases fzL σ xs<;>rfl
theorem fzR_i64(x:Int):fzR σ (i64 x)=some (i64 x):=rfl
theorem fzR_u8(x:UInt8):fzR σ (u8 x)=some (u8 x):=rfl
theorem fzR_u32(x:UInt32):fzR σ (u32 x)=some (u32 x):=rfl
theorem fzR_u64(x:UInt64):fzR σ (u64 x)=some (u64 x):=rfl
theorem fzR_bool(x:Bool):fzR σ (.bool x)=some (.bool x):=rfl
theorem fzR_str(x:List UInt8):fzR σ (.str x)=some (.str x):=rfl
theorem fzR_sl(f:Bool)(x:List (List AV)):fzR σ (.sl f x)=fz σ (.sl f x):=rfl
theorem fzR_bs(f:Bool)(a b c d:Nat):fzR σ (.bs f a b c d)=fz σ (.bs f a b c d):=rfl
theorem fzR_agg(x:List AV):fzR σ (.agg x)=fz σ (.agg x):=rfl
theorem AiD(b:Bool):On .not (.bool b)=some (.bool !b):=rfl
theorem Ajt{t:TypeId}{ts:List TypeId}(x:AV):AZ E σ .len (t::ts) [x]=(Y6 E σ t x).map fun(n:Nat)=>(AV.int .i64 (n:Int),σ):=rfl
theorem Afd{t:TypeId}{ts:List TypeId}(x y:AV):AZ E σ .copy (t::ts) [x,y]=AaZ E σ t x y:=rfl
theorem QO:B6 []=true:=rfl
theorem Pw{x:List AV}{l:List (List AV)}:B6 (x::l)=(x.all AV.closed&&B6 l):=rfl
theorem QW{l m:List (List AV)}:B6 (l++m)=(B6 l&&B6 m):=by simp[B6]
def Any(d:Option Tmp)(fr:Fr):Option (AV×Ab)→Option (Fr×Ab)
 |none=>none
 |some r=>some (put d r.1 fr,r.2)
def Adz(E:Env)(dr:Bool)(ops:Array Oper)(o:Oper)(σ:Ab)(r:Option (AV×Ab)):Option (AV×Ab) :=
 match dr,o.op with
 |true,.buildSlice ..=>r.bind (Fh (EI E ops o) σ)
 |true,.convert ..=>r.bind (Fh (EI E ops o) σ)
 |_,_=>r
theorem AeS{ops:Array Oper}{o:Oper}{σ:Ab}{r:Option (AV×Ab)}:Adz E dr ops o σ r=r.bind (Fh (dr&&EI E ops o) σ):=by
  have e:∀σ,Fh false σ=some:=fun σ=>by funext r;simp[Fh]
  cases dr with
  | false=>
    have:Adz E false ops o σ r=r:=by unfold Adz;split<;>first|rfl|(rename_i h _;cases h)
    rw[this,Bool.false_and,e,Bt]
  | true=>
    rw[Bool.true_and];cases hf:EI E ops o with
    | false=>
      unfold Adz;split
      · rw[hf]
      · rw[hf]
      · rw[e,Bt]
    | true=>
      rcases Db hf with⟨t,n,l,h⟩|⟨s,d,x,h,_⟩
      · unfold Adz;simp only[h,hf]
      · unfold Adz;simp only[h,hf]
def goO(E:Env)(orc:Orc)(dr:Bool)(n:Nat)(ops:Array Oper)(o:Oper)(s:Fr×Ab)(wt:Option Bool):Option (Fr×Ab) :=
 match wt with
 |some true=>Any o.dst (H1 dr n o.op s).1 (Adz E dr ops o (H1 dr n o.op s).2 (opL E orc dr (evL n (H1 dr n o.op s).1) (H1 dr n o.op s).2 o.op))
 |some false=>some (put o.dst (.tup []) s.1,s.2)
 |none=>none
def AbW(E:Env)(orc:Option Tmp→Orc)(dr:Bool)(n:Nat)(ops:Array Oper)(o:Oper):Option (Fr×Ab)→Option (Fr×Ab)
 |none=>none
 |some s=>goO E (orc o.dst) dr n ops o s (Pc ops n s.1 o)
def HT(E:Env)(orc:Option Tmp→Orc)(dr:Bool)(n:Nat)(ops:Array Oper):List Oper→Option (Fr×Ab)→Option (Fr×Ab)
 |[],s=>s
 |o::l,s=>HT E orc dr n ops l (AbW E orc dr n ops o s)
def Aex(ts:List Nat):Option (Fr×Ab)→Option (Fr×Ab)
 |none=>none
 |some s=>some (keep ts s.1,s.2)
theorem Acw{orc:Option Tmp→Orc}{ops:Array Oper}{o:Oper}{s:Fr×Ab}:AbW E orc dr n ops o (some s)=Pf E orc dr n ops o s:=by
 unfold Pf;show goO E (orc o.dst) dr n ops o s (Pc ops n s.1 o)=_;unfold goO;split
 ·rename_i h;simp only[h,AeS];unfold Any;cases(opL E (orc o.dst) dr (evL n (H1 dr n o.op s).1) (H1 dr n o.op s).2 o.op).bind (Fh (dr&&EI E ops o) (H1 dr n o.op s).2)<;>rfl
 ·rename_i h;simp only[h]
 ·rename_i h;simp only[h]
theorem H3{orc:Option Tmp→Orc}{dr:Bool}{n:Nat}{ops:Array Oper}:∀l:List Oper,HT E orc dr n ops l none=none
 |[]=>rfl
 |_::l=>H3 l
theorem Dv{orc:Option Tmp→Orc}{dr:Bool}{n:Nat}{ops:Array Oper}:∀(l:List Oper) (s:Fr×Ab),HT E orc dr n ops l (some s)=Bp E orc dr n ops l s
  |[],_=>rfl
  | o::l,s=>by
    show HT E orc dr n ops l (AbW E orc dr n ops o (some s))=(Pf E orc dr n ops o s).bind _;rw[Acw];cases Pf E orc dr n ops o s with
    |none=>exact H3 l
    |some s'=>exact Dv l s'
theorem AeQ{orc:Option Tmp→Orc}{l:List Oper}{ts:List Nat}{s:Fr×Ab}:Lm E orc dr n l ts s=Aex ts (HT E orc dr n l.toArray l (some s)):=by
 rw[Dv];unfold Lm Aex;cases Bp E orc dr n l.toArray l s<;>rfl
attribute [go_sem] AeQ HT AbW goO Any Aex Adz Fh EI AfB Yj Nd AcG DA Hu List.any_cons List.any_nil Bool.or_false Bool.or_true Bool.false_or Bool.true_or Nat.reduceBEq
theorem AaH(t:Tmp):MJ (.tmp t)=false:=rfl
theorem YF(k:IntKind)(n:Int):MJ (.const (.int k n))=false:=rfl
theorem AaP(s:ByteArray):MJ (.const (.string s))=false:=rfl
theorem W9(b:Bool):MJ (.const (.bool b))=false:=rfl
theorem Aaa:MJ (.const .nilIface)=true:=rfl
theorem An8(x y:Option AV):goB true x y=x:=rfl
theorem Anp(x y:Option AV):goB false x y=y:=rfl
theorem Tm(id:Nat):Ft id (.val (.pointer none))=.nref id:=rfl
theorem X8(id:Nat)(f:Bool)(l:List (List AV)):Ft id (.sl f l)=.sl f l:=rfl
attribute [go_sem] Tm X8
attribute [go_sem] AaH YF AaP W9 Aaa An8 Anp eqB
attribute [go_sem] look put keep evL Pc Qj opL LM Aa3 W5 fzL WC AeK UK Uz U0 UT Us Ud Yg UU Vb Ve Vj TE U4 Uy Xq XN XH XV X3 XX WT WB Xl Xj Ub TG WU Ty OE N5 Nj Xy Ui UD UZ TR Xp Vo TH TJ TZ T9 TT UP U9 N0 Nx N7 XW Ts RN TS Vk T1 Ut Uq SD IH TO TC Vc Vl TW Va U1 Aea Ahj Aeh AfV Acy AgJ IF AcF O0 NN Ajw Aap WE AmJ AdO AiN AdK AdR AkZ Anf L_ok L_eq_nil L_closed bytesOf_L L_bytes ovl_L closed_i64 closed_u8 closed_u64 closed_bool closed_str closed_sl cells_i64 cells_u8 cells_u32 cells_u64 cells_bool cells_str cells_sl cells_bs cells_ref cells_tref cells_nref cells_mref cells_agg fz_i64 fz_u8 fz_u32 fz_u64 fz_bool fz_str fz_sl fz_fn0 fz_bs fz_agg fzCells fzC_i64 fzC_u8 fzC_u32 fzC_u64 fzC_bool fzC_str fzC_sl fzC_bs fzR_tup fzR_i64 fzR_u8 fzR_u32 fzR_u64 fzR_bool fzR_str fzR_sl fzR_bs fzR_agg loadA storeA splice partA TD.isAgg ET E8 Y6 Bl SR ZH Ss Tv CI KF AiD Gk Gi BP Fq VS Ajt Afd AaZ QO Pw QW Y4 AeN Acu Yp Yn Wm Rt ownT cU8 cU32 R8 JB AbZ Akt cSl Al7 Anl Am4 Amd
end Go.Rv
