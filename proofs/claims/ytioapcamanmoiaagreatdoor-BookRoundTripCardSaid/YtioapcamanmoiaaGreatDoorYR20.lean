/-
  Part 20.
-/
import Derived.Test.YtioapcamanmoiaaGreatDoorYR19
namespace Go.Rv
set_option linter.unusedVariables false
set_option linter.unusedSimpArgs false
variable{n:Nat}{z:List AV}{de:TD}{dr:Bool}
variable {E:Env}{σ:Am}
def L{α:Type}(c:α→List AV)(l:List α):List (List AV):=l.map c
def cU8(x:UInt8):List AV:=[u8 x]
def cU32(x:UInt32):List AV:=[u32 x]
def R3(x:UInt64):List AV:=[u64 x]
def JD(x:Int):List AV:=[i64 x]
def AbQ(x:Bool):List AV:=[.bool x]
def Aks(x:List UInt8):List AV:=[.str x]
def cSl{α:Type}(c:α→List AV)(x:List α):List AV:=[.sl false (L c x)]
def nth{α:Type}[Inhabited α](l:List α)(i:Nat):α:=l.getD i default
section
variable {α:Type}{c:α→List AV}{l m:List α}
theorem Xl:(L c l).length=l.length:=by simp[L]
theorem Ak6:L c []=[]:=rfl
theorem AdE{x:α}:L c (x::l)=c x::L c l:=rfl
theorem Aij:L c (l++m)=L c l++L c m:=by simp[L]
theorem AdF:(L c l).take n=L c (l.take n):=by simp[L,List.map_take]
theorem AdD:(L c l).drop n=L c (l.drop n):=by simp[L,List.map_drop]
theorem Ame{x:α}:L c (List.replicate n x)=List.replicate n (c x):=by simp[L]
theorem AmZ{i:Nat}{x:α}:L c (l.set i x)=(L c l).set i (c x):=by simp[L,ArD]
theorem AjE[Inhabited α]{i:Nat}(h:i<l.length):(L c l)[i]?=some (c (nth l i)):=by simp[L,nth,h]
theorem L_ok{k:Nat}(h:∀y,(c y).length=k):(∀cs∈L c l,cs.length=k)=True:=by
 refine eq_true ?_;intro cs hcs;simp only[L,ApT]at hcs;obtain⟨y,_,rfl⟩:=hcs;exact h y
theorem L_eq_nil:(L c l=[])=(l=[]):=by simp[L]
theorem L_closed(h:∀y,(c y).all AV.closed=true):B2 (L c l)=true:=by
 simp only[B2,L,List.all_map,AoZ];intro y _;exact h y
end
theorem bytesOf_L(l:List UInt8):bytesOf (L cU8 l)=some l:=by
  induction l with
  |nil=>rfl
  | cons b l ih=>
    show(bytesOf (L cU8 l)).map (UInt8.ofNat (Int.toNat (b.toNat:Int))::·)=_;rw[ih];simp
theorem L_bytes(l:List UInt8):(l.map fun b=>[AV.int .u8 b.toNat])=L cU8 l:=rfl
def ovl{α:Type}(l m:List α)(off:Nat):List α:=l.take off++m++l.drop (off+m.length)
theorem ovl_L{α:Type}{c:α→List AV}(l m:List α)(off:Nat):F9 (L c l) (L c m) off=L c (ovl l m off):=by
 simp[F9,ovl,Aij,AdF,AdD,Xl]
theorem E6{α:Type}[Inhabited α](c:α→List AV){t e a b:Nat}(ht:E.tab t=some ⟨.slice e,a,b,z⟩)(he:E.tab e=some de)(hk:∀y,(c y).length=de.size)(f:Bool)(l:List α)(x:AV) :Ar E σ t (.sl f (L c l)) x=match idx x l.length with
      |some i=>some (.rp (c (nth l i)))
      |none=>none:=by
  unfold Ar;simp only[ht,he,Xl];cases hi:idx x l.length with
  |none=>rfl
  | some i=>
    have hl:i<l.length:=by
      unfold idx at hi;split at hi
      · split at hi
        · rename_i h;cases hi;exact h.2
        · cases hi
      · cases hi
    simp only[AjE hl,hk,Aqe]
theorem YE{t e a b:Nat}(ht:E.tab t=some ⟨.slice e,a,b,z⟩)(he:E.tab e=some de)(hk:0<de.size)(f:Bool)(id tot off len:Nat)(x:AV) :Ar E σ t (.bs f id tot off len) x=match σ[id]?,idx x len with
  |some (.buf k els _),some i=>if els.length=tot∧k=de.size then some (.eref id tot (off+i) 0)else none
  |_,_=>none:=by
 unfold Ar;simp only[ht,he];split
 ·rename_i k els ro i h1 h2;simp only[h1,h2];by_cases hc:els.length=tot∧k=de.size
  ·rw[AoO hc,AoO ⟨hc.1,hc.2,by omega⟩]
  ·rw[AoQ hc,AoQ (fun h=>hc ⟨h.1,h.2.1⟩)]
 ·rename_i h;split
  ·rename_i k els ro i h1 h2;exact(h k els ro i h1 h2).elim
  ·rfl
theorem K3{t e n a b:Nat}(ht:E.tab t=some ⟨.array n e,a,b,z⟩)(he:E.tab e=some de)(id off:Nat)(x:AV) :Ar E σ t (.ref id off) x=match idx x n with
  |some i=>some (.ref id (off+i*de.size))
  |none=>none:=by
 unfold Ar;simp only[ht,he];cases idx x n<;>rfl
def NL(σ:Am)(id tot off len bytes size e T:Nat)(l:List UInt8)(new:List (List AV)):Option (AV×Am) :=
 match H3 new with
 |some nl=>if off=0∧len=tot∧size=1∧CI (len+new.length) bytes∧e=T∧l.length=tot then some (.bs false id (tot+new.length) 0 (tot+new.length),σ.set id (.tb T (l++nl)))else none
 |none=>none
theorem EP{t u e a b:Nat}{du:TD}(ht:E.tab t=some ⟨.slice e,a,b,z⟩)(he:E.tab e=some de)(hk:0<de.size)(hu:E.tab u=some du)(hu2:(∃e',du.desc=.slice e')∨du.desc=.string)(s x:AV)(ts:List TypeId) :AU E σ .append (t::u::ts) [s,x]=match ER σ x with
      | some new=>if E5 x de.size=true then none else if ∀cs∈new,cs.length=de.size then(match s with
          | .sl full els=>
            if els=[]∧full=true then
              if CI new.length de.bytes then some (.bs false σ.length new.length 0 new.length,σ++[.buf de.size new false])else none
            else if new=[]then some (.sl full els,σ)
            else if full=true∧(∀cs∈els,cs.length=de.size)∧CI (els.length+new.length) de.bytes
            then some (.bs false σ.length (els.length+new.length) 0 (els.length+new.length),σ++[.buf de.size (els++new) false])else none
          | .bs full id tot off len=>match σ[id]? with
            | some (.buf k els ro)=>
              if els.length=tot∧k=de.size∧CI (len+new.length) de.bytes then
                if off=0∧len=tot then some (.bs false id (tot+new.length) 0 (tot+new.length),σ.set id (.buf k (els++new) ro))
                else if new=[]then some (.bs full id tot off len,σ)
                else if full then some (.bs false σ.length (len+new.length) 0 (len+new.length),σ++[.buf k ((els.drop off).take len++new) false])
                else none
              else none
            |some (.tb T l)=>NL σ id tot off len de.bytes de.size e T l new
            |_=>none
          |_=>none)
        else none
      |none=>none:=by
  have hu3:AU E σ .append (t::u::ts) [s,x]=Jt E σ t s x:=by
    unfold AU;simp only[hu];rcases hu2 with⟨e',h⟩|h<;>simp only[h]
  rw[hu3];unfold Jt;simp only[ht,he];cases ER σ x with
  |none=>rfl
  | some new=>
    simp only;split
    · rfl
    split
    case isFalse=>rfl
    cases s with
    | sl full els=>
      simp only;split
      · by_cases h:CI new.length de.bytes
        · rw[AoO h,AoO ⟨hk,h.1,h.2⟩]
        · rw[AoQ h,AoQ (fun hh=>h hh.2)]
      · split
        · rfl
        · by_cases h:full=true∧(∀cs∈els,cs.length=de.size)∧CI (els.length+new.length) de.bytes
          · rw[AoO h,AoO ⟨h.1,h.2.1,hk,h.2.2.1,h.2.2.2⟩]
          · rw[AoQ h,AoQ (fun hh=>h ⟨hh.1,hh.2.1,hh.2.2.2⟩)]
    | bs full id tot off len=>
      simp only;split
      · rename_i k els ro hb
        simp only[hb];by_cases h:els.length=tot∧k=de.size∧CI (len+new.length) de.bytes
        · rw[AoO h,AoO ⟨h.1,h.2.1,by have:=h.2.1;omega,h.2.2.1,h.2.2.2⟩]
        · rw[AoQ h,AoQ (fun hh=>h ⟨hh.1,hh.2.1,hh.2.2.2⟩)]
      · rename_i T l hb
        simp only[hb,NL];cases H3 new with
        |none=>rfl
        | some nl=>
          simp only;by_cases h:off=0∧len=tot∧de.size=1∧CI (len+new.length) de.bytes∧e=T∧l.length=tot
          · rw[AoO h,AoO ⟨h.1,h.2.1,h.2.2.1,h.2.2.2.1.1,h.2.2.2.1.2,h.2.2.2.2⟩]
          · rw[AoQ h,AoQ (fun hh=>h ⟨hh.1,hh.2.1,hh.2.2.1,⟨hh.2.2.2.1,hh.2.2.2.2.1⟩,hh.2.2.2.2.2⟩)]
      · rename_i hno hno2
        split
        · rename_i k els ro hb;exact(hno k els ro hb).elim
        · rename_i T l hb;exact(hno2 T l hb).elim
        · rfl
    |_=>rfl
def Mk(l c:Int)(bytes:Nat):Prop:=0≤l∧l≤c∧c≤maxLen∧c.toNat*bytes≤JA
instance (l c:Int)(b:Nat):Decidable (Mk l c b):=inferInstanceAs (Decidable (_∧_))
theorem Aam{t e a b:Nat}(ht:E.tab t=some ⟨.slice e,a,b,z⟩)(he:E.tab e=some de)(hk:0<de.size)(l c:Int) :Eb E σ t (i64 l) (i64 c)=if Mk l c de.bytes then some (.bs (l==c) σ.length l.toNat 0 l.toNat,σ++[.buf de.size (List.replicate l.toNat (de.zero.map dn)) false])else none:=by
 unfold Eb i64;simp only[ht,he];by_cases h:Mk l c de.bytes
 ·rw[AoO h,AoO ⟨h.1,h.2.1,h.2.2.1,h.2.2.2,hk⟩]
 ·rw[AoQ h,AoQ (fun hh=>h ⟨hh.1,hh.2.1,hh.2.2.1,hh.2.2.2.1⟩)]
theorem Ai6(x:Int):dn (i64 x)=i64 x:=rfl
theorem Ang(x:UInt8):dn (u8 x)=u8 x:=rfl
theorem Ais(x:UInt32):dn (u32 x)=u32 x:=rfl
theorem Aiz(x:UInt64):dn (u64 x)=u64 x:=rfl
theorem Af3(x:Bool):dn (.bool x)=.bool x:=rfl
theorem AiV(x:List UInt8):dn (.str x)=.str x:=rfl
theorem AmL(f:Bool)(l:List (List AV)):dn (.sl f l)=.sl false l:=rfl
theorem Am5(f:FuncId)(l:List AV):dn (.fn f l)=.fn f l:=rfl
theorem Aj5(v:Value):dn (.val v)=.val v:=rfl
theorem AfT(i:Nat)(t:TypeId):dn (.tref i t)=.tref i t:=rfl
theorem AjL(i o:Nat):dn (.ref i o)=.ref i o:=rfl
theorem AnJ(f:Bool)(i t o l:Nat):dn (.bs f i t o l)=.bs f i t o l:=rfl
theorem Ac3(t:TypeId)(x:AV):dn (.iface t x)=.iface t x:=rfl
theorem Amd{α:Type}(k:α→AV)(h:∀x,dn (k x)=k x)(l:List α):(l.map k).map dn=l.map k:=by simp[Function.comp_def,h]
attribute [go_sem] Ai6 Ang Ais Aiz Af3 AiV AmL Am5 Aj5 AjL AfT AnJ Ac3 List.map_cons List.map_nil
def FitS(n:Nat):Prop:=n≤9223372036854775807
instance (n:Nat):Decidable (FitS n):=inferInstanceAs (Decidable (_≤_))
section
variable {t:TypeId}(a b:List UInt8)
theorem T8:AD E .add t (.str a) (.str b)=if FitS (a.length+b.length)then some (.str (a++b))else none:=rfl
theorem UD:AD E .eql t (.str a) (.str b)=some (.bool (a==b)):=rfl
theorem UO:AD E .neq t (.str a) (.str b)=some (.bool (!(a==b))):=rfl
theorem Uj:AD E .lss t (.str a) (.str b)=some (.bool (Op.bytesLess a b)):=rfl
theorem Vs:AD E .leq t (.str a) (.str b)=some (.bool (Op.bytesLess a b||a==b)):=rfl
theorem Ts:AD E .gtr t (.str a) (.str b)=some (.bool (!(Op.bytesLess a b||a==b))):=rfl
theorem Ub:AD E .geq t (.str a) (.str b)=some (.bool (!Op.bytesLess a b)):=rfl
end
theorem WC{t:TypeId}{a b:Nat}(ht:E.tab t=some ⟨.string,a,b,z⟩)(s:List UInt8)(x:AV):HY E t (.str s) x=match idx x s.length with
    |some i=>some (u8 (nth s i))
    |none=>none:=by
  unfold HY;simp only[ht];cases hi:idx x s.length with
  |none=>rfl
  | some i=>
    have hl:i<s.length:=by
      unfold idx at hi;split at hi
      · split at hi
        · rename_i h;cases hi;exact h.2
        · cases hi
      · cases hi
    simp only[AoN hl,nth,Ao3];rfl
theorem SO{t a b:Nat}(ht:E.tab t=some ⟨.bool,a,b,z⟩)(x y:Bool):AD E .neq t (.bool x) (.bool y)=some (.bool (!(x==y))):=by
 unfold AD;simp only[ht]
theorem WO{α:Type}(l:List α):l.toArray.toList=l:=rfl
theorem Aeu{α:Type}(l:List α)(i:Nat):l.toArray[i]?=l[i]?:=by simp
theorem Acn(x:Int):AV.int .i64 x=i64 x:=rfl
theorem closed_i64(x:Int):(i64 x).closed=true:=by simp[i64,AV.closed]
theorem closed_u8(x:UInt8):(u8 x).closed=true:=by simp[u8,AV.closed]
theorem closed_u64(x:UInt64):(u64 x).closed=true:=by simp[u64,AV.closed]
theorem closed_bool(x:Bool):(AV.bool x).closed=true:=by simp[AV.closed]
theorem closed_str(x:List UInt8):(AV.str x).closed=true:=by simp[AV.closed]
theorem closed_sl(f:Bool)(x:List (List AV)):(AV.sl f x).closed=true:=by simp[AV.closed]
theorem cells_i64(x:Int):(i64 x).cells?=some [i64 x]:=rfl
theorem cells_u8(x:UInt8):(u8 x).cells?=some [u8 x]:=rfl
theorem cells_u32(x:UInt32):(u32 x).cells?=some [u32 x]:=rfl
theorem cells_u64(x:UInt64):(u64 x).cells?=some [u64 x]:=rfl
theorem cells_bool(x:Bool):(AV.bool x).cells?=some [.bool x]:=rfl
theorem cells_str(x:List UInt8):(AV.str x).cells?=some [.str x]:=rfl
theorem cells_sl(f:Bool)(x:List (List AV)):(AV.sl f x).cells?=some [.sl f x]:=rfl
theorem cells_bs(f:Bool)(a b c d:Nat):(AV.bs f a b c d).cells?=some [.bs f a b c d]:=rfl
theorem cells_nref(a:Nat):(AV.nref a).cells?=some [.nref a]:=rfl
theorem cells_mref(a:Nat):(AV.mref a).cells?=some [.mref a]:=rfl
theorem cells_tref(a b:Nat):(AV.tref a b).cells?=some [.tref a b]:=rfl
theorem cells_ref(a b:Nat):(AV.ref a b).cells?=some [.ref a b]:=rfl
theorem cells_agg(x:List AV):(AV.agg x).cells?=some x:=rfl
theorem fz_i64(x:Int):fz σ (i64 x)=some (i64 x):=rfl
theorem fz_u8(x:UInt8):fz σ (u8 x)=some (u8 x):=rfl
theorem fz_u32(x:UInt32):fz σ (u32 x)=some (u32 x):=rfl
theorem fz_u64(x:UInt64):fz σ (u64 x)=some (u64 x):=rfl
theorem fz_bool(x:Bool):fz σ (.bool x)=some (.bool x):=rfl
theorem fz_str(x:List UInt8):fz σ (.str x)=some (.str x):=rfl
theorem fz_sl(f:Bool)(x:List (List AV)):fz σ (.sl f x)=some (.sl false x):=rfl
theorem fz_fn0(f:FuncId):fz σ (.fn f [])=some (.fn f []):=rfl
theorem fz_bs(f:Bool)(id tot off len:Nat):fz σ (.bs f id tot off len)=match σ[id]? with
 |some (.buf k els ro)=>if els.length=tot∧B2 els=true then some (.sl false ((els.drop off).take len))else none
 |_=>none:=rfl
def fzCells(σ:Am):List AV→Option (List AV)
 |[]=>some []
 |x::l=>(Ba σ x).bind fun y=>(fzCells σ l).bind fun ys=>some (y::ys)
theorem Qa(σ:Am):∀l:List AV,l.mapM (Ba σ)=fzCells σ l
 |[]=>rfl
 |x::l=>by rw[Aqv,Qa σ l];rfl
theorem fz_agg(cs:List AV):fz σ (.agg cs)=(fzCells σ cs).bind fun ys=>some (.agg ys):=by
 show(cs.mapM (Ba σ)).map AV.agg=_;rw[Qa];cases fzCells σ cs<;>rfl
theorem fzC_i64(x:Int):Ba σ (i64 x)=some (i64 x):=rfl
theorem fzC_u8(x:UInt8):Ba σ (u8 x)=some (u8 x):=rfl
theorem fzC_u32(x:UInt32):Ba σ (u32 x)=some (u32 x):=rfl
theorem fzC_u64(x:UInt64):Ba σ (u64 x)=some (u64 x):=rfl
theorem fzC_bool(x:Bool):Ba σ (.bool x)=some (.bool x):=rfl
theorem fzC_str(x:List UInt8):Ba σ (.str x)=some (.str x):=rfl
theorem fzC_sl(f:Bool)(x:List (List AV)):Ba σ (.sl f x)=some (.sl false x):=rfl
theorem fzC_bs(f:Bool)(id tot off len:Nat):Ba σ (.bs f id tot off len)=match σ[id]? with
 |some (.buf k els ro)=>if els.length=tot∧B2 els=true then some (.sl false ((els.drop off).take len))else none
 |_=>none:=rfl
theorem fzR_tup(xs:List AV):fzR σ (.tup xs)=(fzL σ xs).bind fun ys=>some (.tup ys):=by
 show(xs.mapM (fz σ)).map AV.tup=_;rw[V6];cases fzL σ xs<;>rfl
theorem fzR_i64(x:Int):fzR σ (i64 x)=some (i64 x):=rfl
theorem fzR_u8(x:UInt8):fzR σ (u8 x)=some (u8 x):=rfl
theorem fzR_u32(x:UInt32):fzR σ (u32 x)=some (u32 x):=rfl
theorem fzR_u64(x:UInt64):fzR σ (u64 x)=some (u64 x):=rfl
theorem fzR_bool(x:Bool):fzR σ (.bool x)=some (.bool x):=rfl
theorem fzR_str(x:List UInt8):fzR σ (.str x)=some (.str x):=rfl
theorem fzR_sl(f:Bool)(x:List (List AV)):fzR σ (.sl f x)=fz σ (.sl f x):=rfl
theorem fzR_bs(f:Bool)(a b c d:Nat):fzR σ (.bs f a b c d)=fz σ (.bs f a b c d):=rfl
theorem fzR_agg(x:List AV):fzR σ (.agg x)=fz σ (.agg x):=rfl
theorem Ait(b:Bool):OM .not (.bool b)=some (.bool !b):=rfl
theorem AgP{t:TypeId}{ts:List TypeId}(x:AV):AU E σ .len (t::ts) [x]=(Yr E σ t x).map fun(n:Nat)=>(AV.int .i64 (n:Int),σ):=rfl
theorem Ad8{t:TypeId}{ts:List TypeId}(x y:AV):AU E σ .copy (t::ts) [x,y]=YM E σ t x y:=rfl
theorem Qw:B2 []=true:=rfl
theorem OW{x:List AV}{l:List (List AV)}:B2 (x::l)=(x.all AV.closed&&B2 l):=rfl
theorem QO{l m:List (List AV)}:B2 (l++m)=(B2 l&&B2 m):=by simp[B2]
def An1(d:Option Tmp)(fr:Fr):Option (AV×Am)→Option (Fr×Am)
 |none=>none
 |some r=>some (put d r.1 fr,r.2)
def AdB(E:Env)(dr:Bool)(ops:Array Oper)(o:Oper)(σ:Am)(r:Option (AV×Am)):Option (AV×Am) :=
 match dr,o.op with
 |true,.buildSlice ..=>r.bind (Fb (ED E ops o) σ)
 |true,.convert ..=>r.bind (Fb (ED E ops o) σ)
 |_,_=>r
theorem AeK{ops:Array Oper}{o:Oper}{σ:Am}{r:Option (AV×Am)}:AdB E dr ops o σ r=r.bind (Fb (dr&&ED E ops o) σ):=by
  have e:∀σ,Fb false σ=some:=fun σ=>by funext r;simp[Fb]
  cases dr with
  | false=>
    have:AdB E false ops o σ r=r:=by unfold AdB;split<;>first|rfl|(rename_i h _;cases h)
    rw[this,Bool.false_and,e,Bm]
  | true=>
    rw[Bool.true_and];cases hf:ED E ops o with
    | false=>
      unfold AdB;split
      · rw[hf]
      · rw[hf]
      · rw[e,Bm]
    | true=>
      rcases Dn hf with⟨t,n,l,h⟩|⟨s,d,x,h,_⟩
      · unfold AdB;simp only[h,hf]
      · unfold AdB;simp only[h,hf]
def goO(E:Env)(orc:Orc)(dr:Bool)(n:Nat)(ops:Array Oper)(o:Oper)(s:Fr×Am)(wt:Option Bool):Option (Fr×Am) :=
 match wt with
 |some true=>An1 o.dst (Hs dr n o.op s).1 (AdB E dr ops o (Hs dr n o.op s).2 (opL E orc dr (evL n (Hs dr n o.op s).1) (Hs dr n o.op s).2 o.op))
 |some false=>some (put o.dst (.tup []) s.1,s.2)
 |none=>none
def Adl(E:Env)(orc:Option Tmp→Orc)(dr:Bool)(n:Nat)(ops:Array Oper)(o:Oper):Option (Fr×Am)→Option (Fr×Am)
 |none=>none
 |some s=>goO E (orc o.dst) dr n ops o s (Py ops n s.1 o)
def HO(E:Env)(orc:Option Tmp→Orc)(dr:Bool)(n:Nat)(ops:Array Oper):List Oper→Option (Fr×Am)→Option (Fr×Am)
 |[],s=>s
 |o::l,s=>HO E orc dr n ops l (Adl E orc dr n ops o s)
def Aft(ts:List Nat):Option (Fr×Am)→Option (Fr×Am)
 |none=>none
 |some s=>some (keep ts s.1,s.2)
theorem Abq{orc:Option Tmp→Orc}{ops:Array Oper}{o:Oper}{s:Fr×Am}:Adl E orc dr n ops o (some s)=P7 E orc dr n ops o s:=by
 unfold P7;show goO E (orc o.dst) dr n ops o s (Py ops n s.1 o)=_;unfold goO;split
 ·rename_i h;simp only[h,AeK];unfold An1;cases(opL E (orc o.dst) dr (evL n (Hs dr n o.op s).1) (Hs dr n o.op s).2 o.op).bind (Fb (dr&&ED E ops o) (Hs dr n o.op s).2)<;>rfl
 ·rename_i h;simp only[h]
 ·rename_i h;simp only[h]
theorem Hq{orc:Option Tmp→Orc}{dr:Bool}{n:Nat}{ops:Array Oper}:∀l:List Oper,HO E orc dr n ops l none=none
 |[]=>rfl
 |_::l=>Hq l
theorem Ds{orc:Option Tmp→Orc}{dr:Bool}{n:Nat}{ops:Array Oper}:∀(l:List Oper) (s:Fr×Am),HO E orc dr n ops l (some s)=Bj E orc dr n ops l s
  |[],_=>rfl
  | o::l,s=>by
    show HO E orc dr n ops l (Adl E orc dr n ops o (some s))=(P7 E orc dr n ops o s).bind _;rw[Abq];cases P7 E orc dr n ops o s with
    |none=>exact Hq l
    |some s'=>exact Ds l s'
theorem Aen{orc:Option Tmp→Orc}{l:List Oper}{ts:List Nat}{s:Fr×Am}:KK E orc dr n l ts s=Aft ts (HO E orc dr n l.toArray l (some s)):=by
 rw[Ds];unfold KK Aft;cases Bj E orc dr n l.toArray l s<;>rfl
attribute [go_sem] Aen HO Adl goO An1 Aft AdB Fb ED Afn YG NO Ado D0 Hn List.any_cons List.any_nil Bool.or_false Bool.or_true Bool.false_or Bool.true_or Nat.reduceBEq
theorem Aaz(t:Tmp):O0 (.tmp t)=false:=rfl
theorem Z4(k:IntKind)(n:Int):O0 (.const (.int k n))=false:=rfl
theorem Y5(s:ByteArray):O0 (.const (.string s))=false:=rfl
theorem W7(b:Bool):O0 (.const (.bool b))=false:=rfl
theorem Aaa:O0 (.const .nilIface)=true:=rfl
theorem Al7(x y:Option AV):goB true x y=x:=rfl
theorem AnL(x y:Option AV):goB false x y=y:=rfl
theorem Vg(id:Nat):Fl id (.val (.pointer none))=.nref id:=rfl
theorem X6(id:Nat)(f:Bool)(l:List (List AV)):Fl id (.sl f l)=.sl f l:=rfl
attribute [go_sem] Vg X6
attribute [go_sem] Aaz Z4 Y5 W7 Aaa Al7 AnL eqB
attribute [go_sem] look put keep evL Py PL opL LP YJ V1 fzL WO Aeu T7 Vc US TC TU TR WB Uh TB Vq U7 Vk UC TJ XR XU XQ WL WG Xp XL XM Xf WP UI T5 WF UJ Nn Nk M7 Xa TH Up UY TE WE UF U8 Uu Tm Vu TT T9 UN Nd OG Nm X0 Tz SC UU UM TV UV Uz SY IA T8 UD UO Uj Vs Ts Ub Aei Ahe AfY Afi AcZ AgN Ix Acn N5 Nq AjE Aa9 Xl Ak6 AdE Aij AdF AdD Ame AmZ L_ok L_eq_nil L_closed bytesOf_L L_bytes ovl_L closed_i64 closed_u8 closed_u64 closed_bool closed_str closed_sl cells_i64 cells_u8 cells_u32 cells_u64 cells_bool cells_str cells_sl cells_bs cells_ref cells_tref cells_nref cells_mref cells_agg fz_i64 fz_u8 fz_u32 fz_u64 fz_bool fz_str fz_sl fz_fn0 fz_bs fz_agg fzCells fzC_i64 fzC_u8 fzC_u32 fzC_u64 fzC_bool fzC_str fzC_sl fzC_bs fzR_tup fzR_i64 fzR_u8 fzR_u32 fzR_u64 fzR_bool fzR_str fzR_sl fzR_bs fzR_agg loadA storeA splice partA TD.isAgg ER E5 Yr Bh Sl AaX R7 Vj CF KE Ait Gg Gj BH Fj Wq AgP Ad8 YM Qw OW QO Aa2 Ae8 AcG Ym Yp VU Qm ownT cU8 cU32 R3 JD AbQ Aks cSl Alh AlB Ani AmV
end Go.Rv
