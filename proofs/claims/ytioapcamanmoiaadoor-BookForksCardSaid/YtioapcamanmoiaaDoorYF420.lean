/-
  Part 20.
-/
import Derived.Test.YtioapcamanmoiaaDoorYF419
namespace Go.Rv
set_option linter.unusedVariables false
set_option linter.unusedSimpArgs false
variable{n:Nat}{z:List AV}{de:TD}{dr:Bool}
variable {E:Env}{σ:Al}
def L{α:Type}(c:α→List AV)(l:List α):List (List AV):=l.map c
def cU8(x:UInt8):List AV:=[u8 x]
def cU32(x:UInt32):List AV:=[u32 x]
def Pi(x:UInt64):List AV:=[u64 x]
def Iy(x:Int):List AV:=[i64 x]
def Xp(x:Bool):List AV:=[.bool x]
def AeY(x:List UInt8):List AV:=[.str x]
def cSl{α:Type}(c:α→List AV)(x:List α):List AV:=[.sl false (L c x)]
def nth{α:Type}[Inhabited α](l:List α)(i:Nat):α:=l.getD i default
section
variable {α:Type}{c:α→List AV}{l m:List α}
theorem AaB:(L c l).length=l.length:=by simp[L]
theorem Ag2:L c []=[]:=rfl
theorem Aew{x:α}:L c (x::l)=c x::L c l:=rfl
theorem AeP:L c (l++m)=L c l++L c m:=by simp[L]
theorem Abk:(L c l).take n=L c (l.take n):=by simp[L,List.map_take]
theorem Aa5:(L c l).drop n=L c (l.drop n):=by simp[L,List.map_drop]
theorem Ah7{x:α}:L c (List.replicate n x)=List.replicate n (c x):=by simp[L]
theorem Akh{i:Nat}{x:α}:L c (l.set i x)=(L c l).set i (c x):=by simp[L,Anp]
theorem Aeo[Inhabited α]{i:Nat}(h:i<l.length):(L c l)[i]?=some (c (nth l i)):=by simp[L,nth,h]
theorem L_ok{k:Nat}(h:∀y,(c y).length=k):(∀cs∈L c l,cs.length=k)=True:=by
 refine eq_true ?_;intro cs hcs;simp only[L,AlV]at hcs;obtain⟨y,_,rfl⟩:=hcs;exact h y
theorem L_eq_nil:(L c l=[])=(l=[]):=by simp[L]
theorem L_closed(h:∀y,(c y).all AV.closed=true):BA (L c l)=true:=by
 simp only[BA,L,List.all_map,Ak1];intro y _;exact h y
end
theorem L_bytes(l:List UInt8):(l.map fun b=>[AV.int .u8 b.toNat])=L cU8 l:=rfl
def ovl{α:Type}(l m:List α)(off:Nat):List α:=l.take off++m++l.drop (off+m.length)
theorem ovl_L{α:Type}{c:α→List AV}(l m:List α)(off:Nat):FP (L c l) (L c m) off=L c (ovl l m off):=by
 simp[FP,ovl,AeP,Abk,Aa5,AaB]
theorem EL{α:Type}[Inhabited α](c:α→List AV){t e a b:Nat}(ht:E.tab t=some ⟨.slice e,a,b,z⟩)(he:E.tab e=some de)(hk:∀y,(c y).length=de.size)(f:Bool)(l:List α)(x:AV) :Au E σ t (.sl f (L c l)) x=match idx x l.length with
      |some i=>some (.rp (c (nth l i)))
      |none=>none:=by
  unfold Au;simp only[ht,he,AaB];cases hi:idx x l.length with
  |none=>rfl
  | some i=>
    have hl:i<l.length:=by
      unfold idx at hi;split at hi
      · split at hi
        · rename_i h;cases hi;exact h.2
        · cases hi
      · cases hi
    simp only[Aeo hl,hk,Ams]
theorem Xn{t e a b:Nat}(ht:E.tab t=some ⟨.slice e,a,b,z⟩)(he:E.tab e=some de)(hk:0<de.size)(f:Bool)(id tot off len:Nat)(x:AV) :Au E σ t (.bs f id tot off len) x=match σ[id]?,idx x len with
  |some (.buf k els _),some i=>if els.length=tot∧k=de.size then some (.eref id tot (off+i) 0)else none
  |_,_=>none:=by
 unfold Au;simp only[ht,he];split
 ·rename_i k els ro i h1 h2;simp only[h1,h2];by_cases hc:els.length=tot∧k=de.size
  ·rw[if_pos hc,if_pos ⟨hc.1,hc.2,by omega⟩]
  ·rw[if_neg hc,if_neg (fun h=>hc ⟨h.1,h.2.1⟩)]
 ·rename_i h;split
  ·rename_i k els ro i h1 h2;exact(h k els ro i h1 h2).elim
  ·rfl
theorem MW{t e n a b:Nat}(ht:E.tab t=some ⟨.array n e,a,b,z⟩)(he:E.tab e=some de)(id off:Nat)(x:AV) :Au E σ t (.ref id off) x=match idx x n with
  |some i=>some (.ref id (off+i*de.size))
  |none=>none:=by
 unfold Au;simp only[ht,he];cases idx x n<;>rfl
def NH(σ:Al)(id tot off len bytes size e T:Nat)(l:List UInt8)(new:List (List AV)):Option (AV×Al) :=
 match Hu new with
 |some nl=>if off=0∧len=tot∧size=1∧Dj (len+new.length) bytes∧e=T∧l.length=tot then some (.bs false id (tot+new.length) 0 (tot+new.length),σ.set id (.tb T (l++nl)))else none
 |none=>none
theorem FX{t u e a b:Nat}{du:TD}(ht:E.tab t=some ⟨.slice e,a,b,z⟩)(he:E.tab e=some de)(hk:0<de.size)(hu:E.tab u=some du)(hu2:(∃e',du.desc=.slice e')∨du.desc=.string)(s x:AV)(ts:List TypeId) :AW E σ .append (t::u::ts) [s,x]=match FG σ x with
      | some new=>if FS x de.size=true then none else if ∀cs∈new,cs.length=de.size then(match s with
          | .sl full els=>
            if els=[]∧full=true then
              if Dj new.length de.bytes then some (.bs false σ.length new.length 0 new.length,σ++[.buf de.size new false])else none
            else if new=[]then some (.sl full els,σ)
            else if full=true∧(∀cs∈els,cs.length=de.size)∧Dj (els.length+new.length) de.bytes
            then some (.bs false σ.length (els.length+new.length) 0 (els.length+new.length),σ++[.buf de.size (els++new) false])else none
          | .bs full id tot off len=>match σ[id]? with
            | some (.buf k els ro)=>
              if els.length=tot∧k=de.size∧Dj (len+new.length) de.bytes then
                if off=0∧len=tot then some (.bs false id (tot+new.length) 0 (tot+new.length),σ.set id (.buf k (els++new) ro))
                else if new=[]then some (.bs full id tot off len,σ)
                else if full then some (.bs false σ.length (len+new.length) 0 (len+new.length),σ++[.buf k ((els.drop off).take len++new) false])
                else none
              else none
            |some (.tb T l)=>NH σ id tot off len de.bytes de.size e T l new
            |_=>none
          |_=>none)
        else none
      |none=>none:=by
  have hu3:AW E σ .append (t::u::ts) [s,x]=IM E σ t s x:=by
    unfold AW;simp only[hu];rcases hu2 with⟨e',h⟩|h<;>simp only[h]
  rw[hu3];unfold IM;simp only[ht,he];cases FG σ x with
  |none=>rfl
  | some new=>
    simp only;split
    · rfl
    split
    case isFalse=>rfl
    cases s with
    | sl full els=>
      simp only;split
      · by_cases h:Dj new.length de.bytes
        · rw[if_pos h,if_pos ⟨hk,h.1,h.2⟩]
        · rw[if_neg h,if_neg (fun hh=>h hh.2)]
      · split
        · rfl
        · by_cases h:full=true∧(∀cs∈els,cs.length=de.size)∧Dj (els.length+new.length) de.bytes
          · rw[if_pos h,if_pos ⟨h.1,h.2.1,hk,h.2.2.1,h.2.2.2⟩]
          · rw[if_neg h,if_neg (fun hh=>h ⟨hh.1,hh.2.1,hh.2.2.2⟩)]
    | bs full id tot off len=>
      simp only;split
      · rename_i k els ro hb
        simp only[hb];by_cases h:els.length=tot∧k=de.size∧Dj (len+new.length) de.bytes
        · rw[if_pos h,if_pos ⟨h.1,h.2.1,by have:=h.2.1;omega,h.2.2.1,h.2.2.2⟩]
        · rw[if_neg h,if_neg (fun hh=>h ⟨hh.1,hh.2.1,hh.2.2.2⟩)]
      · rename_i T l hb
        simp only[hb,NH];cases Hu new with
        |none=>rfl
        | some nl=>
          simp only;by_cases h:off=0∧len=tot∧de.size=1∧Dj (len+new.length) de.bytes∧e=T∧l.length=tot
          · rw[if_pos h,if_pos ⟨h.1,h.2.1,h.2.2.1,h.2.2.2.1.1,h.2.2.2.1.2,h.2.2.2.2⟩]
          · rw[if_neg h,if_neg (fun hh=>h ⟨hh.1,hh.2.1,hh.2.2.1,⟨hh.2.2.2.1,hh.2.2.2.2.1⟩,hh.2.2.2.2.2⟩)]
      · rename_i hno hno2
        split
        · rename_i k els ro hb;exact(hno k els ro hb).elim
        · rename_i T l hb;exact(hno2 T l hb).elim
        · rfl
    |_=>rfl
def Mk(l c:Int)(bytes:Nat):Prop:=0≤l∧l≤c∧c≤maxLen∧c.toNat*bytes≤Gj
instance (l c:Int)(b:Nat):Decidable (Mk l c b):=inferInstanceAs (Decidable (_∧_))
theorem W3{t e a b:Nat}(ht:E.tab t=some ⟨.slice e,a,b,z⟩)(he:E.tab e=some de)(hk:0<de.size)(l c:Int) :Em E σ t (i64 l) (i64 c)=if Mk l c de.bytes then some (.bs (l==c) σ.length l.toNat 0 l.toNat,σ++[.buf de.size (List.replicate l.toNat (de.zero.map dn)) false])else none:=by
 unfold Em i64;simp only[ht,he];by_cases h:Mk l c de.bytes
 ·rw[if_pos h,if_pos ⟨h.1,h.2.1,h.2.2.1,h.2.2.2,hk⟩]
 ·rw[if_neg h,if_neg (fun hh=>h ⟨hh.1,hh.2.1,hh.2.2.1,hh.2.2.2.1⟩)]
theorem Ae0(x:Int):dn (i64 x)=i64 x:=rfl
theorem Ahy(x:UInt8):dn (u8 x)=u8 x:=rfl
theorem AeR(x:UInt32):dn (u32 x)=u32 x:=rfl
theorem AeO(x:UInt64):dn (u64 x)=u64 x:=rfl
theorem AbN(x:Bool):dn (.bool x)=.bool x:=rfl
theorem Aey(x:List UInt8):dn (.str x)=.str x:=rfl
theorem Aix(f:Bool)(l:List (List AV)):dn (.sl f l)=.sl false l:=rfl
theorem Aju(f:FuncId)(l:List AV):dn (.fn f l)=.fn f l:=rfl
theorem Afl(v:Value):dn (.val v)=.val v:=rfl
theorem Ab7(i:Nat)(t:TypeId):dn (.tref i t)=.tref i t:=rfl
theorem Agm(i o:Nat):dn (.ref i o)=.ref i o:=rfl
theorem AjU(f:Bool)(i t o l:Nat):dn (.bs f i t o l)=.bs f i t o l:=rfl
theorem ZQ(t:TypeId)(x:AV):dn (.iface t x)=.iface t x:=rfl
theorem Ai3{α:Type}(k:α→AV)(h:∀x,dn (k x)=k x)(l:List α):(l.map k).map dn=l.map k:=by simp[Function.comp_def,h]
attribute [go_sem] Ae0 Ahy AeR AeO AbN Aey Aix Aju Afl Agm Ab7 AjU ZQ List.map_cons List.map_nil
def FitS(n:Nat):Prop:=n≤9223372036854775807
instance (n:Nat):Decidable (FitS n):=inferInstanceAs (Decidable (_≤_))
section
variable {t:TypeId}(a b:List UInt8)
theorem S6:AJ E .add t (.str a) (.str b)=if FitS (a.length+b.length)then some (.str (a++b))else none:=rfl
theorem Td:AJ E .eql t (.str a) (.str b)=some (.bool (a==b)):=rfl
theorem Ta:AJ E .neq t (.str a) (.str b)=some (.bool (!(a==b))):=rfl
theorem Tu:AJ E .lss t (.str a) (.str b)=some (.bool (Op.bytesLess a b)):=rfl
theorem RJ:AJ E .leq t (.str a) (.str b)=some (.bool (Op.bytesLess a b||a==b)):=rfl
theorem Tz:AJ E .gtr t (.str a) (.str b)=some (.bool (!(Op.bytesLess a b||a==b))):=rfl
theorem SA:AJ E .geq t (.str a) (.str b)=some (.bool (!Op.bytesLess a b)):=rfl
end
theorem Vx{t:TypeId}{a b:Nat}(ht:E.tab t=some ⟨.string,a,b,z⟩)(s:List UInt8)(x:AV):H7 E t (.str s) x=match idx x s.length with
    |some i=>some (u8 (nth s i))
    |none=>none:=by
  unfold H7;simp only[ht];cases hi:idx x s.length with
  |none=>rfl
  | some i=>
    have hl:i<s.length:=by
      unfold idx at hi;split at hi
      · split at hi
        · rename_i h;cases hi;exact h.2
        · cases hi
      · cases hi
    simp only[AkP hl,nth,AkX];rfl
theorem VN{α:Type}(l:List α):l.toArray.toList=l:=rfl
theorem AbS{α:Type}(l:List α)(i:Nat):l.toArray[i]?=l[i]?:=by simp
theorem Aac(x:Int):AV.int .i64 x=i64 x:=rfl
theorem closed_i64(x:Int):(i64 x).closed=true:=by simp[i64,AV.closed]
theorem closed_u8(x:UInt8):(u8 x).closed=true:=by simp[u8,AV.closed]
theorem closed_u64(x:UInt64):(u64 x).closed=true:=by simp[u64,AV.closed]
theorem closed_bool(x:Bool):(AV.bool x).closed=true:=by simp[AV.closed]
theorem closed_str(x:List UInt8):(AV.str x).closed=true:=by simp[AV.closed]
theorem closed_sl(f:Bool)(x:List (List AV)):(AV.sl f x).closed=true:=by simp[AV.closed]
theorem cells_i64(x:Int):(i64 x).cells?=some [i64 x]:=rfl
theorem cells_u8(x:UInt8):(u8 x).cells?=some [u8 x]:=rfl
theorem cells_u32(x:UInt32):(u32 x).cells?=some [u32 x]:=rfl
theorem cells_u64(x:UInt64):(u64 x).cells?=some [u64 x]:=rfl
theorem cells_bool(x:Bool):(AV.bool x).cells?=some [.bool x]:=rfl
theorem cells_str(x:List UInt8):(AV.str x).cells?=some [.str x]:=rfl
theorem cells_sl(f:Bool)(x:List (List AV)):(AV.sl f x).cells?=some [.sl f x]:=rfl
theorem cells_bs(f:Bool)(a b c d:Nat):(AV.bs f a b c d).cells?=some [.bs f a b c d]:=rfl
theorem cells_nref(a:Nat):(AV.nref a).cells?=some [.nref a]:=rfl
theorem cells_mref(a:Nat):(AV.mref a).cells?=some [.mref a]:=rfl
theorem cells_tref(a b:Nat):(AV.tref a b).cells?=some [.tref a b]:=rfl
theorem cells_ref(a b:Nat):(AV.ref a b).cells?=some [.ref a b]:=rfl
theorem cells_agg(x:List AV):(AV.agg x).cells?=some x:=rfl
theorem fz_i64(x:Int):fz σ (i64 x)=some (i64 x):=rfl
theorem fz_u8(x:UInt8):fz σ (u8 x)=some (u8 x):=rfl
theorem fz_u32(x:UInt32):fz σ (u32 x)=some (u32 x):=rfl
theorem fz_u64(x:UInt64):fz σ (u64 x)=some (u64 x):=rfl
theorem fz_bool(x:Bool):fz σ (.bool x)=some (.bool x):=rfl
theorem fz_str(x:List UInt8):fz σ (.str x)=some (.str x):=rfl
theorem fz_sl(f:Bool)(x:List (List AV)):fz σ (.sl f x)=some (.sl false x):=rfl
theorem fz_fn0(f:FuncId):fz σ (.fn f [])=some (.fn f []):=rfl
theorem fz_bs(f:Bool)(id tot off len:Nat):fz σ (.bs f id tot off len)=match σ[id]? with
 |some (.buf k els ro)=>if els.length=tot∧BA els=true then some (.sl false ((els.drop off).take len))else none
 |_=>none:=rfl
def fzCells(σ:Al):List AV→Option (List AV)
 |[]=>some []
 |x::l=>(Bh σ x).bind fun y=>(fzCells σ l).bind fun ys=>some (y::ys)
theorem O1(σ:Al):∀l:List AV,l.mapM (Bh σ)=fzCells σ l
 |[]=>rfl
 |x::l=>by rw[Ami,O1 σ l];rfl
theorem fz_agg(cs:List AV):fz σ (.agg cs)=(fzCells σ cs).bind fun ys=>some (.agg ys):=by
 show(cs.mapM (Bh σ)).map AV.agg=_;rw[O1];cases fzCells σ cs<;>rfl
theorem fzC_i64(x:Int):Bh σ (i64 x)=some (i64 x):=rfl
theorem fzC_u8(x:UInt8):Bh σ (u8 x)=some (u8 x):=rfl
theorem fzC_u32(x:UInt32):Bh σ (u32 x)=some (u32 x):=rfl
theorem fzC_u64(x:UInt64):Bh σ (u64 x)=some (u64 x):=rfl
theorem fzC_bool(x:Bool):Bh σ (.bool x)=some (.bool x):=rfl
theorem fzC_str(x:List UInt8):Bh σ (.str x)=some (.str x):=rfl
theorem fzC_sl(f:Bool)(x:List (List AV)):Bh σ (.sl f x)=some (.sl false x):=rfl
theorem fzC_bs(f:Bool)(id tot off len:Nat):Bh σ (.bs f id tot off len)=match σ[id]? with
 |some (.buf k els ro)=>if els.length=tot∧BA els=true then some (.sl false ((els.drop off).take len))else none
 |_=>none:=rfl
theorem fzR_tup(xs:List AV):fzR σ (.tup xs)=(fzL σ xs).bind fun ys=>some (.tup ys):=by
 show(xs.mapM (fz σ)).map AV.tup=_;rw[UK];cases fzL σ xs<;>rfl
theorem fzR_i64(x:Int):fzR σ (i64 x)=some (i64 x):=rfl
theorem fzR_u8(x:UInt8):fzR σ (u8 x)=some (u8 x):=rfl
theorem fzR_u32(x:UInt32):fzR σ (u32 x)=some (u32 x):=rfl
theorem fzR_u64(x:UInt64):fzR σ (u64 x)=some (u64 x):=rfl
theorem fzR_bool(x:Bool):fzR σ (.bool x)=some (.bool x):=rfl
theorem fzR_str(x:List UInt8):fzR σ (.str x)=some (.str x):=rfl
theorem fzR_sl(f:Bool)(x:List (List AV)):fzR σ (.sl f x)=fz σ (.sl f x):=rfl
theorem fzR_bs(f:Bool)(a b c d:Nat):fzR σ (.bs f a b c d)=fz σ (.bs f a b c d):=rfl
theorem fzR_agg(x:List AV):fzR σ (.agg x)=fz σ (.agg x):=rfl
theorem Afx(b:Bool):MG .not (.bool b)=some (.bool !b):=rfl
theorem Ae7{t:TypeId}{ts:List TypeId}(x:AV):AW E σ .len (t::ts) [x]=(W5 E σ t x).map fun(n:Nat)=>(AV.int .i64 (n:Int),σ):=rfl
theorem AdK{t:TypeId}{ts:List TypeId}(x y:AV):AW E σ .copy (t::ts) [x,y]=XS E σ t x y:=rfl
theorem P3:BA []=true:=rfl
theorem NO{x:List AV}{l:List (List AV)}:BA (x::l)=(x.all AV.closed&&BA l):=rfl
theorem OT{l m:List (List AV)}:BA (l++m)=(BA l&&BA m):=by simp[BA]
def Akg(d:Option Tmp)(fr:Fr):Option (AV×Al)→Option (Fr×Al)
 |none=>none
 |some r=>some (put d r.1 fr,r.2)
def Abe(E:Env)(dr:Bool)(ops:Array Oper)(o:Oper)(σ:Al)(r:Option (AV×Al)):Option (AV×Al) :=
 match dr,o.op with
 |true,.buildSlice ..=>r.bind (Ft (EQ E ops o) σ)
 |true,.convert ..=>r.bind (Ft (EQ E ops o) σ)
 |_,_=>r
theorem AcP{ops:Array Oper}{o:Oper}{σ:Al}{r:Option (AV×Al)}:Abe E dr ops o σ r=r.bind (Ft (dr&&EQ E ops o) σ):=by
  have e:∀σ,Ft false σ=some:=fun σ=>by funext r;simp[Ft]
  cases dr with
  | false=>
    have:Abe E false ops o σ r=r:=by unfold Abe;split<;>first|rfl|(rename_i h _;cases h)
    rw[this,Bool.false_and,e,Bt]
  | true=>
    rw[Ang];cases hf:EQ E ops o with
    | false=>
      unfold Abe;split
      · rw[hf]
      · rw[hf]
      · rw[e,Bt]
    | true=>
      rcases DB hf with⟨t,n,l,h⟩|⟨s,d,x,h,_⟩
      · unfold Abe;simp only[h,hf]
      · unfold Abe;simp only[h,hf]
def goO(E:Env)(orc:Orc)(dr:Bool)(n:Nat)(ops:Array Oper)(o:Oper)(s:Fr×Al)(wt:Option Bool):Option (Fr×Al) :=
 match wt with
 |some true=>Akg o.dst (Hx dr n o.op s).1 (Abe E dr ops o (Hx dr n o.op s).2 (opL E orc dr (evL n (Hx dr n o.op s).1) (Hx dr n o.op s).2 o.op))
 |some false=>some (put o.dst (.tup []) s.1,s.2)
 |none=>none
def ZZ(E:Env)(orc:Option Tmp→Orc)(dr:Bool)(n:Nat)(ops:Array Oper)(o:Oper):Option (Fr×Al)→Option (Fr×Al)
 |none=>none
 |some s=>goO E (orc o.dst) dr n ops o s (NS ops n s.1 o)
def HK(E:Env)(orc:Option Tmp→Orc)(dr:Bool)(n:Nat)(ops:Array Oper):List Oper→Option (Fr×Al)→Option (Fr×Al)
 |[],s=>s
 |o::l,s=>HK E orc dr n ops l (ZZ E orc dr n ops o s)
def AbV(ts:List Nat):Option (Fr×Al)→Option (Fr×Al)
 |none=>none
 |some s=>some (keep ts s.1,s.2)
theorem Aak{orc:Option Tmp→Orc}{ops:Array Oper}{o:Oper}{s:Fr×Al}:ZZ E orc dr n ops o (some s)=Ob E orc dr n ops o s:=by
 unfold Ob;show goO E (orc o.dst) dr n ops o s (NS ops n s.1 o)=_;unfold goO;split
 ·rename_i h;simp only[h,AcP];unfold Akg;cases(opL E (orc o.dst) dr (evL n (Hx dr n o.op s).1) (Hx dr n o.op s).2 o.op).bind (Ft (dr&&EQ E ops o) (Hx dr n o.op s).2)<;>rfl
 ·rename_i h;simp only[h]
 ·rename_i h;simp only[h]
theorem Ho{orc:Option Tmp→Orc}{dr:Bool}{n:Nat}{ops:Array Oper}:∀l:List Oper,HK E orc dr n ops l none=none
 |[]=>rfl
 |_::l=>Ho l
theorem EC{orc:Option Tmp→Orc}{dr:Bool}{n:Nat}{ops:Array Oper}:∀(l:List Oper) (s:Fr×Al),HK E orc dr n ops l (some s)=BE E orc dr n ops l s
  |[],_=>rfl
  | o::l,s=>by
    show HK E orc dr n ops l (ZZ E orc dr n ops o (some s))=(Ob E orc dr n ops o s).bind _;rw[Aak];cases Ob E orc dr n ops o s with
    |none=>exact Ho l
    |some s'=>exact EC l s'
theorem Ab1{orc:Option Tmp→Orc}{l:List Oper}{ts:List Nat}{s:Fr×Al}:KZ E orc dr n l ts s=AbV ts (HK E orc dr n l.toArray l (some s)):=by
 rw[EC];unfold KZ AbV;cases BE E orc dr n l.toArray l s<;>rfl
attribute [go_sem] Ab1 HK ZZ goO Akg AbV Abe Ft EQ Acg Xt MR Yx DT He List.any_cons List.any_nil Bool.or_false Bool.or_true Bool.false_or Bool.true_or Nat.reduceBEq
theorem Xx(t:Tmp):M4 (.tmp t)=false:=rfl
theorem WJ(k:IntKind)(n:Int):M4 (.const (.int k n))=false:=rfl
theorem W0(s:ByteArray):M4 (.const (.string s))=false:=rfl
theorem VJ(b:Bool):M4 (.const (.bool b))=false:=rfl
theorem XT:M4 (.const .nilIface)=true:=rfl
theorem Ahq(x y:Option AV):goB true x y=x:=rfl
theorem Ahk(x y:Option AV):goB false x y=y:=rfl
theorem SD(id:Nat):F5 id (.val (.pointer none))=.nref id:=rfl
theorem UW(id:Nat)(f:Bool)(l:List (List AV)):F5 id (.sl f l)=.sl f l:=rfl
attribute [go_sem] SD UW
attribute [go_sem] Xx WJ W0 VJ XT Ahq Ahk eqB
attribute [go_sem] look put keep evL NS Of opL NK Wi TC fzL VN AbS Rs Re Rg Si SR Rm UQ S8 SJ Tc Sl RN SL S4 UN V8 Vj Tp RA US S5 Nl N5 N4 UP RF Sh Sa SS Vu RQ SG Rp SP RD S0 SI T1 Nz Mo MZ VD Sy PH SF Ry SZ SQ S3 Iz S6 Td Ta Tu RJ Tz SA AcJ Aes AdA Abq ZS Aef HD Aac Ng Mf Aeo WB AaB Ag2 Aew AeP Abk Aa5 Ah7 Akh L_ok L_eq_nil L_closed L_bytes ovl_L closed_i64 closed_u8 closed_u64 closed_bool closed_str closed_sl cells_i64 cells_u8 cells_u32 cells_u64 cells_bool cells_str cells_sl cells_bs cells_ref cells_tref cells_nref cells_mref cells_agg fz_i64 fz_u8 fz_u32 fz_u64 fz_bool fz_str fz_sl fz_fn0 fz_bs fz_agg fzCells fzC_i64 fzC_u8 fzC_u32 fzC_u64 fzC_bool fzC_str fzC_sl fzC_bs fzR_tup fzR_i64 fzR_u8 fzR_u32 fzR_u64 fzR_bool fzR_str fzR_sl fzR_bs fzR_agg loadA storeA splice partA TD.isAgg FG FS W5 Bm Qp XH PR RS CZ K5 Afx Gv Gp BV Hw Wg Ae7 AdK XS P3 NO OT WP AbQ Aap W7 X9 TG Pk ownT cU8 cU32 Pi Iy Xp AeY cSl Aj3 Ag4 Aj4 AhQ
end Go.Rv
