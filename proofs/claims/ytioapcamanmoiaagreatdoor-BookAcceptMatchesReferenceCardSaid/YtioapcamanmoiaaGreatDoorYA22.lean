/-
  Part 22.
-/
import Derived.Test.YtioapcamanmoiaaGreatDoorYA21
namespace Go.Rv
variable{l:List UInt8}
variable {E:Env}{σ:Ad}
structure Arr(α:Type)(n:Nat) where
  l:List α
  h:l.length=n
  deriving DecidableEq
def Arr.rep{α:Type}(n:Nat)(x:α):Arr α n:=⟨List.replicate n x,Au5⟩
def Arr.set{α:Type}{n:Nat}(a:Arr α n)(i:Nat)(x:α):Arr α n:=⟨a.l.set i x,by rw[Auw,a.h]⟩
def Arr.get{α:Type}[Inhabited α]{n:Nat}(a:Arr α n)(i:Nat):α:=nth a.l i
instance {α:Type}[Inhabited α]{n:Nat}:Inhabited (Arr α n):=⟨Arr.rep n default⟩
theorem Arr.ext'{α:Type}{n:Nat}{a b:Arr α n}(h:a.l=b.l):a=b:=by cases a;cases b;cases h;rfl
def C1{α:Type}(c:α→AV)(l:List α):List AV:=l.map c
section
variable {α:Type}{c:α→AV}{n:Nat}{a b:Arr α n}
theorem Em:(C1 c a.l).length=n:=by simp[C1,a.h]
theorem Ag0[Inhabited α]{i:Nat}(h:i<n):(C1 c a.l)[i]?=some (c (a.get i)):=by
 have:i<a.l.length:=by rw[a.h];exact h
 simp[C1,Arr.get,nth,this]
theorem Ali{i:Nat}{x:α}:C1 c (a.set i x).l=(C1 c a.l).set i (c x):=by simp[C1,Arr.set,AvI]
theorem C1_take:(C1 c a.l).take n=C1 c a.l:=Aut (AvH Em)
theorem C1_ne(h:(n==0)=false):(C1 c a.l=[])=False:=by
 refine At7 ?_;intro e;have:=Auy List.length e;rw[Em]at this;simp at this;simp[this]at h
theorem GA{x:α}:C1 c (Arr.rep n x).l=List.replicate n (c x):=by simp[C1,Arr.rep]
theorem Gr{cs:List AV}{off:Nat}{x:AV}{xs:List AV}:splice cs off (x::xs)=splice (cs.set off x) (off+1) xs:=rfl
theorem GQ:C1 c []=[]:=rfl
theorem ER{x:α}{l:List α}:C1 c (x::l)=c x::C1 c l:=rfl
theorem TU(h:∀x,(c x).closed=true){l:List α}:(C1 c l).all AV.closed=true:=by
 simp[C1,h]
theorem Q0(h:∀x,(c x).flat=true){l:List α}:(C1 c l).all AV.flat=true:=by
 simp[C1,h]
theorem Ha(h:∀x,B3 σ (c x)=some (c x)):∀{l:List α},fzCells σ (C1 c l)=some (C1 c l)
  |[]=>rfl
  | x::l=>by
    show(B3 σ (c x)).bind (fun y=>(fzCells σ (C1 c l)).bind fun ys=>some (y::ys))=_;rw[h,Ha h];rfl
theorem ZG{sel:List Nat}(h:∀x,wk0 sel (c x) (c x)):∀{l:List α},wkL sel (C1 c l) (C1 c l)=True
  |[]=>by simp[C1,wkL]
  | x::l=>by
    refine eq_true ⟨h x,?_⟩;exact Avx (ZG h)
end
theorem ZL{α:Type}{c:α→AV}(h:∀x,(match c x with|.bs _ id ..=>some id|_=>none)=none){l:List α}:Ci (.agg (C1 c l))=[]:=by
 show(C1 c l).filterMap _=[];simp only[C1,List.filterMap_map,List.filterMap_eq_nil_iff];intro x _;exact h x
theorem AgE:(C1 u8 l).map (fun c=>[c])=L cU8 l:=by simp[C1,L,cU8]
theorem bsU8:Ci (.agg (C1 u8 l))=[]:=ZL (fun _=>rfl)
theorem bsU32{l:List UInt32}:Ci (.agg (C1 u32 l))=[]:=ZL (fun _=>rfl)
theorem flU8:(C1 u8 l).all AV.flat=true:=Q0 fun _=>rfl
theorem flU32{l:List UInt32}:(C1 u32 l).all AV.flat=true:=Q0 fun _=>rfl
theorem flU64{l:List UInt64}:(C1 u64 l).all AV.flat=true:=Q0 fun _=>rfl
theorem flI64{l:List Int}:(C1 i64 l).all AV.flat=true:=Q0 fun _=>rfl
theorem clU8:(C1 u8 l).all AV.closed=true:=TU fun _=>closed_u8 _
theorem fzU8:fzCells σ (C1 u8 l)=some (C1 u8 l):=Ha fun _=>rfl
theorem fzU32{l:List UInt32}:fzCells σ (C1 u32 l)=some (C1 u32 l):=Ha fun _=>rfl
theorem fzU64{l:List UInt64}:fzCells σ (C1 u64 l)=some (C1 u64 l):=Ha fun _=>rfl
theorem fzI64{l:List Int}:fzCells σ (C1 i64 l)=some (C1 i64 l):=Ha fun _=>rfl
theorem wkU8{sel:List Nat}:wkL sel (C1 u8 l) (C1 u8 l)=True:=ZG fun _=>Avx Ab9
theorem wkU32{sel:List Nat}{l:List UInt32}:wkL sel (C1 u32 l) (C1 u32 l)=True:=ZG fun _=>Avx AbZ
theorem Ao3{i n:Nat}(h:i<n):i+1≤n:=h
theorem Sg{t e n a b:Nat}{z:List AV}{de:TD}(ht:E.tab t=some ⟨.array n e,a,b,z⟩)(he:E.tab e=some de)(cs:List AV)(x:AV) :JL E t (.agg cs) x=match idx x n with
  |some i=>partA de cs (i*de.size)
  |none=>none:=by
 unfold JL;simp only[ht,he];cases idx x n<;>rfl
attribute [go_sem] AgE Em Ag0 Ali C1_take C1_ne bsU8 bsU32 flU8 flU32 flU64 flI64 clU8 fzU8 fzU32 fzU64 fzI64 wkU8 wkU32 Nat.le_refl Jy Aae Vn
end Go.Rv
