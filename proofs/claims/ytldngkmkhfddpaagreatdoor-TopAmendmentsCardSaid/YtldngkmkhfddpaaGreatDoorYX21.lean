/-
  Part 21.
-/
import Derived.Test.YtldngkmkhfddpaaGreatDoorYX20
namespace Go.Rv
set_option linter.unusedVariables false
set_option linter.unusedSimpArgs false
variable{l:List Int}
variable {E:Env}{O:Ac}
structure Arr(α:Type)(n:Nat) where
  l:List α
  h:l.length=n
  deriving DecidableEq
def Arr.rep{α:Type}(n:Nat)(x:α):Arr α n:=⟨List.replicate n x,Arv⟩
def Arr.set{α:Type}{n:Nat}(a:Arr α n)(i:Nat)(x:α):Arr α n:=⟨a.l.set i x,by rw[AqK,a.h]⟩
def Arr.get{α:Type}[Inhabited α]{n:Nat}(a:Arr α n)(i:Nat):α:=nth a.l i
instance {α:Type}[Inhabited α]{n:Nat}:Inhabited (Arr α n):=⟨Arr.rep n default⟩
theorem Arr.ext'{α:Type}{n:Nat}{a b:Arr α n}(h:a.l=b.l):a=b:=by cases a;cases b;cases h;rfl
def C1{α:Type}(c:α->AV)(l:List α):List AV:=l.map c
section
variable {α:Type}{c:α->AV}{n:Nat}{a b:Arr α n}
theorem DK:(C1 c a.l).length=n:=by simp[C1,a.h]
theorem Xg[Inhabited α]{i:Nat}(h:i<n):(C1 c a.l)[i]?=some (c (a.get i)):=by
 have:i<a.l.length:=by rw[a.h];exact h
 simp[C1,Arr.get,nth,this]
theorem Alw{i:Nat}{x:α}:C1 c (a.set i x).l=(C1 c a.l).set i (c x):=by simp[C1,Arr.set,Ar4]
theorem C1_take:(C1 c a.l).take n=C1 c a.l:=ApW (Nat.le_of_eq DK)
theorem C1_ne(h:(n==0)=false):(C1 c a.l=[])=False:=by
 refine AqO ?_;intro e;have:=Ap2 List.length e;rw[DK]at this;simp at this;simp[this]at h
theorem Im{x:α}:C1 c (Arr.rep n x).l=List.replicate n (c x):=by simp[C1,Arr.rep]
theorem Jw{cs:List AV}{off:Nat}{x:AV}{xs:List AV}:splice cs off (x::xs)=splice (cs.set off x) (off+1) xs:=rfl
theorem IB:C1 c []=[]:=rfl
theorem GA{x:α}{l:List α}:C1 c (x::l)=c x::C1 c l:=rfl
theorem Sz(h:∀x,(c x).closed=true){l:List α}:(C1 c l).all AV.closed=true:=by
 simp[C1,h]
theorem PR(h:∀x,(c x).flat=true){l:List α}:(C1 c l).all AV.flat=true:=by
 simp[C1,h]
theorem H4(h:∀x,Bm O (c x)=some (c x)):∀{l:List α},fzCells O (C1 c l)=some (C1 c l)
 |[]=>rfl
 |x::l=>by
  show(Bm O (c x)).bind (fun y=>(fzCells O (C1 c l)).bind fun ys=>some (y::ys))=_;rw[h,H4 h];rfl
theorem ZT{sel:List Nat}(h:∀x,wk0 sel (c x) (c x)):∀{l:List α},wkL sel (C1 c l) (C1 c l)=True
 |[]=>by simp[C1,wkL]
 |x::l=>by
  refine eq_true ⟨h x,?_⟩;exact ArU (ZT h)
end
theorem AeZ{α:Type}{c:α->AV}(h:∀x,(match c x with|.bs _ id ..=>some id|_=>none)=none){l:List α}:BW (.agg (C1 c l))=[]:=by
 show(C1 c l).filterMap _=[];simp only[C1,List.filterMap_map,List.filterMap_eq_nil_iff];intro x _;exact h x
theorem bsI64:BW (.agg (C1 i64 l))=[]:=AeZ (fun _=>rfl)
theorem flU8{l:List UInt8}:(C1 u8 l).all AV.flat=true:=PR fun _=>rfl
theorem flU32{l:List UInt32}:(C1 u32 l).all AV.flat=true:=PR fun _=>rfl
theorem flU64{l:List UInt64}:(C1 u64 l).all AV.flat=true:=PR fun _=>rfl
theorem flI64:(C1 i64 l).all AV.flat=true:=PR fun _=>rfl
theorem clI64:(C1 i64 l).all AV.closed=true:=Sz fun _=>closed_i64 _
theorem fzU8{l:List UInt8}:fzCells O (C1 u8 l)=some (C1 u8 l):=H4 fun _=>rfl
theorem fzU32{l:List UInt32}:fzCells O (C1 u32 l)=some (C1 u32 l):=H4 fun _=>rfl
theorem fzU64{l:List UInt64}:fzCells O (C1 u64 l)=some (C1 u64 l):=H4 fun _=>rfl
theorem fzI64:fzCells O (C1 i64 l)=some (C1 i64 l):=H4 fun _=>rfl
theorem wkI64{sel:List Nat}:wkL sel (C1 i64 l) (C1 i64 l)=True:=ZT fun _=>ArU Wl
theorem Ac2{i n:Nat}(h:i<n):i+1<=n:=h
theorem QH{t e n a b:Nat}{z:List AV}{de:TD}(ht:E.tab t=some ⟨.array n e,a,b,z⟩)(he:E.tab e=some de)(cs:List AV)(x:AV) :JC E t (.agg cs) x=match idx x n with
  |some i=>partA de cs (i*de.size)
  |none=>none:=by
 unfold JC;simp only[ht,he];cases idx x n<;>rfl
attribute [go_sem] DK Xg Alw C1_take C1_ne bsI64 flU8 flU32 flU64 flI64 clI64 fzU8 fzU32 fzU64 fzI64 wkI64 Nat.le_refl Js Z5 SS
end Go.Rv
