/-
  Part 22.
-/
import Derived.Test.YtioapcamanmoiaaGreatDoorYR21
namespace Go.Rv
set_option linter.unusedVariables false
set_option linter.unusedSimpArgs false
variable{l:List UInt8}
variable {E:Env}{σ:Ab}
structure Arr(α:Type)(n:Nat) where
  l:List α
  h:l.length=n
  deriving DecidableEq
def Arr.rep{α:Type}(n:Nat)(x:α):Arr α n:=⟨List.replicate n x,Arg⟩
def Arr.set{α:Type}{n:Nat}(a:Arr α n)(i:Nat)(x:α):Arr α n:=⟨a.l.set i x,by rw[Aqy,a.h]⟩
def Arr.get{α:Type}[Inhabited α]{n:Nat}(a:Arr α n)(i:Nat):α:=nth a.l i
instance {α:Type}[Inhabited α]{n:Nat}:Inhabited (Arr α n):=⟨Arr.rep n default⟩
theorem Arr.ext'{α:Type}{n:Nat}{a b:Arr α n}(h:a.l=b.l):a=b:=by cases a;cases b;cases h;rfl
def C1{α:Type}(c:α→AV)(l:List α):List AV:=l.map c
section
variable {α:Type}{c:α→AV}{n:Nat}{a b:Arr α n}
theorem DG:(C1 c a.l).length=n:=by simp[C1,a.h]
theorem AdA[Inhabited α]{i:Nat}(h:i<n):(C1 c a.l)[i]?=some (c (a.get i)):=by
 have:i<a.l.length:=by rw[a.h];exact h
 simp[C1,Arr.get,nth,this]
theorem Aii{i:Nat}{x:α}:C1 c (a.set i x).l=(C1 c a.l).set i (c x):=by simp[C1,Arr.set,ArD]
theorem C1_take:(C1 c a.l).take n=C1 c a.l:=Aps (ArC DG)
theorem C1_ne(h:(n==0)=false):(C1 c a.l=[])=False:=by
 refine ApV ?_;intro e;have:=ApW List.length e;rw[DG]at this;simp at this;simp[this]at h
theorem Js{x:α}:C1 c (Arr.rep n x).l=List.replicate n (c x):=by simp[C1,Arr.rep]
theorem EB{cs:List AV}{off:Nat}{x:AV}{xs:List AV}:splice cs off (x::xs)=splice (cs.set off x) (off+1) xs:=rfl
theorem Kv:C1 c []=[]:=rfl
theorem H9{x:α}{l:List α}:C1 c (x::l)=c x::C1 c l:=rfl
theorem Rh(h:∀x,(c x).closed=true){l:List α}:(C1 c l).all AV.closed=true:=by
 simp[C1,h]
theorem O4(h:∀x,(c x).flat=true){l:List α}:(C1 c l).all AV.flat=true:=by
 simp[C1,h]
theorem F7(h:∀x,Bf σ (c x)=some (c x)):∀{l:List α},fzCells σ (C1 c l)=some (C1 c l)
  |[]=>rfl
  | x::l=>by
    show(Bf σ (c x)).bind (fun y=>(fzCells σ (C1 c l)).bind fun ys=>some (y::ys))=_;rw[h,F7 h];rfl
theorem Vx{sel:List Nat}(h:∀x,wk0 sel (c x) (c x)):∀{l:List α},wkL sel (C1 c l) (C1 c l)=True
  |[]=>by simp[C1,wkL]
  | x::l=>by
    refine eq_true ⟨h x,?_⟩;exact Arq (Vx h)
end
theorem Wf{α:Type}{c:α→AV}(h:∀x,(match c x with|.bs _ id ..=>some id|_=>none)=none){l:List α}:BB (.agg (C1 c l))=[]:=by
 show(C1 c l).filterMap _=[];simp only[C1,List.filterMap_map,List.filterMap_eq_nil_iff];intro x _;exact h x
theorem AcM:(C1 u8 l).map (fun c=>[c])=L cU8 l:=by simp[C1,L,cU8]
theorem bsU8:BB (.agg (C1 u8 l))=[]:=Wf (fun _=>rfl)
theorem bsU32{l:List UInt32}:BB (.agg (C1 u32 l))=[]:=Wf (fun _=>rfl)
theorem flU8:(C1 u8 l).all AV.flat=true:=O4 fun _=>rfl
theorem flU32{l:List UInt32}:(C1 u32 l).all AV.flat=true:=O4 fun _=>rfl
theorem flU64{l:List UInt64}:(C1 u64 l).all AV.flat=true:=O4 fun _=>rfl
theorem flI64{l:List Int}:(C1 i64 l).all AV.flat=true:=O4 fun _=>rfl
theorem clU8:(C1 u8 l).all AV.closed=true:=Rh fun _=>closed_u8 _
theorem fzU8:fzCells σ (C1 u8 l)=some (C1 u8 l):=F7 fun _=>rfl
theorem fzU32{l:List UInt32}:fzCells σ (C1 u32 l)=some (C1 u32 l):=F7 fun _=>rfl
theorem fzU64{l:List UInt64}:fzCells σ (C1 u64 l)=some (C1 u64 l):=F7 fun _=>rfl
theorem fzI64{l:List Int}:fzCells σ (C1 i64 l)=some (C1 i64 l):=F7 fun _=>rfl
theorem wkU8{sel:List Nat}:wkL sel (C1 u8 l) (C1 u8 l)=True:=Vx fun _=>Arq Aag
theorem wkU32{sel:List Nat}{l:List UInt32}:wkL sel (C1 u32 l) (C1 u32 l)=True:=Vx fun _=>Arq YY
theorem Ak0{i n:Nat}(h:i<n):i+1≤n:=h
theorem Qg{t e n a b:Nat}{z:List AV}{de:TD}(ht:E.tab t=some ⟨.array n e,a,b,z⟩)(he:E.tab e=some de)(cs:List AV)(x:AV) :IA E t (.agg cs) x=match idx x n with
  |some i=>partA de cs (i*de.size)
  |none=>none:=by
 unfold IA;simp only[ht,he];cases idx x n<;>rfl
attribute [go_sem] AcM DG AdA Aii C1_take C1_ne bsU8 bsU32 flU8 flU32 flU64 flI64 clU8 fzU8 fzU32 fzU64 fzI64 wkU8 wkU32 Nat.le_refl H1 WG SW
end Go.Rv
