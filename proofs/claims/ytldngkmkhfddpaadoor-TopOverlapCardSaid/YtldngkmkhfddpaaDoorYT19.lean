/-
  Part 19.
-/
import Derived.Test.YtldngkmkhfddpaaDoorYT18
import Derived.Attr
namespace Go.Rv
set_option linter.unusedVariables false
set_option linter.unusedSimpArgs false
variable {E:Env}
def i64(x:Int):AV:=.int .i64 x
def u8(x:UInt8):AV:=.int .u8 (x.toNat:Int)
def u16(x:UInt16):AV:=.int .u16 (x.toNat:Int)
def u32(x:UInt32):AV:=.int .u32 (x.toNat:Int)
def u64(x:UInt64):AV:=.int .u64 (x.toNat:Int)
def w64(x:Int):Int:=IntKind.i64.wrap x
theorem JI{x:Int}(h:-9223372036854775808≤x∧x≤9223372036854775807):w64 x=x:=by
 unfold w64;rw[IntKind.wrap_i64];omega
def shl8(x:UInt8)(n:Nat):UInt8:=⟨x.toBitVec <<< n⟩
def Qm(x:UInt64)(n:Nat):UInt64:=⟨x.toBitVec >>> n⟩
def X8(a b:Int):Int:=IntKind.i64.wrap ((BitVec.ofInt 64 a &&& BitVec.ofInt 64 b).toNat:Int)
def or64(a b:Int):Int:=IntKind.i64.wrap ((BitVec.ofInt 64 a ||| BitVec.ofInt 64 b).toNat:Int)
def ZK(a b:Int):Int:=IntKind.i64.wrap ((BitVec.ofInt 64 a ^^^ BitVec.ofInt 64 b).toNat:Int)
def Aew(a n:Int):Int:=w64 (a*2^(min n.toNat 64))
def InR(x:Int)(n:Nat):Prop:=0≤x∧x.toNat<n
def InB(x:Int)(n:Nat):Prop:=0≤x∧x.toNat≤n
def Iu(n bytes:Nat):Prop:=n≤maxLen∧n*bytes≤FV
instance (x:Int)(n:Nat):Decidable (InR x n):=inferInstanceAs (Decidable (_∧_))
instance (x:Int)(n:Nat):Decidable (InB x n):=inferInstanceAs (Decidable (_∧_))
instance (n b:Nat):Decidable (Iu n b):=inferInstanceAs (Decidable (_∧_))
theorem Y7(x:Int)(n:Nat):idx (i64 x) n=if InR x n then some x.toNat else none:=rfl
theorem Aa3(x:UInt8)(n:Nat):idx (u8 x) n=if InR (x.toNat:Int) n then some x.toNat else none:=rfl
theorem Yq(x:UInt32)(n:Nat):idx (u32 x) n=if InR (x.toNat:Int) n then some x.toNat else none:=rfl
theorem YD(x:UInt64)(n:Nat):idx (u64 x) n=if InR (x.toNat:Int) n then some x.toNat else none:=rfl
theorem Wl(x:Int)(n:Nat):ZS (i64 x) n=if InB x n then some x.toNat else none:=rfl
theorem YN(a b:Nat):((a:Int)==(b:Int))=(a==b):=by
 rw[Bool.eq_iff_iff];simp only[beq_iff_eq];omega
section
variable {t:TypeId}
theorem P4(a b:Int):Bs E .add t (i64 a) (i64 b)=some (i64 (w64 (a+b))):=rfl
theorem Qc(a b:Int):Bs E .sub t (i64 a) (i64 b)=some (i64 (w64 (a-b))):=rfl
theorem Pr(a b:Int):Bs E .mul t (i64 a) (i64 b)=some (i64 (w64 (a*b))):=rfl
theorem Pm(a b:Int):Bs E .quo t (i64 a) (i64 b)=if b=0 then none else some (i64 (w64 (a.tdiv b))):=rfl
theorem Qa(a b:Int):Bs E .rem t (i64 a) (i64 b)=if b=0 then none else some (i64 (a.tmod b)):=rfl
theorem Qw(a b:Int):Bs E .and t (i64 a) (i64 b)=some (i64 (X8 a b)):=rfl
theorem Ta(a b:Int):Bs E .or t (i64 a) (i64 b)=some (i64 (or64 a b)):=rfl
theorem PA(a b:Int):Bs E .xor t (i64 a) (i64 b)=some (i64 (ZK a b)):=rfl
theorem Pk(a b:Int):Bs E .eql t (i64 a) (i64 b)=some (.bool (a==b)):=rfl
theorem PW(a b:Int):Bs E .neq t (i64 a) (i64 b)=some (.bool (a != b)):=rfl
theorem QA(a b:Int):Bs E .lss t (i64 a) (i64 b)=some (.bool (decide (a<b))):=rfl
theorem Pz(a b:Int):Bs E .leq t (i64 a) (i64 b)=some (.bool (decide (a≤b))):=rfl
theorem P2(a b:Int):Bs E .gtr t (i64 a) (i64 b)=some (.bool (decide (a>b))):=rfl
theorem Pw(a b:Int):Bs E .geq t (i64 a) (i64 b)=some (.bool (decide (a≥b))):=rfl
theorem Sv(a:Int):Ox .neg (i64 a)=some (i64 (w64 (0-a))):=rfl
theorem SM(a:Int):Ox .xor (i64 a)=some (i64 (ZK (-1) a)):=rfl
theorem UN(n:Int):IntKind.u8.wrap n=n%256:=by rw[IntKind.wrap_u8]
theorem Kz(n:Int):IntKind.u64.wrap n=n%18446744073709551616:=by rw[IntKind.wrap_u64]
theorem Mp{k:IntKind}{a b:Int}(h:a=b):some (AV.int k a)=some (AV.int k b):=by rw[h]
theorem RZ(a b:UInt8):Bs E .sub t (u8 a) (u8 b)=some (u8 (a-b)):=Mp (by rw[UN,UInt8.toNat_sub];have:=a.toNat_lt;have:=b.toNat_lt;omega)
theorem PI(a b:UInt64):Bs E .add t (u64 a) (u64 b)=some (u64 (a+b)):=Mp (by rw[Kz,UInt64.toNat_add];omega)
theorem Qv(a b:UInt64):Bs E .mul t (u64 a) (u64 b)=some (u64 (a*b)):=Mp (by rw[Kz,UInt64.toNat_mul];simp)
theorem Rc{w:Nat}(n:Nat):BitVec.ofInt w (n:Int)=BitVec.ofNat w n:=by
 apply BitVec.eq_of_toNat_eq
 rw[BitVec.toNat_ofInt,BitVec.toNat_ofNat]
 omega
theorem Adz(f:BitVec 8→BitVec 8→BitVec 8)(a b:UInt8):MZ .u8 f (a.toNat:Int) (b.toNat:Int)=u8 ⟨f a.toBitVec b.toBitVec⟩:=by
 unfold MZ u8
 congr 1
 show IntKind.u8.wrap ((f (BitVec.ofInt 8 (a.toNat:Int)) (BitVec.ofInt 8 (b.toNat:Int))).toNat:Int)=_
 rw[Rc,Rc,UN]
 have ha:BitVec.ofNat 8 a.toNat=a.toBitVec:=by apply BitVec.eq_of_toNat_eq;rw[BitVec.toNat_ofNat,UInt8.toNat_toBitVec];exact Nat.mod_eq_of_lt a.toNat_lt
 have hb:BitVec.ofNat 8 b.toNat=b.toBitVec:=by apply BitVec.eq_of_toNat_eq;rw[BitVec.toNat_ofNat,UInt8.toNat_toBitVec];exact Nat.mod_eq_of_lt b.toNat_lt
 rw[ha,hb]
 have:=(f a.toBitVec b.toBitVec).isLt
 show((f a.toBitVec b.toBitVec).toNat:Int)%256=((f a.toBitVec b.toBitVec).toNat:Int)
 omega
theorem Aar(f:BitVec 64→BitVec 64→BitVec 64)(a b:UInt64):MZ .u64 f (a.toNat:Int) (b.toNat:Int)=u64 ⟨f a.toBitVec b.toBitVec⟩:=by
 unfold MZ u64
 congr 1
 show IntKind.u64.wrap ((f (BitVec.ofInt 64 (a.toNat:Int)) (BitVec.ofInt 64 (b.toNat:Int))).toNat:Int)=_
 rw[Rc,Rc,Kz]
 have ha:BitVec.ofNat 64 a.toNat=a.toBitVec:=by apply BitVec.eq_of_toNat_eq;rw[BitVec.toNat_ofNat,UInt64.toNat_toBitVec];exact Nat.mod_eq_of_lt a.toNat_lt
 have hb:BitVec.ofNat 64 b.toNat=b.toBitVec:=by apply BitVec.eq_of_toNat_eq;rw[BitVec.toNat_ofNat,UInt64.toNat_toBitVec];exact Nat.mod_eq_of_lt b.toNat_lt
 rw[ha,hb]
 have:=(f a.toBitVec b.toBitVec).isLt
 show((f a.toBitVec b.toBitVec).toNat:Int)%18446744073709551616=((f a.toBitVec b.toBitVec).toNat:Int)
 omega
theorem TV(a b:UInt8):Bs E .or t (u8 a) (u8 b)=some (u8 (a ||| b)):=congrArg some (Adz _ a b)
theorem QO(a b:UInt64):Bs E .and t (u64 a) (u64 b)=some (u64 (a &&& b)):=congrArg some (Aar _ a b)
theorem S5(a:UInt64):Ox .neg (u64 a)=some (u64 (0-a)):=Mp (by rw[Kz,UInt64.toNat_sub];have:=a.toNat_lt;simp;omega)
theorem XU(a b:UInt8):((a.toNat:Int)==(b.toNat:Int))=(a==b):=by rw[Bool.eq_iff_iff];simp only[beq_iff_eq];rw[←UInt8.toNat_inj];omega
theorem YT(a b:UInt64):((a.toNat:Int)==(b.toNat:Int))=(a==b):=by rw[Bool.eq_iff_iff];simp only[beq_iff_eq];rw[←UInt64.toNat_inj];omega
theorem Ge{a b:Bool}(h:a=b):some (AV.bool a)=some (AV.bool b):=by rw[h]
theorem US{p q:Prop}[Decidable p][Decidable q](h:p↔q):decide p=decide q:=by simp only[h]
theorem SS(a b:UInt8):Bs E .eql t (u8 a) (u8 b)=some (.bool (a==b)):=Ge (XU a b)
theorem Sw(a b:UInt8):Bs E .neq t (u8 a) (u8 b)=some (.bool (a != b)):=Ge (congrArg not (XU a b))
theorem Sd(a b:UInt8):Bs E .leq t (u8 a) (u8 b)=some (.bool (decide (a≤b))):=Ge (US (by rw[UInt8.le_iff_toNat_le];omega))
theorem Sz(a b:UInt8):Bs E .geq t (u8 a) (u8 b)=some (.bool (decide (a≥b))):=Ge (US (by rw[ge_iff_le,ge_iff_le,UInt8.le_iff_toNat_le];omega))
theorem P8(a b:UInt64):Bs E .neq t (u64 a) (u64 b)=some (.bool (a != b)):=Ge (congrArg not (YT a b))
theorem QL(a b:UInt64):Bs E .gtr t (u64 a) (u64 b)=some (.bool (decide (a>b))):=Ge (US (by rw[gt_iff_lt,gt_iff_lt,UInt64.lt_iff_toNat_lt];omega))
theorem Yj{w n:Nat}(a:Nat)(ha:a<2^w):a/2^(min n w)=a >>> n:=by
 rw[Nat.shiftRight_eq_div_pow]
 rcases Nat.le_total n w with h|h
 ·rw[Nat.min_eq_left h]
 ·rw[Nat.min_eq_right h,Nat.div_eq_of_lt ha,Nat.div_eq_of_lt (Nat.lt_of_lt_of_le ha (Nat.pow_le_pow_right (by omega) h))]
theorem ZQ{w n:Nat}(a:Nat):(a*2^(min n w))%2^w=(a <<< n)%2^w:=by
 rw[Nat.shiftLeft_eq]
 rcases Nat.le_total n w with h|h
 ·rw[Nat.min_eq_left h]
 ·rw[Nat.min_eq_right h,Nat.mul_mod_left]
  obtain⟨d,rfl⟩:∃d,n=w+d:=⟨n-w,by omega⟩
  rw[Nat.pow_add,Nat.mul_comm (2^w),←Nat.mul_assoc,Nat.mul_mod_left]
theorem W7(a m:Nat):(a:Int).fdiv (2^m)=((a/2^m:Nat):Int):=by
 rw[Int.fdiv_eq_ediv_of_nonneg _ (by exact_mod_cast Nat.zero_le _)]
 norm_cast
theorem Wz(a n:Nat):(a:Int)*2^n=((a*2^n:Nat):Int):=by rw[Int.natCast_mul,Int.natCast_pow];rfl
theorem Tv(a n:Nat):IntKind.u8.wrap ((a:Int)*2^n)=((a*2^n%2^8:Nat):Int):=by
 rw[UN,Wz,show(2:Nat)^8=256 from rfl]
 generalize a*2^n=m
 omega
theorem shl_u8(a:UInt8)(y:Nat):HY .shl .u8 (a.toNat:Int) (y:Int)=some (u8 (shl8 a y)):=by
 unfold HY
 rw[if_neg (by omega)]
 refine Mp ?_
 rw[Tv]
 show((a.toNat*2^(min y 8)%2^8:Nat):Int)=_
 rw[ZQ];rfl
theorem YQ(a:UInt64)(y:Nat):HY .shr .u64 (a.toNat:Int) (y:Int)=some (u64 (Qm a y)):=by
 unfold HY
 rw[if_neg (by omega)]
 refine Mp ?_
 rw[W7]
 show((a.toNat/2^(min y 64):Nat):Int)=_
 rw[Yj _ a.toNat_lt];rfl
def JE(x:Int):Prop:=0≤x
instance (x:Int):Decidable (JE x):=inferInstanceAs (Decidable (_≤_))
theorem KI(a:UInt64)(y:UInt64):Bs E .shr t (u64 a) (u64 y)=some (u64 (Qm a y.toNat)):=YQ a _
theorem QP(a b:Int):Bs E .shl t (i64 a) (i64 b)=if JE b then some (i64 (Aew a b))else none:=by
 show HY .shl .i64 a b=_
 by_cases h:JE b
 ·have h':¬b<0:=by unfold JE at h;omega
  rw[if_pos h];unfold HY;rw[if_neg h'];rfl
 ·have h':b<0:=by unfold JE at h;omega
  rw[if_neg h];unfold HY;rw[if_pos h']
def OO(E:Env)(t:TypeId)(k:IntKind):Bool:=match E.tab t with
 |some ⟨.int k',_,_,_⟩=>decide (k'=k)
 |_=>false
theorem RD{E:Env}{σ:Ad}{s d:TypeId}{k0 k:IntKind}{x:Int}(hs:(E.tab s).isSome=true)(hd:OO E d k=true):Cz E σ s d (.int k0 x)=some (.int k (k.wrap x),σ):=by
 unfold OO at hd
 split at hd
 case h_2=>cases hd
 rename_i k' a b c hk
 have:k'=k:=by simpa using hd
 subst this
 unfold Cz
 rw[hk]
 cases hh:E.tab s with
 |none=>rw[hh]at hs;cases hs
 |some sd=>rfl
theorem Pa{σ:Ad}{s d:TypeId}(x:Int)(hs:(E.tab s).isSome=true)(hd:OO E d .u64=true):Cz E σ s d (i64 x)=some (u64 (UInt64.ofInt x),σ):=by
 refine(RD hs hd).trans ?_
 rw[Kz]
 have:((UInt64.ofInt x).toNat:Int)=x%18446744073709551616:=by rw[UInt64.ofInt,UInt64.toNat_ofNat'];omega
 unfold u64;rw[this]
theorem PY{σ:Ad}{s d:TypeId}(x:UInt8)(hs:(E.tab s).isSome=true)(hd:OO E d .i64=true):Cz E σ s d (u8 x)=some (i64 (x.toNat:Int),σ):=by
 refine(RD hs hd).trans ?_
 have:=x.toNat_lt
 have h:IntKind.i64.wrap (x.toNat:Int)=(x.toNat:Int):=by rw[IntKind.wrap_i64];omega
 unfold i64;rw[h]
end
end Go.Rv
