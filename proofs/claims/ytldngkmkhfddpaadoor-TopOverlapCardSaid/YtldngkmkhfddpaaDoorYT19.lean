/-
  Part 19.
-/
import Derived.Test.YtldngkmkhfddpaaDoorYT18
import Derived.Attr
namespace Go.Rv
set_option linter.unusedVariables false
set_option linter.unusedSimpArgs false
variable {E:Env}
def i64(x:Int):AV:=.int .i64 x
def u8(x:UInt8):AV:=.int .u8 (x.toNat:Int)
def u16(x:UInt16):AV:=.int .u16 (x.toNat:Int)
def u32(x:UInt32):AV:=.int .u32 (x.toNat:Int)
def u64(x:UInt64):AV:=.int .u64 (x.toNat:Int)
def w64(x:Int):Int:=IntKind.i64.wrap x
theorem JU{x:Int}(h:-9223372036854775808≤x∧x≤9223372036854775807):w64 x=x:=by
 unfold w64;rw[IntKind.wrap_i64];omega
def shl8(x:UInt8)(n:Nat):UInt8:=⟨x.toBitVec <<< n⟩
def PS(x:UInt64)(n:Nat):UInt64:=⟨x.toBitVec >>> n⟩
def Wy(a b:Int):Int:=IntKind.i64.wrap ((BitVec.ofInt 64 a &&& BitVec.ofInt 64 b).toNat:Int)
def or64(a b:Int):Int:=IntKind.i64.wrap ((BitVec.ofInt 64 a ||| BitVec.ofInt 64 b).toNat:Int)
def XX(a b:Int):Int:=IntKind.i64.wrap ((BitVec.ofInt 64 a ^^^ BitVec.ofInt 64 b).toNat:Int)
def Ad9(a n:Int):Int:=w64 (a*2^(min n.toNat 64))
def InR(x:Int)(n:Nat):Prop:=0≤x∧x.toNat<n
def InB(x:Int)(n:Nat):Prop:=0≤x∧x.toNat≤n
def Iu(n bytes:Nat):Prop:=n≤maxLen∧n*bytes≤Gi
instance (x:Int)(n:Nat):Decidable (InR x n):=inferInstanceAs (Decidable (_∧_))
instance (x:Int)(n:Nat):Decidable (InB x n):=inferInstanceAs (Decidable (_∧_))
instance (n b:Nat):Decidable (Iu n b):=inferInstanceAs (Decidable (_∧_))
theorem YP(x:Int)(n:Nat):idx (i64 x) n=if InR x n then some x.toNat else none:=rfl
theorem Abm(x:UInt8)(n:Nat):idx (u8 x) n=if InR (x.toNat:Int) n then some x.toNat else none:=rfl
theorem Zr(x:UInt32)(n:Nat):idx (u32 x) n=if InR (x.toNat:Int) n then some x.toNat else none:=rfl
theorem ZQ(x:UInt64)(n:Nat):idx (u64 x) n=if InR (x.toNat:Int) n then some x.toNat else none:=rfl
theorem Xj(x:Int)(n:Nat):ZV (i64 x) n=if InB x n then some x.toNat else none:=rfl
theorem YQ(a b:Nat):((a:Int)==(b:Int))=(a==b):=by
 rw[Bool.eq_iff_iff];simp only[beq_iff_eq];omega
section
variable {t:TypeId}
theorem QA(a b:Int):Bp E .add t (i64 a) (i64 b)=some (i64 (w64 (a+b))):=rfl
theorem Px(a b:Int):Bp E .sub t (i64 a) (i64 b)=some (i64 (w64 (a-b))):=rfl
theorem Qm(a b:Int):Bp E .mul t (i64 a) (i64 b)=some (i64 (w64 (a*b))):=rfl
theorem Qp(a b:Int):Bp E .quo t (i64 a) (i64 b)=if b=0 then none else some (i64 (w64 (a.tdiv b))):=rfl
theorem Qq(a b:Int):Bp E .rem t (i64 a) (i64 b)=if b=0 then none else some (i64 (a.tmod b)):=rfl
theorem Q1(a b:Int):Bp E .and t (i64 a) (i64 b)=some (i64 (Wy a b)):=rfl
theorem Sd(a b:Int):Bp E .or t (i64 a) (i64 b)=some (i64 (or64 a b)):=rfl
theorem Qy(a b:Int):Bp E .xor t (i64 a) (i64 b)=some (i64 (XX a b)):=rfl
theorem Pr(a b:Int):Bp E .eql t (i64 a) (i64 b)=some (.bool (a==b)):=rfl
theorem PI(a b:Int):Bp E .neq t (i64 a) (i64 b)=some (.bool (a != b)):=rfl
theorem QR(a b:Int):Bp E .lss t (i64 a) (i64 b)=some (.bool (decide (a<b))):=rfl
theorem Qs(a b:Int):Bp E .leq t (i64 a) (i64 b)=some (.bool (decide (a≤b))):=rfl
theorem Qh(a b:Int):Bp E .gtr t (i64 a) (i64 b)=some (.bool (decide (a>b))):=rfl
theorem Qf(a b:Int):Bp E .geq t (i64 a) (i64 b)=some (.bool (decide (a≥b))):=rfl
theorem SA(a:Int):Pb .neg (i64 a)=some (i64 (w64 (0-a))):=rfl
theorem RX(a:Int):Pb .xor (i64 a)=some (i64 (XX (-1) a)):=rfl
theorem UM(n:Int):IntKind.u8.wrap n=n%256:=by rw[IntKind.wrap_u8]
theorem KU(n:Int):IntKind.u64.wrap n=n%18446744073709551616:=by rw[IntKind.wrap_u64]
theorem Mi{k:IntKind}{a b:Int}(h:a=b):some (AV.int k a)=some (AV.int k b):=by rw[h]
theorem Sv(a b:UInt8):Bp E .sub t (u8 a) (u8 b)=some (u8 (a-b)):=Mi (by rw[UM,UInt8.toNat_sub];have:=a.toNat_lt;have:=b.toNat_lt;omega)
theorem Q3(a b:UInt64):Bp E .add t (u64 a) (u64 b)=some (u64 (a+b)):=Mi (by rw[KU,UInt64.toNat_add];omega)
theorem P4(a b:UInt64):Bp E .mul t (u64 a) (u64 b)=some (u64 (a*b)):=Mi (by rw[KU,UInt64.toNat_mul];simp)
theorem RH{w:Nat}(n:Nat):BitVec.ofInt w (n:Int)=BitVec.ofNat w n:=by
 apply BitVec.eq_of_toNat_eq
 rw[BitVec.toNat_ofInt,BitVec.toNat_ofNat]
 omega
theorem Adm(f:BitVec 8→BitVec 8→BitVec 8)(a b:UInt8):M3 .u8 f (a.toNat:Int) (b.toNat:Int)=u8 ⟨f a.toBitVec b.toBitVec⟩:=by
 unfold M3 u8
 congr 1
 show IntKind.u8.wrap ((f (BitVec.ofInt 8 (a.toNat:Int)) (BitVec.ofInt 8 (b.toNat:Int))).toNat:Int)=_
 rw[RH,RH,UM]
 have ha:BitVec.ofNat 8 a.toNat=a.toBitVec:=by apply BitVec.eq_of_toNat_eq;rw[BitVec.toNat_ofNat,UInt8.toNat_toBitVec];exact Nat.mod_eq_of_lt a.toNat_lt
 have hb:BitVec.ofNat 8 b.toNat=b.toBitVec:=by apply BitVec.eq_of_toNat_eq;rw[BitVec.toNat_ofNat,UInt8.toNat_toBitVec];exact Nat.mod_eq_of_lt b.toNat_lt
 rw[ha,hb]
 have:=(f a.toBitVec b.toBitVec).isLt
 show((f a.toBitVec b.toBitVec).toNat:Int)%256=((f a.toBitVec b.toBitVec).toNat:Int)
 omega
theorem AaD(f:BitVec 64→BitVec 64→BitVec 64)(a b:UInt64):M3 .u64 f (a.toNat:Int) (b.toNat:Int)=u64 ⟨f a.toBitVec b.toBitVec⟩:=by
 unfold M3 u64
 congr 1
 show IntKind.u64.wrap ((f (BitVec.ofInt 64 (a.toNat:Int)) (BitVec.ofInt 64 (b.toNat:Int))).toNat:Int)=_
 rw[RH,RH,KU]
 have ha:BitVec.ofNat 64 a.toNat=a.toBitVec:=by apply BitVec.eq_of_toNat_eq;rw[BitVec.toNat_ofNat,UInt64.toNat_toBitVec];exact Nat.mod_eq_of_lt a.toNat_lt
 have hb:BitVec.ofNat 64 b.toNat=b.toBitVec:=by apply BitVec.eq_of_toNat_eq;rw[BitVec.toNat_ofNat,UInt64.toNat_toBitVec];exact Nat.mod_eq_of_lt b.toNat_lt
 rw[ha,hb]
 have:=(f a.toBitVec b.toBitVec).isLt
 show((f a.toBitVec b.toBitVec).toNat:Int)%18446744073709551616=((f a.toBitVec b.toBitVec).toNat:Int)
 omega
theorem UW(a b:UInt8):Bp E .or t (u8 a) (u8 b)=some (u8 (a ||| b)):=congrArg some (Adm _ a b)
theorem PK(a b:UInt64):Bp E .and t (u64 a) (u64 b)=some (u64 (a &&& b)):=congrArg some (AaD _ a b)
theorem Si(a:UInt64):Pb .neg (u64 a)=some (u64 (0-a)):=Mi (by rw[KU,UInt64.toNat_sub];have:=a.toNat_lt;simp;omega)
theorem XC(a b:UInt8):((a.toNat:Int)==(b.toNat:Int))=(a==b):=by rw[Bool.eq_iff_iff];simp only[beq_iff_eq];rw[←UInt8.toNat_inj];omega
theorem Zi(a b:UInt64):((a.toNat:Int)==(b.toNat:Int))=(a==b):=by rw[Bool.eq_iff_iff];simp only[beq_iff_eq];rw[←UInt64.toNat_inj];omega
theorem Gd{a b:Bool}(h:a=b):some (AV.bool a)=some (AV.bool b):=by rw[h]
theorem T6{p q:Prop}[Decidable p][Decidable q](h:p↔q):decide p=decide q:=by simp only[h]
theorem Tl(a b:UInt8):Bp E .eql t (u8 a) (u8 b)=some (.bool (a==b)):=Gd (XC a b)
theorem S1(a b:UInt8):Bp E .neq t (u8 a) (u8 b)=some (.bool (a != b)):=Gd (congrArg not (XC a b))
theorem Tj(a b:UInt8):Bp E .leq t (u8 a) (u8 b)=some (.bool (decide (a≤b))):=Gd (T6 (by rw[UInt8.le_iff_toNat_le];omega))
theorem S2(a b:UInt8):Bp E .geq t (u8 a) (u8 b)=some (.bool (decide (a≥b))):=Gd (T6 (by rw[ge_iff_le,ge_iff_le,UInt8.le_iff_toNat_le];omega))
theorem Qe(a b:UInt64):Bp E .neq t (u64 a) (u64 b)=some (.bool (a != b)):=Gd (congrArg not (Zi a b))
theorem Qd(a b:UInt64):Bp E .gtr t (u64 a) (u64 b)=some (.bool (decide (a>b))):=Gd (T6 (by rw[gt_iff_lt,gt_iff_lt,UInt64.lt_iff_toNat_lt];omega))
theorem Y2{w n:Nat}(a:Nat)(ha:a<2^w):a/2^(min n w)=a >>> n:=by
 rw[Nat.shiftRight_eq_div_pow]
 rcases Nat.le_total n w with h|h
 ·rw[Nat.min_eq_left h]
 ·rw[Nat.min_eq_right h,Nat.div_eq_of_lt ha,Nat.div_eq_of_lt (Nat.lt_of_lt_of_le ha (Nat.pow_le_pow_right (by omega) h))]
theorem Z0{w n:Nat}(a:Nat):(a*2^(min n w))%2^w=(a <<< n)%2^w:=by
 rw[Nat.shiftLeft_eq]
 rcases Nat.le_total n w with h|h
 ·rw[Nat.min_eq_left h]
 ·rw[Nat.min_eq_right h,Nat.mul_mod_left]
  obtain⟨d,rfl⟩:∃d,n=w+d:=⟨n-w,by omega⟩
  rw[Nat.pow_add,Nat.mul_comm (2^w),←Nat.mul_assoc,Nat.mul_mod_left]
theorem Xr(a m:Nat):(a:Int).fdiv (2^m)=((a/2^m:Nat):Int):=by
 rw[Int.fdiv_eq_ediv_of_nonneg _ (by exact_mod_cast Nat.zero_le _)]
 norm_cast
theorem VP(a n:Nat):(a:Int)*2^n=((a*2^n:Nat):Int):=by rw[Int.natCast_mul,Int.natCast_pow];rfl
theorem Ui(a n:Nat):IntKind.u8.wrap ((a:Int)*2^n)=((a*2^n%2^8:Nat):Int):=by
 rw[UM,VP,show(2:Nat)^8=256 from rfl]
 generalize a*2^n=m
 omega
theorem shl_u8(a:UInt8)(y:Nat):HR .shl .u8 (a.toNat:Int) (y:Int)=some (u8 (shl8 a y)):=by
 unfold HR
 rw[if_neg (by omega)]
 refine Mi ?_
 rw[Ui]
 show((a.toNat*2^(min y 8)%2^8:Nat):Int)=_
 rw[Z0];rfl
theorem YI(a:UInt64)(y:Nat):HR .shr .u64 (a.toNat:Int) (y:Int)=some (u64 (PS a y)):=by
 unfold HR
 rw[if_neg (by omega)]
 refine Mi ?_
 rw[Xr]
 show((a.toNat/2^(min y 64):Nat):Int)=_
 rw[Y2 _ a.toNat_lt];rfl
def JJ(x:Int):Prop:=0≤x
instance (x:Int):Decidable (JJ x):=inferInstanceAs (Decidable (_≤_))
theorem KJ(a:UInt64)(y:UInt64):Bp E .shr t (u64 a) (u64 y)=some (u64 (PS a y.toNat)):=YI a _
theorem PL(a b:Int):Bp E .shl t (i64 a) (i64 b)=if JJ b then some (i64 (Ad9 a b))else none:=by
 show HR .shl .i64 a b=_
 by_cases h:JJ b
 ·have h':¬b<0:=by unfold JJ at h;omega
  rw[if_pos h];unfold HR;rw[if_neg h'];rfl
 ·have h':b<0:=by unfold JJ at h;omega
  rw[if_neg h];unfold HR;rw[if_pos h']
def OO(E:Env)(t:TypeId)(k:IntKind):Bool:=match E.tab t with
 |some ⟨.int k',_,_,_⟩=>decide (k'=k)
 |_=>false
theorem Rg{E:Env}{σ:Ad}{s d:TypeId}{k0 k:IntKind}{x:Int}(hs:(E.tab s).isSome=true)(hd:OO E d k=true):Cx E σ s d (.int k0 x)=some (.int k (k.wrap x),σ):=by
 unfold OO at hd
 split at hd
 case h_2=>cases hd
 rename_i k' a b c hk
 have:k'=k:=by simpa using hd
 subst this
 unfold Cx
 rw[hk]
 cases hh:E.tab s with
 |none=>rw[hh]at hs;cases hs
 |some sd=>rfl
theorem OT{σ:Ad}{s d:TypeId}(x:Int)(hs:(E.tab s).isSome=true)(hd:OO E d .u64=true):Cx E σ s d (i64 x)=some (u64 (UInt64.ofInt x),σ):=by
 refine(Rg hs hd).trans ?_
 rw[KU]
 have:((UInt64.ofInt x).toNat:Int)=x%18446744073709551616:=by rw[UInt64.ofInt,UInt64.toNat_ofNat'];omega
 unfold u64;rw[this]
theorem QC{σ:Ad}{s d:TypeId}(x:UInt8)(hs:(E.tab s).isSome=true)(hd:OO E d .i64=true):Cx E σ s d (u8 x)=some (i64 (x.toNat:Int),σ):=by
 refine(Rg hs hd).trans ?_
 have:=x.toNat_lt
 have h:IntKind.i64.wrap (x.toNat:Int)=(x.toNat:Int):=by rw[IntKind.wrap_i64];omega
 unfold i64;rw[h]
end
end Go.Rv
