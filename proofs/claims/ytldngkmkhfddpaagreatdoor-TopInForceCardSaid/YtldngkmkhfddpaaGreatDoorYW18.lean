/-
  Part 18.
-/
import Derived.Test.YtldngkmkhfddpaaGreatDoorYW17
import Derived.Attr
namespace Go.Rv
set_option linter.unusedVariables false
set_option linter.unusedSimpArgs false
variable{w:Nat}{O:Ac}{s d:TypeId}
variable {E:Env}
def i64(x:Int):AV:=.int .i64 x
def u8(x:UInt8):AV:=.int .u8 (x.toNat:Int)
def u16(x:UInt16):AV:=.int .u16 (x.toNat:Int)
def u32(x:UInt32):AV:=.int .u32 (x.toNat:Int)
def u64(x:UInt64):AV:=.int .u64 (x.toNat:Int)
def w64(x:Int):Int:=IntKind.i64.wrap x
theorem FB{x:Int}(h:-9223372036854775808<=x/\x<=9223372036854775807):w64 x=x:=by
 unfold w64;rw[IntKind.wrap_i64];omega
def shl8(x:UInt8)(n:Nat):UInt8:=⟨x.toBitVec <<< n⟩
def VE(x:UInt64)(n:Nat):UInt64:=⟨x.toBitVec >>> n⟩
def Ahn(a b:Int):Int:=IntKind.i64.wrap ((BitVec.ofInt 64 a &&& BitVec.ofInt 64 b).toNat:Int)
def or64(a b:Int):Int:=IntKind.i64.wrap ((BitVec.ofInt 64 a ||| BitVec.ofInt 64 b).toNat:Int)
def Aha(a b:Int):Int:=IntKind.i64.wrap ((BitVec.ofInt 64 a ^^^ BitVec.ofInt 64 b).toNat:Int)
def shlI(a n:Int):Int:=w64 (a*2^(min n.toNat 64))
def InR(x:Int)(n:Nat):Prop:=0<=x/\x.toNat<n
def InB(x:Int)(n:Nat):Prop:=0<=x/\x.toNat<=n
def GX(n bytes:Nat):Prop:=n<=maxLen/\n*bytes<=I7
instance (x:Int)(n:Nat):Decidable (InR x n):=inferInstanceAs (Decidable (_/\_))
instance (x:Int)(n:Nat):Decidable (InB x n):=inferInstanceAs (Decidable (_/\_))
instance (n b:Nat):Decidable (GX n b):=inferInstanceAs (Decidable (_/\_))
theorem Ai0(x:Int)(n:Nat):idx (i64 x) n=if InR x n then some x.toNat else none:=rfl
theorem Akl(x:UInt8)(n:Nat):idx (u8 x) n=if InR (x.toNat:Int) n then some x.toNat else none:=rfl
theorem Ahk(x:UInt32)(n:Nat):idx (u32 x) n=if InR (x.toNat:Int) n then some x.toNat else none:=rfl
theorem Ag3(x:UInt64)(n:Nat):idx (u64 x) n=if InR (x.toNat:Int) n then some x.toNat else none:=rfl
theorem Age(x:Int)(n:Nat):Ajs (i64 x) n=if InB x n then some x.toNat else none:=rfl
theorem Ai9(a b:Nat):((a:Int)==(b:Int))=(a==b):=by
 rw[AsG];simp only[ArO];omega
section
variable {t:TypeId}
theorem Wm(a b:Int):BF E .add t (i64 a) (i64 b)=some (i64 (w64 (a+b))):=rfl
theorem Wb(a b:Int):BF E .sub t (i64 a) (i64 b)=some (i64 (w64 (a-b))):=rfl
theorem WO(a b:Int):BF E .mul t (i64 a) (i64 b)=some (i64 (w64 (a*b))):=rfl
theorem WC(a b:Int):BF E .quo t (i64 a) (i64 b)=if b=0 then none else some (i64 (w64 (a.tdiv b))):=rfl
theorem W7(a b:Int):BF E .rem t (i64 a) (i64 b)=if b=0 then none else some (i64 (a.tmod b)):=rfl
theorem WM(a b:Int):BF E .and t (i64 a) (i64 b)=some (i64 (Ahn a b)):=rfl
theorem ZY(a b:Int):BF E .or t (i64 a) (i64 b)=some (i64 (or64 a b)):=rfl
theorem VH(a b:Int):BF E .xor t (i64 a) (i64 b)=some (i64 (Aha a b)):=rfl
theorem VF(a b:Int):BF E .eql t (i64 a) (i64 b)=some (.bool (a==b)):=rfl
theorem WX(a b:Int):BF E .neq t (i64 a) (i64 b)=some (.bool (a != b)):=rfl
theorem Xf(a b:Int):BF E .lss t (i64 a) (i64 b)=some (.bool (decide (a<b))):=rfl
theorem Xe(a b:Int):BF E .leq t (i64 a) (i64 b)=some (.bool (decide (a<=b))):=rfl
theorem Xr(a b:Int):BF E .gtr t (i64 a) (i64 b)=some (.bool (decide (a>b))):=rfl
theorem WB(a b:Int):BF E .geq t (i64 a) (i64 b)=some (.bool (decide (a≥b))):=rfl
theorem Aab(a:Int):VN .neg (i64 a)=some (i64 (w64 (0-a))):=rfl
theorem ZF(a:Int):VN .xor (i64 a)=some (i64 (Aha (-1) a)):=rfl
theorem Acn(n:Int):IntKind.u8.wrap n=n%256:=by rw[IntKind.wrap_u8]
theorem SP(n:Int):IntKind.u64.wrap n=n%18446744073709551616:=by rw[IntKind.wrap_u64]
theorem UU{k:IntKind}{a b:Int}(h:a=b):some (AV.int k a)=some (AV.int k b):=by rw[h]
theorem ZG(a b:UInt8):BF E .sub t (u8 a) (u8 b)=some (u8 (a-b)):=UU (by rw[Acn,UInt8.toNat_sub];have:=a.toNat_lt;have:=b.toNat_lt;omega)
theorem WV(a b:UInt64):BF E .add t (u64 a) (u64 b)=some (u64 (a+b)):=UU (by rw[SP,UInt64.toNat_add];omega)
theorem W9(a b:UInt64):BF E .mul t (u64 a) (u64 b)=some (u64 (a*b)):=UU (by rw[SP,UInt64.toNat_mul];simp)
theorem XX(n:Nat):BitVec.ofInt w (n:Int)=BitVec.ofNat w n:=by
 apply Asr;rw[BitVec.toNat_ofInt,AsF];omega
theorem Ao0(f:BitVec 8->BitVec 8->BitVec 8)(a b:UInt8):RC .u8 f (a.toNat:Int) (b.toNat:Int)=u8 ⟨f a.toBitVec b.toBitVec⟩:=by
 unfold RC u8;congr 1;show IntKind.u8.wrap ((f (BitVec.ofInt 8 (a.toNat:Int)) (BitVec.ofInt 8 (b.toNat:Int))).toNat:Int)=_;rw[XX,XX,Acn];have ha:BitVec.ofNat 8 a.toNat=a.toBitVec:=by apply Asr;rw[AsF,UInt8.toNat_toBitVec];exact AsN a.toNat_lt
 have hb:BitVec.ofNat 8 b.toNat=b.toBitVec:=by apply Asr;rw[AsF,UInt8.toNat_toBitVec];exact AsN b.toNat_lt
 rw[ha,hb];have:=(f a.toBitVec b.toBitVec).isLt;show((f a.toBitVec b.toBitVec).toNat:Int)%256=((f a.toBitVec b.toBitVec).toNat:Int);omega
theorem Am3(f:BitVec 64->BitVec 64->BitVec 64)(a b:UInt64):RC .u64 f (a.toNat:Int) (b.toNat:Int)=u64 ⟨f a.toBitVec b.toBitVec⟩:=by
 unfold RC u64;congr 1;show IntKind.u64.wrap ((f (BitVec.ofInt 64 (a.toNat:Int)) (BitVec.ofInt 64 (b.toNat:Int))).toNat:Int)=_;rw[XX,XX,SP];have ha:BitVec.ofNat 64 a.toNat=a.toBitVec:=by apply Asr;rw[AsF,UInt64.toNat_toBitVec];exact AsN a.toNat_lt
 have hb:BitVec.ofNat 64 b.toNat=b.toBitVec:=by apply Asr;rw[AsF,UInt64.toNat_toBitVec];exact AsN b.toNat_lt
 rw[ha,hb];have:=(f a.toBitVec b.toBitVec).isLt;show((f a.toBitVec b.toBitVec).toNat:Int)%18446744073709551616=((f a.toBitVec b.toBitVec).toNat:Int);omega
theorem Abh(a b:UInt8):BF E .or t (u8 a) (u8 b)=some (u8 (a ||| b)):=Arz some (Ao0 _ a b)
theorem Xy(a b:UInt64):BF E .and t (u64 a) (u64 b)=some (u64 (a &&& b)):=Arz some (Am3 _ a b)
theorem Agj(a b:UInt8):((a.toNat:Int)==(b.toNat:Int))=(a==b):=by rw[AsG];simp only[ArO];rw[<-UInt8.toNat_inj];omega
theorem IU{a b:Bool}(h:a=b):some (AV.bool a)=some (AV.bool b):=by rw[h]
theorem Yf{p q:Prop}[Decidable p][Decidable q](h:p↔q):decide p=decide q:=by simp only[h]
theorem Z0(a b:UInt8):BF E .eql t (u8 a) (u8 b)=some (.bool (a==b)):=IU (Agj a b)
theorem YK(a b:UInt8):BF E .neq t (u8 a) (u8 b)=some (.bool (a != b)):=IU (Arz not (Agj a b))
theorem Aad(a b:UInt8):BF E .lss t (u8 a) (u8 b)=some (.bool (decide (a<b))):=IU (Yf (by rw[UInt8.lt_iff_toNat_lt];omega))
theorem Zs(a b:UInt8):BF E .leq t (u8 a) (u8 b)=some (.bool (decide (a<=b))):=IU (Yf (by rw[UInt8.le_iff_toNat_le];omega))
theorem YC(a b:UInt8):BF E .geq t (u8 a) (u8 b)=some (.bool (decide (a≥b))):=IU (Yf (by rw[ge_iff_le,ge_iff_le,UInt8.le_iff_toNat_le];omega))
theorem V9(a b:UInt64):BF E .gtr t (u64 a) (u64 b)=some (.bool (decide (a>b))):=IU (Yf (by rw[gt_iff_lt,gt_iff_lt,UInt64.lt_iff_toNat_lt];omega))
theorem Aij{n:Nat}(a:Nat)(ha:a<2^w):a/2^(min n w)=a >>> n:=by
 rw[Nat.shiftRight_eq_div_pow];rcases Nat.le_total n w with h|h
 ·rw[AsX h]
 rw[Nat.min_eq_right h,Nat.div_eq_of_lt ha,Nat.div_eq_of_lt (Ase ha (Nat.pow_le_pow_right (by omega) h))]
theorem Ahl{n:Nat}(a:Nat):(a*2^(min n w))%2^w=(a <<< n)%2^w:=by
 rw[Nat.shiftLeft_eq];rcases Nat.le_total n w with h|h
 ·rw[AsX h]
 rw[Nat.min_eq_right h,Nat.mul_mod_left];obtain⟨d,rfl⟩:∃d,n=w+d:=⟨n-w,by omega⟩;rw[Nat.pow_add,AsH (2^w),<-Nat.mul_assoc,Nat.mul_mod_left]
theorem AeD(a m:Nat):(a:Int).fdiv (2^m)=((a/2^m:Nat):Int):=by
 rw[Int.fdiv_eq_ediv_of_nonneg _ (by exact_mod_cast Aq5 _)]
 norm_cast
theorem AdK(a n:Nat):(a:Int)*2^n=((a*2^n:Nat):Int):=by rw[Atz,Int.natCast_pow];rfl
theorem Abs(a n:Nat):IntKind.u8.wrap ((a:Int)*2^n)=((a*2^n%2^8:Nat):Int):=by
 rw[Acn,AdK,show(2:Nat)^8=256 from rfl];generalize a*2^n=m;omega
theorem shl_u8(a:UInt8)(y:Nat):LI .shl .u8 (a.toNat:Int) (y:Int)=some (u8 (shl8 a y)):=by
 unfold LI;rw[AqI (by omega)];refine UU ?_;rw[Abs];show((a.toNat*2^(min y 8)%2^8:Nat):Int)=_;rw[Ahl];rfl
theorem Aho(a:UInt64)(y:Nat):LI .shr .u64 (a.toNat:Int) (y:Int)=some (u64 (VE a y)):=by
 unfold LI;rw[AqI (by omega)];refine UU ?_;rw[AeD];show((a.toNat/2^(min y 64):Nat):Int)=_;rw[Aij _ a.toNat_lt];rfl
def NP(x:Int):Prop:=0<=x
instance (x:Int):Decidable (NP x):=inferInstanceAs (Decidable (_<=_))
theorem Pf(a:UInt64)(y:UInt64):BF E .shr t (u64 a) (u64 y)=some (u64 (VE a y.toNat)):=Aho a _
theorem WS(a b:Int):BF E .shl t (i64 a) (i64 b)=if NP b then some (i64 (shlI a b))else none:=by
 show LI .shl .i64 a b=_;by_cases h:NP b
 ·have h':¬b<0:=by unfold NP at h;omega
  rw[AqJ h];unfold LI;rw[AqI h'];rfl
 have h':b<0:=by unfold NP at h;omega
 rw[AqI h];unfold LI;rw[AqJ h']
def R9(E:Env)(t:TypeId)(k:IntKind):Bool:=match E.tab t with
 |some ⟨.int k',_,_,_⟩=>decide (k'=k)
 |_=>false
theorem Tg{E:Env}{k0 k:IntKind}{x:Int}(hs:(E.tab s).isSome=true)(hd:R9 E d k=true):CJ E O s d (.int k0 x)=some (.int k (k.wrap x),O):=by
 unfold R9 at hd;split at hd
 case h_2=>cases hd
 rename_i k' a b c hk;have:k'=k:=by simpa using hd
 subst this;unfold CJ;rw[hk];cases hh:E.tab s with
 |none=>rw[hh]at hs;cases hs
 |some sd=>rfl
theorem TL(x:Int)(hs:(E.tab s).isSome=true)(hd:R9 E d .u64=true):CJ E O s d (i64 x)=some (u64 (UInt64.ofInt x),O):=by
 refine(Tg hs hd).trans ?_;rw[SP];have:((UInt64.ofInt x).toNat:Int)=x%18446744073709551616:=by rw[UInt64.ofInt,UInt64.toNat_ofNat'];omega
 unfold u64;rw[this]
theorem WE(x:UInt8)(hs:(E.tab s).isSome=true)(hd:R9 E d .i64=true):CJ E O s d (u8 x)=some (i64 (x.toNat:Int),O):=by
 refine(Tg hs hd).trans ?_;have:=x.toNat_lt;have h:IntKind.i64.wrap (x.toNat:Int)=(x.toNat:Int):=by rw[IntKind.wrap_i64];omega
 unfold i64;rw[h]
theorem UZ(x:UInt64)(hs:(E.tab s).isSome=true)(hd:R9 E d .i64=true):CJ E O s d (u64 x)=some (i64 (w64 (x.toNat:Int)),O):=Tg hs hd
end
end Go.Rv
