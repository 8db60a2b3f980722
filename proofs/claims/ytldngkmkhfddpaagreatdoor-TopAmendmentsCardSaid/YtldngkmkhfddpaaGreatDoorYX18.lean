/-
  Part 18.
-/
import Derived.Test.YtldngkmkhfddpaaGreatDoorYX17
import Derived.Attr
namespace Go.Rv
set_option linter.unusedVariables false
set_option linter.unusedSimpArgs false
variable{w:Nat}{O:Ac}{s d:TypeId}
variable {E:Env}
def i64(x:Int):AV:=.int .i64 x
def u8(x:UInt8):AV:=.int .u8 (x.toNat:Int)
def u16(x:UInt16):AV:=.int .u16 (x.toNat:Int)
def u32(x:UInt32):AV:=.int .u32 (x.toNat:Int)
def u64(x:UInt64):AV:=.int .u64 (x.toNat:Int)
def w64(x:Int):Int:=IntKind.i64.wrap x
theorem Hn{x:Int}(h:-9223372036854775808<=x/\x<=9223372036854775807):w64 x=x:=by
 unfold w64;rw[IntKind.wrap_i64];omega
def shl8(x:UInt8)(n:Nat):UInt8:=⟨x.toBitVec <<< n⟩
def UX(x:UInt64)(n:Nat):UInt64:=⟨x.toBitVec >>> n⟩
def AlJ(a b:Int):Int:=IntKind.i64.wrap ((BitVec.ofInt 64 a &&& BitVec.ofInt 64 b).toNat:Int)
def or64(a b:Int):Int:=IntKind.i64.wrap ((BitVec.ofInt 64 a ||| BitVec.ofInt 64 b).toNat:Int)
def Ahw(a b:Int):Int:=IntKind.i64.wrap ((BitVec.ofInt 64 a ^^^ BitVec.ofInt 64 b).toNat:Int)
def InR(x:Int)(n:Nat):Prop:=0<=x/\x.toNat<n
def InB(x:Int)(n:Nat):Prop:=0<=x/\x.toNat<=n
def FT(n bytes:Nat):Prop:=n<=maxLen/\n*bytes<=Hv
instance (x:Int)(n:Nat):Decidable (InR x n):=inferInstanceAs (Decidable (_/\_))
instance (x:Int)(n:Nat):Decidable (InB x n):=inferInstanceAs (Decidable (_/\_))
instance (n b:Nat):Decidable (FT n b):=inferInstanceAs (Decidable (_/\_))
theorem Aha(x:Int)(n:Nat):idx (i64 x) n=if InR x n then some x.toNat else none:=rfl
theorem AkL(x:UInt8)(n:Nat):idx (u8 x) n=if InR (x.toNat:Int) n then some x.toNat else none:=rfl
theorem Agl(x:UInt32)(n:Nat):idx (u32 x) n=if InR (x.toNat:Int) n then some x.toNat else none:=rfl
theorem Ahl(x:UInt64)(n:Nat):idx (u64 x) n=if InR (x.toNat:Int) n then some x.toNat else none:=rfl
theorem Adk(x:Int)(n:Nat):Ah2 (i64 x) n=if InB x n then some x.toNat else none:=rfl
theorem Ag8(a b:Nat):((a:Int)==(b:Int))=(a==b):=by
 rw[Aq8];simp only[Aqg];omega
section
variable {t:TypeId}
theorem VY(a b:Int):B8 E .add t (i64 a) (i64 b)=some (i64 (w64 (a+b))):=rfl
theorem UK(a b:Int):B8 E .sub t (i64 a) (i64 b)=some (i64 (w64 (a-b))):=rfl
theorem Vt(a b:Int):B8 E .mul t (i64 a) (i64 b)=some (i64 (w64 (a*b))):=rfl
theorem UU(a b:Int):B8 E .quo t (i64 a) (i64 b)=if b=0 then none else some (i64 (w64 (a.tdiv b))):=rfl
theorem WB(a b:Int):B8 E .rem t (i64 a) (i64 b)=if b=0 then none else some (i64 (a.tmod b)):=rfl
theorem W0(a b:Int):B8 E .and t (i64 a) (i64 b)=some (i64 (AlJ a b)):=rfl
theorem Yt(a b:Int):B8 E .or t (i64 a) (i64 b)=some (i64 (or64 a b)):=rfl
theorem Wk(a b:Int):B8 E .xor t (i64 a) (i64 b)=some (i64 (Ahw a b)):=rfl
theorem Wv(a b:Int):B8 E .eql t (i64 a) (i64 b)=some (.bool (a==b)):=rfl
theorem V1(a b:Int):B8 E .neq t (i64 a) (i64 b)=some (.bool (a != b)):=rfl
theorem VF(a b:Int):B8 E .lss t (i64 a) (i64 b)=some (.bool (decide (a<b))):=rfl
theorem VM(a b:Int):B8 E .leq t (i64 a) (i64 b)=some (.bool (decide (a<=b))):=rfl
theorem V9(a b:Int):B8 E .gtr t (i64 a) (i64 b)=some (.bool (decide (a>b))):=rfl
theorem VZ(a b:Int):B8 E .geq t (i64 a) (i64 b)=some (.bool (decide (a≥b))):=rfl
theorem XU(a:Int):V5 .neg (i64 a)=some (i64 (w64 (0-a))):=rfl
theorem XS(a:Int):V5 .xor (i64 a)=some (i64 (Ahw (-1) a)):=rfl
theorem Abl(n:Int):IntKind.u8.wrap n=n%256:=by rw[IntKind.wrap_u8]
theorem Sd(n:Int):IntKind.u64.wrap n=n%18446744073709551616:=by rw[IntKind.wrap_u64]
theorem T3{k:IntKind}{a b:Int}(h:a=b):some (AV.int k a)=some (AV.int k b):=by rw[h]
theorem XX(a b:UInt8):B8 E .sub t (u8 a) (u8 b)=some (u8 (a-b)):=T3 (by rw[Abl,UInt8.toNat_sub];have:=a.toNat_lt;have:=b.toNat_lt;omega)
theorem UN(a b:UInt64):B8 E .add t (u64 a) (u64 b)=some (u64 (a+b)):=T3 (by rw[Sd,UInt64.toNat_add];omega)
theorem UE(a b:UInt64):B8 E .mul t (u64 a) (u64 b)=some (u64 (a*b)):=T3 (by rw[Sd,UInt64.toNat_mul];simp)
theorem Xf(n:Nat):BitVec.ofInt w (n:Int)=BitVec.ofNat w n:=by
 apply AqN;rw[BitVec.toNat_ofInt,Aq7];omega
theorem AnM(f:BitVec 8->BitVec 8->BitVec 8)(a b:UInt8):S8 .u8 f (a.toNat:Int) (b.toNat:Int)=u8 ⟨f a.toBitVec b.toBitVec⟩:=by
 unfold S8 u8;congr 1;show IntKind.u8.wrap ((f (BitVec.ofInt 8 (a.toNat:Int)) (BitVec.ofInt 8 (b.toNat:Int))).toNat:Int)=_;rw[Xf,Xf,Abl];have ha:BitVec.ofNat 8 a.toNat=a.toBitVec:=by apply AqN;rw[Aq7,UInt8.toNat_toBitVec];exact Arh a.toNat_lt
 have hb:BitVec.ofNat 8 b.toNat=b.toBitVec:=by apply AqN;rw[Aq7,UInt8.toNat_toBitVec];exact Arh b.toNat_lt
 rw[ha,hb];have:=(f a.toBitVec b.toBitVec).isLt;show((f a.toBitVec b.toBitVec).toNat:Int)%256=((f a.toBitVec b.toBitVec).toNat:Int);omega
theorem Akz(f:BitVec 64->BitVec 64->BitVec 64)(a b:UInt64):S8 .u64 f (a.toNat:Int) (b.toNat:Int)=u64 ⟨f a.toBitVec b.toBitVec⟩:=by
 unfold S8 u64;congr 1;show IntKind.u64.wrap ((f (BitVec.ofInt 64 (a.toNat:Int)) (BitVec.ofInt 64 (b.toNat:Int))).toNat:Int)=_;rw[Xf,Xf,Sd];have ha:BitVec.ofNat 64 a.toNat=a.toBitVec:=by apply AqN;rw[Aq7,UInt64.toNat_toBitVec];exact Arh a.toNat_lt
 have hb:BitVec.ofNat 64 b.toNat=b.toBitVec:=by apply AqN;rw[Aq7,UInt64.toNat_toBitVec];exact Arh b.toNat_lt
 rw[ha,hb];have:=(f a.toBitVec b.toBitVec).isLt;show((f a.toBitVec b.toBitVec).toNat:Int)%18446744073709551616=((f a.toBitVec b.toBitVec).toNat:Int);omega
theorem AbS(a b:UInt8):B8 E .or t (u8 a) (u8 b)=some (u8 (a ||| b)):=Ap2 some (AnM _ a b)
theorem Vq(a b:UInt64):B8 E .and t (u64 a) (u64 b)=some (u64 (a &&& b)):=Ap2 some (Akz _ a b)
theorem Afc(a b:UInt8):((a.toNat:Int)==(b.toNat:Int))=(a==b):=by rw[Aq8];simp only[Aqg];rw[<-UInt8.toNat_inj];omega
theorem IR{a b:Bool}(h:a=b):some (AV.bool a)=some (AV.bool b):=by rw[h]
theorem WP{p q:Prop}[Decidable p][Decidable q](h:p↔q):decide p=decide q:=by simp only[h]
theorem Y3(a b:UInt8):B8 E .eql t (u8 a) (u8 b)=some (.bool (a==b)):=IR (Afc a b)
theorem XR(a b:UInt8):B8 E .neq t (u8 a) (u8 b)=some (.bool (a != b)):=IR (Ap2 not (Afc a b))
theorem YF(a b:UInt8):B8 E .lss t (u8 a) (u8 b)=some (.bool (decide (a<b))):=IR (WP (by rw[UInt8.lt_iff_toNat_lt];omega))
theorem Y2(a b:UInt8):B8 E .leq t (u8 a) (u8 b)=some (.bool (decide (a<=b))):=IR (WP (by rw[UInt8.le_iff_toNat_le];omega))
theorem Y0(a b:UInt8):B8 E .geq t (u8 a) (u8 b)=some (.bool (decide (a≥b))):=IR (WP (by rw[ge_iff_le,ge_iff_le,UInt8.le_iff_toNat_le];omega))
theorem WC(a b:UInt64):B8 E .gtr t (u64 a) (u64 b)=some (.bool (decide (a>b))):=IR (WP (by rw[gt_iff_lt,gt_iff_lt,UInt64.lt_iff_toNat_lt];omega))
theorem Agj{n:Nat}(a:Nat)(ha:a<2^w):a/2^(min n w)=a >>> n:=by
 rw[Nat.shiftRight_eq_div_pow];rcases Nat.le_total n w with h|h
 ·rw[Arm h]
 rw[Nat.min_eq_right h,Nat.div_eq_of_lt ha,Nat.div_eq_of_lt (AqH ha (Nat.pow_le_pow_right (by omega) h))]
theorem Ag0{n:Nat}(a:Nat):(a*2^(min n w))%2^w=(a <<< n)%2^w:=by
 rw[Nat.shiftLeft_eq];rcases Nat.le_total n w with h|h
 ·rw[Arm h]
 rw[Nat.min_eq_right h,Nat.mul_mod_left];obtain⟨d,rfl⟩:∃d,n=w+d:=⟨n-w,by omega⟩;rw[Nat.pow_add,Aq9 (2^w),<-Nat.mul_assoc,Nat.mul_mod_left]
theorem Aeu(a m:Nat):(a:Int).fdiv (2^m)=((a/2^m:Nat):Int):=by
 rw[Int.fdiv_eq_ediv_of_nonneg _ (by exact_mod_cast Apz _)]
 norm_cast
theorem Aeh(a n:Nat):(a:Int)*2^n=((a*2^n:Nat):Int):=by rw[Ar1,Int.natCast_pow];rfl
theorem AbL(a n:Nat):IntKind.u8.wrap ((a:Int)*2^n)=((a*2^n%2^8:Nat):Int):=by
 rw[Abl,Aeh,show(2:Nat)^8=256 from rfl];generalize a*2^n=m;omega
theorem shl_u8(a:UInt8)(y:Nat):OD .shl .u8 (a.toNat:Int) (y:Int)=some (u8 (shl8 a y)):=by
 unfold OD;rw[Apd (by omega)];refine T3 ?_;rw[AbL];show((a.toNat*2^(min y 8)%2^8:Nat):Int)=_;rw[Ag0];rfl
theorem AgL(a:UInt64)(y:Nat):OD .shr .u64 (a.toNat:Int) (y:Int)=some (u64 (UX a y)):=by
 unfold OD;rw[Apd (by omega)];refine T3 ?_;rw[Aeu];show((a.toNat/2^(min y 64):Nat):Int)=_;rw[Agj _ a.toNat_lt];rfl
def Aid(x:Int):Prop:=0<=x
instance (x:Int):Decidable (Aid x):=inferInstanceAs (Decidable (_<=_))
theorem P5(a:UInt64)(y:UInt64):B8 E .shr t (u64 a) (u64 y)=some (u64 (UX a y.toNat)):=AgL a _
def QQ(E:Env)(t:TypeId)(k:IntKind):Bool:=match E.tab t with
 |some ⟨.int k',_,_,_⟩=>decide (k'=k)
 |_=>false
theorem Rk{E:Env}{k0 k:IntKind}{x:Int}(hs:(E.tab s).isSome=true)(hd:QQ E d k=true):C7 E O s d (.int k0 x)=some (.int k (k.wrap x),O):=by
 unfold QQ at hd;split at hd
 case h_2=>cases hd
 rename_i k' a b c hk;have:k'=k:=by simpa using hd
 subst this;unfold C7;rw[hk];cases hh:E.tab s with
 |none=>rw[hh]at hs;cases hs
 |some sd=>rfl
theorem SM(x:Int)(hs:(E.tab s).isSome=true)(hd:QQ E d .u64=true):C7 E O s d (i64 x)=some (u64 (UInt64.ofInt x),O):=by
 refine(Rk hs hd).trans ?_;rw[Sd];have:((UInt64.ofInt x).toNat:Int)=x%18446744073709551616:=by rw[UInt64.ofInt,UInt64.toNat_ofNat'];omega
 unfold u64;rw[this]
theorem UW(x:UInt8)(hs:(E.tab s).isSome=true)(hd:QQ E d .i64=true):C7 E O s d (u8 x)=some (i64 (x.toNat:Int),O):=by
 refine(Rk hs hd).trans ?_;have:=x.toNat_lt;have h:IntKind.i64.wrap (x.toNat:Int)=(x.toNat:Int):=by rw[IntKind.wrap_i64];omega
 unfold i64;rw[h]
theorem U2(x:UInt64)(hs:(E.tab s).isSome=true)(hd:QQ E d .i64=true):C7 E O s d (u64 x)=some (i64 (w64 (x.toNat:Int)),O):=Rk hs hd
end
end Go.Rv
