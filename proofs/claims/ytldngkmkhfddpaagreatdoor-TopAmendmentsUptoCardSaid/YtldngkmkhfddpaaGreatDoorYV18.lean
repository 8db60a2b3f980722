/-
  Part 18.
-/
import Derived.Test.YtldngkmkhfddpaaGreatDoorYV17
import Derived.Attr
namespace Go.Rv
set_option linter.unusedVariables false
set_option linter.unusedSimpArgs false
variable{w:Nat}{O:Ad}{s d:TypeId}
variable {E:Env}
def i64(x:Int):AV:=.int .i64 x
def u8(x:UInt8):AV:=.int .u8 (x.toNat:Int)
def u16(x:UInt16):AV:=.int .u16 (x.toNat:Int)
def u32(x:UInt32):AV:=.int .u32 (x.toNat:Int)
def u64(x:UInt64):AV:=.int .u64 (x.toNat:Int)
def w64(x:Int):Int:=IntKind.i64.wrap x
theorem Hq{x:Int}(h:-9223372036854775808<=x/\x<=9223372036854775807):w64 x=x:=by
 unfold w64;rw[IntKind.wrap_i64];omega
def shl8(x:UInt8)(n:Nat):UInt8:=⟨x.toBitVec <<< n⟩
def Vl(x:UInt64)(n:Nat):UInt64:=⟨x.toBitVec >>> n⟩
def AjM(a b:Int):Int:=IntKind.i64.wrap ((BitVec.ofInt 64 a &&& BitVec.ofInt 64 b).toNat:Int)
def or64(a b:Int):Int:=IntKind.i64.wrap ((BitVec.ofInt 64 a ||| BitVec.ofInt 64 b).toNat:Int)
def AhC(a b:Int):Int:=IntKind.i64.wrap ((BitVec.ofInt 64 a ^^^ BitVec.ofInt 64 b).toNat:Int)
def InR(x:Int)(n:Nat):Prop:=0<=x/\x.toNat<n
def InB(x:Int)(n:Nat):Prop:=0<=x/\x.toNat<=n
def FY(n bytes:Nat):Prop:=n<=maxLen/\n*bytes<=Hu
instance (x:Int)(n:Nat):Decidable (InR x n):=inferInstanceAs (Decidable (_/\_))
instance (x:Int)(n:Nat):Decidable (InB x n):=inferInstanceAs (Decidable (_/\_))
instance (n b:Nat):Decidable (FY n b):=inferInstanceAs (Decidable (_/\_))
theorem AgC(x:Int)(n:Nat):idx (i64 x) n=if InR x n then some x.toNat else none:=rfl
theorem Ai5(x:UInt8)(n:Nat):idx (u8 x) n=if InR (x.toNat:Int) n then some x.toNat else none:=rfl
theorem AhF(x:UInt32)(n:Nat):idx (u32 x) n=if InR (x.toNat:Int) n then some x.toNat else none:=rfl
theorem Ahh(x:UInt64)(n:Nat):idx (u64 x) n=if InR (x.toNat:Int) n then some x.toNat else none:=rfl
theorem AeD(x:Int)(n:Nat):Ah2 (i64 x) n=if InB x n then some x.toNat else none:=rfl
theorem AgW(a b:Nat):((a:Int)==(b:Int))=(a==b):=by
 rw[Aq1];simp only[Ap9];omega
section
variable {t:TypeId}
theorem VA(a b:Int):BD E .add t (i64 a) (i64 b)=some (i64 (w64 (a+b))):=rfl
theorem UH(a b:Int):BD E .sub t (i64 a) (i64 b)=some (i64 (w64 (a-b))):=rfl
theorem UN(a b:Int):BD E .mul t (i64 a) (i64 b)=some (i64 (w64 (a*b))):=rfl
theorem Wv(a b:Int):BD E .quo t (i64 a) (i64 b)=if b=0 then none else some (i64 (w64 (a.tdiv b))):=rfl
theorem VC(a b:Int):BD E .rem t (i64 a) (i64 b)=if b=0 then none else some (i64 (a.tmod b)):=rfl
theorem VY(a b:Int):BD E .and t (i64 a) (i64 b)=some (i64 (AjM a b)):=rfl
theorem Yq(a b:Int):BD E .or t (i64 a) (i64 b)=some (i64 (or64 a b)):=rfl
theorem V3(a b:Int):BD E .xor t (i64 a) (i64 b)=some (i64 (AhC a b)):=rfl
theorem Wc(a b:Int):BD E .eql t (i64 a) (i64 b)=some (.bool (a==b)):=rfl
theorem Wf(a b:Int):BD E .neq t (i64 a) (i64 b)=some (.bool (a != b)):=rfl
theorem Vt(a b:Int):BD E .lss t (i64 a) (i64 b)=some (.bool (decide (a<b))):=rfl
theorem W2(a b:Int):BD E .leq t (i64 a) (i64 b)=some (.bool (decide (a<=b))):=rfl
theorem Wu(a b:Int):BD E .gtr t (i64 a) (i64 b)=some (.bool (decide (a>b))):=rfl
theorem VW(a b:Int):BD E .geq t (i64 a) (i64 b)=some (.bool (decide (a≥b))):=rfl
theorem XW(a:Int):Vv .neg (i64 a)=some (i64 (w64 (0-a))):=rfl
theorem YX(a:Int):Vv .xor (i64 a)=some (i64 (AhC (-1) a)):=rfl
theorem Aaf(n:Int):IntKind.u8.wrap n=n%256:=by rw[IntKind.wrap_u8]
theorem Rc(n:Int):IntKind.u64.wrap n=n%18446744073709551616:=by rw[IntKind.wrap_u64]
theorem T3{k:IntKind}{a b:Int}(h:a=b):some (AV.int k a)=some (AV.int k b):=by rw[h]
theorem Yr(a b:UInt8):BD E .sub t (u8 a) (u8 b)=some (u8 (a-b)):=T3 (by rw[Aaf,UInt8.toNat_sub];have:=a.toNat_lt;have:=b.toNat_lt;omega)
theorem VD(a b:UInt64):BD E .add t (u64 a) (u64 b)=some (u64 (a+b)):=T3 (by rw[Rc,UInt64.toNat_add];omega)
theorem Ve(a b:UInt64):BD E .mul t (u64 a) (u64 b)=some (u64 (a*b)):=T3 (by rw[Rc,UInt64.toNat_mul];simp)
theorem Xf(n:Nat):BitVec.ofInt w (n:Int)=BitVec.ofNat w n:=by
 apply AqG;rw[BitVec.toNat_ofInt,Aq0];omega
theorem AnN(f:BitVec 8->BitVec 8->BitVec 8)(a b:UInt8):S8 .u8 f (a.toNat:Int) (b.toNat:Int)=u8 ⟨f a.toBitVec b.toBitVec⟩:=by
 unfold S8 u8;congr 1;show IntKind.u8.wrap ((f (BitVec.ofInt 8 (a.toNat:Int)) (BitVec.ofInt 8 (b.toNat:Int))).toNat:Int)=_;rw[Xf,Xf,Aaf];have ha:BitVec.ofNat 8 a.toNat=a.toBitVec:=by apply AqG;rw[Aq0,UInt8.toNat_toBitVec];exact Aq8 a.toNat_lt
 have hb:BitVec.ofNat 8 b.toNat=b.toBitVec:=by apply AqG;rw[Aq0,UInt8.toNat_toBitVec];exact Aq8 b.toNat_lt
 rw[ha,hb];have:=(f a.toBitVec b.toBitVec).isLt;show((f a.toBitVec b.toBitVec).toNat:Int)%256=((f a.toBitVec b.toBitVec).toNat:Int);omega
theorem Aim(f:BitVec 64->BitVec 64->BitVec 64)(a b:UInt64):S8 .u64 f (a.toNat:Int) (b.toNat:Int)=u64 ⟨f a.toBitVec b.toBitVec⟩:=by
 unfold S8 u64;congr 1;show IntKind.u64.wrap ((f (BitVec.ofInt 64 (a.toNat:Int)) (BitVec.ofInt 64 (b.toNat:Int))).toNat:Int)=_;rw[Xf,Xf,Rc];have ha:BitVec.ofNat 64 a.toNat=a.toBitVec:=by apply AqG;rw[Aq0,UInt64.toNat_toBitVec];exact Aq8 a.toNat_lt
 have hb:BitVec.ofNat 64 b.toNat=b.toBitVec:=by apply AqG;rw[Aq0,UInt64.toNat_toBitVec];exact Aq8 b.toNat_lt
 rw[ha,hb];have:=(f a.toBitVec b.toBitVec).isLt;show((f a.toBitVec b.toBitVec).toNat:Int)%18446744073709551616=((f a.toBitVec b.toBitVec).toNat:Int);omega
theorem Abq(a b:UInt8):BD E .or t (u8 a) (u8 b)=some (u8 (a ||| b)):=ApV some (AnN _ a b)
theorem Vs(a b:UInt64):BD E .and t (u64 a) (u64 b)=some (u64 (a &&& b)):=ApV some (Aim _ a b)
theorem Afr(a b:UInt8):((a.toNat:Int)==(b.toNat:Int))=(a==b):=by rw[Aq1];simp only[Ap9];rw[<-UInt8.toNat_inj];omega
theorem Ji{a b:Bool}(h:a=b):some (AV.bool a)=some (AV.bool b):=by rw[h]
theorem WM{p q:Prop}[Decidable p][Decidable q](h:p↔q):decide p=decide q:=by simp only[h]
theorem Yf(a b:UInt8):BD E .eql t (u8 a) (u8 b)=some (.bool (a==b)):=Ji (Afr a b)
theorem YR(a b:UInt8):BD E .neq t (u8 a) (u8 b)=some (.bool (a != b)):=Ji (ApV not (Afr a b))
theorem Zx(a b:UInt8):BD E .lss t (u8 a) (u8 b)=some (.bool (decide (a<b))):=Ji (WM (by rw[UInt8.lt_iff_toNat_lt];omega))
theorem YK(a b:UInt8):BD E .leq t (u8 a) (u8 b)=some (.bool (decide (a<=b))):=Ji (WM (by rw[UInt8.le_iff_toNat_le];omega))
theorem Y1(a b:UInt8):BD E .geq t (u8 a) (u8 b)=some (.bool (decide (a≥b))):=Ji (WM (by rw[ge_iff_le,ge_iff_le,UInt8.le_iff_toNat_le];omega))
theorem V1(a b:UInt64):BD E .gtr t (u64 a) (u64 b)=some (.bool (decide (a>b))):=Ji (WM (by rw[gt_iff_lt,gt_iff_lt,UInt64.lt_iff_toNat_lt];omega))
theorem Agk{n:Nat}(a:Nat)(ha:a<2^w):a/2^(min n w)=a >>> n:=by
 rw[Nat.shiftRight_eq_div_pow];rcases Nat.le_total n w with h|h
 ·rw[Are h]
 rw[Nat.min_eq_right h,Nat.div_eq_of_lt ha,Nat.div_eq_of_lt (AqA ha (Nat.pow_le_pow_right (by omega) h))]
theorem AfJ{n:Nat}(a:Nat):(a*2^(min n w))%2^w=(a <<< n)%2^w:=by
 rw[Nat.shiftLeft_eq];rcases Nat.le_total n w with h|h
 ·rw[Are h]
 rw[Nat.min_eq_right h,Nat.mul_mod_left];obtain⟨d,rfl⟩:∃d,n=w+d:=⟨n-w,by omega⟩;rw[Nat.pow_add,Aq2 (2^w),<-Nat.mul_assoc,Nat.mul_mod_left]
theorem AeC(a m:Nat):(a:Int).fdiv (2^m)=((a/2^m:Nat):Int):=by
 rw[Int.fdiv_eq_ediv_of_nonneg _ (by exact_mod_cast Apx _)]
 norm_cast
theorem Ad4(a n:Nat):(a:Int)*2^n=((a*2^n:Nat):Int):=by rw[ArU,Int.natCast_pow];rfl
theorem Aay(a n:Nat):IntKind.u8.wrap ((a:Int)*2^n)=((a*2^n%2^8:Nat):Int):=by
 rw[Aaf,Ad4,show(2:Nat)^8=256 from rfl];generalize a*2^n=m;omega
theorem shl_u8(a:UInt8)(y:Nat):PB .shl .u8 (a.toNat:Int) (y:Int)=some (u8 (shl8 a y)):=by
 unfold PB;rw[Ao6 (by omega)];refine T3 ?_;rw[Aay];show((a.toNat*2^(min y 8)%2^8:Nat):Int)=_;rw[AfJ];rfl
theorem AgY(a:UInt64)(y:Nat):PB .shr .u64 (a.toNat:Int) (y:Int)=some (u64 (Vl a y)):=by
 unfold PB;rw[Ao6 (by omega)];refine T3 ?_;rw[AeC];show((a.toNat/2^(min y 64):Nat):Int)=_;rw[Agk _ a.toNat_lt];rfl
def AkR(x:Int):Prop:=0<=x
instance (x:Int):Decidable (AkR x):=inferInstanceAs (Decidable (_<=_))
theorem Pg(a:UInt64)(y:UInt64):BD E .shr t (u64 a) (u64 y)=some (u64 (Vl a y.toNat)):=AgY a _
def QL(E:Env)(t:TypeId)(k:IntKind):Bool:=match E.tab t with
 |some ⟨.int k',_,_,_⟩=>decide (k'=k)
 |_=>false
theorem Rh{E:Env}{k0 k:IntKind}{x:Int}(hs:(E.tab s).isSome=true)(hd:QL E d k=true):CB E O s d (.int k0 x)=some (.int k (k.wrap x),O):=by
 unfold QL at hd;split at hd
 case h_2=>cases hd
 rename_i k' a b c hk;have:k'=k:=by simpa using hd
 subst this;unfold CB;rw[hk];cases hh:E.tab s with
 |none=>rw[hh]at hs;cases hs
 |some sd=>rfl
theorem TI(x:Int)(hs:(E.tab s).isSome=true)(hd:QL E d .u64=true):CB E O s d (i64 x)=some (u64 (UInt64.ofInt x),O):=by
 refine(Rh hs hd).trans ?_;rw[Rc];have:((UInt64.ofInt x).toNat:Int)=x%18446744073709551616:=by rw[UInt64.ofInt,UInt64.toNat_ofNat'];omega
 unfold u64;rw[this]
theorem Vq(x:UInt8)(hs:(E.tab s).isSome=true)(hd:QL E d .i64=true):CB E O s d (u8 x)=some (i64 (x.toNat:Int),O):=by
 refine(Rh hs hd).trans ?_;have:=x.toNat_lt;have h:IntKind.i64.wrap (x.toNat:Int)=(x.toNat:Int):=by rw[IntKind.wrap_i64];omega
 unfold i64;rw[h]
theorem Ua(x:UInt64)(hs:(E.tab s).isSome=true)(hd:QL E d .i64=true):CB E O s d (u64 x)=some (i64 (w64 (x.toNat:Int)),O):=Rh hs hd
end
end Go.Rv
