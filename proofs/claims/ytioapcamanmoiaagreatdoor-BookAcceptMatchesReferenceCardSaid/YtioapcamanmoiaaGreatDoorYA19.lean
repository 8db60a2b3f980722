/-
  Part 19.
-/
import Derived.Test.YtioapcamanmoiaaGreatDoorYA18
import Derived.Attr
namespace Go.Rv
variable{x:Int}{k:IntKind}{w:Nat}{σ:Ad}{s d:TypeId}
variable {E:Env}
def i64(x:Int):AV:=.int .i64 x
def u8(x:UInt8):AV:=.int .u8 (x.toNat:Int)
def u16(x:UInt16):AV:=.int .u16 (x.toNat:Int)
def u32(x:UInt32):AV:=.int .u32 (x.toNat:Int)
def u64(x:UInt64):AV:=.int .u64 (x.toNat:Int)
def w64(x:Int):Int:=IntKind.i64.wrap x
theorem AE(h:-9223372036854775808≤x∧x≤9223372036854775807):w64 x=x:=by
 unfold w64;rw[IntKind.wrap_i64];omega
def shl8(x:UInt8)(n:Nat):UInt8:=⟨x.toBitVec <<< n⟩
def ND(x:UInt32)(n:Nat):UInt32:=⟨x.toBitVec <<< n⟩
def NN(x:UInt32)(n:Nat):UInt32:=⟨x.toBitVec >>> n⟩
def Jp(x:UInt64)(n:Nat):UInt64:=⟨x.toBitVec <<< n⟩
def CY(x:UInt64)(n:Nat):UInt64:=⟨x.toBitVec >>> n⟩
def ApD(a b:Int):Int:=IntKind.i64.wrap ((BitVec.ofInt 64 a &&& BitVec.ofInt 64 b).toNat:Int)
def or64(a b:Int):Int:=IntKind.i64.wrap ((BitVec.ofInt 64 a ||| BitVec.ofInt 64 b).toNat:Int)
def Ame(a b:Int):Int:=IntKind.i64.wrap ((BitVec.ofInt 64 a ^^^ BitVec.ofInt 64 b).toNat:Int)
def shlI(a n:Int):Int:=w64 (a*2^(min n.toNat 64))
def AoJ(a n:Int):Int:=a.fdiv (2^(min n.toNat 64))
def InR(x:Int)(n:Nat):Prop:=0≤x∧x.toNat<n
def InB(x:Int)(n:Nat):Prop:=0≤x∧x.toNat≤n
def Cj(n bytes:Nat):Prop:=n≤maxLen∧n*bytes≤Fi
instance (x:Int)(n:Nat):Decidable (InR x n):=inferInstanceAs (Decidable (_∧_))
instance (x:Int)(n:Nat):Decidable (InB x n):=inferInstanceAs (Decidable (_∧_))
instance (n b:Nat):Decidable (Cj n b):=inferInstanceAs (Decidable (_∧_))
theorem AhT(x:Int)(n:Nat):idx (i64 x) n=if InR x n then some x.toNat else none:=rfl
theorem An5(x:UInt8)(n:Nat):idx (u8 x) n=if InR (x.toNat:Int) n then some x.toNat else none:=rfl
theorem AiY(x:UInt32)(n:Nat):idx (u32 x) n=if InR (x.toNat:Int) n then some x.toNat else none:=rfl
theorem AiU(x:UInt64)(n:Nat):idx (u64 x) n=if InR (x.toNat:Int) n then some x.toNat else none:=rfl
theorem AfF(x:Int)(n:Nat):Aky (i64 x) n=if InB x n then some x.toNat else none:=rfl
theorem Ait(a b:Nat):((a:Int)==(b:Int))=(a==b):=by
 rw[Atz];simp only[AtW];omega
section
variable {t:TypeId}
theorem X1(a b:Int):AM E .add t (i64 a) (i64 b)=some (i64 (w64 (a+b))):=rfl
theorem WF(a b:Int):AM E .sub t (i64 a) (i64 b)=some (i64 (w64 (a-b))):=rfl
theorem X7(a b:Int):AM E .mul t (i64 a) (i64 b)=some (i64 (w64 (a*b))):=rfl
theorem Xf(a b:Int):AM E .quo t (i64 a) (i64 b)=if b=0 then none else some (i64 (w64 (a.tdiv b))):=rfl
theorem XY(a b:Int):AM E .rem t (i64 a) (i64 b)=if b=0 then none else some (i64 (a.tmod b)):=rfl
theorem Xg(a b:Int):AM E .and t (i64 a) (i64 b)=some (i64 (ApD a b)):=rfl
theorem AaA(a b:Int):AM E .or t (i64 a) (i64 b)=some (i64 (or64 a b)):=rfl
theorem W5(a b:Int):AM E .xor t (i64 a) (i64 b)=some (i64 (Ame a b)):=rfl
theorem Ws(a b:Int):AM E .eql t (i64 a) (i64 b)=some (.bool (a==b)):=rfl
theorem WY(a b:Int):AM E .neq t (i64 a) (i64 b)=some (.bool (a != b)):=rfl
theorem Yc(a b:Int):AM E .lss t (i64 a) (i64 b)=some (.bool (decide (a<b))):=rfl
theorem Xh(a b:Int):AM E .leq t (i64 a) (i64 b)=some (.bool (decide (a≤b))):=rfl
theorem Wf(a b:Int):AM E .gtr t (i64 a) (i64 b)=some (.bool (decide (a>b))):=rfl
theorem WI(a b:Int):AM E .geq t (i64 a) (i64 b)=some (.bool (decide (a≥b))):=rfl
theorem Aa7(a:Int):OB .neg (i64 a)=some (i64 (w64 (0-a))):=rfl
theorem Abi(a:Int):OB .xor (i64 a)=some (i64 (Ame (-1) a)):=rfl
theorem VH(n:Int):IntKind.u8.wrap n=n%256:=by rw[IntKind.wrap_u8]
theorem Ts(n:Int):IntKind.u32.wrap n=n%4294967296:=by rw[IntKind.wrap_u32]
theorem JR(n:Int):IntKind.u64.wrap n=n%18446744073709551616:=by rw[IntKind.wrap_u64]
theorem J3{a b:Int}(h:a=b):some (AV.int k a)=some (AV.int k b):=by rw[h]
theorem Abc(a b:UInt8):AM E .sub t (u8 a) (u8 b)=some (u8 (a-b)):=J3 (by rw[VH,UInt8.toNat_sub];have:=a.toNat_lt;have:=b.toNat_lt;omega)
theorem X8(a b:UInt32):AM E .add t (u32 a) (u32 b)=some (u32 (a+b)):=J3 (by rw[Ts,UInt32.toNat_add];omega)
theorem Yg(a b:UInt64):AM E .add t (u64 a) (u64 b)=some (u64 (a+b)):=J3 (by rw[JR,UInt64.toNat_add];omega)
theorem WB(a b:UInt64):AM E .sub t (u64 a) (u64 b)=some (u64 (a-b)):=J3 (by rw[JR,UInt64.toNat_sub];have:=a.toNat_lt;have:=b.toNat_lt;omega)
theorem X6(a b:UInt64):AM E .mul t (u64 a) (u64 b)=some (u64 (a*b)):=J3 (by rw[JR,UInt64.toNat_mul];simp)
theorem ZN(n:Nat):BitVec.ofInt w (n:Int)=BitVec.ofNat w n:=by
 apply AuM;rw[BitVec.toNat_ofInt,Au2];omega
theorem YM(f:BitVec 32→BitVec 32→BitVec 32)(a b:UInt32):Qs .u32 f (a.toNat:Int) (b.toNat:Int)=u32 ⟨f a.toBitVec b.toBitVec⟩:=by
 unfold Qs u32;congr 1;show IntKind.u32.wrap ((f (BitVec.ofInt 32 (a.toNat:Int)) (BitVec.ofInt 32 (b.toNat:Int))).toNat:Int)=_;rw[ZN,ZN,Ts];have ha:BitVec.ofNat 32 a.toNat=a.toBitVec:=by apply AuM;rw[Au2,UInt32.toNat_toBitVec];exact Aur a.toNat_lt
 have hb:BitVec.ofNat 32 b.toNat=b.toBitVec:=by apply AuM;rw[Au2,UInt32.toNat_toBitVec];exact Aur b.toNat_lt
 rw[ha,hb];have:=(f a.toBitVec b.toBitVec).isLt;show((f a.toBitVec b.toBitVec).toNat:Int)%4294967296=((f a.toBitVec b.toBitVec).toNat:Int);omega
theorem Aci(f:BitVec 64→BitVec 64→BitVec 64)(a b:UInt64):Qs .u64 f (a.toNat:Int) (b.toNat:Int)=u64 ⟨f a.toBitVec b.toBitVec⟩:=by
 unfold Qs u64;congr 1;show IntKind.u64.wrap ((f (BitVec.ofInt 64 (a.toNat:Int)) (BitVec.ofInt 64 (b.toNat:Int))).toNat:Int)=_;rw[ZN,ZN,JR];have ha:BitVec.ofNat 64 a.toNat=a.toBitVec:=by apply AuM;rw[Au2,UInt64.toNat_toBitVec];exact Aur a.toNat_lt
 have hb:BitVec.ofNat 64 b.toNat=b.toBitVec:=by apply AuM;rw[Au2,UInt64.toNat_toBitVec];exact Aur b.toNat_lt
 rw[ha,hb];have:=(f a.toBitVec b.toBitVec).isLt;show((f a.toBitVec b.toBitVec).toNat:Int)%18446744073709551616=((f a.toBitVec b.toBitVec).toNat:Int);omega
theorem Wl(a b:UInt32):AM E .and t (u32 a) (u32 b)=some (u32 (a &&& b)):=Auy some (YM _ a b)
theorem AaL(a b:UInt32):AM E .or t (u32 a) (u32 b)=some (u32 (a ||| b)):=Auy some (YM _ a b)
theorem XQ(a b:UInt32):AM E .xor t (u32 a) (u32 b)=some (u32 (a ^^^ b)):=Auy some (YM _ a b)
theorem XP(a b:UInt64):AM E .and t (u64 a) (u64 b)=some (u64 (a &&& b)):=Auy some (Aci _ a b)
theorem AaQ(a b:UInt64):AM E .or t (u64 a) (u64 b)=some (u64 (a ||| b)):=Auy some (Aci _ a b)
theorem Aad(a:UInt32):OB .xor (u32 a)=some (u32 (~~~a)):=by
 have h:OB .xor (u32 a)=some (Qs .u32 (· ^^^ ·) ((4294967295:UInt32).toNat:Int) (a.toNat:Int)):=rfl;refine h.trans (Auy some ((YM (· ^^^ ·) 4294967295 a).trans (Auy u32 ?_)));apply UInt32.toBitVec_inj.1;show(4294967295:UInt32).toBitVec ^^^ a.toBitVec = ~~~ a.toBitVec;rw[BitVec.not_def];rfl
theorem AbB(a:UInt64):OB .xor (u64 a)=some (u64 (~~~a)):=by
 have h:OB .xor (u64 a)=some (Qs .u64 (· ^^^ ·) ((18446744073709551615:UInt64).toNat:Int) (a.toNat:Int)):=rfl;refine h.trans (Auy some ((Aci (· ^^^ ·) 18446744073709551615 a).trans (Auy u64 ?_)));apply UInt64.toBitVec_inj.1;show(18446744073709551615:UInt64).toBitVec ^^^ a.toBitVec = ~~~ a.toBitVec;rw[BitVec.not_def];rfl
theorem Yu(a b:UInt8):((a.toNat:Int)==(b.toNat:Int))=(a==b):=by rw[Atz];simp only[AtW];rw[←Au7];omega
theorem Ad9(a b:UInt64):((a.toNat:Int)==(b.toNat:Int))=(a==b):=by rw[Atz];simp only[AtW];rw[←Avf];omega
theorem G7{a b:Bool}(h:a=b):some (AV.bool a)=some (AV.bool b):=by rw[h]
theorem YZ{p q:Prop}[Decidable p][Decidable q](h:p↔q):decide p=decide q:=by simp only[h]
theorem Aac(a b:UInt8):AM E .eql t (u8 a) (u8 b)=some (.bool (a==b)):=G7 (Yu a b)
theorem ZZ(a b:UInt8):AM E .neq t (u8 a) (u8 b)=some (.bool (a != b)):=G7 (Auy not (Yu a b))
theorem X0(a b:UInt64):AM E .eql t (u64 a) (u64 b)=some (.bool (a==b)):=G7 (Ad9 a b)
theorem Wd(a b:UInt64):AM E .neq t (u64 a) (u64 b)=some (.bool (a != b)):=G7 (Auy not (Ad9 a b))
theorem X3(a b:UInt64):AM E .lss t (u64 a) (u64 b)=some (.bool (decide (a<b))):=G7 (YZ (by rw[AtJ];omega))
theorem Wx(a b:UInt64):AM E .leq t (u64 a) (u64 b)=some (.bool (decide (a≤b))):=G7 (YZ (by rw[AtD];omega))
theorem Xp(a b:UInt64):AM E .gtr t (u64 a) (u64 b)=some (.bool (decide (a>b))):=G7 (YZ (by rw[Avp,Avp,AtJ];omega))
theorem Ww(a b:UInt64):AM E .geq t (u64 a) (u64 b)=some (.bool (decide (a≥b))):=G7 (YZ (by rw[ge_iff_le,ge_iff_le,AtD];omega))
theorem W2(a b:UInt64):AM E .quo t (u64 a) (u64 b)=if b=0 then none else some (u64 (a/b)):=by
 have h:((b.toNat:Int)=0)=(b=0):=by rw[←Avf];simp
 show(if(b.toNat:Int)=0 then none else some (AV.int .u64 _))=_;simp only[h];split
 ·rfl
 ·refine J3 ?_;rw[JR,Avg];have:=a.toNat_lt;have:a.toNat/b.toNat≤a.toNat:=Nat.div_le_self _ _;rw[show(a.toNat:Int).tdiv (b.toNat:Int)=((a.toNat/b.toNat:Nat):Int)from rfl];generalize a.toNat/b.toNat=q at *;omega
theorem Xe(a b:UInt64):AM E .rem t (u64 a) (u64 b)=if b=0 then none else some (u64 (a%b)):=by
 have h:((b.toNat:Int)=0)=(b=0):=by rw[←Avf];simp
 show(if(b.toNat:Int)=0 then none else some (AV.int .u64 _))=_;simp only[h];split
 ·rfl
 ·exact J3 (by rw[Auh];rfl)
theorem AdX{n:Nat}(a:Nat)(ha:a<2^w):a/2^(min n w)=a >>> n:=by
 rw[Avd];rcases Nat.le_total n w with h|h
 ·rw[Au4 h]
 ·rw[Nat.min_eq_right h,Avr ha,Avr (Auc ha (Nat.pow_le_pow_right (by omega) h))]
theorem Wc{n:Nat}(a:Nat):(a*2^(min n w))%2^w=(a <<< n)%2^w:=by
 rw[AvY];rcases Nat.le_total n w with h|h
 ·rw[Au4 h]
 ·rw[Nat.min_eq_right h,Nat.mul_mod_left];obtain⟨d,rfl⟩:∃d,n=w+d:=⟨n-w,by omega⟩;rw[AvU,Auq (2^w),←AvV,Nat.mul_mod_left]
theorem Yz(a m:Nat):(a:Int).fdiv (2^m)=((a/2^m:Nat):Int):=by
 rw[AvC _ (by exact_mod_cast Atp _)]
 norm_cast
theorem SI(a n:Nat):(a:Int)*2^n=((a*2^n:Nat):Int):=by rw[Int.natCast_mul,Int.natCast_pow];rfl
theorem AdZ(a n:Nat):IntKind.u8.wrap ((a:Int)*2^n)=((a*2^n%2^8:Nat):Int):=by
 rw[VH,SI,show(2:Nat)^8=256 from rfl];generalize a*2^n=m;omega
theorem Abh(a n:Nat):IntKind.u32.wrap ((a:Int)*2^n)=((a*2^n%2^32:Nat):Int):=by
 rw[Ts,SI,show(2:Nat)^32=4294967296 from rfl];generalize a*2^n=m;omega
theorem Aav(a n:Nat):IntKind.u64.wrap ((a:Int)*2^n)=((a*2^n%2^64:Nat):Int):=by
 rw[JR,SI,show(2:Nat)^64=18446744073709551616 from rfl];generalize a*2^n=m;omega
theorem shl_u8(a:UInt8)(y:Nat):ET .shl .u8 (a.toNat:Int) (y:Int)=some (u8 (shl8 a y)):=by
 unfold ET;rw[AsX (by omega)];refine J3 ?_;rw[AdZ];show((a.toNat*2^(min y 8)%2^8:Nat):Int)=_;rw[Wc];rfl
theorem Adc(a:UInt32)(y:Nat):ET .shl .u32 (a.toNat:Int) (y:Int)=some (u32 (ND a y)):=by
 unfold ET;rw[AsX (by omega)];refine J3 ?_;rw[Abh];show((a.toNat*2^(min y 32)%2^32:Nat):Int)=_;rw[Wc];rfl
theorem Acg(a:UInt32)(y:Nat):ET .shr .u32 (a.toNat:Int) (y:Int)=some (u32 (NN a y)):=by
 unfold ET;rw[AsX (by omega)];refine J3 ?_;rw[Yz];show((a.toNat/2^(min y 32):Nat):Int)=_;rw[AdX _ a.toNat_lt];rfl
theorem Ako(a:UInt64)(y:Nat):ET .shl .u64 (a.toNat:Int) (y:Int)=some (u64 (Jp a y)):=by
 unfold ET;rw[AsX (by omega)];refine J3 ?_;rw[Aav];show((a.toNat*2^(min y 64)%2^64:Nat):Int)=_;rw[Wc];rfl
theorem Acd(a:UInt64)(y:Nat):ET .shr .u64 (a.toNat:Int) (y:Int)=some (u64 (CY a y)):=by
 unfold ET;rw[AsX (by omega)];refine J3 ?_;rw[Yz];show((a.toNat/2^(min y 64):Nat):Int)=_;rw[AdX _ a.toNat_lt];rfl
def Cb(x:Int):Prop:=0≤x
instance (x:Int):Decidable (Cb x):=inferInstanceAs (Decidable (_≤_))
theorem P3{op:BinOp}{a:Int}(h:Cb x):ET op k a x=ET op k a ((x.toNat:Nat):Int):=by
 have:(x.toNat:Int)=x:=Int.toNat_of_nonneg h;rw[this]
theorem OY(a:UInt32)(y:UInt64):AM E .shl t (u32 a) (u64 y)=some (u32 (ND a y.toNat)):=Adc a _
theorem Q8(a:UInt32)(y:UInt64):AM E .shr t (u32 a) (u64 y)=some (u32 (NN a y.toNat)):=Acg a _
theorem Qr(a:UInt64)(y:UInt64):AM E .shl t (u64 a) (u64 y)=some (u64 (Jp a y.toNat)):=Ako a _
theorem O3(a:UInt64)(y:UInt64):AM E .shr t (u64 a) (u64 y)=some (u64 (CY a y.toNat)):=Acd a _
theorem W7(a b:Int):AM E .shl t (i64 a) (i64 b)=if Cb b then some (i64 (shlI a b))else none:=by
 show ET .shl .i64 a b=_;by_cases h:Cb b
 ·have h':¬b<0:=by unfold Cb at h;omega
  rw[AsU h];unfold ET;rw[AsX h'];rfl
 ·have h':b<0:=by unfold Cb at h;omega
  rw[AsX h];unfold ET;rw[AsU h']
theorem VX(a b:Int):AM E .shr t (i64 a) (i64 b)=if Cb b then some (i64 (AoJ a b))else none:=by
 show ET .shr .i64 a b=_;by_cases h:Cb b
 ·have h':¬b<0:=by unfold Cb at h;omega
  rw[AsU h];unfold ET;rw[AsX h'];rfl
 ·have h':b<0:=by unfold Cb at h;omega
  rw[AsX h];unfold ET;rw[AsU h']
theorem O8(a:UInt32)(y:Int):AM E .shl t (u32 a) (i64 y)=if Cb y then some (u32 (ND a y.toNat))else none:=by
 split
 ·rename_i h;exact(P3 h).trans (Adc a _)
 ·rename_i h;exact AsU (AvZ h)
theorem OQ(a:UInt32)(y:Int):AM E .shr t (u32 a) (i64 y)=if Cb y then some (u32 (NN a y.toNat))else none:=by
 split
 ·rename_i h;exact(P3 h).trans (Acg a _)
 ·rename_i h;exact AsU (AvZ h)
theorem PZ(a:UInt64)(y:Int):AM E .shr t (u64 a) (i64 y)=if Cb y then some (u64 (CY a y.toNat))else none:=by
 split
 ·rename_i h;exact(P3 h).trans (Acd a _)
 ·rename_i h;exact AsU (AvZ h)
def KO(E:Env)(t:TypeId)(k:IntKind):Bool:=match E.tab t with
 |some ⟨.int k',_,_,_⟩=>decide (k'=k)
 |_=>false
theorem J0{E:Env}{k0:IntKind}(hs:(E.tab s).isSome=true)(hd:KO E d k=true):BR E σ s d (.int k0 x)=some (.int k (k.wrap x),σ):=by
 unfold KO at hd;split at hd
 case h_2=>cases hd
 rename_i k' a b c hk;have:k'=k:=by simpa using hd
 subst this;unfold BR;rw[hk];cases hh:E.tab s with
 |none=>rw[hh]at hs;cases hs
 |some sd=>rfl
theorem WP(x:Int)(hs:(E.tab s).isSome=true)(hd:KO E d .u8=true):BR E σ s d (i64 x)=some (u8 (UInt8.ofInt x),σ):=by
 refine(J0 hs hd).trans ?_;rw[VH];have:((UInt8.ofInt x).toNat:Int)=x%256:=by rw[UInt8.ofInt,AvK];omega
 unfold u8;rw[this]
theorem Vh(x:Int)(hs:(E.tab s).isSome=true)(hd:KO E d .u64=true):BR E σ s d (i64 x)=some (u64 (UInt64.ofInt x),σ):=by
 refine(J0 hs hd).trans ?_;rw[JR];have:((UInt64.ofInt x).toNat:Int)=x%18446744073709551616:=by rw[UInt64.ofInt,AvA];omega
 unfold u64;rw[this]
theorem VZ(x:UInt8)(hs:(E.tab s).isSome=true)(hd:KO E d .i64=true):BR E σ s d (u8 x)=some (i64 (x.toNat:Int),σ):=by
 refine(J0 hs hd).trans ?_;have:=x.toNat_lt;have h:IntKind.i64.wrap (x.toNat:Int)=(x.toNat:Int):=by rw[IntKind.wrap_i64];omega
 unfold i64;rw[h]
theorem XJ(x:UInt8)(hs:(E.tab s).isSome=true)(hd:KO E d .u32=true):BR E σ s d (u8 x)=some (u32 x.toUInt32,σ):=by
 refine(J0 hs hd).trans ?_;have:=x.toNat_lt;unfold u32;rw[Ts,UInt8.toNat_toUInt32];congr 3;omega
theorem XZ(x:UInt8)(hs:(E.tab s).isSome=true)(hd:KO E d .u64=true):BR E σ s d (u8 x)=some (u64 x.toUInt64,σ):=by
 refine(J0 hs hd).trans ?_;have:=x.toNat_lt;unfold u64;rw[JR,UInt8.toNat_toUInt64];congr 3;omega
theorem WD(x:UInt32)(hs:(E.tab s).isSome=true)(hd:KO E d .u8=true):BR E σ s d (u32 x)=some (u8 x.toUInt8,σ):=by
 refine(J0 hs hd).trans ?_;unfold u8;rw[VH,UInt32.toNat_toUInt8];congr 3
theorem W1(x:UInt64)(hs:(E.tab s).isSome=true)(hd:KO E d .u8=true):BR E σ s d (u64 x)=some (u8 x.toUInt8,σ):=by
 refine(J0 hs hd).trans ?_;unfold u8;rw[VH,Avv];congr 3
end
end Go.Rv
