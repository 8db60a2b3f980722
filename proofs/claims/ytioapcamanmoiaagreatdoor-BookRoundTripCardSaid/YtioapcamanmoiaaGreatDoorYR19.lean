/-
  Part 19.
-/
import Derived.Test.YtioapcamanmoiaaGreatDoorYR18
import Derived.Attr
namespace Go.Rv
set_option linter.unusedVariables false
set_option linter.unusedSimpArgs false
variable{x:Int}{k:IntKind}{w:Nat}{σ:Am}{s d:TypeId}
variable {E:Env}
def i64(x:Int):AV:=.int .i64 x
def u8(x:UInt8):AV:=.int .u8 (x.toNat:Int)
def u16(x:UInt16):AV:=.int .u16 (x.toNat:Int)
def u32(x:UInt32):AV:=.int .u32 (x.toNat:Int)
def u64(x:UInt64):AV:=.int .u64 (x.toNat:Int)
def w64(x:Int):Int:=IntKind.i64.wrap x
theorem Ea(h:-9223372036854775808≤x∧x≤9223372036854775807):w64 x=x:=by
 unfold w64;rw[IntKind.wrap_i64];omega
def shl8(x:UInt8)(n:Nat):UInt8:=⟨x.toBitVec <<< n⟩
def Sd(x:UInt32)(n:Nat):UInt32:=⟨x.toBitVec <<< n⟩
def QQ(x:UInt32)(n:Nat):UInt32:=⟨x.toBitVec >>> n⟩
def Fi(x:UInt64)(n:Nat):UInt64:=⟨x.toBitVec <<< n⟩
def CV(x:UInt64)(n:Nat):UInt64:=⟨x.toBitVec >>> n⟩
def Am6(a b:Int):Int:=IntKind.i64.wrap ((BitVec.ofInt 64 a &&& BitVec.ofInt 64 b).toNat:Int)
def or64(a b:Int):Int:=IntKind.i64.wrap ((BitVec.ofInt 64 a ||| BitVec.ofInt 64 b).toNat:Int)
def AhA(a b:Int):Int:=IntKind.i64.wrap ((BitVec.ofInt 64 a ^^^ BitVec.ofInt 64 b).toNat:Int)
def InR(x:Int)(n:Nat):Prop:=0≤x∧x.toNat<n
def InB(x:Int)(n:Nat):Prop:=0≤x∧x.toNat≤n
def CI(n bytes:Nat):Prop:=n≤maxLen∧n*bytes≤JA
instance (x:Int)(n:Nat):Decidable (InR x n):=inferInstanceAs (Decidable (_∧_))
instance (x:Int)(n:Nat):Decidable (InB x n):=inferInstanceAs (Decidable (_∧_))
instance (n b:Nat):Decidable (CI n b):=inferInstanceAs (Decidable (_∧_))
theorem Aei(x:Int)(n:Nat):idx (i64 x) n=if InR x n then some x.toNat else none:=rfl
theorem Ahe(x:UInt8)(n:Nat):idx (u8 x) n=if InR (x.toNat:Int) n then some x.toNat else none:=rfl
theorem AfY(x:UInt32)(n:Nat):idx (u32 x) n=if InR (x.toNat:Int) n then some x.toNat else none:=rfl
theorem Afi(x:UInt64)(n:Nat):idx (u64 x) n=if InR (x.toNat:Int) n then some x.toNat else none:=rfl
theorem AcZ(x:Int)(n:Nat):AgL (i64 x) n=if InB x n then some x.toNat else none:=rfl
theorem AeI(a b:Nat):((a:Int)==(b:Int))=(a==b):=by
 rw[ApK];simp only[ApQ];omega
section
variable {t:TypeId}
theorem T7(a b:Int):AD E .add t (i64 a) (i64 b)=some (i64 (w64 (a+b))):=rfl
theorem Vc(a b:Int):AD E .sub t (i64 a) (i64 b)=some (i64 (w64 (a-b))):=rfl
theorem US(a b:Int):AD E .mul t (i64 a) (i64 b)=some (i64 (w64 (a*b))):=rfl
theorem TC(a b:Int):AD E .quo t (i64 a) (i64 b)=if b=0 then none else some (i64 (w64 (a.tdiv b))):=rfl
theorem TU(a b:Int):AD E .rem t (i64 a) (i64 b)=if b=0 then none else some (i64 (a.tmod b)):=rfl
theorem TR(a b:Int):AD E .and t (i64 a) (i64 b)=some (i64 (Am6 a b)):=rfl
theorem WB(a b:Int):AD E .or t (i64 a) (i64 b)=some (i64 (or64 a b)):=rfl
theorem Uh(a b:Int):AD E .xor t (i64 a) (i64 b)=some (i64 (AhA a b)):=rfl
theorem TB(a b:Int):AD E .eql t (i64 a) (i64 b)=some (.bool (a==b)):=rfl
theorem Vq(a b:Int):AD E .neq t (i64 a) (i64 b)=some (.bool (a != b)):=rfl
theorem U7(a b:Int):AD E .lss t (i64 a) (i64 b)=some (.bool (decide (a<b))):=rfl
theorem Vk(a b:Int):AD E .leq t (i64 a) (i64 b)=some (.bool (decide (a≤b))):=rfl
theorem UC(a b:Int):AD E .gtr t (i64 a) (i64 b)=some (.bool (decide (a>b))):=rfl
theorem TJ(a b:Int):AD E .geq t (i64 a) (i64 b)=some (.bool (decide (a≥b))):=rfl
theorem XR(a:Int):OM .neg (i64 a)=some (i64 (w64 (0-a))):=rfl
theorem XU(a:Int):OM .xor (i64 a)=some (i64 (AhA (-1) a)):=rfl
theorem PE(n:Int):IntKind.u8.wrap n=n%256:=by rw[IntKind.wrap_u8]
theorem Qs(n:Int):IntKind.u32.wrap n=n%4294967296:=by rw[IntKind.wrap_u32]
theorem Ij(n:Int):IntKind.u64.wrap n=n%18446744073709551616:=by rw[IntKind.wrap_u64]
theorem HP{a b:Int}(h:a=b):some (AV.int k a)=some (AV.int k b):=by rw[h]
theorem XQ(a b:UInt8):AD E .sub t (u8 a) (u8 b)=some (u8 (a-b)):=HP (by rw[PE,ArW];have:=a.toNat_lt;have:=b.toNat_lt;omega)
theorem UI(a b:UInt32):AD E .add t (u32 a) (u32 b)=some (u32 (a+b)):=HP (by rw[Qs,UInt32.toNat_add];omega)
theorem TH(a b:UInt64):AD E .add t (u64 a) (u64 b)=some (u64 (a+b)):=HP (by rw[Ij,UInt64.toNat_add];omega)
theorem Up(a b:UInt64):AD E .sub t (u64 a) (u64 b)=some (u64 (a-b)):=HP (by rw[Ij,UInt64.toNat_sub];have:=a.toNat_lt;have:=b.toNat_lt;omega)
theorem UY(a b:UInt64):AD E .mul t (u64 a) (u64 b)=some (u64 (a*b)):=HP (by rw[Ij,UInt64.toNat_mul];simp)
theorem PS(n:Nat):BitVec.ofInt w (n:Int)=BitVec.ofNat w n:=by
 apply Aqb;rw[BitVec.toNat_ofInt,Aqs];omega
theorem Aoj(f:BitVec 8→BitVec 8→BitVec 8)(a b:UInt8):Lb .u8 f (a.toNat:Int) (b.toNat:Int)=u8 ⟨f a.toBitVec b.toBitVec⟩:=by
 unfold Lb u8;congr 1;show IntKind.u8.wrap ((f (BitVec.ofInt 8 (a.toNat:Int)) (BitVec.ofInt 8 (b.toNat:Int))).toNat:Int)=_;rw[PS,PS,PE];have ha:BitVec.ofNat 8 a.toNat=a.toBitVec:=by apply Aqb;rw[Aqs,UInt8.toNat_toBitVec];exact ApS a.toNat_lt
 have hb:BitVec.ofNat 8 b.toNat=b.toBitVec:=by apply Aqb;rw[Aqs,UInt8.toNat_toBitVec];exact ApS b.toNat_lt
 rw[ha,hb];have:=(f a.toBitVec b.toBitVec).isLt;show((f a.toBitVec b.toBitVec).toNat:Int)%256=((f a.toBitVec b.toBitVec).toNat:Int);omega
theorem Vw(f:BitVec 32→BitVec 32→BitVec 32)(a b:UInt32):Lb .u32 f (a.toNat:Int) (b.toNat:Int)=u32 ⟨f a.toBitVec b.toBitVec⟩:=by
 unfold Lb u32;congr 1;show IntKind.u32.wrap ((f (BitVec.ofInt 32 (a.toNat:Int)) (BitVec.ofInt 32 (b.toNat:Int))).toNat:Int)=_;rw[PS,PS,Qs];have ha:BitVec.ofNat 32 a.toNat=a.toBitVec:=by apply Aqb;rw[Aqs,UInt32.toNat_toBitVec];exact ApS a.toNat_lt
 have hb:BitVec.ofNat 32 b.toNat=b.toBitVec:=by apply Aqb;rw[Aqs,UInt32.toNat_toBitVec];exact ApS b.toNat_lt
 rw[ha,hb];have:=(f a.toBitVec b.toBitVec).isLt;show((f a.toBitVec b.toBitVec).toNat:Int)%4294967296=((f a.toBitVec b.toBitVec).toNat:Int);omega
theorem Aba(f:BitVec 64→BitVec 64→BitVec 64)(a b:UInt64):Lb .u64 f (a.toNat:Int) (b.toNat:Int)=u64 ⟨f a.toBitVec b.toBitVec⟩:=by
 unfold Lb u64;congr 1;show IntKind.u64.wrap ((f (BitVec.ofInt 64 (a.toNat:Int)) (BitVec.ofInt 64 (b.toNat:Int))).toNat:Int)=_;rw[PS,PS,Ij];have ha:BitVec.ofNat 64 a.toNat=a.toBitVec:=by apply Aqb;rw[Aqs,UInt64.toNat_toBitVec];exact ApS a.toNat_lt
 have hb:BitVec.ofNat 64 b.toNat=b.toBitVec:=by apply Aqb;rw[Aqs,UInt64.toNat_toBitVec];exact ApS b.toNat_lt
 rw[ha,hb];have:=(f a.toBitVec b.toBitVec).isLt;show((f a.toBitVec b.toBitVec).toNat:Int)%18446744073709551616=((f a.toBitVec b.toBitVec).toNat:Int);omega
theorem WL(a b:UInt8):AD E .xor t (u8 a) (u8 b)=some (u8 (a ^^^ b)):=ApW some (Aoj _ a b)
theorem T5(a b:UInt32):AD E .and t (u32 a) (u32 b)=some (u32 (a &&& b)):=ApW some (Vw _ a b)
theorem WF(a b:UInt32):AD E .or t (u32 a) (u32 b)=some (u32 (a ||| b)):=ApW some (Vw _ a b)
theorem UJ(a b:UInt32):AD E .xor t (u32 a) (u32 b)=some (u32 (a ^^^ b)):=ApW some (Vw _ a b)
theorem TE(a b:UInt64):AD E .and t (u64 a) (u64 b)=some (u64 (a &&& b)):=ApW some (Aba _ a b)
theorem WE(a b:UInt64):AD E .or t (u64 a) (u64 b)=some (u64 (a ||| b)):=ApW some (Aba _ a b)
theorem Xa(a:UInt32):OM .xor (u32 a)=some (u32 (~~~a)):=by
 have h:OM .xor (u32 a)=some (Lb .u32 (· ^^^ ·) ((4294967295:UInt32).toNat:Int) (a.toNat:Int)):=rfl;refine h.trans (ApW some ((Vw (· ^^^ ·) 4294967295 a).trans (ApW u32 ?_)));apply UInt32.toBitVec_inj.1;show(4294967295:UInt32).toBitVec ^^^ a.toBitVec = ~~~ a.toBitVec;rw[BitVec.not_def];rfl
theorem X0(a:UInt64):OM .xor (u64 a)=some (u64 (~~~a)):=by
 have h:OM .xor (u64 a)=some (Lb .u64 (· ^^^ ·) ((18446744073709551615:UInt64).toNat:Int) (a.toNat:Int)):=rfl;refine h.trans (ApW some ((Aba (· ^^^ ·) 18446744073709551615 a).trans (ApW u64 ?_)));apply UInt64.toBitVec_inj.1;show(18446744073709551615:UInt64).toBitVec ^^^ a.toBitVec = ~~~ a.toBitVec;rw[BitVec.not_def];rfl
theorem Aa8(a b:UInt8):((a.toNat:Int)==(b.toNat:Int))=(a==b):=by rw[ApK];simp only[ApQ];rw[←Aqq];omega
theorem YS(a b:UInt64):((a.toNat:Int)==(b.toNat:Int))=(a==b):=by rw[ApK];simp only[ApQ];rw[←AqO];omega
theorem CJ{a b:Bool}(h:a=b):some (AV.bool a)=some (AV.bool b):=by rw[h]
theorem L9{p q:Prop}[Decidable p][Decidable q](h:p↔q):decide p=decide q:=by simp only[h]
theorem WG(a b:UInt8):AD E .eql t (u8 a) (u8 b)=some (.bool (a==b)):=CJ (Aa8 a b)
theorem Xp(a b:UInt8):AD E .neq t (u8 a) (u8 b)=some (.bool (a != b)):=CJ (ApW not (Aa8 a b))
theorem XL(a b:UInt8):AD E .lss t (u8 a) (u8 b)=some (.bool (decide (a<b))):=CJ (L9 (by rw[Aqc];omega))
theorem XM(a b:UInt8):AD E .leq t (u8 a) (u8 b)=some (.bool (decide (a≤b))):=CJ (L9 (by rw[ApL];omega))
theorem Xf(a b:UInt8):AD E .gtr t (u8 a) (u8 b)=some (.bool (decide (a>b))):=CJ (L9 (by rw[AqP,AqP,Aqc];omega))
theorem WP(a b:UInt8):AD E .geq t (u8 a) (u8 b)=some (.bool (decide (a≥b))):=CJ (L9 (by rw[ArZ,ArZ,ApL];omega))
theorem UF(a b:UInt64):AD E .eql t (u64 a) (u64 b)=some (.bool (a==b)):=CJ (YS a b)
theorem U8(a b:UInt64):AD E .neq t (u64 a) (u64 b)=some (.bool (a != b)):=CJ (ApW not (YS a b))
theorem Uu(a b:UInt64):AD E .lss t (u64 a) (u64 b)=some (.bool (decide (a<b))):=CJ (L9 (by rw[ApH];omega))
theorem Tm(a b:UInt64):AD E .leq t (u64 a) (u64 b)=some (.bool (decide (a≤b))):=CJ (L9 (by rw[ApB];omega))
theorem Vu(a b:UInt64):AD E .gtr t (u64 a) (u64 b)=some (.bool (decide (a>b))):=CJ (L9 (by rw[AqP,AqP,ApH];omega))
theorem TT(a b:UInt64):AD E .geq t (u64 a) (u64 b)=some (.bool (decide (a≥b))):=CJ (L9 (by rw[ArZ,ArZ,ApB];omega))
theorem T9(a b:UInt64):AD E .quo t (u64 a) (u64 b)=if b=0 then none else some (u64 (a/b)):=by
 have h:((b.toNat:Int)=0)=(b=0):=by rw[←AqO];simp
 show(if(b.toNat:Int)=0 then none else some (AV.int .u64 _))=_;simp only[h];split
 ·rfl
 ·refine HP ?_;rw[Ij,Aq1];have:=a.toNat_lt;have:a.toNat/b.toNat≤a.toNat:=Nat.div_le_self _ _;rw[show(a.toNat:Int).tdiv (b.toNat:Int)=((a.toNat/b.toNat:Nat):Int)from rfl];generalize a.toNat/b.toNat=q at *;omega
theorem UN(a b:UInt64):AD E .rem t (u64 a) (u64 b)=if b=0 then none else some (u64 (a%b)):=by
 have h:((b.toNat:Int)=0)=(b=0):=by rw[←AqO];simp
 show(if(b.toNat:Int)=0 then none else some (AV.int .u64 _))=_;simp only[h];split
 ·rfl
 ·exact HP (by rw[Ap5];rfl)
theorem AaH{n:Nat}(a:Nat)(ha:a<2^w):a/2^(min n w)=a >>> n:=by
 rw[AqZ];rcases Nat.le_total n w with h|h
 ·rw[Aq9 h]
 ·rw[Nat.min_eq_right h,ArQ ha,ArQ (Ap3 ha (AqG (by omega) h))]
theorem T1{n:Nat}(a:Nat):(a*2^(min n w))%2^w=(a <<< n)%2^w:=by
 rw[Ari];rcases Nat.le_total n w with h|h
 ·rw[Aq9 h]
 ·rw[Nat.min_eq_right h,Nat.mul_mod_left];obtain⟨d,rfl⟩:∃d,n=w+d:=⟨n-w,by omega⟩;rw[Nat.pow_add,Ap9 (2^w),←Arp,Nat.mul_mod_left]
theorem VJ(a m:Nat):(a:Int).fdiv (2^m)=((a/2^m:Nat):Int):=by
 rw[Int.fdiv_eq_ediv_of_nonneg _ (by exact_mod_cast Apx _)]
 norm_cast
theorem QG(a n:Nat):(a:Int)*2^n=((a*2^n:Nat):Int):=by rw[Int.natCast_mul,Int.natCast_pow];rfl
theorem YY(a n:Nat):IntKind.u8.wrap ((a:Int)*2^n)=((a*2^n%2^8:Nat):Int):=by
 rw[PE,QG,show(2:Nat)^8=256 from rfl];generalize a*2^n=m;omega
theorem W9(a n:Nat):IntKind.u32.wrap ((a:Int)*2^n)=((a*2^n%2^32:Nat):Int):=by
 rw[Qs,QG,show(2:Nat)^32=4294967296 from rfl];generalize a*2^n=m;omega
theorem XK(a n:Nat):IntKind.u64.wrap ((a:Int)*2^n)=((a*2^n%2^64:Nat):Int):=by
 rw[Ij,QG,show(2:Nat)^64=18446744073709551616 from rfl];generalize a*2^n=m;omega
theorem shl_u8(a:UInt8)(y:Nat):FR .shl .u8 (a.toNat:Int) (y:Int)=some (u8 (shl8 a y)):=by
 unfold FR;rw[AoQ (by omega)];refine HP ?_;rw[YY];show((a.toNat*2^(min y 8)%2^8:Nat):Int)=_;rw[T1];rfl
theorem Agb(a:UInt32)(y:Nat):FR .shl .u32 (a.toNat:Int) (y:Int)=some (u32 (Sd a y)):=by
 unfold FR;rw[AoQ (by omega)];refine HP ?_;rw[W9];show((a.toNat*2^(min y 32)%2^32:Nat):Int)=_;rw[T1];rfl
theorem AaJ(a:UInt32)(y:Nat):FR .shr .u32 (a.toNat:Int) (y:Int)=some (u32 (QQ a y)):=by
 unfold FR;rw[AoQ (by omega)];refine HP ?_;rw[VJ];show((a.toNat/2^(min y 32):Nat):Int)=_;rw[AaH _ a.toNat_lt];rfl
theorem AfW(a:UInt64)(y:Nat):FR .shl .u64 (a.toNat:Int) (y:Int)=some (u64 (Fi a y)):=by
 unfold FR;rw[AoQ (by omega)];refine HP ?_;rw[XK];show((a.toNat*2^(min y 64)%2^64:Nat):Int)=_;rw[T1];rfl
theorem ZM(a:UInt64)(y:Nat):FR .shr .u64 (a.toNat:Int) (y:Int)=some (u64 (CV a y)):=by
 unfold FR;rw[AoQ (by omega)];refine HP ?_;rw[VJ];show((a.toNat/2^(min y 64):Nat):Int)=_;rw[AaH _ a.toNat_lt];rfl
def EU(x:Int):Prop:=0≤x
instance (x:Int):Decidable (EU x):=inferInstanceAs (Decidable (_≤_))
theorem RM{op:BinOp}{a:Int}(h:EU x):FR op k a x=FR op k a ((x.toNat:Nat):Int):=by
 have:(x.toNat:Int)=x:=Int.toNat_of_nonneg h;rw[this]
theorem Nn(a:UInt32)(y:UInt64):AD E .shl t (u32 a) (u64 y)=some (u32 (Sd a y.toNat)):=Agb a _
theorem Nk(a:UInt32)(y:UInt64):AD E .shr t (u32 a) (u64 y)=some (u32 (QQ a y.toNat)):=AaJ a _
theorem Nd(a:UInt64)(y:UInt64):AD E .shl t (u64 a) (u64 y)=some (u64 (Fi a y.toNat)):=AfW a _
theorem OG(a:UInt64)(y:UInt64):AD E .shr t (u64 a) (u64 y)=some (u64 (CV a y.toNat)):=ZM a _
theorem M7(a:UInt32)(y:Int):AD E .shr t (u32 a) (i64 y)=if EU y then some (u32 (QQ a y.toNat))else none:=by
 split
 ·rename_i h;exact(RM h).trans (AaJ a _)
 ·rename_i h;exact AoO (Int.lt_of_not_ge h)
theorem Nm(a:UInt64)(y:Int):AD E .shr t (u64 a) (i64 y)=if EU y then some (u64 (CV a y.toNat))else none:=by
 split
 ·rename_i h;exact(RM h).trans (ZM a _)
 ·rename_i h;exact AoO (Int.lt_of_not_ge h)
def IA(E:Env)(t:TypeId)(k:IntKind):Bool:=match E.tab t with
 |some ⟨.int k',_,_,_⟩=>decide (k'=k)
 |_=>false
theorem Gp{E:Env}{k0:IntKind}(hs:(E.tab s).isSome=true)(hd:IA E d k=true):Bb E σ s d (.int k0 x)=some (.int k (k.wrap x),σ):=by
 unfold IA at hd;split at hd
 case h_2=>cases hd
 rename_i k' a b c hk;have:k'=k:=by simpa using hd
 subst this;unfold Bb;rw[hk];cases hh:E.tab s with
 |none=>rw[hh]at hs;cases hs
 |some sd=>rfl
theorem Tz(x:Int)(hs:(E.tab s).isSome=true)(hd:IA E d .u8=true):Bb E σ s d (i64 x)=some (u8 (UInt8.ofInt x),σ):=by
 refine(Gp hs hd).trans ?_;rw[PE];have:((UInt8.ofInt x).toNat:Int)=x%256:=by rw[UInt8.ofInt,Arb];omega
 unfold u8;rw[this]
theorem SC(x:Int)(hs:(E.tab s).isSome=true)(hd:IA E d .u64=true):Bb E σ s d (i64 x)=some (u64 (UInt64.ofInt x),σ):=by
 refine(Gp hs hd).trans ?_;rw[Ij];have:((UInt64.ofInt x).toNat:Int)=x%18446744073709551616:=by rw[UInt64.ofInt,Arv];omega
 unfold u64;rw[this]
theorem UU(x:UInt8)(hs:(E.tab s).isSome=true)(hd:IA E d .i64=true):Bb E σ s d (u8 x)=some (i64 (x.toNat:Int),σ):=by
 refine(Gp hs hd).trans ?_;have:=x.toNat_lt;have h:IntKind.i64.wrap (x.toNat:Int)=(x.toNat:Int):=by rw[IntKind.wrap_i64];omega
 unfold i64;rw[h]
theorem UM(x:UInt8)(hs:(E.tab s).isSome=true)(hd:IA E d .u32=true):Bb E σ s d (u8 x)=some (u32 x.toUInt32,σ):=by
 refine(Gp hs hd).trans ?_;have:=x.toNat_lt;unfold u32;rw[Qs,UInt8.toNat_toUInt32];congr 3;omega
theorem TV(x:UInt8)(hs:(E.tab s).isSome=true)(hd:IA E d .u64=true):Bb E σ s d (u8 x)=some (u64 x.toUInt64,σ):=by
 refine(Gp hs hd).trans ?_;have:=x.toNat_lt;unfold u64;rw[Ij,UInt8.toNat_toUInt64];congr 3;omega
theorem UV(x:UInt32)(hs:(E.tab s).isSome=true)(hd:IA E d .u8=true):Bb E σ s d (u32 x)=some (u8 x.toUInt8,σ):=by
 refine(Gp hs hd).trans ?_;unfold u8;rw[PE,UInt32.toNat_toUInt8];congr 3
theorem Uz(x:UInt64)(hs:(E.tab s).isSome=true)(hd:IA E d .u8=true):Bb E σ s d (u64 x)=some (u8 x.toUInt8,σ):=by
 refine(Gp hs hd).trans ?_;unfold u8;rw[PE,Arn];congr 3
theorem SY(x:UInt64)(hs:(E.tab s).isSome=true)(hd:IA E d .i64=true):Bb E σ s d (u64 x)=some (i64 (w64 (x.toNat:Int)),σ):=Gp hs hd
end
end Go.Rv
