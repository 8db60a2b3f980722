/-
  Part 19.
-/
import Derived.Test.YtioapcamanmoiaaGreatDoorYR18
import Derived.Attr
namespace Go.Rv
set_option linter.unusedVariables false
set_option linter.unusedSimpArgs false
variable{x:Int}{k:IntKind}{w:Nat}{σ:Ab}{s d:TypeId}
variable {E:Env}
def i64(x:Int):AV:=.int .i64 x
def u8(x:UInt8):AV:=.int .u8 (x.toNat:Int)
def u16(x:UInt16):AV:=.int .u16 (x.toNat:Int)
def u32(x:UInt32):AV:=.int .u32 (x.toNat:Int)
def u64(x:UInt64):AV:=.int .u64 (x.toNat:Int)
def w64(x:Int):Int:=IntKind.i64.wrap x
theorem Ef(h:-9223372036854775808≤x∧x≤9223372036854775807):w64 x=x:=by
 unfold w64;rw[IntKind.wrap_i64];omega
def shl8(x:UInt8)(n:Nat):UInt8:=⟨x.toBitVec <<< n⟩
def SK(x:UInt32)(n:Nat):UInt32:=⟨x.toBitVec <<< n⟩
def Rq(x:UInt32)(n:Nat):UInt32:=⟨x.toBitVec >>> n⟩
def Fs(x:UInt64)(n:Nat):UInt64:=⟨x.toBitVec <<< n⟩
def CZ(x:UInt64)(n:Nat):UInt64:=⟨x.toBitVec >>> n⟩
def AmZ(a b:Int):Int:=IntKind.i64.wrap ((BitVec.ofInt 64 a &&& BitVec.ofInt 64 b).toNat:Int)
def or64(a b:Int):Int:=IntKind.i64.wrap ((BitVec.ofInt 64 a ||| BitVec.ofInt 64 b).toNat:Int)
def AjW(a b:Int):Int:=IntKind.i64.wrap ((BitVec.ofInt 64 a ^^^ BitVec.ofInt 64 b).toNat:Int)
def InR(x:Int)(n:Nat):Prop:=0≤x∧x.toNat<n
def InB(x:Int)(n:Nat):Prop:=0≤x∧x.toNat≤n
def CM(n bytes:Nat):Prop:=n≤maxLen∧n*bytes≤J0
instance (x:Int)(n:Nat):Decidable (InR x n):=inferInstanceAs (Decidable (_∧_))
instance (x:Int)(n:Nat):Decidable (InB x n):=inferInstanceAs (Decidable (_∧_))
instance (n b:Nat):Decidable (CM n b):=inferInstanceAs (Decidable (_∧_))
theorem Aea(x:Int)(n:Nat):idx (i64 x) n=if InR x n then some x.toNat else none:=rfl
theorem Ahj(x:UInt8)(n:Nat):idx (u8 x) n=if InR (x.toNat:Int) n then some x.toNat else none:=rfl
theorem Aeh(x:UInt32)(n:Nat):idx (u32 x) n=if InR (x.toNat:Int) n then some x.toNat else none:=rfl
theorem AfV(x:UInt64)(n:Nat):idx (u64 x) n=if InR (x.toNat:Int) n then some x.toNat else none:=rfl
theorem Acy(x:Int)(n:Nat):AgL (i64 x) n=if InB x n then some x.toNat else none:=rfl
theorem AfZ(a b:Nat):((a:Int)==(b:Int))=(a==b):=by
 rw[ApK];simp only[ApQ];omega
section
variable {t:TypeId}
theorem UK(a b:Int):AH E .add t (i64 a) (i64 b)=some (i64 (w64 (a+b))):=rfl
theorem Uz(a b:Int):AH E .sub t (i64 a) (i64 b)=some (i64 (w64 (a-b))):=rfl
theorem U0(a b:Int):AH E .mul t (i64 a) (i64 b)=some (i64 (w64 (a*b))):=rfl
theorem UT(a b:Int):AH E .quo t (i64 a) (i64 b)=if b=0 then none else some (i64 (w64 (a.tdiv b))):=rfl
theorem Us(a b:Int):AH E .rem t (i64 a) (i64 b)=if b=0 then none else some (i64 (a.tmod b)):=rfl
theorem Ud(a b:Int):AH E .and t (i64 a) (i64 b)=some (i64 (AmZ a b)):=rfl
theorem Yg(a b:Int):AH E .or t (i64 a) (i64 b)=some (i64 (or64 a b)):=rfl
theorem UU(a b:Int):AH E .xor t (i64 a) (i64 b)=some (i64 (AjW a b)):=rfl
theorem Vb(a b:Int):AH E .eql t (i64 a) (i64 b)=some (.bool (a==b)):=rfl
theorem Ve(a b:Int):AH E .neq t (i64 a) (i64 b)=some (.bool (a != b)):=rfl
theorem Vj(a b:Int):AH E .lss t (i64 a) (i64 b)=some (.bool (decide (a<b))):=rfl
theorem TE(a b:Int):AH E .leq t (i64 a) (i64 b)=some (.bool (decide (a≤b))):=rfl
theorem U4(a b:Int):AH E .gtr t (i64 a) (i64 b)=some (.bool (decide (a>b))):=rfl
theorem Uy(a b:Int):AH E .geq t (i64 a) (i64 b)=some (.bool (decide (a≥b))):=rfl
theorem Xq(a:Int):On .neg (i64 a)=some (i64 (w64 (0-a))):=rfl
theorem XN(a:Int):On .xor (i64 a)=some (i64 (AjW (-1) a)):=rfl
theorem PL(n:Int):IntKind.u8.wrap n=n%256:=by rw[IntKind.wrap_u8]
theorem Qr(n:Int):IntKind.u32.wrap n=n%4294967296:=by rw[IntKind.wrap_u32]
theorem Ia(n:Int):IntKind.u64.wrap n=n%18446744073709551616:=by rw[IntKind.wrap_u64]
theorem HS{a b:Int}(h:a=b):some (AV.int k a)=some (AV.int k b):=by rw[h]
theorem XH(a b:UInt8):AH E .sub t (u8 a) (u8 b)=some (u8 (a-b)):=HS (by rw[PL,ArW];have:=a.toNat_lt;have:=b.toNat_lt;omega)
theorem Ub(a b:UInt32):AH E .add t (u32 a) (u32 b)=some (u32 (a+b)):=HS (by rw[Qr,UInt32.toNat_add];omega)
theorem Ui(a b:UInt64):AH E .add t (u64 a) (u64 b)=some (u64 (a+b)):=HS (by rw[Ia,UInt64.toNat_add];omega)
theorem UD(a b:UInt64):AH E .sub t (u64 a) (u64 b)=some (u64 (a-b)):=HS (by rw[Ia,UInt64.toNat_sub];have:=a.toNat_lt;have:=b.toNat_lt;omega)
theorem UZ(a b:UInt64):AH E .mul t (u64 a) (u64 b)=some (u64 (a*b)):=HS (by rw[Ia,UInt64.toNat_mul];simp)
theorem PZ(n:Nat):BitVec.ofInt w (n:Int)=BitVec.ofNat w n:=by
 apply Aqb;rw[BitVec.toNat_ofInt,Aqs];omega
theorem Anj(f:BitVec 8→BitVec 8→BitVec 8)(a b:UInt8):KA .u8 f (a.toNat:Int) (b.toNat:Int)=u8 ⟨f a.toBitVec b.toBitVec⟩:=by
 unfold KA u8;congr 1;show IntKind.u8.wrap ((f (BitVec.ofInt 8 (a.toNat:Int)) (BitVec.ofInt 8 (b.toNat:Int))).toNat:Int)=_;rw[PZ,PZ,PL];have ha:BitVec.ofNat 8 a.toNat=a.toBitVec:=by apply Aqb;rw[Aqs,UInt8.toNat_toBitVec];exact ApS a.toNat_lt
 have hb:BitVec.ofNat 8 b.toNat=b.toBitVec:=by apply Aqb;rw[Aqs,UInt8.toNat_toBitVec];exact ApS b.toNat_lt
 rw[ha,hb];have:=(f a.toBitVec b.toBitVec).isLt;show((f a.toBitVec b.toBitVec).toNat:Int)%256=((f a.toBitVec b.toBitVec).toNat:Int);omega
theorem VL(f:BitVec 32→BitVec 32→BitVec 32)(a b:UInt32):KA .u32 f (a.toNat:Int) (b.toNat:Int)=u32 ⟨f a.toBitVec b.toBitVec⟩:=by
 unfold KA u32;congr 1;show IntKind.u32.wrap ((f (BitVec.ofInt 32 (a.toNat:Int)) (BitVec.ofInt 32 (b.toNat:Int))).toNat:Int)=_;rw[PZ,PZ,Qr];have ha:BitVec.ofNat 32 a.toNat=a.toBitVec:=by apply Aqb;rw[Aqs,UInt32.toNat_toBitVec];exact ApS a.toNat_lt
 have hb:BitVec.ofNat 32 b.toNat=b.toBitVec:=by apply Aqb;rw[Aqs,UInt32.toNat_toBitVec];exact ApS b.toNat_lt
 rw[ha,hb];have:=(f a.toBitVec b.toBitVec).isLt;show((f a.toBitVec b.toBitVec).toNat:Int)%4294967296=((f a.toBitVec b.toBitVec).toNat:Int);omega
theorem AaV(f:BitVec 64→BitVec 64→BitVec 64)(a b:UInt64):KA .u64 f (a.toNat:Int) (b.toNat:Int)=u64 ⟨f a.toBitVec b.toBitVec⟩:=by
 unfold KA u64;congr 1;show IntKind.u64.wrap ((f (BitVec.ofInt 64 (a.toNat:Int)) (BitVec.ofInt 64 (b.toNat:Int))).toNat:Int)=_;rw[PZ,PZ,Ia];have ha:BitVec.ofNat 64 a.toNat=a.toBitVec:=by apply Aqb;rw[Aqs,UInt64.toNat_toBitVec];exact ApS a.toNat_lt
 have hb:BitVec.ofNat 64 b.toNat=b.toBitVec:=by apply Aqb;rw[Aqs,UInt64.toNat_toBitVec];exact ApS b.toNat_lt
 rw[ha,hb];have:=(f a.toBitVec b.toBitVec).isLt;show((f a.toBitVec b.toBitVec).toNat:Int)%18446744073709551616=((f a.toBitVec b.toBitVec).toNat:Int);omega
theorem XV(a b:UInt8):AH E .xor t (u8 a) (u8 b)=some (u8 (a ^^^ b)):=ApW some (Anj _ a b)
theorem TG(a b:UInt32):AH E .and t (u32 a) (u32 b)=some (u32 (a &&& b)):=ApW some (VL _ a b)
theorem WU(a b:UInt32):AH E .or t (u32 a) (u32 b)=some (u32 (a ||| b)):=ApW some (VL _ a b)
theorem Ty(a b:UInt32):AH E .xor t (u32 a) (u32 b)=some (u32 (a ^^^ b)):=ApW some (VL _ a b)
theorem TR(a b:UInt64):AH E .and t (u64 a) (u64 b)=some (u64 (a &&& b)):=ApW some (AaV _ a b)
theorem Xp(a b:UInt64):AH E .or t (u64 a) (u64 b)=some (u64 (a ||| b)):=ApW some (AaV _ a b)
theorem Xy(a:UInt32):On .xor (u32 a)=some (u32 (~~~a)):=by
 have h:On .xor (u32 a)=some (KA .u32 (· ^^^ ·) ((4294967295:UInt32).toNat:Int) (a.toNat:Int)):=rfl;refine h.trans (ApW some ((VL (· ^^^ ·) 4294967295 a).trans (ApW u32 ?_)));apply UInt32.toBitVec_inj.1;show(4294967295:UInt32).toBitVec ^^^ a.toBitVec = ~~~ a.toBitVec;rw[BitVec.not_def];rfl
theorem XW(a:UInt64):On .xor (u64 a)=some (u64 (~~~a)):=by
 have h:On .xor (u64 a)=some (KA .u64 (· ^^^ ·) ((18446744073709551615:UInt64).toNat:Int) (a.toNat:Int)):=rfl;refine h.trans (ApW some ((AaV (· ^^^ ·) 18446744073709551615 a).trans (ApW u64 ?_)));apply UInt64.toBitVec_inj.1;show(18446744073709551615:UInt64).toBitVec ^^^ a.toBitVec = ~~~ a.toBitVec;rw[BitVec.not_def];rfl
theorem Ym(a b:UInt8):((a.toNat:Int)==(b.toNat:Int))=(a==b):=by rw[ApK];simp only[ApQ];rw[←Aqq];omega
theorem AaF(a b:UInt64):((a.toNat:Int)==(b.toNat:Int))=(a==b):=by rw[ApK];simp only[ApQ];rw[←AqO];omega
theorem CN{a b:Bool}(h:a=b):some (AV.bool a)=some (AV.bool b):=by rw[h]
theorem L6{p q:Prop}[Decidable p][Decidable q](h:p↔q):decide p=decide q:=by simp only[h]
theorem X3(a b:UInt8):AH E .eql t (u8 a) (u8 b)=some (.bool (a==b)):=CN (Ym a b)
theorem XX(a b:UInt8):AH E .neq t (u8 a) (u8 b)=some (.bool (a != b)):=CN (ApW not (Ym a b))
theorem WT(a b:UInt8):AH E .lss t (u8 a) (u8 b)=some (.bool (decide (a<b))):=CN (L6 (by rw[Aqc];omega))
theorem WB(a b:UInt8):AH E .leq t (u8 a) (u8 b)=some (.bool (decide (a≤b))):=CN (L6 (by rw[ApL];omega))
theorem Xl(a b:UInt8):AH E .gtr t (u8 a) (u8 b)=some (.bool (decide (a>b))):=CN (L6 (by rw[AqP,AqP,Aqc];omega))
theorem Xj(a b:UInt8):AH E .geq t (u8 a) (u8 b)=some (.bool (decide (a≥b))):=CN (L6 (by rw[ArZ,ArZ,ApL];omega))
theorem Vo(a b:UInt64):AH E .eql t (u64 a) (u64 b)=some (.bool (a==b)):=CN (AaF a b)
theorem TH(a b:UInt64):AH E .neq t (u64 a) (u64 b)=some (.bool (a != b)):=CN (ApW not (AaF a b))
theorem TJ(a b:UInt64):AH E .lss t (u64 a) (u64 b)=some (.bool (decide (a<b))):=CN (L6 (by rw[ApH];omega))
theorem TZ(a b:UInt64):AH E .leq t (u64 a) (u64 b)=some (.bool (decide (a≤b))):=CN (L6 (by rw[ApB];omega))
theorem T9(a b:UInt64):AH E .gtr t (u64 a) (u64 b)=some (.bool (decide (a>b))):=CN (L6 (by rw[AqP,AqP,ApH];omega))
theorem TT(a b:UInt64):AH E .geq t (u64 a) (u64 b)=some (.bool (decide (a≥b))):=CN (L6 (by rw[ArZ,ArZ,ApB];omega))
theorem UP(a b:UInt64):AH E .quo t (u64 a) (u64 b)=if b=0 then none else some (u64 (a/b)):=by
 have h:((b.toNat:Int)=0)=(b=0):=by rw[←AqO];simp
 show(if(b.toNat:Int)=0 then none else some (AV.int .u64 _))=_;simp only[h];split
 ·rfl
 ·refine HS ?_;rw[Ia,Aq1];have:=a.toNat_lt;have:a.toNat/b.toNat≤a.toNat:=Nat.div_le_self _ _;rw[show(a.toNat:Int).tdiv (b.toNat:Int)=((a.toNat/b.toNat:Nat):Int)from rfl];generalize a.toNat/b.toNat=q at *;omega
theorem U9(a b:UInt64):AH E .rem t (u64 a) (u64 b)=if b=0 then none else some (u64 (a%b)):=by
 have h:((b.toNat:Int)=0)=(b=0):=by rw[←AqO];simp
 show(if(b.toNat:Int)=0 then none else some (AV.int .u64 _))=_;simp only[h];split
 ·rfl
 ·exact HS (by rw[Ap5];rfl)
theorem YL{n:Nat}(a:Nat)(ha:a<2^w):a/2^(min n w)=a >>> n:=by
 rw[AqZ];rcases Nat.le_total n w with h|h
 ·rw[Aq9 h]
 ·rw[Nat.min_eq_right h,ArQ ha,ArQ (Ap3 ha (AqG (by omega) h))]
theorem U8{n:Nat}(a:Nat):(a*2^(min n w))%2^w=(a <<< n)%2^w:=by
 rw[Ari];rcases Nat.le_total n w with h|h
 ·rw[Aq9 h]
 ·rw[Nat.min_eq_right h,Nat.mul_mod_left];obtain⟨d,rfl⟩:∃d,n=w+d:=⟨n-w,by omega⟩;rw[Nat.pow_add,Ap9 (2^w),←Arp,Nat.mul_mod_left]
theorem W0(a m:Nat):(a:Int).fdiv (2^m)=((a/2^m:Nat):Int):=by
 rw[Int.fdiv_eq_ediv_of_nonneg _ (by exact_mod_cast Apx _)]
 norm_cast
theorem Qu(a n:Nat):(a:Int)*2^n=((a*2^n:Nat):Int):=by rw[Int.natCast_mul,Int.natCast_pow];rfl
theorem AaT(a n:Nat):IntKind.u8.wrap ((a:Int)*2^n)=((a*2^n%2^8:Nat):Int):=by
 rw[PL,Qu,show(2:Nat)^8=256 from rfl];generalize a*2^n=m;omega
theorem WJ(a n:Nat):IntKind.u32.wrap ((a:Int)*2^n)=((a*2^n%2^32:Nat):Int):=by
 rw[Qr,Qu,show(2:Nat)^32=4294967296 from rfl];generalize a*2^n=m;omega
theorem WO(a n:Nat):IntKind.u64.wrap ((a:Int)*2^n)=((a*2^n%2^64:Nat):Int):=by
 rw[Ia,Qu,show(2:Nat)^64=18446744073709551616 from rfl];generalize a*2^n=m;omega
theorem shl_u8(a:UInt8)(y:Nat):FX .shl .u8 (a.toNat:Int) (y:Int)=some (u8 (shl8 a y)):=by
 unfold FX;rw[AoQ (by omega)];refine HS ?_;rw[AaT];show((a.toNat*2^(min y 8)%2^8:Nat):Int)=_;rw[U8];rfl
theorem AfP(a:UInt32)(y:Nat):FX .shl .u32 (a.toNat:Int) (y:Int)=some (u32 (SK a y)):=by
 unfold FX;rw[AoQ (by omega)];refine HS ?_;rw[WJ];show((a.toNat*2^(min y 32)%2^32:Nat):Int)=_;rw[U8];rfl
theorem Y5(a:UInt32)(y:Nat):FX .shr .u32 (a.toNat:Int) (y:Int)=some (u32 (Rq a y)):=by
 unfold FX;rw[AoQ (by omega)];refine HS ?_;rw[W0];show((a.toNat/2^(min y 32):Nat):Int)=_;rw[YL _ a.toNat_lt];rfl
theorem AfA(a:UInt64)(y:Nat):FX .shl .u64 (a.toNat:Int) (y:Int)=some (u64 (Fs a y)):=by
 unfold FX;rw[AoQ (by omega)];refine HS ?_;rw[WO];show((a.toNat*2^(min y 64)%2^64:Nat):Int)=_;rw[U8];rfl
theorem Aay(a:UInt64)(y:Nat):FX .shr .u64 (a.toNat:Int) (y:Int)=some (u64 (CZ a y)):=by
 unfold FX;rw[AoQ (by omega)];refine HS ?_;rw[W0];show((a.toNat/2^(min y 64):Nat):Int)=_;rw[YL _ a.toNat_lt];rfl
def EX(x:Int):Prop:=0≤x
instance (x:Int):Decidable (EX x):=inferInstanceAs (Decidable (_≤_))
theorem Sl{op:BinOp}{a:Int}(h:EX x):FX op k a x=FX op k a ((x.toNat:Nat):Int):=by
 have:(x.toNat:Int)=x:=Int.toNat_of_nonneg h;rw[this]
theorem OE(a:UInt32)(y:UInt64):AH E .shl t (u32 a) (u64 y)=some (u32 (SK a y.toNat)):=AfP a _
theorem N5(a:UInt32)(y:UInt64):AH E .shr t (u32 a) (u64 y)=some (u32 (Rq a y.toNat)):=Y5 a _
theorem N0(a:UInt64)(y:UInt64):AH E .shl t (u64 a) (u64 y)=some (u64 (Fs a y.toNat)):=AfA a _
theorem Nx(a:UInt64)(y:UInt64):AH E .shr t (u64 a) (u64 y)=some (u64 (CZ a y.toNat)):=Aay a _
theorem Nj(a:UInt32)(y:Int):AH E .shr t (u32 a) (i64 y)=if EX y then some (u32 (Rq a y.toNat))else none:=by
 split
 ·rename_i h;exact(Sl h).trans (Y5 a _)
 ·rename_i h;exact AoO (Int.lt_of_not_ge h)
theorem N7(a:UInt64)(y:Int):AH E .shr t (u64 a) (i64 y)=if EX y then some (u64 (CZ a y.toNat))else none:=by
 split
 ·rename_i h;exact(Sl h).trans (Aay a _)
 ·rename_i h;exact AoO (Int.lt_of_not_ge h)
def IH(E:Env)(t:TypeId)(k:IntKind):Bool:=match E.tab t with
 |some ⟨.int k',_,_,_⟩=>decide (k'=k)
 |_=>false
theorem Gv{E:Env}{k0:IntKind}(hs:(E.tab s).isSome=true)(hd:IH E d k=true):Bg E σ s d (.int k0 x)=some (.int k (k.wrap x),σ):=by
 unfold IH at hd;split at hd
 case h_2=>cases hd
 rename_i k' a b c hk;have:k'=k:=by simpa using hd
 subst this;unfold Bg;rw[hk];cases hh:E.tab s with
 |none=>rw[hh]at hs;cases hs
 |some sd=>rfl
theorem Ts(x:Int)(hs:(E.tab s).isSome=true)(hd:IH E d .u8=true):Bg E σ s d (i64 x)=some (u8 (UInt8.ofInt x),σ):=by
 refine(Gv hs hd).trans ?_;rw[PL];have:((UInt8.ofInt x).toNat:Int)=x%256:=by rw[UInt8.ofInt,Arb];omega
 unfold u8;rw[this]
theorem RN(x:Int)(hs:(E.tab s).isSome=true)(hd:IH E d .u64=true):Bg E σ s d (i64 x)=some (u64 (UInt64.ofInt x),σ):=by
 refine(Gv hs hd).trans ?_;rw[Ia];have:((UInt64.ofInt x).toNat:Int)=x%18446744073709551616:=by rw[UInt64.ofInt,Arv];omega
 unfold u64;rw[this]
theorem TS(x:UInt8)(hs:(E.tab s).isSome=true)(hd:IH E d .i64=true):Bg E σ s d (u8 x)=some (i64 (x.toNat:Int),σ):=by
 refine(Gv hs hd).trans ?_;have:=x.toNat_lt;have h:IntKind.i64.wrap (x.toNat:Int)=(x.toNat:Int):=by rw[IntKind.wrap_i64];omega
 unfold i64;rw[h]
theorem Vk(x:UInt8)(hs:(E.tab s).isSome=true)(hd:IH E d .u32=true):Bg E σ s d (u8 x)=some (u32 x.toUInt32,σ):=by
 refine(Gv hs hd).trans ?_;have:=x.toNat_lt;unfold u32;rw[Qr,UInt8.toNat_toUInt32];congr 3;omega
theorem T1(x:UInt8)(hs:(E.tab s).isSome=true)(hd:IH E d .u64=true):Bg E σ s d (u8 x)=some (u64 x.toUInt64,σ):=by
 refine(Gv hs hd).trans ?_;have:=x.toNat_lt;unfold u64;rw[Ia,UInt8.toNat_toUInt64];congr 3;omega
theorem Ut(x:UInt32)(hs:(E.tab s).isSome=true)(hd:IH E d .u8=true):Bg E σ s d (u32 x)=some (u8 x.toUInt8,σ):=by
 refine(Gv hs hd).trans ?_;unfold u8;rw[PL,UInt32.toNat_toUInt8];congr 3
theorem Uq(x:UInt64)(hs:(E.tab s).isSome=true)(hd:IH E d .u8=true):Bg E σ s d (u64 x)=some (u8 x.toUInt8,σ):=by
 refine(Gv hs hd).trans ?_;unfold u8;rw[PL,Arn];congr 3
theorem SD(x:UInt64)(hs:(E.tab s).isSome=true)(hd:IH E d .i64=true):Bg E σ s d (u64 x)=some (i64 (w64 (x.toNat:Int)),σ):=Gv hs hd
end
end Go.Rv
