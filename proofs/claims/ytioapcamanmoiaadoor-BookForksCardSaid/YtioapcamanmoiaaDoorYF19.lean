/-
  Part 19.
-/
import Derived.Test.YtioapcamanmoiaaDoorYF18
import Derived.Attr
namespace Go.Rv
set_option linter.unusedVariables false
set_option linter.unusedSimpArgs false
variable{x:Int}{k:IntKind}{w:Nat}{σ:Al}{s d:TypeId}
variable {E:Env}
def i64(x:Int):AV:=.int .i64 x
def u8(x:UInt8):AV:=.int .u8 (x.toNat:Int)
def u16(x:UInt16):AV:=.int .u16 (x.toNat:Int)
def u32(x:UInt32):AV:=.int .u32 (x.toNat:Int)
def u64(x:UInt64):AV:=.int .u64 (x.toNat:Int)
def w64(x:Int):Int:=IntKind.i64.wrap x
theorem B6(h:-9223372036854775808≤x∧x≤9223372036854775807):w64 x=x:=by
 unfold w64;rw[IntKind.wrap_i64];omega
def shl8(x:UInt8)(n:Nat):UInt8:=⟨x.toBitVec <<< n⟩
def V7(x:UInt32)(n:Nat):UInt32:=⟨x.toBitVec <<< n⟩
def RA(x:UInt32)(n:Nat):UInt32:=⟨x.toBitVec >>> n⟩
def Lm(x:UInt64)(n:Nat):UInt64:=⟨x.toBitVec <<< n⟩
def Dz(x:UInt64)(n:Nat):UInt64:=⟨x.toBitVec >>> n⟩
def Ai5(a b:Int):Int:=IntKind.i64.wrap ((BitVec.ofInt 64 a &&& BitVec.ofInt 64 b).toNat:Int)
def or64(a b:Int):Int:=IntKind.i64.wrap ((BitVec.ofInt 64 a ||| BitVec.ofInt 64 b).toNat:Int)
def Aem(a b:Int):Int:=IntKind.i64.wrap ((BitVec.ofInt 64 a ^^^ BitVec.ofInt 64 b).toNat:Int)
def InR(x:Int)(n:Nat):Prop:=0≤x∧x.toNat<n
def InB(x:Int)(n:Nat):Prop:=0≤x∧x.toNat≤n
def Dj(n bytes:Nat):Prop:=n≤maxLen∧n*bytes≤Gj
instance (x:Int)(n:Nat):Decidable (InR x n):=inferInstanceAs (Decidable (_∧_))
instance (x:Int)(n:Nat):Decidable (InB x n):=inferInstanceAs (Decidable (_∧_))
instance (n b:Nat):Decidable (Dj n b):=inferInstanceAs (Decidable (_∧_))
theorem Acw(x:Int)(n:Nat):idx (i64 x) n=if InR x n then some x.toNat else none:=rfl
theorem Aei(x:UInt8)(n:Nat):idx (u8 x) n=if InR (x.toNat:Int) n then some x.toNat else none:=rfl
theorem Ac5(x:UInt32)(n:Nat):idx (u32 x) n=if InR (x.toNat:Int) n then some x.toNat else none:=rfl
theorem AdZ(x:UInt64)(n:Nat):idx (u64 x) n=if InR (x.toNat:Int) n then some x.toNat else none:=rfl
theorem AaG(x:Int)(n:Nat):Aec (i64 x) n=if InB x n then some x.toNat else none:=rfl
theorem AdU(a b:Nat):((a:Int)==(b:Int))=(a==b):=by
 rw[Amt];simp only[AlX];omega
section
variable {t:TypeId}
theorem SK(a b:Int):AJ E .add t (i64 a) (i64 b)=some (i64 (w64 (a+b))):=rfl
theorem RW(a b:Int):AJ E .sub t (i64 a) (i64 b)=some (i64 (w64 (a-b))):=rfl
theorem Re(a b:Int):AJ E .mul t (i64 a) (i64 b)=some (i64 (w64 (a*b))):=rfl
theorem RX(a b:Int):AJ E .quo t (i64 a) (i64 b)=if b=0 then none else some (i64 (w64 (a.tdiv b))):=rfl
theorem S1(a b:Int):AJ E .rem t (i64 a) (i64 b)=if b=0 then none else some (i64 (a.tmod b)):=rfl
theorem T1(a b:Int):AJ E .and t (i64 a) (i64 b)=some (i64 (Ai5 a b)):=rfl
theorem VY(a b:Int):AJ E .or t (i64 a) (i64 b)=some (i64 (or64 a b)):=rfl
theorem RS(a b:Int):AJ E .xor t (i64 a) (i64 b)=some (i64 (Aem a b)):=rfl
theorem SO(a b:Int):AJ E .eql t (i64 a) (i64 b)=some (.bool (a==b)):=rfl
theorem T6(a b:Int):AJ E .neq t (i64 a) (i64 b)=some (.bool (a != b)):=rfl
theorem SN(a b:Int):AJ E .lss t (i64 a) (i64 b)=some (.bool (decide (a<b))):=rfl
theorem RV(a b:Int):AJ E .leq t (i64 a) (i64 b)=some (.bool (decide (a≤b))):=rfl
theorem Ry(a b:Int):AJ E .gtr t (i64 a) (i64 b)=some (.bool (decide (a>b))):=rfl
theorem SH(a b:Int):AJ E .geq t (i64 a) (i64 b)=some (.bool (decide (a≥b))):=rfl
theorem VG(a:Int):Nu .neg (i64 a)=some (i64 (w64 (0-a))):=rfl
theorem VL(a:Int):Nu .xor (i64 a)=some (i64 (Aem (-1) a)):=rfl
theorem TH(n:Int):IntKind.u8.wrap n=n%256:=by rw[IntKind.wrap_u8]
theorem OO(n:Int):IntKind.u32.wrap n=n%4294967296:=by rw[IntKind.wrap_u32]
theorem HW(n:Int):IntKind.u64.wrap n=n%18446744073709551616:=by rw[IntKind.wrap_u64]
theorem H9{a b:Int}(h:a=b):some (AV.int k a)=some (AV.int k b):=by rw[h]
theorem S7(a b:UInt32):AJ E .add t (u32 a) (u32 b)=some (u32 (a+b)):=H9 (by rw[OO,UInt32.toNat_add];omega)
theorem S2(a b:UInt64):AJ E .add t (u64 a) (u64 b)=some (u64 (a+b)):=H9 (by rw[HW,UInt64.toNat_add];omega)
theorem R6(a b:UInt64):AJ E .sub t (u64 a) (u64 b)=some (u64 (a-b)):=H9 (by rw[HW,UInt64.toNat_sub];have:=a.toNat_lt;have:=b.toNat_lt;omega)
theorem Rd(a b:UInt64):AJ E .mul t (u64 a) (u64 b)=some (u64 (a*b)):=H9 (by rw[HW,UInt64.toNat_mul];simp)
theorem T9(n:Nat):BitVec.ofInt w (n:Int)=BitVec.ofNat w n:=by
 apply Amp;rw[BitVec.toNat_ofInt,AmE];omega
theorem Uy(f:BitVec 32→BitVec 32→BitVec 32)(a b:UInt32):Ms .u32 f (a.toNat:Int) (b.toNat:Int)=u32 ⟨f a.toBitVec b.toBitVec⟩:=by
 unfold Ms u32;congr 1;show IntKind.u32.wrap ((f (BitVec.ofInt 32 (a.toNat:Int)) (BitVec.ofInt 32 (b.toNat:Int))).toNat:Int)=_;rw[T9,T9,OO];have ha:BitVec.ofNat 32 a.toNat=a.toBitVec:=by apply Amp;rw[AmE,UInt32.toNat_toBitVec];exact AmW a.toNat_lt
 have hb:BitVec.ofNat 32 b.toNat=b.toBitVec:=by apply Amp;rw[AmE,UInt32.toNat_toBitVec];exact AmW b.toNat_lt
 rw[ha,hb];have:=(f a.toBitVec b.toBitVec).isLt;show((f a.toBitVec b.toBitVec).toNat:Int)%4294967296=((f a.toBitVec b.toBitVec).toNat:Int);omega
theorem Wl(f:BitVec 64→BitVec 64→BitVec 64)(a b:UInt64):Ms .u64 f (a.toNat:Int) (b.toNat:Int)=u64 ⟨f a.toBitVec b.toBitVec⟩:=by
 unfold Ms u64;congr 1;show IntKind.u64.wrap ((f (BitVec.ofInt 64 (a.toNat:Int)) (BitVec.ofInt 64 (b.toNat:Int))).toNat:Int)=_;rw[T9,T9,HW];have ha:BitVec.ofNat 64 a.toNat=a.toBitVec:=by apply Amp;rw[AmE,UInt64.toNat_toBitVec];exact AmW a.toNat_lt
 have hb:BitVec.ofNat 64 b.toNat=b.toBitVec:=by apply Amp;rw[AmE,UInt64.toNat_toBitVec];exact AmW b.toNat_lt
 rw[ha,hb];have:=(f a.toBitVec b.toBitVec).isLt;show((f a.toBitVec b.toBitVec).toNat:Int)%18446744073709551616=((f a.toBitVec b.toBitVec).toNat:Int);omega
theorem Ty(a b:UInt32):AJ E .and t (u32 a) (u32 b)=some (u32 (a &&& b)):=Ame some (Uy _ a b)
theorem Vy(a b:UInt32):AJ E .or t (u32 a) (u32 b)=some (u32 (a ||| b)):=Ame some (Uy _ a b)
theorem Si(a b:UInt32):AJ E .xor t (u32 a) (u32 b)=some (u32 (a ^^^ b)):=Ame some (Uy _ a b)
theorem Tc(a b:UInt64):AJ E .and t (u64 a) (u64 b)=some (u64 (a &&& b)):=Ame some (Wl _ a b)
theorem VK(a b:UInt64):AJ E .or t (u64 a) (u64 b)=some (u64 (a ||| b)):=Ame some (Wl _ a b)
theorem Vr(a:UInt32):Nu .xor (u32 a)=some (u32 (~~~a)):=by
 have h:Nu .xor (u32 a)=some (Ms .u32 (· ^^^ ·) ((4294967295:UInt32).toNat:Int) (a.toNat:Int)):=rfl;refine h.trans (Ame some ((Uy (· ^^^ ·) 4294967295 a).trans (Ame u32 ?_)));apply UInt32.toBitVec_inj.1;show(4294967295:UInt32).toBitVec ^^^ a.toBitVec = ~~~ a.toBitVec;rw[BitVec.not_def];rfl
theorem Ve(a:UInt64):Nu .xor (u64 a)=some (u64 (~~~a)):=by
 have h:Nu .xor (u64 a)=some (Ms .u64 (· ^^^ ·) ((18446744073709551615:UInt64).toNat:Int) (a.toNat:Int)):=rfl;refine h.trans (Ame some ((Wl (· ^^^ ·) 18446744073709551615 a).trans (Ame u64 ?_)));apply UInt64.toBitVec_inj.1;show(18446744073709551615:UInt64).toBitVec ^^^ a.toBitVec = ~~~ a.toBitVec;rw[BitVec.not_def];rfl
theorem Aen(a b:UInt8):((a.toNat:Int)==(b.toNat:Int))=(a==b):=by rw[Amt];simp only[AlX];rw[←UInt8.toNat_inj];omega
theorem W8(a b:UInt64):((a.toNat:Int)==(b.toNat:Int))=(a==b):=by rw[Amt];simp only[AlX];rw[←AmX];omega
theorem FR{a b:Bool}(h:a=b):some (AV.bool a)=some (AV.bool b):=by rw[h]
theorem U8{p q:Prop}[Decidable p][Decidable q](h:p↔q):decide p=decide q:=by simp only[h]
theorem VB(a b:UInt8):AJ E .eql t (u8 a) (u8 b)=some (.bool (a==b)):=FR (Aen a b)
theorem SQ(a b:UInt64):AJ E .eql t (u64 a) (u64 b)=some (.bool (a==b)):=FR (W8 a b)
theorem Ss(a b:UInt64):AJ E .neq t (u64 a) (u64 b)=some (.bool (a != b)):=FR (Ame not (W8 a b))
theorem Tf(a b:UInt64):AJ E .lss t (u64 a) (u64 b)=some (.bool (decide (a<b))):=FR (U8 (by rw[Al4];omega))
theorem S9(a b:UInt64):AJ E .leq t (u64 a) (u64 b)=some (.bool (decide (a≤b))):=FR (U8 (by rw[Amk];omega))
theorem RZ(a b:UInt64):AJ E .gtr t (u64 a) (u64 b)=some (.bool (decide (a>b))):=FR (U8 (by rw[AnP,AnP,Al4];omega))
theorem SR(a b:UInt64):AJ E .geq t (u64 a) (u64 b)=some (.bool (decide (a≥b))):=FR (U8 (by rw[ge_iff_le,ge_iff_le,Amk];omega))
theorem RJ(a b:UInt64):AJ E .quo t (u64 a) (u64 b)=if b=0 then none else some (u64 (a/b)):=by
 have h:((b.toNat:Int)=0)=(b=0):=by rw[←AmX];simp
 show(if(b.toNat:Int)=0 then none else some (AV.int .u64 _))=_;simp only[h];split
 ·rfl
 ·refine H9 ?_;rw[HW,UInt64.toNat_div];have:=a.toNat_lt;have:a.toNat/b.toNat≤a.toNat:=Nat.div_le_self _ _;rw[show(a.toNat:Int).tdiv (b.toNat:Int)=((a.toNat/b.toNat:Nat):Int)from rfl];generalize a.toNat/b.toNat=q at *;omega
theorem RR(a b:UInt64):AJ E .rem t (u64 a) (u64 b)=if b=0 then none else some (u64 (a%b)):=by
 have h:((b.toNat:Int)=0)=(b=0):=by rw[←AmX];simp
 show(if(b.toNat:Int)=0 then none else some (AV.int .u64 _))=_;simp only[h];split
 ·rfl
 ·exact H9 (by rw[Ant];rfl)
theorem XA{n:Nat}(a:Nat)(ha:a<2^w):a/2^(min n w)=a >>> n:=by
 rw[AmU];rcases Nat.le_total n w with h|h
 ·rw[AmJ h]
 ·rw[Nat.min_eq_right h,Nat.div_eq_of_lt ha,Nat.div_eq_of_lt (Amb ha (Nat.pow_le_pow_right (by omega) h))]
theorem RG{n:Nat}(a:Nat):(a*2^(min n w))%2^w=(a <<< n)%2^w:=by
 rw[Nat.shiftLeft_eq];rcases Nat.le_total n w with h|h
 ·rw[AmJ h]
 ·rw[Nat.min_eq_right h,Nat.mul_mod_left];obtain⟨d,rfl⟩:∃d,n=w+d:=⟨n-w,by omega⟩;rw[Nat.pow_add,AmH (2^w),←Nat.mul_assoc,Nat.mul_mod_left]
theorem TC(a m:Nat):(a:Int).fdiv (2^m)=((a/2^m:Nat):Int):=by
 rw[Int.fdiv_eq_ediv_of_nonneg _ (by exact_mod_cast Ali _)]
 norm_cast
theorem Pv(a n:Nat):(a:Int)*2^n=((a*2^n:Nat):Int):=by rw[Int.natCast_mul,Int.natCast_pow];rfl
theorem XW(a n:Nat):IntKind.u8.wrap ((a:Int)*2^n)=((a*2^n%2^8:Nat):Int):=by
 rw[TH,Pv,show(2:Nat)^8=256 from rfl];generalize a*2^n=m;omega
theorem UU(a n:Nat):IntKind.u32.wrap ((a:Int)*2^n)=((a*2^n%2^32:Nat):Int):=by
 rw[OO,Pv,show(2:Nat)^32=4294967296 from rfl];generalize a*2^n=m;omega
theorem VP(a n:Nat):IntKind.u64.wrap ((a:Int)*2^n)=((a*2^n%2^64:Nat):Int):=by
 rw[HW,Pv,show(2:Nat)^64=18446744073709551616 from rfl];generalize a*2^n=m;omega
theorem shl_u8(a:UInt8)(y:Nat):FX .shl .u8 (a.toNat:Int) (y:Int)=some (u8 (shl8 a y)):=by
 unfold FX;rw[AkT (by omega)];refine H9 ?_;rw[XW];show((a.toNat*2^(min y 8)%2^8:Nat):Int)=_;rw[RG];rfl
theorem Ack(a:UInt32)(y:Nat):FX .shl .u32 (a.toNat:Int) (y:Int)=some (u32 (V7 a y)):=by
 unfold FX;rw[AkT (by omega)];refine H9 ?_;rw[UU];show((a.toNat*2^(min y 32)%2^32:Nat):Int)=_;rw[RG];rfl
theorem Xn(a:UInt32)(y:Nat):FX .shr .u32 (a.toNat:Int) (y:Int)=some (u32 (RA a y)):=by
 unfold FX;rw[AkT (by omega)];refine H9 ?_;rw[TC];show((a.toNat/2^(min y 32):Nat):Int)=_;rw[XA _ a.toNat_lt];rfl
theorem Adi(a:UInt64)(y:Nat):FX .shl .u64 (a.toNat:Int) (y:Int)=some (u64 (Lm a y)):=by
 unfold FX;rw[AkT (by omega)];refine H9 ?_;rw[VP];show((a.toNat*2^(min y 64)%2^64:Nat):Int)=_;rw[RG];rfl
theorem WC(a:UInt64)(y:Nat):FX .shr .u64 (a.toNat:Int) (y:Int)=some (u64 (Dz a y)):=by
 unfold FX;rw[AkT (by omega)];refine H9 ?_;rw[TC];show((a.toNat/2^(min y 64):Nat):Int)=_;rw[XA _ a.toNat_lt];rfl
def EC(x:Int):Prop:=0≤x
instance (x:Int):Decidable (EC x):=inferInstanceAs (Decidable (_≤_))
theorem Qa{op:BinOp}{a:Int}(h:EC x):FX op k a x=FX op k a ((x.toNat:Nat):Int):=by
 have:(x.toNat:Int)=x:=Amh h;rw[this]
theorem MJ(a:UInt32)(y:UInt64):AJ E .shl t (u32 a) (u64 y)=some (u32 (V7 a y.toNat)):=Ack a _
theorem Nx(a:UInt32)(y:UInt64):AJ E .shr t (u32 a) (u64 y)=some (u32 (RA a y.toNat)):=Xn a _
theorem M7(a:UInt64)(y:UInt64):AJ E .shl t (u64 a) (u64 y)=some (u64 (Lm a y.toNat)):=Adi a _
theorem Nh(a:UInt64)(y:UInt64):AJ E .shr t (u64 a) (u64 y)=some (u64 (Dz a y.toNat)):=WC a _
theorem ME(a:UInt32)(y:Int):AJ E .shr t (u32 a) (i64 y)=if EC y then some (u32 (RA a y.toNat))else none:=by
 split
 ·rename_i h;exact(Qa h).trans (Xn a _)
 ·rename_i h;exact AkS (Int.lt_of_not_ge h)
theorem My(a:UInt64)(y:Int):AJ E .shr t (u64 a) (i64 y)=if EC y then some (u64 (Dz a y.toNat))else none:=by
 split
 ·rename_i h;exact(Qa h).trans (WC a _)
 ·rename_i h;exact AkS (Int.lt_of_not_ge h)
def I6(E:Env)(t:TypeId)(k:IntKind):Bool:=match E.tab t with
 |some ⟨.int k',_,_,_⟩=>decide (k'=k)
 |_=>false
theorem Hv{E:Env}{k0:IntKind}(hs:(E.tab s).isSome=true)(hd:I6 E d k=true):B5 E σ s d (.int k0 x)=some (.int k (k.wrap x),σ):=by
 unfold I6 at hd;split at hd
 case h_2=>cases hd
 rename_i k' a b c hk;have:k'=k:=by simpa using hd
 subst this;unfold B5;rw[hk];cases hh:E.tab s with
 |none=>rw[hh]at hs;cases hs
 |some sd=>rfl
theorem Rp(x:Int)(hs:(E.tab s).isSome=true)(hd:I6 E d .u8=true):B5 E σ s d (i64 x)=some (u8 (UInt8.ofInt x),σ):=by
 refine(Hv hs hd).trans ?_;rw[TH];have:((UInt8.ofInt x).toNat:Int)=x%256:=by rw[UInt8.ofInt,UInt8.toNat_ofNat'];omega
 unfold u8;rw[this]
theorem Q5(x:Int)(hs:(E.tab s).isSome=true)(hd:I6 E d .u64=true):B5 E σ s d (i64 x)=some (u64 (UInt64.ofInt x),σ):=by
 refine(Hv hs hd).trans ?_;rw[HW];have:((UInt64.ofInt x).toNat:Int)=x%18446744073709551616:=by rw[UInt64.ofInt,UInt64.toNat_ofNat'];omega
 unfold u64;rw[this]
theorem SJ(x:UInt8)(hs:(E.tab s).isSome=true)(hd:I6 E d .i64=true):B5 E σ s d (u8 x)=some (i64 (x.toNat:Int),σ):=by
 refine(Hv hs hd).trans ?_;have:=x.toNat_lt;have h:IntKind.i64.wrap (x.toNat:Int)=(x.toNat:Int):=by rw[IntKind.wrap_i64];omega
 unfold i64;rw[h]
theorem Rj(x:UInt8)(hs:(E.tab s).isSome=true)(hd:I6 E d .u32=true):B5 E σ s d (u8 x)=some (u32 x.toUInt32,σ):=by
 refine(Hv hs hd).trans ?_;have:=x.toNat_lt;unfold u32;rw[OO,UInt8.toNat_toUInt32];congr 3;omega
theorem Rt(x:UInt8)(hs:(E.tab s).isSome=true)(hd:I6 E d .u64=true):B5 E σ s d (u8 x)=some (u64 x.toUInt64,σ):=by
 refine(Hv hs hd).trans ?_;have:=x.toNat_lt;unfold u64;rw[HW,UInt8.toNat_toUInt64];congr 3;omega
theorem SX(x:UInt32)(hs:(E.tab s).isSome=true)(hd:I6 E d .u8=true):B5 E σ s d (u32 x)=some (u8 x.toUInt8,σ):=by
 refine(Hv hs hd).trans ?_;unfold u8;rw[TH,UInt32.toNat_toUInt8];congr 3
theorem R2(x:UInt64)(hs:(E.tab s).isSome=true)(hd:I6 E d .u8=true):B5 E σ s d (u64 x)=some (u8 x.toUInt8,σ):=by
 refine(Hv hs hd).trans ?_;unfold u8;rw[TH,UInt64.toNat_toUInt8];congr 3
end
end Go.Rv
