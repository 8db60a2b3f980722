/-
  Part 19.
-/
import Derived.Test.YtioapcamanmoiaaGreatDoorYG18
import Derived.Attr
namespace Go.Rv
set_option linter.unusedVariables false
set_option linter.unusedSimpArgs false
variable{x:Int}{k:IntKind}{w:Nat}{σ:Am}{s d:TypeId}
variable {E:Env}
def i64(x:Int):AV:=.int .i64 x
def u8(x:UInt8):AV:=.int .u8 (x.toNat:Int)
def u16(x:UInt16):AV:=.int .u16 (x.toNat:Int)
def u32(x:UInt32):AV:=.int .u32 (x.toNat:Int)
def u64(x:UInt64):AV:=.int .u64 (x.toNat:Int)
def w64(x:Int):Int:=IntKind.i64.wrap x
theorem AH(h:-9223372036854775808≤x∧x≤9223372036854775807):w64 x=x:=by
 unfold w64;rw[IntKind.wrap_i64];omega
def shl8(x:UInt8)(n:Nat):UInt8:=⟨x.toBitVec <<< n⟩
def OC(x:UInt32)(n:Nat):UInt32:=⟨x.toBitVec <<< n⟩
def LX(x:UInt32)(n:Nat):UInt32:=⟨x.toBitVec >>> n⟩
def Ic(x:UInt64)(n:Nat):UInt64:=⟨x.toBitVec <<< n⟩
def CM(x:UInt64)(n:Nat):UInt64:=⟨x.toBitVec >>> n⟩
def An3(a b:Int):Int:=IntKind.i64.wrap ((BitVec.ofInt 64 a &&& BitVec.ofInt 64 b).toNat:Int)
def or64(a b:Int):Int:=IntKind.i64.wrap ((BitVec.ofInt 64 a ||| BitVec.ofInt 64 b).toNat:Int)
def Aj9(a b:Int):Int:=IntKind.i64.wrap ((BitVec.ofInt 64 a ^^^ BitVec.ofInt 64 b).toNat:Int)
def InR(x:Int)(n:Nat):Prop:=0≤x∧x.toNat<n
def InB(x:Int)(n:Nat):Prop:=0≤x∧x.toNat≤n
def Dt(n bytes:Nat):Prop:=n≤maxLen∧n*bytes≤GT
instance (x:Int)(n:Nat):Decidable (InR x n):=inferInstanceAs (Decidable (_∧_))
instance (x:Int)(n:Nat):Decidable (InB x n):=inferInstanceAs (Decidable (_∧_))
instance (n b:Nat):Decidable (Dt n b):=inferInstanceAs (Decidable (_∧_))
theorem AgP(x:Int)(n:Nat):idx (i64 x) n=if InR x n then some x.toNat else none:=rfl
theorem AkO(x:UInt8)(n:Nat):idx (u8 x) n=if InR (x.toNat:Int) n then some x.toNat else none:=rfl
theorem Afu(x:UInt32)(n:Nat):idx (u32 x) n=if InR (x.toNat:Int) n then some x.toNat else none:=rfl
theorem Afd(x:UInt64)(n:Nat):idx (u64 x) n=if InR (x.toNat:Int) n then some x.toNat else none:=rfl
theorem Ac5(x:Int)(n:Nat):AhF (i64 x) n=if InB x n then some x.toNat else none:=rfl
theorem Aht(a b:Nat):((a:Int)==(b:Int))=(a==b):=by
 rw[Aqw];simp only[AqV];omega
section
variable {t:TypeId}
theorem Uw(a b:Int):AO E .add t (i64 a) (i64 b)=some (i64 (w64 (a+b))):=rfl
theorem Vg(a b:Int):AO E .sub t (i64 a) (i64 b)=some (i64 (w64 (a-b))):=rfl
theorem Uu(a b:Int):AO E .mul t (i64 a) (i64 b)=some (i64 (w64 (a*b))):=rfl
theorem TH(a b:Int):AO E .quo t (i64 a) (i64 b)=if b=0 then none else some (i64 (w64 (a.tdiv b))):=rfl
theorem TM(a b:Int):AO E .rem t (i64 a) (i64 b)=if b=0 then none else some (i64 (a.tmod b)):=rfl
theorem Vj(a b:Int):AO E .and t (i64 a) (i64 b)=some (i64 (An3 a b)):=rfl
theorem XM(a b:Int):AO E .or t (i64 a) (i64 b)=some (i64 (or64 a b)):=rfl
theorem Um(a b:Int):AO E .xor t (i64 a) (i64 b)=some (i64 (Aj9 a b)):=rfl
theorem UB(a b:Int):AO E .eql t (i64 a) (i64 b)=some (.bool (a==b)):=rfl
theorem Vx(a b:Int):AO E .neq t (i64 a) (i64 b)=some (.bool (a != b)):=rfl
theorem UN(a b:Int):AO E .lss t (i64 a) (i64 b)=some (.bool (decide (a<b))):=rfl
theorem V0(a b:Int):AO E .leq t (i64 a) (i64 b)=some (.bool (decide (a≤b))):=rfl
theorem TP(a b:Int):AO E .gtr t (i64 a) (i64 b)=some (.bool (decide (a>b))):=rfl
theorem U9(a b:Int):AO E .geq t (i64 a) (i64 b)=some (.bool (decide (a≥b))):=rfl
theorem Xv(a:Int):Pb .neg (i64 a)=some (i64 (w64 (0-a))):=rfl
theorem XD(a:Int):Pb .xor (i64 a)=some (i64 (Aj9 (-1) a)):=rfl
theorem WQ(n:Int):IntKind.u8.wrap n=n%256:=by rw[IntKind.wrap_u8]
theorem Q7(n:Int):IntKind.u32.wrap n=n%4294967296:=by rw[IntKind.wrap_u32]
theorem I1(n:Int):IntKind.u64.wrap n=n%18446744073709551616:=by rw[IntKind.wrap_u64]
theorem I3{a b:Int}(h:a=b):some (AV.int k a)=some (AV.int k b):=by rw[h]
theorem V9(a b:UInt32):AO E .add t (u32 a) (u32 b)=some (u32 (a+b)):=I3 (by rw[Q7,UInt32.toNat_add];omega)
theorem UI(a b:UInt64):AO E .add t (u64 a) (u64 b)=some (u64 (a+b)):=I3 (by rw[I1,UInt64.toNat_add];omega)
theorem V1(a b:UInt64):AO E .sub t (u64 a) (u64 b)=some (u64 (a-b)):=I3 (by rw[I1,UInt64.toNat_sub];have:=a.toNat_lt;have:=b.toNat_lt;omega)
theorem TB(a b:UInt64):AO E .mul t (u64 a) (u64 b)=some (u64 (a*b)):=I3 (by rw[I1,UInt64.toNat_mul];simp)
theorem WK(n:Nat):BitVec.ofInt w (n:Int)=BitVec.ofNat w n:=by
 apply ArE;rw[BitVec.toNat_ofInt,ArX];omega
theorem WE(f:BitVec 32→BitVec 32→BitVec 32)(a b:UInt32):Pj .u32 f (a.toNat:Int) (b.toNat:Int)=u32 ⟨f a.toBitVec b.toBitVec⟩:=by
 unfold Pj u32;congr 1;show IntKind.u32.wrap ((f (BitVec.ofInt 32 (a.toNat:Int)) (BitVec.ofInt 32 (b.toNat:Int))).toNat:Int)=_;rw[WK,WK,Q7];have ha:BitVec.ofNat 32 a.toNat=a.toBitVec:=by apply ArE;rw[ArX,UInt32.toNat_toBitVec];exact Arg a.toNat_lt
 have hb:BitVec.ofNat 32 b.toNat=b.toBitVec:=by apply ArE;rw[ArX,UInt32.toNat_toBitVec];exact Arg b.toNat_lt
 rw[ha,hb];have:=(f a.toBitVec b.toBitVec).isLt;show((f a.toBitVec b.toBitVec).toNat:Int)%4294967296=((f a.toBitVec b.toBitVec).toNat:Int);omega
theorem AaV(f:BitVec 64→BitVec 64→BitVec 64)(a b:UInt64):Pj .u64 f (a.toNat:Int) (b.toNat:Int)=u64 ⟨f a.toBitVec b.toBitVec⟩:=by
 unfold Pj u64;congr 1;show IntKind.u64.wrap ((f (BitVec.ofInt 64 (a.toNat:Int)) (BitVec.ofInt 64 (b.toNat:Int))).toNat:Int)=_;rw[WK,WK,I1];have ha:BitVec.ofNat 64 a.toNat=a.toBitVec:=by apply ArE;rw[ArX,UInt64.toNat_toBitVec];exact Arg a.toNat_lt
 have hb:BitVec.ofNat 64 b.toNat=b.toBitVec:=by apply ArE;rw[ArX,UInt64.toNat_toBitVec];exact Arg b.toNat_lt
 rw[ha,hb];have:=(f a.toBitVec b.toBitVec).isLt;show((f a.toBitVec b.toBitVec).toNat:Int)%18446744073709551616=((f a.toBitVec b.toBitVec).toNat:Int);omega
theorem Ub(a b:UInt32):AO E .and t (u32 a) (u32 b)=some (u32 (a &&& b)):=Ars some (WE _ a b)
theorem Yg(a b:UInt32):AO E .or t (u32 a) (u32 b)=some (u32 (a ||| b)):=Ars some (WE _ a b)
theorem Ut(a b:UInt32):AO E .xor t (u32 a) (u32 b)=some (u32 (a ^^^ b)):=Ars some (WE _ a b)
theorem U0(a b:UInt64):AO E .and t (u64 a) (u64 b)=some (u64 (a &&& b)):=Ars some (AaV _ a b)
theorem XI(a b:UInt64):AO E .or t (u64 a) (u64 b)=some (u64 (a ||| b)):=Ars some (AaV _ a b)
theorem Ys(a:UInt32):Pb .xor (u32 a)=some (u32 (~~~a)):=by
 have h:Pb .xor (u32 a)=some (Pj .u32 (· ^^^ ·) ((4294967295:UInt32).toNat:Int) (a.toNat:Int)):=rfl;refine h.trans (Ars some ((WE (· ^^^ ·) 4294967295 a).trans (Ars u32 ?_)));apply UInt32.toBitVec_inj.1;show(4294967295:UInt32).toBitVec ^^^ a.toBitVec = ~~~ a.toBitVec;rw[BitVec.not_def];rfl
theorem Xu(a:UInt64):Pb .xor (u64 a)=some (u64 (~~~a)):=by
 have h:Pb .xor (u64 a)=some (Pj .u64 (· ^^^ ·) ((18446744073709551615:UInt64).toNat:Int) (a.toNat:Int)):=rfl;refine h.trans (Ars some ((AaV (· ^^^ ·) 18446744073709551615 a).trans (Ars u64 ?_)));apply UInt64.toBitVec_inj.1;show(18446744073709551615:UInt64).toBitVec ^^^ a.toBitVec = ~~~ a.toBitVec;rw[BitVec.not_def];rfl
theorem Z9(a b:UInt8):((a.toNat:Int)==(b.toNat:Int))=(a==b):=by rw[Aqw];simp only[AqV];rw[←AsV];omega
theorem AaM(a b:UInt64):((a.toNat:Int)==(b.toNat:Int))=(a==b):=by rw[Aqw];simp only[AqV];rw[←Ar8];omega
theorem G5{a b:Bool}(h:a=b):some (AV.bool a)=some (AV.bool b):=by rw[h]
theorem VS{p q:Prop}[Decidable p][Decidable q](h:p↔q):decide p=decide q:=by simp only[h]
theorem Yr(a b:UInt8):AO E .eql t (u8 a) (u8 b)=some (.bool (a==b)):=G5 (Z9 a b)
theorem V6(a b:UInt64):AO E .eql t (u64 a) (u64 b)=some (.bool (a==b)):=G5 (AaM a b)
theorem UL(a b:UInt64):AO E .neq t (u64 a) (u64 b)=some (.bool (a != b)):=G5 (Ars not (AaM a b))
theorem TA(a b:UInt64):AO E .lss t (u64 a) (u64 b)=some (.bool (decide (a<b))):=G5 (VS (by rw[AqH];omega))
theorem UZ(a b:UInt64):AO E .leq t (u64 a) (u64 b)=some (.bool (decide (a≤b))):=G5 (VS (by rw[AqI];omega))
theorem UD(a b:UInt64):AO E .gtr t (u64 a) (u64 b)=some (.bool (decide (a>b))):=G5 (VS (by rw[Asi,Asi,AqH];omega))
theorem UJ(a b:UInt64):AO E .geq t (u64 a) (u64 b)=some (.bool (decide (a≥b))):=G5 (VS (by rw[ge_iff_le,ge_iff_le,AqI];omega))
theorem VJ(a b:UInt64):AO E .quo t (u64 a) (u64 b)=if b=0 then none else some (u64 (a/b)):=by
 have h:((b.toNat:Int)=0)=(b=0):=by rw[←Ar8];simp
 show(if(b.toNat:Int)=0 then none else some (AV.int .u64 _))=_;simp only[h];split
 ·rfl
 ·refine I3 ?_;rw[I1,Ar9];have:=a.toNat_lt;have:a.toNat/b.toNat≤a.toNat:=Nat.div_le_self _ _;rw[show(a.toNat:Int).tdiv (b.toNat:Int)=((a.toNat/b.toNat:Nat):Int)from rfl];generalize a.toNat/b.toNat=q at *;omega
theorem T7(a b:UInt64):AO E .rem t (u64 a) (u64 b)=if b=0 then none else some (u64 (a%b)):=by
 have h:((b.toNat:Int)=0)=(b=0):=by rw[←Ar8];simp
 show(if(b.toNat:Int)=0 then none else some (AV.int .u64 _))=_;simp only[h];split
 ·rfl
 ·exact I3 (by rw[Aq9];rfl)
theorem Aao{n:Nat}(a:Nat)(ha:a<2^w):a/2^(min n w)=a >>> n:=by
 rw[Ar6];rcases Nat.le_total n w with h|h
 ·rw[ArZ h]
 ·rw[Nat.min_eq_right h,AsM ha,AsM (Aq7 ha (Nat.pow_le_pow_right (by omega) h))]
theorem Uc{n:Nat}(a:Nat):(a*2^(min n w))%2^w=(a <<< n)%2^w:=by
 rw[AsN];rcases Nat.le_total n w with h|h
 ·rw[ArZ h]
 ·rw[Nat.min_eq_right h,Nat.mul_mod_left];obtain⟨d,rfl⟩:∃d,n=w+d:=⟨n-w,by omega⟩;rw[AsH,Arx (2^w),←AsI,Nat.mul_mod_left]
theorem VX(a m:Nat):(a:Int).fdiv (2^m)=((a/2^m:Nat):Int):=by
 rw[Int.fdiv_eq_ediv_of_nonneg _ (by exact_mod_cast Aqm _)]
 norm_cast
theorem Rt(a n:Nat):(a:Int)*2^n=((a*2^n:Nat):Int):=by rw[Int.natCast_mul,Int.natCast_pow];rfl
theorem YJ(a n:Nat):IntKind.u8.wrap ((a:Int)*2^n)=((a*2^n%2^8:Nat):Int):=by
 rw[WQ,Rt,show(2:Nat)^8=256 from rfl];generalize a*2^n=m;omega
theorem Yd(a n:Nat):IntKind.u32.wrap ((a:Int)*2^n)=((a*2^n%2^32:Nat):Int):=by
 rw[Q7,Rt,show(2:Nat)^32=4294967296 from rfl];generalize a*2^n=m;omega
theorem XK(a n:Nat):IntKind.u64.wrap ((a:Int)*2^n)=((a*2^n%2^64:Nat):Int):=by
 rw[I1,Rt,show(2:Nat)^64=18446744073709551616 from rfl];generalize a*2^n=m;omega
theorem shl_u8(a:UInt8)(y:Nat):Gr .shl .u8 (a.toNat:Int) (y:Int)=some (u8 (shl8 a y)):=by
 unfold Gr;rw[ApV (by omega)];refine I3 ?_;rw[YJ];show((a.toNat*2^(min y 8)%2^8:Nat):Int)=_;rw[Uc];rfl
theorem AfW(a:UInt32)(y:Nat):Gr .shl .u32 (a.toNat:Int) (y:Int)=some (u32 (OC a y)):=by
 unfold Gr;rw[ApV (by omega)];refine I3 ?_;rw[Yd];show((a.toNat*2^(min y 32)%2^32:Nat):Int)=_;rw[Uc];rfl
theorem Abd(a:UInt32)(y:Nat):Gr .shr .u32 (a.toNat:Int) (y:Int)=some (u32 (LX a y)):=by
 unfold Gr;rw[ApV (by omega)];refine I3 ?_;rw[VX];show((a.toNat/2^(min y 32):Nat):Int)=_;rw[Aao _ a.toNat_lt];rfl
theorem AfM(a:UInt64)(y:Nat):Gr .shl .u64 (a.toNat:Int) (y:Int)=some (u64 (Ic a y)):=by
 unfold Gr;rw[ApV (by omega)];refine I3 ?_;rw[XK];show((a.toNat*2^(min y 64)%2^64:Nat):Int)=_;rw[Uc];rfl
theorem Aah(a:UInt64)(y:Nat):Gr .shr .u64 (a.toNat:Int) (y:Int)=some (u64 (CM a y)):=by
 unfold Gr;rw[ApV (by omega)];refine I3 ?_;rw[VX];show((a.toNat/2^(min y 64):Nat):Int)=_;rw[Aao _ a.toNat_lt];rfl
def DV(x:Int):Prop:=0≤x
instance (x:Int):Decidable (DV x):=inferInstanceAs (Decidable (_≤_))
theorem Sf{op:BinOp}{a:Int}(h:DV x):Gr op k a x=Gr op k a ((x.toNat:Nat):Int):=by
 have:(x.toNat:Int)=x:=Int.toNat_of_nonneg h;rw[this]
theorem NV(a:UInt32)(y:UInt64):AO E .shl t (u32 a) (u64 y)=some (u32 (OC a y.toNat)):=AfW a _
theorem MN(a:UInt32)(y:UInt64):AO E .shr t (u32 a) (u64 y)=some (u32 (LX a y.toNat)):=Abd a _
theorem OU(a:UInt64)(y:UInt64):AO E .shl t (u64 a) (u64 y)=some (u64 (Ic a y.toNat)):=AfM a _
theorem N9(a:UInt64)(y:UInt64):AO E .shr t (u64 a) (u64 y)=some (u64 (CM a y.toNat)):=Aah a _
theorem Nx(a:UInt32)(y:Int):AO E .shr t (u32 a) (i64 y)=if DV y then some (u32 (LX a y.toNat))else none:=by
 split
 ·rename_i h;exact(Sf h).trans (Abd a _)
 ·rename_i h;exact ApU (Int.lt_of_not_ge h)
theorem Pg(a:UInt64)(y:Int):AO E .shr t (u64 a) (i64 y)=if DV y then some (u64 (CM a y.toNat))else none:=by
 split
 ·rename_i h;exact(Sf h).trans (Aah a _)
 ·rename_i h;exact ApU (Int.lt_of_not_ge h)
def Jj(E:Env)(t:TypeId)(k:IntKind):Bool:=match E.tab t with
 |some ⟨.int k',_,_,_⟩=>decide (k'=k)
 |_=>false
theorem HM{E:Env}{k0:IntKind}(hs:(E.tab s).isSome=true)(hd:Jj E d k=true):BG E σ s d (.int k0 x)=some (.int k (k.wrap x),σ):=by
 unfold Jj at hd;split at hd
 case h_2=>cases hd
 rename_i k' a b c hk;have:k'=k:=by simpa using hd
 subst this;unfold BG;rw[hk];cases hh:E.tab s with
 |none=>rw[hh]at hs;cases hs
 |some sd=>rfl
theorem Vq(x:Int)(hs:(E.tab s).isSome=true)(hd:Jj E d .u8=true):BG E σ s d (i64 x)=some (u8 (UInt8.ofInt x),σ):=by
 refine(HM hs hd).trans ?_;rw[WQ];have:((UInt8.ofInt x).toNat:Int)=x%256:=by rw[UInt8.ofInt,UInt8.toNat_ofNat'];omega
 unfold u8;rw[this]
theorem SF(x:Int)(hs:(E.tab s).isSome=true)(hd:Jj E d .u64=true):BG E σ s d (i64 x)=some (u64 (UInt64.ofInt x),σ):=by
 refine(HM hs hd).trans ?_;rw[I1];have:((UInt64.ofInt x).toNat:Int)=x%18446744073709551616:=by rw[UInt64.ofInt,UInt64.toNat_ofNat'];omega
 unfold u64;rw[this]
theorem Ui(x:UInt8)(hs:(E.tab s).isSome=true)(hd:Jj E d .i64=true):BG E σ s d (u8 x)=some (i64 (x.toNat:Int),σ):=by
 refine(HM hs hd).trans ?_;have:=x.toNat_lt;have h:IntKind.i64.wrap (x.toNat:Int)=(x.toNat:Int):=by rw[IntKind.wrap_i64];omega
 unfold i64;rw[h]
theorem TK(x:UInt8)(hs:(E.tab s).isSome=true)(hd:Jj E d .u32=true):BG E σ s d (u8 x)=some (u32 x.toUInt32,σ):=by
 refine(HM hs hd).trans ?_;have:=x.toNat_lt;unfold u32;rw[Q7,UInt8.toNat_toUInt32];congr 3;omega
theorem Vd(x:UInt8)(hs:(E.tab s).isSome=true)(hd:Jj E d .u64=true):BG E σ s d (u8 x)=some (u64 x.toUInt64,σ):=by
 refine(HM hs hd).trans ?_;have:=x.toNat_lt;unfold u64;rw[I1,UInt8.toNat_toUInt64];congr 3;omega
theorem U1(x:UInt32)(hs:(E.tab s).isSome=true)(hd:Jj E d .u8=true):BG E σ s d (u32 x)=some (u8 x.toUInt8,σ):=by
 refine(HM hs hd).trans ?_;unfold u8;rw[WQ,UInt32.toNat_toUInt8];congr 3
theorem TL(x:UInt64)(hs:(E.tab s).isSome=true)(hd:Jj E d .u8=true):BG E σ s d (u64 x)=some (u8 x.toUInt8,σ):=by
 refine(HM hs hd).trans ?_;unfold u8;rw[WQ,UInt64.toNat_toUInt8];congr 3
end
end Go.Rv
