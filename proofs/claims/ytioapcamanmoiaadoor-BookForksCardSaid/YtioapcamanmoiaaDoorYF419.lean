/-
  Part 19.
-/
import Derived.Test.YtioapcamanmoiaaDoorYF418
import Derived.Attr
namespace Go.Rv
set_option linter.unusedVariables false
set_option linter.unusedSimpArgs false
variable{x:Int}{k:IntKind}{w:Nat}{σ:Al}{s d:TypeId}
variable {E:Env}
def i64(x:Int):AV:=.int .i64 x
def u8(x:UInt8):AV:=.int .u8 (x.toNat:Int)
def u16(x:UInt16):AV:=.int .u16 (x.toNat:Int)
def u32(x:UInt32):AV:=.int .u32 (x.toNat:Int)
def u64(x:UInt64):AV:=.int .u64 (x.toNat:Int)
def w64(x:Int):Int:=IntKind.i64.wrap x
theorem B6(h:-9223372036854775808≤x∧x≤9223372036854775807):w64 x=x:=by
 unfold w64;rw[Ana];omega
def shl8(x:UInt8)(n:Nat):UInt8:=⟨x.toBitVec <<< n⟩
def UU(x:UInt32)(n:Nat):UInt32:=⟨x.toBitVec <<< n⟩
def Rh(x:UInt32)(n:Nat):UInt32:=⟨x.toBitVec >>> n⟩
def Lk(x:UInt64)(n:Nat):UInt64:=⟨x.toBitVec <<< n⟩
def Dz(x:UInt64)(n:Nat):UInt64:=⟨x.toBitVec >>> n⟩
def AiD(a b:Int):Int:=IntKind.i64.wrap ((BitVec.ofInt 64 a &&& BitVec.ofInt 64 b).toNat:Int)
def or64(a b:Int):Int:=IntKind.i64.wrap ((BitVec.ofInt 64 a ||| BitVec.ofInt 64 b).toNat:Int)
def Agx(a b:Int):Int:=IntKind.i64.wrap ((BitVec.ofInt 64 a ^^^ BitVec.ofInt 64 b).toNat:Int)
def InR(x:Int)(n:Nat):Prop:=0≤x∧x.toNat<n
def InB(x:Int)(n:Nat):Prop:=0≤x∧x.toNat≤n
def Dj(n bytes:Nat):Prop:=n≤maxLen∧n*bytes≤Gj
instance (x:Int)(n:Nat):Decidable (InR x n):=inferInstanceAs (Decidable (_∧_))
instance (x:Int)(n:Nat):Decidable (InB x n):=inferInstanceAs (Decidable (_∧_))
instance (n b:Nat):Decidable (Dj n b):=inferInstanceAs (Decidable (_∧_))
theorem AcJ(x:Int)(n:Nat):idx (i64 x) n=if InR x n then some x.toNat else none:=rfl
theorem Aes(x:UInt8)(n:Nat):idx (u8 x) n=if InR (x.toNat:Int) n then some x.toNat else none:=rfl
theorem AdA(x:UInt32)(n:Nat):idx (u32 x) n=if InR (x.toNat:Int) n then some x.toNat else none:=rfl
theorem Abq(x:UInt64)(n:Nat):idx (u64 x) n=if InR (x.toNat:Int) n then some x.toNat else none:=rfl
theorem ZS(x:Int)(n:Nat):Aed (i64 x) n=if InB x n then some x.toNat else none:=rfl
theorem AdU(a b:Nat):((a:Int)==(b:Int))=(a==b):=by
 rw[Amv];simp only[AlW];omega
section
variable {t:TypeId}
theorem Rs(a b:Int):AJ E .add t (i64 a) (i64 b)=some (i64 (w64 (a+b))):=rfl
theorem Re(a b:Int):AJ E .sub t (i64 a) (i64 b)=some (i64 (w64 (a-b))):=rfl
theorem Rg(a b:Int):AJ E .mul t (i64 a) (i64 b)=some (i64 (w64 (a*b))):=rfl
theorem Si(a b:Int):AJ E .quo t (i64 a) (i64 b)=if b=0 then none else some (i64 (w64 (a.tdiv b))):=rfl
theorem SR(a b:Int):AJ E .rem t (i64 a) (i64 b)=if b=0 then none else some (i64 (a.tmod b)):=rfl
theorem Rm(a b:Int):AJ E .and t (i64 a) (i64 b)=some (i64 (AiD a b)):=rfl
theorem UQ(a b:Int):AJ E .or t (i64 a) (i64 b)=some (i64 (or64 a b)):=rfl
theorem S8(a b:Int):AJ E .xor t (i64 a) (i64 b)=some (i64 (Agx a b)):=rfl
theorem SJ(a b:Int):AJ E .eql t (i64 a) (i64 b)=some (.bool (a==b)):=rfl
theorem Tc(a b:Int):AJ E .neq t (i64 a) (i64 b)=some (.bool (a != b)):=rfl
theorem Sl(a b:Int):AJ E .lss t (i64 a) (i64 b)=some (.bool (decide (a<b))):=rfl
theorem RN(a b:Int):AJ E .leq t (i64 a) (i64 b)=some (.bool (decide (a≤b))):=rfl
theorem SL(a b:Int):AJ E .gtr t (i64 a) (i64 b)=some (.bool (decide (a>b))):=rfl
theorem S4(a b:Int):AJ E .geq t (i64 a) (i64 b)=some (.bool (decide (a≥b))):=rfl
theorem UN(a:Int):MG .neg (i64 a)=some (i64 (w64 (0-a))):=rfl
theorem V8(a:Int):MG .xor (i64 a)=some (i64 (Agx (-1) a)):=rfl
theorem UF(n:Int):IntKind.u8.wrap n=n%256:=by rw[IntKind.wrap_u8]
theorem OQ(n:Int):IntKind.u32.wrap n=n%4294967296:=by rw[IntKind.wrap_u32]
theorem HR(n:Int):IntKind.u64.wrap n=n%18446744073709551616:=by rw[IntKind.wrap_u64]
theorem HG{a b:Int}(h:a=b):some (AV.int k a)=some (AV.int k b):=by rw[h]
theorem Tp(a b:UInt32):AJ E .add t (u32 a) (u32 b)=some (u32 (a+b)):=HG (by rw[OQ,UInt32.toNat_add];omega)
theorem RF(a b:UInt64):AJ E .add t (u64 a) (u64 b)=some (u64 (a+b)):=HG (by rw[HR,UInt64.toNat_add];omega)
theorem Sh(a b:UInt64):AJ E .sub t (u64 a) (u64 b)=some (u64 (a-b)):=HG (by rw[HR,UInt64.toNat_sub];have:=a.toNat_lt;have:=b.toNat_lt;omega)
theorem Sa(a b:UInt64):AJ E .mul t (u64 a) (u64 b)=some (u64 (a*b)):=HG (by rw[HR,UInt64.toNat_mul];simp)
theorem UJ(n:Nat):BitVec.ofInt w (n:Int)=BitVec.ofNat w n:=by
 apply Amr;rw[BitVec.toNat_ofInt,AmF];omega
theorem TS(f:BitVec 32→BitVec 32→BitVec 32)(a b:UInt32):Mg .u32 f (a.toNat:Int) (b.toNat:Int)=u32 ⟨f a.toBitVec b.toBitVec⟩:=by
 unfold Mg u32;congr 1;show IntKind.u32.wrap ((f (BitVec.ofInt 32 (a.toNat:Int)) (BitVec.ofInt 32 (b.toNat:Int))).toNat:Int)=_;rw[UJ,UJ,OQ];have ha:BitVec.ofNat 32 a.toNat=a.toBitVec:=by apply Amr;rw[AmF,UInt32.toNat_toBitVec];exact Am0 a.toNat_lt
 have hb:BitVec.ofNat 32 b.toNat=b.toBitVec:=by apply Amr;rw[AmF,UInt32.toNat_toBitVec];exact Am0 b.toNat_lt
 rw[ha,hb];have:=(f a.toBitVec b.toBitVec).isLt;show((f a.toBitVec b.toBitVec).toNat:Int)%4294967296=((f a.toBitVec b.toBitVec).toNat:Int);omega
theorem Xs(f:BitVec 64→BitVec 64→BitVec 64)(a b:UInt64):Mg .u64 f (a.toNat:Int) (b.toNat:Int)=u64 ⟨f a.toBitVec b.toBitVec⟩:=by
 unfold Mg u64;congr 1;show IntKind.u64.wrap ((f (BitVec.ofInt 64 (a.toNat:Int)) (BitVec.ofInt 64 (b.toNat:Int))).toNat:Int)=_;rw[UJ,UJ,HR];have ha:BitVec.ofNat 64 a.toNat=a.toBitVec:=by apply Amr;rw[AmF,UInt64.toNat_toBitVec];exact Am0 a.toNat_lt
 have hb:BitVec.ofNat 64 b.toNat=b.toBitVec:=by apply Amr;rw[AmF,UInt64.toNat_toBitVec];exact Am0 b.toNat_lt
 rw[ha,hb];have:=(f a.toBitVec b.toBitVec).isLt;show((f a.toBitVec b.toBitVec).toNat:Int)%18446744073709551616=((f a.toBitVec b.toBitVec).toNat:Int);omega
theorem RA(a b:UInt32):AJ E .and t (u32 a) (u32 b)=some (u32 (a &&& b)):=Amf some (TS _ a b)
theorem US(a b:UInt32):AJ E .or t (u32 a) (u32 b)=some (u32 (a ||| b)):=Amf some (TS _ a b)
theorem S5(a b:UInt32):AJ E .xor t (u32 a) (u32 b)=some (u32 (a ^^^ b)):=Amf some (TS _ a b)
theorem SS(a b:UInt64):AJ E .and t (u64 a) (u64 b)=some (u64 (a &&& b)):=Amf some (Xs _ a b)
theorem Vu(a b:UInt64):AJ E .or t (u64 a) (u64 b)=some (u64 (a ||| b)):=Amf some (Xs _ a b)
theorem UP(a:UInt32):MG .xor (u32 a)=some (u32 (~~~a)):=by
 have h:MG .xor (u32 a)=some (Mg .u32 (· ^^^ ·) ((4294967295:UInt32).toNat:Int) (a.toNat:Int)):=rfl;refine h.trans (Amf some ((TS (· ^^^ ·) 4294967295 a).trans (Amf u32 ?_)));apply UInt32.toBitVec_inj.1;show(4294967295:UInt32).toBitVec ^^^ a.toBitVec = ~~~ a.toBitVec;rw[BitVec.not_def];rfl
theorem VD(a:UInt64):MG .xor (u64 a)=some (u64 (~~~a)):=by
 have h:MG .xor (u64 a)=some (Mg .u64 (· ^^^ ·) ((18446744073709551615:UInt64).toNat:Int) (a.toNat:Int)):=rfl;refine h.trans (Amf some ((Xs (· ^^^ ·) 18446744073709551615 a).trans (Amf u64 ?_)));apply UInt64.toBitVec_inj.1;show(18446744073709551615:UInt64).toBitVec ^^^ a.toBitVec = ~~~ a.toBitVec;rw[BitVec.not_def];rfl
theorem AfC(a b:UInt8):((a.toNat:Int)==(b.toNat:Int))=(a==b):=by rw[Amv];simp only[AlW];rw[←UInt8.toNat_inj];omega
theorem WN(a b:UInt64):((a.toNat:Int)==(b.toNat:Int))=(a==b):=by rw[Amv];simp only[AlW];rw[←Am1];omega
theorem Ga{a b:Bool}(h:a=b):some (AV.bool a)=some (AV.bool b):=by rw[h]
theorem Uf{p q:Prop}[Decidable p][Decidable q](h:p↔q):decide p=decide q:=by simp only[h]
theorem Vj(a b:UInt8):AJ E .eql t (u8 a) (u8 b)=some (.bool (a==b)):=Ga (AfC a b)
theorem RQ(a b:UInt64):AJ E .eql t (u64 a) (u64 b)=some (.bool (a==b)):=Ga (WN a b)
theorem SG(a b:UInt64):AJ E .neq t (u64 a) (u64 b)=some (.bool (a != b)):=Ga (Amf not (WN a b))
theorem Rp(a b:UInt64):AJ E .lss t (u64 a) (u64 b)=some (.bool (decide (a<b))):=Ga (Uf (by rw[Al5];omega))
theorem SP(a b:UInt64):AJ E .leq t (u64 a) (u64 b)=some (.bool (decide (a≤b))):=Ga (Uf (by rw[Aml];omega))
theorem RD(a b:UInt64):AJ E .gtr t (u64 a) (u64 b)=some (.bool (decide (a>b))):=Ga (Uf (by rw[AnI,AnI,Al5];omega))
theorem S0(a b:UInt64):AJ E .geq t (u64 a) (u64 b)=some (.bool (decide (a≥b))):=Ga (Uf (by rw[ge_iff_le,ge_iff_le,Aml];omega))
theorem SI(a b:UInt64):AJ E .quo t (u64 a) (u64 b)=if b=0 then none else some (u64 (a/b)):=by
 have h:((b.toNat:Int)=0)=(b=0):=by rw[←Am1];simp
 show(if(b.toNat:Int)=0 then none else some (AV.int .u64 _))=_;simp only[h];split
 ·rfl
 ·refine HG ?_;rw[HR,UInt64.toNat_div];have:=a.toNat_lt;have:a.toNat/b.toNat≤a.toNat:=Nat.div_le_self _ _;rw[show(a.toNat:Int).tdiv (b.toNat:Int)=((a.toNat/b.toNat:Nat):Int)from rfl];generalize a.toNat/b.toNat=q at *;omega
theorem T1(a b:UInt64):AJ E .rem t (u64 a) (u64 b)=if b=0 then none else some (u64 (a%b)):=by
 have h:((b.toNat:Int)=0)=(b=0):=by rw[←Am1];simp
 show(if(b.toNat:Int)=0 then none else some (AV.int .u64 _))=_;simp only[h];split
 ·rfl
 ·exact HG (by rw[AnC];rfl)
theorem Xj{n:Nat}(a:Nat)(ha:a<2^w):a/2^(min n w)=a >>> n:=by
 rw[AmY];rcases Nat.le_total n w with h|h
 ·rw[AmL h]
 ·rw[Nat.min_eq_right h,Nat.div_eq_of_lt ha,Nat.div_eq_of_lt (Amc ha (Nat.pow_le_pow_right (by omega) h))]
theorem RK{n:Nat}(a:Nat):(a*2^(min n w))%2^w=(a <<< n)%2^w:=by
 rw[Nat.shiftLeft_eq];rcases Nat.le_total n w with h|h
 ·rw[AmL h]
 ·rw[Nat.min_eq_right h,Nat.mul_mod_left];obtain⟨d,rfl⟩:∃d,n=w+d:=⟨n-w,by omega⟩;rw[Nat.pow_add,AmJ (2^w),←Nat.mul_assoc,Nat.mul_mod_left]
theorem TT(a m:Nat):(a:Int).fdiv (2^m)=((a/2^m:Nat):Int):=by
 rw[Int.fdiv_eq_ediv_of_nonneg _ (by exact_mod_cast Alg _)]
 norm_cast
theorem Px(a n:Nat):(a:Int)*2^n=((a*2^n:Nat):Int):=by rw[Int.natCast_mul,Int.natCast_pow];rfl
theorem Wl(a n:Nat):IntKind.u8.wrap ((a:Int)*2^n)=((a*2^n%2^8:Nat):Int):=by
 rw[UF,Px,show(2:Nat)^8=256 from rfl];generalize a*2^n=m;omega
theorem Vc(a n:Nat):IntKind.u32.wrap ((a:Int)*2^n)=((a*2^n%2^32:Nat):Int):=by
 rw[OQ,Px,show(2:Nat)^32=4294967296 from rfl];generalize a*2^n=m;omega
theorem VZ(a n:Nat):IntKind.u64.wrap ((a:Int)*2^n)=((a*2^n%2^64:Nat):Int):=by
 rw[HR,Px,show(2:Nat)^64=18446744073709551616 from rfl];generalize a*2^n=m;omega
theorem shl_u8(a:UInt8)(y:Nat):FL .shl .u8 (a.toNat:Int) (y:Int)=some (u8 (shl8 a y)):=by
 unfold FL;rw[if_neg (by omega)];refine HG ?_;rw[Wl];show((a.toNat*2^(min y 8)%2^8:Nat):Int)=_;rw[RK];rfl
theorem Ac7(a:UInt32)(y:Nat):FL .shl .u32 (a.toNat:Int) (y:Int)=some (u32 (UU a y)):=by
 unfold FL;rw[if_neg (by omega)];refine HG ?_;rw[Vc];show((a.toNat*2^(min y 32)%2^32:Nat):Int)=_;rw[RK];rfl
theorem XC(a:UInt32)(y:Nat):FL .shr .u32 (a.toNat:Int) (y:Int)=some (u32 (Rh a y)):=by
 unfold FL;rw[if_neg (by omega)];refine HG ?_;rw[TT];show((a.toNat/2^(min y 32):Nat):Int)=_;rw[Xj _ a.toNat_lt];rfl
theorem Adf(a:UInt64)(y:Nat):FL .shl .u64 (a.toNat:Int) (y:Int)=some (u64 (Lk a y)):=by
 unfold FL;rw[if_neg (by omega)];refine HG ?_;rw[VZ];show((a.toNat*2^(min y 64)%2^64:Nat):Int)=_;rw[RK];rfl
theorem Ww(a:UInt64)(y:Nat):FL .shr .u64 (a.toNat:Int) (y:Int)=some (u64 (Dz a y)):=by
 unfold FL;rw[if_neg (by omega)];refine HG ?_;rw[TT];show((a.toNat/2^(min y 64):Nat):Int)=_;rw[Xj _ a.toNat_lt];rfl
def EB(x:Int):Prop:=0≤x
instance (x:Int):Decidable (EB x):=inferInstanceAs (Decidable (_≤_))
theorem Qi{op:BinOp}{a:Int}(h:EB x):FL op k a x=FL op k a ((x.toNat:Nat):Int):=by
 have:(x.toNat:Int)=x:=Int.toNat_of_nonneg h;rw[this]
theorem Nl(a:UInt32)(y:UInt64):AJ E .shl t (u32 a) (u64 y)=some (u32 (UU a y.toNat)):=Ac7 a _
theorem N5(a:UInt32)(y:UInt64):AJ E .shr t (u32 a) (u64 y)=some (u32 (Rh a y.toNat)):=XC a _
theorem Nz(a:UInt64)(y:UInt64):AJ E .shl t (u64 a) (u64 y)=some (u64 (Lk a y.toNat)):=Adf a _
theorem Mo(a:UInt64)(y:UInt64):AJ E .shr t (u64 a) (u64 y)=some (u64 (Dz a y.toNat)):=Ww a _
theorem N4(a:UInt32)(y:Int):AJ E .shr t (u32 a) (i64 y)=if EB y then some (u32 (Rh a y.toNat))else none:=by
 split
 ·rename_i h;exact(Qi h).trans (XC a _)
 ·rename_i h;exact if_pos (Int.lt_of_not_ge h)
theorem MZ(a:UInt64)(y:Int):AJ E .shr t (u64 a) (i64 y)=if EB y then some (u64 (Dz a y.toNat))else none:=by
 split
 ·rename_i h;exact(Qi h).trans (Ww a _)
 ·rename_i h;exact if_pos (Int.lt_of_not_ge h)
def Iz(E:Env)(t:TypeId)(k:IntKind):Bool:=match E.tab t with
 |some ⟨.int k',_,_,_⟩=>decide (k'=k)
 |_=>false
theorem Hv{E:Env}{k0:IntKind}(hs:(E.tab s).isSome=true)(hd:Iz E d k=true):B5 E σ s d (.int k0 x)=some (.int k (k.wrap x),σ):=by
 unfold Iz at hd;split at hd
 case h_2=>cases hd
 rename_i k' a b c hk;have:k'=k:=by simpa using hd
 subst this;unfold B5;rw[hk];cases hh:E.tab s with
 |none=>rw[hh]at hs;cases hs
 |some sd=>rfl
theorem Sy(x:Int)(hs:(E.tab s).isSome=true)(hd:Iz E d .u8=true):B5 E σ s d (i64 x)=some (u8 (UInt8.ofInt x),σ):=by
 refine(Hv hs hd).trans ?_;rw[UF];have:((UInt8.ofInt x).toNat:Int)=x%256:=by rw[UInt8.ofInt,UInt8.toNat_ofNat'];omega
 unfold u8;rw[this]
theorem PH(x:Int)(hs:(E.tab s).isSome=true)(hd:Iz E d .u64=true):B5 E σ s d (i64 x)=some (u64 (UInt64.ofInt x),σ):=by
 refine(Hv hs hd).trans ?_;rw[HR];have:((UInt64.ofInt x).toNat:Int)=x%18446744073709551616:=by rw[UInt64.ofInt,UInt64.toNat_ofNat'];omega
 unfold u64;rw[this]
theorem SF(x:UInt8)(hs:(E.tab s).isSome=true)(hd:Iz E d .i64=true):B5 E σ s d (u8 x)=some (i64 (x.toNat:Int),σ):=by
 refine(Hv hs hd).trans ?_;have:=x.toNat_lt;have h:IntKind.i64.wrap (x.toNat:Int)=(x.toNat:Int):=by rw[Ana];omega
 unfold i64;rw[h]
theorem Ry(x:UInt8)(hs:(E.tab s).isSome=true)(hd:Iz E d .u32=true):B5 E σ s d (u8 x)=some (u32 x.toUInt32,σ):=by
 refine(Hv hs hd).trans ?_;have:=x.toNat_lt;unfold u32;rw[OQ,UInt8.toNat_toUInt32];congr 3;omega
theorem SZ(x:UInt8)(hs:(E.tab s).isSome=true)(hd:Iz E d .u64=true):B5 E σ s d (u8 x)=some (u64 x.toUInt64,σ):=by
 refine(Hv hs hd).trans ?_;have:=x.toNat_lt;unfold u64;rw[HR,UInt8.toNat_toUInt64];congr 3;omega
theorem SQ(x:UInt32)(hs:(E.tab s).isSome=true)(hd:Iz E d .u8=true):B5 E σ s d (u32 x)=some (u8 x.toUInt8,σ):=by
 refine(Hv hs hd).trans ?_;unfold u8;rw[UF,UInt32.toNat_toUInt8];congr 3
theorem S3(x:UInt64)(hs:(E.tab s).isSome=true)(hd:Iz E d .u8=true):B5 E σ s d (u64 x)=some (u8 x.toUInt8,σ):=by
 refine(Hv hs hd).trans ?_;unfold u8;rw[UF,UInt64.toNat_toUInt8];congr 3
end
end Go.Rv
