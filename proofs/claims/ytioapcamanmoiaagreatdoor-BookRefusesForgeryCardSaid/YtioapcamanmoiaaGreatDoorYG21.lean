/-
  Part 21.
-/
import Derived.Test.YtioapcamanmoiaaGreatDoorYG20
namespace Go.Rv
set_option linter.unusedVariables false
set_option linter.unusedSimpArgs false
variable{m n id i i' o o':Nat}{fr fr':Fr}{σ σ':Am}{K:Ds}
variable {E:Env}
theorem Ky(hE:E.Ok){l:List Oper}(ts:List Nat)(h:∃orc,JB E.toBase orc∧Ma E orc false n l ts (fr,σ)=some (fr',σ')) {y:Code} (hk:Run E m y ⟨Ar n fr',σ'⟩ K):Run E m (.seq (.region id l.toArray false) y) ⟨Ar n fr,σ⟩ K:=by
 obtain⟨orc,hO,h⟩:=h;exact WH hE hO ts h hk
theorem Of(hE:E.Ok)(hP:E.P.follows .mixedOrders=true){l:List Oper}(T:List (List Nat))(hok1:FS l.toArray T=true)(hok2:H4 E l.toArray T=true)(ts:List Nat) (h:∃orc,JB E.toBase orc∧Ma E orc true n l ts (fr,σ)=some (fr',σ')) {y:Code} (hk:Run E m y ⟨Ar n fr',σ'⟩ K):Run E m (.seq (.region id l.toArray true) y) ⟨Ar n fr,σ⟩ K:=by
 obtain⟨orc,hO,h⟩:=h;exact WR hE hO hP T hok1 hok2 ts h hk
def RK(E:Env)(n:Nat)(K:Ds):Prop:=∀st st',Weak E n st st'→K .normal st'→K .normal st
theorem J3{y:Code}:RK E n (Xc E n y K):=fun st st' h k=>Ff h k
theorem Nr{V:Type}{S:V→St}{J:V→Prop}:RK E n (Sg E n S J K):=fun st st' h k=>by
 obtain⟨v,hv,hw⟩:=k;exact⟨v,hv,h.trans hw⟩
theorem AbB{V X:Type}{S:V→St}{o:V⊕X}:RK E n (lpK E n S o K):=fun st st' h k=>by
 obtain⟨v,hv,hw⟩:=k;exact⟨v,hv,h.trans hw⟩
theorem JS(h:RK E n K):RK E n (Ia i K):=h
theorem Mu(h:RK E n K):RK E n (AhN K):=h
theorem Lp(hE:E.Ok){l:List Oper}(hw:RK E m K)(ts:List Nat)(h:∃orc,JB E.toBase orc∧Ma E orc false n l ts (fr,σ)=some (fr',σ')) (hk:K .normal ⟨Ar n fr',σ'⟩):Run E m (.region id l.toArray false) ⟨Ar n fr,σ⟩ K:=by
 obtain⟨orc,hO,h⟩:=h;simp only[Ma,Ap4,ApT,Ap2]at h;obtain⟨⟨fr1,σ1⟩,h1,rfl,rfl⟩:=h;exact Y5 hE hO h1 (hw _ _ (FI _ _ _ _ _) hk)
theorem Xy(hE:E.Ok)(hP:E.P.follows .mixedOrders=true){l:List Oper}(T:List (List Nat))(hok1:FS l.toArray T=true)(hok2:H4 E l.toArray T=true)(hw:RK E m K)(ts:List Nat) (h:∃orc,JB E.toBase orc∧Ma E orc true n l ts (fr,σ)=some (fr',σ')) (hk:K .normal ⟨Ar n fr',σ'⟩):Run E m (.region id l.toArray true) ⟨Ar n fr,σ⟩ K:=by
 obtain⟨orc,hO,h⟩:=h;simp only[Ma,Ap4,ApT,Ap2]at h;obtain⟨⟨fr1,σ1⟩,h1,rfl,rfl⟩:=h;exact ZO hE hO hP T hok1 hok2 h1 (hw _ _ (FI _ _ _ _ _) hk)
section
variable {l:List AV}{f:Bool}{els:List (List AV)}{a b c d:Nat}
theorem AhS(x:Int):(i64 x).scalar=true:=rfl
theorem AkC(x:Int):(i64 x).flatAgg=true:=rfl
theorem Aje(x:Int):(i64 x).flat=true:=rfl
theorem Aj1(x:Int):BS (i64 x)=[]:=rfl
theorem Akm(x:Int):BS (.agg (i64 x::l))=BS (.agg l):=rfl
theorem Am2(x:UInt8):(u8 x).scalar=true:=rfl
theorem An9(x:UInt8):(u8 x).flatAgg=true:=rfl
theorem Apl(x:UInt8):(u8 x).flat=true:=rfl
theorem Al4(x:UInt8):BS (u8 x)=[]:=rfl
theorem AlR(x:UInt8):BS (.agg (u8 x::l))=BS (.agg l):=rfl
theorem AkJ(x:UInt16):(u16 x).scalar=true:=rfl
theorem Aiy(x:UInt16):(u16 x).flatAgg=true:=rfl
theorem Akh(x:UInt16):(u16 x).flat=true:=rfl
theorem Ajq(x:UInt16):BS (u16 x)=[]:=rfl
theorem Ajm(x:UInt16):BS (.agg (u16 x::l))=BS (.agg l):=rfl
theorem AiZ(x:UInt32):(u32 x).scalar=true:=rfl
theorem AjO(x:UInt32):(u32 x).flatAgg=true:=rfl
theorem Ah7(x:UInt32):(u32 x).flat=true:=rfl
theorem Aim(x:UInt32):BS (u32 x)=[]:=rfl
theorem AjT(x:UInt32):BS (.agg (u32 x::l))=BS (.agg l):=rfl
theorem AkE(x:UInt64):(u64 x).scalar=true:=rfl
theorem AiG(x:UInt64):(u64 x).flatAgg=true:=rfl
theorem AhX(x:UInt64):(u64 x).flat=true:=rfl
theorem Aj2(x:UInt64):BS (u64 x)=[]:=rfl
theorem Akx(x:UInt64):BS (.agg (u64 x::l))=BS (.agg l):=rfl
theorem Agg(x:Bool):(AV.bool x).scalar=true:=rfl
theorem Afi(x:Bool):(AV.bool x).flatAgg=true:=rfl
theorem Ahh(x:Bool):(AV.bool x).flat=true:=rfl
theorem Agw(x:Bool):BS (AV.bool x)=[]:=rfl
theorem Ae2(x:Bool):BS (.agg (AV.bool x::l))=BS (.agg l):=rfl
theorem AjN(x:List UInt8):(AV.str x).scalar=true:=rfl
theorem AiR(x:List UInt8):(AV.str x).flatAgg=true:=rfl
theorem Aib(x:List UInt8):(AV.str x).flat=true:=rfl
theorem AkR(x:List UInt8):BS (AV.str x)=[]:=rfl
theorem Alc(x:List UInt8):BS (.agg (AV.str x::l))=BS (.agg l):=rfl
theorem AlP:(AV.sl f els).scalar=false:=rfl
theorem Ani:(AV.bs f a b c d).scalar=false:=rfl
theorem AhP:(AV.agg l).scalar=l.all AV.flat:=rfl
theorem Akn:(AV.tup l).scalar=l.all AV.flatAgg:=rfl
theorem Aow:(AV.sl f els).flatAgg=false:=rfl
theorem AoI:(AV.bs f a b c d).flatAgg=false:=rfl
theorem Aj4:(AV.agg l).flatAgg=l.all AV.flat:=rfl
theorem Al2:(AV.sl f els).flat=false:=rfl
theorem AlX:(AV.bs f a b c d).flat=false:=rfl
theorem An5:BS (.sl f els)=[]:=rfl
theorem Amo:BS (.bs f a b c d)=[a]:=rfl
theorem AoW{g:FuncId}:BS (.fn g l)=[]:=rfl
theorem Aiq:BS (.ref a b)=[]:=rfl
theorem AgL:BS (.tref a b)=[]:=rfl
theorem Ahr:BS (.nref a)=[]:=rfl
theorem AeN:BS (.mref a)=[]:=rfl
theorem Akq:BS (.tup l)=[]:=rfl
theorem AeC:BS .junk=[]:=rfl
theorem AkI:BS (.agg [])=[]:=rfl
theorem AoK:BS (.agg (.sl f els::l))=BS (.agg l):=rfl
theorem AmS:BS (.agg (.bs f a b c d::l))=a::BS (.agg l):=rfl
end
theorem Aet{α:Type}{l m:List α}:(ovl l (m.take (min m.length l.length)) 0).length=l.length:=by
 simp[ovl];omega
attribute [go_sem] Aet
theorem Q7(h:InR (m:Int) n):m<n:=by have:=h.2;simpa using this
attribute [go_sem] Ahr AeN AgL AhS AkC Aje Aj1 Akm Am2 An9 Apl Al4 AlR AkJ Aiy Akh Ajq Ajm AiZ AjO Ah7 Aim AjT AkE AiG AhX Aj2 Akx Agg Afi Ahh Agw Ae2 AjN AiR Aib AkR Alc AlP Ani AhP Akn Aow AoI Aj4 Al2 AlX An5 Amo AoW Aiq Akq AeC AkI AoK AmS
section
variable {sel:List Nat}
theorem AgU{a:Int}:wk1 sel (i64 a) (i64 a)=True:=by simp[wk1,wk0,i64,AV.closed]
theorem Aiu{a:UInt8}:wk1 sel (u8 a) (u8 a)=True:=by simp[wk1,wk0,u8,AV.closed]
theorem Ahn{a:UInt64}:wk1 sel (u64 a) (u64 a)=True:=by simp[wk1,wk0,u64,AV.closed]
theorem AbR{a:Bool}:wk1 sel (.bool a) (.bool a)=True:=by simp[wk1,wk0,AV.closed]
theorem AiN{f:FuncId}:wk1 sel (.fn f []) (.fn f [])=True:=by simp[wk1,wk0,AV.closed]
theorem AiK{f f':Bool}{a b:List (List AV)}:wk1 sel (.sl f a) (.sl f' b)=((f'=true→f=true)∧a=b):=rfl
theorem Ai5{f f':Bool}{i t o l i' t' o' l':Nat}:wk1 sel (.bs f i t o l) (.bs f' i' t' o' l')=(sel[i']?=some i∧(f'=true→f=true)∧t=t'∧o=o'∧l=l'):=rfl
theorem Ac9:wk1 sel (.mref i) (.mref i')=(sel[i']?=some i):=rfl
theorem Ac0:wk0 sel (.mref i) (.mref i')=(sel[i']?=some i):=rfl
theorem AdM:wk1 sel (.nref i) (.nref i')=(sel[i']?=some i):=rfl
theorem Abp:wk0 sel (.nref i) (.nref i')=(sel[i']?=some i):=rfl
theorem AdD:wk1 sel (.tref i o) (.tref i' o')=(sel[i']?=some i∧o=o'):=rfl
theorem AbG:wk0 sel (.tref i o) (.tref i' o')=(sel[i']?=some i∧o=o'):=rfl
theorem AgJ:wk1 sel (.ref i o) (.ref i' o')=(sel[i']?=some i∧o=o'):=rfl
theorem Agu{a b:List AV}:wk1 sel (.agg a) (.agg b)=wkL sel a b:=rfl
theorem AgK{a b:List AV}:wk1 sel (.tup a) (.tup b)=wkL sel a b:=rfl
theorem Ag2{a:Int}:wk0 sel (i64 a) (i64 a)=True:=by simp[wk0,i64,AV.closed]
theorem ZG{a:UInt8}:wk0 sel (u8 a) (u8 a)=True:=by simp[wk0,u8,AV.closed]
theorem YA{a:UInt32}:wk0 sel (u32 a) (u32 a)=True:=by simp[wk0,u32,AV.closed]
theorem Ag8{a:UInt64}:wk0 sel (u64 a) (u64 a)=True:=by simp[wk0,u64,AV.closed]
theorem Wa{a:Bool}:wk0 sel (.bool a) (.bool a)=True:=by simp[wk0,AV.closed]
theorem Afp{a:List UInt8}:wk0 sel (.str a) (.str a)=True:=by simp[wk0,AV.closed]
theorem Aaq{f:FuncId}:wk0 sel (.fn f [.ref i o]) (.fn f [.ref i' o])=(sel[i']?=some i):=by
 refine propext ⟨fun h=>?_,fun h=>.inr ⟨rfl,⟨h,rfl⟩,trivial⟩⟩;rcases h with⟨_,h⟩|⟨_,⟨h,_⟩,_⟩
 ·simp[AV.closed]at h
 ·exact h
theorem AeP{f:FuncId}:wk1 sel (.fn f [.ref i o]) (.fn f [.ref i' o])=(sel[i']?=some i):=Aaq
theorem Ai3{f f':Bool}{a b:List (List AV)}:wk0 sel (.sl f a) (.sl f' b)=((f'=true→f=true)∧a=b):=rfl
theorem AkO{f f':Bool}{i t o l i' t' o' l':Nat}:wk0 sel (.bs f i t o l) (.bs f' i' t' o' l')=(sel[i']?=some i∧(f'=true→f=true)∧t=t'∧o=o'∧l=l'):=rfl
theorem AgE:wk0 sel (.ref i o) (.ref i' o')=(sel[i']?=some i∧o=o'):=rfl
theorem AaE{cs cs':List AV}{ro ro':Bool}:S6 sel (.box cs ro) (.box cs' ro')=(ro=ro'∧wkL sel cs cs'):=rfl
theorem Aal{k k':Nat}{els els':List (List AV)}{ro ro':Bool}:S6 sel (.buf k els ro) (.buf k' els' ro')=(k=k'∧ro=ro'∧els=els'∧BK els'=true):=rfl
end
def TS(E:Env)(t:TypeId):Bool:=match E.tab t with
 | some d=>match d.desc with
  | .slice e=>match E.tab e with
   |some de=>match de.desc with
    |.int .u8=>true
    |_=>false
   |none=>false
  |_=>false
 |none=>false
def Aev(E:Env)(t:TypeId):Bool:=match E.tab t with
 |some d=>match d.desc with
  |.string=>true
  |_=>false
 |none=>false
theorem PY{s d:TypeId}{l:List UInt8}(hs:Aev E s=true)(hd:TS E d=true):BG E σ s d (.str l)=some (.bs false σ.length l.length 0 l.length,σ++[.buf 1 (L cU8 l) false]):=by
 unfold TS at hd;unfold Aev at hs;split at hd<;>try cases hd
 rename_i sd hsd;split at hd<;>try cases hd
 rename_i e he;split at hd<;>try cases hd
 rename_i de hde;split at hd<;>try cases hd
 rename_i hu;split at hs<;>try cases hs
 rename_i dd hdd;unfold BG;simp only[hsd,hdd,he,hde,hu];rfl
theorem ob_s{a b:Bool}:(some a==some b)=(a==b):=rfl
theorem ob_n{b:Bool}:((none:Option Bool)==some b)=false:=rfl
attribute [go_sem] ob_s ob_n
attribute [go_sem] Aaq AeP AdM Abp Ac9 Ac0 AdD AbG AgU Aiu Ahn AbR AiN AiK Ai5 AgJ Agu AgK Ag2 ZG YA Ag8 Wa Afp Ai3 AkO AgE AaE Aal Wd wkL Ajv PY TS Aev
attribute [go_sem] List.getElem?_cons_zero List.getElem?_cons_succ List.set_cons_zero List.set_cons_succ List.length_cons List.length_nil List.cons_append List.nil_append List.append_nil List.map_cons List.map_nil List.flatMap_cons List.flatMap_nil List.all_cons List.all_nil List.drop_zero List.drop_succ_cons List.drop_nil List.take_zero List.take_succ_cons List.take_nil List.length_append List.length_set List.length_replicate List.take_length List.replicate_zero List.replicate_succ Option.map_some Option.map_none Option.bind_some Option.bind_none Option.isSome_some Option.getD_some Option.some.injEq Prod.mk.injEq Bool.true_and Bool.false_and Bool.and_true Bool.and_false Bool.and_self Bool.not_true Bool.not_false Bool.true_or Bool.false_or and_true true_and and_self and_false false_and or_true true_or or_false false_or implies_true not_true_eq_false not_false_eq_true ne_eq imp_self false_imp_iff decide_true decide_false Bool.false_eq_true Nat.zero_add Nat.add_zero Nat.sub_zero Nat.mul_one eq_self List.cons_ne_nil reduceCtorEq beq_self_eq_true List.mem_cons List.not_mem_nil forall_eq_or_imp forall_eq
end Go.Rv
