/-
  Part 21.
-/
import Derived.Test.YtioapcamanmoiaaGreatDoorYG20
namespace Go.Rv
set_option linter.unusedVariables false
set_option linter.unusedSimpArgs false
variable{m n id i i' o o':Nat}{fr fr':Fr}{σ σ':Am}{K:Ds}
variable {E:Env}
theorem Ko(hE:E.Ok){l:List Oper}(ts:List Nat)(h:∃orc,Jz E.toBase orc∧LU E orc false n l ts (fr,σ)=some (fr',σ')) {y:Code} (hk:Run E m y ⟨Ar n fr',σ'⟩ K):Run E m (.seq (.region id l.toArray false) y) ⟨Ar n fr,σ⟩ K:=by
 obtain⟨orc,hO,h⟩:=h;exact VO hE hO ts h hk
theorem Ov(hE:E.Ok)(hP:E.P.follows .mixedOrders=true){l:List Oper}(T:List (List Nat))(hok1:FT l.toArray T=true)(hok2:H3 E l.toArray T=true)(ts:List Nat) (h:∃orc,Jz E.toBase orc∧LU E orc true n l ts (fr,σ)=some (fr',σ')) {y:Code} (hk:Run E m y ⟨Ar n fr',σ'⟩ K):Run E m (.seq (.region id l.toArray true) y) ⟨Ar n fr,σ⟩ K:=by
 obtain⟨orc,hO,h⟩:=h;exact VP hE hO hP T hok1 hok2 ts h hk
def RK(E:Env)(n:Nat)(K:Ds):Prop:=∀st st',Weak E n st st'→K .normal st'→K .normal st
theorem JG{y:Code}:RK E n (Yl E n y K):=fun st st' h k=>EP h k
theorem NF{V:Type}{S:V→St}{J:V→Prop}:RK E n (Tl E n S J K):=fun st st' h k=>by
 obtain⟨v,hv,hw⟩:=k;exact⟨v,hv,h.trans hw⟩
theorem AdS{V X:Type}{S:V→St}{o:V⊕X}:RK E n (lpK E n S o K):=fun st st' h k=>by
 obtain⟨v,hv,hw⟩:=k;exact⟨v,hv,h.trans hw⟩
theorem JO(h:RK E n K):RK E n (Ib i K):=h
theorem Mj(h:RK E n K):RK E n (AkJ K):=h
theorem KU(hE:E.Ok){l:List Oper}(hw:RK E m K)(ts:List Nat)(h:∃orc,Jz E.toBase orc∧LU E orc false n l ts (fr,σ)=some (fr',σ')) (hk:K .normal ⟨Ar n fr',σ'⟩):Run E m (.region id l.toArray false) ⟨Ar n fr,σ⟩ K:=by
 obtain⟨orc,hO,h⟩:=h;simp only[LU,Ap4,ApT,Ap2]at h;obtain⟨⟨fr1,σ1⟩,h1,rfl,rfl⟩:=h;exact AaF hE hO h1 (hw _ _ (FI _ _ _ _ _) hk)
theorem Xt(hE:E.Ok)(hP:E.P.follows .mixedOrders=true){l:List Oper}(T:List (List Nat))(hok1:FT l.toArray T=true)(hok2:H3 E l.toArray T=true)(hw:RK E m K)(ts:List Nat) (h:∃orc,Jz E.toBase orc∧LU E orc true n l ts (fr,σ)=some (fr',σ')) (hk:K .normal ⟨Ar n fr',σ'⟩):Run E m (.region id l.toArray true) ⟨Ar n fr,σ⟩ K:=by
 obtain⟨orc,hO,h⟩:=h;simp only[LU,Ap4,ApT,Ap2]at h;obtain⟨⟨fr1,σ1⟩,h1,rfl,rfl⟩:=h;exact Aas hE hO hP T hok1 hok2 h1 (hw _ _ (FI _ _ _ _ _) hk)
section
variable {l:List AV}{f:Bool}{els:List (List AV)}{a b c d:Nat}
theorem Aji(x:Int):(i64 x).scalar=true:=rfl
theorem AhL(x:Int):(i64 x).flatAgg=true:=rfl
theorem AhS(x:Int):(i64 x).flat=true:=rfl
theorem Ale(x:Int):BS (i64 x)=[]:=rfl
theorem Ajc(x:Int):BS (.agg (i64 x::l))=BS (.agg l):=rfl
theorem AmE(x:UInt8):(u8 x).scalar=true:=rfl
theorem Al2(x:UInt8):(u8 x).flatAgg=true:=rfl
theorem AoW(x:UInt8):(u8 x).flat=true:=rfl
theorem AoM(x:UInt8):BS (u8 x)=[]:=rfl
theorem Anj(x:UInt8):BS (.agg (u8 x::l))=BS (.agg l):=rfl
theorem Ajx(x:UInt16):(u16 x).scalar=true:=rfl
theorem AiK(x:UInt16):(u16 x).flatAgg=true:=rfl
theorem Akf(x:UInt16):(u16 x).flat=true:=rfl
theorem AkM(x:UInt16):BS (u16 x)=[]:=rfl
theorem AjL(x:UInt16):BS (.agg (u16 x::l))=BS (.agg l):=rfl
theorem AjT(x:UInt32):(u32 x).scalar=true:=rfl
theorem AhW(x:UInt32):(u32 x).flatAgg=true:=rfl
theorem Alf(x:UInt32):(u32 x).flat=true:=rfl
theorem AjU(x:UInt32):BS (u32 x)=[]:=rfl
theorem Alw(x:UInt32):BS (.agg (u32 x::l))=BS (.agg l):=rfl
theorem AjI(x:UInt64):(u64 x).scalar=true:=rfl
theorem Aid(x:UInt64):(u64 x).flatAgg=true:=rfl
theorem Aiv(x:UInt64):(u64 x).flat=true:=rfl
theorem AjW(x:UInt64):BS (u64 x)=[]:=rfl
theorem AjG(x:UInt64):BS (.agg (u64 x::l))=BS (.agg l):=rfl
theorem AfQ(x:Bool):(AV.bool x).scalar=true:=rfl
theorem AgY(x:Bool):(AV.bool x).flatAgg=true:=rfl
theorem AfV(x:Bool):(AV.bool x).flat=true:=rfl
theorem Agl(x:Bool):BS (AV.bool x)=[]:=rfl
theorem AeR(x:Bool):BS (.agg (AV.bool x::l))=BS (.agg l):=rfl
theorem AjH(x:List UInt8):(AV.str x).scalar=true:=rfl
theorem AhV(x:List UInt8):(AV.str x).flatAgg=true:=rfl
theorem Ah9(x:List UInt8):(AV.str x).flat=true:=rfl
theorem Ala(x:List UInt8):BS (AV.str x)=[]:=rfl
theorem AjZ(x:List UInt8):BS (.agg (AV.str x::l))=BS (.agg l):=rfl
theorem Amk:(AV.sl f els).scalar=false:=rfl
theorem AoO:(AV.bs f a b c d).scalar=false:=rfl
theorem Akm:(AV.agg l).scalar=l.all AV.flat:=rfl
theorem Ak0:(AV.tup l).scalar=l.all AV.flatAgg:=rfl
theorem AlN:(AV.sl f els).flatAgg=false:=rfl
theorem Ame:(AV.bs f a b c d).flatAgg=false:=rfl
theorem Aij:(AV.agg l).flatAgg=l.all AV.flat:=rfl
theorem AlY:(AV.sl f els).flat=false:=rfl
theorem Aol:(AV.bs f a b c d).flat=false:=rfl
theorem Aob:BS (.sl f els)=[]:=rfl
theorem Aom:BS (.bs f a b c d)=[a]:=rfl
theorem AnD{g:FuncId}:BS (.fn g l)=[]:=rfl
theorem AiP:BS (.ref a b)=[]:=rfl
theorem Aet:BS (.tref a b)=[]:=rfl
theorem Aex:BS (.nref a)=[]:=rfl
theorem AgA:BS (.mref a)=[]:=rfl
theorem AiV:BS (.tup l)=[]:=rfl
theorem AgF:BS .junk=[]:=rfl
theorem Alu:BS (.agg [])=[]:=rfl
theorem Ao3:BS (.agg (.sl f els::l))=BS (.agg l):=rfl
theorem Apn:BS (.agg (.bs f a b c d::l))=a::BS (.agg l):=rfl
end
theorem AeS{α:Type}{l m:List α}:(ovl l (m.take (min m.length l.length)) 0).length=l.length:=by
 simp[ovl];omega
attribute [go_sem] AeS
theorem QJ(h:InR (m:Int) n):m<n:=by have:=h.2;simpa using this
attribute [go_sem] Aex AgA Aet Aji AhL AhS Ale Ajc AmE Al2 AoW AoM Anj Ajx AiK Akf AkM AjL AjT AhW Alf AjU Alw AjI Aid Aiv AjW AjG AfQ AgY AfV Agl AeR AjH AhV Ah9 Ala AjZ Amk AoO Akm Ak0 AlN Ame Aij AlY Aol Aob Aom AnD AiP AiV AgF Alu Ao3 Apn
section
variable {sel:List Nat}
theorem Ag3{a:Int}:wk1 sel (i64 a) (i64 a)=True:=by simp[wk1,wk0,i64,AV.closed]
theorem AjD{a:UInt8}:wk1 sel (u8 a) (u8 a)=True:=by simp[wk1,wk0,u8,AV.closed]
theorem Aes{a:UInt64}:wk1 sel (u64 a) (u64 a)=True:=by simp[wk1,wk0,u64,AV.closed]
theorem Abp{a:Bool}:wk1 sel (.bool a) (.bool a)=True:=by simp[wk1,wk0,AV.closed]
theorem AiJ{f:FuncId}:wk1 sel (.fn f []) (.fn f [])=True:=by simp[wk1,wk0,AV.closed]
theorem Ajw{f f':Bool}{a b:List (List AV)}:wk1 sel (.sl f a) (.sl f' b)=((f'=true→f=true)∧a=b):=rfl
theorem AiA{f f':Bool}{i t o l i' t' o' l':Nat}:wk1 sel (.bs f i t o l) (.bs f' i' t' o' l')=(sel[i']?=some i∧(f'=true→f=true)∧t=t'∧o=o'∧l=l'):=rfl
theorem Adl:wk1 sel (.mref i) (.mref i')=(sel[i']?=some i):=rfl
theorem AbB:wk0 sel (.mref i) (.mref i')=(sel[i']?=some i):=rfl
theorem Abs:wk1 sel (.nref i) (.nref i')=(sel[i']?=some i):=rfl
theorem Adg:wk0 sel (.nref i) (.nref i')=(sel[i']?=some i):=rfl
theorem AdG:wk1 sel (.tref i o) (.tref i' o')=(sel[i']?=some i∧o=o'):=rfl
theorem Adr:wk0 sel (.tref i o) (.tref i' o')=(sel[i']?=some i∧o=o'):=rfl
theorem Aha:wk1 sel (.ref i o) (.ref i' o')=(sel[i']?=some i∧o=o'):=rfl
theorem AfG{a b:List AV}:wk1 sel (.agg a) (.agg b)=wkL sel a b:=rfl
theorem AfE{a b:List AV}:wk1 sel (.tup a) (.tup b)=wkL sel a b:=rfl
theorem AfJ{a:Int}:wk0 sel (i64 a) (i64 a)=True:=by simp[wk0,i64,AV.closed]
theorem AaC{a:UInt8}:wk0 sel (u8 a) (u8 a)=True:=by simp[wk0,u8,AV.closed]
theorem Aak{a:UInt32}:wk0 sel (u32 a) (u32 a)=True:=by simp[wk0,u32,AV.closed]
theorem AfR{a:UInt64}:wk0 sel (u64 a) (u64 a)=True:=by simp[wk0,u64,AV.closed]
theorem WD{a:Bool}:wk0 sel (.bool a) (.bool a)=True:=by simp[wk0,AV.closed]
theorem Ahe{a:List UInt8}:wk0 sel (.str a) (.str a)=True:=by simp[wk0,AV.closed]
theorem Abg{f:FuncId}:wk0 sel (.fn f [.ref i o]) (.fn f [.ref i' o])=(sel[i']?=some i):=by
 refine propext ⟨fun h=>?_,fun h=>.inr ⟨rfl,⟨h,rfl⟩,trivial⟩⟩;rcases h with⟨_,h⟩|⟨_,⟨h,_⟩,_⟩
 ·simp[AV.closed]at h
 ·exact h
theorem Ae6{f:FuncId}:wk1 sel (.fn f [.ref i o]) (.fn f [.ref i' o])=(sel[i']?=some i):=Abg
theorem Aku{f f':Bool}{a b:List (List AV)}:wk0 sel (.sl f a) (.sl f' b)=((f'=true→f=true)∧a=b):=rfl
theorem Alt{f f':Bool}{i t o l i' t' o' l':Nat}:wk0 sel (.bs f i t o l) (.bs f' i' t' o' l')=(sel[i']?=some i∧(f'=true→f=true)∧t=t'∧o=o'∧l=l'):=rfl
theorem AgL:wk0 sel (.ref i o) (.ref i' o')=(sel[i']?=some i∧o=o'):=rfl
theorem Y8{cs cs':List AV}{ro ro':Bool}:Sg sel (.box cs ro) (.box cs' ro')=(ro=ro'∧wkL sel cs cs'):=rfl
theorem ZC{k k':Nat}{els els':List (List AV)}{ro ro':Bool}:Sg sel (.buf k els ro) (.buf k' els' ro')=(k=k'∧ro=ro'∧els=els'∧BK els'=true):=rfl
end
def T6(E:Env)(t:TypeId):Bool:=match E.tab t with
 | some d=>match d.desc with
  | .slice e=>match E.tab e with
   |some de=>match de.desc with
    |.int .u8=>true
    |_=>false
   |none=>false
  |_=>false
 |none=>false
def Ahl(E:Env)(t:TypeId):Bool:=match E.tab t with
 |some d=>match d.desc with
  |.string=>true
  |_=>false
 |none=>false
theorem PE{s d:TypeId}{l:List UInt8}(hs:Ahl E s=true)(hd:T6 E d=true):BG E σ s d (.str l)=some (.bs false σ.length l.length 0 l.length,σ++[.buf 1 (L cU8 l) false]):=by
 unfold T6 at hd;unfold Ahl at hs;split at hd<;>try cases hd
 rename_i sd hsd;split at hd<;>try cases hd
 rename_i e he;split at hd<;>try cases hd
 rename_i de hde;split at hd<;>try cases hd
 rename_i hu;split at hs<;>try cases hs
 rename_i dd hdd;unfold BG;simp only[hsd,hdd,he,hde,hu];rfl
theorem ob_s{a b:Bool}:(some a==some b)=(a==b):=rfl
theorem ob_n{b:Bool}:((none:Option Bool)==some b)=false:=rfl
attribute [go_sem] ob_s ob_n
attribute [go_sem] Abg Ae6 Abs Adg Adl AbB AdG Adr Ag3 AjD Aes Abp AiJ Ajw AiA Aha AfG AfE AfJ AaC Aak AfR WD Ahe Aku Alt AgL Y8 ZC WG wkL Aix PE T6 Ahl
attribute [go_sem] List.getElem?_cons_zero List.getElem?_cons_succ List.set_cons_zero List.set_cons_succ List.length_cons List.length_nil List.cons_append List.nil_append List.append_nil List.map_cons List.map_nil List.flatMap_cons List.flatMap_nil List.all_cons List.all_nil List.drop_zero List.drop_succ_cons List.drop_nil List.take_zero List.take_succ_cons List.take_nil List.length_append List.length_set List.length_replicate List.take_length List.replicate_zero List.replicate_succ Option.map_some Option.map_none Option.bind_some Option.bind_none Option.isSome_some Option.getD_some Option.some.injEq Prod.mk.injEq Bool.true_and Bool.false_and Bool.and_true Bool.and_false Bool.and_self Bool.not_true Bool.not_false Bool.true_or Bool.false_or and_true true_and and_self and_false false_and or_true true_or or_false false_or implies_true not_true_eq_false not_false_eq_true ne_eq imp_self false_imp_iff decide_true decide_false Bool.false_eq_true Nat.zero_add Nat.add_zero Nat.sub_zero Nat.mul_one eq_self List.cons_ne_nil reduceCtorEq beq_self_eq_true List.mem_cons List.not_mem_nil forall_eq_or_imp forall_eq
end Go.Rv
