/-
  Part 21.
-/
import Derived.Test.YtldngkmkhfddpaaDoorYT20
namespace Go.Rv
set_option linter.unusedVariables false
set_option linter.unusedSimpArgs false
variable {E:Env}
theorem Ao(hE:E.Ok){m n id:Nat}{l:List Oper}{fr fr':Fr}{σ σ':Ad}{K:C0}(ts:List Nat)(h:∃orc,GV E.toBase orc∧Je E orc false n l ts (fr,σ)=some (fr',σ'))
 {y:Code} (hk:Run E m y ⟨Am n fr',σ'⟩ K):Run E m (.seq (.region id l.toArray false) y) ⟨Am n fr,σ⟩ K:=by
 obtain⟨orc,hO,h⟩:=h
 exact Rb hE hO ts h hk
theorem U5(hE:E.Ok)(hP:E.P.follows .mixedOrders=true){m n id:Nat}{l:List Oper}(T:List (List Nat))(hok1:Er l.toArray T=true)(hok2:I2 E l.toArray T=true){fr fr':Fr}{σ σ':Ad}{K:C0}(ts:List Nat)
 (h:∃orc,GV E.toBase orc∧Je E orc true n l ts (fr,σ)=some (fr',σ')) {y:Code} (hk:Run E m y ⟨Am n fr',σ'⟩ K):Run E m (.seq (.region id l.toArray true) y) ⟨Am n fr,σ⟩ K:=by
 obtain⟨orc,hO,h⟩:=h
 exact QX hE hO hP T hok1 hok2 ts h hk
def LZ(E:Env)(n:Nat)(K:C0):Prop:=∀st st',Weak E n st st'→K .normal st'→K .normal st
theorem EX{n:Nat}{y:Code}{K:C0}:LZ E n (Qg E n y K):=fun st st' h k=>DE h k
theorem Hv{n:Nat}{V:Type}{S:V→St}{J:V→Prop}{K:C0}:LZ E n (Nz E n S J K):=fun st st' h k=>by
 obtain⟨v,hv,hw⟩:=k
 exact⟨v,hv,h.trans hw⟩
theorem Zo{n:Nat}{V X:Type}{S:V→St}{o:V⊕X}{K:C0}:LZ E n (lpK E n S o K):=fun st st' h k=>by
 obtain⟨v,hv,hw⟩:=k
 exact⟨v,hv,h.trans hw⟩
theorem EK{n i:Nat}{K:C0}(h:LZ E n K):LZ E n (Gj i K):=h
theorem MI{n:Nat}{K:C0}(h:LZ E n K):LZ E n (Rl K):=h
theorem Bs(hE:E.Ok){m n id:Nat}{l:List Oper}{fr fr':Fr}{σ σ':Ad}{K:C0}(hw:LZ E m K)(ts:List Nat)(h:∃orc,GV E.toBase orc∧Je E orc false n l ts (fr,σ)=some (fr',σ'))
 (hk:K .normal ⟨Am n fr',σ'⟩):Run E m (.region id l.toArray false) ⟨Am n fr,σ⟩ K:=by
 obtain⟨orc,hO,h⟩:=h
 simp only[Je,Option.bind_eq_some_iff,Option.some.injEq,Prod.mk.injEq]at h
 obtain⟨⟨fr1,σ1⟩,h1,rfl,rfl⟩:=h
 exact Ud hE hO h1 (hw _ _ (CT _ _ _ _ _) hk)
theorem Ss(hE:E.Ok)(hP:E.P.follows .mixedOrders=true){m n id:Nat}{l:List Oper}(T:List (List Nat))(hok1:Er l.toArray T=true)(hok2:I2 E l.toArray T=true){fr fr':Fr}{σ σ':Ad}{K:C0}(hw:LZ E m K)(ts:List Nat)
 (h:∃orc,GV E.toBase orc∧Je E orc true n l ts (fr,σ)=some (fr',σ')) (hk:K .normal ⟨Am n fr',σ'⟩):Run E m (.region id l.toArray true) ⟨Am n fr,σ⟩ K:=by
 obtain⟨orc,hO,h⟩:=h
 simp only[Je,Option.bind_eq_some_iff,Option.some.injEq,Prod.mk.injEq]at h
 obtain⟨⟨fr1,σ1⟩,h1,rfl,rfl⟩:=h
 exact Vh hE hO hP T hok1 hok2 h1 (hw _ _ (CT _ _ _ _ _) hk)
section
variable {l:List AV}{f:Bool}{els:List (List AV)}{a b c d:Nat}
theorem ZW(x:Int):(i64 x).scalar=true:=rfl
theorem AaZ(x:Int):(i64 x).flatAgg=true:=rfl
theorem Aa8(x:Int):(i64 x).flat=true:=rfl
theorem ZZ(x:Int):B2 (i64 x)=[]:=rfl
theorem AbJ(x:Int):B2 (.agg (i64 x::l))=B2 (.agg l):=rfl
theorem AcB(x:UInt8):(u8 x).scalar=true:=rfl
theorem Adt(x:UInt8):(u8 x).flatAgg=true:=rfl
theorem Aev(x:UInt8):(u8 x).flat=true:=rfl
theorem AdI(x:UInt8):B2 (u8 x)=[]:=rfl
theorem Aen(x:UInt8):B2 (.agg (u8 x::l))=B2 (.agg l):=rfl
theorem Abq(x:UInt16):(u16 x).scalar=true:=rfl
theorem Aa9(x:UInt16):(u16 x).flatAgg=true:=rfl
theorem Aby(x:UInt16):(u16 x).flat=true:=rfl
theorem Abr(x:UInt16):B2 (u16 x)=[]:=rfl
theorem Abp(x:UInt16):B2 (.agg (u16 x::l))=B2 (.agg l):=rfl
theorem Aae(x:UInt32):(u32 x).scalar=true:=rfl
theorem Aa1(x:UInt32):(u32 x).flatAgg=true:=rfl
theorem AbV(x:UInt32):(u32 x).flat=true:=rfl
theorem AaT(x:UInt32):B2 (u32 x)=[]:=rfl
theorem AaQ(x:UInt32):B2 (.agg (u32 x::l))=B2 (.agg l):=rfl
theorem Aba(x:UInt64):(u64 x).scalar=true:=rfl
theorem AaF(x:UInt64):(u64 x).flatAgg=true:=rfl
theorem AbC(x:UInt64):(u64 x).flat=true:=rfl
theorem AaS(x:UInt64):B2 (u64 x)=[]:=rfl
theorem Abt(x:UInt64):B2 (.agg (u64 x::l))=B2 (.agg l):=rfl
theorem Zx(x:Bool):(AV.bool x).scalar=true:=rfl
theorem ZI(x:Bool):(AV.bool x).flatAgg=true:=rfl
theorem YE(x:Bool):(AV.bool x).flat=true:=rfl
theorem Z7(x:Bool):B2 (AV.bool x)=[]:=rfl
theorem Yj(x:Bool):B2 (.agg (AV.bool x::l))=B2 (.agg l):=rfl
theorem Abs(x:List UInt8):(AV.str x).scalar=true:=rfl
theorem AbY(x:List UInt8):(AV.str x).flatAgg=true:=rfl
theorem AaR(x:List UInt8):(AV.str x).flat=true:=rfl
theorem Aaa(x:List UInt8):B2 (AV.str x)=[]:=rfl
theorem AaG(x:List UInt8):B2 (.agg (AV.str x::l))=B2 (.agg l):=rfl
theorem Ade:(AV.sl f els).scalar=false:=rfl
theorem AcA:(AV.bs f a b c d).scalar=false:=rfl
theorem Ab8:(AV.agg l).scalar=l.all AV.flat:=rfl
theorem Abl:(AV.tup l).scalar=l.all AV.flatAgg:=rfl
theorem Adg:(AV.sl f els).flatAgg=false:=rfl
theorem AeO:(AV.bs f a b c d).flatAgg=false:=rfl
theorem Abd:(AV.agg l).flatAgg=l.all AV.flat:=rfl
theorem Adq:(AV.sl f els).flat=false:=rfl
theorem Aej:(AV.bs f a b c d).flat=false:=rfl
theorem Ad4:B2 (.sl f els)=[]:=rfl
theorem AcM:B2 (.bs f a b c d)=[a]:=rfl
theorem Aet{g:FuncId}:B2 (.fn g l)=[]:=rfl
theorem Abi:B2 (.ref a b)=[]:=rfl
theorem Yc:B2 (.tref a b)=[]:=rfl
theorem Zp:B2 (.nref a)=[]:=rfl
theorem Zg:B2 (.mref a)=[]:=rfl
theorem Abc:B2 (.tup l)=[]:=rfl
theorem Y0:B2 .junk=[]:=rfl
theorem Ab0:B2 (.agg [])=[]:=rfl
theorem AeP:B2 (.agg (.sl f els::l))=B2 (.agg l):=rfl
theorem Ac7:B2 (.agg (.bs f a b c d::l))=a::B2 (.agg l):=rfl
end
theorem V4{m n:Nat}(h:InR (m:Int) n):m<n:=by have:=h.2;simpa using this
attribute [go_sem] Zp Zg Yc ZW AaZ Aa8 ZZ AbJ AcB Adt Aev AdI Aen Abq Aa9 Aby Abr Abp Aae Aa1 AbV AaT AaQ Aba AaF AbC AaS Abt Zx ZI YE Z7 Yj Abs AbY AaR Aaa AaG Ade AcA Ab8 Abl Adg AeO Abd Adq Aej Ad4 AcM Aet Abi Abc Y0 Ab0 AeP Ac7
section
variable {sel:List Nat}
theorem Wq{x:AV}:wk0 sel x .junk=True:=by cases x<;>simp[wk0]
theorem Yv{a:Int}:wk1 sel (i64 a) (i64 a)=True:=by simp[wk1,wk0,i64,AV.closed]
theorem ZX{a:UInt8}:wk1 sel (u8 a) (u8 a)=True:=by simp[wk1,wk0,u8,AV.closed]
theorem Xt{a:Bool}:wk1 sel (.bool a) (.bool a)=True:=by simp[wk1,wk0,AV.closed]
theorem ZE{a:List UInt8}:wk1 sel (.str a) (.str a)=True:=by simp[wk1,wk0,AV.closed]
theorem AaH{f:FuncId}:wk1 sel (.fn f []) (.fn f [])=True:=by simp[wk1,wk0,AV.closed]
theorem WC{a:Nat}:wk1 sel (.glob a) (.glob a)=True:=by simp[wk1,wk0,AV.closed]
theorem Aap{f f':Bool}{a b:List (List AV)}:wk1 sel (.sl f a) (.sl f' b)=((f'=true→f=true)∧a=b):=rfl
theorem AaP{f f':Bool}{i t o l i' t' o' l':Nat}:wk1 sel (.bs f i t o l) (.bs f' i' t' o' l')=(sel[i']?=some i∧(f'=true→f=true)∧t=t'∧o=o'∧l=l'):=rfl
theorem XA{i i':Nat}:wk1 sel (.mref i) (.mref i')=(sel[i']?=some i):=rfl
theorem Xy{i i':Nat}:wk0 sel (.mref i) (.mref i')=(sel[i']?=some i):=rfl
theorem WP{i i':Nat}:wk1 sel (.nref i) (.nref i')=(sel[i']?=some i):=rfl
theorem WN{i i':Nat}:wk0 sel (.nref i) (.nref i')=(sel[i']?=some i):=rfl
theorem Xs{i o i' o':Nat}:wk1 sel (.tref i o) (.tref i' o')=(sel[i']?=some i∧o=o'):=rfl
theorem Wn{i o i' o':Nat}:wk0 sel (.tref i o) (.tref i' o')=(sel[i']?=some i∧o=o'):=rfl
theorem YO{i o i' o':Nat}:wk1 sel (.ref i o) (.ref i' o')=(sel[i']?=some i∧o=o'):=rfl
theorem ZF{a b:List AV}:wk1 sel (.agg a) (.agg b)=wkL sel a b:=rfl
theorem ZO{a b:List AV}:wk1 sel (.tup a) (.tup b)=wkL sel a b:=rfl
theorem PT{a:Int}:wk0 sel (i64 a) (i64 a)=True:=by simp[wk0,i64,AV.closed]
theorem Y7{a:List UInt8}:wk0 sel (.str a) (.str a)=True:=by simp[wk0,AV.closed]
theorem Vc{f:FuncId}{i o i':Nat}:wk0 sel (.fn f [.ref i o]) (.fn f [.ref i' o])=(sel[i']?=some i):=by
 refine propext ⟨fun h=>?_,fun h=>.inr (.inl ⟨rfl,⟨h,rfl⟩,trivial⟩)⟩
 rcases h with⟨_,h⟩|⟨_,⟨h,_⟩,_⟩|⟨_,h⟩
 ·simp[AV.closed]at h
 ·exact h
 ·exact h.elim
theorem TX{f:FuncId}{i o i':Nat}:wk0 sel (.fn f [.tup [.ref i o]]) (.fn f [.tup [.ref i' o]])=(sel[i']?=some i):=by
 refine propext ⟨?_,fun h=>.inr (.inr ⟨rfl,h,rfl⟩)⟩
 rintro(⟨_,h⟩|⟨_,h,_⟩|⟨_,h,_⟩)
 ·simp[AV.closed]at h
 ·simp[wkc,XQ]at h
 ·exact h
theorem Z2{f:FuncId}{i o i':Nat}:wk1 sel (.fn f [.tup [.ref i o]]) (.fn f [.tup [.ref i' o]])=(sel[i']?=some i):=TX
theorem Y8{f:FuncId}{i o i':Nat}:wk1 sel (.fn f [.ref i o]) (.fn f [.ref i' o])=(sel[i']?=some i):=Vc
theorem Aar{f f':Bool}{a b:List (List AV)}:wk0 sel (.sl f a) (.sl f' b)=((f'=true→f=true)∧a=b):=rfl
theorem AbA{f f':Bool}{i t o l i' t' o' l':Nat}:wk0 sel (.bs f i t o l) (.bs f' i' t' o' l')=(sel[i']?=some i∧(f'=true→f=true)∧t=t'∧o=o'∧l=l'):=rfl
theorem ZL{i o i' o':Nat}:wk0 sel (.ref i o) (.ref i' o')=(sel[i']?=some i∧o=o'):=rfl
theorem UN{cs cs':List AV}{ro ro':Bool}:NP sel (.box cs ro) (.box cs' ro')=(ro=ro'∧wkL sel cs cs'):=rfl
theorem V8{k k':Nat}{els els':List (List AV)}{ro ro':Bool}:NP sel (.buf k els ro) (.buf k' els' ro')=(k=k'∧ro=ro'∧els=els'∧Cs els'=true):=rfl
end
def ZD(E:Env)(t:TypeId):Bool:=match E.tab t with
 | some d=>match d.desc with
  | .slice e=>match E.tab e with
   |some de=>match de.desc with
    |.int .u8=>true
    |_=>false
   |none=>false
  |_=>false
 |none=>false
def Ad5(E:Env)(t:TypeId):Bool:=match E.tab t with
 |some d=>match d.desc with
  |.string=>true
  |_=>false
 |none=>false
theorem ob_s{a b:Bool}:(some a==some b)=(a==b):=rfl
theorem ob_n{b:Bool}:((none:Option Bool)==some b)=false:=rfl
attribute [go_sem] ob_s ob_n
attribute [go_sem] TX Z2 Vc Y8 WP WN XA Xy Xs Wn Wq Yv ZX Xt ZE AaH WC Aap AaP YO ZF ZO PT Y7 Aar AbA ZL UN V8 D3 wkL AbN ZD Ad5
attribute [go_sem] List.getElem?_cons_zero List.getElem?_cons_succ List.set_cons_zero List.set_cons_succ List.length_cons List.length_nil List.cons_append List.nil_append List.append_nil List.map_cons List.map_nil List.flatMap_cons List.flatMap_nil List.all_cons List.all_nil List.drop_zero List.drop_succ_cons List.drop_nil List.take_zero List.take_succ_cons List.take_nil List.length_append List.length_set List.length_replicate List.take_length List.replicate_zero List.replicate_succ Option.map_some Option.map_none Option.bind_some Option.bind_none Option.isSome_some Option.getD_some Option.some.injEq Prod.mk.injEq Bool.true_and Bool.false_and Bool.and_true Bool.and_false Bool.and_self Bool.not_true Bool.not_false Bool.true_or Bool.false_or and_true true_and and_self and_false false_and or_true true_or or_false false_or implies_true not_true_eq_false not_false_eq_true ne_eq imp_self false_imp_iff decide_true decide_false Bool.false_eq_true Nat.zero_add Nat.add_zero Nat.sub_zero Nat.mul_one eq_self List.cons_ne_nil reduceCtorEq beq_self_eq_true List.mem_cons List.not_mem_nil forall_eq_or_imp forall_eq
end Go.Rv
