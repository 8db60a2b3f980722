/-
  Part 21.
-/
import Derived.Test.YtldngkmkhfddpaaDoorYT20
namespace Go.Rv
set_option linter.unusedVariables false
set_option linter.unusedSimpArgs false
variable {E:Env}
theorem Ao(hE:E.Ok){m n id:Nat}{l:List Oper}{fr fr':Fr}{σ σ':Ad}{K:C0}(ts:List Nat)(h:∃orc,GV E.toBase orc∧Jf E orc false n l ts (fr,σ)=some (fr',σ'))
 {y:Code} (hk:Run E m y ⟨Am n fr',σ'⟩ K):Run E m (.seq (.region id l.toArray false) y) ⟨Am n fr,σ⟩ K:=by
 obtain⟨orc,hO,h⟩:=h
 exact Re hE hO ts h hk
theorem T1(hE:E.Ok)(hP:E.P.follows .mixedOrders=true){m n id:Nat}{l:List Oper}(T:List (List Nat))(hok1:Er l.toArray T=true)(hok2:IY E l.toArray T=true){fr fr':Fr}{σ σ':Ad}{K:C0}(ts:List Nat)
 (h:∃orc,GV E.toBase orc∧Jf E orc true n l ts (fr,σ)=some (fr',σ')) {y:Code} (hk:Run E m y ⟨Am n fr',σ'⟩ K):Run E m (.seq (.region id l.toArray true) y) ⟨Am n fr,σ⟩ K:=by
 obtain⟨orc,hO,h⟩:=h
 exact RJ hE hO hP T hok1 hok2 ts h hk
def Mi(E:Env)(n:Nat)(K:C0):Prop:=∀st st',Weak E n st st'→K .normal st'→K .normal st
theorem EZ{n:Nat}{y:Code}{K:C0}:Mi E n (PQ E n y K):=fun st st' h k=>DD h k
theorem Hi{n:Nat}{V:Type}{S:V→St}{J:V→Prop}{K:C0}:Mi E n (Nb E n S J K):=fun st st' h k=>by
 obtain⟨v,hv,hw⟩:=k
 exact⟨v,hv,h.trans hw⟩
theorem ZH{n:Nat}{V X:Type}{S:V→St}{o:V⊕X}{K:C0}:Mi E n (lpK E n S o K):=fun st st' h k=>by
 obtain⟨v,hv,hw⟩:=k
 exact⟨v,hv,h.trans hw⟩
theorem EJ{n i:Nat}{K:C0}(h:Mi E n K):Mi E n (FT i K):=h
theorem Ny{n:Nat}{K:C0}(h:Mi E n K):Mi E n (Rw K):=h
theorem Bp(hE:E.Ok){m n id:Nat}{l:List Oper}{fr fr':Fr}{σ σ':Ad}{K:C0}(hw:Mi E m K)(ts:List Nat)(h:∃orc,GV E.toBase orc∧Jf E orc false n l ts (fr,σ)=some (fr',σ'))
 (hk:K .normal ⟨Am n fr',σ'⟩):Run E m (.region id l.toArray false) ⟨Am n fr,σ⟩ K:=by
 obtain⟨orc,hO,h⟩:=h
 simp only[Jf,Option.bind_eq_some_iff,Option.some.injEq,Prod.mk.injEq]at h
 obtain⟨⟨fr1,σ1⟩,h1,rfl,rfl⟩:=h
 exact Ur hE hO h1 (hw _ _ (CV _ _ _ _ _) hk)
theorem Tf(hE:E.Ok)(hP:E.P.follows .mixedOrders=true){m n id:Nat}{l:List Oper}(T:List (List Nat))(hok1:Er l.toArray T=true)(hok2:IY E l.toArray T=true){fr fr':Fr}{σ σ':Ad}{K:C0}(hw:Mi E m K)(ts:List Nat)
 (h:∃orc,GV E.toBase orc∧Jf E orc true n l ts (fr,σ)=some (fr',σ')) (hk:K .normal ⟨Am n fr',σ'⟩):Run E m (.region id l.toArray true) ⟨Am n fr,σ⟩ K:=by
 obtain⟨orc,hO,h⟩:=h
 simp only[Jf,Option.bind_eq_some_iff,Option.some.injEq,Prod.mk.injEq]at h
 obtain⟨⟨fr1,σ1⟩,h1,rfl,rfl⟩:=h
 exact T4 hE hO hP T hok1 hok2 h1 (hw _ _ (CV _ _ _ _ _) hk)
section
variable {l:List AV}{f:Bool}{els:List (List AV)}{a b c d:Nat}
theorem Aae(x:Int):(i64 x).scalar=true:=rfl
theorem Aam(x:Int):(i64 x).flatAgg=true:=rfl
theorem AbU(x:Int):(i64 x).flat=true:=rfl
theorem Aap(x:Int):B2 (i64 x)=[]:=rfl
theorem AaK(x:Int):B2 (.agg (i64 x::l))=B2 (.agg l):=rfl
theorem Adv(x:UInt8):(u8 x).scalar=true:=rfl
theorem AdR(x:UInt8):(u8 x).flatAgg=true:=rfl
theorem AcK(x:UInt8):(u8 x).flat=true:=rfl
theorem AeF(x:UInt8):B2 (u8 x)=[]:=rfl
theorem AdD(x:UInt8):B2 (.agg (u8 x::l))=B2 (.agg l):=rfl
theorem AbX(x:UInt16):(u16 x).scalar=true:=rfl
theorem Abf(x:UInt16):(u16 x).flatAgg=true:=rfl
theorem AbM(x:UInt16):(u16 x).flat=true:=rfl
theorem Abo(x:UInt16):B2 (u16 x)=[]:=rfl
theorem Abq(x:UInt16):B2 (.agg (u16 x::l))=B2 (.agg l):=rfl
theorem AaP(x:UInt32):(u32 x).scalar=true:=rfl
theorem Aa0(x:UInt32):(u32 x).flatAgg=true:=rfl
theorem Aau(x:UInt32):(u32 x).flat=true:=rfl
theorem Aai(x:UInt32):B2 (u32 x)=[]:=rfl
theorem Aba(x:UInt32):B2 (.agg (u32 x::l))=B2 (.agg l):=rfl
theorem Aab(x:UInt64):(u64 x).scalar=true:=rfl
theorem AaL(x:UInt64):(u64 x).flatAgg=true:=rfl
theorem Abn(x:UInt64):(u64 x).flat=true:=rfl
theorem AbK(x:UInt64):B2 (u64 x)=[]:=rfl
theorem Ab8(x:UInt64):B2 (.agg (u64 x::l))=B2 (.agg l):=rfl
theorem ZB(x:Bool):(AV.bool x).scalar=true:=rfl
theorem YH(x:Bool):(AV.bool x).flatAgg=true:=rfl
theorem Z9(x:Bool):(AV.bool x).flat=true:=rfl
theorem Yb(x:Bool):B2 (AV.bool x)=[]:=rfl
theorem Zk(x:Bool):B2 (.agg (AV.bool x::l))=B2 (.agg l):=rfl
theorem AbB(x:List UInt8):(AV.str x).scalar=true:=rfl
theorem Ab9(x:List UInt8):(AV.str x).flatAgg=true:=rfl
theorem AbN(x:List UInt8):(AV.str x).flat=true:=rfl
theorem AaI(x:List UInt8):B2 (AV.str x)=[]:=rfl
theorem Abv(x:List UInt8):B2 (.agg (AV.str x::l))=B2 (.agg l):=rfl
theorem Adk:(AV.sl f els).scalar=false:=rfl
theorem AeB:(AV.bs f a b c d).scalar=false:=rfl
theorem AaY:(AV.agg l).scalar=l.all AV.flat:=rfl
theorem AbE:(AV.tup l).scalar=l.all AV.flatAgg:=rfl
theorem Ac6:(AV.sl f els).flatAgg=false:=rfl
theorem AeI:(AV.bs f a b c d).flatAgg=false:=rfl
theorem Abw:(AV.agg l).flatAgg=l.all AV.flat:=rfl
theorem AcT:(AV.sl f els).flat=false:=rfl
theorem AdV:(AV.bs f a b c d).flat=false:=rfl
theorem Aeo:B2 (.sl f els)=[]:=rfl
theorem Adp:B2 (.bs f a b c d)=[a]:=rfl
theorem AeS{g:FuncId}:B2 (.fn g l)=[]:=rfl
theorem Ab1:B2 (.ref a b)=[]:=rfl
theorem Zt:B2 (.tref a b)=[]:=rfl
theorem Y4:B2 (.nref a)=[]:=rfl
theorem Yo:B2 (.mref a)=[]:=rfl
theorem Abk:B2 (.tup l)=[]:=rfl
theorem YL:B2 .junk=[]:=rfl
theorem Aaa:B2 (.agg [])=[]:=rfl
theorem AeU:B2 (.agg (.sl f els::l))=B2 (.agg l):=rfl
theorem AeH:B2 (.agg (.bs f a b c d::l))=a::B2 (.agg l):=rfl
end
theorem Vg{m n:Nat}(h:InR (m:Int) n):m<n:=by have:=h.2;simpa using this
attribute [go_sem] Y4 Yo Zt Aae Aam AbU Aap AaK Adv AdR AcK AeF AdD AbX Abf AbM Abo Abq AaP Aa0 Aau Aai Aba Aab AaL Abn AbK Ab8 ZB YH Z9 Yb Zk AbB Ab9 AbN AaI Abv Adk AeB AaY AbE Ac6 AeI Abw AcT AdV Aeo Adp AeS Ab1 Abk YL Aaa AeU AeH
section
variable {sel:List Nat}
theorem X6{x:AV}:wk0 sel x .junk=True:=by cases x<;>simp[wk0]
theorem Yu{a:Int}:wk1 sel (i64 a) (i64 a)=True:=by simp[wk1,wk0,i64,AV.closed]
theorem AbR{a:UInt8}:wk1 sel (u8 a) (u8 a)=True:=by simp[wk1,wk0,u8,AV.closed]
theorem WW{a:Bool}:wk1 sel (.bool a) (.bool a)=True:=by simp[wk1,wk0,AV.closed]
theorem ZN{a:List UInt8}:wk1 sel (.str a) (.str a)=True:=by simp[wk1,wk0,AV.closed]
theorem Ace{f:FuncId}:wk1 sel (.fn f []) (.fn f [])=True:=by simp[wk1,wk0,AV.closed]
theorem WP{a:Nat}:wk1 sel (.glob a) (.glob a)=True:=by simp[wk1,wk0,AV.closed]
theorem Abi{f f':Bool}{a b:List (List AV)}:wk1 sel (.sl f a) (.sl f' b)=((f'=true→f=true)∧a=b):=rfl
theorem Aby{f f':Bool}{i t o l i' t' o' l':Nat}:wk1 sel (.bs f i t o l) (.bs f' i' t' o' l')=(sel[i']?=some i∧(f'=true→f=true)∧t=t'∧o=o'∧l=l'):=rfl
theorem Xz{i i':Nat}:wk1 sel (.mref i) (.mref i')=(sel[i']?=some i):=rfl
theorem Wn{i i':Nat}:wk0 sel (.mref i) (.mref i')=(sel[i']?=some i):=rfl
theorem Xb{i i':Nat}:wk1 sel (.nref i) (.nref i')=(sel[i']?=some i):=rfl
theorem Ws{i i':Nat}:wk0 sel (.nref i) (.nref i')=(sel[i']?=some i):=rfl
theorem Wc{i o i' o':Nat}:wk1 sel (.tref i o) (.tref i' o')=(sel[i']?=some i∧o=o'):=rfl
theorem VP{i o i' o':Nat}:wk0 sel (.tref i o) (.tref i' o')=(sel[i']?=some i∧o=o'):=rfl
theorem Zw{i o i' o':Nat}:wk1 sel (.ref i o) (.ref i' o')=(sel[i']?=some i∧o=o'):=rfl
theorem Zz{a b:List AV}:wk1 sel (.agg a) (.agg b)=wkL sel a b:=rfl
theorem YV{a b:List AV}:wk1 sel (.tup a) (.tup b)=wkL sel a b:=rfl
theorem Qk{a:Int}:wk0 sel (i64 a) (i64 a)=True:=by simp[wk0,i64,AV.closed]
theorem Yg{a:List UInt8}:wk0 sel (.str a) (.str a)=True:=by simp[wk0,AV.closed]
theorem Ty{f:FuncId}{i o i':Nat}:wk0 sel (.fn f [.ref i o]) (.fn f [.ref i' o])=(sel[i']?=some i):=by
 refine propext ⟨fun h=>?_,fun h=>.inr (.inl ⟨rfl,⟨h,rfl⟩,trivial⟩)⟩
 rcases h with⟨_,h⟩|⟨_,⟨h,_⟩,_⟩|⟨_,h⟩
 ·simp[AV.closed]at h
 ·exact h
 ·exact h.elim
theorem Vv{f:FuncId}{i o i':Nat}:wk0 sel (.fn f [.tup [.ref i o]]) (.fn f [.tup [.ref i' o]])=(sel[i']?=some i):=by
 refine propext ⟨?_,fun h=>.inr (.inr ⟨rfl,h,rfl⟩)⟩
 rintro(⟨_,h⟩|⟨_,h,_⟩|⟨_,h,_⟩)
 ·simp[AV.closed]at h
 ·simp[wkc,XG]at h
 ·exact h
theorem Zi{f:FuncId}{i o i':Nat}:wk1 sel (.fn f [.tup [.ref i o]]) (.fn f [.tup [.ref i' o]])=(sel[i']?=some i):=Vv
theorem YR{f:FuncId}{i o i':Nat}:wk1 sel (.fn f [.ref i o]) (.fn f [.ref i' o])=(sel[i']?=some i):=Ty
theorem Aav{f f':Bool}{a b:List (List AV)}:wk0 sel (.sl f a) (.sl f' b)=((f'=true→f=true)∧a=b):=rfl
theorem Aa2{f f':Bool}{i t o l i' t' o' l':Nat}:wk0 sel (.bs f i t o l) (.bs f' i' t' o' l')=(sel[i']?=some i∧(f'=true→f=true)∧t=t'∧o=o'∧l=l'):=rfl
theorem Zm{i o i' o':Nat}:wk0 sel (.ref i o) (.ref i' o')=(sel[i']?=some i∧o=o'):=rfl
theorem Uj{cs cs':List AV}{ro ro':Bool}:OH sel (.box cs ro) (.box cs' ro')=(ro=ro'∧wkL sel cs cs'):=rfl
theorem Ue{k k':Nat}{els els':List (List AV)}{ro ro':Bool}:OH sel (.buf k els ro) (.buf k' els' ro')=(k=k'∧ro=ro'∧els=els'∧Ct els'=true):=rfl
end
def YG(E:Env)(t:TypeId):Bool:=match E.tab t with
 | some d=>match d.desc with
  | .slice e=>match E.tab e with
   |some de=>match de.desc with
    |.int .u8=>true
    |_=>false
   |none=>false
  |_=>false
 |none=>false
def Aej(E:Env)(t:TypeId):Bool:=match E.tab t with
 |some d=>match d.desc with
  |.string=>true
  |_=>false
 |none=>false
theorem ob_s{a b:Bool}:(some a==some b)=(a==b):=rfl
theorem ob_n{b:Bool}:((none:Option Bool)==some b)=false:=rfl
attribute [go_sem] ob_s ob_n
attribute [go_sem] Vv Zi Ty YR Xb Ws Xz Wn Wc VP X6 Yu AbR WW ZN Ace WP Abi Aby Zw Zz YV Qk Yg Aav Aa2 Zm Uj Ue D3 wkL Ab5 YG Aej
attribute [go_sem] List.getElem?_cons_zero List.getElem?_cons_succ List.set_cons_zero List.set_cons_succ List.length_cons List.length_nil List.cons_append List.nil_append List.append_nil List.map_cons List.map_nil List.flatMap_cons List.flatMap_nil List.all_cons List.all_nil List.drop_zero List.drop_succ_cons List.drop_nil List.take_zero List.take_succ_cons List.take_nil List.length_append List.length_set List.length_replicate List.take_length List.replicate_zero List.replicate_succ Option.map_some Option.map_none Option.bind_some Option.bind_none Option.isSome_some Option.getD_some Option.some.injEq Prod.mk.injEq Bool.true_and Bool.false_and Bool.and_true Bool.and_false Bool.and_self Bool.not_true Bool.not_false Bool.true_or Bool.false_or and_true true_and and_self and_false false_and or_true true_or or_false false_or implies_true not_true_eq_false not_false_eq_true ne_eq imp_self false_imp_iff decide_true decide_false Bool.false_eq_true Nat.zero_add Nat.add_zero Nat.sub_zero Nat.mul_one eq_self List.cons_ne_nil reduceCtorEq beq_self_eq_true List.mem_cons List.not_mem_nil forall_eq_or_imp forall_eq
end Go.Rv
