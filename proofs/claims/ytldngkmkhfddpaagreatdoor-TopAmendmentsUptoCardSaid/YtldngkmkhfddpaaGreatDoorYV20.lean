/-
  Part 20.
-/
import Derived.Test.YtldngkmkhfddpaaGreatDoorYV19
namespace Go.Rv
set_option linter.unusedVariables false
set_option linter.unusedSimpArgs false
variable{m n id i i' o o':Nat}{fr fr':Fr}{O O':Ad}{K:CX}
variable {E:Env}
theorem AJ(hE:E.Ok){l:List Oper}(ts:List Nat)(h:∃orc,Hh E.toBase orc/\HT E orc false n l ts (fr,O)=some (fr',O')) {y:Code} (hk:Run E m y ⟨Al n fr',O'⟩ K):Run E m (.seq (.region id l.toArray false) y) ⟨Al n fr,O⟩ K:=by
 obtain⟨orc,hO,h⟩:=h;exact X4 hE hO ts h hk
theorem AbZ(hE:E.Ok)(hP:E.P.follows .mixedOrders=true){l:List Oper}(T:List (List Nat))(hok1:FO l.toArray T=true)(hok2:It E l.toArray T=true)(ts:List Nat) (h:∃orc,Hh E.toBase orc/\HT E orc true n l ts (fr,O)=some (fr',O')) {y:Code} (hk:Run E m y ⟨Al n fr',O'⟩ K):Run E m (.seq (.region id l.toArray true) y) ⟨Al n fr,O⟩ K:=by
 obtain⟨orc,hO,h⟩:=h;exact X1 hE hO hP T hok1 hok2 ts h hk
def LW(E:Env)(n:Nat)(K:CX):Prop:=∀st st',Weak E n st st'->K .normal st'->K .normal st
theorem E6{y:Code}:LW E n (Vm E n y K):=fun st st' h k=>EZ h k
theorem G8{V:Type}{S:V->St}{J:V->Prop}:LW E n (S7 E n S J K):=fun st st' h k=>by
 obtain⟨v,hv,hw⟩:=k;exact⟨v,hv,h.trans hw⟩
theorem Uw{V X:Type}{S:V->St}{o:V⊕X}:LW E n (lpK E n S o K):=fun st st' h k=>by
 obtain⟨v,hv,hw⟩:=k;exact⟨v,hv,h.trans hw⟩
theorem Fc(h:LW E n K):LW E n (IH i K):=h
theorem Ik(h:LW E n K):LW E n (WS K):=h
theorem D5(hE:E.Ok){l:List Oper}(hw:LW E m K)(ts:List Nat)(h:∃orc,Hh E.toBase orc/\HT E orc false n l ts (fr,O)=some (fr',O')) (hk:K .normal ⟨Al n fr',O'⟩):Run E m (.region id l.toArray false) ⟨Al n fr,O⟩ K:=by
 obtain⟨orc,hO,h⟩:=h;simp only[HT,Ao3,Ao0,Apa]at h;obtain⟨⟨fr1,σ1⟩,h1,rfl,rfl⟩:=h;exact AcG hE hO h1 (hw _ _ (Do _ _ _ _ _) hk)
theorem QF(hE:E.Ok)(hP:E.P.follows .mixedOrders=true){l:List Oper}(T:List (List Nat))(hok1:FO l.toArray T=true)(hok2:It E l.toArray T=true)(hw:LW E m K)(ts:List Nat) (h:∃orc,Hh E.toBase orc/\HT E orc true n l ts (fr,O)=some (fr',O')) (hk:K .normal ⟨Al n fr',O'⟩):Run E m (.region id l.toArray true) ⟨Al n fr,O⟩ K:=by
 obtain⟨orc,hO,h⟩:=h;simp only[HT,Ao3,Ao0,Apa]at h;obtain⟨⟨fr1,σ1⟩,h1,rfl,rfl⟩:=h;exact Ab4 hE hO hP T hok1 hok2 h1 (hw _ _ (Do _ _ _ _ _) hk)
section
variable {l:List AV}{f:Bool}{els:List (List AV)}{a b c d:Nat}
theorem Alp(x:Int):(i64 x).scalar=true:=rfl
theorem Ak4(x:Int):(i64 x).flatAgg=true:=rfl
theorem Ah6(x:Int):(i64 x).flat=true:=rfl
theorem Aiz(x:Int):Cb (i64 x)=[]:=rfl
theorem Alx(x:Int):Cb (.agg (i64 x::l))=Cb (.agg l):=rfl
theorem An2(x:UInt8):(u8 x).scalar=true:=rfl
theorem Amn(x:UInt8):(u8 x).flatAgg=true:=rfl
theorem AlZ(x:UInt8):(u8 x).flat=true:=rfl
theorem AmE(x:UInt8):Cb (u8 x)=[]:=rfl
theorem AnW(x:UInt8):Cb (.agg (u8 x::l))=Cb (.agg l):=rfl
theorem Aj9(x:UInt16):(u16 x).scalar=true:=rfl
theorem Ai1(x:UInt16):(u16 x).flatAgg=true:=rfl
theorem Aid(x:UInt16):(u16 x).flat=true:=rfl
theorem AiI(x:UInt16):Cb (u16 x)=[]:=rfl
theorem Akq(x:UInt16):Cb (.agg (u16 x::l))=Cb (.agg l):=rfl
theorem AkB(x:UInt32):(u32 x).scalar=true:=rfl
theorem AiU(x:UInt32):(u32 x).flatAgg=true:=rfl
theorem AjS(x:UInt32):(u32 x).flat=true:=rfl
theorem AlC(x:UInt32):Cb (u32 x)=[]:=rfl
theorem Akp(x:UInt32):Cb (.agg (u32 x::l))=Cb (.agg l):=rfl
theorem Alw(x:UInt64):(u64 x).scalar=true:=rfl
theorem Ajw(x:UInt64):(u64 x).flatAgg=true:=rfl
theorem AiR(x:UInt64):(u64 x).flat=true:=rfl
theorem Akr(x:UInt64):Cb (u64 x)=[]:=rfl
theorem Aiy(x:UInt64):Cb (.agg (u64 x::l))=Cb (.agg l):=rfl
theorem Ahr(x:Bool):(AV.bool x).scalar=true:=rfl
theorem AgB(x:Bool):(AV.bool x).flatAgg=true:=rfl
theorem AhI(x:Bool):(AV.bool x).flat=true:=rfl
theorem AhB(x:Bool):Cb (AV.bool x)=[]:=rfl
theorem AgP(x:Bool):Cb (.agg (AV.bool x::l))=Cb (.agg l):=rfl
theorem Alq(x:List UInt8):(AV.str x).scalar=true:=rfl
theorem Ajs(x:List UInt8):(AV.str x).flatAgg=true:=rfl
theorem Aie(x:List UInt8):(AV.str x).flat=true:=rfl
theorem Aix(x:List UInt8):Cb (AV.str x)=[]:=rfl
theorem Aiw(x:List UInt8):Cb (.agg (AV.str x::l))=Cb (.agg l):=rfl
theorem AoD:(AV.sl f els).scalar=false:=rfl
theorem Anp:(AV.bs f a b c d).scalar=false:=rfl
theorem Ajy:(AV.agg l).scalar=l.all AV.flat:=rfl
theorem Ajp:(AV.tup l).scalar=l.all AV.flatAgg:=rfl
theorem AmI:(AV.sl f els).flatAgg=false:=rfl
theorem AmN:(AV.bs f a b c d).flatAgg=false:=rfl
theorem AkT:(AV.agg l).flatAgg=l.all AV.flat:=rfl
theorem AoE:(AV.sl f els).flat=false:=rfl
theorem AnZ:(AV.bs f a b c d).flat=false:=rfl
theorem AnF:Cb (.sl f els)=[]:=rfl
theorem AnM:Cb (.bs f a b c d)=[a]:=rfl
theorem Aok{g:FuncId}:Cb (.fn g l)=[]:=rfl
theorem Ai7:Cb (.ref a b)=[]:=rfl
theorem Af1:Cb (.tref a b)=[]:=rfl
theorem AfK:Cb (.nref a)=[]:=rfl
theorem AgV:Cb (.mref a)=[]:=rfl
theorem Aiu:Cb (.tup l)=[]:=rfl
theorem Agj:Cb .junk=[]:=rfl
theorem AjP:Cb (.agg [])=[]:=rfl
theorem Am4:Cb (.agg (.sl f els::l))=Cb (.agg l):=rfl
theorem AmR:Cb (.agg (.bs f a b c d::l))=a::Cb (.agg l):=rfl
end
theorem Abx{α:Type}{l m:List α}:(ovl l (m.take (min m.length l.length)) 0).length=l.length:=by
 simp[ovl];omega
attribute [go_sem] Abx
theorem AaA(h:InR (m:Int) n):m<n:=by have:=h.2;simpa using this
attribute [go_sem] AfK AgV Af1 Alp Ak4 Ah6 Aiz Alx An2 Amn AlZ AmE AnW Aj9 Ai1 Aid AiI Akq AkB AiU AjS AlC Akp Alw Ajw AiR Akr Aiy Ahr AgB AhI AhB AgP Alq Ajs Aie Aix Aiw AoD Anp Ajy Ajp AmI AmN AkT AoE AnZ AnF AnM Aok Ai7 Aiu Agj AjP Am4 AmR
section
variable {sel:List Nat}
theorem AdS{x:AV}:wk0 sel x .junk=True:=by cases x<;>simp[wk0]
theorem Aht{a:Int}:wk1 sel (i64 a) (i64 a)=True:=by simp[wk1,wk0,i64,AV.closed]
theorem Ak9{a:UInt8}:wk1 sel (u8 a) (u8 a)=True:=by simp[wk1,wk0,u8,AV.closed]
theorem AhG{a:UInt64}:wk1 sel (u64 a) (u64 a)=True:=by simp[wk1,wk0,u64,AV.closed]
theorem AeV{a:Bool}:wk1 sel (.bool a) (.bool a)=True:=by simp[wk1,wk0,AV.closed]
theorem AgQ{a:List UInt8}:wk1 sel (.str a) (.str a)=True:=by simp[wk1,wk0,AV.closed]
theorem Ak7{f:FuncId}:wk1 sel (.fn f []) (.fn f [])=True:=by simp[wk1,wk0,AV.closed]
theorem AjN{a:List AV}:wk1 sel (.rp a) (.rp a)=True:=by simp[wk1,wk0,AV.closed]
theorem AjI{f f':Bool}{a b:List (List AV)}:wk1 sel (.sl f a) (.sl f' b)=((f'=true->f=true)/\a=b):=rfl
theorem AiY{f f':Bool}{i t o l i' t' o' l':Nat}:wk1 sel (.bs f i t o l) (.bs f' i' t' o' l')=(sel[i']?=some i/\(f'=true->f=true)/\t=t'/\o=o'/\l=l'):=rfl
theorem Ac1:wk1 sel (.mref i) (.mref i')=(sel[i']?=some i):=rfl
theorem AcZ:wk0 sel (.mref i) (.mref i')=(sel[i']?=some i):=rfl
theorem Ac5:wk1 sel (.nref i) (.nref i')=(sel[i']?=some i):=rfl
theorem Ac7:wk0 sel (.nref i) (.nref i')=(sel[i']?=some i):=rfl
theorem AdJ:wk1 sel (.tref i o) (.tref i' o')=(sel[i']?=some i/\o=o'):=rfl
theorem Ac4:wk0 sel (.tref i o) (.tref i' o')=(sel[i']?=some i/\o=o'):=rfl
theorem AfL:wk1 sel (.ref i o) (.ref i' o')=(sel[i']?=some i/\o=o'):=rfl
theorem Ahu{a b:List AV}:wk1 sel (.agg a) (.agg b)=wkL sel a b:=rfl
theorem AfT{a b:List AV}:wk1 sel (.tup a) (.tup b)=wkL sel a b:=rfl
theorem UK{a:Int}:wk0 sel (i64 a) (i64 a)=True:=by simp[wk0,i64,AV.closed]
theorem Xk{a:Bool}:wk0 sel (.bool a) (.bool a)=True:=by simp[wk0,AV.closed]
theorem Ag0{a:List UInt8}:wk0 sel (.str a) (.str a)=True:=by simp[wk0,AV.closed]
theorem ZJ{f:FuncId}:wk0 sel (.fn f [.ref i o]) (.fn f [.ref i' o])=(sel[i']?=some i):=by
 refine propext ⟨fun h=>?_,fun h=>.inr (.inl ⟨rfl,⟨h,rfl⟩,trivial⟩)⟩;rcases h with⟨_,h⟩|⟨_,⟨h,_⟩,_⟩|⟨_,h⟩
 ·simp[AV.closed]at h
 ·exact h
 exact h.elim
theorem Aca{f:FuncId}:wk0 sel (.fn f [.tup [.ref i o]]) (.fn f [.tup [.ref i' o]])=(sel[i']?=some i):=by
 refine propext ⟨?_,fun h=>.inr (.inr ⟨rfl,h,rfl⟩)⟩;rintro(⟨_,h⟩|⟨_,h,_⟩|⟨_,h,_⟩)
 ·simp[AV.closed]at h
 ·simp[wkc,Ae3]at h
 exact h
theorem AhD{f:FuncId}:wk1 sel (.fn f [.tup [.ref i o]]) (.fn f [.tup [.ref i' o]])=(sel[i']?=some i):=Aca
theorem Aho{f:FuncId}:wk1 sel (.fn f [.ref i o]) (.fn f [.ref i' o])=(sel[i']?=some i):=ZJ
theorem AjA{f f':Bool}{a b:List (List AV)}:wk0 sel (.sl f a) (.sl f' b)=((f'=true->f=true)/\a=b):=rfl
theorem Aio{f f':Bool}{i t o l i' t' o' l':Nat}:wk0 sel (.bs f i t o l) (.bs f' i' t' o' l')=(sel[i']?=some i/\(f'=true->f=true)/\t=t'/\o=o'/\l=l'):=rfl
theorem Ahi:wk0 sel (.ref i o) (.ref i' o')=(sel[i']?=some i/\o=o'):=rfl
theorem Ab2{cs cs':List AV}{ro ro':Bool}:Ts sel (.box cs ro) (.box cs' ro')=(ro=ro'/\wkL sel cs cs'):=rfl
theorem AaE{k k':Nat}{els els':List (List AV)}{ro ro':Bool}:Ts sel (.buf k els ro) (.buf k' els' ro')=(k=k'/\ro=ro'/\els=els'/\DJ els'=true):=rfl
end
def Agx(E:Env)(t:TypeId):Bool:=match E.tab t with
 | some d=>match d.desc with
  | .slice e=>match E.tab e with
   |some de=>match de.desc with
    |.int .u8=>true
    |_=>false
   |none=>false
  |_=>false
 |none=>false
def Amt(E:Env)(t:TypeId):Bool:=match E.tab t with
 |some d=>match d.desc with
  |.string=>true
  |_=>false
 |none=>false
theorem ob_s{a b:Bool}:(some a==some b)=(a==b):=rfl
theorem ob_n{b:Bool}:((none:Option Bool)==some b)=false:=rfl
attribute [go_sem] ob_s ob_n
attribute [go_sem] Aca AhD ZJ Aho Ac5 Ac7 Ac1 AcZ AdJ Ac4 AdS Aht Ak9 AhG AeV AgQ Ak7 AjN AjI AiY AfL Ahu AfT UK Xk Ag0 AjA Aio Ahi Ab2 AaE Im wkL Ah1 Agx Amt
attribute [go_sem] List.getElem?_cons_zero List.getElem?_cons_succ List.set_cons_zero List.set_cons_succ List.length_cons List.length_nil List.cons_append List.nil_append List.append_nil List.map_cons List.map_nil List.flatMap_cons List.flatMap_nil List.all_cons List.all_nil List.drop_zero List.drop_succ_cons List.drop_nil List.take_zero List.take_succ_cons List.take_nil List.length_append List.length_set List.length_replicate List.take_length List.replicate_zero List.replicate_succ Option.map_some Option.map_none Option.bind_some Option.bind_none Option.isSome_some Option.getD_some Option.some.injEq Prod.mk.injEq Bool.true_and Bool.false_and Bool.and_true Bool.and_false Bool.and_self Bool.not_true Bool.not_false Bool.true_or Bool.false_or and_true true_and and_self and_false false_and or_true true_or or_false false_or implies_true not_true_eq_false not_false_eq_true ne_eq imp_self false_imp_iff decide_true decide_false Bool.false_eq_true Nat.zero_add Nat.add_zero Nat.sub_zero Nat.mul_one eq_self List.cons_ne_nil reduceCtorEq beq_self_eq_true List.mem_cons List.not_mem_nil forall_eq_or_imp forall_eq
end Go.Rv
