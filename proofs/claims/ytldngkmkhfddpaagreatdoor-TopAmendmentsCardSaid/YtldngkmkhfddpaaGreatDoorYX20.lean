/-
  Part 20.
-/
import Derived.Test.YtldngkmkhfddpaaGreatDoorYX19
namespace Go.Rv
set_option linter.unusedVariables false
set_option linter.unusedSimpArgs false
variable{m n id i i' o o':Nat}{fr fr':Fr}{O O':Ac}{K:CO}
variable {E:Env}
theorem IJ(hE:E.Ok){l:List Oper}(ts:List Nat)(h:∃orc,He E.toBase orc/\Hq E orc false n l ts (fr,O)=some (fr',O')) {y:Code} (hk:Run E m y ⟨Ai n fr',O'⟩ K):Run E m (.seq (.region id l.toArray false) y) ⟨Ai n fr,O⟩ K:=by
 obtain⟨orc,hO,h⟩:=h;exact Xm hE hO ts h hk
theorem ZF(hE:E.Ok)(hP:E.P.follows .mixedOrders=true){l:List Oper}(T:List (List Nat))(hok1:EX l.toArray T=true)(hok2:Ia E l.toArray T=true)(ts:List Nat) (h:∃orc,He E.toBase orc/\Hq E orc true n l ts (fr,O)=some (fr',O')) {y:Code} (hk:Run E m y ⟨Ai n fr',O'⟩ K):Run E m (.seq (.region id l.toArray true) y) ⟨Ai n fr,O⟩ K:=by
 obtain⟨orc,hO,h⟩:=h;exact WV hE hO hP T hok1 hok2 ts h hk
def Lm(E:Env)(n:Nat)(K:CO):Prop:=∀st st',Weak E n st st'->K .normal st'->K .normal st
theorem Ea{y:Code}:Lm E n (VN E n y K):=fun st st' h k=>Fa h k
theorem FJ{V:Type}{S:V->St}{J:V->Prop}:Lm E n (Ri E n S J K):=fun st st' h k=>by
 obtain⟨v,hv,hw⟩:=k;exact⟨v,hv,h.trans hw⟩
theorem Qm{V X:Type}{S:V->St}{o:V⊕X}:Lm E n (lpK E n S o K):=fun st st' h k=>by
 obtain⟨v,hv,hw⟩:=k;exact⟨v,hv,h.trans hw⟩
theorem E4(h:Lm E n K):Lm E n (IG i K):=h
theorem GJ(h:Lm E n K):Lm E n (Xc K):=h
theorem D2(hE:E.Ok){l:List Oper}(hw:Lm E m K)(ts:List Nat)(h:∃orc,He E.toBase orc/\Hq E orc false n l ts (fr,O)=some (fr',O')) (hk:K .normal ⟨Ai n fr',O'⟩):Run E m (.region id l.toArray false) ⟨Ai n fr,O⟩ K:=by
 obtain⟨orc,hO,h⟩:=h;simp only[Hq,Apa,Ao7,Apf]at h;obtain⟨⟨fr1,σ1⟩,h1,rfl,rfl⟩:=h;exact Ach hE hO h1 (hw _ _ (Dh _ _ _ _ _) hk)
theorem QA(hE:E.Ok)(hP:E.P.follows .mixedOrders=true){l:List Oper}(T:List (List Nat))(hok1:EX l.toArray T=true)(hok2:Ia E l.toArray T=true)(hw:Lm E m K)(ts:List Nat) (h:∃orc,He E.toBase orc/\Hq E orc true n l ts (fr,O)=some (fr',O')) (hk:K .normal ⟨Ai n fr',O'⟩):Run E m (.region id l.toArray true) ⟨Ai n fr,O⟩ K:=by
 obtain⟨orc,hO,h⟩:=h;simp only[Hq,Apa,Ao7,Apf]at h;obtain⟨⟨fr1,σ1⟩,h1,rfl,rfl⟩:=h;exact ZY hE hO hP T hok1 hok2 h1 (hw _ _ (Dh _ _ _ _ _) hk)
section
variable {l:List AV}{f:Bool}{els:List (List AV)}{a b c d:Nat}
theorem Aj3(x:Int):(i64 x).scalar=true:=rfl
theorem AiH(x:Int):(i64 x).flatAgg=true:=rfl
theorem Akh(x:Int):(i64 x).flat=true:=rfl
theorem Ak6(x:Int):BW (i64 x)=[]:=rfl
theorem Ajf(x:Int):BW (.agg (i64 x::l))=BW (.agg l):=rfl
theorem AnN(x:UInt8):(u8 x).scalar=true:=rfl
theorem Am7(x:UInt8):(u8 x).flatAgg=true:=rfl
theorem AnA(x:UInt8):(u8 x).flat=true:=rfl
theorem Ank(x:UInt8):BW (u8 x)=[]:=rfl
theorem Anm(x:UInt8):BW (.agg (u8 x::l))=BW (.agg l):=rfl
theorem All(x:UInt16):(u16 x).scalar=true:=rfl
theorem AiN(x:UInt16):(u16 x).flatAgg=true:=rfl
theorem Alq(x:UInt16):(u16 x).flat=true:=rfl
theorem AiK(x:UInt16):BW (u16 x)=[]:=rfl
theorem Aj1(x:UInt16):BW (.agg (u16 x::l))=BW (.agg l):=rfl
theorem Aie(x:UInt32):(u32 x).scalar=true:=rfl
theorem AjG(x:UInt32):(u32 x).flatAgg=true:=rfl
theorem Akd(x:UInt32):(u32 x).flat=true:=rfl
theorem AiO(x:UInt32):BW (u32 x)=[]:=rfl
theorem Aje(x:UInt32):BW (.agg (u32 x::l))=BW (.agg l):=rfl
theorem AkB(x:UInt64):(u64 x).scalar=true:=rfl
theorem AjV(x:UInt64):(u64 x).flatAgg=true:=rfl
theorem Alz(x:UInt64):(u64 x).flat=true:=rfl
theorem Alp(x:UInt64):BW (u64 x)=[]:=rfl
theorem Ai6(x:UInt64):BW (.agg (u64 x::l))=BW (.agg l):=rfl
theorem AgX(x:Bool):(AV.bool x).scalar=true:=rfl
theorem AhH(x:Bool):(AV.bool x).flatAgg=true:=rfl
theorem AfV(x:Bool):(AV.bool x).flat=true:=rfl
theorem AfS(x:Bool):BW (AV.bool x)=[]:=rfl
theorem AfJ(x:Bool):BW (.agg (AV.bool x::l))=BW (.agg l):=rfl
theorem Ai9(x:List UInt8):(AV.str x).scalar=true:=rfl
theorem Akl(x:List UInt8):(AV.str x).flatAgg=true:=rfl
theorem AjI(x:List UInt8):(AV.str x).flat=true:=rfl
theorem Ak0(x:List UInt8):BW (AV.str x)=[]:=rfl
theorem Aij(x:List UInt8):BW (.agg (AV.str x::l))=BW (.agg l):=rfl
theorem AnX:(AV.sl f els).scalar=false:=rfl
theorem AmI:(AV.bs f a b c d).scalar=false:=rfl
theorem AiI:(AV.agg l).scalar=l.all AV.flat:=rfl
theorem Aj9:(AV.tup l).scalar=l.all AV.flatAgg:=rfl
theorem Ama:(AV.sl f els).flatAgg=false:=rfl
theorem AmJ:(AV.bs f a b c d).flatAgg=false:=rfl
theorem AlA:(AV.agg l).flatAgg=l.all AV.flat:=rfl
theorem AoN:(AV.sl f els).flat=false:=rfl
theorem Amf:(AV.bs f a b c d).flat=false:=rfl
theorem An8:BW (.sl f els)=[]:=rfl
theorem Aot:BW (.bs f a b c d)=[a]:=rfl
theorem An3{g:FuncId}:BW (.fn g l)=[]:=rfl
theorem Aim:BW (.ref a b)=[]:=rfl
theorem AfY:BW (.tref a b)=[]:=rfl
theorem Ahk:BW (.nref a)=[]:=rfl
theorem Ag7:BW (.mref a)=[]:=rfl
theorem Ak1:BW (.tup l)=[]:=rfl
theorem AfO:BW .junk=[]:=rfl
theorem Alx:BW (.agg [])=[]:=rfl
theorem Al3:BW (.agg (.sl f els::l))=BW (.agg l):=rfl
theorem Aml:BW (.agg (.bs f a b c d::l))=a::BW (.agg l):=rfl
end
theorem AbG{α:Type}{l m:List α}:(ovl l (m.take (min m.length l.length)) 0).length=l.length:=by
 simp[ovl];omega
attribute [go_sem] AbG
theorem AcH(h:InR (m:Int) n):m<n:=by have:=h.2;simpa using this
attribute [go_sem] Ahk Ag7 AfY Aj3 AiH Akh Ak6 Ajf AnN Am7 AnA Ank Anm All AiN Alq AiK Aj1 Aie AjG Akd AiO Aje AkB AjV Alz Alp Ai6 AgX AhH AfV AfS AfJ Ai9 Akl AjI Ak0 Aij AnX AmI AiI Aj9 Ama AmJ AlA AoN Amf An8 Aot An3 Aim Ak1 AfO Alx Al3 Aml
section
variable {sel:List Nat}
theorem Adl{x:AV}:wk0 sel x .junk=True:=by cases x<;>simp[wk0]
theorem Ahi{a:Int}:wk1 sel (i64 a) (i64 a)=True:=by simp[wk1,wk0,i64,AV.closed]
theorem AiE{a:UInt8}:wk1 sel (u8 a) (u8 a)=True:=by simp[wk1,wk0,u8,AV.closed]
theorem Agh{a:UInt64}:wk1 sel (u64 a) (u64 a)=True:=by simp[wk1,wk0,u64,AV.closed]
theorem AeU{a:Bool}:wk1 sel (.bool a) (.bool a)=True:=by simp[wk1,wk0,AV.closed]
theorem Af4{a:List UInt8}:wk1 sel (.str a) (.str a)=True:=by simp[wk1,wk0,AV.closed]
theorem Air{f:FuncId}:wk1 sel (.fn f []) (.fn f [])=True:=by simp[wk1,wk0,AV.closed]
theorem AiM{a:List AV}:wk1 sel (.rp a) (.rp a)=True:=by simp[wk1,wk0,AV.closed]
theorem Akn{f f':Bool}{a b:List (List AV)}:wk1 sel (.sl f a) (.sl f' b)=((f'=true->f=true)/\a=b):=rfl
theorem Alm{f f':Bool}{i t o l i' t' o' l':Nat}:wk1 sel (.bs f i t o l) (.bs f' i' t' o' l')=(sel[i']?=some i/\(f'=true->f=true)/\t=t'/\o=o'/\l=l'):=rfl
theorem Aef:wk1 sel (.mref i) (.mref i')=(sel[i']?=some i):=rfl
theorem AdI:wk0 sel (.mref i) (.mref i')=(sel[i']?=some i):=rfl
theorem Ade:wk1 sel (.nref i) (.nref i')=(sel[i']?=some i):=rfl
theorem AeE:wk0 sel (.nref i) (.nref i')=(sel[i']?=some i):=rfl
theorem Ac9:wk1 sel (.tref i o) (.tref i' o')=(sel[i']?=some i/\o=o'):=rfl
theorem Aex:wk0 sel (.tref i o) (.tref i' o')=(sel[i']?=some i/\o=o'):=rfl
theorem Ahj:wk1 sel (.ref i o) (.ref i' o')=(sel[i']?=some i/\o=o'):=rfl
theorem Ag2{a b:List AV}:wk1 sel (.agg a) (.agg b)=wkL sel a b:=rfl
theorem Agt{a b:List AV}:wk1 sel (.tup a) (.tup b)=wkL sel a b:=rfl
theorem Wl{a:Int}:wk0 sel (i64 a) (i64 a)=True:=by simp[wk0,i64,AV.closed]
theorem Xx{a:Bool}:wk0 sel (.bool a) (.bool a)=True:=by simp[wk0,AV.closed]
theorem Agw{a:List UInt8}:wk0 sel (.str a) (.str a)=True:=by simp[wk0,AV.closed]
theorem AbO{f:FuncId}:wk0 sel (.fn f [.ref i o]) (.fn f [.ref i' o])=(sel[i']?=some i):=by
 refine propext ⟨fun h=>?_,fun h=>.inr (.inl ⟨rfl,⟨h,rfl⟩,trivial⟩)⟩;rcases h with⟨_,h⟩|⟨_,⟨h,_⟩,_⟩|⟨_,h⟩
 ·simp[AV.closed]at h
 ·exact h
 exact h.elim
theorem Abr{f:FuncId}:wk0 sel (.fn f [.tup [.ref i o]]) (.fn f [.tup [.ref i' o]])=(sel[i']?=some i):=by
 refine propext ⟨?_,fun h=>.inr (.inr ⟨rfl,h,rfl⟩)⟩;rintro(⟨_,h⟩|⟨_,h,_⟩|⟨_,h,_⟩)
 ·simp[AV.closed]at h
 ·simp[wkc,Afk]at h
 exact h
theorem Agb{f:FuncId}:wk1 sel (.fn f [.tup [.ref i o]]) (.fn f [.tup [.ref i' o]])=(sel[i']?=some i):=Abr
theorem AfL{f:FuncId}:wk1 sel (.fn f [.ref i o]) (.fn f [.ref i' o])=(sel[i']?=some i):=AbO
theorem Ak2{f f':Bool}{a b:List (List AV)}:wk0 sel (.sl f a) (.sl f' b)=((f'=true->f=true)/\a=b):=rfl
theorem AlN{f f':Bool}{i t o l i' t' o' l':Nat}:wk0 sel (.bs f i t o l) (.bs f' i' t' o' l')=(sel[i']?=some i/\(f'=true->f=true)/\t=t'/\o=o'/\l=l'):=rfl
theorem Ags:wk0 sel (.ref i o) (.ref i' o')=(sel[i']?=some i/\o=o'):=rfl
theorem Aac{cs cs':List AV}{ro ro':Bool}:Ue sel (.box cs ro) (.box cs' ro')=(ro=ro'/\wkL sel cs cs'):=rfl
theorem AbD{k k':Nat}{els els':List (List AV)}{ro ro':Bool}:Ue sel (.buf k els ro) (.buf k' els' ro')=(k=k'/\ro=ro'/\els=els'/\D4 els'=true):=rfl
end
def AfK(E:Env)(t:TypeId):Bool:=match E.tab t with
 | some d=>match d.desc with
  | .slice e=>match E.tab e with
   |some de=>match de.desc with
    |.int .u8=>true
    |_=>false
   |none=>false
  |_=>false
 |none=>false
def AnV(E:Env)(t:TypeId):Bool:=match E.tab t with
 |some d=>match d.desc with
  |.string=>true
  |_=>false
 |none=>false
theorem ob_s{a b:Bool}:(some a==some b)=(a==b):=rfl
theorem ob_n{b:Bool}:((none:Option Bool)==some b)=false:=rfl
attribute [go_sem] ob_s ob_n
attribute [go_sem] Abr Agb AbO AfL Ade AeE Aef AdI Ac9 Aex Adl Ahi AiE Agh AeU Af4 Air AiM Akn Alm Ahj Ag2 Agt Wl Xx Agw Ak2 AlN Ags Aac AbD JI wkL Ah4 AfK AnV
attribute [go_sem] List.getElem?_cons_zero List.getElem?_cons_succ List.set_cons_zero List.set_cons_succ List.length_cons List.length_nil List.cons_append List.nil_append List.append_nil List.map_cons List.map_nil List.flatMap_cons List.flatMap_nil List.all_cons List.all_nil List.drop_zero List.drop_succ_cons List.drop_nil List.take_zero List.take_succ_cons List.take_nil List.length_append List.length_set List.length_replicate List.take_length List.replicate_zero List.replicate_succ Option.map_some Option.map_none Option.bind_some Option.bind_none Option.isSome_some Option.getD_some Option.some.injEq Prod.mk.injEq Bool.true_and Bool.false_and Bool.and_true Bool.and_false Bool.and_self Bool.not_true Bool.not_false Bool.true_or Bool.false_or and_true true_and and_self and_false false_and or_true true_or or_false false_or implies_true not_true_eq_false not_false_eq_true ne_eq imp_self false_imp_iff decide_true decide_false Bool.false_eq_true Nat.zero_add Nat.add_zero Nat.sub_zero Nat.mul_one eq_self List.cons_ne_nil reduceCtorEq beq_self_eq_true List.mem_cons List.not_mem_nil forall_eq_or_imp forall_eq
end Go.Rv
