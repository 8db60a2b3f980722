/-
  Part 21.
-/
import Derived.Test.YtioapcamanmoiaaDoorYF20
namespace Go.Rv
set_option linter.unusedVariables false
set_option linter.unusedSimpArgs false
variable{m n id i i' o o':Nat}{fr fr':Fr}{σ σ':Al}{K:CV}
variable {E:Env}
theorem J2(hE:E.Ok){l:List Oper}(ts:List Nat)(h:∃orc,IC E.toBase orc∧Lm E orc false n l ts (fr,σ)=some (fr',σ')) {y:Code} (hk:Run E m y ⟨Aq n fr',σ'⟩ K):Run E m (.seq (.region id l.toArray false) y) ⟨Aq n fr,σ⟩ K:=by
 obtain⟨orc,hO,h⟩:=h;exact U5 hE hO ts h hk
theorem Nm(hE:E.Ok)(hP:E.P.follows .mixedOrders=true){l:List Oper}(T:List (List Nat))(hok1:F2 l.toArray T=true)(hok2:GP E l.toArray T=true)(ts:List Nat) (h:∃orc,IC E.toBase orc∧Lm E orc true n l ts (fr,σ)=some (fr',σ')) {y:Code} (hk:Run E m y ⟨Aq n fr',σ'⟩ K):Run E m (.seq (.region id l.toArray true) y) ⟨Aq n fr,σ⟩ K:=by
 obtain⟨orc,hO,h⟩:=h;exact UK hE hO hP T hok1 hok2 ts h hk
def PF(E:Env)(n:Nat)(K:CV):Prop:=∀st st',Weak E n st st'→K .normal st'→K .normal st
theorem IY{y:Code}:PF E n (VF E n y K):=fun st st' h k=>E9 h k
theorem Mm{V:Type}{S:V→St}{J:V→Prop}:PF E n (PH E n S J K):=fun st st' h k=>by
 obtain⟨v,hv,hw⟩:=k;exact⟨v,hv,h.trans hw⟩
theorem Z9{V X:Type}{S:V→St}{o:V⊕X}:PF E n (lpK E n S o K):=fun st st' h k=>by
 obtain⟨v,hv,hw⟩:=k;exact⟨v,hv,h.trans hw⟩
theorem Jv(h:PF E n K):PF E n (H0 i K):=h
theorem L2(h:PF E n K):PF E n (Aeq K):=h
theorem Kw(hE:E.Ok){l:List Oper}(hw:PF E m K)(ts:List Nat)(h:∃orc,IC E.toBase orc∧Lm E orc false n l ts (fr,σ)=some (fr',σ')) (hk:K .normal ⟨Aq n fr',σ'⟩):Run E m (.region id l.toArray false) ⟨Aq n fr,σ⟩ K:=by
 obtain⟨orc,hO,h⟩:=h;simp only[Lm,AkZ,AkP,AkX]at h;obtain⟨⟨fr1,σ1⟩,h1,rfl,rfl⟩:=h;exact WO hE hO h1 (hw _ _ (Fk _ _ _ _ _) hk)
theorem UX(hE:E.Ok)(hP:E.P.follows .mixedOrders=true){l:List Oper}(T:List (List Nat))(hok1:F2 l.toArray T=true)(hok2:GP E l.toArray T=true)(hw:PF E m K)(ts:List Nat) (h:∃orc,IC E.toBase orc∧Lm E orc true n l ts (fr,σ)=some (fr',σ')) (hk:K .normal ⟨Aq n fr',σ'⟩):Run E m (.region id l.toArray true) ⟨Aq n fr,σ⟩ K:=by
 obtain⟨orc,hO,h⟩:=h;simp only[Lm,AkZ,AkP,AkX]at h;obtain⟨⟨fr1,σ1⟩,h1,rfl,rfl⟩:=h;exact Xz hE hO hP T hok1 hok2 h1 (hw _ _ (Fk _ _ _ _ _) hk)
section
variable {l:List AV}{f:Bool}{els:List (List AV)}{a b c d:Nat}
theorem Af5(x:Int):(i64 x).scalar=true:=rfl
theorem Agb(x:Int):(i64 x).flatAgg=true:=rfl
theorem AfV(x:Int):(i64 x).flat=true:=rfl
theorem Agr(x:Int):BD (i64 x)=[]:=rfl
theorem Afb(x:Int):BD (.agg (i64 x::l))=BD (.agg l):=rfl
theorem AhG(x:UInt8):(u8 x).scalar=true:=rfl
theorem AhP(x:UInt8):(u8 x).flatAgg=true:=rfl
theorem Ahl(x:UInt8):(u8 x).flat=true:=rfl
theorem Ahu(x:UInt8):BD (u8 x)=[]:=rfl
theorem Ah2(x:UInt8):BD (.agg (u8 x::l))=BD (.agg l):=rfl
theorem Aff(x:UInt16):(u16 x).scalar=true:=rfl
theorem Afn(x:UInt16):(u16 x).flatAgg=true:=rfl
theorem AfC(x:UInt16):(u16 x).flat=true:=rfl
theorem AfJ(x:UInt16):BD (u16 x)=[]:=rfl
theorem AfE(x:UInt16):BD (.agg (u16 x::l))=BD (.agg l):=rfl
theorem AgG(x:UInt32):(u32 x).scalar=true:=rfl
theorem Af0(x:UInt32):(u32 x).flatAgg=true:=rfl
theorem Af9(x:UInt32):(u32 x).flat=true:=rfl
theorem AeK(x:UInt32):BD (u32 x)=[]:=rfl
theorem Agx(x:UInt32):BD (.agg (u32 x::l))=BD (.agg l):=rfl
theorem Agl(x:UInt64):(u64 x).scalar=true:=rfl
theorem AfO(x:UInt64):(u64 x).flatAgg=true:=rfl
theorem Afh(x:UInt64):(u64 x).flat=true:=rfl
theorem Aev(x:UInt64):BD (u64 x)=[]:=rfl
theorem Ae6(x:UInt64):BD (.agg (u64 x::l))=BD (.agg l):=rfl
theorem AbI(x:Bool):(AV.bool x).scalar=true:=rfl
theorem Aea(x:Bool):(AV.bool x).flatAgg=true:=rfl
theorem Acp(x:Bool):(AV.bool x).flat=true:=rfl
theorem AcY(x:Bool):BD (AV.bool x)=[]:=rfl
theorem Ab3(x:Bool):BD (.agg (AV.bool x::l))=BD (.agg l):=rfl
theorem AeS(x:List UInt8):(AV.str x).scalar=true:=rfl
theorem Aex(x:List UInt8):(AV.str x).flatAgg=true:=rfl
theorem AfL(x:List UInt8):(AV.str x).flat=true:=rfl
theorem Af3(x:List UInt8):BD (AV.str x)=[]:=rfl
theorem AgI(x:List UInt8):BD (.agg (AV.str x::l))=BD (.agg l):=rfl
theorem AjW:(AV.sl f els).scalar=false:=rfl
theorem AiV:(AV.bs f a b c d).scalar=false:=rfl
theorem AfF:(AV.agg l).scalar=l.all AV.flat:=rfl
theorem Afw:(AV.tup l).scalar=l.all AV.flatAgg:=rfl
theorem Aiw:(AV.sl f els).flatAgg=false:=rfl
theorem Aiy:(AV.bs f a b c d).flatAgg=false:=rfl
theorem Afo:(AV.agg l).flatAgg=l.all AV.flat:=rfl
theorem Ag5:(AV.sl f els).flat=false:=rfl
theorem AjT:(AV.bs f a b c d).flat=false:=rfl
theorem Aja:BD (.sl f els)=[]:=rfl
theorem Akb:BD (.bs f a b c d)=[a]:=rfl
theorem Ai2{g:FuncId}:BD (.fn g l)=[]:=rfl
theorem AfX:BD (.ref a b)=[]:=rfl
theorem Ad5:BD (.tref a b)=[]:=rfl
theorem AbV:BD (.nref a)=[]:=rfl
theorem Abr:BD (.mref a)=[]:=rfl
theorem Agy:BD (.tup l)=[]:=rfl
theorem AcL:BD .junk=[]:=rfl
theorem AeW:BD (.agg [])=[]:=rfl
theorem AjP:BD (.agg (.sl f els::l))=BD (.agg l):=rfl
theorem Ajq:BD (.agg (.bs f a b c d::l))=a::BD (.agg l):=rfl
end
theorem Acv{α:Type}{l m:List α}:(ovl l (m.take (min m.length l.length)) 0).length=l.length:=by
 simp[ovl];omega
attribute [go_sem] Acv
theorem Pl(h:InR (m:Int) n):m<n:=by have:=h.2;simpa using this
attribute [go_sem] AbV Abr Ad5 Af5 Agb AfV Agr Afb AhG AhP Ahl Ahu Ah2 Aff Afn AfC AfJ AfE AgG Af0 Af9 AeK Agx Agl AfO Afh Aev Ae6 AbI Aea Acp AcY Ab3 AeS Aex AfL Af3 AgI AjW AiV AfF Afw Aiw Aiy Afo Ag5 AjT Aja Akb Ai2 AfX Agy AcL AeW AjP Ajq
section
variable {sel:List Nat}
theorem Ad9{a:Int}:wk1 sel (i64 a) (i64 a)=True:=by simp[wk1,wk0,i64,AV.closed]
theorem AeO{a:UInt8}:wk1 sel (u8 a) (u8 a)=True:=by simp[wk1,wk0,u8,AV.closed]
theorem Ac7{a:UInt64}:wk1 sel (u64 a) (u64 a)=True:=by simp[wk1,wk0,u64,AV.closed]
theorem ZF{a:Bool}:wk1 sel (.bool a) (.bool a)=True:=by simp[wk1,wk0,AV.closed]
theorem Agc{f:FuncId}:wk1 sel (.fn f []) (.fn f [])=True:=by simp[wk1,wk0,AV.closed]
theorem Agf{f f':Bool}{a b:List (List AV)}:wk1 sel (.sl f a) (.sl f' b)=((f'=true→f=true)∧a=b):=rfl
theorem AfY{f f':Bool}{i t o l i' t' o' l':Nat}:wk1 sel (.bs f i t o l) (.bs f' i' t' o' l')=(sel[i']?=some i∧(f'=true→f=true)∧t=t'∧o=o'∧l=l'):=rfl
theorem Aaq:wk1 sel (.mref i) (.mref i')=(sel[i']?=some i):=rfl
theorem YJ:wk0 sel (.mref i) (.mref i')=(sel[i']?=some i):=rfl
theorem Y5:wk1 sel (.nref i) (.nref i')=(sel[i']?=some i):=rfl
theorem YB:wk0 sel (.nref i) (.nref i')=(sel[i']?=some i):=rfl
theorem Aam:wk1 sel (.tref i o) (.tref i' o')=(sel[i']?=some i∧o=o'):=rfl
theorem Y0:wk0 sel (.tref i o) (.tref i' o')=(sel[i']?=some i∧o=o'):=rfl
theorem Acg:wk1 sel (.ref i o) (.ref i' o')=(sel[i']?=some i∧o=o'):=rfl
theorem Abt{a b:List AV}:wk1 sel (.agg a) (.agg b)=wkL sel a b:=rfl
theorem Adq{a b:List AV}:wk1 sel (.tup a) (.tup b)=wkL sel a b:=rfl
theorem AdJ{a:Int}:wk0 sel (i64 a) (i64 a)=True:=by simp[wk0,i64,AV.closed]
theorem XK{a:UInt8}:wk0 sel (u8 a) (u8 a)=True:=by simp[wk0,u8,AV.closed]
theorem X1{a:UInt32}:wk0 sel (u32 a) (u32 a)=True:=by simp[wk0,u32,AV.closed]
theorem AbA{a:UInt64}:wk0 sel (u64 a) (u64 a)=True:=by simp[wk0,u64,AV.closed]
theorem TL{a:Bool}:wk0 sel (.bool a) (.bool a)=True:=by simp[wk0,AV.closed]
theorem AbC{a:List UInt8}:wk0 sel (.str a) (.str a)=True:=by simp[wk0,AV.closed]
theorem XO{f:FuncId}:wk0 sel (.fn f [.ref i o]) (.fn f [.ref i' o])=(sel[i']?=some i):=by
 refine propext ⟨fun h=>?_,fun h=>.inr ⟨rfl,⟨h,rfl⟩,trivial⟩⟩;rcases h with⟨_,h⟩|⟨_,⟨h,_⟩,_⟩
 ·simp[AV.closed]at h
 ·exact h
theorem AcK{f:FuncId}:wk1 sel (.fn f [.ref i o]) (.fn f [.ref i' o])=(sel[i']?=some i):=XO
theorem Af8{f f':Bool}{a b:List (List AV)}:wk0 sel (.sl f a) (.sl f' b)=((f'=true→f=true)∧a=b):=rfl
theorem Ael{f f':Bool}{i t o l i' t' o' l':Nat}:wk0 sel (.bs f i t o l) (.bs f' i' t' o' l')=(sel[i']?=some i∧(f'=true→f=true)∧t=t'∧o=o'∧l=l'):=rfl
theorem Ab9:wk0 sel (.ref i o) (.ref i' o')=(sel[i']?=some i∧o=o'):=rfl
theorem X3{cs cs':List AV}{ro ro':Bool}:QX sel (.box cs ro) (.box cs' ro')=(ro=ro'∧wkL sel cs cs'):=rfl
theorem Xv{k k':Nat}{els els':List (List AV)}{ro ro':Bool}:QX sel (.buf k els ro) (.buf k' els' ro')=(k=k'∧ro=ro'∧els=els'∧B7 els'=true):=rfl
end
def Sf(E:Env)(t:TypeId):Bool:=match E.tab t with
 | some d=>match d.desc with
  | .slice e=>match E.tab e with
   |some de=>match de.desc with
    |.int .u8=>true
    |_=>false
   |none=>false
  |_=>false
 |none=>false
def Abs(E:Env)(t:TypeId):Bool:=match E.tab t with
 |some d=>match d.desc with
  |.string=>true
  |_=>false
 |none=>false
theorem NX{s d:TypeId}{l:List UInt8}(hs:Abs E s=true)(hd:Sf E d=true):B5 E σ s d (.str l)=some (.bs false σ.length l.length 0 l.length,σ++[.buf 1 (L cU8 l) false]):=by
 unfold Sf at hd;unfold Abs at hs;split at hd<;>try cases hd
 rename_i sd hsd;split at hd<;>try cases hd
 rename_i e he;split at hd<;>try cases hd
 rename_i de hde;split at hd<;>try cases hd
 rename_i hu;split at hs<;>try cases hs
 rename_i dd hdd;unfold B5;simp only[hsd,hdd,he,hde,hu];rfl
theorem ob_s{a b:Bool}:(some a==some b)=(a==b):=rfl
theorem ob_n{b:Bool}:((none:Option Bool)==some b)=false:=rfl
attribute [go_sem] ob_s ob_n
attribute [go_sem] XO AcK Y5 YB Aaq YJ Aam Y0 Ad9 AeO Ac7 ZF Agc Agf AfY Acg Abt Adq AdJ XK X1 AbA TL AbC Af8 Ael Ab9 X3 Xv Uq wkL Afg NX Sf Abs
attribute [go_sem] List.getElem?_cons_zero List.getElem?_cons_succ List.set_cons_zero List.set_cons_succ List.length_cons List.length_nil List.cons_append List.nil_append List.append_nil List.map_cons List.map_nil List.flatMap_cons List.flatMap_nil List.all_cons List.all_nil List.drop_zero List.drop_succ_cons List.drop_nil List.take_zero List.take_succ_cons List.take_nil List.length_append List.length_set List.length_replicate List.take_length List.replicate_zero List.replicate_succ Option.map_some Option.map_none Option.bind_some Option.bind_none Option.isSome_some Option.getD_some Option.some.injEq Prod.mk.injEq Bool.true_and Bool.false_and Bool.and_true Bool.and_false Bool.and_self Bool.not_true Bool.not_false Bool.true_or Bool.false_or and_true true_and and_self and_false false_and or_true true_or or_false false_or implies_true not_true_eq_false not_false_eq_true ne_eq imp_self false_imp_iff decide_true decide_false Bool.false_eq_true Nat.zero_add Nat.add_zero Nat.sub_zero Nat.mul_one eq_self List.cons_ne_nil reduceCtorEq beq_self_eq_true List.mem_cons List.not_mem_nil forall_eq_or_imp forall_eq
end Go.Rv
