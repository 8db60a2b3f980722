/-
  Part 21.
-/
import Derived.Test.YtioapcamanmoiaaDoorYF20
namespace Go.Rv
set_option linter.unusedVariables false
set_option linter.unusedSimpArgs false
variable{m n id i i' o o':Nat}{fr fr':Fr}{σ σ':Al}{K:CW}
variable {E:Env}
theorem Jt(hE:E.Ok){l:List Oper}(ts:List Nat)(h:∃orc,IP E.toBase orc∧Lk E orc false n l ts (fr,σ)=some (fr',σ')) {y:Code} (hk:Run E m y ⟨Aq n fr',σ'⟩ K):Run E m (.seq (.region id l.toArray false) y) ⟨Aq n fr,σ⟩ K:=by
 obtain⟨orc,hO,h⟩:=h;exact Uz hE hO ts h hk
theorem N6(hE:E.Ok)(hP:E.P.follows .mixedOrders=true){l:List Oper}(T:List (List Nat))(hok1:Fz l.toArray T=true)(hok2:GV E l.toArray T=true)(ts:List Nat) (h:∃orc,IP E.toBase orc∧Lk E orc true n l ts (fr,σ)=some (fr',σ')) {y:Code} (hk:Run E m y ⟨Aq n fr',σ'⟩ K):Run E m (.seq (.region id l.toArray true) y) ⟨Aq n fr,σ⟩ K:=by
 obtain⟨orc,hO,h⟩:=h;exact UP hE hO hP T hok1 hok2 ts h hk
def PF(E:Env)(n:Nat)(K:CW):Prop:=∀st st',Weak E n st st'→K .normal st'→K .normal st
theorem IZ{y:Code}:PF E n (VM E n y K):=fun st st' h k=>Ez h k
theorem LO{V:Type}{S:V→St}{J:V→Prop}:PF E n (Qb E n S J K):=fun st st' h k=>by
 obtain⟨v,hv,hw⟩:=k;exact⟨v,hv,h.trans hw⟩
theorem Y1{V X:Type}{S:V→St}{o:V⊕X}:PF E n (lpK E n S o K):=fun st st' h k=>by
 obtain⟨v,hv,hw⟩:=k;exact⟨v,hv,h.trans hw⟩
theorem Je(h:PF E n K):PF E n (H3 i K):=h
theorem LA(h:PF E n K):PF E n (Ae0 K):=h
theorem Kk(hE:E.Ok){l:List Oper}(hw:PF E m K)(ts:List Nat)(h:∃orc,IP E.toBase orc∧Lk E orc false n l ts (fr,σ)=some (fr',σ')) (hk:K .normal ⟨Aq n fr',σ'⟩):Run E m (.region id l.toArray false) ⟨Aq n fr,σ⟩ K:=by
 obtain⟨orc,hO,h⟩:=h;simp only[Lk,AkZ,AkP,AkX]at h;obtain⟨⟨fr1,σ1⟩,h1,rfl,rfl⟩:=h;exact XO hE hO h1 (hw _ _ (Fo _ _ _ _ _) hk)
theorem Vw(hE:E.Ok)(hP:E.P.follows .mixedOrders=true){l:List Oper}(T:List (List Nat))(hok1:Fz l.toArray T=true)(hok2:GV E l.toArray T=true)(hw:PF E m K)(ts:List Nat) (h:∃orc,IP E.toBase orc∧Lk E orc true n l ts (fr,σ)=some (fr',σ')) (hk:K .normal ⟨Aq n fr',σ'⟩):Run E m (.region id l.toArray true) ⟨Aq n fr,σ⟩ K:=by
 obtain⟨orc,hO,h⟩:=h;simp only[Lk,AkZ,AkP,AkX]at h;obtain⟨⟨fr1,σ1⟩,h1,rfl,rfl⟩:=h;exact WK hE hO hP T hok1 hok2 h1 (hw _ _ (Fo _ _ _ _ _) hk)
section
variable {l:List AV}{f:Bool}{els:List (List AV)}{a b c d:Nat}
theorem Aew(x:Int):(i64 x).scalar=true:=rfl
theorem AfN(x:Int):(i64 x).flatAgg=true:=rfl
theorem AgL(x:Int):(i64 x).flat=true:=rfl
theorem AgF(x:Int):BD (i64 x)=[]:=rfl
theorem AfA(x:Int):BD (.agg (i64 x::l))=BD (.agg l):=rfl
theorem Aig(x:UInt8):(u8 x).scalar=true:=rfl
theorem AhK(x:UInt8):(u8 x).flatAgg=true:=rfl
theorem Ai3(x:UInt8):(u8 x).flat=true:=rfl
theorem AjX(x:UInt8):BD (u8 x)=[]:=rfl
theorem Akn(x:UInt8):BD (.agg (u8 x::l))=BD (.agg l):=rfl
theorem AfC(x:UInt16):(u16 x).scalar=true:=rfl
theorem Aep(x:UInt16):(u16 x).flatAgg=true:=rfl
theorem Afi(x:UInt16):(u16 x).flat=true:=rfl
theorem AfJ(x:UInt16):BD (u16 x)=[]:=rfl
theorem Af2(x:UInt16):BD (.agg (u16 x::l))=BD (.agg l):=rfl
theorem Agw(x:UInt32):(u32 x).scalar=true:=rfl
theorem Aga(x:UInt32):(u32 x).flatAgg=true:=rfl
theorem Af5(x:UInt32):(u32 x).flat=true:=rfl
theorem Af6(x:UInt32):BD (u32 x)=[]:=rfl
theorem AeL(x:UInt32):BD (.agg (u32 x::l))=BD (.agg l):=rfl
theorem AeT(x:UInt64):(u64 x).scalar=true:=rfl
theorem Agn(x:UInt64):(u64 x).flatAgg=true:=rfl
theorem Aek(x:UInt64):(u64 x).flat=true:=rfl
theorem Afr(x:UInt64):BD (u64 x)=[]:=rfl
theorem AeM(x:UInt64):BD (.agg (u64 x::l))=BD (.agg l):=rfl
theorem AbC(x:Bool):(AV.bool x).scalar=true:=rfl
theorem Ac9(x:Bool):(AV.bool x).flatAgg=true:=rfl
theorem Acd(x:Bool):(AV.bool x).flat=true:=rfl
theorem Acb(x:Bool):BD (AV.bool x)=[]:=rfl
theorem Adn(x:Bool):BD (.agg (AV.bool x::l))=BD (.agg l):=rfl
theorem Agh(x:List UInt8):(AV.str x).scalar=true:=rfl
theorem Agz(x:List UInt8):(AV.str x).flatAgg=true:=rfl
theorem AgC(x:List UInt8):(AV.str x).flat=true:=rfl
theorem AfL(x:List UInt8):BD (AV.str x)=[]:=rfl
theorem Agi(x:List UInt8):BD (.agg (AV.str x::l))=BD (.agg l):=rfl
theorem AiG:(AV.sl f els).scalar=false:=rfl
theorem AhQ:(AV.bs f a b c d).scalar=false:=rfl
theorem Afz:(AV.agg l).scalar=l.all AV.flat:=rfl
theorem Afs:(AV.tup l).scalar=l.all AV.flatAgg:=rfl
theorem AiF:(AV.sl f els).flatAgg=false:=rfl
theorem Aid:(AV.bs f a b c d).flatAgg=false:=rfl
theorem Ae3:(AV.agg l).flatAgg=l.all AV.flat:=rfl
theorem Akj:(AV.sl f els).flat=false:=rfl
theorem Ako:(AV.bs f a b c d).flat=false:=rfl
theorem Ajn:BD (.sl f els)=[]:=rfl
theorem Ag4:BD (.bs f a b c d)=[a]:=rfl
theorem AiU{g:FuncId}:BD (.fn g l)=[]:=rfl
theorem Afb:BD (.ref a b)=[]:=rfl
theorem Adw:BD (.tref a b)=[]:=rfl
theorem Adh:BD (.nref a)=[]:=rfl
theorem AcK:BD (.mref a)=[]:=rfl
theorem AfM:BD (.tup l)=[]:=rfl
theorem Adc:BD .junk=[]:=rfl
theorem Afg:BD (.agg [])=[]:=rfl
theorem Ake:BD (.agg (.sl f els::l))=BD (.agg l):=rfl
theorem AjL:BD (.agg (.bs f a b c d::l))=a::BD (.agg l):=rfl
end
theorem Aco{α:Type}{l m:List α}:(ovl l (m.take (min m.length l.length)) 0).length=l.length:=by
 simp[ovl];omega
attribute [go_sem] Aco
theorem Px(h:InR (m:Int) n):m<n:=by have:=h.2;simpa using this
attribute [go_sem] Adh AcK Adw Aew AfN AgL AgF AfA Aig AhK Ai3 AjX Akn AfC Aep Afi AfJ Af2 Agw Aga Af5 Af6 AeL AeT Agn Aek Afr AeM AbC Ac9 Acd Acb Adn Agh Agz AgC AfL Agi AiG AhQ Afz Afs AiF Aid Ae3 Akj Ako Ajn Ag4 AiU Afb AfM Adc Afg Ake AjL
section
variable {sel:List Nat}
theorem AdR{a:Int}:wk1 sel (i64 a) (i64 a)=True:=by simp[wk1,wk0,i64,AV.closed]
theorem Aex{a:UInt8}:wk1 sel (u8 a) (u8 a)=True:=by simp[wk1,wk0,u8,AV.closed]
theorem Acu{a:UInt64}:wk1 sel (u64 a) (u64 a)=True:=by simp[wk1,wk0,u64,AV.closed]
theorem Aa0{a:Bool}:wk1 sel (.bool a) (.bool a)=True:=by simp[wk1,wk0,AV.closed]
theorem AeX{f:FuncId}:wk1 sel (.fn f []) (.fn f [])=True:=by simp[wk1,wk0,AV.closed]
theorem AfY{f f':Bool}{a b:List (List AV)}:wk1 sel (.sl f a) (.sl f' b)=((f'=true→f=true)∧a=b):=rfl
theorem Ae9{f f':Bool}{i t o l i' t' o' l':Nat}:wk1 sel (.bs f i t o l) (.bs f' i' t' o' l')=(sel[i']?=some i∧(f'=true→f=true)∧t=t'∧o=o'∧l=l'):=rfl
theorem YC:wk1 sel (.mref i) (.mref i')=(sel[i']?=some i):=rfl
theorem YN:wk0 sel (.mref i) (.mref i')=(sel[i']?=some i):=rfl
theorem ZK:wk1 sel (.nref i) (.nref i')=(sel[i']?=some i):=rfl
theorem YT:wk0 sel (.nref i) (.nref i')=(sel[i']?=some i):=rfl
theorem AaS:wk1 sel (.tref i o) (.tref i' o')=(sel[i']?=some i∧o=o'):=rfl
theorem ZE:wk0 sel (.tref i o) (.tref i' o')=(sel[i']?=some i∧o=o'):=rfl
theorem Ad0:wk1 sel (.ref i o) (.ref i' o')=(sel[i']?=some i∧o=o'):=rfl
theorem Adq{a b:List AV}:wk1 sel (.agg a) (.agg b)=wkL sel a b:=rfl
theorem Abt{a b:List AV}:wk1 sel (.tup a) (.tup b)=wkL sel a b:=rfl
theorem AcF{a:Int}:wk0 sel (i64 a) (i64 a)=True:=by simp[wk0,i64,AV.closed]
theorem XH{a:UInt8}:wk0 sel (u8 a) (u8 a)=True:=by simp[wk0,u8,AV.closed]
theorem Yc{a:UInt32}:wk0 sel (u32 a) (u32 a)=True:=by simp[wk0,u32,AV.closed]
theorem Ac8{a:UInt64}:wk0 sel (u64 a) (u64 a)=True:=by simp[wk0,u64,AV.closed]
theorem Ub{a:Bool}:wk0 sel (.bool a) (.bool a)=True:=by simp[wk0,AV.closed]
theorem Acq{a:List UInt8}:wk0 sel (.str a) (.str a)=True:=by simp[wk0,AV.closed]
theorem WX{f:FuncId}:wk0 sel (.fn f [.ref i o]) (.fn f [.ref i' o])=(sel[i']?=some i):=by
 refine propext ⟨fun h=>?_,fun h=>.inr ⟨rfl,⟨h,rfl⟩,trivial⟩⟩;rcases h with⟨_,h⟩|⟨_,⟨h,_⟩,_⟩
 ·simp[AV.closed]at h
 ·exact h
theorem Ada{f:FuncId}:wk1 sel (.fn f [.ref i o]) (.fn f [.ref i' o])=(sel[i']?=some i):=WX
theorem Ago{f f':Bool}{a b:List (List AV)}:wk0 sel (.sl f a) (.sl f' b)=((f'=true→f=true)∧a=b):=rfl
theorem Af1{f f':Bool}{i t o l i' t' o' l':Nat}:wk0 sel (.bs f i t o l) (.bs f' i' t' o' l')=(sel[i']?=some i∧(f'=true→f=true)∧t=t'∧o=o'∧l=l'):=rfl
theorem AcP:wk0 sel (.ref i o) (.ref i' o')=(sel[i']?=some i∧o=o'):=rfl
theorem Xe{cs cs':List AV}{ro ro':Bool}:Qf sel (.box cs ro) (.box cs' ro')=(ro=ro'∧wkL sel cs cs'):=rfl
theorem XP{k k':Nat}{els els':List (List AV)}{ro ro':Bool}:Qf sel (.buf k els ro) (.buf k' els' ro')=(k=k'∧ro=ro'∧els=els'∧B7 els'=true):=rfl
end
def SC(E:Env)(t:TypeId):Bool:=match E.tab t with
 | some d=>match d.desc with
  | .slice e=>match E.tab e with
   |some de=>match de.desc with
    |.int .u8=>true
    |_=>false
   |none=>false
  |_=>false
 |none=>false
def AdA(E:Env)(t:TypeId):Bool:=match E.tab t with
 |some d=>match d.desc with
  |.string=>true
  |_=>false
 |none=>false
theorem NK{s d:TypeId}{l:List UInt8}(hs:AdA E s=true)(hd:SC E d=true):B5 E σ s d (.str l)=some (.bs false σ.length l.length 0 l.length,σ++[.buf 1 (L cU8 l) false]):=by
 unfold SC at hd;unfold AdA at hs;split at hd<;>try cases hd
 rename_i sd hsd;split at hd<;>try cases hd
 rename_i e he;split at hd<;>try cases hd
 rename_i de hde;split at hd<;>try cases hd
 rename_i hu;split at hs<;>try cases hs
 rename_i dd hdd;unfold B5;simp only[hsd,hdd,he,hde,hu];rfl
theorem ob_s{a b:Bool}:(some a==some b)=(a==b):=rfl
theorem ob_n{b:Bool}:((none:Option Bool)==some b)=false:=rfl
attribute [go_sem] ob_s ob_n
attribute [go_sem] WX Ada ZK YT YC YN AaS ZE AdR Aex Acu Aa0 AeX AfY Ae9 Ad0 Adq Abt AcF XH Yc Ac8 Ub Acq Ago Af1 AcP Xe XP Us wkL AeB NK SC AdA
attribute [go_sem] List.getElem?_cons_zero List.getElem?_cons_succ List.set_cons_zero List.set_cons_succ List.length_cons List.length_nil List.cons_append List.nil_append List.append_nil List.map_cons List.map_nil List.flatMap_cons List.flatMap_nil List.all_cons List.all_nil List.drop_zero List.drop_succ_cons List.drop_nil List.take_zero List.take_succ_cons List.take_nil List.length_append List.length_set List.length_replicate List.take_length List.replicate_zero List.replicate_succ Option.map_some Option.map_none Option.bind_some Option.bind_none Option.isSome_some Option.getD_some Option.some.injEq Prod.mk.injEq Bool.true_and Bool.false_and Bool.and_true Bool.and_false Bool.and_self Bool.not_true Bool.not_false Bool.true_or Bool.false_or and_true true_and and_self and_false false_and or_true true_or or_false false_or implies_true not_true_eq_false not_false_eq_true ne_eq imp_self false_imp_iff decide_true decide_false Bool.false_eq_true Nat.zero_add Nat.add_zero Nat.sub_zero Nat.mul_one eq_self List.cons_ne_nil reduceCtorEq beq_self_eq_true List.mem_cons List.not_mem_nil forall_eq_or_imp forall_eq
end Go.Rv
