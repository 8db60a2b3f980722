/-
  Part 21.
-/
import Derived.Test.YtioapcamanmoiaaDoorYR20
namespace Go.Rv
set_option linter.unusedVariables false
set_option linter.unusedSimpArgs false
variable {E : Env}
theorem Pw (hE : E.Ok) {m n id : Nat} {l : List Oper} {fr fr' : Fr} {σ σ' : An} {K : Dt} (ts : List Nat) (h : ∃ orc,N5 E.toBase orc∧R8 E orc false n l ts (fr,σ) = some (fr',σ'))
  {y : Code} (hk : Run E m y ⟨Aq n fr',σ'⟩ K) : Run E m (.seq (.region id l.toArray false) y) ⟨Aq n fr,σ⟩ K:=by
 obtain ⟨orc,hO,h⟩:=h
 exact AdD hE hO ts h hk
theorem T8 (hE : E.Ok) (hP : E.P.follows .mixedOrders = true) {m n id : Nat} {l : List Oper} (T : List (List Nat)) (hok1 : Hk l.toArray T = true) (hok2 : Ka E l.toArray T = true) {fr fr' : Fr} {σ σ' : An} {K : Dt} (ts : List Nat)
  (h : ∃ orc,N5 E.toBase orc∧R8 E orc true n l ts (fr,σ) = some (fr',σ')) {y : Code} (hk : Run E m y ⟨Aq n fr',σ'⟩ K) : Run E m (.seq (.region id l.toArray true) y) ⟨Aq n fr,σ⟩ K:=by
 obtain ⟨orc,hO,h⟩:=h
 exact AdM hE hO hP T hok1 hok2 ts h hk
def Z8 (E : Env) (n : Nat) (K : Dt) : Prop:=∀ st st',Weak E n st st'→K .normal st'→K .normal st
theorem Oi {n : Nat} {y : Code} {K : Dt} : Z8 E n (AeE E n y K):=fun st st' h k => Ga h k
theorem Vo {n : Nat} {V : Type} {S : V→St} {J : V→Prop} {K : Dt} : Z8 E n (AaT E n S J K):=fun st st' h k => by
 obtain ⟨v,hv,hw⟩:=k
 exact ⟨v,hv,h.trans hw⟩
theorem Ahg {n : Nat} {V X : Type} {S : V→St} {o : V ⊕ X} {K : Dt} : Z8 E n (lpK E n S o K):=fun st st' h k => by
 obtain ⟨v,hv,hw⟩:=k
 exact ⟨v,hv,h.trans hw⟩
theorem Pc {n i : Nat} {K : Dt} (h : Z8 E n K) : Z8 E n (Lp i K):=h
theorem Sm {n : Nat} {K : Dt} (h : Z8 E n K) : Z8 E n (Al2 K):=h
theorem P6 (hE : E.Ok) {m n id : Nat} {l : List Oper} {fr fr' : Fr} {σ σ' : An} {K : Dt} (hw : Z8 E m K) (ts : List Nat) (h : ∃ orc,N5 E.toBase orc∧R8 E orc false n l ts (fr,σ) = some (fr',σ'))
  (hk : K .normal ⟨Aq n fr',σ'⟩) : Run E m (.region id l.toArray false) ⟨Aq n fr,σ⟩ K:=by
 obtain ⟨orc,hO,h⟩:=h
 simp only [R8,Option.bind_eq_some_iff,Option.some.injEq,Prod.mk.injEq] at h
 obtain ⟨⟨fr1,σ1⟩,h1,rfl,rfl⟩:=h
 exact Ag5 hE hO h1 (hw _ _ (Hf _ _ _ _ _) hk)
theorem Afd (hE : E.Ok) (hP : E.P.follows .mixedOrders = true) {m n id : Nat} {l : List Oper} (T : List (List Nat)) (hok1 : Hk l.toArray T = true) (hok2 : Ka E l.toArray T = true) {fr fr' : Fr} {σ σ' : An} {K : Dt} (hw : Z8 E m K) (ts : List Nat)
  (h : ∃ orc,N5 E.toBase orc∧R8 E orc true n l ts (fr,σ) = some (fr',σ')) (hk : K .normal ⟨Aq n fr',σ'⟩) : Run E m (.region id l.toArray true) ⟨Aq n fr,σ⟩ K:=by
 obtain ⟨orc,hO,h⟩:=h
 simp only [R8,Option.bind_eq_some_iff,Option.some.injEq,Prod.mk.injEq] at h
 obtain ⟨⟨fr1,σ1⟩,h1,rfl,rfl⟩:=h
 exact AgW hE hO hP T hok1 hok2 h1 (hw _ _ (Hf _ _ _ _ _) hk)
section
variable {l : List AV} {f : Bool} {els : List (List AV)} {a b c d : Nat}
theorem Al6 (x : Int) : (i64 x).scalar = true:=rfl
theorem AlL (x : Int) : (i64 x).flatAgg = true:=rfl
theorem AnL (x : Int) : (i64 x).flat = true:=rfl
theorem AnC (x : Int) : Ca (i64 x) = []:=rfl
theorem Amd (x : Int) : Ca (.agg (i64 x :: l)) = Ca (.agg l):=rfl
theorem ApU (x : UInt8) : (u8 x).scalar = true:=rfl
theorem AoQ (x : UInt8) : (u8 x).flatAgg = true:=rfl
theorem AoL (x : UInt8) : (u8 x).flat = true:=rfl
theorem Apf (x : UInt8) : Ca (u8 x) = []:=rfl
theorem AoW (x : UInt8) : Ca (.agg (u8 x :: l)) = Ca (.agg l):=rfl
theorem Ano (x : UInt16) : (u16 x).scalar = true:=rfl
theorem AlU (x : UInt16) : (u16 x).flatAgg = true:=rfl
theorem AnJ (x : UInt16) : (u16 x).flat = true:=rfl
theorem AnX (x : UInt16) : Ca (u16 x) = []:=rfl
theorem AnE (x : UInt16) : Ca (.agg (u16 x :: l)) = Ca (.agg l):=rfl
theorem AlV (x : UInt32) : (u32 x).scalar = true:=rfl
theorem Ant (x : UInt32) : (u32 x).flatAgg = true:=rfl
theorem Anr (x : UInt32) : (u32 x).flat = true:=rfl
theorem Amh (x : UInt32) : Ca (u32 x) = []:=rfl
theorem Am6 (x : UInt32) : Ca (.agg (u32 x :: l)) = Ca (.agg l):=rfl
theorem AlW (x : UInt64) : (u64 x).scalar = true:=rfl
theorem Am3 (x : UInt64) : (u64 x).flatAgg = true:=rfl
theorem AnV (x : UInt64) : (u64 x).flat = true:=rfl
theorem AmA (x : UInt64) : Ca (u64 x) = []:=rfl
theorem Am7 (x : UInt64) : Ca (.agg (u64 x :: l)) = Ca (.agg l):=rfl
theorem AjZ (x : Bool) : (AV.bool x).scalar = true:=rfl
theorem Ald (x : Bool) : (AV.bool x).flatAgg = true:=rfl
theorem Akg (x : Bool) : (AV.bool x).flat = true:=rfl
theorem AkY (x : Bool) : Ca (AV.bool x) = []:=rfl
theorem Aka (x : Bool) : Ca (.agg (AV.bool x :: l)) = Ca (.agg l):=rfl
theorem Am1 (x : List UInt8) : (AV.str x).scalar = true:=rfl
theorem AmV (x : List UInt8) : (AV.str x).flatAgg = true:=rfl
theorem AmU (x : List UInt8) : (AV.str x).flat = true:=rfl
theorem AnB (x : List UInt8) : Ca (AV.str x) = []:=rfl
theorem Anv (x : List UInt8) : Ca (.agg (AV.str x :: l)) = Ca (.agg l):=rfl
theorem Ary : (AV.sl f els).scalar = false:=rfl
theorem App : (AV.bs f a b c d).scalar = false:=rfl
theorem Am2 : (AV.agg l).scalar = l.all AV.flat:=rfl
theorem Ani : (AV.tup l).scalar = l.all AV.flatAgg:=rfl
theorem ApT : (AV.sl f els).flatAgg = false:=rfl
theorem Aqc : (AV.bs f a b c d).flatAgg = false:=rfl
theorem Amz : (AV.agg l).flatAgg = l.all AV.flat:=rfl
theorem AqX : (AV.sl f els).flat = false:=rfl
theorem Apq : (AV.bs f a b c d).flat = false:=rfl
theorem Aps : Ca (.sl f els) = []:=rfl
theorem Apx : Ca (.bs f a b c d) = [a]:=rfl
theorem Ars {g : FuncId} : Ca (.fn g l) = []:=rfl
theorem AnK : Ca (.ref a b) = []:=rfl
theorem AkX : Ca (.tref a b) = []:=rfl
theorem AkC : Ca (.nref a) = []:=rfl
theorem Ake : Ca (.mref a) = []:=rfl
theorem Amx : Ca (.tup l) = []:=rfl
theorem Alm : Ca .junk = []:=rfl
theorem Amc : Ca (.agg []) = []:=rfl
theorem Aqy : Ca (.agg (.sl f els :: l)) = Ca (.agg l):=rfl
theorem Apl : Ca (.agg (.bs f a b c d :: l)) = a :: Ca (.agg l):=rfl
end
theorem Ajr {α : Type} {l m : List α} : (ovl l (m.take (min m.length l.length)) 0).length = l.length:=by
 simp [ovl];omega
attribute [go_sem] Ajr
theorem Y2 {m n : Nat} (h : InR (m : Int) n) : m < n:=by have:=h.2;simpa using this
attribute [go_sem] AkC Ake AkX Al6 AlL AnL AnC Amd ApU AoQ AoL Apf AoW Ano AlU AnJ AnX AnE AlV Ant Anr Amh Am6 AlW Am3 AnV AmA Am7 AjZ Ald Akg AkY Aka Am1 AmV AmU AnB Anv Ary App Am2 Ani ApT Aqc Amz AqX Apq Aps Apx Ars AnK Amx Alm Amc Aqy Apl
section
variable {sel : List Nat}
theorem AkK {a : Int} : wk1 sel (i64 a) (i64 a) = True:=by simp [wk1,wk0,i64,AV.closed]
theorem Al4 {a : UInt8} : wk1 sel (u8 a) (u8 a) = True:=by simp [wk1,wk0,u8,AV.closed]
theorem Alf {a : UInt64} : wk1 sel (u64 a) (u64 a) = True:=by simp [wk1,wk0,u64,AV.closed]
theorem Ais {a : Bool} : wk1 sel (.bool a) (.bool a) = True:=by simp [wk1,wk0,AV.closed]
theorem AlZ {f : FuncId} : wk1 sel (.fn f []) (.fn f []) = True:=by simp [wk1,wk0,AV.closed]
theorem Amv {f f' : Bool} {a b : List (List AV)} : wk1 sel (.sl f a) (.sl f' b) = ((f' = true→f = true)∧a = b):=rfl
theorem Am8 {f f' : Bool} {i t o l i' t' o' l' : Nat} : wk1 sel (.bs f i t o l) (.bs f' i' t' o' l') = (sel[i']? = some i∧(f' = true→f = true)∧t = t'∧o = o'∧l = l'):=rfl
theorem AiL {i i' : Nat} : wk1 sel (.mref i) (.mref i') = (sel[i']? = some i):=rfl
theorem Aiw {i i' : Nat} : wk0 sel (.mref i) (.mref i') = (sel[i']? = some i):=rfl
theorem AhC {i i' : Nat} : wk1 sel (.nref i) (.nref i') = (sel[i']? = some i):=rfl
theorem AiC {i i' : Nat} : wk0 sel (.nref i) (.nref i') = (sel[i']? = some i):=rfl
theorem Aij {i o i' o' : Nat} : wk1 sel (.tref i o) (.tref i' o') = (sel[i']? = some i∧o = o'):=rfl
theorem AiG {i o i' o' : Nat} : wk0 sel (.tref i o) (.tref i' o') = (sel[i']? = some i∧o = o'):=rfl
theorem Akz {i o i' o' : Nat} : wk1 sel (.ref i o) (.ref i' o') = (sel[i']? = some i∧o = o'):=rfl
theorem Alj {a b : List AV} : wk1 sel (.agg a) (.agg b) = wkL sel a b:=rfl
theorem Ajy {a b : List AV} : wk1 sel (.tup a) (.tup b) = wkL sel a b:=rfl
theorem Aj6 {a : Int} : wk0 sel (i64 a) (i64 a) = True:=by simp [wk0,i64,AV.closed]
theorem AgC {a : UInt8} : wk0 sel (u8 a) (u8 a) = True:=by simp [wk0,u8,AV.closed]
theorem Ag2 {a : UInt32} : wk0 sel (u32 a) (u32 a) = True:=by simp [wk0,u32,AV.closed]
theorem Ak0 {a : UInt64} : wk0 sel (u64 a) (u64 a) = True:=by simp [wk0,u64,AV.closed]
theorem Adx {a : Bool} : wk0 sel (.bool a) (.bool a) = True:=by simp [wk0,AV.closed]
theorem Ajz {a : List UInt8} : wk0 sel (.str a) (.str a) = True:=by simp [wk0,AV.closed]
theorem Af4 {f : FuncId} {i o i' : Nat} : wk0 sel (.fn f [.ref i o]) (.fn f [.ref i' o]) = (sel[i']? = some i):=by
 refine propext ⟨fun h => ?_,fun h => .inr ⟨rfl,⟨h,rfl⟩,trivial⟩⟩
 rcases h with ⟨_,h⟩ | ⟨_,⟨h,_⟩,_⟩
 ·simp [AV.closed] at h
 ·exact h
theorem Alk {f : FuncId} {i o i' : Nat} : wk1 sel (.fn f [.ref i o]) (.fn f [.ref i' o]) = (sel[i']? = some i):=Af4
theorem Anq {f f' : Bool} {a b : List (List AV)} : wk0 sel (.sl f a) (.sl f' b) = ((f' = true→f = true)∧a = b):=rfl
theorem Al1 {f f' : Bool} {i t o l i' t' o' l' : Nat} : wk0 sel (.bs f i t o l) (.bs f' i' t' o' l') = (sel[i']? = some i∧(f' = true→f = true)∧t = t'∧o = o'∧l = l'):=rfl
theorem AjC {i o i' o' : Nat} : wk0 sel (.ref i o) (.ref i' o') = (sel[i']? = some i∧o = o'):=rfl
theorem Af6 {cs cs' : List AV} {ro ro' : Bool} : Aax sel (.box cs ro) (.box cs' ro') = (ro = ro'∧wkL sel cs cs'):=rfl
theorem AfM {k k' : Nat} {els els' : List (List AV)} {ro ro' : Bool} : Aax sel (.buf k els ro) (.buf k' els' ro') = (k = k'∧ro = ro'∧els = els'∧B9 els' = true):=rfl
end
def Ab6 (E : Env) (t : TypeId) : Bool:=match E.tab t with
 | some d => match d.desc with
  | .slice e => match E.tab e with
   | some de => match de.desc with
    | .int .u8 => true
    | _ => false
   | none => false
  | _ => false
 | none => false
def AjR (E : Env) (t : TypeId) : Bool:=match E.tab t with
 | some d => match d.desc with
  | .string => true
  | _ => false
 | none => false
theorem Wg {σ : An} {s d : TypeId} {l : List UInt8} (hs : AjR E s = true) (hd : Ab6 E d = true) : B6 E σ s d (.str l) = some (.bs false σ.length l.length 0 l.length,σ ++ [.buf 1 (L cU8 l) false]):=by
 unfold Ab6 at hd
 unfold AjR at hs
 split at hd <;> try cases hd
 rename_i sd hsd
 split at hd <;> try cases hd
 rename_i e he
 split at hd <;> try cases hd
 rename_i de hde
 split at hd <;> try cases hd
 rename_i hu
 split at hs <;> try cases hs
 rename_i dd hdd
 unfold B6
 simp only [hsd,hdd,he,hde,hu]
 rfl
theorem ob_s {a b : Bool} : (some a == some b) = (a == b):=rfl
theorem ob_n {b : Bool} : ((none : Option Bool) == some b) = false:=rfl
attribute [go_sem] ob_s ob_n
attribute [go_sem] Af4 Alk AhC AiC AiL Aiw Aij AiG AkK Al4 Alf Ais AlZ Amv Am8 Akz Alj Ajy Aj6 AgC Ag2 Ak0 Adx Ajz Anq Al1 AjC Af6 AfM Adt wkL Anl Wg Ab6 AjR
attribute [go_sem] List.getElem?_cons_zero List.getElem?_cons_succ List.set_cons_zero List.set_cons_succ List.length_cons List.length_nil List.cons_append List.nil_append List.append_nil List.map_cons List.map_nil List.flatMap_cons List.flatMap_nil List.all_cons List.all_nil List.drop_zero List.drop_succ_cons List.drop_nil List.take_zero List.take_succ_cons List.take_nil List.length_append List.length_set List.length_replicate List.take_length List.replicate_zero List.replicate_succ Option.map_some Option.map_none Option.bind_some Option.bind_none Option.isSome_some Option.getD_some Option.some.injEq Prod.mk.injEq Bool.true_and Bool.false_and Bool.and_true Bool.and_false Bool.and_self Bool.not_true Bool.not_false Bool.true_or Bool.false_or and_true true_and and_self and_false false_and or_true true_or or_false false_or implies_true not_true_eq_false not_false_eq_true ne_eq imp_self false_imp_iff decide_true decide_false Bool.false_eq_true Nat.zero_add Nat.add_zero Nat.sub_zero Nat.mul_one eq_self List.cons_ne_nil reduceCtorEq beq_self_eq_true List.mem_cons List.not_mem_nil forall_eq_or_imp forall_eq
end Go.Rv
