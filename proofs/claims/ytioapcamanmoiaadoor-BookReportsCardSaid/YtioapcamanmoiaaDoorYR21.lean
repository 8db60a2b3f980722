/-
  Part 21.
-/
import Derived.Test.YtioapcamanmoiaaDoorYR20
namespace Go.Rv
set_option linter.unusedVariables false
set_option linter.unusedSimpArgs false
variable {E : Env}
theorem Pn (hE : E.Ok) {m n id : Nat} {l : List Oper} {fr fr' : Fr} {σ σ' : An} {K : Dt} (ts : List Nat) (h : ∃ orc,Oq E.toBase orc∧R6 E orc false n l ts (fr,σ) = some (fr',σ'))
  {y : Code} (hk : Run E m y ⟨Aq n fr',σ'⟩ K) : Run E m (.seq (.region id l.toArray false) y) ⟨Aq n fr,σ⟩ K:=by
 obtain ⟨orc,hO,h⟩:=h
 exact Ady hE hO ts h hk
theorem Up (hE : E.Ok) (hP : E.P.follows .mixedOrders = true) {m n id : Nat} {l : List Oper} (T : List (List Nat)) (hok1 : Ho l.toArray T = true) (hok2 : Ke E l.toArray T = true) {fr fr' : Fr} {σ σ' : An} {K : Dt} (ts : List Nat)
  (h : ∃ orc,Oq E.toBase orc∧R6 E orc true n l ts (fr,σ) = some (fr',σ')) {y : Code} (hk : Run E m y ⟨Aq n fr',σ'⟩ K) : Run E m (.seq (.region id l.toArray true) y) ⟨Aq n fr,σ⟩ K:=by
 obtain ⟨orc,hO,h⟩:=h
 exact Adg hE hO hP T hok1 hok2 ts h hk
def Aaa (E : Env) (n : Nat) (K : Dt) : Prop:=∀ st st',Weak E n st st'→K .normal st'→K .normal st
theorem On {n : Nat} {y : Code} {K : Dt} : Aaa E n (Aei E n y K):=fun st st' h k => Gb h k
theorem Ua {n : Nat} {V : Type} {S : V→St} {J : V→Prop} {K : Dt} : Aaa E n (AaE E n S J K):=fun st st' h k => by
 obtain ⟨v,hv,hw⟩:=k
 exact ⟨v,hv,h.trans hw⟩
theorem Ain {n : Nat} {V X : Type} {S : V→St} {o : V ⊕ X} {K : Dt} : Aaa E n (lpK E n S o K):=fun st st' h k => by
 obtain ⟨v,hv,hw⟩:=k
 exact ⟨v,hv,h.trans hw⟩
theorem Pz {n i : Nat} {K : Dt} (h : Aaa E n K) : Aaa E n (Lv i K):=h
theorem Su {n : Nat} {K : Dt} (h : Aaa E n K) : Aaa E n (AnB K):=h
theorem Rd (hE : E.Ok) {m n id : Nat} {l : List Oper} {fr fr' : Fr} {σ σ' : An} {K : Dt} (hw : Aaa E m K) (ts : List Nat) (h : ∃ orc,Oq E.toBase orc∧R6 E orc false n l ts (fr,σ) = some (fr',σ'))
  (hk : K .normal ⟨Aq n fr',σ'⟩) : Run E m (.region id l.toArray false) ⟨Aq n fr,σ⟩ K:=by
 obtain ⟨orc,hO,h⟩:=h
 simp only [R6,Option.bind_eq_some_iff,Option.some.injEq,Prod.mk.injEq] at h
 obtain ⟨⟨fr1,σ1⟩,h1,rfl,rfl⟩:=h
 exact Agj hE hO h1 (hw _ _ (Hc _ _ _ _ _) hk)
theorem Ae0 (hE : E.Ok) (hP : E.P.follows .mixedOrders = true) {m n id : Nat} {l : List Oper} (T : List (List Nat)) (hok1 : Ho l.toArray T = true) (hok2 : Ke E l.toArray T = true) {fr fr' : Fr} {σ σ' : An} {K : Dt} (hw : Aaa E m K) (ts : List Nat)
  (h : ∃ orc,Oq E.toBase orc∧R6 E orc true n l ts (fr,σ) = some (fr',σ')) (hk : K .normal ⟨Aq n fr',σ'⟩) : Run E m (.region id l.toArray true) ⟨Aq n fr,σ⟩ K:=by
 obtain ⟨orc,hO,h⟩:=h
 simp only [R6,Option.bind_eq_some_iff,Option.some.injEq,Prod.mk.injEq] at h
 obtain ⟨⟨fr1,σ1⟩,h1,rfl,rfl⟩:=h
 exact Afw hE hO hP T hok1 hok2 h1 (hw _ _ (Hc _ _ _ _ _) hk)
section
variable {l : List AV} {f : Bool} {els : List (List AV)} {a b c d : Nat}
theorem Aml (x : Int) : (i64 x).scalar = true:=rfl
theorem AlJ (x : Int) : (i64 x).flatAgg = true:=rfl
theorem Anj (x : Int) : (i64 x).flat = true:=rfl
theorem Amb (x : Int) : Ca (i64 x) = []:=rfl
theorem Anf (x : Int) : Ca (.agg (i64 x :: l)) = Ca (.agg l):=rfl
theorem AoB (x : UInt8) : (u8 x).scalar = true:=rfl
theorem Aq4 (x : UInt8) : (u8 x).flatAgg = true:=rfl
theorem Aqv (x : UInt8) : (u8 x).flat = true:=rfl
theorem Arx (x : UInt8) : Ca (u8 x) = []:=rfl
theorem Aqf (x : UInt8) : Ca (.agg (u8 x :: l)) = Ca (.agg l):=rfl
theorem Amm (x : UInt16) : (u16 x).scalar = true:=rfl
theorem AlH (x : UInt16) : (u16 x).flatAgg = true:=rfl
theorem Amh (x : UInt16) : (u16 x).flat = true:=rfl
theorem AlL (x : UInt16) : Ca (u16 x) = []:=rfl
theorem AmQ (x : UInt16) : Ca (.agg (u16 x :: l)) = Ca (.agg l):=rfl
theorem AmY (x : UInt32) : (u32 x).scalar = true:=rfl
theorem AnP (x : UInt32) : (u32 x).flatAgg = true:=rfl
theorem AnL (x : UInt32) : (u32 x).flat = true:=rfl
theorem Am7 (x : UInt32) : Ca (u32 x) = []:=rfl
theorem AnE (x : UInt32) : Ca (.agg (u32 x :: l)) = Ca (.agg l):=rfl
theorem AnU (x : UInt64) : (u64 x).scalar = true:=rfl
theorem An0 (x : UInt64) : (u64 x).flatAgg = true:=rfl
theorem Ana (x : UInt64) : (u64 x).flat = true:=rfl
theorem Ani (x : UInt64) : Ca (u64 x) = []:=rfl
theorem AmF (x : UInt64) : Ca (.agg (u64 x :: l)) = Ca (.agg l):=rfl
theorem All (x : Bool) : (AV.bool x).scalar = true:=rfl
theorem Ajq (x : Bool) : (AV.bool x).flatAgg = true:=rfl
theorem Aj5 (x : Bool) : (AV.bool x).flat = true:=rfl
theorem AkO (x : Bool) : Ca (AV.bool x) = []:=rfl
theorem AjX (x : Bool) : Ca (.agg (AV.bool x :: l)) = Ca (.agg l):=rfl
theorem Ami (x : List UInt8) : (AV.str x).scalar = true:=rfl
theorem Ams (x : List UInt8) : (AV.str x).flatAgg = true:=rfl
theorem Ans (x : List UInt8) : (AV.str x).flat = true:=rfl
theorem Am3 (x : List UInt8) : Ca (AV.str x) = []:=rfl
theorem Amd (x : List UInt8) : Ca (.agg (AV.str x :: l)) = Ca (.agg l):=rfl
theorem Art : (AV.sl f els).scalar = false:=rfl
theorem AqU : (AV.bs f a b c d).scalar = false:=rfl
theorem AnC : (AV.agg l).scalar = l.all AV.flat:=rfl
theorem Amj : (AV.tup l).scalar = l.all AV.flatAgg:=rfl
theorem AqQ : (AV.sl f els).flatAgg = false:=rfl
theorem Aoh : (AV.bs f a b c d).flatAgg = false:=rfl
theorem AlY : (AV.agg l).flatAgg = l.all AV.flat:=rfl
theorem Aox : (AV.sl f els).flat = false:=rfl
theorem AqE : (AV.bs f a b c d).flat = false:=rfl
theorem Apk : Ca (.sl f els) = []:=rfl
theorem Arz : Ca (.bs f a b c d) = [a]:=rfl
theorem ApG {g : FuncId} : Ca (.fn g l) = []:=rfl
theorem AmB : Ca (.ref a b) = []:=rfl
theorem Aly : Ca (.tref a b) = []:=rfl
theorem AjI : Ca (.nref a) = []:=rfl
theorem Aj8 : Ca (.mref a) = []:=rfl
theorem Amp : Ca (.tup l) = []:=rfl
theorem Akj : Ca .junk = []:=rfl
theorem AlM : Ca (.agg []) = []:=rfl
theorem ApZ : Ca (.agg (.sl f els :: l)) = Ca (.agg l):=rfl
theorem AoX : Ca (.agg (.bs f a b c d :: l)) = a :: Ca (.agg l):=rfl
end
theorem Ajt {α : Type} {l m : List α} : (ovl l (m.take (min m.length l.length)) 0).length = l.length:=by
 simp [ovl];omega
attribute [go_sem] Ajt
theorem Y3 {m n : Nat} (h : InR (m : Int) n) : m < n:=by have:=h.2;simpa using this
attribute [go_sem] AjI Aj8 Aly Aml AlJ Anj Amb Anf AoB Aq4 Aqv Arx Aqf Amm AlH Amh AlL AmQ AmY AnP AnL Am7 AnE AnU An0 Ana Ani AmF All Ajq Aj5 AkO AjX Ami Ams Ans Am3 Amd Art AqU AnC Amj AqQ Aoh AlY Aox AqE Apk Arz ApG AmB Amp Akj AlM ApZ AoX
section
variable {sel : List Nat}
theorem AjD {a : Int} : wk1 sel (i64 a) (i64 a) = True:=by simp [wk1,wk0,i64,AV.closed]
theorem Ane {a : UInt8} : wk1 sel (u8 a) (u8 a) = True:=by simp [wk1,wk0,u8,AV.closed]
theorem Ajz {a : UInt64} : wk1 sel (u64 a) (u64 a) = True:=by simp [wk1,wk0,u64,AV.closed]
theorem AiO {a : Bool} : wk1 sel (.bool a) (.bool a) = True:=by simp [wk1,wk0,AV.closed]
theorem Anu {f : FuncId} : wk1 sel (.fn f []) (.fn f []) = True:=by simp [wk1,wk0,AV.closed]
theorem Anm {f f' : Bool} {a b : List (List AV)} : wk1 sel (.sl f a) (.sl f' b) = ((f' = true→f = true)∧a = b):=rfl
theorem AmN {f f' : Bool} {i t o l i' t' o' l' : Nat} : wk1 sel (.bs f i t o l) (.bs f' i' t' o' l') = (sel[i']? = some i∧(f' = true→f = true)∧t = t'∧o = o'∧l = l'):=rfl
theorem AhC {i i' : Nat} : wk1 sel (.mref i) (.mref i') = (sel[i']? = some i):=rfl
theorem AiR {i i' : Nat} : wk0 sel (.mref i) (.mref i') = (sel[i']? = some i):=rfl
theorem AiA {i i' : Nat} : wk1 sel (.nref i) (.nref i') = (sel[i']? = some i):=rfl
theorem AhY {i i' : Nat} : wk0 sel (.nref i) (.nref i') = (sel[i']? = some i):=rfl
theorem Aig {i o i' o' : Nat} : wk1 sel (.tref i o) (.tref i' o') = (sel[i']? = some i∧o = o'):=rfl
theorem Ah3 {i o i' o' : Nat} : wk0 sel (.tref i o) (.tref i' o') = (sel[i']? = some i∧o = o'):=rfl
theorem Ak3 {i o i' o' : Nat} : wk1 sel (.ref i o) (.ref i' o') = (sel[i']? = some i∧o = o'):=rfl
theorem Alx {a b : List AV} : wk1 sel (.agg a) (.agg b) = wkL sel a b:=rfl
theorem Aj6 {a b : List AV} : wk1 sel (.tup a) (.tup b) = wkL sel a b:=rfl
theorem Akl {a : Int} : wk0 sel (i64 a) (i64 a) = True:=by simp [wk0,i64,AV.closed]
theorem AgB {a : UInt8} : wk0 sel (u8 a) (u8 a) = True:=by simp [wk0,u8,AV.closed]
theorem Afy {a : UInt32} : wk0 sel (u32 a) (u32 a) = True:=by simp [wk0,u32,AV.closed]
theorem Ak8 {a : UInt64} : wk0 sel (u64 a) (u64 a) = True:=by simp [wk0,u64,AV.closed]
theorem AdD {a : Bool} : wk0 sel (.bool a) (.bool a) = True:=by simp [wk0,AV.closed]
theorem Aj9 {a : List UInt8} : wk0 sel (.str a) (.str a) = True:=by simp [wk0,AV.closed]
theorem AgV {f : FuncId} {i o i' : Nat} : wk0 sel (.fn f [.ref i o]) (.fn f [.ref i' o]) = (sel[i']? = some i):=by
 refine propext ⟨fun h => ?_,fun h => .inr ⟨rfl,⟨h,rfl⟩,trivial⟩⟩
 rcases h with ⟨_,h⟩ | ⟨_,⟨h,_⟩,_⟩
 ·simp [AV.closed] at h
 ·exact h
theorem AkJ {f : FuncId} {i o i' : Nat} : wk1 sel (.fn f [.ref i o]) (.fn f [.ref i' o]) = (sel[i']? = some i):=AgV
theorem Ank {f f' : Bool} {a b : List (List AV)} : wk0 sel (.sl f a) (.sl f' b) = ((f' = true→f = true)∧a = b):=rfl
theorem Am4 {f f' : Bool} {i t o l i' t' o' l' : Nat} : wk0 sel (.bs f i t o l) (.bs f' i' t' o' l') = (sel[i']? = some i∧(f' = true→f = true)∧t = t'∧o = o'∧l = l'):=rfl
theorem AkN {i o i' o' : Nat} : wk0 sel (.ref i o) (.ref i' o') = (sel[i']? = some i∧o = o'):=rfl
theorem AfA {cs cs' : List AV} {ro ro' : Bool} : Aad sel (.box cs ro) (.box cs' ro') = (ro = ro'∧wkL sel cs cs'):=rfl
theorem Ahe {k k' : Nat} {els els' : List (List AV)} {ro ro' : Bool} : Aad sel (.buf k els ro) (.buf k' els' ro') = (k = k'∧ro = ro'∧els = els'∧B9 els' = true):=rfl
end
def Acv (E : Env) (t : TypeId) : Bool:=match E.tab t with
 | some d => match d.desc with
  | .slice e => match E.tab e with
   | some de => match de.desc with
    | .int .u8 => true
    | _ => false
   | none => false
  | _ => false
 | none => false
def Alz (E : Env) (t : TypeId) : Bool:=match E.tab t with
 | some d => match d.desc with
  | .string => true
  | _ => false
 | none => false
theorem Wh {σ : An} {s d : TypeId} {l : List UInt8} (hs : Alz E s = true) (hd : Acv E d = true) : B5 E σ s d (.str l) = some (.bs false σ.length l.length 0 l.length,σ ++ [.buf 1 (L cU8 l) false]):=by
 unfold Acv at hd
 unfold Alz at hs
 split at hd <;> try cases hd
 rename_i sd hsd
 split at hd <;> try cases hd
 rename_i e he
 split at hd <;> try cases hd
 rename_i de hde
 split at hd <;> try cases hd
 rename_i hu
 split at hs <;> try cases hs
 rename_i dd hdd
 unfold B5
 simp only [hsd,hdd,he,hde,hu]
 rfl
theorem ob_s {a b : Bool} : (some a == some b) = (a == b):=rfl
theorem ob_n {b : Bool} : ((none : Option Bool) == some b) = false:=rfl
attribute [go_sem] ob_s ob_n
attribute [go_sem] AgV AkJ AiA AhY AhC AiR Aig Ah3 AjD Ane Ajz AiO Anu Anm AmN Ak3 Alx Aj6 Akl AgB Afy Ak8 AdD Aj9 Ank Am4 AkN AfA Ahe Adn wkL Anp Wh Acv Alz
attribute [go_sem] List.getElem?_cons_zero List.getElem?_cons_succ List.set_cons_zero List.set_cons_succ List.length_cons List.length_nil List.cons_append List.nil_append List.append_nil List.map_cons List.map_nil List.flatMap_cons List.flatMap_nil List.all_cons List.all_nil List.drop_zero List.drop_succ_cons List.drop_nil List.take_zero List.take_succ_cons List.take_nil List.length_append List.length_set List.length_replicate List.take_length List.replicate_zero List.replicate_succ Option.map_some Option.map_none Option.bind_some Option.bind_none Option.isSome_some Option.getD_some Option.some.injEq Prod.mk.injEq Bool.true_and Bool.false_and Bool.and_true Bool.and_false Bool.and_self Bool.not_true Bool.not_false Bool.true_or Bool.false_or and_true true_and and_self and_false false_and or_true true_or or_false false_or implies_true not_true_eq_false not_false_eq_true ne_eq imp_self false_imp_iff decide_true decide_false Bool.false_eq_true Nat.zero_add Nat.add_zero Nat.sub_zero Nat.mul_one eq_self List.cons_ne_nil reduceCtorEq beq_self_eq_true List.mem_cons List.not_mem_nil forall_eq_or_imp forall_eq
end Go.Rv
