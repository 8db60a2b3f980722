/-
  Part 21.
-/
import Derived.Test.YtioapcamanmoiaaDoorYR20
namespace Go.Rv
set_option linter.unusedVariables false
set_option linter.unusedSimpArgs false
variable {E : Env}
theorem Pq (hE : E.Ok) {m n id : Nat} {l : List Oper} {fr fr' : Fr} {σ σ' : An} {K : Dt} (ts : List Nat) (h : ∃ orc,Ow E.toBase orc∧Se E orc false n l ts (fr,σ) = some (fr',σ'))
  {y : Code} (hk : Run E m y ⟨Aq n fr',σ'⟩ K) : Run E m (.seq (.region id l.toArray false) y) ⟨Aq n fr,σ⟩ K:=by
 obtain ⟨orc,hO,h⟩:=h
 exact AdF hE hO ts h hk
theorem Vc (hE : E.Ok) (hP : E.P.follows .mixedOrders = true) {m n id : Nat} {l : List Oper} (T : List (List Nat)) (hok1 : Hm l.toArray T = true) (hok2 : Kf E l.toArray T = true) {fr fr' : Fr} {σ σ' : An} {K : Dt} (ts : List Nat)
  (h : ∃ orc,Ow E.toBase orc∧Se E orc true n l ts (fr,σ) = some (fr',σ')) {y : Code} (hk : Run E m y ⟨Aq n fr',σ'⟩ K) : Run E m (.seq (.region id l.toArray true) y) ⟨Aq n fr,σ⟩ K:=by
 obtain ⟨orc,hO,h⟩:=h
 exact Adw hE hO hP T hok1 hok2 ts h hk
def Aaa (E : Env) (n : Nat) (K : Dt) : Prop:=∀ st st',Weak E n st st'→K .normal st'→K .normal st
theorem Oc {n : Nat} {y : Code} {K : Dt} : Aaa E n (Aem E n y K):=fun st st' h k => Gi h k
theorem Vt {n : Nat} {V : Type} {S : V→St} {J : V→Prop} {K : Dt} : Aaa E n (AaV E n S J K):=fun st st' h k => by
 obtain ⟨v,hv,hw⟩:=k
 exact ⟨v,hv,h.trans hw⟩
theorem Ah5 {n : Nat} {V X : Type} {S : V→St} {o : V ⊕ X} {K : Dt} : Aaa E n (lpK E n S o K):=fun st st' h k => by
 obtain ⟨v,hv,hw⟩:=k
 exact ⟨v,hv,h.trans hw⟩
theorem P2 {n i : Nat} {K : Dt} (h : Aaa E n K) : Aaa E n (Lu i K):=h
theorem S5 {n : Nat} {K : Dt} (h : Aaa E n K) : Aaa E n (Ame K):=h
theorem Qf (hE : E.Ok) {m n id : Nat} {l : List Oper} {fr fr' : Fr} {σ σ' : An} {K : Dt} (hw : Aaa E m K) (ts : List Nat) (h : ∃ orc,Ow E.toBase orc∧Se E orc false n l ts (fr,σ) = some (fr',σ'))
  (hk : K .normal ⟨Aq n fr',σ'⟩) : Run E m (.region id l.toArray false) ⟨Aq n fr,σ⟩ K:=by
 obtain ⟨orc,hO,h⟩:=h
 simp only [Se,Option.bind_eq_some_iff,Option.some.injEq,Prod.mk.injEq] at h
 obtain ⟨⟨fr1,σ1⟩,h1,rfl,rfl⟩:=h
 exact Agi hE hO h1 (hw _ _ (Hb _ _ _ _ _) hk)
theorem Ae2 (hE : E.Ok) (hP : E.P.follows .mixedOrders = true) {m n id : Nat} {l : List Oper} (T : List (List Nat)) (hok1 : Hm l.toArray T = true) (hok2 : Kf E l.toArray T = true) {fr fr' : Fr} {σ σ' : An} {K : Dt} (hw : Aaa E m K) (ts : List Nat)
  (h : ∃ orc,Ow E.toBase orc∧Se E orc true n l ts (fr,σ) = some (fr',σ')) (hk : K .normal ⟨Aq n fr',σ'⟩) : Run E m (.region id l.toArray true) ⟨Aq n fr,σ⟩ K:=by
 obtain ⟨orc,hO,h⟩:=h
 simp only [Se,Option.bind_eq_some_iff,Option.some.injEq,Prod.mk.injEq] at h
 obtain ⟨⟨fr1,σ1⟩,h1,rfl,rfl⟩:=h
 exact AgP hE hO hP T hok1 hok2 h1 (hw _ _ (Hb _ _ _ _ _) hk)
section
variable {l : List AV} {f : Bool} {els : List (List AV)} {a b c d : Nat}
theorem Ams (x : Int) : (i64 x).scalar = true:=rfl
theorem AlQ (x : Int) : (i64 x).flatAgg = true:=rfl
theorem Al2 (x : Int) : (i64 x).flat = true:=rfl
theorem AmE (x : Int) : Ca (i64 x) = []:=rfl
theorem AnV (x : Int) : Ca (.agg (i64 x :: l)) = Ca (.agg l):=rfl
theorem Ap5 (x : UInt8) : (u8 x).scalar = true:=rfl
theorem Arw (x : UInt8) : (u8 x).flatAgg = true:=rfl
theorem Arh (x : UInt8) : (u8 x).flat = true:=rfl
theorem Arx (x : UInt8) : Ca (u8 x) = []:=rfl
theorem Aq1 (x : UInt8) : Ca (.agg (u8 x :: l)) = Ca (.agg l):=rfl
theorem AmA (x : UInt16) : (u16 x).scalar = true:=rfl
theorem Anl (x : UInt16) : (u16 x).flatAgg = true:=rfl
theorem Aml (x : UInt16) : (u16 x).flat = true:=rfl
theorem Ana (x : UInt16) : Ca (u16 x) = []:=rfl
theorem AnF (x : UInt16) : Ca (.agg (u16 x :: l)) = Ca (.agg l):=rfl
theorem AnP (x : UInt32) : (u32 x).scalar = true:=rfl
theorem AnA (x : UInt32) : (u32 x).flatAgg = true:=rfl
theorem AmU (x : UInt32) : (u32 x).flat = true:=rfl
theorem Amv (x : UInt32) : Ca (u32 x) = []:=rfl
theorem AlH (x : UInt32) : Ca (.agg (u32 x :: l)) = Ca (.agg l):=rfl
theorem AnZ (x : UInt64) : (u64 x).scalar = true:=rfl
theorem Am1 (x : UInt64) : (u64 x).flatAgg = true:=rfl
theorem Anz (x : UInt64) : (u64 x).flat = true:=rfl
theorem Am4 (x : UInt64) : Ca (u64 x) = []:=rfl
theorem AnX (x : UInt64) : Ca (.agg (u64 x :: l)) = Ca (.agg l):=rfl
theorem Ak8 (x : Bool) : (AV.bool x).scalar = true:=rfl
theorem AjW (x : Bool) : (AV.bool x).flatAgg = true:=rfl
theorem Alq (x : Bool) : (AV.bool x).flat = true:=rfl
theorem AjU (x : Bool) : Ca (AV.bool x) = []:=rfl
theorem AjP (x : Bool) : Ca (.agg (AV.bool x :: l)) = Ca (.agg l):=rfl
theorem AnK (x : List UInt8) : (AV.str x).scalar = true:=rfl
theorem AnU (x : List UInt8) : (AV.str x).flatAgg = true:=rfl
theorem AmG (x : List UInt8) : (AV.str x).flat = true:=rfl
theorem AmW (x : List UInt8) : Ca (AV.str x) = []:=rfl
theorem AnL (x : List UInt8) : Ca (.agg (AV.str x :: l)) = Ca (.agg l):=rfl
theorem Aom : (AV.sl f els).scalar = false:=rfl
theorem Aqr : (AV.bs f a b c d).scalar = false:=rfl
theorem AlR : (AV.agg l).scalar = l.all AV.flat:=rfl
theorem Amr : (AV.tup l).scalar = l.all AV.flatAgg:=rfl
theorem Aoi : (AV.sl f els).flatAgg = false:=rfl
theorem AoA : (AV.bs f a b c d).flatAgg = false:=rfl
theorem Al6 : (AV.agg l).flatAgg = l.all AV.flat:=rfl
theorem AoQ : (AV.sl f els).flat = false:=rfl
theorem Apu : (AV.bs f a b c d).flat = false:=rfl
theorem Arq : Ca (.sl f els) = []:=rfl
theorem Aps : Ca (.bs f a b c d) = [a]:=rfl
theorem ApW {g : FuncId} : Ca (.fn g l) = []:=rfl
theorem Am0 : Ca (.ref a b) = []:=rfl
theorem All : Ca (.tref a b) = []:=rfl
theorem Aly : Ca (.nref a) = []:=rfl
theorem Akc : Ca (.mref a) = []:=rfl
theorem AmB : Ca (.tup l) = []:=rfl
theorem AjY : Ca .junk = []:=rfl
theorem Ane : Ca (.agg []) = []:=rfl
theorem Apb : Ca (.agg (.sl f els :: l)) = Ca (.agg l):=rfl
theorem Aqz : Ca (.agg (.bs f a b c d :: l)) = a :: Ca (.agg l):=rfl
end
theorem Aka {α : Type} {l m : List α} : (ovl l (m.take (min m.length l.length)) 0).length = l.length:=by
 simp [ovl];omega
attribute [go_sem] Aka
theorem Xx {m n : Nat} (h : InR (m : Int) n) : m < n:=by have:=h.2;simpa using this
attribute [go_sem] Aly Akc All Ams AlQ Al2 AmE AnV Ap5 Arw Arh Arx Aq1 AmA Anl Aml Ana AnF AnP AnA AmU Amv AlH AnZ Am1 Anz Am4 AnX Ak8 AjW Alq AjU AjP AnK AnU AmG AmW AnL Aom Aqr AlR Amr Aoi AoA Al6 AoQ Apu Arq Aps ApW Am0 AmB AjY Ane Apb Aqz
section
variable {sel : List Nat}
theorem Alh {a : Int} : wk1 sel (i64 a) (i64 a) = True:=by simp [wk1,wk0,i64,AV.closed]
theorem Amg {a : UInt8} : wk1 sel (u8 a) (u8 a) = True:=by simp [wk1,wk0,u8,AV.closed]
theorem Alz {a : UInt64} : wk1 sel (u64 a) (u64 a) = True:=by simp [wk1,wk0,u64,AV.closed]
theorem AhH {a : Bool} : wk1 sel (.bool a) (.bool a) = True:=by simp [wk1,wk0,AV.closed]
theorem Al8 {f : FuncId} : wk1 sel (.fn f []) (.fn f []) = True:=by simp [wk1,wk0,AV.closed]
theorem Ang {f f' : Bool} {a b : List (List AV)} : wk1 sel (.sl f a) (.sl f' b) = ((f' = true→f = true)∧a = b):=rfl
theorem Amp {f f' : Bool} {i t o l i' t' o' l' : Nat} : wk1 sel (.bs f i t o l) (.bs f' i' t' o' l') = (sel[i']? = some i∧(f' = true→f = true)∧t = t'∧o = o'∧l = l'):=rfl
theorem AiU {i i' : Nat} : wk1 sel (.mref i) (.mref i') = (sel[i']? = some i):=rfl
theorem Ah8 {i i' : Nat} : wk0 sel (.mref i) (.mref i') = (sel[i']? = some i):=rfl
theorem Ahl {i i' : Nat} : wk1 sel (.nref i) (.nref i') = (sel[i']? = some i):=rfl
theorem AiN {i i' : Nat} : wk0 sel (.nref i) (.nref i') = (sel[i']? = some i):=rfl
theorem AiG {i o i' o' : Nat} : wk1 sel (.tref i o) (.tref i' o') = (sel[i']? = some i∧o = o'):=rfl
theorem Aig {i o i' o' : Nat} : wk0 sel (.tref i o) (.tref i' o') = (sel[i']? = some i∧o = o'):=rfl
theorem Aj0 {i o i' o' : Nat} : wk1 sel (.ref i o) (.ref i' o') = (sel[i']? = some i∧o = o'):=rfl
theorem Ak6 {a b : List AV} : wk1 sel (.agg a) (.agg b) = wkL sel a b:=rfl
theorem AjJ {a b : List AV} : wk1 sel (.tup a) (.tup b) = wkL sel a b:=rfl
theorem Ajs {a : Int} : wk0 sel (i64 a) (i64 a) = True:=by simp [wk0,i64,AV.closed]
theorem Ahc {a : UInt8} : wk0 sel (u8 a) (u8 a) = True:=by simp [wk0,u8,AV.closed]
theorem Agh {a : UInt32} : wk0 sel (u32 a) (u32 a) = True:=by simp [wk0,u32,AV.closed]
theorem AkL {a : UInt64} : wk0 sel (u64 a) (u64 a) = True:=by simp [wk0,u64,AV.closed]
theorem Adr {a : Bool} : wk0 sel (.bool a) (.bool a) = True:=by simp [wk0,AV.closed]
theorem AkF {a : List UInt8} : wk0 sel (.str a) (.str a) = True:=by simp [wk0,AV.closed]
theorem AgL {f : FuncId} {i o i' : Nat} : wk0 sel (.fn f [.ref i o]) (.fn f [.ref i' o]) = (sel[i']? = some i):=by
 refine propext ⟨fun h => ?_,fun h => .inr ⟨rfl,⟨h,rfl⟩,trivial⟩⟩
 rcases h with ⟨_,h⟩ | ⟨_,⟨h,_⟩,_⟩
 ·simp [AV.closed] at h
 ·exact h
theorem AjK {f : FuncId} {i o i' : Nat} : wk1 sel (.fn f [.ref i o]) (.fn f [.ref i' o]) = (sel[i']? = some i):=AgL
theorem Al0 {f f' : Bool} {a b : List (List AV)} : wk0 sel (.sl f a) (.sl f' b) = ((f' = true→f = true)∧a = b):=rfl
theorem AmX {f f' : Bool} {i t o l i' t' o' l' : Nat} : wk0 sel (.bs f i t o l) (.bs f' i' t' o' l') = (sel[i']? = some i∧(f' = true→f = true)∧t = t'∧o = o'∧l = l'):=rfl
theorem Aj3 {i o i' o' : Nat} : wk0 sel (.ref i o) (.ref i' o') = (sel[i']? = some i∧o = o'):=rfl
theorem Agj {cs cs' : List AV} {ro ro' : Bool} : Aaw sel (.box cs ro) (.box cs' ro') = (ro = ro'∧wkL sel cs cs'):=rfl
theorem Agu {k k' : Nat} {els els' : List (List AV)} {ro ro' : Bool} : Aaw sel (.buf k els ro) (.buf k' els' ro') = (k = k'∧ro = ro'∧els = els'∧B7 els' = true):=rfl
end
def Ac7 (E : Env) (t : TypeId) : Bool:=match E.tab t with
 | some d => match d.desc with
  | .slice e => match E.tab e with
   | some de => match de.desc with
    | .int .u8 => true
    | _ => false
   | none => false
  | _ => false
 | none => false
def Aj9 (E : Env) (t : TypeId) : Bool:=match E.tab t with
 | some d => match d.desc with
  | .string => true
  | _ => false
 | none => false
theorem Wq {σ : An} {s d : TypeId} {l : List UInt8} (hs : Aj9 E s = true) (hd : Ac7 E d = true) : B6 E σ s d (.str l) = some (.bs false σ.length l.length 0 l.length,σ ++ [.buf 1 (L cU8 l) false]):=by
 unfold Ac7 at hd
 unfold Aj9 at hs
 split at hd <;> try cases hd
 rename_i sd hsd
 split at hd <;> try cases hd
 rename_i e he
 split at hd <;> try cases hd
 rename_i de hde
 split at hd <;> try cases hd
 rename_i hu
 split at hs <;> try cases hs
 rename_i dd hdd
 unfold B6
 simp only [hsd,hdd,he,hde,hu]
 rfl
theorem ob_s {a b : Bool} : (some a == some b) = (a == b):=rfl
theorem ob_n {b : Bool} : ((none : Option Bool) == some b) = false:=rfl
attribute [go_sem] ob_s ob_n
attribute [go_sem] AgL AjK Ahl AiN AiU Ah8 AiG Aig Alh Amg Alz AhH Al8 Ang Amp Aj0 Ak6 AjJ Ajs Ahc Agh AkL Adr AkF Al0 AmX Aj3 Agj Agu Ad5 wkL AnO Wq Ac7 Aj9
attribute [go_sem] List.getElem?_cons_zero List.getElem?_cons_succ List.set_cons_zero List.set_cons_succ List.length_cons List.length_nil List.cons_append List.nil_append List.append_nil List.map_cons List.map_nil List.flatMap_cons List.flatMap_nil List.all_cons List.all_nil List.drop_zero List.drop_succ_cons List.drop_nil List.take_zero List.take_succ_cons List.take_nil List.length_append List.length_set List.length_replicate List.take_length List.replicate_zero List.replicate_succ Option.map_some Option.map_none Option.bind_some Option.bind_none Option.isSome_some Option.getD_some Option.some.injEq Prod.mk.injEq Bool.true_and Bool.false_and Bool.and_true Bool.and_false Bool.and_self Bool.not_true Bool.not_false Bool.true_or Bool.false_or and_true true_and and_self and_false false_and or_true true_or or_false false_or implies_true not_true_eq_false not_false_eq_true ne_eq imp_self false_imp_iff decide_true decide_false Bool.false_eq_true Nat.zero_add Nat.add_zero Nat.sub_zero Nat.mul_one eq_self List.cons_ne_nil reduceCtorEq beq_self_eq_true List.mem_cons List.not_mem_nil forall_eq_or_imp forall_eq
end Go.Rv
