/-
  Part 21.
-/
import Derived.Test.YtnfoiocigicdnaaGreatDoorYH20
namespace Go.Rv
set_option linter.unusedVariables false
set_option linter.unusedSimpArgs false
variable {E : Env}
theorem Fm (hE : E.Ok) {m n id : Nat} {l : List Oper} {fr fr' : Fr} {σ σ' : Am} {K : Fo} (ts : List Nat) (h : ∃ orc,Pt E.toBase orc∧Q6 E orc false n l ts (fr,σ) = some (fr',σ'))
  {y : Code} (hk : Run E m y ⟨Au n fr',σ'⟩ K) : Run E m (.seq (.region id l.toArray false) y) ⟨Au n fr,σ⟩ K:=by
 obtain ⟨orc,hO,h⟩:=h
 exact Acl hE hO ts h hk
theorem R4 (hE : E.Ok) (hP : E.P.follows .mixedOrders = true) {m n id : Nat} {l : List Oper} (T : List (List Nat)) (hok1 : Ld l.toArray T = true) (hok2 : Kp E l.toArray T = true) {fr fr' : Fr} {σ σ' : Am} {K : Fo} (ts : List Nat)
  (h : ∃ orc,Pt E.toBase orc∧Q6 E orc true n l ts (fr,σ) = some (fr',σ')) {y : Code} (hk : Run E m y ⟨Au n fr',σ'⟩ K) : Run E m (.seq (.region id l.toArray true) y) ⟨Au n fr,σ⟩ K:=by
 obtain ⟨orc,hO,h⟩:=h
 exact Ab5 hE hO hP T hok1 hok2 ts h hk
def Y8 (E : Env) (n : Nat) (K : Fo) : Prop:=∀ st st',Weak E n st st'→K .normal st'→K .normal st
theorem R1 {n : Nat} {y : Code} {K : Fo} : Y8 E n (Y5 E n y K):=fun st st' h k => Gb h k
theorem Fs {n : Nat} {V : Type} {S : V→St} {J : V→Prop} {K : Fo} : Y8 E n (Ue E n S J K):=fun st st' h k => by
 obtain ⟨v,hv,hw⟩:=k
 exact ⟨v,hv,h.trans hw⟩
theorem AgR {n : Nat} {V X : Type} {S : V→St} {o : V ⊕ X} {K : Fo} : Y8 E n (lpK E n S o K):=fun st st' h k => by
 obtain ⟨v,hv,hw⟩:=k
 exact ⟨v,hv,h.trans hw⟩
theorem D4 {n i : Nat} {K : Fo} (h : Y8 E n K) : Y8 E n (La i K):=h
theorem Q2 {n : Nat} {K : Fo} (h : Y8 E n K) : Y8 E n (Amv K):=h
theorem Pb (hE : E.Ok) {m n id : Nat} {l : List Oper} {fr fr' : Fr} {σ σ' : Am} {K : Fo} (hw : Y8 E m K) (ts : List Nat) (h : ∃ orc,Pt E.toBase orc∧Q6 E orc false n l ts (fr,σ) = some (fr',σ'))
  (hk : K .normal ⟨Au n fr',σ'⟩) : Run E m (.region id l.toArray false) ⟨Au n fr,σ⟩ K:=by
 obtain ⟨orc,hO,h⟩:=h
 simp only [Q6,Option.bind_eq_some_iff,Option.some.injEq,Prod.mk.injEq] at h
 obtain ⟨⟨fr1,σ1⟩,h1,rfl,rfl⟩:=h
 exact AeK hE hO h1 (hw _ _ (Ia _ _ _ _ _) hk)
theorem Adb (hE : E.Ok) (hP : E.P.follows .mixedOrders = true) {m n id : Nat} {l : List Oper} (T : List (List Nat)) (hok1 : Ld l.toArray T = true) (hok2 : Kp E l.toArray T = true) {fr fr' : Fr} {σ σ' : Am} {K : Fo} (hw : Y8 E m K) (ts : List Nat)
  (h : ∃ orc,Pt E.toBase orc∧Q6 E orc true n l ts (fr,σ) = some (fr',σ')) (hk : K .normal ⟨Au n fr',σ'⟩) : Run E m (.region id l.toArray true) ⟨Au n fr,σ⟩ K:=by
 obtain ⟨orc,hO,h⟩:=h
 simp only [Q6,Option.bind_eq_some_iff,Option.some.injEq,Prod.mk.injEq] at h
 obtain ⟨⟨fr1,σ1⟩,h1,rfl,rfl⟩:=h
 exact Ae0 hE hO hP T hok1 hok2 h1 (hw _ _ (Ia _ _ _ _ _) hk)
section
variable {l : List AV} {f : Bool} {els : List (List AV)} {a b c d : Nat}
theorem AoE (x : Int) : (i64 x).scalar = true:=rfl
theorem AnD (x : Int) : (i64 x).flatAgg = true:=rfl
theorem Ao3 (x : Int) : (i64 x).flat = true:=rfl
theorem Aoh (x : Int) : Cu (i64 x) = []:=rfl
theorem AoQ (x : Int) : Cu (.agg (i64 x :: l)) = Cu (.agg l):=rfl
theorem Ar8 (x : UInt8) : (u8 x).scalar = true:=rfl
theorem Ar3 (x : UInt8) : (u8 x).flatAgg = true:=rfl
theorem ArL (x : UInt8) : (u8 x).flat = true:=rfl
theorem Aq0 (x : UInt8) : Cu (u8 x) = []:=rfl
theorem Aqy (x : UInt8) : Cu (.agg (u8 x :: l)) = Cu (.agg l):=rfl
theorem AoR (x : UInt16) : (u16 x).scalar = true:=rfl
theorem Anp (x : UInt16) : (u16 x).flatAgg = true:=rfl
theorem Aoe (x : UInt16) : (u16 x).flat = true:=rfl
theorem AnG (x : UInt16) : Cu (u16 x) = []:=rfl
theorem AnF (x : UInt16) : Cu (.agg (u16 x :: l)) = Cu (.agg l):=rfl
theorem Am9 (x : UInt32) : (u32 x).scalar = true:=rfl
theorem AlX (x : UInt32) : (u32 x).flatAgg = true:=rfl
theorem Anz (x : UInt32) : (u32 x).flat = true:=rfl
theorem Am8 (x : UInt32) : Cu (u32 x) = []:=rfl
theorem An2 (x : UInt32) : Cu (.agg (u32 x :: l)) = Cu (.agg l):=rfl
theorem Ame (x : UInt64) : (u64 x).scalar = true:=rfl
theorem AnV (x : UInt64) : (u64 x).flatAgg = true:=rfl
theorem Aow (x : UInt64) : (u64 x).flat = true:=rfl
theorem Ano (x : UInt64) : Cu (u64 x) = []:=rfl
theorem Amc (x : UInt64) : Cu (.agg (u64 x :: l)) = Cu (.agg l):=rfl
theorem AkX (x : Bool) : (AV.bool x).scalar = true:=rfl
theorem Aio (x : Bool) : (AV.bool x).flatAgg = true:=rfl
theorem Aky (x : Bool) : (AV.bool x).flat = true:=rfl
theorem Akr (x : Bool) : Cu (AV.bool x) = []:=rfl
theorem AkH (x : Bool) : Cu (.agg (AV.bool x :: l)) = Cu (.agg l):=rfl
theorem Alo (x : List UInt8) : (AV.str x).scalar = true:=rfl
theorem AlA (x : List UInt8) : (AV.str x).flatAgg = true:=rfl
theorem AmC (x : List UInt8) : (AV.str x).flat = true:=rfl
theorem AnS (x : List UInt8) : Cu (AV.str x) = []:=rfl
theorem Aml (x : List UInt8) : Cu (.agg (AV.str x :: l)) = Cu (.agg l):=rfl
theorem ArD : (AV.sl f els).scalar = false:=rfl
theorem Apr : (AV.bs f a b c d).scalar = false:=rfl
theorem Am6 : (AV.agg l).scalar = l.all AV.flat:=rfl
theorem AoJ : (AV.tup l).scalar = l.all AV.flatAgg:=rfl
theorem ApY : (AV.sl f els).flatAgg = false:=rfl
theorem ArQ : (AV.bs f a b c d).flatAgg = false:=rfl
theorem AnL : (AV.agg l).flatAgg = l.all AV.flat:=rfl
theorem AqI : (AV.sl f els).flat = false:=rfl
theorem ArE : (AV.bs f a b c d).flat = false:=rfl
theorem Aqs : Cu (.sl f els) = []:=rfl
theorem ArN : Cu (.bs f a b c d) = [a]:=rfl
theorem Ap7 {g : FuncId} : Cu (.fn g l) = []:=rfl
theorem AlI : Cu (.ref a b) = []:=rfl
theorem Ajz : Cu (.tref a b) = []:=rfl
theorem AkV : Cu (.nref a) = []:=rfl
theorem Aiw : Cu (.mref a) = []:=rfl
theorem An6 : Cu (.tup l) = []:=rfl
theorem Ai9 : Cu .junk = []:=rfl
theorem Aoj : Cu (.agg []) = []:=rfl
theorem AqA : Cu (.agg (.sl f els :: l)) = Cu (.agg l):=rfl
theorem Arm : Cu (.agg (.bs f a b c d :: l)) = a :: Cu (.agg l):=rfl
end
theorem Lv {m n : Nat} (h : InR (m : Int) n) : m < n:=by have:=h.2;simpa using this
attribute [go_sem] AkV Aiw Ajz AoE AnD Ao3 Aoh AoQ Ar8 Ar3 ArL Aq0 Aqy AoR Anp Aoe AnG AnF Am9 AlX Anz Am8 An2 Ame AnV Aow Ano Amc AkX Aio Aky Akr AkH Alo AlA AmC AnS Aml ArD Apr Am6 AoJ ApY ArQ AnL AqI ArE Aqs ArN Ap7 AlI An6 Ai9 Aoj AqA Arm
section
variable {sel : List Nat}
theorem Akw {a : Int} : wk1 sel (i64 a) (i64 a) = True:=by simp [wk1,wk0,i64,AV.closed]
theorem AoU {a : UInt8} : wk1 sel (u8 a) (u8 a) = True:=by simp [wk1,wk0,u8,AV.closed]
theorem AiU {a : UInt64} : wk1 sel (u64 a) (u64 a) = True:=by simp [wk1,wk0,u64,AV.closed]
theorem AhG {a : Bool} : wk1 sel (.bool a) (.bool a) = True:=by simp [wk1,wk0,AV.closed]
theorem Akk {a : List UInt8} : wk1 sel (.str a) (.str a) = True:=by simp [wk1,wk0,AV.closed]
theorem AnQ {f : FuncId} : wk1 sel (.fn f []) (.fn f []) = True:=by simp [wk1,wk0,AV.closed]
theorem Ao6 {f f' : Bool} {a b : List (List AV)} : wk1 sel (.sl f a) (.sl f' b) = ((f' = true→f = true)∧a = b):=rfl
theorem AnO {f f' : Bool} {i t o l i' t' o' l' : Nat} : wk1 sel (.bs f i t o l) (.bs f' i' t' o' l') = (sel[i']? = some i∧(f' = true→f = true)∧t = t'∧o = o'∧l = l'):=rfl
theorem Agn {i i' : Nat} : wk1 sel (.mref i) (.mref i') = (sel[i']? = some i):=rfl
theorem AgT {i i' : Nat} : wk0 sel (.mref i) (.mref i') = (sel[i']? = some i):=rfl
theorem AhK {i i' : Nat} : wk1 sel (.nref i) (.nref i') = (sel[i']? = some i):=rfl
theorem AhS {i i' : Nat} : wk0 sel (.nref i) (.nref i') = (sel[i']? = some i):=rfl
theorem Ahs {i o i' o' : Nat} : wk1 sel (.tref i o) (.tref i' o') = (sel[i']? = some i∧o = o'):=rfl
theorem Af5 {i o i' o' : Nat} : wk0 sel (.tref i o) (.tref i' o') = (sel[i']? = some i∧o = o'):=rfl
theorem AiR {i o i' o' : Nat} : wk1 sel (.ref i o) (.ref i' o') = (sel[i']? = some i∧o = o'):=rfl
theorem AiP {a b : List AV} : wk1 sel (.agg a) (.agg b) = wkL sel a b:=rfl
theorem Akl {a b : List AV} : wk1 sel (.tup a) (.tup b) = wkL sel a b:=rfl
theorem Aiq {a : Int} : wk0 sel (i64 a) (i64 a) = True:=by simp [wk0,i64,AV.closed]
theorem Ai4 {a : UInt64} : wk0 sel (u64 a) (u64 a) = True:=by simp [wk0,u64,AV.closed]
theorem Ab7 {a : Bool} : wk0 sel (.bool a) (.bool a) = True:=by simp [wk0,AV.closed]
theorem AkE {a : List UInt8} : wk0 sel (.str a) (.str a) = True:=by simp [wk0,AV.closed]
theorem Af1 {f : FuncId} {i t i' : Nat} : wk0 sel (.fn f [.tref i t]) (.fn f [.tref i' t]) = (sel[i']? = some i):=by
 refine propext ⟨fun h => ?_,fun h => .inr ⟨rfl,⟨h,rfl⟩,trivial⟩⟩
 rcases h with ⟨_,h⟩ | ⟨_,⟨h,_⟩,_⟩
 ·simp [AV.closed] at h
 ·exact h
theorem Akg {f : FuncId} {i t i' : Nat} : wk1 sel (.fn f [.tref i t]) (.fn f [.tref i' t]) = (sel[i']? = some i):=Af1
theorem Aen {f : FuncId} {i o i' : Nat} : wk0 sel (.fn f [.ref i o]) (.fn f [.ref i' o]) = (sel[i']? = some i):=by
 refine propext ⟨fun h => ?_,fun h => .inr ⟨rfl,⟨h,rfl⟩,trivial⟩⟩
 rcases h with ⟨_,h⟩ | ⟨_,⟨h,_⟩,_⟩
 ·simp [AV.closed] at h
 ·exact h
theorem AjI {f : FuncId} {i o i' : Nat} : wk1 sel (.fn f [.ref i o]) (.fn f [.ref i' o]) = (sel[i']? = some i):=Aen
theorem Alq {f f' : Bool} {a b : List (List AV)} : wk0 sel (.sl f a) (.sl f' b) = ((f' = true→f = true)∧a = b):=rfl
theorem Ao8 {f f' : Bool} {i t o l i' t' o' l' : Nat} : wk0 sel (.bs f i t o l) (.bs f' i' t' o' l') = (sel[i']? = some i∧(f' = true→f = true)∧t = t'∧o = o'∧l = l'):=rfl
theorem AiW {i o i' o' : Nat} : wk0 sel (.ref i o) (.ref i' o') = (sel[i']? = some i∧o = o'):=rfl
theorem Ae3 {cs cs' : List AV} {ro ro' : Bool} : AdJ sel (.box cs ro) (.box cs' ro') = (ro = ro'∧wkL sel cs cs'):=rfl
theorem AeP {k k' : Nat} {els els' : List (List AV)} {ro ro' : Bool} : AdJ sel (.buf k els ro) (.buf k' els' ro') = (k = k'∧ro = ro'∧els = els'∧C5 els' = true):=rfl
end
def P7 (E : Env) (t : TypeId) : Bool:=match E.tab t with
 | some d => match d.desc with
  | .slice e => match E.tab e with
   | some de => match de.desc with
    | .int .u8 => true
    | _ => false
   | none => false
  | _ => false
 | none => false
def Adq (E : Env) (t : TypeId) : Bool:=match E.tab t with
 | some d => match d.desc with
  | .string => true
  | _ => false
 | none => false
theorem T7 {σ : Am} {s d : TypeId} {x : AV} (hx : (∃ f els,x = .sl f els)∨(∃ f i t o l,x = .bs f i t o l)) (hs : P7 E s = true) (hd : Adq E d = true) : Be E σ s d x = match H3 σ x with
    | some els => match bytesOf els with
      | some l => some (.str l,σ)
      | none => none
    | none => none:=by
  unfold P7 at hs
  unfold Adq at hd
  split at hs <;> try cases hs
  rename_i sd hsd
  split at hs <;> try cases hs
  rename_i e he
  split at hs <;> try cases hs
  rename_i de hde
  split at hs <;> try cases hs
  rename_i hu
  split at hd <;> try cases hd
  rename_i dd hdd
  split at hd <;> try cases hd
  rename_i hstr
  unfold Be
  rcases hx with ⟨f,els,rfl⟩ | ⟨f,i,t,o,l,rfl⟩
  · simp only [hsd,hdd,he,hstr,hde,hu,I9]
    cases H3 σ (.sl f els) <;> rfl
  · simp only [hsd,hdd,he,hstr,hde,hu,I9]
    cases H3 σ (.bs f i t o l) <;> rfl
theorem AbJ {σ : Am} {s d : TypeId} {f : Bool} {els : List (List AV)} (hs : P7 E s = true) (hd : Adq E d = true) : Be E σ s d (.sl f els) = match H3 σ (.sl f els) with
    | some els => match bytesOf els with
      | some l => some (.str l,σ)
      | none => none
    | none => none:=T7 (.inl ⟨_,_,rfl⟩) hs hd
theorem Uy {σ : Am} {s d : TypeId} {l : List UInt8} (hs : Adq E s = true) (hd : P7 E d = true) : Be E σ s d (.str l) = some (.bs false σ.length l.length 0 l.length,σ ++ [.buf 1 (L cU8 l) false]):=by
 unfold P7 at hd
 unfold Adq at hs
 split at hd <;> try cases hd
 rename_i sd hsd
 split at hd <;> try cases hd
 rename_i e he
 split at hd <;> try cases hd
 rename_i de hde
 split at hd <;> try cases hd
 rename_i hu
 split at hs <;> try cases hs
 rename_i dd hdd
 unfold Be
 simp only [hsd,hdd,he,hde,hu]
 rfl
theorem ob_s {a b : Bool} : (some a == some b) = (a == b):=rfl
theorem ob_n {b : Bool} : ((none : Option Bool) == some b) = false:=rfl
attribute [go_sem] ob_s ob_n
attribute [go_sem] Af1 Akg Aen AjI AhK AhS Agn AgT Ahs Af5 Akw AoU AiU AhG Akk AnQ Ao6 AnO AiR AiP Akl Aiq Ai4 Ab7 AkE Alq Ao8 AiW Ae3 AeP AcB wkL AoB AbJ Uy P7 Adq
attribute [go_sem] List.getElem?_cons_zero List.getElem?_cons_succ List.set_cons_zero List.set_cons_succ List.length_cons List.length_nil List.cons_append List.nil_append List.append_nil List.map_cons List.map_nil List.flatMap_cons List.flatMap_nil List.all_cons List.all_nil List.drop_zero List.drop_succ_cons List.drop_nil List.take_zero List.take_succ_cons List.take_nil List.length_append List.length_set List.length_replicate List.take_length List.replicate_zero List.replicate_succ Option.map_some Option.map_none Option.bind_some Option.bind_none Option.isSome_some Option.getD_some Option.some.injEq Prod.mk.injEq Bool.true_and Bool.false_and Bool.and_true Bool.and_false Bool.and_self Bool.not_true Bool.not_false Bool.true_or Bool.false_or and_true true_and and_self and_false false_and or_true true_or or_false false_or implies_true not_true_eq_false not_false_eq_true ne_eq imp_self false_imp_iff decide_true decide_false Bool.false_eq_true Nat.zero_add Nat.add_zero Nat.sub_zero Nat.mul_one eq_self List.cons_ne_nil reduceCtorEq beq_self_eq_true List.mem_cons List.not_mem_nil forall_eq_or_imp forall_eq
end Go.Rv
