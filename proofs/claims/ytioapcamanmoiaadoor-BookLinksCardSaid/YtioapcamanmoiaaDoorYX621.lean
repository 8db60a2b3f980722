/-
  Part 21.
-/
import Derived.Test.YtioapcamanmoiaaDoorYX620
namespace Go.Rv
set_option linter.unusedVariables false
set_option linter.unusedSimpArgs false
variable {E : Env}
theorem Qn (hE : E.Ok) {m n id : Nat} {l : List Oper} {fr fr' : Fr} {σ σ' : Am} {K : E7} (ts : List Nat) (h : ∃ orc,Pj E.toBase orc∧Tc E orc false n l ts (fr,σ) = some (fr',σ'))
  {y : Code} (hk : Run E m y ⟨Ar n fr',σ'⟩ K) : Run E m (.seq (.region id l.toArray false) y) ⟨Ar n fr,σ⟩ K:=by
 obtain ⟨orc,hO,h⟩:=h
 exact Afl hE hO ts h hk
theorem Vr (hE : E.Ok) (hP : E.P.follows .mixedOrders = true) {m n id : Nat} {l : List Oper} (T : List (List Nat)) (hok1 : I9 l.toArray T = true) (hok2 : Ma E l.toArray T = true) {fr fr' : Fr} {σ σ' : Am} {K : E7} (ts : List Nat)
  (h : ∃ orc,Pj E.toBase orc∧Tc E orc true n l ts (fr,σ) = some (fr',σ')) {y : Code} (hk : Run E m y ⟨Ar n fr',σ'⟩ K) : Run E m (.seq (.region id l.toArray true) y) ⟨Ar n fr,σ⟩ K:=by
 obtain ⟨orc,hO,h⟩:=h
 exact AeU hE hO hP T hok1 hok2 ts h hk
def AaX (E : Env) (n : Nat) (K : E7) : Prop:=∀ st st',Weak E n st st'→K .normal st'→K .normal st
theorem O5 {n : Nat} {y : Code} {K : E7} : AaX E n (Afo E n y K):=fun st st' h k => H7 h k
theorem V3 {n : Nat} {V : Type} {S : V→St} {J : V→Prop} {K : E7} : AaX E n (AbE E n S J K):=fun st st' h k => by
 obtain ⟨v,hv,hw⟩:=k
 exact ⟨v,hv,h.trans hw⟩
theorem Ai2 {n : Nat} {V X : Type} {S : V→St} {o : V ⊕ X} {K : E7} : AaX E n (lpK E n S o K):=fun st st' h k => by
 obtain ⟨v,hv,hw⟩:=k
 exact ⟨v,hv,h.trans hw⟩
theorem Qa {n i : Nat} {K : E7} (h : AaX E n K) : AaX E n (M1 i K):=h
theorem Uc {n : Nat} {K : E7} (h : AaX E n K) : AaX E n (ApV K):=h
theorem Q3 (hE : E.Ok) {m n id : Nat} {l : List Oper} {fr fr' : Fr} {σ σ' : Am} {K : E7} (hw : AaX E m K) (ts : List Nat) (h : ∃ orc,Pj E.toBase orc∧Tc E orc false n l ts (fr,σ) = some (fr',σ'))
  (hk : K .normal ⟨Ar n fr',σ'⟩) : Run E m (.region id l.toArray false) ⟨Ar n fr,σ⟩ K:=by
 obtain ⟨orc,hO,h⟩:=h
 simp only [Tc,Option.bind_eq_some_iff,Option.some.injEq,Prod.mk.injEq] at h
 obtain ⟨⟨fr1,σ1⟩,h1,rfl,rfl⟩:=h
 exact Aiz hE hO h1 (hw _ _ (I1 _ _ _ _ _) hk)
theorem AfU (hE : E.Ok) (hP : E.P.follows .mixedOrders = true) {m n id : Nat} {l : List Oper} (T : List (List Nat)) (hok1 : I9 l.toArray T = true) (hok2 : Ma E l.toArray T = true) {fr fr' : Fr} {σ σ' : Am} {K : E7} (hw : AaX E m K) (ts : List Nat)
  (h : ∃ orc,Pj E.toBase orc∧Tc E orc true n l ts (fr,σ) = some (fr',σ')) (hk : K .normal ⟨Ar n fr',σ'⟩) : Run E m (.region id l.toArray true) ⟨Ar n fr,σ⟩ K:=by
 obtain ⟨orc,hO,h⟩:=h
 simp only [Tc,Option.bind_eq_some_iff,Option.some.injEq,Prod.mk.injEq] at h
 obtain ⟨⟨fr1,σ1⟩,h1,rfl,rfl⟩:=h
 exact Aiy hE hO hP T hok1 hok2 h1 (hw _ _ (I1 _ _ _ _ _) hk)
section
variable {l : List AV} {f : Bool} {els : List (List AV)} {a b c d : Nat}
theorem Aom (x : Int) : (i64 x).scalar = true:=rfl
theorem Ao6 (x : Int) : (i64 x).flatAgg = true:=rfl
theorem Aqf (x : Int) : (i64 x).flat = true:=rfl
theorem ApR (x : Int) : C2 (i64 x) = []:=rfl
theorem Aqt (x : Int) : C2 (.agg (i64 x :: l)) = C2 (.agg l):=rfl
theorem Ara (x : UInt8) : (u8 x).scalar = true:=rfl
theorem As6 (x : UInt8) : (u8 x).flatAgg = true:=rfl
theorem Art (x : UInt8) : (u8 x).flat = true:=rfl
theorem Asr (x : UInt8) : C2 (u8 x) = []:=rfl
theorem Aq3 (x : UInt8) : C2 (.agg (u8 x :: l)) = C2 (.agg l):=rfl
theorem Aqu (x : UInt16) : (u16 x).scalar = true:=rfl
theorem AqC (x : UInt16) : (u16 x).flatAgg = true:=rfl
theorem Aob (x : UInt16) : (u16 x).flat = true:=rfl
theorem ApD (x : UInt16) : C2 (u16 x) = []:=rfl
theorem AoS (x : UInt16) : C2 (.agg (u16 x :: l)) = C2 (.agg l):=rfl
theorem Apf (x : UInt32) : (u32 x).scalar = true:=rfl
theorem AqA (x : UInt32) : (u32 x).flatAgg = true:=rfl
theorem Apb (x : UInt32) : (u32 x).flat = true:=rfl
theorem AqD (x : UInt32) : C2 (u32 x) = []:=rfl
theorem Aow (x : UInt32) : C2 (.agg (u32 x :: l)) = C2 (.agg l):=rfl
theorem Apa (x : UInt64) : (u64 x).scalar = true:=rfl
theorem Aos (x : UInt64) : (u64 x).flatAgg = true:=rfl
theorem AoT (x : UInt64) : (u64 x).flat = true:=rfl
theorem AoV (x : UInt64) : C2 (u64 x) = []:=rfl
theorem Aoq (x : UInt64) : C2 (.agg (u64 x :: l)) = C2 (.agg l):=rfl
theorem Ana (x : Bool) : (AV.bool x).scalar = true:=rfl
theorem AlK (x : Bool) : (AV.bool x).flatAgg = true:=rfl
theorem Amy (x : Bool) : (AV.bool x).flat = true:=rfl
theorem Al1 (x : Bool) : C2 (AV.bool x) = []:=rfl
theorem AnA (x : Bool) : C2 (.agg (AV.bool x :: l)) = C2 (.agg l):=rfl
theorem AoH (x : List UInt8) : (AV.str x).scalar = true:=rfl
theorem Aoy (x : List UInt8) : (AV.str x).flatAgg = true:=rfl
theorem Aoi (x : List UInt8) : (AV.str x).flat = true:=rfl
theorem Aqx (x : List UInt8) : C2 (AV.str x) = []:=rfl
theorem AoB (x : List UInt8) : C2 (.agg (AV.str x :: l)) = C2 (.agg l):=rfl
theorem Ar2 : (AV.sl f els).scalar = false:=rfl
theorem ArN : (AV.bs f a b c d).scalar = false:=rfl
theorem ApY : (AV.agg l).scalar = l.all AV.flat:=rfl
theorem Apm : (AV.tup l).scalar = l.all AV.flatAgg:=rfl
theorem Ar6 : (AV.sl f els).flatAgg = false:=rfl
theorem AtG : (AV.bs f a b c d).flatAgg = false:=rfl
theorem ApE : (AV.agg l).flatAgg = l.all AV.flat:=rfl
theorem Asb : (AV.sl f els).flat = false:=rfl
theorem Att : (AV.bs f a b c d).flat = false:=rfl
theorem ArA : C2 (.sl f els) = []:=rfl
theorem Atw : C2 (.bs f a b c d) = [a]:=rfl
theorem Ash {g : FuncId} : C2 (.fn g l) = []:=rfl
theorem Ap5 : C2 (.ref a b) = []:=rfl
theorem Alh : C2 (.tref a b) = []:=rfl
theorem AnW : C2 (.nref a) = []:=rfl
theorem AmQ : C2 (.mref a) = []:=rfl
theorem Aqd : C2 (.tup l) = []:=rfl
theorem AmP : C2 .junk = []:=rfl
theorem Ao9 : C2 (.agg []) = []:=rfl
theorem As4 : C2 (.agg (.sl f els :: l)) = C2 (.agg l):=rfl
theorem Ati : C2 (.agg (.bs f a b c d :: l)) = a :: C2 (.agg l):=rfl
end
theorem Am3 {α : Type} {l m : List α} : (ovl l (m.take (min m.length l.length)) 0).length = l.length:=by
 simp [ovl];omega
attribute [go_sem] Am3
theorem Aar {m n : Nat} (h : InR (m : Int) n) : m < n:=by have:=h.2;simpa using this
attribute [go_sem] AnW AmQ Alh Aom Ao6 Aqf ApR Aqt Ara As6 Art Asr Aq3 Aqu AqC Aob ApD AoS Apf AqA Apb AqD Aow Apa Aos AoT AoV Aoq Ana AlK Amy Al1 AnA AoH Aoy Aoi Aqx AoB Ar2 ArN ApY Apm Ar6 AtG ApE Asb Att ArA Atw Ash Ap5 Aqd AmP Ao9 As4 Ati
section
variable {sel : List Nat}
theorem AlJ {a : Int} : wk1 sel (i64 a) (i64 a) = True:=by simp [wk1,wk0,i64,AV.closed]
theorem Ap7 {a : UInt8} : wk1 sel (u8 a) (u8 a) = True:=by simp [wk1,wk0,u8,AV.closed]
theorem Ami {a : UInt64} : wk1 sel (u64 a) (u64 a) = True:=by simp [wk1,wk0,u64,AV.closed]
theorem AiZ {a : Bool} : wk1 sel (.bool a) (.bool a) = True:=by simp [wk1,wk0,AV.closed]
theorem Ap2 {f : FuncId} : wk1 sel (.fn f []) (.fn f []) = True:=by simp [wk1,wk0,AV.closed]
theorem ApK {f f' : Bool} {a b : List (List AV)} : wk1 sel (.sl f a) (.sl f' b) = ((f' = true→f = true)∧a = b):=rfl
theorem ApO {f f' : Bool} {i t o l i' t' o' l' : Nat} : wk1 sel (.bs f i t o l) (.bs f' i' t' o' l') = (sel[i']? = some i∧(f' = true→f = true)∧t = t'∧o = o'∧l = l'):=rfl
theorem Aka {i i' : Nat} : wk1 sel (.mref i) (.mref i') = (sel[i']? = some i):=rfl
theorem AiP {i i' : Nat} : wk0 sel (.mref i) (.mref i') = (sel[i']? = some i):=rfl
theorem AjZ {i i' : Nat} : wk1 sel (.nref i) (.nref i') = (sel[i']? = some i):=rfl
theorem AiK {i i' : Nat} : wk0 sel (.nref i) (.nref i') = (sel[i']? = some i):=rfl
theorem Ajf {i o i' o' : Nat} : wk1 sel (.tref i o) (.tref i' o') = (sel[i']? = some i∧o = o'):=rfl
theorem Aj0 {i o i' o' : Nat} : wk0 sel (.tref i o) (.tref i' o') = (sel[i']? = some i∧o = o'):=rfl
theorem Ani {i o i' o' : Nat} : wk1 sel (.ref i o) (.ref i' o') = (sel[i']? = some i∧o = o'):=rfl
theorem Amt {a b : List AV} : wk1 sel (.agg a) (.agg b) = wkL sel a b:=rfl
theorem Am2 {a b : List AV} : wk1 sel (.tup a) (.tup b) = wkL sel a b:=rfl
theorem Am9 {a : Int} : wk0 sel (i64 a) (i64 a) = True:=by simp [wk0,i64,AV.closed]
theorem AiC {a : UInt8} : wk0 sel (u8 a) (u8 a) = True:=by simp [wk0,u8,AV.closed]
theorem Ag6 {a : UInt32} : wk0 sel (u32 a) (u32 a) = True:=by simp [wk0,u32,AV.closed]
theorem Aln {a : UInt64} : wk0 sel (u64 a) (u64 a) = True:=by simp [wk0,u64,AV.closed]
theorem Afc {a : Bool} : wk0 sel (.bool a) (.bool a) = True:=by simp [wk0,AV.closed]
theorem AmR {a : List UInt8} : wk0 sel (.str a) (.str a) = True:=by simp [wk0,AV.closed]
theorem AgH {f : FuncId} {i o i' : Nat} : wk0 sel (.fn f [.ref i o]) (.fn f [.ref i' o]) = (sel[i']? = some i):=by
 refine propext ⟨fun h => ?_,fun h => .inr ⟨rfl,⟨h,rfl⟩,trivial⟩⟩
 rcases h with ⟨_,h⟩ | ⟨_,⟨h,_⟩,_⟩
 ·simp [AV.closed] at h
 ·exact h
theorem AlC {f : FuncId} {i o i' : Nat} : wk1 sel (.fn f [.ref i o]) (.fn f [.ref i' o]) = (sel[i']? = some i):=AgH
theorem Ao3 {f f' : Bool} {a b : List (List AV)} : wk0 sel (.sl f a) (.sl f' b) = ((f' = true→f = true)∧a = b):=rfl
theorem ApJ {f f' : Bool} {i t o l i' t' o' l' : Nat} : wk0 sel (.bs f i t o l) (.bs f' i' t' o' l') = (sel[i']? = some i∧(f' = true→f = true)∧t = t'∧o = o'∧l = l'):=rfl
theorem Amg {i o i' o' : Nat} : wk0 sel (.ref i o) (.ref i' o') = (sel[i']? = some i∧o = o'):=rfl
theorem AhK {cs cs' : List AV} {ro ro' : Bool} : Ab2 sel (.box cs ro) (.box cs' ro') = (ro = ro'∧wkL sel cs cs'):=rfl
theorem Ahr {k k' : Nat} {els els' : List (List AV)} {ro ro' : Bool} : Ab2 sel (.buf k els ro) (.buf k' els' ro') = (k = k'∧ro = ro'∧els = els'∧Cy els' = true):=rfl
end
def Ads (E : Env) (t : TypeId) : Bool:=match E.tab t with
 | some d => match d.desc with
  | .slice e => match E.tab e with
   | some de => match de.desc with
    | .int .u8 => true
    | _ => false
   | none => false
  | _ => false
 | none => false
def Alq (E : Env) (t : TypeId) : Bool:=match E.tab t with
 | some d => match d.desc with
  | .string => true
  | _ => false
 | none => false
theorem Xz {σ : Am} {s d : TypeId} {l : List UInt8} (hs : Alq E s = true) (hd : Ads E d = true) : Cs E σ s d (.str l) = some (.bs false σ.length l.length 0 l.length,σ ++ [.buf 1 (L cU8 l) false]):=by
 unfold Ads at hd
 unfold Alq at hs
 split at hd <;> try cases hd
 rename_i sd hsd
 split at hd <;> try cases hd
 rename_i e he
 split at hd <;> try cases hd
 rename_i de hde
 split at hd <;> try cases hd
 rename_i hu
 split at hs <;> try cases hs
 rename_i dd hdd
 unfold Cs
 simp only [hsd,hdd,he,hde,hu]
 rfl
theorem ob_s {a b : Bool} : (some a == some b) = (a == b):=rfl
theorem ob_n {b : Bool} : ((none : Option Bool) == some b) = false:=rfl
attribute [go_sem] ob_s ob_n
attribute [go_sem] AgH AlC AjZ AiK Aka AiP Ajf Aj0 AlJ Ap7 Ami AiZ Ap2 ApK ApO Ani Amt Am2 Am9 AiC Ag6 Aln Afc AmR Ao3 ApJ Amg AhK Ahr AeV wkL Aqi Xz Ads Alq
attribute [go_sem] List.getElem?_cons_zero List.getElem?_cons_succ List.set_cons_zero List.set_cons_succ List.length_cons List.length_nil List.cons_append List.nil_append List.append_nil List.map_cons List.map_nil List.flatMap_cons List.flatMap_nil List.all_cons List.all_nil List.drop_zero List.drop_succ_cons List.drop_nil List.take_zero List.take_succ_cons List.take_nil List.length_append List.length_set List.length_replicate List.take_length List.replicate_zero List.replicate_succ Option.map_some Option.map_none Option.bind_some Option.bind_none Option.isSome_some Option.getD_some Option.some.injEq Prod.mk.injEq Bool.true_and Bool.false_and Bool.and_true Bool.and_false Bool.and_self Bool.not_true Bool.not_false Bool.true_or Bool.false_or and_true true_and and_self and_false false_and or_true true_or or_false false_or implies_true not_true_eq_false not_false_eq_true ne_eq imp_self false_imp_iff decide_true decide_false Bool.false_eq_true Nat.zero_add Nat.add_zero Nat.sub_zero Nat.mul_one eq_self List.cons_ne_nil reduceCtorEq beq_self_eq_true List.mem_cons List.not_mem_nil forall_eq_or_imp forall_eq
end Go.Rv
