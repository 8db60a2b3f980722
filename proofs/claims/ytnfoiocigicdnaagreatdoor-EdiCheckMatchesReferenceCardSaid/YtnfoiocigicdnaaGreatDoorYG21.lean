/-
  Part 21.
-/
import Derived.Test.YtnfoiocigicdnaaGreatDoorYG20
namespace Go.Rv
set_option linter.unusedVariables false
set_option linter.unusedSimpArgs false
variable {E : Env}
theorem F2 (hE : E.Ok) {m n id : Nat} {l : List Oper} {fr fr' : Fr} {σ σ' : Am} {K : Fz} (ts : List Nat) (h : ∃ orc,Qm E.toBase orc∧Rj E orc false n l ts (fr,σ) = some (fr',σ'))
  {y : Code} (hk : Run E m y ⟨As n fr',σ'⟩ K) : Run E m (.seq (.region id l.toArray false) y) ⟨As n fr,σ⟩ K:=by
 obtain ⟨orc,hO,h⟩:=h
 exact Ac6 hE hO ts h hk
theorem Rx (hE : E.Ok) (hP : E.P.follows .mixedOrders = true) {m n id : Nat} {l : List Oper} (T : List (List Nat)) (hok1 : Lu l.toArray T = true) (hok2 : Ko E l.toArray T = true) {fr fr' : Fr} {σ σ' : Am} {K : Fz} (ts : List Nat)
  (h : ∃ orc,Qm E.toBase orc∧Rj E orc true n l ts (fr,σ) = some (fr',σ')) {y : Code} (hk : Run E m y ⟨As n fr',σ'⟩ K) : Run E m (.seq (.region id l.toArray true) y) ⟨As n fr,σ⟩ K:=by
 obtain ⟨orc,hO,h⟩:=h
 exact AcW hE hO hP T hok1 hok2 ts h hk
def Y5 (E : Env) (n : Nat) (K : Fz) : Prop:=∀ st st',Weak E n st st'→K .normal st'→K .normal st
theorem Uh {n : Nat} {y : Code} {K : Fz} : Y5 E n (Aan E n y K):=fun st st' h k => Gu h k
theorem Gi {n : Nat} {V : Type} {S : V→St} {J : V→Prop} {K : Fz} : Y5 E n (Ve E n S J K):=fun st st' h k => by
 obtain ⟨v,hv,hw⟩:=k
 exact ⟨v,hv,h.trans hw⟩
theorem AhH {n : Nat} {V X : Type} {S : V→St} {o : V ⊕ X} {K : Fz} : Y5 E n (lpK E n S o K):=fun st st' h k => by
 obtain ⟨v,hv,hw⟩:=k
 exact ⟨v,hv,h.trans hw⟩
theorem Ed {n i : Nat} {K : Fz} (h : Y5 E n K) : Y5 E n (Lq i K):=h
theorem Rq {n : Nat} {K : Fz} (h : Y5 E n K) : Y5 E n (AlC K):=h
theorem Qb (hE : E.Ok) {m n id : Nat} {l : List Oper} {fr fr' : Fr} {σ σ' : Am} {K : Fz} (hw : Y5 E m K) (ts : List Nat) (h : ∃ orc,Qm E.toBase orc∧Rj E orc false n l ts (fr,σ) = some (fr',σ'))
  (hk : K .normal ⟨As n fr',σ'⟩) : Run E m (.region id l.toArray false) ⟨As n fr,σ⟩ K:=by
 obtain ⟨orc,hO,h⟩:=h
 simp only [Rj,Option.bind_eq_some_iff,Option.some.injEq,Prod.mk.injEq] at h
 obtain ⟨⟨fr1,σ1⟩,h1,rfl,rfl⟩:=h
 exact Agn hE hO h1 (hw _ _ (Iv _ _ _ _ _) hk)
theorem Aej (hE : E.Ok) (hP : E.P.follows .mixedOrders = true) {m n id : Nat} {l : List Oper} (T : List (List Nat)) (hok1 : Lu l.toArray T = true) (hok2 : Ko E l.toArray T = true) {fr fr' : Fr} {σ σ' : Am} {K : Fz} (hw : Y5 E m K) (ts : List Nat)
  (h : ∃ orc,Qm E.toBase orc∧Rj E orc true n l ts (fr,σ) = some (fr',σ')) (hk : K .normal ⟨As n fr',σ'⟩) : Run E m (.region id l.toArray true) ⟨As n fr,σ⟩ K:=by
 obtain ⟨orc,hO,h⟩:=h
 simp only [Rj,Option.bind_eq_some_iff,Option.some.injEq,Prod.mk.injEq] at h
 obtain ⟨⟨fr1,σ1⟩,h1,rfl,rfl⟩:=h
 exact AeT hE hO hP T hok1 hok2 h1 (hw _ _ (Iv _ _ _ _ _) hk)
section
variable {l : List AV} {f : Bool} {els : List (List AV)} {a b c d : Nat}
theorem AmU (x : Int) : (i64 x).scalar = true:=rfl
theorem AnW (x : Int) : (i64 x).flatAgg = true:=rfl
theorem AoF (x : Int) : (i64 x).flat = true:=rfl
theorem Am4 (x : Int) : C3 (i64 x) = []:=rfl
theorem Anm (x : Int) : C3 (.agg (i64 x :: l)) = C3 (.agg l):=rfl
theorem ArG (x : UInt8) : (u8 x).scalar = true:=rfl
theorem AsI (x : UInt8) : (u8 x).flatAgg = true:=rfl
theorem Aqr (x : UInt8) : (u8 x).flat = true:=rfl
theorem ArV (x : UInt8) : C3 (u8 x) = []:=rfl
theorem AsQ (x : UInt8) : C3 (.agg (u8 x :: l)) = C3 (.agg l):=rfl
theorem Apf (x : UInt16) : (u16 x).scalar = true:=rfl
theorem Ane (x : UInt16) : (u16 x).flatAgg = true:=rfl
theorem An1 (x : UInt16) : (u16 x).flat = true:=rfl
theorem AnZ (x : UInt16) : C3 (u16 x) = []:=rfl
theorem Al4 (x : UInt16) : C3 (.agg (u16 x :: l)) = C3 (.agg l):=rfl
theorem Aph (x : UInt32) : (u32 x).scalar = true:=rfl
theorem AoW (x : UInt32) : (u32 x).flatAgg = true:=rfl
theorem AnT (x : UInt32) : (u32 x).flat = true:=rfl
theorem Amy (x : UInt32) : C3 (u32 x) = []:=rfl
theorem Anh (x : UInt32) : C3 (.agg (u32 x :: l)) = C3 (.agg l):=rfl
theorem Aos (x : UInt64) : (u64 x).scalar = true:=rfl
theorem Am1 (x : UInt64) : (u64 x).flatAgg = true:=rfl
theorem AnB (x : UInt64) : (u64 x).flat = true:=rfl
theorem Ans (x : UInt64) : C3 (u64 x) = []:=rfl
theorem Al7 (x : UInt64) : C3 (.agg (u64 x :: l)) = C3 (.agg l):=rfl
theorem AkA (x : Bool) : (AV.bool x).scalar = true:=rfl
theorem Ak7 (x : Bool) : (AV.bool x).flatAgg = true:=rfl
theorem Ajn (x : Bool) : (AV.bool x).flat = true:=rfl
theorem Aji (x : Bool) : C3 (AV.bool x) = []:=rfl
theorem AiS (x : Bool) : C3 (.agg (AV.bool x :: l)) = C3 (.agg l):=rfl
theorem Aoj (x : List UInt8) : (AV.str x).scalar = true:=rfl
theorem AlJ (x : List UInt8) : (AV.str x).flatAgg = true:=rfl
theorem Anc (x : List UInt8) : (AV.str x).flat = true:=rfl
theorem AmC (x : List UInt8) : C3 (AV.str x) = []:=rfl
theorem Apl (x : List UInt8) : C3 (.agg (AV.str x :: l)) = C3 (.agg l):=rfl
theorem Asc : (AV.sl f els).scalar = false:=rfl
theorem ArW : (AV.bs f a b c d).scalar = false:=rfl
theorem Al0 : (AV.agg l).scalar = l.all AV.flat:=rfl
theorem Amw : (AV.tup l).scalar = l.all AV.flatAgg:=rfl
theorem AqC : (AV.sl f els).flatAgg = false:=rfl
theorem ApH : (AV.bs f a b c d).flatAgg = false:=rfl
theorem Apt : (AV.agg l).flatAgg = l.all AV.flat:=rfl
theorem Asr : (AV.sl f els).flat = false:=rfl
theorem Ap1 : (AV.bs f a b c d).flat = false:=rfl
theorem ApS : C3 (.sl f els) = []:=rfl
theorem AqW : C3 (.bs f a b c d) = [a]:=rfl
theorem Ara {g : FuncId} : C3 (.fn g l) = []:=rfl
theorem AlF : C3 (.ref a b) = []:=rfl
theorem AiX : C3 (.tref a b) = []:=rfl
theorem AiY : C3 (.nref a) = []:=rfl
theorem AiQ : C3 (.mref a) = []:=rfl
theorem Amx : C3 (.tup l) = []:=rfl
theorem AiT : C3 .junk = []:=rfl
theorem Am6 : C3 (.agg []) = []:=rfl
theorem Ap3 : C3 (.agg (.sl f els :: l)) = C3 (.agg l):=rfl
theorem Aqn : C3 (.agg (.bs f a b c d :: l)) = a :: C3 (.agg l):=rfl
end
theorem L0 {m n : Nat} (h : InR (m : Int) n) : m < n:=by have:=h.2;simpa using this
attribute [go_sem] AiY AiQ AiX AmU AnW AoF Am4 Anm ArG AsI Aqr ArV AsQ Apf Ane An1 AnZ Al4 Aph AoW AnT Amy Anh Aos Am1 AnB Ans Al7 AkA Ak7 Ajn Aji AiS Aoj AlJ Anc AmC Apl Asc ArW Al0 Amw AqC ApH Apt Asr Ap1 ApS AqW Ara AlF Amx AiT Am6 Ap3 Aqn
section
variable {sel : List Nat}
theorem Ai2 {a : Int} : wk1 sel (i64 a) (i64 a) = True:=by simp [wk1,wk0,i64,AV.closed]
theorem Amf {a : UInt8} : wk1 sel (u8 a) (u8 a) = True:=by simp [wk1,wk0,u8,AV.closed]
theorem AiZ {a : UInt64} : wk1 sel (u64 a) (u64 a) = True:=by simp [wk1,wk0,u64,AV.closed]
theorem Ahi {a : Bool} : wk1 sel (.bool a) (.bool a) = True:=by simp [wk1,wk0,AV.closed]
theorem AkP {a : List UInt8} : wk1 sel (.str a) (.str a) = True:=by simp [wk1,wk0,AV.closed]
theorem AlI {f : FuncId} : wk1 sel (.fn f []) (.fn f []) = True:=by simp [wk1,wk0,AV.closed]
theorem Aon {f f' : Bool} {a b : List (List AV)} : wk1 sel (.sl f a) (.sl f' b) = ((f' = true→f = true)∧a = b):=rfl
theorem AlG {f f' : Bool} {i t o l i' t' o' l' : Nat} : wk1 sel (.bs f i t o l) (.bs f' i' t' o' l') = (sel[i']? = some i∧(f' = true→f = true)∧t = t'∧o = o'∧l = l'):=rfl
theorem Aht {i i' : Nat} : wk1 sel (.mref i) (.mref i') = (sel[i']? = some i):=rfl
theorem Ahe {i i' : Nat} : wk0 sel (.mref i) (.mref i') = (sel[i']? = some i):=rfl
theorem AhM {i i' : Nat} : wk1 sel (.nref i) (.nref i') = (sel[i']? = some i):=rfl
theorem Agq {i i' : Nat} : wk0 sel (.nref i) (.nref i') = (sel[i']? = some i):=rfl
theorem Agw {i o i' o' : Nat} : wk1 sel (.tref i o) (.tref i' o') = (sel[i']? = some i∧o = o'):=rfl
theorem Ahj {i o i' o' : Nat} : wk0 sel (.tref i o) (.tref i' o') = (sel[i']? = some i∧o = o'):=rfl
theorem Akk {i o i' o' : Nat} : wk1 sel (.ref i o) (.ref i' o') = (sel[i']? = some i∧o = o'):=rfl
theorem AiK {a b : List AV} : wk1 sel (.agg a) (.agg b) = wkL sel a b:=rfl
theorem Alh {a b : List AV} : wk1 sel (.tup a) (.tup b) = wkL sel a b:=rfl
theorem AjA {a : Int} : wk0 sel (i64 a) (i64 a) = True:=by simp [wk0,i64,AV.closed]
theorem Ak8 {a : UInt64} : wk0 sel (u64 a) (u64 a) = True:=by simp [wk0,u64,AV.closed]
theorem Acx {a : Bool} : wk0 sel (.bool a) (.bool a) = True:=by simp [wk0,AV.closed]
theorem AjZ {a : List UInt8} : wk0 sel (.str a) (.str a) = True:=by simp [wk0,AV.closed]
theorem AeK {f : FuncId} {i t i' : Nat} : wk0 sel (.fn f [.tref i t]) (.fn f [.tref i' t]) = (sel[i']? = some i):=by
 refine propext ⟨fun h => ?_,fun h => .inr ⟨rfl,⟨h,rfl⟩,trivial⟩⟩
 rcases h with ⟨_,h⟩ | ⟨_,⟨h,_⟩,_⟩
 ·simp [AV.closed] at h
 ·exact h
theorem AjQ {f : FuncId} {i t i' : Nat} : wk1 sel (.fn f [.tref i t]) (.fn f [.tref i' t]) = (sel[i']? = some i):=AeK
theorem Age {f : FuncId} {i o i' : Nat} : wk0 sel (.fn f [.ref i o]) (.fn f [.ref i' o]) = (sel[i']? = some i):=by
 refine propext ⟨fun h => ?_,fun h => .inr ⟨rfl,⟨h,rfl⟩,trivial⟩⟩
 rcases h with ⟨_,h⟩ | ⟨_,⟨h,_⟩,_⟩
 ·simp [AV.closed] at h
 ·exact h
theorem Ala {f : FuncId} {i o i' : Nat} : wk1 sel (.fn f [.ref i o]) (.fn f [.ref i' o]) = (sel[i']? = some i):=Age
theorem Aoe {f f' : Bool} {a b : List (List AV)} : wk0 sel (.sl f a) (.sl f' b) = ((f' = true→f = true)∧a = b):=rfl
theorem AmY {f f' : Bool} {i t o l i' t' o' l' : Nat} : wk0 sel (.bs f i t o l) (.bs f' i' t' o' l') = (sel[i']? = some i∧(f' = true→f = true)∧t = t'∧o = o'∧l = l'):=rfl
theorem Ajr {i o i' o' : Nat} : wk0 sel (.ref i o) (.ref i' o') = (sel[i']? = some i∧o = o'):=rfl
theorem Ae3 {cs cs' : List AV} {ro ro' : Bool} : AdO sel (.box cs ro) (.box cs' ro') = (ro = ro'∧wkL sel cs cs'):=rfl
theorem Afn {k k' : Nat} {els els' : List (List AV)} {ro ro' : Bool} : AdO sel (.buf k els ro) (.buf k' els' ro') = (k = k'∧ro = ro'∧els = els'∧C7 els' = true):=rfl
end
def P3 (E : Env) (t : TypeId) : Bool:=match E.tab t with
 | some d => match d.desc with
  | .slice e => match E.tab e with
   | some de => match de.desc with
    | .int .u8 => true
    | _ => false
   | none => false
  | _ => false
 | none => false
def Ady (E : Env) (t : TypeId) : Bool:=match E.tab t with
 | some d => match d.desc with
  | .string => true
  | _ => false
 | none => false
theorem Uy {σ : Am} {s d : TypeId} {x : AV} (hx : (∃ f els,x = .sl f els)∨(∃ f i t o l,x = .bs f i t o l)) (hs : P3 E s = true) (hd : Ady E d = true) : Bh E σ s d x = match Ie σ x with
    | some els => match bytesOf els with
      | some l => some (.str l,σ)
      | none => none
    | none => none:=by
  unfold P3 at hs
  unfold Ady at hd
  split at hs <;> try cases hs
  rename_i sd hsd
  split at hs <;> try cases hs
  rename_i e he
  split at hs <;> try cases hs
  rename_i de hde
  split at hs <;> try cases hs
  rename_i hu
  split at hd <;> try cases hd
  rename_i dd hdd
  split at hd <;> try cases hd
  rename_i hstr
  unfold Bh
  rcases hx with ⟨f,els,rfl⟩ | ⟨f,i,t,o,l,rfl⟩
  · simp only [hsd,hdd,he,hstr,hde,hu,Jc]
    cases Ie σ (.sl f els) <;> rfl
  · simp only [hsd,hdd,he,hstr,hde,hu,Jc]
    cases Ie σ (.bs f i t o l) <;> rfl
theorem Abl {σ : Am} {s d : TypeId} {f : Bool} {els : List (List AV)} (hs : P3 E s = true) (hd : Ady E d = true) : Bh E σ s d (.sl f els) = match Ie σ (.sl f els) with
    | some els => match bytesOf els with
      | some l => some (.str l,σ)
      | none => none
    | none => none:=Uy (.inl ⟨_,_,rfl⟩) hs hd
theorem Uu {σ : Am} {s d : TypeId} {l : List UInt8} (hs : Ady E s = true) (hd : P3 E d = true) : Bh E σ s d (.str l) = some (.bs false σ.length l.length 0 l.length,σ ++ [.buf 1 (L cU8 l) false]):=by
 unfold P3 at hd
 unfold Ady at hs
 split at hd <;> try cases hd
 rename_i sd hsd
 split at hd <;> try cases hd
 rename_i e he
 split at hd <;> try cases hd
 rename_i de hde
 split at hd <;> try cases hd
 rename_i hu
 split at hs <;> try cases hs
 rename_i dd hdd
 unfold Bh
 simp only [hsd,hdd,he,hde,hu]
 rfl
theorem ob_s {a b : Bool} : (some a == some b) = (a == b):=rfl
theorem ob_n {b : Bool} : ((none : Option Bool) == some b) = false:=rfl
attribute [go_sem] ob_s ob_n
attribute [go_sem] AeK AjQ Age Ala AhM Agq Aht Ahe Agw Ahj Ai2 Amf AiZ Ahi AkP AlI Aon AlG Akk AiK Alh AjA Ak8 Acx AjZ Aoe AmY Ajr Ae3 Afn Acz wkL Am5 Abl Uu P3 Ady
attribute [go_sem] List.getElem?_cons_zero List.getElem?_cons_succ List.set_cons_zero List.set_cons_succ List.length_cons List.length_nil List.cons_append List.nil_append List.append_nil List.map_cons List.map_nil List.flatMap_cons List.flatMap_nil List.all_cons List.all_nil List.drop_zero List.drop_succ_cons List.drop_nil List.take_zero List.take_succ_cons List.take_nil List.length_append List.length_set List.length_replicate List.take_length List.replicate_zero List.replicate_succ Option.map_some Option.map_none Option.bind_some Option.bind_none Option.isSome_some Option.getD_some Option.some.injEq Prod.mk.injEq Bool.true_and Bool.false_and Bool.and_true Bool.and_false Bool.and_self Bool.not_true Bool.not_false Bool.true_or Bool.false_or and_true true_and and_self and_false false_and or_true true_or or_false false_or implies_true not_true_eq_false not_false_eq_true ne_eq imp_self false_imp_iff decide_true decide_false Bool.false_eq_true Nat.zero_add Nat.add_zero Nat.sub_zero Nat.mul_one eq_self List.cons_ne_nil reduceCtorEq beq_self_eq_true List.mem_cons List.not_mem_nil forall_eq_or_imp forall_eq
end Go.Rv
