/-
  Part 21.
-/
import Derived.Test.YtioapcamanmoiaaDoorYX320
namespace Go.Rv
set_option linter.unusedVariables false
set_option linter.unusedSimpArgs false
variable {E : Env}
theorem Qr (hE : E.Ok) {m n id : Nat} {l : List Oper} {fr fr' : Fr} {σ σ' : Am} {K : E2} (ts : List Nat) (h : ∃ orc,O1 E.toBase orc∧Q5 E orc false n l ts (fr,σ) = some (fr',σ'))
  {y : Code} (hk : Run E m y ⟨Ar n fr',σ'⟩ K) : Run E m (.seq (.region id l.toArray false) y) ⟨Ar n fr,σ⟩ K:=by
 obtain ⟨orc,hO,h⟩:=h
 exact AeN hE hO ts h hk
theorem W0 (hE : E.Ok) (hP : E.P.follows .mixedOrders = true) {m n id : Nat} {l : List Oper} (T : List (List Nat)) (hok1 : Iy l.toArray T = true) (hok2 : L1 E l.toArray T = true) {fr fr' : Fr} {σ σ' : Am} {K : E2} (ts : List Nat)
  (h : ∃ orc,O1 E.toBase orc∧Q5 E orc true n l ts (fr,σ) = some (fr',σ')) {y : Code} (hk : Run E m y ⟨Ar n fr',σ'⟩ K) : Run E m (.seq (.region id l.toArray true) y) ⟨Ar n fr,σ⟩ K:=by
 obtain ⟨orc,hO,h⟩:=h
 exact AeB hE hO hP T hok1 hok2 ts h hk
def Aar (E : Env) (n : Nat) (K : E2) : Prop:=∀ st st',Weak E n st st'→K .normal st'→K .normal st
theorem N4 {n : Nat} {y : Code} {K : E2} : Aar E n (Agk E n y K):=fun st st' h k => G8 h k
theorem W7 {n : Nat} {V : Type} {S : V→St} {J : V→Prop} {K : E2} : Aar E n (Acg E n S J K):=fun st st' h k => by
 obtain ⟨v,hv,hw⟩:=k
 exact ⟨v,hv,h.trans hw⟩
theorem Ak5 {n : Nat} {V X : Type} {S : V→St} {o : V ⊕ X} {K : E2} : Aar E n (lpK E n S o K):=fun st st' h k => by
 obtain ⟨v,hv,hw⟩:=k
 exact ⟨v,hv,h.trans hw⟩
theorem Qs {n i : Nat} {K : E2} (h : Aar E n K) : Aar E n (Nh i K):=h
theorem Uh {n : Nat} {K : E2} (h : Aar E n K) : Aar E n (Aqv K):=h
theorem Rc (hE : E.Ok) {m n id : Nat} {l : List Oper} {fr fr' : Fr} {σ σ' : Am} {K : E2} (hw : Aar E m K) (ts : List Nat) (h : ∃ orc,O1 E.toBase orc∧Q5 E orc false n l ts (fr,σ) = some (fr',σ'))
  (hk : K .normal ⟨Ar n fr',σ'⟩) : Run E m (.region id l.toArray false) ⟨Ar n fr,σ⟩ K:=by
 obtain ⟨orc,hO,h⟩:=h
 simp only [Q5,Option.bind_eq_some_iff,Option.some.injEq,Prod.mk.injEq] at h
 obtain ⟨⟨fr1,σ1⟩,h1,rfl,rfl⟩:=h
 exact Aii hE hO h1 (hw _ _ (H3 _ _ _ _ _) hk)
theorem AfV (hE : E.Ok) (hP : E.P.follows .mixedOrders = true) {m n id : Nat} {l : List Oper} (T : List (List Nat)) (hok1 : Iy l.toArray T = true) (hok2 : L1 E l.toArray T = true) {fr fr' : Fr} {σ σ' : Am} {K : E2} (hw : Aar E m K) (ts : List Nat)
  (h : ∃ orc,O1 E.toBase orc∧Q5 E orc true n l ts (fr,σ) = some (fr',σ')) (hk : K .normal ⟨Ar n fr',σ'⟩) : Run E m (.region id l.toArray true) ⟨Ar n fr,σ⟩ K:=by
 obtain ⟨orc,hO,h⟩:=h
 simp only [Q5,Option.bind_eq_some_iff,Option.some.injEq,Prod.mk.injEq] at h
 obtain ⟨⟨fr1,σ1⟩,h1,rfl,rfl⟩:=h
 exact AiY hE hO hP T hok1 hok2 h1 (hw _ _ (H3 _ _ _ _ _) hk)
section
variable {l : List AV} {f : Bool} {els : List (List AV)} {a b c d : Nat}
theorem AqB (x : Int) : (i64 x).scalar = true:=rfl
theorem AoB (x : Int) : (i64 x).flatAgg = true:=rfl
theorem AoM (x : Int) : (i64 x).flat = true:=rfl
theorem ApB (x : Int) : C4 (i64 x) = []:=rfl
theorem AqF (x : Int) : C4 (.agg (i64 x :: l)) = C4 (.agg l):=rfl
theorem Arx (x : UInt8) : (u8 x).scalar = true:=rfl
theorem AtC (x : UInt8) : (u8 x).flatAgg = true:=rfl
theorem Auq (x : UInt8) : (u8 x).flat = true:=rfl
theorem Aut (x : UInt8) : C4 (u8 x) = []:=rfl
theorem Aug (x : UInt8) : C4 (.agg (u8 x :: l)) = C4 (.agg l):=rfl
theorem Apm (x : UInt16) : (u16 x).scalar = true:=rfl
theorem ApK (x : UInt16) : (u16 x).flatAgg = true:=rfl
theorem Aqf (x : UInt16) : (u16 x).flat = true:=rfl
theorem ApL (x : UInt16) : C4 (u16 x) = []:=rfl
theorem ApD (x : UInt16) : C4 (.agg (u16 x :: l)) = C4 (.agg l):=rfl
theorem ApS (x : UInt32) : (u32 x).scalar = true:=rfl
theorem AoH (x : UInt32) : (u32 x).flatAgg = true:=rfl
theorem Ap2 (x : UInt32) : (u32 x).flat = true:=rfl
theorem Apr (x : UInt32) : C4 (u32 x) = []:=rfl
theorem Apv (x : UInt32) : C4 (.agg (u32 x :: l)) = C4 (.agg l):=rfl
theorem Aqt (x : UInt64) : (u64 x).scalar = true:=rfl
theorem Ao4 (x : UInt64) : (u64 x).flatAgg = true:=rfl
theorem Aoy (x : UInt64) : (u64 x).flat = true:=rfl
theorem AoC (x : UInt64) : C4 (u64 x) = []:=rfl
theorem AoX (x : UInt64) : C4 (.agg (u64 x :: l)) = C4 (.agg l):=rfl
theorem Anm (x : Bool) : (AV.bool x).scalar = true:=rfl
theorem Anr (x : Bool) : (AV.bool x).flatAgg = true:=rfl
theorem AmP (x : Bool) : (AV.bool x).flat = true:=rfl
theorem Ang (x : Bool) : C4 (AV.bool x) = []:=rfl
theorem Aol (x : Bool) : C4 (.agg (AV.bool x :: l)) = C4 (.agg l):=rfl
theorem Apx (x : List UInt8) : (AV.str x).scalar = true:=rfl
theorem ApH (x : List UInt8) : (AV.str x).flatAgg = true:=rfl
theorem Aqk (x : List UInt8) : (AV.str x).flat = true:=rfl
theorem ApU (x : List UInt8) : C4 (AV.str x) = []:=rfl
theorem Ao1 (x : List UInt8) : C4 (.agg (AV.str x :: l)) = C4 (.agg l):=rfl
theorem ArD : (AV.sl f els).scalar = false:=rfl
theorem AsA : (AV.bs f a b c d).scalar = false:=rfl
theorem Aqa : (AV.agg l).scalar = l.all AV.flat:=rfl
theorem Apz : (AV.tup l).scalar = l.all AV.flatAgg:=rfl
theorem At3 : (AV.sl f els).flatAgg = false:=rfl
theorem At6 : (AV.bs f a b c d).flatAgg = false:=rfl
theorem AoD : (AV.agg l).flatAgg = l.all AV.flat:=rfl
theorem AsQ : (AV.sl f els).flat = false:=rfl
theorem Ary : (AV.bs f a b c d).flat = false:=rfl
theorem Arg : C4 (.sl f els) = []:=rfl
theorem ArO : C4 (.bs f a b c d) = [a]:=rfl
theorem AsR {g : FuncId} : C4 (.fn g l) = []:=rfl
theorem Aqj : C4 (.ref a b) = []:=rfl
theorem AmD : C4 (.tref a b) = []:=rfl
theorem AnZ : C4 (.nref a) = []:=rfl
theorem AnP : C4 (.mref a) = []:=rfl
theorem AoP : C4 (.tup l) = []:=rfl
theorem Al4 : C4 .junk = []:=rfl
theorem ApG : C4 (.agg []) = []:=rfl
theorem At4 : C4 (.agg (.sl f els :: l)) = C4 (.agg l):=rfl
theorem Arn : C4 (.agg (.bs f a b c d :: l)) = a :: C4 (.agg l):=rfl
end
theorem Anq {α : Type} {l m : List α} : (ovl l (m.take (min m.length l.length)) 0).length = l.length:=by
 simp [ovl];omega
attribute [go_sem] Anq
theorem Aat {m n : Nat} (h : InR (m : Int) n) : m < n:=by have:=h.2;simpa using this
attribute [go_sem] AnZ AnP AmD AqB AoB AoM ApB AqF Arx AtC Auq Aut Aug Apm ApK Aqf ApL ApD ApS AoH Ap2 Apr Apv Aqt Ao4 Aoy AoC AoX Anm Anr AmP Ang Aol Apx ApH Aqk ApU Ao1 ArD AsA Aqa Apz At3 At6 AoD AsQ Ary Arg ArO AsR Aqj AoP Al4 ApG At4 Arn
section
variable {sel : List Nat}
theorem Al1 {a : Int} : wk1 sel (i64 a) (i64 a) = True:=by simp [wk1,wk0,i64,AV.closed]
theorem ApC {a : UInt8} : wk1 sel (u8 a) (u8 a) = True:=by simp [wk1,wk0,u8,AV.closed]
theorem An6 {a : UInt64} : wk1 sel (u64 a) (u64 a) = True:=by simp [wk1,wk0,u64,AV.closed]
theorem Ajy {a : Bool} : wk1 sel (.bool a) (.bool a) = True:=by simp [wk1,wk0,AV.closed]
theorem Ao0 {f : FuncId} : wk1 sel (.fn f []) (.fn f []) = True:=by simp [wk1,wk0,AV.closed]
theorem Ao7 {f f' : Bool} {a b : List (List AV)} : wk1 sel (.sl f a) (.sl f' b) = ((f' = true→f = true)∧a = b):=rfl
theorem Apk {f f' : Bool} {i t o l i' t' o' l' : Nat} : wk1 sel (.bs f i t o l) (.bs f' i' t' o' l') = (sel[i']? = some i∧(f' = true→f = true)∧t = t'∧o = o'∧l = l'):=rfl
theorem Ak8 {i i' : Nat} : wk1 sel (.mref i) (.mref i') = (sel[i']? = some i):=rfl
theorem AkI {i i' : Nat} : wk0 sel (.mref i) (.mref i') = (sel[i']? = some i):=rfl
theorem AjR {i i' : Nat} : wk1 sel (.nref i) (.nref i') = (sel[i']? = some i):=rfl
theorem Alb {i i' : Nat} : wk0 sel (.nref i) (.nref i') = (sel[i']? = some i):=rfl
theorem Ajj {i o i' o' : Nat} : wk1 sel (.tref i o) (.tref i' o') = (sel[i']? = some i∧o = o'):=rfl
theorem Alc {i o i' o' : Nat} : wk0 sel (.tref i o) (.tref i' o') = (sel[i']? = some i∧o = o'):=rfl
theorem Amd {i o i' o' : Nat} : wk1 sel (.ref i o) (.ref i' o') = (sel[i']? = some i∧o = o'):=rfl
theorem AnB {a b : List AV} : wk1 sel (.agg a) (.agg b) = wkL sel a b:=rfl
theorem Anx {a b : List AV} : wk1 sel (.tup a) (.tup b) = wkL sel a b:=rfl
theorem Am6 {a : Int} : wk0 sel (i64 a) (i64 a) = True:=by simp [wk0,i64,AV.closed]
theorem Aij {a : UInt8} : wk0 sel (u8 a) (u8 a) = True:=by simp [wk0,u8,AV.closed]
theorem Aib {a : UInt32} : wk0 sel (u32 a) (u32 a) = True:=by simp [wk0,u32,AV.closed]
theorem AnN {a : UInt64} : wk0 sel (u64 a) (u64 a) = True:=by simp [wk0,u64,AV.closed]
theorem AeG {a : Bool} : wk0 sel (.bool a) (.bool a) = True:=by simp [wk0,AV.closed]
theorem An2 {a : List UInt8} : wk0 sel (.str a) (.str a) = True:=by simp [wk0,AV.closed]
theorem Air {f : FuncId} {i o i' : Nat} : wk0 sel (.fn f [.ref i o]) (.fn f [.ref i' o]) = (sel[i']? = some i):=by
 refine propext ⟨fun h => ?_,fun h => .inr ⟨rfl,⟨h,rfl⟩,trivial⟩⟩
 rcases h with ⟨_,h⟩ | ⟨_,⟨h,_⟩,_⟩
 ·simp [AV.closed] at h
 ·exact h
theorem Ani {f : FuncId} {i o i' : Nat} : wk1 sel (.fn f [.ref i o]) (.fn f [.ref i' o]) = (sel[i']? = some i):=Air
theorem AqG {f f' : Bool} {a b : List (List AV)} : wk0 sel (.sl f a) (.sl f' b) = ((f' = true→f = true)∧a = b):=rfl
theorem Ap8 {f f' : Bool} {i t o l i' t' o' l' : Nat} : wk0 sel (.bs f i t o l) (.bs f' i' t' o' l') = (sel[i']? = some i∧(f' = true→f = true)∧t = t'∧o = o'∧l = l'):=rfl
theorem AlS {i o i' o' : Nat} : wk0 sel (.ref i o) (.ref i' o') = (sel[i']? = some i∧o = o'):=rfl
theorem AiQ {cs cs' : List AV} {ro ro' : Bool} : Abg sel (.box cs ro) (.box cs' ro') = (ro = ro'∧wkL sel cs cs'):=rfl
theorem Ah8 {k k' : Nat} {els els' : List (List AV)} {ro ro' : Bool} : Abg sel (.buf k els ro) (.buf k' els' ro') = (k = k'∧ro = ro'∧els = els'∧C0 els' = true):=rfl
end
def Ac7 (E : Env) (t : TypeId) : Bool:=match E.tab t with
 | some d => match d.desc with
  | .slice e => match E.tab e with
   | some de => match de.desc with
    | .int .u8 => true
    | _ => false
   | none => false
  | _ => false
 | none => false
def AnD (E : Env) (t : TypeId) : Bool:=match E.tab t with
 | some d => match d.desc with
  | .string => true
  | _ => false
 | none => false
theorem Xz {σ : Am} {s d : TypeId} {l : List UInt8} (hs : AnD E s = true) (hd : Ac7 E d = true) : Cx E σ s d (.str l) = some (.bs false σ.length l.length 0 l.length,σ ++ [.buf 1 (L cU8 l) false]):=by
 unfold Ac7 at hd
 unfold AnD at hs
 split at hd <;> try cases hd
 rename_i sd hsd
 split at hd <;> try cases hd
 rename_i e he
 split at hd <;> try cases hd
 rename_i de hde
 split at hd <;> try cases hd
 rename_i hu
 split at hs <;> try cases hs
 rename_i dd hdd
 unfold Cx
 simp only [hsd,hdd,he,hde,hu]
 rfl
theorem ob_s {a b : Bool} : (some a == some b) = (a == b):=rfl
theorem ob_n {b : Bool} : ((none : Option Bool) == some b) = false:=rfl
attribute [go_sem] ob_s ob_n
attribute [go_sem] Air Ani AjR Alb Ak8 AkI Ajj Alc Al1 ApC An6 Ajy Ao0 Ao7 Apk Amd AnB Anx Am6 Aij Aib AnN AeG An2 AqG Ap8 AlS AiQ Ah8 Afm wkL Aqx Xz Ac7 AnD
attribute [go_sem] List.getElem?_cons_zero List.getElem?_cons_succ List.set_cons_zero List.set_cons_succ List.length_cons List.length_nil List.cons_append List.nil_append List.append_nil List.map_cons List.map_nil List.flatMap_cons List.flatMap_nil List.all_cons List.all_nil List.drop_zero List.drop_succ_cons List.drop_nil List.take_zero List.take_succ_cons List.take_nil List.length_append List.length_set List.length_replicate List.take_length List.replicate_zero List.replicate_succ Option.map_some Option.map_none Option.bind_some Option.bind_none Option.isSome_some Option.getD_some Option.some.injEq Prod.mk.injEq Bool.true_and Bool.false_and Bool.and_true Bool.and_false Bool.and_self Bool.not_true Bool.not_false Bool.true_or Bool.false_or and_true true_and and_self and_false false_and or_true true_or or_false false_or implies_true not_true_eq_false not_false_eq_true ne_eq imp_self false_imp_iff decide_true decide_false Bool.false_eq_true Nat.zero_add Nat.add_zero Nat.sub_zero Nat.mul_one eq_self List.cons_ne_nil reduceCtorEq beq_self_eq_true List.mem_cons List.not_mem_nil forall_eq_or_imp forall_eq
end Go.Rv
