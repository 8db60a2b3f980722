/-
  Part 20.
-/
import Derived.Test.YtldngkmkhfddpaaGreatDoorYW19
namespace Go.Rv
set_option linter.unusedVariables false
set_option linter.unusedSimpArgs false
variable{m n id i i' o o':Nat}{fr fr':Fr}{O O':Ac}{K:CX}
variable {E:Env}
theorem EX(hE:E.Ok){l:List Oper}(ts:List Nat)(h:∃orc,H3 E.toBase orc/\Ib E orc false n l ts (fr,O)=some (fr',O')) {y:Code} (hk:Run E m y ⟨Ah n fr',O'⟩ K):Run E m (.seq (.region id l.toArray false) y) ⟨Ah n fr,O⟩ K:=by
 obtain⟨orc,hO,h⟩:=h;exact XS hE hO ts h hk
theorem AbP(hE:E.Ok)(hP:E.P.follows .mixedOrders=true){l:List Oper}(T:List (List Nat))(hok1:F3 l.toArray T=true)(hok2:Il E l.toArray T=true)(ts:List Nat) (h:∃orc,H3 E.toBase orc/\Ib E orc true n l ts (fr,O)=some (fr',O')) {y:Code} (hk:Run E m y ⟨Ah n fr',O'⟩ K):Run E m (.seq (.region id l.toArray true) y) ⟨Ah n fr,O⟩ K:=by
 obtain⟨orc,hO,h⟩:=h;exact XJ hE hO hP T hok1 hok2 ts h hk
def MC(E:Env)(n:Nat)(K:CX):Prop:=∀st st',Weak E n st st'->K .normal st'->K .normal st
theorem EK{y:Code}:MC E n (VC E n y K):=fun st st' h k=>EG h k
theorem Gl{V:Type}{S:V->St}{J:V->Prop}:MC E n (SE E n S J K):=fun st st' h k=>by
 obtain⟨v,hv,hw⟩:=k;exact⟨v,hv,h.trans hw⟩
theorem SD{V X:Type}{S:V->St}{o:V⊕X}:MC E n (lpK E n S o K):=fun st st' h k=>by
 obtain⟨v,hv,hw⟩:=k;exact⟨v,hv,h.trans hw⟩
theorem Eo(h:MC E n K):MC E n (J2 i K):=h
theorem H8(h:MC E n K):MC E n (XO K):=h
theorem C8(hE:E.Ok){l:List Oper}(hw:MC E m K)(ts:List Nat)(h:∃orc,H3 E.toBase orc/\Ib E orc false n l ts (fr,O)=some (fr',O')) (hk:K .normal ⟨Ah n fr',O'⟩):Run E m (.region id l.toArray false) ⟨Ah n fr,O⟩ K:=by
 obtain⟨orc,hO,h⟩:=h;simp only[Ib,AqK,AqG,AqQ]at h;obtain⟨⟨fr1,σ1⟩,h1,rfl,rfl⟩:=h;exact Adl hE hO h1 (hw _ _ (D0 _ _ _ _ _) hk)
theorem Rd(hE:E.Ok)(hP:E.P.follows .mixedOrders=true){l:List Oper}(T:List (List Nat))(hok1:F3 l.toArray T=true)(hok2:Il E l.toArray T=true)(hw:MC E m K)(ts:List Nat) (h:∃orc,H3 E.toBase orc/\Ib E orc true n l ts (fr,O)=some (fr',O')) (hk:K .normal ⟨Ah n fr',O'⟩):Run E m (.region id l.toArray true) ⟨Ah n fr,O⟩ K:=by
 obtain⟨orc,hO,h⟩:=h;simp only[Ib,AqK,AqG,AqQ]at h;obtain⟨⟨fr1,σ1⟩,h1,rfl,rfl⟩:=h;exact AaY hE hO hP T hok1 hok2 h1 (hw _ _ (D0 _ _ _ _ _) hk)
section
variable {l:List AV}{f:Bool}{els:List (List AV)}{a b c d:Nat}
theorem Alc(x:Int):(i64 x).scalar=true:=rfl
theorem Aj9(x:Int):(i64 x).flatAgg=true:=rfl
theorem Amv(x:Int):(i64 x).flat=true:=rfl
theorem Alu(x:Int):Cq (i64 x)=[]:=rfl
theorem AmN(x:Int):Cq (.agg (i64 x::l))=Cq (.agg l):=rfl
theorem AoJ(x:UInt8):(u8 x).scalar=true:=rfl
theorem AoE(x:UInt8):(u8 x).flatAgg=true:=rfl
theorem ApC(x:UInt8):(u8 x).flat=true:=rfl
theorem AoN(x:UInt8):Cq (u8 x)=[]:=rfl
theorem AoV(x:UInt8):Cq (.agg (u8 x::l))=Cq (.agg l):=rfl
theorem AmG(x:UInt16):(u16 x).scalar=true:=rfl
theorem Aly(x:UInt16):(u16 x).flatAgg=true:=rfl
theorem Am9(x:UInt16):(u16 x).flat=true:=rfl
theorem Ajz(x:UInt16):Cq (u16 x)=[]:=rfl
theorem AlU(x:UInt16):Cq (.agg (u16 x::l))=Cq (.agg l):=rfl
theorem Akv(x:UInt32):(u32 x).scalar=true:=rfl
theorem Akw(x:UInt32):(u32 x).flatAgg=true:=rfl
theorem Ajw(x:UInt32):(u32 x).flat=true:=rfl
theorem AkQ(x:UInt32):Cq (u32 x)=[]:=rfl
theorem AlT(x:UInt32):Cq (.agg (u32 x::l))=Cq (.agg l):=rfl
theorem Al3(x:UInt64):(u64 x).scalar=true:=rfl
theorem AjH(x:UInt64):(u64 x).flatAgg=true:=rfl
theorem AkV(x:UInt64):(u64 x).flat=true:=rfl
theorem Amk(x:UInt64):Cq (u64 x)=[]:=rfl
theorem AjD(x:UInt64):Cq (.agg (u64 x::l))=Cq (.agg l):=rfl
theorem Ai5(x:Bool):(AV.bool x).scalar=true:=rfl
theorem Ahy(x:Bool):(AV.bool x).flatAgg=true:=rfl
theorem Ajf(x:Bool):(AV.bool x).flat=true:=rfl
theorem AiC(x:Bool):Cq (AV.bool x)=[]:=rfl
theorem Ahc(x:Bool):Cq (.agg (AV.bool x::l))=Cq (.agg l):=rfl
theorem Amr(x:List UInt8):(AV.str x).scalar=true:=rfl
theorem Aln(x:List UInt8):(AV.str x).flatAgg=true:=rfl
theorem Ami(x:List UInt8):(AV.str x).flat=true:=rfl
theorem Alj(x:List UInt8):Cq (AV.str x)=[]:=rfl
theorem Amy(x:List UInt8):Cq (.agg (AV.str x::l))=Cq (.agg l):=rfl
theorem Ap8:(AV.sl f els).scalar=false:=rfl
theorem Apx:(AV.bs f a b c d).scalar=false:=rfl
theorem Am6:(AV.agg l).scalar=l.all AV.flat:=rfl
theorem Am0:(AV.tup l).scalar=l.all AV.flatAgg:=rfl
theorem Apv:(AV.sl f els).flatAgg=false:=rfl
theorem AoF:(AV.bs f a b c d).flatAgg=false:=rfl
theorem AmK:(AV.agg l).flatAgg=l.all AV.flat:=rfl
theorem AoG:(AV.sl f els).flat=false:=rfl
theorem An1:(AV.bs f a b c d).flat=false:=rfl
theorem Apl:Cq (.sl f els)=[]:=rfl
theorem Aox:Cq (.bs f a b c d)=[a]:=rfl
theorem AoT{g:FuncId}:Cq (.fn g l)=[]:=rfl
theorem Al6:Cq (.ref a b)=[]:=rfl
theorem AhJ:Cq (.tref a b)=[]:=rfl
theorem Ajh:Cq (.nref a)=[]:=rfl
theorem Ai4:Cq (.mref a)=[]:=rfl
theorem AlJ:Cq (.tup l)=[]:=rfl
theorem AhO:Cq .junk=[]:=rfl
theorem Aj3:Cq (.agg [])=[]:=rfl
theorem Apg:Cq (.agg (.sl f els::l))=Cq (.agg l):=rfl
theorem ApX:Cq (.agg (.bs f a b c d::l))=a::Cq (.agg l):=rfl
end
theorem AaM{α:Type}{l m:List α}:(ovl l (m.take (min m.length l.length)) 0).length=l.length:=by
 simp[ovl];omega
attribute [go_sem] AaM
theorem Abm(h:InR (m:Int) n):m<n:=by have:=h.2;simpa using this
attribute [go_sem] Ajh Ai4 AhJ Alc Aj9 Amv Alu AmN AoJ AoE ApC AoN AoV AmG Aly Am9 Ajz AlU Akv Akw Ajw AkQ AlT Al3 AjH AkV Amk AjD Ai5 Ahy Ajf AiC Ahc Amr Aln Ami Alj Amy Ap8 Apx Am6 Am0 Apv AoF AmK AoG An1 Apl Aox AoT Al6 AlJ AhO Aj3 Apg ApX
section
variable {sel:List Nat}
theorem AdN{x:AV}:wk0 sel x .junk=True:=by cases x<;>simp[wk0]
theorem Aia{a:Int}:wk1 sel (i64 a) (i64 a)=True:=by simp[wk1,wk0,i64,AV.closed]
theorem Al7{a:UInt8}:wk1 sel (u8 a) (u8 a)=True:=by simp[wk1,wk0,u8,AV.closed]
theorem Aim{a:UInt64}:wk1 sel (u64 a) (u64 a)=True:=by simp[wk1,wk0,u64,AV.closed]
theorem Af5{a:Bool}:wk1 sel (.bool a) (.bool a)=True:=by simp[wk1,wk0,AV.closed]
theorem Aie{a:List UInt8}:wk1 sel (.str a) (.str a)=True:=by simp[wk1,wk0,AV.closed]
theorem AkW{f:FuncId}:wk1 sel (.fn f []) (.fn f [])=True:=by simp[wk1,wk0,AV.closed]
theorem Ak0{a:List AV}:wk1 sel (.rp a) (.rp a)=True:=by simp[wk1,wk0,AV.closed]
theorem AeS{a:Nat}:wk1 sel (.glob a) (.glob a)=True:=by simp[wk1,wk0,AV.closed]
theorem AlH{f f':Bool}{a b:List (List AV)}:wk1 sel (.sl f a) (.sl f' b)=((f'=true->f=true)/\a=b):=rfl
theorem Alv{f f':Bool}{i t o l i' t' o' l':Nat}:wk1 sel (.bs f i t o l) (.bs f' i' t' o' l')=(sel[i']?=some i/\(f'=true->f=true)/\t=t'/\o=o'/\l=l'):=rfl
theorem AfU:wk1 sel (.mref i) (.mref i')=(sel[i']?=some i):=rfl
theorem Af1:wk0 sel (.mref i) (.mref i')=(sel[i']?=some i):=rfl
theorem Aex:wk1 sel (.nref i) (.nref i')=(sel[i']?=some i):=rfl
theorem AfW:wk0 sel (.nref i) (.nref i')=(sel[i']?=some i):=rfl
theorem Ae8:wk1 sel (.tref i o) (.tref i' o')=(sel[i']?=some i/\o=o'):=rfl
theorem AeB:wk0 sel (.tref i o) (.tref i' o')=(sel[i']?=some i/\o=o'):=rfl
theorem AhP:wk1 sel (.ref i o) (.ref i' o')=(sel[i']?=some i/\o=o'):=rfl
theorem AiM{a b:List AV}:wk1 sel (.agg a) (.agg b)=wkL sel a b:=rfl
theorem Aiw{a b:List AV}:wk1 sel (.tup a) (.tup b)=wkL sel a b:=rfl
theorem VY{a:Int}:wk0 sel (i64 a) (i64 a)=True:=by simp[wk0,i64,AV.closed]
theorem Yo{a:Bool}:wk0 sel (.bool a) (.bool a)=True:=by simp[wk0,AV.closed]
theorem Ah3{a:List UInt8}:wk0 sel (.str a) (.str a)=True:=by simp[wk0,AV.closed]
theorem AaS{f:FuncId}:wk0 sel (.fn f [.ref i o]) (.fn f [.ref i' o])=(sel[i']?=some i):=by
 refine propext ⟨fun h=>?_,fun h=>.inr (.inl ⟨rfl,⟨h,rfl⟩,trivial⟩)⟩;rcases h with⟨_,h⟩|⟨_,⟨h,_⟩,_⟩|⟨_,h⟩
 ·simp[AV.closed]at h
 ·exact h
 exact h.elim
theorem Aa3{f:FuncId}:wk0 sel (.fn f [.tup [.ref i o]]) (.fn f [.tup [.ref i' o]])=(sel[i']?=some i):=by
 refine propext ⟨?_,fun h=>.inr (.inr ⟨rfl,h,rfl⟩)⟩;rintro(⟨_,h⟩|⟨_,h,_⟩|⟨_,h,_⟩)
 ·simp[AV.closed]at h
 ·simp[wkc,AgK]at h
 exact h
theorem Ag4{f:FuncId}:wk1 sel (.fn f [.tup [.ref i o]]) (.fn f [.tup [.ref i' o]])=(sel[i']?=some i):=Aa3
theorem Ahw{f:FuncId}:wk1 sel (.fn f [.ref i o]) (.fn f [.ref i' o])=(sel[i']?=some i):=AaS
theorem AlL{f f':Bool}{a b:List (List AV)}:wk0 sel (.sl f a) (.sl f' b)=((f'=true->f=true)/\a=b):=rfl
theorem AjV{f f':Bool}{i t o l i' t' o' l':Nat}:wk0 sel (.bs f i t o l) (.bs f' i' t' o' l')=(sel[i']?=some i/\(f'=true->f=true)/\t=t'/\o=o'/\l=l'):=rfl
theorem Ahs:wk0 sel (.ref i o) (.ref i' o')=(sel[i']?=some i/\o=o'):=rfl
theorem AdD{cs cs':List AV}{ro ro':Bool}:Uh sel (.box cs ro) (.box cs' ro')=(ro=ro'/\wkL sel cs cs'):=rfl
theorem Ac6{k k':Nat}{els els':List (List AV)}{ro ro':Bool}:Uh sel (.buf k els ro) (.buf k' els' ro')=(k=k'/\ro=ro'/\els=els'/\DH els'=true):=rfl
end
def Ah8(E:Env)(t:TypeId):Bool:=match E.tab t with
 | some d=>match d.desc with
  | .slice e=>match E.tab e with
   |some de=>match de.desc with
    |.int .u8=>true
    |_=>false
   |none=>false
  |_=>false
 |none=>false
def Aol(E:Env)(t:TypeId):Bool:=match E.tab t with
 |some d=>match d.desc with
  |.string=>true
  |_=>false
 |none=>false
theorem ob_s{a b:Bool}:(some a==some b)=(a==b):=rfl
theorem ob_n{b:Bool}:((none:Option Bool)==some b)=false:=rfl
attribute [go_sem] ob_s ob_n
attribute [go_sem] Aa3 Ag4 AaS Ahw Aex AfW AfU Af1 Ae8 AeB AdN Aia Al7 Aim Af5 Aie AkW Ak0 AeS AlH Alv AhP AiM Aiw VY Yo Ah3 AlL AjV Ahs AdD Ac6 Kh wkL Ajn Ah8 Aol
attribute [go_sem] List.getElem?_cons_zero List.getElem?_cons_succ List.set_cons_zero List.set_cons_succ List.length_cons List.length_nil List.cons_append List.nil_append List.append_nil List.map_cons List.map_nil List.flatMap_cons List.flatMap_nil List.all_cons List.all_nil List.drop_zero List.drop_succ_cons List.drop_nil List.take_zero List.take_succ_cons List.take_nil List.length_append List.length_set List.length_replicate List.take_length List.replicate_zero List.replicate_succ Option.map_some Option.map_none Option.bind_some Option.bind_none Option.isSome_some Option.getD_some Option.some.injEq Prod.mk.injEq Bool.true_and Bool.false_and Bool.and_true Bool.and_false Bool.and_self Bool.not_true Bool.not_false Bool.true_or Bool.false_or and_true true_and and_self and_false false_and or_true true_or or_false false_or implies_true not_true_eq_false not_false_eq_true ne_eq imp_self false_imp_iff decide_true decide_false Bool.false_eq_true Nat.zero_add Nat.add_zero Nat.sub_zero Nat.mul_one eq_self List.cons_ne_nil reduceCtorEq beq_self_eq_true List.mem_cons List.not_mem_nil forall_eq_or_imp forall_eq
end Go.Rv
