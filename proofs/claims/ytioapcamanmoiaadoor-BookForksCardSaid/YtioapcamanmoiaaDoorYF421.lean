/-
  Part 21.
-/
import Derived.Test.YtioapcamanmoiaaDoorYF420
namespace Go.Rv
set_option linter.unusedVariables false
set_option linter.unusedSimpArgs false
variable{m n id i i' o o':Nat}{fr fr':Fr}{σ σ':Al}{K:CW}
variable {E:Env}
theorem Jb(hE:E.Ok){l:List Oper}(ts:List Nat)(h:∃orc,IG E.toBase orc∧KZ E orc false n l ts (fr,σ)=some (fr',σ')) {y:Code} (hk:Run E m y ⟨Aq n fr',σ'⟩ K):Run E m (.seq (.region id l.toArray false) y) ⟨Aq n fr,σ⟩ K:=by
 obtain⟨orc,hO,h⟩:=h;exact TQ hE hO ts h hk
theorem My(hE:E.Ok)(hP:E.P.follows .mixedOrders=true){l:List Oper}(T:List (List Nat))(hok1:F4 l.toArray T=true)(hok2:GW E l.toArray T=true)(ts:List Nat) (h:∃orc,IG E.toBase orc∧KZ E orc true n l ts (fr,σ)=some (fr',σ')) {y:Code} (hk:Run E m y ⟨Aq n fr',σ'⟩ K):Run E m (.seq (.region id l.toArray true) y) ⟨Aq n fr,σ⟩ K:=by
 obtain⟨orc,hO,h⟩:=h;exact U0 hE hO hP T hok1 hok2 ts h hk
def PD(E:Env)(n:Nat)(K:CW):Prop:=∀st st',Weak E n st st'→K .normal st'→K .normal st
theorem IC{y:Code}:PD E n (VO E n y K):=fun st st' h k=>E0 h k
theorem MS{V:Type}{S:V→St}{J:V→Prop}:PD E n (Qg E n S J K):=fun st st' h k=>by
 obtain⟨v,hv,hw⟩:=k;exact⟨v,hv,h.trans hw⟩
theorem YV{V X:Type}{S:V→St}{o:V⊕X}:PD E n (lpK E n S o K):=fun st st' h k=>by
 obtain⟨v,hv,hw⟩:=k;exact⟨v,hv,h.trans hw⟩
theorem JG(h:PD E n K):PD E n (H2 i K):=h
theorem Lv(h:PD E n K):PD E n (AeX K):=h
theorem Ka(hE:E.Ok){l:List Oper}(hw:PD E m K)(ts:List Nat)(h:∃orc,IG E.toBase orc∧KZ E orc false n l ts (fr,σ)=some (fr',σ')) (hk:K .normal ⟨Aq n fr',σ'⟩):Run E m (.region id l.toArray false) ⟨Aq n fr,σ⟩ K:=by
 obtain⟨orc,hO,h⟩:=h;simp only[KZ,AkV,AkN,AkT]at h;obtain⟨⟨fr1,σ1⟩,h1,rfl,rfl⟩:=h;exact Wz hE hO h1 (hw _ _ (Fx _ _ _ _ _) hk)
theorem Vd(hE:E.Ok)(hP:E.P.follows .mixedOrders=true){l:List Oper}(T:List (List Nat))(hok1:F4 l.toArray T=true)(hok2:GW E l.toArray T=true)(hw:PD E m K)(ts:List Nat) (h:∃orc,IG E.toBase orc∧KZ E orc true n l ts (fr,σ)=some (fr',σ')) (hk:K .normal ⟨Aq n fr',σ'⟩):Run E m (.region id l.toArray true) ⟨Aq n fr,σ⟩ K:=by
 obtain⟨orc,hO,h⟩:=h;simp only[KZ,AkV,AkN,AkT]at h;obtain⟨⟨fr1,σ1⟩,h1,rfl,rfl⟩:=h;exact Wx hE hO hP T hok1 hok2 h1 (hw _ _ (Fx _ _ _ _ _) hk)
section
variable {l:List AV}{f:Bool}{els:List (List AV)}{a b c d:Nat}
theorem Af3(x:Int):(i64 x).scalar=true:=rfl
theorem Af8(x:Int):(i64 x).flatAgg=true:=rfl
theorem Age(x:Int):(i64 x).flat=true:=rfl
theorem AfW(x:Int):BD (i64 x)=[]:=rfl
theorem AeC(x:Int):BD (.agg (i64 x::l))=BD (.agg l):=rfl
theorem Aim(x:UInt8):(u8 x).scalar=true:=rfl
theorem Ai1(x:UInt8):(u8 x).flatAgg=true:=rfl
theorem Ajj(x:UInt8):(u8 x).flat=true:=rfl
theorem AjA(x:UInt8):BD (u8 x)=[]:=rfl
theorem AiO(x:UInt8):BD (.agg (u8 x::l))=BD (.agg l):=rfl
theorem Afo(x:UInt16):(u16 x).scalar=true:=rfl
theorem AeL(x:UInt16):(u16 x).flatAgg=true:=rfl
theorem Agk(x:UInt16):(u16 x).flat=true:=rfl
theorem Afq(x:UInt16):BD (u16 x)=[]:=rfl
theorem AeE(x:UInt16):BD (.agg (u16 x::l))=BD (.agg l):=rfl
theorem Aeh(x:UInt32):(u32 x).scalar=true:=rfl
theorem Aej(x:UInt32):(u32 x).flatAgg=true:=rfl
theorem AeQ(x:UInt32):(u32 x).flat=true:=rfl
theorem AgG(x:UInt32):BD (u32 x)=[]:=rfl
theorem Agw(x:UInt32):BD (.agg (u32 x::l))=BD (.agg l):=rfl
theorem Aff(x:UInt64):(u64 x).scalar=true:=rfl
theorem Aen(x:UInt64):(u64 x).flatAgg=true:=rfl
theorem AeJ(x:UInt64):(u64 x).flat=true:=rfl
theorem Afj(x:UInt64):BD (u64 x)=[]:=rfl
theorem AfF(x:UInt64):BD (.agg (u64 x::l))=BD (.agg l):=rfl
theorem AcQ(x:Bool):(AV.bool x).scalar=true:=rfl
theorem AbE(x:Bool):(AV.bool x).flatAgg=true:=rfl
theorem Acm(x:Bool):(AV.bool x).flat=true:=rfl
theorem Acy(x:Bool):BD (AV.bool x)=[]:=rfl
theorem AbX(x:Bool):BD (.agg (AV.bool x::l))=BD (.agg l):=rfl
theorem Aei(x:List UInt8):(AV.str x).scalar=true:=rfl
theorem Afs(x:List UInt8):(AV.str x).flatAgg=true:=rfl
theorem AeG(x:List UInt8):(AV.str x).flat=true:=rfl
theorem Aft(x:List UInt8):BD (AV.str x)=[]:=rfl
theorem Agd(x:List UInt8):BD (.agg (AV.str x::l))=BD (.agg l):=rfl
theorem AiV:(AV.sl f els).scalar=false:=rfl
theorem AiY:(AV.bs f a b c d).scalar=false:=rfl
theorem Agn:(AV.agg l).scalar=l.all AV.flat:=rfl
theorem AfH:(AV.tup l).scalar=l.all AV.flatAgg:=rfl
theorem Aij:(AV.sl f els).flatAgg=false:=rfl
theorem Ajm:(AV.bs f a b c d).flatAgg=false:=rfl
theorem AfV:(AV.agg l).flatAgg=l.all AV.flat:=rfl
theorem Ajh:(AV.sl f els).flat=false:=rfl
theorem Aif:(AV.bs f a b c d).flat=false:=rfl
theorem AjN:BD (.sl f els)=[]:=rfl
theorem AhC:BD (.bs f a b c d)=[a]:=rfl
theorem AjY{g:FuncId}:BD (.fn g l)=[]:=rfl
theorem AgB:BD (.ref a b)=[]:=rfl
theorem Acd:BD (.tref a b)=[]:=rfl
theorem AcE:BD (.nref a)=[]:=rfl
theorem Aci:BD (.mref a)=[]:=rfl
theorem AfT:BD (.tup l)=[]:=rfl
theorem Ads:BD .junk=[]:=rfl
theorem Af4:BD (.agg [])=[]:=rfl
theorem Aj9:BD (.agg (.sl f els::l))=BD (.agg l):=rfl
theorem AiZ:BD (.agg (.bs f a b c d::l))=a::BD (.agg l):=rfl
end
theorem AdQ{α:Type}{l m:List α}:(ovl l (m.take (min m.length l.length)) 0).length=l.length:=by
 simp[ovl];omega
attribute [go_sem] AdQ
theorem Pt(h:InR (m:Int) n):m<n:=by have:=h.2;simpa using this
attribute [go_sem] AcE Aci Acd Af3 Af8 Age AfW AeC Aim Ai1 Ajj AjA AiO Afo AeL Agk Afq AeE Aeh Aej AeQ AgG Agw Aff Aen AeJ Afj AfF AcQ AbE Acm Acy AbX Aei Afs AeG Aft Agd AiV AiY Agn AfH Aij Ajm AfV Ajh Aif AjN AhC AjY AgB AfT Ads Af4 Aj9 AiZ
section
variable {sel:List Nat}
theorem Abr{a:Int}:wk1 sel (i64 a) (i64 a)=True:=by simp[wk1,wk0,i64,AV.closed]
theorem AeU{a:UInt8}:wk1 sel (u8 a) (u8 a)=True:=by simp[wk1,wk0,u8,AV.closed]
theorem Ac0{a:UInt64}:wk1 sel (u64 a) (u64 a)=True:=by simp[wk1,wk0,u64,AV.closed]
theorem AaS{a:Bool}:wk1 sel (.bool a) (.bool a)=True:=by simp[wk1,wk0,AV.closed]
theorem Ae3{f:FuncId}:wk1 sel (.fn f []) (.fn f [])=True:=by simp[wk1,wk0,AV.closed]
theorem AgF{f f':Bool}{a b:List (List AV)}:wk1 sel (.sl f a) (.sl f' b)=((f'=true→f=true)∧a=b):=rfl
theorem Afp{f f':Bool}{i t o l i' t' o' l':Nat}:wk1 sel (.bs f i t o l) (.bs f' i' t' o' l')=(sel[i']?=some i∧(f'=true→f=true)∧t=t'∧o=o'∧l=l'):=rfl
theorem AaG:wk1 sel (.mref i) (.mref i')=(sel[i']?=some i):=rfl
theorem AaX:wk0 sel (.mref i) (.mref i')=(sel[i']?=some i):=rfl
theorem ZC:wk1 sel (.nref i) (.nref i')=(sel[i']?=some i):=rfl
theorem Y5:wk0 sel (.nref i) (.nref i')=(sel[i']?=some i):=rfl
theorem AaH:wk1 sel (.tref i o) (.tref i' o')=(sel[i']?=some i∧o=o'):=rfl
theorem ZI:wk0 sel (.tref i o) (.tref i' o')=(sel[i']?=some i∧o=o'):=rfl
theorem Ac2:wk1 sel (.ref i o) (.ref i' o')=(sel[i']?=some i∧o=o'):=rfl
theorem Acb{a b:List AV}:wk1 sel (.agg a) (.agg b)=wkL sel a b:=rfl
theorem Adk{a b:List AV}:wk1 sel (.tup a) (.tup b)=wkL sel a b:=rfl
theorem AcN{a:Int}:wk0 sel (i64 a) (i64 a)=True:=by simp[wk0,i64,AV.closed]
theorem W8{a:UInt8}:wk0 sel (u8 a) (u8 a)=True:=by simp[wk0,u8,AV.closed]
theorem Xh{a:UInt32}:wk0 sel (u32 a) (u32 a)=True:=by simp[wk0,u32,AV.closed]
theorem Acn{a:UInt64}:wk0 sel (u64 a) (u64 a)=True:=by simp[wk0,u64,AV.closed]
theorem Uw{a:Bool}:wk0 sel (.bool a) (.bool a)=True:=by simp[wk0,AV.closed]
theorem AbD{a:List UInt8}:wk0 sel (.str a) (.str a)=True:=by simp[wk0,AV.closed]
theorem X5{f:FuncId}:wk0 sel (.fn f [.ref i o]) (.fn f [.ref i' o])=(sel[i']?=some i):=by
 refine propext ⟨fun h=>?_,fun h=>.inr ⟨rfl,⟨h,rfl⟩,trivial⟩⟩;rcases h with⟨_,h⟩|⟨_,⟨h,_⟩,_⟩
 ·simp[AV.closed]at h
 ·exact h
theorem AcI{f:FuncId}:wk1 sel (.fn f [.ref i o]) (.fn f [.ref i' o])=(sel[i']?=some i):=X5
theorem AfS{f f':Bool}{a b:List (List AV)}:wk0 sel (.sl f a) (.sl f' b)=((f'=true→f=true)∧a=b):=rfl
theorem Agc{f f':Bool}{i t o l i' t' o' l':Nat}:wk0 sel (.bs f i t o l) (.bs f' i' t' o' l')=(sel[i']?=some i∧(f'=true→f=true)∧t=t'∧o=o'∧l=l'):=rfl
theorem Abn:wk0 sel (.ref i o) (.ref i' o')=(sel[i']?=some i∧o=o'):=rfl
theorem W2{cs cs':List AV}{ro ro':Bool}:PJ sel (.box cs ro) (.box cs' ro')=(ro=ro'∧wkL sel cs cs'):=rfl
theorem X7{k k':Nat}{els els':List (List AV)}{ro ro':Bool}:PJ sel (.buf k els ro) (.buf k' els' ro')=(k=k'∧ro=ro'∧els=els'∧BA els'=true):=rfl
end
def SO(E:Env)(t:TypeId):Bool:=match E.tab t with
 | some d=>match d.desc with
  | .slice e=>match E.tab e with
   |some de=>match de.desc with
    |.int .u8=>true
    |_=>false
   |none=>false
  |_=>false
 |none=>false
def Ach(E:Env)(t:TypeId):Bool:=match E.tab t with
 |some d=>match d.desc with
  |.string=>true
  |_=>false
 |none=>false
theorem NR{s d:TypeId}{l:List UInt8}(hs:Ach E s=true)(hd:SO E d=true):B5 E σ s d (.str l)=some (.bs false σ.length l.length 0 l.length,σ++[.buf 1 (L cU8 l) false]):=by
 unfold SO at hd;unfold Ach at hs;split at hd<;>try cases hd
 rename_i sd hsd;split at hd<;>try cases hd
 rename_i e he;split at hd<;>try cases hd
 rename_i de hde;split at hd<;>try cases hd
 rename_i hu;split at hs<;>try cases hs
 rename_i dd hdd;unfold B5;simp only[hsd,hdd,he,hde,hu];rfl
theorem ob_s{a b:Bool}:(some a==some b)=(a==b):=rfl
theorem ob_n{b:Bool}:((none:Option Bool)==some b)=false:=rfl
attribute [go_sem] ob_s ob_n
attribute [go_sem] X5 AcI ZC Y5 AaG AaX AaH ZI Abr AeU Ac0 AaS Ae3 AgF Afp Ac2 Acb Adk AcN W8 Xh Acn Uw AbD AfS Agc Abn W2 X7 TL wkL AeZ NR SO Ach
attribute [go_sem] List.getElem?_cons_zero List.getElem?_cons_succ List.set_cons_zero List.set_cons_succ List.length_cons List.length_nil List.cons_append List.nil_append List.append_nil List.map_cons List.map_nil List.flatMap_cons List.flatMap_nil List.all_cons List.all_nil List.drop_zero List.drop_succ_cons List.drop_nil List.take_zero List.take_succ_cons List.take_nil List.length_append List.length_set List.length_replicate List.take_length List.replicate_zero List.replicate_succ Option.map_some Option.map_none Option.bind_some Option.bind_none Option.isSome_some Option.getD_some Option.some.injEq Prod.mk.injEq Bool.true_and Bool.false_and Bool.and_true Bool.and_false Bool.and_self Bool.not_true Bool.not_false Bool.true_or Bool.false_or and_true true_and and_self and_false false_and or_true true_or or_false false_or implies_true not_true_eq_false not_false_eq_true ne_eq imp_self false_imp_iff decide_true decide_false Bool.false_eq_true Nat.zero_add Nat.add_zero Nat.sub_zero Nat.mul_one eq_self List.cons_ne_nil reduceCtorEq beq_self_eq_true List.mem_cons List.not_mem_nil forall_eq_or_imp forall_eq
end Go.Rv
