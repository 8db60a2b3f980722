/-
  Part 21.
-/
import Derived.Test.YtioapcamanmoiaaGreatDoorYR20
namespace Go.Rv
set_option linter.unusedVariables false
set_option linter.unusedSimpArgs false
variable{m n id i i' o o':Nat}{fr fr':Fr}{σ σ':Ab}{K:Cl}
variable {E:Env}
theorem Cy(hE:E.Ok){l:List Oper}(ts:List Nat)(h:∃orc,HU E.toBase orc∧Lm E orc false n l ts (fr,σ)=some (fr',σ')) {y:Code} (hk:Run E m y ⟨Aq n fr',σ'⟩ K):Run E m (.seq (.region id l.toArray false) y) ⟨Aq n fr,σ⟩ K:=by
 obtain⟨orc,hO,h⟩:=h;exact Wg hE hO ts h hk
theorem Oq(hE:E.Ok)(hP:E.P.follows .mixedOrders=true){l:List Oper}(T:List (List Nat))(hok1:E7 l.toArray T=true)(hok2:GY E l.toArray T=true)(ts:List Nat) (h:∃orc,HU E.toBase orc∧Lm E orc true n l ts (fr,σ)=some (fr',σ')) {y:Code} (hk:Run E m y ⟨Aq n fr',σ'⟩ K):Run E m (.seq (.region id l.toArray true) y) ⟨Aq n fr,σ⟩ K:=by
 obtain⟨orc,hO,h⟩:=h;exact Wt hE hO hP T hok1 hok2 ts h hk
def R5(E:Env)(n:Nat)(K:Cl):Prop:=∀st st',Weak E n st st'→K .normal st'→K .normal st
theorem Il{y:Code}:R5 E n (UJ E n y K):=fun st st' h k=>DS h k
theorem O8{V:Type}{S:V→St}{J:V→Prop}:R5 E n (Ri E n S J K):=fun st st' h k=>by
 obtain⟨v,hv,hw⟩:=k;exact⟨v,hv,h.trans hw⟩
theorem AaI{V X:Type}{S:V→St}{o:V⊕X}:R5 E n (lpK E n S o K):=fun st st' h k=>by
 obtain⟨v,hv,hw⟩:=k;exact⟨v,hv,h.trans hw⟩
theorem IL(h:R5 E n K):R5 E n (Hk i K):=h
theorem Mt(h:R5 E n K):R5 E n (Aji K):=h
theorem Jg(hE:E.Ok){l:List Oper}(hw:R5 E m K)(ts:List Nat)(h:∃orc,HU E.toBase orc∧Lm E orc false n l ts (fr,σ)=some (fr',σ')) (hk:K .normal ⟨Aq n fr',σ'⟩):Run E m (.region id l.toArray false) ⟨Aq n fr,σ⟩ K:=by
 obtain⟨orc,hO,h⟩:=h;simp only[Lm,AoW,AoM,AoV]at h;obtain⟨⟨fr1,σ1⟩,h1,rfl,rfl⟩:=h;exact Sm hE hO h1 (hw _ _ (En _ _ _ _ _) hk)
theorem WY(hE:E.Ok)(hP:E.P.follows .mixedOrders=true){l:List Oper}(T:List (List Nat))(hok1:E7 l.toArray T=true)(hok2:GY E l.toArray T=true)(hw:R5 E m K)(ts:List Nat) (h:∃orc,HU E.toBase orc∧Lm E orc true n l ts (fr,σ)=some (fr',σ')) (hk:K .normal ⟨Aq n fr',σ'⟩):Run E m (.region id l.toArray true) ⟨Aq n fr,σ⟩ K:=by
 obtain⟨orc,hO,h⟩:=h;simp only[Lm,AoW,AoM,AoV]at h;obtain⟨⟨fr1,σ1⟩,h1,rfl,rfl⟩:=h;exact YZ hE hO hP T hok1 hok2 h1 (hw _ _ (En _ _ _ _ _) hk)
section
variable {l:List AV}{f:Bool}{els:List (List AV)}{a b c d:Nat}
theorem AhS(x:Int):(i64 x).scalar=true:=rfl
theorem AiK(x:Int):(i64 x).flatAgg=true:=rfl
theorem Ahx(x:Int):(i64 x).flat=true:=rfl
theorem Aj9(x:Int):BB (i64 x)=[]:=rfl
theorem Ajr(x:Int):BB (.agg (i64 x::l))=BB (.agg l):=rfl
theorem Al4(x:UInt8):(u8 x).scalar=true:=rfl
theorem Ala(x:UInt8):(u8 x).flatAgg=true:=rfl
theorem Al2(x:UInt8):(u8 x).flat=true:=rfl
theorem Anm(x:UInt8):BB (u8 x)=[]:=rfl
theorem AmD(x:UInt8):BB (.agg (u8 x::l))=BB (.agg l):=rfl
theorem Ahs(x:UInt16):(u16 x).scalar=true:=rfl
theorem Ag6(x:UInt16):(u16 x).flatAgg=true:=rfl
theorem AhE(x:UInt16):(u16 x).flat=true:=rfl
theorem Akb(x:UInt16):BB (u16 x)=[]:=rfl
theorem Ag9(x:UInt16):BB (.agg (u16 x::l))=BB (.agg l):=rfl
theorem AjL(x:UInt32):(u32 x).scalar=true:=rfl
theorem AjD(x:UInt32):(u32 x).flatAgg=true:=rfl
theorem Aj8(x:UInt32):(u32 x).flat=true:=rfl
theorem AjV(x:UInt32):BB (u32 x)=[]:=rfl
theorem Ahg(x:UInt32):BB (.agg (u32 x::l))=BB (.agg l):=rfl
theorem Aka(x:UInt64):(u64 x).scalar=true:=rfl
theorem Ajz(x:UInt64):(u64 x).flatAgg=true:=rfl
theorem AiU(x:UInt64):(u64 x).flat=true:=rfl
theorem Ajv(x:UInt64):BB (u64 x)=[]:=rfl
theorem Ah6(x:UInt64):BB (.agg (u64 x::l))=BB (.agg l):=rfl
theorem Ael(x:Bool):(AV.bool x).scalar=true:=rfl
theorem Agn(x:Bool):(AV.bool x).flatAgg=true:=rfl
theorem Age(x:Bool):(AV.bool x).flat=true:=rfl
theorem AeW(x:Bool):BB (AV.bool x)=[]:=rfl
theorem Ad7(x:Bool):BB (.agg (AV.bool x::l))=BB (.agg l):=rfl
theorem AjN(x:List UInt8):(AV.str x).scalar=true:=rfl
theorem AjJ(x:List UInt8):(AV.str x).flatAgg=true:=rfl
theorem Akp(x:List UInt8):(AV.str x).flat=true:=rfl
theorem AjC(x:List UInt8):BB (AV.str x)=[]:=rfl
theorem Ag0(x:List UInt8):BB (.agg (AV.str x::l))=BB (.agg l):=rfl
theorem AnU:(AV.sl f els).scalar=false:=rfl
theorem Anv:(AV.bs f a b c d).scalar=false:=rfl
theorem AiH:(AV.agg l).scalar=l.all AV.flat:=rfl
theorem Ai7:(AV.tup l).scalar=l.all AV.flatAgg:=rfl
theorem AlZ:(AV.sl f els).flatAgg=false:=rfl
theorem Al9:(AV.bs f a b c d).flatAgg=false:=rfl
theorem Ah2:(AV.agg l).flatAgg=l.all AV.flat:=rfl
theorem Alk:(AV.sl f els).flat=false:=rfl
theorem AnS:(AV.bs f a b c d).flat=false:=rfl
theorem AkK:BB (.sl f els)=[]:=rfl
theorem Amk:BB (.bs f a b c d)=[a]:=rfl
theorem Anb{g:FuncId}:BB (.fn g l)=[]:=rfl
theorem AjP:BB (.ref a b)=[]:=rfl
theorem Aet:BB (.tref a b)=[]:=rfl
theorem AfK:BB (.nref a)=[]:=rfl
theorem Agd:BB (.mref a)=[]:=rfl
theorem Ajg:BB (.tup l)=[]:=rfl
theorem Aft:BB .junk=[]:=rfl
theorem Ag4:BB (.agg [])=[]:=rfl
theorem AmO:BB (.agg (.sl f els::l))=BB (.agg l):=rfl
theorem Alz:BB (.agg (.bs f a b c d::l))=a::BB (.agg l):=rfl
end
theorem Aeb{α:Type}{l m:List α}:(ovl l (m.take (min m.length l.length)) 0).length=l.length:=by
 simp[ovl];omega
attribute [go_sem] Aeb
theorem QY(h:InR (m:Int) n):m<n:=by have:=h.2;simpa using this
attribute [go_sem] AfK Agd Aet AhS AiK Ahx Aj9 Ajr Al4 Ala Al2 Anm AmD Ahs Ag6 AhE Akb Ag9 AjL AjD Aj8 AjV Ahg Aka Ajz AiU Ajv Ah6 Ael Agn Age AeW Ad7 AjN AjJ Akp AjC Ag0 AnU Anv AiH Ai7 AlZ Al9 Ah2 Alk AnS AkK Amk Anb AjP Ajg Aft Ag4 AmO Alz
section
variable {sel:List Nat}
theorem Agy{a:Int}:wk1 sel (i64 a) (i64 a)=True:=by simp[wk1,wk0,i64,AV.closed]
theorem AhD{a:UInt8}:wk1 sel (u8 a) (u8 a)=True:=by simp[wk1,wk0,u8,AV.closed]
theorem AfF{a:UInt64}:wk1 sel (u64 a) (u64 a)=True:=by simp[wk1,wk0,u64,AV.closed]
theorem Ac1{a:Bool}:wk1 sel (.bool a) (.bool a)=True:=by simp[wk1,wk0,AV.closed]
theorem Ajm{f:FuncId}:wk1 sel (.fn f []) (.fn f [])=True:=by simp[wk1,wk0,AV.closed]
theorem AgT{f f':Bool}{a b:List (List AV)}:wk1 sel (.sl f a) (.sl f' b)=((f'=true→f=true)∧a=b):=rfl
theorem Aj3{f f':Bool}{i t o l i' t' o' l':Nat}:wk1 sel (.bs f i t o l) (.bs f' i' t' o' l')=(sel[i']?=some i∧(f'=true→f=true)∧t=t'∧o=o'∧l=l'):=rfl
theorem Adk:wk1 sel (.mref i) (.mref i')=(sel[i']?=some i):=rfl
theorem Acx:wk0 sel (.mref i) (.mref i')=(sel[i']?=some i):=rfl
theorem AbS:wk1 sel (.nref i) (.nref i')=(sel[i']?=some i):=rfl
theorem Acz:wk0 sel (.nref i) (.nref i')=(sel[i']?=some i):=rfl
theorem AbE:wk1 sel (.tref i o) (.tref i' o')=(sel[i']?=some i∧o=o'):=rfl
theorem Adr:wk0 sel (.tref i o) (.tref i' o')=(sel[i']?=some i∧o=o'):=rfl
theorem AeT:wk1 sel (.ref i o) (.ref i' o')=(sel[i']?=some i∧o=o'):=rfl
theorem Ae2{a b:List AV}:wk1 sel (.agg a) (.agg b)=wkL sel a b:=rfl
theorem Afk{a b:List AV}:wk1 sel (.tup a) (.tup b)=wkL sel a b:=rfl
theorem Aeu{a:Int}:wk0 sel (i64 a) (i64 a)=True:=by simp[wk0,i64,AV.closed]
theorem Aag{a:UInt8}:wk0 sel (u8 a) (u8 a)=True:=by simp[wk0,u8,AV.closed]
theorem YY{a:UInt32}:wk0 sel (u32 a) (u32 a)=True:=by simp[wk0,u32,AV.closed]
theorem Aga{a:UInt64}:wk0 sel (u64 a) (u64 a)=True:=by simp[wk0,u64,AV.closed]
theorem W7{a:Bool}:wk0 sel (.bool a) (.bool a)=True:=by simp[wk0,AV.closed]
theorem AfO{a:List UInt8}:wk0 sel (.str a) (.str a)=True:=by simp[wk0,AV.closed]
theorem Aa9{f:FuncId}:wk0 sel (.fn f [.ref i o]) (.fn f [.ref i' o])=(sel[i']?=some i):=by
 refine propext ⟨fun h=>?_,fun h=>.inr ⟨rfl,⟨h,rfl⟩,trivial⟩⟩;rcases h with⟨_,h⟩|⟨_,⟨h,_⟩,_⟩
 ·simp[AV.closed]at h
 ·exact h
theorem Ae6{f:FuncId}:wk1 sel (.fn f [.ref i o]) (.fn f [.ref i' o])=(sel[i']?=some i):=Aa9
theorem AhJ{f f':Bool}{a b:List (List AV)}:wk0 sel (.sl f a) (.sl f' b)=((f'=true→f=true)∧a=b):=rfl
theorem AiO{f f':Bool}{i t o l i' t' o' l':Nat}:wk0 sel (.bs f i t o l) (.bs f' i' t' o' l')=(sel[i']?=some i∧(f'=true→f=true)∧t=t'∧o=o'∧l=l'):=rfl
theorem Ae5:wk0 sel (.ref i o) (.ref i' o')=(sel[i']?=some i∧o=o'):=rfl
theorem YM{cs cs':List AV}{ro ro':Bool}:Tc sel (.box cs ro) (.box cs' ro')=(ro=ro'∧wkL sel cs cs'):=rfl
theorem YD{k k':Nat}{els els':List (List AV)}{ro ro':Bool}:Tc sel (.buf k els ro) (.buf k' els' ro')=(k=k'∧ro=ro'∧els=els'∧B6 els'=true):=rfl
end
def KS(E:Env)(t:TypeId):Bool:=match E.tab t with
 | some d=>match d.desc with
  | .slice e=>match E.tab e with
   |some de=>match de.desc with
    |.int .u8=>true
    |_=>false
   |none=>false
  |_=>false
 |none=>false
def Xs(E:Env)(t:TypeId):Bool:=match E.tab t with
 |some d=>match d.desc with
  |.string=>true
  |_=>false
 |none=>false
theorem P0{s d:TypeId}{x:AV}(hx:(∃f els,x=.sl f els)∨(∃f i t o l,x=.bs f i t o l))(hs:KS E s=true)(hd:Xs E d=true):Bg E σ s d x=match ET σ x with
    | some els=>match bytesOf els with
      |some l=>some (.str l,σ)
      |none=>none
    |none=>none:=by
  unfold KS at hs;unfold Xs at hd;split at hs<;>try cases hs
  rename_i sd hsd;split at hs<;>try cases hs
  rename_i e he;split at hs<;>try cases hs
  rename_i de hde;split at hs<;>try cases hs
  rename_i hu;split at hd<;>try cases hd
  rename_i dd hdd;split at hd<;>try cases hd
  rename_i hstr;unfold Bg;rcases hx with⟨f,els,rfl⟩|⟨f,i,t,o,l,rfl⟩
  · simp only[hsd,hdd,he,hstr,hde,hu,E8]
    cases ET σ (.sl f els)<;>rfl
  · simp only[hsd,hdd,he,hstr,hde,hu,E8]
    cases ET σ (.bs f i t o l)<;>rfl
theorem Tt{s d:TypeId}{f:Bool}{els:List (List AV)}(hs:KS E s=true)(hd:Xs E d=true):Bg E σ s d (.sl f els)=match ET σ (.sl f els)with
    | some els=>match bytesOf els with
      |some l=>some (.str l,σ)
      |none=>none
    |none=>none:=P0 (.inl ⟨_,_,rfl⟩) hs hd
theorem P1{s d:TypeId}{l:List UInt8}(hs:Xs E s=true)(hd:KS E d=true):Bg E σ s d (.str l)=some (.bs false σ.length l.length 0 l.length,σ++[.buf 1 (L cU8 l) false]):=by
 unfold KS at hd;unfold Xs at hs;split at hd<;>try cases hd
 rename_i sd hsd;split at hd<;>try cases hd
 rename_i e he;split at hd<;>try cases hd
 rename_i de hde;split at hd<;>try cases hd
 rename_i hu;split at hs<;>try cases hs
 rename_i dd hdd;unfold Bg;simp only[hsd,hdd,he,hde,hu];rfl
theorem ob_s{a b:Bool}:(some a==some b)=(a==b):=rfl
theorem ob_n{b:Bool}:((none:Option Bool)==some b)=false:=rfl
attribute [go_sem] ob_s ob_n
attribute [go_sem] Aa9 Ae6 AbS Acz Adk Acx AbE Adr Agy AhD AfF Ac1 Ajm AgT Aj3 AeT Ae2 Afk Aeu Aag YY Aga W7 AfO AhJ AiO Ae5 YM YD HX wkL Akl Tt P1 KS Xs
attribute [go_sem] List.getElem?_cons_zero List.getElem?_cons_succ List.set_cons_zero List.set_cons_succ List.length_cons List.length_nil List.cons_append List.nil_append List.append_nil List.map_cons List.map_nil List.flatMap_cons List.flatMap_nil List.all_cons List.all_nil List.drop_zero List.drop_succ_cons List.drop_nil List.take_zero List.take_succ_cons List.take_nil List.length_append List.length_set List.length_replicate List.take_length List.replicate_zero List.replicate_succ Option.map_some Option.map_none Option.bind_some Option.bind_none Option.isSome_some Option.getD_some Option.some.injEq Prod.mk.injEq Bool.true_and Bool.false_and Bool.and_true Bool.and_false Bool.and_self Bool.not_true Bool.not_false Bool.true_or Bool.false_or and_true true_and and_self and_false false_and or_true true_or or_false false_or implies_true not_true_eq_false not_false_eq_true ne_eq imp_self false_imp_iff decide_true decide_false Bool.false_eq_true Nat.zero_add Nat.add_zero Nat.sub_zero Nat.mul_one eq_self List.cons_ne_nil reduceCtorEq beq_self_eq_true List.mem_cons List.not_mem_nil forall_eq_or_imp forall_eq
end Go.Rv
