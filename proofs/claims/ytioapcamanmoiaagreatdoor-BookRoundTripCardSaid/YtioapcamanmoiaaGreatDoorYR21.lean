/-
  Part 21.
-/
import Derived.Test.YtioapcamanmoiaaGreatDoorYR20
namespace Go.Rv
set_option linter.unusedVariables false
set_option linter.unusedSimpArgs false
variable{m n id i i' o o':Nat}{fr fr':Fr}{σ σ':Am}{K:Ch}
variable {E:Env}
theorem Cp(hE:E.Ok){l:List Oper}(ts:List Nat)(h:∃orc,HQ E.toBase orc∧KK E orc false n l ts (fr,σ)=some (fr',σ')) {y:Code} (hk:Run E m y ⟨Aq n fr',σ'⟩ K):Run E m (.seq (.region id l.toArray false) y) ⟨Aq n fr,σ⟩ K:=by
 obtain⟨orc,hO,h⟩:=h;exact We hE hO ts h hk
theorem Of(hE:E.Ok)(hP:E.P.follows .mixedOrders=true){l:List Oper}(T:List (List Nat))(hok1:E3 l.toArray T=true)(hok2:GQ E l.toArray T=true)(ts:List Nat) (h:∃orc,HQ E.toBase orc∧KK E orc true n l ts (fr,σ)=some (fr',σ')) {y:Code} (hk:Run E m y ⟨Aq n fr',σ'⟩ K):Run E m (.seq (.region id l.toArray true) y) ⟨Aq n fr,σ⟩ K:=by
 obtain⟨orc,hO,h⟩:=h;exact Wv hE hO hP T hok1 hok2 ts h hk
def R5(E:Env)(n:Nat)(K:Ch):Prop:=∀st st',Weak E n st st'→K .normal st'→K .normal st
theorem I3{y:Code}:R5 E n (TN E n y K):=fun st st' h k=>DR h k
theorem MR{V:Type}{S:V→St}{J:V→Prop}:R5 E n (QK E n S J K):=fun st st' h k=>by
 obtain⟨v,hv,hw⟩:=k;exact⟨v,hv,h.trans hw⟩
theorem Yl{V X:Type}{S:V→St}{o:V⊕X}:R5 E n (lpK E n S o K):=fun st st' h k=>by
 obtain⟨v,hv,hw⟩:=k;exact⟨v,hv,h.trans hw⟩
theorem IK(h:R5 E n K):R5 E n (GM i K):=h
theorem Mj(h:R5 E n K):R5 E n (AjK K):=h
theorem IP(hE:E.Ok){l:List Oper}(hw:R5 E m K)(ts:List Nat)(h:∃orc,HQ E.toBase orc∧KK E orc false n l ts (fr,σ)=some (fr',σ')) (hk:K .normal ⟨Aq n fr',σ'⟩):Run E m (.region id l.toArray false) ⟨Aq n fr,σ⟩ K:=by
 obtain⟨orc,hO,h⟩:=h;simp only[KK,AoW,AoM,AoV]at h;obtain⟨⟨fr1,σ1⟩,h1,rfl,rfl⟩:=h;exact Tf hE hO h1 (hw _ _ (Em _ _ _ _ _) hk)
theorem XV(hE:E.Ok)(hP:E.P.follows .mixedOrders=true){l:List Oper}(T:List (List Nat))(hok1:E3 l.toArray T=true)(hok2:GQ E l.toArray T=true)(hw:R5 E m K)(ts:List Nat) (h:∃orc,HQ E.toBase orc∧KK E orc true n l ts (fr,σ)=some (fr',σ')) (hk:K .normal ⟨Aq n fr',σ'⟩):Run E m (.region id l.toArray true) ⟨Aq n fr,σ⟩ K:=by
 obtain⟨orc,hO,h⟩:=h;simp only[KK,AoW,AoM,AoV]at h;obtain⟨⟨fr1,σ1⟩,h1,rfl,rfl⟩:=h;exact Z6 hE hO hP T hok1 hok2 h1 (hw _ _ (Em _ _ _ _ _) hk)
section
variable {l:List AV}{f:Bool}{els:List (List AV)}{a b c d:Nat}
theorem Ahj(x:Int):(i64 x).scalar=true:=rfl
theorem AjS(x:Int):(i64 x).flatAgg=true:=rfl
theorem Aiv(x:Int):(i64 x).flat=true:=rfl
theorem AhH(x:Int):B7 (i64 x)=[]:=rfl
theorem Aik(x:Int):B7 (.agg (i64 x::l))=B7 (.agg l):=rfl
theorem AkL(x:UInt8):(u8 x).scalar=true:=rfl
theorem Amo(x:UInt8):(u8 x).flatAgg=true:=rfl
theorem Aly(x:UInt8):(u8 x).flat=true:=rfl
theorem Al4(x:UInt8):B7 (u8 x)=[]:=rfl
theorem AkW(x:UInt8):B7 (.agg (u8 x::l))=B7 (.agg l):=rfl
theorem AjQ(x:UInt16):(u16 x).scalar=true:=rfl
theorem Ahy(x:UInt16):(u16 x).flatAgg=true:=rfl
theorem AjH(x:UInt16):(u16 x).flat=true:=rfl
theorem Ajr(x:UInt16):B7 (u16 x)=[]:=rfl
theorem Ai0(x:UInt16):B7 (.agg (u16 x::l))=B7 (.agg l):=rfl
theorem Ahc(x:UInt32):(u32 x).scalar=true:=rfl
theorem Ajf(x:UInt32):(u32 x).flatAgg=true:=rfl
theorem AjI(x:UInt32):(u32 x).flat=true:=rfl
theorem Akb(x:UInt32):B7 (u32 x)=[]:=rfl
theorem Akn(x:UInt32):B7 (.agg (u32 x::l))=B7 (.agg l):=rfl
theorem AjO(x:UInt64):(u64 x).scalar=true:=rfl
theorem Ah1(x:UInt64):(u64 x).flatAgg=true:=rfl
theorem Aj1(x:UInt64):(u64 x).flat=true:=rfl
theorem AgV(x:UInt64):B7 (u64 x)=[]:=rfl
theorem AiI(x:UInt64):B7 (.agg (u64 x::l))=B7 (.agg l):=rfl
theorem AeE(x:Bool):(AV.bool x).scalar=true:=rfl
theorem Ae1(x:Bool):(AV.bool x).flatAgg=true:=rfl
theorem Agu(x:Bool):(AV.bool x).flat=true:=rfl
theorem AeL(x:Bool):B7 (AV.bool x)=[]:=rfl
theorem Agi(x:Bool):B7 (.agg (AV.bool x::l))=B7 (.agg l):=rfl
theorem Ag4(x:List UInt8):(AV.str x).scalar=true:=rfl
theorem Ako(x:List UInt8):(AV.str x).flatAgg=true:=rfl
theorem AhT(x:List UInt8):(AV.str x).flat=true:=rfl
theorem AiW(x:List UInt8):B7 (AV.str x)=[]:=rfl
theorem AiH(x:List UInt8):B7 (.agg (AV.str x::l))=B7 (.agg l):=rfl
theorem Al6:(AV.sl f els).scalar=false:=rfl
theorem Alp:(AV.bs f a b c d).scalar=false:=rfl
theorem AiY:(AV.agg l).scalar=l.all AV.flat:=rfl
theorem AhN:(AV.tup l).scalar=l.all AV.flatAgg:=rfl
theorem Al2:(AV.sl f els).flatAgg=false:=rfl
theorem Am2:(AV.bs f a b c d).flatAgg=false:=rfl
theorem Ag5:(AV.agg l).flatAgg=l.all AV.flat:=rfl
theorem AkK:(AV.sl f els).flat=false:=rfl
theorem AmE:(AV.bs f a b c d).flat=false:=rfl
theorem AmU:B7 (.sl f els)=[]:=rfl
theorem AmR:B7 (.bs f a b c d)=[a]:=rfl
theorem AmG{g:FuncId}:B7 (.fn g l)=[]:=rfl
theorem Ah2:B7 (.ref a b)=[]:=rfl
theorem Agc:B7 (.tref a b)=[]:=rfl
theorem AeZ:B7 (.nref a)=[]:=rfl
theorem AeQ:B7 (.mref a)=[]:=rfl
theorem Aj6:B7 (.tup l)=[]:=rfl
theorem AfV:B7 .junk=[]:=rfl
theorem Ahm:B7 (.agg [])=[]:=rfl
theorem Alt:B7 (.agg (.sl f els::l))=B7 (.agg l):=rfl
theorem Al1:B7 (.agg (.bs f a b c d::l))=a::B7 (.agg l):=rfl
end
theorem AfO{α:Type}{l m:List α}:(ovl l (m.take (min m.length l.length)) 0).length=l.length:=by
 simp[ovl];omega
attribute [go_sem] AfO
theorem QR(h:InR (m:Int) n):m<n:=by have:=h.2;simpa using this
attribute [go_sem] AeZ AeQ Agc Ahj AjS Aiv AhH Aik AkL Amo Aly Al4 AkW AjQ Ahy AjH Ajr Ai0 Ahc Ajf AjI Akb Akn AjO Ah1 Aj1 AgV AiI AeE Ae1 Agu AeL Agi Ag4 Ako AhT AiW AiH Al6 Alp AiY AhN Al2 Am2 Ag5 AkK AmE AmU AmR AmG Ah2 Aj6 AfV Ahm Alt Al1
section
variable {sel:List Nat}
theorem Afe{a:Int}:wk1 sel (i64 a) (i64 a)=True:=by simp[wk1,wk0,i64,AV.closed]
theorem AiR{a:UInt8}:wk1 sel (u8 a) (u8 a)=True:=by simp[wk1,wk0,u8,AV.closed]
theorem Afw{a:UInt64}:wk1 sel (u64 a) (u64 a)=True:=by simp[wk1,wk0,u64,AV.closed]
theorem AcW{a:Bool}:wk1 sel (.bool a) (.bool a)=True:=by simp[wk1,wk0,AV.closed]
theorem Ai4{f:FuncId}:wk1 sel (.fn f []) (.fn f [])=True:=by simp[wk1,wk0,AV.closed]
theorem Ajs{f f':Bool}{a b:List (List AV)}:wk1 sel (.sl f a) (.sl f' b)=((f'=true→f=true)∧a=b):=rfl
theorem Ah7{f f':Bool}{i t o l i' t' o' l':Nat}:wk1 sel (.bs f i t o l) (.bs f' i' t' o' l')=(sel[i']?=some i∧(f'=true→f=true)∧t=t'∧o=o'∧l=l'):=rfl
theorem AbX:wk1 sel (.mref i) (.mref i')=(sel[i']?=some i):=rfl
theorem AbR:wk0 sel (.mref i) (.mref i')=(sel[i']?=some i):=rfl
theorem Ac6:wk1 sel (.nref i) (.nref i')=(sel[i']?=some i):=rfl
theorem Ac5:wk0 sel (.nref i) (.nref i')=(sel[i']?=some i):=rfl
theorem AcF:wk1 sel (.tref i o) (.tref i' o')=(sel[i']?=some i∧o=o'):=rfl
theorem AbV:wk0 sel (.tref i o) (.tref i' o')=(sel[i']?=some i∧o=o'):=rfl
theorem Aev:wk1 sel (.ref i o) (.ref i' o')=(sel[i']?=some i∧o=o'):=rfl
theorem Aef{a b:List AV}:wk1 sel (.agg a) (.agg b)=wkL sel a b:=rfl
theorem Afc{a b:List AV}:wk1 sel (.tup a) (.tup b)=wkL sel a b:=rfl
theorem Ad1{a:Int}:wk0 sel (i64 a) (i64 a)=True:=by simp[wk0,i64,AV.closed]
theorem Abe{a:UInt8}:wk0 sel (u8 a) (u8 a)=True:=by simp[wk0,u8,AV.closed]
theorem YF{a:UInt32}:wk0 sel (u32 a) (u32 a)=True:=by simp[wk0,u32,AV.closed]
theorem Afu{a:UInt64}:wk0 sel (u64 a) (u64 a)=True:=by simp[wk0,u64,AV.closed]
theorem VE{a:Bool}:wk0 sel (.bool a) (.bool a)=True:=by simp[wk0,AV.closed]
theorem Afl{a:List UInt8}:wk0 sel (.str a) (.str a)=True:=by simp[wk0,AV.closed]
theorem Aaj{f:FuncId}:wk0 sel (.fn f [.ref i o]) (.fn f [.ref i' o])=(sel[i']?=some i):=by
 refine propext ⟨fun h=>?_,fun h=>.inr ⟨rfl,⟨h,rfl⟩,trivial⟩⟩;rcases h with⟨_,h⟩|⟨_,⟨h,_⟩,_⟩
 ·simp[AV.closed]at h
 ·exact h
theorem Ae3{f:FuncId}:wk1 sel (.fn f [.ref i o]) (.fn f [.ref i' o])=(sel[i']?=some i):=Aaj
theorem Ahu{f f':Bool}{a b:List (List AV)}:wk0 sel (.sl f a) (.sl f' b)=((f'=true→f=true)∧a=b):=rfl
theorem Ahb{f f':Bool}{i t o l i' t' o' l':Nat}:wk0 sel (.bs f i t o l) (.bs f' i' t' o' l')=(sel[i']?=some i∧(f'=true→f=true)∧t=t'∧o=o'∧l=l'):=rfl
theorem AfH:wk0 sel (.ref i o) (.ref i' o')=(sel[i']?=some i∧o=o'):=rfl
theorem Aa1{cs cs':List AV}{ro ro':Bool}:SW sel (.box cs ro) (.box cs' ro')=(ro=ro'∧wkL sel cs cs'):=rfl
theorem Abh{k k':Nat}{els els':List (List AV)}{ro ro':Bool}:SW sel (.buf k els ro) (.buf k' els' ro')=(k=k'∧ro=ro'∧els=els'∧B2 els'=true):=rfl
end
def K8(E:Env)(t:TypeId):Bool:=match E.tab t with
 | some d=>match d.desc with
  | .slice e=>match E.tab e with
   |some de=>match de.desc with
    |.int .u8=>true
    |_=>false
   |none=>false
  |_=>false
 |none=>false
def W6(E:Env)(t:TypeId):Bool:=match E.tab t with
 |some d=>match d.desc with
  |.string=>true
  |_=>false
 |none=>false
theorem P0{s d:TypeId}{x:AV}(hx:(∃f els,x=.sl f els)∨(∃f i t o l,x=.bs f i t o l))(hs:K8 E s=true)(hd:W6 E d=true):Bb E σ s d x=match ER σ x with
    | some els=>match bytesOf els with
      |some l=>some (.str l,σ)
      |none=>none
    |none=>none:=by
  unfold K8 at hs;unfold W6 at hd;split at hs<;>try cases hs
  rename_i sd hsd;split at hs<;>try cases hs
  rename_i e he;split at hs<;>try cases hs
  rename_i de hde;split at hs<;>try cases hs
  rename_i hu;split at hd<;>try cases hd
  rename_i dd hdd;split at hd<;>try cases hd
  rename_i hstr;unfold Bb;rcases hx with⟨f,els,rfl⟩|⟨f,i,t,o,l,rfl⟩
  · simp only[hsd,hdd,he,hstr,hde,hu,E5]
    cases ER σ (.sl f els)<;>rfl
  · simp only[hsd,hdd,he,hstr,hde,hu,E5]
    cases ER σ (.bs f i t o l)<;>rfl
theorem Uf{s d:TypeId}{f:Bool}{els:List (List AV)}(hs:K8 E s=true)(hd:W6 E d=true):Bb E σ s d (.sl f els)=match ER σ (.sl f els)with
    | some els=>match bytesOf els with
      |some l=>some (.str l,σ)
      |none=>none
    |none=>none:=P0 (.inl ⟨_,_,rfl⟩) hs hd
theorem OV{s d:TypeId}{l:List UInt8}(hs:W6 E s=true)(hd:K8 E d=true):Bb E σ s d (.str l)=some (.bs false σ.length l.length 0 l.length,σ++[.buf 1 (L cU8 l) false]):=by
 unfold K8 at hd;unfold W6 at hs;split at hd<;>try cases hd
 rename_i sd hsd;split at hd<;>try cases hd
 rename_i e he;split at hd<;>try cases hd
 rename_i de hde;split at hd<;>try cases hd
 rename_i hu;split at hs<;>try cases hs
 rename_i dd hdd;unfold Bb;simp only[hsd,hdd,he,hde,hu];rfl
theorem ob_s{a b:Bool}:(some a==some b)=(a==b):=rfl
theorem ob_n{b:Bool}:((none:Option Bool)==some b)=false:=rfl
attribute [go_sem] ob_s ob_n
attribute [go_sem] Aaj Ae3 Ac6 Ac5 AbX AbR AcF AbV Afe AiR Afw AcW Ai4 Ajs Ah7 Aev Aef Afc Ad1 Abe YF Afu VE Afl Ahu Ahb AfH Aa1 Abh HS wkL Aia Uf OV K8 W6
attribute [go_sem] List.getElem?_cons_zero List.getElem?_cons_succ List.set_cons_zero List.set_cons_succ List.length_cons List.length_nil List.cons_append List.nil_append List.append_nil List.map_cons List.map_nil List.flatMap_cons List.flatMap_nil List.all_cons List.all_nil List.drop_zero List.drop_succ_cons List.drop_nil List.take_zero List.take_succ_cons List.take_nil List.length_append List.length_set List.length_replicate List.take_length List.replicate_zero List.replicate_succ Option.map_some Option.map_none Option.bind_some Option.bind_none Option.isSome_some Option.getD_some Option.some.injEq Prod.mk.injEq Bool.true_and Bool.false_and Bool.and_true Bool.and_false Bool.and_self Bool.not_true Bool.not_false Bool.true_or Bool.false_or and_true true_and and_self and_false false_and or_true true_or or_false false_or implies_true not_true_eq_false not_false_eq_true ne_eq imp_self false_imp_iff decide_true decide_false Bool.false_eq_true Nat.zero_add Nat.add_zero Nat.sub_zero Nat.mul_one eq_self List.cons_ne_nil reduceCtorEq beq_self_eq_true List.mem_cons List.not_mem_nil forall_eq_or_imp forall_eq
end Go.Rv
