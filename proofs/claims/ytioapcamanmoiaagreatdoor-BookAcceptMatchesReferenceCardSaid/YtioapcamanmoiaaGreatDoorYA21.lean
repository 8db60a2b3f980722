/-
  Part 21.
-/
import Derived.Test.YtioapcamanmoiaaGreatDoorYA20
namespace Go.Rv
variable{m n id i i' o o':Nat}{fr fr':Fr}{σ σ':Ad}{K:DB}
variable {E:Env}
theorem L3(hE:E.Ok){l:List Oper}(ts:List Nat)(h:∃orc,KK E.toBase orc∧NJ E orc false n l ts (fr,σ)=some (fr',σ')) {y:Code} (hk:Run E m y ⟨Ao n fr',σ'⟩ K):Run E m (.seq (.region id l.toArray false) y) ⟨Ao n fr,σ⟩ K:=by
 obtain⟨orc,hO,h⟩:=h;exact ZE hE hO ts h hk
theorem Q3(hE:E.Ok)(hP:E.P.follows .mixedOrders=true){l:List Oper}(T:List (List Nat))(hok1:Gc l.toArray T=true)(hok2:Ik E l.toArray T=true)(ts:List Nat) (h:∃orc,KK E.toBase orc∧NJ E orc true n l ts (fr,σ)=some (fr',σ')) {y:Code} (hk:Run E m y ⟨Ao n fr',σ'⟩ K):Run E m (.seq (.region id l.toArray true) y) ⟨Ao n fr,σ⟩ K:=by
 obtain⟨orc,hO,h⟩:=h;exact ZJ hE hO hP T hok1 hok2 ts h hk
def SM(E:Env)(n:Nat)(K:DB):Prop:=∀st st',Weak E n st st'→K .normal st'→K .normal st
theorem JD{y:Code}:SM E n (Aaa E n y K):=fun st st' h k=>FC h k
theorem P1{V:Type}{S:V→St}{J:V→Prop}:SM E n (UI E n S J K):=fun st st' h k=>by
 obtain⟨v,hv,hw⟩:=k;exact⟨v,hv,h.trans hw⟩
theorem Aft{V X:Type}{S:V→St}{o:V⊕X}:SM E n (lpK E n S o K):=fun st st' h k=>by
 obtain⟨v,hv,hw⟩:=k;exact⟨v,hv,h.trans hw⟩
theorem Mi(h:SM E n K):SM E n (J2 i K):=h
theorem Oj(h:SM E n K):SM E n (Ak3 K):=h
theorem M8(hE:E.Ok){l:List Oper}(hw:SM E m K)(ts:List Nat)(h:∃orc,KK E.toBase orc∧NJ E orc false n l ts (fr,σ)=some (fr',σ')) (hk:K .normal ⟨Ao n fr',σ'⟩):Run E m (.region id l.toArray false) ⟨Ao n fr,σ⟩ K:=by
 obtain⟨orc,hO,h⟩:=h;simp only[NJ,As6,AsW,As4]at h;obtain⟨⟨fr1,σ1⟩,h1,rfl,rfl⟩:=h;exact AbJ hE hO h1 (hw _ _ (F4 _ _ _ _ _) hk)
theorem AbC(hE:E.Ok)(hP:E.P.follows .mixedOrders=true){l:List Oper}(T:List (List Nat))(hok1:Gc l.toArray T=true)(hok2:Ik E l.toArray T=true)(hw:SM E m K)(ts:List Nat) (h:∃orc,KK E.toBase orc∧NJ E orc true n l ts (fr,σ)=some (fr',σ')) (hk:K .normal ⟨Ao n fr',σ'⟩):Run E m (.region id l.toArray true) ⟨Ao n fr,σ⟩ K:=by
 obtain⟨orc,hO,h⟩:=h;simp only[NJ,As6,AsW,As4]at h;obtain⟨⟨fr1,σ1⟩,h1,rfl,rfl⟩:=h;exact AbV hE hO hP T hok1 hok2 h1 (hw _ _ (F4 _ _ _ _ _) hk)
section
variable {l:List AV}{f:Bool}{els:List (List AV)}{a b c d:Nat}
theorem Aoo(x:Int):(i64 x).scalar=true:=rfl
theorem Aot(x:Int):(i64 x).flatAgg=true:=rfl
theorem AkO(x:Int):(i64 x).flat=true:=rfl
theorem Ak2(x:Int):Ci (i64 x)=[]:=rfl
theorem AkJ(x:Int):Ci (.agg (i64 x::l))=Ci (.agg l):=rfl
theorem Ase(x:UInt8):(u8 x).scalar=true:=rfl
theorem Apa(x:UInt8):(u8 x).flatAgg=true:=rfl
theorem Arl(x:UInt8):(u8 x).flat=true:=rfl
theorem Arm(x:UInt8):Ci (u8 x)=[]:=rfl
theorem ArM(x:UInt8):Ci (.agg (u8 x::l))=Ci (.agg l):=rfl
theorem Ani(x:UInt16):(u16 x).scalar=true:=rfl
theorem Ak0(x:UInt16):(u16 x).flatAgg=true:=rfl
theorem Alu(x:UInt16):(u16 x).flat=true:=rfl
theorem Al8(x:UInt16):Ci (u16 x)=[]:=rfl
theorem AnA(x:UInt16):Ci (.agg (u16 x::l))=Ci (.agg l):=rfl
theorem Amn(x:UInt32):(u32 x).scalar=true:=rfl
theorem AmV(x:UInt32):(u32 x).flatAgg=true:=rfl
theorem Aog(x:UInt32):(u32 x).flat=true:=rfl
theorem Amg(x:UInt32):Ci (u32 x)=[]:=rfl
theorem AmQ(x:UInt32):Ci (.agg (u32 x::l))=Ci (.agg l):=rfl
theorem An7(x:UInt64):(u64 x).scalar=true:=rfl
theorem Aos(x:UInt64):(u64 x).flatAgg=true:=rfl
theorem Amy(x:UInt64):(u64 x).flat=true:=rfl
theorem AnB(x:UInt64):Ci (u64 x)=[]:=rfl
theorem AkR(x:UInt64):Ci (.agg (u64 x::l))=Ci (.agg l):=rfl
theorem Ai3(x:Bool):(AV.bool x).scalar=true:=rfl
theorem AjR(x:Bool):(AV.bool x).flatAgg=true:=rfl
theorem Aij(x:Bool):(AV.bool x).flat=true:=rfl
theorem Ajl(x:Bool):Ci (AV.bool x)=[]:=rfl
theorem Ai0(x:Bool):Ci (.agg (AV.bool x::l))=Ci (.agg l):=rfl
theorem Ana(x:List UInt8):(AV.str x).scalar=true:=rfl
theorem AnK(x:List UInt8):(AV.str x).flatAgg=true:=rfl
theorem AlV(x:List UInt8):(AV.str x).flat=true:=rfl
theorem Amx(x:List UInt8):Ci (AV.str x)=[]:=rfl
theorem AkL(x:List UInt8):Ci (.agg (AV.str x::l))=Ci (.agg l):=rfl
theorem Aqp:(AV.sl f els).scalar=false:=rfl
theorem Ar7:(AV.bs f a b c d).scalar=false:=rfl
theorem Amw:(AV.agg l).scalar=l.all AV.flat:=rfl
theorem An1:(AV.tup l).scalar=l.all AV.flatAgg:=rfl
theorem App:(AV.sl f els).flatAgg=false:=rfl
theorem Ars:(AV.bs f a b c d).flatAgg=false:=rfl
theorem Al6:(AV.agg l).flatAgg=l.all AV.flat:=rfl
theorem AqO:(AV.sl f els).flat=false:=rfl
theorem ArX:(AV.bs f a b c d).flat=false:=rfl
theorem ArD:Ci (.sl f els)=[]:=rfl
theorem Ass:Ci (.bs f a b c d)=[a]:=rfl
theorem ArK{g:FuncId}:Ci (.fn g l)=[]:=rfl
theorem Aoe:Ci (.ref a b)=[]:=rfl
theorem AjY:Ci (.tref a b)=[]:=rfl
theorem AiV:Ci (.nref a)=[]:=rfl
theorem Aii:Ci (.mref a)=[]:=rfl
theorem Aoq:Ci (.tup l)=[]:=rfl
theorem AiA:Ci .junk=[]:=rfl
theorem AnZ:Ci (.agg [])=[]:=rfl
theorem Arh:Ci (.agg (.sl f els::l))=Ci (.agg l):=rfl
theorem AoY:Ci (.agg (.bs f a b c d::l))=a::Ci (.agg l):=rfl
end
theorem AjO{α:Type}{l m:List α}:(ovl l (m.take (min m.length l.length)) 0).length=l.length:=by
 simp[ovl];omega
attribute [go_sem] AjO
theorem Tv(h:InR (m:Int) n):m<n:=by have:=h.2;simpa using this
attribute [go_sem] AiV Aii AjY Aoo Aot AkO Ak2 AkJ Ase Apa Arl Arm ArM Ani Ak0 Alu Al8 AnA Amn AmV Aog Amg AmQ An7 Aos Amy AnB AkR Ai3 AjR Aij Ajl Ai0 Ana AnK AlV Amx AkL Aqp Ar7 Amw An1 App Ars Al6 AqO ArX ArD Ass ArK Aoe Aoq AiA AnZ Arh AoY
section
variable {sel:List Nat}
theorem AiI{a:Int}:wk1 sel (i64 a) (i64 a)=True:=by simp[wk1,wk0,i64,AV.closed]
theorem Alh{a:UInt8}:wk1 sel (u8 a) (u8 a)=True:=by simp[wk1,wk0,u8,AV.closed]
theorem Aig{a:UInt64}:wk1 sel (u64 a) (u64 a)=True:=by simp[wk1,wk0,u64,AV.closed]
theorem Afq{a:Bool}:wk1 sel (.bool a) (.bool a)=True:=by simp[wk1,wk0,AV.closed]
theorem Aku{a:List UInt8}:wk1 sel (.str a) (.str a)=True:=by simp[wk1,wk0,AV.closed]
theorem AlC{f:FuncId}:wk1 sel (.fn f []) (.fn f [])=True:=by simp[wk1,wk0,AV.closed]
theorem AlK{f f':Bool}{a b:List (List AV)}:wk1 sel (.sl f a) (.sl f' b)=((f'=true→f=true)∧a=b):=rfl
theorem Aoa{f f':Bool}{i t o l i' t' o' l':Nat}:wk1 sel (.bs f i t o l) (.bs f' i' t' o' l')=(sel[i']?=some i∧(f'=true→f=true)∧t=t'∧o=o'∧l=l'):=rfl
theorem AfN:wk1 sel (.mref i) (.mref i')=(sel[i']?=some i):=rfl
theorem AfK:wk0 sel (.mref i) (.mref i')=(sel[i']?=some i):=rfl
theorem Afp:wk1 sel (.nref i) (.nref i')=(sel[i']?=some i):=rfl
theorem AfI:wk0 sel (.nref i) (.nref i')=(sel[i']?=some i):=rfl
theorem AgQ:wk1 sel (.tref i o) (.tref i' o')=(sel[i']?=some i∧o=o'):=rfl
theorem Agr:wk0 sel (.tref i o) (.tref i' o')=(sel[i']?=some i∧o=o'):=rfl
theorem AhS:wk1 sel (.ref i o) (.ref i' o')=(sel[i']?=some i∧o=o'):=rfl
theorem Aja{a b:List AV}:wk1 sel (.agg a) (.agg b)=wkL sel a b:=rfl
theorem AjT{a b:List AV}:wk1 sel (.tup a) (.tup b)=wkL sel a b:=rfl
theorem AiR{a:Int}:wk0 sel (i64 a) (i64 a)=True:=by simp[wk0,i64,AV.closed]
theorem Ab9{a:UInt8}:wk0 sel (u8 a) (u8 a)=True:=by simp[wk0,u8,AV.closed]
theorem AbZ{a:UInt32}:wk0 sel (u32 a) (u32 a)=True:=by simp[wk0,u32,AV.closed]
theorem AhN{a:UInt64}:wk0 sel (u64 a) (u64 a)=True:=by simp[wk0,u64,AV.closed]
theorem Yr{a:Bool}:wk0 sel (.bool a) (.bool a)=True:=by simp[wk0,AV.closed]
theorem Ai8{a:List UInt8}:wk0 sel (.str a) (.str a)=True:=by simp[wk0,AV.closed]
theorem Acz{f:FuncId}:wk0 sel (.fn f [.ref i o]) (.fn f [.ref i' o])=(sel[i']?=some i):=by
 refine propext ⟨fun h=>?_,fun h=>.inr ⟨rfl,⟨h,rfl⟩,trivial⟩⟩;rcases h with⟨_,h⟩|⟨_,⟨h,_⟩,_⟩
 ·simp[AV.closed]at h
 ·exact h
theorem Ah0{f:FuncId}:wk1 sel (.fn f [.ref i o]) (.fn f [.ref i' o])=(sel[i']?=some i):=Acz
theorem AnF{f f':Bool}{a b:List (List AV)}:wk0 sel (.sl f a) (.sl f' b)=((f'=true→f=true)∧a=b):=rfl
theorem AnW{f f':Bool}{i t o l i' t' o' l':Nat}:wk0 sel (.bs f i t o l) (.bs f' i' t' o' l')=(sel[i']?=some i∧(f'=true→f=true)∧t=t'∧o=o'∧l=l'):=rfl
theorem Akq:wk0 sel (.ref i o) (.ref i' o')=(sel[i']?=some i∧o=o'):=rfl
theorem Acv{cs cs':List AV}{ro ro':Bool}:UV sel (.box cs ro) (.box cs' ro')=(ro=ro'∧wkL sel cs cs'):=rfl
theorem Adp{k k':Nat}{els els':List (List AV)}{ro ro':Bool}:UV sel (.buf k els ro) (.buf k' els' ro')=(k=k'∧ro=ro'∧els=els'∧Cc els'=true):=rfl
end
def Xo(E:Env)(t:TypeId):Bool:=match E.tab t with
 | some d=>match d.desc with
  | .slice e=>match E.tab e with
   |some de=>match de.desc with
    |.int .u8=>true
    |_=>false
   |none=>false
  |_=>false
 |none=>false
def AhY(E:Env)(t:TypeId):Bool:=match E.tab t with
 |some d=>match d.desc with
  |.string=>true
  |_=>false
 |none=>false
theorem Rh{s d:TypeId}{l:List UInt8}(hs:AhY E s=true)(hd:Xo E d=true):BR E σ s d (.str l)=some (.bs false σ.length l.length 0 l.length,σ++[.buf 1 (L cU8 l) false]):=by
 unfold Xo at hd;unfold AhY at hs;split at hd<;>try cases hd
 rename_i sd hsd;split at hd<;>try cases hd
 rename_i e he;split at hd<;>try cases hd
 rename_i de hde;split at hd<;>try cases hd
 rename_i hu;split at hs<;>try cases hs
 rename_i dd hdd;unfold BR;simp only[hsd,hdd,he,hde,hu];rfl
theorem ob_s{a b:Bool}:(some a==some b)=(a==b):=rfl
theorem ob_n{b:Bool}:((none:Option Bool)==some b)=false:=rfl
attribute [go_sem] ob_s ob_n
attribute [go_sem] Acz Ah0 Afp AfI AfN AfK AgQ Agr AiI Alh Aig Afq Aku AlC AlK Aoa AhS Aja AjT AiR Ab9 AbZ AhN Yr Ai8 AnF AnW Akq Acv Adp Z0 wkL Aly Rh Xo AhY
attribute [go_sem] List.getElem?_cons_zero List.getElem?_cons_succ List.set_cons_zero List.set_cons_succ List.length_cons List.length_nil List.cons_append List.nil_append List.append_nil List.map_cons List.map_nil List.flatMap_cons List.flatMap_nil List.all_cons List.all_nil List.drop_zero List.drop_succ_cons List.drop_nil List.take_zero List.take_succ_cons List.take_nil List.length_append List.length_set List.length_replicate List.take_length List.replicate_zero List.replicate_succ Option.map_some Option.map_none Option.bind_some Option.bind_none Option.isSome_some Option.getD_some Option.some.injEq Prod.mk.injEq Bool.true_and Bool.false_and Bool.and_true Bool.and_false Bool.and_self Bool.not_true Bool.not_false Bool.true_or Bool.false_or and_true true_and and_self and_false false_and or_true true_or or_false false_or implies_true not_true_eq_false not_false_eq_true ne_eq imp_self false_imp_iff decide_true decide_false Bool.false_eq_true Nat.zero_add Nat.add_zero Nat.sub_zero Nat.mul_one eq_self List.cons_ne_nil reduceCtorEq beq_self_eq_true List.mem_cons List.not_mem_nil forall_eq_or_imp forall_eq
end Go.Rv
