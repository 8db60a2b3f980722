/-
  Part 7.
-/
import Derived.Test.YtldngkmkhfddpaaGreatDoorYW6
import Derived.ChangeKeysEq
import Derived.Laws.StructEq
import Derived.Lib.IfaceNeq
import Derived.Laws.Strings
namespace Go.Rv
set_option linter.unusedVariables false
set_option linter.unusedSimpArgs false
variable{t:TypeId}{pr:Addr->Prop}{y x z:AV}{v vx vy:Value}{k:IntKind}{b:Bool}{P:Program}{op:BinOp}
variable {E:Env}{w:World}{g:Gh}{O:Ac}
def GU(w:World)(pr:Addr->Prop)(g:Gh):List (Nat×Value)->List (Nat×AV)->Prop
 |[],[]=>True
 |(i,v)::r,(j,x)::s=>i=j/\Rep w pr g v x/\GU w pr g r s
 |_,_=>False
def OL(w:World)(pr:Addr->Prop)(g:Gh)(vs:Array Value)(cs:List AV):Prop :=
 vs.size=cs.length/\∀(j:Nat) (x:AV),cs[j]?=some x->Rep w pr g (vs.getD j undef) x/\one (vs.getD j undef)=true
theorem S9(off:Nat):∀(us:List Value) (k:Nat) (vs:Array Value),off+k+us.length<=vs.size ->∀j,(us.zipIdx k |>.foldl (fun cs (x:Value×Nat)=>cs.setIfInBounds (off+x.2) x.1) vs).size=vs.size /\(us.zipIdx k |>.foldl (fun cs (x:Value×Nat)=>cs.setIfInBounds (off+x.2) x.1) vs)[j]?=if off+k<=j/\j<off+k+us.length then us[j-(off+k)]? else vs[j]?
 |[],k,vs,h,j=>by simp;omega
 | u::us,k,vs,h,j=>by
  simp only[List.zipIdx_cons,List.foldl_cons,AqP]at h ⊢;obtain⟨i1,i2⟩:=S9 off us (k+1) (vs.setIfInBounds (off+k) u) (by simp;omega) j;refine⟨by rw[i1];simp,?_⟩;rw[i2];by_cases h1:off+(k+1)<=j/\j<off+(k+1)+us.length
  ·rw[AqJ h1,AqJ ⟨by omega,by omega⟩];have:j-(off+k)=j-(off+(k+1))+1:=by omega
   rw[this,AsV]
  rw[AqI h1];by_cases h2:j=off+k
  ·subst h2;rw[AqJ ⟨AqT _,by omega⟩,ArT];simp;omega
  rw[AqI (by omega),ArT,AqI (fun e=>h2 e.symm)]
theorem Su{pr:Addr->Prop}{place place':Nat->Option (Nat×Nat)}(hp:∀i x,place' i=some x->place i=some x):∀(parts:List (Nat×Value)) (aparts:List (Nat×AV)) (vs:Array Value) (cs cs':List AV),GU w pr g parts aparts->OL w pr g vs cs->VI place' cs aparts=some cs'->∃vs',Instr.fill place vs parts=some vs'/\OL w pr g vs' cs'
 |[],[],vs,cs,cs',_,hc,h=>by simp[VI]at h;subst h;exact⟨vs,rfl,hc⟩
 |[],_::_,_,_,_,hp,_,_=>by simp[GU]at hp
 |_::_,[],_,_,_,hp,_,_=>by simp[GU]at hp
 | (i,v)::r,(j,x)::s,vs,cs,cs',hpr,hc,h=>by
  obtain⟨rfl,hv,hr⟩:=hpr;simp only[VI]at h;split at h
  case h_2=>cases h
  rename_i off size xs hpl hxs;split at h
  ·cases h
  rename_i hcond;have hcond:xs.length=size/\off+xs.length<=cs.length:=by constructor<;>(have:=hcond;omega)
  obtain⟨h1,h2⟩:=K4 hv hxs;have hz:=S9 off v.cells.toList 0 vs (by simp;have:=hc.1;omega)
  have hstep:OL w pr g (v.cells.zipIdx.foldl (fun cs (x:Value×Nat)=>cs.setIfInBounds (off+x.2) x.1) vs) (splice cs off xs):=by
   have e:v.cells.zipIdx.foldl (fun cs (x:Value×Nat)=>cs.setIfInBounds (off+x.2) x.1) vs=v.cells.toList.zipIdx.foldl (fun cs (x:Value×Nat)=>cs.setIfInBounds (off+x.2) x.1) vs:=by
    rw[<-Array.foldl_toList];simp
   rw[e];refine⟨by rw[(hz 0).1,G5];exact hc.1,?_⟩;intro k y hk;rw[KZ _ _ _ hcond.2]at hk;have hz2:=(hz k).2;simp only[Asb,ArN,h1]at hz2;split at hk
   ·rename_i hin;rw[AqJ hin,toList_getElem? _ _ (by omega)]at hz2;rw[A3 hz2];exact h2 _ _ hk
   rename_i hin;have hkl:k<vs.size:=by have:=(AqD.1 hk).1;have:=hc.1;omega
   rw[AqI hin,AJ hkl]at hz2;rw[A3 hz2];exact hc.2 _ _ hk
  obtain⟨vs',hf,hc'⟩:=Su hp r s _ _ cs' hr hstep h;refine⟨vs',?_,hc'⟩;simp only[Instr.fill,hp _ _ hpl];rw[AqI (by simp;have:=hc.1;omega)];exact hf
theorem XA{α β:Type}{P:Program}(f:α->Sem β)(h:α->β):∀(l:List α),(∀a,a∈l->(f a).run P w=.ok (h a) w)->(l.mapM f).run P w=.ok (l.map h) w
 |[],_=>by simp
 |a::l,hl=>by simp[Asc,hl a (by simp),XA f h l (fun b hb=>hl b (by simp[hb]))]
theorem Xh(hE:E.Ok){parts:Array (Nat×Value)}{aparts:List (Nat×AV)}(hp:GU w pr g parts.toList aparts)(hx:UO E t aparts=some y) :∃u,(Instr.build t parts).run E.P w=.ok u w/\Rep w pr g u y:=by
 unfold UO at hx;cases ht:E.tab t with
 |none=>simp[ht]at hx
 | some d=>
  simp only[ht]at hx;obtain⟨z,hz,hzs,hzl,hzr⟩:=KO hE ht w;have hzc:OL w pr g z.cells d.zero:=⟨by omega,fun j x hj=>hzr w pr g j x hj⟩;cases hd:d.desc<;>simp only[hd]at hx<;>try (cases hx;done)
  ·rename_i n e;cases hte:E.tab e with
   |none=>simp[hte]at hx
   |some de=>
    simp only[hte,AqE]at hx;obtain⟨cs,hf,rfl⟩:=hx;obtain⟨vs',h1,h2⟩:=Su (place:=fun i=>some (i*de.size,de.size)) (fun i x h=>h) _ _ _ _ _ hp hzc hf;refine⟨.agg vs',?_,.agg _ _ _ h2.1 (fun i x hi=>(h2.2 i x hi).2) (fun i x hi=>(h2.2 i x hi).1)⟩;simp[Instr.build,hz,AP hE ht,hd,BM hE hte,h1]
  rename_i fields;split at hx
  case isFalse=>cases hx
  rename_i hall;simp only[AqE]at hx;obtain⟨cs,hf,rfl⟩:=hx
  have hm:(fields.mapM (fun f=>do pure (f.offset,<-sizeOf f.type):Field->Sem (Nat×Nat))).run E.P w=.ok (fields.map fun f=>(f.offset,((E.tab f.type).map (·.size)).getD 0)) w:=by
   rw[Ar2,Sem.run_map];rw[XA _ (fun f=>(f.offset,((E.tab f.type).map (·.size)).getD 0))]
   ·refine Arz (fun x=>Result.ok x w) ?_;apply Aso;simp
   intro f hf;have:=AqW.1 hall f hf;obtain⟨df,hdf⟩:=Asw.1 this;simp[BM hE hdf,hdf]
  obtain⟨vs',h1,h2⟩:=Su (place:=((fields.map fun f=>(f.offset,((E.tab f.type).map (·.size)).getD 0))[·]?)) (by
   intro i x hix;cases hfi:fields[i]? with
   |none=>simp[hfi]at hix
   | some f=>
    simp only[hfi]at hix;cases htf:E.tab f.type with
    |none=>simp[htf]at hix
    |some df=>
     simp only[htf,AqG]at hix;subst hix;simp[hfi,htf]) _ _ _ _ _ hp hzc hf
  refine⟨.agg vs',?_,.agg _ _ _ h2.1 (fun i x hi=>(h2.2 i x hi).2) (fun i x hi=>(h2.2 i x hi).1)⟩;simp only[Instr.build,Sem.run_bind,hz,Result.andThen_ok,AP hE ht,hd,hm,h1];rfl
theorem DK{n:Int}(h:Rep w pr g v (.int k n)):v=.int k n:=by cases h;rfl
theorem Fb(h:Rep w pr g v (.bool b)):v=.bool b:=by cases h;rfl
theorem GF{l:List UInt8}(h:Rep w pr g v (.str l)):∃s:ByteArray,v=.string s/\s.data.toList=l:=by cases h;exact⟨_,rfl,by assumption⟩
theorem VW{a b:Int}(hop:op≠.shl/\op≠.shr)(hx:Abc op k a b=some y) :∃u,Rep w pr g u y/\∀t,(binOp op t (.int k a) (.int k b)).run P w=.ok u w:=by
 cases op<;>simp only[Abc]at hx<;>first
  |(cases hx;done)
  |(simp at hop;done)
  |(split at hx<;>first|(cases hx;done)|(rename_i hb;simp only[AqG]at hx;subst hx;exact⟨_,.int _ _ _,fun t=>by simp only[binOp,Op.intDiv,ne_eq,Atp,Arx,hb];rfl⟩))
  |(simp only[AqG]at hx;subst hx;exact⟨_,.int _ _ _,fun t=>by simp only[binOp,ne_eq,Atp,Arx];rfl⟩)
  |(simp only[AqG]at hx;subst hx;exact⟨_,.bool _ _,fun t=>by simp only[binOp,ne_eq,Atp,Arx];rfl⟩)
theorem P0{k':IntKind}{a b:Int}(hx:LI op k a b=some y) :∃u,(binOp op t (.int k a) (.int k' b)).run P w=.ok u w/\Rep w pr g u y:=by
 unfold LI at hx;split at hx
 ·cases hx
 rename_i hb
 cases op<;>simp only at hx<;>first
  |(cases hx;done)
  |(simp only[AqG]at hx;subst hx;exact⟨_,by simp only[binOp,Op.shift,hb,Arx];rfl,.int _ _ _⟩)
theorem Wi{a b:ByteArray}(hx:AdA op a.data.toList b.data.toList=some y) :∃u,(binOp op t (.string a) (.string b)).run P w=.ok u w/\Rep w pr g u y:=by
  have hl:∀s:ByteArray,s.data.toList.length=s.size:=fun s=>by simp
  cases op <;> simp only[AdA]at hx<;>first
    |(cases hx;done)
    |(split at hx<;>first
        |(cases hx;done)
        | (rename_i hb
           simp only[AqG]at hx;subst hx;have h2:¬((9223372036854775807:Int)<(a.size:Int)+(b.size:Int)):=by rw[hl,hl]at hb;omega
           exact⟨.string (a++b),by simp[binOp,Op.stringOp,IntKind.max,IntKind.signed,IntKind.bits,h2],.str _ _ _ (by simp)⟩))
    |(simp only[AqG]at hx;subst hx;refine⟨_,by simp only[binOp,Op.stringOp,Sem.run_pure,ByteArray.toList_eq],.bool _ _⟩)
theorem YQ(hE:E.Ok){d:TD}(ht:E.tab t=some d)(hd:d.desc=.bool)(n:Nat)(a b:Bool)(w:World):(Op.equalIn (n+1) t (.bool a) (.bool b)).run E.P w=.ok (a==b) w:=by
 unfold Op.equalIn;rw[Sem.run_bind,AP hE ht,hd];rfl
theorem Y9(hE:E.Ok){d:TD}(ht:E.tab t=some d)(hd:d.desc=.bool)(a b:Bool)(w:World):(Op.equal t (.bool a) (.bool b)).run E.P w=.ok (a==b) w :=
 YQ hE ht hd 9999 a b w
theorem NG{k:IntKind}:∀{xs:List AV} {a:List Int},NO k xs=some a->xs.length=a.length/\∀i,i<a.length->xs[i]?=some (.int k (a.getD i 0))
 |[],a,h=>by cases h;simp
 | x::xs,a,h=>by
  unfold NO at h;split at h
  ·rename_i hh;cases hh
  ·rename_i k' n l hh;cases hh;split at h
   case isFalse=>cases h
   rename_i hk;subst hk;rw[AqE]at h;obtain⟨b,hb,rfl⟩:=h;obtain⟨h1,h2⟩:=NG hb;refine⟨by simp[h1],fun i hi=>?_⟩;cases i with
   |zero=>rfl
   |succ i=>simpa using h2 i (by simpa using hi)
  cases h
theorem NN{P:Program}(w:World){e:TypeId}{k:IntKind}(hu:P.underlying e=some (.int k))(d:Nat)(vs us:Array Value)(fa fb:Nat->Int):∀(is:List Nat),(∀i∈is,vs[i]?=some (.int k (fa i))/\us[i]?=some (.int k (fb i))) ->(Op.eqItems (d+1) e 1 vs us is).run P w=.ok (is.all fun i=>fa i==fb i) w
 |[],_=>by simp[Op.eqItems]
 |i::is,h=>by
  obtain⟨h1,h2⟩:=h i (by simp);have hp:P.plainKey e=true:=by simp[Program.plainKey,hu]
  have ih:=NN w hu d vs us fa fb is (fun j hj=>h j (by simp[hj]));simp only[Op.eqItems,AsQ,Sem.run_bind,run_part_plain w hp h1,run_part_plain w hp h2,Result.andThen_ok,run_equalIn_int w d e k k _ _ hu,List.all_cons];cases hq:(fa i==fb i)
  ·simp
  simpa using ih
theorem Yz{l:List UInt8}(h:Rep w pr g v (.str l)):v=.string ⟨l.toArray⟩:=by
 obtain⟨s,rfl,hs⟩:=GF h;subst hs;rfl
theorem Uo{d:TypeDesc}(hu:P.underlying t=some d)(h:NL d x y=some b)(hx:Rep w pr g vx x)(hy:Rep w pr g vy y)(n:Nat) :P.plainKey t=true/\(Op.equalIn (n+1) t vx vy).run P w=.ok b w:=by
 unfold NL at h;split at h
 ·rename_i k a k' b';split at h
  case h_2=>cases h
  split at h
  case isFalse=>cases h
  rename_i hk;obtain⟨rfl,rfl⟩:=hk;simp only[AqG]at h;subst h;obtain rfl:=DK hx;obtain rfl:=DK hy;exact⟨by simp[Program.plainKey,hu],run_equalIn_int w n t _ _ _ _ hu⟩
 ·rename_i a b';split at h
  case h_2=>cases h
  simp only[AqG]at h;subst h;obtain rfl:=Yz hx;obtain rfl:=Yz hy;refine⟨by simp[Program.plainKey,hu],?_⟩;rw[run_equalIn_string w n t _ _ hu];refine Arz (fun q=>Result.ok q w) ?_;have e:=beq_toListBytes ⟨a.toArray⟩ ⟨b'.toArray⟩;rw[<-e];show(a.toArray==b'.toArray)=_;rw[AsG,ArO,ArO];exact⟨fun q=>by simpa using q,fun q=>by rw[q]⟩
 ·rename_i a b';split at h
  case h_2=>cases h
  simp only[AqG]at h;subst h;obtain rfl:=Fb hx;obtain rfl:=Fb hy;exact⟨by simp[Program.plainKey,hu],run_equalIn_bool' w n t _ _ hu⟩
 cases h
theorem LL(hE:E.Ok){pr:Addr->Prop}{vs us:Array Value}{xs ys:List AV}(hs:vs.size=xs.length)(hs':us.size=ys.length) (hr:∀(i:Nat) (x:AV),xs[i]?=some x->Rep w pr g (vs.getD i undef) x) (hr':∀(i:Nat) (x:AV),ys[i]?=some x->Rep w pr g (us.getD i undef) x) (n:Nat) :∀(fs:List Field) (b:Bool),E5 E xs ys fs=some b->(Op.eqFields (n+1) vs us fs).run E.P w=.ok b w
 |[],b,h=>by cases h;simp[Op.eqFields]
 |f::fs,b,h=>by
  unfold E5 at h;split at h
  case isTrue=>cases h
  rename_i hn;split at h
  case h_2=>cases h
  rename_i d hd;split at h
  case h_2=>cases h
  rename_i x y hx hy;split at h
  case h_2=>cases h
  rename_i b1 c hb1 hc;simp only[AqG]at h;subst h;obtain⟨p1,p2⟩:=Uo (P:=E.P) (hE.desc _ _ hd) hb1 (hr _ _ hx) (hr' _ _ hy) n;have l1:f.offset<vs.size:=by have:=(AqD.1 hx).1;omega
  have l2:f.offset<us.size:=by have:=(AqD.1 hy).1;omega
  have ih:=LL hE hs hs' hr hr' n fs c hc;have g1:vs[f.offset]?=some (vs.getD f.offset undef):=AJ l1;have g2:us[f.offset]?=some (us.getD f.offset undef):=AJ l2;simp only[Op.eqFields,Sem.run_bind,Sem.run_ite];rw[AqJ (by simpa using hn),run_part_plain w p1 g1,Result.andThen_ok,run_part_plain w p1 g2,Result.andThen_ok,p2,Result.andThen_ok];cases b1
  ·simp
  simpa using ih
theorem QG(hE:E.Ok){fs:Array Field}{xs ys:List AV}(hut:E.P.underlying t=some (.struct fs))(hx:Rep w pr g vx (.agg xs))(hy:Rep w pr g vy (.agg ys)) (h1:E.P.stoodInHeld t=false) (h2:E.P.eqGuardType E.P.depth t=false) (hb:E5 E xs ys fs.toList=some b) (hz:(match op with|.eql=>some (AV.bool b)|.neq=>some (AV.bool (!b))|_=>none)=some z) (ox oy:Operand) :∃u,(do eqGuard op t ox oy vx vy;binOp op t vx vy:Sem Value).run E.P w=.ok u w/\Rep w pr g u z:=by
 cases hx with
 |agg _ vs _ hs ho hr=>
 cases hy with
 |agg _ us _ hs' ho' hr'=>
 have hf:E.P.fieldsOf t=fs:=by simp[Program.fieldsOf,hut]
 have heq:(Op.equalIn 10000 t (.agg vs) (.agg us)).run E.P w=.ok b w:=by
  rw[run_equalIn_struct w 9999 t vs us (by rw[hf];exact hut) h1,hf];exact LL hE hs hs' hr hr' 9998 _ _ hb
 rw[Sem.run_bind,run_eqGuard_agg w op t ox oy vs us h2,Result.andThen_ok];cases op<;>simp only at hz<;>try (cases hz;done)
 ·simp only[AqG]at hz;subst hz;exact⟨_,by rw[run_eql_struct,heq];rfl,.bool _ _⟩
 simp only[AqG]at hz;subst hz;exact⟨_,by rw[run_neq_struct,heq];rfl,.bool _ _⟩
theorem Xj(hE:E.Ok){xs ys:List AV}(hx:Rep w pr g vx (.agg xs))(hy:Rep w pr g vy (.agg ys))(hz:Nc E op t xs ys=some z)(ox oy:Operand) :∃u,(do eqGuard op t ox oy vx vy;binOp op t vx vy:Sem Value).run E.P w=.ok u w/\Rep w pr g u z:=by
 unfold Nc at hz;split at hz
 case h_2=>cases hz
 rename_i dt ht;split at hz
 case h_3=>cases hz
 case h_2=>
  rename_i fs hdt;split at hz
  case isFalse=>cases hz
  rename_i hc;split at hz
  case h_2=>cases hz
  rename_i b hb;exact QG hE (by rw[hE.desc t dt ht,hdt]) hx hy hc.1 hc.2 hb hz ox oy
 rename_i n e hdt;split at hz
 case h_2=>cases hz
 rename_i de hte;split at hz
 case h_2=>cases hz
 rename_i k hde;split at hz
 case isFalse=>cases hz
 rename_i hc;obtain⟨c1,c2,c3⟩:=hc;split at hz
 case h_2=>cases hz
 rename_i a b ha hb;have hut:E.P.underlying t=some (.array n e):=by rw[hE.desc t dt ht,hdt]
 have hue:E.P.underlying e=some (.int k):=by rw[hE.desc e de hte,hde]
 obtain⟨i,zz,hi,hsz,_⟩:=hE.info e de hte;have hco:E.P.cellsOf e=1:=by simp[Program.cellsOf,hi,hsz,c1]
 obtain⟨a1,a2⟩:=NG ha;obtain⟨b1,b2⟩:=NG hb;cases hx with
 |agg _ vs _ hs ho hr=>
 cases hy with
 |agg _ us _ hs' ho' hr'=>
 have hget:∀j∈List.range n,vs[j]?=some (.int k (a.getD j 0))/\us[j]?=some (.int k (b.getD j 0)):=by
  intro j hj;have hj':j<n:=ArD.1 hj;have r1:=DK (hr j _ (a2 j (by omega)));have r2:=DK (hr' j _ (b2 j (by omega)));exact⟨by rw[<-r1];exact AJ (by omega),by rw[<-r2];exact AJ (by omega)⟩
 have hall:((List.range n).all fun j=>a.getD j 0==b.getD j 0)=(a==b):=by
  rw[AsG,AqW,ArO];constructor
  ·intro h;refine List.ext_getElem (by omega) fun j h1 h2=>?_
   have:=h j (ArD.2 (by omega));rw[ArO]at this;simpa [AqY,h1,h2]using this
  rintro rfl j _;simp
 have hgt:E.P.eqGuardType E.P.depth t=false:=by
  have:∃m,E.P.depth=m+2:=⟨_,rfl⟩;obtain⟨m,hm⟩:=this;rw[hm];simp only[Program.eqGuardType,hut,hue]
 have heq:(Op.equalIn 10000 t (.agg vs) (.agg us)).run E.P w=.ok (a==b) w:=by
  rw[run_equalIn_array w 9999 vs us hut hi,hco,NN w hue 9998 vs us (fun j=>a.getD j 0) (fun j=>b.getD j 0) _ hget,hall]
 rw[Sem.run_bind,run_eqGuard_agg w op t ox oy vs us hgt,Result.andThen_ok];cases op<;>simp only at hz<;>try (cases hz;done)
 ·simp only[AqG]at hz;subst hz;exact⟨_,by rw[run_eql_struct,heq];rfl,.bool _ _⟩
 simp only[AqG]at hz;subst hz;exact⟨_,by rw[run_neq_struct,heq];rfl,.bool _ _⟩
theorem Wa(hE:E.Ok)(hx:Rep w pr g vx x)(hy:Rep w pr g vy y)(hz:BF E op t x y=some z)(ox oy:Operand) :∃u,(do eqGuard op t ox oy vx vy;binOp op t vx vy:Sem Value).run E.P w=.ok u w/\Rep w pr g u z:=by
 have hg:∀a b,(∀cs,a≠.agg cs)->a≠.nilIface->(eqGuard op t ox oy a b).run E.P w=.ok () w:=by
  intro a b h1 h2;unfold eqGuard;cases op<;>first|rfl|(cases a<;>first|(exact(h1 _ rfl).elim)|(exact(h2 rfl).elim)|rfl)
 unfold BF at hz;split at hz
 ·rename_i k a k' b;obtain rfl:=DK hx;obtain rfl:=DK hy;rw[Sem.run_bind,hg _ _ (by intro cs;simp) (by simp),Result.andThen_ok];split at hz
  ·exact P0 hz
  ·exact P0 hz
  rename_i h1 h2;split at hz
  case isFalse=>cases hz
  rename_i hk;subst hk;obtain⟨u,hr,hu⟩:=VW (P:=E.P) (pr:=pr) (g:=g) (w:=w) ⟨h1,h2⟩ hz;exact⟨u,hu t,hr⟩
 ·obtain⟨sa,rfl,rfl⟩:=GF hx;obtain⟨sb,rfl,rfl⟩:=GF hy;rw[Sem.run_bind,hg _ _ (by intro cs;simp) (by simp),Result.andThen_ok];exact Wi hz
 ·rename_i a b;obtain rfl:=Fb hx;obtain rfl:=Fb hy;rw[Sem.run_bind,hg _ _ (by intro cs;simp) (by simp),Result.andThen_ok];cases ht:E.tab t with
  |none=>simp[ht]at hz
  | some d=>
   simp only[ht]at hz;split at hz
   ·rename_i hd;simp only[AqG]at hz;subst hz;refine⟨_,?_,.bool _ _⟩;simp only[binOp,Sem.run_bind,Y9 hE ht hd,Result.andThen_ok,Sem.run_pure]
   ·rename_i hd;simp only[AqG]at hz;subst hz;refine⟨_,?_,.bool _ _⟩;simp only[binOp,Sem.run_bind,Y9 hE ht hd,Result.andThen_ok,Sem.run_pure]
   cases hz
 ·exact Xj hE hx hy hz ox oy
 ·rename_i tx k a ty k' b;split at hz
  case isFalse=>cases hz
  rename_i hc;obtain⟨rfl,rfl,h1,h2,h3⟩:=hc;cases hx with
  |iface _ _ v _ hv=>
  cases hy with
  |iface _ _ v' _ hv'=>
  obtain rfl:=DK hv;obtain rfl:=DK hv';rw[Sem.run_bind,hg _ _ (by intro cs;simp) (by simp),Result.andThen_ok];unfold Oy at h1;unfold AbA at h2;unfold Ama at h3;cases ht:E.tab t with
  |none=>simp[ht]at h1
  |some d=>
  cases htx:E.tab tx with
  |none=>simp[htx]at h2
  |some dx=>
  simp only[ht]at h1;simp only[htx]at h2;split at h1
  case h_2=>cases h1
  rename_i ms hms;split at h2
  case h_2=>cases h2
  rename_i q hq;have e1:=hE.desc t d ht;have e2:=hE.desc tx dx htx;rw[hms]at e1;rw[hq]at e2;have e3:(E.P.info? tx).map (·.comparable)=some true:=by simpa using h3
  unfold eqB at hz;split at hz
  ·cases hz;exact⟨_,Lib.run_eql_iface_int w a b e1 e3 e2,.bool _ _⟩
  ·cases hz;exact⟨_,Lib.run_neq_iface_int w a b e1 e3 e2,.bool _ _⟩
  cases hz
 cases hz
theorem Vn(hE:E.Ok)(hx:Rep w pr g vx x)(hz:Oh E op t x=some z)(ox oy:Operand)(ho:Pv oy=true) :∃u,(do eqGuard op t ox oy vx .nilIface;binOp op t vx .nilIface:Sem Value).run E.P w=.ok u w/\Rep w pr g u z:=by
 have hoy:oy=.const .nilIface:=by
  unfold Pv at ho;split at ho
  ·rfl
  cases ho
 subst hoy;unfold Oh at hz
 have hty:Oy E t=true->∃ms,E.P.underlying t=some (.interface ms):=by
  intro h;unfold Oy at h;split at h
  case h_2=>cases h
  rename_i d hd;split at h
  case h_2=>cases h
  rename_i ms hms;exact⟨ms,by have:=hE.desc t d hd;rw[hms]at this;exact this⟩
 split at hz
 ·rename_i hi;obtain⟨ms,e1⟩:=hty hi;have hv:vx=.nilIface:=by cases hx;rfl
  subst hv
  have hgd:(eqGuard op t ox (.const .nilIface) .nilIface .nilIface).run E.P w=.ok () w:=by
   unfold eqGuard;cases op<;>first|rfl|(cases ox<;>rfl)
  rw[Sem.run_bind,hgd,Result.andThen_ok];have h0:∀d:Nat,(Op.equalIn (d+1) t .nilIface .nilIface).run E.P w=.ok true w:=fun d=>by simp[Op.equalIn,run_underlying e1]
  have h2:(Op.equal t .nilIface .nilIface).run E.P w=.ok true w:=h0 9999;unfold eqB at hz;split at hz
  ·cases hz;exact⟨.bool true,by simp[binOp,h2],.bool _ _⟩
  ·cases hz;exact⟨.bool false,by simp[binOp,h2],.bool _ _⟩
  cases hz
 ·rename_i t' y hi;obtain⟨ms,e1⟩:=hty hi;cases hx with
  |iface _ _ v _ hv=>
  have hgd:(eqGuard op t ox (.const .nilIface) (.iface t' v) .nilIface).run E.P w=.ok () w:=by
   unfold eqGuard;cases op<;>rfl
  rw[Sem.run_bind,hgd,Result.andThen_ok];have h0:∀d:Nat,(Op.equalIn (d+1) t (.iface t' v) .nilIface).run E.P w=.ok false w:=fun d=>by simp[Op.equalIn,run_underlying e1]
  have h2:(Op.equal t (.iface t' v) .nilIface).run E.P w=.ok false w:=h0 9999;unfold eqB at hz;split at hz
  ·cases hz;exact⟨.bool false,by simp[binOp,h2],.bool _ _⟩
  ·cases hz;exact⟨.bool true,by simp[binOp,h2],.bool _ _⟩
  cases hz
 cases hz
theorem ZO{op:UnOp}(hx:Rep w pr g v x)(hy:VN op x=some y) :∃u,(Op.unary op v).run P w=.ok u w/\Rep w pr g u y:=by
 unfold VN at hy;split at hy
 ·obtain rfl:=DK hx;simp only[AqG]at hy;subst hy;exact⟨_,by simp only[Op.unary,Op.intArith,Sem.run_pure],.int _ _ _⟩
 ·obtain rfl:=DK hx;simp only[AqG]at hy;subst hy;exact⟨_,by simp only[Op.unary,Op.intBits,Sem.run_pure],.int _ _ _⟩
 ·obtain rfl:=Fb hx;simp only[AqG]at hy;subst hy;exact⟨_,by simp[Op.unary],.bool _ _⟩
 cases hy
end Go.Rv
