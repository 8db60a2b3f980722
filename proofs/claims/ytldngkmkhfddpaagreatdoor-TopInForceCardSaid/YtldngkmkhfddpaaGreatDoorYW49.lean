/-
  Part 49.
-/
import Derived.Test.YtldngkmkhfddpaaGreatDoorProg
import Derived.Test.YtldngkmkhfddpaaGreatDoorYW48
import Derived.KernelRfl
import Derived.Shelf.Strconv.Itoa3
import Derived.Lib.AppendIntMem
import Derived.Shelf.Strings.Builder1
import Derived.Shelf.Strings.Builder2
import Derived.Lib.Join
import Derived.BigCall
import Derived.BigGuard
namespace Go.Proofs.YtldngkmkhfddpaaGreatDoor
open Go.Rv
set_option linter.unusedVariables false
set_option linter.unusedSimpArgs false
set_option maxRecDepth 20000
set_option maxHeartbeats 4000000
theorem AhQ{α:Type}{a:α}{l:List α}{i:Nat}:(a::l)[1+i]?=l[i]?:=by rw[Ast];rfl
attribute [go_sem] AhQ
noncomputable def B0:Base:=VK Tryz.prog (fun _=>none) (fun _ _=>false) (fun _=>none) (fun _=>none) none true (fun _ _=>rfl)
theorem ok0:B0.Ok:=NK _ _ _ _ _ none true _
theorem Alm(F:Out):(B0.env F).tab 52=some ⟨.struct #[⟨"Has", 3,0,false,"","", 0⟩,⟨"V", 50,1,false,"","", 8⟩],17,136,(i64 0::C1 i64 ((Arr.rep 16 0)).l)⟩:=(GS Tryz.prog 52).trans tt52
theorem UD(F:Out):(B0.env F).tab 138=some ⟨.map 3 141,1,8,[.val (.map none)]⟩:=(GS Tryz.prog 138).trans AnQ
theorem AgP(F:Out):(B0.env F).tab 140=some ⟨.struct #[⟨"v", 52,0,false,"","wagonpool/teval", 0⟩,⟨"op", 138,17,false,"","wagonpool/teval", 136⟩],18,144,(i64 0::(C1 i64 ((Arr.rep 16 0)).l++[.val (.map none)]))⟩:=(GS Tryz.prog 140).trans AmD
theorem t0_3(F:Out):(B0.env F).tab 3=some ⟨.int .i64,1,8,[i64 0]⟩:=(GS Tryz.prog 3).trans tt3
def AaI(β:Nat)(f:FuncId):Value:=.func (.func f) #[.pointer (some ⟨β,0,none⟩)] #[]
def Hp(β:Nat)(es:Array MapEntry)(cl:Nat)(k:Int)(f:FuncId):Array MapEntry:=es.push { key:=.int .i64 k,val:=AaI β f,born:=cl }
def T6(β:Nat):Array MapEntry :=
 Hp β (Hp β (Hp β (Hp β (Hp β (Hp β (Hp β (Hp β (Hp β #[] 0 3 68) 1 4 69) 2 5 70) 3 6 71) 4 7 72) 5 8 73) 6 9 74) 7 10 75) 8 11 76
def At1(g:Gh)(β:Nat):Prop:=∃b,g[1]?=some b/\b.isBox=true/\b.blk=some β
theorem At1.le{g g':Gh}{β:Nat}(h:At1 g β)(hl:GLe g g'):At1 g' β:=by
 obtain⟨b,h1,h2,h3⟩:=h;obtain⟨b',h4,h5⟩:=hl 1 b h1;rcases h5 with h5|⟨q1,_⟩
 ·exact⟨b',h4,h5.2.2.2.2.2.trans h2,h5.1.trans h3⟩
 rw[h2]at q1;cases q1
abbrev frI:Fr:=[(3,.ref 1 0),(7,.ref 1 0),(8,.mref 2)]
theorem Ae0{F:Addr->Prop}{ops:Array Oper}{Q:Exit->Act->World->Prop}{rest:List Oper}{o1 o2 o3:Oper}{s1 s2:Nat}{f:FuncId}{k:Int}{β:Nat}{es:Array MapEntry}{cl:Nat}{b0 b1:ABlk} (p1:o1.op=.move (.tmp 3)) (d1:o1.dst=some s1) (g1:o1.guard=none) (p2:o2.op=.makeFunc (.func f) #[.tmp s1] #[]) (d2:o2.dst=some s2) (g2:o2.guard=none) (p3:o3.op=.insert 138 (.tmp 8) (.const (.int .i64 k)) (.tmp s2)) (d3:o3.dst=none) (g3:o3.guard=none) (hs:s1<31/\s2<31/\8<s1/\8<s2) (hk:OJ (.int .i64) (.int .i64 k) es=true) {w0:World} {g0:Gh} {a:Act} {w:World} {g:Gh} (hr:Rel (B0.env F) w g ⟨Ah 31 frI,[b0,b1,.obj (.map es cl)]⟩ a) (hβ:At1 g β) (he:Evo (B0.env F) 0 w0 g0 w g) (h:∀a w g,Rel (B0.env F) w g ⟨Ah 31 frI,[b0,b1,.obj (.map (Hp β es cl k f) (cl+1))]⟩ a->At1 g β->Evo (B0.env F) 0 w0 g0 w g->wpList Tryz.prog ops Q rest a w):wpList Tryz.prog ops Q (o1::o2::o3::rest) a w:=by
 have hE:=ok0.env F;simp only[wpList,Region.wanted,g1,Aro];left
 have e1:opL (B0.env F) (HX [] [] none) false (evL 31 frI) [b0,b1,.obj (.map es cl)] o1.op=some (.ref 1 0,[b0,b1,.obj (.map es cl)]):=by
  rw[p1];rfl
 refine Fv hE (Aa (B:=B0) none) e1 hr fun a1 w1 g1' hr1 he1 hl1=>?_
 simp only[wpList,Region.wanted,g2,Aro];left;rw[d1]at hr1
 have e2:opL (B0.env F) (HX [] [] none) false (evL 31 ((s1,.ref 1 0)::frI)) [b0,b1,.obj (.map es cl)] o2.op=some (.fn f [.tup [.ref 1 0]],[b0,b1,.obj (.map es cl)]):=by
  rw[p2];show KB (B0.env F) (evL 31 ((s1,.ref 1 0)::frI)) _ (.makeFunc (.func f) #[.tmp s1] #[])=_
  have:evL 31 ((s1,.ref 1 0)::frI) (.tmp s1)=.ref 1 0:=by
   show(if s1<31 then Rv.look ((s1,.ref 1 0)::frI) s1 else .junk)=_;rw[AqJ hs.1];show(if s1=s1 then _ else _)=_;rw[AqJ rfl]
  simp only[KB,Arc,ArS,this];rfl
 refine Fv hE (Aa (B:=B0) none) e2 hr1 fun a2 w2 g2' hr2 he2 hl2=>?_
 simp only[wpList,Region.wanted,g3,Aro];left;rw[d2]at hr2;have hβ2:=(hβ.le hl1).le hl2;have hr2':Rel (B0.env F) w2 g2' ⟨Ah 31 ((s2,.fn f [.tup [.ref 1 0]])::(s1,.ref 1 0)::frI),[b0,b1,.obj (.map es cl)]⟩ a2:=hr2
 have lk:∀t,t<=8->Rv.look ((s2,.fn f [.tup [.ref 1 0]])::(s1,.ref 1 0)::frI) t=Rv.look frI t:=by
  intro t ht;show(if t=s2 then _ else if t=s1 then _ else _)=_;rw[AqI (by omega),AqI (by omega)]
 have hev:ev (Ah 31 ((s2,.fn f [.tup [.ref 1 0]])::(s1,.ref 1 0)::frI)) (.tmp s2)=.fn f [.tup [.ref 1 0]]:=by
  rw[CG];show(if s2<31 then Rv.look ((s2,_)::_) s2 else .junk)=_;rw[AqJ hs.2.1];show(if s2=s2 then _ else _)=_;rw[AqJ rfl]
 have hv:=DQ hr2' (.tmp s2);rw[hev]at hv
 have hva:a2.eval (.tmp s2)=AaI β f:=by
  generalize a2.eval (.tmp s2)=v at hv;cases hv with
  |fn _ _ caps _ _ _ hn=>exact(hn _ rfl).elim
  | fnb _ _ fs _ hsz hrr=>
   obtain⟨fs⟩:=fs
   match fs,hsz with
   | [u],_=>
    have:=hrr 0 (.ref 1 0) rfl;obtain⟨b,q1,q2,q3⟩:=hβ2;have hu:Rep w2 (Ay (B0.env F) g2') g2' u (.ref 1 0):=this;cases hu with
    |ref _ _ _ β' b' hb' hx' hβ'=>
     rw[q1]at hb';cases hb';rw[q3]at hβ';cases hβ';rfl
 have hmem:=hr2'.mem;obtain⟨b,hb⟩:=Ank hmem (id:=2) (ab:=.obj (.map es cl)) rfl;obtain⟨k1,k2,μ,k3,k4⟩:=hmem.blk 2 b _ hb rfl;have h8:=DQ hr2' (.tmp 8)
 have e8:ev (Ah 31 ((s2,.fn f [.tup [.ref 1 0]])::(s1,.ref 1 0)::frI)) (.tmp 8)=.mref 2:=by
  rw[CG];show(if 8<31 then Rv.look _ 8 else .junk)=_;rw[AqJ (by decide),lk 8 (AqT _)];rfl
 rw[e8]at h8
 have hm8:a2.eval (.tmp 8)=.map (some μ):=by
  generalize a2.eval (.tmp 8)=v at h8;cases h8 with
  |mref _ _ β' b' hb' hx' hβ'=>
   rw[hb]at hb';cases hb';rw[k3]at hβ';cases hβ';rfl
 have hfk:Instr.findNow (.int .i64) (.int .i64 k) es.toList 0=some none:=by
  unfold OJ at hk;split at hk
  ·assumption
  cases hk
 have hu99:Tryz.prog.underlying 138=some (.map 3 141):=hE.desc 138 _ (UD F);have hu3:Tryz.prog.underlying 3=some (.int .i64):=hE.desc 3 _ (t0_3 F)
 have hu:(Instr.mapUpdate 138 (.map (some μ)) (.int .i64 k) (AaI β f)).run Tryz.prog w2=.ok () { w2 with heap:=w2.heap.setIfInBounds μ (.map (Hp β es cl k f) (cl+1)) }:=by
  simp[Instr.mapUpdate,run_underlying hu99,MapKept.run_getObj_map k4,MapKept.run_checkKey hu3 (show MapKept.IsKey (.int .i64) (.int .i64 k)from rfl),MapKept.run_findKey hu3 hfk,MapKept.run_setObj_map _ k4,Result.andThen,Hp]
 have hs2:=MapKept.heap_set (o':=.map (Hp β es cl k f) (cl+1)) k4;obtain⟨hm3,he3⟩:=WF (w':={ w2 with heap:=w2.heap.setIfInBounds μ (.map (Hp β es cl k f) (cl+1)) }) hmem hb rfl k3 (o':=.map (Hp β es cl k f) (cl+1)) rfl (.inr (fun _=>rfl)) hs2.1 hs2.2 (by simp) rfl rfl rfl;unfold Oper.wp
 have hrun:(execOp a2.eval o3).run Tryz.prog w2=.ok .skip { w2 with heap:=w2.heap.setIfInBounds μ (.map (Hp β es cl k f) (cl+1)) }:=by
  unfold execOp;rw[p3];have hc:a2.eval (.const (.int .i64 k))=.int .i64 k:=rfl;simp only[hm8,hva,hc,Sem.run_bind,hu];rfl
 refine Pt (.inr ⟨hrun,rfl⟩) ?_;rw[d3];refine h _ _ g2' ⟨hr2'.size.trans (by simp[Ah]),JG ?_,hm3,?_⟩ hβ2 (((he.trans (he1.of_gle hl1)).trans (he2.of_gle hl2)).trans he3)
 ·intro p hp
  have hlt:p.1<=8:=by
   simp only[frI,Aq9,Asf,Att]at hp;rcases hp with rfl|rfl|rfl<;>decide
  have hx:(Ah 31 ((s2,.fn f [.tup [.ref 1 0]])::(s1,.ref 1 0)::frI))[p.1]?=some p.2:=by
   rw[BT,AqJ (by omega),lk _ hlt];simp only[frI,Aq9,Asf,Att]at hp;rcases hp with rfl|rfl|rfl<;>rfl
  exact(hr2'.slot p.1 p.2 hx).mono he3.cells (GLe.refl _)
 exact hr2'.defers.evo he3
abbrev Iw(has:Int)(v:Arr Int 16):List AV:=i64 has::C1 i64 v.l
theorem Uj(has:Int)(v:Arr Int 16):(Iw has v).all AV.flat=true:=by
 simp only[Iw,C1,List.all_cons,List.all_map,AqZ,AqW];exact⟨rfl,fun x _=>rfl⟩
abbrev ON1(has:Int)(v:Arr Int 16):Ac:=[.box (Iw has v) false,.box (Iw has v++[.val (.map none)]) false]
abbrev ON2(has:Int)(v:Arr Int 16)(β:Nat):Ac:=[.box (Iw has v) false,.box (Iw has v++[.mref 2]) false,.obj (.map (T6 β) 9)]
abbrev An8(F:Addr->Prop)(has:Int)(v:Arr Int 16)(w:World):Ending->World->Prop:=fun e w'=>∃β u g',e=.returned u/\At1 g' β/\Rep w' (Ay (B0.env F) g') g' u (.ref 1 0)/\Mem (B0.env F) w' g' (ON2 has v β)/\Evo (B0.env F) 0 w [] w' g'
theorem AhM{F:Addr->Prop}{has:Int}{v:Arr Int 16}{fn:Func}{c0 c1 c2 c3:Code}(hf:Tryz.prog.funcs[30]?=some fn)(hb:fn.body=some (AlG [c0,c1] (.seq c2 (.seq c3 .ret))))(hn:(fn.name == "runtime.NumGoroutine")=false) (hN:fn.ntmps=31) (hrs:fn.results.toList=[.tmp 2]) (hP:Pre (B0.env F) 31 [c0,c1] (LG 0 [.agg (Iw has v)],[]) ([(3,.ref 1 0)],ON1 has v)) (h2:∀(Q:Exit->Act->World->Prop) a w g,Rel (B0.env F) w g ⟨Ah 31 [(3,.ref 1 0)],ON1 has v⟩ a->(∀β a' w' g',Rel (B0.env F) w' g' ⟨Ah 31 [(3,.ref 1 0)],ON2 has v β⟩ a'->At1 g' β->Evo (B0.env F) 0 w g w' g'->Q .normal a' w')->c2.wp Tryz.prog Q a w) (h3:∀β,Run (B0.env F) 3 (.seq c3 .ret) ⟨Ah 31 [(3,.ref 1 0)],ON2 has v β⟩ (AeU (B0.env F) 3 (Ah 31 [(2,.ref 1 0)]) (ON2 has v β))) {w:World} {vs:Array Value} (hm:Mem (B0.env F) w [] []) (ha:Cj w (Ay (B0.env F) []) [] vs.toList [.agg (Iw has v)]):DoCall Tryz.prog 30 vs w (An8 F has v w):=by
 have hE:=ok0.env F;refine .inl ⟨⟨_,_,hf,hb,hn⟩,?_⟩;refine calls_of_wp hf hb ?_;have hr0:=Jq (fn:=fn) hm ha;rw[hN]at hr0;rw[Fl 31 [.agg (Iw has v)] (AqV rfl) (LG 0 [.agg (Iw has v)]) (fun t _=>FF _ 0 t (Aq5 _))]at hr0;rw[hN];refine Yq (E:=B0.env F) rfl hP hr0 fun a1 w1 g1 hr1 he1=>?_
 refine wp_seq ?_;refine h2 _ a1 w1 g1 hr1 fun β a2 w2 g2 hr2 hβ he2=>?_
 refine Ha (h3 β) rfl hr2 ?_;rintro ex st a3 w3 g3 ⟨hex,hw⟩ hr3 he3;obtain⟨g4,hr4,he4⟩:=hw a3 w3 g3 hr3;have he5:=he3.trans he4
 have hβ4:At1 g4 β:=by
  obtain⟨b,q1,q2,q3⟩:=hβ;obtain⟨b',q4,q5⟩:=he5.ids 1 (by decide) b q1;rcases q5 with q5|⟨q6,_⟩
  ·exact⟨b',q4,q5.2.2.2.2.2.trans q2,q5.1.trans q3⟩
  rw[q2]at q6;cases q6
 obtain⟨us,hus,hrep⟩:=Fi hE hr4 fn.results.toList [.ref 1 0] (by rw[hrs];rfl)
 have hres:(results fn a3.tmps).run Tryz.prog w3=.ok (if h:us.toArray.size=1 then us.toArray[0]else .tuple us.toArray) w3:=by
  have e:results fn a3.tmps=(do let vs <-fn.results.mapM (Jc a3.tmps);pure (if h:vs.size=1 then vs[0]else .tuple vs)):=rfl;have hus':(fn.results.toList.mapM (Jc a3.tmps)).run Tryz.prog w3=.ok us w3:=hus;rw[e,Sem.run_bind,Ar2,Sem.run_map,hus'];rfl
 have fin:An8 F has v w (.returned (if h:us.toArray.size=1 then us.toArray[0]else .tuple us.toArray)) w3:=⟨β,_,g4,rfl,hβ4,GG hrep,hr4.mem,(he1.trans he2).trans (Mq he5)⟩;rcases hex with rfl|rfl
 ·exact⟨hr3.defers.eq rfl,_,hres,fin⟩
 exact⟨hr3.defers.eq rfl,_,hres,fin⟩
theorem Li{P:Program}{ops:Array Oper}{Q:Exit->Act->World->Prop}{o:Oper}{rest:List Oper}{a:Act}{w:World}(hg:o.guard=none)(h:o.wp P a w (wpList P ops Q rest) Q):wpList P ops Q (o::rest) a w:=by
 simp only[wpList,Region.wanted,hg,Aro];exact .inl h
theorem AeY{F:Addr->Prop}{has:Int}{v:Arr Int 16}{w:World}{vs:Array Value}(hm:Mem (B0.env F) w [] [])(ha:Cj w (Ay (B0.env F) []) [] vs.toList [.agg (Iw has v)]) :DoCall Tryz.prog 30 vs w (An8 F has v w):=by
 have hE:=ok0.env F;refine AhM Tryz.func30 rfl (by decide +kernel) rfl rfl ?_ ?_ ?_ hm ha
 ·exact Pre.step (fr':=[(1,.ref 0 0)]) (O':=[.box (Iw has v) false]) (C8 hE TE [1] (fr':=[(1,.ref 0 0)]) (O':=[.box (Iw has v) false]) ⟨_,Aa,by simp only[go_sem,LG,Alm]⟩ R7)
   (Pre.step (C8 hE TE [3] (fr':=[(3,.ref 1 0)]) (O':=[.box (Iw has v) false,.box (Iw has v++[.val (.map none)]) false]) ⟨_,Aa,by simp only[go_sem,Alm,AgP,UD]⟩ R7) (Pre.nil _))
 ·intro Q a w g hr hk;obtain⟨b1,hb1⟩:=Ank hr.mem (id:=1) (ab:=.box (Iw has v++[.val (.map none)]) false) rfl;obtain⟨q1,_,_,_,_,β,_,_,_,q2,_⟩:=hr.mem.blk 1 b1 _ hb1 rfl;have hβ:At1 g β:=⟨b1,hb1,q1,q2⟩;refine wp_region_lit ?_;refine Li rfl ?_;refine Fv hE (Aa (B:=B0) none) (r:=(.ref 1 0,ON1 has v)) (by simp only[go_sem]) hr fun a1 w1 g1 hr1 he1 hl1=>?_
  refine Li rfl ?_;refine Fv hE (Aa (B:=B0) none) (r:=(.mref 2,ON1 has v++[.obj (.map #[] 0)])) (by simp only[go_sem];rfl) hr1 fun a2 w2 g2 hr2 he2 hl2=>?_
  have hβ3:=(hβ.le hl1).le hl2;have he3:=(he1.of_gle (n:=0) hl1).trans (he2.of_gle hl2);have hr3:Rel (B0.env F) w2 g2 ⟨Ah 31 frI,[.box (Iw has v) false,.box (Iw has v++[.val (.map none)]) false,.obj (.map #[] 0)]⟩ a2:=hr2;refine Ae0 rfl rfl rfl rfl rfl rfl rfl rfl rfl (by decide) rfl hr3 hβ3 he3 fun a0 w0 g0 r0 b0 e0=>?_
  refine Ae0 rfl rfl rfl rfl rfl rfl rfl rfl rfl (by decide) rfl r0 b0 e0 fun a1 w1 g1 r1 b1 e1=>?_
  refine Ae0 rfl rfl rfl rfl rfl rfl rfl rfl rfl (by decide) rfl r1 b1 e1 fun a2 w2 g2 r2 b2 e2=>?_
  refine Ae0 rfl rfl rfl rfl rfl rfl rfl rfl rfl (by decide) rfl r2 b2 e2 fun a3 w3 g3 r3 b3 e3=>?_
  refine Ae0 rfl rfl rfl rfl rfl rfl rfl rfl rfl (by decide) rfl r3 b3 e3 fun a4 w4 g4 r4 b4 e4=>?_
  refine Ae0 rfl rfl rfl rfl rfl rfl rfl rfl rfl (by decide) rfl r4 b4 e4 fun a5 w5 g5 r5 b5 e5=>?_
  refine Ae0 rfl rfl rfl rfl rfl rfl rfl rfl rfl (by decide) rfl r5 b5 e5 fun a6 w6 g6 r6 b6 e6=>?_
  refine Ae0 rfl rfl rfl rfl rfl rfl rfl rfl rfl (by decide) rfl r6 b6 e6 fun a7 w7 g7 r7 b7 e7=>?_
  refine Ae0 rfl rfl rfl rfl rfl rfl rfl rfl rfl (by decide) rfl r7 b7 e7 fun a8 w8 g8 r8 b8 e8=>?_
  refine Li rfl ?_;refine Fv hE (Aa (B:=B0) none) (r:=(.mref 2,[.box (Iw has v) false,.box (Iw has v++[.val (.map none)]) false,.obj (.map (T6 β) 9)])) (by simp only[go_sem];rfl) r8 fun a10 w10 g10 hr10 he10 hl10=>?_
  refine Li rfl ?_;refine Fv hE (Aa (B:=B0) none) (r:=(.ref 1 0,[.box (Iw has v) false,.box (Iw has v++[.val (.map none)]) false,.obj (.map (T6 β) 9)])) (by simp only[go_sem]) hr10 fun a11 w11 g11 hr11 he11 hl11=>?_
  refine Li rfl ?_;refine Fv hE (Aa (B:=B0) none) (r:=(.ref 1 17,[.box (Iw has v) false,.box (Iw has v++[.val (.map none)]) false,.obj (.map (T6 β) 9)])) (by simp only[go_sem,AgP,UD]) hr11 fun a12 w12 g12 hr12 he12 hl12=>?_
  refine Li rfl ?_;refine Fv hE (Aa (B:=B0) none) (r:=(.junk,ON2 has v β)) (by simp only[go_sem,UD];rfl) hr12 fun a13 w13 g13 hr13 he13 hl13=>?_
  refine hk β a13 w13 g13 ?_ ((((b8.le hl10).le hl11).le hl12).le hl13) ((((e8.trans (he10.of_gle hl10)).trans (he11.of_gle hl11)).trans (he12.of_gle hl12)).trans (he13.of_gle hl13));refine⟨hr13.size.trans (by simp[Ah]),JG ?_,hr13.mem,hr13.defers⟩;intro p hp;simp only[Aq9,Asf,Att]at hp;subst hp;exact hr13.slot 3 (.ref 1 0) rfl
 intro β;refine EX hE [2] (fr':=[(2,.ref 1 0)]) (O':=ON2 has v β) ⟨_,Aa,by simp only[go_sem]⟩ ?_;exact Ade ⟨.inr rfl,Weak.refl _ _⟩
theorem P7{E E':Env}{g:Gh}(h:E'.F=E.F):Ay E' g=Ay E g:=by
 funext a;unfold Ay;rw[h]
theorem AbS{E E':Env}{w:World}{g:Gh}{b:GB}{ab:ABlk}(h:E'.F=E.F)(hmp:∀t m,E'.maps t=some m->b.blk≠some m.r\/E.maps t=some m)(hb:BlkOk E w g b ab):BlkOk E' w g b ab:=by
 have hp:Ay E' g=Ay E g:=P7 h;cases ab with
 |mp st f=>
  obtain⟨k1,k2,k3⟩:=hb;refine⟨k1,fun t m hm=>(hmp t m hm).elim id (k2 t m),?_⟩;rw[hp];exact k3
 |_=>simp only[BlkOk,hp]at hb ⊢<;>exact hb
theorem AcB{E E':Env}{n:Nat}{w w':World}{g g':Gh}(h:E'.F=E.F)(he:Evo E n w g w' g'):Evo E' n w g w' g' :=
 ⟨he.os,he.tape,he.output,he.size,by rw[P7 h,P7 h];exact he.cells,he.blocks,he.ids⟩
theorem Aot{β μ:Nat}{w:World}(h:w.heap[μ]?=some (.map (T6 β) 9)):Ad2 Tryz.prog 138 ⟨μ,3,141,.int .i64,.val .nilFunc,YJ β⟩ w:=by
 have hE:=ok0.env noF;refine⟨hE.desc 138 _ (UD _),hE.desc 3 _ (t0_3 _),fun w=>by kernel_rfl,rfl,T6 β,9,h,?_,?_⟩
 ·intro e he;simp only[T6,Hp,Array.toList_push,Aru,Aq7,Aq9,Asf,Att]at he;rcases he with rfl|rfl|rfl|rfl|rfl|rfl|rfl|rfl|rfl
  ·exact⟨rfl,.int .i64 3,.fn 68 [.tup [.glob β]],rfl,rfl,rfl,rfl,rfl⟩
  ·exact⟨rfl,.int .i64 4,.fn 69 [.tup [.glob β]],rfl,rfl,rfl,rfl,rfl⟩
  ·exact⟨rfl,.int .i64 5,.fn 70 [.tup [.glob β]],rfl,rfl,rfl,rfl,rfl⟩
  ·exact⟨rfl,.int .i64 6,.fn 71 [.tup [.glob β]],rfl,rfl,rfl,rfl,rfl⟩
  ·exact⟨rfl,.int .i64 7,.fn 72 [.tup [.glob β]],rfl,rfl,rfl,rfl,rfl⟩
  ·exact⟨rfl,.int .i64 8,.fn 73 [.tup [.glob β]],rfl,rfl,rfl,rfl,rfl⟩
  ·exact⟨rfl,.int .i64 9,.fn 74 [.tup [.glob β]],rfl,rfl,rfl,rfl,rfl⟩
  ·exact⟨rfl,.int .i64 10,.fn 75 [.tup [.glob β]],rfl,rfl,rfl,rfl,rfl⟩
  exact⟨rfl,.int .i64 11,.fn 76 [.tup [.glob β]],rfl,rfl,rfl,rfl,rfl⟩
 intro ka hka hne;cases ka with
 | int k n=>
  cases k with
  | i64=>
   have hn:YJ β (.int .i64 n)≠none:=hne;unfold YJ at hn;simp only[]at hn
   have hc:n=3\/n=4\/n=5\/n=6\/n=7\/n=8\/n=9\/n=10\/n=11:=by
    refine AsM fun hx=>hn ?_
    simp only[not_or]at hx;obtain⟨c3,c4,c5,c6,c7,c8,c9,c10,c11⟩:=hx;rw[AqI c3,AqI c4,AqI c5,AqI c6,AqI c7,AqI c8,AqI c9,AqI c10,AqI c11]
   rcases hc with rfl|rfl|rfl|rfl|rfl|rfl|rfl|rfl|rfl
   ·exact⟨{ key:=.int .i64 3,val:=AaI β 68,born:=0 },by simp[T6,Hp],rfl⟩
   ·exact⟨{ key:=.int .i64 4,val:=AaI β 69,born:=1 },by simp[T6,Hp],rfl⟩
   ·exact⟨{ key:=.int .i64 5,val:=AaI β 70,born:=2 },by simp[T6,Hp],rfl⟩
   ·exact⟨{ key:=.int .i64 6,val:=AaI β 71,born:=3 },by simp[T6,Hp],rfl⟩
   ·exact⟨{ key:=.int .i64 7,val:=AaI β 72,born:=4 },by simp[T6,Hp],rfl⟩
   ·exact⟨{ key:=.int .i64 8,val:=AaI β 73,born:=5 },by simp[T6,Hp],rfl⟩
   ·exact⟨{ key:=.int .i64 9,val:=AaI β 74,born:=6 },by simp[T6,Hp],rfl⟩
   ·exact⟨{ key:=.int .i64 10,val:=AaI β 75,born:=7 },by simp[T6,Hp],rfl⟩
   exact⟨{ key:=.int .i64 11,val:=AaI β 76,born:=8 },by simp[T6,Hp],rfl⟩
  |_=>exact(hne rfl).elim
 |_=>exact(hne rfl).elim
theorem Akx{rs:Aqm}{F:Out}{w:World}{g:Gh}{O:Ac}(hm:Mem ((B rs).env F) w g O){β μ:Nat}{has:Int}{v:Arr Int 16}{arr:Array Value}{t:TypeId}{fz:Nat×Nat}(h3:4<=β)(hnm:¬EJ g β)(hnu:¬EJ g μ)(hF:∀j,¬F.F ⟨β,j,none⟩) (hc:w.heap[β]?=some (.cells arr t fz)) (hcell:∀(j:Nat) (x:AV),(Iw has v++[.val (.map (some μ))])[j]?=some x->j<arr.size/\Rep w (Ay ((B rs).env F) g) [] (arr.getD j undef) x/\one (arr.getD j undef)=true) (hμ:w.heap[μ]?=some (.map (T6 β) 9)):Mem ((B ⟨rs.r,some (β-4,μ,has,v)⟩).env F) w g O:=by
 have hp:Ay ((B ⟨rs.r,some (β-4,μ,has,v)⟩).env F) g=Ay ((B rs).env F) g:=P7 rfl;refine⟨hm.len,fun id b ab h1 h2=>AbS (E:=(B rs).env F) rfl (fun t' m h=>?_) (hm.blk id b ab h1 h2),hm.inj,hm.foreign,?_,?_,hm.whole⟩
 ·have h':(if t'=120 then some ⟨rs.r 1,9,4,.string,.bool false,QK (fun k=>.str k) (fun x=>.bool x) tab1⟩else if t'=214 then some ⟨rs.r 3,5,9,.int .u8,.str ([]:List UInt8),QK (fun k=>u8 k) (fun x=>.str x) tab3⟩else if t'=138 then some (⟨μ,3,141,.int .i64,.val .nilFunc,YJ ((β-4)+4)⟩:MapS)else none)=some m:=h;by_cases c1:t'=120
  ·subst c1;exact .inr h
  by_cases c2:t'=214
  ·subst c2;exact .inr h
  rw[AqI c1,AqI c2]at h';split at h'
  ·cases h';exact .inl fun hbk=>hnu ⟨id,b,h1,hbk⟩
  cases h'
 ·intro i cs h;rw[hp];by_cases h0:i<4
  ·refine hm.glob i cs ?_;have h':i=0\/i=1\/i=2\/i=3:=by omega
   rcases h' with rfl|rfl|rfl|rfl
   ·exact h
   ·exact h
   ·have h2:(if 2=(β-4)+4 then some (i64 has::(C1 i64 v.l++[.val (.map (some μ))]))else none)=some cs:=h;rw[AqI (by omega)]at h2;cases h2
   exact h
  have h':(if i=1 then some [AV.val (.map (some (rs.r 1)))]else if i=3 then some [AV.val (.map (some (rs.r 3)))]else if i=0 then some (C1 u8 glob0.l)else if i=(β-4)+4 then some (i64 has::(C1 i64 v.l++[.val (.map (some μ))]))else none)=some cs:=h;rw[AqI (by omega),AqI (by omega),AqI (by omega)]at h';split at h'
  ·rename_i e;cases h';have e:i=β:=by omega
   subst e;refine⟨(AqS.1 hc).1,hnm,hF,fun j=>arr.getD j undef,fun j x hj=>?_⟩;obtain⟨q1,q2,q3⟩:=hcell j x hj;refine⟨?_,q2,q3⟩;rw[cell?_eq hc,AJ q1]
  cases h'
 intro t' m h;have h':(if t'=120 then some ⟨rs.r 1,9,4,.string,.bool false,QK (fun k=>.str k) (fun x=>.bool x) tab1⟩else if t'=214 then some ⟨rs.r 3,5,9,.int .u8,.str ([]:List UInt8),QK (fun k=>u8 k) (fun x=>.str x) tab3⟩else if t'=138 then some (⟨μ,3,141,.int .i64,.val .nilFunc,YJ ((β-4)+4)⟩:MapS)else none)=some m:=h;by_cases c1:t'=120
 ·subst c1;rw[AqJ rfl]at h';exact hm.maps 120 m h'
 by_cases c2:t'=214
 ·subst c2;rw[AqI (by decide),AqJ rfl]at h';exact hm.maps 214 m h'
 rw[AqI c1,AqI c2]at h';split at h'
 ·rename_i e;subst e;cases h';rw[show β-4+4=β by omega];exact Aot hμ
 cases h'
theorem Aem{rs:Aqm}{F:Addr->Prop}{w:World}{g:Gh}{O:Ac}{vs:Array Value}{has:Int}{v:Arr Int 16}(hm:Mem ((B rs).env F) w g O)(ha:Cj w (Ay ((B rs).env F) g) g vs.toList [.agg (Iw has v)]) :DoCall Tryz.prog 30 vs w (fun e w'=>∃β μ,e=.returned (.pointer (some ⟨β,0,none⟩))/\4<=β/\Mem ((B rs).env F) w' g O/\Mem ((B ⟨rs.r,some (β-4,μ,has,v)⟩).env F) w' g O/\∀n,Evo ((B rs).env F) n w g w' g):=by
 have hnm0:∀β,¬EJ [] β:=by rintro β ⟨id,b,h,_⟩;simp at h
 have hm0:Mem (B0.env F) w [] []:=⟨rfl,fun id b ab h=>by simp at h,fun id id' b b' β h=>by simp at h,fun a h=>⟨(hm.foreign a h).1,hnm0 _⟩,fun i cs h=>(by cases h),fun t m h=>(by cases h),fun i vs h=>(by cases h)⟩
 have ha0:Cj w (Ay (B0.env F) []) [] vs.toList [.agg (Iw has v)]:=by
  refine Vd ha fun u x hx hu=>?_
  simp only[Arm]at hx;subst hx;refine Mh hu ?_;exact Uj has v
 refine(AeY hm0 ha0).mono ?_;rintro e w' ⟨β,u,g',rfl,hβ,hu,hm',he⟩;obtain⟨b1,q1,q2,q3⟩:=hβ
 have hu':u=.pointer (some ⟨β,0,none⟩):=by
  cases hu with
  |ref _ _ _ β' b' hb' hx' hβ'=>
   rw[q1]at hb';cases hb';rw[q3]at hβ';cases hβ';rfl
 subst hu';obtain⟨b2,hb2⟩:=Ank hm' (id:=2) (ab:=.obj (.map (T6 β) 9)) rfl;obtain⟨k1,k2,μ,k3,k4⟩:=hm'.blk 2 b2 _ hb2 rfl;obtain⟨l1,l2,l3,l4,l5,β1,arr,t,fz,l6,l7,l8,l9,l10⟩:=hm'.blk 1 b1 _ q1 rfl;rw[q3]at l6;cases l6
 have hnew:∀k,EJ g' k->w.heap.size<=k:=fun k hk=>by
  by_cases hl:k<w.heap.size
  ·exact((he.blocks k hl (hnm0 _)).2 hk).elim
  omega
 have hβn:=hnew β ⟨1,b1,q1,q3⟩;obtain⟨hmw,hew⟩:=MF hm (F:=F) (AcB (E:=B0.env F) (E':=(B rs).env F) rfl he);have hevn:∀n,Evo ((B rs).env F) n w g w' g:=fun n=>⟨hew.os,hew.tape,hew.output,hew.size,hew.cells,hew.blocks,fun id _ b hb=>⟨b,hb,GB.step.refl b⟩⟩
 have hnmg:¬EJ g β:=by
  rintro⟨id,b,hb,hbk⟩;have:=DY hm hb hbk;omega
 have hun:=hnew μ ⟨2,b2,hb2,k3⟩
 have hnmu:¬EJ g μ:=by
  rintro⟨id,b,hb,hbk⟩;have:=DY hm hb hbk;omega
 refine⟨β,μ,rfl,?_,hmw,?_,hevn⟩
 ·have:=(hm.glob 3 [AV.val (.map (some (rs.r 3)))] rfl).1;omega
 refine Akx hmw ?_ hnmg hnmu ?_ l7 ?_ k4
 ·have:=(hm.glob 3 [AV.val (.map (some (rs.r 3)))] rfl).1;omega
 ·intro j hj;have:=(hm.foreign _ hj).1;simp only at this;omega
 intro j x hj;have hlen:(Iw has v).length=17:=by simp[Iw,Dr,v.h]
 by_cases hlt:j<(Iw has v).length
 ·have hj':(Iw has v)[j]?=some x:=by rwa[AqN hlt]at hj
  have hj2:(Iw has v++[.mref 2])[j]?=some x:=by rw[AqN hlt];exact hj'
  obtain⟨r1,r2⟩:=l10 j x hj2;refine⟨by rw[l8,AqM];omega,?_,r2⟩;refine RW r1 ?_;exact AqW.1 (Uj has v) x (AqO hj')
 have hj17:j=(Iw has v).length:=by
  have:=(AqD.1 hj).1;rw[AqM,Arl]at this;omega
 subst hj17;rw[AqL (AqT _),AsJ]at hj;cases hj;have hj2:(Iw has v++[.mref 2])[(Iw has v).length]?=some (.mref 2):=by rw[AqL (AqT _),AsJ];rfl
 obtain⟨r1,r2⟩:=l10 _ _ hj2;refine⟨by rw[l8,AqM];simp,?_,r2⟩;generalize arr.getD (Iw has v).length undef=z at r1;cases r1 with
 |mref _ _ β' b' hb' hx' hβ'=>
  rw[hb2]at hb';cases hb';rw[k3]at hβ';cases hβ';exact .val _ _ rfl
def Ws:Ac->Bool
 |[]=>true
 |.box _ _::l=>Ws l
 |.buf _ _ _::l=>Ws l
 |_::_=>false
theorem S7:∀{O:Ac},Ws O=true->∀{i:Nat} {ab:ABlk},O[i]?=some ab->(∃cs ro,ab=.box cs ro)\/∃k els ro,ab=.buf k els ro
 |.box cs ro::l,h,0,ab,hi=>by cases hi;exact .inl ⟨_,_,rfl⟩
 |.buf k els ro::l,h,0,ab,hi=>by cases hi;exact .inr ⟨_,_,_,rfl⟩
 |.box _ _::l,h,i+1,ab,hi=>S7 (O:=l) h (i:=i) (by simpa using hi)
 |.buf _ _ _::l,h,i+1,ab,hi=>S7 (O:=l) h (i:=i) (by simpa using hi)
theorem NW{E:Env}{w:World}{g:Gh}{O:Ac}(hm:Mem E w g O)(hb:Ws O=true){r:Nat}{es:Array MapEntry}{cl:Nat}(hr:w.heap[r]?=some (.map es cl)):¬EJ g r:=by
 rintro⟨id,b,h1,h2⟩;have hid:id<g.length:=(AqD.1 h1).1;rw[hm.len]at hid;have h3:O[id]?=some O[id]:=AqH hid;have hk:=hm.blk id b _ h1 h3;rcases S7 hb h3 with⟨cs,ro,e⟩|⟨k,els,ro,e⟩
 ·rw[e]at hk;obtain⟨_,_,_,_,_,β,arr,t,fz,k6,k7,_⟩:=hk;rw[h2]at k6;cases k6;rw[hr]at k7;cases k7
 rw[e]at hk;obtain⟨_,_,_,_,_,_,k7⟩:=hk;obtain⟨arr,t,fz,k8,_⟩:=k7 r h2;rw[hr]at k8;cases k8
theorem Af3{E E':Env}(hF:E'.F=E.F){n:Nat}{w w':World}{g g':Gh}{O O':Ac}(hm:Mem E w g O)(hb:Ws O=true)(hm':Mem E' w' g' O')(he:Evo E' n w g w' g'):Mem E w' g' O':=by
 have hp:∀g,Ay E g=Ay E' g:=fun g=>P7 hF.symm
 refine⟨hm'.len,fun id b ab h1 h2=>AbS hF.symm (fun t m hmm=>.inl fun hbk=>by
  obtain⟨_,_,_,_,es,cl,hr,_⟩:=hm.maps t m hmm;exact(he.blocks m.r (AqS.1 hr).1 (NW hm hb hr)).2 ⟨id,b,h1,hbk⟩) (hm'.blk id b ab h1 h2),hm'.inj,by rw[<-hF];exact hm'.foreign,FG hm he.size (fun a u h1 h2=>?_) (fun β h1 h2=>(he.blocks β h1 h2).2),?_,Eg hm he.blocks⟩
 ·rw[hp]at h2 ⊢;exact he.cells a u h1 h2
 refine Hx hm fun r es cl hr=>?_
 exact(he.blocks r (AqS.1 hr).1 (NW hm hb hr)).1.trans hr
theorem Amc{rs rs':Aqm}{o:Out}{st:St}{a:Act}{w:World}{g:Gh}(hr:Rel ((B rs).env o) w g st a)(hm':Mem ((B rs').env o) w g st.O):Rel ((B rs').env o) w g st a :=
 ⟨hr.size,fun t x hx=>by rw[P7 (E:=(B rs).env o) (E':=(B rs').env o) rfl];exact hr.slot t x hx,hm',hr.defers⟩
theorem Aiu{rs rs':Aqm}{o:Out}{n:Nat}{O:Ac}{K:CX}(hb:Ws O=true){w:World}{g:Gh}(hm:Mem ((B rs).env o) w g O){Q:Exit->Act->World->Prop} (hq:∀ex st' a' w' g',K ex st'->Rel ((B rs).env o) w' g' st' a'->Evo ((B rs).env o) n w g w' g'->Q ex a' w'):∀ex st' a' w' g',K ex st'->Rel ((B rs').env o) w' g' st' a'->Evo ((B rs').env o) n w g w' g'->Q ex a' w':=by
 intro ex st' a' w' g' hk hr' he;exact hq ex st' a' w' g' hk ⟨hr'.size,fun t x hx=>by rw[P7 (E:=(B rs').env o) (E':=(B rs).env o) rfl];exact hr'.slot t x hx,Af3 (E:=(B rs).env o) (E':=(B rs').env o) rfl hm hb hr'.mem he,hr'.defers⟩ (AcB (E:=(B rs').env o) (E':=(B rs).env o) rfl he)
theorem Afm{rs:Aqm}{F:Addr->Prop}{o:Oper}{x:Operand}(hop:o.op=.call ⟨.value (.func 30),#[x],#[52]⟩){a:Act}{w:World}{g:Gh}{st:St}{D:List Deferred}(hr:Rel ((B rs).env { F:=F,D:=D }) w g st a){has:Int}{v:Arr Int 16}(hx:ev st.fr x=.agg (Iw has v)) {next:Act->World->Prop} {Q:Exit->Act->World->Prop} (hk:∀β μ w',4<=β->Mem ((B ⟨rs.r,some (β-4,μ,has,v)⟩).env { F:=F,D:=D }) w' g st.O->(∀n,Evo ((B rs).env { F:=F,D:=D }) n w g w' g)->Rel ((B rs).env { F:=F,D:=D }) w' g ⟨AC st.fr o.dst (.glob β),st.O⟩ (a.put o.dst (.pointer (some ⟨β,0,none⟩)))->next (a.put o.dst (.pointer (some ⟨β,0,none⟩))) w'):o.wp Tryz.prog a w next Q:=by
 have hv:=DQ hr x;rw[hx]at hv;refine HP (B:=B rs) hop rfl (a:=a) (fid:=30) (caps:=#[]) rfl (Aem (rs:=rs) (F:=F) (g:=g) (O:=st.O) (has:=has) (v:=v) (VZ (D':=[]) hr.mem) ?_) ?_
 ·rw[Asq,ArK];exact⟨hv,trivial⟩
 rintro e w' ⟨β,μ,rfl,h3,hm,hm',he⟩;have he':∀n,Evo ((B rs).env { F:=F,D:=D }) n w g w' g:=fun n=>Mn (D:=[]) (he n)
 refine hk β μ w' h3 (VZ (D:=[]) hm') he' ?_;exact Fw (v:=.pointer (some ⟨β,0,none⟩)) (x:=.glob β) ⟨hr.size,fun t x hx=>(hr.slot t x hx).mono (he' 0).cells (GLe.refl _),VZ (D:=[]) hm,hr.defers.evo (he' 0)⟩ o.dst (.glob _ _)
theorem Aed{rs:Aqm}{F:Addr->Prop}{D:List Deferred}{n N id:Nat}{o1 o2 o3:Oper}{y:Code}{K:CX}{fr:Fr}{O:Ac}{d1 d2 d3:Nat}{has:Int}{v:Arr Int 16} (e1:o1.dst=some d1) (g1:o1.guard=none) (p2:o2.op=.call ⟨.value (.func 30),#[.tmp d1],#[52]⟩) (e2:o2.dst=some d2) (g2:o2.guard=none) (p3:o3.op=.assign (.tmp d2)) (e3:o3.dst=some d3) (g3:o3.guard=none) (c1:Ns o1=true) (hd:d1<N/\d2<N) (h1:opL ((B rs).env { F:=F,D:=D }) (HX [] [] none) false (evL N fr) O o1.op=some (.agg (Iw has v),O)) (hb:Ws O=true) (hk:∀b m,Run ((B ⟨rs.r,some (b,m,has,v)⟩).env { F:=F,D:=D }) n y ⟨Ah N ((d3,.glob (b+4))::(d2,.glob (b+4))::(d1,.agg (Iw has v))::fr),O⟩ K):Run ((B rs).env { F:=F,D:=D }) n (.seq (.region id [o1,o2,o3].toArray false) y) ⟨Ah N fr,O⟩ K:=by
 have hE:((B rs).env { F:=F,D:=D }).Ok:=ok.env _;intro hcm a w g hr Q hq;obtain⟨_,cm2⟩:=MA hcm;refine wpIn_seq ?_;refine wpIn_region_lit ?_;simp only[wpListIn,Region.wanted,g1,g2,g3,Aro];refine O6 ?_ (.inr c1);refine Fv hE (Aa (B:=B rs) none) h1 hr fun a1 w1 g1' hr1 he1 hl1=>?_
 refine O6 (E:=(B rs).env { F:=F,D:=D }) ?_ (.inr (by unfold Ns;rw[p2]))
 have hx:ev (Ah N (put o1.dst (.agg (Iw has v)) fr)) (.tmp d1)=.agg (Iw has v):=by
  rw[CG,e1];show(if d1<N then(if d1=d1 then(AV.agg (Iw has v))else _)else AV.junk)=_;rw[AqJ hd.1,AqJ rfl]
 refine Afm p2 hr1 hx fun β μ w2 h3 hm2 he2 hr2=>?_
 refine O6 (E:=(B rs).env { F:=F,D:=D }) ?_ (.inr (by unfold Ns;rw[p3]));rw[Eh,e1,e2]at hr2
 have h3':opL ((B ⟨rs.r,some (β-4,μ,has,v)⟩).env { F:=F,D:=D }) (HX [] [] none) false (evL N ((d2,.glob β)::(d1,.agg (Iw has v))::fr)) O o3.op=some (.glob β,O):=by
  rw[p3];show KB ((B ⟨rs.r,some (β-4,μ,has,v)⟩).env { F:=F,D:=D }) (evL N ((d2,.glob β)::(d1,.agg (Iw has v))::fr)) O (.assign (.tmp d2))=_;simp only[KB,evL,AqJ hd.2];show some ((if d2=d2 then(AV.glob β)else _),O)=_;rw[AqJ rfl]
 rw[e2];refine Fv (E:=(B ⟨rs.r,some (β-4,μ,has,v)⟩).env { F:=F,D:=D }) (ok.env _) (Aa (B:=B ⟨rs.r,some (β-4,μ,has,v)⟩) none) h3' (Amc hr2 hm2) fun a3 w3 g3' hr3 he3 hl3=>?_
 rw[e3]at hr3;have hk':=hk (β-4) μ;rw[show β-4+4=β by omega]at hk';refine hk' cm2 a3 w3 g3' hr3 Q fun ex st' a' w' g' k r e=>?_
 refine Aiu (rs:=rs) (rs':=⟨rs.r,some (β-4,μ,has,v)⟩) hb hr2.mem (n:=n) (K:=K) (fun ex st' a' w' g' k r e=>?_) ex st' a' w' g' k r ((he3.of_gle hl3).trans e);exact hq ex st' a' w' g' k r (((he1.of_gle hl1).trans (he2 n)).trans e)
variable {rs:Aqm}
theorem QE{a b r}(h:Nv a b=some r):Con (B rs) 161 [u64 a,u64 b] [] (fun r' O'=>r'=.tup [u64 r.1,u64 r.2]/\O'=[]):=by
 refine Cw 51 [.tmp 4,.tmp 5] Tryz.func161 (fun F hE=>?_) h;unfold Nv;refine T0 [0,1] ?_;refine Lt fun x0_2646 c =>Te (fr':=[(0,_),(1,_),(6,u64 x0_2646)]) [0,1,6] Aa (Ew1 c) ?_
 refine Lt fun x1_2648 d =>Te (fr':=[(0,_),(1,_),(6,_),(7,u64 x1_2648)]) [0,1,6,7] Aa (Ew1 d) ?_
 refine Lt fun y0_2650 e =>Te (fr':=[(0,_),(1,_),(6,_),(7,_),(8,u64 y0_2650)]) [0,1,6,7,8] Aa (Ew1 e) ?_
 refine Lt fun y1_2652 f =>Te (fr':=[(0,_),(1,_),(6,_),(7,_),(8,_),(9,u64 y1_2652)]) [0,1,6,7,8,9] Aa (Ew1 f) ?_
 refine T0 [0,1,6,7,8,9,10] ?_;refine Lt fun g i =>Te (fr':=[(0,_),(1,_),(6,_),(7,_),(9,_),(11,u64 g)]) [0,1,6,7,9,11] Aa (Ew1 i) ?_
 refine Lt fun w1_2656 j =>Te (fr':=[(0,_),(1,_),(6,_),(7,_),(9,_),(11,_),(12,u64 w1_2656)]) [0,1,6,7,9,11,12] Aa (Ew1 j) ?_
 refine Lt fun w2_2658 k =>Te (fr':=[(0,_),(1,_),(6,_),(7,_),(9,_),(12,_),(13,u64 w2_2658)]) [0,1,6,7,9,12,13] Aa (Ew1 k) ?_
 refine Lt fun w1_2660 l =>Te (fr':=[(0,_),(1,_),(7,_),(9,_),(12,u64 w1_2660),(13,_)]) [0,1,7,9,12,13] Aa (Ew1 l) ?_
 refine Lt fun m n =>Te (fr':=[(0,_),(1,_),(4,u64 m)]) [0,1,4] Aa (Ew1 n) ?_
 refine T0 [4,5] ?_;exact Sr <|Rr
theorem Gf{b:Aqq}{b_ m_:Nat}(hev:rs.ev=some (b_,m_,b.Has,b.V)){a:Int}{r:Int⊕Int}(h:CW b a=some r):PCon (B rs) 31 [.glob (b_+4),i64 a] [] (Ju r):=by
 refine BH (N:=41) (rs:=[.tmp 4]) 0 rfl ok Tryz.func31 rfl (by decide +kernel) rfl rfl (AqV rfl) (fun F=>?_);have hE:=(ok (rs:=rs)).env F;unfold CW at h;show Run ((B rs).env F) 0 _ ⟨Ah 41 [(0,.glob (b_+4)),(1,i64 a)],[]⟩ _;refine BN ?_;revert h;refine Te [0,1] Aa (Ev (by simp only[go_sem,Xw hev];exact Ce)) ?_;refine Sq ?_;refine Tw [0,1,11] (fun e=>⟨Ah 41 [(0,.glob (b_+4)),(1,i64 a),(11,.bool e)],[]⟩) ?_ ?_
 ·intro _;refine Sp (fun c=>?_) fun c=>?_
  ·exact Lf Aa (Ew1 c) (ws [])
  exact Lf Aa (Ew1 c) (ws [])
 intro e;refine Cd ?_ ?_
 ·intro h;refine E8 hE [] 2 _ (v:=.iface 137 (.agg #[.int .i64 1])) (σ2:=[]) (vals:=[]) rfl rfl ⟨_,[],Aa,trivial,?_⟩ (fun f g i=>?_)
  ·simp only[go_sem,Xw hev]
  refine Dx ?_;obtain rfl:=AqF h;exact wpR []
 refine Sk <|Tn <|Sq <|Ck fun l =>De [[],[0],[0,1],[0,1,2],[0,1,2,3],[],[5],[0,1,2,3,4,5,6],[0,1,2,3,4,5,6,7]] [0,1,22] Aa (Ev (by simp only[go_sem,Xw hev,l];exact Ce)) ?_
 refine Cd ?_ ?_
 ·intro h;refine E8 hE [] 2 _ (v:=.iface 137 (.agg #[.int .i64 181])) (σ2:=[]) (vals:=[]) rfl rfl ⟨_,[],Aa,trivial,?_⟩ (fun f g i=>?_)
  ·simp only[go_sem,Xw hev]
  refine Dx ?_;obtain rfl:=AqF h;exact wpR []
 refine Sk <|Tn <|Ck fun m =>Lt fun j n =>Te (fr':=[(5,i64 j)]) [5] Aa (Ev (by simp only[go_sem,Xw hev,qR m,n];exact Ce)) ?_
 refine Sq ?_;refine Tw [5,37] (fun k=>⟨Ah 41 [(5,i64 j),(37,.bool k)],[]⟩) ?_ ?_
 ·intro _;refine Sp (fun d=>?_) fun d=>?_
  ·exact Lf Aa (Ew1 d) (ws [])
  exact Lf Aa (Ew1 d) (ws [])
 intro k;refine Cd ?_ ?_
 ·intro h;refine E8 hE [] 2 _ (v:=.iface 137 (.agg #[.int .i64 3])) (σ2:=[]) (vals:=[]) rfl rfl ⟨_,[],Aa,trivial,?_⟩ (fun f g i=>?_)
  ·simp only[go_sem,Xw hev]
  refine Dx ?_;obtain rfl:=AqF h;exact wpR []
 refine Sk <|Tn <|Te [4] Aa (Ev (by simp only[go_sem,Xw hev];exact Ce)) ?_
 refine Sr ?_;intro h;obtain rfl:=AqF h;exact wpF
variable {rs:Aqm}
theorem HI{b r}(h:GN b=some r):Con (B rs) 128 [u8 b] [] (fun r' O'=>r'=.bool r/\O'=[]):=by
 refine Cw 9 [.tmp 2] Tryz.func128 (fun F hE=>?_) h;unfold GN;refine T0 [0] ?_;refine Tw [2] (fun c=>⟨Ah 9 [(2,.bool c)],[]⟩) ?_ ?_
 ·intro _;refine Sp (fun a=>?_) fun a=>?_
  ·exact Lf Aa (Ew1 a) (ws [])
  exact Lf Aa (Ew1 a) (ws [])
 intro c;exact Sr <|Rr
theorem II{b r}(h:GD b=some r):Con (B rs) 131 [u8 b] [] (fun r' O'=>r'=.bool r/\O'=[]):=by
 refine Cw 9 [.tmp 2] Tryz.func131 (fun F hE=>?_) h;unfold GD;refine T0 [0] ?_;refine Tw [2] (fun c=>⟨Ah 9 [(2,.bool c)],[]⟩) ?_ ?_
 ·intro _;refine Sp (fun a=>?_) fun a=>?_
  ·exact Lf Aa (Ew1 a) (ws [])
  exact Lf Aa (Ew1 a) (ws [])
 intro c;exact Sr <|Rr
theorem MG{a:List UInt8}{c:UInt8->Option (Bool)}{b:Nat}(g:∀{a0:UInt8} {r:Bool},c a0=some r->Con (B rs) b [u8 a0] [] (fun r' O'=>r'=.bool r/\O'=[])){r:Int}(h:J4 a c=some r):Con (B rs) 129 [.str a,.fn b []] [] (fun r' O'=>r'=i64 r/\O'=[]):=by
 refine FJ (N:=21) (rs:=[.tmp 4]) ok Tryz.func129 rfl (by decide +kernel) rfl rfl (AqV rfl) (fun F=>?_);have hE:=(ok (rs:=rs)).env F;unfold J4 at h;show Run ((B rs).env F) 0 _ ⟨Ah 21 [(0,.str a),(1,.fn b [])],[]⟩ _;refine BN ?_;revert h;refine T0 [0,1] ?_;refine Jo (fun _=>⟨Ah 21 [(0,.str a)],[]⟩) ?_ ?_
 ·intro m i;refine T0 [0,1,7,8] ?_;refine Sb ?_;refine Lo (fun d=>⟨Ah 21 [(0,.str a),(1,.fn b []),(7,i64 (a.length:Int)),(8,i64 d)],[]⟩) (ws []) ?_;rintro d n j e f;show Dj a c d=some j->_;unfold Dj;refine T0 [0,1,7,8,9] ?_;refine Sq <|Cd ?_ ?_
  ·refine Sk <|Tn <|Sq <|Sb <|T0 [0,1,5,7,8] ?_
   refine Ck fun k =>Bd fun o l =>Te [0,1,5,7,8,16] (o1 15 (g l)) (Ew1 (qR k)) ?_
   refine Cd ?_ ?_
   ·refine T0 [4] ?_;exact Sr <|Br <|Tr <|Lr f e <|Br <|Jr i <|Rr
   refine Sk <|Bn <|Tn <|F0 [0,1,7,8] ?_
   exact Ln (ws [])
  refine Sx <|Tx <|Lx f e <|Bx <|?_
  exact Jn ((ws (l':=[(0,.str a)]) (O':=[]) []).trans (ws []))
 intro _;refine T0 [4] ?_;exact Sr <|Rr
theorem Ow{b r}(h:Hu b=some r):Con (B rs) 130 [u8 b] [] (fun r' O'=>r'=.bool r/\O'=[]):=by
 refine Cw 9 [.tmp 2] Tryz.func130 (fun F hE=>?_) h;unfold Hu;refine T0 [0] ?_;refine Tw [2] (fun c=>⟨Ah 9 [(2,.bool c)],[]⟩) ?_ ?_
 ·intro _;refine Bd fun f d=>?_
  refine Sp (fun a=>?_) fun a=>?_
  ·exact Lf (o1 4 (HI d)) (Ew1 a) (ws [])
  refine Bd fun g e=>?_
  exact Lf (o2 4 (HI d) 7 (II e)) (Ew1 a) (ws [])
 intro c;exact Sr <|Rr
theorem Pc{a r}(h:HH a=some r):Con (B rs) 132 [.str a] [] (fun r' O'=>r'=.tup [i64 r.1,i64 r.2]/\O'=[]):=by
 refine Cw 31 [.tmp 2,.tmp 3] Tryz.func132 (fun F hE=>?_) h;unfold HH;refine T0 [0] ?_;refine Sq ?_;refine Tw [0,13] (fun c=>⟨Ah 31 [(0,.str a),(13,.bool c)],[]⟩) ?_ ?_
 ·intro _;refine Sp (fun b=>?_) fun b=>?_
  ·refine Ck fun i=>?_
   exact Lf Aa (Ew2 b (qL i)) (ws [])
  exact Lf Aa (Ew1 b) (ws [])
 intro c;refine Cd ?_ ?_
 ·refine T0 [2,3] ?_;exact Sr <|Tr <|Rr
 refine Sk <|Tn <|T0 [0,4] ?_
 refine Jo (fun d=>⟨Ah 31 [(4,i64 d)],[]⟩) ?_ ?_
 ·intro p j;refine T0 [0,4,15,16] ?_;refine Sb ?_;refine Lo (fun(v:Int×Int)=>(⟨Ah 31 [(0,.str a),(4,i64 v.1),(15,i64 (a.length:Int)),(16,i64 v.2)],[]⟩:St)) (ws []) ?_;rintro⟨e,k⟩ q l f g;show Cu a e k=some l->_;unfold Cu;refine T0 [0,4,15,16,17] ?_;refine Sq <|Cd ?_ ?_
  ·refine Sk <|Tn <|Sq <|Sb <|T0 [0,4,5,15,16] ?_
   refine Ck fun m =>Lt fun n o =>Te (fr':=[(0,_),(4,i64 n),(15,_),(16,_)]) [0,4,15,16] Aa (Ew2 (qR m) o) ?_
   refine T0 [0,4,15,16,28] ?_;refine Cd ?_ ?_
   ·refine T0 [2,3] ?_;exact Sr <|Br <|Tr <|Lr g f <|Br <|Jr j <|Rr
   refine Sk <|Bn <|Tn <|F0 [0,4,15,16] ?_
   exact Ln (ws [])
  refine Sx <|Tx <|Lx g f <|Bx <|?_
  exact Jn ((ws (l':=[(4,i64 e)]) (O':=[]) []).trans (ws []))
 intro d;refine T0 [2,3] ?_;exact Sr <|Rr
theorem IC{b c r}(h:DD b c=some r):Con (B rs) 167 [.str b,.str c] [] (fun r' O'=>r'=.bool r/\O'=[]):=by
 refine Cw 18 [.tmp 4] Tryz.func167 (fun F hE=>?_) h;unfold DD;refine T0 [0,1] ?_;refine Tw [4] (fun d=>⟨Ah 18 [(4,.bool d)],[]⟩) ?_ ?_
 ·intro _;refine Sp (fun a=>?_) fun a=>?_
  ·refine Ck fun e=>?_
   exact Lf Aa (Ew2 a e) (ws [])
  exact Lf Aa (Ew1 a) (ws [])
 intro d;exact Sr <|Rr
theorem K9{a b r}(h:Do a b=some r):Con (B rs) 133 [.str a,.str b] [] (fun r' O'=>r'=.bool r/\O'=[]):=by
 refine Cw 8 [.tmp 4] Tryz.func133 (fun F hE=>?_) h;unfold Do;refine T0 [0,1] ?_;refine Bd fun d c =>Te [4] (o1 7 (IC c)) Ev ?_
 exact Sr <|Rr
theorem HR{l:List UInt8}{c:UInt8}{r:Int}(h:Ej l c=some r):Con (B rs) 166 [.str l,u8 c] [] (fun r' O'=>r'=i64 r/\O'=[]) :=
 Q0 Tryz.func166 (by decide +kernel) rfl (by kernel_rfl) (by kernel_rfl) h
theorem IA{a b r}(h:DB a b=some r):Con (B rs) 127 [.str a,u8 b] [] (fun r' O'=>r'=i64 r/\O'=[]):=by
 refine Cw 8 [.tmp 4] Tryz.func127 (fun F hE=>?_) h;unfold DB;refine T0 [0,1] ?_;refine Bd fun d c =>Te [4] (o1 7 (HR c)) Ev ?_
 exact Sr <|Rr
theorem Kv{a b r}(h:Dq a b=some r):Con (B rs) 83 [.str a,u8 b] [] (fun r' O'=>r'=i64 r/\O'=[]):=by
 refine Cw 8 [.tmp 4] Tryz.func83 (fun F hE=>?_) h;unfold Dq;refine T0 [0,1] ?_;refine Bd fun d c =>Te [4] (o1 7 (IA c)) Ev ?_
 exact Sr <|Rr
theorem QL{a r}(h:HB a=some r):Con (B rs) 84 [.str a] [] (fun r' O'=>r'=.tup [.agg (An r.1),i64 r.2]/\O'=[]):=by
 refine Cw 55 [.cell 2 159,.tmp 3] Tryz.func84 (fun F hE=>?_) h;unfold HB;refine T0 [0,2] ?_;refine Sq <|Ck fun d =>Te [0,2,4] Aa (Ew1 (qL d)) ?_
 refine Sb <|Bd fun q e =>Te [0,2,4,12] (o1 14 (HI e)) Ev ?_
 refine Cd ?_ ?_
 ·refine Bd fun s f =>Ck fun g =>Te [2,5] (o1 17 (MG (fun h=>Ow h) f)) (Ew1 g) ?_
  refine Sq <|T0 [2,5,21] ?_
  refine Cd ?_ ?_
  ·refine T0 [2,3] ?_;exact Sr <|Tr <|Br <|Tr <|Rr
  refine Sk <|Tn <|T0 [2,3] ?_
  exact Sr <|Br <|Tr <|Rr
 refine Bd fun t i =>Te [0,2,25] (o1 27 (II i)) Ev ?_
 refine Cd ?_ ?_
 ·refine Bd fun u j =>Ck fun k =>Te [2,6] (o1 30 (MG (fun h=>II h) j)) (Ew1 k) ?_
  refine Bd fun v l =>Te [2,6,7,8] (o1 34 (Pc l)) Ev ?_
  refine T0 [2,3] ?_;exact Sr <|Br <|Tr <|Rr
 refine Sk <|Bn <|Tn <|Sq <|Ck fun m =>De [[],[],[1],[0,1,2],[0,1,2,3]] [0,2,9] Aa (Ew1 (qL m)) ?_
 refine Tw [2,9,51] (fun c=>⟨Ah 55 [(2,.ref 0 0),(9,.str (IW ([]:List UInt8) tab3 (nth a 0))),(51,.bool c)],[.box [i64 0,.str ([]:List UInt8),i64 0,i64 0] false]⟩) ?_ ?_
 ·intro _;refine Sp (fun b=>?_) fun b=>?_
  ·refine Bd fun w n=>?_
   exact Lf (o1 50 (K9 n)) (Ew1 b) (ws [0])
  exact Lf Aa (Ew1 b) (ws [0])
 intro c;refine Cd ?_ ?_
 ·refine Lt fun o p =>Te (O':=[.box [i64 3,.str o,i64 0,i64 0] false]) [2,3] Aa (Ew1 p) ?_
  exact Sr <|Tr <|Rr
 refine Sk <|Tn <|T0 [2,3] ?_
 exact Sr <|Rr
theorem KF{b r}(h:Eu b=some r):Con (B rs) 45 [.str b] [] (fun r' O'=>r'=.tup [.sl false (L An r.1),i64 r.2.1,i64 r.2.2]/\O'=[]):=by
 refine Cw 62 [.tmp 2,.tmp 3,.tmp 4] Tryz.func45 (fun F hE=>?_) h;unfold Eu;refine T0 [0] ?_;refine Sc <|Sq <|T0 [0,12] ?_
 refine Cd ?_ ?_
 ·refine T0 [2,3,4] ?_;exact Sr <|Tr <|Cr <|Rr
 refine Sk <|Tn <|T0 [0,5] ?_
 refine T0 [0,5,6] ?_;refine Sq <|Sl <|Tn <|?_
 refine Jo (fun c=>⟨Ah 62 [(5,.bs false 0 (c.length) 0 (c.length))],[.buf 4 (L An c) false]⟩) ?_ ?_
 ·intro y j;refine Sb ?_;refine Lo (fun(v:Int×List Aqn)=>(⟨Ah 62 [(0,.str b),(5,.bs false 0 (v.2.length) 0 (v.2.length)),(6,i64 v.1)],[.buf 4 (L An v.2) false]⟩:St)) ((My 5 4 rfl).trans (ws [0])) ?_;rintro⟨d,a⟩ z k e f;show Bs b d a=some k->_;unfold Bs;refine Sq <|T0 [0,5,6,16] ?_
  refine Cd ?_ ?_
  ·refine Sk <|Tn <|Sb <|Sq <|Ck fun l =>Te [0,5,6,19] Aa (Ew1 (qR l)) ?_
   refine Sb ?_;refine Ja (fun i=>⟨Ah 62 [(0,.str b),(5,.bs false 0 (a.length) 0 (a.length)),(6,i64 d),(19,u8 (nth b d.toNat)),(20,.bool i)],[.buf 4 (L An a) false]⟩) ?_ ?_
   ·intro aa;refine T0 [0,5,6,19,20] ?_;refine Cd ?_ ?_
    ·exact Sk <|Jm (ws [0])
    refine T0 [0,5,6,19,20] ?_;refine Cd ?_ ?_
    ·exact Sk <|Jm (ws [0])
    refine T0 [0,5,6,19,20] ?_;refine Cd ?_ ?_
    ·exact Sk <|Jm (ws [0])
    refine F0 [0,5,6,19,20] ?_;exact Jm (ws [0])
   intro i;refine Cd ?_ ?_
   ·refine T0 [0,5,6] ?_;exact Sx <|Bo <|Tx <|Bx <|Ln (ws [0])
   refine T0 [0,5,6,27] ?_;refine Cd ?_ ?_
   ·refine Ck fun m =>Bd fun ab n =>Te [0,5,6,7] (o1 32 (Kv n)) (Ew1 m) ?_
    refine Sq <|T0 [0,5,6,7,34] ?_
    refine Cd ?_ ?_
    ·refine Sx <|Tx <|Bo <|Tx <|Bo <|Lx f e <|Bx <|?_
     exact Jn ((ws (l':=[(5,.bs false 0 (a.length) 0 (a.length))]) (O':=[.buf 4 (L An a) false]) [0]).trans (ws [0]))
    refine Sk <|Tn <|Lt fun o p =>Te (fr':=[(0,_),(5,_),(6,i64 o)]) [0,5,6] Aa (Ew1 p) ?_
    exact Sx <|Bo <|Tx <|Bx <|Ln (ws [0])
   refine Sk <|Bn <|Tn <|Ck fun q =>Bd fun ac s =>Te [0,5,6,8,9] (o1 43 (QL s)) (Ew1 q) ?_
   refine Sq <|T0 [0,5,6,8,9,47] ?_
   refine Cd ?_ ?_
   ·refine T0 [2,3,4] ?_;exact Sr <|Tr <|Br <|Lr f e <|Br <|Jr j <|Cr <|Rr
   refine Sk <|Tn <|T0 [0,5,6,8] ?_
   refine Ck fun t =>Lt fun g u =>Te (fr':=[(0,_),(5,.bs false 0 (g.length) 0 (g.length)),(6,_),(8,_)]) (O':=[.buf 4 (L An g) false,_,_]) [0,5,6,8] Aa (Ew2 t u) ?_
   refine Lt fun w x =>Fe (fr':=[(0,_),(5,_),(6,i64 w)]) [0,5,6] Aa (Ew1 x) ?_
   exact Bn <|Ln (ws [0])
  refine Sx <|Tx <|Lx f e <|Bx <|?_
  exact Jn ((ws (l':=[(5,.bs false 0 (a.length) 0 (a.length))]) (O':=[.buf 4 (L An a) false]) [0]).trans (ws [0]))
 intro c;refine T0 [2,3,4] ?_;exact Sr <|Cr <|Rr
theorem Fc{a r}(h:Em a=some r):Con (B rs) 58 [.str a] [] (fun r' O'=>r'=.bool r/\O'=[]):=by
 refine Cw 6 [.tmp 2] Tryz.func58 (fun F hE=>?_) h;unfold Em;refine T0 [0] ?_;refine T0 [2] ?_;exact Sr <|Rr
theorem TK{r}(h:tbox_all  = some r):Con (B rs) 123 [] [] (fun r' O'=>r'=.agg (C1 i64 r.low.l++C1 i64 r.high.l)/\O'=[]):=by
 refine Cw 10 [.cell 0 152] Tryz.func123 (fun F hE=>?_) h;unfold tbox_all;refine T0 [0] ?_;refine Ja (fun a=>⟨Ah 10 [(0,.ref 0 0)],[.box (C1 i64 (Arr.rep 16 0).l++C1 i64 a.l) false]⟩) ?_ ?_
 ·intro m;refine T0 [0,2] ?_;refine Sb ?_;refine Lo (fun(v:Int×Arr Int 16)=>(⟨Ah 10 [(0,.ref 0 0),(2,i64 v.1)],[.box (C1 i64 (Arr.rep 16 0).l++C1 i64 v.2.l) false]⟩:St)) (ws [0]) ?_;rintro⟨b,c⟩ n e f g;show Mb b c=some e->_;unfold Mb;refine T0 [0,2,3] ?_;refine Sq <|Cd ?_ ?_
  ·refine Sk <|Tn <|Sq <|Sb <|T0 [0,1,2] ?_
   refine Ck fun d=>?_
   have i:16+b.toNat<=31:=by have:=d.2;omega
   refine Lt fun j k =>Fe (O':=[.box (C1 i64 (Arr.rep 16 0).l++C1 i64 j.l) false]) [0,2] Aa (Ew3 (qR d) i k) ?_
   refine Bn <|Tn <|F0 [0,2] ?_
   exact Ln (ws [0])
  refine Sx <|Tx <|Ly g f <|Bx <|?_
  exact Jm ((ws (l':=[(0,.ref 0 0)]) (O':=[.box (C1 i64 (Arr.rep 16 0).l++C1 i64 c.l) false]) [0]).trans (ws [0]))
 intro a;refine T0 [0] ?_;exact Sr <|Rr
theorem O7{b a r}(h:Hl b a=some r):Con (B rs) 124 [.agg (C1 i64 b.low.l++C1 i64 b.high.l),.agg [i64 a.Attr,i64 a.Low,i64 a.High]] [] (fun r' O'=>r'=.agg (C1 i64 r.low.l++C1 i64 r.high.l)/\O'=[]):=by
 refine Cw 30 [.cell 4 152] Tryz.func124 (fun F hE=>?_) h;unfold Hl;refine T0 [2,3,4] ?_;refine Ck fun c=>?_
 have i:a.Attr.toNat<=31:=by have:=c.2;omega
 refine Ck fun d=>?_
 have j:a.Attr.toNat<=31:=by have:=d.2;omega
 refine Lt fun e k =>De (O':=[.box (C1 i64 e.l++C1 i64 b.high.l) false,_,_]) [[],[0],[],[2],[],[2,3,4],[2,3,4,5],[],[7],[2,3,4,5,6,7,8],[],[0,1,2,3,4,5,6,7,8,9,10],[0,1,2,3,4,5,6,7,8,9,10,11]] [2,3,4] Aa (Ew5 (qR c) i (qR d) j k) ?_
 refine Ck fun f=>?_
 have m:16+a.Attr.toNat<=31:=by have:=f.2;omega
 refine Ck fun g=>?_
 have n:16+a.Attr.toNat<=31:=by have:=g.2;omega
 refine Lt fun o p =>De (O':=[.box (C1 i64 e.l++C1 i64 o.l) false,_,_]) [[],[0],[],[2],[],[2,3,4],[2,3,4,5],[],[7],[2,3,4,5,6,7,8],[],[0,1,2,3,4,5,6,7,8,9,10],[0,1,2,3,4,5,6,7,8,9,10,11]] [2,4] Aa (Ew5 (qR f) m (qR g) n p) ?_
 refine T0 [4] ?_;exact Sr <|Rr
variable {rs:Aqm}
theorem L0{rec_:Aqr->Option (Int)}(hrec:∀{a:Aqr} {r:Int},rec_ a=some r->Con (B rs) 60 [.agg (xE a)] [] (fun r' O'=>r'=i64 r/\O'=[])){a:Aqr}{r:Int}(h:EC rec_ a=some r):Con (B rs) 60 [.agg (xE a)] [] (fun r' O'=>r'=i64 r/\O'=[]):=by
 refine FJ (N:=20) (rs:=[.tmp 2]) ok Tryz.func60 rfl (by decide +kernel) rfl rfl (AqV rfl) (fun F=>?_);have hE:=(ok (rs:=rs)).env F;unfold EC at h;show Run ((B rs).env F) 0 _ ⟨Ah 20 [(0,.agg (xE a))],[]⟩ _;refine BN ?_;revert h;refine T0 [1] ?_;refine T0 [1,3] ?_;refine Ja (fun b=>⟨Ah 20 [(3,i64 b)],[]⟩) ?_ ?_
 ·intro u;refine T0 [3,7,8,9] ?_;refine Sb ?_;refine Lo (fun(v:Int×Int)=>(⟨Ah 20 [(3,i64 v.1),(7,.sl false (L cApi_Expr a.L)),(8,i64 (a.L.length:Int)),(9,i64 v.2)],[]⟩:St)) (ws []) ?_;rintro⟨c,d⟩ w e f g;show Fh a rec_ c d=some e->_;unfold Fh;refine T0 [3,7,8,9,10] ?_;refine Sq <|Cd ?_ ?_
  ·refine Sk <|Tn <|Sq <|Sb <|Ck fun i =>Lt fun j k =>Lt fun m n =>Lt fun o p =>Lt fun q s =>Te (O':=[.box (i64 j::i64 m::(C1 i64 o.l++[.sl false (L cApi_Expr q)])) false]) [3,5,7,8,9] Aa (Ew5 (qR i) k n p s) ?_
   refine Bd fun x t =>Fe [3,7,8,9] (o1 15 (hrec t)) Ev ?_
   refine Bn <|Tn <|F0 [3,7,8,9] ?_
   exact Ln (ws [])
  refine Sx <|Tx <|Ly g f <|Bx <|?_
  exact Jm ((ws (l':=[(3,i64 c)]) (O':=[]) []).trans (ws []))
 intro b;refine T0 [2] ?_;exact Sr <|Rr
theorem Lw(n:Nat):∀{a:Aqr} {r:Int},E7 n a=some r->Con (B rs) 60 [.agg (xE a)] [] (fun r' O'=>r'=i64 r/\O'=[]):=by
 induction n with
 |zero=>intro a r h;cases h
 |succ n ih=>intro a r h;exact L0 ih h
theorem Iv{a:Aqr}{r:Int}(h:DO a=some r):Con (B rs) 60 [.agg (xE a)] [] (fun r' O'=>r'=i64 r/\O'=[]):=Lw _ h
theorem BX{a r}(h:Bq a=some r):Con (B rs) 50 [.ref 0 0] [pS a] (fun r' O'=>r'=i64 r.1/\O'=[pS r.2]):=by
 refine Co 1 20 [.tmp 2] Tryz.func50 (fun F hE=>?_) h;unfold Bq;refine T0 [0] ?_;refine Sq <|T0 [0,8] ?_
 refine Cd ?_ ?_
 ·refine Ck fun b =>Te [2] Aa (Ew1 (qL b)) ?_
  exact Sr <|Tr <|Ro [0]
 refine Sk <|Tn <|T0 [2] ?_
 exact Sr <|Ro [0]
theorem D3{a c r}(h:BR a c=some r):Con (B rs) 85 [.ref 0 0,i64 c] [pS a] (fun r' O'=>r'=.tup [.agg (An r.1),.bool r.2.1]/\O'=[pS r.2.2]):=by
 refine Co 1 30 [.cell 4 159,.tmp 5] Tryz.func85 (fun F hE=>?_) h;unfold BR;refine T0 [0,1,4] ?_;refine Sq ?_;refine Tw [0,4,22] (fun d=>⟨Ah 30 [(0,.ref 0 0),(4,.ref 1 0),(22,.bool d)],[pS a,.box [i64 0,.str ([]:List UInt8),i64 0,i64 0] false]⟩) ?_ ?_
 ·intro _;refine Sp (fun b=>?_) fun b=>?_
  ·exact Lf Aa (Ew1 b) (ws [0,1])
  refine Ck fun e=>?_
  exact Lf Aa (Ew2 b (qL e)) (ws [0,1])
 intro d;refine Cd ?_ ?_
 ·refine T0 [4,5] ?_;exact Sr <|Tr <|Ro [0]
 refine Sk <|Tn <|Ck fun f =>Te [4,5] Aa (Ew1 (qL f)) ?_
 exact Sr <|Ro [0]
theorem A7{a d r}(h:Aw a d=some r):Con (B rs) 51 [.ref 0 0,.str d] [pS a] (fun r' O'=>r'=.bool r.1/\O'=[pS r.2]):=by
 refine Co 1 40 [.tmp 4] Tryz.func51 (fun F hE=>?_) h;unfold Aw;refine T0 [0,1] ?_;refine Sq ?_;refine Tw [0,31] (fun e=>⟨Ah 40 [(0,.ref 0 0),(31,.bool e)],[pS a]⟩) ?_ ?_
 ·intro _;refine Sp (fun b=>?_) fun b=>?_
  ·exact Lf Aa (Ew1 b) (ws [0])
  refine Ck fun f=>?_
  refine Sp (fun c=>?_) fun c=>?_
  ·exact Lf Aa (Ew3 b (qL f) c) (ws [0])
  refine Ck fun g=>?_
  exact Lf Aa (Ew4 b (qL f) c (qL g)) (ws [0])
 intro e;refine Cd ?_ ?_
 ·refine T0 [4] ?_;exact Sr <|Tr <|Ro [0]
 refine Sk <|Tn <|Ck fun i =>Lt fun j k =>Te (O':=[.box [.sl false (L An j),i64 a.end_] false]) [] Aa (Ew2 i k) ?_
 refine T0 [4] ?_;exact Sr <|Ro [0]
theorem Ii{b a r}(h:D5 b a=some r):Con (B rs) 88 [.agg (Ab b),.ref 0 0] [.box (.str a.Name::.sl true (L Ag ([]))::i64 a.Pay.Op::i64 a.Pay.N::(C1 i64 a.Pay.Unit.l++[.sl true (L cApi_Expr ([]))])) false] (fun r' O'=>r'=.bool r.1/\O'=[.box (.str r.2.Name::.sl true (L Ag ([]))::i64 r.2.Pay.Op::i64 r.2.Pay.N::(C1 i64 r.2.Pay.Unit.l++[.sl true (L cApi_Expr ([]))])) false]):=by
 refine Co 1 9 [.tmp 3] Tryz.func88 (fun F hE=>?_) h;unfold D5;refine T0 [1,2] ?_;refine T0 [3] ?_;exact Sr <|Ro [0]
theorem Hv{a c r}(h:CA a c=some r):Con (B rs) 135 [.bs false 0 (a.length) 0 (a.length),.fn 88 [.ref 1 0]] [.buf 9 (L Ab a) false,.box (.str c.Name::.sl true (L Ag ([]))::i64 c.Pay.Op::i64 c.Pay.N::(C1 i64 c.Pay.Unit.l++[.sl true (L cApi_Expr ([]))])) false] (fun r' O'=>r'=i64 r.1/\O'=[.buf 9 (L Ab a) false,.box (.str r.2.Name::.sl true (L Ag ([]))::i64 r.2.Pay.Op::i64 r.2.Pay.N::(C1 i64 r.2.Pay.Unit.l++[.sl true (L cApi_Expr ([]))])) false]):=by
 refine Co 2 19 [.tmp 4] Tryz.func135 (fun F hE=>?_) h;unfold CA;refine T0 [0,1] ?_;refine Jo (fun⟨i,j,k,n⟩=>⟨Ah 19 [],[.buf 9 (L Ab a) false,.box (.str i::.sl true (L Ag ([]))::i64 j::i64 k::(C1 i64 n.l++[.sl true (L cApi_Expr ([]))])) false]⟩) ?_ ?_
 ·intro v q;refine T0 [0,1,7,8] ?_;refine Sb ?_;refine Lo (fun⟨b,d,e,f,g⟩=>⟨Ah 19 [(0,.bs false 0 (a.length) 0 (a.length)),(1,.fn 88 [.ref 1 0]),(7,i64 (a.length:Int)),(8,i64 b)],[.buf 9 (L Ab a) false,.box (.str d::.sl true (L Ag ([]))::i64 e::i64 f::(C1 i64 g.l++[.sl true (L cApi_Expr ([]))])) false]⟩) (ws [0,1]) ?_;rintro⟨b,d,e,f,g⟩ w s o p;show Ci a b d e f g=some s->_;unfold Ci;refine T0 [0,1,7,8,9] ?_;refine Sq <|Cd ?_ ?_
  ·refine Sk <|Tn <|Sq <|Sb <|T0 [0,1,5,7,8] ?_
   refine Ck fun t =>Bd fun x u =>Te [0,1,5,7,8,16] (Ae (l:=[]) (m:=[(16,88,[.agg (.str ((nth a b.toNat).Name)::.sl false (L Ag ((nth a b.toNat).When))::i64 (((nth a b.toNat).Pay).Op)::i64 (((nth a b.toNat).Pay).N)::(C1 i64 (((nth a b.toNat).Pay).Unit).l++[.sl false (L cApi_Expr (((nth a b.toNat).Pay).L))])),.ref 1 0],[.buf 9 (L Ab a) false,.box (.str d::.sl true (L Ag ([]))::i64 e::i64 f::(C1 i64 g.l++[.sl true (L cApi_Expr ([]))])) false],_,_)]) trivial ⟨(wc (Ii u) [1]),trivial⟩) (Ew1 (qR t)) ?_
   refine Cd ?_ ?_
   ·refine T0 [4] ?_;exact Sr <|Br <|Tr <|Lr p o <|Br <|Jr q <|Ro [0,1]
   refine Sk <|Bn <|Tn <|F0 [0,1,7,8] ?_
   exact Ln (ws [0,1])
  refine Sx <|Tx <|Lx p o <|Bx <|?_
  exact Jn ((ws (l':=[]) (O':=[.buf 9 (L Ab a) false,.box (.str d::.sl true (L Ag ([]))::i64 e::i64 f::(C1 i64 g.l++[.sl true (L cApi_Expr ([]))])) false]) [0,1]).trans (ws [0,1]))
 rintro⟨i,j,k,n⟩;refine T0 [4] ?_;exact Sr <|Ro [0,1]
theorem Gv{b a r}(h:B6 b a=some r):Con (B rs) 87 [.bs false 0 (b.length) 0 (b.length),.fn 88 [.ref 1 0]] [.buf 9 (L Ab b) false,.box (.str a.Name::.sl true (L Ag ([]))::i64 a.Pay.Op::i64 a.Pay.N::(C1 i64 a.Pay.Unit.l++[.sl true (L cApi_Expr ([]))])) false] (fun r' O'=>r'=.bool r.1/\O'=[.buf 9 (L Ab b) false,.box (.str r.2.Name::.sl true (L Ag ([]))::i64 r.2.Pay.Op::i64 r.2.Pay.N::(C1 i64 r.2.Pay.Unit.l++[.sl true (L cApi_Expr ([]))])) false]):=by
 refine Co 2 9 [.tmp 4] Tryz.func87 (fun F hE=>?_) h;unfold B6;refine T0 [0,1] ?_;refine Bd fun d c =>Te [4] (Ae (l:=[]) (m:=[(7,135,[.bs false 0 (b.length) 0 (b.length),.fn 88 [.ref 1 0]],[.buf 9 (L Ab b) false,.box (.str a.Name::.sl true (L Ag ([]))::i64 a.Pay.Op::i64 a.Pay.N::(C1 i64 a.Pay.Unit.l++[.sl true (L cApi_Expr ([]))])) false],_,_)]) trivial ⟨(wc (Hv c) [0,1]),trivial⟩) Ev ?_
 exact Sr <|Ro [0,1]
theorem AL{a:Aqu}{r:Aqu⊕(Int×Int×Aqu)}(h:Bz a=some r):PCon (B rs) 53 [.ref 0 0] [pS a] (JP r):=by
 refine BH (N:=6) (rs:=[]) 1 rfl ok Tryz.func53 rfl (by decide +kernel) rfl rfl (AqV rfl) (fun F=>?_);have hE:=(ok (rs:=rs)).env F;unfold Bz at h;show Run ((B rs).env F) 1 _ ⟨Ah 6 [(0,.ref 0 0)],[pS a]⟩ _;refine BN ?_;revert h;intro h;replace h:=Am h;obtain⟨b,c,h⟩:=h;refine E8 hE [] 4 _ (v:=.iface 104 (.agg #[.int .i64 b.1,.int .i64 160])) (σ2:=[pS b.2]) (vals:=[]) rfl rfl ⟨_,[],(Ae (l:=[]) (m:=[(3,50,[.ref 0 0],[pS a],_,_)]) trivial ⟨(wc (BX c) [0]),trivial⟩),trivial,?_⟩ (fun d e f=>?_)
 ·simp only[go_sem]
 obtain rfl:=AqF h;exact wpR [0]
theorem Al{a:Aqu}{b:List UInt8}{r:Aqu⊕(Int×Int×Aqu)}(h:Ax a b=some r):PCon (B rs) 47 [.ref 0 0,.str b] [pS a] (Jj r):=by
 refine BH (N:=10) (rs:=[]) 1 rfl ok Tryz.func47 rfl (by decide +kernel) rfl rfl (AqV rfl) (fun F=>?_);have hE:=(ok (rs:=rs)).env F;unfold Ax at h;show Run ((B rs).env F) 1 _ ⟨Ah 10 [(0,.ref 0 0),(1,.str b)],[pS a]⟩ _;refine BN ?_;revert h;refine Bd fun d e =>Te [0,7] (Ae (l:=[]) (m:=[(6,51,[.ref 0 0,.str b],[pS a],_,_)]) trivial ⟨(wc (A7 e) [0]),trivial⟩) Ev ?_
 refine Cd ?_ ?_
 ·intro h;replace h:=Am h;obtain⟨f,c,h⟩:=h;rcases f with g|i
  rotate_left
  ·dsimp only at h;refine Fs 1 9 [.ref 0 0] (Pw (AL c) [0]) (fun _=>?_);obtain rfl:=AqF h;exact wpR [0]
  dsimp only at h;refine C8 hE LB [] (fr':=[]) (O':=[pS g]) ⟨_,(Ae (l:=[]) (m:=[(9,53,[.ref 0 0],[pS d.2],_,_)]) trivial ⟨(wc (PCon.to (AL c) rfl) [0]),trivial⟩),?_⟩ ?_
  ·simp only[go_sem]
  revert h;intro h;obtain rfl:=AqF h;refine Fp (Weak.refl _ _) ?_;refine WT rfl (AaQ (.inl rfl) ?_ rfl ?_)
  ·simp only[go_sem]
  show Kh [0] _ [0] _;simp only[go_sem]
 refine Sk ?_;intro h;obtain rfl:=AqF h;refine Fp (Weak.refl _ _) ?_;refine WT rfl (AaQ (.inl rfl) ?_ rfl ?_)
 ·simp only[go_sem]
 show Kh [0] _ [0] _;simp only[go_sem]
theorem AU{a:Aqu}{r:(Int×Aqu)⊕(Int×Int×Aqu)}(h:Bv a=some r):PCon (B rs) 136 [.ref 0 0] [pS a] (I8 r):=by
 refine BH (N:=24) (rs:=[.tmp 2]) 1 rfl ok Tryz.func136 rfl (by decide +kernel) rfl rfl (AqV rfl) (fun F=>?_);have hE:=(ok (rs:=rs)).env F;unfold Bv at h;show Run ((B rs).env F) 1 _ ⟨Ah 24 [(0,.ref 0 0)],[pS a]⟩ _;refine BN ?_;revert h;refine T0 [0] ?_;refine Bd fun b d =>Te [0,3,4] (Ae (l:=[]) (m:=[(7,85,[.ref 0 0,i64 2],[pS a],_,_)]) trivial ⟨(wc (D3 d) [0]),trivial⟩) Ev ?_
 refine Jo (fun(v:List Aqn×Int)=>(⟨Ah 24 [(0,.ref 0 0),(3,.ref 1 0)],[.box [.sl false (L An v.1),i64 v.2] false,.box (An b.1) false]⟩:St)) ?_ ?_
 ·intro p e;refine T0 [0,3,11] ?_;refine Cd ?_ ?_
  ·intro h;replace h:=Am h;obtain⟨f,c,h⟩:=h;rcases f with g|q
   rotate_left
   ·dsimp only at h;refine Fs 1 13 [.ref 0 0] (Pw (AL c) [0]) (fun _=>?_);refine GP ?_;replace h:=Am h;obtain⟨s,h,i⟩:=h;obtain rfl:=AqF i;obtain rfl:=AqF e;obtain rfl:=AqF h;exact wpR [0]
   dsimp only at h;refine C8 hE Gl [0,3] (fr':=[(0,.ref 0 0),(3,.ref 1 0)]) (O':=[pS g,.box (An b.1) false]) ⟨_,(Ae (l:=[]) (m:=[(13,53,[.ref 0 0],[pS b.2.2,.box (An b.1) false],_,_)]) trivial ⟨(wc (PCon.to (AL c) rfl) [0]),trivial⟩),?_⟩ ?_
   ·simp only[go_sem]
   revert h;exact Jn (ws [0,1])
  exact Sk <|Jn (ws [0,1])
 rintro⟨t,j⟩;refine Ck fun k =>Lt fun n o =>Te (O':=[.box [.sl false (L An n),i64 j] false,_]) [3] Aa (Ew2 k o) ?_
 refine T0 [2] ?_;refine Sr ?_;intro h;obtain rfl:=AqF h;exact wpF
variable {rs:Aqm}
theorem G4{d e r}(h:FH d e=some r):Con (B rs) 14 [i64 d,i64 e] [] (fun r' O'=>r'=.bool r/\O'=[]):=by
 refine Cw 19 [.tmp 4] Tryz.func14 (fun F hE=>?_) h;unfold FH;refine T0 [0,1] ?_;refine Tw [4] (fun f=>⟨Ah 19 [(4,.bool f)],[]⟩) ?_ ?_
 ·intro _;refine Sp (fun a=>?_) fun a=>?_
  ·refine Sp (fun b=>?_) fun b=>?_
   ·refine Sp (fun c=>?_) fun c=>?_
    ·exact Lf Aa (Ew3 a b c) (ws [])
    exact Lf Aa (Ew3 a b c) (ws [])
   exact Lf Aa (Ew2 a b) (ws [])
  exact Lf Aa (Ew1 a) (ws [])
 intro f;exact Sr <|Rr
theorem JX{a r}(h:Hh a=some r):Con (B rs) 78 [i64 a] [] (fun r' O'=>r'=.bool r/\O'=[]):=by
 refine Cw 6 [.tmp 2] Tryz.func78 (fun F hE=>?_) h;unfold Hh;refine T0 [0] ?_;refine T0 [2] ?_;exact Sr <|Rr
theorem Gy{a b r}(h:DJ a b=some r):Con (B rs) 35 [i64 a,i64 b] [] (fun r' O'=>r'=i64 r/\O'=[]):=by
 refine Cw 20 [.tmp 4] Tryz.func35 (fun F hE=>?_) h;unfold DJ;refine T0 [0,1] ?_;refine Bd fun e c =>Te [0,1,5] (o1 8 (JX c)) Ev ?_
 refine Bd fun f d =>Te [0,1,5,6] (o1 10 (JX d)) Ev ?_
 refine Sq <|T0 [0,1,6,11] ?_
 refine Cd ?_ ?_
 ·refine Sq <|T0 [12] ?_
  refine Cd ?_ ?_
  ·refine T0 [4] ?_;exact Sr <|Tr <|Tr <|Rr
  refine Sk <|Tn <|T0 [4] ?_
  exact Sr <|Tr <|Rr
 refine Sk <|Tn <|Sq <|T0 [0,1,13] ?_
 refine Cd ?_ ?_
 ·refine T0 [4] ?_;exact Sr <|Tr <|Rr
 refine Sk <|Tn <|Sq <|T0 [0,1,16] ?_
 refine Cd ?_ ?_
 ·refine T0 [4] ?_;exact Sr <|Tr <|Rr
 refine Sk <|Tn <|Sq <|T0 [19] ?_
 refine Cd ?_ ?_
 ·refine T0 [4] ?_;exact Sr <|Tr <|Rr
 refine Sk <|Tn <|T0 [4] ?_
 exact Sr <|Rr
theorem RH{a r}(h:Ki a=some r):Con (B rs) 34 [.sl false (L IM a)] [] (fun r' O'=>r'=i64 r/\O'=[]):=by
 refine Cw 18 [.tmp 2] Tryz.func34 (fun F hE=>?_) h;unfold Ki;refine T0 [0] ?_;refine T0 [0,3] ?_;refine Jo (fun _=>⟨Ah 18 [(3,i64 0)],[]⟩) ?_ ?_
 ·intro i e;refine T0 [3,6,7,8] ?_;refine Sb ?_;refine Lo (fun b=>⟨Ah 18 [(3,i64 0),(6,.sl false (L IM a)),(7,i64 (a.length:Int)),(8,i64 b)],[]⟩) (ws []) ?_;rintro b j f c d;show Iu a b=some f->_;unfold Iu;refine T0 [3,6,7,8,9] ?_;refine Sq <|Cd ?_ ?_
  ·refine Sk <|Tn <|Sq <|Sb <|Ck fun g =>Te [3,5,6,7,8] Aa (Ew1 (qR g)) ?_
   refine T0 [3,5,6,7,8,14] ?_;refine Cd ?_ ?_
   ·refine T0 [2] ?_;exact Sr <|Br <|Tr <|Lr d c <|Br <|Jr e <|Rr
   refine Sk <|Bn <|Tn <|F0 [3,6,7,8] ?_
   exact Ln (ws [])
  refine Sx <|Tx <|Lx d c <|Bx <|?_
  exact Jn ((ws (l':=[(3,i64 0)]) (O':=[]) []).trans (ws []))
 intro _;refine T0 [2] ?_;exact Sr <|Rr
theorem J6{a b r}(h:Cl a b=some r):Con (B rs) 33 [.agg (Ak a),.agg (Ak b)] [] (fun r' O'=>r'=i64 r/\O'=[]):=by
 refine Cw 26 [.tmp 4] Tryz.func33 (fun F hE=>?_) h;unfold Cl;refine T0 [2,3] ?_;refine Bd fun g c =>Bd fun i d =>Bd fun j e =>Bd fun k f =>De [[],[0],[0,1],[],[3],[3,4],[0,1,2,3,4,5],[],[7],[],[9],[0,1,2,3,4,5,6,7,8,9,10],[],[12],[12,13],[],[15],[15,16],[0,1,2,3,4,5,6,7,8,9,10,11,12,13,14,15,16,17],[0,1,2,3,4,5,6,7,8,9,10,11,12,13,14,15,16,17,18],[0,1,2,3,4,5,6,7,8,9,10,11,12,13,14,15,16,17,18,19],[0,1,2,3,4,5,6,7,8,9,10,11,12,13,14,15,16,17,18,19,20]] [4] (P1 (l:=[(11,_,_,_),(16,_,_,_),(23,_,_,_),(25,_,_,_)]) ⟨Gy  c,Gy  d,Gy  e,RH  f,trivial⟩) Ev ?_
 exact Sr <|Rr
theorem Hz{a r}(h:EN a=some r):Con (B rs) 107 [i64 a] [] (fun r' O'=>r'=i64 r/\O'=[]):=by
 refine Cw 9 [.tmp 2] Tryz.func107 (fun F hE=>?_) h;unfold EN;refine T0 [0] ?_;refine Sq <|T0 [3] ?_
 refine Sb ?_;refine Ja (fun b=>⟨Ah 9 [(3,i64 a),(4,.bool b)],[]⟩) ?_ ?_
 ·intro c;refine T0 [3,4] ?_;refine Cd ?_ ?_
  ·exact Sk <|Jm (ws [])
  refine F0 [3,4] ?_;exact Jm (ws [])
 intro b;refine Cd ?_ ?_
 ·refine T0 [2] ?_;exact Sr <|Br <|Tr <|Rr
 refine T0 [7] ?_;refine Cd ?_ ?_
 ·refine T0 [2] ?_;exact Sr <|Br <|Tr <|Rr
 refine Sk <|Bn <|Tn <|T0 [2] ?_
 exact Sr <|Rr
theorem LS{a r}(h:EQ a=some r):Con (B rs) 143 [i64 a] [] (fun r' O'=>r'=.tup [i64 r.1,i64 r.2]/\O'=[]):=by
 refine Cw 14 [.tmp 2,.tmp 3] Tryz.func143 (fun F hE=>?_) h;unfold EQ;refine T0 [0] ?_;refine Sq <|T0 [4] ?_
 refine Sb ?_;refine Ja (fun b=>⟨Ah 14 [(4,i64 a),(5,.bool b)],[]⟩) ?_ ?_
 ·intro c;refine T0 [4,5] ?_;refine Cd ?_ ?_
  ·exact Sk <|Jm (ws [])
  refine T0 [4,5] ?_;refine Cd ?_ ?_
  ·exact Sk <|Jm (ws [])
  refine T0 [4,5] ?_;refine Cd ?_ ?_
  ·exact Sk <|Jm (ws [])
  refine F0 [4,5] ?_;exact Jm (ws [])
 intro b;refine Cd ?_ ?_
 ·refine T0 [2,3] ?_;exact Sr <|Br <|Tr <|Rr
 refine T0 [4,10] ?_;refine Cd ?_ ?_
 ·refine T0 [2,3] ?_;exact Sr <|Br <|Tr <|Rr
 refine T0 [12] ?_;refine Cd ?_ ?_
 ·refine T0 [2,3] ?_;exact Sr <|Br <|Tr <|Rr
 refine Sk <|Bn <|Tn <|T0 [2,3] ?_
 exact Sr <|Rr
theorem Ov{a r}(h:Hn a=some r):Con (B rs) 97 [i64 a] [] (fun r' O'=>r'=.tup [i64 r.1,i64 r.2]/\O'=[]):=by
 refine Cw 16 [.tmp 2,.tmp 3] Tryz.func97 (fun F hE=>?_) h;unfold Hn;refine T0 [0] ?_;refine Sq <|T0 [4] ?_
 refine Sb ?_;refine Ja (fun b=>⟨Ah 16 [(4,i64 a),(5,.bool b)],[]⟩) ?_ ?_
 ·intro e;refine T0 [4,5] ?_;refine Cd ?_ ?_
  ·exact Sk <|Jm (ws [])
  refine F0 [4,5] ?_;exact Jm (ws [])
 intro b;refine Cd ?_ ?_
 ·refine T0 [2,3] ?_;exact Sr <|Br <|Tr <|Rr
 refine T0 [4,8] ?_;refine Cd ?_ ?_
 ·refine T0 [2,3] ?_;exact Sr <|Br <|Tr <|Rr
 refine Ja (fun c=>⟨Ah 16 [(4,i64 a),(10,.bool c)],[]⟩) ?_ ?_
 ·intro f;refine T0 [4,10] ?_;refine Cd ?_ ?_
  ·exact Sk <|Jm (ws [])
  refine F0 [4,10] ?_;exact Jm (ws [])
 intro c;refine Cd ?_ ?_
 ·refine T0 [2,3] ?_;exact Sr <|Br <|Tr <|Rr
 refine Ja (fun d=>⟨Ah 16 [(13,.bool d)],[]⟩) ?_ ?_
 ·intro g;refine T0 [4,13] ?_;refine Cd ?_ ?_
  ·exact Sk <|Jm (ws [])
  refine F0 [13] ?_;exact Jm (ws [])
 intro d;refine Cd ?_ ?_
 ·refine T0 [2,3] ?_;exact Sr <|Br <|Tr <|Rr
 refine Sk <|Bn <|Tn <|T0 [2,3] ?_
 exact Sr <|Rr
theorem O5{a r}(h:Io a=some r):Con (B rs) 95 [.agg [i64 a.Op,i64 a.N,i64 a.M]] [] (fun r' O'=>r'=.bool r/\O'=[]):=by
 refine Cw 49 [.tmp 2] Tryz.func95 (fun F hE=>?_) h;unfold Io;refine T0 [1] ?_;refine Sq ?_;refine Tw [1,13] (fun g=>⟨Ah 49 [(1,.ref 0 0),(13,.bool g)],[.box [i64 a.Op,i64 a.N,i64 a.M] false]⟩) ?_ ?_
 ·intro _;refine Sp (fun c=>?_) fun c=>?_
  ·exact Lf Aa (Ew1 c) (ws [0])
  exact Lf Aa (Ew1 c) (ws [0])
 intro g;refine Cd ?_ ?_
 ·refine T0 [2] ?_;exact Sr <|Tr <|Rr
 refine Sk <|Tn <|Bd fun d k =>Te [1,3,4] (o1 17 (LS k)) Ev ?_
 refine T0 [1,3,4,5] ?_;refine Ja (fun e=>⟨Ah 49 [(1,.ref 0 0),(3,i64 d.1),(4,i64 d.2),(5,.ref 1 0)],[.box [i64 a.Op,i64 a.N,i64 a.M] false,.box [i64 a.Op,i64 e,i64 a.M] false]⟩) ?_ ?_
 ·intro l;refine T0 [1,3,4,5,22] ?_;refine Cd ?_ ?_
  ·refine F0 [1,3,4,5] ?_;exact Jm (ws [0,1])
  exact Sk <|Jm (ws [0,1])
 intro e;refine Ja (fun i=>⟨Ah 49 [(1,.ref 0 0),(4,i64 d.2),(5,.ref 1 0)],[.box [i64 a.Op,i64 a.N,i64 a.M] false,.box [i64 a.Op,i64 e,i64 i] false]⟩) ?_ ?_
 ·intro m;refine T0 [1,4,5,25] ?_;refine Cd ?_ ?_
  ·refine F0 [1,4,5] ?_;exact Jm (ws [0,1])
  exact Sk <|Jm (ws [0,1])
 intro i;refine Tw [2] (fun j=>⟨Ah 49 [(2,.bool j)],[]⟩) ?_ ?_
 ·intro _;refine Sp (fun b=>?_) fun b=>?_
  ·refine Sp (fun f=>?_) fun f=>?_
   ·exact Lf Aa (Ew2 b f) (ws [])
   exact Lf Aa (Ew2 b f) (ws [])
  exact Lf Aa (Ew1 b) (ws [])
 intro j;exact Sr <|Rr
theorem Je{a:List Aqz}{c:Aqz->Option (Bool)}{b:Nat}(g:∀{a0:Aqz} {r:Bool},c a0=some r->Con (B rs) b [.agg [i64 a0.Op,i64 a0.N,i64 a0.M]] [] (fun r' O'=>r'=.bool r/\O'=[])){r:Int}(h:DS a c=some r):Con (B rs) 142 [.sl false (L Ai a),.fn b []] [] (fun r' O'=>r'=i64 r/\O'=[]):=by
 refine FJ (N:=19) (rs:=[.tmp 4]) ok Tryz.func142 rfl (by decide +kernel) rfl rfl (AqV rfl) (fun F=>?_);have hE:=(ok (rs:=rs)).env F;unfold DS at h;show Run ((B rs).env F) 0 _ ⟨Ah 19 [(0,.sl false (L Ai a)),(1,.fn b [])],[]⟩ _;refine BN ?_;revert h;refine T0 [0,1] ?_;refine Jo (fun _=>⟨Ah 19 [],[]⟩) ?_ ?_
 ·intro m i;refine T0 [0,1,7,8] ?_;refine Sb ?_;refine Lo (fun d=>⟨Ah 19 [(0,.sl false (L Ai a)),(1,.fn b []),(7,i64 (a.length:Int)),(8,i64 d)],[]⟩) (ws []) ?_;rintro d n j e f;show Dc a c d=some j->_;unfold Dc;refine T0 [0,1,7,8,9] ?_;refine Sq <|Cd ?_ ?_
  ·refine Sk <|Tn <|Sq <|Sb <|T0 [0,1,5,7,8] ?_
   refine Ck fun k =>Bd fun o l =>Te [0,1,5,7,8,16] (o1 16 (g l)) (Ew1 (qR k)) ?_
   refine Cd ?_ ?_
   ·refine T0 [4] ?_;exact Sr <|Br <|Tr <|Lr f e <|Br <|Jr i <|Rr
   refine Sk <|Bn <|Tn <|F0 [0,1,7,8] ?_
   exact Ln (ws [])
  refine Sx <|Tx <|Lx f e <|Bx <|?_
  exact Jn ((ws (l':=[]) (O':=[]) []).trans (ws []))
 intro _;refine T0 [4] ?_;exact Sr <|Rr
theorem Ie{a:List Aqz}{c:Aqz->Option (Bool)}{b:Nat}(d:∀{a0:Aqz} {r:Bool},c a0=some r->Con (B rs) b [.agg [i64 a0.Op,i64 a0.N,i64 a0.M]] [] (fun r' O'=>r'=.bool r/\O'=[])){r:Bool}(h:CD a c=some r):Con (B rs) 93 [.sl false (L Ai a),.fn b []] [] (fun r' O'=>r'=.bool r/\O'=[]):=by
 refine FJ (N:=9) (rs:=[.tmp 4]) ok Tryz.func93 rfl (by decide +kernel) rfl rfl (AqV rfl) (fun F=>?_);have hE:=(ok (rs:=rs)).env F;unfold CD at h;show Run ((B rs).env F) 0 _ ⟨Ah 9 [(0,.sl false (L Ai a)),(1,.fn b [])],[]⟩ _;refine BN ?_;revert h;refine T0 [0,1] ?_;refine Bd fun f e =>Te [4] (o1 7 (Je (fun h=>d h) e)) Ev ?_
 exact Sr <|Rr
theorem MV{a r}(h:FC a=some r):Con (B rs) 94 [.agg [i64 a.Op,i64 a.N,i64 a.M]] [] (fun r' O'=>r'=.bool r/\O'=[]):=by
 refine Cw 6 [.tmp 2] Tryz.func94 (fun F hE=>?_) h;unfold FC;refine T0 [1] ?_;refine Bd fun c b =>Te [2] (o1 4 (O5 b)) Ev ?_
 exact Sr <|Rr
theorem TY{a b r}(h:MB a b=some r):Con (B rs) 144 [u64 a,u64 b] [] (fun r' O'=>r'=.tup [u64 r.1,u64 r.2]/\O'=[]):=by
 refine Cw 30 [.tmp 4,.tmp 5] Tryz.func144 (fun F hE=>?_) h;unfold MB;refine T0 [0,1] ?_;refine Sq ?_;refine CfK ?_;refine Sk <|Tn <|Bd fun d c =>Te [8,9] (o1 25 (QE c)) Ev ?_
 refine T0 [4,5] ?_;exact Sr <|Rr
theorem Lm{c i r}(h:E9 c i=some r):Con (B rs) 96 [.sl false (L IM c),i64 i] [] (fun r' O'=>r'=.bs false 0 (r.length) 0 (r.length)/\O'=[.buf 1 (L IM r) false]):=by
 refine Co 0 48 [.tmp 4] Tryz.func96 (fun F hE=>?_) h;unfold E9;refine T0 [0,1] ?_;refine Sq <|T0 [0,1,10] ?_
 refine Cd ?_ ?_
 ·exact Rn
 refine Sk <|Tn <|Bd fun k l =>Te [0,5,6] (o1 18 (TY l)) Ev ?_
 refine Sq ?_;refine Tw [0,6,26] (fun j=>⟨Ah 48 [(0,.sl false (L IM c)),(6,u64 k.2),(26,.bool j)],[]⟩) ?_ ?_
 ·intro _;refine Sp (fun d=>?_) fun d=>?_
  ·exact Lf Aa (Ew1 d) (ws [])
  exact Lf Aa (Ew1 d) (ws [])
 intro j;refine Cd ?_ ?_
 ·exact Rn
 refine Sk <|Tn <|Ck fun m =>Lt fun e n =>Te (fr':=[(0,_),(7,.bs true 0 (e.length) 0 (e.length))]) (O':=[.buf 1 (L IM e) false]) [0,7] Aa (Ew2 m n) ?_
 refine Lt fun o p =>Lt fun f q =>Te (fr':=[(7,.bs true 0 (f.length) 0 (f.length)),(8,i64 o)]) (O':=[.buf 1 (L IM f) false]) [7,8] Aa (Ew2 p q) ?_
 refine Ja (fun a=>⟨Ah 48 [(7,.bs true 0 (a.length) 0 (a.length))],[.buf 1 (L IM a) false]⟩) ?_ ?_
 ·intro ac;refine Sb ?_;refine Lo (fun(v:Int×List Int)=>(⟨Ah 48 [(7,.bs true 0 (v.2.length) 0 (v.2.length)),(8,i64 v.1)],[.buf 1 (L IM v.2) false]⟩:St)) (ws [0]) ?_;rintro⟨s,b⟩ ad t u w;show En s b=some t->_;unfold En;refine Sq <|T0 [7,8,37] ?_
  refine Cd ?_ ?_
  ·refine Sk <|Tn <|Sb <|Ck fun x =>Ck fun y =>Lt fun z aa =>Lt fun g ab =>Ge (fr':=[(7,.bs true 0 (g.length) 0 (g.length)),(8,i64 z)]) (O':=[.buf 1 (L IM g) false]) [[],[],[],[1,2],[],[],[4,5],[1,2,3,4,5,6],[0,1,2,3,4,5,6,7],[0,1,2,3,4,5,6,7,8]] [7,8] Aa (Ew4 x y aa ab) ?_
   exact Bn <|Ln (ws [0])
  refine Sx <|Tx <|Ly w u <|Bx <|?_
  exact Jm ((ws (l':=[(7,.bs true 0 (b.length) 0 (b.length))]) (O':=[.buf 1 (L IM b) false]) [0]).trans (ws [0]))
 intro a;refine T0 [4] ?_;exact Sr <|Ro [0]
theorem LU{a r}(h:EP a=some r):Con (B rs) 36 [.sl false (L Ab a)] [] (fun r' O'=>r'=.bs false 0 (r.length) 0 (r.length)/\O'=[.buf 9 (L Ab r) false]):=by
 refine Co 0 8 [.tmp 2] Tryz.func36 (fun F hE=>?_) h;unfold EP;refine T0 [0] ?_;refine Sq ?_;intro h;refine Aay hE 0 3 4 32 47 rfl rfl rfl rfl rfl rfl rfl (by decide) Tryz.underlying32 (fun b_ hb_=>?_);cases b_
 ·revert h;refine Cf <|Sk <|Tn <|Ck fun c =>?_
  have d:=c;simp only[Aq7,Aru,AqM,AqP,Ara,Ar7,Nat.reduceAdd]at d;refine Lt fun b e =>Te (fr':=[(2,.bs false 0 (b.length) 0 (b.length))]) (O':=[.buf 9 (L Ab b) false]) [2] Aa (Ew3 c d e) ?_
  exact Sr <|Ro [0]
 obtain rfl:a=[]:=List.map_eq_nil_iff.1 (hb_ rfl);replace h:some ([])=some r:=by first|exact h|(split at h<;>first|exact h|cases h)
 revert h;refine Ct <|T0 [2] ?_
 refine Rw (My 2 9 rfl) ?_;exact Sr <|Tr <|Ro [0]
theorem IL{d a r}(h:EW d a=some r):Con (B rs) 146 [.str d,u8 a] [] (fun r' O'=>r'=.str r/\O'=[]):=by
 refine Cw 23 [.tmp 4] Tryz.func146 (fun F hE=>?_) h;unfold EW;refine T0 [0,1] ?_;refine Ja (fun e=>⟨Ah 23 [(0,.str e)],[]⟩) ?_ ?_
 ·intro o;refine Sb ?_;refine Lo (fun b=>⟨Ah 23 [(0,.str b),(1,u8 a)],[]⟩) (ws []) ?_;rintro b p g i j;show DW a b=some g->_;unfold DW;refine Sq ?_;refine Tw [0,1,16] (fun f=>⟨Ah 23 [(0,.str b),(1,u8 a),(16,.bool f)],[]⟩) ?_ ?_
  ·intro _;refine Sp (fun c=>?_) fun c=>?_
   ·refine Ck fun k=>?_
    exact Lf Aa (Ew2 c (qR k)) (ws [])
   exact Lf Aa (Ew1 c) (ws [])
  intro f;refine Cd ?_ ?_
  ·refine Sk <|Tn <|Sb <|Ck fun l =>Lt fun m n =>Fe (fr':=[(0,.str m),(1,_)]) [0,1] Aa (Ew2 l n) ?_
   exact Bn <|Ln (ws [])
  refine Sx <|Tx <|Ly j i <|Bx <|?_
  exact Jm ((ws (l':=[(0,.str b)]) (O':=[]) []).trans (ws []))
 intro e;refine T0 [4] ?_;exact Sr <|Rr
variable {rs:Aqm}
theorem IY{d a r}(h:Fy d a=some r):Con (B rs) 145 [.str d,u8 a] [] (fun r' O'=>r'=.str r/\O'=[]):=by
 refine Cw 17 [.tmp 4] Tryz.func145 (fun F hE=>?_) h;unfold Fy;refine T0 [0,1] ?_;refine Ja (fun e=>⟨Ah 17 [(0,.str e)],[]⟩) ?_ ?_
 ·intro o;refine Sb ?_;refine Lo (fun b=>⟨Ah 17 [(0,.str b),(1,u8 a)],[]⟩) (ws []) ?_;rintro b p g i j;show Es a b=some g->_;unfold Es;refine Sq ?_;refine Tw [0,1,13] (fun f=>⟨Ah 17 [(0,.str b),(1,u8 a),(13,.bool f)],[]⟩) ?_ ?_
  ·intro _;refine Sp (fun c=>?_) fun c=>?_
   ·refine Ck fun k=>?_
    exact Lf Aa (Ew2 c (qL k)) (ws [])
   exact Lf Aa (Ew1 c) (ws [])
  intro f;refine Cd ?_ ?_
  ·refine Sk <|Tn <|Sb <|Ck fun l =>Lt fun m n =>Fe (fr':=[(0,.str m),(1,_)]) [0,1] Aa (Ew2 l n) ?_
   exact Bn <|Ln (ws [])
  refine Sx <|Tx <|Ly j i <|Bx <|?_
  exact Jm ((ws (l':=[(0,.str b)]) (O':=[]) []).trans (ws []))
 intro e;refine T0 [4] ?_;exact Sr <|Rr
theorem Jd{a r}(h:C6 a=some r):Con (B rs) 147 [.str a] [] (fun r' O'=>r'=.tup [.agg (C1 AV.bool r.1.l),.bool r.2]/\O'=[]):=by
 refine Cw 21 [.cell 2 225,.tmp 3] Tryz.func147 (fun F hE=>?_) h;unfold C6;refine T0 [0,2] ?_;refine Jo (fun b=>⟨Ah 21 [(2,.ref 0 0)],[.box (C1 AV.bool b.l) false]⟩) ?_ ?_
 ·intro q f;refine T0 [0,2,4] ?_;refine Sb ?_;refine Lo (fun(v:Int×Arr Bool 256)=>(⟨Ah 21 [(0,.str a),(2,.ref 0 0),(4,i64 v.1)],[.box (C1 AV.bool v.2.l) false]⟩:St)) (ws [0]) ?_;rintro⟨g,c⟩ s i d e;show E4 a g c=some i->_;unfold E4;refine Sq <|T0 [0,2,4,9] ?_
  refine Cd ?_ ?_
  ·refine Sk <|Tn <|Sq <|Sb <|Ck fun j =>Lt fun k m =>Te (fr':=[(0,_),(2,_),(4,_),(5,u8 k)]) [0,2,4,5] Aa (Ew2 (qR j) m) ?_
   refine Sq <|T0 [0,2,4,5,16] ?_
   refine Cd ?_ ?_
   ·refine T0 [2,3] ?_;exact Sr <|Tr <|Br <|Tr <|Lr e d <|Br <|Jr f <|Rr
   refine Sk <|Tn <|Ck fun n =>Lt fun o p =>Fe (O':=[.box (C1 AV.bool o.l) false]) [0,2,4] Aa (Ew2 (qN n) p) ?_
   refine Bn <|Tn <|F0 [0,2,4] ?_
   exact Ln (ws [0])
  refine Sx <|Tx <|Lx e d <|Bx <|?_
  exact Jn ((ws (l':=[(2,.ref 0 0)]) (O':=[.box (C1 AV.bool c.l) false]) [0]).trans (ws [0]))
 intro b;refine T0 [2,3] ?_;exact Sr <|Rr
theorem E6{a b r}(h:B9 a b=some r):Con (B rs) 171 [.ref 0 0,u8 b] [.box (C1 AV.bool a.l) false] (fun r' O'=>r'=.bool r.1/\O'=[.box (C1 AV.bool r.2.l) false]):=by
 refine Co 1 10 [.tmp 4] Tryz.func171 (fun F hE=>?_) h;unfold B9;refine T0 [0,1] ?_;refine Ck fun c =>Te [4] Aa (Ew1 (qN c)) ?_
 exact Sr <|Ro [0]
theorem Ic{c d r}(h:CC c d=some r):Con (B rs) 149 [.str c,.ref 0 0] [.box (C1 AV.bool d.l) false] (fun r' O'=>r'=.str r.1/\O'=[.box (C1 AV.bool r.2.l) false]):=by
 refine Co 1 22 [.tmp 4] Tryz.func149 (fun F hE=>?_) h;unfold CC;refine T0 [0,1] ?_;refine Ja (fun(v:List UInt8×Arr Bool 256)=>(⟨Ah 22 [(0,.str v.1)],[.box (C1 AV.bool v.2.l) false]⟩:St)) ?_ ?_
 ·intro q;refine Sb ?_;refine Lo (fun(v:List UInt8×Arr Bool 256)=>(⟨Ah 22 [(0,.str v.1),(1,.ref 0 0)],[.box (C1 AV.bool v.2.l) false]⟩:St)) (ws [0]) ?_;rintro⟨a,b⟩ s g e f;show CI a b=some g->_;unfold CI;refine Sq <|T0 [0,1,7] ?_
  refine Cd ?_ ?_
  ·refine Sk <|Tn <|Sb <|Sq <|Ck fun i =>Bd fun j k =>Te [0,1,15] (Ae (l:=[]) (m:=[(14,171,[.ref 0 0,u8 (nth a ((w64 ((a.length:Int)-1)).toNat))],[.box (C1 AV.bool b.l) false],_,_)]) trivial ⟨(wc (E6 k) [0]),trivial⟩) (Ew1 (qR i)) ?_
   refine Cd ?_ ?_
   ·refine Sx <|Tx <|Bo <|Ly f e <|Bx <|?_
    exact Jm ((ws (l':=[(0,.str a)]) (O':=[.box (C1 AV.bool j.2.l) false]) [0]).trans (ws [0]))
   refine Sk <|Tn <|Ck fun n =>Lt fun o p =>Fe (fr':=[(0,.str o),(1,_)]) [0,1] Aa (Ew2 n p) ?_
   exact Bn <|Ln (ws [0])
  refine Sx <|Tx <|Ly f e <|Bx <|?_
  exact Jm ((ws (l':=[(0,.str a)]) (O':=[.box (C1 AV.bool b.l) false]) [0]).trans (ws [0]))
 rintro⟨t,u⟩;refine T0 [4] ?_;exact Sr <|Ro [0]
theorem IH{c d r}(h:CK c d=some r):Con (B rs) 148 [.str c,.ref 0 0] [.box (C1 AV.bool d.l) false] (fun r' O'=>r'=.str r.1/\O'=[.box (C1 AV.bool r.2.l) false]):=by
 refine Co 1 16 [.tmp 4] Tryz.func148 (fun F hE=>?_) h;unfold CK;refine T0 [0,1] ?_;refine Ja (fun(v:List UInt8×Arr Bool 256)=>(⟨Ah 16 [(0,.str v.1)],[.box (C1 AV.bool v.2.l) false]⟩:St)) ?_ ?_
 ·intro q;refine Sb ?_;refine Lo (fun(v:List UInt8×Arr Bool 256)=>(⟨Ah 16 [(0,.str v.1),(1,.ref 0 0)],[.box (C1 AV.bool v.2.l) false]⟩:St)) (ws [0]) ?_;rintro⟨a,b⟩ s g e f;show CU a b=some g->_;unfold CU;refine Sq <|T0 [0,1,7] ?_
  refine Cd ?_ ?_
  ·refine Sk <|Tn <|Sb <|Sq <|Ck fun i =>Bd fun j k =>Te [0,1,12] (Ae (l:=[]) (m:=[(11,171,[.ref 0 0,u8 (nth a 0)],[.box (C1 AV.bool b.l) false],_,_)]) trivial ⟨(wc (E6 k) [0]),trivial⟩) (Ew1 (qL i)) ?_
   refine Cd ?_ ?_
   ·refine Sx <|Tx <|Bo <|Ly f e <|Bx <|?_
    exact Jm ((ws (l':=[(0,.str a)]) (O':=[.box (C1 AV.bool j.2.l) false]) [0]).trans (ws [0]))
   refine Sk <|Tn <|Ck fun n =>Lt fun o p =>Fe (fr':=[(0,.str o),(1,_)]) [0,1] Aa (Ew2 n p) ?_
   exact Bn <|Ln (ws [0])
  refine Sx <|Tx <|Ly f e <|Bx <|?_
  exact Jm ((ws (l':=[(0,.str a)]) (O':=[.box (C1 AV.bool b.l) false]) [0]).trans (ws [0]))
 rintro⟨t,u⟩;refine T0 [4] ?_;exact Sr <|Ro [0]
theorem O8{a b r}(h:I6 a b=some r):Con (B rs) 98 [.str a,.str b] [] (fun r' O'=>r'=.str r/\O'=[]):=by
 refine Cw 43 [.tmp 4] Tryz.func98 (fun F hE=>?_) h;unfold I6;refine T0 [0,1] ?_;refine Sq ?_;refine Tw [0,1,12] (fun e=>⟨Ah 43 [(0,.str a),(1,.str b),(12,.bool e)],[]⟩) ?_ ?_
 ·intro _;refine Sp (fun c=>?_) fun c=>?_
  ·exact Lf Aa (Ew1 c) (ws [])
  exact Lf Aa (Ew1 c) (ws [])
 intro e;refine Cd ?_ ?_
 ·refine T0 [4] ?_;exact Sr <|Tr <|Rr
 refine Sk <|Tn <|Sq <|?_
 refine Tw [0,1,21] (fun f=>⟨Ah 43 [(0,.str a),(1,.str b),(21,.bool f)],[]⟩) ?_ ?_
 ·intro _;refine Sp (fun d=>?_) fun d=>?_
  ·refine Ck fun i=>?_
   exact Lf Aa (Ew2 d (qL i)) (ws [])
  exact Lf Aa (Ew1 d) (ws [])
 intro f;refine Cd ?_ ?_
 ·refine Ck fun j =>Bd fun u k =>Ck fun n =>Bd fun v o =>De [[],[],[1],[0,1,2],[],[4],[0,1,2,3,4,5],[0,1,2,3,4,5,6]] [4] (o2 25 (IL k) 28 (IY o)) (Ew2 (qL j) (qL n)) ?_
  exact Sr <|Tr <|Rr
 refine Sk <|Tn <|Sq <|Bd fun p q =>Te [0,1,5,6] (o1 31 (Jd q)) Ev ?_
 refine T0 [0,1,5,34] ?_;refine Cd ?_ ?_
 ·refine Bd fun g s =>Bd fun w t =>Te [4] (Ae (l:=[]) (m:=[(36,149,[.str a,.ref 0 0],[.box (C1 AV.bool p.1.l) false],_,_),(37,148,[.str g.1,.ref 0 0],[.box (C1 AV.bool g.2.l) false],_,_)]) trivial ⟨(wc (Ic s) [0]),(wc (IH t) [0]),trivial⟩) Ev ?_
  exact Sr <|Tr <|Rr
 exact Sk <|Tn <|Rn
theorem ES{f r}(h:GQ f=some r):Con (B rs) 57 [.str f] [] (fun r' O'=>r'=.bool r/\O'=[]):=by
 refine Cw 25 [.tmp 2] Tryz.func57 (fun F hE=>?_) h;unfold GQ;refine T0 [0] ?_;refine Tw [2] (fun g=>⟨Ah 25 [(2,.bool g)],[]⟩) ?_ ?_
 ·intro _;refine Sp (fun a=>?_) fun a=>?_
  ·refine Sp (fun b=>?_) fun b=>?_
   ·refine Ck fun d=>?_
    refine Sp (fun c=>?_) fun c=>?_
    ·refine Ck fun i=>?_
     refine Sp (fun e=>?_) fun e=>?_
     ·refine Bd fun k j=>?_
      exact Lf (o1 22 (O8 j)) (Ev (by simp only[go_sem,a,b,qL d,c,qL i,e];exact Ce)) (ws [])
     exact Lf Aa (Ev (by simp only[go_sem,a,b,qL d,c,qL i,e];exact Ce)) (ws [])
    exact Lf Aa (Ew4 a b (qL d) c) (ws [])
   exact Lf Aa (Ew2 a b) (ws [])
  exact Lf Aa (Ew1 a) (ws [])
 intro g;exact Sr <|Rr
theorem FT{a r}(h:BE a=some r):Con (B rs) 99 [.agg (C1 i64 a.l)] [] (fun r' O'=>r'=.bool r/\O'=[]):=by
 refine Cw 35 [.tmp 2] Tryz.func99 (fun F hE=>?_) h;unfold BE;refine T0 [1] ?_;refine T0 [1,3] ?_;refine Ja (fun d=>⟨Ah 35 [(3,.mref 0)],[.mp false (MI QB d)]⟩) ?_ ?_
 ·intro p;refine T0 [3,7,8] ?_;refine Sb ?_;refine Lo (fun(v:Int×Si)=>(⟨Ah 35 [(3,.mref 0),(7,.agg (C1 i64 a.l)),(8,i64 v.1)],[.mp false (MI QB v.2)]⟩:St)) (ws [1]) ?_;rintro⟨g,e⟩ q i j k;show DE a g e=some i->_;unfold DE;refine T0 [3,7,8,9] ?_;refine Sq <|Cd ?_ ?_
  ·refine Sk <|Tn <|Sq <|Sb <|Ck fun m =>Te [3,5,7,8] Aa (Ew1 (qR m)) ?_
   refine Lt fun n o =>Fe (O':=[.mp false (MI QB n)]) [3,7,8] Aa (Ew1 o) ?_
   refine Bn <|Tn <|F0 [3,7,8] ?_
   exact Ln (ws [0])
  refine Sx <|Tx <|Ly k j <|Bx <|?_
  exact Jm ((ws (l':=[(3,.mref 0)]) (O':=[.mp false (MI QB e)]) [0]).trans (ws [0]))
 intro d;refine Tw [2] (fun f=>⟨Ah 35 [(2,.bool f)],[]⟩) ?_ ?_
 ·intro _;refine Sp (fun b=>?_) fun b=>?_
  ·refine Sp (fun c=>?_) fun c=>?_
   ·exact Lf Aa (Ew2 b c) (ws [])
   exact Lf Aa (Ew2 b c) (ws [])
  exact Lf Aa (Ew1 b) (ws [])
 intro f;exact Sr <|Rr
theorem LZ{b:Aqr->Option (Bool)}{a:Aqr}(h59:∀{a0:Aqr} {r:Bool},b a0=some r->Con (B rs) 59 [.agg (xE a0)] [] (fun r' O'=>r'=.bool r/\O'=[])){r:Bool}(h:Gr b a=some r):Con (B rs) 101 [.agg (xE a)] [] (fun r' O'=>r'=.bool r/\O'=[]):=by
 refine FJ (N:=6) (rs:=[.tmp 2]) ok Tryz.func101 rfl (by decide +kernel) rfl rfl (AqV rfl) (fun F=>?_);have hE:=(ok (rs:=rs)).env F;unfold Gr at h;show Run ((B rs).env F) 0 _ ⟨Ah 6 [(0,.agg (xE a))],[]⟩ _;refine BN ?_;revert h;refine T0 [1] ?_;refine Bd fun d c =>Te [2] (o1 4 (h59 c)) Ev ?_
 exact Sr <|Rr
theorem J3{a:List Aqr}{c:Aqr->Option (Bool)}{b:Nat}(g:∀{a0:Aqr} {r:Bool},c a0=some r->Con (B rs) b [.agg (xE a0)] [] (fun r' O'=>r'=.bool r/\O'=[])){r:Int}(h:DT a c=some r):Con (B rs) 152 [.sl false (L cApi_Expr a),.fn b []] [] (fun r' O'=>r'=i64 r/\O'=[]):=by
 refine FJ (N:=19) (rs:=[.tmp 4]) ok Tryz.func152 rfl (by decide +kernel) rfl rfl (AqV rfl) (fun F=>?_);have hE:=(ok (rs:=rs)).env F;unfold DT at h;show Run ((B rs).env F) 0 _ ⟨Ah 19 [(0,.sl false (L cApi_Expr a)),(1,.fn b [])],[]⟩ _;refine BN ?_;revert h;refine T0 [0,1] ?_;refine Jo (fun _=>⟨Ah 19 [],[]⟩) ?_ ?_
 ·intro m i;refine T0 [0,1,7,8] ?_;refine Sb ?_;refine Lo (fun d=>⟨Ah 19 [(0,.sl false (L cApi_Expr a)),(1,.fn b []),(7,i64 (a.length:Int)),(8,i64 d)],[]⟩) (ws []) ?_;rintro d n j e f;show CZ a c d=some j->_;unfold CZ;refine T0 [0,1,7,8,9] ?_;refine Sq <|Cd ?_ ?_
  ·refine Sk <|Tn <|Sq <|Sb <|T0 [0,1,5,7,8] ?_
   refine Ck fun k =>Bd fun o l =>Te [0,1,5,7,8,16] (o1 16 (g l)) (Ew1 (qR k)) ?_
   refine Cd ?_ ?_
   ·refine T0 [4] ?_;exact Sr <|Br <|Tr <|Lr f e <|Br <|Jr i <|Rr
   refine Sk <|Bn <|Tn <|F0 [0,1,7,8] ?_
   exact Ln (ws [])
  refine Sx <|Tx <|Lx f e <|Bx <|?_
  exact Jn ((ws (l':=[]) (O':=[]) []).trans (ws []))
 intro _;refine T0 [4] ?_;exact Sr <|Rr
theorem HJ{a:List Aqr}{c:Aqr->Option (Bool)}{b:Nat}(d:∀{a0:Aqr} {r:Bool},c a0=some r->Con (B rs) b [.agg (xE a0)] [] (fun r' O'=>r'=.bool r/\O'=[])){r:Bool}(h:Cv a c=some r):Con (B rs) 100 [.sl false (L cApi_Expr a),.fn b []] [] (fun r' O'=>r'=.bool r/\O'=[]):=by
 refine FJ (N:=9) (rs:=[.tmp 4]) ok Tryz.func100 rfl (by decide +kernel) rfl rfl (AqV rfl) (fun F=>?_);have hE:=(ok (rs:=rs)).env F;unfold Cv at h;show Run ((B rs).env F) 0 _ ⟨Ah 9 [(0,.sl false (L cApi_Expr a)),(1,.fn b [])],[]⟩ _;refine BN ?_;revert h;refine T0 [0,1] ?_;refine Bd fun f e =>Te [4] (o1 7 (J3 (fun h=>d h) e)) Ev ?_
 exact Sr <|Rr
variable {rs:Aqm}
theorem Mj{rec_:Aqr->Option (Bool)}(hrec:∀{a:Aqr} {r:Bool},rec_ a=some r->Con (B rs) 59 [.agg (xE a)] [] (fun r' O'=>r'=.bool r/\O'=[])){a:Aqr}{r:Bool}(h:EO rec_ a=some r):Con (B rs) 59 [.agg (xE a)] [] (fun r' O'=>r'=.bool r/\O'=[]):=by
 refine FJ (N:=58) (rs:=[.tmp 2]) ok Tryz.func59 rfl (by decide +kernel) rfl rfl (AqV rfl) (fun F=>?_);have hE:=(ok (rs:=rs)).env F;unfold EO at h;show Run ((B rs).env F) 0 _ ⟨Ah 58 [(0,.agg (xE a))],[]⟩ _;refine BN ?_;revert h;refine T0 [1] ?_;refine T0 [1,3,4] ?_;refine Jo (fun(v:Int×Int)=>(⟨Ah 58 [(1,.ref 0 0),(3,i64 v.1),(4,i64 v.2)],[.box (xE a) false]⟩:St)) ?_ ?_
 ·intro p n;refine T0 [1,3,4,6] ?_;refine Sb ?_;refine Jo (fun f=>⟨Ah 58 [(1,.ref 0 0),(3,i64 0),(4,i64 f)],[.box (xE a) false]⟩) ?_ ?_
  ·intro q k;refine Sb <|Sq <|Sb <|Sq <|Sb <|Sq <|Sb <|Sq <|Sq <|T0 [1,3,4,6,7] ?_
   refine Cd ?_ ?_
   ·refine Sx <|Tx <|Tx <|Bx <|Tn <|T0 [1,3,4] ?_
    exact Sx <|Bo <|Tx <|Bo <|Tx <|Bo <|Jx k <|Bx <|Jn (ws [0])
   refine Sk <|Tn <|Sq <|T0 [1,3,4,6,9] ?_
   refine Cd ?_ ?_
   ·refine Sx <|Tx <|Tx <|Bo <|Tx <|Bx <|Tn <|T0 [1,3,4] ?_
    exact Sx <|Bo <|Tx <|Bo <|Jx k <|Bx <|Jn (ws [0])
   refine Sk <|Tn <|T0 [1,3,4,11] ?_
   refine Cd ?_ ?_
   ·refine Sx <|Tx <|Bo <|Tx <|Bo <|Tx <|Bx <|Tn <|F0 [1,3,4] ?_
    exact Bn <|Jn (ws [0])
   exact Sk <|Tn <|Sx <|Bo <|Tx <|Bo <|Tx <|Bo <|Tx <|Bx <|Jn (ws [0])
  intro f;refine Sq ?_;refine Tw [1,3,4,20] (fun l=>⟨Ah 58 [(1,.ref 0 0),(3,i64 0),(4,i64 f),(20,.bool l)],[.box (xE a) false]⟩) ?_ ?_
  ·intro _;refine Sp (fun g=>?_) fun g=>?_
   ·exact Lf Aa (Ew1 g) (ws [0])
   exact Lf Aa (Ew1 g) (ws [0])
  intro l;refine Cd ?_ ?_
  ·refine T0 [2] ?_;exact Sr <|Tr <|Br <|Jr n <|Rr
  exact Sk <|Tn <|Sx <|Bx <|Jn (ws [0])
 rintro⟨s,t⟩;refine Sq ?_;refine Tw [1,53] (fun m=>⟨Ah 58 [(1,.ref 0 0),(53,.bool m)],[.box (xE a) false]⟩) ?_ ?_
 ·intro _;refine Sp (fun b=>?_) fun b=>?_
  ·exact Lf Aa (Ew1 b) (ws [0])
  refine Sp (fun c=>?_) fun c=>?_
  ·exact Lf Aa (Ew2 b c) (ws [0])
  refine Sp (fun d=>?_) fun d=>?_
  ·exact Lf Aa (Ew3 b c d) (ws [0])
  refine Bd fun u i=>?_
  refine Sp (fun e=>?_) fun e=>?_
  ·exact Lf (o1 40 (FT i)) (Ew4 b c d e) (ws [0])
  refine Sp (fun j=>?_) fun j=>?_
  ·exact Lf (o1 40 (FT i)) (Ev (by simp only[go_sem,b,c,d,e,j,Iy,Jb,GH];exact Ce)) (ws [0])
  exact Lf (o1 40 (FT i)) (Ew5 b c d e j) (ws [0])
 intro m;refine Cd ?_ ?_
 ·refine T0 [2] ?_;exact Sr <|Tr <|Rr
 refine Sk <|Tn <|Bd fun w o =>Te [2] (o1 56 (HJ (fun h=>LZ (fun h=>hrec h) h) o)) Ev ?_
 exact Sr <|Rr
theorem Ml(n:Nat):∀{a:Aqr} {r:Bool},EM n a=some r->Con (B rs) 59 [.agg (xE a)] [] (fun r' O'=>r'=.bool r/\O'=[]):=by
 induction n with
 |zero=>intro a r h;cases h
 |succ n ih=>intro a r h;exact Mj ih h
theorem N5{a:Aqr}{r:Bool}(h:MZ a=some r):Con (B rs) 59 [.agg (xE a)] [] (fun r' O'=>r'=.bool r/\O'=[]):=Ml _ h
theorem H2{a r}(h:Dh a=some r):Con (B rs) 24 [.agg (Aj a)] [] (fun r' O'=>r'=i64 r/\O'=[]):=by
 refine Cw 114 [.tmp 2] Tryz.func24 (fun F hE=>?_) h;unfold Dh;refine T0 [1] ?_;refine Sq ?_;refine Tw [1,23] (fun ae=>⟨Ah 114 [(1,.ref 0 0),(23,.bool ae)],[.box (Aj a) false]⟩) ?_ ?_
 ·intro _;refine Bd fun aR u=>?_
  refine Sp (fun o=>?_) fun o=>?_
  ·exact Lf (o1 12 (ES u)) (Ew1 o) (ws [0])
  refine Sp (fun w=>?_) fun w=>?_
  ·exact Lf (o1 12 (ES u)) (Ew2 o w) (ws [0])
  exact Lf (o1 12 (ES u)) (Ew2 o w) (ws [0])
 intro ae;refine Cd ?_ ?_
 ·refine T0 [2] ?_;exact Sr <|Tr <|Rr
 refine Sk <|Tn <|Bd fun aS ar =>Lt fun au av =>De (fr':=[(1,_),(3,_),(4,.bool au)]) [[],[0],[0,1],[],[3],[3,4],[3,4,5],[0,1,2],[0,1,2,3,4,5,6,7]] [1,3,4] (o1 26 (Fc ar)) (Ew1 av) ?_
 refine T0 [1,3,4,5] ?_;refine Jo (fun(v:Bool×Bool)=>(⟨Ah 114 [(3,.bool v.1),(4,.bool v.2)],[]⟩:St)) ?_ ?_
 ·intro aT af;refine T0 [3,4,5,33,34,35] ?_;refine Sb ?_;refine Lo (fun⟨f,d,c,e⟩=>⟨Ah 114 [(3,.bool f),(4,.bool d),(5,.mref 0),(33,.sl false (L Ab a.Clauses)),(34,i64 (a.Clauses.length:Int)),(35,i64 c)],[.mp true (MS L6 e)]⟩) (ws [1]) ?_;rintro⟨f,d,c,e⟩ aU aw x y;show Gz a f d c e=some aw->_;unfold Gz;refine T0 [3,4,5,33,34,35,36] ?_;refine Sq <|Cd ?_ ?_
  ·refine Sk <|Tn <|?_
   refine Jo (fun⟨ag,ah,ai⟩=>⟨Ah 114 [(3,.bool ag),(4,.bool ah),(5,.mref 0),(33,.sl false (L Ab a.Clauses)),(34,i64 (a.Clauses.length:Int)),(35,i64 c)],[.mp true (MS L6 ai)]⟩) ?_ ?_
   ·intro aV aj;refine Sb <|Ck fun ax =>Lt fun g ay =>Lt fun b az =>Lt fun i aA =>Lt fun j aB =>Lt fun k aC =>Lt fun m aD =>Te (O':=[_,.box (.str g::.sl false (L Ag b)::i64 i::i64 j::(C1 i64 k.l++[.sl false (L cApi_Expr m)])) false]) [3,4,5,7,33,34,35] Aa (Ev (by simp only[go_sem,qR ax,ay,az,aA,aB,aC,aD];exact Ce)) ?_
    refine Sq ?_;refine Tw [3,4,5,7,33,34,35,48] (fun ak=>⟨Ah 114 [(3,.bool f),(4,.bool d),(5,.mref 0),(7,.ref 1 0),(33,.sl false (L Ab a.Clauses)),(34,i64 (a.Clauses.length:Int)),(35,i64 c),(48,.bool ak)],[.mp true (MS L6 e),.box (.str g::.sl false (L Ag b)::i64 i::i64 j::(C1 i64 k.l++[.sl false (L cApi_Expr m)])) false]⟩) ?_ ?_
    ·intro _;refine Bd fun aW al=>?_
     refine Sp (fun z=>?_) fun z=>?_
     ·exact Lf (o1 41 (ES al)) (Ew1 z) (ws [0,1])
     refine Bd fun aX aE=>?_
     exact Lf (o2 41 (ES al) 46 (N5 aE)) (Ew1 z) (ws [0,1])
    intro ak;refine Cd ?_ ?_
    ·refine T0 [2] ?_;exact Sr <|Tr <|Br <|Jr aj <|Lr y x <|Br <|Jr af <|Rr
    refine Sk <|Tn <|?_
    refine Jo (fun _=>⟨Ah 114 [(3,.bool f),(4,.bool d),(5,.mref 0),(7,.ref 1 0),(33,.sl false (L Ab a.Clauses)),(34,i64 (a.Clauses.length:Int)),(35,i64 c)],[.mp true (MS L6 e),.box (.str g::.sl false (L Ag b)::i64 i::i64 j::(C1 i64 k.l++[.sl false (L cApi_Expr m)])) false]⟩) ?_ ?_
    ·intro aY aF;refine T0 [3,4,5,7,33,34,35,50,51,52] ?_;refine Sb ?_;refine Lo (fun p=>⟨Ah 114 [(3,.bool f),(4,.bool d),(5,.mref 0),(7,.ref 1 0),(33,.sl false (L Ab a.Clauses)),(34,i64 (a.Clauses.length:Int)),(35,i64 c),(50,.sl false (L Ag b)),(51,i64 (b.length:Int)),(52,i64 p)],[.mp true (MS L6 e),.box (.str g::.sl false (L Ag b)::i64 i::i64 j::(C1 i64 k.l++[.sl false (L cApi_Expr m)])) false]⟩) (ws [0,1]) ?_;rintro p aZ aG am an;show EU b p=some aG->_;unfold EU;refine T0 [3,4,5,7,33,34,35,50,51,52,53] ?_;refine Sq <|Cd ?_ ?_
     ·refine Sk <|Tn <|Sq <|Sb <|Ck fun aH =>Lt fun aI aJ =>Lt fun aK aL =>Lt fun aM aN =>Te (O':=[_,_,.box [i64 aI,i64 aK,i64 aM] false]) [3,4,5,7,9,33,34,35,50,51,52] Aa (Ew4 (qR aH) aJ aL aN) ?_
      refine Tw [3,4,5,7,33,34,35,50,51,52,79] (fun ao=>⟨Ah 114 [(3,.bool f),(4,.bool d),(5,.mref 0),(7,.ref 1 0),(33,.sl false (L Ab a.Clauses)),(34,i64 (a.Clauses.length:Int)),(35,i64 c),(50,.sl false (L Ag b)),(51,i64 (b.length:Int)),(52,i64 p),(79,.bool ao)],[.mp true (MS L6 e),.box (.str g::.sl false (L Ag b)::i64 i::i64 j::(C1 i64 k.l++[.sl false (L cApi_Expr m)])) false]⟩) ?_ ?_
      ·intro _;refine Sp (fun n=>?_) fun n=>?_
       ·exact Lf Aa (Ew1 n) (ws [0,1])
       refine Sp (fun q=>?_) fun q=>?_
       ·exact Lf Aa (Ew2 n q) (ws [0,1])
       refine Sp (fun aa=>?_) fun aa=>?_
       ·exact Lf Aa (Ew3 n q aa) (ws [0,1])
       exact Lf Aa (Ew3 n q aa) (ws [0,1])
      intro ao;refine Cd ?_ ?_
      ·refine T0 [2] ?_;exact Sr <|Br <|Tr <|Lr an am <|Br <|Jr aF <|Br <|Jr aj <|Lr y x <|Br <|Jr af <|Rr
      refine Sk <|Bn <|Tn <|F0 [3,4,5,7,33,34,35,50,51,52] ?_
      exact Ln (ws [0,1])
     refine Sx <|Tx <|Lx an am <|Bx <|?_
     exact Jn ((ws (l':=[(3,.bool f),(4,.bool d),(5,.mref 0),(7,.ref 1 0),(33,.sl false (L Ab a.Clauses)),(34,i64 (a.Clauses.length:Int)),(35,i64 c)]) (O':=[.mp true (MS L6 e),.box (.str g::.sl false (L Ag b)::i64 i::i64 j::(C1 i64 k.l++[.sl false (L cApi_Expr m)])) false]) [0,1]).trans (ws [0,1]))
    intro _;refine Tw [3,4,5,7,33,34,35] (fun ab=>⟨Ah 114 [(3,.bool ab),(4,.bool d),(5,.mref 0),(7,.ref 1 0),(33,.sl false (L Ab a.Clauses)),(34,i64 (a.Clauses.length:Int)),(35,i64 c)],[.mp true (MS L6 e),.box (.str g::.sl false (L Ag b)::i64 i::i64 j::(C1 i64 k.l++[.sl false (L cApi_Expr m)])) false]⟩) ?_ ?_
    ·intro _;refine Sp (fun s=>?_) fun s=>?_
     ·exact Lf Aa (Ew1 s) (ws [0,1])
     refine Bd fun a0 ap=>?_
     refine Sp (fun ac=>?_) fun ac=>?_
     ·exact Lf (o1 85 (Fc ap)) (Ew2 s ac) (ws [0,1])
     exact Lf (o1 85 (Fc ap)) (Ew2 s ac) (ws [0,1])
    intro ab;refine Tw [3,4,5,7,33,34,35] (fun aq=>⟨Ah 114 [(3,.bool ab),(4,.bool aq),(5,.mref 0),(7,.ref 1 0),(33,.sl false (L Ab a.Clauses)),(34,i64 (a.Clauses.length:Int)),(35,i64 c)],[.mp true (MS L6 e),.box (.str g::.sl false (L Ag b)::i64 i::i64 j::(C1 i64 k.l++[.sl false (L cApi_Expr m)])) false]⟩) ?_ ?_
    ·intro _;refine Sp (fun t=>?_) fun t=>?_
     ·exact Lf Aa (Ew1 t) (ws [0,1])
     refine Sp (fun ad=>?_) fun ad=>?_
     ·exact Lf Aa (Ew2 t ad) (ws [0,1])
     refine Bd fun a1 aO=>?_
     exact Lf (o1 103 (Iv aO)) (Ew2 t ad) (ws [0,1])
    intro aq;refine Lt fun aP aQ =>Fe (O':=[.mp true (MS L6 aP),_]) [3,4,5,33,34,35] Aa (Ew1 aQ) ?_
    exact Bn <|Jn (ws [0])
   rintro⟨ag,ah,ai⟩;refine F0 [3,4,5,33,34,35] ?_;exact Ln (ws [0])
  refine Sx <|Tx <|Lx y x <|Bx <|?_
  exact Jn ((ws (l':=[(3,.bool f),(4,.bool d)]) (O':=[]) []).trans (ws []))
 rintro⟨a2,a3⟩;refine Sq <|Sb <|T0 [4,110] ?_
 refine Cd ?_ ?_
 ·refine T0 [2] ?_;exact Sr <|Br <|Tr <|Rr
 refine T0 [112] ?_;refine Cd ?_ ?_
 ·refine T0 [2] ?_;exact Sr <|Br <|Tr <|Rr
 refine Sk <|Bn <|Tn <|T0 [2] ?_
 exact Sr <|Rr
theorem H4{a b r}(h:C9 a b=some r):Con (B rs) 156 [.sl false (L IM a),i64 b] [] (fun r' O'=>r'=i64 r/\O'=[]):=by
 refine Cw 19 [.tmp 4] Tryz.func156 (fun F hE=>?_) h;unfold C9;refine T0 [0,1] ?_;refine Jo (fun _=>⟨Ah 19 [],[]⟩) ?_ ?_
 ·intro j f;refine T0 [0,1,7,8] ?_;refine Sb ?_;refine Lo (fun c=>⟨Ah 19 [(0,.sl false (L IM a)),(1,i64 b),(7,i64 (a.length:Int)),(8,i64 c)],[]⟩) (ws []) ?_;rintro c k g d e;show Ex a b c=some g->_;unfold Ex;refine T0 [0,1,7,8,9] ?_;refine Sq <|Cd ?_ ?_
  ·refine Sk <|Tn <|Sq <|Sb <|T0 [0,1,5,7,8] ?_
   refine Ck fun i =>Te [0,1,5,7,8,16] Aa (Ew1 (qR i)) ?_
   refine Cd ?_ ?_
   ·refine T0 [4] ?_;exact Sr <|Br <|Tr <|Lr e d <|Br <|Jr f <|Rr
   refine Sk <|Bn <|Tn <|F0 [0,1,7,8] ?_
   exact Ln (ws [])
  refine Sx <|Tx <|Lx e d <|Bx <|?_
  exact Jn ((ws (l':=[]) (O':=[]) []).trans (ws []))
 intro _;refine T0 [4] ?_;exact Sr <|Rr
theorem HS{s1_6377 s2_6378 r}(h:ER s1_6377 s2_6378=some r):Con (B rs) 20 [.sl false (L Ag s1_6377),.sl false (L Ag s2_6378)] [] (fun r' O'=>r'=.bool r/\O'=[]):=by
 refine Cw 26 [.tmp 4] Tryz.func20 (fun F hE=>?_) h;unfold ER;refine T0 [0,1] ?_;refine Sq <|T0 [0,1,10] ?_
 refine Cd ?_ ?_
 ·refine T0 [4] ?_;exact Sr <|Tr <|Rr
 refine Sk <|Tn <|?_
 refine Jo (fun _=>⟨Ah 26 [],[]⟩) ?_ ?_
 ·intro k d;refine T0 [0,1,12,13] ?_;refine Sb ?_;refine Lo (fun a=>⟨Ah 26 [(0,.sl false (L Ag s1_6377)),(1,.sl false (L Ag s2_6378)),(12,i64 (s1_6377.length:Int)),(13,i64 a)],[]⟩) (ws []) ?_;rintro a l e b c;show EH s1_6377 s2_6378 a=some e->_;unfold EH;refine T0 [0,1,12,13,14] ?_;refine Sq <|Cd ?_ ?_
  ·refine Sk <|Tn <|Sq <|Sb <|T0 [0,1,5,12,13] ?_
   refine Ck fun f =>Ck fun g =>Lt fun i j =>De (fr':=[(0,_),(1,_),(12,_),(13,_),(24,.bool i)]) [[],[],[0,1],[0,1,2],[],[],[4,5],[4,5,6],[0,1,2,3,4,5,6,7]] [0,1,12,13,24] Aa (Ew3 (qR f) (qR g) j) ?_
   refine Cd ?_ ?_
   ·refine T0 [4] ?_;exact Sr <|Br <|Tr <|Lr c b <|Br <|Jr d <|Rr
   refine Sk <|Bn <|Tn <|F0 [0,1,12,13] ?_
   exact Ln (ws [])
  refine Sx <|Tx <|Lx c b <|Bx <|?_
  exact Jn ((ws (l':=[]) (O':=[]) []).trans (ws []))
 intro _;refine T0 [4] ?_;exact Sr <|Rr
open Go.Shelf
def Tryz.laysM171_ren:Go.Shelf.Ren:=⟨fun|171=>103|243=>155|246=>175|283=>180|284=>181|285=>182|286=>183|129=>188|317=>187|318=>189|319=>190|320=>191|337=>192|338=>193|n=>n,fun|3=>3|9=>9|2=>2|4=>4|171=>265|0=>0|53=>249|37=>129|5=>5|173=>268|212=>275|51=>184|20=>20|213=>276|46=>220|232=>279|233=>280|n=>n,fun|17=>7|18=>8|19=>9|n=>n⟩
theorem Tryz.laysM171:Go.Proofs.LaysM.n171 Tryz.prog Tryz.laysM171_ren:={
 mixed:=by kernel_rfl
 f129:=Tryz.func188.trans (Arz some (by kernel_rfl))
 f171:=Tryz.func103.trans (Arz some (by kernel_rfl))
 f243:=Tryz.func155.trans (Arz some (by kernel_rfl))
 f246:=Tryz.func175.trans (Arz some (by kernel_rfl))
 f283:=Tryz.func180.trans (Arz some (by kernel_rfl))
 f284:=Tryz.func181.trans (Arz some (by kernel_rfl))
 f285:=Tryz.func182.trans (Arz some (by kernel_rfl))
 f286:=Tryz.func183.trans (Arz some (by kernel_rfl))
 f317:=Tryz.func187.trans (Arz some (by kernel_rfl))
 f318:=Tryz.func189.trans (Arz some (by kernel_rfl))
 f319:=Tryz.func190.trans (Arz some (by kernel_rfl))
 f320:=Tryz.func191.trans (Arz some (by kernel_rfl))
 f337:=Tryz.func192.trans (Arz some (by kernel_rfl))
 f338:=Tryz.func193.trans (Arz some (by kernel_rfl))
 t0:=Tryz.underlying0
 a0:=Tryz.isAgg0
 z0:=Tryz.sizeOf0
 v0:=Tryz.zeroValue0
 t2:=Tryz.underlying2
 a2:=Tryz.isAgg2
 z2:=Tryz.sizeOf2
 v2:=Tryz.zeroValue2
 t3:=Tryz.underlying3
 a3:=Tryz.isAgg3
 z3:=Tryz.sizeOf3
 v3:=Tryz.zeroValue3
 t4:=Tryz.underlying4
 a4:=Tryz.isAgg4
 z4:=Tryz.sizeOf4
 v4:=Tryz.zeroValue4
 t5:=Tryz.underlying5
 a5:=Tryz.isAgg5
 z5:=Tryz.sizeOf5
 v5:=Tryz.zeroValue5
 t9:=Tryz.underlying9
 a9:=Tryz.isAgg9
 z9:=Tryz.sizeOf9
 v9:=Tryz.zeroValue9
 t20:=Tryz.underlying20
 a20:=Tryz.isAgg20
 z20:=Tryz.sizeOf20
 v20:=Tryz.zeroValue20
 t37:=Tryz.underlying129
 a37:=Tryz.isAgg129
 z37:=Tryz.sizeOf129
 v37:=Tryz.zeroValue129
 t46:=Tryz.underlying220
 a46:=Tryz.isAgg220
 z46:=Tryz.sizeOf220
 v46:=Tryz.zeroValue220
 t51:=Tryz.underlying184
 a51:=Tryz.isAgg184
 z51:=Tryz.sizeOf184
 v51:=Tryz.zeroValue184
 t53:=Tryz.underlying249
 a53:=Tryz.isAgg249
 z53:=Tryz.sizeOf249
 v53:=Tryz.zeroValue249
 t171:=Tryz.underlying265
 a171:=Tryz.isAgg265
 z171:=Tryz.sizeOf265
 v171:=Tryz.zeroValue265
 t173:=Tryz.underlying268
 a173:=Tryz.isAgg268
 z173:=Tryz.sizeOf268
 v173:=Tryz.zeroValue268
 t212:=Tryz.underlying275
 a212:=Tryz.isAgg275
 z212:=Tryz.sizeOf275
 v212:=Tryz.zeroValue275
 t213:=Tryz.underlying276
 a213:=Tryz.isAgg276
 z213:=Tryz.sizeOf276
 t232:=Tryz.underlying279
 a232:=Tryz.isAgg279
 z232:=Tryz.sizeOf279
 v232:=Tryz.zeroValue279
 t233:=Tryz.underlying280
 a233:=Tryz.isAgg280
 z233:=Tryz.sizeOf280
 v233:=Tryz.zeroValue280
 g17:=by kernel_rfl
 g18:=by kernel_rfl
 g19:=by kernel_rfl
 i0:=by kernel_rfl
 i2:=by kernel_rfl
 i3:=by kernel_rfl
 i4:=by kernel_rfl
 i5:=by kernel_rfl
 i9:=by kernel_rfl
 i20:=by kernel_rfl
 i37:=by kernel_rfl
 i46:=by kernel_rfl
 i51:=by kernel_rfl
 i53:=by kernel_rfl
 i171:=by kernel_rfl
 i173:=by kernel_rfl
 i212:=by kernel_rfl
 i232:=by kernel_rfl
 i233:=by kernel_rfl
 m17:=by kernel_rfl
 m18:=by kernel_rfl
 m19:=by kernel_rfl }
open Go.Rv Go.RowKit
theorem Agg{rs:Aqm}{n:Int}{r:List UInt8}(h:Agf n=some r):Con (B rs) 103 [i64 n] [] (fun r' O'=>r'=.str r/\O'=[]):=by
 unfold Agf at h;split at h
 case isFalse=>cases h
 rename_i hl;obtain⟨hl1,hl2⟩:=hl;simp only[AqG]at h;subst h;refine⟨fun F w g vs hm ha=>.inl ⟨⟨Tryz.f103,_,Tryz.func103,rfl,by decide +kernel⟩,?_⟩⟩;have hg:g=[]:=Ari.1 hm.len;subst hg;obtain⟨vs⟩:=vs
 match vs,ha with
 | [u],⟨h1,_⟩=>
  have hu:=DK h1;subst hu
  have htab:Lib.TabIs Tryz.prog w "internal/strconv.uint64pow10" .u64 Lib.pow10Tab:=by
   obtain⟨_,t,o,hw⟩:=hm.whole 7 _ rfl;unfold Lib.TabIs World.var?;rw[show Tryz.prog.globalNamed "internal/strconv.uint64pow10" = some 7 by kernel_rfl,ArL,hw]
  have key:Calls Tryz.prog 103 #[.int .i64 n] w fun e w'=>e=.returned (.string ⟨(Lib.itoa n).toArray⟩)/\Below w.heap.size w w' :=
   (Any.strconv_Itoa Tryz.laysM171 n hl1 hl2 w htab).mono fun e w' ⟨e1,k,os,e2⟩=>⟨e1,by
    rw[e2];exact Lib.below_grow _ w (AqT _) k os⟩
  refine key.mono fun e w' ⟨he,hb⟩=>?_
  have evo:Evo ((B rs).env F) 0 w [] w' []:=⟨hb.os,hb.tape,hb.output,hb.size,fun a u hc hp=>⟨by
   rw[<-hc];simp only[World.cell?,hb.block _ (cell?_lt hc)],hp⟩,fun β hβ hn=>⟨hb.block β hβ,hn⟩,fun _ hh=>absurd hh (ArF _)⟩
  exact⟨_,_,[],[],he,⟨rfl,rfl⟩,(MF hm evo).1,evo,.str _ _ _ (by simp)⟩
variable {rs:Aqm}
theorem JV{s1_8461:List Aqr}{s2_8462:List Aqr}{b:Aqr->Aqr->Option (Bool)}{a:Nat}(f:∀{a0:Aqr} {a1:Aqr} {r:Bool},b a0 a1=some r->Con (B rs) a [.agg (xE a0),.agg (xE a1)] [] (fun r' O'=>r'=.bool r/\O'=[])){r:Bool}(h:Dt s1_8461 s2_8462 b=some r):Con (B rs) 44 [.sl false (L cApi_Expr s1_8461),.sl false (L cApi_Expr s2_8462),.fn a []] [] (fun r' O'=>r'=.bool r/\O'=[]):=by
 refine FJ (N:=32) (rs:=[.tmp 6]) ok Tryz.func44 rfl (by decide +kernel) rfl rfl (AqV rfl) (fun F=>?_);have hE:=(ok (rs:=rs)).env F;unfold Dt at h;show Run ((B rs).env F) 0 _ ⟨Ah 32 [(0,.sl false (L cApi_Expr s1_8461)),(1,.sl false (L cApi_Expr s2_8462)),(2,.fn a [])],[]⟩ _;refine BN ?_;revert h;refine T0 [0,1,2] ?_;refine Sq <|T0 [0,1,2,14] ?_
 refine Cd ?_ ?_
 ·refine T0 [6] ?_;exact Sr <|Tr <|Rr
 refine Sk <|Tn <|?_
 refine Jo (fun _=>⟨Ah 32 [],[]⟩) ?_ ?_
 ·intro ae g;refine T0 [1,2,15,16,17] ?_;refine Sb ?_;refine Lo (fun c=>⟨Ah 32 [(1,.sl false (L cApi_Expr s2_8462)),(2,.fn a []),(15,.sl false (L cApi_Expr s1_8461)),(16,i64 (s1_8461.length:Int)),(17,i64 c)],[]⟩) (ws []) ?_;rintro c af i d e;show D1 s1_8461 s2_8462 b c=some i->_;unfold D1;refine T0 [1,2,15,16,17,18] ?_;refine Sq <|Cd ?_ ?_
  ·refine Sk <|Tn <|Sq <|Sb <|Ck fun j =>Lt fun k m =>Lt fun n o =>Lt fun p q =>Lt fun s t =>Te (O':=[.box (i64 k::i64 n::(C1 i64 p.l++[.sl false (L cApi_Expr s)])) false]) [1,2,7,8,15,16,17] Aa (Ew5 (qR j) m o q t) ?_
   refine Ck fun u =>Lt fun v w =>Lt fun x y =>Lt fun z aa =>Lt fun ab ac =>Te (O':=[_,.box (i64 v::i64 x::(C1 i64 z.l++[.sl false (L cApi_Expr ab)])) false]) [1,2,8,9,15,16,17] Aa (Ew5 (qR u) w y aa ac) ?_
   refine Bd fun ag ad =>Te [1,2,15,16,17,30] (o1 29 (f ad)) Ev ?_
   refine Cd ?_ ?_
   ·refine T0 [6] ?_;exact Sr <|Br <|Tr <|Lr e d <|Br <|Jr g <|Rr
   refine Sk <|Bn <|Tn <|F0 [1,2,15,16,17] ?_
   exact Ln (ws [])
  refine Sx <|Tx <|Lx e d <|Bx <|?_
  exact Jn ((ws (l':=[]) (O':=[]) []).trans (ws []))
 intro _;refine T0 [6] ?_;exact Sr <|Rr
theorem Kj{rec_:Aqr->Aqr->Option (Bool)}(hrec:∀{a:Aqr} {b:Aqr} {r:Bool},rec_ a b=some r->Con (B rs) 21 [.agg (xE a),.agg (xE b)] [] (fun r' O'=>r'=.bool r/\O'=[])){a:Aqr}{b:Aqr}{r:Bool}(h:Ec rec_ a b=some r):Con (B rs) 21 [.agg (xE a),.agg (xE b)] [] (fun r' O'=>r'=.bool r/\O'=[]):=by
 refine FJ (N:=31) (rs:=[.tmp 4]) ok Tryz.func21 rfl (by decide +kernel) rfl rfl (AqV rfl) (fun F=>?_);have hE:=(ok (rs:=rs)).env F;unfold Ec at h;show Run ((B rs).env F) 0 _ ⟨Ah 31 [(0,.agg (xE a)),(1,.agg (xE b))],[]⟩ _;refine BN ?_;revert h;refine T0 [2,3] ?_;refine Tw [4] (fun f=>⟨Ah 31 [(4,.bool f)],[]⟩) ?_ ?_
 ·intro _;refine Sp (fun c=>?_) fun c=>?_
  ·refine Sp (fun d=>?_) fun d=>?_
   ·refine Sp (fun e=>?_) fun e=>?_
    ·refine Bd fun i g=>?_
     exact Lf (o1 29 (JV (fun h=>hrec h) g)) (Ew3 c d e) (ws [])
    exact Lf Aa (Ew3 c d e) (ws [])
   exact Lf Aa (Ew2 c d) (ws [])
  exact Lf Aa (Ew1 c) (ws [])
 intro f;exact Sr <|Rr
theorem Kl(n:Nat):∀{a:Aqr} {b:Aqr} {r:Bool},DV n a b=some r->Con (B rs) 21 [.agg (xE a),.agg (xE b)] [] (fun r' O'=>r'=.bool r/\O'=[]):=by
 induction n with
 |zero=>intro a b r h;cases h
 |succ n ih=>intro a b r h;exact Kj ih h
theorem LV{a:Aqr}{b:Aqr}{r:Bool}(h:K5 a b=some r):Con (B rs) 21 [.agg (xE a),.agg (xE b)] [] (fun r' O'=>r'=.bool r/\O'=[]):=Kl _ h
theorem Nk{c d r}(h:EZ c d=some r):Con (B rs) 19 [.agg (Ab c),.agg (Ab d)] [] (fun r' O'=>r'=.bool r/\O'=[]):=by
 refine Cw 24 [.tmp 4] Tryz.func19 (fun F hE=>?_) h;unfold EZ;refine T0 [2,3] ?_;refine Tw [4] (fun e=>⟨Ah 24 [(4,.bool e)],[]⟩) ?_ ?_
 ·intro _;refine Sp (fun a=>?_) fun a=>?_
  ·refine Bd fun i f=>?_
   refine Sp (fun b=>?_) fun b=>?_
   ·refine Bd fun j g=>?_
    exact Lf (o2 15 (HS f) 22 (LV g)) (Ew2 a b) (ws [])
   exact Lf (o1 15 (HS f)) (Ew2 a b) (ws [])
  exact Lf Aa (Ew1 a) (ws [])
 intro e;exact Sr <|Rr
theorem JJ{s1_8598:List Aqs}{s2_8599:List Aqs}{b:Aqs->Aqs->Option (Bool)}{a:Nat}(f:∀{a0:Aqs} {a1:Aqs} {r:Bool},b a0 a1=some r->Con (B rs) a [.agg (Ab a0),.agg (Ab a1)] [] (fun r' O'=>r'=.bool r/\O'=[])){r:Bool}(h:Dv s1_8598 s2_8599 b=some r):Con (B rs) 18 [.sl false (L Ab s1_8598),.sl false (L Ab s2_8599),.fn a []] [] (fun r' O'=>r'=.bool r/\O'=[]):=by
 refine FJ (N:=32) (rs:=[.tmp 6]) ok Tryz.func18 rfl (by decide +kernel) rfl rfl (AqV rfl) (fun F=>?_);have hE:=(ok (rs:=rs)).env F;unfold Dv at h;show Run ((B rs).env F) 0 _ ⟨Ah 32 [(0,.sl false (L Ab s1_8598)),(1,.sl false (L Ab s2_8599)),(2,.fn a [])],[]⟩ _;refine BN ?_;revert h;refine T0 [0,1,2] ?_;refine Sq <|T0 [0,1,2,14] ?_
 refine Cd ?_ ?_
 ·refine T0 [6] ?_;exact Sr <|Tr <|Rr
 refine Sk <|Tn <|?_
 refine Jo (fun _=>⟨Ah 32 [],[]⟩) ?_ ?_
 ·intro am g;refine T0 [1,2,15,16,17] ?_;refine Sb ?_;refine Lo (fun c=>⟨Ah 32 [(1,.sl false (L Ab s2_8599)),(2,.fn a []),(15,.sl false (L Ab s1_8598)),(16,i64 (s1_8598.length:Int)),(17,i64 c)],[]⟩) (ws []) ?_;rintro c an i d e;show D2 s1_8598 s2_8599 b c=some i->_;unfold D2;refine T0 [1,2,15,16,17,18] ?_;refine Sq <|Cd ?_ ?_
  ·refine Sk <|Tn <|Sq <|Sb <|Ck fun j =>Lt fun k m =>Lt fun n o =>Lt fun p q =>Lt fun s t =>Lt fun u v =>Lt fun w x =>Te (O':=[.box (.str k::.sl false (L Ag n)::i64 p::i64 s::(C1 i64 u.l++[.sl false (L cApi_Expr w)])) false]) [1,2,7,8,15,16,17] Aa (Ev (by simp only[go_sem,qR j,m,o,q,t,v,x];exact Ce)) ?_
   refine Ck fun y =>Lt fun z aa =>Lt fun ab ac =>Lt fun ad ae =>Lt fun af ag =>Lt fun ah ai =>Lt fun aj ak =>Te (O':=[_,.box (.str z::.sl false (L Ag ab)::i64 ad::i64 af::(C1 i64 ah.l++[.sl false (L cApi_Expr aj)])) false]) [1,2,8,9,15,16,17] Aa (Ev (by simp only[go_sem,qR y,aa,ac,ae,ag,ai,ak];exact Ce)) ?_
   refine Bd fun ao al =>Te [1,2,15,16,17,30] (o1 29 (f al)) Ev ?_
   refine Cd ?_ ?_
   ·refine T0 [6] ?_;exact Sr <|Br <|Tr <|Lr e d <|Br <|Jr g <|Rr
   refine Sk <|Bn <|Tn <|F0 [1,2,15,16,17] ?_
   exact Ln (ws [])
  refine Sx <|Tx <|Lx e d <|Bx <|?_
  exact Jn ((ws (l':=[]) (O':=[]) []).trans (ws []))
 intro _;refine T0 [6] ?_;exact Sr <|Rr
theorem Kk{c d r}(h:GI c d=some r):Con (B rs) 8 [.agg (Aj c),.agg (Aj d)] [] (fun r' O'=>r'=.bool r/\O'=[]):=by
 refine Cw 24 [.tmp 4] Tryz.func8 (fun F hE=>?_) h;unfold GI;refine T0 [2,3] ?_;refine Tw [4] (fun e=>⟨Ah 24 [(4,.bool e)],[]⟩) ?_ ?_
 ·intro _;refine Sp (fun a=>?_) fun a=>?_
  ·refine Sp (fun b=>?_) fun b=>?_
   ·refine Bd fun g f=>?_
    exact Lf (o1 22 (JJ (fun h=>Nk h) f)) (Ew2 a b) (ws [])
   exact Lf Aa (Ew2 a b) (ws [])
  exact Lf Aa (Ew1 a) (ws [])
 intro e;exact Sr <|Rr
theorem Mv{a r}(h:Fz a=some r):Con (B rs) 6 [.sl false (L Ak a)] [] (fun r' O'=>r'=.bool r/\O'=[]):=by
 refine Cw 26 [.tmp 2] Tryz.func6 (fun F hE=>?_) h;unfold Fz;refine T0 [0] ?_;refine T0 [0,3] ?_;refine Ja (fun c=>⟨Ah 26 [(0,.sl false (L Ak a)),(3,i64 c)],[]⟩) ?_ ?_
 ·intro aH;refine T0 [0,3,6,7,8] ?_;refine Sb ?_;refine Lo (fun(v:Int×Int)=>(⟨Ah 26 [(0,.sl false (L Ak a)),(3,i64 v.1),(6,.sl false (L Ak a)),(7,i64 (a.length:Int)),(8,i64 v.2)],[]⟩:St)) (ws []) ?_;rintro⟨d,f⟩ aI g i j;show Fk a d f=some g->_;unfold Fk;refine T0 [0,3,6,7,8,9] ?_;refine Sq <|Cd ?_ ?_
  ·refine Sk <|Tn <|Sq <|Sb <|Ck fun k =>Lt fun l m =>Lt fun n o =>Lt fun p q =>Lt fun s t =>Lt fun u w =>Lt fun x y =>Lt fun z aa =>Lt fun ab ac =>Lt fun ad ae =>Lt fun af ag =>Lt fun ah ai =>Lt fun aj ak =>Lt fun al am =>Lt fun an ao =>Lt fun ap aq =>Lt fun ar au =>Lt fun av aw =>Lt fun ax ay =>Lt fun az aA =>Lt fun aB aC =>Lt fun aD aE =>Te (O':=[.box [i64 l,i64 n,i64 p,i64 s,i64 u,i64 x,i64 z,i64 ab,i64 ad,i64 af,i64 ah,i64 aj,i64 al,i64 an,i64 ap,i64 ar,i64 av,i64 ax,i64 az,.str aB,.sl false (L D9 aD)] false]) [0,3,5,6,7,8] Aa (Ev (by simp only[go_sem,qR k,m,o,q,t,w,y,aa,ac,ae,ag,ai,ak,am,ao,aq,au,aw,ay,aA,aC,aE];exact Ce)) ?_
   refine Lt fun aF aG =>Fe (fr':=[(0,_),(3,i64 aF),(6,_),(7,_),(8,_)]) [0,3,6,7,8] Aa (Ew1 aG) ?_
   refine Bn <|Tn <|F0 [0,3,6,7,8] ?_
   exact Ln (ws [])
  refine Sx <|Tx <|Ly j i <|Bx <|?_
  exact Jm ((ws (l':=[(0,.sl false (L Ak a)),(3,i64 d)]) (O':=[]) []).trans (ws []))
 intro c;refine Tw [2] (fun e=>⟨Ah 26 [(2,.bool e)],[]⟩) ?_ ?_
 ·intro _;refine Sp (fun b=>?_) fun b=>?_
  ·exact Lf Aa (Ew1 b) (ws [])
  exact Lf Aa (Ew1 b) (ws [])
 intro e;exact Sr <|Rr
theorem Oz{n:Int}{r:List UInt8}(h:strconv_Itoa n=some r):Con (B rs) 103 [i64 n] [] (fun r' O'=>r'=.str r/\O'=[]) :=
 Agg h
theorem Ap{a c r}(h:Aq a c=some r):Con (B rs) 25 [.ref 0 0,.sl false (L Bl c)] [.box [.bs false 1 (a.l.length) 0 (a.l.length)] false,.buf 1 (L Bl a.l) false] (fun r' O'=>r'=.tup []/\O'=[.box [.bs false 1 (r.l.length) 0 (r.l.length)] false,.buf 1 (L Bl r.l) false]):=by
 refine Co 2 13 [] Tryz.func25 (fun F hE=>?_) h;unfold Aq;refine Ck fun d =>Lt fun b e =>Fe (O':=[.box [.bs false 1 (b.length) 0 (b.length)] false,.buf 1 (L Bl b) false]) [] Aa (Ew2 d e) ?_
 exact Ro [0,1]
theorem CH{a c r}(h:Bu a c=some r):Con (B rs) 63 [.ref 0 0,i64 c] [.box [.bs false 1 (a.l.length) 0 (a.l.length)] false,.buf 1 (L Bl a.l) false] (fun r' O'=>r'=.tup []/\O'=[.box [.bs false 1 (r.l.length) 0 (r.l.length)] false,.buf 1 (L Bl r.l) false]):=by
 refine Co 2 9 [] Tryz.func63 (fun F hE=>?_) h;unfold Bu;refine Bd fun d e =>Bd fun i f =>Lt fun b g =>?_
 refine Ffe (O':=[.box [.bs false 1 (b.length) 0 (b.length)] false,.buf 1 (L Bl b) false]) [] (Ae (l:=[(6,_,_,_)]) (m:=[(8,25,[.ref 0 0,.sl false (L Bl ([d]:List (List UInt8)))],[.box [.bs false 1 (a.l.length) 0 (a.l.length)] false,.buf 1 (L Bl a.l) false],_,_)]) ⟨Oz  e,trivial⟩ ⟨(wc (Ap f) [0,1]),trivial⟩) (Ew1 g) ?_;exact Ro [0,1]
variable {rs:Aqm}
theorem D4{b:Aqu}{r:(List UInt8×Aqu)⊕(Int×Int×Aqu)}(h:CT b=some r):PCon (B rs) 48 [.ref 0 0] [pS b] (Kb r):=by
 refine BH (N:=31) (rs:=[.tmp 2]) 1 rfl ok Tryz.func48 rfl (by decide +kernel) rfl rfl (AqV rfl) (fun F=>?_);have hE:=(ok (rs:=rs)).env F;unfold CT at h;show Run ((B rs).env F) 1 _ ⟨Ah 31 [(0,.ref 0 0)],[pS b]⟩ _;refine BN ?_;revert h;refine T0 [0] ?_;refine Bd fun a e =>Te [0,3,4] (Ae (l:=[]) (m:=[(7,85,[.ref 0 0,i64 1],[pS b],_,_)]) trivial ⟨(wc (D3 e) [0]),trivial⟩) Ev ?_
 refine Jo (fun(v:List Aqn×Int)=>(⟨Ah 31 [(0,.ref 0 0),(3,.ref 1 0)],[.box [.sl false (L An v.1),i64 v.2] false,.box (An a.1) false]⟩:St)) ?_ ?_
 ·intro s f;refine T0 [0,3,11] ?_;refine Cd ?_ ?_
  ·intro h;replace h:=Am h;obtain⟨g,c,h⟩:=h;rcases g with i|t
   rotate_left
   ·dsimp only at h;refine Fs 1 13 [.ref 0 0] (Pw (AL c) [0]) (fun _=>?_);refine GP ?_;replace h:=Am h;obtain⟨u,h,j⟩:=h;obtain rfl:=AqF j;obtain rfl:=AqF f;obtain rfl:=AqF h;exact wpR [0]
   dsimp only at h;refine C8 hE Gl [0,3] (fr':=[(0,.ref 0 0),(3,.ref 1 0)]) (O':=[pS i,.box (An a.1) false]) ⟨_,(Ae (l:=[]) (m:=[(13,53,[.ref 0 0],[pS a.2.2,.box (An a.1) false],_,_)]) trivial ⟨(wc (PCon.to (AL c) rfl) [0]),trivial⟩),?_⟩ ?_
   ·simp only[go_sem]
   revert h;exact Jn (ws [0,1])
  exact Sk <|Jn (ws [0,1])
 rintro⟨k,d⟩;refine Sq <|Bd fun w n =>Te [0,3,16] (o1 16 (Fc n)) Ev ?_
 refine Cd ?_ ?_
 ·intro h;refine E8 hE [] 4 _ (v:=.iface 104 (.agg #[.int .i64 a.1.At,.int .i64 161])) (σ2:=[.box [.sl false (L An k),i64 d] false,.box (An a.1) false]) (vals:=[]) rfl rfl ⟨_,[],Aa,trivial,?_⟩ (fun x y z=>?_)
  ·simp only[go_sem]
  refine Dx ?_;obtain rfl:=AqF h;exact wpR [0]
 refine Sk <|Tn <|Ck fun o =>Lt fun p q =>Te (O':=[.box [.sl false (L An p),i64 d] false,_]) [3] Aa (Ew2 o q) ?_
 refine T0 [2] ?_;refine Sr ?_;intro h;obtain rfl:=AqF h;exact wpF
theorem L9{a b r}(h:D8 a b=some r):Con (B rs) 134 [.sl false (L Bl a),.str b] [] (fun r' O'=>r'=i64 r/\O'=[]):=by
 refine Cw 19 [.tmp 4] Tryz.func134 (fun F hE=>?_) h;unfold D8;refine T0 [0,1] ?_;refine Jo (fun _=>⟨Ah 19 [],[]⟩) ?_ ?_
 ·intro j f;refine T0 [0,1,7,8] ?_;refine Sb ?_;refine Lo (fun c=>⟨Ah 19 [(0,.sl false (L Bl a)),(1,.str b),(7,i64 (a.length:Int)),(8,i64 c)],[]⟩) (ws []) ?_;rintro c k g d e;show Ep a b c=some g->_;unfold Ep;refine T0 [0,1,7,8,9] ?_;refine Sq <|Cd ?_ ?_
  ·refine Sk <|Tn <|Sq <|Sb <|T0 [0,1,5,7,8] ?_
   refine Ck fun i =>Te [0,1,5,7,8,16] Aa (Ew1 (qR i)) ?_
   refine Cd ?_ ?_
   ·refine T0 [4] ?_;exact Sr <|Br <|Tr <|Lr e d <|Br <|Jr f <|Rr
   refine Sk <|Bn <|Tn <|F0 [0,1,7,8] ?_
   exact Ln (ws [])
  refine Sx <|Tx <|Lx e d <|Bx <|?_
  exact Jn ((ws (l':=[]) (O':=[]) []).trans (ws []))
 intro _;refine T0 [4] ?_;exact Sr <|Rr
theorem CQ{a r}(h:Bp a=some r):Con (B rs) 26 [.str a] [] (fun r' O'=>r'=.sl false (L Bl r)/\O'=[]):=by
 refine Cw 106 [.tmp 2] Tryz.func26 (fun F hE=>?_) h;unfold Bp;refine T0 [0] ?_;refine T0 [0,3] ?_;refine T0 [0,3,4] ?_;refine T0 [0,3,4,5] ?_;refine Ja (fun(v:Int×UInt8)=>(⟨Ah 106 [(0,.str a),(3,i64 v.1),(5,u8 v.2)],[]⟩:St)) ?_ ?_
 ·intro aO;refine T0 [0,3,4,5,6] ?_;refine Sb ?_;refine Lo (fun⟨i,n,j,o⟩=>⟨Ah 106 [(0,.str a),(3,i64 i),(4,i64 n),(5,u8 j),(6,i64 o)],[]⟩) (ws []) ?_;rintro⟨i,n,j,o⟩ aP ab ac ad;show GE a i n j o=some ab->_;unfold GE;refine Sq <|T0 [0,3,4,5,6,16] ?_
  refine Cd ?_ ?_
  ·refine Sk <|Tn <|Sq <|Sb <|Ck fun ae =>Te [0,3,4,5,6,7] Aa (Ew1 (qR ae)) ?_
   refine Lt fun af ag =>Te (fr':=[(0,_),(3,_),(4,_),(5,u8 af),(6,_),(7,_)]) [0,3,4,5,6,7] Aa (Ew1 ag) ?_
   refine Ck fun ah =>Lt fun ai aj =>Te (fr':=[(0,_),(3,_),(4,_),(5,_),(6,_),(8,i64 ai)]) [0,3,4,5,6,8] Aa (Ew2 (qN ah) aj) ?_
   refine Lt fun ak al =>Te (fr':=[(0,_),(3,i64 ak),(5,_),(6,_),(8,_)]) [0,3,5,6,8] Aa (Ew1 al) ?_
   refine F0 [0,3,4,5,6] ?_;refine Bn <|Tn <|F0 [0,3,4,5,6] ?_
   exact Ln (ws [])
  refine Sx <|Tx <|Ly ad ac <|Bx <|?_
  exact Jm ((ws (l':=[(0,.str a),(3,i64 i),(5,u8 j)]) (O':=[]) []).trans (ws []))
 rintro⟨aQ,aR⟩;refine Sq <|T0 [0,3,37] ?_
 refine Cd ?_ ?_
 ·exact Rn
 refine Sk <|Tn <|Ck fun am =>Lt fun b an =>Te (fr':=[(0,_),(9,.bs true 0 (b.length) 0 (b.length))]) (O':=[.buf 1 (L Bl b) false]) [0,9] Aa (Ew2 am an) ?_
 refine T0 [0,9,10] ?_;refine T0 [0,9,10] ?_;refine T0 [0,9,10,12] ?_;refine Ja (fun u=>⟨Ah 106 [(0,.str a),(9,.bs true 0 (b.length) 0 (b.length)),(10,i64 0),(12,i64 u)],[.buf 1 (L Bl b) false]⟩) ?_ ?_
 ·intro aS;refine Sb ?_;refine Lo (fun f=>⟨Ah 106 [(0,.str a),(9,.bs true 0 (b.length) 0 (b.length)),(10,i64 0),(12,i64 f)],[.buf 1 (L Bl b) false]⟩) (ws [0]) ?_;rintro f aT ao ap aq;show GL a f=some ao->_;unfold GL;refine Sq ?_;refine Tw [0,9,10,12,53] (fun w=>⟨Ah 106 [(0,.str a),(9,.bs true 0 (b.length) 0 (b.length)),(10,i64 0),(12,i64 f),(53,.bool w)],[.buf 1 (L Bl b) false]⟩) ?_ ?_
  ·intro _;refine Sp (fun p=>?_) fun p=>?_
   ·refine Ck fun ar =>Ck fun au =>?_
    exact Lf Aa (Ew3 p (qR ar) (qN au)) (ws [0])
   exact Lf Aa (Ew1 p) (ws [0])
  intro w;refine Cd ?_ ?_
  ·refine Sk <|Tn <|Sb <|F0 [0,9,10,12] ?_
   exact Bn <|Ln (ws [0])
  refine Sx <|Tx <|Ly aq ap <|Bx <|?_
  exact Jm ((ws (l':=[(0,.str a),(9,.bs true 0 (b.length) 0 (b.length)),(10,i64 0),(12,i64 f)]) (O':=[.buf 1 (L Bl b) false]) [0]).trans (ws [0]))
 intro u;refine T0 [0,9,10,11,12] ?_;refine Ja (fun⟨x,y,k⟩=>⟨Ah 106 [(0,.str a),(9,.bs true 0 (k.length) 0 (k.length)),(10,i64 x),(11,i64 y)],[.buf 1 (L Bl k) false]⟩) ?_ ?_
 ·intro aU;refine Sb ?_;refine Lo (fun⟨d,l,q,e⟩=>⟨Ah 106 [(0,.str a),(9,.bs true 0 (e.length) 0 (e.length)),(10,i64 d),(11,i64 l),(12,i64 q)],[.buf 1 (L Bl e) false]⟩) (ws [0]) ?_;rintro⟨d,l,q,e⟩ aV av aw ax;show GC a d l q e=some av->_;unfold GC;refine Sq <|T0 [0,9,10,11,12,60] ?_
  refine Cd ?_ ?_
  ·refine Sk <|Tn <|Sb <|Sq <|Ck fun ay =>Ck fun az =>Lt fun aA aB =>Te (fr':=[(0,_),(9,_),(10,_),(11,_),(12,_),(66,.bool aA)]) [0,9,10,11,12,66] Aa (Ew3 (qR ay) (qN az) aB) ?_
   refine Cd ?_ ?_
   ·refine T0 [0,9,10,11,12] ?_;exact Sx <|Tx <|Bx <|Ln (ws [0])
   refine Sk <|Tn <|Ck fun aC =>Ck fun aD =>Ck fun aE =>Lt fun c aF =>Te (fr':=[(0,_),(9,.bs true 0 (c.length) 0 (c.length)),(10,_),(12,_)]) (O':=[.buf 1 (L Bl c) false]) [0,9,10,12] Aa (Ew4 aC aD (qR aE) aF) ?_
   refine T0 [0,9,10,12] ?_;refine T0 [0,9,10,12] ?_;refine Ja (fun z=>⟨Ah 106 [(0,.str a),(9,.bs true 0 (c.length) 0 (c.length)),(10,i64 (w64 (d+1))),(12,i64 z)],[.buf 1 (L Bl c) false]⟩) ?_ ?_
   ·intro aW;refine Sb ?_;refine Lo (fun g=>⟨Ah 106 [(0,.str a),(9,.bs true 0 (c.length) 0 (c.length)),(10,i64 (w64 (d+1))),(12,i64 g)],[.buf 1 (L Bl c) false]⟩) (ws [0]) ?_;rintro g aX aG aH aI;show GT a g=some aG->_;unfold GT;refine Sq ?_;refine Tw [0,9,10,12,91] (fun aa=>⟨Ah 106 [(0,.str a),(9,.bs true 0 (c.length) 0 (c.length)),(10,i64 (w64 (d+1))),(12,i64 g),(91,.bool aa)],[.buf 1 (L Bl c) false]⟩) ?_ ?_
    ·intro _;refine Sp (fun s=>?_) fun s=>?_
     ·refine Ck fun aJ =>Ck fun aK =>?_
      exact Lf Aa (Ew3 s (qR aJ) (qN aK)) (ws [0])
     exact Lf Aa (Ew1 s) (ws [0])
    intro aa;refine Cd ?_ ?_
    ·refine Sk <|Tn <|Sb <|F0 [0,9,10,12] ?_
     exact Bn <|Ln (ws [0])
    refine Sx <|Tx <|Ly aI aH <|Bx <|?_
    exact Jm ((ws (l':=[(0,.str a),(9,.bs true 0 (c.length) 0 (c.length)),(10,i64 (w64 (d+1))),(12,i64 g)]) (O':=[.buf 1 (L Bl c) false]) [0]).trans (ws [0]))
   intro z;refine F0 [0,9,10,11,12] ?_;exact Bn <|Ln (ws [0])
  refine Sx <|Tx <|Ly ax aw <|Bx <|?_
  exact Jm ((ws (l':=[(0,.str a),(9,.bs true 0 (e.length) 0 (e.length)),(10,i64 d),(11,i64 l)]) (O':=[.buf 1 (L Bl e) false]) [0]).trans (ws [0]))
 rintro⟨x,y,k⟩;refine Ja (fun m=>⟨Ah 106 [(9,.bs true 0 (m.length) 0 (m.length))],[.buf 1 (L Bl m) false]⟩) ?_ ?_
 ·intro aY;refine T0 [0,9,10,11,98] ?_;refine Cd ?_ ?_
  ·refine Ck fun aL =>Ck fun aM =>Lt fun t aN =>Fe (fr':=[(9,.bs true 0 (t.length) 0 (t.length))]) (O':=[.buf 1 (L Bl t) false]) [9] Aa (Ew3 aL (qR aM) aN) ?_
   exact Jm (ws [0])
  exact Sk <|Jm (ws [0])
 intro m;refine T0 [2] ?_;exact Sr <|Rr
theorem Ee{a c r}(h:BP a c=some r):Con (B rs) 86 [.ref 0 0,.str c] [pS a] (fun r' O'=>r'=.tup [i64 r.1,.bool r.2.1]/\O'=[pS r.2.2]):=by
 refine Co 1 34 [.tmp 4,.tmp 5] Tryz.func86 (fun F hE=>?_) h;unfold BP;refine T0 [0,1] ?_;refine Bd fun d f =>Te [0,1,6,7] (Ae (l:=[]) (m:=[(11,85,[.ref 0 0,i64 1],[pS a],_,_)]) trivial ⟨(wc (D3 f) [0]),trivial⟩) Ev ?_
 refine Bd fun p g =>Bd fun i j =>De [[],[0],[],[2],[0,1,2,3],[0,1,2,3,4]] [0,7,8] (o2 15 (CQ g) 18 (L9 j)) Ev ?_
 refine Sq ?_;refine Tw [0,8,24] (fun e=>⟨Ah 34 [(0,.ref 0 0),(8,i64 i),(24,.bool e)],[pS d.2.2]⟩) ?_ ?_
 ·intro _;refine Sp (fun b=>?_) fun b=>?_
  ·exact Lf Aa (Ew1 b) (ws [0])
  exact Lf Aa (Ew1 b) (ws [0])
 intro e;refine Cd ?_ ?_
 ·refine T0 [4,5] ?_;exact Sr <|Tr <|Ro [0]
 refine Sk <|Tn <|Ck fun k =>Lt fun n o =>Te (O':=[.box [.sl false (L An n),i64 d.2.2.end_] false]) [8] Aa (Ew2 k o) ?_
 refine T0 [4,5] ?_;exact Sr <|Ro [0]
theorem Bi{a:Aqu}{b:List UInt8}{r:(Int×Aqu)⊕(Int×Int×Aqu)}(h:BV a b=some r):PCon (B rs) 49 [.ref 0 0,.str b] [pS a] (Ke r):=by
 refine BH (N:=18) (rs:=[.tmp 4]) 1 rfl ok Tryz.func49 rfl (by decide +kernel) rfl rfl (AqV rfl) (fun F=>?_);have hE:=(ok (rs:=rs)).env F;unfold BV at h;show Run ((B rs).env F) 1 _ ⟨Ah 18 [(0,.ref 0 0),(1,.str b)],[pS a]⟩ _;refine BN ?_;revert h;refine T0 [0,1] ?_;refine Bd fun c e =>Te [0,5,6] (Ae (l:=[]) (m:=[(10,86,[.ref 0 0,.str b],[pS a],_,_)]) trivial ⟨(wc (Ee e) [0]),trivial⟩) Ev ?_
 refine Jo (fun(v:List Aqn×Int)=>(⟨Ah 18 [(5,i64 c.1)],[.box [.sl false (L An v.1),i64 v.2] false]⟩:St)) ?_ ?_
 ·intro k f;refine T0 [0,5,14] ?_;refine Cd ?_ ?_
  ·intro h;replace h:=Am h;obtain⟨g,d,h⟩:=h;rcases g with i|n
   rotate_left
   ·dsimp only at h;refine Fs 1 16 [.ref 0 0] (Pw (AL d) [0]) (fun _=>?_);refine GP ?_;replace h:=Am h;obtain⟨o,h,j⟩:=h;obtain rfl:=AqF j;obtain rfl:=AqF f;obtain rfl:=AqF h;exact wpR [0]
   dsimp only at h;refine C8 hE Gl [5] (fr':=[(5,i64 c.1)]) (O':=[pS i]) ⟨_,(Ae (l:=[]) (m:=[(16,53,[.ref 0 0],[pS c.2.2],_,_)]) trivial ⟨(wc (PCon.to (AL d) rfl) [0]),trivial⟩),?_⟩ ?_
   ·simp only[go_sem]
   revert h;exact Jn (ws [0])
  exact Sk <|Jn (ws [0])
 rintro⟨p,q⟩;refine T0 [4] ?_;refine Sr ?_;intro h;obtain rfl:=AqF h;exact wpF
variable {rs:Aqm}
theorem JE{a c r}(h:Du a c=some r):Con (B rs) 105 [.ref 0 0,.agg (C1 i64 c.l)] [.box [.bs false 1 (a.l.length) 0 (a.l.length)] false,.buf 1 (L Bl a.l) false] (fun r' O'=>r'=.tup []/\O'=[.box [.bs false 1 (r.l.length) 0 (r.l.length)] false,.buf 1 (L Bl r.l) false]):=by
 refine Co 2 30 [] Tryz.func105 (fun F hE=>?_) h;unfold Du;refine T0 [0,3] ?_;refine Bd fun d g =>Te [0,3,4] (o1 7 (CQ g)) Ev ?_
 refine Ja (fun b=>⟨Ah 30 [(0,.ref 0 0),(3,.ref 2 0),(4,.sl false (L Bl d))],[.box [.bs false 1 (b.length) 0 (b.length)] false,.buf 1 (L Bl b) false,.box (C1 i64 c.l) true]⟩) ?_ ?_
 ·intro v;refine Bd fun i j =>Te [0,3,4,5] (o1 9 (H4 j)) Ev ?_
  refine T0 [0,3,4,5,11] ?_;refine Cd ?_ ?_
  ·refine Ck fun k =>Bd fun w n =>Lt fun e o =>?_
   refine Ffe (O':=[.box [.bs false 1 (e.length) 0 (e.length)] false,.buf 1 (L Bl e) false,_]) [0,3,4] (Ae (l:=[]) (m:=[(18,25,[.ref 0 0,.sl false (L Bl ([nth d i.toNat]:List (List UInt8)))],[.box [.bs false 1 (a.l.length) 0 (a.l.length)] false,.buf 1 (L Bl a.l) false,.box (C1 i64 c.l) true],_,_)]) trivial ⟨(wc (Ap n) [0,1]),trivial⟩) (Ew2 (qR k) o) ?_;exact Jm (ws [0,1,2])
  exact Sk <|Jm (ws [0,1,2])
 intro b;refine Bd fun p q =>Te [0,4,6] (o1 20 (H4 q)) Ev ?_
 refine T0 [0,4,6,22] ?_;refine Cd ?_ ?_
 ·refine Ck fun s =>Bd fun x t =>Lt fun f u =>?_
  refine Ffe (O':=[.box [.bs false 1 (f.length) 0 (f.length)] false,.buf 1 (L Bl f) false,_]) [] (Ae (l:=[]) (m:=[(29,25,[.ref 0 0,.sl false (L Bl ([([112,101,114]:List UInt8),nth d p.toNat]:List (List UInt8)))],[.box [.bs false 1 (b.length) 0 (b.length)] false,.buf 1 (L Bl b) false,.box (C1 i64 c.l) true],_,_)]) trivial ⟨(wc (Ap t) [0,1]),trivial⟩) (Ew2 (qR s) u) ?_;exact Ro [0,1]
 exact Sk <|Ro [0,1]
theorem F5{g:AqA->Aqr->Option (AqA)}(h64:∀{q0_:AqA} {q1_:Aqr} {r:AqA},g q0_ q1_=some r->Con (B rs) 64 [.ref 0 0,.agg (xE q1_)] [.box [.bs false 1 (q0_.l.length) 0 (q0_.l.length)] false,.buf 1 (L Bl q0_.l) false] (fun r' O'=>r'=.tup []/\O'=[.box [.bs false 1 (r.l.length) 0 (r.l.length)] false,.buf 1 (L Bl r.l) false])){i d b a r}(h:Cp g i d b a=some r):Con (B rs) 104 [.str i,.sl false (L Bl d),.ref 1 0,.ref 3 0] [.box [.bs false 2 (b.l.length) 0 (b.l.length)] false,.box [.ref 0 0] false,.buf 1 (L Bl b.l) false,.box (xE a) false] (fun r' O'=>r'=.tup []/\O'=[.box [.bs false 2 (r.l.length) 0 (r.l.length)] false,.box [.ref 0 0] false,.buf 1 (L Bl r.l) false,.box (xE a) false]):=by
 refine Co 4 31 [] Tryz.func104 (fun F hE=>?_) h;unfold Cp;refine Bd fun ac o =>Lt fun j p =>?_
 refine Tfe (O':=[.box [.bs false 2 (j.length) 0 (j.length)] false,_,.buf 1 (L Bl j) false,_]) [1,2,3] (Ae (l:=[]) (m:=[(11,25,[.ref 0 0,.sl false (L Bl ([i,([40]:List UInt8)]:List (List UInt8)))],[.box [.bs false 2 (b.l.length) 0 (b.l.length)] false,.box [.ref 0 0] false,.buf 1 (L Bl b.l) false,.box (xE a) false],_,_)]) trivial ⟨(wc (Ap o) [0,2]),trivial⟩) (Ew1 p) ?_;refine T0 [2,3,12,13,14] ?_;refine Sb ?_;refine Lo (fun(v:Int×List (List UInt8))=>(⟨Ah 31 [(2,.ref 1 0),(3,.ref 3 0),(12,.sl false (L Bl d)),(13,i64 (d.length:Int)),(14,i64 v.1)],[.box [.bs false 2 (v.2.length) 0 (v.2.length)] false,.box [.ref 0 0] false,.buf 1 (L Bl v.2) false,.box (xE a) false]⟩:St)) (ws [0,1,2,3]) ?_;rintro⟨e,f⟩ ad q s t;show BC g d a e f=some q->_;unfold BC;refine T0 [2,3,12,13,14,15] ?_;refine Sq <|Cd ?_ ?_
 ·refine Sk <|Tn <|Sq <|Sb <|Ck fun u =>Lt fun n w =>Te (fr':=[(2,_),(3,_),(6,_),(7,.str n),(12,_),(13,_),(14,_)]) [2,3,6,7,12,13,14] Aa (Ew2 (qR u) w) ?_
  refine Ck fun x =>Bd fun ae y =>Lt fun c z =>De (O':=[.box [.bs false 2 (c.length) 0 (c.length)] false,_,.buf 1 (L Bl c) false,_]) [[],[],[1],[],[1,2,3],[1,2,3,4],[0,1,2,3,4,5]] [2,3,7,12,13,14] (Ae (l:=[]) (m:=[(25,64,[.ref 0 0,.agg (i64 ((nth a.L e.toNat).Op)::i64 ((nth a.L e.toNat).N)::(C1 i64 ((nth a.L e.toNat).Unit).l++[.sl false (L cApi_Expr ((nth a.L e.toNat).L))]))],[.box [.bs false 2 (f.length) 0 (f.length)] false,.box [.ref 0 0] false,.buf 1 (L Bl f) false,.box (xE a) false],_,_)]) trivial ⟨(wc (h64 y) [0,2]),trivial⟩) (Ew2 (qR x) z) ?_
  refine Bd fun af aa =>Lt fun k ab =>?_
  refine Ffe (O':=[.box [.bs false 2 (k.length) 0 (k.length)] false,_,.buf 1 (L Bl k) false,_]) [2,3,12,13,14] (Ae (l:=[]) (m:=[(29,25,[.ref 0 0,.sl false (L Bl ([n]:List (List UInt8)))],[.box [.bs false 2 (c.length) 0 (c.length)] false,.box [.ref 0 0] false,.buf 1 (L Bl c) false,.box (xE a) false],_,_)]) trivial ⟨(wc (Ap aa) [0,2]),trivial⟩) (Ew1 ab) ?_;refine Bn <|Tn <|F0 [2,3,12,13,14] ?_
  exact Ln (ws [0,1,2,3])
 exact Sx <|Tx <|Ly t s <|Bx <|Ro [0,1,2,3]
theorem Fu{g:AqA->Aqr->Option (AqA)}(h64:∀{q0_:AqA} {q1_:Aqr} {r:AqA},g q0_ q1_=some r->Con (B rs) 64 [.ref 0 0,.agg (xE q1_)] [.box [.bs false 1 (q0_.l.length) 0 (q0_.l.length)] false,.buf 1 (L Bl q0_.l) false] (fun r' O'=>r'=.tup []/\O'=[.box [.bs false 1 (r.l.length) 0 (r.l.length)] false,.buf 1 (L Bl r.l) false])){a b i r}(h:BW g a b i=some r):Con (B rs) 106 [.ref 0 0,.agg (xE b),i64 i] [.box [.bs false 1 (a.l.length) 0 (a.l.length)] false,.buf 1 (L Bl a.l) false] (fun r' O'=>r'=.tup []/\O'=[.box [.bs false 1 (r.l.length) 0 (r.l.length)] false,.buf 1 (L Bl r.l) false]):=by
 refine Co 2 23 [] Tryz.func106 (fun F hE=>?_) h;unfold BW;refine T0 [0,2,4] ?_;refine Sq <|Bd fun v j =>Te [0,4,10] (o1 8 (Hz j)) Ev ?_
 refine Cd ?_ ?_
 ·refine Bd fun w k =>Lt fun e n =>Te (O':=[.box [.bs false 1 (e.length) 0 (e.length)] false,.buf 1 (L Bl e) false,_]) [] (Ae (l:=[]) (m:=[(13,64,[.ref 0 0,.agg (xE b)],[.box [.bs false 1 (a.l.length) 0 (a.l.length)] false,.buf 1 (L Bl a.l) false,.box (xE b) false],_,_)]) trivial ⟨(wc (h64 k) [0,1]),trivial⟩) (Ew1 n) ?_
  exact Sr <|Tr <|Ro [0,1]
 refine Sk <|Tn <|Bd fun x o =>Lt fun c p =>?_
 refine Tfe (O':=[.box [.bs false 1 (c.length) 0 (c.length)] false,.buf 1 (L Bl c) false,_]) [0,4] (Ae (l:=[]) (m:=[(16,25,[.ref 0 0,.sl false (L Bl ([([40]:List UInt8)]:List (List UInt8)))],[.box [.bs false 1 (a.l.length) 0 (a.l.length)] false,.buf 1 (L Bl a.l) false,.box (xE b) false],_,_)]) trivial ⟨(wc (Ap o) [0,1]),trivial⟩) (Ew1 p) ?_;refine Bd fun y q =>Lt fun d s =>Te (O':=[.box [.bs false 1 (d.length) 0 (d.length)] false,.buf 1 (L Bl d) false,_]) [0] (Ae (l:=[]) (m:=[(19,64,[.ref 0 0,.agg (xE b)],[.box [.bs false 1 (c.length) 0 (c.length)] false,.buf 1 (L Bl c) false,.box (xE b) false],_,_)]) trivial ⟨(wc (h64 q) [0,1]),trivial⟩) (Ew1 s) ?_
 refine Bd fun z t =>Lt fun f u =>?_
 refine Ffe (O':=[.box [.bs false 1 (f.length) 0 (f.length)] false,.buf 1 (L Bl f) false,_]) [] (Ae (l:=[]) (m:=[(22,25,[.ref 0 0,.sl false (L Bl ([([41]:List UInt8)]:List (List UInt8)))],[.box [.bs false 1 (d.length) 0 (d.length)] false,.buf 1 (L Bl d) false,.box (xE b) false],_,_)]) trivial ⟨(wc (Ap t) [0,1]),trivial⟩) (Ew1 u) ?_;exact Ro [0,1]
theorem IJ{rec_:AqA->Aqr->Option (AqA)}(hrec:∀{a:AqA} {b:Aqr} {r:AqA},rec_ a b=some r->Con (B rs) 64 [.ref 0 0,.agg (xE b)] [.box [.bs false 1 (a.l.length) 0 (a.l.length)] false,.buf 1 (L Bl a.l) false] (fun r' O'=>r'=.tup []/\O'=[.box [.bs false 1 (r.l.length) 0 (r.l.length)] false,.buf 1 (L Bl r.l) false])){a:AqA}{b:Aqr}{r:AqA}(h:CO rec_ a b=some r):Con (B rs) 64 [.ref 0 0,.agg (xE b)] [.box [.bs false 1 (a.l.length) 0 (a.l.length)] false,.buf 1 (L Bl a.l) false] (fun r' O'=>r'=.tup []/\O'=[.box [.bs false 1 (r.l.length) 0 (r.l.length)] false,.buf 1 (L Bl r.l) false]):=by
 refine Ix (N:=74) (rs:=[]) 2 rfl ok Tryz.func64 rfl (by decide +kernel) rfl rfl (AqV rfl) (fun F=>?_);have hE:=(ok (rs:=rs)).env F;unfold CO at h;show Run ((B rs).env F) 2 _ ⟨Ah 74 [(0,.ref 0 0),(1,.agg (xE b))],[.box [.bs false 1 (a.l.length) 0 (a.l.length)] false,.buf 1 (L Bl a.l) false]⟩ _;refine BN ?_;revert h;refine T0 [2,3] ?_;refine T0 [2,3,4] ?_;refine T0 [2,3,4,7] ?_;refine Sb <|T0 [2,3,4,7,17] ?_
 refine Cd ?_ ?_
 ·refine Bd fun av q =>Lt fun c s =>Te (O':=[.box [.bs false 1 (c.length) 0 (c.length)] false,.buf 1 (L Bl c) false,_,_]) [2,3] (Ae (l:=[]) (m:=[(22,63,[.ref 0 0,i64 b.N],[.box [.bs false 1 (a.l.length) 0 (a.l.length)] false,.buf 1 (L Bl a.l) false,.box [.ref 0 0] false,.box (xE b) false],_,_)]) trivial ⟨(wc (CH q) [0,1]),trivial⟩) (Ew1 s) ?_
  refine Bd fun aw t =>Lt fun f u =>Fe (O':=[.box [.bs false 1 (f.length) 0 (f.length)] false,.buf 1 (L Bl f) false,_,_]) [] (Ae (l:=[]) (m:=[(26,105,[.ref 0 0,.agg (C1 i64 b.Unit.l)],[.box [.bs false 1 (c.length) 0 (c.length)] false,.buf 1 (L Bl c) false,.box [.ref 0 0] false,.box (xE b) false],_,_)]) trivial ⟨(wc (JE t) [0,1]),trivial⟩) (Ew1 u) ?_
  exact Bn <|Ro [0,1]
 refine T0 [2,3,4,7,27] ?_;refine Cd ?_ ?_
 ·refine Bd fun v w =>Ck fun x =>Bd fun ax y =>Lt fun g z =>Ge (O':=[.box [.bs false 1 (g.length) 0 (g.length)] false,.buf 1 (L Bl g) false,_,_]) [[],[],[],[2],[1,2,3],[1,2,3,4],[1,2,3,4,5],[0,1,2,3,4,5,6]] [] (Ae (l:=[(30,_,_,_)]) (m:=[(36,25,[.ref 0 0,.sl false (L Bl ([nth v b.N.toNat]:List (List UInt8)))],[.box [.bs false 1 (a.l.length) 0 (a.l.length)] false,.buf 1 (L Bl a.l) false,.box [.ref 0 0] false,.box (xE b) false],_,_)]) ⟨CQ  w,trivial⟩ ⟨(wc (Ap y) [0,1]),trivial⟩) (Ew2 (qR x) z) ?_
  exact Bn <|Ro [0,1]
 refine T0 [2,3,4,7,37] ?_;refine Cd ?_ ?_
 ·refine Bd fun ay aa =>Lt fun i ab =>?_
  refine Ffq (O':=[.box [.bs false 1 (i.length) 0 (i.length)] false,.buf 1 (L Bl i) false,_,_]) [] (Ae (l:=[]) (m:=[(41,104,[.str ([105,102]:List UInt8),.sl false (L Bl ([([60]:List UInt8),([44]:List UInt8),([44]:List UInt8),([41]:List UInt8)]:List (List UInt8))),.ref 2 0,.ref 3 0],[.box [.bs false 1 (a.l.length) 0 (a.l.length)] false,.buf 1 (L Bl a.l) false,.box [.ref 0 0] false,.box (xE b) false],_,_)]) trivial ⟨(wc (F5 (fun h=>hrec h) aa) [0,2,1,3]),trivial⟩) (Ew1 ab) ?_;exact Bn <|Ro [0,1]
 refine Ja (fun n=>⟨Ah 74 [(2,.ref 2 0),(3,.ref 3 0),(4,.fn 104 [.ref 2 0,.ref 3 0]),(42,.bool n)],[.box [.bs false 1 (a.l.length) 0 (a.l.length)] false,.buf 1 (L Bl a.l) false,.box [.ref 0 0] false,.box (xE b) false]⟩) ?_ ?_
 ·intro az;refine T0 [2,3,4,7,42] ?_;refine Cd ?_ ?_
  ·exact Sk <|Jm (ws [0,1,2,3])
  refine T0 [2,3,4,7,42] ?_;refine Cd ?_ ?_
  ·exact Sk <|Jm (ws [0,1,2,3])
  refine F0 [2,3,4,42] ?_;exact Jm (ws [0,1,2,3])
 intro n;refine Cd ?_ ?_
 ·refine Ck fun ac =>Bd fun ad ae =>Bd fun aA af =>Lt fun d ag =>De (O':=[.box [.bs false 1 (d.length) 0 (d.length)] false,.buf 1 (L Bl d) false,_,_]) [[],[],[1],[1,2],[1,2,3],[],[5],[5,6],[0,1,2,3,4,5,6,7]] [2,3] (Ae (l:=[(53,_,_,_)]) (m:=[(54,106,[.ref 0 0,.agg (i64 ((nth b.L 0).Op)::i64 ((nth b.L 0).N)::(C1 i64 ((nth b.L 0).Unit).l++[.sl false (L cApi_Expr ((nth b.L 0).L))])),i64 ad],[.box [.bs false 1 (a.l.length) 0 (a.l.length)] false,.buf 1 (L Bl a.l) false,.box [.ref 0 0] false,.box (xE b) false],_,_)]) ⟨Hz  ae,trivial⟩ ⟨(wc (Fu (fun h=>hrec h) af) [0,1]),trivial⟩) (Ew2 (qL ac) ag) ?_
  refine Ck fun o=>?_
  have p:=o;simp only[Aq7,Aru,AqM,AqP,Ara,Ar7,Nat.reduceAdd]at p;refine Bd fun aB ah =>Lt fun e ai =>De (O':=[.box [.bs false 1 (e.length) 0 (e.length)] false,.buf 1 (L Bl e) false,_,_]) [[],[],[],[2],[2,3],[1,2,3,4],[1,2,3,4,5],[1,2,3,4,5,6],[0,1,2,3,4,5,6,7]] [2,3] (Ae (l:=[]) (m:=[(63,25,[.ref 0 0,.sl false (L Bl ([nth ([([43]:List UInt8),([45]:List UInt8),([42]:List UInt8)]:List (List UInt8)) ((w64 (b.Op-3)).toNat)]:List (List UInt8)))],[.box [.bs false 1 (d.length) 0 (d.length)] false,.buf 1 (L Bl d) false,.box [.ref 0 0] false,.box (xE b) false],_,_)]) trivial ⟨(wc (Ap ah) [0,1]),trivial⟩) (Ew3 (qR o) (qR p) ai) ?_
  refine Ck fun aj =>Bd fun ak al =>Bd fun aC am =>Lt fun j an =>Ge (O':=[.box [.bs false 1 (j.length) 0 (j.length)] false,.buf 1 (L Bl j) false,_,_]) [[],[],[1],[1,2],[1,2,3],[],[5],[5,6],[5,6,7],[0,1,2,3,4,5,6,7,8]] [] (Ae (l:=[(71,_,_,_)]) (m:=[(73,106,[.ref 0 0,.agg (i64 ((nth b.L 1).Op)::i64 ((nth b.L 1).N)::(C1 i64 ((nth b.L 1).Unit).l++[.sl false (L cApi_Expr ((nth b.L 1).L))])),i64 (w64 (ak+1))],[.box [.bs false 1 (e.length) 0 (e.length)] false,.buf 1 (L Bl e) false,.box [.ref 0 0] false,.box (xE b) false],_,_)]) ⟨Hz  al,trivial⟩ ⟨(wc (Fu (fun h=>hrec h) am) [0,1]),trivial⟩) (Ew2 (qL aj) an) ?_
  exact Bn <|Ro [0,1]
 refine Bd fun ao ap =>Ck fun aq =>Bd fun aD ar =>Lt fun k au =>?_
 refine Gq (O':=[.box [.bs false 1 (k.length) 0 (k.length)] false,.buf 1 (L Bl k) false,_,_]) [[],[],[],[2],[2,3],[1,2,3,4],[1,2,3,4,5],[],[0,1,2,3,4,5,6,7]] [] (Ae (l:=[(9,_,_,_)]) (m:=[(16,104,[.str (nth ao ((w64 (b.Op-6)).toNat)),.sl false (L Bl ([([44]:List UInt8),([41]:List UInt8)]:List (List UInt8))),.ref 2 0,.ref 3 0],[.box [.bs false 1 (a.l.length) 0 (a.l.length)] false,.buf 1 (L Bl a.l) false,.box [.ref 0 0] false,.box (xE b) false],_,_)]) ⟨CQ  ap,trivial⟩ ⟨(wc (F5 (fun h=>hrec h) ar) [0,2,1,3]),trivial⟩) (Ew2 (qR aq) au) ?_;exact Bn <|Ro [0,1]
theorem I9(n:Nat):∀{a:AqA} {b:Aqr} {r:AqA},DA n a b=some r->Con (B rs) 64 [.ref 0 0,.agg (xE b)] [.box [.bs false 1 (a.l.length) 0 (a.l.length)] false,.buf 1 (L Bl a.l) false] (fun r' O'=>r'=.tup []/\O'=[.box [.bs false 1 (r.l.length) 0 (r.l.length)] false,.buf 1 (L Bl r.l) false]):=by
 induction n with
 |zero=>intro a b r h;cases h
 |succ n ih=>intro a b r h;exact IJ ih h
theorem JA{a:AqA}{b:Aqr}{r:AqA}(h:FW a b=some r):Con (B rs) 64 [.ref 0 0,.agg (xE b)] [.box [.bs false 1 (a.l.length) 0 (a.l.length)] false,.buf 1 (L Bl a.l) false] (fun r' O'=>r'=.tup []/\O'=[.box [.bs false 1 (r.l.length) 0 (r.l.length)] false,.buf 1 (L Bl r.l) false]):=I9 _ h
open Go.Shelf
def Tryz.lays156_ren:Go.Shelf.Ren:=⟨fun|156=>28|165=>65|166=>66|169=>67|240=>108|241=>109|276=>157|277=>158|n=>n,fun|31=>76|9=>9|3=>3|4=>4|0=>0|20=>20|72=>131|76=>134|70=>128|37=>129|75=>133|127=>191|164=>244|5=>5|80=>110|n=>n,fun|n=>n⟩
theorem Tryz.lays156:Go.Proofs.Lays.n156 Tryz.prog Tryz.lays156_ren:={
 mixed:=by kernel_rfl
 f156:=Tryz.func28.trans (Arz some (by kernel_rfl))
 f165:=Tryz.func65.trans (Arz some (by kernel_rfl))
 f166:=Tryz.func66.trans (Arz some (by kernel_rfl))
 f169:=Tryz.func67.trans (Arz some (by kernel_rfl))
 f240:=Tryz.func108.trans (Arz some (by kernel_rfl))
 f241:=Tryz.func109.trans (Arz some (by kernel_rfl))
 f276:=Tryz.func157.trans (Arz some (by kernel_rfl))
 f277:=Tryz.func158.trans (Arz some (by kernel_rfl))
 t0:=Tryz.underlying0
 a0:=Tryz.isAgg0
 z0:=Tryz.sizeOf0
 v0:=Tryz.zeroValue0
 t3:=Tryz.underlying3
 a3:=Tryz.isAgg3
 z3:=Tryz.sizeOf3
 v3:=Tryz.zeroValue3
 t4:=Tryz.underlying4
 a4:=Tryz.isAgg4
 z4:=Tryz.sizeOf4
 v4:=Tryz.zeroValue4
 t9:=Tryz.underlying9
 a9:=Tryz.isAgg9
 z9:=Tryz.sizeOf9
 v9:=Tryz.zeroValue9
 t20:=Tryz.underlying20
 a20:=Tryz.isAgg20
 z20:=Tryz.sizeOf20
 v20:=Tryz.zeroValue20
 t31:=Tryz.underlying76
 a31:=Tryz.isAgg76
 z31:=Tryz.sizeOf76
 v31:=Tryz.zeroValue76
 t37:=Tryz.underlying129
 a37:=Tryz.isAgg129
 z37:=Tryz.sizeOf129
 v37:=Tryz.zeroValue129
 t70:=Tryz.underlying128
 a70:=Tryz.isAgg128
 z70:=Tryz.sizeOf128
 v70:=Tryz.zeroValue128
 t72:=Tryz.underlying131
 a72:=Tryz.isAgg131
 z72:=Tryz.sizeOf131
 v72:=Tryz.zeroValue131
 t75:=Tryz.underlying133
 a75:=Tryz.isAgg133
 z75:=Tryz.sizeOf133
 v75:=Tryz.zeroValue133
 t76:=Tryz.underlying134
 a76:=Tryz.isAgg134
 z76:=Tryz.sizeOf134
 v76:=Tryz.zeroValue134
 t127:=Tryz.underlying191
 a127:=Tryz.isAgg191
 z127:=Tryz.sizeOf191
 v127:=Tryz.zeroValue191
 t164:=Tryz.underlying244
 a164:=Tryz.isAgg244
 z164:=Tryz.sizeOf244
 v164:=Tryz.zeroValue244 }
theorem Tryz.Builder_Extra_156:Builder.Extra Tryz.prog Tryz.lays156_ren:={
 sizeBuilder:=by kernel_rfl
 liesBuilder:=by kernel_rfl
 t5:=Tryz.underlying5
 a5:=Tryz.isAgg5
 z5:=Tryz.sizeOf5
 v5:=Tryz.zeroValue5
 infoByte:=by kernel_rfl
 cellsByte:=by kernel_rfl
 sizeByte:=by kernel_rfl
 neB5:=by decide }
open Go.Shelf Go.RowKit
theorem Ac5(s y:List UInt8):∀l:List (List UInt8),l≠[]->Lib.join (l++[y]) s=Lib.join l s++s++y
 |[],h=>(h rfl).elim
 |x::r,_=>by
  rw[Aq7,Lib.join_cons,Lib.join_cons];simp[Lib.joinTail,Ars]
theorem UH(s y:List UInt8)(l:List (List UInt8))(k:Nat)(h0:0<k)(hy:l[k]?=some y):Lib.join (l.take (k+1)) s=Lib.join (l.take k) s++s++y:=by
 rw[List.take_add_one,hy];refine Ac5 s y _ fun e=>?_
 have hk:k<l.length:=(AqD.1 hy).1;have h:(l.take k).length=0:=by rw[e];rfl
 rw[ArH]at h;omega
theorem Aif(s:List UInt8)(l:List (List UInt8))(k:Nat)(hk:k<=l.length):(Lib.join (l.take k) s).length<=(Lib.join l s).length:=by
 have key:∀m j,j+m=l.length->(Lib.join (l.take j) s).length<=(Lib.join l s).length:=by
  intro m
  induction m with
  |zero=>intro j hj;rw[Arp (by omega)];exact AqT _
  |succ m ih=>
   intro j hj;refine ArZ ?_ (ih (j+1) (by omega));cases j with
   |zero=>simp[Lib.join_nil]
   |succ j=>rw[UH s l[j+1] l (j+1) (by omega) (AqH (by omega))];simp only[AqM];omega
 exact key (l.length-k) k (by omega)
theorem Ado(s:List UInt8)(l:List (List UInt8)){y:List UInt8}(hy:l[0]?=some y):Lib.join (l.take 1) s=y:=by
 cases l with
 |nil=>cases hy
 |cons x r=>cases hy;exact Lib.join_one _ _
theorem AiK(b n:Nat)(w:World)(hb:b<=w.heap.size)(hbk:w.heap[b]?=some (.cells #[.pointer none,.slice none 0 0] 131 (0,0)))(hn:n<=281474976710656) :Calls Tryz.prog 65 #[.pointer (some ⟨b,0,none⟩),.int .i64 n] w fun e w'=>e=.returned (.tuple #[])/\(Lib.BuilderAt 131 5 b b (.pointer (some ⟨b,0,none⟩)) [] w'/\Below b w w') :=
 Any.Builder_Grow_fresh { Tryz.lays156 with } Tryz.Builder_Extra_156 b b n w (AqT _) hbk hb hn
theorem T2(b:Nat)(bs:List Value)(s:ByteArray)(w:World)(h:Lib.BuilderAt 131 5 b b (.pointer (some ⟨b,0,none⟩)) bs w)(hl:bs.length+s.size<=140737488355328)(hb:b<=w.heap.size) :Calls Tryz.prog 66 #[.pointer (some ⟨b,0,none⟩),.string s] w fun e w'=>e=.returned (.tuple #[.int .i64 s.size,.nilIface])/\(Lib.BuilderAt 131 5 b b (.pointer (some ⟨b,0,none⟩)) (bs++Lib.strCells s) w'/\Below b w w') :=
 Any.Builder_WriteString { Tryz.lays156 with } Tryz.Builder_Extra_156 b b bs s w (.inr h) hl hb
theorem Ab5(b:Nat)(l:List UInt8)(w:World)(h:Lib.BuilderAt 131 5 b b (.pointer (some ⟨b,0,none⟩)) (Lib.byteCells l) w)(hb:b<=w.heap.size) :Calls Tryz.prog 67 #[.pointer (some ⟨b,0,none⟩)] w fun e w'=>e=.returned (.string ⟨l.toArray⟩)/\Below b w w' :=
 Any.Builder_String_any { Tryz.lays156 with } Tryz.Builder_Extra_156 b b l w (.inr h) hb
theorem Ahq(a:Option Addr)(c:Nat)(sep:ByteArray)(w:World):Calls Tryz.prog 28 #[.slice a 0 c,.string sep] w fun e w'=>e=.returned (.string ⟨#[]⟩)/\w'=w:=by
 go_enter Tryz.func28,Tryz.ntmps28
 go_wp2
 go_ret
 exact⟨rfl,rfl⟩
theorem Aa8(bk o c:Nat)(x sep:ByteArray)(w:World)(hc:w.cell? ⟨bk,o,none⟩=some (.string x)):Calls Tryz.prog 28 #[.slice (some ⟨bk,o,none⟩) 1 c,.string sep] w fun e w'=>e=.returned (.string x)/\w'=w:=by
 go_enter Tryz.func28,Tryz.ntmps28
 go_wp2
 go_ret
 exact⟨rfl,rfl⟩
open Go.Shelf Go.RowKit
theorem SN{p:Prop}(h:p):Hid p:=h
theorem AeV{N S T M:Nat}(hN:2<=N)(hN2:N<=140737488355328)(hM:S*(N-1)=M)(h:M+T<=140737488355328) :¬(9223372036854775807/((N:Int)-1)<=(S:Int))/\wrap64 ((S:Int)*((N:Int)-1))=(M:Int):=by
 have e1:((N:Int)-1)=((N-1:Nat):Int):=by omega
 have e2:(S:Int)*((N-1:Nat):Int)=((S*(N-1):Nat):Int):=(Atz _ _).symm;rw[e1,e2,hM];refine⟨fun hle=>?_,IntWalk.wrap64_in _ ⟨by omega,by omega⟩⟩;have e3:(9223372036854775807:Int)/((N-1:Nat):Int)=((9223372036854775807/(N-1):Nat):Int):=(Int.natCast_ediv _ _).symm;rw[e3]at hle;have h1:9223372036854775807/(N-1)<=S:=by omega
 have h2:9223372036854775807/(N-1)<S+1:=by omega
 have h3:=(Ar8 (by omega:0<N-1)).1 h2;rw[Ard,hM]at h3;omega
set_option maxHeartbeats 4000000 in
set_option maxRecDepth 100000 in
theorem AhL(bk o c:Nat)(xs:List ByteArray)(sep:ByteArray)(w:World)(hcells:∀(j:Nat) x,xs[j]?=some x->w.cell? ⟨bk,o+j,none⟩=some (.string x))(hbk:bk<w.heap.size) (h2:2<=xs.length) (hN:xs.length<=140737488355328) (hcap:xs.length<=c) (hlen:(Lib.join (xs.map (·.data.toList)) sep.data.toList).length<=140737488355328) :Calls Tryz.prog 28 #[.slice (some ⟨bk,o,none⟩) xs.length c,.string sep] w fun e w'=>e=.returned (.string ⟨(Lib.join (xs.map (·.data.toList)) sep.data.toList).toArray⟩)/\Below w.heap.size w w':=by
 have CE:=SN hcells;have LE:=SN hlen;obtain⟨M,hM⟩:∃M,sep.size*(xs.length-1)=M:=⟨_,rfl⟩
 have hsum:M+Lib.lens (xs.map (·.data.toList))<=140737488355328:=by
  cases hx:xs with
  |nil=>rw[hx]at h2;simp at h2
  |cons a t=>
   rw[hx]at hlen hM;rw[Arc]at hlen ⊢;rw[Lib.join_length,ArM,<-Lib.size_eq]at hlen;rw[AqP,Atg]at hM;omega
 obtain⟨hdv,hprod⟩:=AeV h2 hN hM hsum;have hM0:sep.size=0->M=0:=fun e=>by rw[<-hM,e,AsT]
 clear hcells hlen hM;have hne0:((xs.length:Int)==0)=false:=AsC.2 (by omega);have hne1:((xs.length:Int)==1)=false:=AsC.2 (by omega)
 go_enter Tryz.func28,Tryz.ntmps28
 go_wp2_with fail
 all_goals (
  go_loop [5,41] (fun n i=>∃k:Nat,k<=xs.length/\i=.int .i64 k/\n=.int .i64 ((M+Lib.lens ((xs.map (·.data.toList)).take k):Nat):Int)) (fun _ i=>xs.length-(intOf i).toNat)
  case atStart=>exact⟨0,Aq5 _,rfl,by first|(simp[Lib.lens];done)|(rw[hM0 (by omega)];simp[Lib.lens])⟩
  case round=>
   obtain⟨k,hk,rfl,rfl⟩:=hrel;rcases Ary k xs.length with hlt|hge
   ·have hx:xs[k]?=some xs[k]:=AqH hlt;generalize xs[k]=x at hx;have hc:=CE.out k x hx;have hs1:=Lib.lens_take_succ (xs.map (·.data.toList)) k x.data.toList (by simp[hx]);have hs2:=Lib.lens_take_le (xs.map (·.data.toList)) (k+1);rw[<-Lib.size_eq]at hs1;obtain⟨A1,hA⟩:∃A1,Lib.lens ((xs.map (·.data.toList)).take (k+1))=A1:=⟨_,rfl⟩;rw[hA]at hs1 hs2;have HA:=SN hA;clear hA;generalize Lib.lens ((xs.map (·.data.toList)).take k)=A0 at hs1
    go_wp2
    exact⟨⟨k+1,hlt,by go_num,by rw[HA.out];refine Arz _ ?_;omega⟩,by simp[intOf];omega⟩
   obtain rfl:k=xs.length:=by omega
   have hT:Lib.lens ((xs.map (·.data.toList)).take xs.length)=Lib.lens (xs.map (·.data.toList)):=by rw[Arp (by simp)]
   rw[hT];clear hT;generalize Lib.lens (xs.map (·.data.toList))=T at hsum
   go_wp2_with fail
   have hMT:((M:Int)+(T:Int))=((M+T:Nat):Int):=by omega
   rw[hMT];refine(AiK w.heap.size (M+T) _ (by simp) (heap_alloc_new w _) (by omega)).mono ?_;rintro e w1 ⟨rfl,b1,l1⟩;have l1':Below w.heap.size w w1:=((Below.refl w.heap.size w).alloc (AqT _) _).trans l1;obtain⟨x0,hx0⟩:∃x0,xs[0]?=some x0:=⟨xs[0],AqH (by omega)⟩
   have hc0:w1.cell? ⟨bk,o,none⟩=some (.string x0):=by
    rw[l1'.cell (p:=⟨bk,o,none⟩) hbk];exact CE.out 0 x0 hx0
   have B1:=SN b1;have L1:=SN l1';have z1:w.heap.size<=w1.heap.size:=l1'.size;have JL:Hid (∀k,k<=xs.length->(Lib.join ((xs.map (·.data.toList)).take k) sep.data.toList).length<=140737488355328):=SN fun k hk=>ArZ (Aif _ _ _ (by simpa using hk)) LE.out
   have J1:Lib.join ((xs.map (·.data.toList)).take 1) sep.data.toList=x0.data.toList:=Ado _ _ (by simp[hx0]);have HJ1:=SN J1;clear b1 l1 l1' hMT hx0 J1
   go_wp2_with fail
   refine(T2 w.heap.size [] x0 w1 B1.out (by have h:=JL.out 1 (by omega);rw[HJ1.out,<-Lib.size_eq]at h;simpa using h) z1).mono ?_;rintro e w2 ⟨rfl,b2,l2⟩;rw[show([]:List Value)++Lib.strCells x0=Lib.byteCells (Lib.join ((xs.map (·.data.toList)).take 1) sep.data.toList) by rw[HJ1.out];simp[Lib.strCells_eq]]at b2;have B2:=SN b2;have L2:=SN (L1.out.trans l2);clear b2 l2
   go_wp2_with fail
   go_loopw [65] (fun i wr=>∃k:Nat,k+1<=xs.length/\i=.int .i64 k/\Hid (Lib.BuilderAt 131 5 w.heap.size w.heap.size (.pointer (some ⟨w.heap.size,0,none⟩)) (Lib.byteCells (Lib.join ((xs.map (·.data.toList)).take (k+1)) sep.data.toList)) wr)/\Hid (Below w.heap.size w wr)) (fun i _=>xs.length-(intOf i).toNat)
   case atStart=>exact⟨0,by omega,rfl,B2,L2⟩
   case round=>
    obtain⟨k,hk',rfl,BK,LK⟩:=hrel;have zr:w.heap.size<=wr.heap.size:=LK.out.size;rcases Ary (k+1) xs.length with hlt|hge
    ·have hy:xs[k+1]?=some xs[k+1]:=AqH hlt;generalize xs[k+1]=y at hy
     have hcy:wr.cell? ⟨bk,o+1+k,none⟩=some (.string y):=by
      rw[LK.out.cell (p:=⟨bk,o+1+k,none⟩) hbk,show o+1+k=o+(k+1) by omega];exact CE.out (k+1) y hy
     have st:=UH sep.data.toList y.data.toList (xs.map (·.data.toList)) (k+1) (by omega) (by simp[hy])
     have nx:Lib.byteCells (Lib.join ((xs.map (·.data.toList)).take (k+1)) sep.data.toList)++Lib.strCells sep++Lib.strCells y=Lib.byteCells (Lib.join ((xs.map (·.data.toList)).take (k+1+1)) sep.data.toList):=by
      rw[st,Lib.strCells_eq,Lib.strCells_eq,<-Lib.byteCells_append,<-Lib.byteCells_append]
     have jl:=JL.out (k+1+1) (by omega);rw[st]at jl;simp only[AqM,<-Lib.size_eq]at jl;have bl:(Lib.byteCells (Lib.join ((xs.map (·.data.toList)).take (k+1)) sep.data.toList)).length=(Lib.join ((xs.map (·.data.toList)).take (k+1)) sep.data.toList).length:=Lib.byteCells_length _;generalize(Lib.join ((xs.map (·.data.toList)).take (k+1)) sep.data.toList).length=J at jl bl;have NX:=SN nx;have BL:=SN bl;clear nx st hy bl
     go_wp2_with fail
     refine(T2 w.heap.size _ sep wr BK.out (by rw[BL.out];omega) zr).mono ?_;rintro e w3 ⟨rfl,b3,l3⟩;have z3:w.heap.size<=w3.heap.size:=ArZ zr l3.size;have B3:=SN b3;have L3:=SN l3;clear b3 l3
     go_wp2_with fail
     refine(T2 w.heap.size _ y w3 B3.out (by rw[AqM,BL.out,Lib.strCells_length];omega) z3).mono ?_;rintro e w4 ⟨rfl,b4,l4⟩;rw[NX.out]at b4;have B4:=SN b4;have L4:=SN ((LK.out.trans L3.out).trans l4);clear b4 l4
     go_wp2
     exact⟨⟨k+1,by omega,by go_num,B4,L4⟩,by simp[intOf];omega⟩
    have hke:k+1=xs.length:=by omega
    have hb:=BK.out;rw[hke,Arp (by simp)]at hb
    go_wp2_with fail
    refine(Ab5 w.heap.size _ wr hb zr).mono ?_;rintro e w5 ⟨rfl,l5⟩;have L5:=SN (LK.out.trans l5);clear l5 hb
    go_wp2
    go_ret
    exact⟨rfl,L5.out⟩)
open Go.Rv Go.RowKit
theorem Uq{w:World}{a:Addr}{u:Value}(h:w.cell? a=some u):a.spot=none:=by
 unfold World.cell? at h;split at h
 ·cases hs:a.spot with
  |none=>rfl
  |some q=>simp[hs]at h
 cases h
theorem Af6{rs:Aqm}{xs:List (List UInt8)}{sep r:List UInt8}{b:Bool}(h:AeN xs sep=some r):Con (B rs) 28 [.sl b (L (fun s=>[.str s]) xs),.str sep] [] (fun r' O'=>r'=.str r/\O'=[]):=by
 unfold AeN at h;split at h
 case isFalse=>cases h
 rename_i hl;obtain⟨hl1,hl2⟩:=hl;simp only[AqG]at h;subst h;refine⟨fun F w g vs hm ha=>.inl ⟨⟨Tryz.f28,_,Tryz.func28,rfl,by decide +kernel⟩,?_⟩⟩;have hg:g=[]:=Ari.1 hm.len;subst hg;obtain⟨vs⟩:=vs
 have key:Calls Tryz.prog 28 ⟨vs⟩ w fun e w'=>e=.returned (.string ⟨(Lib.join xs sep).toArray⟩)/\Below w.heap.size w w':=by
  match vs,ha with
  | [u,v],⟨h1,h2,_⟩=>
   obtain⟨s,rfl,hs⟩:=GF h2;have es:s=⟨sep.toArray⟩:=by subst hs;rfl
   subst es;cases h1 with
   | sl _ a len cap _ _ k c hlen hcap hfull hnone hk hc hr=>
    have hln:xs.length=len:=by rw[<-hlen];simp[L]
    subst hln
    have hraw:∀(i:Nat) (l:List UInt8),xs[i]?=some l->∃a',a=some a'/\w.cell? (a'.add i)=some (.string ⟨l.toArray⟩):=by
     intro i l hi;have e1:(L (fun s=>[AV.str s]) xs)[i]?=some [.str l]:=by simp[L,hi]
     have hk1:k=1:=by simpa using(hk i _ e1).symm
     subst hk1;obtain⟨a',ea,c1,_,_⟩:=hc i _ 0 _ e1 rfl;have c2:=hr i _ 0 _ e1 rfl;obtain⟨q,eq,hq⟩:=GF c2;rw[eq,AsQ,Asb]at c1;have e2:q=⟨l.toArray⟩:=by subst hq;rfl
     exact⟨a',ea,by rw[c1,e2]⟩
    have h0:∀x,xs[0]?=some x->∃bk o,a=some ⟨bk,o,none⟩:=by
     intro x hx;obtain⟨a',ea,c1⟩:=hraw 0 x hx;rw[Go.Rv.add_zero]at c1;have sp:=Uq c1;obtain⟨bk,o,spt⟩:=a';have sp':spt=none:=sp;subst sp';exact⟨bk,o,ea⟩
    have hcell:∀bk o,a=some ⟨bk,o,none⟩->∀(i:Nat) (l:List UInt8),xs[i]?=some l->w.cell? ⟨bk,o+i,none⟩=some (.string ⟨l.toArray⟩):=by
     intro bk o ea i l hi;obtain⟨a',ea',c1⟩:=hraw i l hi;rw[ea]at ea';cases ea';rw[<-c1];unfold Addr.add;by_cases hz:i=0
     ·subst hz;rfl
     rw[AqI hz]
    clear hraw hc hr hk hlen
    match xs,h0,hcell,hl1,hl2,hcap with
    |[],_,_,_,_,_=>exact(Ahq a cap _ w).mono fun e w' ⟨e1,e2⟩=>⟨e1,e2 ▸ Below.refl _ _⟩
    |[x],h0,hcell,_,_,_=>
     obtain⟨bk,o,rfl⟩:=h0 x rfl;have hx:=hcell bk o rfl 0 x rfl;exact(Aa8 bk o cap _ _ w hx).mono fun e w' ⟨e1,e2⟩=>⟨by rw[e1,Lib.join_one],e2 ▸ Below.refl _ _⟩
    | x::y::l,h0,hcell,hl1,hl2,hcap=>
     obtain⟨bk,o,rfl⟩:=h0 x rfl;have hx:=hcell bk o rfl 0 x rfl;have em:((x::y::l).map fun l=>(⟨l.toArray⟩:ByteArray)).map (·.data.toList)=x::y::l:=by simp[Atk,Asi]
     have:=AhL bk o cap ((x::y::l).map fun l=>(⟨l.toArray⟩:ByteArray)) ⟨sep.toArray⟩ w (fun j z hz=>by
      rw[Aq8,AqE]at hz;obtain⟨l',hl',rfl⟩:=hz;exact hcell bk o rfl j l' hl') (cell?_lt hx) (by simp) (by simpa using hl2) (by simpa using hcap) (by rw[em];exact hl1)
     rw[em,ArM]at this;exact this
 refine key.mono fun e w' ⟨he,hb⟩=>?_
 have evo:Evo ((B rs).env F) 0 w [] w' []:=⟨hb.os,hb.tape,hb.output,hb.size,fun a u hc hp=>⟨by
  rw[<-hc];simp only[World.cell?,hb.block _ (cell?_lt hc)],hp⟩,fun β hβ hn=>⟨hb.block β hβ,hn⟩,fun _ hh=>absurd hh (ArF _)⟩
 exact⟨_,_,[],[],he,⟨rfl,rfl⟩,(MF hm evo).1,evo,.str _ _ _ (by simp)⟩
variable {rs:Aqm}
theorem IF{f a r}(h:CN f a=some r):Con (B rs) 27 [.ref 0 0,.agg (Ab a)] [.box [.bs false 1 (f.l.length) 0 (f.l.length)] false,.buf 1 (L Bl f.l) false] (fun r' O'=>r'=.tup []/\O'=[.box [.bs false 1 (r.l.length) 0 (r.l.length)] false,.buf 1 (L Bl r.l) false]):=by
 refine Co 2 69 [] Tryz.func27 (fun F hE=>?_) h;unfold CN;refine T0 [0,3] ?_;refine Bd fun aJ ab =>Lt fun t ac =>?_
 refine Tfe (O':=[.box [.bs false 1 (t.length) 0 (t.length)] false,.buf 1 (L Bl t) false,_]) [0,3] (Ae (l:=[]) (m:=[(10,25,[.ref 0 0,.sl false (L Bl ([([99,108,97,117,115,101]:List UInt8),a.Name]:List (List UInt8)))],[.box [.bs false 1 (f.l.length) 0 (f.l.length)] false,.buf 1 (L Bl f.l) false,.box (Ab a) false],_,_)]) trivial ⟨(wc (Ap ab) [0,1]),trivial⟩) (Ew1 ac) ?_;refine Ja (fun g=>⟨Ah 69 [(0,.ref 0 0),(3,.ref 2 0)],[.box [.bs false 1 (g.length) 0 (g.length)] false,.buf 1 (L Bl g) false,.box (Ab a) false]⟩) ?_ ?_
 ·intro aK;refine T0 [0,3,12,13,14] ?_;refine Sb ?_;refine Lo (fun(v:Int×List (List UInt8))=>(⟨Ah 69 [(0,.ref 0 0),(3,.ref 2 0),(12,.sl false (L Ag a.When)),(13,i64 (a.When.length:Int)),(14,i64 v.1)],[.box [.bs false 1 (v.2.length) 0 (v.2.length)] false,.buf 1 (L Bl v.2) false,.box (Ab a) false]⟩:St)) (ws [0,1,2]) ?_;rintro⟨u,i⟩ aL ad ae af;show BD a u i=some ad->_;unfold BD;refine T0 [0,3,12,13,14,15] ?_;refine Sq <|Cd ?_ ?_
  ·refine Sk <|Tn <|?_
   refine Ja (fun s=>⟨Ah 69 [(0,.ref 0 0),(3,.ref 2 0),(12,.sl false (L Ag a.When)),(13,i64 (a.When.length:Int)),(14,i64 u)],[.box [.bs false 1 (s.length) 0 (s.length)] false,.buf 1 (L Bl s) false,.box (Ab a) false]⟩) ?_ ?_
   ·intro aM;refine Sb <|Ck fun ag =>Lt fun c ah =>Lt fun b ai =>Lt fun d aj =>Te (O':=[_,_,_,.box [i64 c,i64 b,i64 d] false]) [0,3,4,5,12,13,14] Aa (Ew4 (qR ag) ah ai aj) ?_
    refine Ck fun z=>?_
    have aa:=z;simp only[Aq7,Aru,AqM,AqP,Ara,Ar7,Nat.reduceAdd]at aa;refine Bd fun ak al =>Ck fun am =>Bd fun aN an =>Lt fun e ao =>De (O':=[.box [.bs false 1 (e.length) 0 (e.length)] false,.buf 1 (L Bl e) false,_,_]) [[],[],[],[2],[1,2,3],[1,2,3,4],[],[],[7],[6,7,8],[6,7,8,9],[1,2,3,4,5,6,7,8,9,10],[0,1,2,3,4,5,6,7,8,9,10,11]] [0,3,5,12,13,14] (Ae (l:=[(25,_,_,_)]) (m:=[(31,25,[.ref 0 0,.sl false (L Bl ([nth ([([119,104,101,110]:List UInt8),([97,110,100]:List UInt8)]:List (List UInt8)) ((Q9 u 1).toNat),nth ak c.toNat]:List (List UInt8)))],[.box [.bs false 1 (i.length) 0 (i.length)] false,.buf 1 (L Bl i) false,.box (Ab a) false,.box [i64 c,i64 b,i64 d] false],_,_)]) ⟨CQ  al,trivial⟩ ⟨(wc (Ap an) [0,1]),trivial⟩) (Ew4 (qR z) (qR aa) (qR am) ao) ?_
    refine Sq <|T0 [0,3,5,12,13,14,36] ?_
    refine Cd ?_ ?_
    ·refine Bd fun aO ap =>Lt fun j aq =>?_
     refine Tfe (O':=[.box [.bs false 1 (j.length) 0 (j.length)] false,.buf 1 (L Bl j) false,_,_]) [0,3,5,12,13,14] (Ae (l:=[]) (m:=[(39,25,[.ref 0 0,.sl false (L Bl ([([105,115]:List UInt8)]:List (List UInt8)))],[.box [.bs false 1 (e.length) 0 (e.length)] false,.buf 1 (L Bl e) false,.box (Ab a) false,.box [i64 c,i64 b,i64 d] false],_,_)]) trivial ⟨(wc (Ap ap) [0,1]),trivial⟩) (Ew1 aq) ?_;refine Bd fun aP ar =>Lt fun w au =>Te (O':=[.box [.bs false 1 (w.length) 0 (w.length)] false,.buf 1 (L Bl w) false,_,_]) [0,3,12,13,14] (Ae (l:=[]) (m:=[(43,63,[.ref 0 0,i64 b],[.box [.bs false 1 (j.length) 0 (j.length)] false,.buf 1 (L Bl j) false,.box (Ab a) false,.box [i64 c,i64 b,i64 d] false],_,_)]) trivial ⟨(wc (CH ar) [0,1]),trivial⟩) (Ew1 au) ?_
     exact Sx <|Tx <|Bx <|Jm (ws [0,1,2])
    refine Sk <|Tn <|Bd fun aQ av =>Lt fun k aw =>?_
    refine Tfe (O':=[.box [.bs false 1 (k.length) 0 (k.length)] false,.buf 1 (L Bl k) false,_,_]) [0,3,5,12,13,14] (Ae (l:=[]) (m:=[(46,25,[.ref 0 0,.sl false (L Bl ([([105,110]:List UInt8)]:List (List UInt8)))],[.box [.bs false 1 (e.length) 0 (e.length)] false,.buf 1 (L Bl e) false,.box (Ab a) false,.box [i64 c,i64 b,i64 d] false],_,_)]) trivial ⟨(wc (Ap av) [0,1]),trivial⟩) (Ew1 aw) ?_;refine Bd fun aR ax =>Lt fun n ay =>Te (O':=[.box [.bs false 1 (n.length) 0 (n.length)] false,.buf 1 (L Bl n) false,_,_]) [0,3,5,12,13,14] (Ae (l:=[]) (m:=[(50,63,[.ref 0 0,i64 b],[.box [.bs false 1 (k.length) 0 (k.length)] false,.buf 1 (L Bl k) false,.box (Ab a) false,.box [i64 c,i64 b,i64 d] false],_,_)]) trivial ⟨(wc (CH ax) [0,1]),trivial⟩) (Ew1 ay) ?_
    refine Bd fun aS az =>Lt fun o aA =>?_
    refine Tfe (O':=[.box [.bs false 1 (o.length) 0 (o.length)] false,.buf 1 (L Bl o) false,_,_]) [0,3,5,12,13,14] (Ae (l:=[]) (m:=[(53,25,[.ref 0 0,.sl false (L Bl ([([46,46]:List UInt8)]:List (List UInt8)))],[.box [.bs false 1 (n.length) 0 (n.length)] false,.buf 1 (L Bl n) false,.box (Ab a) false,.box [i64 c,i64 b,i64 d] false],_,_)]) trivial ⟨(wc (Ap az) [0,1]),trivial⟩) (Ew1 aA) ?_;refine Bd fun aT aB =>Lt fun x aC =>Fe (O':=[.box [.bs false 1 (x.length) 0 (x.length)] false,.buf 1 (L Bl x) false,_,_]) [0,3,12,13,14] (Ae (l:=[]) (m:=[(57,63,[.ref 0 0,i64 d],[.box [.bs false 1 (o.length) 0 (o.length)] false,.buf 1 (L Bl o) false,.box (Ab a) false,.box [i64 c,i64 b,i64 d] false],_,_)]) trivial ⟨(wc (CH aB) [0,1]),trivial⟩) (Ew1 aC) ?_
    exact Bn <|Jm (ws [0,1,2])
   intro s;refine F0 [0,3,12,13,14] ?_;exact Ln (ws [0,1,2])
  refine Sx <|Tx <|Ly af ae <|Bx <|?_
  exact Jm ((ws (l':=[(0,.ref 0 0),(3,.ref 2 0)]) (O':=[.box [.bs false 1 (i.length) 0 (i.length)] false,.buf 1 (L Bl i) false,.box (Ab a) false]) [0,1,2]).trans (ws [0,1,2]))
 intro g;refine Bd fun aU aD =>Lt fun p aE =>?_
 refine Tfe (O':=[.box [.bs false 1 (p.length) 0 (p.length)] false,.buf 1 (L Bl p) false,_]) [0,3] (Ae (l:=[]) (m:=[(61,25,[.ref 0 0,.sl false (L Bl ([([112,97,121]:List UInt8)]:List (List UInt8)))],[.box [.bs false 1 (g.length) 0 (g.length)] false,.buf 1 (L Bl g) false,.box (Ab a) false],_,_)]) trivial ⟨(wc (Ap aD) [0,1]),trivial⟩) (Ew1 aE) ?_;refine Bd fun aV aF =>Lt fun q aG =>Te (O':=[.box [.bs false 1 (q.length) 0 (q.length)] false,.buf 1 (L Bl q) false,_]) [0] (Ae (l:=[]) (m:=[(65,64,[.ref 0 0,.agg (xE a.Pay)],[.box [.bs false 1 (p.length) 0 (p.length)] false,.buf 1 (L Bl p) false,.box (Ab a) false],_,_)]) trivial ⟨(wc (JA aF) [0,1]),trivial⟩) (Ew1 aG) ?_
 refine Bd fun aW aH =>Lt fun y aI =>?_
 refine Ffe (O':=[.box [.bs false 1 (y.length) 0 (y.length)] false,.buf 1 (L Bl y) false,_]) [] (Ae (l:=[]) (m:=[(68,25,[.ref 0 0,.sl false (L Bl ([([59]:List UInt8)]:List (List UInt8)))],[.box [.bs false 1 (q.length) 0 (q.length)] false,.buf 1 (L Bl q) false,.box (Ab a) false],_,_)]) trivial ⟨(wc (Ap aH) [0,1]),trivial⟩) (Ew1 aI) ?_;exact Ro [0,1]
theorem Ot{xs:List (List UInt8)}{sep:List UInt8}{r:List UInt8}(h:Kw xs sep=some r):Con (B rs) 28 [.sl false (L Bl xs),.str sep] [] (fun r' O'=>r'=.str r/\O'=[]) :=
 Af6 h
theorem JY{a r}(h:DG a=some r):Con (B rs) 12 [.agg (Aj a)] [] (fun r' O'=>r'=.tup [.str r.1,i64 r.2]/\O'=[]):=by
 refine Cw 50 [.tmp 2,.tmp 3] Tryz.func12 (fun F hE=>?_) h;unfold DG;refine T0 [1] ?_;refine Sq <|Bd fun an p =>Te [1,4] (o1 10 (H2 p)) Ev ?_
 refine T0 [1,4,12] ?_;refine Cd ?_ ?_
 ·refine T0 [2,3] ?_;exact Sr <|Tr <|Rr
 refine Sk <|Tn <|T0 [1,5] ?_
 refine Rw (Ir 1 0 1 rfl rfl) ?_;refine Bd fun q s =>Ck fun t =>Bd fun ao u =>Lt fun d w =>De (O':=[_,.box [.bs false 2 (d.length) 0 (d.length)] false,.buf 1 (L Bl d) false]) [[],[],[1],[],[],[4],[4,5],[3,4,5,6],[3,4,5,6,7],[1,2,3,4,5,6,7,8],[0,1,2,3,4,5,6,7,8,9]] [1,5] (Ae (l:=[(19,_,_,_)]) (m:=[(26,25,[.ref 1 0,.sl false (L Bl ([([116,97,114,105,102,102]:List UInt8),a.Name,([102,111,114]:List UInt8),nth q ((w64 (a.For-1)).toNat),([123]:List UInt8)]:List (List UInt8)))],[.box (Aj a) false,.box [.bs true 2 0 0 0] false,.buf 1 (L Bl ([])) false],_,_)]) ⟨CQ  s,trivial⟩ ⟨(wc (Ap u) [1,2]),trivial⟩) (Ew2 (qR t) w) ?_
 refine Ja (fun b=>⟨Ah 50 [(5,.ref 0 0)],[.box [.bs false 1 (b.length) 0 (b.length)] false,.buf 1 (L Bl b) false]⟩) ?_ ?_
 ·intro ap;refine T0 [5,28,29,30] ?_;refine Sb ?_;refine Lo (fun(v:Int×List (List UInt8))=>(⟨Ah 50 [(5,.ref 0 0),(28,.sl false (L Ab a.Clauses)),(29,i64 (a.Clauses.length:Int)),(30,i64 v.1)],[.box [.bs false 1 (v.2.length) 0 (v.2.length)] false,.buf 1 (L Bl v.2) false]⟩:St)) (ws [1,2]) ?_;rintro⟨x,c⟩ aq y z aa;show DZ a x c=some y->_;unfold DZ;refine T0 [5,28,29,30,31] ?_;refine Sq <|Cd ?_ ?_
  ·refine Sk <|Tn <|Sq <|Sb <|Ck fun ab =>Lt fun e ac =>Lt fun f ad =>Lt fun g ae =>Lt fun i af =>Lt fun j ag =>Lt fun k ah =>Te (O':=[_,_,.box (.str e::.sl false (L Ag f)::i64 g::i64 i::(C1 i64 j.l++[.sl false (L cApi_Expr k)])) false]) [5,7,28,29,30] Aa (Ev (by simp only[go_sem,qR ab,ac,ad,ae,af,ag,ah];exact Ce)) ?_
   refine Bd fun ar ai =>Lt fun n aj =>Fe (O':=[.box [.bs false 1 (n.length) 0 (n.length)] false,.buf 1 (L Bl n) false,_]) [5,28,29,30] (Ae (l:=[]) (m:=[(36,27,[.ref 0 0,.agg (.str e::.sl false (L Ag f)::i64 g::i64 i::(C1 i64 j.l++[.sl false (L cApi_Expr k)]))],[.box [.bs false 1 (c.length) 0 (c.length)] false,.buf 1 (L Bl c) false,.box (.str e::.sl false (L Ag f)::i64 g::i64 i::(C1 i64 j.l++[.sl false (L cApi_Expr k)])) false],_,_)]) trivial ⟨(wc (IF ai) [0,1]),trivial⟩) (Ew1 aj) ?_
   refine Bn <|Tn <|F0 [5,28,29,30] ?_
   exact Ln (ws [0,1])
  refine Sx <|Tx <|Ly aa z <|Bx <|?_
  exact Jm ((ws (l':=[(5,.ref 0 0)]) (O':=[.box [.bs false 1 (c.length) 0 (c.length)] false,.buf 1 (L Bl c) false]) [0,1]).trans (ws [0,1]))
 intro b;refine Bd fun au ak =>Lt fun o al =>?_
 refine Tfe (O':=[.box [.bs false 1 (o.length) 0 (o.length)] false,.buf 1 (L Bl o) false]) [5] (Ae (l:=[]) (m:=[(40,25,[.ref 0 0,.sl false (L Bl ([([125]:List UInt8)]:List (List UInt8)))],[.box [.bs false 1 (b.length) 0 (b.length)] false,.buf 1 (L Bl b) false],_,_)]) trivial ⟨(wc (Ap ak) [0,1]),trivial⟩) (Ew1 al) ?_;refine Bd fun av am =>Te [8] (o1 45 (Ot am)) Ev ?_
 refine Sq <|T0 [8,48] ?_
 refine Cd ?_ ?_
 ·refine T0 [2,3] ?_;exact Sr <|Tr <|Rr
 refine Sk <|Tn <|T0 [2,3] ?_
 exact Sr <|Rr
theorem F2{a b r}(h:Bc a b=some r):Con (B rs) 92 [.ref 1 0,.ref 3 0] [.box [.bs false 2 (a.code.length) 0 (a.code.length)] false,.box [.ref 0 0] false,.buf 3 (L Ai a.code) false,.box [i64 b] false] (fun r' O'=>r'=.tup []/\O'=[.box [.bs false 2 (r.code.length) 0 (r.code.length)] false,.box [.ref 0 0] false,.buf 3 (L Ai r.code) false,.box [i64 b] false]):=by
 refine Co 4 14 [] Tryz.func92 (fun F hE=>?_) h;unfold Bc;refine Ck fun d =>Lt fun c e =>Ge (O':=[.box [.bs false 2 (c.length) 0 (c.length)] false,_,.buf 3 (L Ai c) false,_]) [[],[0],[0,1],[0,1,2],[],[],[5],[5,6],[5,6,7],[5,6,7,8],[0,1,2,3,4,5,6,7,8,9],[0,1,2,3,4,5,6,7,8,9,10],[0,1,2,3,4,5,6,7,8,9,10,11]] [] Aa (Ew2 (qR d) e) ?_
 exact Ro [0,1,2,3]
theorem AA{a c d e r}(h:Ar a c d e=some r):Con (B rs) 55 [.ref 0 0,i64 c,i64 d,i64 e] [.box [.bs false 1 (a.code.length) 0 (a.code.length)] false,.buf 3 (L Ai a.code) false] (fun r' O'=>r'=.fn 92 [.ref 2 0,.ref 3 0]/\O'=[.box [.bs false 1 (r.2.code.length) 0 (r.2.code.length)] false,.buf 3 (L Ai r.2.code) false,.box [.ref 0 0] false,.box [i64 r.1] false]):=by
 refine Co 2 29 [.tmp 8] Tryz.func55 (fun F hE=>?_) h;unfold Ar;refine T0 [1,2,3,4] ?_;refine Lt fun f i =>Te (O':=[_,_,_,.box [i64 f] false]) [1,2,3,4,9] Aa (Ew1 i) ?_
 refine Ck fun g =>Lt fun b j =>?_
 intro h;refine TA hE mixed [[],[],[1],[1,2],[1,2,3],[],[],[],[5,6,7],[5,6,7,8],[1,2,3,4,5,6,7,8,9],[0,1,2,3,4,5,6,7,8,9,10],[0,1,2,3,4,5,6,7,8,9,10,11],[0,1,2,3,4,5,6,7,8,9,10,11,12]] (by kernel_rfl) [(4,2)] [] [(19,1)] [] [4,9,19] (by kernel_rfl) (fr':=[(4,.ref 2 0),(9,.ref 3 0),(19,.bs false 1 (a.code.length) 0 (a.code.length))]) (O':=[.box [.bs false 1 (b.length) 0 (b.length)] false,.buf 3 (L Ai b) false,.box [.ref 0 0] false,.box [i64 f] false]) ⟨rfl,trivial⟩ ⟨(by exact And.intro rfl (And.intro rfl rfl)),trivial⟩ trivial ⟨_,_,Aa,(by simp only[XOk]),?_⟩ ?_
 ·subst j;first|(simp only[go_sem,g];done)|(simp only[go_sem,g];simp only[Ast 1])
 revert h;refine T0 [8] ?_;exact Sr <|Ro [0,1,2,3]
theorem YA(B:Base)(o:Out):(B.env o).P=B.P:=rfl
theorem AjQ{w:World}{pr:Addr->Prop}{g:Gh}(t:TypeId)(x y:Int):Rep w pr g (.iface t (.agg #[.int .i64 x,.int .i64 y])) (.iface t (.agg [i64 x,i64 y])):=by
 refine .iface _ _ _ _ (.agg _ _ _ rfl (fun i z h=>?_) (fun i z h=>?_))
 ·match i,h with
  |0,h=>cases h;rfl
  |1,h=>cases h;rfl
 match i,h with
 |0,h=>cases h;exact .int _ _ _
 |1,h=>cases h;exact .int _ _ _
theorem Aeh{rs:Aqm}{a0 a1 a2 a3 a4:AV}:Aj8 (B rs) 46 (JZ 3) [.box [a0,a1,a2] false,.box [a3] false,.box [a4] false] .returning .returning [.box [a0,a1,a2] false,.box [a3] false,.box [a4] false,.box [i64 0,i64 0] false]:=by
 intro F w g vs hm ha;have hE:=(ok (rs:=rs)).env F;have hbty:((B rs).env F).bty=none:=rfl;obtain⟨vs⟩:=vs
 match vs,ha with
 | [p_,q_,s_],⟨hp,hq,hs,_⟩=>
  refine callsD_of_wpS Tryz.func46 rfl fun c₀ cs hu=>?_
  refine wpS_seq (wpS_region ?_);show wpOpsS (B rs).P _ _ [0,1,2,3,4,5,6,7] _ _ _;refine Vc _ ⟨#[p_,q_,s_,undef,undef,undef,.nilIface,undef,undef,undef,undef,undef,undef,undef,undef,undef],[]⟩ rfl rfl rfl hu rfl ?_
  have hr:Rel ((B rs).env F) w g ⟨Ah 16 [(6,.val .nilIface),(0,.ref 0 0),(1,.ref 1 0),(2,.ref 2 0)],[.box [a0,a1,a2] false,.box [a3] false,.box [a4] false]⟩ ⟨#[p_,q_,s_,undef,undef,undef,.nilIface,undef,undef,undef,undef,undef,undef,undef,undef,undef],[]⟩:=by
   refine⟨rfl,JG ?_,hm,.plain rfl⟩;intro p h;simp only[Aq9,Asf,Att]at h;rcases h with rfl|rfl|rfl|rfl
   ·exact .val _ _ rfl
   ·exact hp
   ·exact hq
   exact hs
  refine DI (P:=(B rs).P) hE (YA _ _) _ (by rfl) (by rfl) hr (x:=.tup [.agg [i64 0,i64 0],.bool false]) (O':=[.box [a0,a1,a2] false,.box [a3] false,.box [a4] false]) (by simp only[go_sem,Me,AgW,Xb]) fun a1_ w1 g1 r1 e1 l1=>?_
  refine DI (P:=(B rs).P) hE (YA _ _) _ (by rfl) (by rfl) r1 (x:=.tup [.agg [i64 0,i64 0],.bool false]) (O':=[.box [a0,a1,a2] false,.box [a3] false,.box [a4] false]) (by simp only[go_sem]) fun a2_ w2 g2 r2 e2 l2=>?_
  refine DI (P:=(B rs).P) hE (YA _ _) _ (by rfl) (by rfl) r2 (x:=.agg [i64 0,i64 0]) (O':=[.box [a0,a1,a2] false,.box [a3] false,.box [a4] false]) (by simp only[go_sem]) fun a3_ w3 g3 r3 e3 l3=>?_
  refine DI (P:=(B rs).P) hE (YA _ _) _ (by rfl) (by rfl) r3 (x:=.bool false) (O':=[.box [a0,a1,a2] false,.box [a3] false,.box [a4] false]) (by simp only[go_sem]) fun a4_ w4 g4 r4 e4 l4=>?_
  refine DI (P:=(B rs).P) hE (YA _ _) _ (by rfl) (by rfl) r4 (x:=.ref 3 0) (O':=[.box [a0,a1,a2] false,.box [a3] false,.box [a4] false,.box [i64 0,i64 0] false]) (by simp only[go_sem,hbty,reduceCtorEq,Arx]) fun a5_ w5 g5 r5 e5 l5=>?_
  refine DI (P:=(B rs).P) hE (YA _ _) _ (by rfl) (by rfl) r5 (x:=.junk) (O':=[.box [a0,a1,a2] false,.box [a3] false,.box [a4] false,.box [i64 0,i64 0] false]) (by simp only[go_sem]) fun a6_ w6 g6 r6 e6 l6=>?_
  refine DI (P:=(B rs).P) hE (YA _ _) _ (by rfl) (by rfl) r6 (x:=.bool false) (O':=[.box [a0,a1,a2] false,.box [a3] false,.box [a4] false,.box [i64 0,i64 0] false]) (by simp only[go_sem]) fun a7_ w7 g7 r7 e7 l7=>?_
  refine OE ?_;refine Le (n:=3) (fr':=Ah 16 []) rfl (((((((e1.of_gle l1).trans (e2.of_gle l2)).trans (e3.of_gle l3)).trans (e4.of_gle l4)).trans (e5.of_gle l5)).trans (e6.of_gle l6)).trans (e7.of_gle l7)) r7 ?_;refine EX hE [10] (fr':=[(10,.bool false)]) (O':=[.box [a0,a1,a2] false,.box [a3] false,.box [a4] false,.box [i64 0,i64 0] false]) ⟨_,Aa,by simp only[go_sem]⟩ ?_;exact Gm (b:=false) rfl (by decide) (fun hb=>by cases hb) (fun _=>SX Tu)
theorem JS{rs:Aqm}{a0 a1 a2 a3 a4:AV}{x_ y_:Int}:Aj8 (B rs) 46 (JZ 3) [.box [a0,a1,a2] false,.box [a3] false,.box [a4] false] (.panicking (Oi (.iface 104 (.agg #[.int .i64 x_,.int .i64 y_])))) (.panicking [{ v:=(.iface 104 (.agg #[.int .i64 x_,.int .i64 y_])),recovered:=true }]) [.box [.str [],i64 0,.sl true []] false,.box [i64 x_] false,.box [i64 y_] false,.box [i64 x_,i64 y_] false]:=by
 intro F w g vs hm ha;have hE:=(ok (rs:=rs)).env F;have hbty:((B rs).env F).bty=none:=rfl;obtain⟨vs⟩:=vs
 match vs,ha with
 | [p_,q_,s_],⟨hp,hq,hs,_⟩=>
  refine callsD_of_wpS Tryz.func46 rfl fun c₀ cs hu=>?_
  refine wpS_seq (wpS_region ?_);show wpOpsS (B rs).P _ _ [0,1,2,3,4,5,6,7] _ _ _;refine Qe _ (.iface 104 (.agg #[.int .i64 x_,.int .i64 y_])) [] ⟨#[p_,q_,s_,undef,undef,undef,(.iface 104 (.agg #[.int .i64 x_,.int .i64 y_])),undef,undef,undef,undef,undef,undef,undef,undef,undef],[]⟩ rfl rfl rfl hu rfl ?_
  have hr:Rel ((B rs).env F) w g ⟨Ah 16 [(6,.iface 104 (.agg [i64 x_,i64 y_])),(0,.ref 0 0),(1,.ref 1 0),(2,.ref 2 0)],[.box [a0,a1,a2] false,.box [a3] false,.box [a4] false]⟩ ⟨#[p_,q_,s_,undef,undef,undef,(.iface 104 (.agg #[.int .i64 x_,.int .i64 y_])),undef,undef,undef,undef,undef,undef,undef,undef,undef],[]⟩:=by
   refine⟨rfl,JG ?_,hm,.plain rfl⟩;intro p h;simp only[Aq9,Asf,Att]at h;rcases h with rfl|rfl|rfl|rfl
   ·exact AjQ _ _ _
   ·exact hp
   ·exact hq
   exact hs
  refine DI (P:=(B rs).P) hE (YA _ _) _ (by rfl) (by rfl) hr (x:=.tup [.agg [i64 x_,i64 y_],.bool true]) (O':=[.box [a0,a1,a2] false,.box [a3] false,.box [a4] false]) (by simp only[go_sem,Me,AgW,Xb]) fun a1_ w1 g1 r1 e1 l1=>?_
  refine DI (P:=(B rs).P) hE (YA _ _) _ (by rfl) (by rfl) r1 (x:=.tup [.agg [i64 x_,i64 y_],.bool true]) (O':=[.box [a0,a1,a2] false,.box [a3] false,.box [a4] false]) (by simp only[go_sem]) fun a2_ w2 g2 r2 e2 l2=>?_
  refine DI (P:=(B rs).P) hE (YA _ _) _ (by rfl) (by rfl) r2 (x:=.agg [i64 x_,i64 y_]) (O':=[.box [a0,a1,a2] false,.box [a3] false,.box [a4] false]) (by simp only[go_sem]) fun a3_ w3 g3 r3 e3 l3=>?_
  refine DI (P:=(B rs).P) hE (YA _ _) _ (by rfl) (by rfl) r3 (x:=.bool true) (O':=[.box [a0,a1,a2] false,.box [a3] false,.box [a4] false]) (by simp only[go_sem]) fun a4_ w4 g4 r4 e4 l4=>?_
  refine DI (P:=(B rs).P) hE (YA _ _) _ (by rfl) (by rfl) r4 (x:=.ref 3 0) (O':=[.box [a0,a1,a2] false,.box [a3] false,.box [a4] false,.box [i64 0,i64 0] false]) (by simp only[go_sem,hbty,reduceCtorEq,Arx]) fun a5_ w5 g5 r5 e5 l5=>?_
  refine DI (P:=(B rs).P) hE (YA _ _) _ (by rfl) (by rfl) r5 (x:=.junk) (O':=[.box [a0,a1,a2] false,.box [a3] false,.box [a4] false,.box [i64 x_,i64 y_] false]) (by simp only[go_sem]) fun a6_ w6 g6 r6 e6 l6=>?_
  refine DI (P:=(B rs).P) hE (YA _ _) _ (by rfl) (by rfl) r6 (x:=.bool true) (O':=[.box [a0,a1,a2] false,.box [a3] false,.box [a4] false,.box [i64 x_,i64 y_] false]) (by simp only[go_sem]) fun a7_ w7 g7 r7 e7 l7=>?_
  refine OE ?_;refine Le (n:=3) (fr':=Ah 16 []) rfl (((((((e1.of_gle l1).trans (e2.of_gle l2)).trans (e3.of_gle l3)).trans (e4.of_gle l4)).trans (e5.of_gle l5)).trans (e6.of_gle l6)).trans (e7.of_gle l7)) r7 ?_;refine EX hE [0,1,2,3,10] (fr':=[(0,.ref 0 0),(1,.ref 1 0),(2,.ref 2 0),(3,.ref 3 0),(10,.bool true)]) (O':=[.box [a0,a1,a2] false,.box [a3] false,.box [a4] false,.box [i64 x_,i64 y_] false]) ⟨_,Aa,by simp only[go_sem]⟩ ?_;refine Gm (b:=true) rfl (by decide) (fun _=>?_) (fun hb=>by cases hb);refine La hE mixed [[],[],[1],[],[3],[0],[0,1,2,5],[0,1,2,3,4,5,6]] (by kernel_rfl) [(0,0),(1,1),(2,2),(3,3),(12,3),(14,3)] [] [0,1,2,3,12,14] (by kernel_rfl) X0 (fr':=[(0,.ref 0 0),(1,.ref 1 0),(2,.ref 2 0),(3,.ref 3 0),(12,.ref 3 0),(14,.ref 3 1)]) (O':=[.box [.str [],i64 0,.sl true []] false,.box [i64 x_] false,.box [i64 y_] false,.box [i64 x_,i64 y_] false]) ⟨rfl,rfl,rfl,rfl,rfl,rfl,trivial⟩ ⟨_,_,Aa,(by simp only[XOk]),by simp only[go_sem]⟩ Tu
variable {rs:Aqm}
theorem G7{c:Aqu}{r:(Arr Int 4×Aqu)⊕(Int×Int×Aqu)}(h:C3 c=some r):PCon (B rs) 168 [.ref 0 0] [pS c] (Kf r):=by
 refine BH (N:=25) (rs:=[.cell 2 42]) 1 rfl ok Tryz.func168 rfl (by decide +kernel) rfl rfl (AqV rfl) (fun F=>?_);have hE:=(ok (rs:=rs)).env F;unfold C3 at h;show Run ((B rs).env F) 1 _ ⟨Ah 25 [(0,.ref 0 0)],[pS c]⟩ _;refine BN ?_;revert h;refine T0 [0,2] ?_;refine Ja (fun⟨e,f,d⟩=>⟨Ah 25 [(0,.ref 0 0),(2,.ref 1 0)],[.box [.sl false (L An e),i64 f] false,.box (C1 i64 d.l) false]⟩) ?_ ?_
 ·intro ab;refine Bd fun ac n =>Te [0,2,3,4] (Ae (l:=[]) (m:=[(7,86,[.ref 0 0,.str ([109,111,110,101,121,32,109,105,110,117,116,101,32,107,109,32,107,103]:List UInt8)],[pS c,.box (C1 i64 (Arr.rep 4 0).l) false],_,_)]) trivial ⟨(wc (Ee n) [0]),trivial⟩) Ev ?_
  refine T0 [0,2,3,10] ?_;refine Cd ?_ ?_
  ·refine Ck fun o =>Ck fun p =>Lt fun q s =>Fe (O':=[_,.box (C1 i64 q.l) false]) [0,2] Aa (Ew3 (qR o) (qR p) s) ?_
   exact Jm (ws [0,1])
  exact Sk <|Jm (ws [0,1])
 rintro⟨e,f,d⟩;refine Jo (fun⟨g,i,j⟩=>⟨Ah 25 [(2,.ref 1 0)],[.box [.sl false (L An g),i64 i] false,.box (C1 i64 j.l) false]⟩) ?_ ?_
 ·intro ad t;refine Bd fun u v =>Te [0,2,17] (Ae (l:=[]) (m:=[(17,51,[.ref 0 0,.str ([112,101,114]:List UInt8)],[.box [.sl false (L An e),i64 f] false,.box (C1 i64 d.l) false],_,_)]) trivial ⟨(wc (A7 v) [0]),trivial⟩) Ev ?_
  refine Cd ?_ ?_
  ·intro h;replace h:=Am h;obtain⟨w,k,h⟩:=h;rcases w with x|ae
   rotate_left
   ·dsimp only at h;refine Fs 1 19 [.ref 0 0,.str ([109,111,110,101,121,32,109,105,110,117,116,101,32,107,109,32,107,103]:List UInt8)] (Pw (Bi k) [0]) (fun _=>?_);refine GP ?_;replace h:=Am h;obtain⟨af,h,y⟩:=h;obtain rfl:=AqF y;obtain rfl:=AqF t;obtain rfl:=AqF h;exact wpR [0]
   dsimp only at h;replace h:=JH h;obtain⟨a,h⟩:=h;replace h:=JH h;obtain⟨b,h⟩:=h;replace h:=KJ h;obtain⟨z,aa,h⟩:=h;refine C8 hE Gl [2] (fr':=[(2,.ref 1 0)]) (O':=[pS x.2,.box (C1 i64 z.l) false]) ⟨_,(Ae (l:=[]) (m:=[(19,49,[.ref 0 0,.str ([109,111,110,101,121,32,109,105,110,117,116,101,32,107,109,32,107,103]:List UInt8)],[pS u.2,.box (C1 i64 d.l) false],_,_)]) trivial ⟨(wc (PCon.to (Bi k) rfl) [0]),trivial⟩),?_⟩ ?_
   ·subst aa;first|(simp only[go_sem,a,a.2,Afd a.2,b,b.2,Afd b.2];done)|(simp only[go_sem,a,a.2,Afd a.2,b,b.2,Afd b.2];simp only[Ast 1])
   revert h;exact Jn (ws [0,1])
  exact Sk <|Jn (ws [0,1])
 rintro⟨g,i,j⟩;refine T0 [2] ?_;refine Sr ?_;intro h;obtain rfl:=AqF h;exact wpF
theorem G8{a:Aqu}{c:Int}{r:(Aqp×Aqu)⊕(Int×Int×Aqu)}(h:BS a c=some r):PCon (B rs) 89 [.ref 0 0,i64 c] [pS a] (Kg r):=by
 refine BH (N:=37) (rs:=[.cell 4 69]) 1 rfl ok Tryz.func89 rfl (by decide +kernel) rfl rfl (AqV rfl) (fun F=>?_);have hE:=(ok (rs:=rs)).env F;unfold BS at h;show Run ((B rs).env F) 1 _ ⟨Ah 37 [(0,.ref 0 0),(1,i64 c)],[pS a]⟩ _;refine BN ?_;revert h;refine T0 [0,1,4] ?_;refine Bd fun k n =>Te [0,1,4,5] (Ae (l:=[]) (m:=[(8,50,[.ref 0 0],[pS a,.box [i64 0,i64 0,i64 0] false],_,_)]) trivial ⟨(wc (BX n) [0]),trivial⟩) Ev ?_
 intro h;replace h:=Am h;obtain⟨o,d,h⟩:=h;rcases o with b|x
 rotate_left
 ·dsimp only at h;refine Ts 1 10 [.ref 0 0,.str ([116,121,112,101,32,111,119,110,101,114,32,114,97,105,108,119,97,121,32,115,104,105,112,112,101,114,32,99,108,97,115,115,32,119,101,105,103,104,116,32,107,109,32,109,105,110,117,116,101,115,32,119,111,114,107,105,110,103,32,99,111,100,101,32,119,111,114,116,104,32,99,111,115,116,32,109,111,110,116,104,32,98,101,103,105,110,32,112,97,114,116,115,32,112,97,114,116]:List UInt8)] (Pw (Bi d) [0]) (fun _=>?_);obtain rfl:=AqF h;exact wpR [0]
 dsimp only at h;refine Td [0,1,4,5,6] 10 [.ref 0 0,.str ([116,121,112,101,32,111,119,110,101,114,32,114,97,105,108,119,97,121,32,115,104,105,112,112,101,114,32,99,108,97,115,115,32,119,101,105,103,104,116,32,107,109,32,109,105,110,117,116,101,115,32,119,111,114,107,105,110,103,32,99,111,100,101,32,119,111,114,116,104,32,99,111,115,116,32,109,111,110,116,104,32,98,101,103,105,110,32,112,97,114,116,115,32,112,97,114,116]:List UInt8)] (wcp (Bi d) [0]) ?_;revert h;refine Sq <|T0 [0,4,5,6,13] ?_
 refine Cd ?_ ?_
 ·intro h;refine E8 hE [] 3 _ (v:=.iface 104 (.agg #[.int .i64 k.1,.int .i64 2])) (σ2:=[pS b.2,.box [i64 0,i64 0,i64 0] false,.box [i64 b.1,i64 0,i64 0] false]) (vals:=[]) rfl rfl ⟨_,[],Aa,trivial,?_⟩ (fun y z aa=>?_)
  ·simp only[go_sem]
  refine Dx ?_;obtain rfl:=AqF h;exact wpR [0]
 refine Sk <|Tn <|Sq <|Bd fun ab p =>Te [0,4,6,18] (Ae (l:=[]) (m:=[(18,51,[.ref 0 0,.str ([105,115]:List UInt8)],[pS b.2,.box [i64 0,i64 0,i64 0] false,.box [i64 b.1,i64 0,i64 0] false],_,_)]) trivial ⟨(wc (A7 p) [0]),trivial⟩) Ev ?_
 refine Cd ?_ ?_
 ·intro h;replace h:=Am h;obtain⟨q,e,h⟩:=h;rcases q with ac|ad
  rotate_left
  ·dsimp only at h;refine Ts 1 20 [.ref 0 0] (Pw (AU e) [0]) (fun _=>?_);refine Dx ?_;obtain rfl:=AqF h;exact wpR [0]
  dsimp only at h;refine Td [4,6] 20 [.ref 0 0] (wcp (AU e) [0]) ?_;revert h;refine T0 [4,6] ?_;refine T0 [4] ?_;refine Sr <|Tr <|?_
  intro h;obtain rfl:=AqF h;exact wpF
 refine Sk <|Tn <|?_
 intro h;replace h:=Am h;obtain⟨s,f,h⟩:=h;rcases s with ae|af
 rotate_left
 ·dsimp only at h;refine Ts 1 27 [.ref 0 0,.str ([105,110]:List UInt8)] (Pw (Al f) [0]) (fun _=>?_);obtain rfl:=AqF h;exact wpR [0]
 dsimp only at h;refine Td [0,4,6] 27 [.ref 0 0,.str ([105,110]:List UInt8)] (wcp (Al f) [0]) ?_;revert h;intro h;replace h:=Am h;obtain⟨t,g,h⟩:=h;rcases t with ag|ah
 rotate_left
 ·dsimp only at h;refine Ts 1 29 [.ref 0 0] (Pw (AU g) [0]) (fun _=>?_);obtain rfl:=AqF h;exact wpR [0]
 dsimp only at h;refine Td [0,4,6] 29 [.ref 0 0] (wcp (AU g) [0]) ?_;revert h;intro h;replace h:=Am h;obtain⟨u,i,h⟩:=h;rcases u with ai|aj
 rotate_left
 ·dsimp only at h;refine Ts 1 32 [.ref 0 0,.str ([46,46]:List UInt8)] (Pw (Al i) [0]) (fun _=>?_);obtain rfl:=AqF h;exact wpR [0]
 dsimp only at h;refine Td [0,4,6] 32 [.ref 0 0,.str ([46,46]:List UInt8)] (wcp (Al i) [0]) ?_;revert h;intro h;replace h:=Am h;obtain⟨w,j,h⟩:=h;rcases w with ak|al
 rotate_left
 ·dsimp only at h;refine Ts 1 34 [.ref 0 0] (Pw (AU j) [0]) (fun _=>?_);obtain rfl:=AqF h;exact wpR [0]
 dsimp only at h;refine Td [4,6] 34 [.ref 0 0] (wcp (AU j) [0]) ?_;revert h;refine T0 [4] ?_;refine Sr ?_;intro h;obtain rfl:=AqF h;exact wpF
variable {rs:Aqm}
theorem Ft{a r}(h:Av a=some r):Con (B rs) 140 [.ref 1 0] [pS a,.box [.ref 0 0] false] (fun r' O'=>r'=i64 r.1/\O'=[pS r.2,.box [.ref 0 0] false]):=by
 refine Co 2 4 [.tmp 1] Tryz.func140 (fun F hE=>?_) h;unfold Av;refine T0 [0] ?_;refine Sq <|Bd fun c b =>Te [3] (Ae (l:=[]) (m:=[(3,51,[.ref 0 0,.str ([42]:List UInt8)],[pS a,.box [.ref 0 0] false],_,_)]) trivial ⟨(wc (A7 b) [0]),trivial⟩) Ev ?_
 refine Cd ?_ ?_
 ·refine T0 [1] ?_;exact Sr <|Tr <|Ro [0,1]
 refine Sk <|Tn <|T0 [1] ?_
 exact Sr <|Ro [0,1]
theorem Gc{a r}(h:A4 a=some r):Con (B rs) 141 [.ref 1 0] [pS a,.box [.ref 0 0] false] (fun r' O'=>r'=i64 r.1/\O'=[pS r.2,.box [.ref 0 0] false]):=by
 refine Co 2 8 [.tmp 1] Tryz.func141 (fun F hE=>?_) h;unfold A4;refine T0 [0] ?_;refine Sq <|Sb <|Bd fun b c =>Te [0,2] (Ae (l:=[]) (m:=[(4,51,[.ref 0 0,.str ([43]:List UInt8)],[pS a,.box [.ref 0 0] false],_,_)]) trivial ⟨(wc (A7 c) [0]),trivial⟩) Ev ?_
 refine Cd ?_ ?_
 ·refine T0 [1] ?_;exact Sr <|Br <|Tr <|Ro [0,1]
 refine Bd fun e d =>Te [5] (Ae (l:=[]) (m:=[(7,51,[.ref 0 0,.str ([45]:List UInt8)],[pS b.2,.box [.ref 0 0] false],_,_)]) trivial ⟨(wc (A7 d) [0]),trivial⟩) Ev ?_
 refine Cd ?_ ?_
 ·refine T0 [1] ?_;exact Sr <|Br <|Tr <|Ro [0,1]
 refine Sk <|Bn <|Tn <|T0 [1] ?_
 exact Sr <|Ro [0,1]
theorem CB{j:Aqu->Option ((Aqr×Aqu)⊕(Int×Int×Aqu))}(h90:∀{q0_:Aqu} {r:(Aqr×Aqu)⊕(Int×Int×Aqu)},j q0_=some r->PCon (B rs) 90 [.ref 0 0] [pS q0_] (AY r)){k:Aqu}{b:Int}{a:List (List UInt8)}{r:(Aqr×Aqu×List (List UInt8))⊕(Int×Int×Aqu×List (List UInt8))}(h:Bj j k b a=some r):PCon (B rs) 169 [.ref 0 0,i64 b,.bs false 1 (a.length) 0 (a.length)] [pS k,.buf 1 (L Bl a) false] (Ih r):=by
 refine BH (N:=32) (rs:=[.cell 6 45]) 2 rfl ok Tryz.func169 rfl (by decide +kernel) rfl rfl (AqV rfl) (fun F=>?_);have hE:=(ok (rs:=rs)).env F;unfold Bj at h;show Run ((B rs).env F) 2 _ ⟨Ah 32 [(0,.ref 0 0),(1,i64 b),(2,.bs false 1 (a.length) 0 (a.length))],[pS k,.buf 1 (L Bl a) false]⟩ _;refine BN ?_;revert h;refine T0 [0,1,2,6] ?_;intro h;replace h:=Am h;obtain⟨z,u,h⟩:=h;rcases z with aa|an
 rotate_left
 ·dsimp only at h;refine Ts 1 11 [.ref 0 0,.str ([40]:List UInt8)] (Pw (Al u) [0]) (fun _=>?_);obtain rfl:=AqF h;exact wpR [0,1]
 dsimp only at h;refine Td [0,1,2,6] 11 [.ref 0 0,.str ([40]:List UInt8)] (wcp (Al u) [0]) ?_;revert h;refine T0 [0,2,6,7] ?_;refine Jo (fun⟨n,o,d⟩=>⟨Ah 32 [(6,.ref 2 0),(7,.ref 3 0)],[.box [.sl false (L An n),i64 o] false,.buf 1 (L Bl a) false,.box zE false,.box (i64 b::i64 0::(C1 i64 (Arr.rep 4 0).l++[.bs false 4 (d.length) 0 (d.length)])) false,.buf 7 (L cApi_Expr d) false]⟩) ?_ ?_
 ·intro ao v;refine T0 [0,6,7,14,15,16] ?_;refine Sb ?_;refine Lo (fun⟨g,e,f,c⟩=>⟨Ah 32 [(0,.ref 0 0),(6,.ref 2 0),(7,.ref 3 0),(14,.bs false 1 (a.length) 0 (a.length)),(15,i64 (a.length:Int)),(16,i64 g)],[.box [.sl false (L An e),i64 f] false,.buf 1 (L Bl a) false,.box zE false,.box (i64 b::i64 0::(C1 i64 (Arr.rep 4 0).l++[.bs false 4 (c.length) 0 (c.length)])) false,.buf 7 (L cApi_Expr c) false]⟩) ((Na 3 6 7 (O':=[pS aa,.buf 1 (L Bl a) false,.box zE false,.box (i64 b::i64 0::(C1 i64 (Arr.rep 4 0).l++[.bs true 4 0 0 0])) false,.buf 7 (L cApi_Expr ([])) false]) rfl gs gs).trans (ws [0,1,2,3,4])) ?_;rintro⟨g,e,f,c⟩ ap ab p q;show Ca j a g e f c=some ab->_;unfold Ca;refine T0 [0,6,7,14,15,16,17] ?_;refine Sq <|Cd ?_ ?_
  ·refine Sk <|Tn <|Sq <|Sb <|Ck fun ac =>Lt fun i ad =>Te (fr':=[(0,_),(6,_),(7,_),(9,.str i),(14,_),(15,_),(16,_)]) [0,6,7,9,14,15,16] Aa (Ew2 (qR ac) ad) ?_
   intro h;replace h:=Am h;obtain⟨ae,w,h⟩:=h;rcases ae with af|aq
   rotate_left
   ·dsimp only at h;refine Ds [[],[0],[],[2],[2,3],[0,1,2,3,4],[0,1,2,3,4,5],[0,1,2,3,4,5,6]] 3 23 [.ref 0 0] (Pw (h90 w) [0]) (fun _=>?_);refine DU ?_;refine Dx ?_;refine TC ?_;replace h:=Am h;obtain⟨ar,h,ag⟩:=h;obtain rfl:=AqF ag;have ah:=q _ rfl;subst ah;obtain rfl:=AqF p;refine DU ?_;refine GP ?_;replace h:=Am h;obtain⟨au,h,ai⟩:=h;obtain rfl:=AqF ai;obtain rfl:=AqF v;obtain rfl:=AqF h;exact wpR [0,1]
   dsimp only at h;replace h:=JH h;obtain⟨s,h⟩:=h;replace h:=KJ h;obtain⟨t,x,h⟩:=h;refine AcJ hE mixed [[],[0],[],[2],[2,3],[0,1,2,3,4],[0,1,2,3,4,5],[0,1,2,3,4,5,6]] (by kernel_rfl) 3 [0,1] [0,6,7,9,14,15,16,20] (by kernel_rfl) (fr':=[(0,.ref 0 0),(6,.ref 2 0),(7,.ref 3 0),(9,.str i),(14,.bs false 1 (a.length) 0 (a.length)),(15,i64 (a.length:Int)),(16,i64 g),(20,.ref 3 6)]) (O':=[pS af.2,.buf 1 (L Bl a) false,.box zE false,.box (i64 b::i64 0::(C1 i64 (Arr.rep 4 0).l++[.bs false 4 (t.length) 0 (t.length)])) false,.buf 7 (L cApi_Expr t) false]) ⟨_,_,_,_,_,_,_,rfl,?_,(Ae (l:=[]) (m:=[(23,90,[.ref 0 0],[.box [.sl false (L An e),i64 f] false,.buf 1 (L Bl a) false,.box zE false,.box (i64 b::i64 0::(C1 i64 (Arr.rep 4 0).l++[.bs false 4 (c.length) 0 (c.length)])) false,.buf 7 (L cApi_Expr c) false],_,_)]) trivial ⟨(wc (PCon.to (h90 w) rfl) [0]),trivial⟩),?_⟩ ?_
   ·subst x;simp only[go_sem,s]
   ·subst x;first|(simp only[go_sem,s];done)|(simp only[go_sem,s];simp only[Ast 1])
   revert h;intro h;replace h:=Am h;obtain⟨aj,y,h⟩:=h;rcases aj with av|aw
   rotate_left
   ·dsimp only at h;refine Fs 2 29 [.ref 0 0,.str i] (Pw (Al y) [0]) (fun _=>?_);refine DU ?_;refine Dx ?_;refine TC ?_;replace h:=Am h;obtain⟨ax,h,ak⟩:=h;obtain rfl:=AqF ak;have al:=q _ rfl;subst al;obtain rfl:=AqF p;refine DU ?_;refine GP ?_;replace h:=Am h;obtain⟨ay,h,am⟩:=h;obtain rfl:=AqF am;obtain rfl:=AqF v;obtain rfl:=AqF h;exact wpR [0,1]
   dsimp only at h;refine Fdd [0,6,7,14,15,16] 29 [.ref 0 0,.str i] (wcp (Al y) [0]) ?_;revert h;refine Bn <|Tn <|F0 [0,6,7,14,15,16] ?_
   exact Ln (ws [0,1,2,3,4])
  refine Sx <|Tx <|Lx q p <|Bx <|?_
  exact Jn ((ws (l':=[(6,.ref 2 0),(7,.ref 3 0)]) (O':=[.box [.sl false (L An e),i64 f] false,.buf 1 (L Bl a) false,.box zE false,.box (i64 b::i64 0::(C1 i64 (Arr.rep 4 0).l++[.bs false 4 (c.length) 0 (c.length)])) false,.buf 7 (L cApi_Expr c) false]) [0,1,2,3,4]).trans (ws [0,1,2,3,4]))
 rintro⟨n,o,d⟩;refine T0 [6] ?_;refine Sr ?_;intro h;obtain rfl:=AqF h;refine Fp ((FK 2 6 (.bs false 4 (d.length) 0 (d.length)) (O':=[.box [.sl false (L An n),i64 o] false,.buf 1 (L Bl a) false,.box (i64 b::i64 0::(C1 i64 (Arr.rep 4 0).l++[.sl false (L cApi_Expr d)])) false,.box (i64 b::i64 0::(C1 i64 (Arr.rep 4 0).l++[.bs false 4 (d.length) 0 (d.length)])) false,.buf 7 (L cApi_Expr d) true]) rfl rfl gs rfl gs gs gs).trans (Weak.refl _ _)) ?_;refine XU rfl (Tf (.inr rfl) [0,1] (by decide) rfl ?_ ?_)
 ·simp only[go_sem]
 simp only[go_sem]
variable {rs:Aqm}
theorem CR{e:Aqu->Option ((Aqr×Aqu)⊕(Int×Int×Aqu))}(h90:∀{q0_:Aqu} {r:(Aqr×Aqu)⊕(Int×Int×Aqu)},e q0_=some r->PCon (B rs) 90 [.ref 0 0] [pS q0_] (AY r)){b:Aqu}{r:(Aqr×Aqu)⊕(Int×Int×Aqu)}(h:Au e b=some r):PCon (B rs) 139 [.ref 0 0] [pS b] (Jv r):=by
 refine BH (N:=47) (rs:=[.cell 2 45]) 1 rfl ok Tryz.func139 rfl (by decide +kernel) rfl rfl (AqV rfl) (fun F=>?_);have hE:=(ok (rs:=rs)).env F;unfold Au at h;show Run ((B rs).env F) 1 _ ⟨Ah 47 [(0,.ref 0 0)],[pS b]⟩ _;refine BN ?_;revert h;refine T0 [0,2] ?_;refine Sq <|Bd fun a p =>Te [0,2,4] (Ae (l:=[]) (m:=[(11,85,[.ref 0 0,i64 2],[pS b,.box zE false],_,_)]) trivial ⟨(wc (D3 p) [0]),trivial⟩) Ev ?_
 refine T0 [0,2,14] ?_;refine Cd ?_ ?_
 ·intro h;replace h:=Am h;obtain⟨q,f,h⟩:=h;rcases q with ac|ad
  rotate_left
  ·dsimp only at h;refine Ts 1 16 [.ref 0 0] (Pw (AU f) [0]) (fun _=>?_);refine Dx ?_;obtain rfl:=AqF h;exact wpR [0]
  dsimp only at h;refine Td [0,2,5] 16 [.ref 0 0] (wcp (AU f) [0]) ?_;revert h;intro h;replace h:=Am h;obtain⟨s,g,h⟩:=h;rcases s with ae|af
  rotate_left
  ·dsimp only at h;refine Ts 2 19 [.ref 0 0] (Pw (G7 g) [0]) (fun _=>?_);refine Dx ?_;obtain rfl:=AqF h;exact wpR [0]
  dsimp only at h;refine Td [2] 19 [.ref 0 0] (wcp (G7 g) [0]) ?_;revert h;refine Sr <|Tr <|?_
  intro h;obtain rfl:=AqF h;exact wpF
 refine Sk <|Tn <|Sq <|Bd fun t u =>Te [0,2,22] (Ae (l:=[]) (m:=[(22,51,[.ref 0 0,.str ([40]:List UInt8)],[pS a.2.2,.box zE false,.box (An a.1) false],_,_)]) trivial ⟨(wc (A7 u) [0]),trivial⟩) Ev ?_
 refine Cd ?_ ?_
 ·intro h;replace h:=Am h;obtain⟨v,i,h⟩:=h;rcases v with ag|ah
  rotate_left
  ·dsimp only at h;refine Ts 1 24 [.ref 0 0] (Pw (h90 i) [0]) (fun _=>?_);refine Dx ?_;obtain rfl:=AqF h;exact wpR [0]
  dsimp only at h;refine Td [0,2,6] 24 [.ref 0 0] (wcp (h90 i) [0]) ?_;revert h;intro h;replace h:=Am h;obtain⟨w,j,h⟩:=h;rcases w with ai|aj
  rotate_left
  ·dsimp only at h;refine Ts 1 26 [.ref 0 0,.str ([41]:List UInt8)] (Pw (Al j) [0]) (fun _=>?_);refine Dx ?_;obtain rfl:=AqF h;exact wpR [0]
  dsimp only at h;refine Td [2,6] 26 [.ref 0 0,.str ([41]:List UInt8)] (wcp (Al j) [0]) ?_;revert h;refine T0 [2] ?_;refine Sr <|Tr <|?_
  intro h;obtain rfl:=AqF h;exact wpF
 refine Sk <|Tn <|Sq <|Bd fun d x =>Te [0,2,29] (Ae (l:=[]) (m:=[(29,51,[.ref 0 0,.str ([105,102]:List UInt8)],[pS t.2,.box zE false,.box (An a.1) false],_,_)]) trivial ⟨(wc (A7 x) [0]),trivial⟩) Ev ?_
 refine Cd ?_ ?_
 ·intro h;replace h:=Am h;obtain⟨y,k,h⟩:=h;rcases y with ak|al
  rotate_left
  ·dsimp only at h;refine Tp 2 32 [.ref 0 0,i64 11,.bs true 3 (([([60]:List UInt8),([44]:List UInt8),([44]:List UInt8),([41]:List UInt8)]:List (List UInt8)).length) 0 (([([60]:List UInt8),([44]:List UInt8),([44]:List UInt8),([41]:List UInt8)]:List (List UInt8)).length)] [pS d.2,.box zE false,.box (An a.1) false,.buf 1 (L Bl ([([60]:List UInt8),([44]:List UInt8),([44]:List UInt8),([41]:List UInt8)]:List (List UInt8))) false] (Pw (CB (fun h=>h90 h) k) [0,3]) (fun _=>?_);refine Dx ?_;obtain rfl:=AqF h;exact wpR [0]
  dsimp only at h;refine Tc [2] 32 [.ref 0 0,i64 11,.bs true 3 (([([60]:List UInt8),([44]:List UInt8),([44]:List UInt8),([41]:List UInt8)]:List (List UInt8)).length) 0 (([([60]:List UInt8),([44]:List UInt8),([44]:List UInt8),([41]:List UInt8)]:List (List UInt8)).length)] [pS d.2,.box zE false,.box (An a.1) false,.buf 1 (L Bl ([([60]:List UInt8),([44]:List UInt8),([44]:List UInt8),([41]:List UInt8)]:List (List UInt8))) false] (wcp (CB (fun h=>h90 h) k) [0,3]) ?_;revert h;refine Sr <|Tr <|?_
  intro h;obtain rfl:=AqF h;exact wpF
 refine Sk <|Tn <|Sq <|Bd fun c z =>Te [0,2,7,8] (Ae (l:=[]) (m:=[(35,86,[.ref 0 0,.str ([109,105,110,32,109,97,120,32,100,111,119,110,32,117,112,32,104,97,108,102]:List UInt8)],[pS d.2,.box zE false,.box (An a.1) false],_,_)]) trivial ⟨(wc (Ee z) [0]),trivial⟩) Ev ?_
 refine T0 [0,2,7,38] ?_;refine Cd ?_ ?_
 ·intro h;replace h:=Am h;obtain⟨aa,n,h⟩:=h;rcases aa with am|an
  rotate_left
  ·dsimp only at h;refine Tp 4 43 [.ref 0 0,i64 (w64 (6+c.1)),.bs true 3 (([([44]:List UInt8),([41]:List UInt8)]:List (List UInt8)).length) 0 (([([44]:List UInt8),([41]:List UInt8)]:List (List UInt8)).length)] [pS c.2.2,.box zE false,.box (An a.1) false,.buf 1 (L Bl ([([44]:List UInt8),([41]:List UInt8)]:List (List UInt8))) false] (Pw (CB (fun h=>h90 h) n) [0,3]) (fun _=>?_);refine Dx ?_;obtain rfl:=AqF h;exact wpR [0]
  dsimp only at h;refine Tc [2] 43 [.ref 0 0,i64 (w64 (6+c.1)),.bs true 3 (([([44]:List UInt8),([41]:List UInt8)]:List (List UInt8)).length) 0 (([([44]:List UInt8),([41]:List UInt8)]:List (List UInt8)).length)] [pS c.2.2,.box zE false,.box (An a.1) false,.buf 1 (L Bl ([([44]:List UInt8),([41]:List UInt8)]:List (List UInt8))) false] (wcp (CB (fun h=>h90 h) n) [0,3]) ?_;revert h;refine Sr <|Tr <|?_
  intro h;obtain rfl:=AqF h;exact wpF
 refine Sk <|Tn <|?_
 intro h;replace h:=Am h;obtain⟨ab,o,h⟩:=h;rcases ab with ao|ap
 rotate_left
 ·dsimp only at h;refine Ts 1 45 [.ref 0 0,.str ([116,121,112,101,32,111,119,110,101,114,32,114,97,105,108,119,97,121,32,115,104,105,112,112,101,114,32,99,108,97,115,115,32,119,101,105,103,104,116,32,107,109,32,109,105,110,117,116,101,115,32,119,111,114,107,105,110,103,32,99,111,100,101,32,119,111,114,116,104,32,99,111,115,116,32,109,111,110,116,104,32,98,101,103,105,110,32,112,97,114,116,115,32,112,97,114,116]:List UInt8)] (Pw (Bi o) [0]) (fun _=>?_);obtain rfl:=AqF h;exact wpR [0]
 dsimp only at h;refine Td [2] 45 [.ref 0 0,.str ([116,121,112,101,32,111,119,110,101,114,32,114,97,105,108,119,97,121,32,115,104,105,112,112,101,114,32,99,108,97,115,115,32,119,101,105,103,104,116,32,107,109,32,109,105,110,117,116,101,115,32,119,111,114,107,105,110,103,32,99,111,100,101,32,119,111,114,116,104,32,99,111,115,116,32,109,111,110,116,104,32,98,101,103,105,110,32,112,97,114,116,115,32,112,97,114,116]:List UInt8)] (wcp (Bi o) [0]) ?_;revert h;refine Sr ?_;intro h;obtain rfl:=AqF h;exact wpF
variable {rs:Aqm}
theorem Dm{j:Aqu->Option ((Aqr×Aqu)⊕(Int×Int×Aqu))}(h90:∀{q0_:Aqu} {r:(Aqr×Aqu)⊕(Int×Int×Aqu)},j q0_=some r->PCon (B rs) 90 [.ref 0 0] [pS q0_] (AY r)){k:Aqu}{r:(Aqr×Aqu)⊕(Int×Int×Aqu)}(h:AE j k=some r):PCon (B rs) 138 [.ref 0 0,.fn 139 [.tup [.ref 0 0]],.fn 140 [.ref 1 0]] [pS k,.box [.ref 0 0] false] (FE r):=by
 refine BH (N:=24) (rs:=[.cell 6 45]) 2 rfl ok Tryz.func138 rfl (by decide +kernel) rfl rfl (AqV rfl) (fun F=>?_);have hE:=(ok (rs:=rs)).env F;unfold AE at h;show Run ((B rs).env F) 2 _ ⟨Ah 24 [(0,.ref 0 0),(1,.fn 139 [.tup [.ref 0 0]]),(2,.fn 140 [.ref 1 0])],[pS k,.box [.ref 0 0] false]⟩ _;refine BN ?_;revert h;refine T0 [1,2,6] ?_;intro h;replace h:=Am h;obtain⟨aa,n,h⟩:=h;rcases aa with o|al
 rotate_left
 ·dsimp only at h;refine Ts 1 10 [.ref 0 0] (Pw (CR (fun h=>h90 h) n) [0]) (fun _=>?_);obtain rfl:=AqF h;exact wpR [0,1]
 dsimp only at h;refine Td [1,2,6,7] 10 [.ref 0 0] (wcp (CR (fun h=>h90 h) n) [0]) ?_;revert h;refine Jo (fun⟨p,q,s,t,u,v⟩=>⟨Ah 24 [(6,.ref 2 0),(7,.ref 3 0)],[.box [.sl false (L An p),i64 q] false,.box [.ref 0 0] false,.box zE false,.box (i64 s::i64 t::(C1 i64 u.l++[.sl false (L cApi_Expr v)])) false]⟩) ?_ ?_
 ·intro am ab;refine Bd fun an ac =>Te [1,2,6,7,8] (Ae (l:=[]) (m:=[(12,140,[.ref 1 0],[pS o.2,.box [.ref 0 0] false,.box zE false,.box (xE o.1) false],_,_)]) trivial ⟨(wc (Ft ac) [0,1]),trivial⟩) Ev ?_
  refine Sb ?_;refine Lo (fun⟨b,c,d,e,f,g,i⟩=>⟨Ah 24 [(1,.fn 139 [.tup [.ref 0 0]]),(2,.fn 140 [.ref 1 0]),(6,.ref 2 0),(7,.ref 3 0),(8,i64 b)],[.box [.sl false (L An c),i64 d] false,.box [.ref 0 0] false,.box zE false,.box (i64 e::i64 f::(C1 i64 g.l++[.sl false (L cApi_Expr i)])) false]⟩) (ws [0,1,2,3]) ?_;rintro⟨b,c,d,e,f,g,i⟩ ao ad w x;show AH j b c d e f g i=some ad->_;unfold AH;refine Sq <|T0 [1,2,6,7,8,14] ?_
  refine Cd ?_ ?_
  ·refine Sk <|Tn <|Sq <|Sb <|?_
   intro h;replace h:=Am h;obtain⟨ae,y,h⟩:=h;rcases ae with z|ap
   rotate_left
   ·dsimp only at h;refine Gs [[],[],[],[2],[1,2,3],[0,1,2,3,4],[0,1,2,3,4,5]] 3 20 [.ref 0 0] (Pw (CR (fun h=>h90 h) y) [0]) (fun _=>?_);refine DU ?_;refine Dx ?_;refine TC ?_;replace h:=Am h;obtain⟨aq,h,af⟩:=h;obtain rfl:=AqF af;have ag:=x _ rfl;subst ag;obtain rfl:=AqF w;refine DU ?_;refine GP ?_;replace h:=Am h;obtain⟨ar,h,ah⟩:=h;obtain rfl:=AqF ah;obtain rfl:=AqF ab;obtain rfl:=AqF h;exact wpR [0,1]
   dsimp only at h;replace h:=KJ h;obtain⟨a,ai,h⟩:=h;refine La hE mixed [[],[],[],[2],[1,2,3],[0,1,2,3,4],[0,1,2,3,4,5]] (by kernel_rfl) [(7,3)] [(20,3)] [1,2,6,7] (by kernel_rfl) (Eo EK) (fr':=[(1,.fn 139 [.tup [.ref 0 0]]),(2,.fn 140 [.ref 1 0]),(6,.ref 2 0),(7,.ref 3 0)]) (O':=[pS z.2,.box [.ref 0 0] false,.box zE false,.box (i64 b::i64 0::(C1 i64 (Arr.rep 4 0).l++[.bs true 4 (a.length) 0 (a.length)])) false,.buf 7 (L cApi_Expr a) false]) ⟨rfl,trivial⟩ ⟨_,_,(Ae (l:=[]) (m:=[(20,139,[.ref 0 0],[.box [.sl false (L An c),i64 d] false,.box [.ref 0 0] false,.box zE false,.box (i64 e::i64 f::(C1 i64 g.l++[.sl false (L cApi_Expr i)])) false],_,_)]) trivial ⟨(wc (PCon.to (CR (fun h=>h90 h) y) rfl) [0]),trivial⟩),(by repeat' (first|exact trivial|(refine And.intro ?_ ?_)|exact fun _=>rfl|exact fun h=>absurd h (by decide))),?_⟩ ?_
   ·subst ai;first|(simp only[go_sem];done)|(simp only[go_sem];simp only[Ast 1])
   revert h;refine Bn <|Tn <|Bd fun aj ak =>Fe [1,2,6,7,8] (Ae (l:=[]) (m:=[(16,140,[.ref 1 0],[pS z.2,.box [.ref 0 0] false,.box zE false,.box (i64 b::i64 0::(C1 i64 (Arr.rep 4 0).l++[.bs true 4 (a.length) 0 (a.length)])) false,.buf 7 (L cApi_Expr a) false],_,_)]) trivial ⟨(wc (Ft ak) [0,1]),trivial⟩) Ev ?_
   exact Ln ((FK 3 6 (.bs true 4 (a.length) 0 (a.length)) (O':=[pS aj.2,.box [.ref 0 0] false,.box zE false,.box (i64 b::i64 0::(C1 i64 (Arr.rep 4 0).l++[.sl false (L cApi_Expr a)])) false,.buf 7 (L cApi_Expr a) true]) rfl rfl gs rfl gs gs gs).trans (ws [0,1,2,3]))
  refine Sx <|Tx <|Lx x w <|Bx <|?_
  exact Jn ((ws (l':=[(6,.ref 2 0),(7,.ref 3 0)]) (O':=[.box [.sl false (L An c),i64 d] false,.box [.ref 0 0] false,.box zE false,.box (i64 e::i64 f::(C1 i64 g.l++[.sl false (L cApi_Expr i)])) false]) [0,1,2,3]).trans (ws [0,1,2,3]))
 rintro⟨p,q,s,t,u,v⟩;refine T0 [6] ?_;refine Sr ?_;intro h;obtain rfl:=AqF h;exact wpF
theorem CS{b:Aqu->Option ((Aqr×Aqu)⊕(Int×Int×Aqu))}(h90:∀{q0_:Aqu} {r:(Aqr×Aqu)⊕(Int×Int×Aqu)},b q0_=some r->PCon (B rs) 90 [.ref 0 0] [pS q0_] (AY r)){a:Aqu}{r:(Aqr×Aqu)⊕(Int×Int×Aqu)}(h:A5 b a=some r):PCon (B rs) 137 [.ref 1 0] [pS a,.box [.ref 0 0] false] (IV r):=by
 refine BH (N:=7) (rs:=[.cell 1 45]) 2 rfl ok Tryz.func137 rfl (by decide +kernel) rfl rfl (AqV rfl) (fun F=>?_);have hE:=(ok (rs:=rs)).env F;unfold A5 at h;show Run ((B rs).env F) 2 _ ⟨Ah 7 [(0,.ref 1 0)],[pS a,.box [.ref 0 0] false]⟩ _;refine BN ?_;revert h;refine T0 [0,1] ?_;intro h;replace h:=Am h;obtain⟨d,c,h⟩:=h;rcases d with e|f
 rotate_left
 ·dsimp only at h;refine Ts 4 6 [.ref 0 0,.fn 139 [.tup [.ref 0 0]],.fn 140 [.ref 1 0]] (Pw (Dm (fun h=>h90 h) c) [0,1]) (fun _=>?_);obtain rfl:=AqF h;exact wpR [0,1]
 dsimp only at h;refine Td [1] 6 [.ref 0 0,.fn 139 [.tup [.ref 0 0]],.fn 140 [.ref 1 0]] (wcp (Dm (fun h=>h90 h) c) [0,1]) ?_;revert h;refine Sr ?_;intro h;obtain rfl:=AqF h;exact wpF
variable {rs:Aqm}
theorem Di{j:Aqu->Option ((Aqr×Aqu)⊕(Int×Int×Aqu))}(h90:∀{q0_:Aqu} {r:(Aqr×Aqu)⊕(Int×Int×Aqu)},j q0_=some r->PCon (B rs) 90 [.ref 0 0] [pS q0_] (AY r)){k:Aqu}{r:(Aqr×Aqu)⊕(Int×Int×Aqu)}(h:AD j k=some r):PCon (B rs) 138 [.ref 0 0,.fn 137 [.ref 1 0],.fn 141 [.ref 1 0]] [pS k,.box [.ref 0 0] false] (FD r):=by
 refine BH (N:=24) (rs:=[.cell 6 45]) 2 rfl ok Tryz.func138 rfl (by decide +kernel) rfl rfl (AqV rfl) (fun F=>?_);have hE:=(ok (rs:=rs)).env F;unfold AD at h;show Run ((B rs).env F) 2 _ ⟨Ah 24 [(0,.ref 0 0),(1,.fn 137 [.ref 1 0]),(2,.fn 141 [.ref 1 0])],[pS k,.box [.ref 0 0] false]⟩ _;refine BN ?_;revert h;refine T0 [1,2,6] ?_;intro h;replace h:=Am h;obtain⟨aa,n,h⟩:=h;rcases aa with o|al
 rotate_left
 ·dsimp only at h;refine Ts 1 10 [.ref 1 0] (Pw (CS (fun h=>h90 h) n) [0,1]) (fun _=>?_);obtain rfl:=AqF h;exact wpR [0,1]
 dsimp only at h;refine Td [1,2,6,7] 10 [.ref 1 0] (wcp (CS (fun h=>h90 h) n) [0,1]) ?_;revert h;refine Jo (fun⟨p,q,s,t,u,v⟩=>⟨Ah 24 [(6,.ref 2 0),(7,.ref 3 0)],[.box [.sl false (L An p),i64 q] false,.box [.ref 0 0] false,.box zE false,.box (i64 s::i64 t::(C1 i64 u.l++[.sl false (L cApi_Expr v)])) false]⟩) ?_ ?_
 ·intro am ab;refine Bd fun an ac =>Te [1,2,6,7,8] (Ae (l:=[]) (m:=[(12,141,[.ref 1 0],[pS o.2,.box [.ref 0 0] false,.box zE false,.box (xE o.1) false],_,_)]) trivial ⟨(wc (Gc ac) [0,1]),trivial⟩) Ev ?_
  refine Sb ?_;refine Lo (fun⟨b,c,d,e,f,g,i⟩=>⟨Ah 24 [(1,.fn 137 [.ref 1 0]),(2,.fn 141 [.ref 1 0]),(6,.ref 2 0),(7,.ref 3 0),(8,i64 b)],[.box [.sl false (L An c),i64 d] false,.box [.ref 0 0] false,.box zE false,.box (i64 e::i64 f::(C1 i64 g.l++[.sl false (L cApi_Expr i)])) false]⟩) (ws [0,1,2,3]) ?_;rintro⟨b,c,d,e,f,g,i⟩ ao ad w x;show AG j b c d e f g i=some ad->_;unfold AG;refine Sq <|T0 [1,2,6,7,8,14] ?_
  refine Cd ?_ ?_
  ·refine Sk <|Tn <|Sq <|Sb <|?_
   intro h;replace h:=Am h;obtain⟨ae,y,h⟩:=h;rcases ae with z|ap
   rotate_left
   ·dsimp only at h;refine Gs [[],[],[],[2],[1,2,3],[0,1,2,3,4],[0,1,2,3,4,5]] 3 20 [.ref 1 0] (Pw (CS (fun h=>h90 h) y) [0,1]) (fun _=>?_);refine DU ?_;refine Dx ?_;refine TC ?_;replace h:=Am h;obtain⟨aq,h,af⟩:=h;obtain rfl:=AqF af;have ag:=x _ rfl;subst ag;obtain rfl:=AqF w;refine DU ?_;refine GP ?_;replace h:=Am h;obtain⟨ar,h,ah⟩:=h;obtain rfl:=AqF ah;obtain rfl:=AqF ab;obtain rfl:=AqF h;exact wpR [0,1]
   dsimp only at h;replace h:=KJ h;obtain⟨a,ai,h⟩:=h;refine La hE mixed [[],[],[],[2],[1,2,3],[0,1,2,3,4],[0,1,2,3,4,5]] (by kernel_rfl) [(7,3)] [(20,3)] [1,2,6,7] (by kernel_rfl) (Eo EK) (fr':=[(1,.fn 137 [.ref 1 0]),(2,.fn 141 [.ref 1 0]),(6,.ref 2 0),(7,.ref 3 0)]) (O':=[pS z.2,.box [.ref 0 0] false,.box zE false,.box (i64 b::i64 0::(C1 i64 (Arr.rep 4 0).l++[.bs true 4 (a.length) 0 (a.length)])) false,.buf 7 (L cApi_Expr a) false]) ⟨rfl,trivial⟩ ⟨_,_,(Ae (l:=[]) (m:=[(20,137,[.ref 1 0],[.box [.sl false (L An c),i64 d] false,.box [.ref 0 0] false,.box zE false,.box (i64 e::i64 f::(C1 i64 g.l++[.sl false (L cApi_Expr i)])) false],_,_)]) trivial ⟨(wc (PCon.to (CS (fun h=>h90 h) y) rfl) [0,1]),trivial⟩),(by repeat' (first|exact trivial|(refine And.intro ?_ ?_)|exact fun _=>rfl|exact fun h=>absurd h (by decide))),?_⟩ ?_
   ·subst ai;first|(simp only[go_sem];done)|(simp only[go_sem];simp only[Ast 1])
   revert h;refine Bn <|Tn <|Bd fun aj ak =>Fe [1,2,6,7,8] (Ae (l:=[]) (m:=[(16,141,[.ref 1 0],[pS z.2,.box [.ref 0 0] false,.box zE false,.box (i64 b::i64 0::(C1 i64 (Arr.rep 4 0).l++[.bs true 4 (a.length) 0 (a.length)])) false,.buf 7 (L cApi_Expr a) false],_,_)]) trivial ⟨(wc (Gc ak) [0,1]),trivial⟩) Ev ?_
   exact Ln ((FK 3 6 (.bs true 4 (a.length) 0 (a.length)) (O':=[pS aj.2,.box [.ref 0 0] false,.box zE false,.box (i64 b::i64 0::(C1 i64 (Arr.rep 4 0).l++[.sl false (L cApi_Expr a)])) false,.buf 7 (L cApi_Expr a) true]) rfl rfl gs rfl gs gs gs).trans (ws [0,1,2,3]))
  refine Sx <|Tx <|Lx x w <|Bx <|?_
  exact Jn ((ws (l':=[(6,.ref 2 0),(7,.ref 3 0)]) (O':=[.box [.sl false (L An c),i64 d] false,.box [.ref 0 0] false,.box zE false,.box (i64 e::i64 f::(C1 i64 g.l++[.sl false (L cApi_Expr i)])) false]) [0,1,2,3]).trans (ws [0,1,2,3]))
 rintro⟨p,q,s,t,u,v⟩;refine T0 [6] ?_;refine Sr ?_;intro h;obtain rfl:=AqF h;exact wpF
theorem Jy{rec_:Aqu->Option ((Aqr×Aqu)⊕(Int×Int×Aqu))}(hrec:∀{a:Aqu} {r:(Aqr×Aqu)⊕(Int×Int×Aqu)},rec_ a=some r->PCon (B rs) 90 [.ref 0 0] [pS a] (AY r)){a:Aqu}{r:(Aqr×Aqu)⊕(Int×Int×Aqu)}(h:BQ rec_ a=some r):PCon (B rs) 90 [.ref 0 0] [pS a] (AY r):=by
 refine BH (N:=9) (rs:=[.cell 2 45]) 1 rfl ok Tryz.func90 rfl (by decide +kernel) rfl rfl (AqV rfl) (fun F=>?_);have hE:=(ok (rs:=rs)).env F;unfold BQ at h;show Run ((B rs).env F) 1 _ ⟨Ah 9 [(0,.ref 0 0)],[pS a]⟩ _;refine BN ?_;revert h;refine T0 [1,2] ?_;refine T0 [1,2,3] ?_;intro h;replace h:=Am h;obtain⟨c,b,h⟩:=h;rcases c with d|e
 rotate_left
 ·dsimp only at h;refine Ts 3 8 [.ref 0 0,.fn 137 [.ref 1 0],.fn 141 [.ref 1 0]] (Pw (Di (fun h=>hrec h) b) [0,1]) (fun _=>?_);obtain rfl:=AqF h;exact wpR [0]
 dsimp only at h;refine Td [2] 8 [.ref 0 0,.fn 137 [.ref 1 0],.fn 141 [.ref 1 0]] (wcp (Di (fun h=>hrec h) b) [0,1]) ?_;revert h;refine Sr ?_;intro h;obtain rfl:=AqF h;exact wpF
theorem Jz(n:Nat):∀{a:Aqu} {r:(Aqr×Aqu)⊕(Int×Int×Aqu)},AZ n a=some r->PCon (B rs) 90 [.ref 0 0] [pS a] (AY r):=by
 induction n with
 |zero=>intro a r h;cases h
 |succ n ih=>intro a r h;exact Jy ih h
theorem GA{a:Aqu}{r:(Aqr×Aqu)⊕(Int×Int×Aqu)}(h:EI a=some r):PCon (B rs) 90 [.ref 0 0] [pS a] (AY r):=Jz _ h
end Go.Proofs.YtldngkmkhfddpaaGreatDoor
