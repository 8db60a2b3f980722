/-
  Part 49.
-/
import Derived.Test.YtldngkmkhfddpaaDoorYT47
import Derived.Test.YtldngkmkhfddpaaDoorYT48
import Derived.KernelRfl
namespace Go.Proofs.YtldngkmkhfddpaaDoor
open Go.Rv
set_option linter.unusedVariables false
set_option linter.unusedSimpArgs false
set_option maxRecDepth 20000
set_option maxHeartbeats 4000000
noncomputable def B0:Base:=Pq Tryd.prog (fun _=>none) (fun _ _=>false) (fun _=>none) (fun _=>none) none true (fun _ _=>rfl)
theorem ok0:B0.Ok:=Mc _ _ _ _ _ none true _
theorem AbG(F:Out):(B0.env F).tab 24=some ⟨.struct #[⟨"Has", 3,0,false,"","", 0⟩,⟨"V", 22,1,false,"","", 8⟩],17,136,(i64 0::C1 i64 ((Arr.rep 16 0)).l)⟩:=(EY Tryd.prog 24).trans tt24
theorem TO(F:Out):(B0.env F).tab 99=some ⟨.map 3 102,1,8,[.val (.map none)]⟩:=(EY Tryd.prog 99).trans tt99
theorem XL(F:Out):(B0.env F).tab 101=some ⟨.struct #[⟨"v", 24,0,false,"","wagonpool/teval", 0⟩,⟨"op", 99,17,false,"","wagonpool/teval", 136⟩],18,144,(i64 0::(C1 i64 ((Arr.rep 16 0)).l++[.val (.map none)]))⟩:=(EY Tryd.prog 101).trans Abb
theorem t0_3(F:Out):(B0.env F).tab 3=some ⟨.int .i64,1,8,[i64 0]⟩:=(EY Tryd.prog 3).trans tt3
def Tt(β:Nat)(f:FuncId):Value:=.func (.func f) #[.pointer (some ⟨β,0,none⟩)] #[]
def EN(β:Nat)(es:Array MapEntry)(cl:Nat)(k:Int)(f:FuncId):Array MapEntry:=es.push { key:=.int .i64 k,val:=Tt β f,born:=cl }
def NG(β:Nat):Array MapEntry :=
 EN β (EN β (EN β (EN β (EN β (EN β (EN β (EN β (EN β #[] 0 3 38) 1 4 39) 2 5 40) 3 6 41) 4 7 42) 5 8 43) 6 9 44) 7 10 45) 8 11 46
def At1(g:Gh)(β:Nat):Prop:=∃b,g[1]?=some b∧b.isBox=true∧b.blk=some β
theorem At1.le{g g':Gh}{β:Nat}(h:At1 g β)(hl:GLe g g'):At1 g' β:=by
 obtain⟨b,h1,h2,h3⟩:=h
 obtain⟨b',h4,h5⟩:=hl 1 b h1
 rcases h5 with h5|⟨q1,_⟩
 ·exact⟨b',h4,h5.2.2.2.2.2.trans h2,h5.1.trans h3⟩
 ·rw[h2]at q1;cases q1
abbrev frI:Fr:=[(3,.ref 1 0),(7,.ref 1 0),(8,.mref 2)]
theorem WH{F:Addr→Prop}{ops:Array Oper}{Q:Exit→Act→World→Prop}{rest:List Oper}{o1 o2 o3:Oper}{s1 s2:Nat}{f:FuncId}{k:Int}{β:Nat}{es:Array MapEntry}{cl:Nat}{b0 b1:ABlk}
    (p1:o1.op=.move (.tmp 3)) (d1:o1.dst=some s1) (g1:o1.guard=none) (p2:o2.op=.makeFunc (.func f) #[.tmp s1] #[]) (d2:o2.dst=some s2) (g2:o2.guard=none)
    (p3:o3.op=.insert 99 (.tmp 8) (.const (.int .i64 k)) (.tmp s2)) (d3:o3.dst=none) (g3:o3.guard=none) (hs:s1<31∧s2<31∧8<s1∧8<s2)
    (hk:Kn (.int .i64) (.int .i64 k) es=true) {w0:World} {g0:Gh} {a:Act} {w:World} {g:Gh} (hr:Rel (B0.env F) w g ⟨Am 31 frI,[b0,b1,.obj (.map es cl)]⟩ a) (hβ:At1 g β) (he:Evo (B0.env F) 0 w0 g0 w g)
    (h:∀a w g,Rel (B0.env F) w g ⟨Am 31 frI,[b0,b1,.obj (.map (EN β es cl k f) (cl+1))]⟩ a→At1 g β→Evo (B0.env F) 0 w0 g0 w g→wpList Tryd.prog ops Q rest a w):wpList Tryd.prog ops Q (o1::o2::o3::rest) a w:=by
  have hE:=ok0.env F
  simp only[wpList,Region.wanted,g1,if_true]
  left
  have e1:opL (B0.env F) (HI [] [] none) false (evL 31 frI) [b0,b1,.obj (.map es cl)] o1.op=some (.ref 1 0,[b0,b1,.obj (.map es cl)]):=by
    rw[p1];rfl
  refine C3 hE (Ab (B:=B0) none) e1 hr fun a1 w1 g1' hr1 he1 hl1=>?_
  simp only[wpList,Region.wanted,g2,if_true]
  left
  rw[d1]at hr1
  have e2:opL (B0.env F) (HI [] [] none) false (evL 31 ((s1,.ref 1 0)::frI)) [b0,b1,.obj (.map es cl)] o2.op=some (.fn f [.tup [.ref 1 0]],[b0,b1,.obj (.map es cl)]):=by
    rw[p2]
    show Ii (B0.env F) (evL 31 ((s1,.ref 1 0)::frI)) _ (.makeFunc (.func f) #[.tmp s1] #[])=_
    have:evL 31 ((s1,.ref 1 0)::frI) (.tmp s1)=.ref 1 0:=by
      show(if s1<31 then Rv.look ((s1,.ref 1 0)::frI) s1 else .junk)=_
      rw[if_pos hs.1]
      show(if s1=s1 then _ else _)=_
      rw[if_pos rfl]
    simp only[Ii,List.map_cons,List.map_nil,this]
    rfl
  refine C3 hE (Ab (B:=B0) none) e2 hr1 fun a2 w2 g2' hr2 he2 hl2=>?_
  simp only[wpList,Region.wanted,g3,if_true]
  left
  rw[d2]at hr2
  have hβ2:=(hβ.le hl1).le hl2
  have hr2':Rel (B0.env F) w2 g2' ⟨Am 31 ((s2,.fn f [.tup [.ref 1 0]])::(s1,.ref 1 0)::frI),[b0,b1,.obj (.map es cl)]⟩ a2:=hr2
  have lk:∀t,t≤8→Rv.look ((s2,.fn f [.tup [.ref 1 0]])::(s1,.ref 1 0)::frI) t=Rv.look frI t:=by
    intro t ht
    show(if t=s2 then _ else if t=s1 then _ else _)=_
    rw[if_neg (by omega),if_neg (by omega)]
  have hev:ev (Am 31 ((s2,.fn f [.tup [.ref 1 0]])::(s1,.ref 1 0)::frI)) (.tmp s2)=.fn f [.tup [.ref 1 0]]:=by
    rw[CO]
    show(if s2<31 then Rv.look ((s2,_)::_) s2 else .junk)=_
    rw[if_pos hs.2.1]
    show(if s2=s2 then _ else _)=_
    rw[if_pos rfl]
  have hv:=CR hr2' (.tmp s2)
  rw[hev]at hv
  have hva:a2.eval (.tmp s2)=Tt β f:=by
    generalize a2.eval (.tmp s2)=v at hv
    cases hv with
    |fn _ _ caps _ _ _ hn=>exact(hn _ rfl).elim
    | fnb _ _ fs _ hsz hrr=>
      obtain⟨fs⟩:=fs
      match fs,hsz with
      | [u],_=>
        have:=hrr 0 (.ref 1 0) rfl
        obtain⟨b,q1,q2,q3⟩:=hβ2
        have hu:Rep w2 (Aw (B0.env F) g2') g2' u (.ref 1 0):=this
        cases hu with
        | ref _ _ _ β' b' hb' hx' hβ'=>
          rw[q1]at hb';cases hb'
          rw[q3]at hβ';cases hβ'
          rfl
  have hmem:=hr2'.mem
  obtain⟨b,hb⟩:=Acg hmem (id:=2) (ab:=.obj (.map es cl)) rfl
  obtain⟨k1,k2,μ,k3,k4⟩:=hmem.blk 2 b _ hb rfl
  have h8:=CR hr2' (.tmp 8)
  have e8:ev (Am 31 ((s2,.fn f [.tup [.ref 1 0]])::(s1,.ref 1 0)::frI)) (.tmp 8)=.mref 2:=by
    rw[CO]
    show(if 8<31 then Rv.look _ 8 else .junk)=_
    rw[if_pos (by decide),lk 8 (Nat.le_refl _)]
    rfl
  rw[e8]at h8
  have hm8:a2.eval (.tmp 8)=.map (some μ):=by
    generalize a2.eval (.tmp 8)=v at h8
    cases h8 with
    | mref _ _ β' b' hb' hx' hβ'=>
      rw[hb]at hb';cases hb'
      rw[k3]at hβ';cases hβ'
      rfl
  have hfk:Instr.findNow (.int .i64) (.int .i64 k) es.toList 0=some none:=by
    unfold Kn at hk
    split at hk
    · assumption
    · cases hk
  have hu99:Tryd.prog.underlying 99=some (.map 3 102):=hE.desc 99 _ (TO F)
  have hu3:Tryd.prog.underlying 3=some (.int .i64):=hE.desc 3 _ (t0_3 F)
  have hu:(Instr.mapUpdate 99 (.map (some μ)) (.int .i64 k) (Tt β f)).run Tryd.prog w2=.ok () { w2 with heap:=w2.heap.setIfInBounds μ (.map (EN β es cl k f) (cl+1)) }:=by
    simp[Instr.mapUpdate,run_underlying hu99,MapKept.run_getObj_map k4,MapKept.run_checkKey hu3 (show MapKept.IsKey (.int .i64) (.int .i64 k)from rfl),MapKept.run_findKey hu3 hfk,MapKept.run_setObj_map _ k4,Result.andThen,EN]
  have hs2:=MapKept.heap_set (o':=.map (EN β es cl k f) (cl+1)) k4
  obtain⟨hm3,he3⟩:=QC (w':={ w2 with heap:=w2.heap.setIfInBounds μ (.map (EN β es cl k f) (cl+1)) }) hmem hb rfl k3 (o':=.map (EN β es cl k f) (cl+1)) rfl (.inr (fun _=>rfl)) hs2.1 hs2.2 (by simp) rfl rfl rfl
  unfold Oper.wp
  have hrun:(execOp a2.eval o3).run Tryd.prog w2=.ok .skip { w2 with heap:=w2.heap.setIfInBounds μ (.map (EN β es cl k f) (cl+1)) }:=by
    unfold execOp
    rw[p3]
    have hc:a2.eval (.const (.int .i64 k))=.int .i64 k:=rfl
    simp only[hm8,hva,hc,Sem.run_bind,hu]
    rfl
  refine MN (.inr ⟨hrun,rfl⟩) ?_
  rw[d3]
  refine h _ _ g2' ⟨hr2'.size.trans (by simp[Am]),EG ?_,hm3,?_⟩ hβ2 (((he.trans (he1.of_gle hl1)).trans (he2.of_gle hl2)).trans he3)
  · intro p hp
    have hlt:p.1≤8:=by
      simp only[frI,List.mem_cons,List.not_mem_nil,or_false]at hp
      rcases hp with rfl|rfl|rfl<;>decide
    have hx:(Am 31 ((s2,.fn f [.tup [.ref 1 0]])::(s1,.ref 1 0)::frI))[p.1]?=some p.2:=by
      rw[Cf,if_pos (by omega),lk _ hlt]
      simp only[frI,List.mem_cons,List.not_mem_nil,or_false]at hp
      rcases hp with rfl|rfl|rfl<;>rfl
    exact(hr2'.slot p.1 p.2 hx).mono he3.cells (GLe.refl _)
  · exact hr2'.defers.evo he3
abbrev D2(has:Int)(v:Arr Int 16):List AV:=i64 has::C1 i64 v.l
theorem NR(has:Int)(v:Arr Int 16):(D2 has v).all AV.flat=true:=by
 simp only[D2,C1,List.all_cons,List.all_map,Bool.and_eq_true,List.all_eq_true]
 exact⟨rfl,fun x _=>rfl⟩
abbrev σN1(has:Int)(v:Arr Int 16):Ad:=[.box (D2 has v) false,.box (D2 has v++[.val (.map none)]) false]
abbrev σN2(has:Int)(v:Arr Int 16)(β:Nat):Ad:=[.box (D2 has v) false,.box (D2 has v++[.mref 2]) false,.obj (.map (NG β) 9)]
abbrev AeE(F:Addr→Prop)(has:Int)(v:Arr Int 16)(w:World):Ending→World→Prop:=fun e w'=>∃β u g',e=.returned u∧At1 g' β∧Rep w' (Aw (B0.env F) g') g' u (.ref 1 0)∧Mem (B0.env F) w' g' (σN2 has v β)∧Evo (B0.env F) 0 w [] w' g'
theorem YC{F:Addr→Prop}{has:Int}{v:Arr Int 16}{fn:Func}{c0 c1 c2 c3:Code}(hf:Tryd.prog.funcs[21]?=some fn)(hb:fn.body=some (AbP [c0,c1] (.seq c2 (.seq c3 .ret))))(hn:(fn.name == "runtime.NumGoroutine")=false) (hN:fn.ntmps=31) (hrs:fn.results.toList=[.tmp 2])
 (hP:Pre (B0.env F) 31 [c0,c1] (Jv 0 [.agg (D2 has v)],[]) ([(3,.ref 1 0)],σN1 has v))
 (h2:∀(Q:Exit→Act→World→Prop) a w g,Rel (B0.env F) w g ⟨Am 31 [(3,.ref 1 0)],σN1 has v⟩ a→(∀β a' w' g',Rel (B0.env F) w' g' ⟨Am 31 [(3,.ref 1 0)],σN2 has v β⟩ a'→At1 g' β→Evo (B0.env F) 0 w g w' g'→Q .normal a' w')→c2.wp Tryd.prog Q a w)
 (h3:∀β,Run (B0.env F) 3 (.seq c3 .ret) ⟨Am 31 [(3,.ref 1 0)],σN2 has v β⟩ (Xg (B0.env F) 3 (Am 31 [(2,.ref 1 0)]) (σN2 has v β)))
 {w:World} {vs:Array Value} (hm:Mem (B0.env F) w [] []) (ha:Bt w (Aw (B0.env F) []) [] vs.toList [.agg (D2 has v)]):DoCall Tryd.prog 21 vs w (AeE F has v w):=by
 have hE:=ok0.env F
 refine .inl ⟨⟨_,_,hf,hb,hn⟩,?_⟩
 refine calls_of_wp hf hb ?_
 have hr0:=IA (fn:=fn) hm ha
 rw[hN]at hr0
 rw[E7 31 [.agg (D2 has v)] (Nat.le_of_ble_eq_true rfl) (Jv 0 [.agg (D2 has v)]) (fun t _=>ET _ 0 t (Nat.zero_le _))]at hr0
 rw[hN]
 refine Rj (E:=B0.env F) rfl hP hr0 fun a1 w1 g1 hr1 he1=>?_
 refine wp_seq ?_
 refine h2 _ a1 w1 g1 hr1 fun β a2 w2 g2 hr2 hβ he2=>?_
 refine GA (h3 β) rfl hr2 ?_
 rintro ex st a3 w3 g3 ⟨hex,hw⟩ hr3 he3
 obtain⟨g4,hr4,he4⟩:=hw a3 w3 g3 hr3
 have he5:=he3.trans he4
 have hβ4:At1 g4 β:=by
  obtain⟨b,q1,q2,q3⟩:=hβ
  obtain⟨b',q4,q5⟩:=he5.ids 1 (by decide) b q1
  rcases q5 with q5|⟨q6,_⟩
  ·exact⟨b',q4,q5.2.2.2.2.2.trans q2,q5.1.trans q3⟩
  ·rw[q2]at q6;cases q6
 obtain⟨us,hus,hrep⟩:=DZ hE hr4 fn.results.toList [.ref 1 0] (by rw[hrs];rfl)
 have hres:(results fn a3.tmps).run Tryd.prog w3=.ok (if h:us.toArray.size=1 then us.toArray[0]else .tuple us.toArray) w3:=by
  have e:results fn a3.tmps=(do let vs ←fn.results.mapM (HX a3.tmps);pure (if h:vs.size=1 then vs[0]else .tuple vs)):=rfl
  have hus':(fn.results.toList.mapM (HX a3.tmps)).run Tryd.prog w3=.ok us w3:=hus
  rw[e,Sem.run_bind,Array.mapM_eq_mapM_toList,Sem.run_map,hus']
  rfl
 have fin:AeE F has v w (.returned (if h:us.toArray.size=1 then us.toArray[0]else .tuple us.toArray)) w3:=⟨β,_,g4,rfl,hβ4,GI hrep,hr4.mem,(he1.trans he2).trans (I6 he5)⟩
 rcases hex with rfl|rfl
 ·exact⟨hr3.defers.eq rfl,_,hres,fin⟩
 ·exact⟨hr3.defers.eq rfl,_,hres,fin⟩
theorem HG{P:Program}{ops:Array Oper}{Q:Exit→Act→World→Prop}{o:Oper}{rest:List Oper}{a:Act}{w:World}(hg:o.guard=none)(h:o.wp P a w (wpList P ops Q rest) Q):wpList P ops Q (o::rest) a w:=by
 simp only[wpList,Region.wanted,hg,if_true]
 exact .inl h
theorem Wa{F:Addr→Prop}{has:Int}{v:Arr Int 16}{w:World}{vs:Array Value}(hm:Mem (B0.env F) w [] [])(ha:Bt w (Aw (B0.env F) []) [] vs.toList [.agg (D2 has v)]) :
  DoCall Tryd.prog 21 vs w (AeE F has v w):=by
 have hE:=ok0.env F
 refine YC Tryd.func21 rfl (by decide +kernel) rfl rfl ?_ ?_ ?_ hm ha
 ·exact Pre.step (fr':=[(1,.ref 0 0)]) (σ':=[.box (D2 has v) false]) (Bp hE LY [1] (fr':=[(1,.ref 0 0)]) (σ':=[.box (D2 has v) false]) ⟨_,Ab,by simp only[go_sem,Jv,AbG]⟩ JK)
   (Pre.step (Bp hE LY [3] (fr':=[(3,.ref 1 0)]) (σ':=[.box (D2 has v) false,.box (D2 has v++[.val (.map none)]) false]) ⟨_,Ab,by simp only[go_sem,AbG,XL,TO]⟩ JK) (Pre.nil _))
 ·intro Q a w g hr hk
  obtain⟨b1,hb1⟩:=Acg hr.mem (id:=1) (ab:=.box (D2 has v++[.val (.map none)]) false) rfl
  obtain⟨q1,_,_,_,_,β,_,_,_,q2,_⟩:=hr.mem.blk 1 b1 _ hb1 rfl
  have hβ:At1 g β:=⟨b1,hb1,q1,q2⟩
  refine wp_region_lit ?_
  refine HG rfl ?_
  refine C3 hE (Ab (B:=B0) none) (r:=(.ref 1 0,σN1 has v)) (by simp only[go_sem]) hr fun a1 w1 g1 hr1 he1 hl1=>?_
  refine HG rfl ?_
  refine C3 hE (Ab (B:=B0) none) (r:=(.mref 2,σN1 has v++[.obj (.map #[] 0)])) (by simp only[go_sem,Ys];rfl) hr1 fun a2 w2 g2 hr2 he2 hl2=>?_
  have hβ3:=(hβ.le hl1).le hl2
  have he3:=(he1.of_gle (n:=0) hl1).trans (he2.of_gle hl2)
  have hr3:Rel (B0.env F) w2 g2 ⟨Am 31 frI,[.box (D2 has v) false,.box (D2 has v++[.val (.map none)]) false,.obj (.map #[] 0)]⟩ a2:=hr2
  refine WH rfl rfl rfl rfl rfl rfl rfl rfl rfl (by decide) rfl hr3 hβ3 he3 fun a0 w0 g0 r0 b0 e0=>?_
  refine WH rfl rfl rfl rfl rfl rfl rfl rfl rfl (by decide) rfl r0 b0 e0 fun a1 w1 g1 r1 b1 e1=>?_
  refine WH rfl rfl rfl rfl rfl rfl rfl rfl rfl (by decide) rfl r1 b1 e1 fun a2 w2 g2 r2 b2 e2=>?_
  refine WH rfl rfl rfl rfl rfl rfl rfl rfl rfl (by decide) rfl r2 b2 e2 fun a3 w3 g3 r3 b3 e3=>?_
  refine WH rfl rfl rfl rfl rfl rfl rfl rfl rfl (by decide) rfl r3 b3 e3 fun a4 w4 g4 r4 b4 e4=>?_
  refine WH rfl rfl rfl rfl rfl rfl rfl rfl rfl (by decide) rfl r4 b4 e4 fun a5 w5 g5 r5 b5 e5=>?_
  refine WH rfl rfl rfl rfl rfl rfl rfl rfl rfl (by decide) rfl r5 b5 e5 fun a6 w6 g6 r6 b6 e6=>?_
  refine WH rfl rfl rfl rfl rfl rfl rfl rfl rfl (by decide) rfl r6 b6 e6 fun a7 w7 g7 r7 b7 e7=>?_
  refine WH rfl rfl rfl rfl rfl rfl rfl rfl rfl (by decide) rfl r7 b7 e7 fun a8 w8 g8 r8 b8 e8=>?_
  refine HG rfl ?_
  refine C3 hE (Ab (B:=B0) none) (r:=(.mref 2,[.box (D2 has v) false,.box (D2 has v++[.val (.map none)]) false,.obj (.map (NG β) 9)])) (by simp only[go_sem];rfl) r8 fun a10 w10 g10 hr10 he10 hl10=>?_
  refine HG rfl ?_
  refine C3 hE (Ab (B:=B0) none) (r:=(.ref 1 0,[.box (D2 has v) false,.box (D2 has v++[.val (.map none)]) false,.obj (.map (NG β) 9)])) (by simp only[go_sem]) hr10 fun a11 w11 g11 hr11 he11 hl11=>?_
  refine HG rfl ?_
  refine C3 hE (Ab (B:=B0) none) (r:=(.ref 1 17,[.box (D2 has v) false,.box (D2 has v++[.val (.map none)]) false,.obj (.map (NG β) 9)])) (by simp only[go_sem,XL,TO]) hr11 fun a12 w12 g12 hr12 he12 hl12=>?_
  refine HG rfl ?_
  refine C3 hE (Ab (B:=B0) none) (r:=(.junk,σN2 has v β)) (by simp only[go_sem,TO];rfl) hr12 fun a13 w13 g13 hr13 he13 hl13=>?_
  refine hk β a13 w13 g13 ?_ ((((b8.le hl10).le hl11).le hl12).le hl13) ((((e8.trans (he10.of_gle hl10)).trans (he11.of_gle hl11)).trans (he12.of_gle hl12)).trans (he13.of_gle hl13))
  refine⟨hr13.size.trans (by simp[Am]),EG ?_,hr13.mem,hr13.defers⟩
  intro p hp
  simp only[List.mem_cons,List.not_mem_nil,or_false]at hp
  subst hp
  exact hr13.slot 3 (.ref 1 0) rfl
 ·intro β
  refine Ao hE [2] (fr':=[(2,.ref 1 0)]) (σ':=σN2 has v β) ⟨_,Ab,by simp only[go_sem]⟩ ?_
  exact Qf ⟨.inr rfl,Weak.refl _ _⟩
theorem KH{E E':Env}{g:Gh}(h:E'.F=E.F):Aw E' g=Aw E g:=by
 funext a
 unfold Aw
 rw[h]
theorem V1{E E':Env}{w:World}{g:Gh}{b:GB}{ab:ABlk}(h:E'.F=E.F)(hb:BlkOk E w g b ab):BlkOk E' w g b ab:=by
 have hp:Aw E' g=Aw E g:=KH h
 cases ab<;>simp only[BlkOk,hp]at hb ⊢<;>exact hb
theorem UY{E E':Env}{n:Nat}{w w':World}{g g':Gh}(h:E'.F=E.F)(he:Evo E n w g w' g'):Evo E' n w g w' g' :=
 ⟨he.os,he.tape,he.output,he.size,by rw[KH h,KH h];exact he.cells,he.blocks,he.ids⟩
theorem AdH{β μ:Nat}{w:World}(h:w.heap[μ]?=some (.map (NG β) 9)):WV Tryd.prog 99 ⟨μ,3,102,.int .i64,.val .nilFunc,D5 β⟩ w:=by
  have hE:=ok0.env noF
  refine⟨hE.desc 99 _ (TO _),hE.desc 3 _ (t0_3 _),fun w=>by kernel_rfl,rfl,NG β,9,h,?_,?_⟩
  · intro e he
    simp only[NG,EN,Array.toList_push,List.nil_append,List.cons_append,List.mem_cons,List.not_mem_nil,or_false]at he
    rcases he with rfl|rfl|rfl|rfl|rfl|rfl|rfl|rfl|rfl
    · exact⟨rfl,.int .i64 3,.fn 38 [.tup [.glob β]],rfl,rfl,rfl,rfl,rfl⟩
    · exact⟨rfl,.int .i64 4,.fn 39 [.tup [.glob β]],rfl,rfl,rfl,rfl,rfl⟩
    · exact⟨rfl,.int .i64 5,.fn 40 [.tup [.glob β]],rfl,rfl,rfl,rfl,rfl⟩
    · exact⟨rfl,.int .i64 6,.fn 41 [.tup [.glob β]],rfl,rfl,rfl,rfl,rfl⟩
    · exact⟨rfl,.int .i64 7,.fn 42 [.tup [.glob β]],rfl,rfl,rfl,rfl,rfl⟩
    · exact⟨rfl,.int .i64 8,.fn 43 [.tup [.glob β]],rfl,rfl,rfl,rfl,rfl⟩
    · exact⟨rfl,.int .i64 9,.fn 44 [.tup [.glob β]],rfl,rfl,rfl,rfl,rfl⟩
    · exact⟨rfl,.int .i64 10,.fn 45 [.tup [.glob β]],rfl,rfl,rfl,rfl,rfl⟩
    · exact⟨rfl,.int .i64 11,.fn 46 [.tup [.glob β]],rfl,rfl,rfl,rfl,rfl⟩
  · intro ka hka hne
    cases ka with
    | int k n=>
      cases k with
      | i64=>
        have hn:D5 β (.int .i64 n)≠none:=hne
        unfold D5 at hn
        simp only[]at hn
        have hc:n=3∨n=4∨n=5∨n=6∨n=7∨n=8∨n=9∨n=10∨n=11:=by
          by_cases c3:n=3;· exact .inl c3
          by_cases c4:n=4;· exact .inr (.inl c4)
          by_cases c5:n=5;· exact .inr (.inr (.inl c5))
          by_cases c6:n=6;· exact .inr (.inr (.inr (.inl c6)))
          by_cases c7:n=7;· exact .inr (.inr (.inr (.inr (.inl c7))))
          by_cases c8:n=8;· exact .inr (.inr (.inr (.inr (.inr (.inl c8)))))
          by_cases c9:n=9;· exact .inr (.inr (.inr (.inr (.inr (.inr (.inl c9))))))
          by_cases c10:n=10;· exact .inr (.inr (.inr (.inr (.inr (.inr (.inr (.inl c10)))))))
          by_cases c11:n=11;· exact .inr (.inr (.inr (.inr (.inr (.inr (.inr (.inr c11)))))))
          rw[if_neg c3,if_neg c4,if_neg c5,if_neg c6,if_neg c7,if_neg c8,if_neg c9,if_neg c10,if_neg c11]at hn
          exact(hn rfl).elim
        rcases hc with rfl|rfl|rfl|rfl|rfl|rfl|rfl|rfl|rfl
        · exact⟨{ key:=.int .i64 3,val:=Tt β 38,born:=0 },by simp[NG,EN],rfl⟩
        · exact⟨{ key:=.int .i64 4,val:=Tt β 39,born:=1 },by simp[NG,EN],rfl⟩
        · exact⟨{ key:=.int .i64 5,val:=Tt β 40,born:=2 },by simp[NG,EN],rfl⟩
        · exact⟨{ key:=.int .i64 6,val:=Tt β 41,born:=3 },by simp[NG,EN],rfl⟩
        · exact⟨{ key:=.int .i64 7,val:=Tt β 42,born:=4 },by simp[NG,EN],rfl⟩
        · exact⟨{ key:=.int .i64 8,val:=Tt β 43,born:=5 },by simp[NG,EN],rfl⟩
        · exact⟨{ key:=.int .i64 9,val:=Tt β 44,born:=6 },by simp[NG,EN],rfl⟩
        · exact⟨{ key:=.int .i64 10,val:=Tt β 45,born:=7 },by simp[NG,EN],rfl⟩
        · exact⟨{ key:=.int .i64 11,val:=Tt β 46,born:=8 },by simp[NG,EN],rfl⟩
      |_=>exact(hne rfl).elim
    |_=>exact(hne rfl).elim
theorem AbW{rs:RS}{F:Out}{w:World}{g:Gh}{σ:Ad}(hm:Mem ((B rs).env F) w g σ){β μ:Nat}{has:Int}{v:Arr Int 16}{arr:Array Value}{t:TypeId}{fz:Nat×Nat}(h3:3≤β)(hnm:¬Et g β)(hF:∀j,¬F.F ⟨β,j,none⟩)
  (hc:w.heap[β]?=some (.cells arr t fz)) (hcell:∀(j:Nat) (x:AV),(D2 has v++[.val (.map (some μ))])[j]?=some x→j<arr.size∧Rep w (Aw ((B rs).env F) g) [] (arr.getD j undef) x∧one (arr.getD j undef)=true)
  (hμ:w.heap[μ]?=some (.map (NG β) 9)):Mem ((B ⟨rs.r,some (β-3,μ,has,v)⟩).env F) w g σ:=by
 have hp:Aw ((B ⟨rs.r,some (β-3,μ,has,v)⟩).env F) g=Aw ((B rs).env F) g:=KH rfl
 refine⟨hm.len,fun id b ab h1 h2=>V1 rfl (hm.blk id b ab h1 h2),hm.inj,hm.foreign,?_,?_,fun i vs h=>by cases h⟩
 ·intro i cs h
  rw[hp]
  by_cases h0:i<3
  ·refine hm.glob i cs ?_
   have h':i=0∨i=1∨i=2:=by omega
   rcases h' with rfl|rfl|rfl<;>exact h
  ·have h':(if i=0 then some [AV.val (.map (some (rs.r 0)))]else if i=1 then some [AV.val (.map (some (rs.r 1)))]else if i=2 then some (C1 u8 glob2.l)else if i=(β-3)+3 then some (i64 has::(C1 i64 v.l++[.val (.map (some μ))]))else none)=some cs:=h
   rw[if_neg (by omega),if_neg (by omega),if_neg (by omega)]at h'
   split at h'
   ·rename_i e
    cases h'
    have e:i=β:=by omega
    subst e
    refine⟨(Array.getElem?_eq_some_iff.1 hc).1,hnm,hF,fun j=>arr.getD j undef,fun j x hj=>?_⟩
    obtain⟨q1,q2,q3⟩:=hcell j x hj
    refine⟨?_,q2,q3⟩
    rw[cell?_eq hc,A2 q1]
   ·cases h'
 ·intro t' m h
  have h':(if t'=107 then some ⟨rs.r 0,5,9,.int .u8,.str ([]:List UInt8),N6 (fun k=>u8 k) (fun x=>.str x) tab0⟩else if t'=109 then some ⟨rs.r 1,9,4,.string,.bool false,N6 (fun k=>.str k) (fun x=>.bool x) tab1⟩else if t'=99 then some (⟨μ,3,102,.int .i64,.val .nilFunc,D5 ((β-3)+3)⟩:MapS)else none)=some m:=h
  by_cases c1:t'=107
  ·subst c1
   rw[if_pos rfl]at h'
   exact hm.maps 107 m h'
  by_cases c2:t'=109
  ·subst c2
   rw[if_neg (by decide),if_pos rfl]at h'
   exact hm.maps 109 m h'
  rw[if_neg c1,if_neg c2]at h'
  split at h'
  ·rename_i e
   subst e
   cases h'
   rw[show β-3+3=β by omega]
   exact AdH hμ
  ·cases h'
theorem Wf{rs:RS}{F:Addr→Prop}{w:World}{g:Gh}{σ:Ad}{vs:Array Value}{has:Int}{v:Arr Int 16}(hm:Mem ((B rs).env F) w g σ)(ha:Bt w (Aw ((B rs).env F) g) g vs.toList [.agg (D2 has v)]) :
    DoCall Tryd.prog 21 vs w (fun e w'=>∃β μ,e=.returned (.pointer (some ⟨β,0,none⟩))∧3≤β∧Mem ((B rs).env F) w' g σ∧Mem ((B ⟨rs.r,some (β-3,μ,has,v)⟩).env F) w' g σ∧∀n,Evo ((B rs).env F) n w g w' g):=by
  have hnm0:∀β,¬Et [] β:=by rintro β ⟨id,b,h,_⟩;simp at h
  have hm0:Mem (B0.env F) w [] []:=⟨rfl,fun id b ab h=>by simp at h,fun id id' b b' β h=>by simp at h,fun a h=>⟨(hm.foreign a h).1,hnm0 _⟩,fun i cs h=>(by cases h),fun t m h=>(by cases h),fun i vs h=>(by cases h)⟩
  have ha0:Bt w (Aw (B0.env F) []) [] vs.toList [.agg (D2 has v)]:=by
    refine OU ha fun u x hx hu=>?_
    simp only[List.mem_singleton]at hx
    subst hx
    refine Iq hu ?_
    exact NR has v
  refine(Wa hm0 ha0).mono ?_
  rintro e w' ⟨β,u,g',rfl,hβ,hu,hm',he⟩
  obtain⟨b1,q1,q2,q3⟩:=hβ
  have hu':u=.pointer (some ⟨β,0,none⟩):=by
    cases hu with
    | ref _ _ _ β' b' hb' hx' hβ'=>
      rw[q1]at hb';cases hb'
      rw[q3]at hβ';cases hβ'
      rfl
  subst hu'
  obtain⟨b2,hb2⟩:=Acg hm' (id:=2) (ab:=.obj (.map (NG β) 9)) rfl
  obtain⟨k1,k2,μ,k3,k4⟩:=hm'.blk 2 b2 _ hb2 rfl
  obtain⟨l1,l2,l3,l4,l5,β1,arr,t,fz,l6,l7,l8,l9,l10⟩:=hm'.blk 1 b1 _ q1 rfl
  rw[q3]at l6;cases l6
  have hnew:∀k,Et g' k→w.heap.size≤k:=fun k hk=>by
    by_cases hl:k<w.heap.size
    · exact((he.blocks k hl (hnm0 _)).2 hk).elim
    · omega
  have hβn:=hnew β ⟨1,b1,q1,q3⟩
  obtain⟨hmw,hew⟩:=M9 hm (F:=F) (UY (E:=B0.env F) (E':=(B rs).env F) rfl he)
  have hevn:∀n,Evo ((B rs).env F) n w g w' g:=fun n=>⟨hew.os,hew.tape,hew.output,hew.size,hew.cells,hew.blocks,fun id _ b hb=>⟨b,hb,GB.step.refl b⟩⟩
  have hnmg:¬Et g β:=by
    rintro⟨id,b,hb,hbk⟩
    have:=CT hm hb hbk
    omega
  refine⟨β,μ,rfl,?_,hmw,?_,hevn⟩
  · have:=(hm.glob 2 (C1 u8 glob2.l) rfl).1
    omega
  · refine AbW hmw ?_ hnmg ?_ l7 ?_ k4
    · have:=(hm.glob 2 (C1 u8 glob2.l) rfl).1
      omega
    · intro j hj
      have:=(hm.foreign _ hj).1
      simp only at this
      omega
    · intro j x hj
      have hlen:(D2 has v).length=17:=by simp[D2,CM,v.h]
      by_cases hlt:j<(D2 has v).length
      · have hj':(D2 has v)[j]?=some x:=by rwa[List.getElem?_append_left hlt]at hj
        have hj2:(D2 has v++[.mref 2])[j]?=some x:=by rw[List.getElem?_append_left hlt];exact hj'
        obtain⟨r1,r2⟩:=l10 j x hj2
        refine⟨by rw[l8,List.length_append];omega,?_,r2⟩
        refine MP r1 ?_
        exact List.all_eq_true.1 (NR has v) x (List.mem_of_getElem? hj')
      · have hj17:j=(D2 has v).length:=by
          have:=(List.getElem?_eq_some_iff.1 hj).1
          rw[List.length_append,List.length_singleton]at this
          omega
        subst hj17
        rw[List.getElem?_append_right (Nat.le_refl _),Nat.sub_self]at hj
        cases hj
        have hj2:(D2 has v++[.mref 2])[(D2 has v).length]?=some (.mref 2):=by rw[List.getElem?_append_right (Nat.le_refl _),Nat.sub_self];rfl
        obtain⟨r1,r2⟩:=l10 _ _ hj2
        refine⟨by rw[l8,List.length_append];simp,?_,r2⟩
        generalize arr.getD (D2 has v).length undef=z at r1
        cases r1 with
        | mref _ _ β' b' hb' hx' hβ'=>
          rw[hb2]at hb';cases hb'
          rw[k3]at hβ';cases hβ'
          exact .val _ _ rfl
def P7:Ad→Bool
 |[]=>true
 |.box _ _::l=>P7 l
 |.buf _ _ _::l=>P7 l
 |_::_=>false
theorem Nl:∀{σ:Ad},P7 σ=true→∀{i:Nat} {ab:ABlk},σ[i]?=some ab→(∃cs ro,ab=.box cs ro)∨∃k els ro,ab=.buf k els ro
 |.box cs ro::l,h,0,ab,hi=>by cases hi;exact .inl ⟨_,_,rfl⟩
 |.buf k els ro::l,h,0,ab,hi=>by cases hi;exact .inr ⟨_,_,_,rfl⟩
 |.box _ _::l,h,i+1,ab,hi=>Nl (σ:=l) h (i:=i) (by simpa using hi)
 |.buf _ _ _::l,h,i+1,ab,hi=>Nl (σ:=l) h (i:=i) (by simpa using hi)
theorem OD{E:Env}{w:World}{g:Gh}{σ:Ad}(hm:Mem E w g σ)(hb:P7 σ=true){r:Nat}{es:Array MapEntry}{cl:Nat}(hr:w.heap[r]?=some (.map es cl)):¬Et g r:=by
 rintro⟨id,b,h1,h2⟩
 have hid:id<g.length:=(List.getElem?_eq_some_iff.1 h1).1
 rw[hm.len]at hid
 have h3:σ[id]?=some σ[id]:=List.getElem?_eq_getElem hid
 have hk:=hm.blk id b _ h1 h3
 rcases Nl hb h3 with⟨cs,ro,e⟩|⟨k,els,ro,e⟩
 ·rw[e]at hk
  obtain⟨_,_,_,_,_,β,arr,t,fz,k6,k7,_⟩:=hk
  rw[h2]at k6;cases k6
  rw[hr]at k7;cases k7
 ·rw[e]at hk
  obtain⟨_,_,_,_,_,_,k7⟩:=hk
  obtain⟨arr,t,fz,k8,_⟩:=k7 r h2
  rw[hr]at k8;cases k8
theorem Wh{E E':Env}(hF:E'.F=E.F){n:Nat}{w w':World}{g g':Gh}{σ σ':Ad}(hm:Mem E w g σ)(hb:P7 σ=true)(hm':Mem E' w' g' σ')(he:Evo E' n w g w' g'):Mem E w' g' σ':=by
 have hp:∀g,Aw E g=Aw E' g:=fun g=>KH hF.symm
 refine⟨hm'.len,fun id b ab h1 h2=>V1 hF.symm (hm'.blk id b ab h1 h2),hm'.inj,by rw[←hF];exact hm'.foreign,D8 hm he.size (fun a u h1 h2=>?_) (fun β h1 h2=>(he.blocks β h1 h2).2),?_,CD hm he.blocks⟩
 ·rw[hp]at h2 ⊢
  exact he.cells a u h1 h2
 ·refine EM hm fun r es cl hr=>?_
  exact(he.blocks r (Array.getElem?_eq_some_iff.1 hr).1 (OD hm hb hr)).1.trans hr
theorem Ry{rs rs':RS}{o:Out}{st:St}{a:Act}{w:World}{g:Gh}(hr:Rel ((B rs).env o) w g st a)(hm':Mem ((B rs').env o) w g st.σ):Rel ((B rs').env o) w g st a :=
 ⟨hr.size,fun t x hx=>by rw[KH (E:=(B rs).env o) (E':=(B rs').env o) rfl];exact hr.slot t x hx,hm',hr.defers⟩
theorem Nf{rs rs':RS}{o:Out}{n:Nat}{σ:Ad}{K:C0}(hb:P7 σ=true){w:World}{g:Gh}(hm:Mem ((B rs).env o) w g σ){Q:Exit→Act→World→Prop}
 (hq:∀ex st' a' w' g',K ex st'→Rel ((B rs).env o) w' g' st' a'→Evo ((B rs).env o) n w g w' g'→Q ex a' w'):∀ex st' a' w' g',K ex st'→Rel ((B rs').env o) w' g' st' a'→Evo ((B rs').env o) n w g w' g'→Q ex a' w':=by
 intro ex st' a' w' g' hk hr' he
 exact hq ex st' a' w' g' hk ⟨hr'.size,fun t x hx=>by rw[KH (E:=(B rs').env o) (E':=(B rs).env o) rfl];exact hr'.slot t x hx,Wh (E:=(B rs).env o) (E':=(B rs').env o) rfl hm hb hr'.mem he,hr'.defers⟩ (UY (E:=(B rs').env o) (E':=(B rs).env o) rfl he)
theorem Km{rs:RS}{F:Addr→Prop}{o:Oper}{x:Operand}(hop:o.op=.call ⟨.value (.func 21),#[x],#[24]⟩){a:Act}{w:World}{g:Gh}{st:St}{D:List Deferred}(hr:Rel ((B rs).env { F:=F,D:=D }) w g st a){has:Int}{v:Arr Int 16}(hx:ev st.fr x=.agg (D2 has v))
 {next:Act→World→Prop} {Q:Exit→Act→World→Prop} (hk:∀β μ w',3≤β→Mem ((B ⟨rs.r,some (β-3,μ,has,v)⟩).env { F:=F,D:=D }) w' g st.σ→(∀n,Evo ((B rs).env { F:=F,D:=D }) n w g w' g)→Rel ((B rs).env { F:=F,D:=D }) w' g ⟨A7 st.fr o.dst (.glob β),st.σ⟩ (a.put o.dst (.pointer (some ⟨β,0,none⟩)))→next (a.put o.dst (.pointer (some ⟨β,0,none⟩))) w'):o.wp Tryd.prog a w next Q:=by
 have hv:=CR hr x
 rw[hx]at hv
 refine Fw (B:=B rs) hop rfl (a:=a) (fid:=21) (caps:=#[]) rfl (Wf (rs:=rs) (F:=F) (g:=g) (σ:=st.σ) (has:=has) (v:=v) (VA (D':=[]) hr.mem) ?_) ?_
 ·rw[Array.append_empty,Array.toList_map]
  exact⟨hv,trivial⟩
 ·rintro e w' ⟨β,μ,rfl,h3,hm,hm',he⟩
  have he':∀n,Evo ((B rs).env { F:=F,D:=D }) n w g w' g:=fun n=>Zr (D:=[]) (he n)
  refine hk β μ w' h3 (VA (D:=[]) hm') he' ?_
  exact Ey (v:=.pointer (some ⟨β,0,none⟩)) (x:=.glob β) ⟨hr.size,fun t x hx=>(hr.slot t x hx).mono (he' 0).cells (GLe.refl _),VA (D:=[]) hm,hr.defers.evo (he' 0)⟩ o.dst (.glob _ _)
theorem Wi{rs:RS}{F:Addr→Prop}{D:List Deferred}{n N id:Nat}{o1 o2 o3:Oper}{y:Code}{K:C0}{fr:Fr}{σ:Ad}{d1 d2 d3:Nat}{has:Int}{v:Arr Int 16}
 (e1:o1.dst=some d1) (g1:o1.guard=none) (p2:o2.op=.call ⟨.value (.func 21),#[.tmp d1],#[24]⟩) (e2:o2.dst=some d2) (g2:o2.guard=none) (p3:o3.op=.assign (.tmp d2)) (e3:o3.dst=some d3) (g3:o3.guard=none) (c1:KF o1=true)
 (hd:d1<N∧d2<N) (h1:opL ((B rs).env { F:=F,D:=D }) (HI [] [] none) false (evL N fr) σ o1.op=some (.agg (D2 has v),σ)) (hb:P7 σ=true)
 (hk:∀b m,Run ((B ⟨rs.r,some (b,m,has,v)⟩).env { F:=F,D:=D }) n y ⟨Am N ((d3,.glob (b+3))::(d2,.glob (b+3))::(d1,.agg (D2 has v))::fr),σ⟩ K):Run ((B rs).env { F:=F,D:=D }) n (.seq (.region id [o1,o2,o3].toArray false) y) ⟨Am N fr,σ⟩ K:=by
 have hE:((B rs).env { F:=F,D:=D }).Ok:=ok.env _
 intro hcm a w g hr Q hq
 obtain⟨_,cm2⟩:=Kp hcm
 refine wpIn_seq ?_
 refine wpIn_region_lit ?_
 simp only[wpListIn,Region.wanted,g1,g2,g3,if_true]
 refine Su ?_ (.inr c1)
 refine C3 hE (Ab (B:=B rs) none) h1 hr fun a1 w1 g1' hr1 he1 hl1=>?_
 refine Su (E:=(B rs).env { F:=F,D:=D }) ?_ (.inr (by unfold KF;rw[p2]))
 have hx:ev (Am N (put o1.dst (.agg (D2 has v)) fr)) (.tmp d1)=.agg (D2 has v):=by
  rw[CO,e1]
  show(if d1<N then(if d1=d1 then(AV.agg (D2 has v))else _)else AV.junk)=_
  rw[if_pos hd.1,if_pos rfl]
 refine Km p2 hr1 hx fun β μ w2 h3 hm2 he2 hr2=>?_
 refine Su (E:=(B rs).env { F:=F,D:=D }) ?_ (.inr (by unfold KF;rw[p3]))
 rw[BU,e1,e2]at hr2
 have h3':opL ((B ⟨rs.r,some (β-3,μ,has,v)⟩).env { F:=F,D:=D }) (HI [] [] none) false (evL N ((d2,.glob β)::(d1,.agg (D2 has v))::fr)) σ o3.op=some (.glob β,σ):=by
  rw[p3]
  show Ii ((B ⟨rs.r,some (β-3,μ,has,v)⟩).env { F:=F,D:=D }) (evL N ((d2,.glob β)::(d1,.agg (D2 has v))::fr)) σ (.assign (.tmp d2))=_
  simp only[Ii,evL,if_pos hd.2]
  show some ((if d2=d2 then(AV.glob β)else _),σ)=_
  rw[if_pos rfl]
 rw[e2]
 refine C3 (E:=(B ⟨rs.r,some (β-3,μ,has,v)⟩).env { F:=F,D:=D }) (ok.env _) (Ab (B:=B ⟨rs.r,some (β-3,μ,has,v)⟩) none) h3' (Ry hr2 hm2) fun a3 w3 g3' hr3 he3 hl3=>?_
 rw[e3]at hr3
 have hk':=hk (β-3) μ
 rw[show β-3+3=β by omega]at hk'
 refine hk' cm2 a3 w3 g3' hr3 Q fun ex st' a' w' g' k r e=>?_
 refine Nf (rs:=rs) (rs':=⟨rs.r,some (β-3,μ,has,v)⟩) hb hr2.mem (n:=n) (K:=K) (fun ex st' a' w' g' k r e=>?_) ex st' a' w' g' k r ((he3.of_gle hl3).trans e)
 exact hq ex st' a' w' g' k r (((he1.of_gle hl1).trans (he2 n)).trans e)
theorem Fc{P:Program}{ops:Array Oper}{Q:Exit→Act→World→Prop}{fuel:Nat}{listed:Array Bool}{a:Act}{w:World}{l:List Nat}(hr:Region.ready .any ops listed=l)(hl:l≠[])(h:∀i∈l,wpOp P ops Q i (wpAny P .any ops Q fuel (listed.setIfInBounds i true)) a w):wpAny P .any ops Q (fuel+1) listed a w :=
 ⟨fun e=>absurd (hr.symm.trans e) hl,by rw[hr];exact h⟩
theorem Fs{P:Program}{ops:Array Oper}{Q:Exit→Act→World→Prop}{i:Nat}{o:Oper}{K:Act→World→Prop}{a:Act}{w:World}(hi:ops[i]?=some o)(hg:o.guard=none)(h:o.wp P a w K Q):wpOp P ops Q i K a w:=by
 unfold wpOp
 simp only[hi,Region.wanted,hg,if_true]
 exact .inl h
theorem Xn{rs:RS}{F:Addr→Prop}{D:List Deferred}{n id:Nat}{o0 o1 o2 o3 o4 o5:Oper}{K:C0}{has:Int}{v:Arr Int 16}{X:List AV}{r:Int⊕Int}
    (p0:o0.op=.load 24 (.tmp 3)) (d0:o0.dst=some 9) (g0:o0.guard=none) (p1:o1.op=.call ⟨.value (.func 21),#[.tmp 9],#[24]⟩) (d1:o1.dst=some 10) (g1:o1.guard=none)
    (p2:o2.op=.load 38 (.tmp 2)) (d2:o2.dst=some 11) (g2:o2.guard=none) (p3:o3.op=.call ⟨.value (.func 48),#[.tmp 10,.tmp 11],#[70,38]⟩) (d3:o3.dst=some 12) (g3:o3.guard=none)
    (p4:o4.op=.assign (.tmp 12)) (d4:o4.dst=some 4) (g4:o4.guard=none) (p5:o5.op=.store 29 (.tmp 5) (.const (.int .i64 0))) (d5:o5.dst=none) (g5:o5.guard=none)
    (ra:Region.ready .any #[o0,o1,o2,o3,o4,o5] #[false,false,false,false,false,false]=[0,2]) (rb:Region.ready .any #[o0,o1,o2,o3,o4,o5] #[true,false,false,false,false,false]=[1,2]) (rc:Region.ready .any #[o0,o1,o2,o3,o4,o5] #[false,false,true,false,false,false]=[0])
    (rd:Region.ready .any #[o0,o1,o2,o3,o4,o5] #[true,true,false,false,false,false]=[2]) (re:Region.ready .any #[o0,o1,o2,o3,o4,o5] #[true,false,true,false,false,false]=[1]) (rf:Region.ready .any #[o0,o1,o2,o3,o4,o5] #[true,true,true,false,false,false]=[3])
    (rg:Region.ready .any #[o0,o1,o2,o3,o4,o5] #[true,true,true,true,false,false]=[4]) (rh:Region.ready .any #[o0,o1,o2,o3,o4,o5] #[true,true,true,true,true,false]=[5]) (ri:Region.ready .any #[o0,o1,o2,o3,o4,o5] #[true,true,true,true,true,true]=[])
    (hl0:∀F D fr,Rv.look fr 3=.ref 1 0→opL ((B rs).env { F:=F,D:=D }) (HI [] [] none) false (evL 13 fr) [.box X false,.box (D2 has v) false,.box [i64 0] false] (.load 24 (.tmp 3))=some (.agg (D2 has v),[.box X false,.box (D2 has v) false,.box [i64 0] false]))
    (hl2:∀(rs:RS) F D fr,Rv.look fr 2=.ref 0 0→opL ((B rs).env { F:=F,D:=D }) (HI [] [] none) false (evL 13 fr) [.box X false,.box (D2 has v) false,.box [i64 0] false] (.load 38 (.tmp 2))=some (.agg X,[.box X false,.box (D2 has v) false,.box [i64 0] false]))
    (hwk:∀β,wkA [] [.glob β,.agg X] [.glob β,.agg X])
    (hcon:∀b m,PCon (B ⟨rs.r,some (b,m,has,v)⟩) 48 [.glob (b+3),.agg X] [] (match r with|.inl r=>.ret (i64 r) []|.inr r=>.pan (.iface 98 (.agg #[.int .i64 r])) []))
    (hret:∀z,r=.inl z→K .normal ⟨Am 13 [(4,i64 z),(5,.ref 2 0)],[.box X false,.box (D2 has v) false,.box [i64 0] false]⟩)
    (hpan:∀z,r=.inr z→K (.panic (NH (.iface 98 (.agg #[.int .i64 z])))) ⟨Am 13 [(4,i64 0),(5,.ref 2 0)],[.box X false,.box (D2 has v) false,.box [i64 0] false]⟩) :
    Run ((B rs).env { F:=F,D:=D }) n (.region id [o0,o1,o2,o3,o4,o5].toArray true) ⟨Am 13 [(2,.ref 0 0),(3,.ref 1 0),(4,i64 0),(5,.ref 2 0)],[.box X false,.box (D2 has v) false,.box [i64 0] false]⟩ K:=by
  have hE:((B rs).env { F:=F,D:=D }).Ok:=ok.env _
  intro hcm a w g hr Q hq
  refine FE (GE hcm) (wp_region_any Dl ?_)
  have hsm:SameMem w { w with drawn:=w.drawn+1 }:=⟨rfl,rfl,rfl,rfl⟩
  have hr0:=G9 hr hsm
  have hq0:∀ex st' a' w' g',K ex st'→Rel ((B rs).env { F:=F,D:=D }) w' g' st' a'→Evo ((B rs).env { F:=F,D:=D }) n { w with drawn:=w.drawn+1 } g w' g'→Q ex a' w':=fun ex st' a' w' g' k r e=>hq ex st' a' w' g' k r ((Evo.same hsm).trans e)
  clear hr hq
  generalize({ w with drawn:=w.drawn+1 }:World)=w at hr0 hq0 ⊢
  have tail:∀β μ a w1 g1,3≤β→Rel ((B ⟨rs.r,some (β-3,μ,has,v)⟩).env { F:=F,D:=D }) w1 g1 ⟨Am 13 [(4,i64 0),(5,.ref 2 0),(10,.glob β),(11,.agg X)],[.box X false,.box (D2 has v) false,.box [i64 0] false]⟩ a →
      (∀ex st' a' w' g',K ex st'→Rel ((B ⟨rs.r,some (β-3,μ,has,v)⟩).env { F:=F,D:=D }) w' g' st' a'→Evo ((B ⟨rs.r,some (β-3,μ,has,v)⟩).env { F:=F,D:=D }) n w1 g1 w' g'→Q ex a' w') →
      wpAny Tryd.prog .any #[o0,o1,o2,o3,o4,o5] Q 3 #[true,true,true,false,false,false] a w1:=by
    intro β μ a w1 g1 h3 hr1 hq1
    have hE':((B ⟨rs.r,some (β-3,μ,has,v)⟩).env { F:=F,D:=D }).Ok:=ok.env _
    refine Fc rf (by decide) fun i hi=>?_
    simp only[List.mem_singleton]at hi
    subst hi
    refine Fs (o:=o3) rfl g3 ?_
    have hc:=hcon (β-3) μ
    rw[show β-3+3=β by omega]at hc
    cases r with
    | inr z=>
      refine U0 (E:=(B ⟨rs.r,some (β-3,μ,has,v)⟩).env { F:=F,D:=D }) (v:=.iface 98 (.agg #[.int .i64 z])) (σ':=[.box X false,.box (D2 has v) false,.box [i64 0] false]) (.inr ⟨_,_,48,[.glob β,.agg X],p3,rfl,rfl,?_⟩) hr1 fun w' g' hr' he hle=>?_
      · exact MF (Ai (PCon.pan hc rfl) [] (by decide) gs (hwk β) gs gs _)
      · refine hq1 _ ⟨Am 13 [(4,i64 0),(5,.ref 2 0)],[.box X false,.box (D2 has v) false,.box [i64 0] false]⟩ a w' g' (hpan z rfl) ?_ (he.of_gle hle)
        refine⟨hr'.size,EG fun p hp=>?_,hr'.mem,hr'.defers⟩
        simp only[List.mem_cons,List.not_mem_nil,or_false]at hp
        rcases hp with rfl|rfl
        · exact hr'.slot 4 (i64 0) rfl
        · exact hr'.slot 5 (.ref 2 0) rfl
    | inl z=>
      have hOr:=Ag (B:=B ⟨rs.r,some (β-3,μ,has,v)⟩) (l:=[]) (m:=[(12,48,[.glob β,.agg X],[.box X false,.box (D2 has v) false,.box [i64 0] false],i64 z,[.box X false,.box (D2 has v) false,.box [i64 0] false])]) trivial ⟨wc (PCon.to hc rfl) [] gs (hwk β),trivial⟩
      refine C3 hE' (hOr (some 12)) (r:=(i64 z,[.box X false,.box (D2 has v) false,.box [i64 0] false])) (by rw[p3];simp only[go_sem]) hr1 fun a2 w2 g2 hr2 he2 hl2=>?_
      rw[d3]at hr2
      refine Fc rg (by decide) fun i hi=>?_
      simp only[List.mem_singleton]at hi
      subst hi
      refine Fs (o:=o4) rfl g4 ?_
      refine C3 hE' (Ab (B:=B ⟨rs.r,some (β-3,μ,has,v)⟩) none) (r:=(i64 z,[.box X false,.box (D2 has v) false,.box [i64 0] false])) (by rw[p4];simp only[go_sem]) hr2 fun a3 w3 g3' hr3 he3 hl3=>?_
      rw[d4]at hr3
      refine Fc rh (by decide) fun i hi=>?_
      simp only[List.mem_singleton]at hi
      subst hi
      refine Fs (o:=o5) rfl g5 ?_
      refine C3 hE' (Ab (B:=B ⟨rs.r,some (β-3,μ,has,v)⟩) none) (r:=(.junk,[.box X false,.box (D2 has v) false,.box [i64 0] false])) (by rw[p5];simp only[go_sem]) hr3 fun a4 w4 g4' hr4 he4 hl4=>?_
      rw[d5]at hr4
      refine⟨ri,?_⟩
      refine hq1 _ ⟨Am 13 [(4,i64 z),(5,.ref 2 0)],[.box X false,.box (D2 has v) false,.box [i64 0] false]⟩ a4 w4 g4' (hret z rfl) ?_ (((he2.of_gle hl2).trans (he3.of_gle hl3)).trans (he4.of_gle hl4))
      refine⟨hr4.size,EG fun p hp=>?_,hr4.mem,hr4.defers⟩
      simp only[List.mem_cons,List.not_mem_nil,or_false]at hp
      rcases hp with rfl|rfl
      · exact hr4.slot 4 (i64 z) rfl
      · exact hr4.slot 5 (.ref 2 0) rfl
  have kp:∀(rs:RS) {l:Fr} {a:Act} {w:World} {g:Gh} {β:Nat},Rel ((B rs).env { F:=F,D:=D }) w g ⟨Am 13 l,[.box X false,.box (D2 has v) false,.box [i64 0] false]⟩ a→Rv.look l 4=i64 0→Rv.look l 5=.ref 2 0→Rv.look l 10=.glob β→Rv.look l 11=.agg X→Rel ((B rs).env { F:=F,D:=D }) w g ⟨Am 13 [(4,i64 0),(5,.ref 2 0),(10,.glob β),(11,.agg X)],[.box X false,.box (D2 has v) false,.box [i64 0] false]⟩ a:=by
    intro rs l a w g β h h4 h5 h10 h11
    refine⟨h.size.trans (by simp[Am]),EG fun p hp=>?_,h.mem,h.defers⟩
    simp only[List.mem_cons,List.not_mem_nil,or_false]at hp
    rcases hp with rfl|rfl|rfl|rfl
    · exact h.slot 4 _ (by rw[Cf,if_pos (by decide),h4])
    · exact h.slot 5 _ (by rw[Cf,if_pos (by decide),h5])
    · exact h.slot 10 _ (by rw[Cf,if_pos (by decide),h10])
    · exact h.slot 11 _ (by rw[Cf,if_pos (by decide),h11])
  have e9:∀(l:Fr) (V:AV),Rv.look l 9=V→ev (Am 13 l) (.tmp 9)=V:=fun l V h=>by rw[CO];exact h
  refine Fc (l:=[0,2]) ra (by decide) fun i hi=>?_
  simp only[List.mem_cons,List.not_mem_nil,or_false]at hi
  rcases hi with rfl|rfl
  · refine Fs (o:=o0) rfl g0 ?_
    refine C3 hE (Ab (B:=B rs) none) (by rw[p0];exact hl0 F D _ rfl) hr0 fun a1 w1 g1' hr1 he1 hl1=>?_
    rw[d0]at hr1
    refine Fc (l:=[1,2]) rb (by decide) fun i hi=>?_
    simp only[List.mem_cons,List.not_mem_nil,or_false]at hi
    rcases hi with rfl|rfl
    · refine Fs (o:=o1) rfl g1 ?_
      refine Km p1 hr1 (e9 _ _ rfl) fun β μ w2 h3 hm2 he2 hr2=>?_
      rw[BU,d1]at hr2
      have hr2':=Ry (rs':=⟨rs.r,some (β-3,μ,has,v)⟩) hr2 hm2
      refine Fc rd (by decide) fun i hi=>?_
      simp only[List.mem_singleton]at hi
      subst hi
      refine Fs (o:=o2) rfl g2 ?_
      rw[d1]
      refine C3 (E:=(B ⟨rs.r,some (β-3,μ,has,v)⟩).env { F:=F,D:=D }) (ok.env _) (Ab (B:=B ⟨rs.r,some (β-3,μ,has,v)⟩) none) (by rw[p2];exact hl2 _ F D _ rfl) hr2' fun a3 w3 g3' hr3 he3 hl3=>?_
      rw[d2]at hr3
      refine tail β μ a3 w3 g3' h3 (kp _ hr3 rfl rfl rfl rfl) ?_
      intro ex st' a' w' g' k r e
      exact Nf (rs:=rs) (rs':=⟨rs.r,some (β-3,μ,has,v)⟩) (σ:=[.box X false,.box (D2 has v) false,.box [i64 0] false]) rfl hr2.mem (n:=n) (K:=K) (fun ex st' a' w' g' k r e=>hq0 ex st' a' w' g' k r (((he1.of_gle hl1).trans (he2 n)).trans e)) ex st' a' w' g' k r ((he3.of_gle hl3).trans e)
    · refine Fs (o:=o2) rfl g2 ?_
      refine C3 hE (Ab (B:=B rs) none) (by rw[p2];exact hl2 rs F D _ rfl) hr1 fun a2 w2 g2' hr2 he2 hl2'=>?_
      rw[d2]at hr2
      refine Fc re (by decide) fun i hi=>?_
      simp only[List.mem_singleton]at hi
      subst hi
      refine Fs (o:=o1) rfl g1 ?_
      refine Km p1 hr2 (e9 _ _ rfl) fun β μ w3 h3 hm3 he3 hr3=>?_
      rw[BU,d1]at hr3
      have hr3':=Ry (rs':=⟨rs.r,some (β-3,μ,has,v)⟩) hr3 hm3
      rw[d1]
      refine tail β μ _ w3 g2' h3 (kp _ hr3' rfl rfl rfl rfl) ?_
      exact Nf (rs:=rs) (rs':=⟨rs.r,some (β-3,μ,has,v)⟩) (σ:=[.box X false,.box (D2 has v) false,.box [i64 0] false]) rfl hr3.mem (n:=n) (K:=K) (fun ex st' a' w' g' k r e=>hq0 ex st' a' w' g' k r ((((he1.of_gle hl1).trans (he2.of_gle hl2')).trans (he3 n)).trans e))
  · refine Fs (o:=o2) rfl g2 ?_
    refine C3 hE (Ab (B:=B rs) none) (by rw[p2];exact hl2 rs F D _ rfl) hr0 fun a1 w1 g1' hr1 he1 hl1=>?_
    rw[d2]at hr1
    refine Fc rc (by decide) fun i hi=>?_
    simp only[List.mem_singleton]at hi
    subst hi
    refine Fs (o:=o0) rfl g0 ?_
    refine C3 hE (Ab (B:=B rs) none) (by rw[p0];exact hl0 F D _ rfl) hr1 fun a2 w2 g2' hr2 he2 hl2'=>?_
    rw[d0]at hr2
    refine Fc re (by decide) fun i hi=>?_
    simp only[List.mem_singleton]at hi
    subst hi
    refine Fs (o:=o1) rfl g1 ?_
    refine Km p1 hr2 (e9 _ _ rfl) fun β μ w3 h3 hm3 he3 hr3=>?_
    rw[BU,d1]at hr3
    have hr3':=Ry (rs':=⟨rs.r,some (β-3,μ,has,v)⟩) hr3 hm3
    rw[d1]
    refine tail β μ _ w3 g2' h3 (kp _ hr3' rfl rfl rfl rfl) ?_
    exact Nf (rs:=rs) (rs':=⟨rs.r,some (β-3,μ,has,v)⟩) (σ:=[.box X false,.box (D2 has v) false,.box [i64 0] false]) rfl hr3.mem (n:=n) (K:=K) (fun ex st' a' w' g' k r e=>hq0 ex st' a' w' g' k r ((((he1.of_gle hl1).trans (he2.of_gle hl2')).trans (he3 n)).trans e))
variable {rs:RS}
theorem Hn{c:Api_Clause}{v:Api_Env}{r:Bool×Int}(h:E3 c v=some r):Con (B rs) 7 [.agg (.str c.Zd::.sl false (L Af c.Ze)::i64 c.Pay.Op::i64 c.Pay.N::(C1 i64 c.Pay.Unit.l++[.sl false (L cApi_Expr c.Pay.L)])),.agg (i64 v.Has::C1 i64 v.V.l)] [] (fun r' σ'=>r'=.tup [.bool r.1,i64 r.2]∧σ'=[]):=by
 unfold E3 at h
 replace h:=Ae h;obtain⟨r,h,he⟩:=h
 obtain rfl:=Option.some.inj he
 clear he
 refine Ml (cf:=20) (rs:=[.tmp 4,.cell 5 29]) (N:=34) (m:=3) (sel:=[2]) (rfr:=[(4,.bool (Vi r).1),(5,.ref 2 0)]) (rfr':=[(4,.bool (Vi r).1),(5,.ref 0 0)]) (pre:=[_]) (caps:=[]) (fr1:=[(2,.ref 0 0),(3,.ref 1 0),(4,.bool false),(5,.ref 2 0)]) (σ1:=[.box (.str c.Zd::.sl false (L Af c.Ze)::i64 c.Pay.Op::i64 c.Pay.N::(C1 i64 c.Pay.Unit.l++[.sl false (L cApi_Expr c.Pay.L)])) false,.box (i64 v.Has::C1 i64 v.V.l) false,.box [i64 0] false]) ok Tryd.func7 rfl (by decide +kernel) rfl rfl (Nat.le_of_ble_eq_true rfl) (fun F=>?_) rfl rfl rfl rfl rfl (fun ys hh=>by cases hh) rfl (by decide) (by decide) rfl Tryd.func20 rfl (by decide +kernel) (fun F D=>?_)
 ·have hE:=(ok (rs:=rs)).env F
  refine Pre.step (Bp hE LY [2,3,4,5] (fr':=[(2,.ref 0 0),(3,.ref 1 0),(4,.bool false),(5,.ref 2 0)]) (σ':=[.box (.str c.Zd::.sl false (L Af c.Ze)::i64 c.Pay.Op::i64 c.Pay.N::(C1 i64 c.Pay.Unit.l++[.sl false (L cApi_Expr c.Pay.L)])) false,.box (i64 v.Has::C1 i64 v.V.l) false,.box [i64 0] false]) ⟨_,Ab,by simp only[go_sem,Jv]⟩ JK) ?_
  exact Pre.nil _
 refine Wi (has:=v.Has) (v:=v.V) (d1:=10) (d2:=11) (d3:=6) rfl rfl rfl rfl rfl rfl rfl rfl rfl (by decide) gs rfl (fun b_ m_=>?_)
 obtain⟨rs',hrs⟩:∃rs':RS,rs'=⟨rs.r,some (b_,m_,v.Has,v.V)⟩:=⟨_,rfl⟩
 have hev:rs'.ev=some (b_,m_,v.Has,v.V):=by rw[hrs]
 rw[←hrs]
 have hE:=(ok (rs:=rs')).env { F:=F,D:=D }
 refine DD (CV _ _ [2,4,5,6] _ _) ?_
 show Run ((Go.Proofs.YtldngkmkhfddpaaDoor.B rs').env { F:=F,D:=D }) 3 _ ⟨Am 34 [(2,.ref 0 0),(4,.bool false),(5,.ref 2 0),(6,.glob (b_+3))],[.box (.str c.Zd::.sl false (L Af c.Ze)::i64 c.Pay.Op::i64 c.Pay.N::(C1 i64 c.Pay.Unit.l++[.sl false (L cApi_Expr c.Pay.L)])) false,.box (i64 v.Has::C1 i64 v.V.l) false,.box [i64 0] false]⟩ _
 refine AX ?_
 unfold G2 at h
 revert h
 refine Jo (fun _=>⟨Am 34 [(4,.bool false),(5,.ref 2 0)],[.box (.str c.Zd::.sl false (L Af c.Ze)::i64 c.Pay.Op::i64 c.Pay.N::(C1 i64 c.Pay.Unit.l++[.sl false (L cApi_Expr c.Pay.L)])) false,.box (i64 v.Has::C1 i64 v.V.l) false,.box [i64 0] false]⟩) ?_ ?_
 ·intro y k
  refine Te [4,5,6,13,14,15] Ab (Ev (by simp only[go_sem,BX hev];exact Ak)) ?_
  refine Sb ?_
  refine Lo (fun e=>⟨Am 34 [(4,.bool false),(5,.ref 2 0),(6,.glob (b_+3)),(13,.sl false (L Af c.Ze)),(14,i64 (c.Ze.length:Int)),(15,i64 e)],[.box (.str c.Zd::.sl false (L Af c.Ze)::i64 c.Pay.Op::i64 c.Pay.N::(C1 i64 c.Pay.Unit.l++[.sl false (L cApi_Expr c.Pay.L)])) false,.box (i64 v.Has::C1 i64 v.V.l) false,.box [i64 0] false]⟩) (ws [0,1,2]) ?_
  rintro e z p g i
  show CX v c e=some p→_
  unfold CX
  refine Te [4,5,6,13,14,15,16] Ab (Ev (by simp only[go_sem,BX hev];exact Ak)) ?_
  refine Sq <|Cd ?_ ?_
  ·refine Sk <|Tn <|Sq <|Sb <|Ck fun q =>Lt fun a s =>Lt fun b t =>Lt fun d u =>Te (σ':=[_,_,_,.box [i64 a,i64 b,i64 d] false]) [4,5,6,8,13,14,15] Ab (Ev (by simp only[go_sem,BX hev,qR q,s,t,u];exact Ak)) ?_
   intro h
   replace h:=Ae h;obtain⟨w,n,h⟩:=h
   rcases w with x|f
   rotate_left
   ·dsimp only at h
    refine Az hE [4,5] 3 _ (v:=.iface 98 (.agg #[.int .i64 f])) (σ2:=[.box (.str c.Zd::.sl false (L Af c.Ze)::i64 c.Pay.Op::i64 c.Pay.N::(C1 i64 c.Pay.Unit.l++[.sl false (L cApi_Expr c.Pay.L)])) false,.box (i64 v.Has::C1 i64 v.V.l) false,.box [i64 0] false,.box [i64 a,i64 b,i64 d] false]) (vals:=[.bool false,.ref 2 0]) rfl rfl ⟨_,[(22,22,[.glob (b_+3),i64 a],[.box (.str c.Zd::.sl false (L Af c.Ze)::i64 c.Pay.Op::i64 c.Pay.N::(C1 i64 c.Pay.Unit.l++[.sl false (L cApi_Expr c.Pay.L)])) false,.box (i64 v.Has::C1 i64 v.V.l) false,.box [i64 0] false,.box [i64 a,i64 b,i64 d] false],.val (.iface 98 (.agg #[.int .i64 f])),[.box (.str c.Zd::.sl false (L Af c.Ze)::i64 c.Pay.Op::i64 c.Pay.N::(C1 i64 c.Pay.Unit.l++[.sl false (L cApi_Expr c.Pay.L)])) false,.box (i64 v.Has::C1 i64 v.V.l) false,.box [i64 0] false,.box [i64 a,i64 b,i64 d] false])],Ab,⟨fun v hv=>by cases hv;exact Ai (PCon.pan (BF hev n) rfl) [] (by decide) gs gs gs gs,trivial⟩,?_⟩ (fun fr_ hlen_ hfr_=>?_)
    ·simp only[go_sem,BX hev]
    refine Cx ?_
    refine B9 ?_
    refine On ?_
    replace h:=Ae h;obtain⟨aa,h,e_z_118⟩:=h
    obtain rfl:=Option.some.inj e_z_118
    have ex_z_118:=i _ rfl
    subst ex_z_118
    obtain rfl:=Option.some.inj g
    refine Cx ?_
    refine E6 ?_
    replace h:=Ae h;obtain⟨ab,h,e_z_117⟩:=h
    obtain rfl:=Option.some.inj e_z_117
    obtain rfl:=Option.some.inj k
    obtain rfl:=Option.some.inj h
    refine Aj (Weak.refl _ _) ?_
    refine⟨_,[.box [.junk] false],_,[.box [i64 f] false,.box [i64 f] false],[.bool false,i64 f],hlen_,.inr ⟨_,rfl,rfl⟩,?_,Mw,rfl,?_,⟨⟨rfl,.inr ⟨rfl,rfl⟩⟩,⟨rfl,.inl ⟨2,0,rfl,rfl,rfl⟩⟩,trivial⟩,Qh ?_,?_⟩
    ·simp only[go_sem]
    ·simp only[List.map_cons,List.map_nil,List.cons.injEq]at hfr_;exact⟨hfr_.1,hfr_.2.1,trivial⟩
    ·simp only[go_sem,Vi]
    ·simp only[go_sem,Vi]
   dsimp only at h
   refine Ao hE [4,5,6,8,9,13,14,15] (fr':=[(4,.bool false),(5,.ref 2 0),(6,.glob (b_+3)),(8,.ref 3 0),(9,i64 x),(13,.sl false (L Af c.Ze)),(14,i64 (c.Ze.length:Int)),(15,i64 e)]) (σ':=[.box (.str c.Zd::.sl false (L Af c.Ze)::i64 c.Pay.Op::i64 c.Pay.N::(C1 i64 c.Pay.Unit.l++[.sl false (L cApi_Expr c.Pay.L)])) false,.box (i64 v.Has::C1 i64 v.V.l) false,.box [i64 0] false,.box [i64 a,i64 b,i64 d] false]) ⟨_,(Ag (l:=[]) (m:=[(22,22,[.glob (b_+3),i64 a],[.box (.str c.Zd::.sl false (L Af c.Ze)::i64 c.Pay.Op::i64 c.Pay.N::(C1 i64 c.Pay.Unit.l++[.sl false (L cApi_Expr c.Pay.L)])) false,.box (i64 v.Has::C1 i64 v.V.l) false,.box [i64 0] false,.box [i64 a,i64 b,i64 d] false],_,_)]) trivial ⟨(wc (PCon.to (BF hev n) rfl) []),trivial⟩),?_⟩ ?_
   ·simp only[go_sem,BX hev]
   revert h
   refine Tw [4,5,6,13,14,15,32] (fun o=>⟨Am 34 [(4,.bool false),(5,.ref 2 0),(6,.glob (b_+3)),(13,.sl false (L Af c.Ze)),(14,i64 (c.Ze.length:Int)),(15,i64 e),(32,.bool o)],[.box (.str c.Zd::.sl false (L Af c.Ze)::i64 c.Pay.Op::i64 c.Pay.N::(C1 i64 c.Pay.Unit.l++[.sl false (L cApi_Expr c.Pay.L)])) false,.box (i64 v.Has::C1 i64 v.V.l) false,.box [i64 0] false]⟩) ?_ ?_
   ·intro _
    refine Sp (fun j=>?_) fun j=>?_
    ·exact Lf Ab (Ev (by simp only[go_sem,j];exact Ak)) (ws [0,1,2])
    ·exact Lf Ab (Ev (by simp only[go_sem,j];exact Ak)) (ws [0,1,2])
   intro o
   refine Cd ?_ ?_
   ·refine Te [4,5] Ab (Ev (by simp only[go_sem,BX hev];exact Ak)) ?_
    refine Sr <|Br <|Tr <|Lr i g <|Br <|Jr k <|?_
    intro h
    obtain rfl:=Option.some.inj h
    refine Aj (Weak.refl _ _) ?_
    refine⟨_,[.box [i64 0] false],_,[.box [i64 0] false],[.bool false,i64 0],FI _ _,.inl ⟨.inr rfl,rfl⟩,?_,Ie,rfl,?_,⟨⟨rfl,.inr ⟨rfl,rfl⟩⟩,⟨rfl,.inl ⟨2,0,rfl,rfl,rfl⟩⟩,trivial⟩,Qh ?_,?_⟩
    ·simp only[go_sem]
    ·simp only[go_sem,Vi]
    ·simp only[go_sem,Vi]
    ·simp only[go_sem,Vi]
   ·refine Sk <|Bn <|Tn <|Fe [4,5,6,13,14,15] Ab (Ev (by simp only[go_sem,BX hev];exact Ak)) ?_
    exact Ln (ws [0,1,2])
  ·refine Sx <|Tx <|Lx i g <|Bx <|?_
   exact Jn ((ws (l':=[(4,.bool false),(5,.ref 2 0)]) (σ':=[.box (.str c.Zd::.sl false (L Af c.Ze)::i64 c.Pay.Op::i64 c.Pay.N::(C1 i64 c.Pay.Unit.l++[.sl false (L cApi_Expr c.Pay.L)])) false,.box (i64 v.Has::C1 i64 v.V.l) false,.box [i64 0] false]) [0,1,2]).trans (ws [0,1,2]))
 intro _
 refine Te [4,5] Ab (Ev (by simp only[go_sem,BX hev];exact Ak)) ?_
 refine Sr ?_
 intro h
 obtain rfl:=Option.some.inj h
 refine Aj (Weak.refl _ _) ?_
 refine⟨_,[.box [i64 0] false],_,[.box [i64 0] false],[.bool true,i64 0],FI _ _,.inl ⟨.inr rfl,rfl⟩,?_,Ie,rfl,?_,⟨⟨rfl,.inr ⟨rfl,rfl⟩⟩,⟨rfl,.inl ⟨2,0,rfl,rfl,rfl⟩⟩,trivial⟩,Qh ?_,?_⟩
 ·simp only[go_sem]
 ·simp only[go_sem,Vi]
 ·simp only[go_sem,Vi]
 ·simp only[go_sem,Vi]
theorem LI{x:Api_Expr}{v:Api_Env}{r:Int×Int}(h:E4 x v=some r):Con (B rs) 23 [.agg (i64 x.Op::i64 x.N::(C1 i64 x.Unit.l++[.sl false (L cApi_Expr x.L)])),.agg (i64 v.Has::C1 i64 v.V.l)] [] (fun r' σ'=>r'=.tup [i64 r.1,i64 r.2]∧σ'=[]):=by
  unfold E4 at h
  replace h:=Ae h;obtain⟨y,hy,h⟩:=h
  cases y with
  | false=>
    have h':((H1 x 24).bind fun y=>if(!y)then some ((0:Int),(1:Int))else none)=some r:=by
      rw[hy];exact h
    refine Cw 13 [.tmp 4,.cell 5 29] Tryd.func23 (fun F hE=>?_) h'
    refine T0 [2,3,5] ?_
    refine Sq <|Bd fun c a =>Te [2,3,5,8] (o1 7 (GL a)) Ev ?_
    refine Cd ?_ ?_
    · refine T0 [4,5] ?_
      exact Sr <|Tr <|Rr
    · exact Sk <|Tn <|Rn
  | true=>
    rw[if_pos rfl]at h
    replace h:=Ae h;obtain⟨y2,hy2,h⟩:=h
    refine Ml (cf:=20) (rs:=[.tmp 4,.cell 5 29]) (N:=13) (m:=3) (sel:=[2]) (rfr:=[(4,i64 r.1),(5,.ref 2 0)]) (rfr':=[(4,i64 r.1),(5,.ref 0 0)]) (pre:=[_,_]) (caps:=[]) (fr1:=[(2,.ref 0 0),(3,.ref 1 0),(4,i64 0),(5,.ref 2 0),(8,.bool false)]) (σ1:=[.box (i64 x.Op::i64 x.N::(C1 i64 x.Unit.l++[.sl false (L cApi_Expr x.L)])) false,.box (i64 v.Has::C1 i64 v.V.l) false,.box [i64 0] false]) ok Tryd.func23 rfl (by decide +kernel) rfl rfl (Nat.le_of_ble_eq_true rfl) (fun F=>?_) rfl rfl rfl rfl rfl (fun ys hh=>by cases hh) rfl (by decide) (by decide) rfl Tryd.func20 rfl (by decide +kernel) (fun F D=>?_)
    · have hE:=(ok (rs:=rs)).env F
      refine Pre.step (Bp hE LY [2,3,4,5] (fr':=[(2,.ref 0 0),(3,.ref 1 0),(4,i64 0),(5,.ref 2 0)]) (σ':=[.box (i64 x.Op::i64 x.N::(C1 i64 x.Unit.l++[.sl false (L cApi_Expr x.L)])) false,.box (i64 v.Has::C1 i64 v.V.l) false,.box [i64 0] false]) ⟨_,Ab,by simp only[go_sem,Jv]⟩ JK) ?_
      refine Pre.step (Ao hE [2,3,4,5,8] (fr':=[(2,.ref 0 0),(3,.ref 1 0),(4,i64 0),(5,.ref 2 0),(8,.bool false)]) (σ':=[.box (i64 x.Op::i64 x.N::(C1 i64 x.Unit.l++[.sl false (L cApi_Expr x.L)])) false,.box (i64 v.Has::C1 i64 v.V.l) false,.box [i64 0] false]) ⟨_,o1 7 (GL hy),by simp only[go_sem]⟩ (ES (b:=false) rfl (by decide) (fun hb=>by cases hb) (fun _=>Kx JK))) ?_
      exact Pre.nil _
    refine DD (CV _ _ [2,3,4,5] _ _) ?_
    show Run ((B rs).env { F:=F,D:=D }) 3 _ ⟨Am 13 [(2,.ref 0 0),(3,.ref 1 0),(4,i64 0),(5,.ref 2 0)],[.box (i64 x.Op::i64 x.N::(C1 i64 x.Unit.l++[.sl false (L cApi_Expr x.L)])) false,.box (D2 v.Has v.V) false,.box [i64 0] false]⟩ _
    refine Fp ?_
    refine Xn (has:=v.Has) (v:=v.V) (X:=i64 x.Op::i64 x.N::(C1 i64 x.Unit.l++[.sl false (L cApi_Expr x.L)])) (r:=y2) ?_ ?_ ?_ ?_ ?_ ?_ ?_ ?_ ?_ ?_ ?_ ?_ ?_ ?_ ?_ ?_ ?_ ?_ ?_ ?_ ?_ ?_ ?_ ?_ ?_ ?_ ?_ ?_ ?_ ?_ (fun b m=>?_) ?_ ?_
    · rfl
    · rfl
    · rfl
    · rfl
    · rfl
    · rfl
    · rfl
    · rfl
    · rfl
    · rfl
    · rfl
    · rfl
    · rfl
    · rfl
    · rfl
    · rfl
    · rfl
    · rfl
    · kernel_rfl
    · kernel_rfl
    · kernel_rfl
    · kernel_rfl
    · kernel_rfl
    · kernel_rfl
    · kernel_rfl
    · kernel_rfl
    · kernel_rfl
    · intro F D fr hh
      simp only[go_sem,hh]
    · intro rs F D fr hh
      simp only[go_sem,hh]
    · intro β
      simp only[go_sem]
    · have hev:(⟨rs.r,some (b,m,v.Has,v.V)⟩:RS).ev=some (b,m,v.Has,v.V):=rfl
      exact Gc hev hy2
    · rintro z rfl
      obtain rfl:=Option.some.inj h
      refine Qf ⟨_,[.box [i64 0] false],_,[.box [i64 0] false],[i64 z,i64 0],FI _ _,.inl ⟨.inr rfl,rfl⟩,?_,Ie,rfl,?_,⟨⟨rfl,.inr ⟨rfl,rfl⟩⟩,⟨rfl,.inl ⟨2,0,rfl,rfl,rfl⟩⟩,trivial⟩,Qh ?_,?_⟩
      · simp only[go_sem]
      · simp only[go_sem]
      · simp only[go_sem]
      · simp only[go_sem]
    · rintro z rfl
      obtain rfl:=Option.some.inj h
      refine⟨_,[.box [.junk] false],_,[.box [i64 z] false,.box [i64 z] false],[i64 0,i64 z],FI _ _,.inr ⟨_,rfl,rfl⟩,?_,Mw,rfl,?_,⟨⟨rfl,.inr ⟨rfl,rfl⟩⟩,⟨rfl,.inl ⟨2,0,rfl,rfl,rfl⟩⟩,trivial⟩,Qh ?_,?_⟩
      · simp only[go_sem]
      · simp only[go_sem]
      · simp only[go_sem]
      · simp only[go_sem]
theorem EW{a b r}(h:Dj a b=some r):Con (B rs) 8 [.agg [.str a.Zd,i64 a.For,.sl false (L Ac a.Zf)],.agg (i64 b.Has::C1 i64 b.V.l)] [] (fun r' σ'=>r'=.tup [i64 r.1,i64 r.2.1,i64 r.2.2]∧σ'=[]):=by
 refine Cw 43 [.tmp 4,.tmp 5,.tmp 6] Tryd.func8 (fun F hE=>?_) h
 unfold Dj
 refine T0 [2,3] ?_
 refine Jo (fun _=>⟨Am 43 [],[]⟩) ?_ ?_
 ·intro z e
  refine T0 [3,12,13,14] ?_
  refine Sb ?_
  refine Lo (fun f=>⟨Am 43 [(3,.ref 0 0),(12,.sl false (L Ac a.Zf)),(13,i64 (a.Zf.length:Int)),(14,i64 f)],[.box (i64 b.Has::C1 i64 b.V.l) false]⟩) (ws [1]) ?_
  rintro f aa g c d
  show En a b f=some g→_
  unfold En
  refine T0 [3,12,13,14,15] ?_
  refine Sq <|Cd ?_ ?_
  ·refine Sk <|Tn <|Sq <|Sb <|Ck fun i =>Lt fun j k =>Lt fun m n =>Lt fun o p =>Lt fun q s =>Lt fun t u =>Lt fun v w =>Te (σ':=[_,.box (.str j::.sl false (L Af m)::i64 o::i64 q::(C1 i64 t.l++[.sl false (L cApi_Expr v)])) false]) [3,7,8,12,13,14] Ab (Ev (by simp only[go_sem,qR i,k,n,p,s,u,w];exact Ak)) ?_
   refine Bd fun ab x =>Te [3,7,8,9,10,12,13,14] (o1 22 (Hn x)) Ev ?_
   refine Sq <|T0 [3,7,8,9,10,12,13,14,26] ?_
   refine Cd ?_ ?_
   ·refine T0 [4,5,6] ?_
    exact Sr <|Tr <|Br <|Tr <|Lr d c <|Br <|Jr e <|Rr
   ·refine Sk <|Tn <|Sq <|T0 [3,7,8,12,13,14,29] ?_
    refine Cd ?_ ?_
    ·refine Sx <|Tx <|Bx <|Tn <|F0 [3,12,13,14] ?_
     exact Ln (ws [0])
    ·refine Sk <|Tn <|Sq <|Bd fun ac y =>Te [4,7,10] (o1 34 (LI y)) Ev ?_
     refine T0 [4,7,10,38] ?_
     refine Cd ?_ ?_
     ·refine T0 [4,5,6] ?_
      exact Sr <|Tr <|Br <|Tr <|Lr d c <|Br <|Jr e <|Rr
     ·refine Sk <|Tn <|T0 [4,5,6] ?_
      exact Sr <|Br <|Tr <|Lr d c <|Br <|Jr e <|Rr
  ·refine Sx <|Tx <|Lx d c <|Bx <|?_
   exact Jn ((ws (l':=[]) (σ':=[]) []).trans (ws []))
 intro _
 refine T0 [4,5,6] ?_
 exact Sr <|Rr
theorem IH{r}(h:top_tariffSane  = some r):Con (B rs) 4 [] [] (fun r' σ'=>r'=.bool r∧σ'=[]):=by
 refine Cw 34 [.tmp 0] Tryd.func4 (fun F hE=>?_) h
 unfold top_tariffSane
 refine T0 [] ?_
 refine Bd fun g e =>Te [1,3] (o1 8 (GK e)) Ev ?_
 refine Bd fun i f =>Te [3,4,5,6] (o1 16 (EW f)) (Ev (by simp only[go_sem,AbO,AaW,Yt];exact Ak)) ?_
 refine Tw [0] (fun d=>⟨Am 34 [(0,.bool d)],[]⟩) ?_ ?_
 ·intro _
  refine Sp (fun a=>?_) fun a=>?_
  ·refine Sp (fun b=>?_) fun b=>?_
   ·refine Sp (fun c=>?_) fun c=>?_
    ·exact Lf Ab (Ev (by simp only[go_sem,a,b,c];exact Ak)) (ws [])
    ·exact Lf Ab (Ev (by simp only[go_sem,a,b,c];exact Ak)) (ws [])
   ·exact Lf Ab (Ev (by simp only[go_sem,a,b];exact Ak)) (ws [])
  ·exact Lf Ab (Ev (by simp only[go_sem,a];exact Ak)) (ws [])
 intro d
 exact Sr <|Rr
variable {rs:RS}
theorem Iz{aa b c r}(h:Da aa b c=some r):Con (B rs) 3 [.str aa,.agg (i64 b.Has::C1 i64 b.V.l),i64 c] [] (fun r' σ'=>r'=.bool r∧σ'=[]):=by
 refine Cw 188 [.tmp 6] Tryd.func3 (fun F hE=>?_) h
 unfold Da
 refine T0 [0,2,4] ?_
 refine Sq <|Bd fun aZ aq =>Te [0,2,4,24] (o1 23 (IH aq)) Ev ?_
 refine Cd ?_ ?_
 ·refine T0 [6] ?_
  exact Sr <|Tr <|Rr
 ·refine Sk <|Tn <|Sq <|T0 [0,2,4,27] ?_
  refine Cd ?_ ?_
  ·refine T0 [6] ?_
   exact Sr <|Tr <|Rr
  ·refine Sk <|Tn <|Bd fun a ar =>Te [2,4,7,9] (o1 30 (GK ar)) Ev ?_
   refine Sq ?_
   refine Tw [2,4,7,62] (fun ab=>⟨Am 188 [(2,i64 c),(4,.ref 0 0),(7,.ref 1 0),(62,.bool ab)],[.box (i64 b.Has::C1 i64 b.V.l) false,.box [.str a.1.Zd,i64 a.1.For,.sl false (L Ac a.1.Zf)] false]⟩) ?_ ?_
   ·intro _
    refine Sp (fun d=>?_) fun d=>?_
    ·exact Lf Ab (Ev (by simp only[go_sem,d];exact Ak)) (ws [0,1])
    ·refine Bd fun a0 j=>?_
     refine Sp (fun f=>?_) fun f=>?_
     ·exact Lf (o1 38 (D4 j)) (Ev (by simp only[go_sem,d,f];exact Ak)) (ws [0,1])
     ·refine Sp (fun k=>?_) fun k=>?_
      ·exact Lf (o1 38 (D4 j)) (Ev (by simp only[go_sem,d,f,k];exact Ak)) (ws [0,1])
      ·refine Sp (fun o=>?_) fun o=>?_
       ·exact Lf (o1 38 (D4 j)) (Ev (by simp only[go_sem,d,f,k,o];exact Ak)) (ws [0,1])
       ·refine Sp (fun t=>?_) fun t=>?_
        ·exact Lf (o1 38 (D4 j)) (Ev (by simp only[go_sem,d,f,k,o,t];exact Ak)) (ws [0,1])
        ·exact Lf (o1 38 (D4 j)) (Ev (by simp only[go_sem,d,f,k,o,t];exact Ak)) (ws [0,1])
   intro ab
   refine Cd ?_ ?_
   ·refine T0 [6] ?_
    exact Sr <|Tr <|Rr
   ·refine Sk <|Tn <|?_
    refine Jo (fun _=>⟨Am 188 [(2,i64 c),(4,.ref 0 0),(7,.ref 1 0)],[.box (i64 b.Has::C1 i64 b.V.l) false,.box [.str a.1.Zd,i64 a.1.For,.sl false (L Ac a.1.Zf)] false]⟩) ?_ ?_
    ·intro a1 au
     refine T0 [2,4,7,64,65] ?_
     refine Sb ?_
     refine Lo (fun p=>⟨Am 188 [(2,i64 c),(4,.ref 0 0),(7,.ref 1 0),(64,.agg (C1 i64 b.V.l)),(65,i64 p)],[.box (i64 b.Has::C1 i64 b.V.l) false,.box [.str a.1.Zd,i64 a.1.For,.sl false (L Ac a.1.Zf)] false]⟩) (ws [0,1]) ?_
     rintro p a2 av ac ad
     show CC b p=some av→_
     unfold CC
     refine T0 [2,4,7,64,65,66] ?_
     refine Sq <|Cd ?_ ?_
     ·refine Sk <|Tn <|Sq <|Sb <|Ck fun aw =>Lt fun ax ay =>Te (fr':=[(2,_),(4,_),(7,_),(11,i64 ax),(64,_),(65,_)]) [2,4,7,11,64,65] Ab (Ev (by simp only[go_sem,qR aw,ay];exact Ak)) ?_
      refine Tw [2,4,7,64,65,73] (fun ae=>⟨Am 188 [(2,i64 c),(4,.ref 0 0),(7,.ref 1 0),(64,.agg (C1 i64 b.V.l)),(65,i64 p),(73,.bool ae)],[.box (i64 b.Has::C1 i64 b.V.l) false,.box [.str a.1.Zd,i64 a.1.For,.sl false (L Ac a.1.Zf)] false]⟩) ?_ ?_
      ·intro _
       refine Sp (fun u=>?_) fun u=>?_
       ·exact Lf Ab (Ev (by simp only[go_sem,u];exact Ak)) (ws [0,1])
       ·exact Lf Ab (Ev (by simp only[go_sem,u];exact Ak)) (ws [0,1])
      intro ae
      refine Cd ?_ ?_
      ·refine T0 [6] ?_
       exact Sr <|Br <|Tr <|Lr ad ac <|Br <|Jr au <|Rr
      ·refine Sk <|Bn <|Tn <|F0 [2,4,7,64,65] ?_
       exact Ln (ws [0,1])
     ·refine Sx <|Tx <|Lx ad ac <|Bx <|?_
      exact Jn ((ws (l':=[(2,i64 c),(4,.ref 0 0),(7,.ref 1 0)]) (σ':=[.box (i64 b.Has::C1 i64 b.V.l) false,.box [.str a.1.Zd,i64 a.1.For,.sl false (L Ac a.1.Zf)] false]) [0,1]).trans (ws [0,1]))
    intro _
    refine T0 [2,4,7,12] ?_
    refine Jo (fun w=>⟨Am 188 [(2,i64 c),(4,.ref 0 0),(7,.ref 1 0),(12,i64 w)],[.box (i64 b.Has::C1 i64 b.V.l) false,.box [.str a.1.Zd,i64 a.1.For,.sl false (L Ac a.1.Zf)] false]⟩) ?_ ?_
    ·intro a3 az
     refine T0 [2,4,7,12,76,77,78] ?_
     refine Sb ?_
     refine Lo (fun(v:Int×Int)=>(⟨Am 188 [(2,i64 c),(4,.ref 0 0),(7,.ref 1 0),(12,i64 v.1),(76,.sl false (L Ac a.1.Zf)),(77,i64 (a.1.Zf.length:Int)),(78,i64 v.2)],[.box (i64 b.Has::C1 i64 b.V.l) false,.box [.str a.1.Zd,i64 a.1.For,.sl false (L Ac a.1.Zf)] false]⟩:St)) (ws [0,1]) ?_
     rintro⟨af,ag⟩ a4 aA ah ai
     show CF b a af ag=some aA→_
     unfold CF
     refine T0 [2,4,7,12,76,77,78,79] ?_
     refine Sq <|Cd ?_ ?_
     ·refine Sk <|Tn <|?_
      refine Jo (fun aj=>⟨Am 188 [(2,i64 c),(4,.ref 0 0),(7,.ref 1 0),(12,i64 aj),(76,.sl false (L Ac a.1.Zf)),(77,i64 (a.1.Zf.length:Int)),(78,i64 ag)],[.box (i64 b.Has::C1 i64 b.V.l) false,.box [.str a.1.Zd,i64 a.1.For,.sl false (L Ac a.1.Zf)] false]⟩) ?_ ?_
      ·intro a5 aB
       refine Sb <|Ck fun aC =>Lt fun aD aE =>Lt fun aF aG =>Lt fun aH aI =>Lt fun aJ aK =>Lt fun aL aM =>Lt fun aN aO =>Te (σ':=[_,_,.box (.str aD::.sl false (L Af aF)::i64 aH::i64 aJ::(C1 i64 aL.l++[.sl false (L cApi_Expr aN)])) false]) [2,4,7,12,14,76,77,78] Ab (Ev (by simp only[go_sem,qR aC,aE,aG,aI,aK,aM,aO];exact Ak)) ?_
       refine Bd fun a6 aP =>Te [2,4,7,12,15,16,76,77,78] (o1 85 (Hn aP)) Ev ?_
       refine Sq <|T0 [2,4,7,12,15,76,77,78,89] ?_
       refine Cd ?_ ?_
       ·refine T0 [6] ?_
        exact Sr <|Tr <|Br <|Jr aB <|Lr ai ah <|Br <|Jr az <|Rr
       ·refine Sk <|Tn <|T0 [2,4,7,12,76,77,78,90] ?_
        refine Cd ?_ ?_
        ·refine F0 [2,4,7,12,76,77,78] ?_
         exact Bn <|Jn (ws [0,1])
        ·exact Sk <|Bn <|Jn (ws [0,1])
      intro aj
      refine F0 [2,4,7,12,76,77,78] ?_
      exact Ln (ws [0,1])
     ·refine Sx <|Tx <|Lx ai ah <|Bx <|?_
      exact Jn ((ws (l':=[(2,i64 c),(4,.ref 0 0),(7,.ref 1 0),(12,i64 af)]) (σ':=[.box (i64 b.Has::C1 i64 b.V.l) false,.box [.str a.1.Zd,i64 a.1.For,.sl false (L Ac a.1.Zf)] false]) [0,1]).trans (ws [0,1]))
    intro w
    refine T0 [2,4,7,12,17] ?_
    refine Ck fun ak =>Ck fun al =>Ck fun am =>Lt fun x aQ =>?_
    intro h
    refine VF hE Dl [[],[0],[],[0,1,2],[0,1,2,3],[0,1,2,3,4],[],[6],[],[6,7,8],[0,1,2,3,4,5,6,7,8,9],[0,1,2,3,4,5,6,7,8,9,10],[0,1,2,3,4,5,6,7,8,9,10,11]] (by kernel_rfl) [(7,1),(101,1)] [(102,0)] [] [(100,3)] [2,4,7,12,17,100,101,102] (by kernel_rfl) (fr':=[(2,i64 c),(4,.ref 0 0),(7,.ref 1 0),(12,i64 w),(17,.ref 2 0),(100,.bs true 3 (([nth a.1.Zf c.toNat]:List Api_Clause).length) 0 (([nth a.1.Zf c.toNat]:List Api_Clause).length)),(101,.ref 1 2),(102,.sl false (L Ac a.1.Zf))]) (σ':=[.box (i64 b.Has::C1 i64 b.V.l) false,.box [.str a.1.Zd,i64 a.1.For,.sl false (L Ac a.1.Zf)] false,.box [.str a.1.Zd,i64 a.1.For,.bs false 3 (x.length) 0 (x.length)] false,.buf 9 (L Ac x) false]) ⟨rfl,rfl,trivial⟩ ⟨rfl,trivial⟩ trivial ⟨rfl,trivial⟩ ⟨_,Ab,?_⟩ ?_
    ·subst aQ;first|(simp only[go_sem,qR ak,al,am];done)|(simp only[go_sem,qR ak,al,am];simp only[Nat.add_comm 1])
    revert h
    refine Ck fun aR =>Ck fun aS =>Lt fun g aT =>De (σ':=[_,_,.box [.str a.1.Zd,i64 a.1.For,.bs false 3 (g.length) 0 (g.length)] false,.buf 9 (L Ac g) false]) [[],[0],[],[2],[],[4],[2,3,4,5],[0,1,2,3,4,5,6],[0,1,2,3,4,5,6,7],[0,1,2,3,4,5,6,7,8]] [4,7,12,17] Ab (Ev (by simp only[go_sem,aR,aS,aT];exact Ak)) ?_
    refine Bd fun an aU =>Te [4,7,9,12,17,18,19] (o1 119 (EW aU)) Ev ?_
    refine Bd fun aV aW =>Te [7,9,12,17,18,19,20,21,22] (o1 126 (EW aW)) Ev ?_
    refine Sq ?_
    refine Tw [7,9,17,19,21,148] (fun ao=>⟨Am 188 [(7,.ref 0 0),(9,i64 an.2.2),(17,.ref 1 0),(19,i64 an.2.1),(21,i64 aV.2.1),(148,.bool ao)],[.box [.str a.1.Zd,i64 a.1.For,.sl false (L Ac a.1.Zf)] false,.box [.str a.1.Zd,i64 a.1.For,.bs false 2 (g.length) 0 (g.length)] false,.buf 9 (L Ac g) false]⟩) ?_ ?_
    ·intro _
     refine Sp (fun m=>?_) fun m=>?_
     ·exact Lf Ab (Ev (by simp only[go_sem,m];exact Ak)) (ws [1,2,3])
     ·refine Sp (fun q=>?_) fun q=>?_
      ·exact Lf Ab (Ev (by simp only[go_sem,m,q];exact Ak)) (ws [1,2,3])
      ·refine Sp (fun y=>?_) fun y=>?_
       ·exact Lf Ab (Ev (by simp only[go_sem,m,q,y];exact Ak)) (ws [1,2,3])
       ·exact Lf Ab (Ev (by simp only[go_sem,m,q,y];exact Ak)) (ws [1,2,3])
    intro ao
    refine Cd ?_ ?_
    ·refine T0 [6] ?_
     exact Sr <|Tr <|Rr
    ·refine Sk <|Tn <|?_
     refine Dw [[],[0],[0,1],[0,1,2],[0,1,2,3],[0,1,2,3,4],[0,1,2,3,4,5],[0,1,2,3,4,5],[0,1,2,3,4,5,7],[0,1,2,3,4,5,7,8],[0,1,2,3,4,5,6,7,8,9],[0,1,2,3,4,5,6,7,8,9,10],[0,1,2,3,4,5,6,7,8,9,10,11],[0,1,2,3,4,5,6,7,8,9,10,11,12],[0,1,2,3,4,5,6,7,8,9,10,11,12,13],[0,1,2,3,4,5,6,7,8,9,10,11,12,13,14],[0,1,2,3,4,5,6,7,8,9,10,11,12,13,14,15],[0,1,2,3,4,5,6,7,8,9,10,11,12,13,14,15,16],[0,1,2,3,4,5,6,7,8,9,10,11,12,13,14,15,16],[0,1,2,3,4,5,6,7,8,9,10,11,12,13,14,15,16,18],[0,1,2,3,4,5,6,7,8,9,10,11,12,13,14,15,16,18,19],[0,1,2,3,4,5,6,7,8,9,10,11,12,13,14,15,16,17,18,19,20],[0,1,2,3,4,5,6,7,8,9,10,11,12,13,14,15,16,17,18,19,20,21],[0,1,2,3,4,5,6,7,8,9,10,11,12,13,14,15,16,17,18,19,20,21,22],[0,1,2,3,4,5,6,7,8,9,10,11,12,13,14,15,16,17,18,19,20,21,22,23],[0,1,2,3,4,5,6,7,8,9,10,11,12,13,14,15,16,17,18,19,20,21,22,23,24],[0,1,2,3,4,5,6,7,8,9,10,11,12,13,14,15,16,17,18,19,20,21,22,23],[0,1,2,3,4,5,6,7,8,9,10,11,12,13,14,15,16,17,18,19,20,21,22,23,24,25,26],[0,1,2,3,4,5,6,7,8,9,10,11,12,13,14,15,16,17,18,19,20,21,22,23,24,25,26,27],[0,1,2,3,4,5,6,7,8,9,10,11,12,13,14,15,16,17,18,19,20,21,22,23,24,25,26,27,28],[0,1,2,3,4,5,6,7,8,9,10,11,12,13,14,15,16,17,18,19,20,21,22,23],[0,1,2,3,4,5,6,7,8,9,10,11,12,13,14,15,16,17,18,19,20,21,22,23,30],[0,1,2,3,4,5,6,7,8,9,10,11,12,13,14,15,16,17,18,19,20,21,22,23],[0,1,2,3,4,5,6,7,8,9,10,11,12,13,14,15,16,17,18,19,20,21,22,23,30,31,32],[0,1,2,3,4,5,6,7,8,9,10,11,12,13,14,15,16,17,18,19,20,21,22,23,30,31,32,33],[0,1,2,3,4,5,6,7,8,9,10,11,12,13,14,15,16,17,18,19,20,21,22,23,30,31,32,33,34],[0,1,2,3,4,5,6,7,8,9,10,11,12,13,14,15,16,17,18,19,20,21,22,23,24,25,26,27,28,29,30,31,32,33,34,35],[0,1,2,3,4,5,6,7,8,9,10,11,12,13,14,15,16,17,18,19,20,21,22,23,24,25,26,27,28,29,30,31,32,33,34,35,36],[0,1,2,3,4,5,6,7,8,9,10,11,12,13,14,15,16,17,18,19,20,21,22,23,24,25,26,27,28,29,30,31,32,33,34,35,36,37],[0,1,2,3,4,5,6,7,8,9,10,11,12,13,14,15,16,17,18,19,20,21,22,23,24,25,26,27,28,29,30,31,32,33,34,35,36,37,38]] [6] (fun ap=>⟨Am 188 [(6,.bool ap)],[]⟩) ?_ ?_
     ·intro _
      refine Sp (fun e=>?_) fun e=>?_
      ·exact Lf Ab (Ev (by simp only[go_sem,e];exact Ak)) (ws [])
      ·refine Sp (fun i=>?_) fun i=>?_
       ·refine Sp (fun n=>?_) fun n=>?_
        ·refine Sp (fun s=>?_) fun s=>?_
         ·refine Sp (fun z=>?_) fun z=>?_
          ·refine Ck fun aX =>Ck fun aY =>?_
           exact Lf Ab (Ev (by simp only[go_sem,e,i,n,s,z,qR aX,qR aY];exact Ak)) (ws [])
          ·exact Lf Ab (Ev (by simp only[go_sem,e,i,n,s,z];exact Ak)) (ws [])
         ·exact Lf Ab (Ev (by simp only[go_sem,e,i,n,s];exact Ak)) (ws [])
        ·exact Lf Ab (Ev (by simp only[go_sem,e,i,n];exact Ak)) (ws [])
       ·exact Lf Ab (Ev (by simp only[go_sem,e,i];exact Ak)) (ws [])
     intro ap
     exact Sr <|Rr
end Go.Proofs.YtldngkmkhfddpaaDoor
