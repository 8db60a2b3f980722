/-
  Part 47.
-/
import Derived.Test.YtioapcamanmoiaaGreatDoorRows
import Derived.Test.YtioapcamanmoiaaGreatDoorYR26
import Derived.Test.YtioapcamanmoiaaGreatDoorYR32
import Derived.Test.YtioapcamanmoiaaGreatDoorYR42
import Derived.Test.YtioapcamanmoiaaGreatDoorYR46
import Derived.WalkKit
import Derived.ProofKit
import Derived.OpenShut
import Derived.JoinedCond
import Derived.LaidMore
import Derived.Lay
import Derived.SevenTiedAt
import Derived.Stop.Joined
import Derived.Lib.Tables
import Derived.KernelRfl
namespace Go.Proofs.YtioapcamanmoiaaGreatDoor
open Go.Rv Go.ChangeShapes Go.WideShapes Go.ChangeAt Go.RowKit
set_option linter.unusedVariables false
set_option linter.unusedSimpArgs false
theorem Wc(H:Type)(l:List (DataW H)):(l.map (Rows.uptoBulk (H:=H))).sum=Rows.uptoBulkAll l:=by
 induction l with
 |nil=>rfl
 |cons x l ih=>simp only[Ap1,List.sum_cons,ih,Rows.uptoBulkAll]
theorem EN:BulkOk (fun H=>Rows.uptoBulk (H:=H)) where
 one:=fun H d=>by
  cases d with
  |lit l=>cases l<;>simp[Rows.uptoBulk]
  |_=>simp[Rows.uptoBulk]
 str:=fun H l=>by simp[Rows.uptoBulk]
 slice:=fun H e s=>by rw[Wc];simp only[Rows.uptoBulk];omega
 agg:=fun H p=>by rw[Wc];simp only[Rows.uptoBulk];omega
theorem XC{P:Program}{B:∀H:Type,DataW H→Nat}{t:TypeId}{α:Type}{c:α→List AV}{sz sz':α→Nat}{ok ok':α→Prop}(h:Opens P B t c sz ok)(h1:∀x,sz' x≤sz x)(h2:∀x,ok x→ok' x):Opens P B t c sz' ok':=by
 intro H enc W pr hpr fuel cs d ps hd;obtain⟨x,e1,e2,e3,e4⟩:=h H enc W pr hpr fuel cs d ps hd;exact⟨x,e1,Aqn (h1 x) e2,h2 x e3,e4⟩
theorem Mu{α:Type}{c:α→List AV}{k:Nat}(hk:∀x,(c x).length=k):∀(l:List α) (j:Nat) (y:AV),(l.flatMap c)[j]?=some y→∃i r x,j=i*k+r∧r<k∧l[i]?=some x∧(c x)[r]?=some y:=by
  intro l
  induction l with
  |nil=>intro j y h;simp at h
  | cons a l ih=>
    intro j y h;rw[List.flatMap_cons]at h;by_cases hj:j<k
    · rw[AoU (by rw[hk];exact hj)]at h
      exact⟨0,j,a,by omega,hj,rfl,h⟩
    · rw[AoS (by rw[hk];omega),hk]at h
      obtain⟨i,r,x,e1,e2,e3,e4⟩:=ih _ _ h;exact⟨i+1,r,x,by rw[Apd,Apw];omega,e2,by simpa using e3,e4⟩
theorem Tq:Tryz.prog.cellsOf 52=53:=by kernel_rfl
theorem Bm:Tryz.prog.cellsOf 3=1:=by kernel_rfl
theorem Ej:Opens Tryz.prog (fun H=>Rows.uptoBulk (H:=H)) 3 JB (fun _=>1) I64:=AaG EN Tryz.underlying3
theorem Nq:Tryz.prog.cellsOf 42=32:=by kernel_rfl
theorem Qc:Tryz.prog.cellsOf 5=1:=by kernel_rfl
theorem AdC:Opens Tryz.prog (fun H=>Rows.uptoBulk (H:=H)) 5 cU8 (fun _=>1) (fun s=>True):=Adi EN Tryz.underlying5
theorem AeC:Opens Tryz.prog (fun H=>Rows.uptoBulk (H:=H)) 42 (fun a:Arr UInt8 32=>C1 u8 a.l) (fun _=>0) (fun s=>True):=XC (Abf EN Tryz.underlying42 Nq Qc AdC) (fun _=>Apx _) (fun _ _=>trivial)
theorem NG:Tryz.prog.cellsOf 47=16:=by kernel_rfl
theorem ME:Tryz.prog.cellsOf 44=2:=by kernel_rfl
def V5(s:Aoz):Prop:=I64 s.Zb∧I64 s.No∧True
theorem AfQ:Opens Tryz.prog (fun H=>Rows.uptoBulk (H:=H)) 44 Wa (fun _=>0) (fun s=>V5 s) :=
 Fj EN Tryz.underlying44 (n:=2) ME
  (A0 (k:=1) rfl Bm (fun _=>rfl) Ej (A0 (k:=1) rfl Bm (fun _=>rfl) Ej FM))
  (fun x=>(⟨x.1,x.2.1⟩:Aoz)) (fun _=>rfl) (fun _=>rfl) (fun x=>Apx _) (fun x h=>h)
theorem XB:Tryz.prog.cellsOf 9=1:=by kernel_rfl
theorem Ajk:Opens Tryz.prog (fun H=>Rows.uptoBulk (H:=H)) 9 Akt (fun l=>l.length+1) (fun s=>s.length≤maxLen):=ZT EN Tryz.underlying9
theorem U3:Tryz.prog.cellsOf 45=1:=by kernel_rfl
theorem L2:Tryz.prog.cellsOf 182=3:=by kernel_rfl
theorem Ye:Tryz.prog.cellsOf 4=1:=by kernel_rfl
theorem Ai8:Opens Tryz.prog (fun H=>Rows.uptoBulk (H:=H)) 4 AbZ (fun _=>1) (fun s=>True):=Xf EN Tryz.underlying4
def Kz(s:AoA):Prop:=I64 s.Za∧I64 s.Zl1∧True∧True
theorem Ab1:Opens Tryz.prog (fun H=>Rows.uptoBulk (H:=H)) 182 Ah (fun _=>0) (fun s=>Kz s) :=
 Fj EN Tryz.underlying182 (n:=3) L2
  (A0 (k:=1) rfl Bm (fun _=>rfl) Ej (A0 (k:=1) rfl Bm (fun _=>rfl) Ej (A0 (k:=1) rfl Ye (fun _=>rfl) Ai8 FM)))
  (fun x=>(⟨x.1,x.2.1,x.2.2.1⟩:AoA)) (fun _=>rfl) (fun _=>rfl) (fun x=>Apx _) (fun x h=>h)
theorem Ae9:Opens Tryz.prog (fun H=>Rows.uptoBulk (H:=H)) 45 (cSl Ah) (szL (fun _=>0)) (fun s=>(s.length≤maxLen∧∀t∈s,Kz t)):=M1 EN Tryz.underlying45 L2 (fun _=>rfl) Ab1
def RS(s:AoB):Prop:=I64 s.Za∧V5 s.Ref∧I64 s.Zn1∧I64 s.Zb1∧I64 s.Zc∧I64 s.Zo1∧I64 s.Zw∧I64 s.To∧I64 s.Code∧I64 s.Zp1∧I64 s.Zq1∧I64 s.Zr1∧I64 s.Zs1∧s.Zt1.length≤maxLen∧(s.Zu1.length≤maxLen∧∀t∈s.Zu1,Kz t)∧True
theorem Agu:Opens Tryz.prog (fun H=>Rows.uptoBulk (H:=H)) 47 AB (fun _=>0) (fun s=>RS s) :=
 Fj EN Tryz.underlying47 (n:=16) NG
  (A0 (k:=1) rfl Bm (fun _=>rfl) Ej (A0 (k:=2) rfl ME (fun _=>rfl) AfQ (A0 (k:=1) rfl Bm (fun _=>rfl) Ej (A0 (k:=1) rfl Bm (fun _=>rfl) Ej (A0 (k:=1) rfl Bm (fun _=>rfl) Ej (A0 (k:=1) rfl Bm (fun _=>rfl) Ej (A0 (k:=1) rfl Bm (fun _=>rfl) Ej (A0 (k:=1) rfl Bm (fun _=>rfl) Ej (A0 (k:=1) rfl Bm (fun _=>rfl) Ej (A0 (k:=1) rfl Bm (fun _=>rfl) Ej (A0 (k:=1) rfl Bm (fun _=>rfl) Ej (A0 (k:=1) rfl Bm (fun _=>rfl) Ej (A0 (k:=1) rfl Bm (fun _=>rfl) Ej (A0 (k:=1) rfl XB (fun _=>rfl) Ajk (A0 (k:=1) rfl U3 (fun _=>rfl) Ae9 FM)))))))))))))))
  (fun x=>(⟨x.1,x.2.1,x.2.2.1,x.2.2.2.1,x.2.2.2.2.1,x.2.2.2.2.2.1,x.2.2.2.2.2.2.1,x.2.2.2.2.2.2.2.1,x.2.2.2.2.2.2.2.2.1,x.2.2.2.2.2.2.2.2.2.1,x.2.2.2.2.2.2.2.2.2.2.1,x.2.2.2.2.2.2.2.2.2.2.2.1,x.2.2.2.2.2.2.2.2.2.2.2.2.1,x.2.2.2.2.2.2.2.2.2.2.2.2.2.1,x.2.2.2.2.2.2.2.2.2.2.2.2.2.2.1⟩:AoB)) (fun _=>rfl) (fun _=>rfl) (fun x=>Apx _) (fun x h=>h)
theorem NH:Tryz.prog.cellsOf 50=2:=by kernel_rfl
theorem Ns:Tryz.prog.cellsOf 48=1:=by kernel_rfl
theorem Aab:Opens Tryz.prog (fun H=>Rows.uptoBulk (H:=H)) 48 R8 (fun _=>1) (fun s=>True):=Abc EN Tryz.underlying48
def Wl(s:AoC):Prop:=True∧True∧True
theorem Afw:Opens Tryz.prog (fun H=>Rows.uptoBulk (H:=H)) 50 Q0 (fun _=>0) (fun s=>Wl s) :=
 Fj EN Tryz.underlying50 (n:=2) NH
  (A0 (k:=1) rfl Ns (fun _=>rfl) Aab (A0 (k:=1) rfl Ns (fun _=>rfl) Aab FM))
  (fun x=>(⟨x.1,x.2.1⟩:AoC)) (fun _=>rfl) (fun _=>rfl) (fun x=>Apx _) (fun x h=>h)
def H6(s:AoD):Prop:=I64 s.Zb∧I64 s.No∧True∧I64 s.Zw1∧RS s.Zx1∧Wl s.Sig∧True
theorem Aiv(x:AoD):(Ad x).length=53:=by
 simp only[Ad,Ao7,Ape,Apr,DG,Arr.h]
theorem Y1:Opens Tryz.prog (fun H=>Rows.uptoBulk (H:=H)) 52 Ad (fun _=>0) (fun s=>H6 s) :=
 Fj EN Tryz.underlying52 (n:=53) Tq
  (A0 (k:=1) rfl Bm (fun _=>rfl) Ej (A0 (k:=1) rfl Bm (fun _=>rfl) Ej (A0 (k:=32) rfl Nq (fun a=>by simp[DG,a.h]) AeC (A0 (k:=1) rfl Bm (fun _=>rfl) Ej (A0 (k:=16) rfl NG (fun _=>rfl) Agu (A0 (k:=2) rfl NH (fun _=>rfl) Afw FM))))))
  (fun x=>(⟨x.1,x.2.1,x.2.2.1,x.2.2.2.1,x.2.2.2.2.1,x.2.2.2.2.2.1⟩:AoD)) (fun x=>by simp only[Ad,AB,Q0,Ao5,ApC,Ap8,Aqf,JB,R8,cU8,Akt,AbZ,cSl]) Aiv (fun x=>Apx _) (fun x h=>h)
theorem Aej:Opens Tryz.prog (fun H=>Rows.uptoBulk (H:=H)) 63 (cSl cU8) (szL (fun _=>1)) (fun s=>(s.length≤maxLen∧∀t∈s,True)):=M1 EN Tryz.underlying63 Qc (fun _=>rfl) AdC
theorem own:ownKnob Tryz.prog.godebug=none:=by kernel_rfl
theorem Ago:laidOutB Tryz.prog=true:=by kernel_rfl
abbrev TL:List (String×DataW Unit):=[("wagonpool/digest.k", Rows.laid_wagonpool_digest_k)]
def kz:List Int:=glob3.l.map fun x=>(x.toNat:Int)
theorem Ah1:kz.length=64:=by simp[kz,glob3.h]
theorem Afb:(Rows.laid_wagonpool_digest_k:DataW Unit)=.agg (kz.map fun n=>.lit (.int .u32 n)):=by kernel_rfl
theorem AdB{W:World}(h:laidMetH Tryz.prog TL W)(r:Nat)(hr:r<64):W.cell? ⟨3,r,none⟩=some (.int .u32 (kz.getD r 0)):=by
 rw[MakeChecks.laidMetH_plain _ _ _ (by kernel_rfl)]at h;obtain⟨ps,⟨g,t,cs,fuel,p,q,hg,ht,hv,hd,_,_⟩,_,_⟩:=h;obtain rfl:=AoR ((show Tryz.prog.globalNamed "wagonpool/digest.k" = some 3 by kernel_rfl).symm.trans hg);obtain rfl:=AoR ((show(Tryz.prog.globals[3]?).map (·.type)=some 232 by kernel_rfl).symm.trans ht);rw[Afb]at hd;obtain⟨xs,m,_,ex,_,hl,hel⟩:=DataW.trod_array Tryz.underlying232 hd;have c5:Tryz.prog.cellsOf 220=1:=by kernel_rfl
 have hE:=hel r hr;rw[c5,AqK,AoN (by omega)]at hE;obtain⟨z,e1,e2,_⟩:=DataW.trod_int Tryz.underlying220 hE;have hlen:=Ah1;have e3:(xs.map (·.1))=kz.map fun n=>.lit (.int .u32 n):=(DataW.agg.inj (Prod.mk.inj ex).1).symm
 have e4:(xs.map (·.1))[r]?=(kz.map fun n=>(DataW.lit (.int .u32 n):DataW Unit))[r]?:=by rw[e3]
 rw[Ao4,Ao4,AoN (by omega:r<xs.length),AoN (by omega:r<kz.length),e2]at e4
 have hz:z=kz.getD r 0:=by
  simp only[App,AoM,DataW.lit.injEq,Lit.int.injEq,true_and]at e4;rw[e4,List.getD,AoN (by omega:r<kz.length)];rfl
 rw[World.var?_cell hg hv r,←hz]
 have:cs.toList[r]?=some (.int .u32 z):=by
  have h0:((cs.toList.drop r).take 1)[0]?=some (.int .u32 z):=by rw[e1];rfl
  simpa using h0
 simpa using this
theorem Anr{W:World}(h:laidMetH Tryz.prog TL W):Mem (B.env noF) W [] []:=by
 refine⟨rfl,fun id b ab h=>by simp at h,fun id id' b b' β h=>by simp at h,fun a h=>h.elim,fun i cs hG=>?_,fun t m h=>(by have h':(none:Option MapS)=some m:=h;cases h'),fun i p h=>(by have h':(none:Option (Array Value))=some p:=h;cases h')⟩;have hG':(if i=3 then some (C1 u32 glob3.l)else none)=some cs:=hG;by_cases hi:i=3
 ·rw[AoO hi]at hG';cases hG';subst hi;refine⟨cell?_lt (AdB h 0 (by omega)),(by rintro⟨id,b,hb,_⟩;simp at hb),fun _ hf=>hf,fun j=>.int .u32 (kz.getD j 0),fun j x hj=>?_⟩
  have hj64:j<64:=by
   have:=(AoK.1 hj).1;rwa[DG]at this
  have hx:x=.int .u32 (kz.getD j 0):=by
   simp only[C1,Ao4,AoL]at hj;obtain⟨y,hy,rfl⟩:=hj;simp[kz,u32,Ao3,hy]
  subst hx;exact⟨AdB h j hj64,.int _ _ _,rfl⟩
 ·rw[AoQ hi]at hG';cases hG'
theorem WX{f:FuncId}{avs:List AV}(h:Con B f avs [] (fun r σ'=>r=.bool true∧σ'=[])){fn:Func}{c:Code}(hf:B.P.funcs[f]?=some fn)(hb:fn.body=some c)(hn:(fn.name == "runtime.NumGoroutine")=false) {W:World} (hL:laidMetH Tryz.prog TL W) {args:Array Value} (ha:BA W (A4 (B.env noF) []) [] args.toList avs):Calls B.P f args W fun e W'=>e=.returned (.bool true)∧Below W.heap.size W W':=by
 refine((h.call (fun _=>False) W [] args (Anr hL) ha).calls hf hb hn).mono ?_;rintro e w' ⟨v,r,σ',g',rfl,⟨rfl,rfl⟩,hm,he,hr⟩;exact⟨by rw[E5 hr],he.below⟩
open Go.Rv Go.RowKit
set_option maxRecDepth 20000
theorem Abo:Lib.len8tab.data.toList=([0,1,2,2,3,3,3,3,4,4,4,4,4,4,4,4,5,5,5,5,5,5,5,5,5,5,5,5,5,5,5,5,6,6,6,6,6,6,6,6,6,6,6,6,6,6,6,6,6,6,6,6,6,6,6,6,6,6,6,6,6,6,6,6,7,7,7,7,7,7,7,7,7,7,7,7,7,7,7,7,7,7,7,7,7,7,7,7,7,7,7,7,7,7,7,7,7,7,7,7,7,7,7,7,7,7,7,7,7,7,7,7,7,7,7,7,7,7,7,7,7,7,7,7,7,7,7,7,8,8,8,8,8,8,8,8,8,8,8,8,8,8,8,8,8,8,8,8,8,8,8,8,8,8,8,8,8,8,8,8,8,8,8,8,8,8,8,8,8,8,8,8,8,8,8,8,8,8,8,8,8,8,8,8,8,8,8,8,8,8,8,8,8,8,8,8,8,8,8,8,8,8,8,8,8,8,8,8,8,8,8,8,8,8,8,8,8,8,8,8,8,8,8,8,8,8,8,8,8,8,8,8,8,8,8,8,8,8,8,8,8,8,8,8,8,8,8,8,8,8,8,8,8,8,8,8]:List UInt8):=by kernel_rfl
attribute [go_sem] Abo
theorem Mo{σ:Ab}{b:ABlk}:(σ++[b])[σ.length]?=some b:=by
 rw[AoS (Ao0 _)];simp
theorem VE{σ:Ab}{b c:ABlk}:(σ++[b]).set σ.length c=σ++[c]:=by
 rw[Aqd _ _ (Ao0 _)];simp
theorem HQ{σ:Ab}{id:Nat}:∀F:Addr→Prop,Tj (B.env F) 92 [.ref id 0] σ (.agg [.ref id 3,.ref id 4,.ref id 5,.ref id 6,.ref id 7,.ref id 8,.ref id 9,.ref id 10,.ref id 11,.ref id 12,.ref id 13]) σ:=by
  intro F w g vs hm ha
  have hid:id<σ.length:=by
    obtain⟨vs⟩:=vs
    match vs,ha with
    | [u],⟨h1,_⟩=>
      cases h1 with
      |ref _ _ _ β b hb _ _=>have:=(AoK.1 hb).1;rwa[hm.len]at this
  refine RT (N:=37) (rs:=[.cell 2 178]) σ.length rfl ok Tryz.func92 rfl (by decide +kernel) rfl rfl (Apm rfl) ?_ (fun F=>?_) F w g vs hm ha
  · simp[AV.under,hid]
  have hE:=ok.env F;show Run (B.env F) σ.length _ ⟨Aq 37 [(0,.ref id 0)],σ⟩ _;refine Cy hE [0,2] (fr':=[(0,.ref id 0),(2,.ref σ.length 0)]) (σ':=σ++[.box [.val (.pointer none),.val (.pointer none),.val (.pointer none),.val (.pointer none),.val (.pointer none),.val (.pointer none),.val (.pointer none),.val (.pointer none),.val (.pointer none),.val (.pointer none),.val (.pointer none)] false]) ⟨_,Aa,?_⟩ ?_
  · simp only[go_sem]
  refine Oq hE KE [[],[0],[0,1],[],[3],[3,4],[],[6],[6,7],[],[9],[9,10],[],[12],[12,13],[],[15],[15,16],[],[18],[18,19],[],[21],[21,22],[],[24],[24,25],[],[27],[27,28],[],[30],[30,31],[0,1,2,3,4,5,6,7,8,9,10,11,12,13,14,15,16,17,18,19,20,21,22,23,24,25,26,27,28,29,30,31,32],[0,1,2,3,4,5,6,7,8,9,10,11,12,13,14,15,16,17,18,19,20,21,22,23,24,25,26,27,28,29,30,31,32,33]] (by kernel_rfl) (by kernel_rfl) [2] (fr':=[(2,.ref σ.length 0)]) (σ':=σ++[.box [.ref id 3,.ref id 4,.ref id 5,.ref id 6,.ref id 7,.ref id 8,.ref id 9,.ref id 10,.ref id 11,.ref id 12,.ref id 13] false]) ⟨_,Aa,?_⟩ ?_
  · simp only[go_sem,Mo,VE,reduceIte,Nat.reduceLT,Nat.reduceEqDiff,Nat.reduceAdd,Nat.reduceGT,Nat.reduceLeDiff]
  refine TV ?_;refine⟨.inr rfl,[.agg [.ref id 3,.ref id 4,.ref id 5,.ref id 6,.ref id 7,.ref id 8,.ref id 9,.ref id 10,.ref id 11,.ref id 12,.ref id 13]],[.box [.ref id 3,.ref id 4,.ref id 5,.ref id 6,.ref id 7,.ref id 8,.ref id 9,.ref id 10,.ref id 11,.ref id 12,.ref id 13] false],?_,rfl,rfl⟩;rw[IB];simp only[go_sem,Mo,reduceIte,Nat.reduceLT,Nat.reduceEqDiff,Nat.reduceAdd,Nat.reduceLeDiff]
theorem KJ{σ:Ab}{id:Nat}:∀F:Addr→Prop,Tj (B.env F) 92 [.ref id 9] σ (.agg [.ref id 12,.ref id 13,.ref id 14,.ref id 15,.ref id 16,.ref id 17,.ref id 18,.ref id 19,.ref id 20,.ref id 21,.ref id 22]) σ:=by
  intro F w g vs hm ha
  have hid:id<σ.length:=by
    obtain⟨vs⟩:=vs
    match vs,ha with
    | [u],⟨h1,_⟩=>
      cases h1 with
      |ref _ _ _ β b hb _ _=>have:=(AoK.1 hb).1;rwa[hm.len]at this
  refine RT (N:=37) (rs:=[.cell 2 178]) σ.length rfl ok Tryz.func92 rfl (by decide +kernel) rfl rfl (Apm rfl) ?_ (fun F=>?_) F w g vs hm ha
  · simp[AV.under,hid]
  have hE:=ok.env F;show Run (B.env F) σ.length _ ⟨Aq 37 [(0,.ref id 9)],σ⟩ _;refine Cy hE [0,2] (fr':=[(0,.ref id 9),(2,.ref σ.length 0)]) (σ':=σ++[.box [.val (.pointer none),.val (.pointer none),.val (.pointer none),.val (.pointer none),.val (.pointer none),.val (.pointer none),.val (.pointer none),.val (.pointer none),.val (.pointer none),.val (.pointer none),.val (.pointer none)] false]) ⟨_,Aa,?_⟩ ?_
  · simp only[go_sem]
  refine Oq hE KE [[],[0],[0,1],[],[3],[3,4],[],[6],[6,7],[],[9],[9,10],[],[12],[12,13],[],[15],[15,16],[],[18],[18,19],[],[21],[21,22],[],[24],[24,25],[],[27],[27,28],[],[30],[30,31],[0,1,2,3,4,5,6,7,8,9,10,11,12,13,14,15,16,17,18,19,20,21,22,23,24,25,26,27,28,29,30,31,32],[0,1,2,3,4,5,6,7,8,9,10,11,12,13,14,15,16,17,18,19,20,21,22,23,24,25,26,27,28,29,30,31,32,33]] (by kernel_rfl) (by kernel_rfl) [2] (fr':=[(2,.ref σ.length 0)]) (σ':=σ++[.box [.ref id 12,.ref id 13,.ref id 14,.ref id 15,.ref id 16,.ref id 17,.ref id 18,.ref id 19,.ref id 20,.ref id 21,.ref id 22] false]) ⟨_,Aa,?_⟩ ?_
  · simp only[go_sem,Mo,VE,reduceIte,Nat.reduceLT,Nat.reduceEqDiff,Nat.reduceAdd,Nat.reduceGT,Nat.reduceLeDiff]
  refine TV ?_;refine⟨.inr rfl,[.agg [.ref id 12,.ref id 13,.ref id 14,.ref id 15,.ref id 16,.ref id 17,.ref id 18,.ref id 19,.ref id 20,.ref id 21,.ref id 22]],[.box [.ref id 12,.ref id 13,.ref id 14,.ref id 15,.ref id 16,.ref id 17,.ref id 18,.ref id 19,.ref id 20,.ref id 21,.ref id 22] false],?_,rfl,rfl⟩;rw[IB];simp only[go_sem,Mo,reduceIte,Nat.reduceLT,Nat.reduceEqDiff,Nat.reduceAdd,Nat.reduceLeDiff]
set_option maxHeartbeats 4000000
theorem OW{a b r}(h:GO a b=some r):Con B 83 [u64 a,u64 b] [] (fun r' σ'=>r'=.tup [u64 r.1,u64 r.2]∧σ'=[]):=by
 refine Cw 51 [.tmp 4,.tmp 5] Tryz.func83 (fun F hE=>?_) h;unfold GO;refine T0 [0,1] ?_;refine Lt fun x0_2596 c =>Te (fr':=[(0,_),(1,_),(6,u64 x0_2596)]) [0,1,6] Aa (Ew1 c) ?_
 refine Lt fun x1_2598 d =>Te (fr':=[(0,_),(1,_),(6,_),(7,u64 x1_2598)]) [0,1,6,7] Aa (Ew1 d) ?_
 refine Lt fun y0_2600 e =>Te (fr':=[(0,_),(1,_),(6,_),(7,_),(8,u64 y0_2600)]) [0,1,6,7,8] Aa (Ew1 e) ?_
 refine Lt fun y1_2602 f =>Te (fr':=[(0,_),(1,_),(6,_),(7,_),(8,_),(9,u64 y1_2602)]) [0,1,6,7,8,9] Aa (Ew1 f) ?_
 refine T0 [0,1,6,7,8,9,10] ?_;refine Lt fun g i =>Te (fr':=[(0,_),(1,_),(6,_),(7,_),(9,_),(11,u64 g)]) [0,1,6,7,9,11] Aa (Ew1 i) ?_
 refine Lt fun w1_2606 j =>Te (fr':=[(0,_),(1,_),(6,_),(7,_),(9,_),(11,_),(12,u64 w1_2606)]) [0,1,6,7,9,11,12] Aa (Ew1 j) ?_
 refine Lt fun w2_2608 k =>Te (fr':=[(0,_),(1,_),(6,_),(7,_),(9,_),(12,_),(13,u64 w2_2608)]) [0,1,6,7,9,12,13] Aa (Ew1 k) ?_
 refine Lt fun w1_2610 l =>Te (fr':=[(0,_),(1,_),(7,_),(9,_),(12,u64 w1_2610),(13,_)]) [0,1,7,9,12,13] Aa (Ew1 l) ?_
 refine Lt fun m n =>Te (fr':=[(0,_),(1,_),(4,u64 m)]) [0,1,4] Aa (Ew1 n) ?_
 refine T0 [4,5] ?_;exact Sr <|Rr
theorem Gz{b r}(h:Ea b=some r):Con B 85 [u64 b] [] (fun r' σ'=>r'=i64 r∧σ'=[]):=by
 refine Cw 25 [.tmp 2] Tryz.func85 (fun F hE=>?_) h;unfold Ea;refine T0 [0,2] ?_;refine Ja (fun(v:UInt64×Int)=>(⟨Aq 25 [(0,u64 v.1),(2,i64 v.2)],[]⟩:St)) ?_ ?_
 ·intro m;refine T0 [0,2,4] ?_;refine Cd ?_ ?_
  ·refine Lt fun d e =>Te (fr':=[(0,u64 d)]) [0] Aa (Ew1 e) ?_
   refine F0 [0,2] ?_;exact Jm (ws [])
  ·exact Sk <|Jm (ws [])
 rintro⟨n,o⟩;refine Ja (fun(v:UInt64×Int)=>(⟨Aq 25 [(0,u64 v.1),(2,i64 v.2)],[]⟩:St)) ?_ ?_
 ·intro p;refine T0 [0,2,8] ?_;refine Cd ?_ ?_
  ·refine Lt fun f g =>Te (fr':=[(0,u64 f),(2,_)]) [0,2] Aa (Ew1 g) ?_
   refine F0 [0,2] ?_;exact Jm (ws [])
  ·exact Sk <|Jm (ws [])
 rintro⟨q,s⟩;refine Ja (fun(v:UInt64×Int)=>(⟨Aq 25 [(0,u64 v.1),(2,i64 v.2)],[]⟩:St)) ?_ ?_
 ·intro t;refine T0 [0,2,14] ?_;refine Cd ?_ ?_
  ·refine Lt fun i j =>Te (fr':=[(0,u64 i),(2,_)]) [0,2] Aa (Ew1 j) ?_
   refine F0 [0,2] ?_;exact Jm (ws [])
  ·exact Sk <|Jm (ws [])
 rintro⟨u,w⟩;refine Ck fun c=>?_
 have a:=c;simp only[Ao5,ApC,Ao7,Ape,Apr,ApG,Nat.reduceAdd]at a;refine Lt fun k l =>Te (fr':=[(2,i64 k)]) [2] Aa (Ev (by simp only[go_sem,qN c,a,QY a,Ak0 (QY a),l];exact AP)) ?_
 exact Sr <|Rr
theorem Hs{a r}(h:Cg a=some r):Con B 124 [u64 a] [] (fun r' σ'=>r'=i64 r∧σ'=[]):=by
 refine Cw 6 [.tmp 2] Tryz.func124 (fun F hE=>?_) h;unfold Cg;refine T0 [0] ?_;refine Bd fun c b =>Te [2] (o1 4 (Gz b)) Ev ?_
 exact Sr <|Rr
theorem OR{e f g r}(h:FB e f g=some r):Con B 84 [u64 e,u64 f,u64 g] [] (fun r' σ'=>r'=.tup [u64 r.1,u64 r.2]∧σ'=[]):=by
 refine Cw 135 [.tmp 6,.tmp 7] Tryz.func84 (fun F hE=>?_) h;unfold FB;refine T0 [0,1,2] ?_;refine Sq <|T0 [0,1,2,20] ?_
 refine Cd ?_ ?_
 ·exact Rn
 ·refine Sk <|Tn <|Sq <|T0 [0,1,2,24] ?_
  refine Cd ?_ ?_
  ·exact Rn
  ·refine Sk <|Tn <|Sq <|T0 [0,1,2,27] ?_
   refine Cd ?_ ?_
   ·refine Ck fun q =>Ck fun s =>De [[],[],[0,1],[],[],[3,4],[0,1,2],[0,1,2,3,4,5,6]] [6,7] Aa (Ew2 q s) ?_
    exact Sr <|Tr <|Rr
   ·refine Sk <|Tn <|Bd fun b t =>Te [0,1,2,8] (o1 35 (Hs t)) Ev ?_
    refine Lt fun a u =>Te (fr':=[(0,_),(1,_),(2,u64 a),(8,_)]) [0,1,2,8] Aa (Ew1 u) ?_
    refine Lt fun yn1_2658 w =>Te (fr':=[(0,_),(1,_),(2,_),(8,_),(9,u64 yn1_2658)]) [0,1,2,8,9] Aa (Ew1 w) ?_
    refine Lt fun yn0_2660 x =>Te (fr':=[(0,_),(1,_),(2,_),(8,_),(9,_),(10,u64 yn0_2660)]) [0,1,2,8,9,10] Aa (Ew1 x) ?_
    refine Lt fun un32_2662 y =>Te (fr':=[(1,_),(2,_),(8,_),(9,_),(10,_),(11,u64 un32_2662)]) [1,2,8,9,10,11] Aa (Ew1 y) ?_
    refine Lt fun un10_2664 z =>Te (fr':=[(2,_),(8,_),(9,_),(10,_),(11,_),(12,u64 un10_2664)]) [2,8,9,10,11,12] Aa (Ew1 z) ?_
    refine Lt fun un1_2666 aa =>Te (fr':=[(2,_),(8,_),(9,_),(10,_),(11,_),(12,_),(13,u64 un1_2666)]) [2,8,9,10,11,12,13] Aa (Ew1 aa) ?_
    refine Lt fun un0_2668 ab =>Te (fr':=[(2,_),(8,_),(9,_),(10,_),(11,_),(13,_),(14,u64 un0_2668)]) [2,8,9,10,11,13,14] Aa (Ew1 ab) ?_
    refine Ck fun ac =>Te [2,8,9,10,11,13,14,15] Aa (Ew1 ac) ?_
    refine Lt fun ad ae =>Te (fr':=[(2,_),(8,_),(9,_),(10,_),(11,_),(13,_),(14,_),(15,_),(16,u64 ad)]) [2,8,9,10,11,13,14,15,16] Aa (Ew1 ae) ?_
    refine Ja (fun q1_2692=>⟨Aq 135 [(2,u64 a),(8,u64 (UInt64.ofInt b)),(9,u64 yn1_2658),(10,u64 yn0_2660),(11,u64 un32_2662),(13,u64 un1_2666),(14,u64 un0_2668),(15,u64 q1_2692)],[]⟩) ?_ ?_
    ·intro ap;refine Sb ?_;refine Lo (fun(v:UInt64×UInt64)=>(⟨Aq 135 [(2,u64 a),(8,u64 (UInt64.ofInt b)),(9,u64 yn1_2658),(10,u64 yn0_2660),(11,u64 un32_2662),(13,u64 un1_2666),(14,u64 un0_2668),(15,u64 v.1),(16,u64 v.2)],[]⟩:St)) (ws []) ?_;rintro⟨q1_2701,i⟩ aq af j k;show DE yn1_2658 yn0_2660 un1_2666 q1_2701 i=some af→_;unfold DE;refine Sq ?_;refine Tw [2,8,9,10,11,13,14,15,16,78] (fun l=>⟨Aq 135 [(2,u64 a),(8,u64 (UInt64.ofInt b)),(9,u64 yn1_2658),(10,u64 yn0_2660),(11,u64 un32_2662),(13,u64 un1_2666),(14,u64 un0_2668),(15,u64 q1_2701),(16,u64 i),(78,.bool l)],[]⟩) ?_ ?_
     ·intro _;refine Sp (fun c=>?_) fun c=>?_
      ·exact Lf Aa (Ew1 c) (ws [])
      ·exact Lf Aa (Ew1 c) (ws [])
     intro l;refine Cd ?_ ?_
     ·refine Sk <|Tn <|Sb <|T0 [2,8,9,10,11,13,14,15,16] ?_
      refine T0 [2,8,9,10,11,13,14,15,16] ?_;refine T0 [2,8,9,10,11,13,14,15,16,85] ?_;refine Cd ?_ ?_
      ·refine Sx <|Bo <|Ly k j <|Bx <|?_
       exact Jm ((ws (l':=[(2,u64 a),(8,u64 (UInt64.ofInt b)),(9,u64 yn1_2658),(10,u64 yn0_2660),(11,u64 un32_2662),(13,u64 un1_2666),(14,u64 un0_2668),(15,u64 (q1_2701-(1:UInt64)))]) (σ':=[]) []).trans (ws []))
      ·exact Sk <|Bn <|Ln (ws [])
     ·refine Sx <|Tx <|Ly k j <|Bx <|?_
      exact Jm ((ws (l':=[(2,u64 a),(8,u64 (UInt64.ofInt b)),(9,u64 yn1_2658),(10,u64 yn0_2660),(11,u64 un32_2662),(13,u64 un1_2666),(14,u64 un0_2668),(15,u64 q1_2701)]) (σ':=[]) []).trans (ws []))
    intro q1_2692;refine Lt fun un21_2715 ag =>Te (fr':=[(2,_),(8,_),(9,_),(10,_),(14,_),(15,_),(17,u64 un21_2715)]) [2,8,9,10,14,15,17] Aa (Ew1 ag) ?_
    refine Ck fun ah =>Te [2,8,9,10,14,15,17,18] Aa (Ew1 ah) ?_
    refine Lt fun ai aj =>Te (fr':=[(2,_),(8,_),(9,_),(10,_),(14,_),(15,_),(16,u64 ai),(17,_),(18,_)]) [2,8,9,10,14,15,16,17,18] Aa (Ew1 aj) ?_
    refine Ja (fun q0_2739=>⟨Aq 135 [(2,u64 a),(8,u64 (UInt64.ofInt b)),(14,u64 un0_2668),(15,u64 q1_2692),(17,u64 un21_2715),(18,u64 q0_2739)],[]⟩) ?_ ?_
    ·intro ar;refine Sb ?_;refine Lo (fun(v:UInt64×UInt64)=>(⟨Aq 135 [(2,u64 a),(8,u64 (UInt64.ofInt b)),(9,u64 yn1_2658),(10,u64 yn0_2660),(14,u64 un0_2668),(15,u64 q1_2692),(16,u64 v.1),(17,u64 un21_2715),(18,u64 v.2)],[]⟩:St)) (ws []) ?_;rintro⟨m,q0_2749⟩ au ak n o;show D6 yn1_2658 yn0_2660 un0_2668 m q0_2749=some ak→_;unfold D6;refine Sq ?_;refine Tw [2,8,9,10,14,15,16,17,18,113] (fun p=>⟨Aq 135 [(2,u64 a),(8,u64 (UInt64.ofInt b)),(9,u64 yn1_2658),(10,u64 yn0_2660),(14,u64 un0_2668),(15,u64 q1_2692),(16,u64 m),(17,u64 un21_2715),(18,u64 q0_2749),(113,.bool p)],[]⟩) ?_ ?_
     ·intro _;refine Sp (fun d=>?_) fun d=>?_
      ·exact Lf Aa (Ew1 d) (ws [])
      ·exact Lf Aa (Ew1 d) (ws [])
     intro p;refine Cd ?_ ?_
     ·refine Sk <|Tn <|Sb <|T0 [2,8,9,10,14,15,16,17,18] ?_
      refine T0 [2,8,9,10,14,15,16,17,18] ?_;refine T0 [2,8,9,10,14,15,16,17,18,120] ?_;refine Cd ?_ ?_
      ·refine Sx <|Bo <|Ly o n <|Bx <|?_
       exact Jm ((ws (l':=[(2,u64 a),(8,u64 (UInt64.ofInt b)),(14,u64 un0_2668),(15,u64 q1_2692),(17,u64 un21_2715),(18,u64 (q0_2749-(1:UInt64)))]) (σ':=[]) []).trans (ws []))
      ·exact Sk <|Bn <|Ln (ws [])
     ·refine Sx <|Tx <|Ly o n <|Bx <|?_
      exact Jm ((ws (l':=[(2,u64 a),(8,u64 (UInt64.ofInt b)),(14,u64 un0_2668),(15,u64 q1_2692),(17,u64 un21_2715),(18,u64 q0_2749)]) (σ':=[]) []).trans (ws []))
    intro q0_2739;refine Lt fun al am =>Lt fun an ao =>Te (fr':=[(6,u64 al),(7,u64 an)]) [6,7] Aa (Ew2 am ao) ?_
    exact Sr <|Rr
theorem DB{a b c r}(h:Cz a b c=some r):Con B 82 [u64 a,u64 b,.ref 0 0] [.box [u64 c] false] (fun r' σ'=>r'=u64 r.1∧σ'=[.box [u64 r.2] false]):=by
 refine Co 1 28 [.tmp 5] Tryz.func82 (fun F hE=>?_) h;unfold Cz;refine T0 [0,1,2] ?_;refine Ck fun d =>Ck fun e =>Bd fun i f =>De [[],[],[0,1],[],[],[3,4],[0,1,2,3,4,5],[0,1,2,3,4,5,6],[0,1,2,3,4,5,6,7],[0,1,2,3,4,5,6,7],[0,1,2,3,4,5,6,7,8],[0,1,2,3,4,5,6,7,8,9,10]] [2,6,7] (o1 17 (OW f)) (Ew2 d e) ?_
 refine Bd fun j g =>Te [9] (o1 24 (OR g)) Ev ?_
 refine T0 [5] ?_;exact Sr <|Ro [0]
theorem FW{a r}(h:EM a=some r):Con B 48 [u64 a] [] (fun r' σ'=>r'=.fn 82 [.ref 0 0]∧σ'=[.box [u64 r] false]):=by
 refine Co 0 4 [.tmp 2] Tryz.func48 (fun F hE=>?_) h;unfold EM;refine T0 [1] ?_;refine T0 [2] ?_;exact Sr <|Ro [0]
theorem Fc{a c r}(h:F4 a c=some r):Con B 49 [u64 a,u64 c] [] (fun r' σ'=>r'=u64 r∧σ'=[]):=by
 refine Cw 33 [.tmp 4] Tryz.func49 (fun F hE=>?_) h;unfold F4;refine T0 [0,1] ?_;refine Bd fun y j =>Te [0,1,5] (Ao (l:=[]) (m:=[(8,48,[u64 (2305843009213690799:UInt64)],[],_,_)]) trivial ⟨(wc (FW j) []),trivial⟩) Ev ?_
 refine T0 [0,1,5,6] ?_;refine Ja (fun g=>⟨Aq 33 [(6,u64 g)],[]⟩) ?_ ?_
 ·intro z;refine Bd fun f k =>Te [0,1,5,6,10,11] (o1 10 (Gz k)) Ev ?_
  refine Sb ?_;refine Lo (fun⟨b,d,e⟩=>⟨Aq 33 [(0,u64 a),(1,u64 c),(5,.fn 82 [.ref 0 0]),(6,u64 b),(10,i64 f),(11,i64 d)],[.box [u64 e] false]⟩) (ws [0]) ?_;rintro⟨b,d,e⟩ aa n o p;show DW a c f b d e=some n→_;unfold DW;refine T0 [0,1,5,6,10,11,12] ?_;refine Sq <|Cd ?_ ?_
  ·refine Sk <|Tn <|?_
   refine Ja (fun(v:UInt64×UInt64)=>(⟨Aq 33 [(0,u64 a),(1,u64 c),(5,.fn 82 [.ref 0 0]),(6,u64 v.1),(10,i64 f),(11,i64 d)],[.box [u64 v.2] false]⟩:St)) ?_ ?_
   ·intro ab;refine Sb <|T0 [0,1,5,6,7,10,11] ?_
    refine Bd fun i q =>Te [0,1,5,6,7,10,11] (Ao (l:=[]) (m:=[(17,82,[u64 b,u64 b,.ref 0 0],[.box [u64 e] false],_,_)]) trivial ⟨(wc (DB q) [0]),trivial⟩) Ev ?_
    refine Bd fun ac s =>Ck fun t =>Lt fun u w =>Te (fr':=[(0,_),(1,_),(5,_),(6,_),(10,_),(11,_),(26,.bool u)]) [0,1,5,6,10,11,26] (o1 20 (Gz s)) (Ew2 t w) ?_
    refine Cd ?_ ?_
    ·refine Bd fun ad x =>Fe [0,1,5,6,10,11] (Ao (l:=[]) (m:=[(30,82,[u64 i.1,u64 a,.ref 0 0],[.box [u64 i.2] false],_,_)]) trivial ⟨(wc (DB x) [0]),trivial⟩) Ev ?_
     exact Bn <|Jm (ws [0])
    ·exact Sk <|Bn <|Jm (ws [0])
   rintro⟨ae,af⟩;refine F0 [0,1,5,6,10,11] ?_;exact Ln (ws [0])
  ·refine Sx <|Tx <|Ly p o <|Bx <|?_
   exact Jm ((ws (l':=[(6,u64 b)]) (σ':=[]) []).trans (ws []))
 intro g;refine T0 [4] ?_;exact Sr <|Rr
theorem Jp{c r}(h:FC c=some r):Con B 47 [u64 c] [] (fun r' σ'=>r'=.bool r∧σ'=[]):=by
 refine Cw 14 [.tmp 2] Tryz.func47 (fun F hE=>?_) h;unfold FC;refine T0 [0] ?_;refine Tw [2] (fun d=>⟨Aq 14 [(2,.bool d)],[]⟩) ?_ ?_
 ·intro _;refine Sp (fun a=>?_) fun a=>?_
  ·refine Sp (fun b=>?_) fun b=>?_
   ·refine Bd fun f e=>?_
    exact Lf (o1 11 (Fc e)) (Ew2 a b) (ws [])
   ·exact Lf Aa (Ew2 a b) (ws [])
  ·exact Lf Aa (Ew1 a) (ws [])
 intro d;exact Sr <|Rr
theorem IJ{a r}(h:HO a=some r):Con B 58 [u64 a] [] (fun r' σ'=>r'=.tup [u64 r.1,i64 r.2]∧σ'=[]):=by
 refine Cw 12 [.tmp 2,.tmp 3] Tryz.func58 (fun F hE=>?_) h;unfold HO;refine T0 [0] ?_;refine Sq ?_;refine Tw [0,9] (fun c=>⟨Aq 12 [(0,u64 a),(9,.bool c)],[]⟩) ?_ ?_
 ·intro _;refine Sp (fun b=>?_) fun b=>?_
  ·exact Lf Aa (Ew1 b) (ws [])
  ·exact Lf Aa (Ew1 b) (ws [])
 intro c;refine Cd ?_ ?_
 ·refine T0 [2,3] ?_;exact Sr <|Tr <|Rr
 ·refine Sk <|Tn <|Bd fun e d =>Te [2,3] (o1 11 (Fc d)) Ev ?_
  exact Sr <|Rr
theorem Jw{a b r}(h:IQ a b=some r):Con B 26 [.agg (Ak a),i64 b] [] (fun r' σ'=>r'=.sl false (L Ad r)∧σ'=[]):=by
 refine Cw 15 [.tmp 4] Tryz.func26 (fun F hE=>?_) h;unfold IQ;refine T0 [1,2] ?_;refine Sq <|T0 [1,2,9] ?_
 refine Cd ?_ ?_
 ·refine T0 [4] ?_;exact Sr <|Tr <|Rr
 ·refine Sk <|Tn <|Ck fun c =>Te [4] Aa (Ew1 (qR c)) ?_
  exact Sr <|Rr
theorem Fm{a r}(h:Fa a=some r):Con B 80 [i64 a] [] (fun r' σ'=>r'=.agg [i64 r.Za,i64 r.N,.sl false (L cU8 r.B),.sl false (L cApi_Value r.L)]∧σ'=[]):=by
 refine Cw 5 [.cell 2 105] Tryz.func80 (fun F hE=>?_) h;unfold Fa;refine T0 [0,2] ?_;refine T0 [2] ?_;exact Sr <|Rr
theorem Jt{a r}(h:Jh a=some r):Con B 81 [.sl false (L cU8 a)] [] (fun r' σ'=>r'=.agg [i64 r.Za,i64 r.N,.sl false (L cU8 r.B),.sl false (L cApi_Value r.L)]∧σ'=[]):=by
 refine Cw 5 [.cell 2 105] Tryz.func81 (fun F hE=>?_) h;unfold Jh;refine T0 [0,2] ?_;refine T0 [2] ?_;exact Sr <|Rr
theorem AF{a r}(h:AU a=some r):Con B 106 [i64 a] [] (fun r' σ'=>r'=.agg [i64 r.Za,i64 r.N,.sl false (L cU8 r.B),.sl false (L cApi_Value r.L)]∧σ'=[]):=by
 refine Cw 5 [.cell 2 105] Tryz.func106 (fun F hE=>?_) h;unfold AU;refine T0 [0,2] ?_;refine T0 [2] ?_;exact Sr <|Rr
theorem KX{r}(h:edi_list_cnil  = some r):Con B 107 [.sl true (L cApi_Value ([]))] [] (fun r' σ'=>r'=.agg [i64 r.Za,i64 r.N,.sl true (L cU8 ([])),.sl true (L cApi_Value ([]))]∧σ'=[]):=by
 refine Co 0 5 [.cell 2 105] Tryz.func107 (fun F hE=>?_) h;unfold edi_list_cnil;refine T0 [0,2] ?_;refine T0 [2] ?_;exact Sr <|Ro []
theorem LO{a r}(h:Gt a=some r):Con B 107 [.bs false 0 (a.length) 0 (a.length)] [.buf 4 (L cApi_Value a) false] (fun r' σ'=>r'=.agg [i64 r.Za,i64 r.N,.sl true (L cU8 ([])),.bs false 0 (r.L.length) 0 (r.L.length)]∧σ'=[.buf 4 (L cApi_Value r.L) false]):=by
 refine Co 1 5 [.cell 2 105] Tryz.func107 (fun F hE=>?_) h;unfold Gt;refine T0 [0,2] ?_;refine T0 [2] ?_;exact Sr <|Ro [0]
theorem Hd{a r}(h:DF a=some r):Con B 107 [.sl false (L cApi_Value a)] [] (fun r' σ'=>r'=.agg [i64 r.Za,i64 r.N,.sl true (L cU8 ([])),.sl false (L cApi_Value r.L)]∧σ'=[]):=by
 refine Co 0 5 [.cell 2 105] Tryz.func107 (fun F hE=>?_) h;unfold DF;refine T0 [0,2] ?_;refine T0 [2] ?_;exact Sr <|Ro []
theorem Sw{a r}(h:Mc a=some r):Con B 108 [.str a] [] (fun r' σ'=>r'=.agg [i64 r.Za,i64 r.N,.sl false (L cU8 r.B),.sl false (L cApi_Value r.L)]∧σ'=[]):=by
 refine Cw 6 [.cell 2 105] Tryz.func108 (fun F hE=>?_) h;unfold Mc;refine T0 [0,2] ?_;refine T0 [2] ?_;exact Sr <|Rr
theorem F5{b r}(h:Ez b=some r):Con B 65 [.agg (AB b)] [] (fun r' σ'=>r'=.agg [i64 r.Za,i64 r.N,.sl false (L cU8 r.B),.sl false (L cApi_Value r.L)]∧σ'=[]):=by
 refine Cw 70 [.cell 2 105] Tryz.func65 (fun F hE=>?_) h;unfold Ez;refine T0 [1,2] ?_;refine Bd fun bE au =>Bd fun av aw =>Bd fun ax ay =>Bd fun bF az =>Lt fun f aA =>De (fr':=[(1,_),(2,_),(3,.bs true 2 (f.length) 0 (f.length))]) (σ':=[_,_,.buf 4 (L cApi_Value f) false]) [[],[0],[0,1],[],[3],[3,4],[0,1,2,3,4,5],[],[7],[7,8],[0,1,2,3,4,5,6,7,8,9],[0,1,2,3,4,5,6,7,8,9,10],[0,1,2,3,4,5,6,7,8,9,10,11],[0,1,2,3,4,5,6,7,8,9,10,11,12],[0,1,2,3,4,5,6,7,8,9,10,11,12,13]] [1,2,3] (Ao (l:=[(12,_,_,_),(16,_,_,_),(20,_,_,_)]) (m:=[(22,107,[.sl false (L cApi_Value ([av,ax]:List AoG))],[.box (AB b) false,.box [i64 0,i64 0,.sl true (L cU8 ([])),.sl true (L cApi_Value ([]))] false],_,_)]) ⟨AF  au,AF  aw,AF  ay,trivial⟩ ⟨(wc (Hd az) []),trivial⟩) (Ew1 aA) ?_
 refine Ja (fun a=>⟨Aq 70 [(1,.ref 0 0),(2,.ref 1 0),(3,.bs false 2 (a.length) 0 (a.length))],[.box (AB b) false,.box [i64 0,i64 0,.sl true (L cU8 ([])),.sl true (L cApi_Value ([]))] false,.buf 4 (L cApi_Value a) false]⟩) ?_ ?_
 ·intro bG;refine Te [1,2,3,24,25] (Ao (l:=[]) (m:=[(24,92,[.ref 0 0],[.box (AB b) false,.box [i64 0,i64 0,.sl true (L cU8 ([])),.sl true (L cApi_Value ([]))] false,.buf 4 (L cApi_Value f) false],.agg [.ref 0 3,.ref 0 4,.ref 0 5,.ref 0 6,.ref 0 7,.ref 0 8,.ref 0 9,.ref 0 10,.ref 0 11,.ref 0 12,.ref 0 13],[.box (AB b) false,.box [i64 0,i64 0,.sl true (L cU8 ([])),.sl true (L cApi_Value ([]))] false,.buf 4 (L cApi_Value f) false])]) trivial ⟨HQ,trivial⟩) Ev ?_;refine Sb ?_;refine Ul 17 ?_;refine Ug (m:=16) ?_;refine T0 [1,2,3,24,25,26] ?_;refine Sq <|Ct <|Sk <|Tn <|Sq <|Sb <|?_
  have ad:InR 0 11:=by decide
  refine Te [1,2,3,5,24,25] Aa (Ev (by simp only[go_sem,ad,ad.2];exact AP)) ?_;refine Bd fun bH aB =>Ck fun aC =>Lt fun k aD =>Fe (fr':=[(1,_),(2,_),(3,.bs false 2 (k.length) 0 (k.length)),(24,_),(25,_)]) (σ':=[_,_,.buf 4 (L cApi_Value k) false,_]) [1,2,3,24,25] (o1 32 (AF aB)) (Ew2 aC aD) ?_
  refine Bn <|Tn <|?_
  have aE:w64 1=1:=by decide
  refine Fe [1,2,3,24,25] Aa (Ew1 aE) ?_;refine Un ?_;refine Ug (m:=15) ?_;refine T0 [1,2,3,24,25,26] ?_;refine Sq <|Ct <|Sk <|Tn <|Sq <|Sb <|?_
  have ae:InR 1 11:=by decide
  refine Te [1,2,3,5,24,25] Aa (Ev (by simp only[go_sem,ae,ae.2];exact AP)) ?_;refine Bd fun bI aF =>Ck fun aG =>Lt fun n aH =>Fe (fr':=[(1,_),(2,_),(3,.bs false 2 (n.length) 0 (n.length)),(24,_),(25,_)]) (σ':=[_,_,.buf 4 (L cApi_Value n) false,_,_]) [1,2,3,24,25] (o1 32 (AF aF)) (Ew2 aG aH) ?_
  refine Bn <|Tn <|?_
  have aI:w64 2=2:=by decide
  refine Fe [1,2,3,24,25] Aa (Ew1 aI) ?_;refine Un ?_;refine Ug (m:=14) ?_;refine T0 [1,2,3,24,25,26] ?_;refine Sq <|Ct <|Sk <|Tn <|Sq <|Sb <|?_
  have af:InR 2 11:=by decide
  refine Te [1,2,3,5,24,25] Aa (Ev (by simp only[go_sem,af,af.2];exact AP)) ?_;refine Bd fun bJ aJ =>Ck fun aK =>Lt fun o aL =>Fe (fr':=[(1,_),(2,_),(3,.bs false 2 (o.length) 0 (o.length)),(24,_),(25,_)]) (σ':=[_,_,.buf 4 (L cApi_Value o) false,_,_,_]) [1,2,3,24,25] (o1 32 (AF aJ)) (Ew2 aK aL) ?_
  refine Bn <|Tn <|?_
  have aM:w64 3=3:=by decide
  refine Fe [1,2,3,24,25] Aa (Ew1 aM) ?_;refine Un ?_;refine Ug (m:=13) ?_;refine T0 [1,2,3,24,25,26] ?_;refine Sq <|Ct <|Sk <|Tn <|Sq <|Sb <|?_
  have ag:InR 3 11:=by decide
  refine Te [1,2,3,5,24,25] Aa (Ev (by simp only[go_sem,ag,ag.2];exact AP)) ?_;refine Bd fun bK aN =>Ck fun aO =>Lt fun p aP =>Fe (fr':=[(1,_),(2,_),(3,.bs false 2 (p.length) 0 (p.length)),(24,_),(25,_)]) (σ':=[_,_,.buf 4 (L cApi_Value p) false,_,_,_,_]) [1,2,3,24,25] (o1 32 (AF aN)) (Ew2 aO aP) ?_
  refine Bn <|Tn <|?_
  have aQ:w64 4=4:=by decide
  refine Fe [1,2,3,24,25] Aa (Ew1 aQ) ?_;refine Un ?_;refine Ug (m:=12) ?_;refine T0 [1,2,3,24,25,26] ?_;refine Sq <|Ct <|Sk <|Tn <|Sq <|Sb <|?_
  have ah:InR 4 11:=by decide
  refine Te [1,2,3,5,24,25] Aa (Ev (by simp only[go_sem,ah,ah.2];exact AP)) ?_;refine Bd fun bL aR =>Ck fun aS =>Lt fun q aT =>Fe (fr':=[(1,_),(2,_),(3,.bs false 2 (q.length) 0 (q.length)),(24,_),(25,_)]) (σ':=[_,_,.buf 4 (L cApi_Value q) false,_,_,_,_,_]) [1,2,3,24,25] (o1 32 (AF aR)) (Ew2 aS aT) ?_
  refine Bn <|Tn <|?_
  have aU:w64 5=5:=by decide
  refine Fe [1,2,3,24,25] Aa (Ew1 aU) ?_;refine Un ?_;refine Ug (m:=11) ?_;refine T0 [1,2,3,24,25,26] ?_;refine Sq <|Ct <|Sk <|Tn <|Sq <|Sb <|?_
  have ai:InR 5 11:=by decide
  refine Te [1,2,3,5,24,25] Aa (Ev (by simp only[go_sem,ai,ai.2];exact AP)) ?_;refine Bd fun bM aV =>Ck fun aW =>Lt fun s aX =>Fe (fr':=[(1,_),(2,_),(3,.bs false 2 (s.length) 0 (s.length)),(24,_),(25,_)]) (σ':=[_,_,.buf 4 (L cApi_Value s) false,_,_,_,_,_,_]) [1,2,3,24,25] (o1 32 (AF aV)) (Ew2 aW aX) ?_
  refine Bn <|Tn <|?_
  have aY:w64 6=6:=by decide
  refine Fe [1,2,3,24,25] Aa (Ew1 aY) ?_;refine Un ?_;refine Ug (m:=10) ?_;refine T0 [1,2,3,24,25,26] ?_;refine Sq <|Ct <|Sk <|Tn <|Sq <|Sb <|?_
  have aj:InR 6 11:=by decide
  refine Te [1,2,3,5,24,25] Aa (Ev (by simp only[go_sem,aj,aj.2];exact AP)) ?_;refine Bd fun bN aZ =>Ck fun a0 =>Lt fun t a1 =>Fe (fr':=[(1,_),(2,_),(3,.bs false 2 (t.length) 0 (t.length)),(24,_),(25,_)]) (σ':=[_,_,.buf 4 (L cApi_Value t) false,_,_,_,_,_,_,_]) [1,2,3,24,25] (o1 32 (AF aZ)) (Ew2 a0 a1) ?_
  refine Bn <|Tn <|?_
  have a2:w64 7=7:=by decide
  refine Fe [1,2,3,24,25] Aa (Ew1 a2) ?_;refine Un ?_;refine Ug (m:=9) ?_;refine T0 [1,2,3,24,25,26] ?_;refine Sq <|Ct <|Sk <|Tn <|Sq <|Sb <|?_
  have ak:InR 7 11:=by decide
  refine Te [1,2,3,5,24,25] Aa (Ev (by simp only[go_sem,ak,ak.2];exact AP)) ?_;refine Bd fun bO a3 =>Ck fun a4 =>Lt fun u a5 =>Fe (fr':=[(1,_),(2,_),(3,.bs false 2 (u.length) 0 (u.length)),(24,_),(25,_)]) (σ':=[_,_,.buf 4 (L cApi_Value u) false,_,_,_,_,_,_,_,_]) [1,2,3,24,25] (o1 32 (AF a3)) (Ew2 a4 a5) ?_
  refine Bn <|Tn <|?_
  have a6:w64 8=8:=by decide
  refine Fe [1,2,3,24,25] Aa (Ew1 a6) ?_;refine Un ?_;refine Ug (m:=8) ?_;refine T0 [1,2,3,24,25,26] ?_;refine Sq <|Ct <|Sk <|Tn <|Sq <|Sb <|?_
  have al:InR 8 11:=by decide
  refine Te [1,2,3,5,24,25] Aa (Ev (by simp only[go_sem,al,al.2];exact AP)) ?_;refine Bd fun bP a7 =>Ck fun a8 =>Lt fun w a9 =>Fe (fr':=[(1,_),(2,_),(3,.bs false 2 (w.length) 0 (w.length)),(24,_),(25,_)]) (σ':=[_,_,.buf 4 (L cApi_Value w) false,_,_,_,_,_,_,_,_,_]) [1,2,3,24,25] (o1 32 (AF a7)) (Ew2 a8 a9) ?_
  refine Bn <|Tn <|?_
  have ba:w64 9=9:=by decide
  refine Fe [1,2,3,24,25] Aa (Ew1 ba) ?_;refine Un ?_;refine Ug (m:=7) ?_;refine T0 [1,2,3,24,25,26] ?_;refine Sq <|Ct <|Sk <|Tn <|Sq <|Sb <|?_
  have am:InR 9 11:=by decide
  refine Te [1,2,3,5,24,25] Aa (Ev (by simp only[go_sem,am,am.2];exact AP)) ?_;refine Bd fun bQ bb =>Ck fun bc =>Lt fun x bd =>Fe (fr':=[(1,_),(2,_),(3,.bs false 2 (x.length) 0 (x.length)),(24,_),(25,_)]) (σ':=[_,_,.buf 4 (L cApi_Value x) false,_,_,_,_,_,_,_,_,_,_]) [1,2,3,24,25] (o1 32 (AF bb)) (Ew2 bc bd) ?_
  refine Bn <|Tn <|?_
  have be:w64 10=10:=by decide
  refine Fe [1,2,3,24,25] Aa (Ew1 be) ?_;refine Un ?_;refine Ug (m:=6) ?_;refine T0 [1,2,3,24,25,26] ?_;refine Sq <|Ct <|Sk <|Tn <|Sq <|Sb <|?_
  have an:InR 10 11:=by decide
  refine Te [1,2,3,5,24,25] Aa (Ev (by simp only[go_sem,an,an.2];exact AP)) ?_;refine Bd fun bR bf =>Ck fun bg =>Lt fun y bh =>Fe (fr':=[(1,_),(2,_),(3,.bs false 2 (y.length) 0 (y.length)),(24,_),(25,_)]) (σ':=[_,_,.buf 4 (L cApi_Value y) false,_,_,_,_,_,_,_,_,_,_,_]) [1,2,3,24,25] (o1 32 (AF bf)) (Ew2 bg bh) ?_
  refine Bn <|Tn <|?_
  have bi:w64 11=11:=by decide
  refine Fe [1,2,3,24,25] Aa (Ew1 bi) ?_;refine Un ?_;refine Ug (m:=5) ?_;refine T0 [1,2,3,24,25,26] ?_;exact Sq <|Cf <|Sx <|Tx <|Ux <|Bx <|Jm (ws [0,1,2])
 intro a;refine Bd fun c bj =>Te [1,2,3,6] (Ao (l:=[]) (m:=[(36,107,[.sl true (L cApi_Value ([]))],[.box (AB b) false,.box [i64 0,i64 0,.sl true (L cU8 ([])),.sl true (L cApi_Value ([]))] false,.buf 4 (L cApi_Value a) false],_,_)]) trivial ⟨(wc (KX bj) []),trivial⟩) Ev ?_
 refine Ja (fun e=>⟨Aq 70 [(1,.ref 0 0),(2,.ref 1 0),(3,.bs false 2 (a.length) 0 (a.length)),(6,.ref 3 0)],[.box (AB b) false,.box [i64 0,i64 0,.sl true (L cU8 ([])),.sl true (L cApi_Value ([]))] false,.buf 4 (L cApi_Value a) false,.box [i64 c.Za,i64 c.N,.sl true (L cU8 ([])),.bs false 4 (e.length) 0 (e.length)] false,.buf 4 (L cApi_Value e) false]⟩) ?_ ?_
 ·intro bS;refine T0 [1,2,3,6,38,39,40] ?_;refine Sb ?_;refine Lo (fun(v:Int×List AoG)=>(⟨Aq 70 [(1,.ref 0 0),(2,.ref 1 0),(3,.bs false 2 (a.length) 0 (a.length)),(6,.ref 3 0),(38,.sl false (L Ah b.Zu1)),(39,i64 (b.Zu1.length:Int)),(40,i64 v.1)],[.box (AB b) false,.box [i64 0,i64 0,.sl true (L cU8 ([])),.sl true (L cApi_Value ([]))] false,.buf 4 (L cApi_Value a) false,.box [i64 c.Za,i64 c.N,.sl true (L cU8 ([])),.bs false 4 (v.2.length) 0 (v.2.length)] false,.buf 4 (L cApi_Value v.2) false]⟩:St)) ((Dm 3 3 4 rfl rfl).trans (ws [0,1,2,3,4])) ?_;rintro⟨z,d⟩ bT bk bl bm;show Dr b z d=some bk→_;unfold Dr;refine T0 [1,2,3,6,38,39,40,41] ?_;refine Sq <|Cd ?_ ?_
  ·refine Sk <|Tn <|Sq <|Sb <|Ck fun bn =>Lt fun g bo =>Lt fun i bp =>Lt fun j bq =>Te (σ':=[_,_,_,_,_,.box [i64 g,i64 i,.bool j] false]) [1,2,3,6,8,38,39,40] Aa (Ew4 (qR bn) bo bp bq) ?_
   refine T0 [1,2,3,6,8,9,38,39,40] ?_;refine Ja (fun ao=>⟨Aq 70 [(1,.ref 0 0),(2,.ref 1 0),(3,.bs false 2 (a.length) 0 (a.length)),(6,.ref 3 0),(8,.ref 4 0),(9,i64 ao),(38,.sl false (L Ah b.Zu1)),(39,i64 (b.Zu1.length:Int)),(40,i64 z)],[.box (AB b) false,.box [i64 0,i64 0,.sl true (L cU8 ([])),.sl true (L cApi_Value ([]))] false,.buf 4 (L cApi_Value a) false,.box [i64 c.Za,i64 c.N,.sl true (L cU8 ([])),.bs false 5 (d.length) 0 (d.length)] false,.box [i64 g,i64 i,.bool j] false,.buf 4 (L cApi_Value d) false]⟩) ?_ ?_
   ·intro bU;refine T0 [1,2,3,6,8,9,38,39,40,45] ?_;refine Cd ?_ ?_
    ·refine F0 [1,2,3,6,8,9,38,39,40] ?_;exact Jm (ws [0,1,2,3,5,4])
    ·exact Sk <|Jm (ws [0,1,2,3,5,4])
   intro ao;refine Bd fun br bt =>Bd fun bu bv =>Bd fun bw bx =>Bd fun bV bz =>Ck fun ap =>Lt fun aa aq =>?_
   intro h;refine PJ hE KE [[],[0],[],[2],[2,3],[],[5],[2,3,4,5,6],[],[2,3,4,5,6,7,8],[2,3,4,5,6,7,8,9],[2,3,4,5,6,7,8,9,10],[2,3,4,5,6,7,8,9,10,11],[0,1,2,3,4,5,6,7,8,9,10,11,12],[0,1,2,3,4,5,6,7,8,9,10,11,12,13],[0,1,2,3,4,5,6,7,8,9,10,11,12,13,14]] (by kernel_rfl) 11 [0,1] [1,2,3,6,38,39,40,46] (by kernel_rfl) (IL Il) (fr':=[(1,.ref 0 0),(2,.ref 1 0),(3,.bs false 2 (a.length) 0 (a.length)),(6,.ref 3 0),(38,.sl false (L Ah b.Zu1)),(39,i64 (b.Zu1.length:Int)),(40,i64 z),(46,.ref 3 3)]) (σ':=[.box (AB b) false,.box [i64 0,i64 0,.sl true (L cU8 ([])),.sl true (L cApi_Value ([]))] false,.buf 4 (L cApi_Value a) false,.box [i64 c.Za,i64 c.N,.sl true (L cU8 ([])),.bs false 5 (aa.length) 0 (aa.length)] false,.box [i64 g,i64 i,.bool j] false,.buf 4 (L cApi_Value aa) false]) ⟨_,_,_,_,_,_,_,rfl,?_,(Ao (l:=[(50,_,_,_),(53,_,_,_),(55,_,_,_)]) (m:=[(57,107,[.sl false (L cApi_Value ([br,bu,bw]:List AoG))],[.box (AB b) false,.box [i64 0,i64 0,.sl true (L cU8 ([])),.sl true (L cApi_Value ([]))] false,.buf 4 (L cApi_Value a) false,.box [i64 c.Za,i64 c.N,.sl true (L cU8 ([])),.bs false 5 (d.length) 0 (d.length)] false,.box [i64 g,i64 i,.bool j] false,.buf 4 (L cApi_Value d) false],_,_)]) ⟨AF  bt,AF  bv,AF  bx,trivial⟩ ⟨(wc (Hd bz) []),trivial⟩),?_⟩ ?_
   ·subst aq;simp only[go_sem,ap]
   ·subst aq;simp only[go_sem,ap]
   revert h;refine Bn <|Tn <|F0 [1,2,3,6,38,39,40] ?_
   exact Ln (ws [0,1,2,3,5])
  ·refine Sx <|Tx <|Ly bm bl <|Bx <|?_
   exact Jm ((ws (l':=[(1,.ref 0 0),(2,.ref 1 0),(3,.bs false 2 (a.length) 0 (a.length)),(6,.ref 3 0)]) (σ':=[.box (AB b) false,.box [i64 0,i64 0,.sl true (L cU8 ([])),.sl true (L cApi_Value ([]))] false,.buf 4 (L cApi_Value a) false,.box [i64 c.Za,i64 c.N,.sl true (L cU8 ([])),.bs false 4 (d.length) 0 (d.length)] false,.buf 4 (L cApi_Value d) false]) [0,1,2,3,4]).trans (ws [0,1,2,3,4]))
 intro e;refine Rw (FI 3 3 rfl rfl rfl gs gs) ?_;refine Bd fun ab bA =>Ck fun bB =>Bd fun ar bC =>Lt fun ac bD =>De (σ':=[_,.box [i64 ar.Za,i64 ar.N,.sl true (L cU8 ([])),.bs false 2 (ac.length) 0 (ac.length)] false,.buf 4 (L cApi_Value ac) false,_,_]) [[],[],[1],[1,2],[],[1,2,3,4],[0,1,2,3,4,5],[0,1,2,3,4,5,6],[0,1,2,3,4,5,6,7]] [2] (Ao (l:=[(65,_,_,_)]) (m:=[(69,107,[.bs false 2 ((a++([ab,(AoG.mk c.Za c.N ([]) e)]:List AoG)).length) 0 ((a++([ab,(AoG.mk c.Za c.N ([]) e)]:List AoG)).length)],[.box (AB b) false,.box [i64 0,i64 0,.sl true (L cU8 ([])),.sl true (L cApi_Value ([]))] false,.buf 4 (L cApi_Value (a++([ab,(AoG.mk c.Za c.N ([]) e)]:List AoG))) false,.box [i64 c.Za,i64 c.N,.sl true (L cU8 ([])),.sl false (L cApi_Value e)] false,.buf 4 (L cApi_Value e) true],_,_)]) ⟨Sw  bA,trivial⟩ ⟨(wc (LO bC) [2]),trivial⟩) (Ew2 bB bD) ?_
 exact Sr <|Rr
theorem GW{b r}(h:D5 b=some r):Con B 46 [.agg (Ad b)] [] (fun r' σ'=>r'=.bs false 0 (r.length) 0 (r.length)∧σ'=[.buf 4 (L cApi_Value r) false]):=by
 refine Co 0 19 [.tmp 2] Tryz.func46 (fun F hE=>?_) h;unfold D5;refine T0 [1] ?_;refine Bd fun j c =>Bd fun k d =>Bd fun m e =>Bd fun n f =>Bd fun o g =>Lt fun a i =>De (fr':=[(2,.bs true 1 (a.length) 0 (a.length))]) (σ':=[_,.buf 4 (L cApi_Value a) false]) [[],[0],[0,1],[],[3],[0,1,2,3,4],[],[6],[0,1,2,3,4,5,6,7],[],[9],[0,1,2,3,4,5,6,7,8,9,10],[],[12],[0,1,2,3,4,5,6,7,8,9,10,11,12,13],[0,1,2,3,4,5,6,7,8,9,10,11,12,13,14],[0,1,2,3,4,5,6,7,8,9,10,11,12,13,14,15]] [2] (Fp (l:=[(5,_,_,_),(8,_,_,_),(11,_,_,_),(14,_,_,_),(17,_,_,_)]) ⟨Fm  c,Fm  d,Jt  e,Fm  f,F5  g,trivial⟩) (Ew1 i) ?_
 exact Sr <|Ro [1]
theorem JW{b r}(h:Hg b=some r):Con B 51 [u64 b] [] (fun r' σ'=>r'=.agg [i64 r.Za,i64 r.N,.sl false (L cU8 r.B),.sl false (L cApi_Value r.L)]∧σ'=[]):=by
 refine Cw 23 [.cell 2 105] Tryz.func51 (fun F hE=>?_) h;unfold Hg;refine T0 [0,2] ?_;refine Ck fun f =>Lt fun a g =>Te (fr':=[(0,_),(2,_),(3,.bs true 1 (a.length) 0 (a.length))]) (σ':=[_,.buf 1 (L cU8 a) false]) [0,2,3] Aa (Ew2 f g) ?_
 refine Ja (fun c=>⟨Aq 23 [(2,.ref 0 0),(3,.bs true 1 (c.length) 0 (c.length))],[.box [i64 0,i64 0,.sl true (L cU8 ([])),.sl true (L cApi_Value ([]))] false,.buf 1 (L cU8 c) false]⟩) ?_ ?_
 ·intro q;refine T0 [0,2,3,7,8] ?_;refine Sb ?_;refine Lo (fun(v:Int×List UInt8)=>(⟨Aq 23 [(0,u64 b),(2,.ref 0 0),(3,.bs true 1 (v.2.length) 0 (v.2.length)),(7,i64 (a.length:Int)),(8,i64 v.1)],[.box [i64 0,i64 0,.sl true (L cU8 ([])),.sl true (L cApi_Value ([]))] false,.buf 1 (L cU8 v.2) false]⟩:St)) (ws [0,1]) ?_;rintro⟨i,d⟩ s j k l;show Dd b a i d=some j→_;unfold Dd;refine T0 [0,2,3,7,8,9] ?_;refine Sq <|Cd ?_ ?_
  ·refine Sk <|Tn <|Sq <|Sb <|T0 [0,2,3,4,7,8] ?_
   refine Ck fun m =>Ck fun n =>Lt fun e o =>Fe (fr':=[(0,_),(2,_),(3,.bs true 1 (e.length) 0 (e.length)),(7,_),(8,_)]) (σ':=[_,.buf 1 (L cU8 e) false]) [0,2,3,7,8] Aa (Ew3 m (qR n) o) ?_
   refine Bn <|Tn <|F0 [0,2,3,7,8] ?_
   exact Ln (ws [0,1])
  ·refine Sx <|Tx <|Ly l k <|Bx <|?_
   exact Jm ((ws (l':=[(2,.ref 0 0),(3,.bs true 1 (d.length) 0 (d.length))]) (σ':=[.box [i64 0,i64 0,.sl true (L cU8 ([])),.sl true (L cApi_Value ([]))] false,.buf 1 (L cU8 d) false]) [0,1]).trans (ws [0,1]))
 intro c;refine Bd fun t p =>Te [2] (o1 22 (Jt p)) Ev ?_
 exact Sr <|Rr
theorem HL{a r}(h:I2 a=some r):Con B 45 [.sl false (L cApi_Value a)] [] (fun r' σ'=>r'=.agg [i64 r.Za,i64 r.N,.sl false (L cU8 r.B),.sl false (L cApi_Value r.L)]∧σ'=[]):=by
 refine Cw 5 [.cell 2 105] Tryz.func45 (fun F hE=>?_) h;unfold I2;refine T0 [0,2] ?_;refine T0 [2] ?_;exact Sr <|Rr
theorem KN{rec_:AoG→Option (Int×Bool)}(hrec:∀{a:AoG} {r:Int×Bool},rec_ a=some r→Con B 78 [.agg [i64 a.Za,i64 a.N,.sl false (L cU8 a.B),.sl false (L cApi_Value a.L)]] [] (fun r' σ'=>r'=.tup [i64 r.1,.bool r.2]∧σ'=[])){a:AoG}{r:Int×Bool}(h:Ei rec_ a=some r):Con B 78 [.agg [i64 a.Za,i64 a.N,.sl false (L cU8 a.B),.sl false (L cApi_Value a.L)]] [] (fun r' σ'=>r'=.tup [i64 r.1,.bool r.2]∧σ'=[]):=by
 refine Kl (N:=64) (rs:=[.tmp 2,.tmp 3]) ok Tryz.func78 rfl (by decide +kernel) rfl rfl (Apm rfl) (fun F=>?_);have hE:=ok.env F;unfold Ei at h;show Run (B.env F) 0 _ ⟨Aq 64 [(0,.agg [i64 a.Za,i64 a.N,.sl false (L cU8 a.B),.sl false (L cApi_Value a.L)])],[]⟩ _;refine FT ?_;revert h;refine T0 [1,2] ?_;refine Jo (fun _=>⟨Aq 64 [],[]⟩) ?_ ?_
 ·intro ac b;refine T0 [1,2,9] ?_;refine Sb <|T0 [1,2,9,10] ?_
  refine Cd ?_ ?_
  ·refine Dw [[],[0],[0,1],[0,1,2],[0,1,2,3],[0,1,2,3,4],[0,1,2,3,4,5],[0,1,2,3,4,5,6],[0,1,2,3,4,5,6,7],[0,1,2,3,4,5,6,7,8],[0,1,2,3,4],[0,1,2,3,4,5,6,7,8,9,10]] [2,3] (fun f=>⟨Aq 64 [(2,i64 0),(3,.bool f)],[]⟩) ?_ ?_
   ·intro _;refine Sp (fun c=>?_) fun c=>?_
    ·exact Lf Aa (Ew1 c) (ws [])
    ·exact Lf Aa (Ew1 c) (ws [])
   intro f;exact Sr <|Br <|Jr b <|Rr
  ·refine T0 [1,2,9,22] ?_;refine Cd ?_ ?_
   ·refine Dw [[],[0],[0,1],[0,1,2],[0,1,2,3],[0,1,2,3,4],[0,1,2,3,4,5],[0,1,2,3,4,5,6],[0,1,2,3,4,5,6,7],[0,1,2,3],[0,1,2,3,4,5,6,7,8,9]] [2,3] (fun g=>⟨Aq 64 [(2,i64 0),(3,.bool g)],[]⟩) ?_ ?_
    ·intro _;refine Sp (fun d=>?_) fun d=>?_
     ·exact Lf Aa (Ew1 d) (ws [])
     ·exact Lf Aa (Ew1 d) (ws [])
    intro g;exact Sr <|Br <|Jr b <|Rr
   ·refine T0 [1,2,33] ?_;refine Cd ?_ ?_
    ·refine Sq ?_;refine Tw [1,2,43] (fun i=>⟨Aq 64 [(1,.ref 0 0),(2,i64 0),(43,.bool i)],[.box [i64 a.Za,i64 a.N,.sl false (L cU8 a.B),.sl false (L cApi_Value a.L)] false]⟩) ?_ ?_
     ·intro _;refine Sp (fun e=>?_) fun e=>?_
      ·exact Lf Aa (Ew1 e) (ws [0])
      ·exact Lf Aa (Ew1 e) (ws [0])
     intro i;refine Cd ?_ ?_
     ·refine T0 [2,3] ?_;exact Sr <|Tr <|Br <|Jr b <|Rr
     ·refine Sk <|Tn <|?_
      refine Jo (fun j=>⟨Aq 64 [(2,i64 j)],[]⟩) ?_ ?_
      ·intro ad n;refine T0 [2,45,46,47] ?_;refine Sb ?_;refine Lo (fun(v:Int×Int)=>(⟨Aq 64 [(2,i64 v.1),(45,.sl false (L cApi_Value a.L)),(46,i64 (a.L.length:Int)),(47,i64 v.2)],[]⟩:St)) (ws []) ?_;rintro⟨k,o⟩ ae p l m;show BJ a rec_ k o=some p→_;unfold BJ;refine T0 [2,45,46,47,48] ?_;refine Sq <|Cd ?_ ?_
       ·refine Sk <|Tn <|Sq <|Sb <|Ck fun q =>Lt fun s t =>Lt fun u w =>Lt fun x y =>Lt fun z aa =>Te (σ':=[.box [i64 s,i64 u,.sl false (L cU8 x),.sl false (L cApi_Value z)] false]) [2,5,45,46,47] Aa (Ew5 (qR q) t w y aa) ?_
        refine Bd fun af ab =>Te [2,6,7,45,46,47] (o1 53 (hrec ab)) Ev ?_
        refine Sq <|T0 [2,6,45,46,47,57] ?_
        refine Cd ?_ ?_
        ·refine T0 [2,3] ?_;exact Sr <|Tr <|Br <|Tr <|Lr m l <|Br <|Jr n <|Br <|Jr b <|Rr
        ·refine Sk <|Tn <|F0 [2,45,46,47] ?_
         refine Bn <|Tn <|F0 [2,45,46,47] ?_
         exact Ln (ws [])
       ·refine Sx <|Tx <|Lx m l <|Bx <|?_
        exact Jn ((ws (l':=[(2,i64 k)]) (σ':=[]) []).trans (ws []))
      intro j;refine T0 [2,3] ?_;exact Sr <|Br <|Jr b <|Rr
    ·exact Sk <|Bn <|Jn (ws [])
 intro _;refine T0 [2,3] ?_;exact Sr <|Rr
theorem La(n:Nat):∀{a:AoG} {r:Int×Bool},D9 n a=some r→Con B 78 [.agg [i64 a.Za,i64 a.N,.sl false (L cU8 a.B),.sl false (L cApi_Value a.L)]] [] (fun r' σ'=>r'=.tup [i64 r.1,.bool r.2]∧σ'=[]):=by
 induction n with
 |zero=>intro a r h;cases h
 |succ n ih=>intro a r h;exact KN ih h
theorem Ic{a:AoG}{r:Int×Bool}(h:EG a=some r):Con B 78 [.agg [i64 a.Za,i64 a.N,.sl false (L cU8 a.B),.sl false (L cApi_Value a.L)]] [] (fun r' σ'=>r'=.tup [i64 r.1,.bool r.2]∧σ'=[]):=La _ h
theorem EV{a r}(h:BG a=some r):Con B 147 [u64 a] [] (fun r' σ'=>r'=i64 r∧σ'=[]):=by
 refine Cw 10 [.tmp 2] Tryz.func147 (fun F hE=>?_) h;unfold BG;refine T0 [0,2] ?_;refine Ja (fun b=>⟨Aq 10 [(2,i64 b)],[]⟩) ?_ ?_
 ·intro k;refine Sb ?_;refine Lo (fun(v:UInt64×Int)=>(⟨Aq 10 [(0,u64 v.1),(2,i64 v.2)],[]⟩:St)) (ws []) ?_;rintro⟨d,c⟩ l e f g;show Bb d c=some e→_;unfold Bb;refine Sq <|T0 [0,2,4] ?_
  refine Cd ?_ ?_
  ·refine Sk <|Tn <|Sq <|Sb <|F0 [0,2] ?_
   refine Bn <|Tn <|Lt fun i j =>Fe (fr':=[(0,u64 i),(2,_)]) [0,2] Aa (Ew1 j) ?_
   exact Ln (ws [])
  ·refine Sx <|Tx <|Ly g f <|Bx <|?_
   exact Jm ((ws (l':=[(2,i64 c)]) (σ':=[]) []).trans (ws []))
 intro b;refine T0 [2] ?_;exact Sr <|Rr
theorem JJ{a b r}(h:Di a b=some r):Con B 123 [.bs false 0 (a.length) 0 (a.length),i64 b] [.buf 1 (L cU8 a) false] (fun r' σ'=>r'=.bs false 0 (r.length) 0 (r.length)∧σ'=[.buf 1 (L cU8 r) false]):=by
 refine Co 1 48 [.tmp 4] Tryz.func123 (fun F hE=>?_) h;unfold Di;refine T0 [0,1] ?_;refine T0 [0,1,5] ?_;refine Bd fun z i =>Te [0,1,5,6] (o1 12 (EV i)) Ev ?_
 refine Lt fun j k =>Te (fr':=[(0,_),(1,_),(5,_),(6,_),(7,u8 j)]) [0,1,5,6,7] Aa (Ew1 k) ?_
 refine Ja (fun(v:Int×UInt8)=>(⟨Aq 48 [(0,.bs false 0 (a.length) 0 (a.length)),(1,i64 b),(6,i64 v.1),(7,u8 v.2)],[.buf 1 (L cU8 a) false]⟩:St)) ?_ ?_
 ·intro aa;refine T0 [0,1,5,6,7,17] ?_;refine Cd ?_ ?_
  ·refine Bd fun ab l =>Te [0,1,6] (o1 22 (EV l)) Ev ?_
   refine Lt fun m n =>Fe (fr':=[(0,_),(1,_),(6,_),(7,u8 m)]) [0,1,6,7] Aa (Ew1 n) ?_
   exact Jm (ws [0])
  ·exact Sk <|Jm (ws [0])
 rintro⟨e,ac⟩;refine Ck fun o =>Lt fun f p =>Te (fr':=[(0,.bs false 0 (f.length) 0 (f.length)),(1,_),(6,_)]) (σ':=[.buf 1 (L cU8 f) false,_]) [0,1,6] Aa (Ew2 o p) ?_
 refine Ja (fun c=>⟨Aq 48 [(0,.bs false 0 (c.length) 0 (c.length))],[.buf 1 (L cU8 c) false]⟩) ?_ ?_
 ·intro ad;refine T0 [0,1,6,30,31] ?_;refine Sb ?_;refine Lo (fun(v:Int×List UInt8)=>(⟨Aq 48 [(0,.bs false 0 (v.2.length) 0 (v.2.length)),(1,i64 b),(6,i64 e),(30,i64 e),(31,i64 v.1)],[.buf 1 (L cU8 v.2) false]⟩:St)) (ws [0]) ?_;rintro⟨q,d⟩ ae s t u;show Bc b e q d=some s→_;unfold Bc;refine T0 [0,1,6,30,31,32] ?_;refine Sq <|Cd ?_ ?_
  ·refine Sk <|Tn <|Sq <|Sb <|T0 [0,1,6,8,30,31] ?_
   refine Ck fun w =>Ck fun x =>Lt fun g y =>Fe (fr':=[(0,.bs false 0 (g.length) 0 (g.length)),(1,_),(6,_),(30,_),(31,_)]) (σ':=[.buf 1 (L cU8 g) false,_]) [0,1,6,30,31] Aa (Ew3 w x y) ?_
   refine Bn <|Tn <|F0 [0,1,6,30,31] ?_
   exact Ln (ws [0])
  ·refine Sx <|Tx <|Ly u t <|Bx <|?_
   exact Jm ((ws (l':=[(0,.bs false 0 (d.length) 0 (d.length))]) (σ':=[.buf 1 (L cU8 d) false]) [0]).trans (ws [0]))
 intro c;refine T0 [4] ?_;exact Sr <|Ro [0]
theorem HG{rec_:(List UInt8)→AoG→Option (List UInt8)}(hrec:∀{b:List UInt8} {a:AoG} {r:List UInt8},rec_ b a=some r→Con B 79 [.bs false 0 (b.length) 0 (b.length),.agg [i64 a.Za,i64 a.N,.sl false (L cU8 a.B),.sl false (L cApi_Value a.L)]] [.buf 1 (L cU8 b) false] (fun r' σ'=>r'=.bs false 0 (r.length) 0 (r.length)∧σ'=[.buf 1 (L cU8 r) false])){b:List UInt8}{a:AoG}{r:List UInt8}(h:Cc rec_ b a=some r):Con B 79 [.bs false 0 (b.length) 0 (b.length),.agg [i64 a.Za,i64 a.N,.sl false (L cU8 a.B),.sl false (L cApi_Value a.L)]] [.buf 1 (L cU8 b) false] (fun r' σ'=>r'=.bs false 0 (r.length) 0 (r.length)∧σ'=[.buf 1 (L cU8 r) false]):=by
 refine L3 (N:=59) (rs:=[.tmp 4]) 1 rfl ok Tryz.func79 rfl (by decide +kernel) rfl rfl (Apm rfl) (fun F=>?_);have hE:=ok.env F;unfold Cc at h;show Run (B.env F) 1 _ ⟨Aq 59 [(0,.bs false 0 (b.length) 0 (b.length)),(1,.agg [i64 a.Za,i64 a.N,.sl false (L cU8 a.B),.sl false (L cApi_Value a.L)])],[.buf 1 (L cU8 b) false]⟩ _;refine FT ?_;revert h;refine T0 [0,3] ?_;refine Jo (fun _=>⟨Aq 59 [(0,.bs false 0 (b.length) 0 (b.length)),(3,.ref 1 0)],[.buf 1 (L cU8 b) false,.box [i64 a.Za,i64 a.N,.sl false (L cU8 a.B),.sl false (L cApi_Value a.L)] false]⟩) ?_ ?_
 ·intro aB w;refine T0 [0,3,10] ?_;refine Sb <|T0 [0,3,10,11] ?_
  refine Cd ?_ ?_
  ·refine Bd fun aC y =>Te [4] (Ao (l:=[]) (m:=[(16,123,[.bs false 0 (b.length) 0 (b.length),i64 a.N],[.buf 1 (L cU8 b) false,.box [i64 a.Za,i64 a.N,.sl false (L cU8 a.B),.sl false (L cApi_Value a.L)] false],_,_)]) trivial ⟨(wc (JJ y) [0]),trivial⟩) Ev ?_
   exact Sr <|Br <|Jr w <|Ro [0]
  ·refine T0 [0,3,17] ?_;refine Cd ?_ ?_
   ·refine Ck fun z =>Lt fun i aa =>Te (fr':=[(0,.bs false 0 (i.length) 0 (i.length)),(3,_)]) (σ':=[.buf 1 (L cU8 i) false,_,_]) [0,3] Aa (Ew2 z aa) ?_
    refine Ja (fun d=>⟨Aq 59 [(0,.bs false 0 (d.length) 0 (d.length))],[.buf 1 (L cU8 d) false]⟩) ?_ ?_
    ·intro aD;refine T0 [0,23,24,25] ?_;refine Sb ?_;refine Lo (fun(v:Int×List UInt8)=>(⟨Aq 59 [(0,.bs false 0 (v.2.length) 0 (v.2.length)),(23,.sl false (L cU8 a.B)),(24,i64 (a.B.length:Int)),(25,i64 v.1)],[.buf 1 (L cU8 v.2) false]⟩:St)) (ws [0]) ?_;rintro⟨x,e⟩ aE ab ac ad;show AW a x e=some ab→_;unfold AW;refine T0 [0,23,24,25,26] ?_;refine Sq <|Cd ?_ ?_
     ·refine Sk <|Tn <|?_
      refine Ja (fun f=>⟨Aq 59 [(0,.bs false 0 (f.length) 0 (f.length)),(23,.sl false (L cU8 a.B)),(24,i64 (a.B.length:Int)),(25,i64 x)],[.buf 1 (L cU8 f) false]⟩) ?_ ?_
      ·intro aF;refine Sb <|Ck fun ae =>Te [0,6,23,24,25] Aa (Ew1 (qR ae)) ?_
       refine Ck fun af =>Lt fun j ag =>Te (fr':=[(0,.bs false 0 (j.length) 0 (j.length)),(6,_),(23,_),(24,_),(25,_)]) (σ':=[.buf 1 (L cU8 j) false,_]) [0,6,23,24,25] Aa (Ew2 af ag) ?_
       refine T0 [0,23,24,25,34] ?_;refine Cd ?_ ?_
       ·refine Ck fun ah =>Lt fun k ai =>Fe (fr':=[(0,.bs false 0 (k.length) 0 (k.length)),(23,_),(24,_),(25,_)]) (σ':=[.buf 1 (L cU8 k) false,_,_]) [0,23,24,25] Aa (Ew2 ah ai) ?_
        exact Bn <|Jm (ws [0])
       ·exact Sk <|Bn <|Jm (ws [0])
      intro f;refine F0 [0,23,24,25] ?_;exact Ln (ws [0])
     ·refine Sx <|Tx <|Ly ad ac <|Bx <|?_
      exact Jm ((ws (l':=[(0,.bs false 0 (e.length) 0 (e.length))]) (σ':=[.buf 1 (L cU8 e) false]) [0]).trans (ws [0]))
    intro d;refine Ck fun aj =>Lt fun n ak =>Te (fr':=[(4,.bs false 0 (n.length) 0 (n.length))]) (σ':=[.buf 1 (L cU8 n) false,_]) [4] Aa (Ew2 aj ak) ?_
    exact Sr <|Br <|Jr w <|Ro [0]
   ·exact Sk <|Bn <|Jn (ws [0,1])
 intro _;refine Ck fun al =>Lt fun o am =>Te (fr':=[(0,.bs false 0 (o.length) 0 (o.length)),(3,_)]) (σ':=[.buf 1 (L cU8 o) false,_,_]) [0,3] Aa (Ew2 al am) ?_
 refine Ja (fun g=>⟨Aq 59 [(0,.bs false 0 (g.length) 0 (g.length))],[.buf 1 (L cU8 g) false]⟩) ?_ ?_
 ·intro aG;refine T0 [0,46,47,48] ?_;refine Sb ?_;refine Lo (fun(v:Int×List UInt8)=>(⟨Aq 59 [(0,.bs false 0 (v.2.length) 0 (v.2.length)),(46,.sl false (L cApi_Value a.L)),(47,i64 (a.L.length:Int)),(48,i64 v.1)],[.buf 1 (L cU8 v.2) false]⟩:St)) (ws [0]) ?_;rintro⟨an,c⟩ aH ao ap aq;show AX a rec_ an c=some ao→_;unfold AX;refine T0 [0,46,47,48,49] ?_;refine Sq <|Cd ?_ ?_
  ·refine Sk <|Tn <|Sq <|Sb <|Ck fun ar =>Lt fun p au =>Lt fun q av =>Lt fun s aw =>Lt fun t ax =>Te (σ':=[_,.box [i64 p,i64 q,.sl false (L cU8 s),.sl false (L cApi_Value t)] false]) [0,8,46,47,48] Aa (Ew5 (qR ar) au av aw ax) ?_
   refine Bd fun aI ay =>Fe [0,46,47,48] (Ao (l:=[]) (m:=[(54,79,[.bs false 0 (c.length) 0 (c.length),.agg [i64 p,i64 q,.sl false (L cU8 s),.sl false (L cApi_Value t)]],[.buf 1 (L cU8 c) false,.box [i64 p,i64 q,.sl false (L cU8 s),.sl false (L cApi_Value t)] false],_,_)]) trivial ⟨(wc (hrec ay) [0]),trivial⟩) Ev ?_
   refine Bn <|Tn <|F0 [0,46,47,48] ?_
   exact Ln (ws [0])
  ·refine Sx <|Tx <|Ly aq ap <|Bx <|?_
   exact Jm ((ws (l':=[(0,.bs false 0 (c.length) 0 (c.length))]) (σ':=[.buf 1 (L cU8 c) false]) [0]).trans (ws [0]))
 intro g;refine Ck fun az =>Lt fun u aA =>Te (fr':=[(4,.bs false 0 (u.length) 0 (u.length))]) (σ':=[.buf 1 (L cU8 u) false,_]) [4] Aa (Ew2 az aA) ?_
 exact Sr <|Ro [0]
theorem HC(n:Nat):∀{b:List UInt8} {a:AoG} {r:List UInt8},BF n b a=some r→Con B 79 [.bs false 0 (b.length) 0 (b.length),.agg [i64 a.Za,i64 a.N,.sl false (L cU8 a.B),.sl false (L cApi_Value a.L)]] [.buf 1 (L cU8 b) false] (fun r' σ'=>r'=.bs false 0 (r.length) 0 (r.length)∧σ'=[.buf 1 (L cU8 r) false]):=by
 induction n with
 |zero=>intro b a r h;cases h
 |succ n ih=>intro b a r h;exact HG ih h
theorem IE{b:List UInt8}{a:AoG}{r:List UInt8}(h:EF b a=some r):Con B 79 [.bs false 0 (b.length) 0 (b.length),.agg [i64 a.Za,i64 a.N,.sl false (L cU8 a.B),.sl false (L cApi_Value a.L)]] [.buf 1 (L cU8 b) false] (fun r' σ'=>r'=.bs false 0 (r.length) 0 (r.length)∧σ'=[.buf 1 (L cU8 r) false]):=HC _ h
theorem HR{a r}(h:Ee a=some r):Con B 44 [.agg [i64 a.Za,i64 a.N,.sl false (L cU8 a.B),.sl false (L cApi_Value a.L)]] [] (fun r' σ'=>r'=.tup [.sl false (L cU8 r.1),i64 r.2]∧σ'=[]):=by
 refine Cw 22 [.tmp 2,.tmp 3] Tryz.func44 (fun F hE=>?_) h;unfold Ee;refine T0 [1] ?_;refine Bd fun d b =>Te [1,4,5] (o1 9 (Ic b)) Ev ?_
 refine Sq <|T0 [1,4,13] ?_
 refine Cd ?_ ?_
 ·refine T0 [2,3] ?_;exact Sr <|Tr <|Rr
 ·refine Sk <|Tn <|Sq <|T0 [1,15] ?_
  refine Cd ?_ ?_
  ·refine T0 [2,3] ?_;exact Sr <|Tr <|Rr
  ·refine Sk <|Tn <|Bd fun e c =>Te [6] (Ao (l:=[]) (m:=[(17,79,[.sl true (L cU8 ([])),.agg [i64 a.Za,i64 a.N,.sl false (L cU8 a.B),.sl false (L cApi_Value a.L)]],[.box [i64 a.Za,i64 a.N,.sl false (L cU8 a.B),.sl false (L cApi_Value a.L)] false],_,_)]) trivial ⟨(Abp 1 (args':=[.bs true 1 0 0 0,.agg [i64 a.Za,i64 a.N,.sl false (L cU8 a.B),.sl false (L cApi_Value a.L)]]) gs (wc (IE c) [1])),trivial⟩) Ev ?_
   refine Sq <|T0 [6,20] ?_
   refine Cd ?_ ?_
   ·refine T0 [2,3] ?_;exact Sr <|Tr <|Rr
   ·refine Sk <|Tn <|T0 [2,3] ?_
    exact Sr <|Rr
theorem FF{a r}(h:CG a=some r):Con B 17 [.agg (Ad a)] [] (fun r' σ'=>r'=.tup [.sl false (L cU8 r.1),i64 r.2]∧σ'=[]):=by
 refine Cw 22 [.tmp 2,.tmp 3] Tryz.func17 (fun F hE=>?_) h;unfold CG;refine T0 [1] ?_;refine Bd fun e f =>Bd fun g i =>Bd fun j k =>Bd fun b n =>Ck fun c =>Bd fun q o =>Bd fun d p =>?_
 intro h;refine Th hE KE [[],[0],[],[2],[2,3],[0,1,2,3,4],[],[6],[6,7],[0,1,2,3,4,5,6,7,8],[0,1,2,3,4,5,6,7,8,9],[0,1,2,3,4,5,6,7,8,9,10],[0,1,2,3,4,5,6,7,8,9,10,11],[0,1,2,3,4,5,6,7,8,9,10,11,12],[0,1,2,3,4,5,6,7,8,9,10,11,12,13],[0,1,2,3,4,5,6,7,8,9,10,11,12,13,14],[0,1,2,3,4,5,6,7,8,9,10,11,12,13,14,15],[0,1,2,3,4,5,6,7,8,9,10,11,12,13,14,15],[0,1,2,3,4,5,6,7,8,9,10,11,12,13,14,15,16,17],[0,1,2,3,4,5,6,7,8,9,10,11,12,13,14,15,16,17,18]] (by kernel_rfl) [(),(),(),(),(),(),(),(),()] [(),(),(),(),(),(),()] (by kernel_rfl) [(1,0),(6,0),(7,0),(10,0),(11,0)] [(5,0)] [1,6,7,10,11] [1,2,3,6,7,10,11] (by kernel_rfl) (fr':=[(1,.ref 0 0),(2,.sl false (L cU8 d.1)),(3,i64 d.2),(6,.ref 0 51),(7,.ref 0 51),(10,.ref 0 51),(11,.ref 0 52)]) (σ':=[.box (Ad a) false,.buf 4 (L cApi_Value (e++([b]:List AoG))) true,.buf 4 (L cApi_Value ([g,j]:List AoG)) true,.buf 4 (L cApi_Value ([b]:List AoG)) false]) ⟨_,_,(Ao (l:=[(9,_,_,_),(13,_,_,_),(15,_,_,_),(18,_,_,_),(19,_,_,_)]) (m:=[(5,46,[.agg (Ad a)],[.box (Ad a) false],_,_)]) ⟨JW  i,JW  k,HL  n,HL  o,HR  p,trivial⟩ ⟨(wc (GW f) []),trivial⟩),(by repeat' (first|exact trivial|(refine And.intro ?_ ?_)|exact fun _=>rfl|exact fun h=>absurd h (by decide))),_,_,(by simp only[go_sem,c];exact AP),(by exact⟨rfl,rfl,rfl,rfl,rfl,trivial⟩),(by simp only[go_sem,c];exact AP)⟩ ?_;revert h;exact Sr <|Rr
theorem AL{a b r}(h:Av a b=some r):Con B 165 [u32 a,i64 b] [] (fun r' σ'=>r'=u32 r∧σ'=[]):=by
 refine Cw 17 [.tmp 4] Tryz.func165 (fun F hE=>?_) h;unfold Av;refine T0 [0,1] ?_;refine Lt fun c d =>Te (fr':=[(0,_),(5,u64 c)]) [0,5] Aa (Ew1 d) ?_
 refine Lt fun e f =>Te (fr':=[(4,u32 e)]) [4] Aa (Ew1 f) ?_
 exact Sr <|Rr
theorem LJ{a b r}(h:Gy a b=some r):Con B 148 [.agg (C1 u32 a.l),.sl false (L cU8 b)] [] (fun r' σ'=>r'=.agg (C1 u32 r.l)∧σ'=[]):=by
 refine Cw 195 [.cell 4 221] Tryz.func148 (fun F hE=>?_) h;unfold Gy;refine T0 [1,2,4] ?_;refine T0 [1,2,4,5] ?_;refine Ja (fun e=>⟨Aq 195 [(2,.ref 0 0),(4,.ref 1 0),(5,.ref 2 0)],[.box (C1 u32 a.l) false,.box (C1 u32 (Arr.rep 8 (0:UInt32)).l) false,.box (C1 u32 e.l) false]⟩) ?_ ?_
 ·intro bh;refine T0 [1,2,4,5,19] ?_;refine Sb ?_;refine Lo (fun(v:Int×Arr UInt32 64)=>(⟨Aq 195 [(1,.sl false (L cU8 b)),(2,.ref 0 0),(4,.ref 1 0),(5,.ref 2 0),(19,i64 v.1)],[.box (C1 u32 a.l) false,.box (C1 u32 (Arr.rep 8 (0:UInt32)).l) false,.box (C1 u32 v.2.l) false]⟩:St)) (ws [0,1,2]) ?_;rintro⟨ac,f⟩ bi ad ae af;show Gb b ac f=some ad→_;unfold Gb;refine T0 [1,2,4,5,19,20] ?_;refine Sq <|Cd ?_ ?_
  ·refine Sk <|Tn <|Sq <|Sb <|T0 [1,2,4,5,6,19] ?_
   refine Ck fun ag =>Ck fun ah =>Ck fun ai =>Ck fun aj =>Ck fun ak =>Lt fun al am =>Ge (σ':=[_,_,.box (C1 u32 al.l) false]) [[],[],[],[2],[1,2,3],[1,2,3,4],[1,2,3,4,5],[1,2,3,4,5,6],[],[],[9],[9,10],[8,9,10,11],[8,9,10,11,12],[8,9,10,11,12,13],[8,9,10,11,12,13,14],[1,2,3,4,5,6,7,8,9,10,11,12,13,14,15],[],[],[18],[18,19],[17,18,19,20],[17,18,19,20,21],[17,18,19,20,21,22],[17,18,19,20,21,22,23],[1,2,3,4,5,6,7,8,9,10,11,12,13,14,15,16,17,18,19,20,21,22,23,24],[],[],[27],[27,28],[26,27,28,29],[26,27,28,29,30],[26,27,28,29,30,31],[1,2,3,4,5,6,7,8,9,10,11,12,13,14,15,16,17,18,19,20,21,22,23,24,25,26,27,28,29,30,31,32],[0,1,2,3,4,5,6,7,8,9,10,11,12,13,14,15,16,17,18,19,20,21,22,23,24,25,26,27,28,29,30,31,32,33],[0,1,2,3,4,5,6,7,8,9,10,11,12,13,14,15,16,17,18,19,20,21,22,23,24,25,26,27,28,29,30,31,32,33,34]] [1,2,4,5,19] Aa (Ev (by simp only[go_sem,qR ag,qR ah,qR ai,qR aj,qR ak,am];exact AP)) ?_
   refine Bn <|Tn <|F0 [1,2,4,5,19] ?_
   exact Ln (ws [0,1,2])
  ·refine Sx <|Tx <|Ly af ae <|Bx <|?_
   exact Jm ((ws (l':=[(2,.ref 0 0),(4,.ref 1 0),(5,.ref 2 0)]) (σ':=[.box (C1 u32 a.l) false,.box (C1 u32 (Arr.rep 8 (0:UInt32)).l) false,.box (C1 u32 f.l) false]) [0,1,2]).trans (ws [0,1,2]))
 intro e;refine Ja (fun c=>⟨Aq 195 [(2,.ref 0 0),(4,.ref 1 0),(5,.ref 2 0)],[.box (C1 u32 a.l) false,.box (C1 u32 (Arr.rep 8 (0:UInt32)).l) false,.box (C1 u32 c.l) false]⟩) ?_ ?_
 ·intro bj;refine T0 [2,4,5,7] ?_;refine Sb ?_;refine Lo (fun(v:Int×Arr UInt32 64)=>(⟨Aq 195 [(2,.ref 0 0),(4,.ref 1 0),(5,.ref 2 0),(7,i64 v.1)],[.box (C1 u32 a.l) false,.box (C1 u32 (Arr.rep 8 (0:UInt32)).l) false,.box (C1 u32 v.2.l) false]⟩:St)) (ws [0,1,2]) ?_;rintro⟨an,g⟩ bk ao ap aq;show FP an g=some ao→_;unfold FP;refine Sq <|T0 [2,4,5,7,59] ?_
  refine Cd ?_ ?_
  ·refine Sk <|Tn <|Sq <|Sb <|Ck fun ar =>Ck fun au =>Lt fun av aw =>Lt fun ax ay =>De (fr':=[(2,_),(4,_),(5,_),(7,_),(8,u32 av),(9,u32 ax)]) [[],[0],[0,1],[0,1,2],[],[4],[4,5],[4,5,6],[0,1,2,3],[0,1,2,3,4,5,6,7,8]] [2,4,5,7,8,9] Aa (Ew4 (qR ar) (qR au) aw ay) ?_
   refine Bd fun bl az =>Bd fun bm aA =>Lt fun s0_5401 aB =>Te (fr':=[(2,_),(4,_),(5,_),(7,_),(9,_),(10,u32 s0_5401)]) [2,4,5,7,9,10] (o2 71 (AL az) 73 (AL aA)) (Ew1 aB) ?_
   refine Bd fun bn aC =>Bd fun bo aD =>Lt fun s1_5407 aE =>Te (fr':=[(2,_),(4,_),(5,_),(7,_),(10,_),(11,u32 s1_5407)]) [2,4,5,7,10,11] (o2 79 (AL aC) 81 (AL aD)) (Ew1 aE) ?_
   refine Ck fun aF =>Ck fun aG =>Ck fun aH =>Lt fun aI aJ =>Ge (σ':=[_,_,.box (C1 u32 aI.l) false]) [[],[],[1],[1,2],[1,2,3],[],[1,2,3,4,5],[],[7],[7,8],[7,8,9],[1,2,3,4,5,6,7,8,9,10],[],[1,2,3,4,5,6,7,8,9,10,11,12],[0,1,2,3,4,5,6,7,8,9,10,11,12,13],[0,1,2,3,4,5,6,7,8,9,10,11,12,13,14]] [2,4,5,7] Aa (Ew4 (qR aF) (qR aG) (qR aH) aJ) ?_
   refine Bn <|Tn <|F0 [2,4,5,7] ?_
   exact Ln (ws [0,1,2])
  ·refine Sx <|Tx <|Ly aq ap <|Bx <|?_
   exact Jm ((ws (l':=[(2,.ref 0 0),(4,.ref 1 0),(5,.ref 2 0)]) (σ':=[.box (C1 u32 a.l) false,.box (C1 u32 (Arr.rep 8 (0:UInt32)).l) false,.box (C1 u32 g.l) false]) [0,1,2]).trans (ws [0,1,2]))
 intro c;refine T0 [2,4,5,12] ?_;refine Ja (fun d=>⟨Aq 195 [(2,.ref 0 0),(4,.ref 1 0),(12,.ref 2 0)],[.box (C1 u32 a.l) false,.box (C1 u32 (Arr.rep 8 (0:UInt32)).l) false,.box (C1 u32 d.l) false]⟩) ?_ ?_
 ·intro bp;refine T0 [2,4,5,12,102] ?_;refine Sb ?_;refine Lo (fun(v:Int×Arr UInt32 8)=>(⟨Aq 195 [(2,.ref 0 0),(4,.ref 1 0),(5,.ref 2 0),(12,.ref 3 0),(102,i64 v.1)],[.box (C1 u32 a.l) false,.box (C1 u32 (Arr.rep 8 (0:UInt32)).l) false,.box (C1 u32 c.l) false,.box (C1 u32 v.2.l) false]⟩:St)) (ws [0,1,2,3]) ?_;rintro⟨aK,i⟩ bq aL aM aN;show Dp c aK i=some aL→_;unfold Dp;refine T0 [2,4,5,12,102,103] ?_;refine Sq <|Cd ?_ ?_
  ·refine Sk <|Tn <|Sq <|Sb <|T0 [2,4,5,12,13,102] ?_
   have j:InR 0 8:=by decide
   have k:InR 4 8:=by decide
   refine De [[],[0],[],[2],[0,1],[0,1,2,3,4]] [2,4,5,12,13,14,15,102] Aa (Ev (by simp only[go_sem,j,j.2,k,k.2];exact AP)) ?_;have m:InR 7 8:=by decide
   refine Bd fun aO aP =>Bd fun aQ aR =>Bd fun aS aT =>?_
   have n:InR 5 8:=by decide
   have o:InR 6 8:=by decide
   refine Ck fun aU =>Ck fun aV =>Lt fun aW aX =>De (fr':=[(2,_),(4,_),(5,_),(12,_),(14,_),(15,_),(16,u32 aW),(102,_)]) [[],[0],[],[2],[],[2,3,4],[2,3,4,5],[],[2,3,4,5,7],[2,3,4,5,6,7,8],[0,1,2,3,4,5,6,7,8,9],[],[],[12],[11,12,13],[],[15],[],[17],[15,16,17,18],[11,12,13,14,15,16,17,18,19],[0,1,2,3,4,5,6,7,8,9,10,11,12,13,14,15,16,17,18,19,20],[],[22],[22,23],[0,1,2,3,4,5,6,7,8,9,10,11,12,13,14,15,16,17,18,19,20,21,22,23,24],[],[26],[26,27],[0,1,2,3,4,5,6,7,8,9,10,11,12,13,14,15,16,17,18,19,20,21,22,23,24,25,26,27,28],[0,1,2,3,4,5,6,7,8,9,10,11,12,13,14,15,16,17,18,19,20,21,22,23,24,25,26,27,28,29]] [2,4,5,12,14,15,16,102] (Fp (l:=[(112,_,_,u32 aO),(114,_,_,u32 aQ),(117,_,_,u32 aS)]) ⟨AL  aP,AL  aR,AL  aT,trivial⟩) (Ev (by simp only[go_sem,m,m.2,n,n.2,o,o.2,qR aU,qR aV,aX];exact AP)) ?_
   refine Bd fun aY aZ =>Bd fun a0 a1 =>Bd fun a2 a3 =>?_
   have p:InR 1 8:=by decide
   have q:InR 2 8:=by decide
   have s:InR 1 8:=by decide
   have t:InR 2 8:=by decide
   refine Lt fun a4 a5 =>De (fr':=[(2,_),(4,_),(5,_),(12,_),(14,_),(15,_),(16,_),(17,u32 a4),(102,_)]) [[],[0],[],[0,1,2],[0,1,2,3],[],[0,1,2,3,5],[0,1,2,3,4,5,6],[],[],[9],[8,9,10],[],[],[13],[12,13,14],[8,9,10,11,12,13,14,15],[],[17],[],[19],[17,18,19,20],[8,9,10,11,12,13,14,15,16,17,18,19,20,21],[0,1,2,3,4,5,6,7,8,9,10,11,12,13,14,15,16,17,18,19,20,21,22],[0,1,2,3,4,5,6,7,8,9,10,11,12,13,14,15,16,17,18,19,20,21,22,23]] [2,4,5,12,14,15,16,17,102] (Fp (l:=[(140,_,_,u32 aY),(142,_,_,u32 a0),(145,_,_,u32 a2)]) ⟨AL  aZ,AL  a1,AL  a3,trivial⟩) (Ev (by simp only[go_sem,p,p.2,q,q.2,s,s.2,t,t.2,a5];exact AP)) ?_
   have u:InR 1 8:=by decide
   have w:InR 2 8:=by decide
   have x:InR 3 8:=by decide
   have y:InR 5 8:=by decide
   have z:InR 6 8:=by decide
   refine Lt fun a6 a7 =>Fe (σ':=[_,.box (C1 u32 (Arr.rep 8 (0:UInt32)).l) false,_,.box (C1 u32 a6.l) false]) [2,4,5,12,102] Aa (Ev (by simp only[go_sem,u,u.2,w,w.2,x,x.2,y,y.2,z,z.2,Js,Kv,H9,a7];exact AP)) ?_
   refine Bn <|Tn <|F0 [2,4,5,12,102] ?_
   exact Ln (ws [0,1,2,3])
  ·refine Sx <|Tx <|Ly aN aM <|Bx <|?_
   exact Jm ((ws (l':=[(2,.ref 0 0),(4,.ref 1 0),(12,.ref 2 0)]) (σ':=[.box (C1 u32 a.l) false,.box (C1 u32 (Arr.rep 8 (0:UInt32)).l) false,.box (C1 u32 i.l) false]) [0,1,3]).trans (ws [0,1,2]))
 intro d;refine Ja (fun aa=>⟨Aq 195 [(2,.ref 0 0),(4,.ref 1 0)],[.box (C1 u32 aa.l) false,.box (C1 u32 (Arr.rep 8 (0:UInt32)).l) false]⟩) ?_ ?_
 ·intro br;refine T0 [2,4,12,182] ?_;refine Sb ?_;refine Lo (fun(v:Int×Arr UInt32 8)=>(⟨Aq 195 [(2,.ref 0 0),(4,.ref 1 0),(12,.ref 2 0),(182,i64 v.1)],[.box (C1 u32 v.2.l) false,.box (C1 u32 (Arr.rep 8 (0:UInt32)).l) false,.box (C1 u32 d.l) false]⟩:St)) (ws [0,1,2]) ?_;rintro⟨a8,ab⟩ bs a9 ba bb;show Ga d a8 ab=some a9→_;unfold Ga;refine T0 [2,4,12,182,183] ?_;refine Sq <|Cd ?_ ?_
  ·refine Sk <|Tn <|Sq <|Sb <|T0 [2,4,12,18,182] ?_
   refine Ck fun bc =>Ck fun bd =>Ck fun be =>Lt fun bf bg =>Ge (σ':=[.box (C1 u32 bf.l) false,_,_]) [[],[0],[0,1],[],[3],[3,4],[0,1,2,3,4,5],[0,1,2,3,4,5,6],[0,1,2,3,4,5,6,7]] [2,4,12,182] Aa (Ew4 (qR bc) (qR bd) (qR be) bg) ?_
   refine Bn <|Tn <|F0 [2,4,12,182] ?_
   exact Ln (ws [0,1,2])
  ·refine Sx <|Tx <|Ly bb ba <|Bx <|?_
   exact Jm ((ws (l':=[(2,.ref 0 0),(4,.ref 1 0)]) (σ':=[.box (C1 u32 ab.l) false,.box (C1 u32 (Arr.rep 8 (0:UInt32)).l) false]) [0,1]).trans (ws [0,1]))
 intro aa;refine T0 [4] ?_;exact Sr <|Rr
theorem Pp{d r}(h:Lk d=some r):Con B 125 [.sl false (L (cSl cU8) d)] [] (fun r' σ'=>r'=.agg (C1 u8 r.l)∧σ'=[]):=by
 refine Cw 72 [.cell 2 42] Tryz.func125 (fun F hE=>?_) h;unfold Lk;refine T0 [0,2] ?_;refine T0 [0,2,3] ?_;refine Ja (fun e=>⟨Aq 72 [(2,.ref 0 0),(3,.bs false 1 (e.length) 0 (e.length))],[.box (C1 u8 (Arr.rep 32 (0:UInt8)).l) false,.buf 1 (L cU8 e) false]⟩) ?_ ?_
 ·intro aQ;refine T0 [2,3,10,11,12] ?_;refine Sb ?_;refine Lo (fun(v:Int×List UInt8)=>(⟨Aq 72 [(2,.ref 0 0),(3,.bs false 1 (v.2.length) 0 (v.2.length)),(10,.sl false (L (cSl cU8) d)),(11,i64 (d.length:Int)),(12,i64 v.1)],[.box (C1 u8 (Arr.rep 32 (0:UInt8)).l) false,.buf 1 (L cU8 v.2) false]⟩:St)) ((Rz 3 1 rfl).trans (ws [0,1])) ?_;rintro⟨w,f⟩ aR x y z;show Hq d w f=some x→_;unfold Hq;refine T0 [2,3,10,11,12,13] ?_;refine Sq <|Cd ?_ ?_
  ·refine Sk <|Tn <|Sq <|Sb <|Ck fun aa =>Lt fun ab ac =>Te (fr':=[(2,_),(3,_),(5,.sl false (L cU8 ab)),(10,_),(11,_),(12,_)]) [2,3,5,10,11,12] Aa (Ew2 (qR aa) ac) ?_
   refine Ck fun ad =>Lt fun m ae =>Fe (fr':=[(2,_),(3,.bs false 1 (m.length) 0 (m.length)),(10,_),(11,_),(12,_)]) (σ':=[_,.buf 1 (L cU8 m) false]) [2,3,10,11,12] Aa (Ew2 ad ae) ?_
   refine Bn <|Tn <|F0 [2,3,10,11,12] ?_
   exact Ln (ws [0,1])
  ·refine Sx <|Tx <|Ly z y <|Bx <|?_
   exact Jm ((ws (l':=[(2,.ref 0 0),(3,.bs false 1 (f.length) 0 (f.length))]) (σ':=[.box (C1 u8 (Arr.rep 32 (0:UInt8)).l) false,.buf 1 (L cU8 f) false]) [0,1]).trans (ws [0,1]))
 intro e;refine Lt fun c af =>Te (fr':=[(2,_),(3,_),(6,u64 c)]) [2,3,6] Aa (Ew1 af) ?_
 refine Ck fun ag =>Lt fun n ah =>Te (fr':=[(2,_),(3,.bs false 1 (n.length) 0 (n.length)),(6,_)]) (σ':=[_,.buf 1 (L cU8 n) false,_]) [2,3,6] Aa (Ew2 ag ah) ?_
 refine Ja (fun g=>⟨Aq 72 [(2,.ref 0 0),(3,.bs false 1 (g.length) 0 (g.length)),(6,u64 c)],[.box (C1 u8 (Arr.rep 32 (0:UInt8)).l) false,.buf 1 (L cU8 g) false]⟩) ?_ ?_
 ·intro aS;refine Sb ?_;refine Lo (fun a=>⟨Aq 72 [(2,.ref 0 0),(3,.bs false 1 (a.length) 0 (a.length)),(6,u64 c)],[.box (C1 u8 (Arr.rep 32 (0:UInt8)).l) false,.buf 1 (L cU8 a) false]⟩) (ws [0,1]) ?_;rintro a aT ai aj ak;show HP a=some ai→_;unfold HP;refine Sq ?_;have al:¬(64:Int)=0:=by decide
  refine Te [2,3,6,30] Aa (Ew1 al) ?_;refine Cd ?_ ?_
  ·refine Sk <|Tn <|Sb <|Ck fun am =>Lt fun o an =>Fe (fr':=[(2,_),(3,.bs false 1 (o.length) 0 (o.length)),(6,_)]) (σ':=[_,.buf 1 (L cU8 o) false,_]) [2,3,6] Aa (Ew2 am an) ?_
   exact Bn <|Ln (ws [0,1])
  ·refine Sx <|Tx <|Ly ak aj <|Bx <|?_
   exact Jm ((ws (l':=[(2,.ref 0 0),(3,.bs false 1 (a.length) 0 (a.length)),(6,u64 c)]) (σ':=[.box (C1 u8 (Arr.rep 32 (0:UInt8)).l) false,.buf 1 (L cU8 a) false]) [0,1]).trans (ws [0,1]))
 intro g;refine Ja (fun b=>⟨Aq 72 [(2,.ref 0 0),(3,.bs false 1 (b.length) 0 (b.length))],[.box (C1 u8 (Arr.rep 32 (0:UInt8)).l) false,.buf 1 (L cU8 b) false]⟩) ?_ ?_
 ·intro aU;refine T0 [2,3,6,7] ?_;refine Sb ?_;refine Lo (fun(v:Int×List UInt8)=>(⟨Aq 72 [(2,.ref 0 0),(3,.bs false 1 (v.2.length) 0 (v.2.length)),(6,u64 c),(7,i64 v.1)],[.box (C1 u8 (Arr.rep 32 (0:UInt8)).l) false,.buf 1 (L cU8 v.2) false]⟩:St)) (ws [0,1]) ?_;rintro⟨ao,i⟩ aV ap aq ar;show H5 c ao i=some ap→_;unfold H5;refine Sq <|T0 [2,3,6,7,35] ?_
  refine Cd ?_ ?_
  ·refine Sk <|Tn <|Sq <|Sb <|Ck fun au =>Ck fun av =>Lt fun p aw =>Fe (fr':=[(2,_),(3,.bs false 1 (p.length) 0 (p.length)),(6,_),(7,_)]) (σ':=[_,.buf 1 (L cU8 p) false,_]) [2,3,6,7] Aa (Ew3 au av aw) ?_
   refine Bn <|Tn <|F0 [2,3,6,7] ?_
   exact Ln (ws [0,1])
  ·refine Sx <|Tx <|Ly ar aq <|Bx <|?_
   exact Jm ((ws (l':=[(2,.ref 0 0),(3,.bs false 1 (i.length) 0 (i.length))]) (σ':=[.box (C1 u8 (Arr.rep 32 (0:UInt8)).l) false,.buf 1 (L cU8 i) false]) [0,1]).trans (ws [0,1]))
 intro b;refine Lt fun ax ay =>Te (σ':=[.box (C1 u8 (Arr.rep 32 (0:UInt8)).l) false,_,.box (C1 u32 ax.l) false]) [2,3,8] Aa (Ev (by simp only[go_sem,Js,Kv,H9,ay];exact AP)) ?_
 refine Ja (fun j=>⟨Aq 72 [(2,.ref 0 0),(8,.ref 1 0)],[.box (C1 u8 (Arr.rep 32 (0:UInt8)).l) false,.box (C1 u32 j.l) false]⟩) ?_ ?_
 ·intro aW;refine Sb ?_;refine Lo (fun⟨q,s,k⟩=>⟨Aq 72 [(2,.ref 0 0),(3,.bs false 1 (b.length) q s),(8,.ref 2 0)],[.box (C1 u8 (Arr.rep 32 (0:UInt8)).l) false,.buf 1 (L cU8 b) false,.box (C1 u32 k.l) false]⟩) (ws [0,1,2]) ?_;rintro⟨q,s,k⟩ aX az aA aB;show Hp b q s k=some az→_;unfold Hp;refine Sq <|T0 [2,3,8,48] ?_
  refine Cd ?_ ?_
  ·refine Sk <|Tn <|Sq <|Sb <|Ck fun aC =>Bd fun aY aD =>Ge [[],[],[1],[0,1,2],[0,1,2,3]] [2,3,8] (o1 54 (LJ aD)) (Ew1 aC) ?_
   refine Bn <|Tn <|Ck fun aE =>Fe [2,3,8] Aa (Ew1 aE) ?_
   exact Ln (ws [0,1,2])
  ·refine Sx <|Tx <|Ly aB aA <|Bx <|?_
   exact Jm ((ws (l':=[(2,.ref 0 0),(8,.ref 1 0)]) (σ':=[.box (C1 u8 (Arr.rep 32 (0:UInt8)).l) false,.box (C1 u32 k.l) false]) [0,2]).trans (ws [0,1]))
 intro j;refine Ja (fun t=>⟨Aq 72 [(2,.ref 0 0)],[.box (C1 u8 t.l) false]⟩) ?_ ?_
 ·intro aZ;refine T0 [2,8,55] ?_;refine Sb ?_;refine Lo (fun(v:Int×Arr UInt8 32)=>(⟨Aq 72 [(2,.ref 0 0),(8,.ref 1 0),(55,i64 v.1)],[.box (C1 u8 v.2.l) false,.box (C1 u32 j.l) false]⟩:St)) (ws [0,1]) ?_;rintro⟨aF,u⟩ a0 aG aH aI;show HH j aF u=some aG→_;unfold HH;refine T0 [2,8,55,56] ?_;refine Sq <|Cd ?_ ?_
  ·refine Sk <|Tn <|Sq <|Sb <|T0 [2,8,9,55] ?_
   have aJ:¬(4:Int)=0:=by decide
   refine Ck fun aK=>?_
   have aL:¬(4:Int)=0:=by decide
   refine Ck fun aM =>Ck fun aN =>Lt fun aO aP =>Fe (σ':=[.box (C1 u8 aO.l) false,_]) [2,8,55] Aa (Ev (by simp only[go_sem,aJ,qR aK,aL,aM,qR aN,aP];exact AP)) ?_
   refine Bn <|Tn <|F0 [2,8,55] ?_
   exact Ln (ws [0,1])
  ·refine Sx <|Tx <|Ly aI aH <|Bx <|?_
   exact Jm ((ws (l':=[(2,.ref 0 0)]) (σ':=[.box (C1 u8 u.l) false]) [0]).trans (ws [0]))
 intro t;refine T0 [2] ?_;exact Sr <|Rr
theorem EH{a b r}(h:Ek a b=some r):Con B 87 [.str a,.sl false (L cU8 b)] [] (fun r' σ'=>r'=.agg (C1 u8 r.l)∧σ'=[]):=by
 refine Cw 19 [.cell 4 42] Tryz.func87 (fun F hE=>?_) h;unfold Ek;refine T0 [0,1,4] ?_;refine Ck fun c =>Lt fun d e =>Te (fr':=[(0,.str d),(1,_),(4,_)]) [0,1,4] Aa (Ew2 c e) ?_
 refine Bd fun g f =>Te [4] (o1 18 (Pp f)) Ev ?_
 exact Sr <|Rr
theorem ID{a r}(h:FJ a=some r):Con B 59 [.agg (Ad a)] [] (fun r' σ'=>r'=.tup [.agg (C1 u8 r.1.l),i64 r.2]∧σ'=[]):=by
 refine Cw 16 [.cell 2 42,.tmp 3] Tryz.func59 (fun F hE=>?_) h;unfold FJ;refine T0 [1,2] ?_;refine Bd fun d b =>Te [2,3,4] (o1 7 (FF b)) Ev ?_
 refine Sq <|T0 [2,3,4,11] ?_
 refine Cd ?_ ?_
 ·refine T0 [2,3] ?_;exact Sr <|Tr <|Rr
 ·refine Sk <|Tn <|Bd fun e c =>Te [2,3] (o1 15 (EH c)) Ev ?_
  exact Sr <|Rr
theorem Fy{a r}(h:Fi a=some r):Con B 14 [.agg (Ad a)] [] (fun r' σ'=>r'=.tup [.sl false (L cU8 r.1),i64 r.2]∧σ'=[]):=by
 refine Cw 10 [.tmp 2,.tmp 3] Tryz.func14 (fun F hE=>?_) h;unfold Fi;refine T0 [1] ?_;refine Bd fun e b =>Bd fun f c =>Bd fun g d =>Te [2,3] (Ao (l:=[(6,_,_,_),(7,_,_,_)]) (m:=[(5,46,[.agg (Ad a)],[.box (Ad a) false],_,_)]) ⟨HL  c,HR  d,trivial⟩ ⟨(wc (GW b) []),trivial⟩) Ev ?_
 exact Sr <|Rr
theorem I4{b a r}(h:HF b a=some r):Con B 88 [.sl false (L cU8 b),.sl false (L R8 a)] [] (fun r' σ'=>r'=.sl false (L cU8 r)∧σ'=[]):=by
 refine Cw 39 [.tmp 4] Tryz.func88 (fun F hE=>?_) h;unfold HF;refine T0 [0,1] ?_;refine Ck fun m =>Lt fun i n =>Te (fr':=[(0,_),(1,_),(5,.bs (0==(w64 ((w64 (8*(a.length:Int)))+(b.length:Int)))) 0 (i.length) 0 (i.length))]) (σ':=[.buf 1 (L cU8 i) false]) [0,1,5] Aa (Ew2 m n) ?_
 refine Ja (fun c=>⟨Aq 39 [(0,.sl false (L cU8 b)),(5,.bs false 0 (c.length) 0 (c.length))],[.buf 1 (L cU8 c) false]⟩) ?_ ?_
 ·intro ae;refine T0 [0,5,16,17,18] ?_;refine Sb ?_;refine Lo (fun(v:Int×List UInt8)=>(⟨Aq 39 [(0,.sl false (L cU8 b)),(5,.bs false 0 (v.2.length) 0 (v.2.length)),(16,.sl false (L R8 a)),(17,i64 (a.length:Int)),(18,i64 v.1)],[.buf 1 (L cU8 v.2) false]⟩:St)) (ws [0]) ?_;rintro⟨d,e⟩ af o p q;show G5 a d e=some o→_;unfold G5;refine T0 [0,5,16,17,18,19] ?_;refine Sq <|Cd ?_ ?_
  ·refine Sk <|Tn <|?_
   refine Ja (fun f=>⟨Aq 39 [(0,.sl false (L cU8 b)),(5,.bs false 0 (f.length) 0 (f.length)),(16,.sl false (L R8 a)),(17,i64 (a.length:Int)),(18,i64 d)],[.buf 1 (L cU8 f) false]⟩) ?_ ?_
   ·intro ag;refine Sb <|Ck fun s =>Lt fun j t =>Te (fr':=[(0,_),(5,_),(7,u64 j),(16,_),(17,_),(18,_)]) [0,5,7,16,17,18] Aa (Ew2 (qR s) t) ?_
    refine T0 [0,5,7,16,17,18,22] ?_;refine Sb ?_;refine Lo (fun(v:Int×List UInt8)=>(⟨Aq 39 [(0,.sl false (L cU8 b)),(5,.bs false 0 (v.2.length) 0 (v.2.length)),(7,u64 j),(16,.sl false (L R8 a)),(17,i64 (a.length:Int)),(18,i64 d),(22,i64 v.1)],[.buf 1 (L cU8 v.2) false]⟩:St)) (ws [0]) ?_;rintro⟨u,g⟩ ah w x y;show G7 j u g=some w→_;unfold G7;refine T0 [0,5,7,16,17,18,22,23] ?_;refine Sq <|Cd ?_ ?_
    ·refine Sk <|Tn <|Sq <|Sb <|T0 [0,5,7,8,16,17,18,22] ?_
     refine Ck fun z =>Ck fun aa =>Lt fun k ab =>Fe (fr':=[(0,_),(5,.bs false 0 (k.length) 0 (k.length)),(7,_),(16,_),(17,_),(18,_),(22,_)]) (σ':=[.buf 1 (L cU8 k) false,_]) [0,5,7,16,17,18,22] Aa (Ew3 z aa ab) ?_
     refine Bn <|Tn <|F0 [0,5,7,16,17,18,22] ?_
     exact Ln (ws [0])
    ·refine Sx <|Tx <|Ly y x <|Bx <|Bn <|?_
     exact Jm ((ws (l':=[(0,.sl false (L cU8 b)),(5,.bs false 0 (g.length) 0 (g.length)),(16,.sl false (L R8 a)),(17,i64 (a.length:Int)),(18,i64 d)]) (σ':=[.buf 1 (L cU8 g) false]) [0]).trans (ws [0]))
   intro f;refine F0 [0,5,16,17,18] ?_;exact Ln (ws [0])
  ·refine Sx <|Tx <|Ly q p <|Bx <|?_
   exact Jm ((ws (l':=[(0,.sl false (L cU8 b)),(5,.bs false 0 (e.length) 0 (e.length))]) (σ':=[.buf 1 (L cU8 e) false]) [0]).trans (ws [0]))
 intro c;refine Ck fun ac =>Lt fun l ad =>Te (fr':=[(4,.bs false 0 (l.length) 0 (l.length))]) (σ':=[.buf 1 (L cU8 l) false]) [4] Aa (Ew2 ac ad) ?_
 exact Sr <|Rr
theorem Hi{a r}(h:Fx a=some r):Con B 86 [.agg (C1 u8 a.l)] [] (fun r' σ'=>r'=u64 r∧σ'=[]):=by
 refine Cw 18 [.tmp 2] Tryz.func86 (fun F hE=>?_) h;unfold Fx;refine T0 [1,2] ?_;refine Ja (fun b=>⟨Aq 18 [(2,u64 b)],[]⟩) ?_ ?_
 ·intro p;have d:InB 8 32:=by decide
  refine Te [2,5,6,7] Aa (Ew1 d) ?_;refine Sb ?_;refine Lo (fun(v:UInt64×Int)=>(⟨Aq 18 [(2,u64 v.1),(5,.sl false (L cU8 (a.l.take 8))),(6,i64 ((a.l.take 8).length:Int)),(7,i64 v.2)],[]⟩:St)) (ws []) ?_;rintro⟨c,e⟩ q f g i;show Fk a c e=some f→_;unfold Fk;refine T0 [2,5,6,7,8] ?_;refine Sq <|Cd ?_ ?_
  ·refine Sk <|Tn <|Sq <|Sb <|Ck fun j =>Lt fun k m =>Te (fr':=[(2,_),(4,u8 k),(5,_),(6,_),(7,_)]) [2,4,5,6,7] Aa (Ew2 (qR j) m) ?_
   refine Lt fun n o =>Fe (fr':=[(2,u64 n),(5,_),(6,_),(7,_)]) [2,5,6,7] Aa (Ew1 o) ?_
   refine Bn <|Tn <|F0 [2,5,6,7] ?_
   exact Ln (ws [])
  ·refine Sx <|Tx <|Ly i g <|Bx <|?_
   exact Jm ((ws (l':=[(2,u64 c)]) (σ':=[]) []).trans (ws []))
 intro b;refine T0 [2] ?_;exact Sr <|Rr
theorem Gl{a b c r}(h:ER a b c=some r):Con B 50 [u64 a,u64 b,.sl false (L cU8 c)] [] (fun r' σ'=>r'=u64 r∧σ'=[]):=by
 refine Cw 15 [.tmp 6] Tryz.func50 (fun F hE=>?_) h;unfold ER;refine T0 [0,1,2] ?_;refine Bd fun j d =>Bd fun k e =>Bd fun f g =>?_
 have i:¬(1152921504606845399:UInt64)=0:=by decide
 refine Te [6] (Fp (l:=[(11,_,_,_),(12,_,_,_),(13,_,_,u64 f)]) ⟨I4  d,EH  e,Hi  g,trivial⟩) (Ew1 i) ?_;exact Sr <|Rr
theorem QU{a b r}(h:Nh a b=some r):Con B 60 [u64 a,.sl false (L cU8 b)] [] (fun r' σ'=>r'=.tup [.agg [u64 r.1.C,u64 r.1.S],i64 r.2]∧σ'=[]):=by
 refine Cw 45 [.cell 4 50,.tmp 5] Tryz.func60 (fun F hE=>?_) h;unfold Nh;refine T0 [0,1,4] ?_;refine Bd fun x d =>Te [0,1,4,6,7] (o1 12 (IJ d)) Ev ?_
 refine Sq <|T0 [0,1,4,6,7,16] ?_
 refine Cd ?_ ?_
 ·refine T0 [4,5] ?_;exact Sr <|Tr <|Rr
 ·refine Sk <|Tn <|Sq <|T0 [0,1,4,6,21] ?_
  refine Cd ?_ ?_
  ·refine T0 [4,5] ?_;exact Sr <|Tr <|Rr
  ·refine Sk <|Tn <|Bd fun y e =>Bd fun z f =>Bd fun g i =>?_
   have j:¬(1152921504606845398:UInt64)=0:=by decide
   refine Lt fun k n =>Te (fr':=[(0,_),(1,_),(4,_),(6,_),(8,u64 k)]) [0,1,4,6,8] (Fp (l:=[(26,_,_,_),(27,_,_,_),(28,_,_,u64 g)]) ⟨I4  e,EH  f,Hi  i,trivial⟩) (Ew2 j n) ?_
   refine Bd fun aa o =>Bd fun c p =>Te [0,4,8,9] (o2 32 (Fc o) 35 (Gl p)) Ev ?_
   refine Bd fun q s =>Bd fun ab t =>?_
   have u:¬(1152921504606845399:UInt64)=0:=by decide
   refine Lt fun v w =>Te (σ':=[.box [u64 c,u64 v] false,_,_]) [4,5] (Ao (l:=[]) (m:=[(38,48,[u64 (1152921504606845399:UInt64)],[.box [u64 (0:UInt64),u64 (0:UInt64)] false,.buf 1 (L R8 ([a]:List UInt64)) true],_,_),(41,82,[u64 c,u64 a,.ref 2 0],[.box [u64 (0:UInt64),u64 (0:UInt64)] false,.buf 1 (L R8 ([a]:List UInt64)) true,.box [u64 q] false],_,_)]) trivial ⟨(wc (FW s) []),(wc (DB t) [2]),trivial⟩) (Ew2 u w) ?_
   exact Sr <|Rr
theorem GP{d r}(h:H2 d=some r):Con B 101 [.agg (AB d)] [] (fun r' σ'=>r'=.bool r∧σ'=[]):=by
 refine Cw 32 [.tmp 2] Tryz.func101 (fun F hE=>?_) h;unfold H2;refine T0 [1] ?_;refine Sq <|T0 [1,6] ?_
 refine Cd ?_ ?_
 ·refine T0 [2] ?_;exact Sr <|Tr <|Rr
 ·refine Sk <|Tn <|?_
  refine Tw [2] (fun e=>⟨Aq 32 [(2,.bool e)],[]⟩) ?_ ?_
  ·intro _;refine Sp (fun a=>?_) fun a=>?_
   ·refine Sp (fun b=>?_) fun b=>?_
    ·refine Sp (fun c=>?_) fun c=>?_
     ·exact Lf Aa (Ew3 a b c) (ws [])
     ·exact Lf Aa (Ew3 a b c) (ws [])
    ·exact Lf Aa (Ew2 a b) (ws [])
   ·exact Lf Aa (Ew1 a) (ws [])
  intro e;exact Sr <|Rr
theorem G2{a d e r}(h:Dl a d e=some r):Con B 150 [.ref 0 0,.ref 0 12,i64 d,i64 e] [.box (Af a) false] (fun r' σ'=>r'=.tup []∧σ'=[.box (Af r) false]):=by
 refine Co 1 31 [] Tryz.func150 (fun F hE=>?_) h;unfold Dl;refine Tw [1] (fun f=>⟨Aq 31 [(1,.ref 0 12)],[.box [.sl false (L An a.p.Zg1.Ze),.sl false (L Ar a.p.Zg1.Zf),.sl false (L Ac a.p.Zh1.Zx),.sl false (L Ag a.p.Zh1.Zy),.sl false (L Aj a.p.Zh1.Zz),.sl false (L Ai a.p.Zh1.Za1),.sl false (L Ap a.p.Zi1),.sl false (L Am a.p.Zj1),.sl false (L Ae a.p.Zk1),i64 a.it.Za,i64 a.it.Ref.Zb,i64 a.it.Ref.No,i64 a.it.Zn1,i64 a.it.Zb1,i64 a.it.Zc,i64 a.it.Zo1,i64 a.it.Zw,i64 a.it.To,i64 a.it.Code,i64 a.it.Zp1,i64 a.it.Zq1,i64 a.it.Zr1,i64 a.it.Zs1,.str a.it.Zt1,.sl false (L Ah a.it.Zu1),.bool f] false]⟩) ?_ ?_
 ·intro _;refine Sp (fun b=>?_) fun b=>?_
  ·refine Sp (fun c=>?_) fun c=>?_
   ·exact Lf Aa (Ew2 b c) (ws [0])
   ·exact Lf Aa (Ew2 b c) (ws [0])
  ·exact Lf Aa (Ew1 b) (ws [0])
 intro f;refine F0 [] ?_;exact Ro [0]
theorem C0{a d e r}(h:BO a d e=some r):Con B 150 [.ref 0 0,.ref 0 14,i64 d,i64 e] [.box (Af a) false] (fun r' σ'=>r'=.tup []∧σ'=[.box (Af r) false]):=by
 refine Co 1 31 [] Tryz.func150 (fun F hE=>?_) h;unfold BO;refine Tw [1] (fun f=>⟨Aq 31 [(1,.ref 0 14)],[.box [.sl false (L An a.p.Zg1.Ze),.sl false (L Ar a.p.Zg1.Zf),.sl false (L Ac a.p.Zh1.Zx),.sl false (L Ag a.p.Zh1.Zy),.sl false (L Aj a.p.Zh1.Zz),.sl false (L Ai a.p.Zh1.Za1),.sl false (L Ap a.p.Zi1),.sl false (L Am a.p.Zj1),.sl false (L Ae a.p.Zk1),i64 a.it.Za,i64 a.it.Ref.Zb,i64 a.it.Ref.No,i64 a.it.Zn1,i64 a.it.Zb1,i64 a.it.Zc,i64 a.it.Zo1,i64 a.it.Zw,i64 a.it.To,i64 a.it.Code,i64 a.it.Zp1,i64 a.it.Zq1,i64 a.it.Zr1,i64 a.it.Zs1,.str a.it.Zt1,.sl false (L Ah a.it.Zu1),.bool f] false]⟩) ?_ ?_
 ·intro _;refine Sp (fun b=>?_) fun b=>?_
  ·refine Sp (fun c=>?_) fun c=>?_
   ·exact Lf Aa (Ew2 b c) (ws [0])
   ·exact Lf Aa (Ew2 b c) (ws [0])
  ·exact Lf Aa (Ew1 b) (ws [0])
 intro f;refine F0 [] ?_;exact Ro [0]
theorem Ke{e f a r}(h:GZ e f a=some r):Con B 118 [u64 e,u64 f,u64 a] [] (fun r' σ'=>r'=u64 r∧σ'=[]):=by
 refine Cw 26 [.tmp 6] Tryz.func118 (fun F hE=>?_) h;unfold GZ;refine T0 [0,1,2] ?_;refine T0 [0,1,2,7] ?_;refine Ja (fun g=>⟨Aq 26 [(7,u64 g)],[]⟩) ?_ ?_
 ·intro q;refine Sb ?_;refine Lo (fun⟨b,c,d⟩=>⟨Aq 26 [(0,u64 b),(1,u64 c),(2,u64 a),(7,u64 d)],[]⟩) (ws []) ?_;rintro⟨b,c,d⟩ s j k l;show Fb a b c d=some j→_;unfold Fb;refine Sq <|T0 [0,1,2,7,9] ?_
  refine Cd ?_ ?_
  ·refine Sk <|Tn <|Sq <|Sb <|?_
   refine Ja (fun i=>⟨Aq 26 [(0,u64 b),(1,u64 c),(2,u64 a),(7,u64 i)],[]⟩) ?_ ?_
   ·intro t;have m:¬(2:UInt64)=0:=by decide
    refine Te [0,1,2,7,14] Aa (Ew1 m) ?_;refine Cd ?_ ?_
    ·refine Ck fun n =>Fe [0,1,2,7] Aa (Ew1 n) ?_
     exact Jm (ws [])
    ·exact Sk <|Jm (ws [])
   intro i;refine Ck fun o =>Fe [0,1,2,7] Aa (Ew1 o) ?_
   refine Bn <|Tn <|?_
   have p:¬(2:UInt64)=0:=by decide
   refine Fe [0,1,2,7] Aa (Ew1 p) ?_;exact Ln (ws [])
  ·refine Sx <|Tx <|Ly l k <|Bx <|?_
   exact Jm ((ws (l':=[(7,u64 d)]) (σ':=[]) []).trans (ws []))
 intro g;refine T0 [6] ?_;exact Sr <|Rr
theorem UC{d e r}(h:Lc d e=some r):Con B 77 [u64 d,u64 e] [] (fun r' σ'=>r'=u64 r∧σ'=[]):=by
 refine Cw 22 [.tmp 4] Tryz.func77 (fun F hE=>?_) h;unfold Lc;refine T0 [0,1] ?_;refine T0 [0,1,5] ?_;refine Ja (fun f=>⟨Aq 22 [(5,u64 f)],[]⟩) ?_ ?_
 ·intro t;have i:¬(2305843009213690799:UInt64)=0:=by decide
  refine Lt fun j k =>Te (fr':=[(0,u64 j),(1,_),(5,_)]) [0,1,5] Aa (Ew2 i k) ?_
  refine Sb ?_;refine Lo (fun⟨a,b,c⟩=>⟨Aq 22 [(0,u64 a),(1,u64 b),(5,u64 c)],[]⟩) (ws []) ?_;rintro⟨a,b,c⟩ u l m n;show Hb a b c=some l→_;unfold Hb;refine Sq <|T0 [0,1,5,9] ?_
  refine Cd ?_ ?_
  ·refine Sk <|Tn <|Sq <|Sb <|?_
   refine Ja (fun g=>⟨Aq 22 [(0,u64 a),(1,u64 b),(5,u64 g)],[]⟩) ?_ ?_
   ·intro v;have o:¬(2:UInt64)=0:=by decide
    refine Te [0,1,5,14] Aa (Ew1 o) ?_;refine Cd ?_ ?_
    ·refine Bd fun w p =>Fe [0,1,5] (o1 17 (Ke p)) Ev ?_
     exact Jm (ws [])
    ·exact Sk <|Jm (ws [])
   intro g;refine Bd fun x q =>Fe [0,1,5] (o1 20 (Ke q)) Ev ?_
   refine Bn <|Tn <|?_
   have s:¬(2:UInt64)=0:=by decide
   refine Fe [0,1,5] Aa (Ew1 s) ?_;exact Ln (ws [])
  ·refine Sx <|Tx <|Ly n m <|Bx <|?_
   exact Jm ((ws (l':=[(5,u64 c)]) (σ':=[]) []).trans (ws []))
 intro f;refine T0 [4] ?_;exact Sr <|Rr
theorem Pq{a r}(h:KT a=some r):Con B 56 [u64 a] [] (fun r' σ'=>r'=.tup [u64 r.1,i64 r.2]∧σ'=[]):=by
 refine Cw 12 [.tmp 2,.tmp 3] Tryz.func56 (fun F hE=>?_) h;unfold KT;refine T0 [0] ?_;refine Sq ?_;refine Tw [0,9] (fun c=>⟨Aq 12 [(0,u64 a),(9,.bool c)],[]⟩) ?_ ?_
 ·intro _;refine Sp (fun b=>?_) fun b=>?_
  ·exact Lf Aa (Ew1 b) (ws [])
  ·exact Lf Aa (Ew1 b) (ws [])
 intro c;refine Cd ?_ ?_
 ·refine T0 [2,3] ?_;exact Sr <|Tr <|Rr
 ·refine Sk <|Tn <|Bd fun e d =>Te [2,3] (o1 11 (UC d)) Ev ?_
  exact Sr <|Rr
theorem MV{r}(h:r14_Example  = some r):Con B 20 [] [] (fun r' σ'=>r'=.agg (A3 r)∧σ'=[]):=by
 refine Cw 50 [.cell 0 36] Tryz.func20 (fun F hE=>?_) h;unfold r14_Example;refine T0 [0] ?_;refine T0 [0,1] ?_;refine Lt fun a k =>Te (σ':=[_,.box [.bs true 2 (a.length) 0 (a.length),.sl true (L Ar ([])),.sl true (L Ac ([])),.sl true (L Ag ([])),.sl true (L Aj ([])),.sl true (L Ai ([])),.sl true (L Ap ([])),.sl true (L Am ([])),.sl true (L Ae ([]))] false,.buf 3 (L An a) false]) [0,1] Aa (Ew1 k) ?_
 refine Lt fun b l =>Te (σ':=[_,.box [.bs true 2 (a.length) 0 (a.length),.bs true 3 (b.length) 0 (b.length),.sl true (L Ac ([])),.sl true (L Ag ([])),.sl true (L Aj ([])),.sl true (L Ai ([])),.sl true (L Ap ([])),.sl true (L Am ([])),.sl true (L Ae ([]))] false,_,.buf 5 (L Ar b) false]) [0,1] Aa (Ew1 l) ?_
 refine Lt fun c m =>Te (σ':=[_,.box [.bs true 2 (a.length) 0 (a.length),.bs true 3 (b.length) 0 (b.length),.bs true 4 (c.length) 0 (c.length),.sl true (L Ag ([])),.sl true (L Aj ([])),.sl true (L Ai ([])),.sl true (L Ap ([])),.sl true (L Am ([])),.sl true (L Ae ([]))] false,_,_,.buf 8 (L Ac c) false]) [0,1] Aa (Ew1 m) ?_
 refine Lt fun d n =>Te (σ':=[_,.box [.bs true 2 (a.length) 0 (a.length),.bs true 3 (b.length) 0 (b.length),.bs true 4 (c.length) 0 (c.length),.bs true 5 (d.length) 0 (d.length),.sl true (L Aj ([])),.sl true (L Ai ([])),.sl true (L Ap ([])),.sl true (L Am ([])),.sl true (L Ae ([]))] false,_,_,_,.buf 5 (L Ag d) false]) [0,1] Aa (Ew1 n) ?_
 refine Lt fun e o =>Te (σ':=[_,.box [.bs true 2 (a.length) 0 (a.length),.bs true 3 (b.length) 0 (b.length),.bs true 4 (c.length) 0 (c.length),.bs true 5 (d.length) 0 (d.length),.sl true (L Aj ([])),.sl true (L Ai ([])),.bs true 6 (e.length) 0 (e.length),.sl true (L Am ([])),.sl true (L Ae ([]))] false,_,_,_,_,.buf 3 (L Ap e) false]) [0,1] Aa (Ew1 o) ?_
 refine Lt fun f p =>Te (σ':=[_,.box [.bs true 2 (a.length) 0 (a.length),.bs true 3 (b.length) 0 (b.length),.bs true 4 (c.length) 0 (c.length),.bs true 5 (d.length) 0 (d.length),.sl true (L Aj ([])),.sl true (L Ai ([])),.bs true 6 (e.length) 0 (e.length),.bs true 7 (f.length) 0 (f.length),.sl true (L Ae ([]))] false,_,_,_,_,_,.buf 1 (L Am f) false]) [0,1] Aa (Ew1 p) ?_
 refine Ja (fun g=>⟨Aq 50 [(0,.ref 0 0),(1,.ref 1 0)],[.box [.sl true (L An ([])),.sl true (L Ar ([])),.sl true (L Ac ([])),.sl true (L Ag ([])),.sl true (L Aj ([])),.sl true (L Ai ([])),.sl true (L Ap ([])),.sl true (L Am ([])),.sl true (L Ae ([]))] false,.box [.bs true 2 (a.length) 0 (a.length),.bs true 3 (b.length) 0 (b.length),.bs true 4 (c.length) 0 (c.length),.bs true 5 (d.length) 0 (d.length),.sl true (L Aj ([])),.sl true (L Ai ([])),.bs true 6 (e.length) 0 (e.length),.bs true 7 (f.length) 0 (f.length),.bs false 8 (g.length) 0 (g.length)] false,.buf 3 (L An a) false,.buf 5 (L Ar b) false,.buf 8 (L Ac c) false,.buf 5 (L Ag d) false,.buf 3 (L Ap e) false,.buf 1 (L Am f) false,.buf 16 (L Ae g) false]⟩) ?_ ?_
 ·intro z;refine T0 [0,1,2] ?_;refine Sb ?_;refine Lo (fun(v:Int×List Aox)=>(⟨Aq 50 [(0,.ref 0 0),(1,.ref 1 0),(2,i64 v.1)],[.box [.sl true (L An ([])),.sl true (L Ar ([])),.sl true (L Ac ([])),.sl true (L Ag ([])),.sl true (L Aj ([])),.sl true (L Ai ([])),.sl true (L Ap ([])),.sl true (L Am ([])),.sl true (L Ae ([]))] false,.box [.bs true 2 (a.length) 0 (a.length),.bs true 3 (b.length) 0 (b.length),.bs true 4 (c.length) 0 (c.length),.bs true 5 (d.length) 0 (d.length),.sl true (L Aj ([])),.sl true (L Ai ([])),.bs true 6 (e.length) 0 (e.length),.bs true 7 (f.length) 0 (f.length),.bs false 8 (v.2.length) 0 (v.2.length)] false,.buf 3 (L An a) false,.buf 5 (L Ar b) false,.buf 8 (L Ac c) false,.buf 5 (L Ag d) false,.buf 3 (L Ap e) false,.buf 1 (L Am f) false,.buf 16 (L Ae v.2) false]⟩:St)) ((Dm 1 8 16 rfl rfl).trans (ws [0,1,2,3,4,5,6,7,8])) ?_;rintro⟨q,i⟩ aa s t u;show G9 q i=some s→_;unfold G9;refine Sq <|T0 [0,1,2,32] ?_
  refine Cd ?_ ?_
  ·refine Sk <|Tn <|Sq <|Sb <|Bd fun ab w =>Te [0,1,2,3] (o1 39 (Pq w)) Ev ?_
   refine Ck fun x =>Lt fun j y =>Fe (σ':=[_,.box [.bs true 2 (a.length) 0 (a.length),.bs true 3 (b.length) 0 (b.length),.bs true 4 (c.length) 0 (c.length),.bs true 5 (d.length) 0 (d.length),.sl true (L Aj ([])),.sl true (L Ai ([])),.bs true 6 (e.length) 0 (e.length),.bs true 7 (f.length) 0 (f.length),.bs false 8 (j.length) 0 (j.length)] false,_,_,_,_,_,_,.buf 16 (L Ae j) false,_]) [0,1,2] Aa (Ew2 x y) ?_
   refine Bn <|Tn <|F0 [0,1,2] ?_
   exact Ln (ws [0,1,2,3,4,5,6,7,8])
  ·refine Sx <|Tx <|Ly u t <|Bx <|?_
   exact Jm ((ws (l':=[(0,.ref 0 0),(1,.ref 1 0)]) (σ':=[.box [.sl true (L An ([])),.sl true (L Ar ([])),.sl true (L Ac ([])),.sl true (L Ag ([])),.sl true (L Aj ([])),.sl true (L Ai ([])),.sl true (L Ap ([])),.sl true (L Am ([])),.sl true (L Ae ([]))] false,.box [.bs true 2 (a.length) 0 (a.length),.bs true 3 (b.length) 0 (b.length),.bs true 4 (c.length) 0 (c.length),.bs true 5 (d.length) 0 (d.length),.sl true (L Aj ([])),.sl true (L Ai ([])),.bs true 6 (e.length) 0 (e.length),.bs true 7 (f.length) 0 (f.length),.bs false 8 (i.length) 0 (i.length)] false,.buf 3 (L An a) false,.buf 5 (L Ar b) false,.buf 8 (L Ac c) false,.buf 5 (L Ag d) false,.buf 3 (L Ap e) false,.buf 1 (L Am f) false,.buf 16 (L Ae i) false]) [0,1,2,3,4,5,6,7,8]).trans (ws [0,1,2,3,4,5,6,7,8]))
 intro g;refine T0 [0] ?_;exact Sr <|Rr
theorem DU{a r}(h:BZ a=some r):Con B 22 [i64 a] [] (fun r' σ'=>r'=.agg (AB r)∧σ'=[]):=by
 refine Cw 5 [.cell 2 47] Tryz.func22 (fun F hE=>?_) h;unfold BZ;refine T0 [0,2] ?_;refine T0 [2] ?_;exact Sr <|Rr
theorem Lq{a r}(h:Hv a=some r):Con B 128 [.agg [i64 a.Za,i64 a.Zb,i64 a.Zc]] [] (fun r' σ'=>r'=.bool r∧σ'=[]):=by
 refine Cw 42 [.tmp 2] Tryz.func128 (fun F hE=>?_) h;unfold Hv;refine T0 [1] ?_;refine Sq ?_;refine Tw [1,20] (fun g=>⟨Aq 42 [(1,.ref 0 0),(20,.bool g)],[.box [i64 a.Za,i64 a.Zb,i64 a.Zc] false]⟩) ?_ ?_
 ·intro _;refine Sp (fun b=>?_) fun b=>?_
  ·exact Lf Aa (Ew1 b) (ws [0])
  ·refine Sp (fun c=>?_) fun c=>?_
   ·exact Lf Aa (Ew2 b c) (ws [0])
   ·refine Sp (fun e=>?_) fun e=>?_
    ·exact Lf Aa (Ew3 b c e) (ws [0])
    ·exact Lf Aa (Ew3 b c e) (ws [0])
 intro g;refine Cd ?_ ?_
 ·refine T0 [2] ?_;exact Sr <|Tr <|Rr
 ·refine Sk <|Tn <|Sq <|T0 [1,23] ?_
  refine Cd ?_ ?_
  ·refine T0 [2] ?_;exact Sr <|Tr <|Rr
  ·refine Sk <|Tn <|?_
   refine Tw [2] (fun i=>⟨Aq 42 [(2,.bool i)],[]⟩) ?_ ?_
   ·intro _;refine Sp (fun d=>?_) fun d=>?_
    ·refine Sp (fun f=>?_) fun f=>?_
     ·exact Lf Aa (Ew2 d f) (ws [])
     ·exact Lf Aa (Ew2 d f) (ws [])
    ·exact Lf Aa (Ew1 d) (ws [])
   intro i;exact Sr <|Rr
theorem KV{a r}(h:H0 a=some r):Con B 96 [.agg [.sl false (L An a.Ze),.sl false (L Ar a.Zf)]] [] (fun r' σ'=>r'=i64 r∧σ'=[]):=by
 refine Cw 84 [.tmp 2] Tryz.func96 (fun F hE=>?_) h;unfold H0;refine T0 [1] ?_;refine Lt fun b t =>Te (fr':=[(1,_),(3,i64 b)]) [1,3] Aa (Ew1 t) ?_
 refine Sq ?_;refine Tw [1,3,18] (fun m=>⟨Aq 84 [(1,.ref 0 0),(3,i64 b),(18,.bool m)],[.box [.sl false (L An a.Ze),.sl false (L Ar a.Zf)] false]⟩) ?_ ?_
 ·intro _;refine Sp (fun j=>?_) fun j=>?_
  ·exact Lf Aa (Ew1 j) (ws [0])
  ·exact Lf Aa (Ew1 j) (ws [0])
 intro m;refine Cd ?_ ?_
 ·refine T0 [2] ?_;exact Sr <|Tr <|Rr
 ·refine Sk <|Tn <|?_
  refine Jo (fun _=>⟨Aq 84 [(1,.ref 0 0),(3,i64 b)],[.box [.sl false (L An a.Ze),.sl false (L Ar a.Zf)] false]⟩) ?_ ?_
  ·intro ar u;refine T0 [1,3,20,21,22] ?_;refine Sb ?_;refine Lo (fun k=>⟨Aq 84 [(1,.ref 0 0),(3,i64 b),(20,.sl false (L An a.Ze)),(21,i64 (a.Ze.length:Int)),(22,i64 k)],[.box [.sl false (L An a.Ze),.sl false (L Ar a.Zf)] false]⟩) (ws [0]) ?_;rintro k au v n o;show Fl a k=some v→_;unfold Fl;refine T0 [1,3,20,21,22,23] ?_;refine Sq <|Cd ?_ ?_
   ·refine Sk <|Tn <|Sq <|Sb <|Ck fun w =>Lt fun x y =>Lt fun z aa =>Lt fun ab ac =>Te (σ':=[_,.box [i64 x,i64 z,i64 ab] false]) [1,3,5,20,21,22] Aa (Ew4 (qR w) y aa ac) ?_
    refine Bd fun av ad =>Te [1,3,20,21,22,28] (o1 27 (Lq ad)) Ev ?_
    refine Cd ?_ ?_
    ·refine T0 [2] ?_;exact Sr <|Br <|Tr <|Lr o n <|Br <|Jr u <|Rr
    ·refine Sk <|Bn <|Tn <|F0 [1,3,20,21,22] ?_
     exact Ln (ws [0])
   ·refine Sx <|Tx <|Lx o n <|Bx <|?_
    exact Jn ((ws (l':=[(1,.ref 0 0),(3,i64 b)]) (σ':=[.box [.sl false (L An a.Ze),.sl false (L Ar a.Zf)] false]) [0]).trans (ws [0]))
  intro _;refine Jo (fun _=>⟨Aq 84 [],[]⟩) ?_ ?_
  ·intro aw ae;refine T0 [3,31,32,33] ?_;refine Sb ?_;refine Lo (fun g=>⟨Aq 84 [(3,i64 b),(31,.sl false (L Ar a.Zf)),(32,i64 (a.Zf.length:Int)),(33,i64 g)],[]⟩) (ws []) ?_;rintro g ax af p q;show Fo a b g=some af→_;unfold Fo;refine T0 [3,31,32,33,34] ?_;refine Sq <|Cd ?_ ?_
   ·refine Sk <|Tn <|Sq <|Sb <|Ck fun ag =>Lt fun ah ai =>Lt fun aj ak =>Lt fun al am =>Lt fun an ao =>Lt fun ap aq =>Te (σ':=[.box [i64 ah,i64 aj,i64 al,i64 an,i64 ap] false]) [3,7,31,32,33] Aa (Ev (by simp only[go_sem,qR ag,ai,ak,am,ao,aq];exact AP)) ?_
    refine Tw [3,31,32,33,82] (fun s=>⟨Aq 84 [(3,i64 b),(31,.sl false (L Ar a.Zf)),(32,i64 (a.Zf.length:Int)),(33,i64 g),(82,.bool s)],[]⟩) ?_ ?_
    ·intro _;refine Sp (fun c=>?_) fun c=>?_
     ·exact Lf Aa (Ew1 c) (ws [])
     ·refine Sp (fun d=>?_) fun d=>?_
      ·exact Lf Aa (Ew2 c d) (ws [])
      ·refine Sp (fun e=>?_) fun e=>?_
       ·exact Lf Aa (Ew3 c d e) (ws [])
       ·refine Sp (fun f=>?_) fun f=>?_
        ·exact Lf Aa (Ew4 c d e f) (ws [])
        ·refine Sp (fun i=>?_) fun i=>?_
         ·exact Lf Aa (Ew5 c d e f i) (ws [])
         ·refine Sp (fun l=>?_) fun l=>?_
          ·exact Lf Aa (Ev (by simp only[go_sem,c,d,e,f,i,l];exact AP)) (ws [])
          ·exact Lf Aa (Ev (by simp only[go_sem,c,d,e,f,i,l];exact AP)) (ws [])
    intro s;refine Cd ?_ ?_
    ·refine T0 [2] ?_;exact Sr <|Br <|Tr <|Lr q p <|Br <|Jr ae <|Rr
    ·refine Sk <|Bn <|Tn <|F0 [3,31,32,33] ?_
     exact Ln (ws [])
   ·refine Sx <|Tx <|Lx q p <|Bx <|?_
    exact Jn ((ws (l':=[]) (σ':=[]) []).trans (ws []))
  intro _;refine T0 [2] ?_;exact Sr <|Rr
theorem AA{a b r}(h:AR a b=some r):Con B 129 [.bool a,.ref 0 0] [.box [i64 b] false] (fun r' σ'=>r'=.tup []∧σ'=[.box [i64 r] false]):=by
 refine Co 1 5 [] Tryz.func129 (fun F hE=>?_) h;unfold AR;refine T0 [1,4] ?_;refine Cd ?_ ?_
 ·refine F0 [] ?_;exact Ro [0]
 ·exact Sk <|Ro [0]
theorem Al{b c d r}(h:AD b c d=some r):Con B 98 [i64 b,i64 c,i64 d] [] (fun r' σ'=>r'=.bool r∧σ'=[]):=by
 refine Cw 15 [.tmp 6] Tryz.func98 (fun F hE=>?_) h;unfold AD;refine T0 [0,1,2] ?_;refine Tw [6] (fun e=>⟨Aq 15 [(6,.bool e)],[]⟩) ?_ ?_
 ·intro _;refine Sp (fun a=>?_) fun a=>?_
  ·exact Lf Aa (Ew1 a) (ws [])
  ·exact Lf Aa (Ew1 a) (ws [])
 intro e;exact Sr <|Rr
theorem ML{a r}(h:JO a=some r):Con B 97 [.agg [.sl false (L Ac a.Zx),.sl false (L Ag a.Zy),.sl false (L Aj a.Zz),.sl false (L Ai a.Za1)]] [] (fun r' σ'=>r'=i64 r∧σ'=[]):=by
 refine Cw 206 [.tmp 2] Tryz.func97 (fun F hE=>?_) h;unfold JO;refine T0 [1] ?_;refine Sq ?_;refine Tw [1,38] (fun aI=>⟨Aq 206 [(1,.ref 0 0),(38,.bool aI)],[.box [.sl false (L Ac a.Zx),.sl false (L Ag a.Zy),.sl false (L Aj a.Zz),.sl false (L Ai a.Za1)] false]⟩) ?_ ?_
 ·intro _;refine Sp (fun aa=>?_) fun aa=>?_
  ·exact Lf Aa (Ew1 aa) (ws [0])
  ·refine Sp (fun aj=>?_) fun aj=>?_
   ·exact Lf Aa (Ew2 aa aj) (ws [0])
   ·refine Sp (fun au=>?_) fun au=>?_
    ·exact Lf Aa (Ew3 aa aj au) (ws [0])
    ·exact Lf Aa (Ew3 aa aj au) (ws [0])
 intro aI;refine Cd ?_ ?_
 ·refine T0 [2] ?_;exact Sr <|Tr <|Rr
 ·refine Sk <|Tn <|T0 [1,3] ?_
  refine T0 [1,3,4] ?_;refine Ja (fun aJ=>⟨Aq 206 [(1,.ref 0 0),(3,.ref 1 0),(4,.fn 129 [.ref 1 0])],[.box [.sl false (L Ac a.Zx),.sl false (L Ag a.Zy),.sl false (L Aj a.Zz),.sl false (L Ai a.Za1)] false,.box [i64 aJ] false]⟩) ?_ ?_
  ·intro cf;refine T0 [1,3,4,41,42,43] ?_;refine Sb ?_;refine Lo (fun(v:Int×Int)=>(⟨Aq 206 [(1,.ref 0 0),(3,.ref 1 0),(4,.fn 129 [.ref 1 0]),(41,.sl false (L Ac a.Zx)),(42,i64 (a.Zx.length:Int)),(43,i64 v.1)],[.box [.sl false (L Ac a.Zx),.sl false (L Ag a.Zy),.sl false (L Aj a.Zz),.sl false (L Ai a.Za1)] false,.box [i64 v.2] false]⟩:St)) (ws [0,1]) ?_;rintro⟨x,aK⟩ cg a2 a3 a4;show GA a x aK=some a2→_;unfold GA;refine T0 [1,3,4,41,42,43,44] ?_;refine Sq <|Cd ?_ ?_
   ·refine Sk <|Tn <|?_
    refine Ja (fun aL=>⟨Aq 206 [(1,.ref 0 0),(3,.ref 1 0),(4,.fn 129 [.ref 1 0]),(41,.sl false (L Ac a.Zx)),(42,i64 (a.Zx.length:Int)),(43,i64 x)],[.box [.sl false (L Ac a.Zx),.sl false (L Ag a.Zy),.sl false (L Aj a.Zz),.sl false (L Ai a.Za1)] false,.box [i64 aL] false]⟩) ?_ ?_
    ·intro ch;refine Sb <|Ck fun a5 =>Lt fun d a6 =>Lt fun e a7 =>Lt fun f a8 =>Lt fun g a9 =>Lt fun i ba =>Lt fun j bb =>Lt fun k bc =>Lt fun n bd =>Te (σ':=[_,_,.box [i64 d,i64 e,i64 f,i64 g,i64 i,u64 j,i64 k,i64 n] false]) [1,3,4,6,41,42,43] Aa (Ev (by simp only[go_sem,qR a5,a6,a7,a8,a9,ba,bb,bc,bd];exact AP)) ?_
     refine Ja (fun ab=>⟨Aq 206 [(1,.ref 0 0),(3,.ref 1 0),(4,.fn 129 [.ref 1 0]),(6,.ref 2 0),(41,.sl false (L Ac a.Zx)),(42,i64 (a.Zx.length:Int)),(43,i64 x)],[.box [.sl false (L Ac a.Zx),.sl false (L Ag a.Zy),.sl false (L Aj a.Zz),.sl false (L Ai a.Za1)] false,.box [i64 ab] false,.box [i64 d,i64 e,i64 f,i64 g,i64 i,u64 j,i64 k,i64 n] false]⟩) ?_ ?_
     ·intro ci;refine Lt fun av be =>Lt fun o bf =>Te (fr':=[(1,_),(3,_),(4,_),(6,_),(41,_),(42,_),(43,_),(55,.bs true 3 (o.length) 0 (o.length)),(56,i64 av),(57,_)]) (σ':=[_,_,_,.buf 1 (L JB o) false]) [1,3,4,6,41,42,43,55,56,57] Aa (Ew2 be bf) ?_
      refine Sb ?_;refine Lo (fun(v:Int×Int)=>(⟨Aq 206 [(1,.ref 0 0),(3,.ref 1 0),(4,.fn 129 [.ref 1 0]),(6,.ref 2 0),(41,.sl false (L Ac a.Zx)),(42,i64 (a.Zx.length:Int)),(43,i64 x),(55,.bs true 3 (o.length) 0 (o.length)),(56,i64 av),(57,i64 v.1)],[.box [.sl false (L Ac a.Zx),.sl false (L Ag a.Zy),.sl false (L Aj a.Zz),.sl false (L Ai a.Za1)] false,.box [i64 v.2] false,.box [i64 d,i64 e,i64 f,i64 g,i64 i,u64 j,i64 k,i64 n] false,.buf 1 (L JB o) false]⟩:St)) (ws [0,1,2,3]) ?_;rintro⟨bg,aw⟩ cj bh bi bj;show GE av o bg aw=some bh→_;unfold GE;refine T0 [1,3,4,6,41,42,43,55,56,57,58] ?_;refine Sq <|Cd ?_ ?_
      ·refine Sk <|Tn <|Sq <|Sb <|Ck fun bk =>Te [1,3,4,6,8,41,42,43,55,56,57] Aa (Ew1 (qR bk)) ?_
       refine Bd fun bl bm =>Bd fun ck bn =>Fe [1,3,4,6,41,42,43,55,56,57] (Ao (l:=[(63,_,_,_)]) (m:=[(64,129,[.bool bl,.ref 1 0],[.box [.sl false (L Ac a.Zx),.sl false (L Ag a.Zy),.sl false (L Aj a.Zz),.sl false (L Ai a.Za1)] false,.box [i64 aw] false,.box [i64 d,i64 e,i64 f,i64 g,i64 i,u64 j,i64 k,i64 n] false,.buf 1 (L JB o) false],_,_)]) ⟨Al  bm,trivial⟩ ⟨(wc (AA bn) [1]),trivial⟩) Ev ?_
       refine Bn <|Tn <|F0 [1,3,4,6,41,42,43,55,56,57] ?_
       exact Ln (ws [0,1,2,3])
      ·refine Sx <|Tx <|Ly bj bi <|Bx <|?_
       exact Jm ((ws (l':=[(1,.ref 0 0),(3,.ref 1 0),(4,.fn 129 [.ref 1 0]),(6,.ref 2 0),(41,.sl false (L Ac a.Zx)),(42,i64 (a.Zx.length:Int)),(43,i64 x)]) (σ':=[.box [.sl false (L Ac a.Zx),.sl false (L Ag a.Zy),.sl false (L Aj a.Zz),.sl false (L Ai a.Za1)] false,.box [i64 aw] false,.box [i64 d,i64 e,i64 f,i64 g,i64 i,u64 j,i64 k,i64 n] false]) [0,1,2]).trans (ws [0,1,2]))
     intro ab;refine Fw [1,3,4,41,42,43] (fun aM=>⟨Aq 206 [(1,.ref 0 0),(3,.ref 1 0),(4,.fn 129 [.ref 1 0]),(41,.sl false (L Ac a.Zx)),(42,i64 (a.Zx.length:Int)),(43,i64 x)],[.box [.sl false (L Ac a.Zx),.sl false (L Ag a.Zy),.sl false (L Aj a.Zz),.sl false (L Ai a.Za1)] false,.box [i64 aM] false]⟩) ?_ ?_
     ·intro _;refine Bd fun cl ax=>?_
      refine Sp (fun ak=>?_) fun ak=>?_
      ·refine Bd fun cm aN=>?_
       refine Sp (fun ay=>?_) fun ay=>?_
       ·refine Bd fun bo bp =>Bd fun cn bq =>?_
        exact Lf (Ao (l:=[(69,_,_,_),(73,_,_,_),(78,_,_,_)]) (m:=[(80,129,[.bool bo,.ref 1 0],[.box [.sl false (L Ac a.Zx),.sl false (L Ag a.Zy),.sl false (L Aj a.Zz),.sl false (L Ai a.Za1)] false,.box [i64 ab] false,.box [i64 d,i64 e,i64 f,i64 g,i64 i,u64 j,i64 k,i64 n] false],_,_)]) ⟨Al  ax,Al  aN,Al  bp,trivial⟩ ⟨(wc (AA bq) [1]),trivial⟩) (Ew2 ak ay) (ws [0,1])
       ·refine Bd fun co br=>?_
        exact Lf (Ao (l:=[(69,_,_,_),(73,_,_,_)]) (m:=[(80,129,[.bool false,.ref 1 0],[.box [.sl false (L Ac a.Zx),.sl false (L Ag a.Zy),.sl false (L Aj a.Zz),.sl false (L Ai a.Za1)] false,.box [i64 ab] false,.box [i64 d,i64 e,i64 f,i64 g,i64 i,u64 j,i64 k,i64 n] false],_,_)]) ⟨Al  ax,Al  aN,trivial⟩ ⟨(wc (AA br) [1]),trivial⟩) (Ew2 ak ay) (ws [0,1])
      ·refine Bd fun cp bt=>?_
       exact Lf (Ao (l:=[(69,_,_,_)]) (m:=[(80,129,[.bool false,.ref 1 0],[.box [.sl false (L Ac a.Zx),.sl false (L Ag a.Zy),.sl false (L Aj a.Zz),.sl false (L Ai a.Za1)] false,.box [i64 ab] false,.box [i64 d,i64 e,i64 f,i64 g,i64 i,u64 j,i64 k,i64 n] false],_,_)]) ⟨Al  ax,trivial⟩ ⟨(wc (AA bt) [1]),trivial⟩) (Ew1 ak) (ws [0,1])
     intro aM;exact Bn <|Jm (ws [0,1])
    intro aL;refine F0 [1,3,4,41,42,43] ?_;exact Ln (ws [0,1])
   ·refine Sx <|Tx <|Ly a4 a3 <|Bx <|?_
    exact Jm ((ws (l':=[(1,.ref 0 0),(3,.ref 1 0),(4,.fn 129 [.ref 1 0])]) (σ':=[.box [.sl false (L Ac a.Zx),.sl false (L Ag a.Zy),.sl false (L Aj a.Zz),.sl false (L Ai a.Za1)] false,.box [i64 aK] false]) [0,1]).trans (ws [0,1]))
  intro aJ;refine Ja (fun aO=>⟨Aq 206 [(1,.ref 0 0),(3,.ref 1 0),(4,.fn 129 [.ref 1 0])],[.box [.sl false (L Ac a.Zx),.sl false (L Ag a.Zy),.sl false (L Aj a.Zz),.sl false (L Ai a.Za1)] false,.box [i64 aO] false]⟩) ?_ ?_
  ·intro cq;refine T0 [1,3,4,83,84,85] ?_;refine Sb ?_;refine Lo (fun(v:Int×Int)=>(⟨Aq 206 [(1,.ref 0 0),(3,.ref 1 0),(4,.fn 129 [.ref 1 0]),(83,.sl false (L Ag a.Zy)),(84,i64 (a.Zy.length:Int)),(85,i64 v.1)],[.box [.sl false (L Ac a.Zx),.sl false (L Ag a.Zy),.sl false (L Aj a.Zz),.sl false (L Ai a.Za1)] false,.box [i64 v.2] false]⟩:St)) (ws [0,1]) ?_;rintro⟨az,ac⟩ cr bu bv bw;show G4 a az ac=some bu→_;unfold G4;refine T0 [1,3,4,83,84,85,86] ?_;refine Sq <|Cd ?_ ?_
   ·refine Sk <|Tn <|Sq <|Sb <|Ck fun bx =>Lt fun p bz =>Lt fun q bA =>Lt fun s bB =>Lt fun t bC =>Lt fun u bD =>Te (σ':=[_,_,.box [i64 p,i64 q,i64 s,i64 t,i64 u] false]) [1,3,4,10,83,84,85] Aa (Ev (by simp only[go_sem,qR bx,bz,bA,bB,bC,bD];exact AP)) ?_
    refine Tw [1,3,4,10,83,84,85] (fun al=>⟨Aq 206 [(1,.ref 0 0),(3,.ref 1 0),(4,.fn 129 [.ref 1 0]),(10,.ref 2 0),(83,.sl false (L Ag a.Zy)),(84,i64 (a.Zy.length:Int)),(85,i64 az)],[.box [.sl false (L Ac a.Zx),.sl false (L Ag a.Zy),.sl false (L Aj a.Zz),.sl false (L Ai a.Za1)] false,.box [i64 al] false,.box [i64 p,i64 q,i64 s,i64 t,i64 u] false]⟩) ?_ ?_
    ·intro _;refine Bd fun cs aA=>?_
     refine Sp (fun am=>?_) fun am=>?_
     ·refine Bd fun ct aP=>?_
      refine Sp (fun aB=>?_) fun aB=>?_
      ·refine Bd fun bE bF =>Bd fun cu bG =>?_
       exact Lf (Ao (l:=[(96,_,_,_),(100,_,_,_),(105,_,_,_)]) (m:=[(107,129,[.bool bE,.ref 1 0],[.box [.sl false (L Ac a.Zx),.sl false (L Ag a.Zy),.sl false (L Aj a.Zz),.sl false (L Ai a.Za1)] false,.box [i64 ac] false,.box [i64 p,i64 q,i64 s,i64 t,i64 u] false],_,_)]) ⟨Al  aA,Al  aP,Al  bF,trivial⟩ ⟨(wc (AA bG) [1]),trivial⟩) (Ew2 am aB) (ws [0,1,2])
      ·refine Bd fun cv bH=>?_
       exact Lf (Ao (l:=[(96,_,_,_),(100,_,_,_)]) (m:=[(107,129,[.bool false,.ref 1 0],[.box [.sl false (L Ac a.Zx),.sl false (L Ag a.Zy),.sl false (L Aj a.Zz),.sl false (L Ai a.Za1)] false,.box [i64 ac] false,.box [i64 p,i64 q,i64 s,i64 t,i64 u] false],_,_)]) ⟨Al  aA,Al  aP,trivial⟩ ⟨(wc (AA bH) [1]),trivial⟩) (Ew2 am aB) (ws [0,1,2])
     ·refine Bd fun cw bI=>?_
      exact Lf (Ao (l:=[(96,_,_,_)]) (m:=[(107,129,[.bool false,.ref 1 0],[.box [.sl false (L Ac a.Zx),.sl false (L Ag a.Zy),.sl false (L Aj a.Zz),.sl false (L Ai a.Za1)] false,.box [i64 ac] false,.box [i64 p,i64 q,i64 s,i64 t,i64 u] false],_,_)]) ⟨Al  aA,trivial⟩ ⟨(wc (AA bI) [1]),trivial⟩) (Ew1 am) (ws [0,1,2])
    intro al;refine Fw [1,3,4,83,84,85] (fun aQ=>⟨Aq 206 [(1,.ref 0 0),(3,.ref 1 0),(4,.fn 129 [.ref 1 0]),(83,.sl false (L Ag a.Zy)),(84,i64 (a.Zy.length:Int)),(85,i64 az)],[.box [.sl false (L Ac a.Zx),.sl false (L Ag a.Zy),.sl false (L Aj a.Zz),.sl false (L Ai a.Za1)] false,.box [i64 aQ] false]⟩) ?_ ?_
    ·intro _;refine Bd fun cx aR=>?_
     refine Sp (fun aC=>?_) fun aC=>?_
     ·refine Bd fun bJ bK =>Bd fun cy bL =>?_
      exact Lf (Ao (l:=[(111,_,_,_),(115,_,_,_)]) (m:=[(117,129,[.bool bJ,.ref 1 0],[.box [.sl false (L Ac a.Zx),.sl false (L Ag a.Zy),.sl false (L Aj a.Zz),.sl false (L Ai a.Za1)] false,.box [i64 al] false,.box [i64 p,i64 q,i64 s,i64 t,i64 u] false],_,_)]) ⟨Al  aR,Al  bK,trivial⟩ ⟨(wc (AA bL) [1]),trivial⟩) (Ew1 aC) (ws [0,1])
     ·refine Bd fun cz bM=>?_
      exact Lf (Ao (l:=[(111,_,_,_)]) (m:=[(117,129,[.bool false,.ref 1 0],[.box [.sl false (L Ac a.Zx),.sl false (L Ag a.Zy),.sl false (L Aj a.Zz),.sl false (L Ai a.Za1)] false,.box [i64 al] false,.box [i64 p,i64 q,i64 s,i64 t,i64 u] false],_,_)]) ⟨Al  aR,trivial⟩ ⟨(wc (AA bM) [1]),trivial⟩) (Ew1 aC) (ws [0,1])
    intro aQ;refine Bn <|Tn <|F0 [1,3,4,83,84,85] ?_
    exact Ln (ws [0,1])
   ·refine Sx <|Tx <|Ly bw bv <|Bx <|?_
    exact Jm ((ws (l':=[(1,.ref 0 0),(3,.ref 1 0),(4,.fn 129 [.ref 1 0])]) (σ':=[.box [.sl false (L Ac a.Zx),.sl false (L Ag a.Zy),.sl false (L Aj a.Zz),.sl false (L Ai a.Za1)] false,.box [i64 ac] false]) [0,1]).trans (ws [0,1]))
  intro aO;refine Ja (fun aS=>⟨Aq 206 [(1,.ref 0 0),(3,.ref 1 0),(4,.fn 129 [.ref 1 0])],[.box [.sl false (L Ac a.Zx),.sl false (L Ag a.Zy),.sl false (L Aj a.Zz),.sl false (L Ai a.Za1)] false,.box [i64 aS] false]⟩) ?_ ?_
  ·intro cA;refine T0 [1,3,4,120,121,122] ?_;refine Sb ?_;refine Lo (fun(v:Int×Int)=>(⟨Aq 206 [(1,.ref 0 0),(3,.ref 1 0),(4,.fn 129 [.ref 1 0]),(120,.sl false (L Aj a.Zz)),(121,i64 (a.Zz.length:Int)),(122,i64 v.1)],[.box [.sl false (L Ac a.Zx),.sl false (L Ag a.Zy),.sl false (L Aj a.Zz),.sl false (L Ai a.Za1)] false,.box [i64 v.2] false]⟩:St)) (ws [0,1]) ?_;rintro⟨aT,y⟩ cB bN bO bP;show GK a aT y=some bN→_;unfold GK;refine T0 [1,3,4,120,121,122,123] ?_;refine Sq <|Cd ?_ ?_
   ·refine Sk <|Tn <|Sq <|Sb <|Ck fun bQ =>Lt fun ad bR =>Lt fun ae bS =>Lt fun af bT =>Te (σ':=[_,_,.box [i64 ad,i64 ae,i64 af] false]) [1,3,4,12,120,121,122] Aa (Ew4 (qR bQ) bR bS bT) ?_
    refine Fw [1,3,4,120,121,122] (fun aU=>⟨Aq 206 [(1,.ref 0 0),(3,.ref 1 0),(4,.fn 129 [.ref 1 0]),(120,.sl false (L Aj a.Zz)),(121,i64 (a.Zz.length:Int)),(122,i64 aT)],[.box [.sl false (L Ac a.Zx),.sl false (L Ag a.Zy),.sl false (L Aj a.Zz),.sl false (L Ai a.Za1)] false,.box [i64 aU] false]⟩) ?_ ?_
    ·intro _;refine Bd fun cC an=>?_
     refine Sp (fun ag=>?_) fun ag=>?_
     ·refine Bd fun cD aD=>?_
      refine Sp (fun ao=>?_) fun ao=>?_
      ·refine Sp (fun aE=>?_) fun aE=>?_
       ·refine Bd fun bU bV =>Bd fun cE bW =>?_
        exact Lf (Ao (l:=[(133,_,_,_),(141,_,_,_),(153,_,_,_)]) (m:=[(155,129,[.bool bU,.ref 1 0],[.box [.sl false (L Ac a.Zx),.sl false (L Ag a.Zy),.sl false (L Aj a.Zz),.sl false (L Ai a.Za1)] false,.box [i64 y] false,.box [i64 ad,i64 ae,i64 af] false],_,_)]) ⟨Al  an,Al  aD,Al  bV,trivial⟩ ⟨(wc (AA bW) [1]),trivial⟩) (Ew3 ag ao aE) (ws [0,1])
       ·refine Bd fun cF bX=>?_
        exact Lf (Ao (l:=[(133,_,_,_),(141,_,_,_)]) (m:=[(155,129,[.bool false,.ref 1 0],[.box [.sl false (L Ac a.Zx),.sl false (L Ag a.Zy),.sl false (L Aj a.Zz),.sl false (L Ai a.Za1)] false,.box [i64 y] false,.box [i64 ad,i64 ae,i64 af] false],_,_)]) ⟨Al  an,Al  aD,trivial⟩ ⟨(wc (AA bX) [1]),trivial⟩) (Ew3 ag ao aE) (ws [0,1])
      ·refine Bd fun cG bY=>?_
       exact Lf (Ao (l:=[(133,_,_,_),(141,_,_,_)]) (m:=[(155,129,[.bool false,.ref 1 0],[.box [.sl false (L Ac a.Zx),.sl false (L Ag a.Zy),.sl false (L Aj a.Zz),.sl false (L Ai a.Za1)] false,.box [i64 y] false,.box [i64 ad,i64 ae,i64 af] false],_,_)]) ⟨Al  an,Al  aD,trivial⟩ ⟨(wc (AA bY) [1]),trivial⟩) (Ew2 ag ao) (ws [0,1])
     ·refine Bd fun cH bZ=>?_
      exact Lf (Ao (l:=[(133,_,_,_)]) (m:=[(155,129,[.bool false,.ref 1 0],[.box [.sl false (L Ac a.Zx),.sl false (L Ag a.Zy),.sl false (L Aj a.Zz),.sl false (L Ai a.Za1)] false,.box [i64 y] false,.box [i64 ad,i64 ae,i64 af] false],_,_)]) ⟨Al  an,trivial⟩ ⟨(wc (AA bZ) [1]),trivial⟩) (Ew1 ag) (ws [0,1])
    intro aU;refine Bn <|Tn <|F0 [1,3,4,120,121,122] ?_
    exact Ln (ws [0,1])
   ·refine Sx <|Tx <|Ly bP bO <|Bx <|?_
    exact Jm ((ws (l':=[(1,.ref 0 0),(3,.ref 1 0),(4,.fn 129 [.ref 1 0])]) (σ':=[.box [.sl false (L Ac a.Zx),.sl false (L Ag a.Zy),.sl false (L Aj a.Zz),.sl false (L Ai a.Za1)] false,.box [i64 y] false]) [0,1]).trans (ws [0,1]))
  intro aS;refine T0 [1,3,4,13] ?_;refine Ja (fun aV=>⟨Aq 206 [(3,.ref 0 0)],[.box [i64 aV] false]⟩) ?_ ?_
  ·intro cI;refine T0 [3,4,13,158,159,160] ?_;refine Sb ?_;refine Lo (fun⟨ah,z,w⟩=>⟨Aq 206 [(3,.ref 0 0),(4,.fn 129 [.ref 0 0]),(13,.ref 1 0),(158,.sl false (L Ai a.Za1)),(159,i64 (a.Za1.length:Int)),(160,i64 ah)],[.box [i64 z] false,.box (C1 AV.bool w.l) false]⟩) (ws [1,2]) ?_;rintro⟨ah,z,w⟩ cJ b0 b1 b2;show GD a ah z w=some b0→_;unfold GD;refine T0 [3,4,13,158,159,160,161] ?_;refine Sq <|Cd ?_ ?_
   ·refine Sk <|Tn <|?_
    refine Ja (fun(v:Int×Arr Bool 4096)=>(⟨Aq 206 [(3,.ref 0 0),(4,.fn 129 [.ref 0 0]),(13,.ref 1 0),(158,.sl false (L Ai a.Za1)),(159,i64 (a.Za1.length:Int)),(160,i64 ah)],[.box [i64 v.1] false,.box (C1 AV.bool v.2.l) false]⟩:St)) ?_ ?_
    ·intro cK;refine Sb <|Ck fun b3 =>Lt fun b b4 =>Lt fun c b5 =>Lt fun ap b6 =>Te (σ':=[_,_,.box [i64 b,i64 c,i64 ap] false]) [3,4,13,15,158,159,160] Aa (Ew4 (qR b3) b4 b5 b6) ?_
     refine Tw [3,4,13,15,16,158,159,160] (fun aF=>⟨Aq 206 [(3,.ref 0 0),(4,.fn 129 [.ref 0 0]),(13,.ref 1 0),(15,.ref 2 0),(16,.bool aF),(158,.sl false (L Ai a.Za1)),(159,i64 (a.Za1.length:Int)),(160,i64 ah)],[.box [i64 z] false,.box (C1 AV.bool w.l) false,.box [i64 b,i64 c,i64 ap] false]⟩) ?_ ?_
     ·intro _;refine Bd fun cL aq=>?_
      refine Sp (fun ai=>?_) fun ai=>?_
      ·refine Bd fun cM aG=>?_
       refine Sp (fun ar=>?_) fun ar=>?_
       ·refine Sp (fun aH=>?_) fun aH=>?_
        ·refine Bd fun cN b7=>?_
         exact Lf (Fp (l:=[(166,_,_,_),(170,_,_,_),(182,_,_,_)]) ⟨Al  aq,Al  aG,Al  b7,trivial⟩) (Ew3 ai ar aH) (ws [0,1,2])
        ·exact Lf (o2 166 (Al aq) 170 (Al aG)) (Ew3 ai ar aH) (ws [0,1,2])
       ·exact Lf (o2 166 (Al aq) 170 (Al aG)) (Ew2 ai ar) (ws [0,1,2])
      ·exact Lf (o1 166 (Al aq)) (Ew1 ai) (ws [0,1,2])
     intro aF;refine Bd fun b8 b9 =>Te [3,4,13,15,16,158,159,160] (Ao (l:=[]) (m:=[(186,129,[.bool aF,.ref 0 0],[.box [i64 z] false,.box (C1 AV.bool w.l) false,.box [i64 b,i64 c,i64 ap] false],_,_)]) trivial ⟨(wc (AA b9) [0]),trivial⟩) Ev ?_
     refine T0 [3,4,13,15,158,159,160,187] ?_;refine Cd ?_ ?_
     ·refine Ck fun aW =>Ck fun aX =>?_
      have aY:b.toNat*64+c.toNat<4096:=ZY aW.2 aX.2;have ca:b.toNat*64+c.toNat≤4095:=Nat.le_of_lt_succ aY;refine Bd fun cO cb=>?_
      refine Dq [[],[],[1],[],[3],[1,2],[1,2,3,4,5],[1,2,3,4,5,6],[1,2,3,4,5,6,7],[0,1,2,3,4,5,6,7,8]] [3,4,13,15,158,159,160] (Ao (l:=[]) (m:=[(197,129,[.bool (!(w.get (b.toNat*64+c.toNat))),.ref 0 0],[.box [i64 b8] false,.box (C1 AV.bool w.l) false,.box [i64 b,i64 c,i64 ap] false],_,_)]) trivial ⟨(wc (AA cb) [0]),trivial⟩) (Ew4 (qR aW) (qR aX) aY ca) ?_;refine Ck fun aZ =>Ck fun a0 =>?_
      have a1:b.toNat*64+c.toNat<4096:=ZY aZ.2 a0.2;have cc:b.toNat*64+c.toNat≤4095:=Nat.le_of_lt_succ a1;refine Lt fun cd ce =>Ge (σ':=[_,.box (C1 AV.bool cd.l) false,_]) [[],[0],[],[2],[0,1],[0,1,2,3,4],[0,1,2,3,4,5]] [3,4,13,158,159,160] Aa (Ew5 (qR aZ) (qR a0) a1 cc ce) ?_
      exact Bn <|Jm (ws [0,1])
     ·exact Sk <|Bn <|Jm (ws [0,1])
    rintro⟨cP,cQ⟩;refine F0 [3,4,13,158,159,160] ?_;exact Ln (ws [0,1])
   ·refine Sx <|Tx <|Ly b2 b1 <|Bx <|?_
    exact Jm ((ws (l':=[(3,.ref 0 0)]) (σ':=[.box [i64 z] false]) [0]).trans (ws [0]))
  intro aV;refine T0 [2] ?_;exact Sr <|Rr
theorem Gu{a r}(h:DK a=some r):Con B 99 [.agg [i64 a.Zd1.1.Zw,i64 a.Zd1.1.To,i64 a.Zd1.2.1.Zw,i64 a.Zd1.2.1.To,i64 a.Zd1.2.2.1.Zw,i64 a.Zd1.2.2.1.To,i64 a.Zd1.2.2.2.1.Zw,i64 a.Zd1.2.2.2.1.To,i64 a.Zd1.2.2.2.2.1.Zw,i64 a.Zd1.2.2.2.2.1.To,i64 a.Zd1.2.2.2.2.2.1.Zw,i64 a.Zd1.2.2.2.2.2.1.To,i64 a.Zd1.2.2.2.2.2.2.Zw,i64 a.Zd1.2.2.2.2.2.2.To,.sl false (L JB a.Ze1)]] [] (fun r' σ'=>r'=i64 r∧σ'=[]):=by
 refine Cw 45 [.tmp 2] Tryz.func99 (fun F hE=>?_) h;unfold DK;refine Lt fun b aq =>Lt fun c ar =>Te (σ':=[.box [i64 a.Zd1.1.Zw,i64 a.Zd1.1.To,i64 a.Zd1.2.1.Zw,i64 a.Zd1.2.1.To,i64 a.Zd1.2.2.1.Zw,i64 a.Zd1.2.2.1.To,i64 a.Zd1.2.2.2.1.Zw,i64 a.Zd1.2.2.2.1.To,i64 a.Zd1.2.2.2.2.1.Zw,i64 a.Zd1.2.2.2.2.1.To,i64 b,i64 a.Zd1.2.2.2.2.2.1.To,i64 c,i64 a.Zd1.2.2.2.2.2.2.To,.sl false (L JB a.Ze1)] false]) [1] Aa (Ew2 aq ar) ?_
 refine Jo (fun _=>⟨Aq 45 [(1,.ref 0 0)],[.box [i64 a.Zd1.1.Zw,i64 a.Zd1.1.To,i64 a.Zd1.2.1.Zw,i64 a.Zd1.2.1.To,i64 a.Zd1.2.2.1.Zw,i64 a.Zd1.2.2.1.To,i64 a.Zd1.2.2.2.1.Zw,i64 a.Zd1.2.2.2.1.To,i64 a.Zd1.2.2.2.2.1.Zw,i64 a.Zd1.2.2.2.2.1.To,i64 b,i64 a.Zd1.2.2.2.2.2.1.To,i64 c,i64 a.Zd1.2.2.2.2.2.2.To,.sl false (L JB a.Ze1)] false]⟩) ?_ ?_
 ·intro aG d;refine T0 [1,9,10] ?_;refine Sb ?_;refine Ul 17 ?_;refine Ug (m:=16) ?_;refine T0 [1,9,10,11] ?_;refine Sq <|Ct <|Sk <|Tn <|Sq <|Sb <|?_
  have x:InR 0 7:=by decide
  refine Te [1,4,9,10] Aa (Ev (by simp only[go_sem,x,x.2];exact AP)) ?_;refine Tw [1,9,10,27] (fun y=>⟨Aq 45 [(1,.ref 0 0),(9,.agg [i64 a.Zd1.1.Zw,i64 a.Zd1.1.To,i64 a.Zd1.2.1.Zw,i64 a.Zd1.2.1.To,i64 a.Zd1.2.2.1.Zw,i64 a.Zd1.2.2.1.To,i64 a.Zd1.2.2.2.1.Zw,i64 a.Zd1.2.2.2.1.To,i64 a.Zd1.2.2.2.2.1.Zw,i64 a.Zd1.2.2.2.2.1.To,i64 b,i64 a.Zd1.2.2.2.2.2.1.To,i64 c,i64 a.Zd1.2.2.2.2.2.2.To]),(10,i64 0),(27,.bool y)],[.box [i64 a.Zd1.1.Zw,i64 a.Zd1.1.To,i64 a.Zd1.2.1.Zw,i64 a.Zd1.2.1.To,i64 a.Zd1.2.2.1.Zw,i64 a.Zd1.2.2.1.To,i64 a.Zd1.2.2.2.1.Zw,i64 a.Zd1.2.2.2.1.To,i64 a.Zd1.2.2.2.2.1.Zw,i64 a.Zd1.2.2.2.2.1.To,i64 b,i64 a.Zd1.2.2.2.2.2.1.To,i64 c,i64 a.Zd1.2.2.2.2.2.2.To,.sl false (L JB a.Ze1)] false]⟩) ?_ ?_
  ·intro _;refine Sp (fun e=>?_) fun e=>?_
   ·exact Lf Aa (Ew1 e) (ws [0])
   ·refine Sp (fun n=>?_) fun n=>?_
    ·exact Lf Aa (Ew2 e n) (ws [0])
    ·exact Lf Aa (Ew2 e n) (ws [0])
  intro y;refine Cd ?_ ?_
  ·refine T0 [2] ?_;exact Sr <|Br <|Tr <|Ur <|Br <|Jr d <|Rr
  ·refine Sk <|Bn <|Tn <|?_
   have au:w64 1=1:=by decide
   refine Fe [1,9,10] Aa (Ew1 au) ?_;refine Un ?_;refine Ug (m:=15) ?_;refine T0 [1,9,10,11] ?_;refine Sq <|Ct <|Sk <|Tn <|Sq <|Sb <|?_
   have z:InR 1 7:=by decide
   refine Te [1,4,9,10] Aa (Ev (by simp only[go_sem,z,z.2];exact AP)) ?_;refine Tw [1,9,10,27] (fun aa=>⟨Aq 45 [(1,.ref 0 0),(9,.agg [i64 a.Zd1.1.Zw,i64 a.Zd1.1.To,i64 a.Zd1.2.1.Zw,i64 a.Zd1.2.1.To,i64 a.Zd1.2.2.1.Zw,i64 a.Zd1.2.2.1.To,i64 a.Zd1.2.2.2.1.Zw,i64 a.Zd1.2.2.2.1.To,i64 a.Zd1.2.2.2.2.1.Zw,i64 a.Zd1.2.2.2.2.1.To,i64 b,i64 a.Zd1.2.2.2.2.2.1.To,i64 c,i64 a.Zd1.2.2.2.2.2.2.To]),(10,i64 1),(27,.bool aa)],[.box [i64 a.Zd1.1.Zw,i64 a.Zd1.1.To,i64 a.Zd1.2.1.Zw,i64 a.Zd1.2.1.To,i64 a.Zd1.2.2.1.Zw,i64 a.Zd1.2.2.1.To,i64 a.Zd1.2.2.2.1.Zw,i64 a.Zd1.2.2.2.1.To,i64 a.Zd1.2.2.2.2.1.Zw,i64 a.Zd1.2.2.2.2.1.To,i64 b,i64 a.Zd1.2.2.2.2.2.1.To,i64 c,i64 a.Zd1.2.2.2.2.2.2.To,.sl false (L JB a.Ze1)] false]⟩) ?_ ?_
   ·intro _;refine Sp (fun f=>?_) fun f=>?_
    ·exact Lf Aa (Ew1 f) (ws [0])
    ·refine Sp (fun o=>?_) fun o=>?_
     ·exact Lf Aa (Ew2 f o) (ws [0])
     ·exact Lf Aa (Ew2 f o) (ws [0])
   intro aa;refine Cd ?_ ?_
   ·refine T0 [2] ?_;exact Sr <|Br <|Tr <|Ur <|Br <|Jr d <|Rr
   ·refine Sk <|Bn <|Tn <|?_
    have av:w64 2=2:=by decide
    refine Fe [1,9,10] Aa (Ew1 av) ?_;refine Un ?_;refine Ug (m:=14) ?_;refine T0 [1,9,10,11] ?_;refine Sq <|Ct <|Sk <|Tn <|Sq <|Sb <|?_
    have ab:InR 2 7:=by decide
    refine Te [1,4,9,10] Aa (Ev (by simp only[go_sem,ab,ab.2];exact AP)) ?_;refine Tw [1,9,10,27] (fun ac=>⟨Aq 45 [(1,.ref 0 0),(9,.agg [i64 a.Zd1.1.Zw,i64 a.Zd1.1.To,i64 a.Zd1.2.1.Zw,i64 a.Zd1.2.1.To,i64 a.Zd1.2.2.1.Zw,i64 a.Zd1.2.2.1.To,i64 a.Zd1.2.2.2.1.Zw,i64 a.Zd1.2.2.2.1.To,i64 a.Zd1.2.2.2.2.1.Zw,i64 a.Zd1.2.2.2.2.1.To,i64 b,i64 a.Zd1.2.2.2.2.2.1.To,i64 c,i64 a.Zd1.2.2.2.2.2.2.To]),(10,i64 2),(27,.bool ac)],[.box [i64 a.Zd1.1.Zw,i64 a.Zd1.1.To,i64 a.Zd1.2.1.Zw,i64 a.Zd1.2.1.To,i64 a.Zd1.2.2.1.Zw,i64 a.Zd1.2.2.1.To,i64 a.Zd1.2.2.2.1.Zw,i64 a.Zd1.2.2.2.1.To,i64 a.Zd1.2.2.2.2.1.Zw,i64 a.Zd1.2.2.2.2.1.To,i64 b,i64 a.Zd1.2.2.2.2.2.1.To,i64 c,i64 a.Zd1.2.2.2.2.2.2.To,.sl false (L JB a.Ze1)] false]⟩) ?_ ?_
    ·intro _;refine Sp (fun g=>?_) fun g=>?_
     ·exact Lf Aa (Ew1 g) (ws [0])
     ·refine Sp (fun p=>?_) fun p=>?_
      ·exact Lf Aa (Ew2 g p) (ws [0])
      ·exact Lf Aa (Ew2 g p) (ws [0])
    intro ac;refine Cd ?_ ?_
    ·refine T0 [2] ?_;exact Sr <|Br <|Tr <|Ur <|Br <|Jr d <|Rr
    ·refine Sk <|Bn <|Tn <|?_
     have aw:w64 3=3:=by decide
     refine Fe [1,9,10] Aa (Ew1 aw) ?_;refine Un ?_;refine Ug (m:=13) ?_;refine T0 [1,9,10,11] ?_;refine Sq <|Ct <|Sk <|Tn <|Sq <|Sb <|?_
     have ad:InR 3 7:=by decide
     refine Te [1,4,9,10] Aa (Ev (by simp only[go_sem,ad,ad.2];exact AP)) ?_;refine Tw [1,9,10,27] (fun ae=>⟨Aq 45 [(1,.ref 0 0),(9,.agg [i64 a.Zd1.1.Zw,i64 a.Zd1.1.To,i64 a.Zd1.2.1.Zw,i64 a.Zd1.2.1.To,i64 a.Zd1.2.2.1.Zw,i64 a.Zd1.2.2.1.To,i64 a.Zd1.2.2.2.1.Zw,i64 a.Zd1.2.2.2.1.To,i64 a.Zd1.2.2.2.2.1.Zw,i64 a.Zd1.2.2.2.2.1.To,i64 b,i64 a.Zd1.2.2.2.2.2.1.To,i64 c,i64 a.Zd1.2.2.2.2.2.2.To]),(10,i64 3),(27,.bool ae)],[.box [i64 a.Zd1.1.Zw,i64 a.Zd1.1.To,i64 a.Zd1.2.1.Zw,i64 a.Zd1.2.1.To,i64 a.Zd1.2.2.1.Zw,i64 a.Zd1.2.2.1.To,i64 a.Zd1.2.2.2.1.Zw,i64 a.Zd1.2.2.2.1.To,i64 a.Zd1.2.2.2.2.1.Zw,i64 a.Zd1.2.2.2.2.1.To,i64 b,i64 a.Zd1.2.2.2.2.2.1.To,i64 c,i64 a.Zd1.2.2.2.2.2.2.To,.sl false (L JB a.Ze1)] false]⟩) ?_ ?_
     ·intro _;refine Sp (fun i=>?_) fun i=>?_
      ·exact Lf Aa (Ew1 i) (ws [0])
      ·refine Sp (fun q=>?_) fun q=>?_
       ·exact Lf Aa (Ew2 i q) (ws [0])
       ·exact Lf Aa (Ew2 i q) (ws [0])
     intro ae;refine Cd ?_ ?_
     ·refine T0 [2] ?_;exact Sr <|Br <|Tr <|Ur <|Br <|Jr d <|Rr
     ·refine Sk <|Bn <|Tn <|?_
      have ax:w64 4=4:=by decide
      refine Fe [1,9,10] Aa (Ew1 ax) ?_;refine Un ?_;refine Ug (m:=12) ?_;refine T0 [1,9,10,11] ?_;refine Sq <|Ct <|Sk <|Tn <|Sq <|Sb <|?_
      have af:InR 4 7:=by decide
      refine Te [1,4,9,10] Aa (Ev (by simp only[go_sem,af,af.2];exact AP)) ?_;refine Tw [1,9,10,27] (fun ag=>⟨Aq 45 [(1,.ref 0 0),(9,.agg [i64 a.Zd1.1.Zw,i64 a.Zd1.1.To,i64 a.Zd1.2.1.Zw,i64 a.Zd1.2.1.To,i64 a.Zd1.2.2.1.Zw,i64 a.Zd1.2.2.1.To,i64 a.Zd1.2.2.2.1.Zw,i64 a.Zd1.2.2.2.1.To,i64 a.Zd1.2.2.2.2.1.Zw,i64 a.Zd1.2.2.2.2.1.To,i64 b,i64 a.Zd1.2.2.2.2.2.1.To,i64 c,i64 a.Zd1.2.2.2.2.2.2.To]),(10,i64 4),(27,.bool ag)],[.box [i64 a.Zd1.1.Zw,i64 a.Zd1.1.To,i64 a.Zd1.2.1.Zw,i64 a.Zd1.2.1.To,i64 a.Zd1.2.2.1.Zw,i64 a.Zd1.2.2.1.To,i64 a.Zd1.2.2.2.1.Zw,i64 a.Zd1.2.2.2.1.To,i64 a.Zd1.2.2.2.2.1.Zw,i64 a.Zd1.2.2.2.2.1.To,i64 b,i64 a.Zd1.2.2.2.2.2.1.To,i64 c,i64 a.Zd1.2.2.2.2.2.2.To,.sl false (L JB a.Ze1)] false]⟩) ?_ ?_
      ·intro _;refine Sp (fun j=>?_) fun j=>?_
       ·exact Lf Aa (Ew1 j) (ws [0])
       ·refine Sp (fun s=>?_) fun s=>?_
        ·exact Lf Aa (Ew2 j s) (ws [0])
        ·exact Lf Aa (Ew2 j s) (ws [0])
      intro ag;refine Cd ?_ ?_
      ·refine T0 [2] ?_;exact Sr <|Br <|Tr <|Ur <|Br <|Jr d <|Rr
      ·refine Sk <|Bn <|Tn <|?_
       have ay:w64 5=5:=by decide
       refine Fe [1,9,10] Aa (Ew1 ay) ?_;refine Un ?_;refine Ug (m:=11) ?_;refine T0 [1,9,10,11] ?_;refine Sq <|Ct <|Sk <|Tn <|Sq <|Sb <|?_
       have ah:InR 5 7:=by decide
       refine Te [1,4,9,10] Aa (Ev (by simp only[go_sem,ah,ah.2];exact AP)) ?_;refine Tw [1,9,10,27] (fun ai=>⟨Aq 45 [(1,.ref 0 0),(9,.agg [i64 a.Zd1.1.Zw,i64 a.Zd1.1.To,i64 a.Zd1.2.1.Zw,i64 a.Zd1.2.1.To,i64 a.Zd1.2.2.1.Zw,i64 a.Zd1.2.2.1.To,i64 a.Zd1.2.2.2.1.Zw,i64 a.Zd1.2.2.2.1.To,i64 a.Zd1.2.2.2.2.1.Zw,i64 a.Zd1.2.2.2.2.1.To,i64 b,i64 a.Zd1.2.2.2.2.2.1.To,i64 c,i64 a.Zd1.2.2.2.2.2.2.To]),(10,i64 5),(27,.bool ai)],[.box [i64 a.Zd1.1.Zw,i64 a.Zd1.1.To,i64 a.Zd1.2.1.Zw,i64 a.Zd1.2.1.To,i64 a.Zd1.2.2.1.Zw,i64 a.Zd1.2.2.1.To,i64 a.Zd1.2.2.2.1.Zw,i64 a.Zd1.2.2.2.1.To,i64 a.Zd1.2.2.2.2.1.Zw,i64 a.Zd1.2.2.2.2.1.To,i64 b,i64 a.Zd1.2.2.2.2.2.1.To,i64 c,i64 a.Zd1.2.2.2.2.2.2.To,.sl false (L JB a.Ze1)] false]⟩) ?_ ?_
       ·intro _;refine Sp (fun k=>?_) fun k=>?_
        ·exact Lf Aa (Ew1 k) (ws [0])
        ·refine Sp (fun t=>?_) fun t=>?_
         ·exact Lf Aa (Ew2 k t) (ws [0])
         ·exact Lf Aa (Ew2 k t) (ws [0])
       intro ai;refine Cd ?_ ?_
       ·refine T0 [2] ?_;exact Sr <|Br <|Tr <|Ur <|Br <|Jr d <|Rr
       ·refine Sk <|Bn <|Tn <|?_
        have az:w64 6=6:=by decide
        refine Fe [1,9,10] Aa (Ew1 az) ?_;refine Un ?_;refine Ug (m:=10) ?_;refine T0 [1,9,10,11] ?_;refine Sq <|Ct <|Sk <|Tn <|Sq <|Sb <|?_
        have aj:InR 6 7:=by decide
        refine Te [1,4,9,10] Aa (Ev (by simp only[go_sem,aj,aj.2];exact AP)) ?_;refine Tw [1,9,10,27] (fun ak=>⟨Aq 45 [(1,.ref 0 0),(9,.agg [i64 a.Zd1.1.Zw,i64 a.Zd1.1.To,i64 a.Zd1.2.1.Zw,i64 a.Zd1.2.1.To,i64 a.Zd1.2.2.1.Zw,i64 a.Zd1.2.2.1.To,i64 a.Zd1.2.2.2.1.Zw,i64 a.Zd1.2.2.2.1.To,i64 a.Zd1.2.2.2.2.1.Zw,i64 a.Zd1.2.2.2.2.1.To,i64 b,i64 a.Zd1.2.2.2.2.2.1.To,i64 c,i64 a.Zd1.2.2.2.2.2.2.To]),(10,i64 6),(27,.bool ak)],[.box [i64 a.Zd1.1.Zw,i64 a.Zd1.1.To,i64 a.Zd1.2.1.Zw,i64 a.Zd1.2.1.To,i64 a.Zd1.2.2.1.Zw,i64 a.Zd1.2.2.1.To,i64 a.Zd1.2.2.2.1.Zw,i64 a.Zd1.2.2.2.1.To,i64 a.Zd1.2.2.2.2.1.Zw,i64 a.Zd1.2.2.2.2.1.To,i64 b,i64 a.Zd1.2.2.2.2.2.1.To,i64 c,i64 a.Zd1.2.2.2.2.2.2.To,.sl false (L JB a.Ze1)] false]⟩) ?_ ?_
        ·intro _;refine Sp (fun l=>?_) fun l=>?_
         ·exact Lf Aa (Ew1 l) (ws [0])
         ·refine Sp (fun u=>?_) fun u=>?_
          ·exact Lf Aa (Ew2 l u) (ws [0])
          ·exact Lf Aa (Ew2 l u) (ws [0])
        intro ak;refine Cd ?_ ?_
        ·refine T0 [2] ?_;exact Sr <|Br <|Tr <|Ur <|Br <|Jr d <|Rr
        ·refine Sk <|Bn <|Tn <|?_
         have aA:w64 7=7:=by decide
         refine Fe [1,9,10] Aa (Ew1 aA) ?_;refine Un ?_;refine Ug (m:=9) ?_;refine T0 [1,9,10,11] ?_;exact Sq <|Cf <|Sx <|Tx <|Ux <|Bx <|Jn (ws [0])
 intro _;refine T0 [1,5] ?_;refine Jo (fun _=>⟨Aq 45 [],[]⟩) ?_ ?_
 ·intro aH aB;refine T0 [5,30,31,32] ?_;refine Sb ?_;refine Lo (fun(v:Int×Int)=>(⟨Aq 45 [(5,i64 v.1),(30,.sl false (L JB a.Ze1)),(31,i64 (a.Ze1.length:Int)),(32,i64 v.2)],[]⟩:St)) (ws []) ?_;rintro⟨aC,al⟩ aI aD am an;show Cb a aC al=some aD→_;unfold Cb;refine T0 [5,30,31,32,33] ?_;refine Sq <|Cd ?_ ?_
  ·refine Sk <|Tn <|Sq <|Sb <|Ck fun aE =>Lt fun ao aF =>Te (fr':=[(5,_),(7,i64 ao),(30,_),(31,_),(32,_)]) [5,7,30,31,32] Aa (Ew2 (qR aE) aF) ?_
   refine Sq ?_;refine Tw [7,30,31,32,42] (fun ap=>⟨Aq 45 [(7,i64 ao),(30,.sl false (L JB a.Ze1)),(31,i64 (a.Ze1.length:Int)),(32,i64 al),(42,.bool ap)],[]⟩) ?_ ?_
   ·intro _;refine Sp (fun w=>?_) fun w=>?_
    ·exact Lf Aa (Ew1 w) (ws [])
    ·exact Lf Aa (Ew1 w) (ws [])
   intro ap;refine Cd ?_ ?_
   ·refine T0 [2] ?_;exact Sr <|Tr <|Br <|Tr <|Lr an am <|Br <|Jr aB <|Rr
   ·refine Sk <|Tn <|F0 [5,30,31,32] ?_
    refine Bn <|Tn <|F0 [5,30,31,32] ?_
    exact Ln (ws [])
  ·refine Sx <|Tx <|Lx an am <|Bx <|?_
   exact Jn ((ws (l':=[]) (σ':=[]) []).trans (ws []))
 intro _;refine T0 [2] ?_;exact Sr <|Rr
theorem DY{a r}(h:CB a=some r):Con B 57 [.agg (A3 a)] [] (fun r' σ'=>r'=i64 r∧σ'=[]):=by
 refine Cw 193 [.tmp 2] Tryz.func57 (fun F hE=>?_) h;unfold CB;refine T0 [1] ?_;refine Sq <|Bd fun b5 ax =>Te [1,3] (o1 22 (KV ax)) Ev ?_
 refine T0 [1,3,24] ?_;refine Cd ?_ ?_
 ·refine T0 [2] ?_;exact Sr <|Tr <|Rr
 ·refine Sk <|Tn <|Sq <|Bd fun b6 ay =>Te [1,4] (o1 28 (ML ay)) Ev ?_
  refine T0 [1,4,30] ?_;refine Cd ?_ ?_
  ·refine T0 [2] ?_;exact Sr <|Tr <|Rr
  ·refine Sk <|Tn <|Sq <|?_
   refine Tw [1,47] (fun t=>⟨Aq 193 [(1,.ref 0 0),(47,.bool t)],[.box (A3 a) false]⟩) ?_ ?_
   ·intro _;refine Sp (fun e=>?_) fun e=>?_
    ·exact Lf Aa (Ew1 e) (ws [0])
    ·refine Sp (fun l=>?_) fun l=>?_
     ·exact Lf Aa (Ew2 e l) (ws [0])
     ·exact Lf Aa (Ew2 e l) (ws [0])
   intro t;refine Cd ?_ ?_
   ·refine T0 [2] ?_;exact Sr <|Tr <|Rr
   ·refine Sk <|Tn <|Lt fun b az =>De (fr':=[(1,_),(5,_),(6,i64 b)]) [[],[0],[0,1],[],[3],[3,4],[0,1,2],[0,1,2,3,4,5,6]] [1,5,6] Aa (Ew1 az) ?_
    refine T0 [1,5,6,7] ?_;refine Ja (fun u=>⟨Aq 193 [(1,.ref 0 0),(5,.sl false (L An a.Zg1.Ze)),(6,i64 b),(7,.bool u)],[.box (A3 a) false]⟩) ?_ ?_
    ·intro b7;refine T0 [1,5,6,7,57,58,59] ?_;refine Sb ?_;refine Lo (fun(v:Bool×Int)=>(⟨Aq 193 [(1,.ref 0 0),(5,.sl false (L An a.Zg1.Ze)),(6,i64 b),(7,.bool v.1),(57,.sl false (L Ap a.Zi1)),(58,i64 (a.Zi1.length:Int)),(59,i64 v.2)],[.box (A3 a) false]⟩:St)) (ws [0]) ?_;rintro⟨w,x⟩ b8 aA aB aC;show B5 a w x=some aA→_;unfold B5;refine T0 [1,5,6,7,57,58,59,60] ?_;refine Sq <|Cd ?_ ?_
     ·refine Sk <|Tn <|Sq <|Sb <|Ck fun aD =>Lt fun aE aF =>Lt fun aG aH =>Lt fun aI aJ =>Te (σ':=[_,.box [i64 aE,i64 aG,i64 aI] false]) [1,5,6,7,9,57,58,59] Aa (Ew4 (qR aD) aF aH aJ) ?_
      refine Fw [1,5,6,7,57,58,59] (fun y=>⟨Aq 193 [(1,.ref 0 0),(5,.sl false (L An a.Zg1.Ze)),(6,i64 b),(7,.bool y),(57,.sl false (L Ap a.Zi1)),(58,i64 (a.Zi1.length:Int)),(59,i64 x)],[.box (A3 a) false]⟩) ?_ ?_
      ·intro _;refine Sp (fun c=>?_) fun c=>?_
       ·exact Lf Aa (Ew1 c) (ws [0])
       ·refine Bd fun b9 f=>?_
        refine Sp (fun d=>?_) fun d=>?_
        ·exact Lf (o1 70 (Al f)) (Ew2 c d) (ws [0])
        ·refine Sp (fun g=>?_) fun g=>?_
         ·exact Lf (o1 70 (Al f)) (Ew3 c d g) (ws [0])
         ·refine Sp (fun m=>?_) fun m=>?_
          ·exact Lf (o1 70 (Al f)) (Ew4 c d g m) (ws [0])
          ·exact Lf (o1 70 (Al f)) (Ew4 c d g m) (ws [0])
      intro y;refine Bn <|Tn <|F0 [1,5,6,7,57,58,59] ?_
      exact Ln (ws [0])
     ·refine Sx <|Tx <|Ly aC aB <|Bx <|?_
      exact Jm ((ws (l':=[(1,.ref 0 0),(5,.sl false (L An a.Zg1.Ze)),(6,i64 b),(7,.bool w)]) (σ':=[.box (A3 a) false]) [0]).trans (ws [0]))
    intro u;refine Ja (fun z=>⟨Aq 193 [(1,.ref 0 0),(5,.sl false (L An a.Zg1.Ze)),(6,i64 b),(7,.bool z)],[.box (A3 a) false]⟩) ?_ ?_
    ·intro ca;refine T0 [1,5,6,7,92,93,94] ?_;refine Sb ?_;refine Lo (fun(v:Bool×Int)=>(⟨Aq 193 [(1,.ref 0 0),(5,.sl false (L An a.Zg1.Ze)),(6,i64 b),(7,.bool v.1),(92,.sl false (L Am a.Zj1)),(93,i64 (a.Zj1.length:Int)),(94,i64 v.2)],[.box (A3 a) false]⟩:St)) (ws [0]) ?_;rintro⟨aa,ab⟩ cb aK aL aM;show B8 a aa ab=some aK→_;unfold B8;refine T0 [1,5,6,7,92,93,94,95] ?_;refine Sq <|Cd ?_ ?_
     ·refine Sk <|Tn <|Sq <|Sb <|Ck fun aN =>Lt fun aO aP =>Te (σ':=[_,.box [i64 aO] false]) [1,5,6,7,11,92,93,94] Aa (Ew2 (qR aN) aP) ?_
      refine Fw [1,5,6,7,92,93,94] (fun ac=>⟨Aq 193 [(1,.ref 0 0),(5,.sl false (L An a.Zg1.Ze)),(6,i64 b),(7,.bool ac),(92,.sl false (L Am a.Zj1)),(93,i64 (a.Zj1.length:Int)),(94,i64 ab)],[.box (A3 a) false]⟩) ?_ ?_
      ·intro _;refine Sp (fun i=>?_) fun i=>?_
       ·exact Lf Aa (Ew1 i) (ws [0])
       ·refine Bd fun cc ad=>?_
        refine Sp (fun n=>?_) fun n=>?_
        ·exact Lf (o1 105 (Al ad)) (Ew2 i n) (ws [0])
        ·refine Ck fun aQ=>?_
         exact Lf (o1 105 (Al ad)) (Ew3 i n (qR aQ)) (ws [0])
      intro ac;refine Bn <|Tn <|F0 [1,5,6,7,92,93,94] ?_
      exact Ln (ws [0])
     ·refine Sx <|Tx <|Ly aM aL <|Bx <|?_
      exact Jm ((ws (l':=[(1,.ref 0 0),(5,.sl false (L An a.Zg1.Ze)),(6,i64 b),(7,.bool aa)]) (σ':=[.box (A3 a) false]) [0]).trans (ws [0]))
    intro z;refine Ja (fun ae=>⟨Aq 193 [(1,.ref 0 0),(5,.sl false (L An a.Zg1.Ze)),(6,i64 b),(7,.bool ae)],[.box (A3 a) false]⟩) ?_ ?_
    ·intro cd;refine T0 [1,5,6,7,120,121,122] ?_;refine Sb ?_;refine Lo (fun(v:Bool×Int)=>(⟨Aq 193 [(1,.ref 0 0),(5,.sl false (L An a.Zg1.Ze)),(6,i64 b),(7,.bool v.1),(120,.sl false (L Ag a.Zh1.Zy)),(121,i64 (a.Zh1.Zy.length:Int)),(122,i64 v.2)],[.box (A3 a) false]⟩:St)) (ws [0]) ?_;rintro⟨af,ag⟩ ce aR aS aT;show B7 a af ag=some aR→_;unfold B7;refine T0 [1,5,6,7,120,121,122,123] ?_;refine Sq <|Cd ?_ ?_
     ·refine Sk <|Tn <|Sq <|Sb <|Ck fun aU =>Lt fun aV aW =>Lt fun aX aY =>Lt fun aZ a0 =>Lt fun a1 a2 =>Lt fun a3 a4 =>Te (σ':=[_,.box [i64 aV,i64 aX,i64 aZ,i64 a1,i64 a3] false]) [1,5,6,7,13,120,121,122] Aa (Ev (by simp only[go_sem,qR aU,aW,aY,a0,a2,a4];exact AP)) ?_
      refine Fw [1,5,6,7,120,121,122] (fun ah=>⟨Aq 193 [(1,.ref 0 0),(5,.sl false (L An a.Zg1.Ze)),(6,i64 b),(7,.bool ah),(120,.sl false (L Ag a.Zh1.Zy)),(121,i64 (a.Zh1.Zy.length:Int)),(122,i64 ag)],[.box (A3 a) false]⟩) ?_ ?_
      ·intro _;refine Sp (fun o=>?_) fun o=>?_
       ·exact Lf Aa (Ew1 o) (ws [0])
       ·exact Lf Aa (Ew1 o) (ws [0])
      intro ah;refine Bn <|Tn <|F0 [1,5,6,7,120,121,122] ?_
      exact Ln (ws [0])
     ·refine Sx <|Tx <|Ly aT aS <|Bx <|?_
      exact Jm ((ws (l':=[(1,.ref 0 0),(5,.sl false (L An a.Zg1.Ze)),(6,i64 b),(7,.bool af)]) (σ':=[.box (A3 a) false]) [0]).trans (ws [0]))
    intro ae;refine Ja (fun ai=>⟨Aq 193 [(1,.ref 0 0),(6,i64 b),(7,.bool ai)],[.box (A3 a) false]⟩) ?_ ?_
    ·intro cf;refine T0 [1,6,7,135,136,137] ?_;refine Sb ?_;refine Lo (fun(v:Bool×Int)=>(⟨Aq 193 [(1,.ref 0 0),(6,i64 b),(7,.bool v.1),(135,.sl false (L An a.Zg1.Ze)),(136,i64 (a.Zg1.Ze.length:Int)),(137,i64 v.2)],[.box (A3 a) false]⟩:St)) (ws [0]) ?_;rintro⟨aj,ak⟩ cg a5 a6 a7;show Ew a b aj ak=some a5→_;unfold Ew;refine T0 [1,6,7,135,136,137,138] ?_;refine Sq <|Cd ?_ ?_
     ·refine Sk <|Tn <|Sq <|Sb <|Ck fun a8 =>Lt fun a9 ba =>Lt fun bb bc =>Lt fun bd be =>Te (σ':=[_,.box [i64 a9,i64 bb,i64 bd] false]) [1,6,7,15,135,136,137] Aa (Ew4 (qR a8) ba bc be) ?_
      refine Fw [1,6,7,135,136,137] (fun al=>⟨Aq 193 [(1,.ref 0 0),(6,i64 b),(7,.bool al),(135,.sl false (L An a.Zg1.Ze)),(136,i64 (a.Zg1.Ze.length:Int)),(137,i64 ak)],[.box (A3 a) false]⟩) ?_ ?_
      ·intro _;refine Sp (fun j=>?_) fun j=>?_
       ·exact Lf Aa (Ew1 j) (ws [0])
       ·refine Sp (fun p=>?_) fun p=>?_
        ·exact Lf Aa (Ew2 j p) (ws [0])
        ·exact Lf Aa (Ew2 j p) (ws [0])
      intro al;refine Bn <|Tn <|F0 [1,6,7,135,136,137] ?_
      exact Ln (ws [0])
     ·refine Sx <|Tx <|Ly a7 a6 <|Bx <|?_
      exact Jm ((ws (l':=[(1,.ref 0 0),(6,i64 b),(7,.bool aj)]) (σ':=[.box (A3 a) false]) [0]).trans (ws [0]))
    intro ai;refine Ja (fun am=>⟨Aq 193 [(1,.ref 0 0),(7,.bool am)],[.box (A3 a) false]⟩) ?_ ?_
    ·intro ch;refine T0 [1,6,7,157,158,159] ?_;refine Sb ?_;refine Lo (fun(v:Bool×Int)=>(⟨Aq 193 [(1,.ref 0 0),(6,i64 b),(7,.bool v.1),(157,.sl false (L Ar a.Zg1.Zf)),(158,i64 (a.Zg1.Zf.length:Int)),(159,i64 v.2)],[.box (A3 a) false]⟩:St)) (ws [0]) ?_;rintro⟨an,ao⟩ ci bf bg bh;show Eu a b an ao=some bf→_;unfold Eu;refine T0 [1,6,7,157,158,159,160] ?_;refine Sq <|Cd ?_ ?_
     ·refine Sk <|Tn <|Sq <|Sb <|Ck fun bi =>Lt fun bj bk =>Lt fun bl bm =>Lt fun bn bo =>Lt fun bp bq =>Lt fun br bs =>Te (σ':=[_,.box [i64 bj,i64 bl,i64 bn,i64 bp,i64 br] false]) [1,6,7,17,157,158,159] Aa (Ev (by simp only[go_sem,qR bi,bk,bm,bo,bq,bs];exact AP)) ?_
      refine Fw [1,6,7,157,158,159] (fun ap=>⟨Aq 193 [(1,.ref 0 0),(6,i64 b),(7,.bool ap),(157,.sl false (L Ar a.Zg1.Zf)),(158,i64 (a.Zg1.Zf.length:Int)),(159,i64 ao)],[.box (A3 a) false]⟩) ?_ ?_
      ·intro _;refine Sp (fun q=>?_) fun q=>?_
       ·exact Lf Aa (Ew1 q) (ws [0])
       ·exact Lf Aa (Ew1 q) (ws [0])
      intro ap;refine Bn <|Tn <|F0 [1,6,7,157,158,159] ?_
      exact Ln (ws [0])
     ·refine Sx <|Tx <|Ly bh bg <|Bx <|?_
      exact Jm ((ws (l':=[(1,.ref 0 0),(7,.bool an)]) (σ':=[.box (A3 a) false]) [0]).trans (ws [0]))
    intro am;refine Ja (fun aq=>⟨Aq 193 [(7,.bool aq)],[]⟩) ?_ ?_
    ·intro cj;refine T0 [7,172,173,174] ?_;refine Sb ?_;refine Lo (fun(v:Bool×Int)=>(⟨Aq 193 [(7,.bool v.1),(172,.sl false (L Ae a.Zk1)),(173,i64 (a.Zk1.length:Int)),(174,i64 v.2)],[]⟩:St)) (ws []) ?_;rintro⟨ar,au⟩ ck bt bu bv;show Eo a ar au=some bt→_;unfold Eo;refine T0 [7,172,173,174,175] ?_;refine Sq <|Cd ?_ ?_
     ·refine Sk <|Tn <|Sq <|Sb <|Ck fun bw =>Lt fun bx bz =>Lt fun bA bB =>Lt fun bC bD =>Lt fun bE bF =>Lt fun bG bH =>Lt fun bI bJ =>Lt fun bK bL =>Lt fun bM bN =>Lt fun bO bP =>Lt fun bQ bR =>Lt fun bS bT =>Lt fun bU bV =>Lt fun bW bX =>Lt fun bY bZ =>Lt fun b0 b1 =>Lt fun b2 b3 =>Te (σ':=[.box [u64 bx,i64 bA,i64 bC,i64 bE,i64 bG,i64 bI,i64 bK,i64 bM,i64 bO,i64 bQ,i64 bS,i64 bU,i64 bW,i64 bY,i64 b0,.sl false (L JB b2)] false]) [7,19,172,173,174] Aa (Ev (by simp only[go_sem,qR bw,bz,bB,bD,bF,bH,bJ,bL,bN,bP,bR,bT,bV,bX,bZ,b1,b3];exact AP)) ?_
      refine Fw [7,172,173,174] (fun av=>⟨Aq 193 [(7,.bool av),(172,.sl false (L Ae a.Zk1)),(173,i64 (a.Zk1.length:Int)),(174,i64 au)],[]⟩) ?_ ?_
      ·intro _;refine Sp (fun k=>?_) fun k=>?_
       ·exact Lf Aa (Ew1 k) (ws [])
       ·refine Bd fun cl aw=>?_
        refine Sp (fun s=>?_) fun s=>?_
        ·exact Lf (o1 182 (Gu aw)) (Ew2 k s) (ws [])
        ·refine Bd fun cm b4=>?_
         exact Lf (o2 182 (Gu aw) 188 (Jp b4)) (Ew2 k s) (ws [])
      intro av;refine Bn <|Tn <|F0 [7,172,173,174] ?_
      exact Ln (ws [])
     ·refine Sx <|Tx <|Ly bv bu <|Bx <|?_
      exact Jm ((ws (l':=[(7,.bool ar)]) (σ':=[]) []).trans (ws []))
    intro aq;refine Sq <|T0 [192] ?_
    refine Cd ?_ ?_
    ·refine T0 [2] ?_;exact Sr <|Tr <|Rr
    ·refine Sk <|Tn <|T0 [2] ?_
     exact Sr <|Rr
theorem C2{a d e r}(h:BN a d e=some r):Con B 150 [.ref 0 0,.ref 0 15,i64 d,i64 e] [.box (Af a) false] (fun r' σ'=>r'=.tup []∧σ'=[.box (Af r) false]):=by
 refine Co 1 31 [] Tryz.func150 (fun F hE=>?_) h;unfold BN;refine Tw [1] (fun f=>⟨Aq 31 [(1,.ref 0 15)],[.box [.sl false (L An a.p.Zg1.Ze),.sl false (L Ar a.p.Zg1.Zf),.sl false (L Ac a.p.Zh1.Zx),.sl false (L Ag a.p.Zh1.Zy),.sl false (L Aj a.p.Zh1.Zz),.sl false (L Ai a.p.Zh1.Za1),.sl false (L Ap a.p.Zi1),.sl false (L Am a.p.Zj1),.sl false (L Ae a.p.Zk1),i64 a.it.Za,i64 a.it.Ref.Zb,i64 a.it.Ref.No,i64 a.it.Zn1,i64 a.it.Zb1,i64 a.it.Zc,i64 a.it.Zo1,i64 a.it.Zw,i64 a.it.To,i64 a.it.Code,i64 a.it.Zp1,i64 a.it.Zq1,i64 a.it.Zr1,i64 a.it.Zs1,.str a.it.Zt1,.sl false (L Ah a.it.Zu1),.bool f] false]⟩) ?_ ?_
 ·intro _;refine Sp (fun b=>?_) fun b=>?_
  ·refine Sp (fun c=>?_) fun c=>?_
   ·exact Lf Aa (Ew2 b c) (ws [0])
   ·exact Lf Aa (Ew2 b c) (ws [0])
  ·exact Lf Aa (Ew1 b) (ws [0])
 intro f;refine F0 [] ?_;exact Ro [0]
theorem GG{a d e r}(h:Dn a d e=some r):Con B 150 [.ref 0 0,.ref 0 16,i64 d,i64 e] [.box (Af a) false] (fun r' σ'=>r'=.tup []∧σ'=[.box (Af r) false]):=by
 refine Co 1 31 [] Tryz.func150 (fun F hE=>?_) h;unfold Dn;refine Tw [1] (fun f=>⟨Aq 31 [(1,.ref 0 16)],[.box [.sl false (L An a.p.Zg1.Ze),.sl false (L Ar a.p.Zg1.Zf),.sl false (L Ac a.p.Zh1.Zx),.sl false (L Ag a.p.Zh1.Zy),.sl false (L Aj a.p.Zh1.Zz),.sl false (L Ai a.p.Zh1.Za1),.sl false (L Ap a.p.Zi1),.sl false (L Am a.p.Zj1),.sl false (L Ae a.p.Zk1),i64 a.it.Za,i64 a.it.Ref.Zb,i64 a.it.Ref.No,i64 a.it.Zn1,i64 a.it.Zb1,i64 a.it.Zc,i64 a.it.Zo1,i64 a.it.Zw,i64 a.it.To,i64 a.it.Code,i64 a.it.Zp1,i64 a.it.Zq1,i64 a.it.Zr1,i64 a.it.Zs1,.str a.it.Zt1,.sl false (L Ah a.it.Zu1),.bool f] false]⟩) ?_ ?_
 ·intro _;refine Sp (fun b=>?_) fun b=>?_
  ·refine Sp (fun c=>?_) fun c=>?_
   ·exact Lf Aa (Ew2 b c) (ws [0])
   ·exact Lf Aa (Ew2 b c) (ws [0])
  ·exact Lf Aa (Ew1 b) (ws [0])
 intro f;refine F0 [] ?_;exact Ro [0]
theorem G1{a d e r}(h:Dz a d e=some r):Con B 150 [.ref 0 0,.ref 0 17,i64 d,i64 e] [.box (Af a) false] (fun r' σ'=>r'=.tup []∧σ'=[.box (Af r) false]):=by
 refine Co 1 31 [] Tryz.func150 (fun F hE=>?_) h;unfold Dz;refine Tw [1] (fun f=>⟨Aq 31 [(1,.ref 0 17)],[.box [.sl false (L An a.p.Zg1.Ze),.sl false (L Ar a.p.Zg1.Zf),.sl false (L Ac a.p.Zh1.Zx),.sl false (L Ag a.p.Zh1.Zy),.sl false (L Aj a.p.Zh1.Zz),.sl false (L Ai a.p.Zh1.Za1),.sl false (L Ap a.p.Zi1),.sl false (L Am a.p.Zj1),.sl false (L Ae a.p.Zk1),i64 a.it.Za,i64 a.it.Ref.Zb,i64 a.it.Ref.No,i64 a.it.Zn1,i64 a.it.Zb1,i64 a.it.Zc,i64 a.it.Zo1,i64 a.it.Zw,i64 a.it.To,i64 a.it.Code,i64 a.it.Zp1,i64 a.it.Zq1,i64 a.it.Zr1,i64 a.it.Zs1,.str a.it.Zt1,.sl false (L Ah a.it.Zu1),.bool f] false]⟩) ?_ ?_
 ·intro _;refine Sp (fun b=>?_) fun b=>?_
  ·refine Sp (fun c=>?_) fun c=>?_
   ·exact Lf Aa (Ew2 b c) (ws [0])
   ·exact Lf Aa (Ew2 b c) (ws [0])
  ·exact Lf Aa (Ew1 b) (ws [0])
 intro f;refine F0 [] ?_;exact Ro [0]
theorem BI{a d e r}(h:B2 a d e=some r):Con B 150 [.ref 0 0,.ref 0 18,i64 d,i64 e] [.box (Af a) false] (fun r' σ'=>r'=.tup []∧σ'=[.box (Af r) false]):=by
 refine Co 1 31 [] Tryz.func150 (fun F hE=>?_) h;unfold B2;refine Tw [1] (fun f=>⟨Aq 31 [(1,.ref 0 18)],[.box [.sl false (L An a.p.Zg1.Ze),.sl false (L Ar a.p.Zg1.Zf),.sl false (L Ac a.p.Zh1.Zx),.sl false (L Ag a.p.Zh1.Zy),.sl false (L Aj a.p.Zh1.Zz),.sl false (L Ai a.p.Zh1.Za1),.sl false (L Ap a.p.Zi1),.sl false (L Am a.p.Zj1),.sl false (L Ae a.p.Zk1),i64 a.it.Za,i64 a.it.Ref.Zb,i64 a.it.Ref.No,i64 a.it.Zn1,i64 a.it.Zb1,i64 a.it.Zc,i64 a.it.Zo1,i64 a.it.Zw,i64 a.it.To,i64 a.it.Code,i64 a.it.Zp1,i64 a.it.Zq1,i64 a.it.Zr1,i64 a.it.Zs1,.str a.it.Zt1,.sl false (L Ah a.it.Zu1),.bool f] false]⟩) ?_ ?_
 ·intro _;refine Sp (fun b=>?_) fun b=>?_
  ·refine Sp (fun c=>?_) fun c=>?_
   ·exact Lf Aa (Ew2 b c) (ws [0])
   ·exact Lf Aa (Ew2 b c) (ws [0])
  ·exact Lf Aa (Ew1 b) (ws [0])
 intro f;refine F0 [] ?_;exact Ro [0]
theorem G0{a d e r}(h:Dc a d e=some r):Con B 150 [.ref 0 0,.ref 0 19,i64 d,i64 e] [.box (Af a) false] (fun r' σ'=>r'=.tup []∧σ'=[.box (Af r) false]):=by
 refine Co 1 31 [] Tryz.func150 (fun F hE=>?_) h;unfold Dc;refine Tw [1] (fun f=>⟨Aq 31 [(1,.ref 0 19)],[.box [.sl false (L An a.p.Zg1.Ze),.sl false (L Ar a.p.Zg1.Zf),.sl false (L Ac a.p.Zh1.Zx),.sl false (L Ag a.p.Zh1.Zy),.sl false (L Aj a.p.Zh1.Zz),.sl false (L Ai a.p.Zh1.Za1),.sl false (L Ap a.p.Zi1),.sl false (L Am a.p.Zj1),.sl false (L Ae a.p.Zk1),i64 a.it.Za,i64 a.it.Ref.Zb,i64 a.it.Ref.No,i64 a.it.Zn1,i64 a.it.Zb1,i64 a.it.Zc,i64 a.it.Zo1,i64 a.it.Zw,i64 a.it.To,i64 a.it.Code,i64 a.it.Zp1,i64 a.it.Zq1,i64 a.it.Zr1,i64 a.it.Zs1,.str a.it.Zt1,.sl false (L Ah a.it.Zu1),.bool f] false]⟩) ?_ ?_
 ·intro _;refine Sp (fun b=>?_) fun b=>?_
  ·refine Sp (fun c=>?_) fun c=>?_
   ·exact Lf Aa (Ew2 b c) (ws [0])
   ·exact Lf Aa (Ew2 b c) (ws [0])
  ·exact Lf Aa (Ew1 b) (ws [0])
 intro f;refine F0 [] ?_;exact Ro [0]
theorem G3{a d e r}(h:Ds a d e=some r):Con B 150 [.ref 0 0,.ref 0 20,i64 d,i64 e] [.box (Af a) false] (fun r' σ'=>r'=.tup []∧σ'=[.box (Af r) false]):=by
 refine Co 1 31 [] Tryz.func150 (fun F hE=>?_) h;unfold Ds;refine Tw [1] (fun f=>⟨Aq 31 [(1,.ref 0 20)],[.box [.sl false (L An a.p.Zg1.Ze),.sl false (L Ar a.p.Zg1.Zf),.sl false (L Ac a.p.Zh1.Zx),.sl false (L Ag a.p.Zh1.Zy),.sl false (L Aj a.p.Zh1.Zz),.sl false (L Ai a.p.Zh1.Za1),.sl false (L Ap a.p.Zi1),.sl false (L Am a.p.Zj1),.sl false (L Ae a.p.Zk1),i64 a.it.Za,i64 a.it.Ref.Zb,i64 a.it.Ref.No,i64 a.it.Zn1,i64 a.it.Zb1,i64 a.it.Zc,i64 a.it.Zo1,i64 a.it.Zw,i64 a.it.To,i64 a.it.Code,i64 a.it.Zp1,i64 a.it.Zq1,i64 a.it.Zr1,i64 a.it.Zs1,.str a.it.Zt1,.sl false (L Ah a.it.Zu1),.bool f] false]⟩) ?_ ?_
 ·intro _;refine Sp (fun b=>?_) fun b=>?_
  ·refine Sp (fun c=>?_) fun c=>?_
   ·exact Lf Aa (Ew2 b c) (ws [0])
   ·exact Lf Aa (Ew2 b c) (ws [0])
  ·exact Lf Aa (Ew1 b) (ws [0])
 intro f;refine F0 [] ?_;exact Ro [0]
theorem DN{a d e r}(h:Cs a d e=some r):Con B 150 [.ref 0 0,.ref 0 21,i64 d,i64 e] [.box (Af a) false] (fun r' σ'=>r'=.tup []∧σ'=[.box (Af r) false]):=by
 refine Co 1 31 [] Tryz.func150 (fun F hE=>?_) h;unfold Cs;refine Tw [1] (fun f=>⟨Aq 31 [(1,.ref 0 21)],[.box [.sl false (L An a.p.Zg1.Ze),.sl false (L Ar a.p.Zg1.Zf),.sl false (L Ac a.p.Zh1.Zx),.sl false (L Ag a.p.Zh1.Zy),.sl false (L Aj a.p.Zh1.Zz),.sl false (L Ai a.p.Zh1.Za1),.sl false (L Ap a.p.Zi1),.sl false (L Am a.p.Zj1),.sl false (L Ae a.p.Zk1),i64 a.it.Za,i64 a.it.Ref.Zb,i64 a.it.Ref.No,i64 a.it.Zn1,i64 a.it.Zb1,i64 a.it.Zc,i64 a.it.Zo1,i64 a.it.Zw,i64 a.it.To,i64 a.it.Code,i64 a.it.Zp1,i64 a.it.Zq1,i64 a.it.Zr1,i64 a.it.Zs1,.str a.it.Zt1,.sl false (L Ah a.it.Zu1),.bool f] false]⟩) ?_ ?_
 ·intro _;refine Sp (fun b=>?_) fun b=>?_
  ·refine Sp (fun c=>?_) fun c=>?_
   ·exact Lf Aa (Ew2 b c) (ws [0])
   ·exact Lf Aa (Ew2 b c) (ws [0])
  ·exact Lf Aa (Ew1 b) (ws [0])
 intro f;refine F0 [] ?_;exact Ro [0]
theorem DL{a d e r}(h:Cx a d e=some r):Con B 150 [.ref 0 0,.ref 0 22,i64 d,i64 e] [.box (Af a) false] (fun r' σ'=>r'=.tup []∧σ'=[.box (Af r) false]):=by
 refine Co 1 31 [] Tryz.func150 (fun F hE=>?_) h;unfold Cx;refine Tw [1] (fun f=>⟨Aq 31 [(1,.ref 0 22)],[.box [.sl false (L An a.p.Zg1.Ze),.sl false (L Ar a.p.Zg1.Zf),.sl false (L Ac a.p.Zh1.Zx),.sl false (L Ag a.p.Zh1.Zy),.sl false (L Aj a.p.Zh1.Zz),.sl false (L Ai a.p.Zh1.Za1),.sl false (L Ap a.p.Zi1),.sl false (L Am a.p.Zj1),.sl false (L Ae a.p.Zk1),i64 a.it.Za,i64 a.it.Ref.Zb,i64 a.it.Ref.No,i64 a.it.Zn1,i64 a.it.Zb1,i64 a.it.Zc,i64 a.it.Zo1,i64 a.it.Zw,i64 a.it.To,i64 a.it.Code,i64 a.it.Zp1,i64 a.it.Zq1,i64 a.it.Zr1,i64 a.it.Zs1,.str a.it.Zt1,.sl false (L Ah a.it.Zu1),.bool f] false]⟩) ?_ ?_
 ·intro _;refine Sp (fun b=>?_) fun b=>?_
  ·refine Sp (fun c=>?_) fun c=>?_
   ·exact Lf Aa (Ew2 b c) (ws [0])
   ·exact Lf Aa (Ew2 b c) (ws [0])
  ·exact Lf Aa (Ew1 b) (ws [0])
 intro f;refine F0 [] ?_;exact Ro [0]
theorem Dg{a r}(h:CA a=some r):Con B 149 [.ref 0 0] [.box (Af a) false] (fun r' σ'=>r'=.tup []∧σ'=[.box (Af r) false]):=by
 refine Co 1 16 [] Tryz.func149 (fun F hE=>?_) h;unfold CA;refine Bd fun c b =>Ge [[],[],[1],[1,2],[1,2,3],[],[5],[5,6],[5,6,7],[5,6,7,8],[5,6,7,8,9],[5,6,7,8,9,10],[5,6,7,8,9,10,11],[0,1,2,3,4,5,6,7,8,9,10,11,12]] [] (Ao (l:=[]) (m:=[(15,150,[.ref 0 0,.ref 0 12,i64 0,i64 (w64 ((a.p.Zh1.Zy.length:Int)-1))],[.box (Af a) false],_,_)]) trivial ⟨(wc (G2 b) [0]),trivial⟩) Ev ?_
 exact Ro [0]
theorem Bq{a r}(h:Bu a=some r):Con B 151 [.ref 0 0] [.box (Af a) false] (fun r' σ'=>r'=.tup []∧σ'=[.box (Af r) false]):=by
 refine Co 1 8 [] Tryz.func151 (fun F hE=>?_) h;unfold Bu;refine Bd fun c b =>Fe [] (Ao (l:=[]) (m:=[(7,150,[.ref 0 0,.ref 0 16,i64 0,i64 1073741824],[.box (Af a) false],_,_)]) trivial ⟨(wc (GG b) [0]),trivial⟩) Ev ?_
 exact Ro [0]
theorem Bw{a c r}(h:B0 a c=some r):Con B 152 [.ref 0 0,i64 c] [.box (Af a) false] (fun r' σ'=>r'=.agg [i64 r.1.Za,i64 r.1.Zb,i64 r.1.Zc]∧σ'=[.box (Af r.2) false]):=by
 refine Co 1 66 [.cell 4 120] Tryz.func152 (fun F hE=>?_) h;unfold B0;refine T0 [0,1,4] ?_;refine Ja (fun⟨e,f,g⟩=>⟨Aq 66 [(0,.ref 0 0),(1,i64 c),(4,.ref 1 0)],[.box (Af a) false,.box [i64 e,i64 f,i64 g] false]⟩) ?_ ?_
 ·intro v;refine Dw [[],[0],[0,1],[0,1,2],[0,1,2,3],[0,1,2,3,4],[0,1,2,3,4,5],[0,1,2,3,4,5,6],[0,1,2,3,4,5,6,7],[0,1,2,3,4,5,6,7,8],[0,1,2,3,4,5,6,7,8,9],[0,1,2,3,4,5,6,7,8,9,10],[0,1,2,3,4,5,6],[0,1,2,3,4,5,6,12],[0,1,2,3,4,5,6,12,13],[0,1,2,3,4,5,6,12,13,14],[0,1,2,3,4,5,6,12,13,14,15],[0,1,2,3,4,5,6,12,13,14,15,16],[0,1,2,3,4,5,6,12,13,14,15,16,17],[0,1,2,3,4,5,6,7,8,9,10,11,12,13,14,15,16,17,18],[0,1,2,3,4,5,6,7,8,9,10,11,12,13,14,15,16,17,18,19]] [0,1,4,25] (fun k=>⟨Aq 66 [(0,.ref 0 0),(1,i64 c),(4,.ref 1 0),(25,.bool k)],[.box (Af a) false,.box [i64 0,i64 0,i64 0] false]⟩) ?_ ?_
  ·intro _;refine Sp (fun i=>?_) fun i=>?_
   ·exact Lf Aa (Ew1 i) (ws [0,1])
   ·exact Lf Aa (Ew1 i) (ws [0,1])
  intro k;refine Cd ?_ ?_
  ·refine Ck fun m =>Lt fun n o =>Lt fun q s =>Lt fun t u =>Ge (σ':=[_,.box [i64 n,i64 q,i64 t] false]) [[],[0],[0,1],[0,1,2],[0,1,2,3],[0,1,2,3,4],[],[6],[6,7],[6,7,8],[6,7,8,9],[0,1,2,3,4,5,6,7,8,9,10],[0,1,2,3,4,5,6,7,8,9,10,11],[0,1,2,3,4,5,6,7,8,9,10,11,12]] [0,1,4] Aa (Ew4 (qR m) o s u) ?_
   exact Jm (ws [0,1])
  ·exact Sk <|Jm (ws [0,1])
 rintro⟨e,f,g⟩;refine Tw [0,4] (fun l=>⟨Aq 66 [(0,.ref 0 0),(4,.ref 1 0)],[.box [.sl false (L An a.p.Zg1.Ze),.sl false (L Ar a.p.Zg1.Zf),.sl false (L Ac a.p.Zh1.Zx),.sl false (L Ag a.p.Zh1.Zy),.sl false (L Aj a.p.Zh1.Zz),.sl false (L Ai a.p.Zh1.Za1),.sl false (L Ap a.p.Zi1),.sl false (L Am a.p.Zj1),.sl false (L Ae a.p.Zk1),i64 a.it.Za,i64 a.it.Ref.Zb,i64 a.it.Ref.No,i64 a.it.Zn1,i64 a.it.Zb1,i64 a.it.Zc,i64 a.it.Zo1,i64 a.it.Zw,i64 a.it.To,i64 a.it.Code,i64 a.it.Zp1,i64 a.it.Zq1,i64 a.it.Zr1,i64 a.it.Zs1,.str a.it.Zt1,.sl false (L Ah a.it.Zu1),.bool l] false,.box [i64 e,i64 f,i64 g] false]⟩) ?_ ?_
 ·intro _;refine Sp (fun b=>?_) fun b=>?_
  ·refine Sp (fun d=>?_) fun d=>?_
   ·refine Sp (fun j=>?_) fun j=>?_
    ·exact Lf Aa (Ew3 b d j) (ws [0,1])
    ·exact Lf Aa (Ew3 b d j) (ws [0,1])
   ·exact Lf Aa (Ew2 b d) (ws [0,1])
  ·exact Lf Aa (Ew1 b) (ws [0,1])
 intro l;refine T0 [4] ?_;refine T0 [4] ?_;exact Sr <|Ro [0]
theorem DJ{a r}(h:CP a=some r):Con B 153 [.ref 0 0] [.box (Af a) false] (fun r' σ'=>r'=.tup []∧σ'=[.box (Af r) false]):=by
 refine Co 1 16 [] Tryz.func153 (fun F hE=>?_) h;unfold CP;refine Bd fun b c =>De [[],[],[1],[1,2],[1,2,3],[],[5],[5,6],[5,6,7],[5,6,7,8],[5,6,7,8,9],[0,1,2,3,4,5,6,7,8,9,10]] [0] (Ao (l:=[]) (m:=[(13,150,[.ref 0 0,.ref 0 17,i64 (Hn a.it.Zw 0),i64 1073741824],[.box (Af a) false],_,_)]) trivial ⟨(wc (G1 c) [0]),trivial⟩) Ev ?_
 refine Bd fun e d =>Fe [] (Ao (l:=[]) (m:=[(15,151,[.ref 0 0],[.box (Af b) false],_,_)]) trivial ⟨(wc (Bq d) [0]),trivial⟩) Ev ?_
 exact Ro [0]
theorem CJ{a r}(h:Ci a=some r):Con B 154 [.ref 0 0] [.box (Af a) false] (fun r' σ'=>r'=.tup []∧σ'=[.box (Af r) false]):=by
 refine Co 1 15 [] Tryz.func154 (fun F hE=>?_) h;unfold Ci;refine Bd fun c b =>Ge [[],[],[1],[1,2],[1,2,3],[],[5],[5,6],[5,6,7],[5,6,7,8],[5,6,7,8,9],[5,6,7,8,9,10],[0,1,2,3,4,5,6,7,8,9,10,11]] [] (Ao (l:=[]) (m:=[(14,150,[.ref 0 0,.ref 0 14,i64 0,i64 (w64 ((a.p.Zj1.length:Int)-1))],[.box (Af a) false],_,_)]) trivial ⟨(wc (C0 b) [0]),trivial⟩) Ev ?_
 exact Ro [0]
theorem EU{a r}(h:D7 a=some r):Con B 155 [.ref 0 0] [.box (Af a) false] (fun r' σ'=>r'=.tup []∧σ'=[.box (Af r) false]):=by
 refine Co 1 8 [] Tryz.func155 (fun F hE=>?_) h;unfold D7;refine Bd fun c b =>Fe [] (Ao (l:=[]) (m:=[(7,150,[.ref 0 0,.ref 0 20,i64 0,i64 63],[.box (Af a) false],_,_)]) trivial ⟨(wc (G3 b) [0]),trivial⟩) Ev ?_
 exact Ro [0]
theorem GU{d r}(h:DH d=some r):Con B 130 [.ref 0 0] [.box (Af d) false] (fun r' σ'=>r'=.tup []∧σ'=[.box (Af r) false]):=by
 refine Co 1 135 [] Tryz.func130 (fun F hE=>?_) h;unfold DH;refine T0 [0,2] ?_;refine Sq <|T0 [0,2,11] ?_
 refine Cd ?_ ?_
 ·refine T0 [] ?_;exact Sr <|Tr <|Ro [0]
 ·refine Sk <|Tn <|Bd fun b k =>Te [0,2] (Ao (l:=[]) (m:=[(16,149,[.ref 0 0],[.box (Af d) false],_,_)]) trivial ⟨(wc (Dg k) [0]),trivial⟩) Ev ?_
  refine T0 [0,2,20] ?_;refine Sb <|T0 [0,2,20,21] ?_
  refine Cd ?_ ?_
  ·refine Bd fun n o =>De [[],[],[1],[1,2],[],[4],[4,5],[4,5,6],[4,5,6,7],[4,5,6,7,8],[4,5,6,7,8,9],[0,1,2,3,4,5,6,7,8,9,10]] [0] (Ao (l:=[]) (m:=[(34,150,[.ref 0 0,.ref 0 14,i64 0,i64 (w64 ((b.p.Zi1.length:Int)-1))],[.box (Af b) false],_,_)]) trivial ⟨(wc (C0 o) [0]),trivial⟩) Ev ?_
   refine Bd fun au q =>Fe [] (Ao (l:=[]) (m:=[(36,151,[.ref 0 0],[.box (Af n) false],_,_)]) trivial ⟨(wc (Bq q) [0]),trivial⟩) Ev ?_
   exact Bn <|Ro [0]
  ·refine T0 [0,2,20,37] ?_;refine Cd ?_ ?_
   ·refine Bd fun s t =>Te [0] (Ao (l:=[]) (m:=[(40,152,[.ref 0 0,i64 0],[.box (Af b) false],_,_)]) trivial ⟨(wc (Bw t) [0]),trivial⟩) Ev ?_
    refine Bd fun av u =>Fe [] (Ao (l:=[]) (m:=[(42,153,[.ref 0 0],[.box (Af s.2) false],_,_)]) trivial ⟨(wc (DJ u) [0]),trivial⟩) Ev ?_
    exact Bn <|Ro [0]
   ·refine Ja (fun g=>⟨Aq 135 [(0,.ref 0 0),(2,.ref 0 9),(20,i64 b.it.Za),(43,.bool g)],[.box (Af b) false]⟩) ?_ ?_
    ·intro aw;refine T0 [0,2,20,43] ?_;refine Cd ?_ ?_
     ·exact Sk <|Jm (ws [0])
     ·refine F0 [0,2,20,43] ?_;exact Jm (ws [0])
    intro g;refine Cd ?_ ?_
    ·refine Bd fun a v =>Te [0,2,3] (Ao (l:=[]) (m:=[(47,152,[.ref 0 0,i64 3],[.box (Af b) false],_,_)]) trivial ⟨(wc (Bw v) [0]),trivial⟩) Ev ?_
     refine Dw [[],[],[1],[1,2],[1,2,3],[1,2,3,4],[1,2,3,4,5],[1,2,3,4,5,6],[1,2,3,4,5,6,7],[1,2,3,4,5,6,7,8],[1,2,3,4,5],[1,2,3,4,5,10],[1,2,3,4,5,6,7,8,9,10,11],[1,2,3,4,5,6,7,8,9,10,11,12],[1,2,3,4,5,6,7,8,9,10,11,12,13],[1,2,3,4,5,6,7,8,9,10,11,12,13,14],[1,2,3,4,5,6,7,8,9,10,11,12,13,14,15],[1,2,3,4,5,6,7,8,9,10,11,12,13,14,15,16],[1,2,3,4,5,6,7,8,9,10,11,12,13],[1,2,3,4,5,6,7,8,9,10,11,12,13,18],[1,2,3,4,5,6,7,8,9,10,11,12,13,14,15,16,17,18,19],[1,2,3,4,5,6,7,8,9,10,11,12,13,14,15,16,17,18,19,20],[1,2,3,4,5,6,7,8,9,10,11,12,13,14,15,16,17,18,19,20,21],[0,1,2,3,4,5,6,7,8,9,10,11,12,13,14,15,16,17,18,19,20,21,22],[0,1,2,3,4,5,6,7,8,9,10,11,12,13,14,15,16,17,18,19,20,21,22,23],[0,1,2,3,4,5,6,7,8,9,10,11,12,13,14,15,16,17,18,19,20,21,22,23,24]] [0,2] (fun e=>⟨Aq 135 [(0,.ref 0 0),(2,.ref 0 9)],[.box [.sl false (L An a.2.p.Zg1.Ze),.sl false (L Ar a.2.p.Zg1.Zf),.sl false (L Ac a.2.p.Zh1.Zx),.sl false (L Ag a.2.p.Zh1.Zy),.sl false (L Aj a.2.p.Zh1.Zz),.sl false (L Ai a.2.p.Zh1.Za1),.sl false (L Ap a.2.p.Zi1),.sl false (L Am a.2.p.Zj1),.sl false (L Ae a.2.p.Zk1),i64 a.2.it.Za,i64 a.2.it.Ref.Zb,i64 a.2.it.Ref.No,i64 a.2.it.Zn1,i64 a.2.it.Zb1,i64 a.2.it.Zc,i64 a.2.it.Zo1,i64 a.2.it.Zw,i64 a.2.it.To,i64 a.2.it.Code,i64 a.2.it.Zp1,i64 a.2.it.Zq1,i64 a.2.it.Zr1,i64 a.2.it.Zs1,.str a.2.it.Zt1,.sl false (L Ah a.2.it.Zu1),.bool e] false]⟩) ?_ ?_
     ·intro _;refine Sp (fun c=>?_) fun c=>?_
      ·refine Sp (fun f=>?_) fun f=>?_
       ·exact Lf Aa (Ew2 c f) (ws [0])
       ·exact Lf Aa (Ew2 c f) (ws [0])
      ·exact Lf Aa (Ew1 c) (ws [0])
     intro e;refine T0 [0,2] ?_;refine Bd fun w x =>Te [0,2] (Ao (l:=[]) (m:=[(77,151,[.ref 0 0],[.box [.sl false (L An a.2.p.Zg1.Ze),.sl false (L Ar a.2.p.Zg1.Zf),.sl false (L Ac a.2.p.Zh1.Zx),.sl false (L Ag a.2.p.Zh1.Zy),.sl false (L Aj a.2.p.Zh1.Zz),.sl false (L Ai a.2.p.Zh1.Za1),.sl false (L Ap a.2.p.Zi1),.sl false (L Am a.2.p.Zj1),.sl false (L Ae a.2.p.Zk1),i64 a.2.it.Za,i64 a.2.it.Ref.Zb,i64 a.2.it.Ref.No,i64 a.2.it.Zn1,i64 a.2.it.Zb1,i64 0,i64 a.2.it.Zo1,i64 a.2.it.Zw,i64 a.2.it.To,i64 a.2.it.Code,i64 a.2.it.Zp1,i64 a.2.it.Zq1,i64 a.2.it.Zr1,i64 a.2.it.Zs1,.str a.2.it.Zt1,.sl false (L Ah a.2.it.Zu1),.bool e] false],_,_)]) trivial ⟨(wc (Bq x) [0]),trivial⟩) Ev ?_
     refine Bd fun ax y =>Fe [] (Ao (l:=[]) (m:=[(82,150,[.ref 0 0,.ref 0 18,i64 0,i64 8],[.box (Af w) false],_,_)]) trivial ⟨(wc (BI y) [0]),trivial⟩) Ev ?_
     exact Bn <|Ro [0]
    ·refine T0 [0,2,20,83] ?_;refine Cd ?_ ?_
     ·refine Bd fun z aa =>Te [0,2] (Ao (l:=[]) (m:=[(89,150,[.ref 0 0,.ref 0 15,i64 1,i64 1000000000],[.box (Af b) false],_,_)]) trivial ⟨(wc (C2 aa) [0]),trivial⟩) Ev ?_
      refine Bd fun ab ac =>Te [0,2] (Ao (l:=[]) (m:=[(91,154,[.ref 0 0],[.box (Af z) false],_,_)]) trivial ⟨(wc (CJ ac) [0]),trivial⟩) Ev ?_
      refine Bd fun i ad =>Te [0,2] (Ao (l:=[]) (m:=[(93,152,[.ref 0 0,i64 0],[.box (Af ab) false],_,_)]) trivial ⟨(wc (Bw ad) [0]),trivial⟩) Ev ?_
      refine Bd fun ae af =>De [[],[],[1],[1,2],[],[4],[4,5],[4,5,6],[4,5,6,7],[4,5,6,7,8],[4,5,6,7,8,9],[4,5,6,7,8,9,10],[0,1,2,3,4,5,6,7,8,9,10,11]] [0,2] (Ao (l:=[]) (m:=[(106,150,[.ref 0 0,.ref 0 19,i64 0,i64 (w64 ((i.2.p.Zg1.Ze.length:Int)-1))],[.box (Af i.2) false],_,_)]) trivial ⟨(wc (G0 af) [0]),trivial⟩) Ev ?_
      refine Bd fun ag ah =>Te [0,2] (Ao (l:=[]) (m:=[(108,155,[.ref 0 0],[.box (Af ae) false],_,_)]) trivial ⟨(wc (EU ah) [0]),trivial⟩) Ev ?_
      refine Bd fun ai aj =>Te [0] (Ao (l:=[]) (m:=[(113,150,[.ref 0 0,.ref 0 21,i64 0,i64 1000000],[.box (Af ag) false],_,_)]) trivial ⟨(wc (DN aj) [0]),trivial⟩) Ev ?_
      refine Bd fun ay ak =>Fe [] (Ao (l:=[]) (m:=[(115,151,[.ref 0 0],[.box (Af ai) false],_,_)]) trivial ⟨(wc (Bq ak) [0]),trivial⟩) Ev ?_
      exact Bn <|Ro [0]
     ·refine Ja (fun j=>⟨Aq 135 [(0,.ref 0 0),(2,.ref 0 9),(116,.bool j)],[.box (Af b) false]⟩) ?_ ?_
      ·intro az;refine T0 [0,2,20,116] ?_;refine Cd ?_ ?_
       ·exact Sk <|Jm (ws [0])
       ·refine F0 [0,2,116] ?_;exact Jm (ws [0])
      intro j;refine Cd ?_ ?_
      ·refine Bd fun al am =>Te [0,2] (Ao (l:=[]) (m:=[(120,152,[.ref 0 0,i64 0],[.box (Af b) false],_,_)]) trivial ⟨(wc (Bw am) [0]),trivial⟩) Ev ?_
       refine Bd fun an ao =>Te [0,2] (Ao (l:=[]) (m:=[(122,154,[.ref 0 0],[.box (Af al.2) false],_,_)]) trivial ⟨(wc (CJ ao) [0]),trivial⟩) Ev ?_
       refine Bd fun ap aq =>Te [0,2] (Ao (l:=[]) (m:=[(124,151,[.ref 0 0],[.box (Af an) false],_,_)]) trivial ⟨(wc (Bq aq) [0]),trivial⟩) Ev ?_
       refine T0 [0,2,129] ?_;refine Cd ?_ ?_
       ·refine Bd fun aA ar =>Fe [] (Ao (l:=[]) (m:=[(134,150,[.ref 0 0,.ref 0 18,i64 0,i64 1],[.box (Af ap) false],_,_)]) trivial ⟨(wc (BI ar) [0]),trivial⟩) Ev ?_
        exact Bn <|Ro [0]
       ·exact Sk <|Bn <|Ro [0]
      ·exact Sk <|Bn <|Ro [0]
theorem K5{a g r}(h:JT a g=some r):Con B 156 [.sl false (L Ah a),.bool g] [] (fun r' σ'=>r'=.bool r∧σ'=[]):=by
 refine Cw 43 [.tmp 4] Tryz.func156 (fun F hE=>?_) h;unfold JT;refine T0 [0,1] ?_;refine Jo (fun _=>⟨Aq 43 [(0,.sl false (L Ah a))],[]⟩) ?_ ?_
 ·intro w m;refine T0 [0,1,7,8,9] ?_;refine Sb ?_;refine Lo (fun i=>⟨Aq 43 [(0,.sl false (L Ah a)),(1,.bool g),(7,.sl false (L Ah a)),(8,i64 (a.length:Int)),(9,i64 i)],[]⟩) (ws []) ?_;rintro i x n j k;show It a g i=some n→_;unfold It;refine T0 [0,1,7,8,9,10] ?_;refine Sq <|Cd ?_ ?_
  ·refine Sk <|Tn <|Sq <|Sb <|Ck fun o =>Lt fun p q =>Lt fun s t =>Lt fun u v =>Te (σ':=[.box [i64 p,i64 s,.bool u] false]) [0,1,6,7,8,9] Aa (Ew4 (qR o) q t v) ?_
   refine Tw [0,1,7,8,9,38] (fun l=>⟨Aq 43 [(0,.sl false (L Ah a)),(1,.bool g),(7,.sl false (L Ah a)),(8,i64 (a.length:Int)),(9,i64 i),(38,.bool l)],[]⟩) ?_ ?_
   ·intro _;refine Sp (fun b=>?_) fun b=>?_
    ·exact Lf Aa (Ew1 b) (ws [])
    ·refine Sp (fun c=>?_) fun c=>?_
     ·exact Lf Aa (Ew2 b c) (ws [])
     ·refine Sp (fun d=>?_) fun d=>?_
      ·exact Lf Aa (Ew3 b c d) (ws [])
      ·refine Sp (fun e=>?_) fun e=>?_
       ·exact Lf Aa (Ew4 b c d e) (ws [])
       ·refine Sp (fun f=>?_) fun f=>?_
        ·exact Lf Aa (Ew5 b c d e f) (ws [] (by simp only[go_sem,b,c,d,e,f]) (by simp only[go_sem,b,c,d,e,f]))
        ·exact Lf Aa (Ew5 b c d e f) (ws [] (by simp only[go_sem,b,c,d,e,f]) (by simp only[go_sem,b,c,d,e,f]))
   intro l;refine Cd ?_ ?_
   ·refine T0 [4] ?_;exact Sr <|Br <|Tr <|Lr k j <|Br <|Jr m <|Rr
   ·refine Sk <|Bn <|Tn <|F0 [0,1,7,8,9] ?_
    exact Ln (ws [])
  ·refine Sx <|Tx <|Lx k j <|Bx <|?_
   exact Jn ((ws (l':=[(0,.sl false (L Ah a))]) (σ':=[]) []).trans (ws []))
 intro _;refine T0 [4] ?_;exact Sr <|Rr
theorem I0{d r}(h:EO d=some r):Con B 131 [.ref 0 0] [.box (Af d) false] (fun r' σ'=>r'=.tup []∧σ'=[.box (Af r) false]):=by
 refine Co 1 168 [] Tryz.func131 (fun F hE=>?_) h;unfold EO;refine T0 [0,2] ?_;refine T0 [0,2,9] ?_;refine Sb <|T0 [0,2,9,13] ?_
 refine Cd ?_ ?_
 ·refine Bd fun t u =>Te [0,2] (Ao (l:=[]) (m:=[(16,149,[.ref 0 0],[.box (Af d) false],_,_)]) trivial ⟨(wc (Dg u) [0]),trivial⟩) Ev ?_
  refine Bd fun v w =>Te [0,2] (Ao (l:=[]) (m:=[(18,151,[.ref 0 0],[.box (Af t) false],_,_)]) trivial ⟨(wc (Bq w) [0]),trivial⟩) Ev ?_
  refine Bd fun aB x =>Fe [] (Ao (l:=[]) (m:=[(23,150,[.ref 0 0,.ref 0 18,i64 1,i64 9],[.box (Af v) false],_,_)]) trivial ⟨(wc (BI x) [0]),trivial⟩) Ev ?_
  exact Bn <|Ro [0]
 ·refine T0 [0,2,9,24] ?_;refine Cd ?_ ?_
  ·refine Bd fun y z =>Te [0,2] (Ao (l:=[]) (m:=[(27,149,[.ref 0 0],[.box (Af d) false],_,_)]) trivial ⟨(wc (Dg z) [0]),trivial⟩) Ev ?_
   refine Bd fun aa ab =>Te [0,2] (Ao (l:=[]) (m:=[(29,152,[.ref 0 0,i64 5],[.box (Af y) false],_,_)]) trivial ⟨(wc (Bw ab) [0]),trivial⟩) Ev ?_
   refine Bd fun ac ad =>Te [0,2] (Ao (l:=[]) (m:=[(31,153,[.ref 0 0],[.box (Af aa.2) false],_,_)]) trivial ⟨(wc (DJ ad) [0]),trivial⟩) Ev ?_
   refine Bd fun ae af =>Te [0,2] (Ao (l:=[]) (m:=[(36,150,[.ref 0 0,.ref 0 18,i64 1,i64 2],[.box (Af ac) false],_,_)]) trivial ⟨(wc (BI af) [0]),trivial⟩) Ev ?_
   refine Bd fun a ag =>Te [0,2] (Ao (l:=[]) (m:=[(41,150,[.ref 0 0,.ref 0 22,i64 0,i64 1000000000],[.box (Af ae) false],_,_)]) trivial ⟨(wc (DL ag) [0]),trivial⟩) Ev ?_
   refine Tw [2] (fun k=>⟨Aq 168 [(2,.ref 0 9)],[.box [.sl false (L An a.p.Zg1.Ze),.sl false (L Ar a.p.Zg1.Zf),.sl false (L Ac a.p.Zh1.Zx),.sl false (L Ag a.p.Zh1.Zy),.sl false (L Aj a.p.Zh1.Zz),.sl false (L Ai a.p.Zh1.Za1),.sl false (L Ap a.p.Zi1),.sl false (L Am a.p.Zj1),.sl false (L Ae a.p.Zk1),i64 a.it.Za,i64 a.it.Ref.Zb,i64 a.it.Ref.No,i64 a.it.Zn1,i64 a.it.Zb1,i64 a.it.Zc,i64 a.it.Zo1,i64 a.it.Zw,i64 a.it.To,i64 a.it.Code,i64 a.it.Zp1,i64 a.it.Zq1,i64 a.it.Zr1,i64 a.it.Zs1,.str a.it.Zt1,.sl false (L Ah a.it.Zu1),.bool k] false]⟩) ?_ ?_
   ·intro _;refine Sp (fun g=>?_) fun g=>?_
    ·refine Bd fun aC ah=>?_
     exact Lf (o1 52 (K5 ah)) (Ew1 g) (ws [0])
    ·exact Lf Aa (Ew1 g) (ws [0])
   intro k;refine F0 [] ?_;exact Bn <|Ro [0]
  ·refine T0 [0,2,9,59] ?_;refine Cd ?_ ?_
   ·refine Bd fun b ai =>Te [0,2] (Ao (l:=[]) (m:=[(65,150,[.ref 0 0,.ref 0 14,i64 0,i64 63],[.box (Af d) false],_,_)]) trivial ⟨(wc (C0 ai) [0]),trivial⟩) Ev ?_
    refine Tw [2] (fun n=>⟨Aq 168 [(2,.ref 0 9)],[.box [.sl false (L An b.p.Zg1.Ze),.sl false (L Ar b.p.Zg1.Zf),.sl false (L Ac b.p.Zh1.Zx),.sl false (L Ag b.p.Zh1.Zy),.sl false (L Aj b.p.Zh1.Zz),.sl false (L Ai b.p.Zh1.Za1),.sl false (L Ap b.p.Zi1),.sl false (L Am b.p.Zj1),.sl false (L Ae b.p.Zk1),i64 b.it.Za,i64 b.it.Ref.Zb,i64 b.it.Ref.No,i64 b.it.Zn1,i64 b.it.Zb1,i64 b.it.Zc,i64 b.it.Zo1,i64 b.it.Zw,i64 b.it.To,i64 b.it.Code,i64 b.it.Zp1,i64 b.it.Zq1,i64 b.it.Zr1,i64 b.it.Zs1,.str b.it.Zt1,.sl false (L Ah b.it.Zu1),.bool n] false]⟩) ?_ ?_
    ·intro _;refine Sp (fun e=>?_) fun e=>?_
     ·refine Sp (fun i=>?_) fun i=>?_
      ·refine Bd fun aD aj=>?_
       exact Lf (o1 84 (K5 aj)) (Ew2 e i) (ws [0])
      ·exact Lf Aa (Ew2 e i) (ws [0])
     ·exact Lf Aa (Ew1 e) (ws [0])
    intro n;refine F0 [] ?_;exact Bn <|Ro [0]
   ·refine Ja (fun o=>⟨Aq 168 [(0,.ref 0 0),(2,.ref 0 9),(9,i64 d.it.Za),(91,.bool o)],[.box (Af d) false]⟩) ?_ ?_
    ·intro aE;refine T0 [0,2,9,91] ?_;refine Cd ?_ ?_
     ·exact Sk <|Jm (ws [0])
     ·refine T0 [0,2,9,91] ?_;refine Cd ?_ ?_
      ·exact Sk <|Jm (ws [0])
      ·refine F0 [0,2,9,91] ?_;exact Jm (ws [0])
    intro o;refine Cd ?_ ?_
    ·refine Bd fun ak al =>Te [0,2] (Ao (l:=[]) (m:=[(99,150,[.ref 0 0,.ref 0 15,i64 1,i64 6],[.box (Af d) false],_,_)]) trivial ⟨(wc (C2 al) [0]),trivial⟩) Ev ?_
     refine Bd fun c am =>Te [0,2] (Ao (l:=[]) (m:=[(101,151,[.ref 0 0],[.box (Af ak) false],_,_)]) trivial ⟨(wc (Bq am) [0]),trivial⟩) Ev ?_
     refine T0 [0,2,106] ?_;refine Cd ?_ ?_
     ·refine Tw [2] (fun q=>⟨Aq 168 [(2,.ref 0 9)],[.box [.sl false (L An c.p.Zg1.Ze),.sl false (L Ar c.p.Zg1.Zf),.sl false (L Ac c.p.Zh1.Zx),.sl false (L Ag c.p.Zh1.Zy),.sl false (L Aj c.p.Zh1.Zz),.sl false (L Ai c.p.Zh1.Za1),.sl false (L Ap c.p.Zi1),.sl false (L Am c.p.Zj1),.sl false (L Ae c.p.Zk1),i64 c.it.Za,i64 c.it.Ref.Zb,i64 c.it.Ref.No,i64 c.it.Zn1,i64 c.it.Zb1,i64 c.it.Zc,i64 c.it.Zo1,i64 c.it.Zw,i64 c.it.To,i64 c.it.Code,i64 c.it.Zp1,i64 c.it.Zq1,i64 c.it.Zr1,i64 c.it.Zs1,.str c.it.Zt1,.sl false (L Ah c.it.Zu1),.bool q] false]⟩) ?_ ?_
      ·intro _;refine Sp (fun f=>?_) fun f=>?_
       ·refine Sp (fun j=>?_) fun j=>?_
        ·exact Lf Aa (Ew2 f j) (ws [0])
        ·exact Lf Aa (Ew2 f j) (ws [0])
       ·exact Lf Aa (Ew1 f) (ws [0])
      intro q;refine F0 [] ?_;exact Bn <|Ro [0]
     ·exact Sk <|Bn <|Ro [0]
    ·refine T0 [0,2,9,133] ?_;refine Cd ?_ ?_
     ·exact Sk <|Bn <|Ro [0]
     ·refine T0 [0,2,135] ?_;refine Cd ?_ ?_
      ·refine Bd fun an ao =>Te [0,2] (Ao (l:=[]) (m:=[(138,154,[.ref 0 0],[.box (Af d) false],_,_)]) trivial ⟨(wc (CJ ao) [0]),trivial⟩) Ev ?_
       refine Bd fun ap aq =>Te [0,2] (Ao (l:=[]) (m:=[(140,152,[.ref 0 0,i64 0],[.box (Af an) false],_,_)]) trivial ⟨(wc (Bw aq) [0]),trivial⟩) Ev ?_
       refine Bd fun s ar =>Te [0,2] (Ao (l:=[]) (m:=[(142,155,[.ref 0 0],[.box (Af ap.2) false],_,_)]) trivial ⟨(wc (EU ar) [0]),trivial⟩) Ev ?_
       refine Bd fun au av =>De [[],[],[1],[1,2],[],[4],[4,5],[4,5,6],[4,5,6,7],[4,5,6,7,8],[4,5,6,7,8,9],[4,5,6,7,8,9,10],[0,1,2,3,4,5,6,7,8,9,10,11]] [0,2] (Ao (l:=[]) (m:=[(155,150,[.ref 0 0,.ref 0 15,i64 0,i64 (w64 ((s.p.Zh1.Zx.length:Int)-1))],[.box (Af s) false],_,_)]) trivial ⟨(wc (C2 av) [0]),trivial⟩) Ev ?_
       refine Bd fun aw ax =>Te [0,2] (Ao (l:=[]) (m:=[(160,150,[.ref 0 0,.ref 0 21,i64 1,i64 1000],[.box (Af au) false],_,_)]) trivial ⟨(wc (DN ax) [0]),trivial⟩) Ev ?_
       refine Bd fun ay az =>Te [0,2] (Ao (l:=[]) (m:=[(162,153,[.ref 0 0],[.box (Af aw) false],_,_)]) trivial ⟨(wc (DJ az) [0]),trivial⟩) Ev ?_
       refine Bd fun aF aA =>Fe [] (Ao (l:=[]) (m:=[(167,150,[.ref 0 0,.ref 0 22,i64 0,i64 1000000000],[.box (Af ay) false],_,_)]) trivial ⟨(wc (DL aA) [0]),trivial⟩) Ev ?_
       exact Bn <|Ro [0]
      ·refine F0 [] ?_;exact Bn <|Ro [0]
theorem Ps{b a r}(h:Li b a=some r):Con B 102 [.agg (A3 b),.agg (AB a)] [] (fun r' σ'=>r'=.bool r∧σ'=[]):=by
 refine Cw 46 [.tmp 4] Tryz.func102 (fun F hE=>?_) h;unfold Li;refine T0 [2,3] ?_;refine T0 [3,5] ?_;refine Ja (fun⟨c,d,e,f,g,i,j,k,n,o,p,q,s,t,u,v,w,x,y,z,aa,ab,ac,ad,ae,ah⟩=>⟨Aq 46 [(5,.ref 0 0)],[.box [.sl false (L An c),.sl false (L Ar d),.sl false (L Ac e),.sl false (L Ag f),.sl false (L Aj g),.sl false (L Ai i),.sl false (L Ap j),.sl false (L Am k),.sl false (L Ae n),i64 o,i64 p,i64 q,i64 s,i64 t,i64 u,i64 v,i64 w,i64 x,i64 y,i64 z,i64 aa,i64 ab,i64 ac,.str ad,.sl false (L Ah ae),.bool ah] false]⟩) ?_ ?_
 ·intro a6;refine T0 [5,13] ?_;refine Cd ?_ ?_
  ·refine Bd fun a7 aT =>Fe [5] (Ao (l:=[]) (m:=[(14,130,[.ref 2 0],[.box (A3 b) false,.box (AB a) false,.box [.sl false (L An b.Zg1.Ze),.sl false (L Ar b.Zg1.Zf),.sl false (L Ac b.Zh1.Zx),.sl false (L Ag b.Zh1.Zy),.sl false (L Aj b.Zh1.Zz),.sl false (L Ai b.Zh1.Za1),.sl false (L Ap b.Zi1),.sl false (L Am b.Zj1),.sl false (L Ae b.Zk1),i64 a.Za,i64 a.Ref.Zb,i64 a.Ref.No,i64 a.Zn1,i64 a.Zb1,i64 a.Zc,i64 a.Zo1,i64 a.Zw,i64 a.To,i64 a.Code,i64 a.Zp1,i64 a.Zq1,i64 a.Zr1,i64 a.Zs1,.str a.Zt1,.sl false (L Ah a.Zu1),.bool true] false],_,_)]) trivial ⟨(wc (GU aT) [2]),trivial⟩) Ev ?_
   exact Jm (ws [2])
  ·refine Bd fun a8 aU =>Fe [5] (Ao (l:=[]) (m:=[(15,131,[.ref 2 0],[.box (A3 b) false,.box (AB a) false,.box [.sl false (L An b.Zg1.Ze),.sl false (L Ar b.Zg1.Zf),.sl false (L Ac b.Zh1.Zx),.sl false (L Ag b.Zh1.Zy),.sl false (L Aj b.Zh1.Zz),.sl false (L Ai b.Zh1.Za1),.sl false (L Ap b.Zi1),.sl false (L Am b.Zj1),.sl false (L Ae b.Zk1),i64 a.Za,i64 a.Ref.Zb,i64 a.Ref.No,i64 a.Zn1,i64 a.Zb1,i64 a.Zc,i64 a.Zo1,i64 a.Zw,i64 a.To,i64 a.Code,i64 a.Zp1,i64 a.Zq1,i64 a.Zr1,i64 a.Zs1,.str a.Zt1,.sl false (L Ah a.Zu1),.bool true] false],_,_)]) trivial ⟨(wc (I0 aU) [2]),trivial⟩) Ev ?_
   exact Jm (ws [2])
 rintro⟨c,d,e,f,g,i,j,k,n,o,p,q,s,t,u,v,w,x,y,z,aa,ab,ac,ad,ae,ah⟩;refine Ja (fun av=>⟨Aq 46 [(5,.ref 0 0)],[.box [.sl false (L An c),.sl false (L Ar d),.sl false (L Ac e),.sl false (L Ag f),.sl false (L Aj g),.sl false (L Ai i),.sl false (L Ap j),.sl false (L Am k),.sl false (L Ae n),i64 o,i64 p,i64 q,i64 s,i64 t,i64 u,i64 v,i64 w,i64 x,i64 y,i64 z,i64 aa,i64 ab,i64 ac,.str ad,.sl false (L Ah ae),.bool av] false]⟩) ?_ ?_
 ·intro a9;refine Te [5,17,18] (Ao (l:=[]) (m:=[(17,92,[.ref 0 9],[.box [.sl false (L An c),.sl false (L Ar d),.sl false (L Ac e),.sl false (L Ag f),.sl false (L Aj g),.sl false (L Ai i),.sl false (L Ap j),.sl false (L Am k),.sl false (L Ae n),i64 o,i64 p,i64 q,i64 s,i64 t,i64 u,i64 v,i64 w,i64 x,i64 y,i64 z,i64 aa,i64 ab,i64 ac,.str ad,.sl false (L Ah ae),.bool ah] false],.agg [.ref 0 12,.ref 0 13,.ref 0 14,.ref 0 15,.ref 0 16,.ref 0 17,.ref 0 18,.ref 0 19,.ref 0 20,.ref 0 21,.ref 0 22],[.box [.sl false (L An c),.sl false (L Ar d),.sl false (L Ac e),.sl false (L Ag f),.sl false (L Aj g),.sl false (L Ai i),.sl false (L Ap j),.sl false (L Am k),.sl false (L Ae n),i64 o,i64 p,i64 q,i64 s,i64 t,i64 u,i64 v,i64 w,i64 x,i64 y,i64 z,i64 aa,i64 ab,i64 ac,.str ad,.sl false (L Ah ae),.bool ah] false])]) trivial ⟨KJ,trivial⟩) Ev ?_;refine Sb ?_;refine Ul 17 ?_;refine Ug (m:=16) ?_;refine T0 [5,17,18,19] ?_;refine Sq <|Ct <|Sk <|Tn <|Sq <|Sb <|?_
  have aw:InR 0 11:=by decide
  refine Te [5,7,17,18] Aa (Ev (by simp only[go_sem,aw,aw.2];exact AP)) ?_;refine Fw [5,17,18] (fun ax=>⟨Aq 46 [(5,.ref 0 0),(17,.agg [.ref 0 12,.ref 0 13,.ref 0 14,.ref 0 15,.ref 0 16,.ref 0 17,.ref 0 18,.ref 0 19,.ref 0 20,.ref 0 21,.ref 0 22]),(18,i64 0)],[.box [.sl false (L An c),.sl false (L Ar d),.sl false (L Ac e),.sl false (L Ag f),.sl false (L Aj g),.sl false (L Ai i),.sl false (L Ap j),.sl false (L Am k),.sl false (L Ae n),i64 o,i64 p,i64 q,i64 s,i64 t,i64 u,i64 v,i64 w,i64 x,i64 y,i64 z,i64 aa,i64 ab,i64 ac,.str ad,.sl false (L Ah ae),.bool ax] false]⟩) ?_ ?_
  ·intro _;refine Sp (fun ai=>?_) fun ai=>?_
   ·exact Lf Aa (Ew1 ai) (ws [0])
   ·exact Lf Aa (Ew1 ai) (ws [0])
  intro ax;refine Bn <|Tn <|?_
  have aV:w64 1=1:=by decide
  refine Fe [5,17,18] Aa (Ew1 aV) ?_;refine Un ?_;refine Ug (m:=15) ?_;refine T0 [5,17,18,19] ?_;refine Sq <|Ct <|Sk <|Tn <|Sq <|Sb <|?_
  have ay:InR 1 11:=by decide
  refine Te [5,7,17,18] Aa (Ev (by simp only[go_sem,ay,ay.2];exact AP)) ?_;refine Fw [5,17,18] (fun az=>⟨Aq 46 [(5,.ref 0 0),(17,.agg [.ref 0 12,.ref 0 13,.ref 0 14,.ref 0 15,.ref 0 16,.ref 0 17,.ref 0 18,.ref 0 19,.ref 0 20,.ref 0 21,.ref 0 22]),(18,i64 1)],[.box [.sl false (L An c),.sl false (L Ar d),.sl false (L Ac e),.sl false (L Ag f),.sl false (L Aj g),.sl false (L Ai i),.sl false (L Ap j),.sl false (L Am k),.sl false (L Ae n),i64 o,i64 p,i64 q,i64 s,i64 t,i64 u,i64 v,i64 w,i64 x,i64 y,i64 z,i64 aa,i64 ab,i64 ac,.str ad,.sl false (L Ah ae),.bool az] false]⟩) ?_ ?_
  ·intro _;refine Sp (fun aj=>?_) fun aj=>?_
   ·exact Lf Aa (Ew1 aj) (ws [0])
   ·exact Lf Aa (Ew1 aj) (ws [0])
  intro az;refine Bn <|Tn <|?_
  have aW:w64 2=2:=by decide
  refine Fe [5,17,18] Aa (Ew1 aW) ?_;refine Un ?_;refine Ug (m:=14) ?_;refine T0 [5,17,18,19] ?_;refine Sq <|Ct <|Sk <|Tn <|Sq <|Sb <|?_
  have aA:InR 2 11:=by decide
  refine Te [5,7,17,18] Aa (Ev (by simp only[go_sem,aA,aA.2];exact AP)) ?_;refine Fw [5,17,18] (fun aB=>⟨Aq 46 [(5,.ref 0 0),(17,.agg [.ref 0 12,.ref 0 13,.ref 0 14,.ref 0 15,.ref 0 16,.ref 0 17,.ref 0 18,.ref 0 19,.ref 0 20,.ref 0 21,.ref 0 22]),(18,i64 2)],[.box [.sl false (L An c),.sl false (L Ar d),.sl false (L Ac e),.sl false (L Ag f),.sl false (L Aj g),.sl false (L Ai i),.sl false (L Ap j),.sl false (L Am k),.sl false (L Ae n),i64 o,i64 p,i64 q,i64 s,i64 t,i64 u,i64 v,i64 w,i64 x,i64 y,i64 z,i64 aa,i64 ab,i64 ac,.str ad,.sl false (L Ah ae),.bool aB] false]⟩) ?_ ?_
  ·intro _;refine Sp (fun ak=>?_) fun ak=>?_
   ·exact Lf Aa (Ew1 ak) (ws [0])
   ·exact Lf Aa (Ew1 ak) (ws [0])
  intro aB;refine Bn <|Tn <|?_
  have aX:w64 3=3:=by decide
  refine Fe [5,17,18] Aa (Ew1 aX) ?_;refine Un ?_;refine Ug (m:=13) ?_;refine T0 [5,17,18,19] ?_;refine Sq <|Ct <|Sk <|Tn <|Sq <|Sb <|?_
  have aC:InR 3 11:=by decide
  refine Te [5,7,17,18] Aa (Ev (by simp only[go_sem,aC,aC.2];exact AP)) ?_;refine Fw [5,17,18] (fun aD=>⟨Aq 46 [(5,.ref 0 0),(17,.agg [.ref 0 12,.ref 0 13,.ref 0 14,.ref 0 15,.ref 0 16,.ref 0 17,.ref 0 18,.ref 0 19,.ref 0 20,.ref 0 21,.ref 0 22]),(18,i64 3)],[.box [.sl false (L An c),.sl false (L Ar d),.sl false (L Ac e),.sl false (L Ag f),.sl false (L Aj g),.sl false (L Ai i),.sl false (L Ap j),.sl false (L Am k),.sl false (L Ae n),i64 o,i64 p,i64 q,i64 s,i64 t,i64 u,i64 v,i64 w,i64 x,i64 y,i64 z,i64 aa,i64 ab,i64 ac,.str ad,.sl false (L Ah ae),.bool aD] false]⟩) ?_ ?_
  ·intro _;refine Sp (fun al=>?_) fun al=>?_
   ·exact Lf Aa (Ew1 al) (ws [0])
   ·exact Lf Aa (Ew1 al) (ws [0])
  intro aD;refine Bn <|Tn <|?_
  have aY:w64 4=4:=by decide
  refine Fe [5,17,18] Aa (Ew1 aY) ?_;refine Un ?_;refine Ug (m:=12) ?_;refine T0 [5,17,18,19] ?_;refine Sq <|Ct <|Sk <|Tn <|Sq <|Sb <|?_
  have aE:InR 4 11:=by decide
  refine Te [5,7,17,18] Aa (Ev (by simp only[go_sem,aE,aE.2];exact AP)) ?_;refine Fw [5,17,18] (fun aF=>⟨Aq 46 [(5,.ref 0 0),(17,.agg [.ref 0 12,.ref 0 13,.ref 0 14,.ref 0 15,.ref 0 16,.ref 0 17,.ref 0 18,.ref 0 19,.ref 0 20,.ref 0 21,.ref 0 22]),(18,i64 4)],[.box [.sl false (L An c),.sl false (L Ar d),.sl false (L Ac e),.sl false (L Ag f),.sl false (L Aj g),.sl false (L Ai i),.sl false (L Ap j),.sl false (L Am k),.sl false (L Ae n),i64 o,i64 p,i64 q,i64 s,i64 t,i64 u,i64 v,i64 w,i64 x,i64 y,i64 z,i64 aa,i64 ab,i64 ac,.str ad,.sl false (L Ah ae),.bool aF] false]⟩) ?_ ?_
  ·intro _;refine Sp (fun am=>?_) fun am=>?_
   ·exact Lf Aa (Ew1 am) (ws [0])
   ·exact Lf Aa (Ew1 am) (ws [0])
  intro aF;refine Bn <|Tn <|?_
  have aZ:w64 5=5:=by decide
  refine Fe [5,17,18] Aa (Ew1 aZ) ?_;refine Un ?_;refine Ug (m:=11) ?_;refine T0 [5,17,18,19] ?_;refine Sq <|Ct <|Sk <|Tn <|Sq <|Sb <|?_
  have aG:InR 5 11:=by decide
  refine Te [5,7,17,18] Aa (Ev (by simp only[go_sem,aG,aG.2];exact AP)) ?_;refine Fw [5,17,18] (fun aH=>⟨Aq 46 [(5,.ref 0 0),(17,.agg [.ref 0 12,.ref 0 13,.ref 0 14,.ref 0 15,.ref 0 16,.ref 0 17,.ref 0 18,.ref 0 19,.ref 0 20,.ref 0 21,.ref 0 22]),(18,i64 5)],[.box [.sl false (L An c),.sl false (L Ar d),.sl false (L Ac e),.sl false (L Ag f),.sl false (L Aj g),.sl false (L Ai i),.sl false (L Ap j),.sl false (L Am k),.sl false (L Ae n),i64 o,i64 p,i64 q,i64 s,i64 t,i64 u,i64 v,i64 w,i64 x,i64 y,i64 z,i64 aa,i64 ab,i64 ac,.str ad,.sl false (L Ah ae),.bool aH] false]⟩) ?_ ?_
  ·intro _;refine Sp (fun an=>?_) fun an=>?_
   ·exact Lf Aa (Ew1 an) (ws [0])
   ·exact Lf Aa (Ew1 an) (ws [0])
  intro aH;refine Bn <|Tn <|?_
  have a0:w64 6=6:=by decide
  refine Fe [5,17,18] Aa (Ew1 a0) ?_;refine Un ?_;refine Ug (m:=10) ?_;refine T0 [5,17,18,19] ?_;refine Sq <|Ct <|Sk <|Tn <|Sq <|Sb <|?_
  have aI:InR 6 11:=by decide
  refine Te [5,7,17,18] Aa (Ev (by simp only[go_sem,aI,aI.2];exact AP)) ?_;refine Fw [5,17,18] (fun aJ=>⟨Aq 46 [(5,.ref 0 0),(17,.agg [.ref 0 12,.ref 0 13,.ref 0 14,.ref 0 15,.ref 0 16,.ref 0 17,.ref 0 18,.ref 0 19,.ref 0 20,.ref 0 21,.ref 0 22]),(18,i64 6)],[.box [.sl false (L An c),.sl false (L Ar d),.sl false (L Ac e),.sl false (L Ag f),.sl false (L Aj g),.sl false (L Ai i),.sl false (L Ap j),.sl false (L Am k),.sl false (L Ae n),i64 o,i64 p,i64 q,i64 s,i64 t,i64 u,i64 v,i64 w,i64 x,i64 y,i64 z,i64 aa,i64 ab,i64 ac,.str ad,.sl false (L Ah ae),.bool aJ] false]⟩) ?_ ?_
  ·intro _;refine Sp (fun ao=>?_) fun ao=>?_
   ·exact Lf Aa (Ew1 ao) (ws [0])
   ·exact Lf Aa (Ew1 ao) (ws [0])
  intro aJ;refine Bn <|Tn <|?_
  have a1:w64 7=7:=by decide
  refine Fe [5,17,18] Aa (Ew1 a1) ?_;refine Un ?_;refine Ug (m:=9) ?_;refine T0 [5,17,18,19] ?_;refine Sq <|Ct <|Sk <|Tn <|Sq <|Sb <|?_
  have aK:InR 7 11:=by decide
  refine Te [5,7,17,18] Aa (Ev (by simp only[go_sem,aK,aK.2];exact AP)) ?_;refine Fw [5,17,18] (fun aL=>⟨Aq 46 [(5,.ref 0 0),(17,.agg [.ref 0 12,.ref 0 13,.ref 0 14,.ref 0 15,.ref 0 16,.ref 0 17,.ref 0 18,.ref 0 19,.ref 0 20,.ref 0 21,.ref 0 22]),(18,i64 7)],[.box [.sl false (L An c),.sl false (L Ar d),.sl false (L Ac e),.sl false (L Ag f),.sl false (L Aj g),.sl false (L Ai i),.sl false (L Ap j),.sl false (L Am k),.sl false (L Ae n),i64 o,i64 p,i64 q,i64 s,i64 t,i64 u,i64 v,i64 w,i64 x,i64 y,i64 z,i64 aa,i64 ab,i64 ac,.str ad,.sl false (L Ah ae),.bool aL] false]⟩) ?_ ?_
  ·intro _;refine Sp (fun ap=>?_) fun ap=>?_
   ·exact Lf Aa (Ew1 ap) (ws [0])
   ·exact Lf Aa (Ew1 ap) (ws [0])
  intro aL;refine Bn <|Tn <|?_
  have a2:w64 8=8:=by decide
  refine Fe [5,17,18] Aa (Ew1 a2) ?_;refine Un ?_;refine Ug (m:=8) ?_;refine T0 [5,17,18,19] ?_;refine Sq <|Ct <|Sk <|Tn <|Sq <|Sb <|?_
  have aM:InR 8 11:=by decide
  refine Te [5,7,17,18] Aa (Ev (by simp only[go_sem,aM,aM.2];exact AP)) ?_;refine Fw [5,17,18] (fun aN=>⟨Aq 46 [(5,.ref 0 0),(17,.agg [.ref 0 12,.ref 0 13,.ref 0 14,.ref 0 15,.ref 0 16,.ref 0 17,.ref 0 18,.ref 0 19,.ref 0 20,.ref 0 21,.ref 0 22]),(18,i64 8)],[.box [.sl false (L An c),.sl false (L Ar d),.sl false (L Ac e),.sl false (L Ag f),.sl false (L Aj g),.sl false (L Ai i),.sl false (L Ap j),.sl false (L Am k),.sl false (L Ae n),i64 o,i64 p,i64 q,i64 s,i64 t,i64 u,i64 v,i64 w,i64 x,i64 y,i64 z,i64 aa,i64 ab,i64 ac,.str ad,.sl false (L Ah ae),.bool aN] false]⟩) ?_ ?_
  ·intro _;refine Sp (fun aq=>?_) fun aq=>?_
   ·exact Lf Aa (Ew1 aq) (ws [0])
   ·exact Lf Aa (Ew1 aq) (ws [0])
  intro aN;refine Bn <|Tn <|?_
  have a3:w64 9=9:=by decide
  refine Fe [5,17,18] Aa (Ew1 a3) ?_;refine Un ?_;refine Ug (m:=7) ?_;refine T0 [5,17,18,19] ?_;refine Sq <|Ct <|Sk <|Tn <|Sq <|Sb <|?_
  have aO:InR 9 11:=by decide
  refine Te [5,7,17,18] Aa (Ev (by simp only[go_sem,aO,aO.2];exact AP)) ?_;refine Fw [5,17,18] (fun aP=>⟨Aq 46 [(5,.ref 0 0),(17,.agg [.ref 0 12,.ref 0 13,.ref 0 14,.ref 0 15,.ref 0 16,.ref 0 17,.ref 0 18,.ref 0 19,.ref 0 20,.ref 0 21,.ref 0 22]),(18,i64 9)],[.box [.sl false (L An c),.sl false (L Ar d),.sl false (L Ac e),.sl false (L Ag f),.sl false (L Aj g),.sl false (L Ai i),.sl false (L Ap j),.sl false (L Am k),.sl false (L Ae n),i64 o,i64 p,i64 q,i64 s,i64 t,i64 u,i64 v,i64 w,i64 x,i64 y,i64 z,i64 aa,i64 ab,i64 ac,.str ad,.sl false (L Ah ae),.bool aP] false]⟩) ?_ ?_
  ·intro _;refine Sp (fun ar=>?_) fun ar=>?_
   ·exact Lf Aa (Ew1 ar) (ws [0])
   ·exact Lf Aa (Ew1 ar) (ws [0])
  intro aP;refine Bn <|Tn <|?_
  have a4:w64 10=10:=by decide
  refine Fe [5,17,18] Aa (Ew1 a4) ?_;refine Un ?_;refine Ug (m:=6) ?_;refine T0 [5,17,18,19] ?_;refine Sq <|Ct <|Sk <|Tn <|Sq <|Sb <|?_
  have aQ:InR 10 11:=by decide
  refine Te [5,7,17,18] Aa (Ev (by simp only[go_sem,aQ,aQ.2];exact AP)) ?_;refine Fw [5,17,18] (fun aR=>⟨Aq 46 [(5,.ref 0 0),(17,.agg [.ref 0 12,.ref 0 13,.ref 0 14,.ref 0 15,.ref 0 16,.ref 0 17,.ref 0 18,.ref 0 19,.ref 0 20,.ref 0 21,.ref 0 22]),(18,i64 10)],[.box [.sl false (L An c),.sl false (L Ar d),.sl false (L Ac e),.sl false (L Ag f),.sl false (L Aj g),.sl false (L Ai i),.sl false (L Ap j),.sl false (L Am k),.sl false (L Ae n),i64 o,i64 p,i64 q,i64 s,i64 t,i64 u,i64 v,i64 w,i64 x,i64 y,i64 z,i64 aa,i64 ab,i64 ac,.str ad,.sl false (L Ah ae),.bool aR] false]⟩) ?_ ?_
  ·intro _;refine Sp (fun au=>?_) fun au=>?_
   ·exact Lf Aa (Ew1 au) (ws [0])
   ·exact Lf Aa (Ew1 au) (ws [0])
  intro aR;refine Bn <|Tn <|?_
  have a5:w64 11=11:=by decide
  refine Fe [5,17,18] Aa (Ew1 a5) ?_;refine Un ?_;refine Ug (m:=5) ?_;refine T0 [5,17,18,19] ?_;exact Sq <|Cf <|Sx <|Tx <|Ux <|Bx <|Jm (ws [0])
 intro av;refine Tw [4] (fun aS=>⟨Aq 46 [(4,.bool aS)],[]⟩) ?_ ?_
 ·intro _;refine Sp (fun af=>?_) fun af=>?_
  ·refine Sp (fun ag=>?_) fun ag=>?_
   ·exact Lf Aa (Ew2 af ag) (ws [] (by simp only[go_sem,af,ag]) (by simp only[go_sem,af,ag]))
   ·exact Lf Aa (Ew2 af ag) (ws [] (by simp only[go_sem,af,ag]) (by simp only[go_sem,af,ag]))
  ·exact Lf Aa (Ew1 af) (ws [] (by simp only[go_sem,af]) (by simp only[go_sem,af]))
 intro aS;exact Sr <|Rr
theorem QS{b c r}(h:Ky b c=some r):Con B 63 [.agg (A3 b),.agg (AB c)] [] (fun r' σ'=>r'=i64 r∧σ'=[]):=by
 refine Cw 19 [.tmp 4] Tryz.func63 (fun F hE=>?_) h;unfold Ky;refine T0 [2,3] ?_;refine Sq <|Bd fun i f =>Te [2,3,4] (o1 6 (DY f)) Ev ?_
 refine T0 [2,3,4,8] ?_;refine Cd ?_ ?_
 ·refine T0 [4] ?_;exact Sr <|Tr <|Rr
 ·refine Sk <|Tn <|Sq <|?_
  refine Tw [18] (fun d=>⟨Aq 19 [(18,.bool d)],[]⟩) ?_ ?_
  ·intro _;refine Bd fun j e=>?_
   refine Sp (fun a=>?_) fun a=>?_
   ·exact Lf (o1 11 (GP e)) (Ew1 a) (ws [])
   ·refine Bd fun k g=>?_
    exact Lf (o2 11 (GP e) 16 (Ps g)) (Ew1 a) (ws [])
  intro d;refine Cd ?_ ?_
  ·refine T0 [4] ?_;exact Sr <|Tr <|Rr
  ·refine Sk <|Tn <|T0 [4] ?_
   exact Sr <|Rr
theorem Nr{c d a r}(h:HN c d a=some r):Con B 15 [u64 c,.sl false (L cU8 d),.agg [u64 a.C,u64 a.S]] [] (fun r' σ'=>r'=.bool r∧σ'=[]):=by
 refine Cw 43 [.tmp 6] Tryz.func15 (fun F hE=>?_) h;unfold HN;refine T0 [0,1,5] ?_;refine Sq ?_;refine Tw [0,1,5,25] (fun g=>⟨Aq 43 [(0,u64 c),(1,.sl false (L cU8 d)),(5,.ref 0 0),(25,.bool g)],[.box [u64 a.C,u64 a.S] false]⟩) ?_ ?_
 ·intro _;refine Sp (fun b=>?_) fun b=>?_
  ·exact Lf Aa (Ew1 b) (ws [0])
  ·refine Sp (fun e=>?_) fun e=>?_
   ·exact Lf Aa (Ew2 b e) (ws [0])
   ·refine Sp (fun f=>?_) fun f=>?_
    ·exact Lf Aa (Ew3 b e f) (ws [0])
    ·refine Bd fun v n=>?_
     exact Lf (o1 23 (Jp n)) (Ew3 b e f) (ws [0])
 intro g;refine Cd ?_ ?_
 ·refine T0 [6] ?_;exact Sr <|Tr <|Rr
 ·refine Sk <|Tn <|Bd fun o p =>Bd fun i q =>Bd fun j s =>Bd fun k t =>?_
  intro h;refine Th hE KE [[],[],[1],[0,1,2],[],[],[5],[5,6],[0,1,2,3,4,5,6,7],[0,1,2,3,4,5,6,7,8],[0,1,2,3,4,5,6,7,8,9]] (by kernel_rfl) [(),(),(),(),(),(),(),()] [(),(),()] (by kernel_rfl) [(5,0),(27,0),(31,0)] [(26,0)] [5,27,31] [0,1,5,7,27,31] (by kernel_rfl) (fr':=[(0,u64 c),(1,.sl false (L cU8 d)),(5,.ref 0 0),(7,u64 k.1),(27,.ref 0 1),(31,.ref 0 0)]) (σ':=[.box [u64 a.C,u64 a.S] false,.box [u64 k.2] false]) ⟨_,_,(Ao (l:=[(29,_,_,u64 i),(34,_,_,u64 j)]) (m:=[(26,48,[u64 (2305843009213690799:UInt64)],[.box [u64 a.C,u64 a.S] false],_,_),(35,82,[u64 i,u64 j,.ref 1 0],[.box [u64 a.C,u64 a.S] false,.box [u64 o] false],_,_)]) ⟨Fc  q,Fc  s,trivial⟩ ⟨(wc (FW p) []),(wc (DB t) [1]),trivial⟩),(by repeat' (first|exact trivial|(refine And.intro ?_ ?_)|exact fun _=>rfl|exact fun h=>absurd h (by decide))),_,_,(by simp only[go_sem];exact AP),(by exact⟨rfl,rfl,rfl,trivial⟩),(by simp only[go_sem];exact AP)⟩ ?_;revert h;refine Bd fun w u =>De [[],[],[],[0,1,2],[],[4],[0,1,2,3,4,5],[0,1,2,3,4,5,6]] [6] (o1 39 (Gl u)) Ev ?_
  exact Sr <|Rr
theorem NC{f g r}(h:J1 f g=some r):Con B 25 [.agg (A3 f),.agg (Ad g)] [] (fun r' σ'=>r'=i64 r∧σ'=[]):=by
 refine Cw 82 [.tmp 4] Tryz.func25 (fun F hE=>?_) h;unfold J1;refine T0 [2,3] ?_;refine Sq <|Bd fun p k =>Te [2,3,5] (o1 10 (DY k)) Ev ?_
 refine T0 [2,3,5,12] ?_;refine Cd ?_ ?_
 ·refine T0 [4] ?_;exact Sr <|Tr <|Rr
 ·refine Sk <|Tn <|Sq <|?_
  refine Tw [2,3,54] (fun j=>⟨Aq 82 [(2,.ref 0 0),(3,.ref 1 0),(54,.bool j)],[.box (A3 f) false,.box (Ad g) false]⟩) ?_ ?_
  ·intro _;refine Sp (fun a=>?_) fun a=>?_
   ·exact Lf Aa (Ew1 a) (ws [0,1])
   ·refine Sp (fun b=>?_) fun b=>?_
    ·exact Lf Aa (Ew2 a b) (ws [0,1])
    ·refine Sp (fun c=>?_) fun c=>?_
     ·exact Lf Aa (Ew3 a b c) (ws [0,1])
     ·refine Sp (fun d=>?_) fun d=>?_
      ·exact Lf Aa (Ew4 a b c d) (ws [0,1])
      ·refine Sp (fun e=>?_) fun e=>?_
       ·exact Lf Aa (Ew5 a b c d e) (ws [0,1])
       ·refine Sp (fun i=>?_) fun i=>?_
        ·exact Lf Aa (Ev (by simp only[go_sem,a,b,c,d,e,i];exact AP)) (ws [0,1])
        ·exact Lf Aa (Ev (by simp only[go_sem,a,b,c,d,e,i];exact AP)) (ws [0,1])
  intro j;refine Cd ?_ ?_
  ·refine T0 [4] ?_;exact Sr <|Tr <|Rr
  ·refine Sk <|Tn <|Sq <|Bd fun q l =>Te [2,3,6] (o1 58 (QS l)) Ev ?_
   refine T0 [2,3,6,60] ?_;refine Cd ?_ ?_
   ·refine T0 [4] ?_;exact Sr <|Tr <|Rr
   ·refine Sk <|Tn <|Bd fun s m =>Te [2,3,7,8] (o1 64 (Fy m)) Ev ?_
    refine Sq <|T0 [2,3,7,8,68] ?_
    refine Cd ?_ ?_
    ·refine T0 [4] ?_;exact Sr <|Tr <|Rr
    ·refine Sk <|Tn <|Sq <|Ck fun n =>Bd fun t o =>De [[],[0],[],[2],[0,1,2,3],[0,1,2,3,4],[0,1,2,3,4,5],[],[],[8],[0,1,2,3,4,5,6,7,8,9],[0,1,2,3,4,5,6,7,8,9,10]] [81] (o1 80 (Nr o)) (Ew1 (qR n)) ?_
     refine Cd ?_ ?_
     ·refine T0 [4] ?_;exact Sr <|Tr <|Rr
     ·refine Sk <|Tn <|T0 [4] ?_
      exact Sr <|Rr
theorem GM{a r}(h:El a=some r):Con B 132 [i64 a] [] (fun r' σ'=>r'=.bool r∧σ'=[]):=by
 refine Cw 6 [.tmp 2] Tryz.func132 (fun F hE=>?_) h;unfold El;refine T0 [0] ?_;refine T0 [2] ?_;exact Sr <|Rr
theorem FV{a b r}(h:C8 a b=some r):Con B 103 [i64 a,i64 b] [] (fun r' σ'=>r'=i64 r∧σ'=[]):=by
 refine Cw 20 [.tmp 4] Tryz.func103 (fun F hE=>?_) h;unfold C8;refine T0 [0,1] ?_;refine Bd fun e c =>Te [0,1,5] (o1 8 (GM c)) Ev ?_
 refine Bd fun f d =>Te [0,1,5,6] (o1 10 (GM d)) Ev ?_
 refine Sq <|T0 [0,1,6,11] ?_
 refine Cd ?_ ?_
 ·refine Sq <|T0 [12] ?_
  refine Cd ?_ ?_
  ·refine T0 [4] ?_;exact Sr <|Tr <|Tr <|Rr
  ·refine Sk <|Tn <|T0 [4] ?_
   exact Sr <|Tr <|Rr
 ·refine Sk <|Tn <|Sq <|T0 [0,1,13] ?_
  refine Cd ?_ ?_
  ·refine T0 [4] ?_;exact Sr <|Tr <|Rr
  ·refine Sk <|Tn <|Sq <|T0 [0,1,16] ?_
   refine Cd ?_ ?_
   ·refine T0 [4] ?_;exact Sr <|Tr <|Rr
   ·refine Sk <|Tn <|Sq <|T0 [19] ?_
    refine Cd ?_ ?_
    ·refine T0 [4] ?_;exact Sr <|Tr <|Rr
    ·refine Sk <|Tn <|T0 [4] ?_
     exact Sr <|Rr
theorem JI{a:List UInt8}{b:List UInt8}{r:Int}(h:FN a b=some r):Con B 133 [.sl false (L cU8 a),.sl false (L cU8 b)] [] (fun r' σ'=>r'=i64 r∧σ'=[]) :=
 Up Tryz.func133 (by decide +kernel) rfl (by kernel_rfl) (by kernel_rfl) h
theorem Lv{a b r}(h:E0 a b=some r):Con B 104 [.sl false (L cU8 a),.sl false (L cU8 b)] [] (fun r' σ'=>r'=i64 r∧σ'=[]):=by
 refine Cw 8 [.tmp 4] Tryz.func104 (fun F hE=>?_) h;unfold E0;refine T0 [0,1] ?_;refine Bd fun d c =>Te [4] (o1 7 (JI c)) Ev ?_
 exact Sr <|Rr
theorem Gd{f:AoG→AoG→Option (Int)}{s1_7111:List AoG}{s2_7112:List AoG}{b:AoG→AoG→Option (Int)}(h64:∀{a0:AoG} {a1:AoG} {r:Int},f a0 a1=some r→Con B 64 [.agg [i64 a0.Za,i64 a0.N,.sl false (L cU8 a0.B),.sl false (L cApi_Value a0.L)],.agg [i64 a1.Za,i64 a1.N,.sl false (L cU8 a1.B),.sl false (L cApi_Value a1.L)]] [] (fun r' σ'=>r'=i64 r∧σ'=[])){a:Nat}(i:∀{a0:AoG} {a1:AoG} {r:Int},b a0 a1=some r→Con B a [.agg [i64 a0.Za,i64 a0.N,.sl false (L cU8 a0.B),.sl false (L cApi_Value a0.L)],.agg [i64 a1.Za,i64 a1.N,.sl false (L cU8 a1.B),.sl false (L cApi_Value a1.L)]] [] (fun r' σ'=>r'=i64 r∧σ'=[])){r:Int}(h:BD f s1_7111 s2_7112 b=some r):Con B 105 [.sl false (L cApi_Value s1_7111),.sl false (L cApi_Value s2_7112),.fn a []] [] (fun r' σ'=>r'=i64 r∧σ'=[]):=by
 refine Kl (N:=39) (rs:=[.tmp 6]) ok Tryz.func105 rfl (by decide +kernel) rfl rfl (Apm rfl) (fun F=>?_);have hE:=ok.env F;unfold BD at h;show Run (B.env F) 0 _ ⟨Aq 39 [(0,.sl false (L cApi_Value s1_7111)),(1,.sl false (L cApi_Value s2_7112)),(2,.fn a [])],[]⟩ _;refine FT ?_;revert h;refine T0 [0,1,2] ?_;refine Jo (fun _=>⟨Aq 39 [(0,.sl false (L cApi_Value s1_7111)),(1,.sl false (L cApi_Value s2_7112))],[]⟩) ?_ ?_
 ·intro ae g;refine T0 [0,1,2,11,12,13] ?_;refine Sb ?_;refine Lo (fun c=>⟨Aq 39 [(0,.sl false (L cApi_Value s1_7111)),(1,.sl false (L cApi_Value s2_7112)),(2,.fn a []),(11,.sl false (L cApi_Value s1_7111)),(12,i64 (s1_7111.length:Int)),(13,i64 c)],[]⟩) (ws []) ?_;rintro c af j d e;show Ba s1_7111 s2_7112 b c=some j→_;unfold Ba;refine T0 [0,1,2,11,12,13,14] ?_;refine Sq <|Cd ?_ ?_
  ·refine Sk <|Tn <|Sq <|Sb <|Ck fun k =>Lt fun l m =>Lt fun n o =>Lt fun p q =>Lt fun s t =>Te (σ':=[.box [i64 l,i64 n,.sl false (L cU8 p),.sl false (L cApi_Value s)] false]) [0,1,2,7,8,11,12,13] Aa (Ew5 (qR k) m o q t) ?_
   refine Sq <|T0 [0,1,2,7,8,11,12,13,21] ?_
   refine Cd ?_ ?_
   ·refine T0 [6] ?_;exact Sr <|Tr <|Br <|Tr <|Lr e d <|Br <|Jr g <|Rr
   ·refine Sk <|Tn <|Ck fun u =>Lt fun v w =>Lt fun x y =>Lt fun z aa =>Lt fun ab ac =>Te (σ':=[_,.box [i64 v,i64 x,.sl false (L cU8 z),.sl false (L cApi_Value ab)] false]) [0,1,2,8,9,11,12,13] Aa (Ew5 (qR u) w y aa ac) ?_
    refine Bd fun ag ad =>Te [0,1,2,10,11,12,13] (o1 29 (i ad)) Ev ?_
    refine T0 [0,1,2,10,11,12,13,31] ?_;refine Cd ?_ ?_
    ·refine T0 [6] ?_;exact Sr <|Br <|Tr <|Lr e d <|Br <|Jr g <|Rr
    ·refine Sk <|Bn <|Tn <|F0 [0,1,2,11,12,13] ?_
     exact Ln (ws [])
  ·refine Sx <|Tx <|Lx e d <|Bx <|?_
   exact Jn ((ws (l':=[(0,.sl false (L cApi_Value s1_7111)),(1,.sl false (L cApi_Value s2_7112))]) (σ':=[]) []).trans (ws []))
 intro _;refine Sq <|T0 [38] ?_
 refine Cd ?_ ?_
 ·refine T0 [6] ?_;exact Sr <|Tr <|Rr
 ·refine Sk <|Tn <|T0 [6] ?_
  exact Sr <|Rr
theorem J6{rec_:AoG→AoG→Option (Int)}(hrec:∀{a:AoG} {b:AoG} {r:Int},rec_ a b=some r→Con B 64 [.agg [i64 a.Za,i64 a.N,.sl false (L cU8 a.B),.sl false (L cApi_Value a.L)],.agg [i64 b.Za,i64 b.N,.sl false (L cU8 b.B),.sl false (L cApi_Value b.L)]] [] (fun r' σ'=>r'=i64 r∧σ'=[])){a:AoG}{b:AoG}{r:Int}(h:Dx rec_ a b=some r):Con B 64 [.agg [i64 a.Za,i64 a.N,.sl false (L cU8 a.B),.sl false (L cApi_Value a.L)],.agg [i64 b.Za,i64 b.N,.sl false (L cU8 b.B),.sl false (L cApi_Value b.L)]] [] (fun r' σ'=>r'=i64 r∧σ'=[]):=by
 refine Kl (N:=37) (rs:=[.tmp 4]) ok Tryz.func64 rfl (by decide +kernel) rfl rfl (Apm rfl) (fun F=>?_);have hE:=ok.env F;unfold Dx at h;show Run (B.env F) 0 _ ⟨Aq 37 [(0,.agg [i64 a.Za,i64 a.N,.sl false (L cU8 a.B),.sl false (L cApi_Value a.L)]),(1,.agg [i64 b.Za,i64 b.N,.sl false (L cU8 b.B),.sl false (L cApi_Value b.L)])],[]⟩ _;refine FT ?_;revert h;refine T0 [2,3] ?_;refine Sq <|Bd fun g c =>Te [2,3,5] (o1 10 (FV c)) Ev ?_
 refine T0 [2,3,5,12] ?_;refine Cd ?_ ?_
 ·refine T0 [4] ?_;exact Sr <|Tr <|Rr
 ·refine Sk <|Tn <|Sq <|T0 [2,3,15] ?_
  refine Sb <|T0 [2,3,15,16] ?_
  refine Cd ?_ ?_
  ·refine Bd fun i d =>Te [4] (o1 22 (FV d)) Ev ?_
   exact Sr <|Br <|Tr <|Rr
  ·refine T0 [2,3,15,23] ?_;refine Cd ?_ ?_
   ·refine Bd fun j e =>Te [4] (o1 29 (Lv e)) Ev ?_
    exact Sr <|Br <|Tr <|Rr
   ·refine T0 [2,3,30] ?_;refine Cd ?_ ?_
    ·refine Bd fun k f =>Te [4] (o1 36 (Gd (fun h=>hrec h) (fun h=>hrec h) f)) Ev ?_
     exact Sr <|Br <|Tr <|Rr
    ·refine Sk <|Bn <|Tn <|T0 [4] ?_
     exact Sr <|Rr
theorem Jy(n:Nat):∀{a:AoG} {b:AoG} {r:Int},Dj n a b=some r→Con B 64 [.agg [i64 a.Za,i64 a.N,.sl false (L cU8 a.B),.sl false (L cApi_Value a.L)],.agg [i64 b.Za,i64 b.N,.sl false (L cU8 b.B),.sl false (L cApi_Value b.L)]] [] (fun r' σ'=>r'=i64 r∧σ'=[]):=by
 induction n with
 |zero=>intro a b r h;cases h
 |succ n ih=>intro a b r h;exact J6 ih h
theorem C6{a:AoG}{b:AoG}{r:Int}(h:F2 a b=some r):Con B 64 [.agg [i64 a.Za,i64 a.N,.sl false (L cU8 a.B),.sl false (L cApi_Value a.L)],.agg [i64 b.Za,i64 b.N,.sl false (L cU8 b.B),.sl false (L cApi_Value b.L)]] [] (fun r' σ'=>r'=i64 r∧σ'=[]):=Jy _ h
end Go.Proofs.YtioapcamanmoiaaGreatDoor
