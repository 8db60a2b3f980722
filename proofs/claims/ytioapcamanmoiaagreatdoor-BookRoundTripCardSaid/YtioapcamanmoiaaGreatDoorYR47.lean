/-
  Part 47.
-/
import Derived.Test.YtioapcamanmoiaaGreatDoorRows
import Derived.Test.YtioapcamanmoiaaGreatDoorYR26
import Derived.Test.YtioapcamanmoiaaGreatDoorYR32
import Derived.Test.YtioapcamanmoiaaGreatDoorYR42
import Derived.Test.YtioapcamanmoiaaGreatDoorYR46
import Derived.WalkKit
import Derived.ProofKit
import Derived.OpenShut
import Derived.JoinedCond
import Derived.LaidMore
import Derived.Lay
import Derived.SevenTiedAt
import Derived.Stop.Joined
import Derived.Lib.Tables
import Derived.KernelRfl
namespace Go.Proofs.YtioapcamanmoiaaGreatDoor
open Go.Rv Go.ChangeShapes Go.WideShapes Go.ChangeAt Go.RowKit
set_option linter.unusedVariables false
set_option linter.unusedSimpArgs false
theorem VW(H:Type)(l:List (DataW H)):(l.map (Rows.uptoBulk (H:=H))).sum=Rows.uptoBulkAll l:=by
 induction l with
 |nil=>rfl
 |cons x l ih=>simp only[Ap1,List.sum_cons,ih,Rows.uptoBulkAll]
theorem E8:BulkOk (fun H=>Rows.uptoBulk (H:=H)) where
 one:=fun H d=>by
  cases d with
  |lit l=>cases l<;>simp[Rows.uptoBulk]
  |_=>simp[Rows.uptoBulk]
 str:=fun H l=>by simp[Rows.uptoBulk]
 slice:=fun H e s=>by rw[VW];simp only[Rows.uptoBulk];omega
 agg:=fun H p=>by rw[VW];simp only[Rows.uptoBulk];omega
theorem Xu{P:Program}{B:∀H:Type,DataW H→Nat}{t:TypeId}{α:Type}{c:α→List AV}{sz sz':α→Nat}{ok ok':α→Prop}(h:Opens P B t c sz ok)(h1:∀x,sz' x≤sz x)(h2:∀x,ok x→ok' x):Opens P B t c sz' ok':=by
 intro H enc W pr hpr fuel cs d ps hd;obtain⟨x,e1,e2,e3,e4⟩:=h H enc W pr hpr fuel cs d ps hd;exact⟨x,e1,Aqn (h1 x) e2,h2 x e3,e4⟩
theorem Md{α:Type}{c:α→List AV}{k:Nat}(hk:∀x,(c x).length=k):∀(l:List α) (j:Nat) (y:AV),(l.flatMap c)[j]?=some y→∃i r x,j=i*k+r∧r<k∧l[i]?=some x∧(c x)[r]?=some y:=by
  intro l
  induction l with
  |nil=>intro j y h;simp at h
  | cons a l ih=>
    intro j y h;rw[List.flatMap_cons]at h;by_cases hj:j<k
    · rw[AoU (by rw[hk];exact hj)]at h
      exact⟨0,j,a,by omega,hj,rfl,h⟩
    · rw[AoS (by rw[hk];omega),hk]at h
      obtain⟨i,r,x,e1,e2,e3,e4⟩:=ih _ _ h;exact⟨i+1,r,x,by rw[Apd,Apw];omega,e2,by simpa using e3,e4⟩
theorem Vn:Tryz.prog.cellsOf 52=53:=by kernel_rfl
theorem Bi:Tryz.prog.cellsOf 3=1:=by kernel_rfl
theorem E0:Opens Tryz.prog (fun H=>Rows.uptoBulk (H:=H)) 3 JD (fun _=>1) I64:=ZK E8 Tryz.underlying3
theorem N7:Tryz.prog.cellsOf 42=32:=by kernel_rfl
theorem Qe:Tryz.prog.cellsOf 5=1:=by kernel_rfl
theorem Adx:Opens Tryz.prog (fun H=>Rows.uptoBulk (H:=H)) 5 cU8 (fun _=>1) (fun s=>True):=Adf E8 Tryz.underlying5
theorem Agt:Opens Tryz.prog (fun H=>Rows.uptoBulk (H:=H)) 42 (fun a:Arr UInt8 32=>C1 u8 a.l) (fun _=>0) (fun s=>True):=Xu (Yn E8 Tryz.underlying42 N7 Qe Adx) (fun _=>Apx _) (fun _ _=>trivial)
theorem Ob:Tryz.prog.cellsOf 47=16:=by kernel_rfl
theorem NC:Tryz.prog.cellsOf 44=2:=by kernel_rfl
def VP(s:Aoz):Prop:=I64 s.Zb∧I64 s.No∧True
theorem AfE:Opens Tryz.prog (fun H=>Rows.uptoBulk (H:=H)) 44 V8 (fun _=>0) (fun s=>VP s) :=
 EW E8 Tryz.underlying44 (n:=2) NC
  (Az (k:=1) rfl Bi (fun _=>rfl) E0 (Az (k:=1) rfl Bi (fun _=>rfl) E0 FX))
  (fun x=>(⟨x.1,x.2.1⟩:Aoz)) (fun _=>rfl) (fun _=>rfl) (fun x=>Apx _) (fun x h=>h)
theorem WM:Tryz.prog.cellsOf 9=1:=by kernel_rfl
theorem AhO:Opens Tryz.prog (fun H=>Rows.uptoBulk (H:=H)) 9 Aks (fun l=>l.length+1) (fun s=>s.length≤maxLen):=ZJ E8 Tryz.underlying9
theorem Tl:Tryz.prog.cellsOf 45=1:=by kernel_rfl
theorem Lw:Tryz.prog.cellsOf 182=3:=by kernel_rfl
theorem Xh:Tryz.prog.cellsOf 4=1:=by kernel_rfl
theorem Akq:Opens Tryz.prog (fun H=>Rows.uptoBulk (H:=H)) 4 AbQ (fun _=>1) (fun s=>True):=X7 E8 Tryz.underlying4
def K1(s:AoA):Prop:=I64 s.Za∧I64 s.Zl1∧True∧True
theorem Adr:Opens Tryz.prog (fun H=>Rows.uptoBulk (H:=H)) 182 Ad (fun _=>0) (fun s=>K1 s) :=
 EW E8 Tryz.underlying182 (n:=3) Lw
  (Az (k:=1) rfl Bi (fun _=>rfl) E0 (Az (k:=1) rfl Bi (fun _=>rfl) E0 (Az (k:=1) rfl Xh (fun _=>rfl) Akq FX)))
  (fun x=>(⟨x.1,x.2.1,x.2.2.1⟩:AoA)) (fun _=>rfl) (fun _=>rfl) (fun x=>Apx _) (fun x h=>h)
theorem Af8:Opens Tryz.prog (fun H=>Rows.uptoBulk (H:=H)) 45 (cSl Ad) (szL (fun _=>0)) (fun s=>(s.length≤maxLen∧∀t∈s,K1 t)):=Nx E8 Tryz.underlying45 Lw (fun _=>rfl) Adr
def RB(s:AoB):Prop:=I64 s.Za∧VP s.Ref∧I64 s.Zn1∧I64 s.Zb1∧I64 s.Zc∧I64 s.Zo1∧I64 s.Zw∧I64 s.To∧I64 s.Code∧I64 s.Zp1∧I64 s.Zq1∧I64 s.Zr1∧I64 s.Zs1∧s.Zt1.length≤maxLen∧(s.Zu1.length≤maxLen∧∀t∈s.Zu1,K1 t)∧True
theorem Ae6:Opens Tryz.prog (fun H=>Rows.uptoBulk (H:=H)) 47 MK (fun _=>0) (fun s=>RB s) :=
 EW E8 Tryz.underlying47 (n:=16) Ob
  (Az (k:=1) rfl Bi (fun _=>rfl) E0 (Az (k:=2) rfl NC (fun _=>rfl) AfE (Az (k:=1) rfl Bi (fun _=>rfl) E0 (Az (k:=1) rfl Bi (fun _=>rfl) E0 (Az (k:=1) rfl Bi (fun _=>rfl) E0 (Az (k:=1) rfl Bi (fun _=>rfl) E0 (Az (k:=1) rfl Bi (fun _=>rfl) E0 (Az (k:=1) rfl Bi (fun _=>rfl) E0 (Az (k:=1) rfl Bi (fun _=>rfl) E0 (Az (k:=1) rfl Bi (fun _=>rfl) E0 (Az (k:=1) rfl Bi (fun _=>rfl) E0 (Az (k:=1) rfl Bi (fun _=>rfl) E0 (Az (k:=1) rfl Bi (fun _=>rfl) E0 (Az (k:=1) rfl WM (fun _=>rfl) AhO (Az (k:=1) rfl Tl (fun _=>rfl) Af8 FX)))))))))))))))
  (fun x=>(⟨x.1,x.2.1,x.2.2.1,x.2.2.2.1,x.2.2.2.2.1,x.2.2.2.2.2.1,x.2.2.2.2.2.2.1,x.2.2.2.2.2.2.2.1,x.2.2.2.2.2.2.2.2.1,x.2.2.2.2.2.2.2.2.2.1,x.2.2.2.2.2.2.2.2.2.2.1,x.2.2.2.2.2.2.2.2.2.2.2.1,x.2.2.2.2.2.2.2.2.2.2.2.2.1,x.2.2.2.2.2.2.2.2.2.2.2.2.2.1,x.2.2.2.2.2.2.2.2.2.2.2.2.2.2.1⟩:AoB)) (fun _=>rfl) (fun _=>rfl) (fun x=>Apx _) (fun x h=>h)
theorem OL:Tryz.prog.cellsOf 50=2:=by kernel_rfl
theorem O8:Tryz.prog.cellsOf 48=1:=by kernel_rfl
theorem YD:Opens Tryz.prog (fun H=>Rows.uptoBulk (H:=H)) 48 R3 (fun _=>1) (fun s=>True):=ZB E8 Tryz.underlying48
def VB(s:AoC):Prop:=True∧True∧True
theorem Ae0:Opens Tryz.prog (fun H=>Rows.uptoBulk (H:=H)) 50 Qr (fun _=>0) (fun s=>VB s) :=
 EW E8 Tryz.underlying50 (n:=2) OL
  (Az (k:=1) rfl O8 (fun _=>rfl) YD (Az (k:=1) rfl O8 (fun _=>rfl) YD FX))
  (fun x=>(⟨x.1,x.2.1⟩:AoC)) (fun _=>rfl) (fun _=>rfl) (fun x=>Apx _) (fun x h=>h)
def Hu(s:AoD):Prop:=I64 s.Zb∧I64 s.No∧True∧I64 s.Zw1∧RB s.Zx1∧VB s.Sig∧True
theorem AiF(x:AoD):(Ak x).length=53:=by
 simp only[Ak,Ao7,Ape,Apr,DC,Arr.h]
theorem YC:Opens Tryz.prog (fun H=>Rows.uptoBulk (H:=H)) 52 Ak (fun _=>0) (fun s=>Hu s) :=
 EW E8 Tryz.underlying52 (n:=53) Vn
  (Az (k:=1) rfl Bi (fun _=>rfl) E0 (Az (k:=1) rfl Bi (fun _=>rfl) E0 (Az (k:=32) rfl N7 (fun a=>by simp[DC,a.h]) Agt (Az (k:=1) rfl Bi (fun _=>rfl) E0 (Az (k:=16) rfl Ob (fun _=>rfl) Ae6 (Az (k:=2) rfl OL (fun _=>rfl) Ae0 FX))))))
  (fun x=>(⟨x.1,x.2.1,x.2.2.1,x.2.2.2.1,x.2.2.2.2.1,x.2.2.2.2.2.1⟩:AoD)) (fun x=>by simp only[Ak,MK,Qr,Ao5,ApC,Ap8,Aqf,JD,R3,cU8,Aks,AbQ,cSl]) AiF (fun x=>Apx _) (fun x h=>h)
theorem Ae2:Opens Tryz.prog (fun H=>Rows.uptoBulk (H:=H)) 63 (cSl cU8) (szL (fun _=>1)) (fun s=>(s.length≤maxLen∧∀t∈s,True)):=Nx E8 Tryz.underlying63 Qe (fun _=>rfl) Adx
theorem own:ownKnob Tryz.prog.godebug=none:=by kernel_rfl
theorem Ad6:laidOutB Tryz.prog=true:=by kernel_rfl
abbrev Ut:List (String×DataW Unit):=[("wagonpool/digest.k", Rows.laid_wagonpool_digest_k)]
def kz:List Int:=glob3.l.map fun x=>(x.toNat:Int)
theorem Aic:kz.length=64:=by simp[kz,glob3.h]
theorem AfF:(Rows.laid_wagonpool_digest_k:DataW Unit)=.agg (kz.map fun n=>.lit (.int .u32 n)):=by kernel_rfl
theorem AdV{W:World}(h:laidMetH Tryz.prog Ut W)(r:Nat)(hr:r<64):W.cell? ⟨3,r,none⟩=some (.int .u32 (kz.getD r 0)):=by
 rw[MakeChecks.laidMetH_plain _ _ _ (by kernel_rfl)]at h;obtain⟨ps,⟨g,t,cs,fuel,p,q,hg,ht,hv,hd,_,_⟩,_,_⟩:=h;obtain rfl:=AoR ((show Tryz.prog.globalNamed "wagonpool/digest.k" = some 3 by kernel_rfl).symm.trans hg);obtain rfl:=AoR ((show(Tryz.prog.globals[3]?).map (·.type)=some 232 by kernel_rfl).symm.trans ht);rw[AfF]at hd;obtain⟨xs,m,_,ex,_,hl,hel⟩:=DataW.trod_array Tryz.underlying232 hd;have c5:Tryz.prog.cellsOf 220=1:=by kernel_rfl
 have hE:=hel r hr;rw[c5,AqK,AoN (by omega)]at hE;obtain⟨z,e1,e2,_⟩:=DataW.trod_int Tryz.underlying220 hE;have hlen:=Aic;have e3:(xs.map (·.1))=kz.map fun n=>.lit (.int .u32 n):=(DataW.agg.inj (Prod.mk.inj ex).1).symm
 have e4:(xs.map (·.1))[r]?=(kz.map fun n=>(DataW.lit (.int .u32 n):DataW Unit))[r]?:=by rw[e3]
 rw[Ao4,Ao4,AoN (by omega:r<xs.length),AoN (by omega:r<kz.length),e2]at e4
 have hz:z=kz.getD r 0:=by
  simp only[App,AoM,DataW.lit.injEq,Lit.int.injEq,true_and]at e4;rw[e4,List.getD,AoN (by omega:r<kz.length)];rfl
 rw[World.var?_cell hg hv r,←hz]
 have:cs.toList[r]?=some (.int .u32 z):=by
  have h0:((cs.toList.drop r).take 1)[0]?=some (.int .u32 z):=by rw[e1];rfl
  simpa using h0
 simpa using this
theorem Alg{W:World}(h:laidMetH Tryz.prog Ut W):Mem (B.env noF) W [] []:=by
 refine⟨rfl,fun id b ab h=>by simp at h,fun id id' b b' β h=>by simp at h,fun a h=>h.elim,fun i cs hG=>?_,fun t m h=>(by have h':(none:Option MapS)=some m:=h;cases h'),fun i p h=>(by have h':(none:Option (Array Value))=some p:=h;cases h')⟩;have hG':(if i=3 then some (C1 u32 glob3.l)else none)=some cs:=hG;by_cases hi:i=3
 ·rw[AoO hi]at hG';cases hG';subst hi;refine⟨cell?_lt (AdV h 0 (by omega)),(by rintro⟨id,b,hb,_⟩;simp at hb),fun _ hf=>hf,fun j=>.int .u32 (kz.getD j 0),fun j x hj=>?_⟩
  have hj64:j<64:=by
   have:=(AoK.1 hj).1;rwa[DC]at this
  have hx:x=.int .u32 (kz.getD j 0):=by
   simp only[C1,Ao4,AoL]at hj;obtain⟨y,hy,rfl⟩:=hj;simp[kz,u32,Ao3,hy]
  subst hx;exact⟨AdV h j hj64,.int _ _ _,rfl⟩
 ·rw[AoQ hi]at hG';cases hG'
theorem XN{f:FuncId}{avs:List AV}(h:Con B f avs [] (fun r σ'=>r=.bool true∧σ'=[])){fn:Func}{c:Code}(hf:B.P.funcs[f]?=some fn)(hb:fn.body=some c)(hn:(fn.name == "runtime.NumGoroutine")=false) {W:World} (hL:laidMetH Tryz.prog Ut W) {args:Array Value} (ha:B1 W (A2 (B.env noF) []) [] args.toList avs):Calls B.P f args W fun e W'=>e=.returned (.bool true)∧Below W.heap.size W W':=by
 refine((h.call (fun _=>False) W [] args (Alg hL) ha).calls hf hb hn).mono ?_;rintro e w' ⟨v,r,σ',g',rfl,⟨rfl,rfl⟩,hm,he,hr⟩;exact⟨by rw[E1 hr],he.below⟩
open Go.Rv Go.RowKit
set_option maxRecDepth 20000
theorem AcJ:Lib.len8tab.data.toList=([0,1,2,2,3,3,3,3,4,4,4,4,4,4,4,4,5,5,5,5,5,5,5,5,5,5,5,5,5,5,5,5,6,6,6,6,6,6,6,6,6,6,6,6,6,6,6,6,6,6,6,6,6,6,6,6,6,6,6,6,6,6,6,6,7,7,7,7,7,7,7,7,7,7,7,7,7,7,7,7,7,7,7,7,7,7,7,7,7,7,7,7,7,7,7,7,7,7,7,7,7,7,7,7,7,7,7,7,7,7,7,7,7,7,7,7,7,7,7,7,7,7,7,7,7,7,7,7,8,8,8,8,8,8,8,8,8,8,8,8,8,8,8,8,8,8,8,8,8,8,8,8,8,8,8,8,8,8,8,8,8,8,8,8,8,8,8,8,8,8,8,8,8,8,8,8,8,8,8,8,8,8,8,8,8,8,8,8,8,8,8,8,8,8,8,8,8,8,8,8,8,8,8,8,8,8,8,8,8,8,8,8,8,8,8,8,8,8,8,8,8,8,8,8,8,8,8,8,8,8,8,8,8,8,8,8,8,8,8,8,8,8,8,8,8,8,8,8,8,8,8,8,8,8,8,8]:List UInt8):=by kernel_rfl
attribute [go_sem] AcJ
theorem LV{σ:Am}{b:ABlk}:(σ++[b])[σ.length]?=some b:=by
 rw[AoS (Ao0 _)];simp
theorem Vy{σ:Am}{b c:ABlk}:(σ++[b]).set σ.length c=σ++[c]:=by
 rw[Aqd _ _ (Ao0 _)];simp
theorem HM{σ:Am}{id:Nat}:∀F:Addr→Prop,Th (B.env F) 92 [.ref id 0] σ (.agg [.ref id 3,.ref id 4,.ref id 5,.ref id 6,.ref id 7,.ref id 8,.ref id 9,.ref id 10,.ref id 11,.ref id 12,.ref id 13]) σ:=by
  intro F w g vs hm ha
  have hid:id<σ.length:=by
    obtain⟨vs⟩:=vs
    match vs,ha with
    | [u],⟨h1,_⟩=>
      cases h1 with
      |ref _ _ _ β b hb _ _=>have:=(AoK.1 hb).1;rwa[hm.len]at this
  refine SZ (N:=37) (rs:=[.cell 2 178]) σ.length rfl ok Tryz.func92 rfl (by decide +kernel) rfl rfl (Apm rfl) ?_ (fun F=>?_) F w g vs hm ha
  · simp[AV.under,hid]
  have hE:=ok.env F;show Run (B.env F) σ.length _ ⟨Aq 37 [(0,.ref id 0)],σ⟩ _;refine Cp hE [0,2] (fr':=[(0,.ref id 0),(2,.ref σ.length 0)]) (σ':=σ++[.box [.val (.pointer none),.val (.pointer none),.val (.pointer none),.val (.pointer none),.val (.pointer none),.val (.pointer none),.val (.pointer none),.val (.pointer none),.val (.pointer none),.val (.pointer none),.val (.pointer none)] false]) ⟨_,Aa,?_⟩ ?_
  · simp only[go_sem]
  refine Of hE K6 [[],[0],[0,1],[],[3],[3,4],[],[6],[6,7],[],[9],[9,10],[],[12],[12,13],[],[15],[15,16],[],[18],[18,19],[],[21],[21,22],[],[24],[24,25],[],[27],[27,28],[],[30],[30,31],[0,1,2,3,4,5,6,7,8,9,10,11,12,13,14,15,16,17,18,19,20,21,22,23,24,25,26,27,28,29,30,31,32],[0,1,2,3,4,5,6,7,8,9,10,11,12,13,14,15,16,17,18,19,20,21,22,23,24,25,26,27,28,29,30,31,32,33]] (by kernel_rfl) (by kernel_rfl) [2] (fr':=[(2,.ref σ.length 0)]) (σ':=σ++[.box [.ref id 3,.ref id 4,.ref id 5,.ref id 6,.ref id 7,.ref id 8,.ref id 9,.ref id 10,.ref id 11,.ref id 12,.ref id 13] false]) ⟨_,Aa,?_⟩ ?_
  · simp only[go_sem,LV,Vy,reduceIte,Nat.reduceLT,Nat.reduceEqDiff,Nat.reduceAdd,Nat.reduceGT,Nat.reduceLeDiff]
  refine Uo ?_;refine⟨.inr rfl,[.agg [.ref id 3,.ref id 4,.ref id 5,.ref id 6,.ref id 7,.ref id 8,.ref id 9,.ref id 10,.ref id 11,.ref id 12,.ref id 13]],[.box [.ref id 3,.ref id 4,.ref id 5,.ref id 6,.ref id 7,.ref id 8,.ref id 9,.ref id 10,.ref id 11,.ref id 12,.ref id 13] false],?_,rfl,rfl⟩;rw[Ip];simp only[go_sem,LV,reduceIte,Nat.reduceLT,Nat.reduceEqDiff,Nat.reduceAdd,Nat.reduceLeDiff]
theorem La{σ:Am}{id:Nat}:∀F:Addr→Prop,Th (B.env F) 92 [.ref id 9] σ (.agg [.ref id 12,.ref id 13,.ref id 14,.ref id 15,.ref id 16,.ref id 17,.ref id 18,.ref id 19,.ref id 20,.ref id 21,.ref id 22]) σ:=by
  intro F w g vs hm ha
  have hid:id<σ.length:=by
    obtain⟨vs⟩:=vs
    match vs,ha with
    | [u],⟨h1,_⟩=>
      cases h1 with
      |ref _ _ _ β b hb _ _=>have:=(AoK.1 hb).1;rwa[hm.len]at this
  refine SZ (N:=37) (rs:=[.cell 2 178]) σ.length rfl ok Tryz.func92 rfl (by decide +kernel) rfl rfl (Apm rfl) ?_ (fun F=>?_) F w g vs hm ha
  · simp[AV.under,hid]
  have hE:=ok.env F;show Run (B.env F) σ.length _ ⟨Aq 37 [(0,.ref id 9)],σ⟩ _;refine Cp hE [0,2] (fr':=[(0,.ref id 9),(2,.ref σ.length 0)]) (σ':=σ++[.box [.val (.pointer none),.val (.pointer none),.val (.pointer none),.val (.pointer none),.val (.pointer none),.val (.pointer none),.val (.pointer none),.val (.pointer none),.val (.pointer none),.val (.pointer none),.val (.pointer none)] false]) ⟨_,Aa,?_⟩ ?_
  · simp only[go_sem]
  refine Of hE K6 [[],[0],[0,1],[],[3],[3,4],[],[6],[6,7],[],[9],[9,10],[],[12],[12,13],[],[15],[15,16],[],[18],[18,19],[],[21],[21,22],[],[24],[24,25],[],[27],[27,28],[],[30],[30,31],[0,1,2,3,4,5,6,7,8,9,10,11,12,13,14,15,16,17,18,19,20,21,22,23,24,25,26,27,28,29,30,31,32],[0,1,2,3,4,5,6,7,8,9,10,11,12,13,14,15,16,17,18,19,20,21,22,23,24,25,26,27,28,29,30,31,32,33]] (by kernel_rfl) (by kernel_rfl) [2] (fr':=[(2,.ref σ.length 0)]) (σ':=σ++[.box [.ref id 12,.ref id 13,.ref id 14,.ref id 15,.ref id 16,.ref id 17,.ref id 18,.ref id 19,.ref id 20,.ref id 21,.ref id 22] false]) ⟨_,Aa,?_⟩ ?_
  · simp only[go_sem,LV,Vy,reduceIte,Nat.reduceLT,Nat.reduceEqDiff,Nat.reduceAdd,Nat.reduceGT,Nat.reduceLeDiff]
  refine Uo ?_;refine⟨.inr rfl,[.agg [.ref id 12,.ref id 13,.ref id 14,.ref id 15,.ref id 16,.ref id 17,.ref id 18,.ref id 19,.ref id 20,.ref id 21,.ref id 22]],[.box [.ref id 12,.ref id 13,.ref id 14,.ref id 15,.ref id 16,.ref id 17,.ref id 18,.ref id 19,.ref id 20,.ref id 21,.ref id 22] false],?_,rfl,rfl⟩;rw[Ip];simp only[go_sem,LV,reduceIte,Nat.reduceLT,Nat.reduceEqDiff,Nat.reduceAdd,Nat.reduceLeDiff]
set_option maxHeartbeats 4000000
theorem P4{a b r}(h:Hb a b=some r):Con B 83 [u64 a,u64 b] [] (fun r' σ'=>r'=.tup [u64 r.1,u64 r.2]∧σ'=[]):=by
 refine Cw 51 [.tmp 4,.tmp 5] Tryz.func83 (fun F hE=>?_) h;unfold Hb;refine T0 [0,1] ?_;refine Lt fun x0_2596 c =>Te (fr':=[(0,_),(1,_),(6,u64 x0_2596)]) [0,1,6] Aa (Ew1 c) ?_
 refine Lt fun x1_2598 d =>Te (fr':=[(0,_),(1,_),(6,_),(7,u64 x1_2598)]) [0,1,6,7] Aa (Ew1 d) ?_
 refine Lt fun y0_2600 e =>Te (fr':=[(0,_),(1,_),(6,_),(7,_),(8,u64 y0_2600)]) [0,1,6,7,8] Aa (Ew1 e) ?_
 refine Lt fun y1_2602 f =>Te (fr':=[(0,_),(1,_),(6,_),(7,_),(8,_),(9,u64 y1_2602)]) [0,1,6,7,8,9] Aa (Ew1 f) ?_
 refine T0 [0,1,6,7,8,9,10] ?_;refine Lt fun g i =>Te (fr':=[(0,_),(1,_),(6,_),(7,_),(9,_),(11,u64 g)]) [0,1,6,7,9,11] Aa (Ew1 i) ?_
 refine Lt fun w1_2606 j =>Te (fr':=[(0,_),(1,_),(6,_),(7,_),(9,_),(11,_),(12,u64 w1_2606)]) [0,1,6,7,9,11,12] Aa (Ew1 j) ?_
 refine Lt fun w2_2608 k =>Te (fr':=[(0,_),(1,_),(6,_),(7,_),(9,_),(12,_),(13,u64 w2_2608)]) [0,1,6,7,9,12,13] Aa (Ew1 k) ?_
 refine Lt fun w1_2610 l =>Te (fr':=[(0,_),(1,_),(7,_),(9,_),(12,u64 w1_2610),(13,_)]) [0,1,7,9,12,13] Aa (Ew1 l) ?_
 refine Lt fun m n =>Te (fr':=[(0,_),(1,_),(4,u64 m)]) [0,1,4] Aa (Ew1 n) ?_
 refine T0 [4,5] ?_;exact Sr <|Rr
theorem G7{b r}(h:Ec b=some r):Con B 85 [u64 b] [] (fun r' σ'=>r'=i64 r∧σ'=[]):=by
 refine Cw 25 [.tmp 2] Tryz.func85 (fun F hE=>?_) h;unfold Ec;refine T0 [0,2] ?_;refine Ja (fun(v:UInt64×Int)=>(⟨Aq 25 [(0,u64 v.1),(2,i64 v.2)],[]⟩:St)) ?_ ?_
 ·intro m;refine T0 [0,2,4] ?_;refine Cd ?_ ?_
  ·refine Lt fun d e =>Te (fr':=[(0,u64 d)]) [0] Aa (Ew1 e) ?_
   refine F0 [0,2] ?_;exact Jm (ws [])
  ·exact Sk <|Jm (ws [])
 rintro⟨n,o⟩;refine Ja (fun(v:UInt64×Int)=>(⟨Aq 25 [(0,u64 v.1),(2,i64 v.2)],[]⟩:St)) ?_ ?_
 ·intro p;refine T0 [0,2,8] ?_;refine Cd ?_ ?_
  ·refine Lt fun f g =>Te (fr':=[(0,u64 f),(2,_)]) [0,2] Aa (Ew1 g) ?_
   refine F0 [0,2] ?_;exact Jm (ws [])
  ·exact Sk <|Jm (ws [])
 rintro⟨q,s⟩;refine Ja (fun(v:UInt64×Int)=>(⟨Aq 25 [(0,u64 v.1),(2,i64 v.2)],[]⟩:St)) ?_ ?_
 ·intro t;refine T0 [0,2,14] ?_;refine Cd ?_ ?_
  ·refine Lt fun i j =>Te (fr':=[(0,u64 i),(2,_)]) [0,2] Aa (Ew1 j) ?_
   refine F0 [0,2] ?_;exact Jm (ws [])
  ·exact Sk <|Jm (ws [])
 rintro⟨u,w⟩;refine Ck fun c=>?_
 have a:=c;simp only[Ao5,ApC,Ao7,Ape,Apr,ApG,Nat.reduceAdd]at a;refine Lt fun k l =>Te (fr':=[(2,i64 k)]) [2] Aa (Ev (by simp only[go_sem,qN c,a,QR a,Al8 (QR a),l];exact AK)) ?_
 exact Sr <|Rr
theorem HH{a r}(h:Ca a=some r):Con B 124 [u64 a] [] (fun r' σ'=>r'=i64 r∧σ'=[]):=by
 refine Cw 6 [.tmp 2] Tryz.func124 (fun F hE=>?_) h;unfold Ca;refine T0 [0] ?_;refine Bd fun c b =>Te [2] (o1 4 (G7 b)) Ev ?_
 exact Sr <|Rr
theorem Pr{e f g r}(h:F4 e f g=some r):Con B 84 [u64 e,u64 f,u64 g] [] (fun r' σ'=>r'=.tup [u64 r.1,u64 r.2]∧σ'=[]):=by
 refine Cw 135 [.tmp 6,.tmp 7] Tryz.func84 (fun F hE=>?_) h;unfold F4;refine T0 [0,1,2] ?_;refine Sq <|T0 [0,1,2,20] ?_
 refine Cd ?_ ?_
 ·exact Rn
 ·refine Sk <|Tn <|Sq <|T0 [0,1,2,24] ?_
  refine Cd ?_ ?_
  ·exact Rn
  ·refine Sk <|Tn <|Sq <|T0 [0,1,2,27] ?_
   refine Cd ?_ ?_
   ·refine Ck fun q =>Ck fun s =>De [[],[],[0,1],[],[],[3,4],[0,1,2],[0,1,2,3,4,5,6]] [6,7] Aa (Ew2 q s) ?_
    exact Sr <|Tr <|Rr
   ·refine Sk <|Tn <|Bd fun b t =>Te [0,1,2,8] (o1 35 (HH t)) Ev ?_
    refine Lt fun a u =>Te (fr':=[(0,_),(1,_),(2,u64 a),(8,_)]) [0,1,2,8] Aa (Ew1 u) ?_
    refine Lt fun yn1_2658 w =>Te (fr':=[(0,_),(1,_),(2,_),(8,_),(9,u64 yn1_2658)]) [0,1,2,8,9] Aa (Ew1 w) ?_
    refine Lt fun yn0_2660 x =>Te (fr':=[(0,_),(1,_),(2,_),(8,_),(9,_),(10,u64 yn0_2660)]) [0,1,2,8,9,10] Aa (Ew1 x) ?_
    refine Lt fun un32_2662 y =>Te (fr':=[(1,_),(2,_),(8,_),(9,_),(10,_),(11,u64 un32_2662)]) [1,2,8,9,10,11] Aa (Ew1 y) ?_
    refine Lt fun un10_2664 z =>Te (fr':=[(2,_),(8,_),(9,_),(10,_),(11,_),(12,u64 un10_2664)]) [2,8,9,10,11,12] Aa (Ew1 z) ?_
    refine Lt fun un1_2666 aa =>Te (fr':=[(2,_),(8,_),(9,_),(10,_),(11,_),(12,_),(13,u64 un1_2666)]) [2,8,9,10,11,12,13] Aa (Ew1 aa) ?_
    refine Lt fun un0_2668 ab =>Te (fr':=[(2,_),(8,_),(9,_),(10,_),(11,_),(13,_),(14,u64 un0_2668)]) [2,8,9,10,11,13,14] Aa (Ew1 ab) ?_
    refine Ck fun ac =>Te [2,8,9,10,11,13,14,15] Aa (Ew1 ac) ?_
    refine Lt fun ad ae =>Te (fr':=[(2,_),(8,_),(9,_),(10,_),(11,_),(13,_),(14,_),(15,_),(16,u64 ad)]) [2,8,9,10,11,13,14,15,16] Aa (Ew1 ae) ?_
    refine Ja (fun q1_2692=>⟨Aq 135 [(2,u64 a),(8,u64 (UInt64.ofInt b)),(9,u64 yn1_2658),(10,u64 yn0_2660),(11,u64 un32_2662),(13,u64 un1_2666),(14,u64 un0_2668),(15,u64 q1_2692)],[]⟩) ?_ ?_
    ·intro ap;refine Sb ?_;refine Lo (fun(v:UInt64×UInt64)=>(⟨Aq 135 [(2,u64 a),(8,u64 (UInt64.ofInt b)),(9,u64 yn1_2658),(10,u64 yn0_2660),(11,u64 un32_2662),(13,u64 un1_2666),(14,u64 un0_2668),(15,u64 v.1),(16,u64 v.2)],[]⟩:St)) (ws []) ?_;rintro⟨q1_2701,i⟩ aq af j k;show DB yn1_2658 yn0_2660 un1_2666 q1_2701 i=some af→_;unfold DB;refine Sq ?_;refine Tw [2,8,9,10,11,13,14,15,16,78] (fun l=>⟨Aq 135 [(2,u64 a),(8,u64 (UInt64.ofInt b)),(9,u64 yn1_2658),(10,u64 yn0_2660),(11,u64 un32_2662),(13,u64 un1_2666),(14,u64 un0_2668),(15,u64 q1_2701),(16,u64 i),(78,.bool l)],[]⟩) ?_ ?_
     ·intro _;refine Sp (fun c=>?_) fun c=>?_
      ·exact Lf Aa (Ew1 c) (ws [])
      ·exact Lf Aa (Ew1 c) (ws [])
     intro l;refine Cd ?_ ?_
     ·refine Sk <|Tn <|Sb <|T0 [2,8,9,10,11,13,14,15,16] ?_
      refine T0 [2,8,9,10,11,13,14,15,16] ?_;refine T0 [2,8,9,10,11,13,14,15,16,85] ?_;refine Cd ?_ ?_
      ·refine Sx <|Bo <|Ly k j <|Bx <|?_
       exact Jm ((ws (l':=[(2,u64 a),(8,u64 (UInt64.ofInt b)),(9,u64 yn1_2658),(10,u64 yn0_2660),(11,u64 un32_2662),(13,u64 un1_2666),(14,u64 un0_2668),(15,u64 (q1_2701-(1:UInt64)))]) (σ':=[]) []).trans (ws []))
      ·exact Sk <|Bn <|Ln (ws [])
     ·refine Sx <|Tx <|Ly k j <|Bx <|?_
      exact Jm ((ws (l':=[(2,u64 a),(8,u64 (UInt64.ofInt b)),(9,u64 yn1_2658),(10,u64 yn0_2660),(11,u64 un32_2662),(13,u64 un1_2666),(14,u64 un0_2668),(15,u64 q1_2701)]) (σ':=[]) []).trans (ws []))
    intro q1_2692;refine Lt fun un21_2715 ag =>Te (fr':=[(2,_),(8,_),(9,_),(10,_),(14,_),(15,_),(17,u64 un21_2715)]) [2,8,9,10,14,15,17] Aa (Ew1 ag) ?_
    refine Ck fun ah =>Te [2,8,9,10,14,15,17,18] Aa (Ew1 ah) ?_
    refine Lt fun ai aj =>Te (fr':=[(2,_),(8,_),(9,_),(10,_),(14,_),(15,_),(16,u64 ai),(17,_),(18,_)]) [2,8,9,10,14,15,16,17,18] Aa (Ew1 aj) ?_
    refine Ja (fun q0_2739=>⟨Aq 135 [(2,u64 a),(8,u64 (UInt64.ofInt b)),(14,u64 un0_2668),(15,u64 q1_2692),(17,u64 un21_2715),(18,u64 q0_2739)],[]⟩) ?_ ?_
    ·intro ar;refine Sb ?_;refine Lo (fun(v:UInt64×UInt64)=>(⟨Aq 135 [(2,u64 a),(8,u64 (UInt64.ofInt b)),(9,u64 yn1_2658),(10,u64 yn0_2660),(14,u64 un0_2668),(15,u64 q1_2692),(16,u64 v.1),(17,u64 un21_2715),(18,u64 v.2)],[]⟩:St)) (ws []) ?_;rintro⟨m,q0_2749⟩ au ak n o;show D4 yn1_2658 yn0_2660 un0_2668 m q0_2749=some ak→_;unfold D4;refine Sq ?_;refine Tw [2,8,9,10,14,15,16,17,18,113] (fun p=>⟨Aq 135 [(2,u64 a),(8,u64 (UInt64.ofInt b)),(9,u64 yn1_2658),(10,u64 yn0_2660),(14,u64 un0_2668),(15,u64 q1_2692),(16,u64 m),(17,u64 un21_2715),(18,u64 q0_2749),(113,.bool p)],[]⟩) ?_ ?_
     ·intro _;refine Sp (fun d=>?_) fun d=>?_
      ·exact Lf Aa (Ew1 d) (ws [])
      ·exact Lf Aa (Ew1 d) (ws [])
     intro p;refine Cd ?_ ?_
     ·refine Sk <|Tn <|Sb <|T0 [2,8,9,10,14,15,16,17,18] ?_
      refine T0 [2,8,9,10,14,15,16,17,18] ?_;refine T0 [2,8,9,10,14,15,16,17,18,120] ?_;refine Cd ?_ ?_
      ·refine Sx <|Bo <|Ly o n <|Bx <|?_
       exact Jm ((ws (l':=[(2,u64 a),(8,u64 (UInt64.ofInt b)),(14,u64 un0_2668),(15,u64 q1_2692),(17,u64 un21_2715),(18,u64 (q0_2749-(1:UInt64)))]) (σ':=[]) []).trans (ws []))
      ·exact Sk <|Bn <|Ln (ws [])
     ·refine Sx <|Tx <|Ly o n <|Bx <|?_
      exact Jm ((ws (l':=[(2,u64 a),(8,u64 (UInt64.ofInt b)),(14,u64 un0_2668),(15,u64 q1_2692),(17,u64 un21_2715),(18,u64 q0_2749)]) (σ':=[]) []).trans (ws []))
    intro q0_2739;refine Lt fun al am =>Lt fun an ao =>Te (fr':=[(6,u64 al),(7,u64 an)]) [6,7] Aa (Ew2 am ao) ?_
    exact Sr <|Rr
theorem Dz{a b c r}(h:Cq a b c=some r):Con B 82 [u64 a,u64 b,.ref 0 0] [.box [u64 c] false] (fun r' σ'=>r'=u64 r.1∧σ'=[.box [u64 r.2] false]):=by
 refine Co 1 28 [.tmp 5] Tryz.func82 (fun F hE=>?_) h;unfold Cq;refine T0 [0,1,2] ?_;refine Ck fun d =>Ck fun e =>Bd fun i f =>De [[],[],[0,1],[],[],[3,4],[0,1,2,3,4,5],[0,1,2,3,4,5,6],[0,1,2,3,4,5,6,7],[0,1,2,3,4,5,6,7],[0,1,2,3,4,5,6,7,8],[0,1,2,3,4,5,6,7,8,9,10]] [2,6,7] (o1 17 (P4 f)) (Ew2 d e) ?_
 refine Bd fun j g =>Te [9] (o1 24 (Pr g)) Ev ?_
 refine T0 [5] ?_;exact Sr <|Ro [0]
theorem FK{a r}(h:EC a=some r):Con B 48 [u64 a] [] (fun r' σ'=>r'=.fn 82 [.ref 0 0]∧σ'=[.box [u64 r] false]):=by
 refine Co 0 4 [.tmp 2] Tryz.func48 (fun F hE=>?_) h;unfold EC;refine T0 [1] ?_;refine T0 [2] ?_;exact Sr <|Ro [0]
theorem EZ{a c r}(h:Fx a c=some r):Con B 49 [u64 a,u64 c] [] (fun r' σ'=>r'=u64 r∧σ'=[]):=by
 refine Cw 33 [.tmp 4] Tryz.func49 (fun F hE=>?_) h;unfold Fx;refine T0 [0,1] ?_;refine Bd fun y j =>Te [0,1,5] (Ap (l:=[]) (m:=[(8,48,[u64 (2305843009213690799:UInt64)],[],_,_)]) trivial ⟨(wc (FK j) []),trivial⟩) Ev ?_
 refine T0 [0,1,5,6] ?_;refine Ja (fun g=>⟨Aq 33 [(6,u64 g)],[]⟩) ?_ ?_
 ·intro z;refine Bd fun f k =>Te [0,1,5,6,10,11] (o1 10 (G7 k)) Ev ?_
  refine Sb ?_;refine Lo (fun⟨b,d,e⟩=>⟨Aq 33 [(0,u64 a),(1,u64 c),(5,.fn 82 [.ref 0 0]),(6,u64 b),(10,i64 f),(11,i64 d)],[.box [u64 e] false]⟩) (ws [0]) ?_;rintro⟨b,d,e⟩ aa n o p;show DS a c f b d e=some n→_;unfold DS;refine T0 [0,1,5,6,10,11,12] ?_;refine Sq <|Cd ?_ ?_
  ·refine Sk <|Tn <|?_
   refine Ja (fun(v:UInt64×UInt64)=>(⟨Aq 33 [(0,u64 a),(1,u64 c),(5,.fn 82 [.ref 0 0]),(6,u64 v.1),(10,i64 f),(11,i64 d)],[.box [u64 v.2] false]⟩:St)) ?_ ?_
   ·intro ab;refine Sb <|T0 [0,1,5,6,7,10,11] ?_
    refine Bd fun i q =>Te [0,1,5,6,7,10,11] (Ap (l:=[]) (m:=[(17,82,[u64 b,u64 b,.ref 0 0],[.box [u64 e] false],_,_)]) trivial ⟨(wc (Dz q) [0]),trivial⟩) Ev ?_
    refine Bd fun ac s =>Ck fun t =>Lt fun u w =>Te (fr':=[(0,_),(1,_),(5,_),(6,_),(10,_),(11,_),(26,.bool u)]) [0,1,5,6,10,11,26] (o1 20 (G7 s)) (Ew2 t w) ?_
    refine Cd ?_ ?_
    ·refine Bd fun ad x =>Fe [0,1,5,6,10,11] (Ap (l:=[]) (m:=[(30,82,[u64 i.1,u64 a,.ref 0 0],[.box [u64 i.2] false],_,_)]) trivial ⟨(wc (Dz x) [0]),trivial⟩) Ev ?_
     exact Bn <|Jm (ws [0])
    ·exact Sk <|Bn <|Jm (ws [0])
   rintro⟨ae,af⟩;refine F0 [0,1,5,6,10,11] ?_;exact Ln (ws [0])
  ·refine Sx <|Tx <|Ly p o <|Bx <|?_
   exact Jm ((ws (l':=[(6,u64 b)]) (σ':=[]) []).trans (ws []))
 intro g;refine T0 [4] ?_;exact Sr <|Rr
theorem Jj{c r}(h:F6 c=some r):Con B 47 [u64 c] [] (fun r' σ'=>r'=.bool r∧σ'=[]):=by
 refine Cw 14 [.tmp 2] Tryz.func47 (fun F hE=>?_) h;unfold F6;refine T0 [0] ?_;refine Tw [2] (fun d=>⟨Aq 14 [(2,.bool d)],[]⟩) ?_ ?_
 ·intro _;refine Sp (fun a=>?_) fun a=>?_
  ·refine Sp (fun b=>?_) fun b=>?_
   ·refine Bd fun f e=>?_
    exact Lf (o1 11 (EZ e)) (Ew2 a b) (ws [])
   ·exact Lf Aa (Ew2 a b) (ws [])
  ·exact Lf Aa (Ew1 a) (ws [])
 intro d;exact Sr <|Rr
theorem HX{a r}(h:Hm a=some r):Con B 58 [u64 a] [] (fun r' σ'=>r'=.tup [u64 r.1,i64 r.2]∧σ'=[]):=by
 refine Cw 12 [.tmp 2,.tmp 3] Tryz.func58 (fun F hE=>?_) h;unfold Hm;refine T0 [0] ?_;refine Sq ?_;refine Tw [0,9] (fun c=>⟨Aq 12 [(0,u64 a),(9,.bool c)],[]⟩) ?_ ?_
 ·intro _;refine Sp (fun b=>?_) fun b=>?_
  ·exact Lf Aa (Ew1 b) (ws [])
  ·exact Lf Aa (Ew1 b) (ws [])
 intro c;refine Cd ?_ ?_
 ·refine T0 [2,3] ?_;exact Sr <|Tr <|Rr
 ·refine Sk <|Tn <|Bd fun e d =>Te [2,3] (o1 11 (EZ d)) Ev ?_
  exact Sr <|Rr
theorem Jl{a b r}(h:IM a b=some r):Con B 26 [.agg [.sl false (L (cSl Ak) a.Zy1),.sl false (L An a.Zz1)],i64 b] [] (fun r' σ'=>r'=.sl false (L Ak r)∧σ'=[]):=by
 refine Cw 15 [.tmp 4] Tryz.func26 (fun F hE=>?_) h;unfold IM;refine T0 [1,2] ?_;refine Sq <|T0 [1,2,9] ?_
 refine Cd ?_ ?_
 ·refine T0 [4] ?_;exact Sr <|Tr <|Rr
 ·refine Sk <|Tn <|Ck fun c =>Te [4] Aa (Ew1 (qR c)) ?_
  exact Sr <|Rr
theorem Fk{a r}(h:ET a=some r):Con B 80 [i64 a] [] (fun r' σ'=>r'=.agg [i64 r.Za,i64 r.N,.sl false (L cU8 r.B),.sl false (L cApi_Value r.L)]∧σ'=[]):=by
 refine Cw 5 [.cell 2 105] Tryz.func80 (fun F hE=>?_) h;unfold ET;refine T0 [0,2] ?_;refine T0 [2] ?_;exact Sr <|Rr
theorem Jg{a r}(h:IR a=some r):Con B 81 [.sl false (L cU8 a)] [] (fun r' σ'=>r'=.agg [i64 r.Za,i64 r.N,.sl false (L cU8 r.B),.sl false (L cApi_Value r.L)]∧σ'=[]):=by
 refine Cw 5 [.cell 2 105] Tryz.func81 (fun F hE=>?_) h;unfold IR;refine T0 [0,2] ?_;refine T0 [2] ?_;exact Sr <|Rr
theorem AB{a r}(h:AO a=some r):Con B 106 [i64 a] [] (fun r' σ'=>r'=.agg [i64 r.Za,i64 r.N,.sl false (L cU8 r.B),.sl false (L cApi_Value r.L)]∧σ'=[]):=by
 refine Cw 5 [.cell 2 105] Tryz.func106 (fun F hE=>?_) h;unfold AO;refine T0 [0,2] ?_;refine T0 [2] ?_;exact Sr <|Rr
theorem KP{r}(h:edi_list_cnil  = some r):Con B 107 [.sl true (L cApi_Value ([]))] [] (fun r' σ'=>r'=.agg [i64 r.Za,i64 r.N,.sl true (L cU8 ([])),.sl true (L cApi_Value ([]))]∧σ'=[]):=by
 refine Co 0 5 [.cell 2 105] Tryz.func107 (fun F hE=>?_) h;unfold edi_list_cnil;refine T0 [0,2] ?_;refine T0 [2] ?_;exact Sr <|Ro []
theorem LS{a r}(h:Gc a=some r):Con B 107 [.bs false 0 (a.length) 0 (a.length)] [.buf 4 (L cApi_Value a) false] (fun r' σ'=>r'=.agg [i64 r.Za,i64 r.N,.sl true (L cU8 ([])),.bs false 0 (r.L.length) 0 (r.L.length)]∧σ'=[.buf 4 (L cApi_Value r.L) false]):=by
 refine Co 1 5 [.cell 2 105] Tryz.func107 (fun F hE=>?_) h;unfold Gc;refine T0 [0,2] ?_;refine T0 [2] ?_;exact Sr <|Ro [0]
theorem GJ{a r}(h:Dy a=some r):Con B 107 [.sl false (L cApi_Value a)] [] (fun r' σ'=>r'=.agg [i64 r.Za,i64 r.N,.sl true (L cU8 ([])),.sl false (L cApi_Value r.L)]∧σ'=[]):=by
 refine Co 0 5 [.cell 2 105] Tryz.func107 (fun F hE=>?_) h;unfold Dy;refine T0 [0,2] ?_;refine T0 [2] ?_;exact Sr <|Ro []
theorem SK{a r}(h:LY a=some r):Con B 108 [.str a] [] (fun r' σ'=>r'=.agg [i64 r.Za,i64 r.N,.sl false (L cU8 r.B),.sl false (L cApi_Value r.L)]∧σ'=[]):=by
 refine Cw 6 [.cell 2 105] Tryz.func108 (fun F hE=>?_) h;unfold LY;refine T0 [0,2] ?_;refine T0 [2] ?_;exact Sr <|Rr
theorem Fs{a r}(h:Er a=some r):Con B 65 [.agg [i64 a.Za,i64 a.Ref.Zb,i64 a.Ref.No,i64 a.Zn1,i64 a.Zb1,i64 a.Zc,i64 a.Zo1,i64 a.Zw,i64 a.To,i64 a.Code,i64 a.Zp1,i64 a.Zq1,i64 a.Zr1,i64 a.Zs1,.str a.Zt1,.sl false (L Ad a.Zu1)]] [] (fun r' σ'=>r'=.agg [i64 r.Za,i64 r.N,.sl false (L cU8 r.B),.sl false (L cApi_Value r.L)]∧σ'=[]):=by
 refine Cw 70 [.cell 2 105] Tryz.func65 (fun F hE=>?_) h;unfold Er;refine T0 [1,2] ?_;refine Bd fun bE au =>Bd fun av aw =>Bd fun ax ay =>Bd fun bF az =>Lt fun f aA =>De (fr':=[(1,_),(2,_),(3,.bs true 2 (f.length) 0 (f.length))]) (σ':=[_,_,.buf 4 (L cApi_Value f) false]) [[],[0],[0,1],[],[3],[3,4],[0,1,2,3,4,5],[],[7],[7,8],[0,1,2,3,4,5,6,7,8,9],[0,1,2,3,4,5,6,7,8,9,10],[0,1,2,3,4,5,6,7,8,9,10,11],[0,1,2,3,4,5,6,7,8,9,10,11,12],[0,1,2,3,4,5,6,7,8,9,10,11,12,13]] [1,2,3] (Ap (l:=[(12,_,_,_),(16,_,_,_),(20,_,_,_)]) (m:=[(22,107,[.sl false (L cApi_Value ([av,ax]:List AoG))],[.box [i64 a.Za,i64 a.Ref.Zb,i64 a.Ref.No,i64 a.Zn1,i64 a.Zb1,i64 a.Zc,i64 a.Zo1,i64 a.Zw,i64 a.To,i64 a.Code,i64 a.Zp1,i64 a.Zq1,i64 a.Zr1,i64 a.Zs1,.str a.Zt1,.sl false (L Ad a.Zu1)] false,.box [i64 0,i64 0,.sl true (L cU8 ([])),.sl true (L cApi_Value ([]))] false],_,_)]) ⟨AB  au,AB  aw,AB  ay,trivial⟩ ⟨(wc (GJ az) []),trivial⟩) (Ew1 aA) ?_
 refine Ja (fun b=>⟨Aq 70 [(1,.ref 0 0),(2,.ref 1 0),(3,.bs false 2 (b.length) 0 (b.length))],[.box [i64 a.Za,i64 a.Ref.Zb,i64 a.Ref.No,i64 a.Zn1,i64 a.Zb1,i64 a.Zc,i64 a.Zo1,i64 a.Zw,i64 a.To,i64 a.Code,i64 a.Zp1,i64 a.Zq1,i64 a.Zr1,i64 a.Zs1,.str a.Zt1,.sl false (L Ad a.Zu1)] false,.box [i64 0,i64 0,.sl true (L cU8 ([])),.sl true (L cApi_Value ([]))] false,.buf 4 (L cApi_Value b) false]⟩) ?_ ?_
 ·intro bG;refine Te [1,2,3,24,25] (Ap (l:=[]) (m:=[(24,92,[.ref 0 0],[.box [i64 a.Za,i64 a.Ref.Zb,i64 a.Ref.No,i64 a.Zn1,i64 a.Zb1,i64 a.Zc,i64 a.Zo1,i64 a.Zw,i64 a.To,i64 a.Code,i64 a.Zp1,i64 a.Zq1,i64 a.Zr1,i64 a.Zs1,.str a.Zt1,.sl false (L Ad a.Zu1)] false,.box [i64 0,i64 0,.sl true (L cU8 ([])),.sl true (L cApi_Value ([]))] false,.buf 4 (L cApi_Value f) false],.agg [.ref 0 3,.ref 0 4,.ref 0 5,.ref 0 6,.ref 0 7,.ref 0 8,.ref 0 9,.ref 0 10,.ref 0 11,.ref 0 12,.ref 0 13],[.box [i64 a.Za,i64 a.Ref.Zb,i64 a.Ref.No,i64 a.Zn1,i64 a.Zb1,i64 a.Zc,i64 a.Zo1,i64 a.Zw,i64 a.To,i64 a.Code,i64 a.Zp1,i64 a.Zq1,i64 a.Zr1,i64 a.Zs1,.str a.Zt1,.sl false (L Ad a.Zu1)] false,.box [i64 0,i64 0,.sl true (L cU8 ([])),.sl true (L cApi_Value ([]))] false,.buf 4 (L cApi_Value f) false])]) trivial ⟨HM,trivial⟩) Ev ?_;refine Sb ?_;refine Ul 17 ?_;refine Ug (m:=16) ?_;refine T0 [1,2,3,24,25,26] ?_;refine Sq <|Ct <|Sk <|Tn <|Sq <|Sb <|?_
  have ad:InR 0 11:=by decide
  refine Te [1,2,3,5,24,25] Aa (Ev (by simp only[go_sem,ad,ad.2];exact AK)) ?_;refine Bd fun bH aB =>Ck fun aC =>Lt fun k aD =>Fe (fr':=[(1,_),(2,_),(3,.bs false 2 (k.length) 0 (k.length)),(24,_),(25,_)]) (σ':=[_,_,.buf 4 (L cApi_Value k) false,_]) [1,2,3,24,25] (o1 32 (AB aB)) (Ew2 aC aD) ?_
  refine Bn <|Tn <|?_
  have aE:w64 1=1:=by decide
  refine Fe [1,2,3,24,25] Aa (Ew1 aE) ?_;refine Un ?_;refine Ug (m:=15) ?_;refine T0 [1,2,3,24,25,26] ?_;refine Sq <|Ct <|Sk <|Tn <|Sq <|Sb <|?_
  have ae:InR 1 11:=by decide
  refine Te [1,2,3,5,24,25] Aa (Ev (by simp only[go_sem,ae,ae.2];exact AK)) ?_;refine Bd fun bI aF =>Ck fun aG =>Lt fun n aH =>Fe (fr':=[(1,_),(2,_),(3,.bs false 2 (n.length) 0 (n.length)),(24,_),(25,_)]) (σ':=[_,_,.buf 4 (L cApi_Value n) false,_,_]) [1,2,3,24,25] (o1 32 (AB aF)) (Ew2 aG aH) ?_
  refine Bn <|Tn <|?_
  have aI:w64 2=2:=by decide
  refine Fe [1,2,3,24,25] Aa (Ew1 aI) ?_;refine Un ?_;refine Ug (m:=14) ?_;refine T0 [1,2,3,24,25,26] ?_;refine Sq <|Ct <|Sk <|Tn <|Sq <|Sb <|?_
  have af:InR 2 11:=by decide
  refine Te [1,2,3,5,24,25] Aa (Ev (by simp only[go_sem,af,af.2];exact AK)) ?_;refine Bd fun bJ aJ =>Ck fun aK =>Lt fun o aL =>Fe (fr':=[(1,_),(2,_),(3,.bs false 2 (o.length) 0 (o.length)),(24,_),(25,_)]) (σ':=[_,_,.buf 4 (L cApi_Value o) false,_,_,_]) [1,2,3,24,25] (o1 32 (AB aJ)) (Ew2 aK aL) ?_
  refine Bn <|Tn <|?_
  have aM:w64 3=3:=by decide
  refine Fe [1,2,3,24,25] Aa (Ew1 aM) ?_;refine Un ?_;refine Ug (m:=13) ?_;refine T0 [1,2,3,24,25,26] ?_;refine Sq <|Ct <|Sk <|Tn <|Sq <|Sb <|?_
  have ag:InR 3 11:=by decide
  refine Te [1,2,3,5,24,25] Aa (Ev (by simp only[go_sem,ag,ag.2];exact AK)) ?_;refine Bd fun bK aN =>Ck fun aO =>Lt fun p aP =>Fe (fr':=[(1,_),(2,_),(3,.bs false 2 (p.length) 0 (p.length)),(24,_),(25,_)]) (σ':=[_,_,.buf 4 (L cApi_Value p) false,_,_,_,_]) [1,2,3,24,25] (o1 32 (AB aN)) (Ew2 aO aP) ?_
  refine Bn <|Tn <|?_
  have aQ:w64 4=4:=by decide
  refine Fe [1,2,3,24,25] Aa (Ew1 aQ) ?_;refine Un ?_;refine Ug (m:=12) ?_;refine T0 [1,2,3,24,25,26] ?_;refine Sq <|Ct <|Sk <|Tn <|Sq <|Sb <|?_
  have ah:InR 4 11:=by decide
  refine Te [1,2,3,5,24,25] Aa (Ev (by simp only[go_sem,ah,ah.2];exact AK)) ?_;refine Bd fun bL aR =>Ck fun aS =>Lt fun q aT =>Fe (fr':=[(1,_),(2,_),(3,.bs false 2 (q.length) 0 (q.length)),(24,_),(25,_)]) (σ':=[_,_,.buf 4 (L cApi_Value q) false,_,_,_,_,_]) [1,2,3,24,25] (o1 32 (AB aR)) (Ew2 aS aT) ?_
  refine Bn <|Tn <|?_
  have aU:w64 5=5:=by decide
  refine Fe [1,2,3,24,25] Aa (Ew1 aU) ?_;refine Un ?_;refine Ug (m:=11) ?_;refine T0 [1,2,3,24,25,26] ?_;refine Sq <|Ct <|Sk <|Tn <|Sq <|Sb <|?_
  have ai:InR 5 11:=by decide
  refine Te [1,2,3,5,24,25] Aa (Ev (by simp only[go_sem,ai,ai.2];exact AK)) ?_;refine Bd fun bM aV =>Ck fun aW =>Lt fun s aX =>Fe (fr':=[(1,_),(2,_),(3,.bs false 2 (s.length) 0 (s.length)),(24,_),(25,_)]) (σ':=[_,_,.buf 4 (L cApi_Value s) false,_,_,_,_,_,_]) [1,2,3,24,25] (o1 32 (AB aV)) (Ew2 aW aX) ?_
  refine Bn <|Tn <|?_
  have aY:w64 6=6:=by decide
  refine Fe [1,2,3,24,25] Aa (Ew1 aY) ?_;refine Un ?_;refine Ug (m:=10) ?_;refine T0 [1,2,3,24,25,26] ?_;refine Sq <|Ct <|Sk <|Tn <|Sq <|Sb <|?_
  have aj:InR 6 11:=by decide
  refine Te [1,2,3,5,24,25] Aa (Ev (by simp only[go_sem,aj,aj.2];exact AK)) ?_;refine Bd fun bN aZ =>Ck fun a0 =>Lt fun t a1 =>Fe (fr':=[(1,_),(2,_),(3,.bs false 2 (t.length) 0 (t.length)),(24,_),(25,_)]) (σ':=[_,_,.buf 4 (L cApi_Value t) false,_,_,_,_,_,_,_]) [1,2,3,24,25] (o1 32 (AB aZ)) (Ew2 a0 a1) ?_
  refine Bn <|Tn <|?_
  have a2:w64 7=7:=by decide
  refine Fe [1,2,3,24,25] Aa (Ew1 a2) ?_;refine Un ?_;refine Ug (m:=9) ?_;refine T0 [1,2,3,24,25,26] ?_;refine Sq <|Ct <|Sk <|Tn <|Sq <|Sb <|?_
  have ak:InR 7 11:=by decide
  refine Te [1,2,3,5,24,25] Aa (Ev (by simp only[go_sem,ak,ak.2];exact AK)) ?_;refine Bd fun bO a3 =>Ck fun a4 =>Lt fun u a5 =>Fe (fr':=[(1,_),(2,_),(3,.bs false 2 (u.length) 0 (u.length)),(24,_),(25,_)]) (σ':=[_,_,.buf 4 (L cApi_Value u) false,_,_,_,_,_,_,_,_]) [1,2,3,24,25] (o1 32 (AB a3)) (Ew2 a4 a5) ?_
  refine Bn <|Tn <|?_
  have a6:w64 8=8:=by decide
  refine Fe [1,2,3,24,25] Aa (Ew1 a6) ?_;refine Un ?_;refine Ug (m:=8) ?_;refine T0 [1,2,3,24,25,26] ?_;refine Sq <|Ct <|Sk <|Tn <|Sq <|Sb <|?_
  have al:InR 8 11:=by decide
  refine Te [1,2,3,5,24,25] Aa (Ev (by simp only[go_sem,al,al.2];exact AK)) ?_;refine Bd fun bP a7 =>Ck fun a8 =>Lt fun w a9 =>Fe (fr':=[(1,_),(2,_),(3,.bs false 2 (w.length) 0 (w.length)),(24,_),(25,_)]) (σ':=[_,_,.buf 4 (L cApi_Value w) false,_,_,_,_,_,_,_,_,_]) [1,2,3,24,25] (o1 32 (AB a7)) (Ew2 a8 a9) ?_
  refine Bn <|Tn <|?_
  have ba:w64 9=9:=by decide
  refine Fe [1,2,3,24,25] Aa (Ew1 ba) ?_;refine Un ?_;refine Ug (m:=7) ?_;refine T0 [1,2,3,24,25,26] ?_;refine Sq <|Ct <|Sk <|Tn <|Sq <|Sb <|?_
  have am:InR 9 11:=by decide
  refine Te [1,2,3,5,24,25] Aa (Ev (by simp only[go_sem,am,am.2];exact AK)) ?_;refine Bd fun bQ bb =>Ck fun bc =>Lt fun x bd =>Fe (fr':=[(1,_),(2,_),(3,.bs false 2 (x.length) 0 (x.length)),(24,_),(25,_)]) (σ':=[_,_,.buf 4 (L cApi_Value x) false,_,_,_,_,_,_,_,_,_,_]) [1,2,3,24,25] (o1 32 (AB bb)) (Ew2 bc bd) ?_
  refine Bn <|Tn <|?_
  have be:w64 10=10:=by decide
  refine Fe [1,2,3,24,25] Aa (Ew1 be) ?_;refine Un ?_;refine Ug (m:=6) ?_;refine T0 [1,2,3,24,25,26] ?_;refine Sq <|Ct <|Sk <|Tn <|Sq <|Sb <|?_
  have an:InR 10 11:=by decide
  refine Te [1,2,3,5,24,25] Aa (Ev (by simp only[go_sem,an,an.2];exact AK)) ?_;refine Bd fun bR bf =>Ck fun bg =>Lt fun y bh =>Fe (fr':=[(1,_),(2,_),(3,.bs false 2 (y.length) 0 (y.length)),(24,_),(25,_)]) (σ':=[_,_,.buf 4 (L cApi_Value y) false,_,_,_,_,_,_,_,_,_,_,_]) [1,2,3,24,25] (o1 32 (AB bf)) (Ew2 bg bh) ?_
  refine Bn <|Tn <|?_
  have bi:w64 11=11:=by decide
  refine Fe [1,2,3,24,25] Aa (Ew1 bi) ?_;refine Un ?_;refine Ug (m:=5) ?_;refine T0 [1,2,3,24,25,26] ?_;exact Sq <|Cf <|Sx <|Tx <|Ux <|Bx <|Jm (ws [0,1,2])
 intro b;refine Bd fun c bj =>Te [1,2,3,6] (Ap (l:=[]) (m:=[(36,107,[.sl true (L cApi_Value ([]))],[.box [i64 a.Za,i64 a.Ref.Zb,i64 a.Ref.No,i64 a.Zn1,i64 a.Zb1,i64 a.Zc,i64 a.Zo1,i64 a.Zw,i64 a.To,i64 a.Code,i64 a.Zp1,i64 a.Zq1,i64 a.Zr1,i64 a.Zs1,.str a.Zt1,.sl false (L Ad a.Zu1)] false,.box [i64 0,i64 0,.sl true (L cU8 ([])),.sl true (L cApi_Value ([]))] false,.buf 4 (L cApi_Value b) false],_,_)]) trivial ⟨(wc (KP bj) []),trivial⟩) Ev ?_
 refine Ja (fun e=>⟨Aq 70 [(1,.ref 0 0),(2,.ref 1 0),(3,.bs false 2 (b.length) 0 (b.length)),(6,.ref 3 0)],[.box [i64 a.Za,i64 a.Ref.Zb,i64 a.Ref.No,i64 a.Zn1,i64 a.Zb1,i64 a.Zc,i64 a.Zo1,i64 a.Zw,i64 a.To,i64 a.Code,i64 a.Zp1,i64 a.Zq1,i64 a.Zr1,i64 a.Zs1,.str a.Zt1,.sl false (L Ad a.Zu1)] false,.box [i64 0,i64 0,.sl true (L cU8 ([])),.sl true (L cApi_Value ([]))] false,.buf 4 (L cApi_Value b) false,.box [i64 c.Za,i64 c.N,.sl true (L cU8 ([])),.bs false 4 (e.length) 0 (e.length)] false,.buf 4 (L cApi_Value e) false]⟩) ?_ ?_
 ·intro bS;refine T0 [1,2,3,6,38,39,40] ?_;refine Sb ?_;refine Lo (fun(v:Int×List AoG)=>(⟨Aq 70 [(1,.ref 0 0),(2,.ref 1 0),(3,.bs false 2 (b.length) 0 (b.length)),(6,.ref 3 0),(38,.sl false (L Ad a.Zu1)),(39,i64 (a.Zu1.length:Int)),(40,i64 v.1)],[.box [i64 a.Za,i64 a.Ref.Zb,i64 a.Ref.No,i64 a.Zn1,i64 a.Zb1,i64 a.Zc,i64 a.Zo1,i64 a.Zw,i64 a.To,i64 a.Code,i64 a.Zp1,i64 a.Zq1,i64 a.Zr1,i64 a.Zs1,.str a.Zt1,.sl false (L Ad a.Zu1)] false,.box [i64 0,i64 0,.sl true (L cU8 ([])),.sl true (L cApi_Value ([]))] false,.buf 4 (L cApi_Value b) false,.box [i64 c.Za,i64 c.N,.sl true (L cU8 ([])),.bs false 4 (v.2.length) 0 (v.2.length)] false,.buf 4 (L cApi_Value v.2) false]⟩:St)) ((Du 3 3 4 rfl rfl).trans (ws [0,1,2,3,4])) ?_;rintro⟨z,d⟩ bT bk bl bm;show Dd a z d=some bk→_;unfold Dd;refine T0 [1,2,3,6,38,39,40,41] ?_;refine Sq <|Cd ?_ ?_
  ·refine Sk <|Tn <|Sq <|Sb <|Ck fun bn =>Lt fun g bo =>Lt fun i bp =>Lt fun j bq =>Te (σ':=[_,_,_,_,_,.box [i64 g,i64 i,.bool j] false]) [1,2,3,6,8,38,39,40] Aa (Ew4 (qR bn) bo bp bq) ?_
   refine T0 [1,2,3,6,8,9,38,39,40] ?_;refine Ja (fun ao=>⟨Aq 70 [(1,.ref 0 0),(2,.ref 1 0),(3,.bs false 2 (b.length) 0 (b.length)),(6,.ref 3 0),(8,.ref 4 0),(9,i64 ao),(38,.sl false (L Ad a.Zu1)),(39,i64 (a.Zu1.length:Int)),(40,i64 z)],[.box [i64 a.Za,i64 a.Ref.Zb,i64 a.Ref.No,i64 a.Zn1,i64 a.Zb1,i64 a.Zc,i64 a.Zo1,i64 a.Zw,i64 a.To,i64 a.Code,i64 a.Zp1,i64 a.Zq1,i64 a.Zr1,i64 a.Zs1,.str a.Zt1,.sl false (L Ad a.Zu1)] false,.box [i64 0,i64 0,.sl true (L cU8 ([])),.sl true (L cApi_Value ([]))] false,.buf 4 (L cApi_Value b) false,.box [i64 c.Za,i64 c.N,.sl true (L cU8 ([])),.bs false 5 (d.length) 0 (d.length)] false,.box [i64 g,i64 i,.bool j] false,.buf 4 (L cApi_Value d) false]⟩) ?_ ?_
   ·intro bU;refine T0 [1,2,3,6,8,9,38,39,40,45] ?_;refine Cd ?_ ?_
    ·refine F0 [1,2,3,6,8,9,38,39,40] ?_;exact Jm (ws [0,1,2,3,5,4])
    ·exact Sk <|Jm (ws [0,1,2,3,5,4])
   intro ao;refine Bd fun br bt =>Bd fun bu bv =>Bd fun bw bx =>Bd fun bV bz =>Ck fun ap =>Lt fun aa aq =>?_
   intro h;refine PQ hE K6 [[],[0],[],[2],[2,3],[],[5],[2,3,4,5,6],[],[2,3,4,5,6,7,8],[2,3,4,5,6,7,8,9],[2,3,4,5,6,7,8,9,10],[2,3,4,5,6,7,8,9,10,11],[0,1,2,3,4,5,6,7,8,9,10,11,12],[0,1,2,3,4,5,6,7,8,9,10,11,12,13],[0,1,2,3,4,5,6,7,8,9,10,11,12,13,14]] (by kernel_rfl) 11 [0,1] [1,2,3,6,38,39,40,46] (by kernel_rfl) (IK I3) (fr':=[(1,.ref 0 0),(2,.ref 1 0),(3,.bs false 2 (b.length) 0 (b.length)),(6,.ref 3 0),(38,.sl false (L Ad a.Zu1)),(39,i64 (a.Zu1.length:Int)),(40,i64 z),(46,.ref 3 3)]) (σ':=[.box [i64 a.Za,i64 a.Ref.Zb,i64 a.Ref.No,i64 a.Zn1,i64 a.Zb1,i64 a.Zc,i64 a.Zo1,i64 a.Zw,i64 a.To,i64 a.Code,i64 a.Zp1,i64 a.Zq1,i64 a.Zr1,i64 a.Zs1,.str a.Zt1,.sl false (L Ad a.Zu1)] false,.box [i64 0,i64 0,.sl true (L cU8 ([])),.sl true (L cApi_Value ([]))] false,.buf 4 (L cApi_Value b) false,.box [i64 c.Za,i64 c.N,.sl true (L cU8 ([])),.bs false 5 (aa.length) 0 (aa.length)] false,.box [i64 g,i64 i,.bool j] false,.buf 4 (L cApi_Value aa) false]) ⟨_,_,_,_,_,_,_,rfl,?_,(Ap (l:=[(50,_,_,_),(53,_,_,_),(55,_,_,_)]) (m:=[(57,107,[.sl false (L cApi_Value ([br,bu,bw]:List AoG))],[.box [i64 a.Za,i64 a.Ref.Zb,i64 a.Ref.No,i64 a.Zn1,i64 a.Zb1,i64 a.Zc,i64 a.Zo1,i64 a.Zw,i64 a.To,i64 a.Code,i64 a.Zp1,i64 a.Zq1,i64 a.Zr1,i64 a.Zs1,.str a.Zt1,.sl false (L Ad a.Zu1)] false,.box [i64 0,i64 0,.sl true (L cU8 ([])),.sl true (L cApi_Value ([]))] false,.buf 4 (L cApi_Value b) false,.box [i64 c.Za,i64 c.N,.sl true (L cU8 ([])),.bs false 5 (d.length) 0 (d.length)] false,.box [i64 g,i64 i,.bool j] false,.buf 4 (L cApi_Value d) false],_,_)]) ⟨AB  bt,AB  bv,AB  bx,trivial⟩ ⟨(wc (GJ bz) []),trivial⟩),?_⟩ ?_
   ·subst aq;simp only[go_sem,ap]
   ·subst aq;simp only[go_sem,ap]
   revert h;refine Bn <|Tn <|F0 [1,2,3,6,38,39,40] ?_
   exact Ln (ws [0,1,2,3,5])
  ·refine Sx <|Tx <|Ly bm bl <|Bx <|?_
   exact Jm ((ws (l':=[(1,.ref 0 0),(2,.ref 1 0),(3,.bs false 2 (b.length) 0 (b.length)),(6,.ref 3 0)]) (σ':=[.box [i64 a.Za,i64 a.Ref.Zb,i64 a.Ref.No,i64 a.Zn1,i64 a.Zb1,i64 a.Zc,i64 a.Zo1,i64 a.Zw,i64 a.To,i64 a.Code,i64 a.Zp1,i64 a.Zq1,i64 a.Zr1,i64 a.Zs1,.str a.Zt1,.sl false (L Ad a.Zu1)] false,.box [i64 0,i64 0,.sl true (L cU8 ([])),.sl true (L cApi_Value ([]))] false,.buf 4 (L cApi_Value b) false,.box [i64 c.Za,i64 c.N,.sl true (L cU8 ([])),.bs false 4 (d.length) 0 (d.length)] false,.buf 4 (L cApi_Value d) false]) [0,1,2,3,4]).trans (ws [0,1,2,3,4]))
 intro e;refine Rw (FL 3 3 rfl rfl rfl gs gs) ?_;refine Bd fun ab bA =>Ck fun bB =>Bd fun ar bC =>Lt fun ac bD =>De (σ':=[_,.box [i64 ar.Za,i64 ar.N,.sl true (L cU8 ([])),.bs false 2 (ac.length) 0 (ac.length)] false,.buf 4 (L cApi_Value ac) false,_,_]) [[],[],[1],[1,2],[],[1,2,3,4],[0,1,2,3,4,5],[0,1,2,3,4,5,6],[0,1,2,3,4,5,6,7]] [2] (Ap (l:=[(65,_,_,_)]) (m:=[(69,107,[.bs false 2 ((b++([ab,(AoG.mk c.Za c.N ([]) e)]:List AoG)).length) 0 ((b++([ab,(AoG.mk c.Za c.N ([]) e)]:List AoG)).length)],[.box [i64 a.Za,i64 a.Ref.Zb,i64 a.Ref.No,i64 a.Zn1,i64 a.Zb1,i64 a.Zc,i64 a.Zo1,i64 a.Zw,i64 a.To,i64 a.Code,i64 a.Zp1,i64 a.Zq1,i64 a.Zr1,i64 a.Zs1,.str a.Zt1,.sl false (L Ad a.Zu1)] false,.box [i64 0,i64 0,.sl true (L cU8 ([])),.sl true (L cApi_Value ([]))] false,.buf 4 (L cApi_Value (b++([ab,(AoG.mk c.Za c.N ([]) e)]:List AoG))) false,.box [i64 c.Za,i64 c.N,.sl true (L cU8 ([])),.sl false (L cApi_Value e)] false,.buf 4 (L cApi_Value e) true],_,_)]) ⟨SK  bA,trivial⟩ ⟨(wc (LS bC) [2]),trivial⟩) (Ew2 bB bD) ?_
 exact Sr <|Rr
theorem GX{a r}(h:Dx a=some r):Con B 46 [.agg (i64 a.Zb::i64 a.No::(C1 u8 a.Zv1.l++[i64 a.Zw1,i64 a.Zx1.Za,i64 a.Zx1.Ref.Zb,i64 a.Zx1.Ref.No,i64 a.Zx1.Zn1,i64 a.Zx1.Zb1,i64 a.Zx1.Zc,i64 a.Zx1.Zo1,i64 a.Zx1.Zw,i64 a.Zx1.To,i64 a.Zx1.Code,i64 a.Zx1.Zp1,i64 a.Zx1.Zq1,i64 a.Zx1.Zr1,i64 a.Zx1.Zs1,.str a.Zx1.Zt1,.sl false (L Ad a.Zx1.Zu1),u64 a.Sig.C,u64 a.Sig.S]))] [] (fun r' σ'=>r'=.bs false 0 (r.length) 0 (r.length)∧σ'=[.buf 4 (L cApi_Value r) false]):=by
 refine Co 0 19 [.tmp 2] Tryz.func46 (fun F hE=>?_) h;unfold Dx;refine T0 [1] ?_;refine Bd fun j c =>Bd fun k d =>Bd fun m e =>Bd fun n f =>Bd fun o g =>Lt fun b i =>De (fr':=[(2,.bs true 1 (b.length) 0 (b.length))]) (σ':=[_,.buf 4 (L cApi_Value b) false]) [[],[0],[0,1],[],[3],[0,1,2,3,4],[],[6],[0,1,2,3,4,5,6,7],[],[9],[0,1,2,3,4,5,6,7,8,9,10],[],[12],[0,1,2,3,4,5,6,7,8,9,10,11,12,13],[0,1,2,3,4,5,6,7,8,9,10,11,12,13,14],[0,1,2,3,4,5,6,7,8,9,10,11,12,13,14,15]] [2] (Fg (l:=[(5,_,_,_),(8,_,_,_),(11,_,_,_),(14,_,_,_),(17,_,_,_)]) ⟨Fk  c,Fk  d,Jg  e,Fk  f,Fs  g,trivial⟩) (Ew1 i) ?_
 exact Sr <|Ro [1]
theorem Kq{b r}(h:GK b=some r):Con B 51 [u64 b] [] (fun r' σ'=>r'=.agg [i64 r.Za,i64 r.N,.sl false (L cU8 r.B),.sl false (L cApi_Value r.L)]∧σ'=[]):=by
 refine Cw 23 [.cell 2 105] Tryz.func51 (fun F hE=>?_) h;unfold GK;refine T0 [0,2] ?_;refine Ck fun f =>Lt fun a g =>Te (fr':=[(0,_),(2,_),(3,.bs true 1 (a.length) 0 (a.length))]) (σ':=[_,.buf 1 (L cU8 a) false]) [0,2,3] Aa (Ew2 f g) ?_
 refine Ja (fun c=>⟨Aq 23 [(2,.ref 0 0),(3,.bs true 1 (c.length) 0 (c.length))],[.box [i64 0,i64 0,.sl true (L cU8 ([])),.sl true (L cApi_Value ([]))] false,.buf 1 (L cU8 c) false]⟩) ?_ ?_
 ·intro q;refine T0 [0,2,3,7,8] ?_;refine Sb ?_;refine Lo (fun(v:Int×List UInt8)=>(⟨Aq 23 [(0,u64 b),(2,.ref 0 0),(3,.bs true 1 (v.2.length) 0 (v.2.length)),(7,i64 (a.length:Int)),(8,i64 v.1)],[.box [i64 0,i64 0,.sl true (L cU8 ([])),.sl true (L cApi_Value ([]))] false,.buf 1 (L cU8 v.2) false]⟩:St)) (ws [0,1]) ?_;rintro⟨i,d⟩ s j k l;show CX b a i d=some j→_;unfold CX;refine T0 [0,2,3,7,8,9] ?_;refine Sq <|Cd ?_ ?_
  ·refine Sk <|Tn <|Sq <|Sb <|T0 [0,2,3,4,7,8] ?_
   refine Ck fun m =>Ck fun n =>Lt fun e o =>Fe (fr':=[(0,_),(2,_),(3,.bs true 1 (e.length) 0 (e.length)),(7,_),(8,_)]) (σ':=[_,.buf 1 (L cU8 e) false]) [0,2,3,7,8] Aa (Ew3 m (qR n) o) ?_
   refine Bn <|Tn <|F0 [0,2,3,7,8] ?_
   exact Ln (ws [0,1])
  ·refine Sx <|Tx <|Ly l k <|Bx <|?_
   exact Jm ((ws (l':=[(2,.ref 0 0),(3,.bs true 1 (d.length) 0 (d.length))]) (σ':=[.box [i64 0,i64 0,.sl true (L cU8 ([])),.sl true (L cApi_Value ([]))] false,.buf 1 (L cU8 d) false]) [0,1]).trans (ws [0,1]))
 intro c;refine Bd fun t p =>Te [2] (o1 22 (Jg p)) Ev ?_
 exact Sr <|Rr
theorem Ho{a r}(h:Iu a=some r):Con B 45 [.sl false (L cApi_Value a)] [] (fun r' σ'=>r'=.agg [i64 r.Za,i64 r.N,.sl false (L cU8 r.B),.sl false (L cApi_Value r.L)]∧σ'=[]):=by
 refine Cw 5 [.cell 2 105] Tryz.func45 (fun F hE=>?_) h;unfold Iu;refine T0 [0,2] ?_;refine T0 [2] ?_;exact Sr <|Rr
theorem KQ{rec_:AoG→Option (Int×Bool)}(hrec:∀{a:AoG} {r:Int×Bool},rec_ a=some r→Con B 78 [.agg [i64 a.Za,i64 a.N,.sl false (L cU8 a.B),.sl false (L cApi_Value a.L)]] [] (fun r' σ'=>r'=.tup [i64 r.1,.bool r.2]∧σ'=[])){a:AoG}{r:Int×Bool}(h:Ef rec_ a=some r):Con B 78 [.agg [i64 a.Za,i64 a.N,.sl false (L cU8 a.B),.sl false (L cApi_Value a.L)]] [] (fun r' σ'=>r'=.tup [i64 r.1,.bool r.2]∧σ'=[]):=by
 refine Ku (N:=64) (rs:=[.tmp 2,.tmp 3]) ok Tryz.func78 rfl (by decide +kernel) rfl rfl (Apm rfl) (fun F=>?_);have hE:=ok.env F;unfold Ef at h;show Run (B.env F) 0 _ ⟨Aq 64 [(0,.agg [i64 a.Za,i64 a.N,.sl false (L cU8 a.B),.sl false (L cApi_Value a.L)])],[]⟩ _;refine FG ?_;revert h;refine T0 [1,2] ?_;refine Jo (fun _=>⟨Aq 64 [],[]⟩) ?_ ?_
 ·intro ac b;refine T0 [1,2,9] ?_;refine Sb <|T0 [1,2,9,10] ?_
  refine Cd ?_ ?_
  ·refine Dw [[],[0],[0,1],[0,1,2],[0,1,2,3],[0,1,2,3,4],[0,1,2,3,4,5],[0,1,2,3,4,5,6],[0,1,2,3,4,5,6,7],[0,1,2,3,4,5,6,7,8],[0,1,2,3,4],[0,1,2,3,4,5,6,7,8,9,10]] [2,3] (fun f=>⟨Aq 64 [(2,i64 0),(3,.bool f)],[]⟩) ?_ ?_
   ·intro _;refine Sp (fun c=>?_) fun c=>?_
    ·exact Lf Aa (Ew1 c) (ws [])
    ·exact Lf Aa (Ew1 c) (ws [])
   intro f;exact Sr <|Br <|Jr b <|Rr
  ·refine T0 [1,2,9,22] ?_;refine Cd ?_ ?_
   ·refine Dw [[],[0],[0,1],[0,1,2],[0,1,2,3],[0,1,2,3,4],[0,1,2,3,4,5],[0,1,2,3,4,5,6],[0,1,2,3,4,5,6,7],[0,1,2,3],[0,1,2,3,4,5,6,7,8,9]] [2,3] (fun g=>⟨Aq 64 [(2,i64 0),(3,.bool g)],[]⟩) ?_ ?_
    ·intro _;refine Sp (fun d=>?_) fun d=>?_
     ·exact Lf Aa (Ew1 d) (ws [])
     ·exact Lf Aa (Ew1 d) (ws [])
    intro g;exact Sr <|Br <|Jr b <|Rr
   ·refine T0 [1,2,33] ?_;refine Cd ?_ ?_
    ·refine Sq ?_;refine Tw [1,2,43] (fun i=>⟨Aq 64 [(1,.ref 0 0),(2,i64 0),(43,.bool i)],[.box [i64 a.Za,i64 a.N,.sl false (L cU8 a.B),.sl false (L cApi_Value a.L)] false]⟩) ?_ ?_
     ·intro _;refine Sp (fun e=>?_) fun e=>?_
      ·exact Lf Aa (Ew1 e) (ws [0])
      ·exact Lf Aa (Ew1 e) (ws [0])
     intro i;refine Cd ?_ ?_
     ·refine T0 [2,3] ?_;exact Sr <|Tr <|Br <|Jr b <|Rr
     ·refine Sk <|Tn <|?_
      refine Jo (fun j=>⟨Aq 64 [(2,i64 j)],[]⟩) ?_ ?_
      ·intro ad n;refine T0 [2,45,46,47] ?_;refine Sb ?_;refine Lo (fun(v:Int×Int)=>(⟨Aq 64 [(2,i64 v.1),(45,.sl false (L cApi_Value a.L)),(46,i64 (a.L.length:Int)),(47,i64 v.2)],[]⟩:St)) (ws []) ?_;rintro⟨k,o⟩ ae p l m;show BG a rec_ k o=some p→_;unfold BG;refine T0 [2,45,46,47,48] ?_;refine Sq <|Cd ?_ ?_
       ·refine Sk <|Tn <|Sq <|Sb <|Ck fun q =>Lt fun s t =>Lt fun u w =>Lt fun x y =>Lt fun z aa =>Te (σ':=[.box [i64 s,i64 u,.sl false (L cU8 x),.sl false (L cApi_Value z)] false]) [2,5,45,46,47] Aa (Ew5 (qR q) t w y aa) ?_
        refine Bd fun af ab =>Te [2,6,7,45,46,47] (o1 53 (hrec ab)) Ev ?_
        refine Sq <|T0 [2,6,45,46,47,57] ?_
        refine Cd ?_ ?_
        ·refine T0 [2,3] ?_;exact Sr <|Tr <|Br <|Tr <|Lr m l <|Br <|Jr n <|Br <|Jr b <|Rr
        ·refine Sk <|Tn <|F0 [2,45,46,47] ?_
         refine Bn <|Tn <|F0 [2,45,46,47] ?_
         exact Ln (ws [])
       ·refine Sx <|Tx <|Lx m l <|Bx <|?_
        exact Jn ((ws (l':=[(2,i64 k)]) (σ':=[]) []).trans (ws []))
      intro j;refine T0 [2,3] ?_;exact Sr <|Br <|Jr b <|Rr
    ·exact Sk <|Bn <|Jn (ws [])
 intro _;refine T0 [2,3] ?_;exact Sr <|Rr
theorem K4(n:Nat):∀{a:AoG} {r:Int×Bool},D8 n a=some r→Con B 78 [.agg [i64 a.Za,i64 a.N,.sl false (L cU8 a.B),.sl false (L cApi_Value a.L)]] [] (fun r' σ'=>r'=.tup [i64 r.1,.bool r.2]∧σ'=[]):=by
 induction n with
 |zero=>intro a r h;cases h
 |succ n ih=>intro a r h;exact KQ ih h
theorem IC{a:AoG}{r:Int×Bool}(h:EA a=some r):Con B 78 [.agg [i64 a.Za,i64 a.N,.sl false (L cU8 a.B),.sl false (L cApi_Value a.L)]] [] (fun r' σ'=>r'=.tup [i64 r.1,.bool r.2]∧σ'=[]):=K4 _ h
theorem EY{a r}(h:BD a=some r):Con B 147 [u64 a] [] (fun r' σ'=>r'=i64 r∧σ'=[]):=by
 refine Cw 10 [.tmp 2] Tryz.func147 (fun F hE=>?_) h;unfold BD;refine T0 [0,2] ?_;refine Ja (fun b=>⟨Aq 10 [(2,i64 b)],[]⟩) ?_ ?_
 ·intro k;refine Sb ?_;refine Lo (fun(v:UInt64×Int)=>(⟨Aq 10 [(0,u64 v.1),(2,i64 v.2)],[]⟩:St)) (ws []) ?_;rintro⟨d,c⟩ l e f g;show AX d c=some e→_;unfold AX;refine Sq <|T0 [0,2,4] ?_
  refine Cd ?_ ?_
  ·refine Sk <|Tn <|Sq <|Sb <|F0 [0,2] ?_
   refine Bn <|Tn <|Lt fun i j =>Fe (fr':=[(0,u64 i),(2,_)]) [0,2] Aa (Ew1 j) ?_
   exact Ln (ws [])
  ·refine Sx <|Tx <|Ly g f <|Bx <|?_
   exact Jm ((ws (l':=[(2,i64 c)]) (σ':=[]) []).trans (ws []))
 intro b;refine T0 [2] ?_;exact Sr <|Rr
theorem JM{a b r}(h:Dh a b=some r):Con B 123 [.bs false 0 (a.length) 0 (a.length),i64 b] [.buf 1 (L cU8 a) false] (fun r' σ'=>r'=.bs false 0 (r.length) 0 (r.length)∧σ'=[.buf 1 (L cU8 r) false]):=by
 refine Co 1 48 [.tmp 4] Tryz.func123 (fun F hE=>?_) h;unfold Dh;refine T0 [0,1] ?_;refine T0 [0,1,5] ?_;refine Bd fun z i =>Te [0,1,5,6] (o1 12 (EY i)) Ev ?_
 refine Lt fun j k =>Te (fr':=[(0,_),(1,_),(5,_),(6,_),(7,u8 j)]) [0,1,5,6,7] Aa (Ew1 k) ?_
 refine Ja (fun(v:Int×UInt8)=>(⟨Aq 48 [(0,.bs false 0 (a.length) 0 (a.length)),(1,i64 b),(6,i64 v.1),(7,u8 v.2)],[.buf 1 (L cU8 a) false]⟩:St)) ?_ ?_
 ·intro aa;refine T0 [0,1,5,6,7,17] ?_;refine Cd ?_ ?_
  ·refine Bd fun ab l =>Te [0,1,6] (o1 22 (EY l)) Ev ?_
   refine Lt fun m n =>Fe (fr':=[(0,_),(1,_),(6,_),(7,u8 m)]) [0,1,6,7] Aa (Ew1 n) ?_
   exact Jm (ws [0])
  ·exact Sk <|Jm (ws [0])
 rintro⟨e,ac⟩;refine Ck fun o =>Lt fun f p =>Te (fr':=[(0,.bs false 0 (f.length) 0 (f.length)),(1,_),(6,_)]) (σ':=[.buf 1 (L cU8 f) false,_]) [0,1,6] Aa (Ew2 o p) ?_
 refine Ja (fun c=>⟨Aq 48 [(0,.bs false 0 (c.length) 0 (c.length))],[.buf 1 (L cU8 c) false]⟩) ?_ ?_
 ·intro ad;refine T0 [0,1,6,30,31] ?_;refine Sb ?_;refine Lo (fun(v:Int×List UInt8)=>(⟨Aq 48 [(0,.bs false 0 (v.2.length) 0 (v.2.length)),(1,i64 b),(6,i64 e),(30,i64 e),(31,i64 v.1)],[.buf 1 (L cU8 v.2) false]⟩:St)) (ws [0]) ?_;rintro⟨q,d⟩ ae s t u;show AY b e q d=some s→_;unfold AY;refine T0 [0,1,6,30,31,32] ?_;refine Sq <|Cd ?_ ?_
  ·refine Sk <|Tn <|Sq <|Sb <|T0 [0,1,6,8,30,31] ?_
   refine Ck fun w =>Ck fun x =>Lt fun g y =>Fe (fr':=[(0,.bs false 0 (g.length) 0 (g.length)),(1,_),(6,_),(30,_),(31,_)]) (σ':=[.buf 1 (L cU8 g) false,_]) [0,1,6,30,31] Aa (Ew3 w x y) ?_
   refine Bn <|Tn <|F0 [0,1,6,30,31] ?_
   exact Ln (ws [0])
  ·refine Sx <|Tx <|Ly u t <|Bx <|?_
   exact Jm ((ws (l':=[(0,.bs false 0 (d.length) 0 (d.length))]) (σ':=[.buf 1 (L cU8 d) false]) [0]).trans (ws [0]))
 intro c;refine T0 [4] ?_;exact Sr <|Ro [0]
theorem HE{rec_:(List UInt8)→AoG→Option (List UInt8)}(hrec:∀{b:List UInt8} {a:AoG} {r:List UInt8},rec_ b a=some r→Con B 79 [.bs false 0 (b.length) 0 (b.length),.agg [i64 a.Za,i64 a.N,.sl false (L cU8 a.B),.sl false (L cApi_Value a.L)]] [.buf 1 (L cU8 b) false] (fun r' σ'=>r'=.bs false 0 (r.length) 0 (r.length)∧σ'=[.buf 1 (L cU8 r) false])){b:List UInt8}{a:AoG}{r:List UInt8}(h:Cb rec_ b a=some r):Con B 79 [.bs false 0 (b.length) 0 (b.length),.agg [i64 a.Za,i64 a.N,.sl false (L cU8 a.B),.sl false (L cApi_Value a.L)]] [.buf 1 (L cU8 b) false] (fun r' σ'=>r'=.bs false 0 (r.length) 0 (r.length)∧σ'=[.buf 1 (L cU8 r) false]):=by
 refine L1 (N:=59) (rs:=[.tmp 4]) 1 rfl ok Tryz.func79 rfl (by decide +kernel) rfl rfl (Apm rfl) (fun F=>?_);have hE:=ok.env F;unfold Cb at h;show Run (B.env F) 1 _ ⟨Aq 59 [(0,.bs false 0 (b.length) 0 (b.length)),(1,.agg [i64 a.Za,i64 a.N,.sl false (L cU8 a.B),.sl false (L cApi_Value a.L)])],[.buf 1 (L cU8 b) false]⟩ _;refine FG ?_;revert h;refine T0 [0,3] ?_;refine Jo (fun _=>⟨Aq 59 [(0,.bs false 0 (b.length) 0 (b.length)),(3,.ref 1 0)],[.buf 1 (L cU8 b) false,.box [i64 a.Za,i64 a.N,.sl false (L cU8 a.B),.sl false (L cApi_Value a.L)] false]⟩) ?_ ?_
 ·intro aB w;refine T0 [0,3,10] ?_;refine Sb <|T0 [0,3,10,11] ?_
  refine Cd ?_ ?_
  ·refine Bd fun aC y =>Te [4] (Ap (l:=[]) (m:=[(16,123,[.bs false 0 (b.length) 0 (b.length),i64 a.N],[.buf 1 (L cU8 b) false,.box [i64 a.Za,i64 a.N,.sl false (L cU8 a.B),.sl false (L cApi_Value a.L)] false],_,_)]) trivial ⟨(wc (JM y) [0]),trivial⟩) Ev ?_
   exact Sr <|Br <|Jr w <|Ro [0]
  ·refine T0 [0,3,17] ?_;refine Cd ?_ ?_
   ·refine Ck fun z =>Lt fun i aa =>Te (fr':=[(0,.bs false 0 (i.length) 0 (i.length)),(3,_)]) (σ':=[.buf 1 (L cU8 i) false,_,_]) [0,3] Aa (Ew2 z aa) ?_
    refine Ja (fun d=>⟨Aq 59 [(0,.bs false 0 (d.length) 0 (d.length))],[.buf 1 (L cU8 d) false]⟩) ?_ ?_
    ·intro aD;refine T0 [0,23,24,25] ?_;refine Sb ?_;refine Lo (fun(v:Int×List UInt8)=>(⟨Aq 59 [(0,.bs false 0 (v.2.length) 0 (v.2.length)),(23,.sl false (L cU8 a.B)),(24,i64 (a.B.length:Int)),(25,i64 v.1)],[.buf 1 (L cU8 v.2) false]⟩:St)) (ws [0]) ?_;rintro⟨x,e⟩ aE ab ac ad;show AQ a x e=some ab→_;unfold AQ;refine T0 [0,23,24,25,26] ?_;refine Sq <|Cd ?_ ?_
     ·refine Sk <|Tn <|?_
      refine Ja (fun f=>⟨Aq 59 [(0,.bs false 0 (f.length) 0 (f.length)),(23,.sl false (L cU8 a.B)),(24,i64 (a.B.length:Int)),(25,i64 x)],[.buf 1 (L cU8 f) false]⟩) ?_ ?_
      ·intro aF;refine Sb <|Ck fun ae =>Te [0,6,23,24,25] Aa (Ew1 (qR ae)) ?_
       refine Ck fun af =>Lt fun j ag =>Te (fr':=[(0,.bs false 0 (j.length) 0 (j.length)),(6,_),(23,_),(24,_),(25,_)]) (σ':=[.buf 1 (L cU8 j) false,_]) [0,6,23,24,25] Aa (Ew2 af ag) ?_
       refine T0 [0,23,24,25,34] ?_;refine Cd ?_ ?_
       ·refine Ck fun ah =>Lt fun k ai =>Fe (fr':=[(0,.bs false 0 (k.length) 0 (k.length)),(23,_),(24,_),(25,_)]) (σ':=[.buf 1 (L cU8 k) false,_,_]) [0,23,24,25] Aa (Ew2 ah ai) ?_
        exact Bn <|Jm (ws [0])
       ·exact Sk <|Bn <|Jm (ws [0])
      intro f;refine F0 [0,23,24,25] ?_;exact Ln (ws [0])
     ·refine Sx <|Tx <|Ly ad ac <|Bx <|?_
      exact Jm ((ws (l':=[(0,.bs false 0 (e.length) 0 (e.length))]) (σ':=[.buf 1 (L cU8 e) false]) [0]).trans (ws [0]))
    intro d;refine Ck fun aj =>Lt fun n ak =>Te (fr':=[(4,.bs false 0 (n.length) 0 (n.length))]) (σ':=[.buf 1 (L cU8 n) false,_]) [4] Aa (Ew2 aj ak) ?_
    exact Sr <|Br <|Jr w <|Ro [0]
   ·exact Sk <|Bn <|Jn (ws [0,1])
 intro _;refine Ck fun al =>Lt fun o am =>Te (fr':=[(0,.bs false 0 (o.length) 0 (o.length)),(3,_)]) (σ':=[.buf 1 (L cU8 o) false,_,_]) [0,3] Aa (Ew2 al am) ?_
 refine Ja (fun g=>⟨Aq 59 [(0,.bs false 0 (g.length) 0 (g.length))],[.buf 1 (L cU8 g) false]⟩) ?_ ?_
 ·intro aG;refine T0 [0,46,47,48] ?_;refine Sb ?_;refine Lo (fun(v:Int×List UInt8)=>(⟨Aq 59 [(0,.bs false 0 (v.2.length) 0 (v.2.length)),(46,.sl false (L cApi_Value a.L)),(47,i64 (a.L.length:Int)),(48,i64 v.1)],[.buf 1 (L cU8 v.2) false]⟩:St)) (ws [0]) ?_;rintro⟨an,c⟩ aH ao ap aq;show AP a rec_ an c=some ao→_;unfold AP;refine T0 [0,46,47,48,49] ?_;refine Sq <|Cd ?_ ?_
  ·refine Sk <|Tn <|Sq <|Sb <|Ck fun ar =>Lt fun p au =>Lt fun q av =>Lt fun s aw =>Lt fun t ax =>Te (σ':=[_,.box [i64 p,i64 q,.sl false (L cU8 s),.sl false (L cApi_Value t)] false]) [0,8,46,47,48] Aa (Ew5 (qR ar) au av aw ax) ?_
   refine Bd fun aI ay =>Fe [0,46,47,48] (Ap (l:=[]) (m:=[(54,79,[.bs false 0 (c.length) 0 (c.length),.agg [i64 p,i64 q,.sl false (L cU8 s),.sl false (L cApi_Value t)]],[.buf 1 (L cU8 c) false,.box [i64 p,i64 q,.sl false (L cU8 s),.sl false (L cApi_Value t)] false],_,_)]) trivial ⟨(wc (hrec ay) [0]),trivial⟩) Ev ?_
   refine Bn <|Tn <|F0 [0,46,47,48] ?_
   exact Ln (ws [0])
  ·refine Sx <|Tx <|Ly aq ap <|Bx <|?_
   exact Jm ((ws (l':=[(0,.bs false 0 (c.length) 0 (c.length))]) (σ':=[.buf 1 (L cU8 c) false]) [0]).trans (ws [0]))
 intro g;refine Ck fun az =>Lt fun u aA =>Te (fr':=[(4,.bs false 0 (u.length) 0 (u.length))]) (σ':=[.buf 1 (L cU8 u) false,_]) [4] Aa (Ew2 az aA) ?_
 exact Sr <|Ro [0]
theorem Hx(n:Nat):∀{b:List UInt8} {a:AoG} {r:List UInt8},BC n b a=some r→Con B 79 [.bs false 0 (b.length) 0 (b.length),.agg [i64 a.Za,i64 a.N,.sl false (L cU8 a.B),.sl false (L cApi_Value a.L)]] [.buf 1 (L cU8 b) false] (fun r' σ'=>r'=.bs false 0 (r.length) 0 (r.length)∧σ'=[.buf 1 (L cU8 r) false]):=by
 induction n with
 |zero=>intro b a r h;cases h
 |succ n ih=>intro b a r h;exact HE ih h
theorem Ib{b:List UInt8}{a:AoG}{r:List UInt8}(h:E7 b a=some r):Con B 79 [.bs false 0 (b.length) 0 (b.length),.agg [i64 a.Za,i64 a.N,.sl false (L cU8 a.B),.sl false (L cApi_Value a.L)]] [.buf 1 (L cU8 b) false] (fun r' σ'=>r'=.bs false 0 (r.length) 0 (r.length)∧σ'=[.buf 1 (L cU8 r) false]):=Hx _ h
theorem HN{a r}(h:DW a=some r):Con B 44 [.agg [i64 a.Za,i64 a.N,.sl false (L cU8 a.B),.sl false (L cApi_Value a.L)]] [] (fun r' σ'=>r'=.tup [.sl false (L cU8 r.1),i64 r.2]∧σ'=[]):=by
 refine Cw 22 [.tmp 2,.tmp 3] Tryz.func44 (fun F hE=>?_) h;unfold DW;refine T0 [1] ?_;refine Bd fun d b =>Te [1,4,5] (o1 9 (IC b)) Ev ?_
 refine Sq <|T0 [1,4,13] ?_
 refine Cd ?_ ?_
 ·refine T0 [2,3] ?_;exact Sr <|Tr <|Rr
 ·refine Sk <|Tn <|Sq <|T0 [1,15] ?_
  refine Cd ?_ ?_
  ·refine T0 [2,3] ?_;exact Sr <|Tr <|Rr
  ·refine Sk <|Tn <|Bd fun e c =>Te [6] (Ap (l:=[]) (m:=[(17,79,[.sl true (L cU8 ([])),.agg [i64 a.Za,i64 a.N,.sl false (L cU8 a.B),.sl false (L cApi_Value a.L)]],[.box [i64 a.Za,i64 a.N,.sl false (L cU8 a.B),.sl false (L cApi_Value a.L)] false],_,_)]) trivial ⟨(Ab1 1 (args':=[.bs true 1 0 0 0,.agg [i64 a.Za,i64 a.N,.sl false (L cU8 a.B),.sl false (L cApi_Value a.L)]]) gs (wc (Ib c) [1])),trivial⟩) Ev ?_
   refine Sq <|T0 [6,20] ?_
   refine Cd ?_ ?_
   ·refine T0 [2,3] ?_;exact Sr <|Tr <|Rr
   ·refine Sk <|Tn <|T0 [2,3] ?_
    exact Sr <|Rr
theorem FF{a r}(h:CH a=some r):Con B 17 [.agg (i64 a.Zb::i64 a.No::(C1 u8 a.Zv1.l++[i64 a.Zw1,i64 a.Zx1.Za,i64 a.Zx1.Ref.Zb,i64 a.Zx1.Ref.No,i64 a.Zx1.Zn1,i64 a.Zx1.Zb1,i64 a.Zx1.Zc,i64 a.Zx1.Zo1,i64 a.Zx1.Zw,i64 a.Zx1.To,i64 a.Zx1.Code,i64 a.Zx1.Zp1,i64 a.Zx1.Zq1,i64 a.Zx1.Zr1,i64 a.Zx1.Zs1,.str a.Zx1.Zt1,.sl false (L Ad a.Zx1.Zu1),u64 a.Sig.C,u64 a.Sig.S]))] [] (fun r' σ'=>r'=.tup [.sl false (L cU8 r.1),i64 r.2]∧σ'=[]):=by
 refine Cw 22 [.tmp 2,.tmp 3] Tryz.func17 (fun F hE=>?_) h;unfold CH;refine T0 [1] ?_;refine Bd fun e f =>Bd fun g i =>Bd fun j k =>Bd fun b n =>Ck fun c =>Bd fun q o =>Bd fun d p =>?_
 intro h;refine SU hE K6 [[],[0],[],[2],[2,3],[0,1,2,3,4],[],[6],[6,7],[0,1,2,3,4,5,6,7,8],[0,1,2,3,4,5,6,7,8,9],[0,1,2,3,4,5,6,7,8,9,10],[0,1,2,3,4,5,6,7,8,9,10,11],[0,1,2,3,4,5,6,7,8,9,10,11,12],[0,1,2,3,4,5,6,7,8,9,10,11,12,13],[0,1,2,3,4,5,6,7,8,9,10,11,12,13,14],[0,1,2,3,4,5,6,7,8,9,10,11,12,13,14,15],[0,1,2,3,4,5,6,7,8,9,10,11,12,13,14,15],[0,1,2,3,4,5,6,7,8,9,10,11,12,13,14,15,16,17],[0,1,2,3,4,5,6,7,8,9,10,11,12,13,14,15,16,17,18]] (by kernel_rfl) [(),(),(),(),(),(),(),(),()] [(),(),(),(),(),(),()] (by kernel_rfl) [(1,0),(6,0),(7,0),(10,0),(11,0)] [(5,0)] [1,6,7,10,11] [1,2,3,6,7,10,11] (by kernel_rfl) (fr':=[(1,.ref 0 0),(2,.sl false (L cU8 d.1)),(3,i64 d.2),(6,.ref 0 51),(7,.ref 0 51),(10,.ref 0 51),(11,.ref 0 52)]) (σ':=[.box (i64 a.Zb::i64 a.No::(C1 u8 a.Zv1.l++[i64 a.Zw1,i64 a.Zx1.Za,i64 a.Zx1.Ref.Zb,i64 a.Zx1.Ref.No,i64 a.Zx1.Zn1,i64 a.Zx1.Zb1,i64 a.Zx1.Zc,i64 a.Zx1.Zo1,i64 a.Zx1.Zw,i64 a.Zx1.To,i64 a.Zx1.Code,i64 a.Zx1.Zp1,i64 a.Zx1.Zq1,i64 a.Zx1.Zr1,i64 a.Zx1.Zs1,.str a.Zx1.Zt1,.sl false (L Ad a.Zx1.Zu1),u64 a.Sig.C,u64 a.Sig.S])) false,.buf 4 (L cApi_Value (e++([b]:List AoG))) true,.buf 4 (L cApi_Value ([g,j]:List AoG)) true,.buf 4 (L cApi_Value ([b]:List AoG)) false]) ⟨_,_,(Ap (l:=[(9,_,_,_),(13,_,_,_),(15,_,_,_),(18,_,_,_),(19,_,_,_)]) (m:=[(5,46,[.agg (i64 a.Zb::i64 a.No::(C1 u8 a.Zv1.l++[i64 a.Zw1,i64 a.Zx1.Za,i64 a.Zx1.Ref.Zb,i64 a.Zx1.Ref.No,i64 a.Zx1.Zn1,i64 a.Zx1.Zb1,i64 a.Zx1.Zc,i64 a.Zx1.Zo1,i64 a.Zx1.Zw,i64 a.Zx1.To,i64 a.Zx1.Code,i64 a.Zx1.Zp1,i64 a.Zx1.Zq1,i64 a.Zx1.Zr1,i64 a.Zx1.Zs1,.str a.Zx1.Zt1,.sl false (L Ad a.Zx1.Zu1),u64 a.Sig.C,u64 a.Sig.S]))],[.box (i64 a.Zb::i64 a.No::(C1 u8 a.Zv1.l++[i64 a.Zw1,i64 a.Zx1.Za,i64 a.Zx1.Ref.Zb,i64 a.Zx1.Ref.No,i64 a.Zx1.Zn1,i64 a.Zx1.Zb1,i64 a.Zx1.Zc,i64 a.Zx1.Zo1,i64 a.Zx1.Zw,i64 a.Zx1.To,i64 a.Zx1.Code,i64 a.Zx1.Zp1,i64 a.Zx1.Zq1,i64 a.Zx1.Zr1,i64 a.Zx1.Zs1,.str a.Zx1.Zt1,.sl false (L Ad a.Zx1.Zu1),u64 a.Sig.C,u64 a.Sig.S])) false],_,_)]) ⟨Kq  i,Kq  k,Ho  n,Ho  o,HN  p,trivial⟩ ⟨(wc (GX f) []),trivial⟩),(by repeat' (first|exact trivial|(refine And.intro ?_ ?_)|exact fun _=>rfl|exact fun h=>absurd h (by decide))),_,_,(by simp only[go_sem,c];exact AK),(by exact⟨rfl,rfl,rfl,rfl,rfl,trivial⟩),(by simp only[go_sem,c];exact AK)⟩ ?_;revert h;exact Sr <|Rr
theorem AG{a b r}(h:Au a b=some r):Con B 165 [u32 a,i64 b] [] (fun r' σ'=>r'=u32 r∧σ'=[]):=by
 refine Cw 17 [.tmp 4] Tryz.func165 (fun F hE=>?_) h;unfold Au;refine T0 [0,1] ?_;refine Lt fun c d =>Te (fr':=[(0,_),(5,u64 c)]) [0,5] Aa (Ew1 d) ?_
 refine Lt fun e f =>Te (fr':=[(4,u32 e)]) [4] Aa (Ew1 f) ?_
 exact Sr <|Rr
theorem LF{a b r}(h:Gl a b=some r):Con B 148 [.agg (C1 u32 a.l),.sl false (L cU8 b)] [] (fun r' σ'=>r'=.agg (C1 u32 r.l)∧σ'=[]):=by
 refine Cw 195 [.cell 4 221] Tryz.func148 (fun F hE=>?_) h;unfold Gl;refine T0 [1,2,4] ?_;refine T0 [1,2,4,5] ?_;refine Ja (fun e=>⟨Aq 195 [(2,.ref 0 0),(4,.ref 1 0),(5,.ref 2 0)],[.box (C1 u32 a.l) false,.box (C1 u32 (Arr.rep 8 (0:UInt32)).l) false,.box (C1 u32 e.l) false]⟩) ?_ ?_
 ·intro bh;refine T0 [1,2,4,5,19] ?_;refine Sb ?_;refine Lo (fun(v:Int×Arr UInt32 64)=>(⟨Aq 195 [(1,.sl false (L cU8 b)),(2,.ref 0 0),(4,.ref 1 0),(5,.ref 2 0),(19,i64 v.1)],[.box (C1 u32 a.l) false,.box (C1 u32 (Arr.rep 8 (0:UInt32)).l) false,.box (C1 u32 v.2.l) false]⟩:St)) (ws [0,1,2]) ?_;rintro⟨ac,f⟩ bi ad ae af;show FD b ac f=some ad→_;unfold FD;refine T0 [1,2,4,5,19,20] ?_;refine Sq <|Cd ?_ ?_
  ·refine Sk <|Tn <|Sq <|Sb <|T0 [1,2,4,5,6,19] ?_
   refine Ck fun ag =>Ck fun ah =>Ck fun ai =>Ck fun aj =>Ck fun ak =>Lt fun al am =>Ge (σ':=[_,_,.box (C1 u32 al.l) false]) [[],[],[],[2],[1,2,3],[1,2,3,4],[1,2,3,4,5],[1,2,3,4,5,6],[],[],[9],[9,10],[8,9,10,11],[8,9,10,11,12],[8,9,10,11,12,13],[8,9,10,11,12,13,14],[1,2,3,4,5,6,7,8,9,10,11,12,13,14,15],[],[],[18],[18,19],[17,18,19,20],[17,18,19,20,21],[17,18,19,20,21,22],[17,18,19,20,21,22,23],[1,2,3,4,5,6,7,8,9,10,11,12,13,14,15,16,17,18,19,20,21,22,23,24],[],[],[27],[27,28],[26,27,28,29],[26,27,28,29,30],[26,27,28,29,30,31],[1,2,3,4,5,6,7,8,9,10,11,12,13,14,15,16,17,18,19,20,21,22,23,24,25,26,27,28,29,30,31,32],[0,1,2,3,4,5,6,7,8,9,10,11,12,13,14,15,16,17,18,19,20,21,22,23,24,25,26,27,28,29,30,31,32,33],[0,1,2,3,4,5,6,7,8,9,10,11,12,13,14,15,16,17,18,19,20,21,22,23,24,25,26,27,28,29,30,31,32,33,34]] [1,2,4,5,19] Aa (Ev (by simp only[go_sem,qR ag,qR ah,qR ai,qR aj,qR ak,am];exact AK)) ?_
   refine Bn <|Tn <|F0 [1,2,4,5,19] ?_
   exact Ln (ws [0,1,2])
  ·refine Sx <|Tx <|Ly af ae <|Bx <|?_
   exact Jm ((ws (l':=[(2,.ref 0 0),(4,.ref 1 0),(5,.ref 2 0)]) (σ':=[.box (C1 u32 a.l) false,.box (C1 u32 (Arr.rep 8 (0:UInt32)).l) false,.box (C1 u32 f.l) false]) [0,1,2]).trans (ws [0,1,2]))
 intro e;refine Ja (fun c=>⟨Aq 195 [(2,.ref 0 0),(4,.ref 1 0),(5,.ref 2 0)],[.box (C1 u32 a.l) false,.box (C1 u32 (Arr.rep 8 (0:UInt32)).l) false,.box (C1 u32 c.l) false]⟩) ?_ ?_
 ·intro bj;refine T0 [2,4,5,7] ?_;refine Sb ?_;refine Lo (fun(v:Int×Arr UInt32 64)=>(⟨Aq 195 [(2,.ref 0 0),(4,.ref 1 0),(5,.ref 2 0),(7,i64 v.1)],[.box (C1 u32 a.l) false,.box (C1 u32 (Arr.rep 8 (0:UInt32)).l) false,.box (C1 u32 v.2.l) false]⟩:St)) (ws [0,1,2]) ?_;rintro⟨an,g⟩ bk ao ap aq;show FV an g=some ao→_;unfold FV;refine Sq <|T0 [2,4,5,7,59] ?_
  refine Cd ?_ ?_
  ·refine Sk <|Tn <|Sq <|Sb <|Ck fun ar =>Ck fun au =>Lt fun av aw =>Lt fun ax ay =>De (fr':=[(2,_),(4,_),(5,_),(7,_),(8,u32 av),(9,u32 ax)]) [[],[0],[0,1],[0,1,2],[],[4],[4,5],[4,5,6],[0,1,2,3],[0,1,2,3,4,5,6,7,8]] [2,4,5,7,8,9] Aa (Ew4 (qR ar) (qR au) aw ay) ?_
   refine Bd fun bl az =>Bd fun bm aA =>Lt fun s0_5401 aB =>Te (fr':=[(2,_),(4,_),(5,_),(7,_),(9,_),(10,u32 s0_5401)]) [2,4,5,7,9,10] (o2 71 (AG az) 73 (AG aA)) (Ew1 aB) ?_
   refine Bd fun bn aC =>Bd fun bo aD =>Lt fun s1_5407 aE =>Te (fr':=[(2,_),(4,_),(5,_),(7,_),(10,_),(11,u32 s1_5407)]) [2,4,5,7,10,11] (o2 79 (AG aC) 81 (AG aD)) (Ew1 aE) ?_
   refine Ck fun aF =>Ck fun aG =>Ck fun aH =>Lt fun aI aJ =>Ge (σ':=[_,_,.box (C1 u32 aI.l) false]) [[],[],[1],[1,2],[1,2,3],[],[1,2,3,4,5],[],[7],[7,8],[7,8,9],[1,2,3,4,5,6,7,8,9,10],[],[1,2,3,4,5,6,7,8,9,10,11,12],[0,1,2,3,4,5,6,7,8,9,10,11,12,13],[0,1,2,3,4,5,6,7,8,9,10,11,12,13,14]] [2,4,5,7] Aa (Ew4 (qR aF) (qR aG) (qR aH) aJ) ?_
   refine Bn <|Tn <|F0 [2,4,5,7] ?_
   exact Ln (ws [0,1,2])
  ·refine Sx <|Tx <|Ly aq ap <|Bx <|?_
   exact Jm ((ws (l':=[(2,.ref 0 0),(4,.ref 1 0),(5,.ref 2 0)]) (σ':=[.box (C1 u32 a.l) false,.box (C1 u32 (Arr.rep 8 (0:UInt32)).l) false,.box (C1 u32 g.l) false]) [0,1,2]).trans (ws [0,1,2]))
 intro c;refine T0 [2,4,5,12] ?_;refine Ja (fun d=>⟨Aq 195 [(2,.ref 0 0),(4,.ref 1 0),(12,.ref 2 0)],[.box (C1 u32 a.l) false,.box (C1 u32 (Arr.rep 8 (0:UInt32)).l) false,.box (C1 u32 d.l) false]⟩) ?_ ?_
 ·intro bp;refine T0 [2,4,5,12,102] ?_;refine Sb ?_;refine Lo (fun(v:Int×Arr UInt32 8)=>(⟨Aq 195 [(2,.ref 0 0),(4,.ref 1 0),(5,.ref 2 0),(12,.ref 3 0),(102,i64 v.1)],[.box (C1 u32 a.l) false,.box (C1 u32 (Arr.rep 8 (0:UInt32)).l) false,.box (C1 u32 c.l) false,.box (C1 u32 v.2.l) false]⟩:St)) (ws [0,1,2,3]) ?_;rintro⟨aK,i⟩ bq aL aM aN;show Dt c aK i=some aL→_;unfold Dt;refine T0 [2,4,5,12,102,103] ?_;refine Sq <|Cd ?_ ?_
  ·refine Sk <|Tn <|Sq <|Sb <|T0 [2,4,5,12,13,102] ?_
   have j:InR 0 8:=by decide
   have k:InR 4 8:=by decide
   refine De [[],[0],[],[2],[0,1],[0,1,2,3,4]] [2,4,5,12,13,14,15,102] Aa (Ev (by simp only[go_sem,j,j.2,k,k.2];exact AK)) ?_;have m:InR 7 8:=by decide
   refine Bd fun aO aP =>Bd fun aQ aR =>Bd fun aS aT =>?_
   have n:InR 5 8:=by decide
   have o:InR 6 8:=by decide
   refine Ck fun aU =>Ck fun aV =>Lt fun aW aX =>De (fr':=[(2,_),(4,_),(5,_),(12,_),(14,_),(15,_),(16,u32 aW),(102,_)]) [[],[0],[],[2],[],[2,3,4],[2,3,4,5],[],[2,3,4,5,7],[2,3,4,5,6,7,8],[0,1,2,3,4,5,6,7,8,9],[],[],[12],[11,12,13],[],[15],[],[17],[15,16,17,18],[11,12,13,14,15,16,17,18,19],[0,1,2,3,4,5,6,7,8,9,10,11,12,13,14,15,16,17,18,19,20],[],[22],[22,23],[0,1,2,3,4,5,6,7,8,9,10,11,12,13,14,15,16,17,18,19,20,21,22,23,24],[],[26],[26,27],[0,1,2,3,4,5,6,7,8,9,10,11,12,13,14,15,16,17,18,19,20,21,22,23,24,25,26,27,28],[0,1,2,3,4,5,6,7,8,9,10,11,12,13,14,15,16,17,18,19,20,21,22,23,24,25,26,27,28,29]] [2,4,5,12,14,15,16,102] (Fg (l:=[(112,_,_,u32 aO),(114,_,_,u32 aQ),(117,_,_,u32 aS)]) ⟨AG  aP,AG  aR,AG  aT,trivial⟩) (Ev (by simp only[go_sem,m,m.2,n,n.2,o,o.2,qR aU,qR aV,aX];exact AK)) ?_
   refine Bd fun aY aZ =>Bd fun a0 a1 =>Bd fun a2 a3 =>?_
   have p:InR 1 8:=by decide
   have q:InR 2 8:=by decide
   have s:InR 1 8:=by decide
   have t:InR 2 8:=by decide
   refine Lt fun a4 a5 =>De (fr':=[(2,_),(4,_),(5,_),(12,_),(14,_),(15,_),(16,_),(17,u32 a4),(102,_)]) [[],[0],[],[0,1,2],[0,1,2,3],[],[0,1,2,3,5],[0,1,2,3,4,5,6],[],[],[9],[8,9,10],[],[],[13],[12,13,14],[8,9,10,11,12,13,14,15],[],[17],[],[19],[17,18,19,20],[8,9,10,11,12,13,14,15,16,17,18,19,20,21],[0,1,2,3,4,5,6,7,8,9,10,11,12,13,14,15,16,17,18,19,20,21,22],[0,1,2,3,4,5,6,7,8,9,10,11,12,13,14,15,16,17,18,19,20,21,22,23]] [2,4,5,12,14,15,16,17,102] (Fg (l:=[(140,_,_,u32 aY),(142,_,_,u32 a0),(145,_,_,u32 a2)]) ⟨AG  aZ,AG  a1,AG  a3,trivial⟩) (Ev (by simp only[go_sem,p,p.2,q,q.2,s,s.2,t,t.2,a5];exact AK)) ?_
   have u:InR 1 8:=by decide
   have w:InR 2 8:=by decide
   have x:InR 3 8:=by decide
   have y:InR 5 8:=by decide
   have z:InR 6 8:=by decide
   refine Lt fun a6 a7 =>Fe (σ':=[_,.box (C1 u32 (Arr.rep 8 (0:UInt32)).l) false,_,.box (C1 u32 a6.l) false]) [2,4,5,12,102] Aa (Ev (by simp only[go_sem,u,u.2,w,w.2,x,x.2,y,y.2,z,z.2,Ji,JO,H1,a7];exact AK)) ?_
   refine Bn <|Tn <|F0 [2,4,5,12,102] ?_
   exact Ln (ws [0,1,2,3])
  ·refine Sx <|Tx <|Ly aN aM <|Bx <|?_
   exact Jm ((ws (l':=[(2,.ref 0 0),(4,.ref 1 0),(12,.ref 2 0)]) (σ':=[.box (C1 u32 a.l) false,.box (C1 u32 (Arr.rep 8 (0:UInt32)).l) false,.box (C1 u32 i.l) false]) [0,1,3]).trans (ws [0,1,2]))
 intro d;refine Ja (fun aa=>⟨Aq 195 [(2,.ref 0 0),(4,.ref 1 0)],[.box (C1 u32 aa.l) false,.box (C1 u32 (Arr.rep 8 (0:UInt32)).l) false]⟩) ?_ ?_
 ·intro br;refine T0 [2,4,12,182] ?_;refine Sb ?_;refine Lo (fun(v:Int×Arr UInt32 8)=>(⟨Aq 195 [(2,.ref 0 0),(4,.ref 1 0),(12,.ref 2 0),(182,i64 v.1)],[.box (C1 u32 v.2.l) false,.box (C1 u32 (Arr.rep 8 (0:UInt32)).l) false,.box (C1 u32 d.l) false]⟩:St)) (ws [0,1,2]) ?_;rintro⟨a8,ab⟩ bs a9 ba bb;show FQ d a8 ab=some a9→_;unfold FQ;refine T0 [2,4,12,182,183] ?_;refine Sq <|Cd ?_ ?_
  ·refine Sk <|Tn <|Sq <|Sb <|T0 [2,4,12,18,182] ?_
   refine Ck fun bc =>Ck fun bd =>Ck fun be =>Lt fun bf bg =>Ge (σ':=[.box (C1 u32 bf.l) false,_,_]) [[],[0],[0,1],[],[3],[3,4],[0,1,2,3,4,5],[0,1,2,3,4,5,6],[0,1,2,3,4,5,6,7]] [2,4,12,182] Aa (Ew4 (qR bc) (qR bd) (qR be) bg) ?_
   refine Bn <|Tn <|F0 [2,4,12,182] ?_
   exact Ln (ws [0,1,2])
  ·refine Sx <|Tx <|Ly bb ba <|Bx <|?_
   exact Jm ((ws (l':=[(2,.ref 0 0),(4,.ref 1 0)]) (σ':=[.box (C1 u32 ab.l) false,.box (C1 u32 (Arr.rep 8 (0:UInt32)).l) false]) [0,1]).trans (ws [0,1]))
 intro aa;refine T0 [4] ?_;exact Sr <|Rr
theorem P2{d r}(h:KA d=some r):Con B 125 [.sl false (L (cSl cU8) d)] [] (fun r' σ'=>r'=.agg (C1 u8 r.l)∧σ'=[]):=by
 refine Cw 72 [.cell 2 42] Tryz.func125 (fun F hE=>?_) h;unfold KA;refine T0 [0,2] ?_;refine T0 [0,2,3] ?_;refine Ja (fun e=>⟨Aq 72 [(2,.ref 0 0),(3,.bs false 1 (e.length) 0 (e.length))],[.box (C1 u8 (Arr.rep 32 (0:UInt8)).l) false,.buf 1 (L cU8 e) false]⟩) ?_ ?_
 ·intro aQ;refine T0 [2,3,10,11,12] ?_;refine Sb ?_;refine Lo (fun(v:Int×List UInt8)=>(⟨Aq 72 [(2,.ref 0 0),(3,.bs false 1 (v.2.length) 0 (v.2.length)),(10,.sl false (L (cSl cU8) d)),(11,i64 (d.length:Int)),(12,i64 v.1)],[.box (C1 u8 (Arr.rep 32 (0:UInt8)).l) false,.buf 1 (L cU8 v.2) false]⟩:St)) ((Qt 3 1 rfl).trans (ws [0,1])) ?_;rintro⟨w,f⟩ aR x y z;show H7 d w f=some x→_;unfold H7;refine T0 [2,3,10,11,12,13] ?_;refine Sq <|Cd ?_ ?_
  ·refine Sk <|Tn <|Sq <|Sb <|Ck fun aa =>Lt fun ab ac =>Te (fr':=[(2,_),(3,_),(5,.sl false (L cU8 ab)),(10,_),(11,_),(12,_)]) [2,3,5,10,11,12] Aa (Ew2 (qR aa) ac) ?_
   refine Ck fun ad =>Lt fun m ae =>Fe (fr':=[(2,_),(3,.bs false 1 (m.length) 0 (m.length)),(10,_),(11,_),(12,_)]) (σ':=[_,.buf 1 (L cU8 m) false]) [2,3,10,11,12] Aa (Ew2 ad ae) ?_
   refine Bn <|Tn <|F0 [2,3,10,11,12] ?_
   exact Ln (ws [0,1])
  ·refine Sx <|Tx <|Ly z y <|Bx <|?_
   exact Jm ((ws (l':=[(2,.ref 0 0),(3,.bs false 1 (f.length) 0 (f.length))]) (σ':=[.box (C1 u8 (Arr.rep 32 (0:UInt8)).l) false,.buf 1 (L cU8 f) false]) [0,1]).trans (ws [0,1]))
 intro e;refine Lt fun c af =>Te (fr':=[(2,_),(3,_),(6,u64 c)]) [2,3,6] Aa (Ew1 af) ?_
 refine Ck fun ag =>Lt fun n ah =>Te (fr':=[(2,_),(3,.bs false 1 (n.length) 0 (n.length)),(6,_)]) (σ':=[_,.buf 1 (L cU8 n) false,_]) [2,3,6] Aa (Ew2 ag ah) ?_
 refine Ja (fun g=>⟨Aq 72 [(2,.ref 0 0),(3,.bs false 1 (g.length) 0 (g.length)),(6,u64 c)],[.box (C1 u8 (Arr.rep 32 (0:UInt8)).l) false,.buf 1 (L cU8 g) false]⟩) ?_ ?_
 ·intro aS;refine Sb ?_;refine Lo (fun a=>⟨Aq 72 [(2,.ref 0 0),(3,.bs false 1 (a.length) 0 (a.length)),(6,u64 c)],[.box (C1 u8 (Arr.rep 32 (0:UInt8)).l) false,.buf 1 (L cU8 a) false]⟩) (ws [0,1]) ?_;rintro a aT ai aj ak;show HJ a=some ai→_;unfold HJ;refine Sq ?_;have al:¬(64:Int)=0:=by decide
  refine Te [2,3,6,30] Aa (Ew1 al) ?_;refine Cd ?_ ?_
  ·refine Sk <|Tn <|Sb <|Ck fun am =>Lt fun o an =>Fe (fr':=[(2,_),(3,.bs false 1 (o.length) 0 (o.length)),(6,_)]) (σ':=[_,.buf 1 (L cU8 o) false,_]) [2,3,6] Aa (Ew2 am an) ?_
   exact Bn <|Ln (ws [0,1])
  ·refine Sx <|Tx <|Ly ak aj <|Bx <|?_
   exact Jm ((ws (l':=[(2,.ref 0 0),(3,.bs false 1 (a.length) 0 (a.length)),(6,u64 c)]) (σ':=[.box (C1 u8 (Arr.rep 32 (0:UInt8)).l) false,.buf 1 (L cU8 a) false]) [0,1]).trans (ws [0,1]))
 intro g;refine Ja (fun b=>⟨Aq 72 [(2,.ref 0 0),(3,.bs false 1 (b.length) 0 (b.length))],[.box (C1 u8 (Arr.rep 32 (0:UInt8)).l) false,.buf 1 (L cU8 b) false]⟩) ?_ ?_
 ·intro aU;refine T0 [2,3,6,7] ?_;refine Sb ?_;refine Lo (fun(v:Int×List UInt8)=>(⟨Aq 72 [(2,.ref 0 0),(3,.bs false 1 (v.2.length) 0 (v.2.length)),(6,u64 c),(7,i64 v.1)],[.box (C1 u8 (Arr.rep 32 (0:UInt8)).l) false,.buf 1 (L cU8 v.2) false]⟩:St)) (ws [0,1]) ?_;rintro⟨ao,i⟩ aV ap aq ar;show H6 c ao i=some ap→_;unfold H6;refine Sq <|T0 [2,3,6,7,35] ?_
  refine Cd ?_ ?_
  ·refine Sk <|Tn <|Sq <|Sb <|Ck fun au =>Ck fun av =>Lt fun p aw =>Fe (fr':=[(2,_),(3,.bs false 1 (p.length) 0 (p.length)),(6,_),(7,_)]) (σ':=[_,.buf 1 (L cU8 p) false,_]) [2,3,6,7] Aa (Ew3 au av aw) ?_
   refine Bn <|Tn <|F0 [2,3,6,7] ?_
   exact Ln (ws [0,1])
  ·refine Sx <|Tx <|Ly ar aq <|Bx <|?_
   exact Jm ((ws (l':=[(2,.ref 0 0),(3,.bs false 1 (i.length) 0 (i.length))]) (σ':=[.box (C1 u8 (Arr.rep 32 (0:UInt8)).l) false,.buf 1 (L cU8 i) false]) [0,1]).trans (ws [0,1]))
 intro b;refine Lt fun ax ay =>Te (σ':=[.box (C1 u8 (Arr.rep 32 (0:UInt8)).l) false,_,.box (C1 u32 ax.l) false]) [2,3,8] Aa (Ev (by simp only[go_sem,Ji,JO,H1,ay];exact AK)) ?_
 refine Ja (fun j=>⟨Aq 72 [(2,.ref 0 0),(8,.ref 1 0)],[.box (C1 u8 (Arr.rep 32 (0:UInt8)).l) false,.box (C1 u32 j.l) false]⟩) ?_ ?_
 ·intro aW;refine Sb ?_;refine Lo (fun⟨q,s,k⟩=>⟨Aq 72 [(2,.ref 0 0),(3,.bs false 1 (b.length) q s),(8,.ref 2 0)],[.box (C1 u8 (Arr.rep 32 (0:UInt8)).l) false,.buf 1 (L cU8 b) false,.box (C1 u32 k.l) false]⟩) (ws [0,1,2]) ?_;rintro⟨q,s,k⟩ aX az aA aB;show HG b q s k=some az→_;unfold HG;refine Sq <|T0 [2,3,8,48] ?_
  refine Cd ?_ ?_
  ·refine Sk <|Tn <|Sq <|Sb <|Ck fun aC =>Bd fun aY aD =>Ge [[],[],[1],[0,1,2],[0,1,2,3]] [2,3,8] (o1 54 (LF aD)) (Ew1 aC) ?_
   refine Bn <|Tn <|Ck fun aE =>Fe [2,3,8] Aa (Ew1 aE) ?_
   exact Ln (ws [0,1,2])
  ·refine Sx <|Tx <|Ly aB aA <|Bx <|?_
   exact Jm ((ws (l':=[(2,.ref 0 0),(8,.ref 1 0)]) (σ':=[.box (C1 u8 (Arr.rep 32 (0:UInt8)).l) false,.box (C1 u32 k.l) false]) [0,2]).trans (ws [0,1]))
 intro j;refine Ja (fun t=>⟨Aq 72 [(2,.ref 0 0)],[.box (C1 u8 t.l) false]⟩) ?_ ?_
 ·intro aZ;refine T0 [2,8,55] ?_;refine Sb ?_;refine Lo (fun(v:Int×Arr UInt8 32)=>(⟨Aq 72 [(2,.ref 0 0),(8,.ref 1 0),(55,i64 v.1)],[.box (C1 u8 v.2.l) false,.box (C1 u32 j.l) false]⟩:St)) (ws [0,1]) ?_;rintro⟨aF,u⟩ a0 aG aH aI;show HA j aF u=some aG→_;unfold HA;refine T0 [2,8,55,56] ?_;refine Sq <|Cd ?_ ?_
  ·refine Sk <|Tn <|Sq <|Sb <|T0 [2,8,9,55] ?_
   have aJ:¬(4:Int)=0:=by decide
   refine Ck fun aK=>?_
   have aL:¬(4:Int)=0:=by decide
   refine Ck fun aM =>Ck fun aN =>Lt fun aO aP =>Fe (σ':=[.box (C1 u8 aO.l) false,_]) [2,8,55] Aa (Ev (by simp only[go_sem,aJ,qR aK,aL,aM,qR aN,aP];exact AK)) ?_
   refine Bn <|Tn <|F0 [2,8,55] ?_
   exact Ln (ws [0,1])
  ·refine Sx <|Tx <|Ly aI aH <|Bx <|?_
   exact Jm ((ws (l':=[(2,.ref 0 0)]) (σ':=[.box (C1 u8 u.l) false]) [0]).trans (ws [0]))
 intro t;refine T0 [2] ?_;exact Sr <|Rr
theorem EJ{a b r}(h:Ep a b=some r):Con B 87 [.str a,.sl false (L cU8 b)] [] (fun r' σ'=>r'=.agg (C1 u8 r.l)∧σ'=[]):=by
 refine Cw 19 [.cell 4 42] Tryz.func87 (fun F hE=>?_) h;unfold Ep;refine T0 [0,1,4] ?_;refine Ck fun c =>Lt fun d e =>Te (fr':=[(0,.str d),(1,_),(4,_)]) [0,1,4] Aa (Ew2 c e) ?_
 refine Bd fun g f =>Te [4] (o1 18 (P2 f)) Ev ?_
 exact Sr <|Rr
theorem I0{a r}(h:FA a=some r):Con B 59 [.agg (i64 a.Zb::i64 a.No::(C1 u8 a.Zv1.l++[i64 a.Zw1,i64 a.Zx1.Za,i64 a.Zx1.Ref.Zb,i64 a.Zx1.Ref.No,i64 a.Zx1.Zn1,i64 a.Zx1.Zb1,i64 a.Zx1.Zc,i64 a.Zx1.Zo1,i64 a.Zx1.Zw,i64 a.Zx1.To,i64 a.Zx1.Code,i64 a.Zx1.Zp1,i64 a.Zx1.Zq1,i64 a.Zx1.Zr1,i64 a.Zx1.Zs1,.str a.Zx1.Zt1,.sl false (L Ad a.Zx1.Zu1),u64 a.Sig.C,u64 a.Sig.S]))] [] (fun r' σ'=>r'=.tup [.agg (C1 u8 r.1.l),i64 r.2]∧σ'=[]):=by
 refine Cw 16 [.cell 2 42,.tmp 3] Tryz.func59 (fun F hE=>?_) h;unfold FA;refine T0 [1,2] ?_;refine Bd fun d b =>Te [2,3,4] (o1 7 (FF b)) Ev ?_
 refine Sq <|T0 [2,3,4,11] ?_
 refine Cd ?_ ?_
 ·refine T0 [2,3] ?_;exact Sr <|Tr <|Rr
 ·refine Sk <|Tn <|Bd fun e c =>Te [2,3] (o1 15 (EJ c)) Ev ?_
  exact Sr <|Rr
theorem F2{a r}(h:EO a=some r):Con B 14 [.agg (i64 a.Zb::i64 a.No::(C1 u8 a.Zv1.l++[i64 a.Zw1,i64 a.Zx1.Za,i64 a.Zx1.Ref.Zb,i64 a.Zx1.Ref.No,i64 a.Zx1.Zn1,i64 a.Zx1.Zb1,i64 a.Zx1.Zc,i64 a.Zx1.Zo1,i64 a.Zx1.Zw,i64 a.Zx1.To,i64 a.Zx1.Code,i64 a.Zx1.Zp1,i64 a.Zx1.Zq1,i64 a.Zx1.Zr1,i64 a.Zx1.Zs1,.str a.Zx1.Zt1,.sl false (L Ad a.Zx1.Zu1),u64 a.Sig.C,u64 a.Sig.S]))] [] (fun r' σ'=>r'=.tup [.sl false (L cU8 r.1),i64 r.2]∧σ'=[]):=by
 refine Cw 10 [.tmp 2,.tmp 3] Tryz.func14 (fun F hE=>?_) h;unfold EO;refine T0 [1] ?_;refine Bd fun e b =>Bd fun f c =>Bd fun g d =>Te [2,3] (Ap (l:=[(6,_,_,_),(7,_,_,_)]) (m:=[(5,46,[.agg (i64 a.Zb::i64 a.No::(C1 u8 a.Zv1.l++[i64 a.Zw1,i64 a.Zx1.Za,i64 a.Zx1.Ref.Zb,i64 a.Zx1.Ref.No,i64 a.Zx1.Zn1,i64 a.Zx1.Zb1,i64 a.Zx1.Zc,i64 a.Zx1.Zo1,i64 a.Zx1.Zw,i64 a.Zx1.To,i64 a.Zx1.Code,i64 a.Zx1.Zp1,i64 a.Zx1.Zq1,i64 a.Zx1.Zr1,i64 a.Zx1.Zs1,.str a.Zx1.Zt1,.sl false (L Ad a.Zx1.Zu1),u64 a.Sig.C,u64 a.Sig.S]))],[.box (i64 a.Zb::i64 a.No::(C1 u8 a.Zv1.l++[i64 a.Zw1,i64 a.Zx1.Za,i64 a.Zx1.Ref.Zb,i64 a.Zx1.Ref.No,i64 a.Zx1.Zn1,i64 a.Zx1.Zb1,i64 a.Zx1.Zc,i64 a.Zx1.Zo1,i64 a.Zx1.Zw,i64 a.Zx1.To,i64 a.Zx1.Code,i64 a.Zx1.Zp1,i64 a.Zx1.Zq1,i64 a.Zx1.Zr1,i64 a.Zx1.Zs1,.str a.Zx1.Zt1,.sl false (L Ad a.Zx1.Zu1),u64 a.Sig.C,u64 a.Sig.S])) false],_,_)]) ⟨Ho  c,HN  d,trivial⟩ ⟨(wc (GX b) []),trivial⟩) Ev ?_
 exact Sr <|Rr
theorem Ii{b a r}(h:HI b a=some r):Con B 88 [.sl false (L cU8 b),.sl false (L R3 a)] [] (fun r' σ'=>r'=.sl false (L cU8 r)∧σ'=[]):=by
 refine Cw 39 [.tmp 4] Tryz.func88 (fun F hE=>?_) h;unfold HI;refine T0 [0,1] ?_;refine Ck fun m =>Lt fun i n =>Te (fr':=[(0,_),(1,_),(5,.bs (0==(w64 ((w64 (8*(a.length:Int)))+(b.length:Int)))) 0 (i.length) 0 (i.length))]) (σ':=[.buf 1 (L cU8 i) false]) [0,1,5] Aa (Ew2 m n) ?_
 refine Ja (fun c=>⟨Aq 39 [(0,.sl false (L cU8 b)),(5,.bs false 0 (c.length) 0 (c.length))],[.buf 1 (L cU8 c) false]⟩) ?_ ?_
 ·intro ae;refine T0 [0,5,16,17,18] ?_;refine Sb ?_;refine Lo (fun(v:Int×List UInt8)=>(⟨Aq 39 [(0,.sl false (L cU8 b)),(5,.bs false 0 (v.2.length) 0 (v.2.length)),(16,.sl false (L R3 a)),(17,i64 (a.length:Int)),(18,i64 v.1)],[.buf 1 (L cU8 v.2) false]⟩:St)) (ws [0]) ?_;rintro⟨d,e⟩ af o p q;show G9 a d e=some o→_;unfold G9;refine T0 [0,5,16,17,18,19] ?_;refine Sq <|Cd ?_ ?_
  ·refine Sk <|Tn <|?_
   refine Ja (fun f=>⟨Aq 39 [(0,.sl false (L cU8 b)),(5,.bs false 0 (f.length) 0 (f.length)),(16,.sl false (L R3 a)),(17,i64 (a.length:Int)),(18,i64 d)],[.buf 1 (L cU8 f) false]⟩) ?_ ?_
   ·intro ag;refine Sb <|Ck fun s =>Lt fun j t =>Te (fr':=[(0,_),(5,_),(7,u64 j),(16,_),(17,_),(18,_)]) [0,5,7,16,17,18] Aa (Ew2 (qR s) t) ?_
    refine T0 [0,5,7,16,17,18,22] ?_;refine Sb ?_;refine Lo (fun(v:Int×List UInt8)=>(⟨Aq 39 [(0,.sl false (L cU8 b)),(5,.bs false 0 (v.2.length) 0 (v.2.length)),(7,u64 j),(16,.sl false (L R3 a)),(17,i64 (a.length:Int)),(18,i64 d),(22,i64 v.1)],[.buf 1 (L cU8 v.2) false]⟩:St)) (ws [0]) ?_;rintro⟨u,g⟩ ah w x y;show Gz j u g=some w→_;unfold Gz;refine T0 [0,5,7,16,17,18,22,23] ?_;refine Sq <|Cd ?_ ?_
    ·refine Sk <|Tn <|Sq <|Sb <|T0 [0,5,7,8,16,17,18,22] ?_
     refine Ck fun z =>Ck fun aa =>Lt fun k ab =>Fe (fr':=[(0,_),(5,.bs false 0 (k.length) 0 (k.length)),(7,_),(16,_),(17,_),(18,_),(22,_)]) (σ':=[.buf 1 (L cU8 k) false,_]) [0,5,7,16,17,18,22] Aa (Ew3 z aa ab) ?_
     refine Bn <|Tn <|F0 [0,5,7,16,17,18,22] ?_
     exact Ln (ws [0])
    ·refine Sx <|Tx <|Ly y x <|Bx <|Bn <|?_
     exact Jm ((ws (l':=[(0,.sl false (L cU8 b)),(5,.bs false 0 (g.length) 0 (g.length)),(16,.sl false (L R3 a)),(17,i64 (a.length:Int)),(18,i64 d)]) (σ':=[.buf 1 (L cU8 g) false]) [0]).trans (ws [0]))
   intro f;refine F0 [0,5,16,17,18] ?_;exact Ln (ws [0])
  ·refine Sx <|Tx <|Ly q p <|Bx <|?_
   exact Jm ((ws (l':=[(0,.sl false (L cU8 b)),(5,.bs false 0 (e.length) 0 (e.length))]) (σ':=[.buf 1 (L cU8 e) false]) [0]).trans (ws [0]))
 intro c;refine Ck fun ac =>Lt fun l ad =>Te (fr':=[(4,.bs false 0 (l.length) 0 (l.length))]) (σ':=[.buf 1 (L cU8 l) false]) [4] Aa (Ew2 ac ad) ?_
 exact Sr <|Rr
theorem GZ{a r}(h:Fv a=some r):Con B 86 [.agg (C1 u8 a.l)] [] (fun r' σ'=>r'=u64 r∧σ'=[]):=by
 refine Cw 18 [.tmp 2] Tryz.func86 (fun F hE=>?_) h;unfold Fv;refine T0 [1,2] ?_;refine Ja (fun b=>⟨Aq 18 [(2,u64 b)],[]⟩) ?_ ?_
 ·intro p;have d:InB 8 32:=by decide
  refine Te [2,5,6,7] Aa (Ew1 d) ?_;refine Sb ?_;refine Lo (fun(v:UInt64×Int)=>(⟨Aq 18 [(2,u64 v.1),(5,.sl false (L cU8 (a.l.take 8))),(6,i64 ((a.l.take 8).length:Int)),(7,i64 v.2)],[]⟩:St)) (ws []) ?_;rintro⟨c,e⟩ q f g i;show Fh a c e=some f→_;unfold Fh;refine T0 [2,5,6,7,8] ?_;refine Sq <|Cd ?_ ?_
  ·refine Sk <|Tn <|Sq <|Sb <|Ck fun j =>Lt fun k m =>Te (fr':=[(2,_),(4,u8 k),(5,_),(6,_),(7,_)]) [2,4,5,6,7] Aa (Ew2 (qR j) m) ?_
   refine Lt fun n o =>Fe (fr':=[(2,u64 n),(5,_),(6,_),(7,_)]) [2,5,6,7] Aa (Ew1 o) ?_
   refine Bn <|Tn <|F0 [2,5,6,7] ?_
   exact Ln (ws [])
  ·refine Sx <|Tx <|Ly i g <|Bx <|?_
   exact Jm ((ws (l':=[(2,u64 c)]) (σ':=[]) []).trans (ws []))
 intro b;refine T0 [2] ?_;exact Sr <|Rr
theorem Gd{a b c r}(h:EM a b c=some r):Con B 50 [u64 a,u64 b,.sl false (L cU8 c)] [] (fun r' σ'=>r'=u64 r∧σ'=[]):=by
 refine Cw 15 [.tmp 6] Tryz.func50 (fun F hE=>?_) h;unfold EM;refine T0 [0,1,2] ?_;refine Bd fun j d =>Bd fun k e =>Bd fun f g =>?_
 have i:¬(1152921504606845399:UInt64)=0:=by decide
 refine Te [6] (Fg (l:=[(11,_,_,_),(12,_,_,_),(13,_,_,u64 f)]) ⟨Ii  d,EJ  e,GZ  g,trivial⟩) (Ew1 i) ?_;exact Sr <|Rr
theorem Q4{a b r}(h:OH a b=some r):Con B 60 [u64 a,.sl false (L cU8 b)] [] (fun r' σ'=>r'=.tup [.agg [u64 r.1.C,u64 r.1.S],i64 r.2]∧σ'=[]):=by
 refine Cw 45 [.cell 4 50,.tmp 5] Tryz.func60 (fun F hE=>?_) h;unfold OH;refine T0 [0,1,4] ?_;refine Bd fun x d =>Te [0,1,4,6,7] (o1 12 (HX d)) Ev ?_
 refine Sq <|T0 [0,1,4,6,7,16] ?_
 refine Cd ?_ ?_
 ·refine T0 [4,5] ?_;exact Sr <|Tr <|Rr
 ·refine Sk <|Tn <|Sq <|T0 [0,1,4,6,21] ?_
  refine Cd ?_ ?_
  ·refine T0 [4,5] ?_;exact Sr <|Tr <|Rr
  ·refine Sk <|Tn <|Bd fun y e =>Bd fun z f =>Bd fun g i =>?_
   have j:¬(1152921504606845398:UInt64)=0:=by decide
   refine Lt fun k n =>Te (fr':=[(0,_),(1,_),(4,_),(6,_),(8,u64 k)]) [0,1,4,6,8] (Fg (l:=[(26,_,_,_),(27,_,_,_),(28,_,_,u64 g)]) ⟨Ii  e,EJ  f,GZ  i,trivial⟩) (Ew2 j n) ?_
   refine Bd fun aa o =>Bd fun c p =>Te [0,4,8,9] (o2 32 (EZ o) 35 (Gd p)) Ev ?_
   refine Bd fun q s =>Bd fun ab t =>?_
   have u:¬(1152921504606845399:UInt64)=0:=by decide
   refine Lt fun v w =>Te (σ':=[.box [u64 c,u64 v] false,_,_]) [4,5] (Ap (l:=[]) (m:=[(38,48,[u64 (1152921504606845399:UInt64)],[.box [u64 (0:UInt64),u64 (0:UInt64)] false,.buf 1 (L R3 ([a]:List UInt64)) true],_,_),(41,82,[u64 c,u64 a,.ref 2 0],[.box [u64 (0:UInt64),u64 (0:UInt64)] false,.buf 1 (L R3 ([a]:List UInt64)) true,.box [u64 q] false],_,_)]) trivial ⟨(wc (FK s) []),(wc (Dz t) [2]),trivial⟩) (Ew2 u w) ?_
   exact Sr <|Rr
theorem GY{a r}(h:Hv a=some r):Con B 101 [.agg [i64 a.Za,i64 a.Ref.Zb,i64 a.Ref.No,i64 a.Zn1,i64 a.Zb1,i64 a.Zc,i64 a.Zo1,i64 a.Zw,i64 a.To,i64 a.Code,i64 a.Zp1,i64 a.Zq1,i64 a.Zr1,i64 a.Zs1,.str a.Zt1,.sl false (L Ad a.Zu1)]] [] (fun r' σ'=>r'=.bool r∧σ'=[]):=by
 refine Cw 32 [.tmp 2] Tryz.func101 (fun F hE=>?_) h;unfold Hv;refine T0 [1] ?_;refine Sq <|T0 [1,6] ?_
 refine Cd ?_ ?_
 ·refine T0 [2] ?_;exact Sr <|Tr <|Rr
 ·refine Sk <|Tn <|?_
  refine Tw [2] (fun e=>⟨Aq 32 [(2,.bool e)],[]⟩) ?_ ?_
  ·intro _;refine Sp (fun b=>?_) fun b=>?_
   ·refine Sp (fun c=>?_) fun c=>?_
    ·refine Sp (fun d=>?_) fun d=>?_
     ·exact Lf Aa (Ew3 b c d) (ws [])
     ·exact Lf Aa (Ew3 b c d) (ws [])
    ·exact Lf Aa (Ew2 b c) (ws [])
   ·exact Lf Aa (Ew1 b) (ws [])
  intro e;exact Sr <|Rr
theorem G3{a d e r}(h:Dv a d e=some r):Con B 150 [.ref 0 0,.ref 0 12,i64 d,i64 e] [.box [.sl false (L Ah a.p.Zg1.Ze),.sl false (L Al a.p.Zg1.Zf),.sl false (L Ab a.p.Zh1.Zx),.sl false (L Af a.p.Zh1.Zy),.sl false (L Aj a.p.Zh1.Zz),.sl false (L Ai a.p.Zh1.Za1),.sl false (L Ag a.p.Zi1),.sl false (L Ae a.p.Zj1),.sl false (L Ac a.p.Zk1),i64 a.it.Za,i64 a.it.Ref.Zb,i64 a.it.Ref.No,i64 a.it.Zn1,i64 a.it.Zb1,i64 a.it.Zc,i64 a.it.Zo1,i64 a.it.Zw,i64 a.it.To,i64 a.it.Code,i64 a.it.Zp1,i64 a.it.Zq1,i64 a.it.Zr1,i64 a.it.Zs1,.str a.it.Zt1,.sl false (L Ad a.it.Zu1),.bool a.ok] false] (fun r' σ'=>r'=.tup []∧σ'=[.box [.sl false (L Ah r.p.Zg1.Ze),.sl false (L Al r.p.Zg1.Zf),.sl false (L Ab r.p.Zh1.Zx),.sl false (L Af r.p.Zh1.Zy),.sl false (L Aj r.p.Zh1.Zz),.sl false (L Ai r.p.Zh1.Za1),.sl false (L Ag r.p.Zi1),.sl false (L Ae r.p.Zj1),.sl false (L Ac r.p.Zk1),i64 r.it.Za,i64 r.it.Ref.Zb,i64 r.it.Ref.No,i64 r.it.Zn1,i64 r.it.Zb1,i64 r.it.Zc,i64 r.it.Zo1,i64 r.it.Zw,i64 r.it.To,i64 r.it.Code,i64 r.it.Zp1,i64 r.it.Zq1,i64 r.it.Zr1,i64 r.it.Zs1,.str r.it.Zt1,.sl false (L Ad r.it.Zu1),.bool r.ok] false]):=by
 refine Co 1 31 [] Tryz.func150 (fun F hE=>?_) h;unfold Dv;refine Tw [1] (fun f=>⟨Aq 31 [(1,.ref 0 12)],[.box [.sl false (L Ah a.p.Zg1.Ze),.sl false (L Al a.p.Zg1.Zf),.sl false (L Ab a.p.Zh1.Zx),.sl false (L Af a.p.Zh1.Zy),.sl false (L Aj a.p.Zh1.Zz),.sl false (L Ai a.p.Zh1.Za1),.sl false (L Ag a.p.Zi1),.sl false (L Ae a.p.Zj1),.sl false (L Ac a.p.Zk1),i64 a.it.Za,i64 a.it.Ref.Zb,i64 a.it.Ref.No,i64 a.it.Zn1,i64 a.it.Zb1,i64 a.it.Zc,i64 a.it.Zo1,i64 a.it.Zw,i64 a.it.To,i64 a.it.Code,i64 a.it.Zp1,i64 a.it.Zq1,i64 a.it.Zr1,i64 a.it.Zs1,.str a.it.Zt1,.sl false (L Ad a.it.Zu1),.bool f] false]⟩) ?_ ?_
 ·intro _;refine Sp (fun b=>?_) fun b=>?_
  ·refine Sp (fun c=>?_) fun c=>?_
   ·exact Lf Aa (Ew2 b c) (ws [0])
   ·exact Lf Aa (Ew2 b c) (ws [0])
  ·exact Lf Aa (Ew1 b) (ws [0])
 intro f;refine F0 [] ?_;exact Ro [0]
theorem Cy{a d e r}(h:BI a d e=some r):Con B 150 [.ref 0 0,.ref 0 14,i64 d,i64 e] [.box [.sl false (L Ah a.p.Zg1.Ze),.sl false (L Al a.p.Zg1.Zf),.sl false (L Ab a.p.Zh1.Zx),.sl false (L Af a.p.Zh1.Zy),.sl false (L Aj a.p.Zh1.Zz),.sl false (L Ai a.p.Zh1.Za1),.sl false (L Ag a.p.Zi1),.sl false (L Ae a.p.Zj1),.sl false (L Ac a.p.Zk1),i64 a.it.Za,i64 a.it.Ref.Zb,i64 a.it.Ref.No,i64 a.it.Zn1,i64 a.it.Zb1,i64 a.it.Zc,i64 a.it.Zo1,i64 a.it.Zw,i64 a.it.To,i64 a.it.Code,i64 a.it.Zp1,i64 a.it.Zq1,i64 a.it.Zr1,i64 a.it.Zs1,.str a.it.Zt1,.sl false (L Ad a.it.Zu1),.bool a.ok] false] (fun r' σ'=>r'=.tup []∧σ'=[.box [.sl false (L Ah r.p.Zg1.Ze),.sl false (L Al r.p.Zg1.Zf),.sl false (L Ab r.p.Zh1.Zx),.sl false (L Af r.p.Zh1.Zy),.sl false (L Aj r.p.Zh1.Zz),.sl false (L Ai r.p.Zh1.Za1),.sl false (L Ag r.p.Zi1),.sl false (L Ae r.p.Zj1),.sl false (L Ac r.p.Zk1),i64 r.it.Za,i64 r.it.Ref.Zb,i64 r.it.Ref.No,i64 r.it.Zn1,i64 r.it.Zb1,i64 r.it.Zc,i64 r.it.Zo1,i64 r.it.Zw,i64 r.it.To,i64 r.it.Code,i64 r.it.Zp1,i64 r.it.Zq1,i64 r.it.Zr1,i64 r.it.Zs1,.str r.it.Zt1,.sl false (L Ad r.it.Zu1),.bool r.ok] false]):=by
 refine Co 1 31 [] Tryz.func150 (fun F hE=>?_) h;unfold BI;refine Tw [1] (fun f=>⟨Aq 31 [(1,.ref 0 14)],[.box [.sl false (L Ah a.p.Zg1.Ze),.sl false (L Al a.p.Zg1.Zf),.sl false (L Ab a.p.Zh1.Zx),.sl false (L Af a.p.Zh1.Zy),.sl false (L Aj a.p.Zh1.Zz),.sl false (L Ai a.p.Zh1.Za1),.sl false (L Ag a.p.Zi1),.sl false (L Ae a.p.Zj1),.sl false (L Ac a.p.Zk1),i64 a.it.Za,i64 a.it.Ref.Zb,i64 a.it.Ref.No,i64 a.it.Zn1,i64 a.it.Zb1,i64 a.it.Zc,i64 a.it.Zo1,i64 a.it.Zw,i64 a.it.To,i64 a.it.Code,i64 a.it.Zp1,i64 a.it.Zq1,i64 a.it.Zr1,i64 a.it.Zs1,.str a.it.Zt1,.sl false (L Ad a.it.Zu1),.bool f] false]⟩) ?_ ?_
 ·intro _;refine Sp (fun b=>?_) fun b=>?_
  ·refine Sp (fun c=>?_) fun c=>?_
   ·exact Lf Aa (Ew2 b c) (ws [0])
   ·exact Lf Aa (Ew2 b c) (ws [0])
  ·exact Lf Aa (Ew1 b) (ws [0])
 intro f;refine F0 [] ?_;exact Ro [0]
theorem Kh{e f a r}(h:GU e f a=some r):Con B 118 [u64 e,u64 f,u64 a] [] (fun r' σ'=>r'=u64 r∧σ'=[]):=by
 refine Cw 26 [.tmp 6] Tryz.func118 (fun F hE=>?_) h;unfold GU;refine T0 [0,1,2] ?_;refine T0 [0,1,2,7] ?_;refine Ja (fun g=>⟨Aq 26 [(7,u64 g)],[]⟩) ?_ ?_
 ·intro q;refine Sb ?_;refine Lo (fun⟨b,c,d⟩=>⟨Aq 26 [(0,u64 b),(1,u64 c),(2,u64 a),(7,u64 d)],[]⟩) (ws []) ?_;rintro⟨b,c,d⟩ s j k l;show EQ a b c d=some j→_;unfold EQ;refine Sq <|T0 [0,1,2,7,9] ?_
  refine Cd ?_ ?_
  ·refine Sk <|Tn <|Sq <|Sb <|?_
   refine Ja (fun i=>⟨Aq 26 [(0,u64 b),(1,u64 c),(2,u64 a),(7,u64 i)],[]⟩) ?_ ?_
   ·intro t;have m:¬(2:UInt64)=0:=by decide
    refine Te [0,1,2,7,14] Aa (Ew1 m) ?_;refine Cd ?_ ?_
    ·refine Ck fun n =>Fe [0,1,2,7] Aa (Ew1 n) ?_
     exact Jm (ws [])
    ·exact Sk <|Jm (ws [])
   intro i;refine Ck fun o =>Fe [0,1,2,7] Aa (Ew1 o) ?_
   refine Bn <|Tn <|?_
   have p:¬(2:UInt64)=0:=by decide
   refine Fe [0,1,2,7] Aa (Ew1 p) ?_;exact Ln (ws [])
  ·refine Sx <|Tx <|Ly l k <|Bx <|?_
   exact Jm ((ws (l':=[(7,u64 d)]) (σ':=[]) []).trans (ws []))
 intro g;refine T0 [6] ?_;exact Sr <|Rr
theorem U2{d e r}(h:KJ d e=some r):Con B 77 [u64 d,u64 e] [] (fun r' σ'=>r'=u64 r∧σ'=[]):=by
 refine Cw 22 [.tmp 4] Tryz.func77 (fun F hE=>?_) h;unfold KJ;refine T0 [0,1] ?_;refine T0 [0,1,5] ?_;refine Ja (fun f=>⟨Aq 22 [(5,u64 f)],[]⟩) ?_ ?_
 ·intro t;have i:¬(2305843009213690799:UInt64)=0:=by decide
  refine Lt fun j k =>Te (fr':=[(0,u64 j),(1,_),(5,_)]) [0,1,5] Aa (Ew2 i k) ?_
  refine Sb ?_;refine Lo (fun⟨a,b,c⟩=>⟨Aq 22 [(0,u64 a),(1,u64 b),(5,u64 c)],[]⟩) (ws []) ?_;rintro⟨a,b,c⟩ u l m n;show GP a b c=some l→_;unfold GP;refine Sq <|T0 [0,1,5,9] ?_
  refine Cd ?_ ?_
  ·refine Sk <|Tn <|Sq <|Sb <|?_
   refine Ja (fun g=>⟨Aq 22 [(0,u64 a),(1,u64 b),(5,u64 g)],[]⟩) ?_ ?_
   ·intro v;have o:¬(2:UInt64)=0:=by decide
    refine Te [0,1,5,14] Aa (Ew1 o) ?_;refine Cd ?_ ?_
    ·refine Bd fun w p =>Fe [0,1,5] (o1 17 (Kh p)) Ev ?_
     exact Jm (ws [])
    ·exact Sk <|Jm (ws [])
   intro g;refine Bd fun x q =>Fe [0,1,5] (o1 20 (Kh q)) Ev ?_
   refine Bn <|Tn <|?_
   have s:¬(2:UInt64)=0:=by decide
   refine Fe [0,1,5] Aa (Ew1 s) ?_;exact Ln (ws [])
  ·refine Sx <|Tx <|Ly n m <|Bx <|?_
   exact Jm ((ws (l':=[(5,u64 c)]) (σ':=[]) []).trans (ws []))
 intro f;refine T0 [4] ?_;exact Sr <|Rr
theorem Pm{a r}(h:Lp a=some r):Con B 56 [u64 a] [] (fun r' σ'=>r'=.tup [u64 r.1,i64 r.2]∧σ'=[]):=by
 refine Cw 12 [.tmp 2,.tmp 3] Tryz.func56 (fun F hE=>?_) h;unfold Lp;refine T0 [0] ?_;refine Sq ?_;refine Tw [0,9] (fun c=>⟨Aq 12 [(0,u64 a),(9,.bool c)],[]⟩) ?_ ?_
 ·intro _;refine Sp (fun b=>?_) fun b=>?_
  ·exact Lf Aa (Ew1 b) (ws [])
  ·exact Lf Aa (Ew1 b) (ws [])
 intro c;refine Cd ?_ ?_
 ·refine T0 [2,3] ?_;exact Sr <|Tr <|Rr
 ·refine Sk <|Tn <|Bd fun e d =>Te [2,3] (o1 11 (U2 d)) Ev ?_
  exact Sr <|Rr
theorem O6{r}(h:r14_Example  = some r):Con B 20 [] [] (fun r' σ'=>r'=.agg [.sl false (L Ah r.Zg1.Ze),.sl false (L Al r.Zg1.Zf),.sl false (L Ab r.Zh1.Zx),.sl false (L Af r.Zh1.Zy),.sl false (L Aj r.Zh1.Zz),.sl false (L Ai r.Zh1.Za1),.sl false (L Ag r.Zi1),.sl false (L Ae r.Zj1),.sl false (L Ac r.Zk1)]∧σ'=[]):=by
 refine Cw 50 [.cell 0 36] Tryz.func20 (fun F hE=>?_) h;unfold r14_Example;refine T0 [0] ?_;refine T0 [0,1] ?_;refine Lt fun a k =>Te (σ':=[_,.box [.bs true 2 (a.length) 0 (a.length),.sl true (L Al ([])),.sl true (L Ab ([])),.sl true (L Af ([])),.sl true (L Aj ([])),.sl true (L Ai ([])),.sl true (L Ag ([])),.sl true (L Ae ([])),.sl true (L Ac ([]))] false,.buf 3 (L Ah a) false]) [0,1] Aa (Ew1 k) ?_
 refine Lt fun b l =>Te (σ':=[_,.box [.bs true 2 (a.length) 0 (a.length),.bs true 3 (b.length) 0 (b.length),.sl true (L Ab ([])),.sl true (L Af ([])),.sl true (L Aj ([])),.sl true (L Ai ([])),.sl true (L Ag ([])),.sl true (L Ae ([])),.sl true (L Ac ([]))] false,_,.buf 5 (L Al b) false]) [0,1] Aa (Ew1 l) ?_
 refine Lt fun c m =>Te (σ':=[_,.box [.bs true 2 (a.length) 0 (a.length),.bs true 3 (b.length) 0 (b.length),.bs true 4 (c.length) 0 (c.length),.sl true (L Af ([])),.sl true (L Aj ([])),.sl true (L Ai ([])),.sl true (L Ag ([])),.sl true (L Ae ([])),.sl true (L Ac ([]))] false,_,_,.buf 8 (L Ab c) false]) [0,1] Aa (Ew1 m) ?_
 refine Lt fun d n =>Te (σ':=[_,.box [.bs true 2 (a.length) 0 (a.length),.bs true 3 (b.length) 0 (b.length),.bs true 4 (c.length) 0 (c.length),.bs true 5 (d.length) 0 (d.length),.sl true (L Aj ([])),.sl true (L Ai ([])),.sl true (L Ag ([])),.sl true (L Ae ([])),.sl true (L Ac ([]))] false,_,_,_,.buf 5 (L Af d) false]) [0,1] Aa (Ew1 n) ?_
 refine Lt fun e o =>Te (σ':=[_,.box [.bs true 2 (a.length) 0 (a.length),.bs true 3 (b.length) 0 (b.length),.bs true 4 (c.length) 0 (c.length),.bs true 5 (d.length) 0 (d.length),.sl true (L Aj ([])),.sl true (L Ai ([])),.bs true 6 (e.length) 0 (e.length),.sl true (L Ae ([])),.sl true (L Ac ([]))] false,_,_,_,_,.buf 3 (L Ag e) false]) [0,1] Aa (Ew1 o) ?_
 refine Lt fun f p =>Te (σ':=[_,.box [.bs true 2 (a.length) 0 (a.length),.bs true 3 (b.length) 0 (b.length),.bs true 4 (c.length) 0 (c.length),.bs true 5 (d.length) 0 (d.length),.sl true (L Aj ([])),.sl true (L Ai ([])),.bs true 6 (e.length) 0 (e.length),.bs true 7 (f.length) 0 (f.length),.sl true (L Ac ([]))] false,_,_,_,_,_,.buf 1 (L Ae f) false]) [0,1] Aa (Ew1 p) ?_
 refine Ja (fun g=>⟨Aq 50 [(0,.ref 0 0),(1,.ref 1 0)],[.box [.sl true (L Ah ([])),.sl true (L Al ([])),.sl true (L Ab ([])),.sl true (L Af ([])),.sl true (L Aj ([])),.sl true (L Ai ([])),.sl true (L Ag ([])),.sl true (L Ae ([])),.sl true (L Ac ([]))] false,.box [.bs true 2 (a.length) 0 (a.length),.bs true 3 (b.length) 0 (b.length),.bs true 4 (c.length) 0 (c.length),.bs true 5 (d.length) 0 (d.length),.sl true (L Aj ([])),.sl true (L Ai ([])),.bs true 6 (e.length) 0 (e.length),.bs true 7 (f.length) 0 (f.length),.bs false 8 (g.length) 0 (g.length)] false,.buf 3 (L Ah a) false,.buf 5 (L Al b) false,.buf 8 (L Ab c) false,.buf 5 (L Af d) false,.buf 3 (L Ag e) false,.buf 1 (L Ae f) false,.buf 16 (L Ac g) false]⟩) ?_ ?_
 ·intro z;refine T0 [0,1,2] ?_;refine Sb ?_;refine Lo (fun(v:Int×List Aox)=>(⟨Aq 50 [(0,.ref 0 0),(1,.ref 1 0),(2,i64 v.1)],[.box [.sl true (L Ah ([])),.sl true (L Al ([])),.sl true (L Ab ([])),.sl true (L Af ([])),.sl true (L Aj ([])),.sl true (L Ai ([])),.sl true (L Ag ([])),.sl true (L Ae ([])),.sl true (L Ac ([]))] false,.box [.bs true 2 (a.length) 0 (a.length),.bs true 3 (b.length) 0 (b.length),.bs true 4 (c.length) 0 (c.length),.bs true 5 (d.length) 0 (d.length),.sl true (L Aj ([])),.sl true (L Ai ([])),.bs true 6 (e.length) 0 (e.length),.bs true 7 (f.length) 0 (f.length),.bs false 8 (v.2.length) 0 (v.2.length)] false,.buf 3 (L Ah a) false,.buf 5 (L Al b) false,.buf 8 (L Ab c) false,.buf 5 (L Af d) false,.buf 3 (L Ag e) false,.buf 1 (L Ae f) false,.buf 16 (L Ac v.2) false]⟩:St)) ((Du 1 8 16 rfl rfl).trans (ws [0,1,2,3,4,5,6,7,8])) ?_;rintro⟨q,i⟩ aa s t u;show GH q i=some s→_;unfold GH;refine Sq <|T0 [0,1,2,32] ?_
  refine Cd ?_ ?_
  ·refine Sk <|Tn <|Sq <|Sb <|Bd fun ab w =>Te [0,1,2,3] (o1 39 (Pm w)) Ev ?_
   refine Ck fun x =>Lt fun j y =>Fe (σ':=[_,.box [.bs true 2 (a.length) 0 (a.length),.bs true 3 (b.length) 0 (b.length),.bs true 4 (c.length) 0 (c.length),.bs true 5 (d.length) 0 (d.length),.sl true (L Aj ([])),.sl true (L Ai ([])),.bs true 6 (e.length) 0 (e.length),.bs true 7 (f.length) 0 (f.length),.bs false 8 (j.length) 0 (j.length)] false,_,_,_,_,_,_,.buf 16 (L Ac j) false,_]) [0,1,2] Aa (Ew2 x y) ?_
   refine Bn <|Tn <|F0 [0,1,2] ?_
   exact Ln (ws [0,1,2,3,4,5,6,7,8])
  ·refine Sx <|Tx <|Ly u t <|Bx <|?_
   exact Jm ((ws (l':=[(0,.ref 0 0),(1,.ref 1 0)]) (σ':=[.box [.sl true (L Ah ([])),.sl true (L Al ([])),.sl true (L Ab ([])),.sl true (L Af ([])),.sl true (L Aj ([])),.sl true (L Ai ([])),.sl true (L Ag ([])),.sl true (L Ae ([])),.sl true (L Ac ([]))] false,.box [.bs true 2 (a.length) 0 (a.length),.bs true 3 (b.length) 0 (b.length),.bs true 4 (c.length) 0 (c.length),.bs true 5 (d.length) 0 (d.length),.sl true (L Aj ([])),.sl true (L Ai ([])),.bs true 6 (e.length) 0 (e.length),.bs true 7 (f.length) 0 (f.length),.bs false 8 (i.length) 0 (i.length)] false,.buf 3 (L Ah a) false,.buf 5 (L Al b) false,.buf 8 (L Ab c) false,.buf 5 (L Af d) false,.buf 3 (L Ag e) false,.buf 1 (L Ae f) false,.buf 16 (L Ac i) false]) [0,1,2,3,4,5,6,7,8]).trans (ws [0,1,2,3,4,5,6,7,8]))
 intro g;refine T0 [0] ?_;exact Sr <|Rr
theorem DP{a r}(h:BU a=some r):Con B 22 [i64 a] [] (fun r' σ'=>r'=.agg [i64 r.Za,i64 r.Ref.Zb,i64 r.Ref.No,i64 r.Zn1,i64 r.Zb1,i64 r.Zc,i64 r.Zo1,i64 r.Zw,i64 r.To,i64 r.Code,i64 r.Zp1,i64 r.Zq1,i64 r.Zr1,i64 r.Zs1,.str r.Zt1,.sl false (L Ad r.Zu1)]∧σ'=[]):=by
 refine Cw 5 [.cell 2 47] Tryz.func22 (fun F hE=>?_) h;unfold BU;refine T0 [0,2] ?_;refine T0 [2] ?_;exact Sr <|Rr
theorem KW{a r}(h:HL a=some r):Con B 128 [.agg [i64 a.Za,i64 a.Zb,i64 a.Zc]] [] (fun r' σ'=>r'=.bool r∧σ'=[]):=by
 refine Cw 42 [.tmp 2] Tryz.func128 (fun F hE=>?_) h;unfold HL;refine T0 [1] ?_;refine Sq ?_;refine Tw [1,20] (fun g=>⟨Aq 42 [(1,.ref 0 0),(20,.bool g)],[.box [i64 a.Za,i64 a.Zb,i64 a.Zc] false]⟩) ?_ ?_
 ·intro _;refine Sp (fun b=>?_) fun b=>?_
  ·exact Lf Aa (Ew1 b) (ws [0])
  ·refine Sp (fun c=>?_) fun c=>?_
   ·exact Lf Aa (Ew2 b c) (ws [0])
   ·refine Sp (fun e=>?_) fun e=>?_
    ·exact Lf Aa (Ew3 b c e) (ws [0])
    ·exact Lf Aa (Ew3 b c e) (ws [0])
 intro g;refine Cd ?_ ?_
 ·refine T0 [2] ?_;exact Sr <|Tr <|Rr
 ·refine Sk <|Tn <|Sq <|T0 [1,23] ?_
  refine Cd ?_ ?_
  ·refine T0 [2] ?_;exact Sr <|Tr <|Rr
  ·refine Sk <|Tn <|?_
   refine Tw [2] (fun i=>⟨Aq 42 [(2,.bool i)],[]⟩) ?_ ?_
   ·intro _;refine Sp (fun d=>?_) fun d=>?_
    ·refine Sp (fun f=>?_) fun f=>?_
     ·exact Lf Aa (Ew2 d f) (ws [])
     ·exact Lf Aa (Ew2 d f) (ws [])
    ·exact Lf Aa (Ew1 d) (ws [])
   intro i;exact Sr <|Rr
theorem KM{a r}(h:HC a=some r):Con B 96 [.agg [.sl false (L Ah a.Ze),.sl false (L Al a.Zf)]] [] (fun r' σ'=>r'=i64 r∧σ'=[]):=by
 refine Cw 84 [.tmp 2] Tryz.func96 (fun F hE=>?_) h;unfold HC;refine T0 [1] ?_;refine Lt fun b t =>Te (fr':=[(1,_),(3,i64 b)]) [1,3] Aa (Ew1 t) ?_
 refine Sq ?_;refine Tw [1,3,18] (fun m=>⟨Aq 84 [(1,.ref 0 0),(3,i64 b),(18,.bool m)],[.box [.sl false (L Ah a.Ze),.sl false (L Al a.Zf)] false]⟩) ?_ ?_
 ·intro _;refine Sp (fun j=>?_) fun j=>?_
  ·exact Lf Aa (Ew1 j) (ws [0])
  ·exact Lf Aa (Ew1 j) (ws [0])
 intro m;refine Cd ?_ ?_
 ·refine T0 [2] ?_;exact Sr <|Tr <|Rr
 ·refine Sk <|Tn <|?_
  refine Jo (fun _=>⟨Aq 84 [(1,.ref 0 0),(3,i64 b)],[.box [.sl false (L Ah a.Ze),.sl false (L Al a.Zf)] false]⟩) ?_ ?_
  ·intro ar u;refine T0 [1,3,20,21,22] ?_;refine Sb ?_;refine Lo (fun k=>⟨Aq 84 [(1,.ref 0 0),(3,i64 b),(20,.sl false (L Ah a.Ze)),(21,i64 (a.Ze.length:Int)),(22,i64 k)],[.box [.sl false (L Ah a.Ze),.sl false (L Al a.Zf)] false]⟩) (ws [0]) ?_;rintro k au v n o;show Fm a k=some v→_;unfold Fm;refine T0 [1,3,20,21,22,23] ?_;refine Sq <|Cd ?_ ?_
   ·refine Sk <|Tn <|Sq <|Sb <|Ck fun w =>Lt fun x y =>Lt fun z aa =>Lt fun ab ac =>Te (σ':=[_,.box [i64 x,i64 z,i64 ab] false]) [1,3,5,20,21,22] Aa (Ew4 (qR w) y aa ac) ?_
    refine Bd fun av ad =>Te [1,3,20,21,22,28] (o1 27 (KW ad)) Ev ?_
    refine Cd ?_ ?_
    ·refine T0 [2] ?_;exact Sr <|Br <|Tr <|Lr o n <|Br <|Jr u <|Rr
    ·refine Sk <|Bn <|Tn <|F0 [1,3,20,21,22] ?_
     exact Ln (ws [0])
   ·refine Sx <|Tx <|Lx o n <|Bx <|?_
    exact Jn ((ws (l':=[(1,.ref 0 0),(3,i64 b)]) (σ':=[.box [.sl false (L Ah a.Ze),.sl false (L Al a.Zf)] false]) [0]).trans (ws [0]))
  intro _;refine Jo (fun _=>⟨Aq 84 [],[]⟩) ?_ ?_
  ·intro aw ae;refine T0 [3,31,32,33] ?_;refine Sb ?_;refine Lo (fun g=>⟨Aq 84 [(3,i64 b),(31,.sl false (L Al a.Zf)),(32,i64 (a.Zf.length:Int)),(33,i64 g)],[]⟩) (ws []) ?_;rintro g ax af p q;show Fo a b g=some af→_;unfold Fo;refine T0 [3,31,32,33,34] ?_;refine Sq <|Cd ?_ ?_
   ·refine Sk <|Tn <|Sq <|Sb <|Ck fun ag =>Lt fun ah ai =>Lt fun aj ak =>Lt fun al am =>Lt fun an ao =>Lt fun ap aq =>Te (σ':=[.box [i64 ah,i64 aj,i64 al,i64 an,i64 ap] false]) [3,7,31,32,33] Aa (Ev (by simp only[go_sem,qR ag,ai,ak,am,ao,aq];exact AK)) ?_
    refine Tw [3,31,32,33,82] (fun s=>⟨Aq 84 [(3,i64 b),(31,.sl false (L Al a.Zf)),(32,i64 (a.Zf.length:Int)),(33,i64 g),(82,.bool s)],[]⟩) ?_ ?_
    ·intro _;refine Sp (fun c=>?_) fun c=>?_
     ·exact Lf Aa (Ew1 c) (ws [])
     ·refine Sp (fun d=>?_) fun d=>?_
      ·exact Lf Aa (Ew2 c d) (ws [])
      ·refine Sp (fun e=>?_) fun e=>?_
       ·exact Lf Aa (Ew3 c d e) (ws [])
       ·refine Sp (fun f=>?_) fun f=>?_
        ·exact Lf Aa (Ew4 c d e f) (ws [])
        ·refine Sp (fun i=>?_) fun i=>?_
         ·exact Lf Aa (Ew5 c d e f i) (ws [])
         ·refine Sp (fun l=>?_) fun l=>?_
          ·exact Lf Aa (Ev (by simp only[go_sem,c,d,e,f,i,l];exact AK)) (ws [])
          ·exact Lf Aa (Ev (by simp only[go_sem,c,d,e,f,i,l];exact AK)) (ws [])
    intro s;refine Cd ?_ ?_
    ·refine T0 [2] ?_;exact Sr <|Br <|Tr <|Lr q p <|Br <|Jr ae <|Rr
    ·refine Sk <|Bn <|Tn <|F0 [3,31,32,33] ?_
     exact Ln (ws [])
   ·refine Sx <|Tx <|Lx q p <|Bx <|?_
    exact Jn ((ws (l':=[]) (σ':=[]) []).trans (ws []))
  intro _;refine T0 [2] ?_;exact Sr <|Rr
theorem A7{a b r}(h:AM a b=some r):Con B 129 [.bool a,.ref 0 0] [.box [i64 b] false] (fun r' σ'=>r'=.tup []∧σ'=[.box [i64 r] false]):=by
 refine Co 1 5 [] Tryz.func129 (fun F hE=>?_) h;unfold AM;refine T0 [1,4] ?_;refine Cd ?_ ?_
 ·refine F0 [] ?_;exact Ro [0]
 ·exact Sk <|Ro [0]
theorem Ao{b c d r}(h:A9 b c d=some r):Con B 98 [i64 b,i64 c,i64 d] [] (fun r' σ'=>r'=.bool r∧σ'=[]):=by
 refine Cw 15 [.tmp 6] Tryz.func98 (fun F hE=>?_) h;unfold A9;refine T0 [0,1,2] ?_;refine Tw [6] (fun e=>⟨Aq 15 [(6,.bool e)],[]⟩) ?_ ?_
 ·intro _;refine Sp (fun a=>?_) fun a=>?_
  ·exact Lf Aa (Ew1 a) (ws [])
  ·exact Lf Aa (Ew1 a) (ws [])
 intro e;exact Sr <|Rr
theorem Ox{a r}(h:Jy a=some r):Con B 97 [.agg [.sl false (L Ab a.Zx),.sl false (L Af a.Zy),.sl false (L Aj a.Zz),.sl false (L Ai a.Za1)]] [] (fun r' σ'=>r'=i64 r∧σ'=[]):=by
 refine Cw 206 [.tmp 2] Tryz.func97 (fun F hE=>?_) h;unfold Jy;refine T0 [1] ?_;refine Sq ?_;refine Tw [1,38] (fun aI=>⟨Aq 206 [(1,.ref 0 0),(38,.bool aI)],[.box [.sl false (L Ab a.Zx),.sl false (L Af a.Zy),.sl false (L Aj a.Zz),.sl false (L Ai a.Za1)] false]⟩) ?_ ?_
 ·intro _;refine Sp (fun aa=>?_) fun aa=>?_
  ·exact Lf Aa (Ew1 aa) (ws [0])
  ·refine Sp (fun aj=>?_) fun aj=>?_
   ·exact Lf Aa (Ew2 aa aj) (ws [0])
   ·refine Sp (fun au=>?_) fun au=>?_
    ·exact Lf Aa (Ew3 aa aj au) (ws [0])
    ·exact Lf Aa (Ew3 aa aj au) (ws [0])
 intro aI;refine Cd ?_ ?_
 ·refine T0 [2] ?_;exact Sr <|Tr <|Rr
 ·refine Sk <|Tn <|T0 [1,3] ?_
  refine T0 [1,3,4] ?_;refine Ja (fun aJ=>⟨Aq 206 [(1,.ref 0 0),(3,.ref 1 0),(4,.fn 129 [.ref 1 0])],[.box [.sl false (L Ab a.Zx),.sl false (L Af a.Zy),.sl false (L Aj a.Zz),.sl false (L Ai a.Za1)] false,.box [i64 aJ] false]⟩) ?_ ?_
  ·intro cf;refine T0 [1,3,4,41,42,43] ?_;refine Sb ?_;refine Lo (fun(v:Int×Int)=>(⟨Aq 206 [(1,.ref 0 0),(3,.ref 1 0),(4,.fn 129 [.ref 1 0]),(41,.sl false (L Ab a.Zx)),(42,i64 (a.Zx.length:Int)),(43,i64 v.1)],[.box [.sl false (L Ab a.Zx),.sl false (L Af a.Zy),.sl false (L Aj a.Zz),.sl false (L Ai a.Za1)] false,.box [i64 v.2] false]⟩:St)) (ws [0,1]) ?_;rintro⟨x,aK⟩ cg a2 a3 a4;show G6 a x aK=some a2→_;unfold G6;refine T0 [1,3,4,41,42,43,44] ?_;refine Sq <|Cd ?_ ?_
   ·refine Sk <|Tn <|?_
    refine Ja (fun aL=>⟨Aq 206 [(1,.ref 0 0),(3,.ref 1 0),(4,.fn 129 [.ref 1 0]),(41,.sl false (L Ab a.Zx)),(42,i64 (a.Zx.length:Int)),(43,i64 x)],[.box [.sl false (L Ab a.Zx),.sl false (L Af a.Zy),.sl false (L Aj a.Zz),.sl false (L Ai a.Za1)] false,.box [i64 aL] false]⟩) ?_ ?_
    ·intro ch;refine Sb <|Ck fun a5 =>Lt fun d a6 =>Lt fun e a7 =>Lt fun f a8 =>Lt fun g a9 =>Lt fun i ba =>Lt fun j bb =>Lt fun k bc =>Lt fun n bd =>Te (σ':=[_,_,.box [i64 d,i64 e,i64 f,i64 g,i64 i,u64 j,i64 k,i64 n] false]) [1,3,4,6,41,42,43] Aa (Ev (by simp only[go_sem,qR a5,a6,a7,a8,a9,ba,bb,bc,bd];exact AK)) ?_
     refine Ja (fun ab=>⟨Aq 206 [(1,.ref 0 0),(3,.ref 1 0),(4,.fn 129 [.ref 1 0]),(6,.ref 2 0),(41,.sl false (L Ab a.Zx)),(42,i64 (a.Zx.length:Int)),(43,i64 x)],[.box [.sl false (L Ab a.Zx),.sl false (L Af a.Zy),.sl false (L Aj a.Zz),.sl false (L Ai a.Za1)] false,.box [i64 ab] false,.box [i64 d,i64 e,i64 f,i64 g,i64 i,u64 j,i64 k,i64 n] false]⟩) ?_ ?_
     ·intro ci;refine Lt fun av be =>Lt fun o bf =>Te (fr':=[(1,_),(3,_),(4,_),(6,_),(41,_),(42,_),(43,_),(55,.bs true 3 (o.length) 0 (o.length)),(56,i64 av),(57,_)]) (σ':=[_,_,_,.buf 1 (L JD o) false]) [1,3,4,6,41,42,43,55,56,57] Aa (Ew2 be bf) ?_
      refine Sb ?_;refine Lo (fun(v:Int×Int)=>(⟨Aq 206 [(1,.ref 0 0),(3,.ref 1 0),(4,.fn 129 [.ref 1 0]),(6,.ref 2 0),(41,.sl false (L Ab a.Zx)),(42,i64 (a.Zx.length:Int)),(43,i64 x),(55,.bs true 3 (o.length) 0 (o.length)),(56,i64 av),(57,i64 v.1)],[.box [.sl false (L Ab a.Zx),.sl false (L Af a.Zy),.sl false (L Aj a.Zz),.sl false (L Ai a.Za1)] false,.box [i64 v.2] false,.box [i64 d,i64 e,i64 f,i64 g,i64 i,u64 j,i64 k,i64 n] false,.buf 1 (L JD o) false]⟩:St)) (ws [0,1,2,3]) ?_;rintro⟨bg,aw⟩ cj bh bi bj;show G5 av o bg aw=some bh→_;unfold G5;refine T0 [1,3,4,6,41,42,43,55,56,57,58] ?_;refine Sq <|Cd ?_ ?_
      ·refine Sk <|Tn <|Sq <|Sb <|Ck fun bk =>Te [1,3,4,6,8,41,42,43,55,56,57] Aa (Ew1 (qR bk)) ?_
       refine Bd fun bl bm =>Bd fun ck bn =>Fe [1,3,4,6,41,42,43,55,56,57] (Ap (l:=[(63,_,_,_)]) (m:=[(64,129,[.bool bl,.ref 1 0],[.box [.sl false (L Ab a.Zx),.sl false (L Af a.Zy),.sl false (L Aj a.Zz),.sl false (L Ai a.Za1)] false,.box [i64 aw] false,.box [i64 d,i64 e,i64 f,i64 g,i64 i,u64 j,i64 k,i64 n] false,.buf 1 (L JD o) false],_,_)]) ⟨Ao  bm,trivial⟩ ⟨(wc (A7 bn) [1]),trivial⟩) Ev ?_
       refine Bn <|Tn <|F0 [1,3,4,6,41,42,43,55,56,57] ?_
       exact Ln (ws [0,1,2,3])
      ·refine Sx <|Tx <|Ly bj bi <|Bx <|?_
       exact Jm ((ws (l':=[(1,.ref 0 0),(3,.ref 1 0),(4,.fn 129 [.ref 1 0]),(6,.ref 2 0),(41,.sl false (L Ab a.Zx)),(42,i64 (a.Zx.length:Int)),(43,i64 x)]) (σ':=[.box [.sl false (L Ab a.Zx),.sl false (L Af a.Zy),.sl false (L Aj a.Zz),.sl false (L Ai a.Za1)] false,.box [i64 aw] false,.box [i64 d,i64 e,i64 f,i64 g,i64 i,u64 j,i64 k,i64 n] false]) [0,1,2]).trans (ws [0,1,2]))
     intro ab;refine Fw [1,3,4,41,42,43] (fun aM=>⟨Aq 206 [(1,.ref 0 0),(3,.ref 1 0),(4,.fn 129 [.ref 1 0]),(41,.sl false (L Ab a.Zx)),(42,i64 (a.Zx.length:Int)),(43,i64 x)],[.box [.sl false (L Ab a.Zx),.sl false (L Af a.Zy),.sl false (L Aj a.Zz),.sl false (L Ai a.Za1)] false,.box [i64 aM] false]⟩) ?_ ?_
     ·intro _;refine Bd fun cl ax=>?_
      refine Sp (fun ak=>?_) fun ak=>?_
      ·refine Bd fun cm aN=>?_
       refine Sp (fun ay=>?_) fun ay=>?_
       ·refine Bd fun bo bp =>Bd fun cn bq =>?_
        exact Lf (Ap (l:=[(69,_,_,_),(73,_,_,_),(78,_,_,_)]) (m:=[(80,129,[.bool bo,.ref 1 0],[.box [.sl false (L Ab a.Zx),.sl false (L Af a.Zy),.sl false (L Aj a.Zz),.sl false (L Ai a.Za1)] false,.box [i64 ab] false,.box [i64 d,i64 e,i64 f,i64 g,i64 i,u64 j,i64 k,i64 n] false],_,_)]) ⟨Ao  ax,Ao  aN,Ao  bp,trivial⟩ ⟨(wc (A7 bq) [1]),trivial⟩) (Ew2 ak ay) (ws [0,1])
       ·refine Bd fun co br=>?_
        exact Lf (Ap (l:=[(69,_,_,_),(73,_,_,_)]) (m:=[(80,129,[.bool false,.ref 1 0],[.box [.sl false (L Ab a.Zx),.sl false (L Af a.Zy),.sl false (L Aj a.Zz),.sl false (L Ai a.Za1)] false,.box [i64 ab] false,.box [i64 d,i64 e,i64 f,i64 g,i64 i,u64 j,i64 k,i64 n] false],_,_)]) ⟨Ao  ax,Ao  aN,trivial⟩ ⟨(wc (A7 br) [1]),trivial⟩) (Ew2 ak ay) (ws [0,1])
      ·refine Bd fun cp bt=>?_
       exact Lf (Ap (l:=[(69,_,_,_)]) (m:=[(80,129,[.bool false,.ref 1 0],[.box [.sl false (L Ab a.Zx),.sl false (L Af a.Zy),.sl false (L Aj a.Zz),.sl false (L Ai a.Za1)] false,.box [i64 ab] false,.box [i64 d,i64 e,i64 f,i64 g,i64 i,u64 j,i64 k,i64 n] false],_,_)]) ⟨Ao  ax,trivial⟩ ⟨(wc (A7 bt) [1]),trivial⟩) (Ew1 ak) (ws [0,1])
     intro aM;exact Bn <|Jm (ws [0,1])
    intro aL;refine F0 [1,3,4,41,42,43] ?_;exact Ln (ws [0,1])
   ·refine Sx <|Tx <|Ly a4 a3 <|Bx <|?_
    exact Jm ((ws (l':=[(1,.ref 0 0),(3,.ref 1 0),(4,.fn 129 [.ref 1 0])]) (σ':=[.box [.sl false (L Ab a.Zx),.sl false (L Af a.Zy),.sl false (L Aj a.Zz),.sl false (L Ai a.Za1)] false,.box [i64 aK] false]) [0,1]).trans (ws [0,1]))
  intro aJ;refine Ja (fun aO=>⟨Aq 206 [(1,.ref 0 0),(3,.ref 1 0),(4,.fn 129 [.ref 1 0])],[.box [.sl false (L Ab a.Zx),.sl false (L Af a.Zy),.sl false (L Aj a.Zz),.sl false (L Ai a.Za1)] false,.box [i64 aO] false]⟩) ?_ ?_
  ·intro cq;refine T0 [1,3,4,83,84,85] ?_;refine Sb ?_;refine Lo (fun(v:Int×Int)=>(⟨Aq 206 [(1,.ref 0 0),(3,.ref 1 0),(4,.fn 129 [.ref 1 0]),(83,.sl false (L Af a.Zy)),(84,i64 (a.Zy.length:Int)),(85,i64 v.1)],[.box [.sl false (L Ab a.Zx),.sl false (L Af a.Zy),.sl false (L Aj a.Zz),.sl false (L Ai a.Za1)] false,.box [i64 v.2] false]⟩:St)) (ws [0,1]) ?_;rintro⟨az,ac⟩ cr bu bv bw;show GA a az ac=some bu→_;unfold GA;refine T0 [1,3,4,83,84,85,86] ?_;refine Sq <|Cd ?_ ?_
   ·refine Sk <|Tn <|Sq <|Sb <|Ck fun bx =>Lt fun p bz =>Lt fun q bA =>Lt fun s bB =>Lt fun t bC =>Lt fun u bD =>Te (σ':=[_,_,.box [i64 p,i64 q,i64 s,i64 t,i64 u] false]) [1,3,4,10,83,84,85] Aa (Ev (by simp only[go_sem,qR bx,bz,bA,bB,bC,bD];exact AK)) ?_
    refine Tw [1,3,4,10,83,84,85] (fun al=>⟨Aq 206 [(1,.ref 0 0),(3,.ref 1 0),(4,.fn 129 [.ref 1 0]),(10,.ref 2 0),(83,.sl false (L Af a.Zy)),(84,i64 (a.Zy.length:Int)),(85,i64 az)],[.box [.sl false (L Ab a.Zx),.sl false (L Af a.Zy),.sl false (L Aj a.Zz),.sl false (L Ai a.Za1)] false,.box [i64 al] false,.box [i64 p,i64 q,i64 s,i64 t,i64 u] false]⟩) ?_ ?_
    ·intro _;refine Bd fun cs aA=>?_
     refine Sp (fun am=>?_) fun am=>?_
     ·refine Bd fun ct aP=>?_
      refine Sp (fun aB=>?_) fun aB=>?_
      ·refine Bd fun bE bF =>Bd fun cu bG =>?_
       exact Lf (Ap (l:=[(96,_,_,_),(100,_,_,_),(105,_,_,_)]) (m:=[(107,129,[.bool bE,.ref 1 0],[.box [.sl false (L Ab a.Zx),.sl false (L Af a.Zy),.sl false (L Aj a.Zz),.sl false (L Ai a.Za1)] false,.box [i64 ac] false,.box [i64 p,i64 q,i64 s,i64 t,i64 u] false],_,_)]) ⟨Ao  aA,Ao  aP,Ao  bF,trivial⟩ ⟨(wc (A7 bG) [1]),trivial⟩) (Ew2 am aB) (ws [0,1,2])
      ·refine Bd fun cv bH=>?_
       exact Lf (Ap (l:=[(96,_,_,_),(100,_,_,_)]) (m:=[(107,129,[.bool false,.ref 1 0],[.box [.sl false (L Ab a.Zx),.sl false (L Af a.Zy),.sl false (L Aj a.Zz),.sl false (L Ai a.Za1)] false,.box [i64 ac] false,.box [i64 p,i64 q,i64 s,i64 t,i64 u] false],_,_)]) ⟨Ao  aA,Ao  aP,trivial⟩ ⟨(wc (A7 bH) [1]),trivial⟩) (Ew2 am aB) (ws [0,1,2])
     ·refine Bd fun cw bI=>?_
      exact Lf (Ap (l:=[(96,_,_,_)]) (m:=[(107,129,[.bool false,.ref 1 0],[.box [.sl false (L Ab a.Zx),.sl false (L Af a.Zy),.sl false (L Aj a.Zz),.sl false (L Ai a.Za1)] false,.box [i64 ac] false,.box [i64 p,i64 q,i64 s,i64 t,i64 u] false],_,_)]) ⟨Ao  aA,trivial⟩ ⟨(wc (A7 bI) [1]),trivial⟩) (Ew1 am) (ws [0,1,2])
    intro al;refine Fw [1,3,4,83,84,85] (fun aQ=>⟨Aq 206 [(1,.ref 0 0),(3,.ref 1 0),(4,.fn 129 [.ref 1 0]),(83,.sl false (L Af a.Zy)),(84,i64 (a.Zy.length:Int)),(85,i64 az)],[.box [.sl false (L Ab a.Zx),.sl false (L Af a.Zy),.sl false (L Aj a.Zz),.sl false (L Ai a.Za1)] false,.box [i64 aQ] false]⟩) ?_ ?_
    ·intro _;refine Bd fun cx aR=>?_
     refine Sp (fun aC=>?_) fun aC=>?_
     ·refine Bd fun bJ bK =>Bd fun cy bL =>?_
      exact Lf (Ap (l:=[(111,_,_,_),(115,_,_,_)]) (m:=[(117,129,[.bool bJ,.ref 1 0],[.box [.sl false (L Ab a.Zx),.sl false (L Af a.Zy),.sl false (L Aj a.Zz),.sl false (L Ai a.Za1)] false,.box [i64 al] false,.box [i64 p,i64 q,i64 s,i64 t,i64 u] false],_,_)]) ⟨Ao  aR,Ao  bK,trivial⟩ ⟨(wc (A7 bL) [1]),trivial⟩) (Ew1 aC) (ws [0,1])
     ·refine Bd fun cz bM=>?_
      exact Lf (Ap (l:=[(111,_,_,_)]) (m:=[(117,129,[.bool false,.ref 1 0],[.box [.sl false (L Ab a.Zx),.sl false (L Af a.Zy),.sl false (L Aj a.Zz),.sl false (L Ai a.Za1)] false,.box [i64 al] false,.box [i64 p,i64 q,i64 s,i64 t,i64 u] false],_,_)]) ⟨Ao  aR,trivial⟩ ⟨(wc (A7 bM) [1]),trivial⟩) (Ew1 aC) (ws [0,1])
    intro aQ;refine Bn <|Tn <|F0 [1,3,4,83,84,85] ?_
    exact Ln (ws [0,1])
   ·refine Sx <|Tx <|Ly bw bv <|Bx <|?_
    exact Jm ((ws (l':=[(1,.ref 0 0),(3,.ref 1 0),(4,.fn 129 [.ref 1 0])]) (σ':=[.box [.sl false (L Ab a.Zx),.sl false (L Af a.Zy),.sl false (L Aj a.Zz),.sl false (L Ai a.Za1)] false,.box [i64 ac] false]) [0,1]).trans (ws [0,1]))
  intro aO;refine Ja (fun aS=>⟨Aq 206 [(1,.ref 0 0),(3,.ref 1 0),(4,.fn 129 [.ref 1 0])],[.box [.sl false (L Ab a.Zx),.sl false (L Af a.Zy),.sl false (L Aj a.Zz),.sl false (L Ai a.Za1)] false,.box [i64 aS] false]⟩) ?_ ?_
  ·intro cA;refine T0 [1,3,4,120,121,122] ?_;refine Sb ?_;refine Lo (fun(v:Int×Int)=>(⟨Aq 206 [(1,.ref 0 0),(3,.ref 1 0),(4,.fn 129 [.ref 1 0]),(120,.sl false (L Aj a.Zz)),(121,i64 (a.Zz.length:Int)),(122,i64 v.1)],[.box [.sl false (L Ab a.Zx),.sl false (L Af a.Zy),.sl false (L Aj a.Zz),.sl false (L Ai a.Za1)] false,.box [i64 v.2] false]⟩:St)) (ws [0,1]) ?_;rintro⟨aT,y⟩ cB bN bO bP;show GE a aT y=some bN→_;unfold GE;refine T0 [1,3,4,120,121,122,123] ?_;refine Sq <|Cd ?_ ?_
   ·refine Sk <|Tn <|Sq <|Sb <|Ck fun bQ =>Lt fun ad bR =>Lt fun ae bS =>Lt fun af bT =>Te (σ':=[_,_,.box [i64 ad,i64 ae,i64 af] false]) [1,3,4,12,120,121,122] Aa (Ew4 (qR bQ) bR bS bT) ?_
    refine Fw [1,3,4,120,121,122] (fun aU=>⟨Aq 206 [(1,.ref 0 0),(3,.ref 1 0),(4,.fn 129 [.ref 1 0]),(120,.sl false (L Aj a.Zz)),(121,i64 (a.Zz.length:Int)),(122,i64 aT)],[.box [.sl false (L Ab a.Zx),.sl false (L Af a.Zy),.sl false (L Aj a.Zz),.sl false (L Ai a.Za1)] false,.box [i64 aU] false]⟩) ?_ ?_
    ·intro _;refine Bd fun cC an=>?_
     refine Sp (fun ag=>?_) fun ag=>?_
     ·refine Bd fun cD aD=>?_
      refine Sp (fun ao=>?_) fun ao=>?_
      ·refine Sp (fun aE=>?_) fun aE=>?_
       ·refine Bd fun bU bV =>Bd fun cE bW =>?_
        exact Lf (Ap (l:=[(133,_,_,_),(141,_,_,_),(153,_,_,_)]) (m:=[(155,129,[.bool bU,.ref 1 0],[.box [.sl false (L Ab a.Zx),.sl false (L Af a.Zy),.sl false (L Aj a.Zz),.sl false (L Ai a.Za1)] false,.box [i64 y] false,.box [i64 ad,i64 ae,i64 af] false],_,_)]) ⟨Ao  an,Ao  aD,Ao  bV,trivial⟩ ⟨(wc (A7 bW) [1]),trivial⟩) (Ew3 ag ao aE) (ws [0,1])
       ·refine Bd fun cF bX=>?_
        exact Lf (Ap (l:=[(133,_,_,_),(141,_,_,_)]) (m:=[(155,129,[.bool false,.ref 1 0],[.box [.sl false (L Ab a.Zx),.sl false (L Af a.Zy),.sl false (L Aj a.Zz),.sl false (L Ai a.Za1)] false,.box [i64 y] false,.box [i64 ad,i64 ae,i64 af] false],_,_)]) ⟨Ao  an,Ao  aD,trivial⟩ ⟨(wc (A7 bX) [1]),trivial⟩) (Ew3 ag ao aE) (ws [0,1])
      ·refine Bd fun cG bY=>?_
       exact Lf (Ap (l:=[(133,_,_,_),(141,_,_,_)]) (m:=[(155,129,[.bool false,.ref 1 0],[.box [.sl false (L Ab a.Zx),.sl false (L Af a.Zy),.sl false (L Aj a.Zz),.sl false (L Ai a.Za1)] false,.box [i64 y] false,.box [i64 ad,i64 ae,i64 af] false],_,_)]) ⟨Ao  an,Ao  aD,trivial⟩ ⟨(wc (A7 bY) [1]),trivial⟩) (Ew2 ag ao) (ws [0,1])
     ·refine Bd fun cH bZ=>?_
      exact Lf (Ap (l:=[(133,_,_,_)]) (m:=[(155,129,[.bool false,.ref 1 0],[.box [.sl false (L Ab a.Zx),.sl false (L Af a.Zy),.sl false (L Aj a.Zz),.sl false (L Ai a.Za1)] false,.box [i64 y] false,.box [i64 ad,i64 ae,i64 af] false],_,_)]) ⟨Ao  an,trivial⟩ ⟨(wc (A7 bZ) [1]),trivial⟩) (Ew1 ag) (ws [0,1])
    intro aU;refine Bn <|Tn <|F0 [1,3,4,120,121,122] ?_
    exact Ln (ws [0,1])
   ·refine Sx <|Tx <|Ly bP bO <|Bx <|?_
    exact Jm ((ws (l':=[(1,.ref 0 0),(3,.ref 1 0),(4,.fn 129 [.ref 1 0])]) (σ':=[.box [.sl false (L Ab a.Zx),.sl false (L Af a.Zy),.sl false (L Aj a.Zz),.sl false (L Ai a.Za1)] false,.box [i64 y] false]) [0,1]).trans (ws [0,1]))
  intro aS;refine T0 [1,3,4,13] ?_;refine Ja (fun aV=>⟨Aq 206 [(3,.ref 0 0)],[.box [i64 aV] false]⟩) ?_ ?_
  ·intro cI;refine T0 [3,4,13,158,159,160] ?_;refine Sb ?_;refine Lo (fun⟨ah,z,w⟩=>⟨Aq 206 [(3,.ref 0 0),(4,.fn 129 [.ref 0 0]),(13,.ref 1 0),(158,.sl false (L Ai a.Za1)),(159,i64 (a.Za1.length:Int)),(160,i64 ah)],[.box [i64 z] false,.box (C1 AV.bool w.l) false]⟩) (ws [1,2]) ?_;rintro⟨ah,z,w⟩ cJ b0 b1 b2;show G4 a ah z w=some b0→_;unfold G4;refine T0 [3,4,13,158,159,160,161] ?_;refine Sq <|Cd ?_ ?_
   ·refine Sk <|Tn <|?_
    refine Ja (fun(v:Int×Arr Bool 4096)=>(⟨Aq 206 [(3,.ref 0 0),(4,.fn 129 [.ref 0 0]),(13,.ref 1 0),(158,.sl false (L Ai a.Za1)),(159,i64 (a.Za1.length:Int)),(160,i64 ah)],[.box [i64 v.1] false,.box (C1 AV.bool v.2.l) false]⟩:St)) ?_ ?_
    ·intro cK;refine Sb <|Ck fun b3 =>Lt fun b b4 =>Lt fun c b5 =>Lt fun ap b6 =>Te (σ':=[_,_,.box [i64 b,i64 c,i64 ap] false]) [3,4,13,15,158,159,160] Aa (Ew4 (qR b3) b4 b5 b6) ?_
     refine Tw [3,4,13,15,16,158,159,160] (fun aF=>⟨Aq 206 [(3,.ref 0 0),(4,.fn 129 [.ref 0 0]),(13,.ref 1 0),(15,.ref 2 0),(16,.bool aF),(158,.sl false (L Ai a.Za1)),(159,i64 (a.Za1.length:Int)),(160,i64 ah)],[.box [i64 z] false,.box (C1 AV.bool w.l) false,.box [i64 b,i64 c,i64 ap] false]⟩) ?_ ?_
     ·intro _;refine Bd fun cL aq=>?_
      refine Sp (fun ai=>?_) fun ai=>?_
      ·refine Bd fun cM aG=>?_
       refine Sp (fun ar=>?_) fun ar=>?_
       ·refine Sp (fun aH=>?_) fun aH=>?_
        ·refine Bd fun cN b7=>?_
         exact Lf (Fg (l:=[(166,_,_,_),(170,_,_,_),(182,_,_,_)]) ⟨Ao  aq,Ao  aG,Ao  b7,trivial⟩) (Ew3 ai ar aH) (ws [0,1,2])
        ·exact Lf (o2 166 (Ao aq) 170 (Ao aG)) (Ew3 ai ar aH) (ws [0,1,2])
       ·exact Lf (o2 166 (Ao aq) 170 (Ao aG)) (Ew2 ai ar) (ws [0,1,2])
      ·exact Lf (o1 166 (Ao aq)) (Ew1 ai) (ws [0,1,2])
     intro aF;refine Bd fun b8 b9 =>Te [3,4,13,15,16,158,159,160] (Ap (l:=[]) (m:=[(186,129,[.bool aF,.ref 0 0],[.box [i64 z] false,.box (C1 AV.bool w.l) false,.box [i64 b,i64 c,i64 ap] false],_,_)]) trivial ⟨(wc (A7 b9) [0]),trivial⟩) Ev ?_
     refine T0 [3,4,13,15,158,159,160,187] ?_;refine Cd ?_ ?_
     ·refine Ck fun aW =>Ck fun aX =>?_
      have aY:b.toNat*64+c.toNat<4096:=YT aW.2 aX.2;have ca:b.toNat*64+c.toNat≤4095:=Nat.le_of_lt_succ aY;refine Bd fun cO cb=>?_
      refine Dq [[],[],[1],[],[3],[1,2],[1,2,3,4,5],[1,2,3,4,5,6],[1,2,3,4,5,6,7],[0,1,2,3,4,5,6,7,8]] [3,4,13,15,158,159,160] (Ap (l:=[]) (m:=[(197,129,[.bool (!(w.get (b.toNat*64+c.toNat))),.ref 0 0],[.box [i64 b8] false,.box (C1 AV.bool w.l) false,.box [i64 b,i64 c,i64 ap] false],_,_)]) trivial ⟨(wc (A7 cb) [0]),trivial⟩) (Ew4 (qR aW) (qR aX) aY ca) ?_;refine Ck fun aZ =>Ck fun a0 =>?_
      have a1:b.toNat*64+c.toNat<4096:=YT aZ.2 a0.2;have cc:b.toNat*64+c.toNat≤4095:=Nat.le_of_lt_succ a1;refine Lt fun cd ce =>Ge (σ':=[_,.box (C1 AV.bool cd.l) false,_]) [[],[0],[],[2],[0,1],[0,1,2,3,4],[0,1,2,3,4,5]] [3,4,13,158,159,160] Aa (Ew5 (qR aZ) (qR a0) a1 cc ce) ?_
      exact Bn <|Jm (ws [0,1])
     ·exact Sk <|Bn <|Jm (ws [0,1])
    rintro⟨cP,cQ⟩;refine F0 [3,4,13,158,159,160] ?_;exact Ln (ws [0,1])
   ·refine Sx <|Tx <|Ly b2 b1 <|Bx <|?_
    exact Jm ((ws (l':=[(3,.ref 0 0)]) (σ':=[.box [i64 z] false]) [0]).trans (ws [0]))
  intro aV;refine T0 [2] ?_;exact Sr <|Rr
theorem Ga{a r}(h:DI a=some r):Con B 99 [.agg [i64 a.Zd1.1.Zw,i64 a.Zd1.1.To,i64 a.Zd1.2.1.Zw,i64 a.Zd1.2.1.To,i64 a.Zd1.2.2.1.Zw,i64 a.Zd1.2.2.1.To,i64 a.Zd1.2.2.2.1.Zw,i64 a.Zd1.2.2.2.1.To,i64 a.Zd1.2.2.2.2.1.Zw,i64 a.Zd1.2.2.2.2.1.To,i64 a.Zd1.2.2.2.2.2.1.Zw,i64 a.Zd1.2.2.2.2.2.1.To,i64 a.Zd1.2.2.2.2.2.2.Zw,i64 a.Zd1.2.2.2.2.2.2.To,.sl false (L JD a.Ze1)]] [] (fun r' σ'=>r'=i64 r∧σ'=[]):=by
 refine Cw 45 [.tmp 2] Tryz.func99 (fun F hE=>?_) h;unfold DI;refine Lt fun b aq =>Lt fun c ar =>Te (σ':=[.box [i64 a.Zd1.1.Zw,i64 a.Zd1.1.To,i64 a.Zd1.2.1.Zw,i64 a.Zd1.2.1.To,i64 a.Zd1.2.2.1.Zw,i64 a.Zd1.2.2.1.To,i64 a.Zd1.2.2.2.1.Zw,i64 a.Zd1.2.2.2.1.To,i64 a.Zd1.2.2.2.2.1.Zw,i64 a.Zd1.2.2.2.2.1.To,i64 b,i64 a.Zd1.2.2.2.2.2.1.To,i64 c,i64 a.Zd1.2.2.2.2.2.2.To,.sl false (L JD a.Ze1)] false]) [1] Aa (Ew2 aq ar) ?_
 refine Jo (fun _=>⟨Aq 45 [(1,.ref 0 0)],[.box [i64 a.Zd1.1.Zw,i64 a.Zd1.1.To,i64 a.Zd1.2.1.Zw,i64 a.Zd1.2.1.To,i64 a.Zd1.2.2.1.Zw,i64 a.Zd1.2.2.1.To,i64 a.Zd1.2.2.2.1.Zw,i64 a.Zd1.2.2.2.1.To,i64 a.Zd1.2.2.2.2.1.Zw,i64 a.Zd1.2.2.2.2.1.To,i64 b,i64 a.Zd1.2.2.2.2.2.1.To,i64 c,i64 a.Zd1.2.2.2.2.2.2.To,.sl false (L JD a.Ze1)] false]⟩) ?_ ?_
 ·intro aG d;refine T0 [1,9,10] ?_;refine Sb ?_;refine Ul 17 ?_;refine Ug (m:=16) ?_;refine T0 [1,9,10,11] ?_;refine Sq <|Ct <|Sk <|Tn <|Sq <|Sb <|?_
  have x:InR 0 7:=by decide
  refine Te [1,4,9,10] Aa (Ev (by simp only[go_sem,x,x.2];exact AK)) ?_;refine Tw [1,9,10,27] (fun y=>⟨Aq 45 [(1,.ref 0 0),(9,.agg [i64 a.Zd1.1.Zw,i64 a.Zd1.1.To,i64 a.Zd1.2.1.Zw,i64 a.Zd1.2.1.To,i64 a.Zd1.2.2.1.Zw,i64 a.Zd1.2.2.1.To,i64 a.Zd1.2.2.2.1.Zw,i64 a.Zd1.2.2.2.1.To,i64 a.Zd1.2.2.2.2.1.Zw,i64 a.Zd1.2.2.2.2.1.To,i64 b,i64 a.Zd1.2.2.2.2.2.1.To,i64 c,i64 a.Zd1.2.2.2.2.2.2.To]),(10,i64 0),(27,.bool y)],[.box [i64 a.Zd1.1.Zw,i64 a.Zd1.1.To,i64 a.Zd1.2.1.Zw,i64 a.Zd1.2.1.To,i64 a.Zd1.2.2.1.Zw,i64 a.Zd1.2.2.1.To,i64 a.Zd1.2.2.2.1.Zw,i64 a.Zd1.2.2.2.1.To,i64 a.Zd1.2.2.2.2.1.Zw,i64 a.Zd1.2.2.2.2.1.To,i64 b,i64 a.Zd1.2.2.2.2.2.1.To,i64 c,i64 a.Zd1.2.2.2.2.2.2.To,.sl false (L JD a.Ze1)] false]⟩) ?_ ?_
  ·intro _;refine Sp (fun e=>?_) fun e=>?_
   ·exact Lf Aa (Ew1 e) (ws [0])
   ·refine Sp (fun n=>?_) fun n=>?_
    ·exact Lf Aa (Ew2 e n) (ws [0])
    ·exact Lf Aa (Ew2 e n) (ws [0])
  intro y;refine Cd ?_ ?_
  ·refine T0 [2] ?_;exact Sr <|Br <|Tr <|Ur <|Br <|Jr d <|Rr
  ·refine Sk <|Bn <|Tn <|?_
   have au:w64 1=1:=by decide
   refine Fe [1,9,10] Aa (Ew1 au) ?_;refine Un ?_;refine Ug (m:=15) ?_;refine T0 [1,9,10,11] ?_;refine Sq <|Ct <|Sk <|Tn <|Sq <|Sb <|?_
   have z:InR 1 7:=by decide
   refine Te [1,4,9,10] Aa (Ev (by simp only[go_sem,z,z.2];exact AK)) ?_;refine Tw [1,9,10,27] (fun aa=>⟨Aq 45 [(1,.ref 0 0),(9,.agg [i64 a.Zd1.1.Zw,i64 a.Zd1.1.To,i64 a.Zd1.2.1.Zw,i64 a.Zd1.2.1.To,i64 a.Zd1.2.2.1.Zw,i64 a.Zd1.2.2.1.To,i64 a.Zd1.2.2.2.1.Zw,i64 a.Zd1.2.2.2.1.To,i64 a.Zd1.2.2.2.2.1.Zw,i64 a.Zd1.2.2.2.2.1.To,i64 b,i64 a.Zd1.2.2.2.2.2.1.To,i64 c,i64 a.Zd1.2.2.2.2.2.2.To]),(10,i64 1),(27,.bool aa)],[.box [i64 a.Zd1.1.Zw,i64 a.Zd1.1.To,i64 a.Zd1.2.1.Zw,i64 a.Zd1.2.1.To,i64 a.Zd1.2.2.1.Zw,i64 a.Zd1.2.2.1.To,i64 a.Zd1.2.2.2.1.Zw,i64 a.Zd1.2.2.2.1.To,i64 a.Zd1.2.2.2.2.1.Zw,i64 a.Zd1.2.2.2.2.1.To,i64 b,i64 a.Zd1.2.2.2.2.2.1.To,i64 c,i64 a.Zd1.2.2.2.2.2.2.To,.sl false (L JD a.Ze1)] false]⟩) ?_ ?_
   ·intro _;refine Sp (fun f=>?_) fun f=>?_
    ·exact Lf Aa (Ew1 f) (ws [0])
    ·refine Sp (fun o=>?_) fun o=>?_
     ·exact Lf Aa (Ew2 f o) (ws [0])
     ·exact Lf Aa (Ew2 f o) (ws [0])
   intro aa;refine Cd ?_ ?_
   ·refine T0 [2] ?_;exact Sr <|Br <|Tr <|Ur <|Br <|Jr d <|Rr
   ·refine Sk <|Bn <|Tn <|?_
    have av:w64 2=2:=by decide
    refine Fe [1,9,10] Aa (Ew1 av) ?_;refine Un ?_;refine Ug (m:=14) ?_;refine T0 [1,9,10,11] ?_;refine Sq <|Ct <|Sk <|Tn <|Sq <|Sb <|?_
    have ab:InR 2 7:=by decide
    refine Te [1,4,9,10] Aa (Ev (by simp only[go_sem,ab,ab.2];exact AK)) ?_;refine Tw [1,9,10,27] (fun ac=>⟨Aq 45 [(1,.ref 0 0),(9,.agg [i64 a.Zd1.1.Zw,i64 a.Zd1.1.To,i64 a.Zd1.2.1.Zw,i64 a.Zd1.2.1.To,i64 a.Zd1.2.2.1.Zw,i64 a.Zd1.2.2.1.To,i64 a.Zd1.2.2.2.1.Zw,i64 a.Zd1.2.2.2.1.To,i64 a.Zd1.2.2.2.2.1.Zw,i64 a.Zd1.2.2.2.2.1.To,i64 b,i64 a.Zd1.2.2.2.2.2.1.To,i64 c,i64 a.Zd1.2.2.2.2.2.2.To]),(10,i64 2),(27,.bool ac)],[.box [i64 a.Zd1.1.Zw,i64 a.Zd1.1.To,i64 a.Zd1.2.1.Zw,i64 a.Zd1.2.1.To,i64 a.Zd1.2.2.1.Zw,i64 a.Zd1.2.2.1.To,i64 a.Zd1.2.2.2.1.Zw,i64 a.Zd1.2.2.2.1.To,i64 a.Zd1.2.2.2.2.1.Zw,i64 a.Zd1.2.2.2.2.1.To,i64 b,i64 a.Zd1.2.2.2.2.2.1.To,i64 c,i64 a.Zd1.2.2.2.2.2.2.To,.sl false (L JD a.Ze1)] false]⟩) ?_ ?_
    ·intro _;refine Sp (fun g=>?_) fun g=>?_
     ·exact Lf Aa (Ew1 g) (ws [0])
     ·refine Sp (fun p=>?_) fun p=>?_
      ·exact Lf Aa (Ew2 g p) (ws [0])
      ·exact Lf Aa (Ew2 g p) (ws [0])
    intro ac;refine Cd ?_ ?_
    ·refine T0 [2] ?_;exact Sr <|Br <|Tr <|Ur <|Br <|Jr d <|Rr
    ·refine Sk <|Bn <|Tn <|?_
     have aw:w64 3=3:=by decide
     refine Fe [1,9,10] Aa (Ew1 aw) ?_;refine Un ?_;refine Ug (m:=13) ?_;refine T0 [1,9,10,11] ?_;refine Sq <|Ct <|Sk <|Tn <|Sq <|Sb <|?_
     have ad:InR 3 7:=by decide
     refine Te [1,4,9,10] Aa (Ev (by simp only[go_sem,ad,ad.2];exact AK)) ?_;refine Tw [1,9,10,27] (fun ae=>⟨Aq 45 [(1,.ref 0 0),(9,.agg [i64 a.Zd1.1.Zw,i64 a.Zd1.1.To,i64 a.Zd1.2.1.Zw,i64 a.Zd1.2.1.To,i64 a.Zd1.2.2.1.Zw,i64 a.Zd1.2.2.1.To,i64 a.Zd1.2.2.2.1.Zw,i64 a.Zd1.2.2.2.1.To,i64 a.Zd1.2.2.2.2.1.Zw,i64 a.Zd1.2.2.2.2.1.To,i64 b,i64 a.Zd1.2.2.2.2.2.1.To,i64 c,i64 a.Zd1.2.2.2.2.2.2.To]),(10,i64 3),(27,.bool ae)],[.box [i64 a.Zd1.1.Zw,i64 a.Zd1.1.To,i64 a.Zd1.2.1.Zw,i64 a.Zd1.2.1.To,i64 a.Zd1.2.2.1.Zw,i64 a.Zd1.2.2.1.To,i64 a.Zd1.2.2.2.1.Zw,i64 a.Zd1.2.2.2.1.To,i64 a.Zd1.2.2.2.2.1.Zw,i64 a.Zd1.2.2.2.2.1.To,i64 b,i64 a.Zd1.2.2.2.2.2.1.To,i64 c,i64 a.Zd1.2.2.2.2.2.2.To,.sl false (L JD a.Ze1)] false]⟩) ?_ ?_
     ·intro _;refine Sp (fun i=>?_) fun i=>?_
      ·exact Lf Aa (Ew1 i) (ws [0])
      ·refine Sp (fun q=>?_) fun q=>?_
       ·exact Lf Aa (Ew2 i q) (ws [0])
       ·exact Lf Aa (Ew2 i q) (ws [0])
     intro ae;refine Cd ?_ ?_
     ·refine T0 [2] ?_;exact Sr <|Br <|Tr <|Ur <|Br <|Jr d <|Rr
     ·refine Sk <|Bn <|Tn <|?_
      have ax:w64 4=4:=by decide
      refine Fe [1,9,10] Aa (Ew1 ax) ?_;refine Un ?_;refine Ug (m:=12) ?_;refine T0 [1,9,10,11] ?_;refine Sq <|Ct <|Sk <|Tn <|Sq <|Sb <|?_
      have af:InR 4 7:=by decide
      refine Te [1,4,9,10] Aa (Ev (by simp only[go_sem,af,af.2];exact AK)) ?_;refine Tw [1,9,10,27] (fun ag=>⟨Aq 45 [(1,.ref 0 0),(9,.agg [i64 a.Zd1.1.Zw,i64 a.Zd1.1.To,i64 a.Zd1.2.1.Zw,i64 a.Zd1.2.1.To,i64 a.Zd1.2.2.1.Zw,i64 a.Zd1.2.2.1.To,i64 a.Zd1.2.2.2.1.Zw,i64 a.Zd1.2.2.2.1.To,i64 a.Zd1.2.2.2.2.1.Zw,i64 a.Zd1.2.2.2.2.1.To,i64 b,i64 a.Zd1.2.2.2.2.2.1.To,i64 c,i64 a.Zd1.2.2.2.2.2.2.To]),(10,i64 4),(27,.bool ag)],[.box [i64 a.Zd1.1.Zw,i64 a.Zd1.1.To,i64 a.Zd1.2.1.Zw,i64 a.Zd1.2.1.To,i64 a.Zd1.2.2.1.Zw,i64 a.Zd1.2.2.1.To,i64 a.Zd1.2.2.2.1.Zw,i64 a.Zd1.2.2.2.1.To,i64 a.Zd1.2.2.2.2.1.Zw,i64 a.Zd1.2.2.2.2.1.To,i64 b,i64 a.Zd1.2.2.2.2.2.1.To,i64 c,i64 a.Zd1.2.2.2.2.2.2.To,.sl false (L JD a.Ze1)] false]⟩) ?_ ?_
      ·intro _;refine Sp (fun j=>?_) fun j=>?_
       ·exact Lf Aa (Ew1 j) (ws [0])
       ·refine Sp (fun s=>?_) fun s=>?_
        ·exact Lf Aa (Ew2 j s) (ws [0])
        ·exact Lf Aa (Ew2 j s) (ws [0])
      intro ag;refine Cd ?_ ?_
      ·refine T0 [2] ?_;exact Sr <|Br <|Tr <|Ur <|Br <|Jr d <|Rr
      ·refine Sk <|Bn <|Tn <|?_
       have ay:w64 5=5:=by decide
       refine Fe [1,9,10] Aa (Ew1 ay) ?_;refine Un ?_;refine Ug (m:=11) ?_;refine T0 [1,9,10,11] ?_;refine Sq <|Ct <|Sk <|Tn <|Sq <|Sb <|?_
       have ah:InR 5 7:=by decide
       refine Te [1,4,9,10] Aa (Ev (by simp only[go_sem,ah,ah.2];exact AK)) ?_;refine Tw [1,9,10,27] (fun ai=>⟨Aq 45 [(1,.ref 0 0),(9,.agg [i64 a.Zd1.1.Zw,i64 a.Zd1.1.To,i64 a.Zd1.2.1.Zw,i64 a.Zd1.2.1.To,i64 a.Zd1.2.2.1.Zw,i64 a.Zd1.2.2.1.To,i64 a.Zd1.2.2.2.1.Zw,i64 a.Zd1.2.2.2.1.To,i64 a.Zd1.2.2.2.2.1.Zw,i64 a.Zd1.2.2.2.2.1.To,i64 b,i64 a.Zd1.2.2.2.2.2.1.To,i64 c,i64 a.Zd1.2.2.2.2.2.2.To]),(10,i64 5),(27,.bool ai)],[.box [i64 a.Zd1.1.Zw,i64 a.Zd1.1.To,i64 a.Zd1.2.1.Zw,i64 a.Zd1.2.1.To,i64 a.Zd1.2.2.1.Zw,i64 a.Zd1.2.2.1.To,i64 a.Zd1.2.2.2.1.Zw,i64 a.Zd1.2.2.2.1.To,i64 a.Zd1.2.2.2.2.1.Zw,i64 a.Zd1.2.2.2.2.1.To,i64 b,i64 a.Zd1.2.2.2.2.2.1.To,i64 c,i64 a.Zd1.2.2.2.2.2.2.To,.sl false (L JD a.Ze1)] false]⟩) ?_ ?_
       ·intro _;refine Sp (fun k=>?_) fun k=>?_
        ·exact Lf Aa (Ew1 k) (ws [0])
        ·refine Sp (fun t=>?_) fun t=>?_
         ·exact Lf Aa (Ew2 k t) (ws [0])
         ·exact Lf Aa (Ew2 k t) (ws [0])
       intro ai;refine Cd ?_ ?_
       ·refine T0 [2] ?_;exact Sr <|Br <|Tr <|Ur <|Br <|Jr d <|Rr
       ·refine Sk <|Bn <|Tn <|?_
        have az:w64 6=6:=by decide
        refine Fe [1,9,10] Aa (Ew1 az) ?_;refine Un ?_;refine Ug (m:=10) ?_;refine T0 [1,9,10,11] ?_;refine Sq <|Ct <|Sk <|Tn <|Sq <|Sb <|?_
        have aj:InR 6 7:=by decide
        refine Te [1,4,9,10] Aa (Ev (by simp only[go_sem,aj,aj.2];exact AK)) ?_;refine Tw [1,9,10,27] (fun ak=>⟨Aq 45 [(1,.ref 0 0),(9,.agg [i64 a.Zd1.1.Zw,i64 a.Zd1.1.To,i64 a.Zd1.2.1.Zw,i64 a.Zd1.2.1.To,i64 a.Zd1.2.2.1.Zw,i64 a.Zd1.2.2.1.To,i64 a.Zd1.2.2.2.1.Zw,i64 a.Zd1.2.2.2.1.To,i64 a.Zd1.2.2.2.2.1.Zw,i64 a.Zd1.2.2.2.2.1.To,i64 b,i64 a.Zd1.2.2.2.2.2.1.To,i64 c,i64 a.Zd1.2.2.2.2.2.2.To]),(10,i64 6),(27,.bool ak)],[.box [i64 a.Zd1.1.Zw,i64 a.Zd1.1.To,i64 a.Zd1.2.1.Zw,i64 a.Zd1.2.1.To,i64 a.Zd1.2.2.1.Zw,i64 a.Zd1.2.2.1.To,i64 a.Zd1.2.2.2.1.Zw,i64 a.Zd1.2.2.2.1.To,i64 a.Zd1.2.2.2.2.1.Zw,i64 a.Zd1.2.2.2.2.1.To,i64 b,i64 a.Zd1.2.2.2.2.2.1.To,i64 c,i64 a.Zd1.2.2.2.2.2.2.To,.sl false (L JD a.Ze1)] false]⟩) ?_ ?_
        ·intro _;refine Sp (fun l=>?_) fun l=>?_
         ·exact Lf Aa (Ew1 l) (ws [0])
         ·refine Sp (fun u=>?_) fun u=>?_
          ·exact Lf Aa (Ew2 l u) (ws [0])
          ·exact Lf Aa (Ew2 l u) (ws [0])
        intro ak;refine Cd ?_ ?_
        ·refine T0 [2] ?_;exact Sr <|Br <|Tr <|Ur <|Br <|Jr d <|Rr
        ·refine Sk <|Bn <|Tn <|?_
         have aA:w64 7=7:=by decide
         refine Fe [1,9,10] Aa (Ew1 aA) ?_;refine Un ?_;refine Ug (m:=9) ?_;refine T0 [1,9,10,11] ?_;exact Sq <|Cf <|Sx <|Tx <|Ux <|Bx <|Jn (ws [0])
 intro _;refine T0 [1,5] ?_;refine Jo (fun _=>⟨Aq 45 [],[]⟩) ?_ ?_
 ·intro aH aB;refine T0 [5,30,31,32] ?_;refine Sb ?_;refine Lo (fun(v:Int×Int)=>(⟨Aq 45 [(5,i64 v.1),(30,.sl false (L JD a.Ze1)),(31,i64 (a.Ze1.length:Int)),(32,i64 v.2)],[]⟩:St)) (ws []) ?_;rintro⟨aC,al⟩ aI aD am an;show BW a aC al=some aD→_;unfold BW;refine T0 [5,30,31,32,33] ?_;refine Sq <|Cd ?_ ?_
  ·refine Sk <|Tn <|Sq <|Sb <|Ck fun aE =>Lt fun ao aF =>Te (fr':=[(5,_),(7,i64 ao),(30,_),(31,_),(32,_)]) [5,7,30,31,32] Aa (Ew2 (qR aE) aF) ?_
   refine Sq ?_;refine Tw [7,30,31,32,42] (fun ap=>⟨Aq 45 [(7,i64 ao),(30,.sl false (L JD a.Ze1)),(31,i64 (a.Ze1.length:Int)),(32,i64 al),(42,.bool ap)],[]⟩) ?_ ?_
   ·intro _;refine Sp (fun w=>?_) fun w=>?_
    ·exact Lf Aa (Ew1 w) (ws [])
    ·exact Lf Aa (Ew1 w) (ws [])
   intro ap;refine Cd ?_ ?_
   ·refine T0 [2] ?_;exact Sr <|Tr <|Br <|Tr <|Lr an am <|Br <|Jr aB <|Rr
   ·refine Sk <|Tn <|F0 [5,30,31,32] ?_
    refine Bn <|Tn <|F0 [5,30,31,32] ?_
    exact Ln (ws [])
  ·refine Sx <|Tx <|Lx an am <|Bx <|?_
   exact Jn ((ws (l':=[]) (σ':=[]) []).trans (ws []))
 intro _;refine T0 [2] ?_;exact Sr <|Rr
theorem DV{a r}(h:C5 a=some r):Con B 57 [.agg [.sl false (L Ah a.Zg1.Ze),.sl false (L Al a.Zg1.Zf),.sl false (L Ab a.Zh1.Zx),.sl false (L Af a.Zh1.Zy),.sl false (L Aj a.Zh1.Zz),.sl false (L Ai a.Zh1.Za1),.sl false (L Ag a.Zi1),.sl false (L Ae a.Zj1),.sl false (L Ac a.Zk1)]] [] (fun r' σ'=>r'=i64 r∧σ'=[]):=by
 refine Cw 193 [.tmp 2] Tryz.func57 (fun F hE=>?_) h;unfold C5;refine T0 [1] ?_;refine Sq <|Bd fun b5 ax =>Te [1,3] (o1 22 (KM ax)) Ev ?_
 refine T0 [1,3,24] ?_;refine Cd ?_ ?_
 ·refine T0 [2] ?_;exact Sr <|Tr <|Rr
 ·refine Sk <|Tn <|Sq <|Bd fun b6 ay =>Te [1,4] (o1 28 (Ox ay)) Ev ?_
  refine T0 [1,4,30] ?_;refine Cd ?_ ?_
  ·refine T0 [2] ?_;exact Sr <|Tr <|Rr
  ·refine Sk <|Tn <|Sq <|?_
   refine Tw [1,47] (fun t=>⟨Aq 193 [(1,.ref 0 0),(47,.bool t)],[.box [.sl false (L Ah a.Zg1.Ze),.sl false (L Al a.Zg1.Zf),.sl false (L Ab a.Zh1.Zx),.sl false (L Af a.Zh1.Zy),.sl false (L Aj a.Zh1.Zz),.sl false (L Ai a.Zh1.Za1),.sl false (L Ag a.Zi1),.sl false (L Ae a.Zj1),.sl false (L Ac a.Zk1)] false]⟩) ?_ ?_
   ·intro _;refine Sp (fun e=>?_) fun e=>?_
    ·exact Lf Aa (Ew1 e) (ws [0])
    ·refine Sp (fun l=>?_) fun l=>?_
     ·exact Lf Aa (Ew2 e l) (ws [0])
     ·exact Lf Aa (Ew2 e l) (ws [0])
   intro t;refine Cd ?_ ?_
   ·refine T0 [2] ?_;exact Sr <|Tr <|Rr
   ·refine Sk <|Tn <|Lt fun b az =>De (fr':=[(1,_),(5,_),(6,i64 b)]) [[],[0],[0,1],[],[3],[3,4],[0,1,2],[0,1,2,3,4,5,6]] [1,5,6] Aa (Ew1 az) ?_
    refine T0 [1,5,6,7] ?_;refine Ja (fun u=>⟨Aq 193 [(1,.ref 0 0),(5,.sl false (L Ah a.Zg1.Ze)),(6,i64 b),(7,.bool u)],[.box [.sl false (L Ah a.Zg1.Ze),.sl false (L Al a.Zg1.Zf),.sl false (L Ab a.Zh1.Zx),.sl false (L Af a.Zh1.Zy),.sl false (L Aj a.Zh1.Zz),.sl false (L Ai a.Zh1.Za1),.sl false (L Ag a.Zi1),.sl false (L Ae a.Zj1),.sl false (L Ac a.Zk1)] false]⟩) ?_ ?_
    ·intro b7;refine T0 [1,5,6,7,57,58,59] ?_;refine Sb ?_;refine Lo (fun(v:Bool×Int)=>(⟨Aq 193 [(1,.ref 0 0),(5,.sl false (L Ah a.Zg1.Ze)),(6,i64 b),(7,.bool v.1),(57,.sl false (L Ag a.Zi1)),(58,i64 (a.Zi1.length:Int)),(59,i64 v.2)],[.box [.sl false (L Ah a.Zg1.Ze),.sl false (L Al a.Zg1.Zf),.sl false (L Ab a.Zh1.Zx),.sl false (L Af a.Zh1.Zy),.sl false (L Aj a.Zh1.Zz),.sl false (L Ai a.Zh1.Za1),.sl false (L Ag a.Zi1),.sl false (L Ae a.Zj1),.sl false (L Ac a.Zk1)] false]⟩:St)) (ws [0]) ?_;rintro⟨w,x⟩ b8 aA aB aC;show B4 a w x=some aA→_;unfold B4;refine T0 [1,5,6,7,57,58,59,60] ?_;refine Sq <|Cd ?_ ?_
     ·refine Sk <|Tn <|Sq <|Sb <|Ck fun aD =>Lt fun aE aF =>Lt fun aG aH =>Lt fun aI aJ =>Te (σ':=[_,.box [i64 aE,i64 aG,i64 aI] false]) [1,5,6,7,9,57,58,59] Aa (Ew4 (qR aD) aF aH aJ) ?_
      refine Fw [1,5,6,7,57,58,59] (fun y=>⟨Aq 193 [(1,.ref 0 0),(5,.sl false (L Ah a.Zg1.Ze)),(6,i64 b),(7,.bool y),(57,.sl false (L Ag a.Zi1)),(58,i64 (a.Zi1.length:Int)),(59,i64 x)],[.box [.sl false (L Ah a.Zg1.Ze),.sl false (L Al a.Zg1.Zf),.sl false (L Ab a.Zh1.Zx),.sl false (L Af a.Zh1.Zy),.sl false (L Aj a.Zh1.Zz),.sl false (L Ai a.Zh1.Za1),.sl false (L Ag a.Zi1),.sl false (L Ae a.Zj1),.sl false (L Ac a.Zk1)] false]⟩) ?_ ?_
      ·intro _;refine Sp (fun c=>?_) fun c=>?_
       ·exact Lf Aa (Ew1 c) (ws [0])
       ·refine Bd fun b9 f=>?_
        refine Sp (fun d=>?_) fun d=>?_
        ·exact Lf (o1 70 (Ao f)) (Ew2 c d) (ws [0])
        ·refine Sp (fun g=>?_) fun g=>?_
         ·exact Lf (o1 70 (Ao f)) (Ew3 c d g) (ws [0])
         ·refine Sp (fun m=>?_) fun m=>?_
          ·exact Lf (o1 70 (Ao f)) (Ew4 c d g m) (ws [0])
          ·exact Lf (o1 70 (Ao f)) (Ew4 c d g m) (ws [0])
      intro y;refine Bn <|Tn <|F0 [1,5,6,7,57,58,59] ?_
      exact Ln (ws [0])
     ·refine Sx <|Tx <|Ly aC aB <|Bx <|?_
      exact Jm ((ws (l':=[(1,.ref 0 0),(5,.sl false (L Ah a.Zg1.Ze)),(6,i64 b),(7,.bool w)]) (σ':=[.box [.sl false (L Ah a.Zg1.Ze),.sl false (L Al a.Zg1.Zf),.sl false (L Ab a.Zh1.Zx),.sl false (L Af a.Zh1.Zy),.sl false (L Aj a.Zh1.Zz),.sl false (L Ai a.Zh1.Za1),.sl false (L Ag a.Zi1),.sl false (L Ae a.Zj1),.sl false (L Ac a.Zk1)] false]) [0]).trans (ws [0]))
    intro u;refine Ja (fun z=>⟨Aq 193 [(1,.ref 0 0),(5,.sl false (L Ah a.Zg1.Ze)),(6,i64 b),(7,.bool z)],[.box [.sl false (L Ah a.Zg1.Ze),.sl false (L Al a.Zg1.Zf),.sl false (L Ab a.Zh1.Zx),.sl false (L Af a.Zh1.Zy),.sl false (L Aj a.Zh1.Zz),.sl false (L Ai a.Zh1.Za1),.sl false (L Ag a.Zi1),.sl false (L Ae a.Zj1),.sl false (L Ac a.Zk1)] false]⟩) ?_ ?_
    ·intro ca;refine T0 [1,5,6,7,92,93,94] ?_;refine Sb ?_;refine Lo (fun(v:Bool×Int)=>(⟨Aq 193 [(1,.ref 0 0),(5,.sl false (L Ah a.Zg1.Ze)),(6,i64 b),(7,.bool v.1),(92,.sl false (L Ae a.Zj1)),(93,i64 (a.Zj1.length:Int)),(94,i64 v.2)],[.box [.sl false (L Ah a.Zg1.Ze),.sl false (L Al a.Zg1.Zf),.sl false (L Ab a.Zh1.Zx),.sl false (L Af a.Zh1.Zy),.sl false (L Aj a.Zh1.Zz),.sl false (L Ai a.Zh1.Za1),.sl false (L Ag a.Zi1),.sl false (L Ae a.Zj1),.sl false (L Ac a.Zk1)] false]⟩:St)) (ws [0]) ?_;rintro⟨aa,ab⟩ cb aK aL aM;show B5 a aa ab=some aK→_;unfold B5;refine T0 [1,5,6,7,92,93,94,95] ?_;refine Sq <|Cd ?_ ?_
     ·refine Sk <|Tn <|Sq <|Sb <|Ck fun aN =>Lt fun aO aP =>Te (σ':=[_,.box [i64 aO] false]) [1,5,6,7,11,92,93,94] Aa (Ew2 (qR aN) aP) ?_
      refine Fw [1,5,6,7,92,93,94] (fun ac=>⟨Aq 193 [(1,.ref 0 0),(5,.sl false (L Ah a.Zg1.Ze)),(6,i64 b),(7,.bool ac),(92,.sl false (L Ae a.Zj1)),(93,i64 (a.Zj1.length:Int)),(94,i64 ab)],[.box [.sl false (L Ah a.Zg1.Ze),.sl false (L Al a.Zg1.Zf),.sl false (L Ab a.Zh1.Zx),.sl false (L Af a.Zh1.Zy),.sl false (L Aj a.Zh1.Zz),.sl false (L Ai a.Zh1.Za1),.sl false (L Ag a.Zi1),.sl false (L Ae a.Zj1),.sl false (L Ac a.Zk1)] false]⟩) ?_ ?_
      ·intro _;refine Sp (fun i=>?_) fun i=>?_
       ·exact Lf Aa (Ew1 i) (ws [0])
       ·refine Bd fun cc ad=>?_
        refine Sp (fun n=>?_) fun n=>?_
        ·exact Lf (o1 105 (Ao ad)) (Ew2 i n) (ws [0])
        ·refine Ck fun aQ=>?_
         exact Lf (o1 105 (Ao ad)) (Ew3 i n (qR aQ)) (ws [0])
      intro ac;refine Bn <|Tn <|F0 [1,5,6,7,92,93,94] ?_
      exact Ln (ws [0])
     ·refine Sx <|Tx <|Ly aM aL <|Bx <|?_
      exact Jm ((ws (l':=[(1,.ref 0 0),(5,.sl false (L Ah a.Zg1.Ze)),(6,i64 b),(7,.bool aa)]) (σ':=[.box [.sl false (L Ah a.Zg1.Ze),.sl false (L Al a.Zg1.Zf),.sl false (L Ab a.Zh1.Zx),.sl false (L Af a.Zh1.Zy),.sl false (L Aj a.Zh1.Zz),.sl false (L Ai a.Zh1.Za1),.sl false (L Ag a.Zi1),.sl false (L Ae a.Zj1),.sl false (L Ac a.Zk1)] false]) [0]).trans (ws [0]))
    intro z;refine Ja (fun ae=>⟨Aq 193 [(1,.ref 0 0),(5,.sl false (L Ah a.Zg1.Ze)),(6,i64 b),(7,.bool ae)],[.box [.sl false (L Ah a.Zg1.Ze),.sl false (L Al a.Zg1.Zf),.sl false (L Ab a.Zh1.Zx),.sl false (L Af a.Zh1.Zy),.sl false (L Aj a.Zh1.Zz),.sl false (L Ai a.Zh1.Za1),.sl false (L Ag a.Zi1),.sl false (L Ae a.Zj1),.sl false (L Ac a.Zk1)] false]⟩) ?_ ?_
    ·intro cd;refine T0 [1,5,6,7,120,121,122] ?_;refine Sb ?_;refine Lo (fun(v:Bool×Int)=>(⟨Aq 193 [(1,.ref 0 0),(5,.sl false (L Ah a.Zg1.Ze)),(6,i64 b),(7,.bool v.1),(120,.sl false (L Af a.Zh1.Zy)),(121,i64 (a.Zh1.Zy.length:Int)),(122,i64 v.2)],[.box [.sl false (L Ah a.Zg1.Ze),.sl false (L Al a.Zg1.Zf),.sl false (L Ab a.Zh1.Zx),.sl false (L Af a.Zh1.Zy),.sl false (L Aj a.Zh1.Zz),.sl false (L Ai a.Zh1.Za1),.sl false (L Ag a.Zi1),.sl false (L Ae a.Zj1),.sl false (L Ac a.Zk1)] false]⟩:St)) (ws [0]) ?_;rintro⟨af,ag⟩ ce aR aS aT;show B3 a af ag=some aR→_;unfold B3;refine T0 [1,5,6,7,120,121,122,123] ?_;refine Sq <|Cd ?_ ?_
     ·refine Sk <|Tn <|Sq <|Sb <|Ck fun aU =>Lt fun aV aW =>Lt fun aX aY =>Lt fun aZ a0 =>Lt fun a1 a2 =>Lt fun a3 a4 =>Te (σ':=[_,.box [i64 aV,i64 aX,i64 aZ,i64 a1,i64 a3] false]) [1,5,6,7,13,120,121,122] Aa (Ev (by simp only[go_sem,qR aU,aW,aY,a0,a2,a4];exact AK)) ?_
      refine Fw [1,5,6,7,120,121,122] (fun ah=>⟨Aq 193 [(1,.ref 0 0),(5,.sl false (L Ah a.Zg1.Ze)),(6,i64 b),(7,.bool ah),(120,.sl false (L Af a.Zh1.Zy)),(121,i64 (a.Zh1.Zy.length:Int)),(122,i64 ag)],[.box [.sl false (L Ah a.Zg1.Ze),.sl false (L Al a.Zg1.Zf),.sl false (L Ab a.Zh1.Zx),.sl false (L Af a.Zh1.Zy),.sl false (L Aj a.Zh1.Zz),.sl false (L Ai a.Zh1.Za1),.sl false (L Ag a.Zi1),.sl false (L Ae a.Zj1),.sl false (L Ac a.Zk1)] false]⟩) ?_ ?_
      ·intro _;refine Sp (fun o=>?_) fun o=>?_
       ·exact Lf Aa (Ew1 o) (ws [0])
       ·exact Lf Aa (Ew1 o) (ws [0])
      intro ah;refine Bn <|Tn <|F0 [1,5,6,7,120,121,122] ?_
      exact Ln (ws [0])
     ·refine Sx <|Tx <|Ly aT aS <|Bx <|?_
      exact Jm ((ws (l':=[(1,.ref 0 0),(5,.sl false (L Ah a.Zg1.Ze)),(6,i64 b),(7,.bool af)]) (σ':=[.box [.sl false (L Ah a.Zg1.Ze),.sl false (L Al a.Zg1.Zf),.sl false (L Ab a.Zh1.Zx),.sl false (L Af a.Zh1.Zy),.sl false (L Aj a.Zh1.Zz),.sl false (L Ai a.Zh1.Za1),.sl false (L Ag a.Zi1),.sl false (L Ae a.Zj1),.sl false (L Ac a.Zk1)] false]) [0]).trans (ws [0]))
    intro ae;refine Ja (fun ai=>⟨Aq 193 [(1,.ref 0 0),(6,i64 b),(7,.bool ai)],[.box [.sl false (L Ah a.Zg1.Ze),.sl false (L Al a.Zg1.Zf),.sl false (L Ab a.Zh1.Zx),.sl false (L Af a.Zh1.Zy),.sl false (L Aj a.Zh1.Zz),.sl false (L Ai a.Zh1.Za1),.sl false (L Ag a.Zi1),.sl false (L Ae a.Zj1),.sl false (L Ac a.Zk1)] false]⟩) ?_ ?_
    ·intro cf;refine T0 [1,6,7,135,136,137] ?_;refine Sb ?_;refine Lo (fun(v:Bool×Int)=>(⟨Aq 193 [(1,.ref 0 0),(6,i64 b),(7,.bool v.1),(135,.sl false (L Ah a.Zg1.Ze)),(136,i64 (a.Zg1.Ze.length:Int)),(137,i64 v.2)],[.box [.sl false (L Ah a.Zg1.Ze),.sl false (L Al a.Zg1.Zf),.sl false (L Ab a.Zh1.Zx),.sl false (L Af a.Zh1.Zy),.sl false (L Aj a.Zh1.Zz),.sl false (L Ai a.Zh1.Za1),.sl false (L Ag a.Zi1),.sl false (L Ae a.Zj1),.sl false (L Ac a.Zk1)] false]⟩:St)) (ws [0]) ?_;rintro⟨aj,ak⟩ cg a5 a6 a7;show Eo a b aj ak=some a5→_;unfold Eo;refine T0 [1,6,7,135,136,137,138] ?_;refine Sq <|Cd ?_ ?_
     ·refine Sk <|Tn <|Sq <|Sb <|Ck fun a8 =>Lt fun a9 ba =>Lt fun bb bc =>Lt fun bd be =>Te (σ':=[_,.box [i64 a9,i64 bb,i64 bd] false]) [1,6,7,15,135,136,137] Aa (Ew4 (qR a8) ba bc be) ?_
      refine Fw [1,6,7,135,136,137] (fun al=>⟨Aq 193 [(1,.ref 0 0),(6,i64 b),(7,.bool al),(135,.sl false (L Ah a.Zg1.Ze)),(136,i64 (a.Zg1.Ze.length:Int)),(137,i64 ak)],[.box [.sl false (L Ah a.Zg1.Ze),.sl false (L Al a.Zg1.Zf),.sl false (L Ab a.Zh1.Zx),.sl false (L Af a.Zh1.Zy),.sl false (L Aj a.Zh1.Zz),.sl false (L Ai a.Zh1.Za1),.sl false (L Ag a.Zi1),.sl false (L Ae a.Zj1),.sl false (L Ac a.Zk1)] false]⟩) ?_ ?_
      ·intro _;refine Sp (fun j=>?_) fun j=>?_
       ·exact Lf Aa (Ew1 j) (ws [0])
       ·refine Sp (fun p=>?_) fun p=>?_
        ·exact Lf Aa (Ew2 j p) (ws [0])
        ·exact Lf Aa (Ew2 j p) (ws [0])
      intro al;refine Bn <|Tn <|F0 [1,6,7,135,136,137] ?_
      exact Ln (ws [0])
     ·refine Sx <|Tx <|Ly a7 a6 <|Bx <|?_
      exact Jm ((ws (l':=[(1,.ref 0 0),(6,i64 b),(7,.bool aj)]) (σ':=[.box [.sl false (L Ah a.Zg1.Ze),.sl false (L Al a.Zg1.Zf),.sl false (L Ab a.Zh1.Zx),.sl false (L Af a.Zh1.Zy),.sl false (L Aj a.Zh1.Zz),.sl false (L Ai a.Zh1.Za1),.sl false (L Ag a.Zi1),.sl false (L Ae a.Zj1),.sl false (L Ac a.Zk1)] false]) [0]).trans (ws [0]))
    intro ai;refine Ja (fun am=>⟨Aq 193 [(1,.ref 0 0),(7,.bool am)],[.box [.sl false (L Ah a.Zg1.Ze),.sl false (L Al a.Zg1.Zf),.sl false (L Ab a.Zh1.Zx),.sl false (L Af a.Zh1.Zy),.sl false (L Aj a.Zh1.Zz),.sl false (L Ai a.Zh1.Za1),.sl false (L Ag a.Zi1),.sl false (L Ae a.Zj1),.sl false (L Ac a.Zk1)] false]⟩) ?_ ?_
    ·intro ch;refine T0 [1,6,7,157,158,159] ?_;refine Sb ?_;refine Lo (fun(v:Bool×Int)=>(⟨Aq 193 [(1,.ref 0 0),(6,i64 b),(7,.bool v.1),(157,.sl false (L Al a.Zg1.Zf)),(158,i64 (a.Zg1.Zf.length:Int)),(159,i64 v.2)],[.box [.sl false (L Ah a.Zg1.Ze),.sl false (L Al a.Zg1.Zf),.sl false (L Ab a.Zh1.Zx),.sl false (L Af a.Zh1.Zy),.sl false (L Aj a.Zh1.Zz),.sl false (L Ai a.Zh1.Za1),.sl false (L Ag a.Zi1),.sl false (L Ae a.Zj1),.sl false (L Ac a.Zk1)] false]⟩:St)) (ws [0]) ?_;rintro⟨an,ao⟩ ci bf bg bh;show Es a b an ao=some bf→_;unfold Es;refine T0 [1,6,7,157,158,159,160] ?_;refine Sq <|Cd ?_ ?_
     ·refine Sk <|Tn <|Sq <|Sb <|Ck fun bi =>Lt fun bj bk =>Lt fun bl bm =>Lt fun bn bo =>Lt fun bp bq =>Lt fun br bs =>Te (σ':=[_,.box [i64 bj,i64 bl,i64 bn,i64 bp,i64 br] false]) [1,6,7,17,157,158,159] Aa (Ev (by simp only[go_sem,qR bi,bk,bm,bo,bq,bs];exact AK)) ?_
      refine Fw [1,6,7,157,158,159] (fun ap=>⟨Aq 193 [(1,.ref 0 0),(6,i64 b),(7,.bool ap),(157,.sl false (L Al a.Zg1.Zf)),(158,i64 (a.Zg1.Zf.length:Int)),(159,i64 ao)],[.box [.sl false (L Ah a.Zg1.Ze),.sl false (L Al a.Zg1.Zf),.sl false (L Ab a.Zh1.Zx),.sl false (L Af a.Zh1.Zy),.sl false (L Aj a.Zh1.Zz),.sl false (L Ai a.Zh1.Za1),.sl false (L Ag a.Zi1),.sl false (L Ae a.Zj1),.sl false (L Ac a.Zk1)] false]⟩) ?_ ?_
      ·intro _;refine Sp (fun q=>?_) fun q=>?_
       ·exact Lf Aa (Ew1 q) (ws [0])
       ·exact Lf Aa (Ew1 q) (ws [0])
      intro ap;refine Bn <|Tn <|F0 [1,6,7,157,158,159] ?_
      exact Ln (ws [0])
     ·refine Sx <|Tx <|Ly bh bg <|Bx <|?_
      exact Jm ((ws (l':=[(1,.ref 0 0),(7,.bool an)]) (σ':=[.box [.sl false (L Ah a.Zg1.Ze),.sl false (L Al a.Zg1.Zf),.sl false (L Ab a.Zh1.Zx),.sl false (L Af a.Zh1.Zy),.sl false (L Aj a.Zh1.Zz),.sl false (L Ai a.Zh1.Za1),.sl false (L Ag a.Zi1),.sl false (L Ae a.Zj1),.sl false (L Ac a.Zk1)] false]) [0]).trans (ws [0]))
    intro am;refine Ja (fun aq=>⟨Aq 193 [(7,.bool aq)],[]⟩) ?_ ?_
    ·intro cj;refine T0 [7,172,173,174] ?_;refine Sb ?_;refine Lo (fun(v:Bool×Int)=>(⟨Aq 193 [(7,.bool v.1),(172,.sl false (L Ac a.Zk1)),(173,i64 (a.Zk1.length:Int)),(174,i64 v.2)],[]⟩:St)) (ws []) ?_;rintro⟨ar,au⟩ ck bt bu bv;show Ew a ar au=some bt→_;unfold Ew;refine T0 [7,172,173,174,175] ?_;refine Sq <|Cd ?_ ?_
     ·refine Sk <|Tn <|Sq <|Sb <|Ck fun bw =>Lt fun bx bz =>Lt fun bA bB =>Lt fun bC bD =>Lt fun bE bF =>Lt fun bG bH =>Lt fun bI bJ =>Lt fun bK bL =>Lt fun bM bN =>Lt fun bO bP =>Lt fun bQ bR =>Lt fun bS bT =>Lt fun bU bV =>Lt fun bW bX =>Lt fun bY bZ =>Lt fun b0 b1 =>Lt fun b2 b3 =>Te (σ':=[.box [u64 bx,i64 bA,i64 bC,i64 bE,i64 bG,i64 bI,i64 bK,i64 bM,i64 bO,i64 bQ,i64 bS,i64 bU,i64 bW,i64 bY,i64 b0,.sl false (L JD b2)] false]) [7,19,172,173,174] Aa (Ev (by simp only[go_sem,qR bw,bz,bB,bD,bF,bH,bJ,bL,bN,bP,bR,bT,bV,bX,bZ,b1,b3];exact AK)) ?_
      refine Fw [7,172,173,174] (fun av=>⟨Aq 193 [(7,.bool av),(172,.sl false (L Ac a.Zk1)),(173,i64 (a.Zk1.length:Int)),(174,i64 au)],[]⟩) ?_ ?_
      ·intro _;refine Sp (fun k=>?_) fun k=>?_
       ·exact Lf Aa (Ew1 k) (ws [])
       ·refine Bd fun cl aw=>?_
        refine Sp (fun s=>?_) fun s=>?_
        ·exact Lf (o1 182 (Ga aw)) (Ew2 k s) (ws [])
        ·refine Bd fun cm b4=>?_
         exact Lf (o2 182 (Ga aw) 188 (Jj b4)) (Ew2 k s) (ws [])
      intro av;refine Bn <|Tn <|F0 [7,172,173,174] ?_
      exact Ln (ws [])
     ·refine Sx <|Tx <|Ly bv bu <|Bx <|?_
      exact Jm ((ws (l':=[(7,.bool ar)]) (σ':=[]) []).trans (ws []))
    intro aq;refine Sq <|T0 [192] ?_
    refine Cd ?_ ?_
    ·refine T0 [2] ?_;exact Sr <|Tr <|Rr
    ·refine Sk <|Tn <|T0 [2] ?_
     exact Sr <|Rr
theorem Cv{a d e r}(h:BM a d e=some r):Con B 150 [.ref 0 0,.ref 0 15,i64 d,i64 e] [.box [.sl false (L Ah a.p.Zg1.Ze),.sl false (L Al a.p.Zg1.Zf),.sl false (L Ab a.p.Zh1.Zx),.sl false (L Af a.p.Zh1.Zy),.sl false (L Aj a.p.Zh1.Zz),.sl false (L Ai a.p.Zh1.Za1),.sl false (L Ag a.p.Zi1),.sl false (L Ae a.p.Zj1),.sl false (L Ac a.p.Zk1),i64 a.it.Za,i64 a.it.Ref.Zb,i64 a.it.Ref.No,i64 a.it.Zn1,i64 a.it.Zb1,i64 a.it.Zc,i64 a.it.Zo1,i64 a.it.Zw,i64 a.it.To,i64 a.it.Code,i64 a.it.Zp1,i64 a.it.Zq1,i64 a.it.Zr1,i64 a.it.Zs1,.str a.it.Zt1,.sl false (L Ad a.it.Zu1),.bool a.ok] false] (fun r' σ'=>r'=.tup []∧σ'=[.box [.sl false (L Ah r.p.Zg1.Ze),.sl false (L Al r.p.Zg1.Zf),.sl false (L Ab r.p.Zh1.Zx),.sl false (L Af r.p.Zh1.Zy),.sl false (L Aj r.p.Zh1.Zz),.sl false (L Ai r.p.Zh1.Za1),.sl false (L Ag r.p.Zi1),.sl false (L Ae r.p.Zj1),.sl false (L Ac r.p.Zk1),i64 r.it.Za,i64 r.it.Ref.Zb,i64 r.it.Ref.No,i64 r.it.Zn1,i64 r.it.Zb1,i64 r.it.Zc,i64 r.it.Zo1,i64 r.it.Zw,i64 r.it.To,i64 r.it.Code,i64 r.it.Zp1,i64 r.it.Zq1,i64 r.it.Zr1,i64 r.it.Zs1,.str r.it.Zt1,.sl false (L Ad r.it.Zu1),.bool r.ok] false]):=by
 refine Co 1 31 [] Tryz.func150 (fun F hE=>?_) h;unfold BM;refine Tw [1] (fun f=>⟨Aq 31 [(1,.ref 0 15)],[.box [.sl false (L Ah a.p.Zg1.Ze),.sl false (L Al a.p.Zg1.Zf),.sl false (L Ab a.p.Zh1.Zx),.sl false (L Af a.p.Zh1.Zy),.sl false (L Aj a.p.Zh1.Zz),.sl false (L Ai a.p.Zh1.Za1),.sl false (L Ag a.p.Zi1),.sl false (L Ae a.p.Zj1),.sl false (L Ac a.p.Zk1),i64 a.it.Za,i64 a.it.Ref.Zb,i64 a.it.Ref.No,i64 a.it.Zn1,i64 a.it.Zb1,i64 a.it.Zc,i64 a.it.Zo1,i64 a.it.Zw,i64 a.it.To,i64 a.it.Code,i64 a.it.Zp1,i64 a.it.Zq1,i64 a.it.Zr1,i64 a.it.Zs1,.str a.it.Zt1,.sl false (L Ad a.it.Zu1),.bool f] false]⟩) ?_ ?_
 ·intro _;refine Sp (fun b=>?_) fun b=>?_
  ·refine Sp (fun c=>?_) fun c=>?_
   ·exact Lf Aa (Ew2 b c) (ws [0])
   ·exact Lf Aa (Ew2 b c) (ws [0])
  ·exact Lf Aa (Ew1 b) (ws [0])
 intro f;refine F0 [] ?_;exact Ro [0]
theorem GG{a d e r}(h:CY a d e=some r):Con B 150 [.ref 0 0,.ref 0 16,i64 d,i64 e] [.box [.sl false (L Ah a.p.Zg1.Ze),.sl false (L Al a.p.Zg1.Zf),.sl false (L Ab a.p.Zh1.Zx),.sl false (L Af a.p.Zh1.Zy),.sl false (L Aj a.p.Zh1.Zz),.sl false (L Ai a.p.Zh1.Za1),.sl false (L Ag a.p.Zi1),.sl false (L Ae a.p.Zj1),.sl false (L Ac a.p.Zk1),i64 a.it.Za,i64 a.it.Ref.Zb,i64 a.it.Ref.No,i64 a.it.Zn1,i64 a.it.Zb1,i64 a.it.Zc,i64 a.it.Zo1,i64 a.it.Zw,i64 a.it.To,i64 a.it.Code,i64 a.it.Zp1,i64 a.it.Zq1,i64 a.it.Zr1,i64 a.it.Zs1,.str a.it.Zt1,.sl false (L Ad a.it.Zu1),.bool a.ok] false] (fun r' σ'=>r'=.tup []∧σ'=[.box [.sl false (L Ah r.p.Zg1.Ze),.sl false (L Al r.p.Zg1.Zf),.sl false (L Ab r.p.Zh1.Zx),.sl false (L Af r.p.Zh1.Zy),.sl false (L Aj r.p.Zh1.Zz),.sl false (L Ai r.p.Zh1.Za1),.sl false (L Ag r.p.Zi1),.sl false (L Ae r.p.Zj1),.sl false (L Ac r.p.Zk1),i64 r.it.Za,i64 r.it.Ref.Zb,i64 r.it.Ref.No,i64 r.it.Zn1,i64 r.it.Zb1,i64 r.it.Zc,i64 r.it.Zo1,i64 r.it.Zw,i64 r.it.To,i64 r.it.Code,i64 r.it.Zp1,i64 r.it.Zq1,i64 r.it.Zr1,i64 r.it.Zs1,.str r.it.Zt1,.sl false (L Ad r.it.Zu1),.bool r.ok] false]):=by
 refine Co 1 31 [] Tryz.func150 (fun F hE=>?_) h;unfold CY;refine Tw [1] (fun f=>⟨Aq 31 [(1,.ref 0 16)],[.box [.sl false (L Ah a.p.Zg1.Ze),.sl false (L Al a.p.Zg1.Zf),.sl false (L Ab a.p.Zh1.Zx),.sl false (L Af a.p.Zh1.Zy),.sl false (L Aj a.p.Zh1.Zz),.sl false (L Ai a.p.Zh1.Za1),.sl false (L Ag a.p.Zi1),.sl false (L Ae a.p.Zj1),.sl false (L Ac a.p.Zk1),i64 a.it.Za,i64 a.it.Ref.Zb,i64 a.it.Ref.No,i64 a.it.Zn1,i64 a.it.Zb1,i64 a.it.Zc,i64 a.it.Zo1,i64 a.it.Zw,i64 a.it.To,i64 a.it.Code,i64 a.it.Zp1,i64 a.it.Zq1,i64 a.it.Zr1,i64 a.it.Zs1,.str a.it.Zt1,.sl false (L Ad a.it.Zu1),.bool f] false]⟩) ?_ ?_
 ·intro _;refine Sp (fun b=>?_) fun b=>?_
  ·refine Sp (fun c=>?_) fun c=>?_
   ·exact Lf Aa (Ew2 b c) (ws [0])
   ·exact Lf Aa (Ew2 b c) (ws [0])
  ·exact Lf Aa (Ew1 b) (ws [0])
 intro f;refine F0 [] ?_;exact Ro [0]
theorem G2{a d e r}(h:Dr a d e=some r):Con B 150 [.ref 0 0,.ref 0 17,i64 d,i64 e] [.box [.sl false (L Ah a.p.Zg1.Ze),.sl false (L Al a.p.Zg1.Zf),.sl false (L Ab a.p.Zh1.Zx),.sl false (L Af a.p.Zh1.Zy),.sl false (L Aj a.p.Zh1.Zz),.sl false (L Ai a.p.Zh1.Za1),.sl false (L Ag a.p.Zi1),.sl false (L Ae a.p.Zj1),.sl false (L Ac a.p.Zk1),i64 a.it.Za,i64 a.it.Ref.Zb,i64 a.it.Ref.No,i64 a.it.Zn1,i64 a.it.Zb1,i64 a.it.Zc,i64 a.it.Zo1,i64 a.it.Zw,i64 a.it.To,i64 a.it.Code,i64 a.it.Zp1,i64 a.it.Zq1,i64 a.it.Zr1,i64 a.it.Zs1,.str a.it.Zt1,.sl false (L Ad a.it.Zu1),.bool a.ok] false] (fun r' σ'=>r'=.tup []∧σ'=[.box [.sl false (L Ah r.p.Zg1.Ze),.sl false (L Al r.p.Zg1.Zf),.sl false (L Ab r.p.Zh1.Zx),.sl false (L Af r.p.Zh1.Zy),.sl false (L Aj r.p.Zh1.Zz),.sl false (L Ai r.p.Zh1.Za1),.sl false (L Ag r.p.Zi1),.sl false (L Ae r.p.Zj1),.sl false (L Ac r.p.Zk1),i64 r.it.Za,i64 r.it.Ref.Zb,i64 r.it.Ref.No,i64 r.it.Zn1,i64 r.it.Zb1,i64 r.it.Zc,i64 r.it.Zo1,i64 r.it.Zw,i64 r.it.To,i64 r.it.Code,i64 r.it.Zp1,i64 r.it.Zq1,i64 r.it.Zr1,i64 r.it.Zs1,.str r.it.Zt1,.sl false (L Ad r.it.Zu1),.bool r.ok] false]):=by
 refine Co 1 31 [] Tryz.func150 (fun F hE=>?_) h;unfold Dr;refine Tw [1] (fun f=>⟨Aq 31 [(1,.ref 0 17)],[.box [.sl false (L Ah a.p.Zg1.Ze),.sl false (L Al a.p.Zg1.Zf),.sl false (L Ab a.p.Zh1.Zx),.sl false (L Af a.p.Zh1.Zy),.sl false (L Aj a.p.Zh1.Zz),.sl false (L Ai a.p.Zh1.Za1),.sl false (L Ag a.p.Zi1),.sl false (L Ae a.p.Zj1),.sl false (L Ac a.p.Zk1),i64 a.it.Za,i64 a.it.Ref.Zb,i64 a.it.Ref.No,i64 a.it.Zn1,i64 a.it.Zb1,i64 a.it.Zc,i64 a.it.Zo1,i64 a.it.Zw,i64 a.it.To,i64 a.it.Code,i64 a.it.Zp1,i64 a.it.Zq1,i64 a.it.Zr1,i64 a.it.Zs1,.str a.it.Zt1,.sl false (L Ad a.it.Zu1),.bool f] false]⟩) ?_ ?_
 ·intro _;refine Sp (fun b=>?_) fun b=>?_
  ·refine Sp (fun c=>?_) fun c=>?_
   ·exact Lf Aa (Ew2 b c) (ws [0])
   ·exact Lf Aa (Ew2 b c) (ws [0])
  ·exact Lf Aa (Ew1 b) (ws [0])
 intro f;refine F0 [] ?_;exact Ro [0]
theorem BE{a d e r}(h:Bu a d e=some r):Con B 150 [.ref 0 0,.ref 0 18,i64 d,i64 e] [.box [.sl false (L Ah a.p.Zg1.Ze),.sl false (L Al a.p.Zg1.Zf),.sl false (L Ab a.p.Zh1.Zx),.sl false (L Af a.p.Zh1.Zy),.sl false (L Aj a.p.Zh1.Zz),.sl false (L Ai a.p.Zh1.Za1),.sl false (L Ag a.p.Zi1),.sl false (L Ae a.p.Zj1),.sl false (L Ac a.p.Zk1),i64 a.it.Za,i64 a.it.Ref.Zb,i64 a.it.Ref.No,i64 a.it.Zn1,i64 a.it.Zb1,i64 a.it.Zc,i64 a.it.Zo1,i64 a.it.Zw,i64 a.it.To,i64 a.it.Code,i64 a.it.Zp1,i64 a.it.Zq1,i64 a.it.Zr1,i64 a.it.Zs1,.str a.it.Zt1,.sl false (L Ad a.it.Zu1),.bool a.ok] false] (fun r' σ'=>r'=.tup []∧σ'=[.box [.sl false (L Ah r.p.Zg1.Ze),.sl false (L Al r.p.Zg1.Zf),.sl false (L Ab r.p.Zh1.Zx),.sl false (L Af r.p.Zh1.Zy),.sl false (L Aj r.p.Zh1.Zz),.sl false (L Ai r.p.Zh1.Za1),.sl false (L Ag r.p.Zi1),.sl false (L Ae r.p.Zj1),.sl false (L Ac r.p.Zk1),i64 r.it.Za,i64 r.it.Ref.Zb,i64 r.it.Ref.No,i64 r.it.Zn1,i64 r.it.Zb1,i64 r.it.Zc,i64 r.it.Zo1,i64 r.it.Zw,i64 r.it.To,i64 r.it.Code,i64 r.it.Zp1,i64 r.it.Zq1,i64 r.it.Zr1,i64 r.it.Zs1,.str r.it.Zt1,.sl false (L Ad r.it.Zu1),.bool r.ok] false]):=by
 refine Co 1 31 [] Tryz.func150 (fun F hE=>?_) h;unfold Bu;refine Tw [1] (fun f=>⟨Aq 31 [(1,.ref 0 18)],[.box [.sl false (L Ah a.p.Zg1.Ze),.sl false (L Al a.p.Zg1.Zf),.sl false (L Ab a.p.Zh1.Zx),.sl false (L Af a.p.Zh1.Zy),.sl false (L Aj a.p.Zh1.Zz),.sl false (L Ai a.p.Zh1.Za1),.sl false (L Ag a.p.Zi1),.sl false (L Ae a.p.Zj1),.sl false (L Ac a.p.Zk1),i64 a.it.Za,i64 a.it.Ref.Zb,i64 a.it.Ref.No,i64 a.it.Zn1,i64 a.it.Zb1,i64 a.it.Zc,i64 a.it.Zo1,i64 a.it.Zw,i64 a.it.To,i64 a.it.Code,i64 a.it.Zp1,i64 a.it.Zq1,i64 a.it.Zr1,i64 a.it.Zs1,.str a.it.Zt1,.sl false (L Ad a.it.Zu1),.bool f] false]⟩) ?_ ?_
 ·intro _;refine Sp (fun b=>?_) fun b=>?_
  ·refine Sp (fun c=>?_) fun c=>?_
   ·exact Lf Aa (Ew2 b c) (ws [0])
   ·exact Lf Aa (Ew2 b c) (ws [0])
  ·exact Lf Aa (Ew1 b) (ws [0])
 intro f;refine F0 [] ?_;exact Ro [0]
theorem Gx{a d e r}(h:Df a d e=some r):Con B 150 [.ref 0 0,.ref 0 19,i64 d,i64 e] [.box [.sl false (L Ah a.p.Zg1.Ze),.sl false (L Al a.p.Zg1.Zf),.sl false (L Ab a.p.Zh1.Zx),.sl false (L Af a.p.Zh1.Zy),.sl false (L Aj a.p.Zh1.Zz),.sl false (L Ai a.p.Zh1.Za1),.sl false (L Ag a.p.Zi1),.sl false (L Ae a.p.Zj1),.sl false (L Ac a.p.Zk1),i64 a.it.Za,i64 a.it.Ref.Zb,i64 a.it.Ref.No,i64 a.it.Zn1,i64 a.it.Zb1,i64 a.it.Zc,i64 a.it.Zo1,i64 a.it.Zw,i64 a.it.To,i64 a.it.Code,i64 a.it.Zp1,i64 a.it.Zq1,i64 a.it.Zr1,i64 a.it.Zs1,.str a.it.Zt1,.sl false (L Ad a.it.Zu1),.bool a.ok] false] (fun r' σ'=>r'=.tup []∧σ'=[.box [.sl false (L Ah r.p.Zg1.Ze),.sl false (L Al r.p.Zg1.Zf),.sl false (L Ab r.p.Zh1.Zx),.sl false (L Af r.p.Zh1.Zy),.sl false (L Aj r.p.Zh1.Zz),.sl false (L Ai r.p.Zh1.Za1),.sl false (L Ag r.p.Zi1),.sl false (L Ae r.p.Zj1),.sl false (L Ac r.p.Zk1),i64 r.it.Za,i64 r.it.Ref.Zb,i64 r.it.Ref.No,i64 r.it.Zn1,i64 r.it.Zb1,i64 r.it.Zc,i64 r.it.Zo1,i64 r.it.Zw,i64 r.it.To,i64 r.it.Code,i64 r.it.Zp1,i64 r.it.Zq1,i64 r.it.Zr1,i64 r.it.Zs1,.str r.it.Zt1,.sl false (L Ad r.it.Zu1),.bool r.ok] false]):=by
 refine Co 1 31 [] Tryz.func150 (fun F hE=>?_) h;unfold Df;refine Tw [1] (fun f=>⟨Aq 31 [(1,.ref 0 19)],[.box [.sl false (L Ah a.p.Zg1.Ze),.sl false (L Al a.p.Zg1.Zf),.sl false (L Ab a.p.Zh1.Zx),.sl false (L Af a.p.Zh1.Zy),.sl false (L Aj a.p.Zh1.Zz),.sl false (L Ai a.p.Zh1.Za1),.sl false (L Ag a.p.Zi1),.sl false (L Ae a.p.Zj1),.sl false (L Ac a.p.Zk1),i64 a.it.Za,i64 a.it.Ref.Zb,i64 a.it.Ref.No,i64 a.it.Zn1,i64 a.it.Zb1,i64 a.it.Zc,i64 a.it.Zo1,i64 a.it.Zw,i64 a.it.To,i64 a.it.Code,i64 a.it.Zp1,i64 a.it.Zq1,i64 a.it.Zr1,i64 a.it.Zs1,.str a.it.Zt1,.sl false (L Ad a.it.Zu1),.bool f] false]⟩) ?_ ?_
 ·intro _;refine Sp (fun b=>?_) fun b=>?_
  ·refine Sp (fun c=>?_) fun c=>?_
   ·exact Lf Aa (Ew2 b c) (ws [0])
   ·exact Lf Aa (Ew2 b c) (ws [0])
  ·exact Lf Aa (Ew1 b) (ws [0])
 intro f;refine F0 [] ?_;exact Ro [0]
theorem GD{a d e r}(h:Da a d e=some r):Con B 150 [.ref 0 0,.ref 0 20,i64 d,i64 e] [.box [.sl false (L Ah a.p.Zg1.Ze),.sl false (L Al a.p.Zg1.Zf),.sl false (L Ab a.p.Zh1.Zx),.sl false (L Af a.p.Zh1.Zy),.sl false (L Aj a.p.Zh1.Zz),.sl false (L Ai a.p.Zh1.Za1),.sl false (L Ag a.p.Zi1),.sl false (L Ae a.p.Zj1),.sl false (L Ac a.p.Zk1),i64 a.it.Za,i64 a.it.Ref.Zb,i64 a.it.Ref.No,i64 a.it.Zn1,i64 a.it.Zb1,i64 a.it.Zc,i64 a.it.Zo1,i64 a.it.Zw,i64 a.it.To,i64 a.it.Code,i64 a.it.Zp1,i64 a.it.Zq1,i64 a.it.Zr1,i64 a.it.Zs1,.str a.it.Zt1,.sl false (L Ad a.it.Zu1),.bool a.ok] false] (fun r' σ'=>r'=.tup []∧σ'=[.box [.sl false (L Ah r.p.Zg1.Ze),.sl false (L Al r.p.Zg1.Zf),.sl false (L Ab r.p.Zh1.Zx),.sl false (L Af r.p.Zh1.Zy),.sl false (L Aj r.p.Zh1.Zz),.sl false (L Ai r.p.Zh1.Za1),.sl false (L Ag r.p.Zi1),.sl false (L Ae r.p.Zj1),.sl false (L Ac r.p.Zk1),i64 r.it.Za,i64 r.it.Ref.Zb,i64 r.it.Ref.No,i64 r.it.Zn1,i64 r.it.Zb1,i64 r.it.Zc,i64 r.it.Zo1,i64 r.it.Zw,i64 r.it.To,i64 r.it.Code,i64 r.it.Zp1,i64 r.it.Zq1,i64 r.it.Zr1,i64 r.it.Zs1,.str r.it.Zt1,.sl false (L Ad r.it.Zu1),.bool r.ok] false]):=by
 refine Co 1 31 [] Tryz.func150 (fun F hE=>?_) h;unfold Da;refine Tw [1] (fun f=>⟨Aq 31 [(1,.ref 0 20)],[.box [.sl false (L Ah a.p.Zg1.Ze),.sl false (L Al a.p.Zg1.Zf),.sl false (L Ab a.p.Zh1.Zx),.sl false (L Af a.p.Zh1.Zy),.sl false (L Aj a.p.Zh1.Zz),.sl false (L Ai a.p.Zh1.Za1),.sl false (L Ag a.p.Zi1),.sl false (L Ae a.p.Zj1),.sl false (L Ac a.p.Zk1),i64 a.it.Za,i64 a.it.Ref.Zb,i64 a.it.Ref.No,i64 a.it.Zn1,i64 a.it.Zb1,i64 a.it.Zc,i64 a.it.Zo1,i64 a.it.Zw,i64 a.it.To,i64 a.it.Code,i64 a.it.Zp1,i64 a.it.Zq1,i64 a.it.Zr1,i64 a.it.Zs1,.str a.it.Zt1,.sl false (L Ad a.it.Zu1),.bool f] false]⟩) ?_ ?_
 ·intro _;refine Sp (fun b=>?_) fun b=>?_
  ·refine Sp (fun c=>?_) fun c=>?_
   ·exact Lf Aa (Ew2 b c) (ws [0])
   ·exact Lf Aa (Ew2 b c) (ws [0])
  ·exact Lf Aa (Ew1 b) (ws [0])
 intro f;refine F0 [] ?_;exact Ro [0]
theorem DG{a d e r}(h:Cr a d e=some r):Con B 150 [.ref 0 0,.ref 0 21,i64 d,i64 e] [.box [.sl false (L Ah a.p.Zg1.Ze),.sl false (L Al a.p.Zg1.Zf),.sl false (L Ab a.p.Zh1.Zx),.sl false (L Af a.p.Zh1.Zy),.sl false (L Aj a.p.Zh1.Zz),.sl false (L Ai a.p.Zh1.Za1),.sl false (L Ag a.p.Zi1),.sl false (L Ae a.p.Zj1),.sl false (L Ac a.p.Zk1),i64 a.it.Za,i64 a.it.Ref.Zb,i64 a.it.Ref.No,i64 a.it.Zn1,i64 a.it.Zb1,i64 a.it.Zc,i64 a.it.Zo1,i64 a.it.Zw,i64 a.it.To,i64 a.it.Code,i64 a.it.Zp1,i64 a.it.Zq1,i64 a.it.Zr1,i64 a.it.Zs1,.str a.it.Zt1,.sl false (L Ad a.it.Zu1),.bool a.ok] false] (fun r' σ'=>r'=.tup []∧σ'=[.box [.sl false (L Ah r.p.Zg1.Ze),.sl false (L Al r.p.Zg1.Zf),.sl false (L Ab r.p.Zh1.Zx),.sl false (L Af r.p.Zh1.Zy),.sl false (L Aj r.p.Zh1.Zz),.sl false (L Ai r.p.Zh1.Za1),.sl false (L Ag r.p.Zi1),.sl false (L Ae r.p.Zj1),.sl false (L Ac r.p.Zk1),i64 r.it.Za,i64 r.it.Ref.Zb,i64 r.it.Ref.No,i64 r.it.Zn1,i64 r.it.Zb1,i64 r.it.Zc,i64 r.it.Zo1,i64 r.it.Zw,i64 r.it.To,i64 r.it.Code,i64 r.it.Zp1,i64 r.it.Zq1,i64 r.it.Zr1,i64 r.it.Zs1,.str r.it.Zt1,.sl false (L Ad r.it.Zu1),.bool r.ok] false]):=by
 refine Co 1 31 [] Tryz.func150 (fun F hE=>?_) h;unfold Cr;refine Tw [1] (fun f=>⟨Aq 31 [(1,.ref 0 21)],[.box [.sl false (L Ah a.p.Zg1.Ze),.sl false (L Al a.p.Zg1.Zf),.sl false (L Ab a.p.Zh1.Zx),.sl false (L Af a.p.Zh1.Zy),.sl false (L Aj a.p.Zh1.Zz),.sl false (L Ai a.p.Zh1.Za1),.sl false (L Ag a.p.Zi1),.sl false (L Ae a.p.Zj1),.sl false (L Ac a.p.Zk1),i64 a.it.Za,i64 a.it.Ref.Zb,i64 a.it.Ref.No,i64 a.it.Zn1,i64 a.it.Zb1,i64 a.it.Zc,i64 a.it.Zo1,i64 a.it.Zw,i64 a.it.To,i64 a.it.Code,i64 a.it.Zp1,i64 a.it.Zq1,i64 a.it.Zr1,i64 a.it.Zs1,.str a.it.Zt1,.sl false (L Ad a.it.Zu1),.bool f] false]⟩) ?_ ?_
 ·intro _;refine Sp (fun b=>?_) fun b=>?_
  ·refine Sp (fun c=>?_) fun c=>?_
   ·exact Lf Aa (Ew2 b c) (ws [0])
   ·exact Lf Aa (Ew2 b c) (ws [0])
  ·exact Lf Aa (Ew1 b) (ws [0])
 intro f;refine F0 [] ?_;exact Ro [0]
theorem DH{a d e r}(h:Cs a d e=some r):Con B 150 [.ref 0 0,.ref 0 22,i64 d,i64 e] [.box [.sl false (L Ah a.p.Zg1.Ze),.sl false (L Al a.p.Zg1.Zf),.sl false (L Ab a.p.Zh1.Zx),.sl false (L Af a.p.Zh1.Zy),.sl false (L Aj a.p.Zh1.Zz),.sl false (L Ai a.p.Zh1.Za1),.sl false (L Ag a.p.Zi1),.sl false (L Ae a.p.Zj1),.sl false (L Ac a.p.Zk1),i64 a.it.Za,i64 a.it.Ref.Zb,i64 a.it.Ref.No,i64 a.it.Zn1,i64 a.it.Zb1,i64 a.it.Zc,i64 a.it.Zo1,i64 a.it.Zw,i64 a.it.To,i64 a.it.Code,i64 a.it.Zp1,i64 a.it.Zq1,i64 a.it.Zr1,i64 a.it.Zs1,.str a.it.Zt1,.sl false (L Ad a.it.Zu1),.bool a.ok] false] (fun r' σ'=>r'=.tup []∧σ'=[.box [.sl false (L Ah r.p.Zg1.Ze),.sl false (L Al r.p.Zg1.Zf),.sl false (L Ab r.p.Zh1.Zx),.sl false (L Af r.p.Zh1.Zy),.sl false (L Aj r.p.Zh1.Zz),.sl false (L Ai r.p.Zh1.Za1),.sl false (L Ag r.p.Zi1),.sl false (L Ae r.p.Zj1),.sl false (L Ac r.p.Zk1),i64 r.it.Za,i64 r.it.Ref.Zb,i64 r.it.Ref.No,i64 r.it.Zn1,i64 r.it.Zb1,i64 r.it.Zc,i64 r.it.Zo1,i64 r.it.Zw,i64 r.it.To,i64 r.it.Code,i64 r.it.Zp1,i64 r.it.Zq1,i64 r.it.Zr1,i64 r.it.Zs1,.str r.it.Zt1,.sl false (L Ad r.it.Zu1),.bool r.ok] false]):=by
 refine Co 1 31 [] Tryz.func150 (fun F hE=>?_) h;unfold Cs;refine Tw [1] (fun f=>⟨Aq 31 [(1,.ref 0 22)],[.box [.sl false (L Ah a.p.Zg1.Ze),.sl false (L Al a.p.Zg1.Zf),.sl false (L Ab a.p.Zh1.Zx),.sl false (L Af a.p.Zh1.Zy),.sl false (L Aj a.p.Zh1.Zz),.sl false (L Ai a.p.Zh1.Za1),.sl false (L Ag a.p.Zi1),.sl false (L Ae a.p.Zj1),.sl false (L Ac a.p.Zk1),i64 a.it.Za,i64 a.it.Ref.Zb,i64 a.it.Ref.No,i64 a.it.Zn1,i64 a.it.Zb1,i64 a.it.Zc,i64 a.it.Zo1,i64 a.it.Zw,i64 a.it.To,i64 a.it.Code,i64 a.it.Zp1,i64 a.it.Zq1,i64 a.it.Zr1,i64 a.it.Zs1,.str a.it.Zt1,.sl false (L Ad a.it.Zu1),.bool f] false]⟩) ?_ ?_
 ·intro _;refine Sp (fun b=>?_) fun b=>?_
  ·refine Sp (fun c=>?_) fun c=>?_
   ·exact Lf Aa (Ew2 b c) (ws [0])
   ·exact Lf Aa (Ew2 b c) (ws [0])
  ·exact Lf Aa (Ew1 b) (ws [0])
 intro f;refine F0 [] ?_;exact Ro [0]
theorem CW{a r}(h:C4 a=some r):Con B 149 [.ref 0 0] [.box [.sl false (L Ah a.p.Zg1.Ze),.sl false (L Al a.p.Zg1.Zf),.sl false (L Ab a.p.Zh1.Zx),.sl false (L Af a.p.Zh1.Zy),.sl false (L Aj a.p.Zh1.Zz),.sl false (L Ai a.p.Zh1.Za1),.sl false (L Ag a.p.Zi1),.sl false (L Ae a.p.Zj1),.sl false (L Ac a.p.Zk1),i64 a.it.Za,i64 a.it.Ref.Zb,i64 a.it.Ref.No,i64 a.it.Zn1,i64 a.it.Zb1,i64 a.it.Zc,i64 a.it.Zo1,i64 a.it.Zw,i64 a.it.To,i64 a.it.Code,i64 a.it.Zp1,i64 a.it.Zq1,i64 a.it.Zr1,i64 a.it.Zs1,.str a.it.Zt1,.sl false (L Ad a.it.Zu1),.bool a.ok] false] (fun r' σ'=>r'=.tup []∧σ'=[.box [.sl false (L Ah r.p.Zg1.Ze),.sl false (L Al r.p.Zg1.Zf),.sl false (L Ab r.p.Zh1.Zx),.sl false (L Af r.p.Zh1.Zy),.sl false (L Aj r.p.Zh1.Zz),.sl false (L Ai r.p.Zh1.Za1),.sl false (L Ag r.p.Zi1),.sl false (L Ae r.p.Zj1),.sl false (L Ac r.p.Zk1),i64 r.it.Za,i64 r.it.Ref.Zb,i64 r.it.Ref.No,i64 r.it.Zn1,i64 r.it.Zb1,i64 r.it.Zc,i64 r.it.Zo1,i64 r.it.Zw,i64 r.it.To,i64 r.it.Code,i64 r.it.Zp1,i64 r.it.Zq1,i64 r.it.Zr1,i64 r.it.Zs1,.str r.it.Zt1,.sl false (L Ad r.it.Zu1),.bool r.ok] false]):=by
 refine Co 1 16 [] Tryz.func149 (fun F hE=>?_) h;unfold C4;refine Bd fun c b =>Ge [[],[],[1],[1,2],[1,2,3],[],[5],[5,6],[5,6,7],[5,6,7,8],[5,6,7,8,9],[5,6,7,8,9,10],[5,6,7,8,9,10,11],[0,1,2,3,4,5,6,7,8,9,10,11,12]] [] (Ap (l:=[]) (m:=[(15,150,[.ref 0 0,.ref 0 12,i64 0,i64 (w64 ((a.p.Zh1.Zy.length:Int)-1))],[.box [.sl false (L Ah a.p.Zg1.Ze),.sl false (L Al a.p.Zg1.Zf),.sl false (L Ab a.p.Zh1.Zx),.sl false (L Af a.p.Zh1.Zy),.sl false (L Aj a.p.Zh1.Zz),.sl false (L Ai a.p.Zh1.Za1),.sl false (L Ag a.p.Zi1),.sl false (L Ae a.p.Zj1),.sl false (L Ac a.p.Zk1),i64 a.it.Za,i64 a.it.Ref.Zb,i64 a.it.Ref.No,i64 a.it.Zn1,i64 a.it.Zb1,i64 a.it.Zc,i64 a.it.Zo1,i64 a.it.Zw,i64 a.it.To,i64 a.it.Code,i64 a.it.Zp1,i64 a.it.Zq1,i64 a.it.Zr1,i64 a.it.Zs1,.str a.it.Zt1,.sl false (L Ad a.it.Zu1),.bool a.ok] false],_,_)]) trivial ⟨(wc (G3 b) [0]),trivial⟩) Ev ?_
 exact Ro [0]
theorem Bk{a r}(h:Bp a=some r):Con B 151 [.ref 0 0] [.box [.sl false (L Ah a.p.Zg1.Ze),.sl false (L Al a.p.Zg1.Zf),.sl false (L Ab a.p.Zh1.Zx),.sl false (L Af a.p.Zh1.Zy),.sl false (L Aj a.p.Zh1.Zz),.sl false (L Ai a.p.Zh1.Za1),.sl false (L Ag a.p.Zi1),.sl false (L Ae a.p.Zj1),.sl false (L Ac a.p.Zk1),i64 a.it.Za,i64 a.it.Ref.Zb,i64 a.it.Ref.No,i64 a.it.Zn1,i64 a.it.Zb1,i64 a.it.Zc,i64 a.it.Zo1,i64 a.it.Zw,i64 a.it.To,i64 a.it.Code,i64 a.it.Zp1,i64 a.it.Zq1,i64 a.it.Zr1,i64 a.it.Zs1,.str a.it.Zt1,.sl false (L Ad a.it.Zu1),.bool a.ok] false] (fun r' σ'=>r'=.tup []∧σ'=[.box [.sl false (L Ah r.p.Zg1.Ze),.sl false (L Al r.p.Zg1.Zf),.sl false (L Ab r.p.Zh1.Zx),.sl false (L Af r.p.Zh1.Zy),.sl false (L Aj r.p.Zh1.Zz),.sl false (L Ai r.p.Zh1.Za1),.sl false (L Ag r.p.Zi1),.sl false (L Ae r.p.Zj1),.sl false (L Ac r.p.Zk1),i64 r.it.Za,i64 r.it.Ref.Zb,i64 r.it.Ref.No,i64 r.it.Zn1,i64 r.it.Zb1,i64 r.it.Zc,i64 r.it.Zo1,i64 r.it.Zw,i64 r.it.To,i64 r.it.Code,i64 r.it.Zp1,i64 r.it.Zq1,i64 r.it.Zr1,i64 r.it.Zs1,.str r.it.Zt1,.sl false (L Ad r.it.Zu1),.bool r.ok] false]):=by
 refine Co 1 8 [] Tryz.func151 (fun F hE=>?_) h;unfold Bp;refine Bd fun c b =>Fe [] (Ap (l:=[]) (m:=[(7,150,[.ref 0 0,.ref 0 16,i64 0,i64 1073741824],[.box [.sl false (L Ah a.p.Zg1.Ze),.sl false (L Al a.p.Zg1.Zf),.sl false (L Ab a.p.Zh1.Zx),.sl false (L Af a.p.Zh1.Zy),.sl false (L Aj a.p.Zh1.Zz),.sl false (L Ai a.p.Zh1.Za1),.sl false (L Ag a.p.Zi1),.sl false (L Ae a.p.Zj1),.sl false (L Ac a.p.Zk1),i64 a.it.Za,i64 a.it.Ref.Zb,i64 a.it.Ref.No,i64 a.it.Zn1,i64 a.it.Zb1,i64 a.it.Zc,i64 a.it.Zo1,i64 a.it.Zw,i64 a.it.To,i64 a.it.Code,i64 a.it.Zp1,i64 a.it.Zq1,i64 a.it.Zr1,i64 a.it.Zs1,.str a.it.Zt1,.sl false (L Ad a.it.Zu1),.bool a.ok] false],_,_)]) trivial ⟨(wc (GG b) [0]),trivial⟩) Ev ?_
 exact Ro [0]
theorem Bz{a c r}(h:B0 a c=some r):Con B 152 [.ref 0 0,i64 c] [.box [.sl false (L Ah a.p.Zg1.Ze),.sl false (L Al a.p.Zg1.Zf),.sl false (L Ab a.p.Zh1.Zx),.sl false (L Af a.p.Zh1.Zy),.sl false (L Aj a.p.Zh1.Zz),.sl false (L Ai a.p.Zh1.Za1),.sl false (L Ag a.p.Zi1),.sl false (L Ae a.p.Zj1),.sl false (L Ac a.p.Zk1),i64 a.it.Za,i64 a.it.Ref.Zb,i64 a.it.Ref.No,i64 a.it.Zn1,i64 a.it.Zb1,i64 a.it.Zc,i64 a.it.Zo1,i64 a.it.Zw,i64 a.it.To,i64 a.it.Code,i64 a.it.Zp1,i64 a.it.Zq1,i64 a.it.Zr1,i64 a.it.Zs1,.str a.it.Zt1,.sl false (L Ad a.it.Zu1),.bool a.ok] false] (fun r' σ'=>r'=.agg [i64 r.1.Za,i64 r.1.Zb,i64 r.1.Zc]∧σ'=[.box [.sl false (L Ah r.2.p.Zg1.Ze),.sl false (L Al r.2.p.Zg1.Zf),.sl false (L Ab r.2.p.Zh1.Zx),.sl false (L Af r.2.p.Zh1.Zy),.sl false (L Aj r.2.p.Zh1.Zz),.sl false (L Ai r.2.p.Zh1.Za1),.sl false (L Ag r.2.p.Zi1),.sl false (L Ae r.2.p.Zj1),.sl false (L Ac r.2.p.Zk1),i64 r.2.it.Za,i64 r.2.it.Ref.Zb,i64 r.2.it.Ref.No,i64 r.2.it.Zn1,i64 r.2.it.Zb1,i64 r.2.it.Zc,i64 r.2.it.Zo1,i64 r.2.it.Zw,i64 r.2.it.To,i64 r.2.it.Code,i64 r.2.it.Zp1,i64 r.2.it.Zq1,i64 r.2.it.Zr1,i64 r.2.it.Zs1,.str r.2.it.Zt1,.sl false (L Ad r.2.it.Zu1),.bool r.2.ok] false]):=by
 refine Co 1 66 [.cell 4 120] Tryz.func152 (fun F hE=>?_) h;unfold B0;refine T0 [0,1,4] ?_;refine Ja (fun⟨e,f,g⟩=>⟨Aq 66 [(0,.ref 0 0),(1,i64 c),(4,.ref 1 0)],[.box [.sl false (L Ah a.p.Zg1.Ze),.sl false (L Al a.p.Zg1.Zf),.sl false (L Ab a.p.Zh1.Zx),.sl false (L Af a.p.Zh1.Zy),.sl false (L Aj a.p.Zh1.Zz),.sl false (L Ai a.p.Zh1.Za1),.sl false (L Ag a.p.Zi1),.sl false (L Ae a.p.Zj1),.sl false (L Ac a.p.Zk1),i64 a.it.Za,i64 a.it.Ref.Zb,i64 a.it.Ref.No,i64 a.it.Zn1,i64 a.it.Zb1,i64 a.it.Zc,i64 a.it.Zo1,i64 a.it.Zw,i64 a.it.To,i64 a.it.Code,i64 a.it.Zp1,i64 a.it.Zq1,i64 a.it.Zr1,i64 a.it.Zs1,.str a.it.Zt1,.sl false (L Ad a.it.Zu1),.bool a.ok] false,.box [i64 e,i64 f,i64 g] false]⟩) ?_ ?_
 ·intro v;refine Dw [[],[0],[0,1],[0,1,2],[0,1,2,3],[0,1,2,3,4],[0,1,2,3,4,5],[0,1,2,3,4,5,6],[0,1,2,3,4,5,6,7],[0,1,2,3,4,5,6,7,8],[0,1,2,3,4,5,6,7,8,9],[0,1,2,3,4,5,6,7,8,9,10],[0,1,2,3,4,5,6],[0,1,2,3,4,5,6,12],[0,1,2,3,4,5,6,12,13],[0,1,2,3,4,5,6,12,13,14],[0,1,2,3,4,5,6,12,13,14,15],[0,1,2,3,4,5,6,12,13,14,15,16],[0,1,2,3,4,5,6,12,13,14,15,16,17],[0,1,2,3,4,5,6,7,8,9,10,11,12,13,14,15,16,17,18],[0,1,2,3,4,5,6,7,8,9,10,11,12,13,14,15,16,17,18,19]] [0,1,4,25] (fun k=>⟨Aq 66 [(0,.ref 0 0),(1,i64 c),(4,.ref 1 0),(25,.bool k)],[.box [.sl false (L Ah a.p.Zg1.Ze),.sl false (L Al a.p.Zg1.Zf),.sl false (L Ab a.p.Zh1.Zx),.sl false (L Af a.p.Zh1.Zy),.sl false (L Aj a.p.Zh1.Zz),.sl false (L Ai a.p.Zh1.Za1),.sl false (L Ag a.p.Zi1),.sl false (L Ae a.p.Zj1),.sl false (L Ac a.p.Zk1),i64 a.it.Za,i64 a.it.Ref.Zb,i64 a.it.Ref.No,i64 a.it.Zn1,i64 a.it.Zb1,i64 a.it.Zc,i64 a.it.Zo1,i64 a.it.Zw,i64 a.it.To,i64 a.it.Code,i64 a.it.Zp1,i64 a.it.Zq1,i64 a.it.Zr1,i64 a.it.Zs1,.str a.it.Zt1,.sl false (L Ad a.it.Zu1),.bool a.ok] false,.box [i64 0,i64 0,i64 0] false]⟩) ?_ ?_
  ·intro _;refine Sp (fun i=>?_) fun i=>?_
   ·exact Lf Aa (Ew1 i) (ws [0,1])
   ·exact Lf Aa (Ew1 i) (ws [0,1])
  intro k;refine Cd ?_ ?_
  ·refine Ck fun m =>Lt fun n o =>Lt fun q s =>Lt fun t u =>Ge (σ':=[_,.box [i64 n,i64 q,i64 t] false]) [[],[0],[0,1],[0,1,2],[0,1,2,3],[0,1,2,3,4],[],[6],[6,7],[6,7,8],[6,7,8,9],[0,1,2,3,4,5,6,7,8,9,10],[0,1,2,3,4,5,6,7,8,9,10,11],[0,1,2,3,4,5,6,7,8,9,10,11,12]] [0,1,4] Aa (Ew4 (qR m) o s u) ?_
   exact Jm (ws [0,1])
  ·exact Sk <|Jm (ws [0,1])
 rintro⟨e,f,g⟩;refine Tw [0,4] (fun l=>⟨Aq 66 [(0,.ref 0 0),(4,.ref 1 0)],[.box [.sl false (L Ah a.p.Zg1.Ze),.sl false (L Al a.p.Zg1.Zf),.sl false (L Ab a.p.Zh1.Zx),.sl false (L Af a.p.Zh1.Zy),.sl false (L Aj a.p.Zh1.Zz),.sl false (L Ai a.p.Zh1.Za1),.sl false (L Ag a.p.Zi1),.sl false (L Ae a.p.Zj1),.sl false (L Ac a.p.Zk1),i64 a.it.Za,i64 a.it.Ref.Zb,i64 a.it.Ref.No,i64 a.it.Zn1,i64 a.it.Zb1,i64 a.it.Zc,i64 a.it.Zo1,i64 a.it.Zw,i64 a.it.To,i64 a.it.Code,i64 a.it.Zp1,i64 a.it.Zq1,i64 a.it.Zr1,i64 a.it.Zs1,.str a.it.Zt1,.sl false (L Ad a.it.Zu1),.bool l] false,.box [i64 e,i64 f,i64 g] false]⟩) ?_ ?_
 ·intro _;refine Sp (fun b=>?_) fun b=>?_
  ·refine Sp (fun d=>?_) fun d=>?_
   ·refine Sp (fun j=>?_) fun j=>?_
    ·exact Lf Aa (Ew3 b d j) (ws [0,1])
    ·exact Lf Aa (Ew3 b d j) (ws [0,1])
   ·exact Lf Aa (Ew2 b d) (ws [0,1])
  ·exact Lf Aa (Ew1 b) (ws [0,1])
 intro l;refine T0 [4] ?_;refine T0 [4] ?_;exact Sr <|Ro [0]
theorem DF{a r}(h:CO a=some r):Con B 153 [.ref 0 0] [.box [.sl false (L Ah a.p.Zg1.Ze),.sl false (L Al a.p.Zg1.Zf),.sl false (L Ab a.p.Zh1.Zx),.sl false (L Af a.p.Zh1.Zy),.sl false (L Aj a.p.Zh1.Zz),.sl false (L Ai a.p.Zh1.Za1),.sl false (L Ag a.p.Zi1),.sl false (L Ae a.p.Zj1),.sl false (L Ac a.p.Zk1),i64 a.it.Za,i64 a.it.Ref.Zb,i64 a.it.Ref.No,i64 a.it.Zn1,i64 a.it.Zb1,i64 a.it.Zc,i64 a.it.Zo1,i64 a.it.Zw,i64 a.it.To,i64 a.it.Code,i64 a.it.Zp1,i64 a.it.Zq1,i64 a.it.Zr1,i64 a.it.Zs1,.str a.it.Zt1,.sl false (L Ad a.it.Zu1),.bool a.ok] false] (fun r' σ'=>r'=.tup []∧σ'=[.box [.sl false (L Ah r.p.Zg1.Ze),.sl false (L Al r.p.Zg1.Zf),.sl false (L Ab r.p.Zh1.Zx),.sl false (L Af r.p.Zh1.Zy),.sl false (L Aj r.p.Zh1.Zz),.sl false (L Ai r.p.Zh1.Za1),.sl false (L Ag r.p.Zi1),.sl false (L Ae r.p.Zj1),.sl false (L Ac r.p.Zk1),i64 r.it.Za,i64 r.it.Ref.Zb,i64 r.it.Ref.No,i64 r.it.Zn1,i64 r.it.Zb1,i64 r.it.Zc,i64 r.it.Zo1,i64 r.it.Zw,i64 r.it.To,i64 r.it.Code,i64 r.it.Zp1,i64 r.it.Zq1,i64 r.it.Zr1,i64 r.it.Zs1,.str r.it.Zt1,.sl false (L Ad r.it.Zu1),.bool r.ok] false]):=by
 refine Co 1 16 [] Tryz.func153 (fun F hE=>?_) h;unfold CO;refine Bd fun b c =>De [[],[],[1],[1,2],[1,2,3],[],[5],[5,6],[5,6,7],[5,6,7,8],[5,6,7,8,9],[0,1,2,3,4,5,6,7,8,9,10]] [0] (Ap (l:=[]) (m:=[(13,150,[.ref 0 0,.ref 0 17,i64 (Hi a.it.Zw 0),i64 1073741824],[.box [.sl false (L Ah a.p.Zg1.Ze),.sl false (L Al a.p.Zg1.Zf),.sl false (L Ab a.p.Zh1.Zx),.sl false (L Af a.p.Zh1.Zy),.sl false (L Aj a.p.Zh1.Zz),.sl false (L Ai a.p.Zh1.Za1),.sl false (L Ag a.p.Zi1),.sl false (L Ae a.p.Zj1),.sl false (L Ac a.p.Zk1),i64 a.it.Za,i64 a.it.Ref.Zb,i64 a.it.Ref.No,i64 a.it.Zn1,i64 a.it.Zb1,i64 a.it.Zc,i64 a.it.Zo1,i64 a.it.Zw,i64 a.it.To,i64 a.it.Code,i64 a.it.Zp1,i64 a.it.Zq1,i64 a.it.Zr1,i64 a.it.Zs1,.str a.it.Zt1,.sl false (L Ad a.it.Zu1),.bool a.ok] false],_,_)]) trivial ⟨(wc (G2 c) [0]),trivial⟩) Ev ?_
 refine Bd fun e d =>Fe [] (Ap (l:=[]) (m:=[(15,151,[.ref 0 0],[.box [.sl false (L Ah b.p.Zg1.Ze),.sl false (L Al b.p.Zg1.Zf),.sl false (L Ab b.p.Zh1.Zx),.sl false (L Af b.p.Zh1.Zy),.sl false (L Aj b.p.Zh1.Zz),.sl false (L Ai b.p.Zh1.Za1),.sl false (L Ag b.p.Zi1),.sl false (L Ae b.p.Zj1),.sl false (L Ac b.p.Zk1),i64 b.it.Za,i64 b.it.Ref.Zb,i64 b.it.Ref.No,i64 b.it.Zn1,i64 b.it.Zb1,i64 b.it.Zc,i64 b.it.Zo1,i64 b.it.Zw,i64 b.it.To,i64 b.it.Code,i64 b.it.Zp1,i64 b.it.Zq1,i64 b.it.Zr1,i64 b.it.Zs1,.str b.it.Zt1,.sl false (L Ad b.it.Zu1),.bool b.ok] false],_,_)]) trivial ⟨(wc (Bk d) [0]),trivial⟩) Ev ?_
 exact Ro [0]
theorem CB{a r}(h:Cc a=some r):Con B 154 [.ref 0 0] [.box [.sl false (L Ah a.p.Zg1.Ze),.sl false (L Al a.p.Zg1.Zf),.sl false (L Ab a.p.Zh1.Zx),.sl false (L Af a.p.Zh1.Zy),.sl false (L Aj a.p.Zh1.Zz),.sl false (L Ai a.p.Zh1.Za1),.sl false (L Ag a.p.Zi1),.sl false (L Ae a.p.Zj1),.sl false (L Ac a.p.Zk1),i64 a.it.Za,i64 a.it.Ref.Zb,i64 a.it.Ref.No,i64 a.it.Zn1,i64 a.it.Zb1,i64 a.it.Zc,i64 a.it.Zo1,i64 a.it.Zw,i64 a.it.To,i64 a.it.Code,i64 a.it.Zp1,i64 a.it.Zq1,i64 a.it.Zr1,i64 a.it.Zs1,.str a.it.Zt1,.sl false (L Ad a.it.Zu1),.bool a.ok] false] (fun r' σ'=>r'=.tup []∧σ'=[.box [.sl false (L Ah r.p.Zg1.Ze),.sl false (L Al r.p.Zg1.Zf),.sl false (L Ab r.p.Zh1.Zx),.sl false (L Af r.p.Zh1.Zy),.sl false (L Aj r.p.Zh1.Zz),.sl false (L Ai r.p.Zh1.Za1),.sl false (L Ag r.p.Zi1),.sl false (L Ae r.p.Zj1),.sl false (L Ac r.p.Zk1),i64 r.it.Za,i64 r.it.Ref.Zb,i64 r.it.Ref.No,i64 r.it.Zn1,i64 r.it.Zb1,i64 r.it.Zc,i64 r.it.Zo1,i64 r.it.Zw,i64 r.it.To,i64 r.it.Code,i64 r.it.Zp1,i64 r.it.Zq1,i64 r.it.Zr1,i64 r.it.Zs1,.str r.it.Zt1,.sl false (L Ad r.it.Zu1),.bool r.ok] false]):=by
 refine Co 1 15 [] Tryz.func154 (fun F hE=>?_) h;unfold Cc;refine Bd fun c b =>Ge [[],[],[1],[1,2],[1,2,3],[],[5],[5,6],[5,6,7],[5,6,7,8],[5,6,7,8,9],[5,6,7,8,9,10],[0,1,2,3,4,5,6,7,8,9,10,11]] [] (Ap (l:=[]) (m:=[(14,150,[.ref 0 0,.ref 0 14,i64 0,i64 (w64 ((a.p.Zj1.length:Int)-1))],[.box [.sl false (L Ah a.p.Zg1.Ze),.sl false (L Al a.p.Zg1.Zf),.sl false (L Ab a.p.Zh1.Zx),.sl false (L Af a.p.Zh1.Zy),.sl false (L Aj a.p.Zh1.Zz),.sl false (L Ai a.p.Zh1.Za1),.sl false (L Ag a.p.Zi1),.sl false (L Ae a.p.Zj1),.sl false (L Ac a.p.Zk1),i64 a.it.Za,i64 a.it.Ref.Zb,i64 a.it.Ref.No,i64 a.it.Zn1,i64 a.it.Zb1,i64 a.it.Zc,i64 a.it.Zo1,i64 a.it.Zw,i64 a.it.To,i64 a.it.Code,i64 a.it.Zp1,i64 a.it.Zq1,i64 a.it.Zr1,i64 a.it.Zs1,.str a.it.Zt1,.sl false (L Ad a.it.Zu1),.bool a.ok] false],_,_)]) trivial ⟨(wc (Cy b) [0]),trivial⟩) Ev ?_
 exact Ro [0]
theorem Fc{a r}(h:D6 a=some r):Con B 155 [.ref 0 0] [.box [.sl false (L Ah a.p.Zg1.Ze),.sl false (L Al a.p.Zg1.Zf),.sl false (L Ab a.p.Zh1.Zx),.sl false (L Af a.p.Zh1.Zy),.sl false (L Aj a.p.Zh1.Zz),.sl false (L Ai a.p.Zh1.Za1),.sl false (L Ag a.p.Zi1),.sl false (L Ae a.p.Zj1),.sl false (L Ac a.p.Zk1),i64 a.it.Za,i64 a.it.Ref.Zb,i64 a.it.Ref.No,i64 a.it.Zn1,i64 a.it.Zb1,i64 a.it.Zc,i64 a.it.Zo1,i64 a.it.Zw,i64 a.it.To,i64 a.it.Code,i64 a.it.Zp1,i64 a.it.Zq1,i64 a.it.Zr1,i64 a.it.Zs1,.str a.it.Zt1,.sl false (L Ad a.it.Zu1),.bool a.ok] false] (fun r' σ'=>r'=.tup []∧σ'=[.box [.sl false (L Ah r.p.Zg1.Ze),.sl false (L Al r.p.Zg1.Zf),.sl false (L Ab r.p.Zh1.Zx),.sl false (L Af r.p.Zh1.Zy),.sl false (L Aj r.p.Zh1.Zz),.sl false (L Ai r.p.Zh1.Za1),.sl false (L Ag r.p.Zi1),.sl false (L Ae r.p.Zj1),.sl false (L Ac r.p.Zk1),i64 r.it.Za,i64 r.it.Ref.Zb,i64 r.it.Ref.No,i64 r.it.Zn1,i64 r.it.Zb1,i64 r.it.Zc,i64 r.it.Zo1,i64 r.it.Zw,i64 r.it.To,i64 r.it.Code,i64 r.it.Zp1,i64 r.it.Zq1,i64 r.it.Zr1,i64 r.it.Zs1,.str r.it.Zt1,.sl false (L Ad r.it.Zu1),.bool r.ok] false]):=by
 refine Co 1 8 [] Tryz.func155 (fun F hE=>?_) h;unfold D6;refine Bd fun c b =>Fe [] (Ap (l:=[]) (m:=[(7,150,[.ref 0 0,.ref 0 20,i64 0,i64 63],[.box [.sl false (L Ah a.p.Zg1.Ze),.sl false (L Al a.p.Zg1.Zf),.sl false (L Ab a.p.Zh1.Zx),.sl false (L Af a.p.Zh1.Zy),.sl false (L Aj a.p.Zh1.Zz),.sl false (L Ai a.p.Zh1.Za1),.sl false (L Ag a.p.Zi1),.sl false (L Ae a.p.Zj1),.sl false (L Ac a.p.Zk1),i64 a.it.Za,i64 a.it.Ref.Zb,i64 a.it.Ref.No,i64 a.it.Zn1,i64 a.it.Zb1,i64 a.it.Zc,i64 a.it.Zo1,i64 a.it.Zw,i64 a.it.To,i64 a.it.Code,i64 a.it.Zp1,i64 a.it.Zq1,i64 a.it.Zr1,i64 a.it.Zs1,.str a.it.Zt1,.sl false (L Ad a.it.Zu1),.bool a.ok] false],_,_)]) trivial ⟨(wc (GD b) [0]),trivial⟩) Ev ?_
 exact Ro [0]
end Go.Proofs.YtioapcamanmoiaaGreatDoor
