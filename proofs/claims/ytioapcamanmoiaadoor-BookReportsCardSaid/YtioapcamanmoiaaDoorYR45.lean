/-
  Part 45.
-/
import Derived.Test.YtioapcamanmoiaaDoorYR42
import Derived.Test.YtioapcamanmoiaaDoorYR43
import Derived.Test.YtioapcamanmoiaaDoorYR44
import Derived.KernelRfl
namespace Go.Proofs.YtioapcamanmoiaaDoor
open Go.Rv
set_option linter.unusedVariables false
set_option linter.unusedSimpArgs false
set_option maxRecDepth 20000
set_option maxHeartbeats 4000000
theorem My {p r} (h : Dl p = some r) : Con B 5 [.agg [.sl false (L (cSl Ah) p.Zy1),.sl false (L Ao p.Zz1)]] [] (fun r' σ' => r' = .bool r∧σ' = []):=by
 refine Cw 187 [.tmp 2] Tryd.func5 (fun F hE => ?_) h
 unfold Dl
 refine T0 [1] ?_
 refine Sq <|Bd fun bo ao =>Te [1,12] (o1 11 (Wj ao)) Ev ?_
 refine Cd ?_ ?_
 ·refine T0 [2] ?_
  exact Sr <|Tr <|Rr
 ·refine Sk <|Tn <|Sq <|Bd fun bp ap =>Te [1,15] (o1 14 (U8 ap)) Ev ?_
  refine Cd ?_ ?_
  ·refine T0 [2] ?_
   exact Sr <|Tr <|Rr
  ·refine Sk <|Tn <|Bd fun b aq =>Te [1,3] (o1 17 (Cr aq)) Ev ?_
   refine Bd fun a ar =>Te [3,4] (o1 19 (Lv ar)) Ev ?_
   refine Sq ?_
   refine Tw [3,4,30] (fun ab => ⟨Aq 187 [(3,.sl false (L As b)),(4,.ref 0 0),(30,.bool ab)],[.box [.sl false (L (cSl Ah) a.Zy1),.sl false (L Ao a.Zz1)] false]⟩) ?_ ?_
   ·intro _
    refine Sp (fun q => ?_) fun q => ?_
    ·exact Lf Ac (Ev (by simp only [go_sem,q];exact Am)) (ws [1])
    ·refine Bd fun bq au =>Bd fun br av =>?_
     exact Lf (o2 27 (Cr au) 28 (Ov av)) (Ev (by simp only [go_sem,q];exact Am)) (ws [1])
   intro ab
   refine Cd ?_ ?_
   ·refine T0 [2] ?_
    exact Sr <|Tr <|Rr
   ·refine Sk <|Tn <|T0 [3,4,5] ?_
    refine Jo (fun ac => ⟨Aq 187 [(3,.sl false (L As b)),(5,i64 ac)],[]⟩) ?_ ?_
    ·intro bs s
     refine T0 [3,4,5,6] ?_
     refine Sb ?_
     refine Lo (fun (v : Int×Int) => (⟨Aq 187 [(3,.sl false (L As b)),(4,.ref 0 0),(5,i64 v.1),(6,i64 v.2)],[.box [.sl false (L (cSl Ah) a.Zy1),.sl false (L Ao a.Zz1)] false]⟩ : St)) (ws [0]) ?_
     rintro ⟨ad,c⟩ bt aw j k
     show Bu b a ad c = some aw→_
     unfold Bu
     refine Sq <|T0 [3,4,5,6,35] ?_
     refine Cd ?_ ?_
     ·refine Sk <|Tn <|?_
      refine Jo (fun ae => ⟨Aq 187 [(3,.sl false (L As b)),(4,.ref 0 0),(5,i64 ae),(6,i64 c)],[.box [.sl false (L (cSl Ah) a.Zy1),.sl false (L Ao a.Zz1)] false]⟩) ?_ ?_
      ·intro bu t
       refine Sb <|T0 [3,4,5,6,7] ?_
       refine Sb ?_
       refine Lo (fun (v : Int×Int) => (⟨Aq 187 [(3,.sl false (L As b)),(4,.ref 0 0),(5,i64 v.1),(6,i64 c),(7,i64 v.2)],[.box [.sl false (L (cSl Ah) a.Zy1),.sl false (L Ao a.Zz1)] false]⟩ : St)) (ws [0]) ?_
       rintro ⟨g,d⟩ bv ax l m
       show Bh b a c g d = some ax→_
       unfold Bh
       refine Sq <|Ck fun ay =>Lt fun az aA =>Te (fr':=[(3,_),(4,_),(5,_),(6,_),(7,_),(45,.bool az)]) [3,4,5,6,7,45] Ac (Ev (by simp only [go_sem,qR ay,aA];exact Am)) ?_
       refine Cd ?_ ?_
       ·refine Sk <|Tn <|?_
        refine Jo (fun af => ⟨Aq 187 [(3,.sl false (L As b)),(4,.ref 0 0),(5,i64 af),(6,i64 c),(7,i64 d)],[.box [.sl false (L (cSl Ah) a.Zy1),.sl false (L Ao a.Zz1)] false]⟩) ?_ ?_
        ·intro bw u
         refine Sb <|Sq <|Ck fun aB =>Ck fun aC =>Lt fun aD aE =>Te (fr':=[(3,_),(4,_),(5,_),(6,_),(7,_),(59,.bool aD)]) [3,4,5,6,7,59] Ac (Ev (by simp only [go_sem,qR aB,qR aC,aE];exact Am)) ?_
         refine Cd ?_ ?_
         ·exact Sx <|Tx <|Bx <|Jn (ws [0])
         ·refine Sk <|Tn <|T0 [3,4,5,6,7,8] ?_
          refine Dw [[],[],[1],[0,1,2],[0,1,2,3],[0,1,2,3,4],[0,1,2,3,4],[0,1,2,3,4,5,6],[0,1,2,3,4,5,6,7],[0,1,2,3,4,5,6,7,8],[0,1,2,3,4],[0,1,2,3,4,5,6,7,8,9,10],[0,1,2,3,4,5,6,7,8,9,10,11]] [3,4,5,6,7,8,76] (fun ag => ⟨Aq 187 [(3,.sl false (L As b)),(4,.ref 0 0),(5,i64 g),(6,i64 c),(7,i64 d),(8,.ref 1 0),(76,.bool ag)],[.box [.sl false (L (cSl Ah) a.Zy1),.sl false (L Ao a.Zz1)] false,.box [i64 c,i64 (w64 (d + 1))] false]⟩) ?_ ?_
          ·intro _
           refine Sp (fun w => ?_) fun w => ?_
           ·refine Ck fun aF => ?_
            exact Lf Ac (Ev (by simp only [go_sem,w,qR aF];exact Am)) (ws [0,1])
           ·exact Lf Ac (Ev (by simp only [go_sem,w];exact Am)) (ws [0,1])
          intro ag
          refine Cd ?_ ?_
          ·refine Ck fun aG =>Lt fun ah aH =>Lt fun ai aI =>Te (σ':=[_,_,.box [i64 ah,i64 ai] false]) [3,4,5,6,7,8,9] Ac (Ev (by simp only [go_sem,qR aG,aH,aI];exact Am)) ?_
           refine Sq ?_
           refine Dw [[],[0],[],[0,1,2],[0,1,2,3],[0,1,2,3,4],[0,1,2,3,4,5],[0,1,2,3,4,5,6],[0,1,2,3,4,5,6,7],[0,1,2,3,4,5,6,7,8],[0,1,2,3,4,5,6,7,8,9],[0,1,2,3,4,5,6,7,8,9,10],[0,1,2,3,4,5,6,7,8,9],[0,1,2,3,4,5,6,7,8,9,12],[0,1,2,3,4,5,6,7,8,9],[0,1,2,3,4,5,6,7,8,9,12,13,14],[0,1,2,3,4,5,6,7,8,9,12,13,14,15],[0,1,2,3,4,5,6,7,8,9,12,13,14,15,16],[0,1,2,3,4,5,6,7,8,9,10,11,12,13,14,15,16,17],[0,1,2,3,4,5,6,7,8,9,10,11,12,13,14,15,16,17,18],[0,1,2,3,4,5,6,7,8,9,10,11,12,13,14,15,16,17,18,19],[0,1,2,3,4,5,6,7,8,9,10,11,12,13,14,15,16,17,18,19,20],[0,1,2,3,4,5,6,7,8,9,10,11,12,13,14,15,16,17,18,19,20],[0,1,2,3,4,5,6,7,8,9,10,11,12,13,14,15,16,17,18,19,20,21,22],[0,1,2,3,4,5,6,7,8,9,10,11,12,13,14,15,16,17,18,19,20,21,22,23],[0,1,2,3,4,5,6,7,8,9,10,11,12,13,14,15,16,17,18,19,20,21,22,23,24],[0,1,2,3,4,5,6,7,8,9,10,11,12,13,14,15,16,17,18,19,20,21,22,23,24,25],[0,1,2,3,4,5,6,7,8,9,10,11,12,13,14,15,16,17,18,19,20],[0,1,2,3,4,5,6,7,8,9,10,11,12,13,14,15,16,17,18,19,20,21,22,23,24,25,26,27],[0,1,2,3,4,5,6,7,8,9,10,11,12,13,14,15,16,17,18,19,20,21,22,23,24,25,26,27,28],[0,1,2,3,4,5,6,7,8,9,10,11,12,13,14,15,16,17,18,19,20,21,22,23,24,25,26,27,28,29],[0,1,2,3,4,5,6,7,8,9,10,11,12,13,14,15,16,17,18,19,20,21,22,23,24,25,26,27,28,29,30],[0,1,2,3,4,5,6,7,8,9,10,11,12,13,14,15,16,17,18,19,20,21,22,23,24,25,26,27,28,29,30],[0,1,2,3,4,5,6,7,8,9,10,11,12,13,14,15,16,17,18,19,20,21,22,23,24,25,26,27,28,29,30,31,32],[0,1,2,3,4,5,6,7,8,9,10,11,12,13,14,15,16,17,18,19,20,21,22,23,24,25,26,27,28,29,30,31,32,33],[0,1,2,3,4,5,6,7,8,9,10,11,12,13,14,15,16,17,18,19,20,21,22,23,24,25,26,27,28,29,30,31,32,33,34],[0,1,2,3,4,5,6,7,8,9,10,11,12,13,14,15,16,17,18,19,20,21,22,23,24,25,26,27,28,29,30],[0,1,2,3,4,5,6,7,8,9,10,11,12,13,14,15,16,17,18,19,20,21,22,23,24,25,26,27,28,29,30,36],[0,1,2,3,4,5,6,7,8,9,10,11,12,13,14,15,16,17,18,19,20,21,22,23,24,25,26,27,28,29,30],[0,1,2,3,4,5,6,7,8,9,10,11,12,13,14,15,16,17,18,19,20,21,22,23,24,25,26,27,28,29,30,36,37,38],[0,1,2,3,4,5,6,7,8,9,10,11,12,13,14,15,16,17,18,19,20,21,22,23,24,25,26,27,28,29,30,36,37,38,39],[0,1,2,3,4,5,6,7,8,9,10,11,12,13,14,15,16,17,18,19,20,21,22,23,24,25,26,27,28,29,30],[0,1,2,3,4,5,6,7,8,9,10,11,12,13,14,15,16,17,18,19,20,21,22,23,24,25,26,27,28,29,30,41],[0,1,2,3,4,5,6,7,8,9,10,11,12,13,14,15,16,17,18,19,20,21,22,23,24,25,26,27,28,29,30,41,42],[0,1,2,3,4,5,6,7,8,9,10,11,12,13,14,15,16,17,18,19,20,21,22,23,24,25,26,27,28,29,30,36,37,38,39,40,41,42,43],[0,1,2,3,4,5,6,7,8,9,10,11,12,13,14,15,16,17,18,19,20,21,22,23,24,25,26,27,28,29,30,36,37,38,39,40,41,42,43,44],[0,1,2,3,4,5,6,7,8,9,10,11,12,13,14,15,16,17,18,19,20,21,22,23,24,25,26,27,28,29,30,36,37,38,39,40,41,42,43,44,45],[0,1,2,3,4,5,6,7,8,9,10,11,12,13,14,15,16,17,18,19,20,21,22,23,24,25,26,27,28,29,30,31,32,33,34,35,36,37,38,39,40,41,42,43,44,45,46],[0,1,2,3,4,5,6,7,8,9,10,11,12,13,14,15,16,17,18,19,20,21,22,23,24,25,26,27,28,29,30,31,32,33,34,35,36,37,38,39,40,41,42,43,44,45,46,47]] [3,4,5,6,7,8,9,130] (fun aj => ⟨Aq 187 [(3,.sl false (L As b)),(4,.ref 0 0),(5,i64 g),(6,i64 c),(7,i64 d),(8,.ref 1 0),(9,.ref 2 0),(130,.bool aj)],[.box [.sl false (L (cSl Ah) a.Zy1),.sl false (L Ao a.Zz1)] false,.box [i64 c,i64 (w64 (d + 1))] false,.box [i64 ah,i64 ai] false]⟩) ?_ ?_
           ·intro _
            refine Sp (fun e => ?_) fun e => ?_
            ·exact Lf Ac (Ev (by simp only [go_sem,e];exact Am)) (ws [0,1,2])
            ·refine Sp (fun i => ?_) fun i => ?_
             ·exact Lf Ac (Ev (by simp only [go_sem,e,i];exact Am)) (ws [0,1,2])
             ·refine Ck fun x => ?_
              refine Sp (fun n => ?_) fun n => ?_
              ·exact Lf Ac (Ev (by simp only [go_sem,e,i,qR x,n];exact Am)) (ws [0,1,2])
              ·refine Ck fun ak => ?_
               refine Sp (fun y => ?_) fun y => ?_
               ·exact Lf Ac (Ev (by simp only [go_sem,e,i,qR x,n,qR ak,y];exact Am)) (ws [0,1,2])
               ·refine Ck fun aJ =>Ck fun aK =>Ck fun aL =>?_
                exact Lf Ac (Ev (by simp only [go_sem,e,i,qR x,n,qR ak,y,qR aJ,qR aK,qR aL];exact Am)) (ws [0,1,2])
           intro aj
           refine Cd ?_ ?_
           ·refine T0 [2] ?_
            exact Sr <|Tr <|Br <|Jr u <|Lr m l <|Br <|Br <|Jr t <|Lr k j <|Br <|Jr s <|Rr
           ·refine Sk <|Tn <|Ck fun aM =>Ck fun aN =>Lt fun aO aP =>Lt fun aQ aR =>Lt fun aS aT =>Lt fun aU aV =>Lt fun aW aX =>Lt fun aY aZ =>Lt fun a0 a1 =>Lt fun a2 a3 =>Lt fun a4 a5 =>Lt fun a6 a7 =>Lt fun a8 a9 =>Lt fun ba bb =>Lt fun bc bd =>Lt fun be bf =>Lt fun bg bh =>Lt fun bi bj =>De (σ':=[_,_,_,.box [i64 aO,i64 aQ,i64 aS,i64 aU,i64 aW,i64 aY,i64 a0,i64 a2,i64 a4,i64 a6,i64 a8,i64 ba,i64 bc,i64 be,.str bg,.sl false (L Ae bi)] false]) [[],[0],[],[0,1,2],[0,1,2,3],[],[5],[5,6],[0,1,2,3,4,5,6,7],[0,1,2,3,4,5,6,7,8],[0,1,2,3,4,5,6,7,8,9],[],[0,1,2,3,4,5,6,7,8,9,10,11]] [3,4,5,6,7,8,9,10] Ac (Ev (by simp only [go_sem,qR aM,qR aN,aP,aR,aT,aV,aX,aZ,a1,a3,a5,a7,a9,bb,bd,bf,bh,bj];exact Am)) ?_
            refine Sq ?_
            refine Dw [[],[],[0,1],[0,1,2],[0,1,2,3],[0,1,2,3,4],[0,1,2,3],[0,1,2,3,4,5,6],[0,1,2,3,4,5,6,7],[0,1,2,3,4,5,6,7,8],[0,1,2,3,4,5,6,7,8,9],[0,1,2,3,4,5,6,7,8,9,10],[0,1,2,3,4,5,6,7,8,9],[0,1,2,3,4,5,6,7,8,9],[0,1,2,3,4,5,6,7,8,9,12,13],[0,1,2,3,4,5,6,7,8,9,12,13,14],[0,1,2,3,4,5,6,7,8,9,12,13,14,15],[0,1,2,3,4,5,6,7,8,9,12,13,14,15,16],[0,1,2,3,4,5,6,7,8,9,10,11,12,13,14,15,16,17],[0,1,2,3,4,5,6,7,8,9,10,11,12,13,14,15,16,17,18],[0,1,2,3,4,5,6,7,8,9,10,11,12,13,14,15,16,17,18,19],[0,1,2,3,4,5,6,7,8,9,10,11,12,13,14,15,16,17,18,19,20],[0,1,2,3,4,5,6,7,8,9,10,11,12,13,14,15,16,17,18,19,20,21],[0,1,2,3,4,5,6,7,8,9,10,11,12,13,14,15,16,17,18,19,20],[0,1,2,3,4,5,6,7,8,9,10,11,12,13,14,15,16,17,18,19,20],[0,1,2,3,4,5,6,7,8,9,10,11,12,13,14,15,16,17,18,19,20,23,24],[0,1,2,3,4,5,6,7,8,9,10,11,12,13,14,15,16,17,18,19,20,23,24,25],[0,1,2,3,4,5,6,7,8,9,10,11,12,13,14,15,16,17,18,19,20,23,24,25,26],[0,1,2,3,4,5,6,7,8,9,10,11,12,13,14,15,16,17,18,19,20,23,24,25,26,27],[0,1,2,3,4,5,6,7,8,9,10,11,12,13,14,15,16,17,18,19,20,21,22,23,24,25,26,27,28],[0,1,2,3,4,5,6,7,8,9,10,11,12,13,14,15,16,17,18,19,20,21,22,23,24,25,26,27,28,29]] [3,4,5,6,7,172] (fun al => ⟨Aq 187 [(3,.sl false (L As b)),(4,.ref 0 0),(5,i64 g),(6,i64 c),(7,i64 d),(172,.bool al)],[.box [.sl false (L (cSl Ah) a.Zy1),.sl false (L Ao a.Zz1)] false]⟩) ?_ ?_
            ·intro _
             refine Sp (fun f => ?_) fun f => ?_
             ·refine Sp (fun o => ?_) fun o => ?_
              ·exact Lf Ac (Ev (by simp only [go_sem,f,o];exact Am)) (ws [0])
              ·refine Ck fun am => ?_
               refine Sp (fun z => ?_) fun z => ?_
               ·exact Lf Ac (Ev (by simp only [go_sem,f,o,qR am,z];exact Am)) (ws [0])
               ·refine Ck fun bk => ?_
                exact Lf Ac (Ev (by simp only [go_sem,f,o,qR am,z,qR bk];exact Am)) (ws [0])
             ·refine Ck fun an => ?_
              refine Sp (fun aa => ?_) fun aa => ?_
              ·exact Lf Ac (Ev (by simp only [go_sem,f,qR an,aa];exact Am)) (ws [0])
              ·refine Ck fun bl => ?_
               exact Lf Ac (Ev (by simp only [go_sem,f,qR an,aa,qR bl];exact Am)) (ws [0])
            intro al
            refine Cd ?_ ?_
            ·refine T0 [2] ?_
             exact Sr <|Tr <|Br <|Jr u <|Lr m l <|Br <|Br <|Jr t <|Lr k j <|Br <|Jr s <|Rr
            ·refine Sk <|Tn <|F0 [3,4,5,6,7] ?_
             exact Bn <|Jn (ws [0])
          ·refine Ck fun bm =>Bd fun bx bn =>De [[],[0],[],[0,1,2],[0,1,2,3],[],[0,1,2,3,4,5],[0,1,2,3,4,5,6]] [3,4,5,6,7,182] (o1 181 (Oi bn)) (Ev (by simp only [go_sem,qR bm];exact Am)) ?_
           refine Cd ?_ ?_
           ·refine T0 [2] ?_
            exact Sr <|Br <|Jr u <|Lr m l <|Br <|Br <|Jr t <|Lr k j <|Br <|Jr s <|Rr
           ·exact Sk <|Bn <|Jn (ws [0])
        intro af
        refine F0 [3,4,5,6,7] ?_
        exact Ln (ws [0])
       ·refine Sx <|Tx <|Lx m l <|Bx <|Bn <|?_
        exact Jn ((ws (l':=[(3,.sl false (L As b)),(4,.ref 0 0),(5,i64 g),(6,i64 c)]) (σ':=[.box [.sl false (L (cSl Ah) a.Zy1),.sl false (L Ao a.Zz1)] false]) [0]).trans (ws [0]))
      intro ae
      refine F0 [3,4,5,6] ?_
      exact Ln (ws [0])
     ·refine Sx <|Tx <|Lx k j <|Bx <|?_
      exact Jn ((ws (l':=[(3,.sl false (L As b)),(5,i64 ad)]) (σ':=[]) []).trans (ws []))
    intro ac
    refine T0 [2] ?_
    exact Sr <|Rr
set_option maxRecDepth 4000
theorem AgU {α : Type} (x : α) (k k' : Int×Int) : ∀ l : List ((Int×Int)×α),Fh (Ahf l k x) k' = if k = k' then some x else Fh l k'
  | [] => by
    unfold Ahf
    unfold Fh
    split <;> rfl
  | (k1,y) :: l => by
    unfold Ahf
    by_cases h : k1 = k
    · subst h
      rw [if_pos rfl]
      unfold Fh
      by_cases h2 : k1 = k'
      · rw [if_pos h2,if_pos h2]
      · rw [if_neg h2,if_neg h2,if_neg h2]
    · rw [if_neg h]
      unfold Fh
      rw [AgU x k k' l]
      by_cases h2 : k1 = k'
      · rw [if_pos h2,if_pos h2,if_neg (fun h3 => h (h2.trans h3.symm))]
      · rw [if_neg h2,if_neg h2]
def Iv (r : Api_Record) : Bool:=!((r.Zx1.Ref.Zb == 0) && (r.Zx1.Ref.No == 0))
def Ael (r : Api_Record) (i k : Int) : Api_Report:={ Ref:=r.Zx1.Ref,By:={ Zb:=i,No:=k },Zw1:=r.Zw1,Zx1:=r.Zx1 }
def Aqd (it : Api_Item) : Api_Item:={ it with Ref:={ Zb:=0,No:=0 } }
abbrev Ajj:=List ((Int×Int)×Api_Report)
def R4 (m : Ajj) (q : Api_Ref) (r : Api_Record) : Ajj:=if (Iv r && (r.Zx1.Ref.Zb == q.Zb)) = true then Ahf m (r.Zx1.Ref.Zb,r.Zx1.Ref.No) (Ael r q.Zb q.No) else m
def Aeh (o : Option Api_Report) (i k : Int) (r : Api_Record) : Option Api_Report :=
 if Iv r = true then none else match o with
 | none => some { Ref:={ Zb:=i,No:=k },By:={ Zb:=i,No:=k },Zw1:=r.Zw1,Zx1:=Aqd r.Zx1 }
 | some p => if (p.Zx1.Za == 14) = true then none else some { p with Zx1:=Aqd p.Zx1 }
def Afe (m : Ajj) (l : List Api_Report) (q : Api_Ref) (r : Api_Record) : List Api_Report:=l ++ (Aeh (Fh m (q.Zb,q.No)) q.Zb q.No r).toList
theorem AqS {m : Ajj} {i k : Int} {r : Api_Record} (h1 : I64 r.Zx1.Ref.Zb) (h2 : I64 r.Zx1.Ref.No) : En m i k r = some (R4 m { Zb:=i,No:=k } r):=by
 unfold En R4
 have hk : Z8 r.Zx1.Ref.Zb r.Zx1.Ref.No:=⟨h1,h2⟩
 show (if Iv r = true then _ else _ : Option Bool).bind _ = _
 by_cases h : Iv r = true
 ·rw [if_pos h]
  simp only [Option.bind_some,h,Bool.true_and]
  by_cases h3 : (r.Zx1.Ref.Zb == i) = true
  ·rw [if_pos h3,if_pos hk,if_pos h3];rfl
  ·rw [if_neg h3,if_neg h3]
 ·rw [if_neg h]
  simp only [Option.bind_some]
  rw [if_neg (by simp),if_neg (by simp [h])]
theorem AqJ {m : Ajj} {l : List Api_Report} {i k : Int} {r : Api_Record} (h1 : I64 i) (h2 : I64 k) (hl : l.length≤1000000) : Dg m l i k r = some (Afe m l { Zb:=i,No:=k } r):=by
  unfold Dg Afe Aeh
  have hk : Z8 i k:=⟨h1,h2⟩
  have hf : Ex (l.length + 1) 192:=by unfold Ex maxLen Pn;omega
  simp only [N3]
  by_cases h : Iv r = true
  · rw [if_pos (show (!((r.Zx1.Ref.Zb == 0) && (r.Zx1.Ref.No == 0))) = true from h),if_pos h]
    simp
  · rw [if_neg (show ¬(!((r.Zx1.Ref.Zb == 0) && (r.Zx1.Ref.No == 0))) = true from h),if_neg h,if_pos hk]
    cases hg : Fh m (i,k) with
    | none =>
      simp only [Option.isSome_none,Bool.not_false,if_true,Option.bind_some]
      rw [if_pos hf];rfl
    | some p =>
      simp only [Option.isSome_some,Bool.not_true,Bool.false_eq_true,if_false,Option.getD_some]
      by_cases h4 : (p.Zx1.Za == 14) = true
      · rw [if_pos h4,if_pos h4]
        simp
      · rw [if_neg h4,if_neg h4]
        simp only [Option.bind_some]
        rw [if_pos hf];rfl
def Ma (row : List Api_Record) (i n : Int) : Nat→Option Api_Report
 | 0 => none
 | k + 1 => if (nth row k).Zx1.Ref = { Zb:=i,No:=n } then some (Ael (nth row k) i ((k + 1 : Nat) : Int)) else Ma row i n k
theorem ref_eq {r : Api_Ref} {a b : Int} : r = { Zb:=a,No:=b }↔r.Zb = a∧r.No = b:=by
 rcases r with ⟨x,y⟩
 simp
theorem Amn {V : Type} (f : V→Api_Ref→Api_Record→V) (row : List Api_Record) (i : Int) (v : V) (k : Nat) : Ae8 f row i v (k + 1) = f (Ae8 f row i v k) { Zb:=i,No:=((k + 1 : Nat) : Int) } (nth row k):=rfl
theorem Ss (row : List Api_Record) (i n : Int) (k : Nat) : Ma row i n (k + 1) = if (nth row k).Zx1.Ref = { Zb:=i,No:=n } then some (Ael (nth row k) i ((k + 1 : Nat) : Int)) else Ma row i n k:=rfl
theorem AfP {m : Ajj} {q : Api_Ref} {r : Api_Record} (h : (Iv r && (r.Zx1.Ref.Zb == q.Zb)) = true) : R4 m q r = Ahf m (r.Zx1.Ref.Zb,r.Zx1.Ref.No) (Ael r q.Zb q.No):=by unfold R4;rw [if_pos h]
theorem AfN {m : Ajj} {q : Api_Ref} {r : Api_Record} (h : ¬(Iv r && (r.Zx1.Ref.Zb == q.Zb)) = true) : R4 m q r = m:=by unfold R4;rw [if_neg h]
theorem AgJ (row : List Api_Record) (i : Nat) (m : Ajj) (a b : Int) (hb : b≠0) : ∀ k,Fh (Ae8 R4 row (i : Int) m k) (a,b) = if a = (i : Int) then (Ma row a b k).or (Fh m (a,b)) else Fh m (a,b)
  | 0 => by
    show Fh m (a,b) = if a = (i : Int) then (none : Option Api_Report).or (Fh m (a,b)) else Fh m (a,b)
    split <;> rfl
  | k + 1 => by
    rw [Amn,Ss]
    have ih:=AgJ row i m a b hb k
    by_cases h : (Iv (nth row k) && ((nth row k).Zx1.Ref.Zb == (i : Int))) = true
    · rw [AfP (q:={ Zb:=(i : Int),No:=((k + 1 : Nat) : Int) }) h,AgU,ih]
      have h2 : (nth row k).Zx1.Ref.Zb = (i : Int):=by simp only [Bool.and_eq_true,beq_iff_eq] at h;exact h.2
      by_cases he : ((nth row k).Zx1.Ref.Zb,(nth row k).Zx1.Ref.No) = (a,b)
      · rw [if_pos he]
        simp only [Prod.mk.injEq] at he
        have hai : a = (i : Int):=by rw [← he.1];exact h2
        rw [if_pos hai,if_pos (ref_eq.2 he),hai]
        rfl
      · have hne : ¬ (nth row k).Zx1.Ref = { Zb:=a,No:=b }:=fun h3 => he (by rw [(ref_eq.1 h3).1,(ref_eq.1 h3).2])
        rw [if_neg he,if_neg hne]
    · rw [AfN (q:={ Zb:=(i : Int),No:=((k + 1 : Nat) : Int) }) h,ih]
      by_cases ha : a = (i : Int)
      · rw [if_pos ha,if_pos ha]
        rw [if_neg]
        intro h3
        apply h
        obtain ⟨q1,q2⟩:=ref_eq.1 h3
        unfold Iv
        rw [q1,q2]
        simp [ha,hb]
      · rw [if_neg ha,if_neg ha]
theorem Afs (logs : List (List Api_Record)) (a : Nat) (b : Int) (hb : b≠0) : ∀ n,Fh (Abo R4 logs [] n) ((a : Int),b) = if a < n then Ma (nth logs a) (a : Int) b (nth logs a).length else none
  | 0 => rfl
  | n + 1 => by
    unfold Abo
    rw [AgJ _ _ _ _ _ hb,Afs logs a b hb n]
    by_cases h : (a : Int) = (n : Int)
    · have h' : a = n:=by omega
      subst h'
      rw [if_pos rfl,if_neg (by omega),if_pos (by omega)]
      cases Ma (nth logs a) (a : Int) b (nth logs a).length <;> rfl
    · rw [if_neg h]
      by_cases h2 : a < n
      · rw [if_pos h2,if_pos (by omega)]
      · rw [if_neg h2,if_neg (by omega)]
def rep (row : List Api_Record) (i : Nat) (k : Nat) : Option Api_Report:=Aeh (Ma row (i : Int) ((k + 1 : Nat) : Int) row.length) (i : Int) ((k + 1 : Nat) : Int) (nth row k)
def Ef (row : List Api_Record) (i : Nat) : Nat→List Api_Report
 | 0 => []
 | k + 1 => Ef row i k ++ (rep row i k).toList
def Dm (logs : List (List Api_Record)) : Nat→List Api_Report
 | 0 => []
 | i + 1 => Dm logs i ++ Ef (nth logs i) i (nth logs i).length
theorem Qg (row : List Api_Record) (i : Nat) : ∀ k,(Ef row i k).length≤k
  | 0 => Nat.le_refl _
  | k + 1 => by
    unfold Ef
    have:=Qg row i k
    rw [List.length_append]
    have : (rep row i k).toList.length≤1:=by cases rep row i k <;> simp
    omega
theorem P9 {logs : List (List Api_Record)} {c : Nat} (h : ∀ l ∈ logs,l.length≤c) : ∀ n,n≤logs.length→(Dm logs n).length≤n * c
  | 0,_ => by simp [Dm]
  | n + 1,hn => by
    unfold Dm
    have h1:=P9 h n (by omega)
    have h2:=Qg (nth logs n) n (nth logs n).length
    have h3:=h _ (Gn (l:=logs) (k:=n) (by omega))
    rw [List.length_append,Nat.succ_mul]
    omega
theorem Sl (logs : List (List Api_Record)) {i : Nat} (hi : i < logs.length) (l0 : List Api_Report) : ∀ k,k≤(nth logs i).length→Ae8 (Afe (Abo R4 logs [] logs.length)) (nth logs i) (i : Int) l0 k = l0 ++ Ef (nth logs i) i k
  | 0,_ => by simp [Ae8,Ef]
  | k + 1,hk => by
    unfold Ae8 Ef
    rw [Sl logs hi l0 k (by omega)]
    unfold Afe rep
    rw [Afs logs i ((k + 1 : Nat) : Int) (by omega),if_pos hi,List.append_assoc]
theorem Yh (logs : List (List Api_Record)) : ∀ n,n≤logs.length→Abo (Afe (Abo R4 logs [] logs.length)) logs [] n = Dm logs n
  | 0,_ => rfl
  | n + 1,hn => by
    unfold Abo Dm
    rw [Yh logs n (by omega),Sl logs (by omega) _ _ (Nat.le_refl _)]
structure SB (b : Api_Books) : Prop where
 logs : b.Zy1.length≤4
 forks : b.Zz1.length≤6
 row : ∀ l ∈ b.Zy1,l.length≤12
 ref : ∀ l ∈ b.Zy1,∀ r ∈ l,I64 r.Zx1.Ref.Zb∧I64 r.Zx1.Ref.No
 parts : ∀ l ∈ b.Zy1,∀ r ∈ l,r.Zx1.Zu1.length≤20
 fno : ∀ f ∈ b.Zz1,I64 f.A.No
theorem SB.nrow {b : Api_Books} (h : SB b) {i : Nat} (hi : i < b.Zy1.length) : (nth b.Zy1 i).length≤12:=h.row _ (Gn hi)
theorem Re {b : Api_Books} (h : SB b) : SB (B5 b):=by
 have key : ∀ l ∈ (B5 b).Zy1,∃ i,i < b.Zy1.length∧l = Df b i:=by
  intro l hl
  simp only [B5,List.mem_map,List.mem_range] at hl
  obtain ⟨i,hi,rfl⟩:=hl
  exact ⟨i,hi,rfl⟩
 refine ⟨by rw [AaO];exact h.logs,by simp [B5],fun l hl => ?_,fun l hl r hr => ?_,fun l hl r hr => ?_,fun f hf => by simp [B5] at hf⟩
 ·obtain ⟨i,hi,rfl⟩:=key l hl
  exact Nat.le_trans Aat (h.nrow hi)
 ·obtain ⟨i,hi,rfl⟩:=key l hl
  exact h.ref _ (Gn hi) r (Rp r hr)
 ·obtain ⟨i,hi,rfl⟩:=key l hl
  exact h.parts _ (Gn hi) r (Rp r hr)
theorem Xe {b : Api_Books} (h : SB b) : Ea b = some (B5 b) :=
 AeE (by have:=h.forks;omega) (by have:=h.logs;omega) (fun l hl => by have:=h.row l hl;omega) h.fno
def Kk (b : Api_Books) : List Api_Report:=Dm (B5 b).Zy1 (B5 b).Zy1.length
theorem Xk {b : Api_Books} (h : SB b) : Bc b = some (Kk b):=by
 have hc:=Re h
 have hlg : (B5 b).Zy1.length < 1000000:=by have:=hc.logs;omega
 have hrw : ∀ l ∈ (B5 b).Zy1,l.length < 1000000:=fun l hl => by have:=hc.row l hl;omega
 unfold Bc Pz
 simp only [Xe h,Option.bind_some]
 rw [Ai9 _ R4 (B5 b).Zy1 [] hlg hrw (fun i k hi hk => ?_),Option.bind_some]
 ·rw [Ai9 _ (Afe (Abo R4 (B5 b).Zy1 [] (B5 b).Zy1.length)) (B5 b).Zy1 [] hlg hrw (fun i k hi hk => ?_),Option.bind_some]
  ·rw [Yh _ _ (Nat.le_refl _)];rfl
  ·rw [Yh _ _ (by omega),Sl _ hi _ _ (by omega)]
   have hn:=hc.nrow hi
   show Dg _ _ (i : Int) ((k + 1 : Nat) : Int) _ = _
   rw [AqJ (⟨by omega,by omega⟩ : I64 (i : Int)) (⟨by omega,by omega⟩ : I64 ((k + 1 : Nat) : Int)) ?_]
   ·unfold Ae8
    rw [Sl _ hi _ _ (by omega)]
   ·have h1:=P9 (c:=12) hc.row i (by omega)
    have h2:=Qg (nth (B5 b).Zy1 i) i k
    have h3:=hc.nrow hi
    have h4:=hc.logs
    rw [List.length_append]
    have : i * 12≤48:=by omega
    omega
 ·obtain ⟨r1,r2⟩:=hc.ref _ (Gn hi) _ (Gn hk)
  rw [AqS r1 r2];rfl
theorem Tl {b : Api_Books} (h : SB b) : Bc (B5 b) = some (Kk b):=by
 rw [Xk (Re h)]
 unfold Kk
 rw [Aay (Py b)]
set_option maxRecDepth 100000
def exQ : Api_Pool:=r14_Example.getD default
def AmM : Api_Item:={ Za:=8,Ref:={ Zb:=0,No:=0 },Zn1:=0,Zb1:=0,Zc:=0,Zo1:=0,Zw:=3,To:=0,Code:=1,Zp1:=0,Zq1:=0,Zr1:=0,Zs1:=0,Zt1:=[],Zu1:=[] }
def Aq8 : Api_Item:={ Za:=8,Ref:={ Zb:=0,No:=0 },Zn1:=0,Zb1:=0,Zc:=0,Zo1:=0,Zw:=3,To:=0,Code:=2,Zp1:=0,Zq1:=0,Zr1:=0,Zs1:=0,Zt1:=[],Zu1:=[] }
def Ap9 : Api_Item:={ Za:=14,Ref:={ Zb:=0,No:=1 },Zn1:=0,Zb1:=0,Zc:=0,Zo1:=0,Zw:=0,To:=0,Code:=0,Zp1:=0,Zq1:=0,Zr1:=0,Zs1:=0,Zt1:=[],Zu1:=[] }
def bk0 : Api_Books:={ Zy1:=[],Zz1:=[] }
def AjT : Api_Record:={ Zb:=0,No:=1,Zv1:=⟨[(0 : UInt8),(0 : UInt8),(0 : UInt8),(0 : UInt8),(0 : UInt8),(0 : UInt8),(0 : UInt8),(0 : UInt8),(0 : UInt8),(0 : UInt8),(0 : UInt8),(0 : UInt8),(0 : UInt8),(0 : UInt8),(0 : UInt8),(0 : UInt8),(0 : UInt8),(0 : UInt8),(0 : UInt8),(0 : UInt8),(0 : UInt8),(0 : UInt8),(0 : UInt8),(0 : UInt8),(0 : UInt8),(0 : UInt8),(0 : UInt8),(0 : UInt8),(0 : UInt8),(0 : UInt8),(0 : UInt8),(0 : UInt8)],rfl⟩,Zw1:=5,Zx1:=AmM,Sig:={ C:=132576837295297174,S:=235879338771529970 } }
def Arb : Api_Record:={ Zb:=0,No:=1,Zv1:=⟨[(0 : UInt8),(0 : UInt8),(0 : UInt8),(0 : UInt8),(0 : UInt8),(0 : UInt8),(0 : UInt8),(0 : UInt8),(0 : UInt8),(0 : UInt8),(0 : UInt8),(0 : UInt8),(0 : UInt8),(0 : UInt8),(0 : UInt8),(0 : UInt8),(0 : UInt8),(0 : UInt8),(0 : UInt8),(0 : UInt8),(0 : UInt8),(0 : UInt8),(0 : UInt8),(0 : UInt8),(0 : UInt8),(0 : UInt8),(0 : UInt8),(0 : UInt8),(0 : UInt8),(0 : UInt8),(0 : UInt8),(0 : UInt8)],rfl⟩,Zw1:=5,Zx1:=Aq8,Sig:={ C:=1010642900596539425,S:=208674642754336471 } }
def AqO : Api_Record:={ Zb:=0,No:=2,Zv1:=⟨[(20 : UInt8),(74 : UInt8),(221 : UInt8),(126 : UInt8),(247 : UInt8),(131 : UInt8),(164 : UInt8),(99 : UInt8),(193 : UInt8),(192 : UInt8),(56 : UInt8),(34 : UInt8),(114 : UInt8),(40 : UInt8),(146 : UInt8),(82 : UInt8),(204 : UInt8),(54 : UInt8),(168 : UInt8),(83 : UInt8),(74 : UInt8),(158 : UInt8),(104 : UInt8),(72 : UInt8),(195 : UInt8),(63 : UInt8),(51 : UInt8),(126 : UInt8),(164 : UInt8),(162 : UInt8),(16 : UInt8),(232 : UInt8)],rfl⟩,Zw1:=6,Zx1:=Ap9,Sig:={ C:=531156149537135704,S:=378193558781781181 } }
def AqB : Api_Record:={ Zb:=0,No:=0,Zv1:=(Arr.rep 32 (0 : UInt8)),Zw1:=0,Zx1:={ Za:=0,Ref:={ Zb:=0,No:=0 },Zn1:=0,Zb1:=0,Zc:=0,Zo1:=0,Zw:=0,To:=0,Code:=0,Zp1:=0,Zq1:=0,Zr1:=0,Zs1:=0,Zt1:=([] : List UInt8),Zu1:=[] },Sig:={ C:=(0 : UInt64),S:=(0 : UInt64) } }
def bk1 : Api_Books:={ Zy1:=[[AjT],[]],Zz1:=[] }
def bk2 : Api_Books:={ Zy1:=[[AjT],[]],Zz1:=[{ A:=AjT,B:=Arb }] }
def bk3 : Api_Books:={ Zy1:=[[AjT,AqO],[]],Zz1:=[] }
theorem Alc {p : Api_Pool} {d1 d2 : Api_Item} {R S T Z1 Z2 Z3 : Api_Record} {b1 b2 b3 : Api_Books} {l1 l2 l3 : List Api_Report} (hp : r14_Example = some p) (h1 : Cv 1 = some d1) (h2 : Cv 2 = some d2)
  (n1 : B4 p { Zy1:=[],Zz1:=[] } 0 7 5 d1 = some (R,0)) (a1 : Bz p { Zy1:=[],Zz1:=[] } R = some (b1,0)) (a2 : Bz p b1 R = some (b1,0)) (n2 : B4 p b1 0 7 4 d1 = some (Z1,140))
  (n3 : B4 p { Zy1:=[],Zz1:=[] } 0 7 5 d2 = some (S,0)) (a3 : Bz p b1 S = some (b2,0)) (n4 : B4 p { Zy1:=[],Zz1:=[] } 0 8 5 d1 = some (Z2,30)) (n5 : B4 p b1 0 7 6 { Za:=14,Ref:={ Zb:=0,No:=1 },Zn1:=0,Zb1:=0,Zc:=0,Zo1:=0,Zw:=0,To:=0,Code:=0,Zp1:=0,Zq1:=0,Zr1:=0,Zs1:=0,Zt1:=[],Zu1:=[] } = some (T,0)) (a4 : Bz p b1 T = some (b3,0)) (n6 : B4 p { Zy1:=[],Zz1:=[] } 0 7 5 { Za:=14,Ref:={ Zb:=0,No:=1 },Zn1:=0,Zb1:=0,Zc:=0,Zo1:=0,Zw:=0,To:=0,Code:=0,Zp1:=0,Zq1:=0,Zr1:=0,Zs1:=0,Zt1:=[],Zu1:=[] } = some (Z3,110))
  (c1 : R.No = 1) (c2 : R.Zv1 = ⟨[(0 : UInt8),(0 : UInt8),(0 : UInt8),(0 : UInt8),(0 : UInt8),(0 : UInt8),(0 : UInt8),(0 : UInt8),(0 : UInt8),(0 : UInt8),(0 : UInt8),(0 : UInt8),(0 : UInt8),(0 : UInt8),(0 : UInt8),(0 : UInt8),(0 : UInt8),(0 : UInt8),(0 : UInt8),(0 : UInt8),(0 : UInt8),(0 : UInt8),(0 : UInt8),(0 : UInt8),(0 : UInt8),(0 : UInt8),(0 : UInt8),(0 : UInt8),(0 : UInt8),(0 : UInt8),(0 : UInt8),(0 : UInt8)],rfl⟩) (c3 : b1.Zy1.length = 2) (c4 : (nth b1.Zy1 0).length = 1) (s1 : Px b1 b1 = some true) (c5 : b2.Zz1.length = 1) (f1 : C0 b2 0 = some 1) (f2 : C0 b1 0 = some 0)
  (r1 : Bc b2 = some l1) (q1 : l1.length = 0) (r2 : Bc b1 = some l2) (q2 : l2.length = 1) (r3 : Bc b3 = some l3) (q3 : l3.length = 0) : law14_sane = some true:=by
 have k0 : InR 0 2:=by decide
 have k1 : ((2 : Nat) : Int) = 2:=rfl
 have k2 : ((1 : Nat) : Int) = 1:=rfl
 have k3 : ((0 : Nat) : Int) = 0:=rfl
 unfold law14_sane
 simp only [hp,h1,h2,Option.bind_some,n1,a1,a2,n2,n3,a3,n4,n5,a4,n6,c1,c2,c3,c4,s1,c5,f1,f2,r1,q1,r2,q2,r3,q3,k1,k2,k3,beq_self_eq_true,if_true,if_pos k0]
theorem e_ex : r14_Example = some exQ:=by kernel_rfl
theorem e_d1 : Cv 1 = some AmM:=rfl
theorem e_d2 : Cv 2 = some Aq8:=rfl
theorem e_n1 : B4 exQ bk0 0 7 5 AmM = some (AjT,0):=by decide +kernel
theorem e_a1 : Bz exQ bk0 AjT = some (bk1,0):=by decide +kernel
theorem e_a2 : Bz exQ bk1 AjT = some (bk1,0):=by decide +kernel
theorem e_n2 : B4 exQ bk1 0 7 4 AmM = some (AqB,140):=by decide +kernel
theorem e_n3 : B4 exQ bk0 0 7 5 Aq8 = some (Arb,0):=by decide +kernel
theorem e_a3 : Bz exQ bk1 Arb = some (bk2,0):=by decide +kernel
theorem e_n4 : B4 exQ bk0 0 8 5 AmM = some (AqB,30):=by decide +kernel
theorem e_n5 : B4 exQ bk1 0 7 6 Ap9 = some (AqO,0):=by decide +kernel
theorem e_a4 : Bz exQ bk1 AqO = some (bk3,0):=by decide +kernel
theorem e_n6 : B4 exQ bk0 0 7 5 Ap9 = some (AqB,110):=by decide +kernel
theorem e_s1 : Px bk1 bk1 = some true:=by decide +kernel
theorem e_f1 : C0 bk2 0 = some 1:=by decide +kernel
theorem e_f2 : C0 bk1 0 = some 0:=by decide +kernel
theorem e_r1 : (Bc bk2) = some []:=by decide +kernel
theorem e_r2 : (Bc bk1).map List.length = some 1:=by decide +kernel
theorem e_r3 : (Bc bk3) = some []:=by decide +kernel
theorem Akx : law14_sane = some true:=by
  obtain ⟨l,hl,hr⟩ : ∃ l,Bc bk1 = some l∧l.length = 1:=by
    have:=e_r2
    cases h : Bc bk1 with
    | none => rw [h] at this;cases this
    | some l => rw [h] at this;exact ⟨l,rfl,by simpa using this⟩
  exact Alc e_ex e_d1 e_d2 e_n1 e_a1 e_a2 e_n2 e_n3 e_a3 e_n4 e_n5 e_a4 e_n6 rfl rfl rfl rfl e_s1 rfl e_f1 e_f2 e_r1 rfl hl hr e_r3 rfl
set_option maxRecDepth 4000
def Apk : Option Api_Report→Bool
 | some p => p.Zx1.Za == 14
 | none => false
def U9 (row : List Api_Record) (i n : Int) (k : Nat) : Bool:=Apk (Ma row i n k)
theorem Abj {row : List Api_Record} (i n : Int) (h : row.length≤1000000) : El row { Zb:=i,No:=n } = some (U9 row i n row.length):=by
 unfold El
 have hl : Bg (fun (v : Bool×Int) => B8 row { Zb:=i,No:=n } v.1 v.2) (false,0) = some (U9 row i n row.length):=by
  refine Nh row.length (fun (v : Bool×Int) => B8 row { Zb:=i,No:=n } v.1 v.2) (fun k s => (s,k)) (fun k => U9 row i n k) id (by omega) (fun k hk => ?_) ?_
  ·unfold B8
   simp only [if_pos (decide_eq_true (show (k : Int) < (row.length : Int) by omega)),if_pos (Fz hk),N3,Int.toNat_natCast]
   by_cases h1 : (nth row k).Zx1.Ref = { Zb:=i,No:=n }
   ·have e : U9 row i n (k + 1) = ((nth row k).Zx1.Za == 14):=by unfold U9;rw [Ss,if_pos h1];rfl
    rw [e,if_pos (by rw [h1];simp),Kx (by omega)];rfl
   ·have e : U9 row i n (k + 1) = U9 row i n k:=by unfold U9;rw [Ss,if_neg h1]
    rw [e,if_neg (fun h2 => h1 (ref_eq.2 (by simpa using h2))),Kx (by omega)];rfl
  ·unfold B8
   rw [if_neg (by simp)];rfl
 rw [hl];rfl
theorem Tb {row : List Api_Record} {i n : Int} {p : Api_Report} : ∀ k,Ma row i n k = some p→∃ j,j < k∧(nth row j).Zx1.Ref = { Zb:=i,No:=n }∧p = Ael (nth row j) i ((j + 1 : Nat) : Int)
  | 0,h => by cases h
  | k + 1,h => by
    rw [Ss] at h
    by_cases h1 : (nth row k).Zx1.Ref = { Zb:=i,No:=n }
    · rw [if_pos h1] at h
      cases h
      exact ⟨k,by omega,h1,rfl⟩
    · rw [if_neg h1] at h
      obtain ⟨j,hj,h2,h3⟩:=Tb k h
      exact ⟨j,by omega,h2,h3⟩
def Rf (row : List Api_Record) (i k j : Nat) : Api_Report:={ Ref:={ Zb:=(i : Int),No:=((k + 1 : Nat) : Int) },By:={ Zb:=(i : Int),No:=((j + 1 : Nat) : Int) },Zw1:=(nth row j).Zw1,Zx1:=Aqd (nth row j).Zx1 }
theorem Xs {row : List Api_Record} {i k : Nat} {p : Api_Report} (hk : k < row.length) (h : rep row i k = some p) :
    Iv (nth row k) = false∧∃ j,j < row.length∧p = Rf row i k j∧(j = k∨(nth row j).Zx1.Ref = { Zb:=(i : Int),No:=((k + 1 : Nat) : Int) }):=by
  unfold rep Aeh at h
  by_cases h1 : Iv (nth row k) = true
  · rw [if_pos h1] at h;cases h
  · rw [if_neg h1] at h
    refine ⟨by simpa using h1,?_⟩
    cases hl : Ma row (i : Int) ((k + 1 : Nat) : Int) row.length with
    | none =>
      rw [hl] at h
      cases h
      exact ⟨k,hk,rfl,.inl rfl⟩
    | some q =>
      rw [hl] at h
      simp only at h
      by_cases h2 : (q.Zx1.Za == 14) = true
      · rw [if_pos h2] at h;cases h
      · rw [if_neg h2] at h
        obtain ⟨j,hj,h3,h4⟩:=Tb _ hl
        cases h
        refine ⟨j,hj,?_,.inr h3⟩
        subst h4
        unfold Ael Rf
        rw [h3]
theorem AhN {row : List Api_Record} {i k : Nat} (h : rep row i k = none) : Iv (nth row k) = true∨U9 row (i : Int) ((k + 1 : Nat) : Int) row.length = true:=by
  unfold rep Aeh at h
  by_cases h1 : Iv (nth row k) = true
  · exact .inl h1
  · rw [if_neg h1] at h
    right
    unfold U9
    cases hl : Ma row (i : Int) ((k + 1 : Nat) : Int) row.length with
    | none => rw [hl] at h;cases h
    | some q =>
      rw [hl] at h
      simp only at h
      by_cases h2 : (q.Zx1.Za == 14) = true
      · exact h2
      · rw [if_neg h2] at h;cases h
theorem N9 {row : List Api_Record} {i k : Nat} : ∀ n,k≤n→n≤row.length→∃ R,Ef row i n = Ef row i k ++ R∧∀ p ∈ R,p.Ref.Zb = (i : Int)∧((k + 1 : Nat) : Int)≤p.Ref.No
  | n,hk,hn => by
    by_cases he : k = n
    · subst he
      exact ⟨[],by simp,fun p hp => by simp at hp⟩
    · match n,hk,hn,he with
      | 0,hk,_,he => omega
      | n + 1,hk,hn,he =>
        obtain ⟨R,e,hR⟩:=N9 (row:=row) (i:=i) (k:=k) n (by omega) (by omega)
        refine ⟨R ++ (rep row i n).toList,by show Ef row i n ++ _ = _;rw [e,List.append_assoc],fun p hp => ?_⟩
        rcases List.mem_append.1 hp with hp | hp
        · exact hR p hp
        · rw [Option.mem_toList] at hp
          obtain ⟨_,j,_,rfl,_⟩:=Xs (by omega) hp
          exact ⟨rfl,by show _≤((n + 1 : Nat) : Int);omega⟩
theorem Vw {logs : List (List Api_Record)} {i : Nat} : ∀ n,i≤n→∃ R,Dm logs n = Dm logs i ++ R∧∀ p ∈ R,(i : Int)≤p.Ref.Zb
  | n,hk => by
    by_cases he : i = n
    · subst he
      exact ⟨[],by simp,fun p hp => by simp at hp⟩
    · match n,hk,he with
      | 0,hk,he => omega
      | n + 1,hk,he =>
        obtain ⟨R,e,hR⟩:=Vw (logs:=logs) (i:=i) n (by omega)
        refine ⟨R ++ Ef (nth logs n) n (nth logs n).length,by show Dm logs n ++ _ = _;rw [e,List.append_assoc],fun p hp => ?_⟩
        rcases List.mem_append.1 hp with hp | hp
        · exact hR p hp
        · obtain ⟨R',e',hR'⟩:=N9 (row:=nth logs n) (i:=n) (k:=0) (nth logs n).length (by omega) (Nat.le_refl _)
          rw [e'] at hp
          have:=hR' p (by simpa [Ef] using hp)
          omega
theorem AgA {logs : List (List Api_Record)} {i k : Nat} (hi : i < logs.length) (hk : k < (nth logs i).length) :
  ∃ R,Dm logs logs.length = (Dm logs i ++ Ef (nth logs i) i k) ++ (rep (nth logs i) i k).toList ++ R∧∀ p ∈ R,p.Ref≠{ Zb:=(i : Int),No:=((k + 1 : Nat) : Int) }:=by
 obtain ⟨R1,e1,h1⟩:=Vw (logs:=logs) (i:=i + 1) logs.length (by omega)
 obtain ⟨R2,e2,h2⟩:=N9 (row:=nth logs i) (i:=i) (k:=k + 1) (nth logs i).length (by omega) (Nat.le_refl _)
 refine ⟨R2 ++ R1,?_,fun p hp he => ?_⟩
 ·rw [e1]
  show Dm logs i ++ Ef (nth logs i) i (nth logs i).length ++ R1 = _
  rw [e2]
  show Dm logs i ++ (Ef (nth logs i) i k ++ (rep (nth logs i) i k).toList ++ R2) ++ R1 = _
  simp only [List.append_assoc]
 ·obtain ⟨q1,q2⟩:=ref_eq.1 he
  rcases List.mem_append.1 hp with hp | hp
  ·have:=h2 p hp;omega
  ·have:=h1 p hp;omega
theorem AfW {α : Type} [Inhabited α] (pre R : List α) (h : 0 < R.length) : nth (pre ++ R) pre.length = nth R 0:=by
 simp [nth,List.getElem?_append_right]
theorem Ag9 (r : Api_Ref) (a b : Int) : ((r.Zb == a) && (r.No == b)) = decide (r = { Zb:=a,No:=b }):=by
 by_cases h : r = { Zb:=a,No:=b }
 ·obtain ⟨h1,h2⟩:=ref_eq.1 h
  rw [decide_eq_true h,h1,h2];simp
 ·rw [decide_eq_false h]
  by_cases h1 : r.Zb = a
  ·have : r.No≠b:=fun h2 => h (ref_eq.2 ⟨h1,h2⟩)
   simp [this]
  ·simp [h1]
theorem Akv {c : Api_Books} {i k : Nat} (hi : i < c.Zy1.length) (hk : k < (nth c.Zy1 i).length) (hrl : (nth c.Zy1 i).length≤1000000) {l pre R : List Api_Report}
    (hl : l = pre ++ (rep (nth c.Zy1 i) i k).toList ++ R) (hR : ∀ p ∈ R,p.Ref≠{ Zb:=(i : Int),No:=((k + 1 : Nat) : Int) }) (hln : l.length≤1000000) :
    Bh l c (i : Int) (pre.length : Int) (k : Int) = some (.inl (((pre ++ (rep (nth c.Zy1 i) i k).toList).length : Int),((k + 1 : Nat) : Int))):=by
  have i1 : InR (i : Int) c.Zy1.length:=Fz hi
  have i2 : InR (k : Int) (nth c.Zy1 i).length:=Fz hk
  unfold Bh
  rw [if_pos i1]
  simp only [N3,Int.toNat_natCast]
  rw [if_pos (decide_eq_true (show (k : Int) < ((nth c.Zy1 i).length : Int) by omega)),if_pos i1,if_pos i2]
  have hw : w64 ((k : Int) + 1) = ((k + 1 : Nat) : Int):=Kx (by omega)
  by_cases h1 : Iv (nth (nth c.Zy1 i) k) = true
  · have hn : rep (nth c.Zy1 i) i k = none:=by unfold rep Aeh;rw [if_pos h1]
    rw [if_pos (show (!(((nth (nth c.Zy1 i) k).Zx1.Ref.Zb == 0) && ((nth (nth c.Zy1 i) k).Zx1.Ref.No == 0))) = true from h1),hn,hw]
    simp
  · rw [if_neg (show ¬ (!(((nth (nth c.Zy1 i) k).Zx1.Ref.Zb == 0) && ((nth (nth c.Zy1 i) k).Zx1.Ref.No == 0))) = true from h1),hw]
    cases hp : rep (nth c.Zy1 i) i k with
    | none =>
      rw [hp] at hl
      have hg : U9 (nth c.Zy1 i) (i : Int) ((k + 1 : Nat) : Int) (nth c.Zy1 i).length = true:=(AhN hp).resolve_left h1
      have hc : (if (decide ((pre.length : Int) < (l.length : Int))) = true then (if InR (pre.length : Int) l.length then some (((nth l pre.length).Ref.Zb == (i : Int)) && ((nth l pre.length).Ref.No == ((k + 1 : Nat) : Int))) else none) else some false) = some false:=by
        by_cases h2 : pre.length < l.length
        · rw [if_pos (decide_eq_true (by omega)),if_pos (Fz h2),Ag9,decide_eq_false]
          have h3 : l = pre ++ R:=by rw [hl];simp
          have h4 : 0 < R.length:=by rw [h3,List.length_append] at h2;omega
          rw [h3,AfW pre R h4]
          exact hR _ (Gn h4)
        · rw [if_neg (by simp;omega)]
      rw [hc]
      simp only [Option.bind_some,Bool.false_eq_true,if_false]
      rw [if_pos i1,Abj _ _ hrl,hg]
      simp
    | some p =>
      rw [hp] at hl
      obtain ⟨_,j,hj,rfl,hjk⟩:=Xs hk hp
      have h2 : pre.length < l.length:=by rw [hl];simp
      have e : nth l pre.length = Rf (nth c.Zy1 i) i k j:=by
        rw [hl,List.append_assoc,AfW _ _ (by simp)]
        rfl
      have i3 : InR (pre.length : Int) l.length:=Fz h2
      have i4 : InR (j : Int) (nth c.Zy1 i).length:=Fz hj
      have hw2 : w64 (((j + 1 : Nat) : Int) - 1) = (j : Int):=by rw [AgS (by omega)];omega
      have e1 : (Rf (nth c.Zy1 i) i k j).Ref.Zb = (i : Int):=rfl
      have e2 : (Rf (nth c.Zy1 i) i k j).Ref.No = ((k + 1 : Nat) : Int):=rfl
      have e3 : (Rf (nth c.Zy1 i) i k j).By.Zb = (i : Int):=rfl
      have e4 : (Rf (nth c.Zy1 i) i k j).By.No = ((j + 1 : Nat) : Int):=rfl
      have e5 : (Rf (nth c.Zy1 i) i k j).Zx1.Ref.Zb = 0:=rfl
      have e6 : (Rf (nth c.Zy1 i) i k j).Zx1.Ref.No = 0:=rfl
      have e7 : (Rf (nth c.Zy1 i) i k j).Zw1 = (nth (nth c.Zy1 i) j).Zw1:=rfl
      have e8 : (Rf (nth c.Zy1 i) i k j).Zx1.Za = (nth (nth c.Zy1 i) j).Zx1.Za:=rfl
      have e9 : (Rf (nth c.Zy1 i) i k j).Zx1.Zw = (nth (nth c.Zy1 i) j).Zx1.Zw:=rfl
      have d1 : decide (((j + 1 : Nat) : Int) < 1) = false:=decide_eq_false (by omega)
      have d2 : decide (((j + 1 : Nat) : Int) > ((nth c.Zy1 i).length : Int)) = false:=by simp;omega
      have d3 : decide ((pre.length : Int) < (l.length : Int)) = true:=by simp;omega
      have hq : (if (!(((i : Int) == (i : Int)) && (((j + 1 : Nat) : Int) == ((k + 1 : Nat) : Int)))) = true then
          (if (!(((nth (nth c.Zy1 i) j).Zx1.Ref.Zb == (i : Int)) && ((nth (nth c.Zy1 i) j).Zx1.Ref.No == ((k + 1 : Nat) : Int)))) = true then some true else some false) else some false : Option Bool) = some false:=by
        rcases hjk with rfl | h3
        · rw [if_neg (by simp)]
        · rw [Ag9,decide_eq_true h3]
          split <;> rfl
      have hlen : w64 ((pre.length : Int) + 1) = ((pre ++ [Rf (nth c.Zy1 i) i k j]).length : Int):=by rw [Kx (by omega)];simp
      simp only [d3,if_true,if_pos i3,if_pos i1,e,e1,e2,e3,e4,e5,e6,e7,e8,e9,d1,d2,hw2,Int.toNat_natCast,if_pos i4,beq_self_eq_true,Bool.and_self,Option.bind_some,bne_self_eq_false,Bool.false_eq_true,if_false,Bool.not_true,Option.toList_some]
      simp only [beq_self_eq_true] at hq
      rw [hq]
      simp only [Option.bind_some,Bool.false_eq_true,if_false,hlen]
theorem Aib {c : Api_Books} {l : List Api_Report} (hl : l = Dm c.Zy1 c.Zy1.length) (hln : l.length≤1000000) {i : Nat} (hi : i < c.Zy1.length) (hrl : (nth c.Zy1 i).length≤1000000) :
  Bg (fun (v : Int×Int) => Bh l c (i : Int) v.1 v.2) ((((Dm c.Zy1 i).length : Nat) : Int),0) = some (.inl (((Dm c.Zy1 (i + 1)).length : Nat) : Int)):=by
 have h:=Nh (nth c.Zy1 i).length (fun (v : Int×Int) => Bh l c (i : Int) v.1 v.2) (fun k s => (s,k)) (fun k => (((Dm c.Zy1 i ++ Ef (nth c.Zy1 i) i k).length : Nat) : Int)) (fun s => .inl s) (by omega) (fun k hk => ?_) ?_
 ·rw [show (((Dm c.Zy1 i).length : Nat) : Int) = (((Dm c.Zy1 i ++ Ef (nth c.Zy1 i) i 0).length : Nat) : Int) by simp [Ef]]
  exact h
 ·obtain ⟨R,e,hR⟩:=AgA hi hk
  rw [← hl] at e
  have:=Akv hi hk hrl e hR hln
  simp only
  rw [this]
  congr 4
  show _ = (Dm c.Zy1 i ++ (Ef (nth c.Zy1 i) i k ++ _)).length
  rw [List.append_assoc]
 ·unfold Bh
  rw [if_pos (Fz hi)]
  simp only [N3,Int.toNat_natCast]
  rw [if_neg (by simp)]
theorem AfB {c : Api_Books} {l : List Api_Report} (hl : l = Dm c.Zy1 c.Zy1.length) (hln : l.length≤1000000) (hll : c.Zy1.length≤1000000) (hrl : ∀ r ∈ c.Zy1,r.length≤1000000) :
  Bg (fun (v : Int×Int) => Bu l c v.1 v.2) (0,0) = some (.inl ((l.length : Nat) : Int)):=by
 have h:=Nh c.Zy1.length (fun (v : Int×Int) => Bu l c v.1 v.2) (fun k s => (s,k)) (fun k => (((Dm c.Zy1 k).length : Nat) : Int)) (fun s => .inl s) (by omega) (fun k hk => ?_) ?_
 ·rw [← hl] at h
  exact h
 ·unfold Bu
  simp only
  rw [if_pos (decide_eq_true (by omega)),Aib hl hln hk (hrl _ (Gn hk))]
  simp only [Option.bind_some]
  rw [Kx (by omega)]
 ·unfold Bu
  rw [if_neg (by simp)]
theorem Aal {logs : List (List Api_Record)} : ∀ n,n≤logs.length→∀ p ∈ Dm logs n,∃ r,(∃ row ∈ logs,r ∈ row)∧p.Zx1.Zu1 = r.Zx1.Zu1
  | 0,_,p,hp => by simp [Dm] at hp
  | n + 1,hn,p,hp => by
    rcases List.mem_append.1 (show p ∈ Dm logs n ++ Ef (nth logs n) n (nth logs n).length from hp) with h | h
    · exact Aal n (by omega) p h
    · have key : ∀ k,k≤(nth logs n).length→p ∈ Ef (nth logs n) n k→∃ r ∈ nth logs n,p.Zx1.Zu1 = r.Zx1.Zu1:=by
        intro k
        induction k with
        | zero => intro _ h;simp [Ef] at h
        | succ k ih =>
          intro hk h
          rcases List.mem_append.1 (show p ∈ Ef (nth logs n) n k ++ (rep (nth logs n) n k).toList from h) with h | h
          · exact ih (by omega) h
          · rw [Option.mem_toList] at h
            obtain ⟨_,j,hj,rfl,_⟩:=Xs (by omega) h
            exact ⟨_,Gn hj,rfl⟩
      obtain ⟨r,h1,h2⟩:=key _ (Nat.le_refl _) h
      exact ⟨r,⟨_,Gn (by omega),h1⟩,h2⟩
structure BookInts (b : Api_Books) : Prop where
 ref : ∀ l ∈ b.Zy1,∀ r ∈ l,I64 r.Zx1.Ref.Zb∧I64 r.Zx1.Ref.No
 fno : ∀ f ∈ b.Zz1,I64 f.A.No
theorem AoZ {b : Api_Books} (h : Short b) (hi : BookInts b) : SB b :=
 ⟨h.logs,h.forks,h.row,hi.ref,fun l hl r hr => (h.item l hl r hr).parts,hi.fno⟩
theorem Vi {b : Api_Books} (hb : BookInts b) : Dl b = some true:=by
 unfold Dl
 rw [Akx,Option.bind_some,if_neg (by simp),Aii,Option.bind_some]
 by_cases hs : Pm b = true
 ·rw [if_neg (by simp [hs])]
  have hsb:=AoZ (Aix hs) hb
  have hc:=Re hsb
  have hln : (Kk b).length≤1000000:=by
   have h1:=P9 (c:=12) hc.row (B5 b).Zy1.length (Nat.le_refl _)
   have h2:=hc.logs
   unfold Kk
   omega
  have hpp : ∀ r ∈ Kk b,r.Zx1.Zu1.length≤1000000:=by
   intro r hr
   obtain ⟨q,⟨row,h1,h2⟩,h3⟩:=Aal _ (Nat.le_refl _) r hr
   have:=hc.parts row h1 q h2
   rw [h3];omega
  rw [Xk hsb,Option.bind_some,Xe hsb,Option.bind_some,Py b,if_neg (by simp),Tl hsb,Option.bind_some,Aao hln hpp]
  simp only [Option.bind_some,decide_true,Bool.not_true,Bool.false_eq_true,if_false]
  rw [AfB (c:=B5 b) (l:=Kk b) rfl hln (by have:=hc.logs;omega) (fun r hr => by have:=hc.row r hr;omega)]
  simp
 ·rw [if_pos (by simpa using hs)]
theorem R9 {b : Api_Books} (h : Xo b) : Dl b = some true:=by
 obtain ⟨h1,h2,_⟩:=h
 refine Vi ⟨fun l hl r hr => ?_,fun f hf => ?_⟩
 ·obtain ⟨_,_,_,_,h3,_⟩:=(h1.2 l hl).2 r hr
  obtain ⟨_,⟨h4,h5,_⟩,_⟩:=h3
  exact ⟨h4,h5⟩
 ·obtain ⟨⟨_,h3,_⟩,_⟩:=h2.2 f hf
  exact h3
end Go.Proofs.YtioapcamanmoiaaDoor
