/-
  Part 41.
-/
import Derived.Test.YtldngkmkhfddpaaGreatDoorYV40
namespace Go.Rv
set_option linter.unusedVariables false
set_option linter.unusedSimpArgs false
variable{O:Ad}{l:List Int}{E:Env}
section
variable {α:Type}{c:α->AV}{n:Nat}{a:Arr α n}{r:List AV}
theorem AgX[Inhabited α]{i:Nat}(h:i<n):(C1 c a.l++r)[i]?=some (c (a.get i)):=by
 rw[Ao9 (by rw[DP];exact h),Xn h]
theorem AhL{i:Nat}{x:AV}(h:i<n):(C1 c a.l++r).set i x=(C1 c a.l).set i x++r:=by
 rw[List.set_append_left _ _ (by rw[DP];exact h)]
theorem AiL(h:(n==0)=false):(C1 c a.l++r=[])=False:=by
 refine AqH fun e=>?_
 have:=ApV List.length e;rw[Ao5,DP]at this;simp at this h;omega
theorem Adt:fzCells O (C1 i64 l++r)=(fzCells O r).bind fun ys=>some (C1 i64 l++ys):=Ai3 fun _=>rfl
theorem Aez{r':List AV}{sel:List Nat}:wkL sel (C1 i64 l++r) (C1 i64 l++r')=wkL sel r r':=Am8 fun _=>ArN UK
theorem AdL:Cb (.agg (C1 i64 l++r))=Cb (.agg r):=by
 show List.filterMap _ (C1 i64 l++r)=_;rw[List.filterMap_append];have:=bsI64 (l:=l);rw[show List.filterMap _ (C1 i64 l)=[]from this];rfl
end
theorem Aky{t e n a b:Nat}{z:List AV}{de:TD}(ht:E.tab t=some ⟨.array n e,a,b,z⟩)(he:E.tab e=some de)(hs:de.size=1)(cs:List AV)(x:AV) :Ao E O t (.rp cs) x=match idx x n with
  |some i=>some (.rp (cs.drop i))
  |none=>none:=by
 unfold Ao;simp only[ht,he];cases idx x n<;>simp[hs]
section
variable {ts:List Nat}{k:Nat}{r:List AV}
theorem N7:List.map (MN ts k) (C1 i64 l++r)=C1 i64 l++List.map (MN ts k) r:=WL fun x=>by simp only[i64,MN,AV.closed]
theorem QY:List.map (MN ts k) (C1 i64 l)=C1 i64 l:=by
 have:=N7 (ts:=ts) (k:=k) (r:=[]) (l:=l);simpa using this
theorem Y3:List.map dn (C1 i64 l++r)=C1 i64 l++List.map dn r:=by
 rw[AqN];congr 1;exact Ajq i64 (fun _=>rfl) l
attribute [go_sem] N7 QY Y3
end
theorem Mm{n N:Nat}{l:Fr}{O':Ad}(id j k:Nat){cs:List AV}{ro:Bool}(hO:O[id]?=some (.box cs ro))(h:cs[j]?=some (.sl true []))(he:O.set id (.box (cs.set j (.bs true O.length 0 0 0)) ro)++[.buf k [] false]=O'):Weak E n ⟨Al N l,O⟩ ⟨Al N l,O'⟩:=by
 subst he;exact Ib id j k hO h
theorem FL{n N:Nat}{l:Fr}{O':Ad}(bid j:Nat){cs:List AV}{bro:Bool}(x:AV){full:Bool}{id tot off len k:Nat}{els:List (List AV)}{ro:Bool}(hx:x=.bs full id tot off len)(hB:O[bid]?=some (.box cs bro))(h:cs[j]?=some x) (hO:O[id]?=some (.buf k els ro)) (ht:els.length=tot) (hc:DJ els=true) (he:(D4 O id).set bid (.box (cs.set j (.sl false ((els.drop off).take len))) bro)=O'):Weak E n ⟨Al N l,O⟩ ⟨Al N l,O'⟩:=by
 subst he hx;exact Kv bid j hB h hO ht hc
attribute [go_sem] AiL Adt Aez AdL AgX AhL Nat.le_add_right Nat.add_sub_cancel_left
end Go.Rv
