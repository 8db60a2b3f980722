/-
  Part 45.
-/
import Derived.Test.YtldngkmkhfddpaaDoorYT44
namespace Go.Rv
set_option linter.unusedVariables false
set_option linter.unusedSimpArgs false
section
variable {α:Type}{c:α→AV}{n:Nat}{a:Arr α n}{r:List AV}
theorem Vr[Inhabited α]{i:Nat}(h:i<n):(C1 c a.l++r)[i]?=some (c (a.get i)):=by
 rw[List.getElem?_append_left (by rw[CM];exact h),RI h]
theorem VQ[Inhabited α]{i:Nat}(h:i<n):(List.drop i (C1 c a.l++r))[0]?=some (c (a.get i)):=by
 rw[List.getElem?_drop,Nat.add_zero,Vr h]
theorem Yx{i:Nat}{x:AV}(h:i<n):(C1 c a.l++r).set i x=(C1 c a.l).set i x++r:=by
 rw[List.set_append_left _ _ (by rw[CM];exact h)]
theorem Aay(h:(n==0)=false):(C1 c a.l++r=[])=False:=by
 refine eq_false fun e=>?_
 have:=congrArg List.length e
 rw[List.length_append,CM]at this
 simp at this h
 omega
theorem Xa{σ:Ad}{l:List Int}:fzCells σ (C1 i64 l++r)=(fzCells σ r).bind fun ys=>some (C1 i64 l++ys):=Aag fun _=>rfl
theorem Xo{r':List AV}{sel:List Nat}{l:List Int}:wkL sel (C1 i64 l++r) (C1 i64 l++r')=wkL sel r r':=AdE fun _=>of_eq_true Qk
theorem Xr{l:List Int}:B2 (.agg (C1 i64 l++r))=B2 (.agg r):=by
 show List.filterMap _ (C1 i64 l++r)=_
 rw[List.filterMap_append]
 have:=bsI64 (l:=l)
 rw[show List.filterMap _ (C1 i64 l)=[]from this]
 rfl
end
theorem AaN{E:Env}{σ:Ad}{t e n a b:Nat}{z:List AV}{de:TD}(ht:E.tab t=some ⟨.array n e,a,b,z⟩)(he:E.tab e=some de)(hs:de.size=1)(cs:List AV)(x:AV) :
 As E σ t (.rp cs) x=match idx x n with
  |some i=>some (.rp (cs.drop i))
  |none=>none:=by
 unfold As
 simp only[ht,he]
 cases idx x n<;>simp[hs]
section
variable {ts:List Nat}{k:Nat}{r:List AV}
theorem JG{l:List Int}:List.map (Ku ts k) (C1 i64 l++r)=C1 i64 l++List.map (Ku ts k) r:=Xj fun x=>by simp only[i64,Ku,AV.closed]
theorem M4{l:List Int}:List.map (Ku ts k) (C1 i64 l)=C1 i64 l:=by
 have:=JG (ts:=ts) (k:=k) (r:=[]) (l:=l)
 simpa using this
theorem S1{l:List Int}:List.map dn (C1 i64 l++r)=C1 i64 l++List.map dn r:=by
 rw[List.map_append]
 congr 1
 exact Aex i64 (fun _=>rfl) l
attribute [go_sem] JG M4 S1
end
theorem I3{E:Env}{n N:Nat}{l:Fr}{σ σ':Ad}(id j k:Nat){cs:List AV}{ro:Bool}(hσ:σ[id]?=some (.box cs ro))(h:cs[j]?=some (.sl true []))(he:σ.set id (.box (cs.set j (.bs true σ.length 0 0 0)) ro)++[.buf k [] false]=σ'):Weak E n ⟨Am N l,σ⟩ ⟨Am N l,σ'⟩:=by
 subst he
 exact JP id j k hσ h
theorem DC{E:Env}{n N:Nat}{l:Fr}{σ σ':Ad}(bid j:Nat){cs:List AV}{bro:Bool}(x:AV){full:Bool}{id tot off len k:Nat}{els:List (List AV)}{ro:Bool}(hx:x=.bs full id tot off len)(hB:σ[bid]?=some (.box cs bro))(h:cs[j]?=some x)
 (hσ:σ[id]?=some (.buf k els ro)) (ht:els.length=tot) (hc:Ct els=true) (he:(Cn σ id).set bid (.box (cs.set j (.sl false ((els.drop off).take len))) bro)=σ'):Weak E n ⟨Am N l,σ⟩ ⟨Am N l,σ'⟩:=by
 subst he hx
 exact Hs bid j hB h hσ ht hc
attribute [go_sem] VQ Aay Xa Xo Xr Vr Yx Nat.le_add_right Nat.add_sub_cancel_left
end Go.Rv
