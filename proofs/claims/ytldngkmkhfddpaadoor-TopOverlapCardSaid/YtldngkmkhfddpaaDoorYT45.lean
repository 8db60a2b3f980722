/-
  Part 45.
-/
import Derived.Test.YtldngkmkhfddpaaDoorYT44
namespace Go.Rv
set_option linter.unusedVariables false
set_option linter.unusedSimpArgs false
section
variable {α:Type}{c:α→AV}{n:Nat}{a:Arr α n}{r:List AV}
theorem UA[Inhabited α]{i:Nat}(h:i<n):(C1 c a.l++r)[i]?=some (c (a.get i)):=by
 rw[List.getElem?_append_left (by rw[CM];exact h),QZ h]
theorem X4[Inhabited α]{i:Nat}(h:i<n):(List.drop i (C1 c a.l++r))[0]?=some (c (a.get i)):=by
 rw[List.getElem?_drop,Nat.add_zero,UA h]
theorem Yl{i:Nat}{x:AV}(h:i<n):(C1 c a.l++r).set i x=(C1 c a.l).set i x++r:=by
 rw[List.set_append_left _ _ (by rw[CM];exact h)]
theorem Ab2(h:(n==0)=false):(C1 c a.l++r=[])=False:=by
 refine eq_false fun e=>?_
 have:=congrArg List.length e
 rw[List.length_append,CM]at this
 simp at this h
 omega
theorem Xd{σ:Ad}{l:List Int}:fzCells σ (C1 i64 l++r)=(fzCells σ r).bind fun ys=>some (C1 i64 l++ys):=AbD fun _=>rfl
theorem Xx{r':List AV}{sel:List Nat}{l:List Int}:wkL sel (C1 i64 l++r) (C1 i64 l++r')=wkL sel r r':=AdM fun _=>of_eq_true PT
theorem X5{l:List Int}:B2 (.agg (C1 i64 l++r))=B2 (.agg r):=by
 show List.filterMap _ (C1 i64 l++r)=_
 rw[List.filterMap_append]
 have:=bsI64 (l:=l)
 rw[show List.filterMap _ (C1 i64 l)=[]from this]
 rfl
end
theorem Aaf{E:Env}{σ:Ad}{t e n a b:Nat}{z:List AV}{de:TD}(ht:E.tab t=some ⟨.array n e,a,b,z⟩)(he:E.tab e=some de)(hs:de.size=1)(cs:List AV)(x:AV) :
 As E σ t (.rp cs) x=match idx x n with
  |some i=>some (.rp (cs.drop i))
  |none=>none:=by
 unfold As
 simp only[ht,he]
 cases idx x n<;>simp[hs]
section
variable {ts:List Nat}{k:Nat}{r:List AV}
theorem JE{l:List Int}:List.map (Ki ts k) (C1 i64 l++r)=C1 i64 l++List.map (Ki ts k) r:=VU fun x=>by simp only[i64,Ki,AV.closed]
theorem MM{l:List Int}:List.map (Ki ts k) (C1 i64 l)=C1 i64 l:=by
 have:=JE (ts:=ts) (k:=k) (r:=[]) (l:=l)
 simpa using this
theorem RW{l:List Int}:List.map dn (C1 i64 l++r)=C1 i64 l++List.map dn r:=by
 rw[List.map_append]
 congr 1
 exact Ad6 i64 (fun _=>rfl) l
attribute [go_sem] JE MM RW
end
theorem Iz{E:Env}{n N:Nat}{l:Fr}{σ σ':Ad}(id j k:Nat){cs:List AV}{ro:Bool}(hσ:σ[id]?=some (.box cs ro))(h:cs[j]?=some (.sl true []))(he:σ.set id (.box (cs.set j (.bs true σ.length 0 0 0)) ro)++[.buf k [] false]=σ'):Weak E n ⟨Am N l,σ⟩ ⟨Am N l,σ'⟩:=by
 subst he
 exact JF id j k hσ h
theorem DD{E:Env}{n N:Nat}{l:Fr}{σ σ':Ad}(bid j:Nat){cs:List AV}{bro:Bool}(x:AV){full:Bool}{id tot off len k:Nat}{els:List (List AV)}{ro:Bool}(hx:x=.bs full id tot off len)(hB:σ[bid]?=some (.box cs bro))(h:cs[j]?=some x)
 (hσ:σ[id]?=some (.buf k els ro)) (ht:els.length=tot) (hc:Cs els=true) (he:(Cm σ id).set bid (.box (cs.set j (.sl false ((els.drop off).take len))) bro)=σ'):Weak E n ⟨Am N l,σ⟩ ⟨Am N l,σ'⟩:=by
 subst he hx
 exact Hm bid j hB h hσ ht hc
attribute [go_sem] X4 Ab2 Xd Xx X5 UA Yl Nat.le_add_right Nat.add_sub_cancel_left
end Go.Rv
