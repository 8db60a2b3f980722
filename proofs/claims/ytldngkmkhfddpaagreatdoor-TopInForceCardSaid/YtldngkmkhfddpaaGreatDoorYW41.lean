/-
  Part 41.
-/
import Derived.Test.YtldngkmkhfddpaaGreatDoorYW40
namespace Go.Rv
set_option linter.unusedVariables false
set_option linter.unusedSimpArgs false
variable{i:Nat}{O:Ac}{l:List Int}{E:Env}
section
variable {α:Type}{c:α->AV}{n:Nat}{a:Arr α n}{r:List AV}
theorem Adi[Inhabited α](h:i<n):(C1 c a.l++r)[i]?=some (c (a.get i)):=by
 rw[AqN (by rw[Dr];exact h),Yn h]
theorem Af7[Inhabited α](h:i<n):(List.drop i (C1 c a.l++r))[0]?=some (c (a.get i)):=by
 rw[Are,Asb,Adi h]
theorem Ag0{x:AV}(h:i<n):(C1 c a.l++r).set i x=(C1 c a.l).set i x++r:=by
 rw[List.set_append_left _ _ (by rw[Dr];exact h)]
theorem Ak7(h:(n==0)=false):(C1 c a.l++r=[])=False:=by
 refine Ass fun e=>?_
 have:=Arz List.length e;rw[AqM,Dr]at this;simp at this h;omega
theorem AdQ:fzCells O (C1 i64 l++r)=(fzCells O r).bind fun ys=>some (C1 i64 l++ys):=AjN fun _=>rfl
theorem AfV{r':List AV}{sel:List Nat}:wkL sel (C1 i64 l++r) (C1 i64 l++r')=wkL sel r r':=ApD fun _=>Atq VY
theorem AfM:Cq (.agg (C1 i64 l++r))=Cq (.agg r):=by
 show List.filterMap _ (C1 i64 l++r)=_;rw[List.filterMap_append];have:=bsI64 (l:=l);rw[show List.filterMap _ (C1 i64 l)=[]from this];rfl
end
theorem AgG{t e n a b:Nat}{z:List AV}{de:TD}(ht:E.tab t=some ⟨.array n e,a,b,z⟩)(he:E.tab e=some de)(hs:de.size=1)(cs:List AV)(x:AV) :Ao E O t (.rp cs) x=match idx x n with
  |some i=>some (.rp (cs.drop i))
  |none=>none:=by
 unfold Ao;simp only[ht,he];cases idx x n<;>simp[hs]
section
variable {ts:List Nat}{k:Nat}{r:List AV}
theorem Ob:List.map (Nw ts k) (C1 i64 l++r)=C1 i64 l++List.map (Nw ts k) r:=Yc fun x=>by simp only[i64,Nw,AV.closed]
theorem Tv:List.map (Nw ts k) (C1 i64 l)=C1 i64 l:=by
 have:=Ob (ts:=ts) (k:=k) (r:=[]) (l:=l);simpa using this
theorem ZM:List.map dn (C1 i64 l++r)=C1 i64 l++List.map dn r:=by
 rw[Asm];congr 1;exact Akb i64 (fun _=>rfl) l
attribute [go_sem] Ob Tv ZM
end
theorem Na{n N:Nat}{l:Fr}{O':Ac}(id j k:Nat){cs:List AV}{ro:Bool}(hO:O[id]?=some (.box cs ro))(h:cs[j]?=some (.sl true []))(he:O.set id (.box (cs.set j (.bs true O.length 0 0 0)) ro)++[.buf k [] false]=O'):Weak E n ⟨Ah N l,O⟩ ⟨Ah N l,O'⟩:=by
 subst he;exact Ir id j k hO h
theorem FK{n N:Nat}{l:Fr}{O':Ac}(bid j:Nat){cs:List AV}{bro:Bool}(x:AV){full:Bool}{id tot off len k:Nat}{els:List (List AV)}{ro:Bool}(hx:x=.bs full id tot off len)(hB:O[bid]?=some (.box cs bro))(h:cs[j]?=some x) (hO:O[id]?=some (.buf k els ro)) (ht:els.length=tot) (hc:DH els=true) (he:(D7 O id).set bid (.box (cs.set j (.sl false ((els.drop off).take len))) bro)=O'):Weak E n ⟨Ah N l,O⟩ ⟨Ah N l,O'⟩:=by
 subst he hx;exact K8 bid j hB h hO ht hc
attribute [go_sem] Af7 Ak7 AdQ AfV AfM Adi Ag0 Nat.le_add_right Nat.add_sub_cancel_left
end Go.Rv
