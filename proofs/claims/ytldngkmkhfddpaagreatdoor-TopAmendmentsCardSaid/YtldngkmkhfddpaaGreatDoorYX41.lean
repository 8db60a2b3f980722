/-
  Part 41.
-/
import Derived.Test.YtldngkmkhfddpaaGreatDoorYX40
namespace Go.Rv
set_option linter.unusedVariables false
set_option linter.unusedSimpArgs false
variable{O:Ac}{l:List Int}{E:Env}
section
variable {α:Type}{c:α->AV}{n:Nat}{a:Arr α n}{r:List AV}
theorem AhU[Inhabited α]{i:Nat}(h:i<n):(C1 c a.l++r)[i]?=some (c (a.get i)):=by
 rw[Aph (by rw[DK];exact h),Xg h]
theorem Ag1{i:Nat}{x:AV}(h:i<n):(C1 c a.l++r).set i x=(C1 c a.l).set i x++r:=by
 rw[List.set_append_left _ _ (by rw[DK];exact h)]
theorem AlK(h:(n==0)=false):(C1 c a.l++r=[])=False:=by
 refine AqO fun e=>?_
 have:=Ap2 List.length e;rw[Apc,DK]at this;simp at this h;omega
theorem Adr:fzCells O (C1 i64 l++r)=(fzCells O r).bind fun ys=>some (C1 i64 l++ys):=AkW fun _=>rfl
theorem AdX{r':List AV}{sel:List Nat}:wkL sel (C1 i64 l++r) (C1 i64 l++r')=wkL sel r r':=Al9 fun _=>ArU Wl
theorem AdV:BW (.agg (C1 i64 l++r))=BW (.agg r):=by
 show List.filterMap _ (C1 i64 l++r)=_;rw[List.filterMap_append];have:=bsI64 (l:=l);rw[show List.filterMap _ (C1 i64 l)=[]from this];rfl
end
theorem AlD{t e n a b:Nat}{z:List AV}{de:TD}(ht:E.tab t=some ⟨.array n e,a,b,z⟩)(he:E.tab e=some de)(hs:de.size=1)(cs:List AV)(x:AV) :Ao E O t (.rp cs) x=match idx x n with
  |some i=>some (.rp (cs.drop i))
  |none=>none:=by
 unfold Ao;simp only[ht,he];cases idx x n<;>simp[hs]
section
variable {ts:List Nat}{k:Nat}{r:List AV}
theorem N6:List.map (MG ts k) (C1 i64 l++r)=C1 i64 l++List.map (MG ts k) r:=Xd fun x=>by simp only[i64,MG,AV.closed]
theorem SG:List.map (MG ts k) (C1 i64 l)=C1 i64 l:=by
 have:=N6 (ts:=ts) (k:=k) (r:=[]) (l:=l);simpa using this
theorem XN:List.map dn (C1 i64 l++r)=C1 i64 l++List.map dn r:=by
 rw[AqU];congr 1;exact AiP i64 (fun _=>rfl) l
attribute [go_sem] N6 SG XN
end
theorem Mq{n N:Nat}{l:Fr}{O':Ac}(id j k:Nat){cs:List AV}{ro:Bool}(hO:O[id]?=some (.box cs ro))(h:cs[j]?=some (.sl true []))(he:O.set id (.box (cs.set j (.bs true O.length 0 0 0)) ro)++[.buf k [] false]=O'):Weak E n ⟨Ai N l,O⟩ ⟨Ai N l,O'⟩:=by
 subst he;exact Ir id j k hO h
theorem F9{n N:Nat}{l:Fr}{O':Ac}(bid j:Nat){cs:List AV}{bro:Bool}(x:AV){full:Bool}{id tot off len k:Nat}{els:List (List AV)}{ro:Bool}(hx:x=.bs full id tot off len)(hB:O[bid]?=some (.box cs bro))(h:cs[j]?=some x) (hO:O[id]?=some (.buf k els ro)) (ht:els.length=tot) (hc:D4 els=true) (he:(D0 O id).set bid (.box (cs.set j (.sl false ((els.drop off).take len))) bro)=O'):Weak E n ⟨Ai N l,O⟩ ⟨Ai N l,O'⟩:=by
 subst he hx;exact JZ bid j hB h hO ht hc
attribute [go_sem] AlK Adr AdX AdV AhU Ag1 Nat.le_add_right Nat.add_sub_cancel_left
end Go.Rv
