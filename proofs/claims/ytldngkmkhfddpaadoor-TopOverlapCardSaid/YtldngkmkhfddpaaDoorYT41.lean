/-
  Part 41.
-/
import Derived.Test.YtldngkmkhfddpaaDoorYT40
namespace Go.Rv
set_option linter.unusedVariables false
set_option linter.unusedSimpArgs false
variable {E:Env}{σ:Ad}
theorem YY{t:TypeId}{ts:List TypeId}(a b c:Int):Ba E σ .min (t::ts) [i64 a,i64 b,i64 c]=some (i64 (QV (QV a b) c),σ):=rfl
theorem Yc{t:TypeId}{ts:List TypeId}(a b c:Int):Ba E σ .max (t::ts) [i64 a,i64 b,i64 c]=some (i64 (Ph (Ph a b) c),σ):=rfl
theorem YS{t:TypeId}{ts:List TypeId}(a b c d:Int):Ba E σ .min (t::ts) [i64 a,i64 b,i64 c,i64 d]=some (i64 (QV (QV (QV a b) c) d),σ):=rfl
theorem Y5{t:TypeId}{ts:List TypeId}(a b c d:Int):Ba E σ .max (t::ts) [i64 a,i64 b,i64 c,i64 d]=some (i64 (Ph (Ph (Ph a b) c) d),σ):=rfl
attribute [go_sem] YY Yc YS Y5
theorem AbT{l:List Bool}:(C1 AV.bool l).all AV.flat=true:=KL fun _=>rfl
theorem Aao{l:List Bool}:fzCells σ (C1 AV.bool l)=some (C1 AV.bool l):=Fk fun _=>rfl
attribute [go_sem] AbT Aao
section
variable {sel:List Nat}{N:Nat}{y:AV}
theorem Xi(x:Int):wk2.match_1 (fun _ _=>Prop) (i64 x) y (fun xs ys=>wkA sel xs ys) (fun x y=>wk1 sel x y)=wk1 sel (i64 x) y:=by cases y<;>rfl
theorem X7{f:FuncId}{i o:Nat}:Ku sel N (.fn f [.ref i o])=.fn f [.ref (Fj sel N i) o]:=rfl
theorem Wm{f:FuncId}{i o:Nat}:QB sel N (.fn f [.ref i o])=.fn f [.ref (Fj sel N i) o]:=rfl
theorem W8{f:FuncId}{i o:Nat}:PE sel N (.fn f [.ref i o])=.fn f [.ref (Fj sel N i) o]:=rfl
end
attribute [go_sem] X7 Wm W8
attribute [go_sem] Xi
open Go.RowKit
variable {E:Env}
theorem Xx(hE:E.Ok){orc:Option Tmp→Orc}(hO:GV E.toBase orc){m n i:Nat}{ops:Array Oper}{o:Oper}(hi:ops[i]?=some o){fr fr':Fr}{σ σ':Ad}
    (h1:LS E orc false n ops o (fr,σ)=some (fr',σ')) {a:Act} {w:World} {g:Gh} (hr:Rel E w g ⟨Am n fr,σ⟩ a) {next:Act→World→Prop} {Q:Exit→Act→World→Prop}
    (hk:∀a' w' g',Rel E w' g' ⟨Am n fr',σ'⟩ a'→Evo E m w g w' g'→next a' w'):wpOp E.P ops Q i next a w:=by
  unfold LS at h1
  have efz:∀σ,EX (false&&EE E ops o) σ=some:=fun σ=>by funext r;simp[EX]
  rw[efz,Bj]at h1
  obtain⟨g1,hr1,he1⟩:=O7 (s:=(fr,σ)) hr m false o.op
  generalize hfz:G3 false n o.op (fr,σ)=s1 at h1 hr1
  have hgo:∀{v:AV} {σ2:Ad},opL E (orc o.dst) false (evL n s1.1) s1.2 o.op=some (v,σ2)→fr'=put o.dst v s1.1→σ'=σ2→o.wp E.P a w next Q:=by
    intro v σ2 e1 e2 e3
    subst e2 e3
    refine C3 hE (hO _) e1 hr1 ?_
    intro a' w' g' hr' he hg
    exact hk a' w' g' hr' (he1.trans (he.of_gle hg))
  unfold wpOp
  simp only[hi]
  cases hgd:o.guard with
  | none=>
    simp only[LN,hgd,Option.map_eq_some_iff,Prod.mk.injEq]at h1
    obtain⟨⟨v,σ2⟩,e1,e2,e3⟩:=h1
    simp only[Region.wanted,hgd,if_true]
    exact .inl (hgo e1 e2.symm e3.symm)
  | some jw=>
    obtain⟨j,want⟩:=jw
    simp only[LN,hgd]at h1
    cases hy:Mb ops n fr j with
    |none=>simp[hy]at h1
    | some b=>
      simp only[hy,Option.map_some]at h1
      have hy':IE ops (Am n fr) j=some b:=by rw[Ib,hy]
      simp only[Region.wanted,hgd,Ht hr hy']
      by_cases e:b=some want
      · rw[if_pos (by simp[e])]
        rw[show(b==some want)=true by simp[e]]at h1
        simp only[Option.map_eq_some_iff,Prod.mk.injEq]at h1
        obtain⟨⟨v,σ2⟩,e1,e2,e3⟩:=h1
        exact .inl (hgo e1 e2.symm e3.symm)
      · rw[if_neg (by simp[e])]
        rw[show(b==some want)=false by simp[e]]at h1
        simp only[Option.some.injEq,Prod.mk.injEq]at h1
        obtain⟨e2,e3⟩:=h1
        subst e2 e3
        refine hk _ w g ?_ (Evo.refl _ _ _ _)
        have:=Ey hr o.dst (Ll _ _ _)
        rw[BU]at this
        exact this
def AaE:List Oper→List Oper
 |[]=>[]
 |[_]=>[]
 |x::y::l=>x::AaE (y::l)
def AaT:List Oper→List Oper
 |[]=>[]
 |[x]=>[x]
 |_::y::l=>AaT (y::l)
attribute [go_sem] AaE AaT
theorem Hy{orc:Option Tmp→Orc}{n:Nat}{ops:Array Oper}:∀(k:Nat) (l:List Oper) (fr fr':Fr) (σ σ':Ad),(∃r,ops.toList.drop k=l++r) →
    BJ E orc true n ops l (fr,σ)=some (fr',σ')→AF E orc ops (List.range' k l.length) ⟨Am n fr,σ⟩=some ⟨Am n fr',σ'⟩
  | k,[],fr,fr',σ,σ',hl,h=>by
    simp only[BJ,Option.some.injEq,Prod.mk.injEq]at h
    obtain⟨rfl,rfl⟩:=h
    rfl
  | k,o::l,fr,fr',σ,σ',⟨r,hl⟩,h=>by
    simp only[BJ,Option.bind_eq_some_iff]at h
    obtain⟨⟨fr1,σ1⟩,h1,h2⟩:=h
    have hk:ops[k]?=some o:=by
      have:(ops.toList.drop k)[0]?=some o:=by rw[hl];rfl
      rw[List.getElem?_drop]at this
      simpa using this
    have hl':ops.toList.drop (k+1)=l++r:=by
      rw[←List.tail_drop,hl];rfl
    show AF E orc ops (k::List.range' (k+1) l.length) _=_
    unfold AF
    simp only[hk,J0 h1,Option.bind_some]
    exact Hy (k+1) l _ _ _ _ ⟨r,hl'⟩ h2
section
variable {P:Prop}{N id:Nat}{l:List Oper}{fr fr':Fr}{σ σ':Ad}{y:Code}{orc:Option Tmp→Orc}{m:Nat}{K:C0}
end
end Go.Rv
