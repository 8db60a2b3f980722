/-
  Part 34.
-/
import Derived.Test.YtioapcamanmoiaaDoorYR33
import Derived.Lib.AtoiAllCases
import Derived.Lib.UnsafeStr
namespace Go.Rv
set_option linter.unusedVariables false
set_option linter.unusedSimpArgs false
variable {E : Env} {σ : An}
theorem AbN {t : TypeId} {v : Value} {k : AV} {ok : Bool} : F7 E σ t (.val v) k ok = Ya E t (.val v) k ok:=rfl
theorem Aax : bytesOf [] = some []:=rfl
attribute [go_sem] Aax Option.map_some
attribute [go_sem] AbN
variable {E : Env} {σ : An}
theorem AkG {b : Bool} : eqB .neq b = some (.bool !b):=rfl
theorem Alx {b : Bool} : eqB .eql b = some (.bool b):=rfl
def erA (t : TypeId) (c : Int) : AV:=if c = 0 then .val .nilIface else .iface t (i64 c)
theorem Arz {t : TypeId} : erA t 0 = .val .nilIface:=rfl
theorem AqK {t : TypeId} : erA t 1 = .iface t (i64 1):=rfl
theorem AqY {t : TypeId} : erA t 2 = .iface t (i64 2):=rfl
theorem Aow {t : TypeId} : erA t 3 = .iface t (i64 3):=rfl
theorem Ark {t : TypeId} : erA t 4 = .iface t (i64 4):=rfl
attribute [go_sem] AkG Alx Arz AqK AqY Aow Ark X1 F7
open Go.RowKit
variable {E : Env}
def AlC : AV→Bool
 | .rp _ | .sl .. => true
 | _ => false
def Ajt : Op→Option Nat
 | .load _ (.tmp p) => some p
 | .fieldAddr _ (.tmp p) _ => some p
 | .indexAddr _ (.tmp p) _ => some p
 | _ => none
theorem Am3 {orc : Option Tmp→Orc} {ops : Array Oper} {y : Oper} {fr : List AV} {p : Nat} (hp : Ajt y.op = some p) (ha : AlC (ev fr (.tmp p)) = true) : AqG E orc ops y fr:=by
  intro σ σ' v h
  have hf : G4 E ops y = false:=AdI (fun _ _ _ h => by rw [h] at hp;cases hp) (fun _ _ _ h => by rw [h] at hp;cases hp)
  simp only [Xd hf] at h ⊢
  cases hw : Mc ops fr y with
  | none => simp [hw] at h
  | some b =>
    cases b with
    | false =>
      simp only [hw,Option.some.injEq,Prod.mk.injEq] at h ⊢
      exact ⟨h.2.symm,fun σ2 => ⟨h.1,trivial⟩⟩
    | true =>
      simp only [hw] at h ⊢
      unfold Ajt at hp
      generalize hx : ev fr (.tmp p) = x at ha
      split at hp
      case h_4 => cases hp
      case h_1 ho =>
        cases hp
        simp only [ho,C7,Fq,hx] at h ⊢
        cases x <;> simp only [AlC] at ha <;> try (cases ha;done)
        all_goals
          split at h
          case h_2 => cases h
          rename_i d hd
          rw [Option.map_eq_some_iff] at h
          obtain ⟨u,hu,h⟩:=h
          cases h
          refine ⟨rfl,fun σ2 => ?_⟩
          simp only [loadA] at hu ⊢
          first | (rw [hu];rfl) | cases hu
      case h_2 ho =>
        cases hp
        simp only [ho,C7,Fq,hx] at h ⊢
        rw [Option.map_eq_some_iff] at h
        obtain ⟨u,hu,h⟩:=h
        cases h
        refine ⟨rfl,fun σ2 => ?_⟩
        have e : ∀ s f σ,Bp E σ s x f = Bp E [] s x f:=by
          intro s f σ
          cases x <;> simp only [AlC] at ha <;> first | (cases ha;done) | rfl
        rw [e] at hu ⊢
        rw [hu];rfl
      case h_3 ho =>
        cases hp
        simp only [ho,C7,Fq,hx] at h ⊢
        rw [Option.map_eq_some_iff] at h
        obtain ⟨u,hu,h⟩:=h
        cases h
        refine ⟨rfl,fun σ2 => ?_⟩
        have e : ∀ t i σ,Au E σ t x i = Au E [] t x i:=by
          intro t i σ
          unfold Au
          cases x <;> simp only [AlC] at ha <;> try (cases ha;done)
          all_goals
            cases E.tab t with
            | none => rfl
            | some d =>
              obtain ⟨desc,sz,bt,z⟩:=d
              cases desc <;> try rfl
              all_goals (rename_i e;dsimp only;cases E.tab e <;> first | rfl | (dsimp only;cases idx i _ <;> rfl))
        rw [e] at hu ⊢
        rw [hu];rfl
def AnQ (ops : Array Oper) (T : List (List Nat)) (ns ts : List Nat) (i : Nat) (y : Oper) : Bool :=
 match Ajt y.op with
 | some p => ns.contains p && I3 ops ts (fun k => (T.getD i []).contains k && decide (k < i)) p
 | none => false
def NsL (n : Nat) (fr : Fr) : List Nat→Prop
 | [] => True
 | p :: ps => AlC (evL n fr (.tmp p)) = true∧NsL n fr ps
theorem Aje {n : Nat} {fr : Fr} : ∀ {ps : List Nat} {t : Nat},NsL n fr ps→t ∈ ps→AlC (evL n fr (.tmp t)) = true
  | p :: ps,t,hr,h => by
    rcases List.mem_cons.1 h with rfl | h
    · exact hr.1
    · exact Aje hr.2 h
open Go.RowKit
theorem AaC {B : Base} {f : FuncId} {fn : Func} {c : Code} {args : List AV} {σ : An} {r0 : AV} {rs : List ResultVar} {N : Nat} (n : Nat) (hn0 : σ.length = n) (hB : B.Ok) (hf : B.P.funcs[f]? = some fn) (hb : fn.body = some c) (hn : (fn.name == "runtime.NumGoroutine") = false) (hN : fn.ntmps = N) (hrs : fn.results.toList = rs)
  (hlen : args.length≤N) (hr : r0.under n = true) (h : ∀ F : Addr→Prop,Run (B.env F) n c ⟨Aq N (Wc 0 args),σ⟩ (fun ex st => (ex = .normal∨ex = .ret)∧∃ xs bs,Gr (B.env F) st.σ st.fr rs = some xs∧K9 xs = r0∧st.σ = σ ++ bs)) : ∀ F : Addr→Prop,Abp (B.env F) f args σ r0 σ:=by
 subst hn0
 have h0 : Con B f args σ (fun r σ' => r = r0∧∃ bs,σ' = σ ++ bs):=by
  refine Af7 hB hf hb hn (fun F => ?_)
  subst hN hrs
  rw [J5 fn.ntmps args hlen (Wc 0 args) (fun t _ => J4 args 0 t (Nat.zero_le _))]
  refine Ff (h F) ?_
  rintro ex st ⟨h1,xs,bs,h2,h3,h4⟩
  exact ⟨h1,xs,h2,h3,bs,h4⟩
 intro F w g vs hm ha
 refine (h0.call F w g vs hm ha).mono ?_
 rintro e w' ⟨v,r,σ',g',rfl,⟨rfl,bs,rfl⟩,h3,h4,h5⟩
 have hlg : g.length = σ.length:=hm.len
 have ht : (σ ++ bs).take σ.length = σ:=by simp
 have m1:=X9 h3 σ.length (by rw [ht];exact V5 hm)
 rw [ht] at m1
 refine ⟨v,g'.take σ.length,rfl,m1,?_,?_,?_⟩
 ·intro id b hb
  have hid : id < σ.length:=by rw [← hlg];exact (List.getElem?_eq_some_iff.1 hb).1
  obtain ⟨b',hb',hs⟩:=h4.ids id hid b hb
  exact ⟨b',Ht hb' hid,hs⟩
 ·exact ⟨h4.os,h4.tape,h4.output,h4.size,fun a u hc hp => ⟨(h4.cells a u hc hp).1,J8 (h4.cells a u hc hp).2⟩,fun β hβ hn => ⟨(h4.blocks β hβ hn).1,fun h => (h4.blocks β hβ hn).2 (Mn h)⟩,fun id hid => absurd hid (Nat.not_lt_zero _)⟩
 ·exact (Z9 h5 hr).mono (fun a u hc hp => ⟨hc,J8 hp⟩) (GLe.refl _)
section
variable {E : Env} {w w' : World} {g : Gh} {σ : An}
end
section
variable {E : Env}
theorem AhI {sel : List Nat} {T T' : TypeId} {l l' : List UInt8} : Aaw sel (.tb T l) (.tb T' l') = (T = T'∧l = l'):=rfl
theorem AfZ {sel : List Nat} {o o' : Obj} : Aaw sel (.obj o) (.obj o') = (o = o'):=rfl
attribute [go_sem] AfZ
theorem Aae : Ky [] = some []:=rfl
attribute [go_sem] AhI Aae Wu
theorem AmN {σ : An} {v : Value} : fz σ (.val v) = some (.val v):=rfl
attribute [go_sem] AmN
attribute [go_sem] ite_self
theorem Aeg {α : Type} {c : α→List AV} {l : List α} {x : List AV} : List.take (l.length + 1) (L c l ++ [x]) = L c l ++ [x]:=List.take_of_length_le (by simp [L])
attribute [go_sem] Aeg
section
variable {sel : List Nat} {N : Nat}
end
end
section
variable {P : Program} (w : World)
end
end Go.Rv
