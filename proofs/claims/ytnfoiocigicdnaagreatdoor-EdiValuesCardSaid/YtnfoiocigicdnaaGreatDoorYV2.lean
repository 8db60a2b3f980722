/-
  Part 2.
-/
import Derived.Test.YtnfoiocigicdnaaGreatDoorYV1
namespace Go.Rv
set_option linter.unusedVariables false
def Ub : Value → AV
  | .bool b => .bool b
  | .int k n => .int k n
  | .string s => .str s.data.toList
  | .slice none 0 0 => .sl true []
  | .agg _ | .tuple _ => .junk
  | v => .val v
def Qi : Value → AV
  | .agg cs => if cs.all one then .agg (cs.toList.map Ub) else .junk
  | v => Ub v
def ev (fr : List AV) : Operand → AV
  | .tmp t => fr.getD t .junk
  | .const v => Qi v
  | .global g => .glob g
  | .func f => .fn f []
def AV.cells? : AV → Option (List AV)
  | .junk | .tup _ => none
  | .agg cs => some cs
  | x => some [x]
def AV.closed : AV → Bool
  | .bs .. | .ref .. | .tref .. | .mref .. | .nref .. | .eref .. => false
  | .agg cs => cs.attach.all fun ⟨x, _⟩ => x.closed
  | .tup cs => cs.attach.all fun ⟨x, _⟩ => x.closed
  | .fn _ cs => cs.attach.all fun ⟨x, _⟩ => x.closed
  | .iface _ x => x.closed
  | _ => true
def TD.isAgg (d : TD) : Bool := match d.desc with | .struct _ | .array .. => true | _ => false
def partA (d : TD) (cs : List AV) (off : Nat) : Option AV :=
  if d.isAgg then (if off + d.size ≤ cs.length then some (.agg ((cs.drop off).take d.size)) else none) else cs[off]?
def loadA (E : Env) (σ : Ab) (d : TD) : AV → Option AV
  | .ref id off => match σ[id]? with
    | some (.box cs _) => partA d cs off
    | _ => none
  | .eref id tot i j => match σ[id]? with
    | some (.buf k els _) => if els.length = tot then (match els[i]? with | some cs => partA d cs j | none => none) else none
    | _ => none
  | .rp cs => partA d cs 0
  | .glob g => match E.G g with
    | some cs => partA d cs 0
    | none => none
  | _ => none
def splice (cs : List AV) (off : Nat) : List AV → List AV
  | [] => cs
  | x :: xs => splice (cs.set off x) (off + 1) xs
def storeA (σ : Ab) (d : TD) (addr x : AV) : Option Ab :=
  match x.cells? with
  | none => none
  | some xs => if xs.length ≠ d.size then none else match addr with
    | .ref id off => match σ[id]? with
      | some (.box cs false) => if off + xs.length ≤ cs.length then some (σ.set id (.box (splice cs off xs) false)) else none
      | _ => none
    | .eref id tot i j => match σ[id]? with
      | some (.buf k els false) => if els.length = tot then (match els[i]? with
        | some cs => if j + xs.length ≤ cs.length then some (σ.set id (.buf k (els.set i (splice cs j xs)) false)) else none
        | none => none) else none
      | _ => none
    | _ => none
def G6 (σ : Ab) : AV → Option (List (List AV))
  | .sl _ els => some els
  | .bs _ id tot off len => match σ[id]? with
    | some (.buf _ els _) => if els.length = tot then some ((els.drop off).take len) else none
    | _ => none
  | .str s => some (s.map fun b => [.int .u8 b.toNat])
  | _ => none
def H4 (x : AV) (k : Nat) : Bool := match x with | .str _ => k != 1 | _ => false
def bytesOf : List (List AV) → Option (List UInt8)
  | [] => some []
  | [.int .u8 n] :: r => (bytesOf r).map (UInt8.ofNat n.toNat :: ·)
  | _ :: _ => none
def Aj4 (x : AV) (hi : Nat) : Option Nat :=
  match x with
  | .int _ i => if 0 ≤ i ∧ i.toNat ≤ hi then some i.toNat else none
  | _ => none
def Akb (x : Option AV) (dflt hi : Nat) : Option Nat :=
  match x with
  | some v => Aj4 v hi
  | none => some dflt
def Kx (len : Nat) (full : Bool) (lo hi mx : Option AV) : Option (Nat × Nat × Bool) :=
  match mx with
  | none => match Akb hi len len with
    | none => none
    | some h => match Akb lo 0 h with
      | none => none
      | some l => some (l, h, full && h == len)
  | some m => match Aj4 m len, hi with
    | some m, some hv => match Aj4 hv m with
      | none => none
      | some h => match Akb lo 0 h with
        | none => none
        | some l => some (l, h, h == m)
    | _, _ => none
def H6 (E : Env) (σ : Ab) (t : TypeId) (x : AV) (lo hi mx : Option AV) : Option (AV × Ab) :=
  match E.tab t with
  | none => none
  | some d => match d.desc, x with
    | .string, .str s => match Kx s.length true lo hi mx with
      | some (l, h, _) => if mx.isSome then none else some (.str ((s.drop l).take (h - l)), σ)
      | none => none
    | .slice e, .sl full els => match E.tab e, Kx els.length full lo hi mx with
      | some de, some (l, h, f) => if l = 0 ∨ ∀ cs ∈ els, cs.length = de.size then some (.sl f ((els.drop l).take (h - l)), σ) else none
      | _, _ => none
    | .slice e, .bs full id tot off len => match σ[id]?, E.tab e with
      | some (.buf k els _), some de => if els.length = tot ∧ k = de.size then match Kx len full lo hi mx with
          | some (l, h, f) => some (.bs f id tot (off + l) (h - l), σ)
          | none => none
        else none
      | _, _ => none
    | .array n e, .ref id off => match σ[id]?, E.tab e with
      | some (.box cs _), some de => if de.size = 1 ∧ off + n ≤ cs.length ∧ (cs.all AV.closed) = true then match Kx n true lo hi mx with
          | some (l, h, _) => some (.sl false ((((cs.drop off).take n).map fun c => [c]).drop l |>.take (h - l)), σ.set id (.box cs true))
          | none => none
        else none
      | _, _ => none
    | .array n e, .glob i => match E.G i, E.tab e with
      | some cs, some de => if de.size = 1 ∧ n ≤ cs.length then match Kx n true lo hi mx with
          | some (l, h, _) => some (.sl false (((cs.take n).map fun c => [c]).drop l |>.take (h - l)), σ)
          | none => none
        else none
      | _, _ => none
    | _, _ => none
def AdV (σ : Ab) (id tot : Nat) : Bool :=
  match σ[id]? with
  | some (.buf _ els _) => els.length == tot
  | _ => false
def C2 (E : Env) (σ : Ab) (s : TypeId) (x : AV) (f : Nat) : Option AV :=
  match E.tab s with
  | some d => match d.desc with
    | .struct fields => match fields[f]? with
      | some fl => match E.tab fl.type with
        | some df => if df.size = 0 then none else match x with
          | .ref id off => some (.ref id (off + fl.offset))
          | .tref id _ => some (.ref id fl.offset)
          | .eref id tot i j => if AdV σ id tot then some (.eref id tot i (j + fl.offset)) else none
          | .rp cs => some (.rp (cs.drop fl.offset))
          | .glob g => match E.G g with
            | some cs => some (.rp (cs.drop fl.offset))
            | none => none
          | _ => none
        | none => none
      | none => none
    | _ => none
  | none => none
def Xy (E : Env) (s : TypeId) (x : AV) (f : Nat) : Option AV :=
  match E.tab s, x with
  | some d, .agg cs => match d.desc with
    | .struct fields => match fields[f]? with
      | some fl => match E.tab fl.type with
        | some df => partA df cs fl.offset
        | none => none
      | none => none
    | _ => none
  | _, _ => none
def idx (x : AV) (len : Nat) : Option Nat :=
  match x with
  | .int _ i => if 0 ≤ i ∧ i.toNat < len then some i.toNat else none
  | _ => none
def As (E : Env) (σ : Ab) (t : TypeId) (x ix : AV) : Option AV :=
  match E.tab t with
  | none => none
  | some d => match d.desc with
    | .array n e => match E.tab e, idx ix n with
      | some de, some i => match x with
        | .ref id off => some (.ref id (off + i * de.size))
        | .eref id tot i0 j => if AdV σ id tot then some (.eref id tot i0 (j + i * de.size)) else none
        | .rp cs => some (.rp (cs.drop (i * de.size)))
        | .glob g => match E.G g with
          | some cs => some (.rp (cs.drop (i * de.size)))
          | none => none
        | _ => none
      | _, _ => none
    | .slice e => match E.tab e, x with
      | some de, .sl _ els => match idx ix els.length with
        | some i => match els[i]? with
          | some cs => if cs.length = de.size then some (.rp cs) else none
          | none => none
        | none => none
      | some de, .bs _ id tot off len => match σ[id]?, idx ix len with
        | some (.buf k els _), some i => if els.length = tot ∧ k = de.size ∧ 0 < k then some (.eref id tot (off + i) 0) else none
        | _, _ => none
      | _, _ => none
    | _ => none
def L6 (E : Env) (t : TypeId) (x ix : AV) : Option AV :=
  match E.tab t with
  | none => none
  | some d => match d.desc, x with
    | .array n e, .agg cs => match E.tab e, idx ix n with
      | some de, some i => partA de cs (i * de.size)
      | _, _ => none
    | .string, .str s => match idx ix s.length with
      | some i => match s[i]? with
        | some b => some (.int .u8 b.toNat)
        | none => none
      | none => none
    | _, _ => none
def AaA (place : Nat → Option (Nat × Nat)) (cells : List AV) : List (Nat × AV) → Option (List AV)
  | [] => some cells
  | (i, x) :: rest => match place i, x.cells? with
    | some (off, size), some xs => if xs.length ≠ size ∨ off + xs.length > cells.length then none else AaA place (splice cells off xs) rest
    | _, _ => none
def Yq (E : Env) (t : TypeId) (parts : List (Nat × AV)) : Option AV :=
  match E.tab t with
  | none => none
  | some d => match d.desc with
    | .struct fields => if fields.toList.all (fun f => (E.tab f.type).isSome) then (AaA (fun i => match fields[i]? with
        | some f => match E.tab f.type with
          | some df => some (f.offset, df.size)
          | none => none
        | none => none) d.zero parts).map .agg else none
    | .array _ e => match E.tab e with
      | some de => (AaA (fun i => some (i * de.size, de.size)) d.zero parts).map .agg
      | none => none
    | _ => none
def Ox (size : Nat) (els : List (List AV)) : List (Nat × AV) → Option (List (List AV))
  | [] => some els
  | (i, x) :: rest => match x.cells? with
    | some xs => if xs.length = size ∧ i < els.length then Ox size (els.set i xs) rest else none
    | none => none
def dn : AV → AV
  | .sl _ els => .sl false els
  | x => x
def D4 (E : Env) (σ : Ab) (t : TypeId) (len : Nat) (parts : List (Nat × AV)) : Option (AV × Ab) :=
  match E.tab t with
  | none => none
  | some d => match d.desc with
    | .slice e => match E.tab e with
      | some de => if len * de.size > 2 ^ 24 ∨ de.size = 0 then none else match Ox de.size (List.replicate len de.zero) parts with
        | some els => some (.bs true σ.length len 0 len, σ ++ [.buf de.size (els.map fun cs => cs.map dn) false])
        | none => none
      | none => none
    | _ => none
def S6 (k : IntKind) (f : BitVec k.bits → BitVec k.bits → BitVec k.bits) (a b : Int) : AV :=
  .int k (k.wrap (f (BitVec.ofInt k.bits a) (BitVec.ofInt k.bits b)).toNat)
def Ady (op : BinOp) (k : IntKind) (a b : Int) : Option AV :=
  match op with
  | .add => some (.int k (k.wrap (a + b)))
  | .sub => some (.int k (k.wrap (a - b)))
  | .mul => some (.int k (k.wrap (a * b)))
  | .quo => if b = 0 then none else some (.int k (k.wrap (a.tdiv b)))
  | .rem => if b = 0 then none else some (.int k (a.tmod b))
  | .and => some (S6 k (· &&& ·) a b)
  | .or => some (S6 k (· ||| ·) a b)
  | .xor => some (S6 k (· ^^^ ·) a b)
  | .andNot => some (S6 k (fun x y => x &&& ~~~y) a b)
  | .eql => some (.bool (a == b))
  | .neq => some (.bool (a != b))
  | .lss => some (.bool (a < b))
  | .leq => some (.bool (a ≤ b))
  | .gtr => some (.bool (a > b))
  | .geq => some (.bool (a ≥ b))
  | _ => none
def Jb (op : BinOp) (k : IntKind) (a y : Int) : Option AV :=
  if y < 0 then none else
  match op with
  | .shl => some (.int k (k.wrap (a * 2 ^ (min y.toNat k.bits))))
  | .shr => some (.int k (a.fdiv (2 ^ (min y.toNat k.bits))))
  | _ => none
def Ae7 (op : BinOp) (a b : List UInt8) : Option AV :=
  match op with
  | .add => if a.length + b.length ≤ 9223372036854775807 then some (.str (a ++ b)) else none
  | .eql => some (.bool (a == b))
  | .neq => some (.bool (!(a == b)))
  | .lss => some (.bool (Op.bytesLess a b))
  | .leq => some (.bool (Op.bytesLess a b || a == b))
  | .gtr => some (.bool (!(Op.bytesLess a b || a == b)))
  | .geq => some (.bool (!Op.bytesLess a b))
  | _ => none
def Xa (k : IntKind) : List AV → Option (List Int)
  | [] => some []
  | .int k' n :: l => if k' = k then (Xa k l).map (n :: ·) else none
  | _ => none
def Mm (d : TypeDesc) (x y : AV) : Option Bool :=
  match x, y with
  | .int k a, .int k' b => match d with
    | .int k2 => if k = k2 ∧ k' = k2 then some (a == b) else none
    | _ => none
  | .str a, .str b => match d with
    | .string => some (a == b)
    | _ => none
  | .bool a, .bool b => match d with
    | .bool => some (a == b)
    | _ => none
  | _, _ => none
def Ds (E : Env) (xs ys : List AV) : List Field → Option Bool
  | [] => some true
  | f :: fs => if f.name = "_" then none else match E.tab f.type with
    | some d => match xs[f.offset]?, ys[f.offset]? with
      | some x, some y => match Mm d.desc x y, Ds E xs ys fs with
        | some b, some c => some (b && c)
        | _, _ => none
      | _, _ => none
    | none => none
def R8 (E : Env) (op : BinOp) (t : TypeId) (xs ys : List AV) : Option AV :=
  match E.tab t with
  | some d => match d.desc with
    | .array n e => match E.tab e with
      | some de => match de.desc with
        | .int k => if de.size = 1 ∧ xs.length = n ∧ ys.length = n then match Xa k xs, Xa k ys with
          | some a, some b => match op with
            | .eql => some (.bool (a == b))
            | .neq => some (.bool (!(a == b)))
            | _ => none
          | _, _ => none
          else none
        | _ => none
      | none => none
    | .struct fs => if E.P.stoodInHeld t = false ∧ E.P.eqGuardType E.P.depth t = false then match Ds E xs ys fs.toList with
        | some b => match op with
          | .eql => some (.bool b)
          | .neq => some (.bool (!b))
          | _ => none
        | none => none
      else none
    | _ => none
  | none => none
def eqB (op : BinOp) (b : Bool) : Option AV :=
  match op with
  | .eql => some (.bool b)
  | .neq => some (.bool !b)
  | _ => none
def Nl (E : Env) (t : TypeId) : Bool := match E.tab t with
  | some d => match d.desc with
    | .interface _ => true
    | _ => false
  | none => false
def Ae6 (E : Env) (t : TypeId) : Bool := match E.tab t with
  | some d => match d.desc with
    | .int _ => true
    | _ => false
  | none => false
def Am4 (E : Env) (t : TypeId) : Bool := (E.P.info? t).map (·.comparable) == some true
def Rb : Operand → Bool
  | .const .nilIface => true
  | _ => false
def goB (b : Bool) (x y : Option AV) : Option AV := match b with
  | true => x
  | false => y
def Ry (E : Env) (t : TypeId) : Bool := match E.tab t with
  | some d => match d.desc with
    | .string => true
    | _ => false
  | none => false
def L3 (E : Env) (op : BinOp) (t : TypeId) (x : AV) : Option AV :=
  match Nl E t, x with
  | true, .val .nilIface => eqB op true
  | true, .iface _ _ => eqB op false
  | _, _ => none
def Bq (E : Env) (op : BinOp) (t : TypeId) (x y : AV) : Option AV :=
  match x, y with
  | .int k a, .int k' b => match op with
    | .shl | .shr => Jb op k a b
    | _ => if k = k' then Ady op k a b else none
  | .str a, .str b => Ae7 op a b
  | .bool a, .bool b => match E.tab t with
    | some d => match d.desc, op with
      | .bool, .eql => some (.bool (a == b))
      | .bool, .neq => some (.bool (!(a == b)))
      | _, _ => none
    | none => none
  | .agg xs, .agg ys => R8 E op t xs ys
  | .iface tx (.int k a), .iface ty (.int k' b) => if tx = ty ∧ k = k' ∧ Nl E t = true ∧ Ae6 E tx = true ∧ Am4 E tx = true then eqB op (a == b) else none
  | _, _ => none
def Wl (op : UnOp) (x : AV) : Option AV :=
  match op, x with
  | .neg, .int k n => some (.int k (k.wrap (0 - n)))
  | .xor, .int k n => some (S6 k (· ^^^ ·) (if k.signed then -1 else k.max) n)
  | .not, .bool b => some (.bool !b)
  | _, _ => none
def Bb (E : Env) (σ : Ab) (src dst : TypeId) (x : AV) : Option (AV × Ab) :=
  match E.tab src, E.tab dst with
  | some s, some d => match s.desc, d.desc, x with
    | _, .int k, .int _ n => some (.int k (k.wrap n), σ)
    | _, .string, .str l => some (.str l, σ)
    | _, .slice e, .str l => match E.tab e with
      | some de => match de.desc with
        | .int .u8 => some (.bs false σ.length l.length 0 l.length, σ ++ [.buf 1 (l.map fun b => [.int .u8 b.toNat]) false])
        | _ => none
      | none => none
    | .slice e, .string, _ => if H4 x 0 then none else match E.tab e with
      | some de => match de.desc, G6 σ x with
        | .int .u8, some els => match bytesOf els with
          | some l => some (.str l, σ)
          | none => none
        | _, _ => none
      | none => none
    | .slice _, .slice e, .bs full id tot off len => if src = dst ∧ 0 < len then match E.tab e with
      | some de => match de.desc, σ[id]? with
        | .int .u8, some (.buf k els _) => if els.length = tot ∧ k = 1 then some (.bs full id tot off len, σ) else none
        | _, _ => none
      | none => none
      else none
    | _, _, _ => none
  | _, _ => none
def AeV (E : Env) (σ : Ab) (t : TypeId) (x : AV) : Option Nat :=
  match E.tab t with
  | none => none
  | some d => match d.desc, x with
    | .string, .str s => some s.length
    | .array n _, _ => some n
    | .slice _, .sl _ els => some els.length
    | .slice _, .bs _ id tot off len => match σ[id]? with
      | some (.buf _ els _) => if els.length = tot then some len else none
      | _ => none
    | _, _ => none
def Gd : List (List AV) → Option (List UInt8)
  | [] => some []
  | [.int .u8 n] :: r => if n = ((UInt8.ofNat n.toNat).toNat : Int) then (Gd r).map (UInt8.ofNat n.toNat :: ·) else none
  | _ :: _ => none
def M9 : Nat := 140737488355328
def Qo (E : Env) (σ : Ab) (t : TypeId) (s x : AV) : Option (AV × Ab) :=
  match E.tab t with
  | none => none
  | some d => match d.desc with
    | .slice e => match E.tab e, G6 σ x with
      | some de, some new =>
        if H4 x de.size then none
        else if ∀ cs ∈ new, cs.length = de.size then (match s with
          | .sl full els =>
            if els = [] ∧ full = true then
              if 0 < de.size ∧ new.length ≤ maxLen ∧ new.length * de.bytes ≤ M9
                then some (.bs false σ.length new.length 0 new.length, σ ++ [.buf de.size new false]) else none
            else if new = [] then some (.sl full els, σ)
            else if full = true ∧ (∀ cs ∈ els, cs.length = de.size) ∧ 0 < de.size ∧ els.length + new.length ≤ maxLen ∧ (els.length + new.length) * de.bytes ≤ M9
            then some (.bs false σ.length (els.length + new.length) 0 (els.length + new.length), σ ++ [.buf de.size (els ++ new) false]) else none
          | .bs full id tot off len => match σ[id]? with
            | some (.buf k els ro) =>
              if els.length = tot ∧ k = de.size ∧ 0 < k ∧ len + new.length ≤ maxLen ∧ (len + new.length) * de.bytes ≤ M9 then
                if off = 0 ∧ len = tot then some (.bs false id (tot + new.length) 0 (tot + new.length), σ.set id (.buf k (els ++ new) ro))
                else if new = [] then some (.bs full id tot off len, σ)
                else if full then some (.bs false σ.length (len + new.length) 0 (len + new.length), σ ++ [.buf k ((els.drop off).take len ++ new) false])
                else none
              else none
            | some (.tb T l) => match Gd new with
              | some nl => if off = 0 ∧ len = tot ∧ de.size = 1 ∧ len + new.length ≤ maxLen ∧ (len + new.length) * de.bytes ≤ M9 ∧ e = T ∧ l.length = tot then some (.bs false id (tot + new.length) 0 (tot + new.length), σ.set id (.tb T (l ++ nl))) else none
              | none => none
            | _ => none
          | _ => none)
        else none
      | _, _ => none
    | _ => none
def J7 (els new : List (List AV)) (off : Nat) : List (List AV) := els.take off ++ new ++ els.drop (off + new.length)
def AdY (E : Env) (σ : Ab) (t : TypeId) (dst src : AV) : Option (AV × Ab) :=
  match E.tab t with
  | none => none
  | some d => match d.desc with
    | .slice e => match E.tab e, G6 σ src, dst with
      | some de, some new, .bs full id tot off len => match σ[id]? with
        | some (.buf k els false) => if H4 src de.size = false ∧ els.length = tot ∧ k = de.size ∧ 0 < k ∧ (∀ cs ∈ new, cs.length = de.size)
          then some (.int .i64 (min new.length len : Nat), σ.set id (.buf k (J7 els (new.take (min new.length len)) off) false)) else none
        | _ => none
      | _, _, _ => none
    | _ => none
def Gg (E : Env) (σ : Ab) (t : TypeId) (len cap : AV) : Option (AV × Ab) :=
  match E.tab t, len, cap with
  | some d, .int _ l, .int _ c => match d.desc with
    | .slice e => match E.tab e with
      | some de => if 0 ≤ l ∧ l ≤ c ∧ c ≤ maxLen ∧ c.toNat * de.bytes ≤ M9 ∧ 0 < de.size
        then some (.bs (l == c) σ.length l.toNat 0 l.toNat, σ ++ [.buf de.size (List.replicate l.toNat (de.zero.map dn)) false]) else none
      | none => none
    | _ => none
  | _, _, _ => none
def Lp (f : Int → Int → Int) (k : IntKind) : Int → List AV → Option Int
  | a, [] => some a
  | a, .int k' b :: r => if k' = k then Lp f k (f a b) r else none
  | _, _ => none
def Cs (E : Env) (σ : Ab) (b : Builtin) (ts : List TypeId) (args : List AV) : Option (AV × Ab) :=
  match b, ts, args with
  | .len, t :: _, [x] => (AeV E σ t x).map fun (n : Nat) => (AV.int .i64 (n : Int), σ)
  | .append, t :: u :: _, [s, x] => match E.tab u with
    | some du => match du.desc with
      | .int _ => none
      | _ => Qo E σ t s x
    | none => none
  | .copy, t :: _, [d, s] => AdY E σ t d s
  | .min, _, .int k a :: r => (Lp (fun a b => if b < a then b else a) k a r).map fun n => (.int k n, σ)
  | .max, _, .int k a :: r => (Lp (fun a b => if b > a then b else a) k a r).map fun n => (.int k n, σ)
  | _, _, _ => none
def Uj (E : Env) (t : TypeId) (x k : AV) (ok : Bool) : Option AV :=
  match E.maps t with
  | some m => match x with
    | .val (.map (some r)) => if r = m.r ∧ Aj5 m.kd k = true then some (if ok then .tup [(m.ans k).getD m.zv, .bool (m.ans k).isSome] else (m.ans k).getD m.zv) else none
    | _ => none
  | none => none
def Wm (E : Env) (t : TypeId) : Option TypeDesc := match E.tab t with
  | some d => match d.desc with
    | .map kt _ => match E.tab kt with
      | some dk => some dk.desc
      | none => none
    | _ => none
  | none => none
def Jt (kd : TypeDesc) (k : Value) (es : Array MapEntry) : Bool := match Instr.findNow kd k es.toList 0 with
  | some none => true
  | _ => false
def Vw (E : Env) (σ : Ab) (t : TypeId) (m k x : AV) : Option Ab :=
  match E.lm, Wm E t, m with
  | true, some kd, .mref id => match σ[id]? with
    | some (.obj (.map es cl)) => if Aj5 kd k = true ∧ Gq x = true ∧ Jt kd (avV k) es = true then some (σ.set id (.obj (.map (es.push { key := avV k, val := avV x, born := cl }) (cl + 1)))) else none
    | _ => none
  | _, _, _ => none
def Ir (kd : TypeDesc) (b : Bool) (es : Array MapEntry) : Option (List UInt8) := match Instr.findNow kd (.bool b) es.toList 0 with
  | some (some (_, .string s)) => some s.data.toList
  | _ => none
def Gc (E : Env) (σ : Ab) (t : TypeId) (x k : AV) (ok : Bool) : Option AV :=
  match x with
  | .mref id => match ok, k, Wm E t, σ[id]? with
    | false, .bool b, some .bool, some (.obj (.map es _)) => match Ir .bool true es, Ir .bool false es with
      | some s1, some s0 => some (.str (if b = true then s1 else s0))
      | _, _ => none
    | _, _, _, _ => none
  | x => Uj E t x k ok
def Gt (id : Nat) : AV → AV
  | .val (.pointer none) => .nref id
  | x => x
def Fx (E : Env) (fr : List AV) (σ : Ab) (op : Op) : Option (AV × Ab) :=
  let ρ := ev fr
  match op with
  | .move x | .assign x => some (ρ x, σ)
  | .pick c a b => match ρ c with
    | .bool t => some (if t then ρ a else ρ b, σ)
    | _ => none
  | .alloc t => match E.tab t with
    | some d => if d.size = 0 then none else if E.bty = some t then some (.tref σ.length t, σ ++ [.box (d.zero.map (Gt σ.length)) false]) else some (.ref σ.length 0, σ ++ [.box d.zero false])
    | none => none
  | .box t x => match (ρ x).cells? with
    | some xs => if xs = [] then none else some (.ref σ.length 0, σ ++ [.box xs false])
    | none => none
  | .build t parts => (Yq E t (parts.toList.map fun (i, x) => (i, ρ x))).map fun x => (x, σ)
  | .buildSlice t len parts => D4 E σ t len (parts.toList.map fun (i, x) => (i, ρ x))
  | .load t a => match E.tab t with
    | some d => (loadA E σ d (ρ a)).map fun x => (x, σ)
    | none => none
  | .store t a x => match E.tab t with
    | some d => (storeA σ d (ρ a) (ρ x)).map fun σ' => (.junk, σ')
    | none => none
  | .nilCheck x => match ρ x with
    | .ref id off => some (.ref id off, σ)
    | .tref id t => some (.tref id t, σ)
    | .rp cs => some (.rp cs, σ)
    | .glob g => some (.glob g, σ)
    | .fn f cs => some (.fn f cs, σ)
    | _ => none
  | .binOp op t x y _ => (goB (Rb y) (L3 E op t (ρ x)) (Bq E op t (ρ x) (ρ y))).map fun v => (v, σ)
  | .unOp op _ x => (Wl op (ρ x)).map fun v => (v, σ)
  | .convert s d x => Bb E σ s d (ρ x)
  | .slice t x lo hi mx => H6 E σ t (ρ x) (lo.map ρ) (hi.map ρ) (mx.map ρ)
  | .fieldAddr s x f => (C2 E σ s (ρ x) f).map fun v => (v, σ)
  | .field s x f => (Xy E s (ρ x) f).map fun v => (v, σ)
  | .indexAddr t x i => (As E σ t (ρ x) (ρ i)).map fun v => (v, σ)
  | .index t x i => (L6 E t (ρ x) (ρ i)).map fun v => (v, σ)
  | .makeSlice t l c => Gg E σ t (ρ l) (ρ c)
  | .makeFunc fn first caps => match fn with
    | .func f => if first.toList = [] then (match caps.toList.map ρ with
      | [.tup _] => none
      | cs => some (.fn f cs, σ)) else if caps.toList = [] then some (.fn f [.tup (first.toList.map ρ)], σ) else none
    | _ => none
  | .makeInterface t x => match E.tab t with
    | some d => match d.desc with
      | .interface _ => none
      | _ => some (.iface t (ρ x), σ)
    | none => none
  | .lookup t x k ok => (Gc E σ t (ρ x) (ρ k) ok).map fun v => (v, σ)
  | .makeMap t none => some (.mref σ.length, σ ++ [.obj (.map #[] 0)])
  | .insert t m k x => (Vw E σ t (ρ m) (ρ k) (ρ x)).map fun σ' => (.junk, σ')
  | .range t x => match Ry E t, ρ x with
    | true, .str s => some (.ref σ.length 0, σ ++ [.obj (.stringIter ⟨s.toArray⟩ 0)])
    | _, _ => none
  | .next it true => match ρ it with
    | .ref id 0 => match σ[id]? with
      | some (.obj (.stringIter s pos)) => if pos < s.size then some (.tup [.bool true, .int .i64 (pos : Int), .int .i32 (Utf8.decode s pos).1], σ.set id (.obj (.stringIter s (pos + (Utf8.decode s pos).2)))) else some (.tup [.bool false], σ)
      | _ => none
    | _ => none
  | .extract x i => match ρ x with
    | .tup vs => match vs[i]? with
      | some v => some (v, σ)
      | none => none
    | _ => none
  | .call c => match c.callee with
    | .builtin b => Cs E σ b c.argTypes.toList (c.args.toList.map ρ)
    | _ => none
  | _ => none
end Go.Rv
