/-
  Part 2.
-/
import Derived.Test.YtldngkmkhfddpaaGreatDoorYX1
namespace Go.Rv
set_option linter.unusedSimpArgs false
set_option linter.unusedVariables false
def Ny:Value->AV
 |.bool b=>.bool b
 |.int k n=>.int k n
 |.string s=>.str s.data.toList
 |.slice none 0 0=>.sl true []
 |.agg _|.tuple _=>.junk
 |v=>.val v
def PB:Value->AV
 |.agg cs=>if cs.all one then .agg (cs.toList.map Ny)else .junk
 |v=>Ny v
def ev(fr:List AV):Operand->AV
 |.tmp t=>fr.getD t .junk
 |.const v=>PB v
 |.global g=>.glob g
 |.func f=>.fn f []
def AV.cells?:AV->Option (List AV)
 |.junk|.tup _=>none
 |.agg cs=>some cs
 |x=>some [x]
def AV.closed:AV->Bool
 |.bs ..|.ref ..|.tref ..|.mref ..|.yld ..|.nref ..|.eref ..=>false
 |.agg cs=>cs.attach.all fun⟨x,_⟩=>x.closed
 |.tup cs=>cs.attach.all fun⟨x,_⟩=>x.closed
 |.fn _ cs=>cs.attach.all fun⟨x,_⟩=>x.closed
 |.iface _ x=>x.closed
 |_=>true
def TD.isAgg(d:TD):Bool:=match d.desc with|.struct _|.array ..=>true|_=>false
def partA(d:TD)(cs:List AV)(off:Nat):Option AV :=
 if d.isAgg then(if off+d.size<=cs.length then some (.agg ((cs.drop off).take d.size))else none)else cs[off]?
def loadA(E:Env)(O:Ac)(d:TD):AV->Option AV
 |.ref id off=>match O[id]? with
  |some (.box cs _)=>partA d cs off
  |_=>none
 |.eref id tot i j=>match O[id]? with
  |some (.buf k els _)=>if els.length=tot then(match els[i]? with|some cs=>partA d cs j|none=>none)else none
  |_=>none
 |.rp cs=>partA d cs 0
 |.glob g=>match E.G g with
  |some cs=>partA d cs 0
  |none=>none
 |_=>none
def splice(cs:List AV)(off:Nat):List AV->List AV
 |[]=>cs
 |x::xs=>splice (cs.set off x) (off+1) xs
def storeA(O:Ac)(d:TD)(addr x:AV):Option Ac :=
 match x.cells? with
 |none=>none
 | some xs=>if xs.length≠d.size then none else match addr with
  |.ref id off=>match O[id]? with
   |some (.box cs false)=>if off+xs.length<=cs.length then some (O.set id (.box (splice cs off xs) false))else none
   |_=>none
  | .eref id tot i j=>match O[id]? with
   |some (.buf k els false)=>if els.length=tot then(match els[i]? with
    |some cs=>if j+xs.length<=cs.length then some (O.set id (.buf k (els.set i (splice cs j xs)) false))else none
    |none=>none)else none
   |_=>none
  |_=>none
def GT(O:Ac):AV->Option (List (List AV))
 |.sl _ els=>some els
 |.bs _ id tot off len=>match O[id]? with
  |some (.buf _ els _)=>if els.length=tot then some ((els.drop off).take len)else none
  |_=>none
 |.str s=>some (s.map fun b=>[.int .u8 b.toNat])
 |_=>none
def GY(x:AV)(k:Nat):Bool:=match x with|.str _=>k != 1|_=>false
def bytesOf:List (List AV)->Option (List UInt8)
 |[]=>some []
 |[.int .u8 n]::r=>(bytesOf r).map (UInt8.ofNat n.toNat::·)
 |_::_=>none
def Ah2(x:AV)(hi:Nat):Option Nat :=
 match x with
 |.int _ i=>if 0<=i/\i.toNat<=hi then some i.toNat else none
 |_=>none
def Aib(x:Option AV)(dflt hi:Nat):Option Nat :=
 match x with
 |some v=>Ah2 v hi
 |none=>some dflt
def JJ(len:Nat)(full:Bool)(lo hi mx:Option AV):Option (Nat×Nat×Bool) :=
 match mx with
 | none=>match Aib hi len len with
  |none=>none
  |some h=>match Aib lo 0 h with
   |none=>none
   |some l=>some (l,h,full&&h==len)
 | some m=>match Ah2 m len,hi with
  | some m,some hv=>match Ah2 hv m with
   |none=>none
   |some h=>match Aib lo 0 h with
    |none=>none
    |some l=>some (l,h,h==m)
  |_,_=>none
def Gp(E:Env)(O:Ac)(t:TypeId)(x:AV)(lo hi mx:Option AV):Option (AV×Ac) :=
 match E.tab t with
 |none=>none
 | some d=>match d.desc,x with
  |.string,.str s=>match JJ s.length true lo hi mx with
   |some (l,h,_)=>if mx.isSome then none else some (.str ((s.drop l).take (h-l)),O)
   |none=>none
  |.slice e,.sl full els=>match E.tab e,JJ els.length full lo hi mx with
   |some de,some (l,h,f)=>if l=0\/∀cs∈els,cs.length=de.size then some (.sl f ((els.drop l).take (h-l)),O)else none
   |_,_=>none
  | .slice e,.bs full id tot off len=>match O[id]?,E.tab e with
   | some (.buf k els _),some de=>if els.length=tot/\k=de.size then match JJ len full lo hi mx with
     |some (l,h,f)=>some (.bs f id tot (off+l) (h-l),O)
     |none=>none
    else none
   |_,_=>none
  | .array n e,.ref id off=>match O[id]?,E.tab e with
   | some (.box cs _),some de=>if de.size=1/\off+n<=cs.length/\(cs.all AV.closed)=true then match JJ n true lo hi mx with
     |some (l,h,_)=>some (.sl false ((((cs.drop off).take n).map fun c=>[c]).drop l |>.take (h-l)),O.set id (.box cs true))
     |none=>none
    else none
   |_,_=>none
  | .array n e,.glob i=>match E.G i,E.tab e with
   | some cs,some de=>if de.size=1/\n<=cs.length then match JJ n true lo hi mx with
     |some (l,h,_)=>some (.sl false (((cs.take n).map fun c=>[c]).drop l |>.take (h-l)),O)
     |none=>none
    else none
   |_,_=>none
  |_,_=>none
def X1(O:Ac)(id tot:Nat):Bool :=
 match O[id]? with
 |some (.buf _ els _)=>els.length==tot
 |_=>false
def AP(E:Env)(O:Ac)(s:TypeId)(x:AV)(f:Nat):Option AV :=
 match E.tab s with
 | some d=>match d.desc with
  | .struct fields=>match fields[f]? with
   | some fl=>match E.tab fl.type with
    | some df=>if df.size=0 then none else match x with
     |.ref id off=>some (.ref id (off+fl.offset))
     |.tref id _=>some (.ref id fl.offset)
     |.eref id tot i j=>if X1 O id tot then some (.eref id tot i (j+fl.offset))else none
     |.rp cs=>some (.rp (cs.drop fl.offset))
     |.glob g=>match E.G g with
      |some cs=>some (.rp (cs.drop fl.offset))
      |none=>none
     |_=>none
    |none=>none
   |none=>none
  |_=>none
 |none=>none
def T7(E:Env)(s:TypeId)(x:AV)(f:Nat):Option AV :=
 match E.tab s,x with
 | some d,.agg cs=>match d.desc with
  | .struct fields=>match fields[f]? with
   |some fl=>match E.tab fl.type with
    |some df=>partA df cs fl.offset
    |none=>none
   |none=>none
  |_=>none
 |_,_=>none
def idx(x:AV)(len:Nat):Option Nat :=
 match x with
 |.int _ i=>if 0<=i/\i.toNat<len then some i.toNat else none
 |_=>none
def Ao(E:Env)(O:Ac)(t:TypeId)(x ix:AV):Option AV :=
 match E.tab t with
 |none=>none
 | some d=>match d.desc with
  | .array n e=>match E.tab e,idx ix n with
   | some de,some i=>match x with
    |.ref id off=>some (.ref id (off+i*de.size))
    |.eref id tot i0 j=>if X1 O id tot then some (.eref id tot i0 (j+i*de.size))else none
    |.rp cs=>some (.rp (cs.drop (i*de.size)))
    |.glob g=>match E.G g with
     |some cs=>some (.rp (cs.drop (i*de.size)))
     |none=>none
    |_=>none
   |_,_=>none
  | .slice e=>match E.tab e,x with
   | some de,.sl _ els=>match idx ix els.length with
    |some i=>match els[i]? with
     |some cs=>if cs.length=de.size then some (.rp cs)else none
     |none=>none
    |none=>none
   |some de,.bs _ id tot off len=>match O[id]?,idx ix len with
    |some (.buf k els _),some i=>if els.length=tot/\k=de.size/\0<k then some (.eref id tot (off+i) 0)else none
    |_,_=>none
   |_,_=>none
  |_=>none
def XW(d:TD):AV:=if 2<=d.size then .agg d.zero else .junk
def Ng(E:Env)(x:AV)(t:TypeId)(ok:Bool):Option AV :=
 match E.tab t with
 | some d=>match d.desc with
  |.interface _=>none
  |_=>match ok,x with
   |true,.iface tx p=>if tx=t then some (.tup [p,.bool true])else some (.tup [XW d,.bool false])
   |true,.val .nilIface=>some (.tup [XW d,.bool false])
   |_,_=>none
 |none=>none
def RZ(E:Env)(t:TypeId)(x:AV):Option AV :=
 match E.tab t,x with
 |some d,.sl _ els=>match d.desc with
  |.array n _=>if 0<n/\n<=els.length/\els.all (fun cs=>cs.length==1)=true then some (.rp (els.take n).flatten)else none
  |_=>none
 |_,_=>none
def JC(E:Env)(t:TypeId)(x ix:AV):Option AV :=
 match E.tab t with
 |none=>none
 | some d=>match d.desc,x with
  |.array n e,.agg cs=>match E.tab e,idx ix n with
   |some de,some i=>partA de cs (i*de.size)
   |_,_=>none
  | .string,.str s=>match idx ix s.length with
   |some i=>match s[i]? with
    |some b=>some (.int .u8 b.toNat)
    |none=>none
   |none=>none
  |_,_=>none
def UL(place:Nat->Option (Nat×Nat))(cells:List AV):List (Nat×AV)->Option (List AV)
 |[]=>some cells
 |(i,x)::rest=>match place i,x.cells? with
  |some (off,size),some xs=>if xs.length≠size\/off+xs.length>cells.length then none else UL place (splice cells off xs) rest
  |_,_=>none
def SQ(E:Env)(t:TypeId)(parts:List (Nat×AV)):Option AV :=
 match E.tab t with
 |none=>none
 | some d=>match d.desc with
  | .struct fields=>if fields.toList.all (fun f=>(E.tab f.type).isSome)then(UL (fun i=>match fields[i]? with
    |some f=>match E.tab f.type with
     |some df=>some (f.offset,df.size)
     |none=>none
    |none=>none) d.zero parts).map .agg else none
  |.array _ e=>match E.tab e with
   |some de=>(UL (fun i=>some (i*de.size,de.size)) d.zero parts).map .agg
   |none=>none
  |_=>none
def Nj(size:Nat)(els:List (List AV)):List (Nat×AV)->Option (List (List AV))
 |[]=>some els
 |(i,x)::rest=>match x.cells? with
  |some xs=>if xs.length=size/\i<els.length then Nj size (els.set i xs) rest else none
  |none=>none
def dn:AV->AV
 |.sl _ els=>.sl false els
 |x=>x
def C3(E:Env)(O:Ac)(t:TypeId)(len:Nat)(parts:List (Nat×AV)):Option (AV×Ac) :=
 match E.tab t with
 |none=>none
 | some d=>match d.desc with
  | .slice e=>match E.tab e with
   |some de=>if len*de.size>2^24\/de.size=0 then none else match Nj de.size (List.replicate len de.zero) parts with
    |some els=>some (.bs true O.length len 0 len,O++[.buf de.size (els.map fun cs=>cs.map dn) false])
    |none=>none
   |none=>none
  |_=>none
def S8(k:IntKind)(f:BitVec k.bits->BitVec k.bits->BitVec k.bits)(a b:Int):AV :=
 .int k (k.wrap (f (BitVec.ofInt k.bits a) (BitVec.ofInt k.bits b)).toNat)
def Aa3(op:BinOp)(k:IntKind)(a b:Int):Option AV :=
 match op with
 |.add=>some (.int k (k.wrap (a+b)))
 |.sub=>some (.int k (k.wrap (a-b)))
 |.mul=>some (.int k (k.wrap (a*b)))
 |.quo=>if b=0 then none else some (.int k (k.wrap (a.tdiv b)))
 |.rem=>if b=0 then none else some (.int k (a.tmod b))
 |.and=>some (S8 k (· &&& ·) a b)
 |.or=>some (S8 k (· ||| ·) a b)
 |.xor=>some (S8 k (· ^^^ ·) a b)
 |.andNot=>some (S8 k (fun x y=>x &&& ~~~y) a b)
 |.eql=>some (.bool (a==b))
 |.neq=>some (.bool (a != b))
 |.lss=>some (.bool (a<b))
 |.leq=>some (.bool (a<=b))
 |.gtr=>some (.bool (a>b))
 |.geq=>some (.bool (a≥b))
 |_=>none
def OD(op:BinOp)(k:IntKind)(a y:Int):Option AV :=
 if y<0 then none else
 match op with
 |.shl=>some (.int k (k.wrap (a*2^(min y.toNat k.bits))))
 |.shr=>some (.int k (a.fdiv (2^(min y.toNat k.bits))))
 |_=>none
def Abv(op:BinOp)(a b:List UInt8):Option AV :=
 match op with
 |.add=>if a.length+b.length<=9223372036854775807 then some (.str (a++b))else none
 |.eql=>some (.bool (a==b))
 |.neq=>some (.bool (!(a==b)))
 |.lss=>some (.bool (Op.bytesLess a b))
 |.leq=>some (.bool (Op.bytesLess a b||a==b))
 |.gtr=>some (.bool (!(Op.bytesLess a b||a==b)))
 |.geq=>some (.bool (!Op.bytesLess a b))
 |_=>none
def N4(k:IntKind):List AV->Option (List Int)
 |[]=>some []
 |.int k' n::l=>if k'=k then(N4 k l).map (n::·)else none
 |_=>none
def Nh(d:TypeDesc)(x y:AV):Option Bool :=
 match x,y with
 |.int k a,.int k' b=>match d with
  |.int k2=>if k=k2/\k'=k2 then some (a==b)else none
  |_=>none
 |.str a,.str b=>match d with
  |.string=>some (a==b)
  |_=>none
 |.bool a,.bool b=>match d with
  |.bool=>some (a==b)
  |_=>none
 |_,_=>none
def Eo(E:Env)(xs ys:List AV):List Field->Option Bool
 |[]=>some true
 | f::fs=>if f.name = "_" then none else match E.tab f.type with
  | some d=>match xs[f.offset]?,ys[f.offset]? with
   |some x,some y=>match Nh d.desc x y,Eo E xs ys fs with
    |some b,some c=>some (b&&c)
    |_,_=>none
   |_,_=>none
  |none=>none
def LX(E:Env)(op:BinOp)(t:TypeId)(xs ys:List AV):Option AV :=
 match E.tab t with
 | some d=>match d.desc with
  | .array n e=>match E.tab e with
   | some de=>match de.desc with
    | .int k=>if de.size=1/\xs.length=n/\ys.length=n then match N4 k xs,N4 k ys with
     |some a,some b=>match op with
      |.eql=>some (.bool (a==b))
      |.neq=>some (.bool (!(a==b)))
      |_=>none
     |_,_=>none
     else none
    |_=>none
   |none=>none
  | .struct fs=>if E.P.stoodInHeld t=false/\E.P.eqGuardType E.P.depth t=false then match Eo E xs ys fs.toList with
    |some b=>match op with
     |.eql=>some (.bool b)
     |.neq=>some (.bool (!b))
     |_=>none
    |none=>none
   else none
  |_=>none
 |none=>none
def eqB(op:BinOp)(b:Bool):Option AV :=
 match op with
 |.eql=>some (.bool b)
 |.neq=>some (.bool !b)
 |_=>none
def Abx(E:Env)(t:TypeId):Bool:=match E.tab t with
 |some d=>match d.desc with
  |.interface _=>true
  |_=>false
 |none=>false
def AbT(E:Env)(t:TypeId):Bool:=match E.tab t with
 |some d=>match d.desc with
  |.int _=>true
  |_=>false
 |none=>false
def Alh(E:Env)(t:TypeId):Bool:=(E.P.info? t).map (·.comparable)==some true
def PF:Operand->Bool
 |.const .nilIface=>true
 |_=>false
def goB(b:Bool)(x y:Option AV):Option AV:=match b with
 |true=>x
 |false=>y
def Xy(E:Env)(t:TypeId):Bool:=match E.tab t with
 |some d=>match d.desc with
  |.string=>true
  |_=>false
 |none=>false
def Xk(E:Env)(op:BinOp)(t:TypeId)(x:AV):Option AV :=
 match Abx E t,x with
 |true,.val .nilIface=>eqB op true
 |true,.iface _ _=>eqB op false
 |_,_=>none
def B8(E:Env)(op:BinOp)(t:TypeId)(x y:AV):Option AV :=
 match x,y with
 |.int k a,.int k' b=>match op with
  |.shl|.shr=>OD op k a b
  |_=>if k=k' then Aa3 op k a b else none
 |.str a,.str b=>Abv op a b
 | .bool a,.bool b=>match E.tab t with
  |some d=>match d.desc,op with
   |.bool,.eql=>some (.bool (a==b))
   |.bool,.neq=>some (.bool (!(a==b)))
   |_,_=>none
  |none=>none
 |.agg xs,.agg ys=>LX E op t xs ys
 |.iface tx (.int k a),.iface ty (.int k' b)=>if tx=ty/\k=k'/\Abx E t=true/\AbT E tx=true/\Alh E tx=true then eqB op (a==b)else none
 |_,_=>none
def V5(op:UnOp)(x:AV):Option AV :=
 match op,x with
 |.neg,.int k n=>some (.int k (k.wrap (0-n)))
 |.xor,.int k n=>some (S8 k (· ^^^ ·) (if k.signed then -1 else k.max) n)
 |.not,.bool b=>some (.bool !b)
 |_,_=>none
def C7(E:Env)(O:Ac)(src dst:TypeId)(x:AV):Option (AV×Ac) :=
 match E.tab src,E.tab dst with
 | some s,some d=>match s.desc,d.desc,x with
  |_,.int k,.int _ n=>some (.int k (k.wrap n),O)
  |_,.string,.str l=>some (.str l,O)
  | _,.slice e,.str l=>match E.tab e with
   |some de=>match de.desc with
    |.int .u8=>some (.bs false O.length l.length 0 l.length,O++[.buf 1 (l.map fun b=>[.int .u8 b.toNat]) false])
    |_=>none
   |none=>none
  | .slice e,.string,_=>if GY x 0 then none else match E.tab e with
   | some de=>match de.desc,GT O x with
    |.int .u8,some els=>match bytesOf els with
     |some l=>some (.str l,O)
     |none=>none
    |_,_=>none
   |none=>none
  | .slice _,.slice e,.bs full id tot off len=>if src=dst/\0<len then match E.tab e with
   |some de=>match de.desc,O[id]? with
    |.int .u8,some (.buf k els _)=>if els.length=tot/\k=1 then some (.bs full id tot off len,O)else none
    |_,_=>none
   |none=>none
   else none
  |_,_,_=>none
 |_,_=>none
def Xz(E:Env)(O:Ac)(t:TypeId)(x:AV):Option Nat :=
 match E.tab t with
 |none=>none
 | some d=>match d.desc,x with
  |.string,.str s=>some s.length
  |.array n _,_=>some n
  |.slice _,.sl _ els=>some els.length
  |.slice _,.bs _ id tot off len=>match O[id]? with
   |some (.buf _ els _)=>if els.length=tot then some len else none
   |_=>none
  |_,_=>none
def J7:List (List AV)->Option (List UInt8)
 |[]=>some []
 |[.int .u8 n]::r=>if n=((UInt8.ofNat n.toNat).toNat:Int)then(J7 r).map (UInt8.ofNat n.toNat::·)else none
 |_::_=>none
def Hv:Nat:=140737488355328
def LB(E:Env)(O:Ac)(t:TypeId)(s x:AV):Option (AV×Ac) :=
 match E.tab t with
 |none=>none
 | some d=>match d.desc with
  | .slice e=>match E.tab e,GT O x with
   | some de,some new=>
    if GY x de.size then none
    else if ∀cs∈new,cs.length=de.size then(match s with
     | .sl full els=>
      if els=[]/\full=true then
       if 0<de.size/\new.length<=maxLen/\new.length*de.bytes<=Hv
        then some (.bs false O.length new.length 0 new.length,O++[.buf de.size new false])else none
      else if new=[]then some (.sl full els,O)
      else if full=true/\(∀cs∈els,cs.length=de.size)/\0<de.size/\els.length+new.length<=maxLen/\(els.length+new.length)*de.bytes<=Hv
      then some (.bs false O.length (els.length+new.length) 0 (els.length+new.length),O++[.buf de.size (els++new) false])else none
     | .bs full id tot off len=>match O[id]? with
      | some (.buf k els ro)=>
       if els.length=tot/\k=de.size/\0<k/\len+new.length<=maxLen/\(len+new.length)*de.bytes<=Hv then
        if off=0/\len=tot then some (.bs false id (tot+new.length) 0 (tot+new.length),O.set id (.buf k (els++new) ro))
        else if new=[]then some (.bs full id tot off len,O)
        else if full then some (.bs false O.length (len+new.length) 0 (len+new.length),O++[.buf k ((els.drop off).take len++new) false])
        else none
       else none
      |some (.tb T l)=>match J7 new with
       |some nl=>if off=0/\len=tot/\de.size=1/\len+new.length<=maxLen/\(len+new.length)*de.bytes<=Hv/\e=T/\l.length=tot then some (.bs false id (tot+new.length) 0 (tot+new.length),O.set id (.tb T (l++nl)))else none
       |none=>none
      |_=>none
     |_=>none)
    else none
   |_,_=>none
  |_=>none
def HG(els new:List (List AV))(off:Nat):List (List AV):=els.take off++new++els.drop (off+new.length)
def AbP(E:Env)(O:Ac)(t:TypeId)(dst src:AV):Option (AV×Ac) :=
 match E.tab t with
 |none=>none
 | some d=>match d.desc with
  | .slice e=>match E.tab e,GT O src,dst with
   | some de,some new,.bs full id tot off len=>match O[id]? with
    |some (.buf k els false)=>if GY src de.size=false/\els.length=tot/\k=de.size/\0<k/\(∀cs∈new,cs.length=de.size)
     then some (.int .i64 (min new.length len:Nat),O.set id (.buf k (HG els (new.take (min new.length len)) off) false))else none
    |_=>none
   |_,_,_=>none
  |_=>none
def E0(E:Env)(O:Ac)(t:TypeId)(len cap:AV):Option (AV×Ac) :=
 match E.tab t,len,cap with
 | some d,.int _ l,.int _ c=>match d.desc with
  | .slice e=>match E.tab e with
   |some de=>if 0<=l/\l<=c/\c<=maxLen/\c.toNat*de.bytes<=Hv/\0<de.size
    then some (.bs (l==c) O.length l.toNat 0 l.toNat,O++[.buf de.size (List.replicate l.toNat (de.zero.map dn)) false])else none
   |none=>none
  |_=>none
 |_,_,_=>none
def K8(f:Int->Int->Int)(k:IntKind):Int->List AV->Option Int
 |a,[]=>some a
 |a,.int k' b::r=>if k'=k then K8 f k (f a b) r else none
 |_,_=>none
def Ka(E:Env)(t:TypeId)(x k:AV)(ok:Bool):Option AV :=
 match E.maps t with
 |some m=>match x with
  |.val (.map (some r))=>if r=m.r/\AiY m.kd k=true then some (if ok then .tup [(m.ans k).getD m.zv,.bool (m.ans k).isSome]else(m.ans k).getD m.zv)else none
  |_=>none
 |none=>none
def H7(E:Env)(t:TypeId):Option TypeDesc:=match E.tab t with
 | some d=>match d.desc with
  |.map kt _=>match E.tab kt with
   |some dk=>some dk.desc
   |none=>none
  |_=>none
 |none=>none
def P0(E:Env)(t:TypeId):Bool:=match H7 E t with
 |some .string=>true
 |_=>false
def KG(f:Ky->Option AV)(k:Ky)(x:Option AV):Ky->Option AV:=fun k'=>if k'=k then x else f k'
def mp0(_:TypeId):Ky->Option AV:=fun _=>none
def ZB:TypeDesc->AV->Option Ky
 |.string,.str s=>some (.str s)
 |.int .i64,.int .i64 n=>some (.int n)
 |_,_=>none
def LQ(E:Env)(O:Ac)(t:TypeId)(m k x:AV):Option Ac :=
 match H7 E t,m with
 |some kd,.mref id=>match O[id]?,ZB kd k with
  |some (.mp st f),some kk=>if x.closed=true/\kyS kk=st then some (O.set id (.mp st (KG f kk (some x))))else none
  |_,_=>none
 |_,_=>none
def Ph(E:Env)(O:Ac)(t:TypeId)(m k:AV):Option Ac :=
 match H7 E t,m with
 |some kd,.mref id=>match O[id]?,ZB kd k with
  |some (.mp st f),some kk=>if kyS kk=st then some (O.set id (.mp st (KG f kk none)))else none
  |_,_=>none
 |_,_=>none
def JB(E:Env)(t:TypeId)(st:Bool)(f:Ky->Option AV)(k:AV)(ok:Bool):Option AV :=
 match H7 E t,E.mp t with
 |some kd,some z=>match ZB kd k with
  |some kk=>if kyS kk=st then some (if ok then .tup [(f kk).getD z,.bool (f kk).isSome]else(f kk).getD z)else none
  |none=>none
 |_,_=>none
def Xn(kd:TypeDesc)(k:Value)(es:Array MapEntry):Bool:=match Instr.findNow kd k es.toList 0 with
 |some none=>true
 |_=>false
def Ov(E:Env)(O:Ac)(t:TypeId)(m k x:AV):Option Ac :=
 if(E.mp t).isSome=true then LQ E O t m k x else match E.lm,H7 E t,m with
 |true,some kd,.mref id=>match O[id]? with
  |some (.obj (.map es cl))=>if AiY kd k=true/\FO x=true/\Xn kd (avV k) es=true then some (O.set id (.obj (.map (es.push { key:=avV k,val:=avV x,born:=cl }) (cl+1))))else none
  |_=>none
 |_,_,_=>none
def AU(E:Env)(O:Ac)(b:Builtin)(ts:List TypeId)(args:List AV):Option (AV×Ac) :=
 match b,ts,args with
 |.len,t::_,[x]=>(Xz E O t x).map fun(n:Nat)=>(AV.int .i64 (n:Int),O)
 | .append,t::u::_,[s,x]=>match E.tab u with
  |some du=>match du.desc with
   |.int _=>none
   |_=>LB E O t s x
  |none=>none
 |.copy,t::_,[d,s]=>AbP E O t d s
 |.delete,t::_,[m,k]=>(Ph E O t m k).map fun O'=>(.tup [],O')
 |.min,_,.int k a::r=>(K8 (fun a b=>if b<a then b else a) k a r).map fun n=>(.int k n,O)
 |.max,_,.int k a::r=>(K8 (fun a b=>if b>a then b else a) k a r).map fun n=>(.int k n,O)
 |_,_,_=>none
def M9(kd:TypeDesc)(b:Bool)(es:Array MapEntry):Option (List UInt8):=match Instr.findNow kd (.bool b) es.toList 0 with
 |some (some (_,.string s))=>some s.data.toList
 |_=>none
def Ga(E:Env)(O:Ac)(t:TypeId)(x k:AV)(ok:Bool):Option AV :=
 match x with
 | .mref id=>match O[id]? with
  |some (.mp st f)=>JB E t st f k ok
  | ab=>match ok,k,H7 E t,ab with
   |false,.bool b,some .bool,some (.obj (.map es _))=>match M9 .bool true es,M9 .bool false es with
    |some s1,some s0=>some (.str (if b then s1 else s0))
    |_,_=>none
   |_,_,_,_=>none
 |x=>Ka E t x k ok
def Hk(id:Nat):AV->AV
 |.val (.pointer none)=>.nref id
 |x=>x
def DX(E:Env)(fr:List AV)(O:Ac)(op:Op):Option (AV×Ac) :=
 let ρ:=ev fr
 match op with
 |.move x|.assign x=>some (ρ x,O)
 |.pick c a b=>match ρ c with
  |.bool t=>some (if t then ρ a else ρ b,O)
  |_=>none
 |.alloc t=>match E.tab t with
  |some d=>if d.size=0 then none else if E.bty=some t then some (.tref O.length t,O++[.box (d.zero.map (Hk O.length)) false])else some (.ref O.length 0,O++[.box d.zero false])
  |none=>none
 |.box t x=>match(ρ x).cells? with
  |some xs=>if xs=[]then none else some (.ref O.length 0,O++[.box xs false])
  |none=>none
 |.build t parts=>(SQ E t (parts.toList.map fun(i,x)=>(i,ρ x))).map fun x=>(x,O)
 |.buildSlice t len parts=>C3 E O t len (parts.toList.map fun(i,x)=>(i,ρ x))
 |.load t a=>match E.tab t with
  |some d=>(loadA E O d (ρ a)).map fun x=>(x,O)
  |none=>none
 |.store t a x=>match E.tab t with
  |some d=>(storeA O d (ρ a) (ρ x)).map fun O'=>(.junk,O')
  |none=>none
 |.nilCheck x=>match ρ x with
  |.ref id off=>some (.ref id off,O)
  |.tref id t=>some (.tref id t,O)
  |.rp cs=>some (.rp cs,O)
  |.glob g=>some (.glob g,O)
  |.fn f cs=>some (.fn f cs,O)
  |_=>none
 |.binOp op t x y _=>(goB (PF y) (Xk E op t (ρ x)) (B8 E op t (ρ x) (ρ y))).map fun v=>(v,O)
 |.unOp op _ x=>(V5 op (ρ x)).map fun v=>(v,O)
 |.convert s d x=>C7 E O s d (ρ x)
 |.slice t x lo hi mx=>Gp E O t (ρ x) (lo.map ρ) (hi.map ρ) (mx.map ρ)
 |.fieldAddr s x f=>(AP E O s (ρ x) f).map fun v=>(v,O)
 |.field s x f=>(T7 E s (ρ x) f).map fun v=>(v,O)
 |.indexAddr t x i=>(Ao E O t (ρ x) (ρ i)).map fun v=>(v,O)
 |.index t x i=>(JC E t (ρ x) (ρ i)).map fun v=>(v,O)
 |.sliceToArrayPointer t x=>(RZ E t (ρ x)).map fun v=>(v,O)
 |.typeAssert x _ t ok=>(Ng E (ρ x) t ok).map fun v=>(v,O)
 |.makeSlice t l c=>E0 E O t (ρ l) (ρ c)
 | .makeFunc fn first caps=>match fn with
  |.func f=>if first.toList=[]then(match caps.toList.map ρ with
   |[.tup _]=>none
   |cs=>some (.fn f cs,O))else if caps.toList=[]then some (.fn f [.tup (first.toList.map ρ)],O)else none
  |_=>none
 | .makeInterface t x=>match E.tab t with
  |some d=>match d.desc with
   |.interface _=>none
   |_=>some (.iface t (ρ x),O)
  |none=>none
 |.lookup t x k ok=>(Ga E O t (ρ x) (ρ k) ok).map fun v=>(v,O)
 |.makeMap t none=>some (.mref O.length,O++[if(E.mp t).isSome=true then .mp (P0 E t) (mp0 t)else .obj (.map #[] 0)])
 |.mapUpdate t m k x=>(LQ E O t (ρ m) (ρ k) (ρ x)).map fun O'=>(.junk,O')
 |.insert t m k x=>(Ov E O t (ρ m) (ρ k) (ρ x)).map fun O'=>(.junk,O')
 |.range t x=>match Xy E t,ρ x with
  |true,.str s=>some (.ref O.length 0,O++[.obj (.stringIter ⟨s.toArray⟩ 0)])
  |_,_=>none
 | .next it true=>match ρ it with
  |.ref id 0=>match O[id]? with
   |some (.obj (.stringIter s pos))=>if pos<s.size then some (.tup [.bool true,.int .i64 (pos:Int),.int .i32 (Utf8.decode s pos).1],O.set id (.obj (.stringIter s (pos+(Utf8.decode s pos).2))))else some (.tup [.bool false],O)
   |_=>none
  |_=>none
 | .extract x i=>match ρ x with
  |.tup vs=>match vs[i]? with
   |some v=>some (v,O)
   |none=>none
  |_=>none
 |.call c=>match c.callee with
  |.builtin b=>AU E O b c.argTypes.toList (c.args.toList.map ρ)
  |_=>none
 |_=>none
end Go.Rv
