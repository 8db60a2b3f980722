/-
  Part 1.
-/
import Derived.WalkKit
import Derived.Below
import Derived.MapKept
import Derived.WideKeyMaps
import Derived.RangeFuncLeaves
import Derived.RangeFuncSeq
namespace Go.Rv
set_option linter.unusedVariables false
set_option linter.unusedSimpArgs false
abbrev AoY:=@Option.map_eq_some_iff
abbrev AoZ:=@List.getElem?_eq_some_iff
abbrev Ao0:=@Option.some.injEq
abbrev Ao1:=@Option.some.inj
abbrev Ao2:=@List.getElem?_eq_getElem
abbrev Ao3:=@Option.bind_eq_some_iff
abbrev Ao4:=@if_pos
abbrev Ao5:=@List.length_append
abbrev Ao6:=@if_neg
abbrev Ao7:=@List.getElem?_append_right
abbrev Ao8:=@List.mem_of_getElem?
abbrev Ao9:=@List.getElem?_append_left
abbrev Apa:=@Prod.mk.injEq
abbrev Apb:=@List.length_cons
abbrev Apc:=@Int.toNat_natCast
abbrev Apd:=@Array.getElem?_eq_some_iff
abbrev Ape:=@Bool.and_eq_true
abbrev Apf:=@Nat.le_refl
abbrev Apg:=@List.contains_iff_mem
abbrev Aph:=@Nat.mul_le_mul_right
abbrev Api:=@List.all_eq_true
abbrev Apj:=@Nat.le_of_ble_eq_true
abbrev Apk:=@Array.getElem?_eq_getElem
abbrev Apl:=@List.mem_append
abbrev Apm:=@List.getD_eq_getElem?_getD
abbrev Apn:=@List.mem_cons_self
abbrev Apo:=@List.cons_append
abbrev App:=@decide_eq_true_eq
abbrev Apq:=@List.mem_cons
abbrev Apr:=@List.length_nil
abbrev Aps:=@decide_eq_false_iff_not
abbrev Apt:=@List.rel_of_pairwise_cons
abbrev Apu:=@Bool.false_eq_true
abbrev Apv:=@List.take_succ_eq_append_getElem
abbrev Apw:=@List.getElem?_map
abbrev Apx:=@Nat.zero_le
abbrev Apy:=@eq_false_of_ne_true
abbrev Apz:=@Option.map_some
abbrev ApA:=@Nat.add_mul
abbrev ApB:=@List.pairwise_append
abbrev ApC:=@List.getElem?_drop
abbrev ApD:=@List.getElem?_take
abbrev ApE:=@List.map_cons
abbrev ApF:=@List.length_eq_zero_iff
abbrev ApG:=@Bool.or_eq_true
abbrev ApH:=@List.length_singleton
abbrev ApI:=@List.mem_cons_of_mem
abbrev ApJ:=@List.mem_singleton
abbrev ApK:=@List.mem_range
abbrev ApL:=@if_true
abbrev ApM:=@Array.getD_eq_getD_getElem?
abbrev ApN:=@List.nil_append
abbrev ApO:=@List.getElem?_set
abbrev ApP:=@List.take_of_length_le
abbrev ApQ:=@Nat.lt_or_ge
abbrev ApR:=@List.getElem?_set_ne
abbrev ApS:=@Option.map_map
abbrev ApT:=@Nat.not_lt_zero
abbrev ApU:=@Nat.one_mul
abbrev ApV:=@congrArg
abbrev ApW:=@List.getElem_of_mem
abbrev ApX:=@Option.bind_some
abbrev ApY:=@if_false
abbrev ApZ:=@List.append_assoc
abbrev Ap0:=@List.take_length
abbrev Ap1:=@List.range_eq_range'
abbrev Ap2:=@List.ext_getElem?
abbrev Ap3:=@List.append_nil
abbrev Ap4:=@List.length_map
abbrev Ap5:=@Array.length_toList
abbrev Ap6:=@List.drop_eq_getElem_cons
abbrev Ap7:=@List.getElem?_set_self
abbrev Ap8:=@Array.toList_map
abbrev Ap9:=@beq_iff_eq
abbrev Aqa:=@Array.getElem?_toList
abbrev Aqb:=@List.length_take
abbrev Aqc:=@List.pairwise_lt_range
abbrev Aqd:=@Array.getElem?_setIfInBounds
abbrev Aqe:=@List.getElem?_eq_none
abbrev Aqf:=@List.take_append_drop
abbrev Aqg:=@Nat.zero_add
abbrev Aqh:=@List.mem_iff_getElem?
abbrev Aqi:=@List.getElem_mem
abbrev Aqj:=@Bool.not_eq_true'
abbrev Aqk:=@List.map_nil
abbrev Aql:=@List.length_drop
abbrev Aqm:=@List.length_pos_iff
abbrev Aqn:=@List.map_congr_left
abbrev Aqo:=@List.takeWhile_cons
abbrev Aqp:=@Nat.div_lt_iff_lt_mul
abbrev Aqq:=@of_decide_eq_true
abbrev Aqr:=@List.mem_attach
abbrev Aqs:=@Nat.le_trans
abbrev Aqt:=@List.mem_map
abbrev Aqu:=@List.mapM_cons
abbrev Aqv:=@Array.mapM_eq_mapM_toList
abbrev Aqw:=@Nat.add_zero
abbrev Aqx:=@Bool.and_eq_false_iff
abbrev Aqy:=@Array.getElem?_modify
abbrev Aqz:=@List.cons.injEq
abbrev AqA:=@Nat.lt_of_lt_of_le
abbrev AqB:=@Nat.add_assoc
abbrev AqC:=@List.sum_cons
abbrev AqD:=@List.length_set
abbrev AqE:=@Array.getElem?_append_left
abbrev AqF:=@Array.ext'
abbrev AqG:=@BitVec.eq_of_toNat_eq
abbrev AqH:=@eq_false
abbrev AqI:=@Nat.add_comm
abbrev AqJ:=@List.pairwise_cons
abbrev AqK:=@List.mem_append_left
abbrev AqL:=@Option.isSome_iff_exists
abbrev AqM:=@List.Sublist.append_left
abbrev AqN:=@List.map_append
abbrev AqO:=@Nat.lt_trans
abbrev AqP:=@List.eq_nil_iff_forall_not_mem
abbrev AqQ:=@List.getElem?_cons_zero
abbrev AqR:=@List.getElem?_replicate
abbrev AqS:=@Array.toList_append
abbrev AqT:=@List.getElem?_range
abbrev AqU:=@beq_eq_false_iff_ne
abbrev AqV:=@Bool.not_true
abbrev AqW:=@List.filter_cons
abbrev AqX:=@ByteArray.data_extract
abbrev AqY:=@List.sublist_cons_self
abbrev AqZ:=@Array.append_empty
abbrev Aq0:=@BitVec.toNat_ofNat
abbrev Aq1:=@Bool.eq_iff_iff
abbrev Aq2:=@Nat.mul_comm
abbrev Aq3:=@Nat.div_add_mod
abbrev Aq4:=@List.flatten_cons
abbrev Aq5:=@bne_iff_ne
abbrev Aq6:=@List.takeWhile_cons_of_pos
abbrev Aq7:=@List.takeWhile_cons_of_neg
abbrev Aq8:=@Nat.mod_eq_of_lt
abbrev Aq9:=@Array.getElem?_push
abbrev Ara:=@Option.bind_eq_bind
abbrev Arb:=@List.length_reverse
abbrev Arc:=@Nat.zero_mul
abbrev Ard:=@List.getElem?_cons_succ
abbrev Are:=@Nat.min_eq_left
abbrev Arf:=@List.append_of_mem
abbrev Arg:=@Nat.mul_one
abbrev Arh:=@List.length_range
abbrev Ari:=@UInt8.ofNat_toNat
abbrev Arj:=@Decidable.not_not
abbrev Ark:=@Bool.not_false
abbrev Arl:=@UInt8.toNat_lt
abbrev Arm:=@List.singleton_append
abbrev Arn:=@List.length_replicate
abbrev Aro:=@Nat.sub_self
abbrev Arp:=@List.set_append_right
abbrev Arq:=@List.length_filter_le
abbrev Ars:=@List.any_eq_true
abbrev Art:=@List.take_append_of_le_length
abbrev Aru:=@List.mem_of_mem_take
abbrev Arv:=@Bool.and_eq_true_iff
abbrev Arw:=@Nat.mod_lt
abbrev Arx:=@List.take_succ_cons
abbrev Ary:=@List.nodup_cons
abbrev Arz:=@List.find?_cons
abbrev ArA:=@List.filter_nil
abbrev ArB:=@Nat.add_sub_cancel
abbrev ArC:=@Nat.eq_zero_or_pos
abbrev ArD:=@Array.ext_getElem?
abbrev ArE:=@List.mem_filterMap
abbrev ArF:=@Nat.le_of_lt
abbrev ArG:=@List.filter_append
abbrev ArH:=@List.drop_zero
abbrev ArI:=@Classical.byContradiction
abbrev ArJ:=@Decidable.byContradiction
abbrev ArK:=@List.Sublist.append_right
abbrev ArL:=@not_true_eq_false
abbrev ArM:=@Function.comp_def
abbrev ArN:=@of_eq_true
abbrev ArT:=@List.foldl_cons
abbrev ArU:=@Int.natCast_mul
abbrev ArV:=@Option.map_none
abbrev ArX:=@List.map_set
abbrev Ar0:=@List.map_map
abbrev Ar1:=@List.range_succ
abbrev Ar2:=@List.sum_append
abbrev Asa:=@List.take_zero
abbrev Asb:=@List.tail_drop
abbrev Asc:=@List.drop_drop
abbrev Asi:=@and_true
inductive AV where
  |junk
  |bool (b:Bool)
  |int (k:IntKind) (n:Int)
  |str (s:List UInt8)
  |sl (full:Bool) (els:List (List AV))
  |bs (full:Bool) (id tot off len:Nat)
  |ref (id off:Nat)
  |tref (id:Nat) (t:TypeId)
  |mref (id:Nat)
  |yld (id:Nat)
  |nref (id:Nat)
  |eref (id tot i j:Nat)
  |rp (cs:List AV)
  |agg (cs:List AV)
  |tup (vs:List AV)
  |fn (f:FuncId) (cap:List AV)
  |iface (t:TypeId) (v:AV)
  |glob (g:Nat)
  |val (v:Value)
  deriving Inhabited
inductive Ky where
  |str (s:List UInt8)
  |int (n:Int)
  deriving DecidableEq,Inhabited
def kyS:Ky->Bool
 |.str _=>true
 |.int _=>false
def N9:Ky->Value
 |.str s=>.string ⟨s.toArray⟩
 |.int n=>.int .i64 n
inductive ABlk where
  |box (cs:List AV) (ro:Bool)
  |buf (k:Nat) (els:List (List AV)) (ro:Bool)
  |obj (o:Obj)
  |tb (T:TypeId) (l:List UInt8)
  |mp (st:Bool) (f:Ky->Option AV)
  |lp (busy:Bool) (N:Nat) (l:List (Nat×AV)) (ps:Array Tmp) (assign body:Code)
  |gone
  deriving Inhabited
def Kb(l:List UInt8):List (List AV):=l.map fun b=>[.int .u8 (b.toNat:Int)]
abbrev one(v:Value):Bool:=v.oneCell'
abbrev Ad:=List ABlk
structure GB where
  blk:Option Nat
  o:Nat
  k:Nat
  len:Nat
  ce:Nat
  isBox:Bool
  ro:Bool
abbrev Gh:=List GB
def GB.same(b b':GB):Prop:=b'.blk=b.blk/\b'.o=b.o/\b'.k=b.k/\b'.len=b.len/\b'.ce=b.ce/\b'.isBox=b.isBox
def GB.step(b b':GB):Prop:=b.same b'\/(b.isBox=false/\b'.isBox=false/\b.len<b'.len)
theorem GB.same.refl(b:GB):b.same b:=⟨rfl,rfl,rfl,rfl,rfl,rfl⟩
theorem GB.step.refl(b:GB):b.step b:=.inl (GB.same.refl b)
theorem GB.step.trans{a b c:GB}(h:a.step b)(h':b.step c):a.step c:=by
 rcases h with⟨h1,h2,h3,h4,h5,h6⟩|⟨h1,h2,h3⟩
 ·rcases h' with⟨g1,g2,g3,g4,g5,g6⟩|⟨g1,g2,g3⟩
  ·exact .inl ⟨g1.trans h1,g2.trans h2,g3.trans h3,g4.trans h4,g5.trans h5,g6.trans h6⟩
  exact .inr ⟨h6 ▸ g1,g2,h4 ▸ g3⟩
 rcases h' with⟨g1,g2,g3,g4,g5,g6⟩|⟨g1,g2,g3⟩
 ·exact .inr ⟨h1,g6.trans h2,by omega⟩
 exact .inr ⟨h1,g2,by omega⟩
def BsAt(b:GB)(v:Value)(full:Bool)(off len:Nat):Prop :=
 ∃a cap,v=.slice a len cap/\len<=cap/\(full=true->cap=len)/\off+len<=b.len /\
  (cap=0\/∃β,b.blk=some β/\a=some ⟨β,b.o+off*b.k,none⟩/\off+cap<=b.ce)
theorem BsAt.same{b b':GB}{v:Value}{full:Bool}{off len:Nat}(h:b.same b')(hb:BsAt b v full off len):BsAt b' v full off len:=by
 obtain⟨a,cap,h1,h2,h3,h4,h5⟩:=hb;obtain⟨g1,g2,g3,g4,g5,g6⟩:=h;exact⟨a,cap,h1,h2,h3,by omega,by rw[g1,g2,g3,g5];exact h5⟩
inductive Rep(w:World)(pr:Addr->Prop):Gh->Value->AV->Prop
  |junk (g:Gh) (v:Value):Rep w pr g v .junk
  |bool (g:Gh) (b:Bool):Rep w pr g (.bool b) (.bool b)
  |int (g:Gh) (k:IntKind) (n:Int):Rep w pr g (.int k n) (.int k n)
  |str (g:Gh) (s:ByteArray) (l:List UInt8) (h:s.data.toList=l):Rep w pr g (.string s) (.str l)
  |sl (g:Gh) (a:Option Addr) (len cap:Nat) (full:Bool) (els:List (List AV)) (k:Nat) (c:Nat->Nat->Value)
      (hlen:els.length=len) (hcap:len<=cap) (hfull:full=true->cap=len) (hnone:a=none->cap=0)
      (hk:∀(i:Nat) (cs:List AV),els[i]?=some cs->cs.length=k)
      (hc:∀(i:Nat) (cs:List AV) (j:Nat) (x:AV),els[i]?=some cs->cs[j]?=some x->∃b,a=some b/\w.cell? (b.add (i*k+j))=some (c i j)/\pr (b.add (i*k+j))/\one (c i j)=true)
      (hr:∀(i:Nat) (cs:List AV) (j:Nat) (x:AV),els[i]?=some cs->cs[j]?=some x->Rep w pr [] (c i j) x):Rep w pr g (.slice a len cap) (.sl full els)
  |bs (g:Gh) (v:Value) (full:Bool) (id tot off len:Nat) (b:GB) (hb:g[id]?=some b) (hx:b.isBox=false) (ht:tot<=b.len)
      (h:b.len=tot->BsAt b v full off len) (ho:one v=true):Rep w pr g v (.bs full id tot off len)
  |ref (g:Gh) (id off β:Nat) (b:GB) (hb:g[id]?=some b) (hx:b.isBox=true) (hβ:b.blk=some β):Rep w pr g (.pointer (some ⟨β,off,none⟩)) (.ref id off)
  |tref (g:Gh) (id t β:Nat) (b:GB) (hb:g[id]?=some b) (hx:b.isBox=true) (hβ:b.blk=some β) (ht:b.ce=t+2):Rep w pr g (.pointer (some ⟨β,0,none⟩)) (.tref id t)
  |mref (g:Gh) (id β:Nat) (b:GB) (hb:g[id]?=some b) (hx:b.isBox=true) (hβ:b.blk=some β):Rep w pr g (.map (some β)) (.mref id)
  |yld (g:Gh) (id β:Nat) (b:GB) (hb:g[id]?=some b) (hx:b.isBox=true) (hβ:b.blk=some β):Rep w pr g (.func (.yield β) #[] #[]) (.yld id)
  |nref (g:Gh) (v:Value) (id:Nat) (b:GB) (hb:g[id]?=some b) (hx:b.isBox=true) (h:v=.pointer none\/∃β,b.blk=some β/\v=.pointer (some ⟨β,0,none⟩)):Rep w pr g v (.nref id)
  |eref (g:Gh) (v:Value) (id tot i j:Nat) (b:GB) (hb:g[id]?=some b) (hx:b.isBox=false) (ht:tot<=b.len)
      (h:b.len=tot->∃β,b.blk=some β/\v=.pointer (some ⟨β,b.o+i*b.k+j,none⟩)) (ho:one v=true):Rep w pr g v (.eref id tot i j)
  |rp (g:Gh) (a:Addr) (cs:List AV) (c:Nat->Value)
      (hc:∀(j:Nat) (x:AV),cs[j]?=some x->w.cell? (a.add j)=some (c j)/\pr (a.add j)/\one (c j)=true)
      (hr:∀(j:Nat) (x:AV),cs[j]?=some x->Rep w pr [] (c j) x):Rep w pr g (.pointer (some a)) (.rp cs)
  |agg (g:Gh) (vs:Array Value) (cs:List AV) (hs:vs.size=cs.length) (ho:∀(i:Nat) (x:AV),cs[i]?=some x->one (vs.getD i undef)=true)
      (hr:∀(i:Nat) (x:AV),cs[i]?=some x->Rep w pr g (vs.getD i undef) x):Rep w pr g (.agg vs) (.agg cs)
  |tup (g:Gh) (vs:Array Value) (xs:List AV) (hs:vs.size=xs.length) (hr:∀(i:Nat) (x:AV),xs[i]?=some x->Rep w pr g (vs.getD i undef) x):Rep w pr g (.tuple vs) (.tup xs)
  |fn (g:Gh) (f:FuncId) (caps:Array Value) (xs:List AV) (hs:caps.size=xs.length) (hr:∀(i:Nat) (x:AV),xs[i]?=some x->Rep w pr g (caps.getD i undef) x)
      (hn:∀ys,xs≠[.tup ys]):Rep w pr g (.func (.func f) #[] caps) (.fn f xs)
  |fnb (g:Gh) (f:FuncId) (fs:Array Value) (xs:List AV) (hs:fs.size=xs.length) (hr:∀(i:Nat) (x:AV),xs[i]?=some x->Rep w pr g (fs.getD i undef) x):Rep w pr g (.func (.func f) fs #[]) (.fn f [.tup xs])
  |iface (g:Gh) (t:TypeId) (v:Value) (x:AV) (hr:Rep w pr g v x):Rep w pr g (.iface t v) (.iface t x)
  |glob (g:Gh) (i:Nat):Rep w pr g (.pointer (some ⟨i,0,none⟩)) (.glob i)
  |val (g:Gh) (v:Value) (h:one v=true):Rep w pr g v (.val v)
def GLe(g g':Gh):Prop:=∀(id:Nat) (b:GB),g[id]?=some b->∃b',g'[id]?=some b'/\b.step b'
theorem GLe.refl(g:Gh):GLe g g:=fun _ b h=>⟨b,h,GB.step.refl b⟩
theorem GLe.nil(g:Gh):GLe [] g:=fun id b h=>by simp at h
theorem GLe.trans{a b c:Gh}(h:GLe a b)(h':GLe b c):GLe a c:=fun id x hx=>by
 obtain⟨y,hy,s⟩:=h id x hx;obtain⟨z,hz,s'⟩:=h' id y hy;exact⟨z,hz,s.trans s'⟩
theorem GLe.append(g t:Gh):GLe g (g++t):=fun id b h=>⟨b,by
 have hl:id<g.length:=(AoZ.1 h).1;rw[Ao9 hl];exact h,GB.step.refl b⟩
theorem Rep.mono{w w':World}{pr pr':Addr->Prop}(hw:∀a u,w.cell? a=some u->pr a->w'.cell? a=some u/\pr' a) {g:Gh} {v:Value} {x:AV} (h:Rep w pr g v x):∀{g':Gh},GLe g g'->Rep w' pr' g' v x:=by
 induction h with
 |junk g v=>intro g' _;exact .junk _ _
 |bool g b=>intro g' _;exact .bool _ _
 |int g k n=>intro g' _;exact .int _ _ _
 |str g s l h=>intro g' _;exact .str _ _ _ h
 |sl g a len cap full els k c hlen hcap hfull hnone hk hc hr ih=>
  intro g' _;refine .sl _ a len cap full els k c hlen hcap hfull hnone hk ?_ (fun i cs j x h1 h2=>ih i cs j x h1 h2 (GLe.refl _));intro i cs j x h1 h2;obtain⟨b,hb,hcell,hp,ho⟩:=hc i cs j x h1 h2;obtain⟨q1,q2⟩:=hw _ _ hcell hp;exact⟨b,hb,q1,q2,ho⟩
 |bs g v full id tot off len b hb hx ht h ho=>
  intro g' hg;obtain⟨b',hb',hs⟩:=hg id b hb;rcases hs with hs|⟨s1,s2,s3⟩
  ·exact .bs _ v full id tot off len b' hb' (hs.2.2.2.2.2.trans hx) (by have:=hs.2.2.2.1;omega) (fun e=>BsAt.same hs (h (by have:=hs.2.2.2.1;omega))) ho
  exact .bs _ v full id tot off len b' hb' s2 (by omega) (fun e=>by omega) ho
 |ref g id off β b hb hx hβ=>
  intro g' hg;obtain⟨b',hb',hs⟩:=hg id b hb;rcases hs with hs|⟨s1,s2,s3⟩
  ·exact .ref _ id off β b' hb' (hs.2.2.2.2.2.trans hx) (hs.1.trans hβ)
  rw[hx]at s1;cases s1
 |tref g id t β b hb hx hβ ht=>
  intro g' hg;obtain⟨b',hb',hs⟩:=hg id b hb;rcases hs with hs|⟨s1,s2,s3⟩
  ·exact .tref _ id t β b' hb' (hs.2.2.2.2.2.trans hx) (hs.1.trans hβ) (hs.2.2.2.2.1.trans ht)
  rw[hx]at s1;cases s1
 |mref g id β b hb hx hβ=>
  intro g' hg;obtain⟨b',hb',hs⟩:=hg id b hb;rcases hs with hs|⟨s1,s2,s3⟩
  ·exact .mref _ id β b' hb' (hs.2.2.2.2.2.trans hx) (hs.1.trans hβ)
  rw[hx]at s1;cases s1
 |yld g id β b hb hx hβ=>
  intro g' hg;obtain⟨b',hb',hs⟩:=hg id b hb;rcases hs with hs|⟨s1,s2,s3⟩
  ·exact .yld _ id β b' hb' (hs.2.2.2.2.2.trans hx) (hs.1.trans hβ)
  rw[hx]at s1;cases s1
 |nref g v id b hb hx h=>
  intro g' hg;obtain⟨b',hb',hs⟩:=hg id b hb;rcases hs with hs|⟨s1,s2,s3⟩
  ·exact .nref _ v id b' hb' (hs.2.2.2.2.2.trans hx) (by rw[hs.1];exact h)
  rw[hx]at s1;cases s1
 | eref g v id tot i j b hb hx ht h ho=>
  intro g' hg;obtain⟨b',hb',hs⟩:=hg id b hb;rcases hs with hs|⟨s1,s2,s3⟩
  ·obtain⟨q1,q2,q3,q4,q5,q6⟩:=hs;refine .eref _ v id tot i j b' hb' (q6.trans hx) (by omega) (fun e=>?_) ho;rw[q1,q2,q3];exact h (by omega)
  exact .eref _ v id tot i j b' hb' s2 (by omega) (fun e=>by omega) ho
 |rp g a cs c hc hr ih=>
  intro g' _;refine .rp _ a cs c ?_ (fun j x h=>ih j x h (GLe.refl _));intro j x h;obtain⟨q0,q1,q2⟩:=hc j x h;obtain⟨r1,r2⟩:=hw _ _ q0 q1;exact⟨r1,r2,q2⟩
 |agg g vs cs hs ho hr ih=>intro g' hg;exact .agg _ vs cs hs ho (fun i x h=>ih i x h hg)
 |tup g vs xs hs hr ih=>intro g' hg;exact .tup _ vs xs hs (fun i x h=>ih i x h hg)
 |fn g f caps xs hs hr hn ih=>intro g' hg;exact .fn _ f caps xs hs (fun i x h=>ih i x h hg) hn
 |fnb g f fs xs hs hr ih=>intro g' hg;exact .fnb _ f fs xs hs (fun i x h=>ih i x h hg)
 |iface g t v x hr ih=>intro g' hg;exact .iface _ t v x (ih hg)
 |glob g i=>intro g' _;exact .glob _ _
 |val g v h=>intro g' _;exact .val _ _ h
structure TD where
  desc:TypeDesc
  size:Nat
  bytes:Nat
  zero:List AV
structure MapS where
  r:Nat
  kt:TypeId
  et:TypeId
  kd:TypeDesc
  zv:AV
  ans:AV->Option AV
def FU:AV->Bool
 |.bool _|.int _ _|.str _=>true
 |_=>false
def avV:AV->Value
 |.bool b=>.bool b
 |.int k n=>.int k n
 |.str s=>.string ⟨s.toArray⟩
 |.fn f [.tup [.glob b]]=>.func (.func f) #[.pointer (some ⟨b,0,none⟩)] #[]
 |.val v=>v
 |_=>.bool false
def TH:AV->Bool
 |.fn _ [.tup [.glob _]]=>true
 |.val v=>v.oneCell'
 |x=>FU x
def Ajm:TypeDesc->AV->Bool
 |.int k,.int k' _=>k==k'
 |.string,.str _=>true
 |.bool,.bool _=>true
 |_,_=>false
def Ahq(P:Program)(t:TypeId)(m:MapS)(w:World):Prop :=
 P.underlying t=some (.map m.kt m.et)/\P.underlying m.kt=some m.kd/\(∀w,(zeroValue m.et).run P w=.ok (avV m.zv) w)/\TH m.zv=true /\
  ∃es cl,w.heap[m.r]?=some (.map es cl)/\(∀e∈es.toList,MapKept.IsKey m.kd e.key/\∃ka va,e.key=avV ka/\e.val=avV va/\FU ka=true/\TH va=true/\m.ans ka=some va) /\
   ∀ka,FU ka=true->m.ans ka≠none->∃e∈es.toList,e.key=avV ka
def AhY(P:Program)(t:TypeId)(z:AV):Prop :=
 ∃kt et v,P.underlying t=some (.map kt et)/\(∀w,(zeroValue et).run P w=.ok v w)/\∀w pr g,Rep w pr g v z
structure Base where
  P:Program
  tab:Nat->Option TD
  G:Nat->Option (List AV)
  own:FuncId->List Operand->Bool:=fun _ _=>false
  maps:TypeId->Option MapS:=fun _=>none
  whole:Nat->Option (Array Value):=fun _=>none
  bty:Option TypeId:=none
  lm:Bool:=false
  lmOk:lm=true->∀t,maps t=none:=by intro h;cases h
  mp:TypeId->Option AV:=fun _=>none
  mpOk:∀t z,mp t=some z->AhY P t z:=by intro _ _ h;cases h
structure Env extends Base where
  F:Addr->Prop
  D:List Deferred:=[]
  rd:Option Nat:=none
  mks:Bool:=false
  base:Nat:=0
structure Out where
  F:Addr->Prop
  D:List Deferred:=[]
  rd:Option Nat:=none
  mks:Bool:=false
  base:Nat:=0
instance:Coe (Addr->Prop) Out:=⟨fun F=>{ F:=F }⟩
abbrev noF:Out:={ F:=fun _=>False }
def Base.env(B:Base)(o:Out):Env:={ B with F:=o.F,D:=o.D,rd:=o.rd,mks:=o.mks,base:=o.base }
def A2(E:Env)(g:Gh)(a:Addr):Prop:=¬E.F a/\∀(id:Nat) (b:GB),g[id]?=some b->b.blk=some a.block->b.ro=true/\a.off<b.o+b.len*b.k
def Fy(g:Gh)(β:Nat):Prop:=∃(id:Nat) (b:GB),g[id]?=some b/\b.blk=some β
theorem Bw{E:Env}{g:Gh}{a:Addr}(hF:¬E.F a)(h:¬Fy g a.block):A2 E g a:=⟨hF,fun id b hb hβ=>(h ⟨id,b,hb,hβ⟩).elim⟩
def Abp(k n:Nat):Nat:=if k=1 then n else n+1
theorem Og(k n:Nat):n<=Abp k n:=by unfold Abp;split<;>omega
def noFreeze(fz:Nat×Nat)(lo hi:Nat):Prop:=fz.1<=fz.2/\∀j,lo<=j->j<hi->¬(fz.1<=j/\j<fz.2)
def ON:Obj->Bool
 |.stringIter ..|.map ..|.loop _|.deferred _=>true
 |_=>false
def tyB(b:GB)(t:TypeId):TypeId:=if 2<=b.ce then b.ce-2 else t
def BlkOk(E:Env)(w:World)(g:Gh)(b:GB):ABlk->Prop
 | .box cs ro=>b.isBox=true/\b.ro=ro/\b.o=0/\b.k=cs.length/\b.len=1 /\
   ∃β arr t fz,b.blk=some β/\w.heap[β]?=some (.cells arr (tyB b t) fz)/\arr.size=cs.length/\noFreeze fz 0 arr.size /\
    ∀(j:Nat) (x:AV),cs[j]?=some x->Rep w (A2 E g) g (arr.getD j undef) x/\one (arr.getD j undef)=true
 | .buf k els ro=>b.isBox=false/\b.ro=ro/\b.k=k/\b.len=els.length/\(∀(i:Nat) (cs:List AV),els[i]?=some cs->cs.length=k)/\(b.blk=none->(els=[]\/k=0)/\b.ce=0) /\
   ∀β,b.blk=some β->∃arr t fz,w.heap[β]?=some (.cells arr t fz)/\b.o+b.ce*k<=arr.size/\els.length<=b.ce/\noFreeze fz 0 (Abp k arr.size) /\
    ∀(i:Nat) (cs:List AV) (j:Nat) (x:AV),els[i]?=some cs->cs[j]?=some x->Rep w (A2 E g) g (arr.getD (b.o+i*k+j) undef) x/\one (arr.getD (b.o+i*k+j) undef)=true
 |.obj o=>b.isBox=true/\ON o=true/\∃β,b.blk=some β/\w.heap[β]?=some o
 | .mp st f=>b.isBox=true/\(∀t m,E.maps t=some m->b.blk≠some m.r)/\(∀k x,f k=some x->kyS k=st)/\∃β arr cl,b.blk=some β/\w.heap[β]?=some (.map arr cl) /\
   (∀(i j:Nat) e e',arr[i]?=some e->arr[j]?=some e'->e.key=e'.key->i=j)/\(∀k x,f k=some x->∃(i:Nat) (e:MapEntry),arr[i]?=some e/\e.key=N9 k) /\
   ∀(i:Nat) e,arr[i]?=some e->∃k x,e.key=N9 k/\f k=some x/\Rep w (A2 E g) [] e.val x
 | .lp busy N l ps as bd=>b.isBox=true/\∃β f T D,b.blk=some β/\w.heap[β]?=some (.loop { state:=if busy then .busy else .ready,pending:=none,fn:=f,tmps:=T,params:=ps,assign:=as,body:=bd,defers:=D })/\T.size=N /\
   ∀p∈l,Rep w (A2 E g) g (T.getD p.1 undef) p.2
 |.gone=>b.isBox=true/\∃β o,b.blk=some β/\w.heap[β]?=some o/\ON o=true
 | .tb T l=>(b.isBox=false/\b.ro=b.ro/\b.k=1/\b.len=(Kb l).length/\(∀(i:Nat) (cs:List AV),(Kb l)[i]?=some cs->cs.length=1)/\(b.blk=none->(Kb l=[]\/1=0)/\b.ce=0) /\
   ∀β,b.blk=some β->∃arr t fz,w.heap[β]?=some (.cells arr t fz)/\b.o+b.ce*1<=arr.size/\(Kb l).length<=b.ce/\noFreeze fz 0 (Abp 1 arr.size) /\
    ∀(i:Nat) (cs:List AV) (j:Nat) (x:AV),(Kb l)[i]?=some cs->cs[j]?=some x->Rep w (A2 E g) g (arr.getD (b.o+i*1+j) undef) x/\one (arr.getD (b.o+i*1+j) undef)=true) /\
   ∀β,b.blk=some β->∃arr fz,w.heap[β]?=some (.cells arr T fz)
structure Env.Ok(E:Env):Prop where
  desc:∀t d,E.tab t=some d->E.P.underlying t=some d.desc
  info:∀t d,E.tab t=some d->∃i z,E.P.info? t=some i/\i.size=d.size/\i.bytes=d.bytes/\i.zero=some z/\z.cells.size=d.zero.length/\d.zero.length=d.size /\
    ∀w pr g (j:Nat) (x:AV),d.zero[j]?=some x->Rep w pr g (z.cells.getD j undef) x/\one (z.cells.getD j undef)=true
structure St where
  fr:List AV
  O:Ad
structure Mem(E:Env)(w:World)(g:Gh)(O:Ad):Prop where
  len:g.length=O.length
  blk:∀(id:Nat) (b:GB) (ab:ABlk),g[id]?=some b->O[id]?=some ab->BlkOk E w g b ab
  inj:∀(id id':Nat) (b b':GB) (β:Nat),g[id]?=some b->g[id']?=some b'->b.blk=some β->b'.blk=some β->id=id'
  foreign:∀a,E.F a->a.block<w.heap.size/\¬Fy g a.block
  glob:∀i cs,E.G i=some cs->i<w.heap.size/\¬Fy g i/\(∀j,¬E.F ⟨i,j,none⟩)/\∃c:Nat->Value,∀(j:Nat) (x:AV),cs[j]?=some x->w.cell? ⟨i,j,none⟩=some (c j)/\Rep w (A2 E g) [] (c j) x/\one (c j)=true
  maps:∀t m,E.maps t=some m->Ahq E.P t m w
  whole:∀i vs,E.whole i=some vs->¬Fy g i/\∃t o,w.heap[i]?=some (.cells vs t o)
def Marked(E:Env)(w:World)(g:Gh)(ds:List Deferred):Prop :=
 E.base<=w.heap.size/\∃ms,ds=ms++E.D/\(E.mks=false->ms=[])/\ms.Pairwise (fun a b=>a.target≠b.target)/\∀m∈ms,∃d,m={ target:=.collected d,args:=#[] }/\E.base<=d/\w.heap[d]?=some (.deferred (some []))/\¬Fy g d
structure Rel(E:Env)(w:World)(g:Gh)(st:St)(a:Act):Prop where
  size:a.tmps.size=st.fr.length
  slot:∀(t:Nat) (x:AV),st.fr[t]?=some x->Rep w (A2 E g) g (a.tmps.getD t undef) x
  mem:Mem E w g st.O
  defers:Marked E w g a.defers
structure Evo(E:Env)(n:Nat)(w:World)(g:Gh)(w':World)(g':Gh):Prop where
  os:w'.os=w.os
  tape:w'.tape=w.tape
  output:w'.output=w.output
  size:w.heap.size<=w'.heap.size
  cells:∀a u,w.cell? a=some u->A2 E g a->w'.cell? a=some u/\A2 E g' a
  blocks:∀β,β<w.heap.size->¬Fy g β->w'.heap[β]?=w.heap[β]?/\¬Fy g' β
  ids:∀id,id<n->∀b,g[id]?=some b->∃b',g'[id]?=some b'/\b.step b'
theorem Marked.plain{E:Env}{w:World}{g:Gh}{ds:List Deferred}(h:ds=E.D)(hb:E.base<=w.heap.size:=by exact Apx _):Marked E w g ds:=⟨hb,[],by simp[h],fun _=>rfl,.nil,by simp⟩
theorem Marked.evo{E:Env}{n:Nat}{w w':World}{g g':Gh}{ds:List Deferred}(h:Marked E w g ds)(he:Evo E n w g w' g'):Marked E w' g' ds:=by
 obtain⟨h0,ms,h1,h2,hn,h3⟩:=h;refine⟨Aqs h0 he.size,ms,h1,h2,hn,fun m hm=>?_⟩;obtain⟨d,q1,q2,q3,q4⟩:=h3 m hm;obtain⟨r1,r2⟩:=he.blocks d (Apd.1 q3).1 q4;exact⟨d,q1,q2,r1.trans q3,r2⟩
theorem Marked.sub{E:Env}{w:World}{g g':Gh}{ds:List Deferred}(h:Marked E w g ds)(hm:∀β,Fy g' β->Fy g β):Marked E w g' ds:=by
 obtain⟨h0,ms,h1,h2,hn,h3⟩:=h;refine⟨h0,ms,h1,h2,hn,fun m hm'=>?_⟩;obtain⟨d,q1,q2,q3,q4⟩:=h3 m hm';exact⟨d,q1,q2,q3,fun hh=>q4 (hm d hh)⟩
theorem Marked.eq{E:Env}{w:World}{g:Gh}{ds:List Deferred}(h:Marked E w g ds)(hk:E.mks=false):ds=E.D:=by
 obtain⟨_,ms,h1,h2,_⟩:=h;rw[h1,h2 hk];rfl
theorem Evo.refl(E:Env)(n:Nat)(w:World)(g:Gh):Evo E n w g w g :=
 ⟨rfl,rfl,rfl,Apf _,fun _ _ h p=>⟨h,p⟩,fun _ _ h=>⟨rfl,h⟩,fun _ _ b h=>⟨b,h,GB.step.refl b⟩⟩
theorem Evo.trans{E:Env}{n:Nat}{w w1 w2:World}{g g1 g2:Gh}(h:Evo E n w g w1 g1)(k:Evo E n w1 g1 w2 g2):Evo E n w g w2 g2 :=
  ⟨k.os.trans h.os,k.tape.trans h.tape,k.output.trans h.output,Aqs h.size k.size,
   fun a u hc hp=>let⟨c1,p1⟩:=h.cells a u hc hp;k.cells a u c1 p1,
   fun β hβ hm=>let⟨e1,m1⟩:=h.blocks β hβ hm;let⟨e2,m2⟩:=k.blocks β (AqA hβ h.size) m1;⟨e2.trans e1,m2⟩,
   fun id hid b hb=>let⟨b1,hb1,s1⟩:=h.ids id hid b hb;let⟨b2,hb2,s2⟩:=k.ids id hid b1 hb1;⟨b2,hb2,s1.trans s2⟩⟩
theorem Evo.below{E:Env}{w w':World}{g':Gh}(h:Evo E 0 w [] w' g'):Go.RowKit.Below w.heap.size w w' :=
 ⟨h.os,h.tape,h.output,h.size,fun k hk=>(h.blocks k hk (fun⟨_,_,e,_⟩=>by simp at e)).1⟩
end Go.Rv
