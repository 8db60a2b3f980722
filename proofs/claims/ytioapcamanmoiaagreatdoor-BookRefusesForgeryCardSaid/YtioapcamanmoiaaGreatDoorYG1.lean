/-
  Part 1.
-/
import Derived.WalkKit
import Derived.Below
import Derived.MapKept
import Derived.WideKeyMaps
import Derived.RangeFuncLeaves
import Derived.RangeFuncSeq
namespace Go.Rv
set_option linter.unusedVariables false
abbrev ApR:=@List.getElem?_eq_some_iff
abbrev ApS:=@Option.map_eq_some_iff
abbrev ApT:=@Option.some.injEq
abbrev ApU:=@if_pos
abbrev ApV:=@if_neg
abbrev ApW:=@List.getElem?_eq_getElem
abbrev ApX:=@Option.bind_some
abbrev ApY:=@List.getElem?_append_right
abbrev ApZ:=@List.mem_of_getElem?
abbrev Ap0:=@List.getElem?_append_left
abbrev Ap1:=@Int.toNat_natCast
abbrev Ap2:=@Prod.mk.injEq
abbrev Ap3:=@Nat.mul_le_mul_right
abbrev Ap4:=@Option.bind_eq_some_iff
abbrev Ap5:=@Nat.le_refl
abbrev Ap6:=@Array.getElem?_eq_some_iff
abbrev Ap7:=@List.getD_eq_getElem?_getD
abbrev Ap8:=@List.all_eq_true
abbrev Ap9:=@Bool.and_eq_true
abbrev Aqa:=@List.getElem?_map
abbrev Aqb:=@Array.getElem?_eq_getElem
abbrev Aqc:=@List.mem_cons_self
abbrev Aqd:=@decide_eq_true_eq
abbrev Aqe:=@List.length_append
abbrev Aqf:=@decide_eq_true
abbrev Aqg:=@List.length_cons
abbrev Aqh:=@List.cons_append
abbrev Aqi:=@Nat.add_mul
abbrev Aqj:=@List.getElem?_take
abbrev Aqk:=@List.getElem?_drop
abbrev Aql:=@List.mem_append
abbrev Aqm:=@Nat.zero_le
abbrev Aqn:=@List.contains_iff_mem
abbrev Aqo:=@List.length_eq_zero_iff
abbrev Aqp:=@Option.some.inj
abbrev Aqq:=@List.mem_cons
abbrev Aqr:=@List.length_nil
abbrev Aqs:=@decide_eq_false
abbrev Aqt:=@List.rel_of_pairwise_cons
abbrev Aqu:=@List.pairwise_append
abbrev Aqv:=@Option.map_some
abbrev Aqw:=@Bool.eq_iff_iff
abbrev Aqx:=@List.getElem?_set_ne
abbrev Aqy:=@Nat.not_lt_zero
abbrev Aqz:=@List.getElem?_set
abbrev AqA:=@List.drop_eq_getElem_cons
abbrev AqB:=@Nat.one_mul
abbrev AqC:=@Array.getD_eq_getD_getElem?
abbrev AqD:=@Bool.or_eq_true
abbrev AqE:=@List.mem_cons_of_mem
abbrev AqF:=@Bool.false_eq_true
abbrev AqG:=@List.getElem?_set_self
abbrev AqH:=@UInt64.lt_iff_toNat_lt
abbrev AqI:=@UInt64.le_iff_toNat_le
abbrev AqJ:=@List.take_succ_eq_append_getElem
abbrev AqK:=@decide_eq_false_iff_not
abbrev AqL:=@List.getElem_mem
abbrev AqM:=@Nat.lt_or_ge
abbrev AqN:=@List.mem_range
abbrev AqO:=@Nat.zero_add
abbrev AqP:=@List.nil_append
abbrev AqQ:=@Nat.le_of_ble_eq_true
abbrev AqR:=@Array.length_toList
abbrev AqS:=@Array.getElem?_setIfInBounds
abbrev AqT:=@List.take_length
abbrev AqU:=@List.append_assoc
abbrev AqV:=@beq_iff_eq
abbrev AqW:=@List.getElem_of_mem
abbrev AqX:=@Option.getD_some
abbrev AqY:=@List.ext_getElem?
abbrev AqZ:=@List.range_eq_range'
abbrev Aq0:=@eq_false
abbrev Aq1:=@List.getElem?_eq_none
abbrev Aq2:=@List.length_map
abbrev Aq3:=@List.mem_iff_getElem?
abbrev Aq4:=@Option.map_map
abbrev Aq5:=@List.mem_range'_1
abbrev Aq6:=@List.mem_append_left
abbrev Aq7:=@Nat.lt_of_lt_of_le
abbrev Aq8:=@Array.toList_map
abbrev Aq9:=@UInt64.toNat_mod
abbrev Ara:=@List.mem_map
abbrev Arb:=@Nat.div_lt_iff_lt_mul
abbrev Arc:=@Array.getElem?_toList
abbrev Ard:=@List.set_append_right
abbrev Are:=@List.append_nil
abbrev Arf:=@List.mem_attach
abbrev Arg:=@Nat.mod_eq_of_lt
abbrev Arh:=@List.drop_length
abbrev Ari:=@List.take_of_length_le
abbrev Arj:=@Bool.not_eq_true'
abbrev Ark:=@List.getElem?_range
abbrev Arl:=@List.take_append_drop
abbrev Arm:=@Bool.and_eq_false_iff
abbrev Arn:=@List.length_set
abbrev Aro:=@List.eq_nil_iff_forall_not_mem
abbrev Arp:=@Nat.add_assoc
abbrev Arq:=@if_true
abbrev Ars:=@congrArg
abbrev Art:=@List.getElem?_replicate
abbrev Aru:=@List.map_cons
abbrev Arv:=@Nat.add_zero
abbrev Arw:=@List.mapM_cons
abbrev Arx:=@Nat.mul_comm
abbrev Ary:=@List.length_range
abbrev Arz:=@List.map_congr_left
abbrev ArA:=@if_false
abbrev ArB:=@List.pairwise_lt_range
abbrev ArC:=@Array.getElem?_append_left
abbrev ArD:=@Nat.le_trans
abbrev ArE:=@BitVec.eq_of_toNat_eq
abbrev ArF:=@Array.ext'
abbrev ArG:=@Nat.mod_lt
abbrev ArH:=@Nat.div_add_mod
abbrev ArI:=@List.Sublist.append_left
abbrev ArJ:=@Nat.sub_self
abbrev ArK:=@Nat.lt_trans
abbrev ArL:=@Nat.mul_one
abbrev ArM:=@List.getElem?_cons_zero
abbrev ArN:=@List.length_pos_iff
abbrev ArO:=@Bool.true_and
abbrev ArP:=@beq_eq_false_iff_ne
abbrev ArQ:=@List.not_any_eq_all_not
abbrev ArR:=@Bool.not_eq_true
abbrev ArS:=@ByteArray.data_extract
abbrev ArT:=@List.sublist_cons_self
abbrev ArU:=@UInt64.toNat_sub_of_le
abbrev ArV:=@List.mem_singleton
abbrev ArW:=@Array.append_empty
abbrev ArX:=@BitVec.toNat_ofNat
abbrev ArY:=@Array.getElem?_modify
abbrev ArZ:=@Nat.min_eq_left
abbrev Ar0:=@List.length_replicate
abbrev Ar1:=@List.nodup_cons
abbrev Ar2:=@List.map_append
abbrev Ar3:=@List.range_succ
abbrev Ar4:=@List.take_add_one
abbrev Ar5:=@Array.mapM_eq_mapM_toList
abbrev Ar6:=@Nat.shiftRight_eq_div_pow
abbrev Ar7:=@Bool.false_and
abbrev Ar8:=@UInt64.toNat_inj
abbrev Ar9:=@UInt64.toNat_div
abbrev Asa:=@Option.bind_eq_bind
abbrev Asb:=@Nat.mul_mod
abbrev Asc:=@List.getElem?_cons_succ
abbrev Asd:=@List.append_of_mem
abbrev Ase:=@List.set_cons_zero
abbrev Asf:=@List.foldl_append
abbrev Asg:=@Bool.eq_false_iff
abbrev Ash:=@and_true
abbrev Asi:=@gt_iff_lt
abbrev Asj:=@Nat.and_two_pow_sub_one_eq_mod
abbrev Asl:=@List.length_take
abbrev Asm:=@List.getElem?_of_mem
abbrev Asn:=@List.mem_of_mem_take
abbrev Aso:=@Bool.and_eq_true_iff
abbrev Asp:=@of_eq_true
abbrev Asq:=@Array.toList_append
abbrev Asr:=@Nat.add_mod
abbrev Ass:=@Array.foldl_toList
abbrev Ast:=@Nat.eq_zero_or_pos
abbrev Asu:=@Nat.zero_mul
abbrev Asv:=@Nat.le_of_eq
abbrev Asw:=@List.map_set
abbrev Asx:=@List.mem_filterMap
abbrev Asy:=@Bool.not_not
abbrev Asz:=@List.drop_zero
abbrev AsA:=@Classical.byContradiction
abbrev AsB:=@List.Sublist.append_right
abbrev AsC:=@Option.isSome_iff_exists
abbrev AsD:=@not_true_eq_false
abbrev AsE:=@List.size_toArray
abbrev AsF:=@bne_iff_ne
abbrev AsG:=@BitVec.toNat_ushiftRight
abbrev AsH:=@Nat.pow_add
abbrev AsI:=@Nat.mul_assoc
abbrev AsK:=@Bool.or_assoc
abbrev AsL:=@Bool.or_false
abbrev AsM:=@Nat.div_eq_of_lt
abbrev AsN:=@Nat.shiftLeft_eq
abbrev AsR:=@List.foldl_cons
abbrev AsV:=@UInt8.toNat_inj
abbrev AsW:=@List.find?_cons
abbrev AsX:=@List.map_nil
abbrev AsY:=@Nat.mod_mul_mod
abbrev AsZ:=@Nat.pow_succ
abbrev As0:=@Nat.pow_zero
abbrev As1:=@Bool.not_and
abbrev As4:=@List.tail_drop
abbrev As5:=@Bool.not_false
inductive AV where
  |junk
  |bool (b:Bool)
  |int (k:IntKind) (n:Int)
  |str (s:List UInt8)
  |sl (full:Bool) (els:List (List AV))
  |bs (full:Bool) (id tot off len:Nat)
  |ref (id off:Nat)
  |tref (id:Nat) (t:TypeId)
  |mref (id:Nat)
  |yld (id:Nat)
  |nref (id:Nat)
  |eref (id tot i j:Nat)
  |rp (cs:List AV)
  |agg (cs:List AV)
  |tup (vs:List AV)
  |fn (f:FuncId) (cap:List AV)
  |iface (t:TypeId) (v:AV)
  |glob (g:Nat)
  |val (v:Value)
  deriving Inhabited
inductive ABlk where
  |box (cs:List AV) (ro:Bool)
  |buf (k:Nat) (els:List (List AV)) (ro:Bool)
  |obj (o:Obj)
  |tb (T:TypeId) (l:List UInt8)
  |mp (es:List ((Int×Int)×AV))
  |lp (busy:Bool) (N:Nat) (l:List (Nat×AV)) (ps:Array Tmp) (assign body:Code)
  |gone
  deriving Inhabited
def IM(l:List UInt8):List (List AV):=l.map fun b=>[.int .u8 (b.toNat:Int)]
abbrev one(v:Value):Bool:=v.oneCell'
abbrev Am:=List ABlk
structure GB where
  blk:Option Nat
  o:Nat
  k:Nat
  len:Nat
  ce:Nat
  isBox:Bool
  ro:Bool
abbrev Gh:=List GB
def GB.same(b b':GB):Prop:=b'.blk=b.blk∧b'.o=b.o∧b'.k=b.k∧b'.len=b.len∧b'.ce=b.ce∧b'.isBox=b.isBox
def GB.step(b b':GB):Prop:=b.same b'∨(b.isBox=false∧b'.isBox=false∧b.len<b'.len)
theorem GB.same.refl(b:GB):b.same b:=⟨rfl,rfl,rfl,rfl,rfl,rfl⟩
theorem GB.step.refl(b:GB):b.step b:=.inl (GB.same.refl b)
theorem GB.step.trans{a b c:GB}(h:a.step b)(h':b.step c):a.step c:=by
 rcases h with⟨h1,h2,h3,h4,h5,h6⟩|⟨h1,h2,h3⟩
 ·rcases h' with⟨g1,g2,g3,g4,g5,g6⟩|⟨g1,g2,g3⟩
  ·exact .inl ⟨g1.trans h1,g2.trans h2,g3.trans h3,g4.trans h4,g5.trans h5,g6.trans h6⟩
  ·exact .inr ⟨h6 ▸ g1,g2,h4 ▸ g3⟩
 ·rcases h' with⟨g1,g2,g3,g4,g5,g6⟩|⟨g1,g2,g3⟩
  ·exact .inr ⟨h1,g6.trans h2,by omega⟩
  ·exact .inr ⟨h1,g2,by omega⟩
def BsAt(b:GB)(v:Value)(full:Bool)(off len:Nat):Prop :=
 ∃a cap,v=.slice a len cap∧len≤cap∧(full=true→cap=len)∧off+len≤b.len ∧
  (cap=0∨∃β,b.blk=some β∧a=some ⟨β,b.o+off*b.k,none⟩∧off+cap≤b.ce)
theorem BsAt.same{b b':GB}{v:Value}{full:Bool}{off len:Nat}(h:b.same b')(hb:BsAt b v full off len):BsAt b' v full off len:=by
 obtain⟨a,cap,h1,h2,h3,h4,h5⟩:=hb;obtain⟨g1,g2,g3,g4,g5,g6⟩:=h;exact⟨a,cap,h1,h2,h3,by omega,by rw[g1,g2,g3,g5];exact h5⟩
inductive Rep(w:World)(pr:Addr→Prop):Gh→Value→AV→Prop
  |junk (g:Gh) (v:Value):Rep w pr g v .junk
  |bool (g:Gh) (b:Bool):Rep w pr g (.bool b) (.bool b)
  |int (g:Gh) (k:IntKind) (n:Int):Rep w pr g (.int k n) (.int k n)
  |str (g:Gh) (s:ByteArray) (l:List UInt8) (h:s.data.toList=l):Rep w pr g (.string s) (.str l)
  |sl (g:Gh) (a:Option Addr) (len cap:Nat) (full:Bool) (els:List (List AV)) (k:Nat) (c:Nat→Nat→Value)
      (hlen:els.length=len) (hcap:len≤cap) (hfull:full=true→cap=len) (hnone:a=none→cap=0)
      (hk:∀(i:Nat) (cs:List AV),els[i]?=some cs→cs.length=k)
      (hc:∀(i:Nat) (cs:List AV) (j:Nat) (x:AV),els[i]?=some cs→cs[j]?=some x→∃b,a=some b∧w.cell? (b.add (i*k+j))=some (c i j)∧pr (b.add (i*k+j))∧one (c i j)=true)
      (hr:∀(i:Nat) (cs:List AV) (j:Nat) (x:AV),els[i]?=some cs→cs[j]?=some x→Rep w pr [] (c i j) x):Rep w pr g (.slice a len cap) (.sl full els)
  |bs (g:Gh) (v:Value) (full:Bool) (id tot off len:Nat) (b:GB) (hb:g[id]?=some b) (hx:b.isBox=false) (ht:tot≤b.len)
      (h:b.len=tot→BsAt b v full off len) (ho:one v=true):Rep w pr g v (.bs full id tot off len)
  |ref (g:Gh) (id off β:Nat) (b:GB) (hb:g[id]?=some b) (hx:b.isBox=true) (hβ:b.blk=some β):Rep w pr g (.pointer (some ⟨β,off,none⟩)) (.ref id off)
  |tref (g:Gh) (id t β:Nat) (b:GB) (hb:g[id]?=some b) (hx:b.isBox=true) (hβ:b.blk=some β) (ht:b.ce=t+2):Rep w pr g (.pointer (some ⟨β,0,none⟩)) (.tref id t)
  |mref (g:Gh) (id β:Nat) (b:GB) (hb:g[id]?=some b) (hx:b.isBox=true) (hβ:b.blk=some β):Rep w pr g (.map (some β)) (.mref id)
  |yld (g:Gh) (id β:Nat) (b:GB) (hb:g[id]?=some b) (hx:b.isBox=true) (hβ:b.blk=some β):Rep w pr g (.func (.yield β) #[] #[]) (.yld id)
  |nref (g:Gh) (v:Value) (id:Nat) (b:GB) (hb:g[id]?=some b) (hx:b.isBox=true) (h:v=.pointer none∨∃β,b.blk=some β∧v=.pointer (some ⟨β,0,none⟩)):Rep w pr g v (.nref id)
  |eref (g:Gh) (v:Value) (id tot i j:Nat) (b:GB) (hb:g[id]?=some b) (hx:b.isBox=false) (ht:tot≤b.len)
      (h:b.len=tot→∃β,b.blk=some β∧v=.pointer (some ⟨β,b.o+i*b.k+j,none⟩)) (ho:one v=true):Rep w pr g v (.eref id tot i j)
  |rp (g:Gh) (a:Addr) (cs:List AV) (c:Nat→Value)
      (hc:∀(j:Nat) (x:AV),cs[j]?=some x→w.cell? (a.add j)=some (c j)∧pr (a.add j)∧one (c j)=true)
      (hr:∀(j:Nat) (x:AV),cs[j]?=some x→Rep w pr [] (c j) x):Rep w pr g (.pointer (some a)) (.rp cs)
  |agg (g:Gh) (vs:Array Value) (cs:List AV) (hs:vs.size=cs.length) (ho:∀(i:Nat) (x:AV),cs[i]?=some x→one (vs.getD i undef)=true)
      (hr:∀(i:Nat) (x:AV),cs[i]?=some x→Rep w pr g (vs.getD i undef) x):Rep w pr g (.agg vs) (.agg cs)
  |tup (g:Gh) (vs:Array Value) (xs:List AV) (hs:vs.size=xs.length) (hr:∀(i:Nat) (x:AV),xs[i]?=some x→Rep w pr g (vs.getD i undef) x):Rep w pr g (.tuple vs) (.tup xs)
  |fn (g:Gh) (f:FuncId) (caps:Array Value) (xs:List AV) (hs:caps.size=xs.length) (hr:∀(i:Nat) (x:AV),xs[i]?=some x→Rep w pr g (caps.getD i undef) x)
      (hn:∀ys,xs≠[.tup ys]):Rep w pr g (.func (.func f) #[] caps) (.fn f xs)
  |fnb (g:Gh) (f:FuncId) (fs:Array Value) (xs:List AV) (hs:fs.size=xs.length) (hr:∀(i:Nat) (x:AV),xs[i]?=some x→Rep w pr g (fs.getD i undef) x):Rep w pr g (.func (.func f) fs #[]) (.fn f [.tup xs])
  |iface (g:Gh) (t:TypeId) (v:Value) (x:AV) (hr:Rep w pr g v x):Rep w pr g (.iface t v) (.iface t x)
  |glob (g:Gh) (i:Nat):Rep w pr g (.pointer (some ⟨i,0,none⟩)) (.glob i)
  |val (g:Gh) (v:Value) (h:one v=true):Rep w pr g v (.val v)
def GLe(g g':Gh):Prop:=∀(id:Nat) (b:GB),g[id]?=some b→∃b',g'[id]?=some b'∧b.step b'
theorem GLe.refl(g:Gh):GLe g g:=fun _ b h=>⟨b,h,GB.step.refl b⟩
theorem GLe.nil(g:Gh):GLe [] g:=fun id b h=>by simp at h
theorem GLe.trans{a b c:Gh}(h:GLe a b)(h':GLe b c):GLe a c:=fun id x hx=>by
 obtain⟨y,hy,s⟩:=h id x hx;obtain⟨z,hz,s'⟩:=h' id y hy;exact⟨z,hz,s.trans s'⟩
theorem GLe.append(g t:Gh):GLe g (g++t):=fun id b h=>⟨b,by
 have hl:id<g.length:=(ApR.1 h).1;rw[Ap0 hl];exact h,GB.step.refl b⟩
theorem Rep.mono{w w':World}{pr pr':Addr→Prop}(hw:∀a u,w.cell? a=some u→pr a→w'.cell? a=some u∧pr' a) {g:Gh} {v:Value} {x:AV} (h:Rep w pr g v x):∀{g':Gh},GLe g g'→Rep w' pr' g' v x:=by
  induction h with
  |junk g v=>intro g' _;exact .junk _ _
  |bool g b=>intro g' _;exact .bool _ _
  |int g k n=>intro g' _;exact .int _ _ _
  |str g s l h=>intro g' _;exact .str _ _ _ h
  | sl g a len cap full els k c hlen hcap hfull hnone hk hc hr ih=>
    intro g' _;refine .sl _ a len cap full els k c hlen hcap hfull hnone hk ?_ (fun i cs j x h1 h2=>ih i cs j x h1 h2 (GLe.refl _));intro i cs j x h1 h2;obtain⟨b,hb,hcell,hp,ho⟩:=hc i cs j x h1 h2;obtain⟨q1,q2⟩:=hw _ _ hcell hp;exact⟨b,hb,q1,q2,ho⟩
  | bs g v full id tot off len b hb hx ht h ho=>
    intro g' hg;obtain⟨b',hb',hs⟩:=hg id b hb;rcases hs with hs|⟨s1,s2,s3⟩
    · exact .bs _ v full id tot off len b' hb' (hs.2.2.2.2.2.trans hx) (by have:=hs.2.2.2.1;omega) (fun e=>BsAt.same hs (h (by have:=hs.2.2.2.1;omega))) ho
    · exact .bs _ v full id tot off len b' hb' s2 (by omega) (fun e=>by omega) ho
  | ref g id off β b hb hx hβ=>
    intro g' hg;obtain⟨b',hb',hs⟩:=hg id b hb;rcases hs with hs|⟨s1,s2,s3⟩
    · exact .ref _ id off β b' hb' (hs.2.2.2.2.2.trans hx) (hs.1.trans hβ)
    · rw[hx]at s1;cases s1
  | tref g id t β b hb hx hβ ht=>
    intro g' hg;obtain⟨b',hb',hs⟩:=hg id b hb;rcases hs with hs|⟨s1,s2,s3⟩
    · exact .tref _ id t β b' hb' (hs.2.2.2.2.2.trans hx) (hs.1.trans hβ) (hs.2.2.2.2.1.trans ht)
    · rw[hx]at s1;cases s1
  | mref g id β b hb hx hβ=>
    intro g' hg;obtain⟨b',hb',hs⟩:=hg id b hb;rcases hs with hs|⟨s1,s2,s3⟩
    · exact .mref _ id β b' hb' (hs.2.2.2.2.2.trans hx) (hs.1.trans hβ)
    · rw[hx]at s1;cases s1
  | yld g id β b hb hx hβ=>
    intro g' hg;obtain⟨b',hb',hs⟩:=hg id b hb;rcases hs with hs|⟨s1,s2,s3⟩
    · exact .yld _ id β b' hb' (hs.2.2.2.2.2.trans hx) (hs.1.trans hβ)
    · rw[hx]at s1;cases s1
  | nref g v id b hb hx h=>
    intro g' hg;obtain⟨b',hb',hs⟩:=hg id b hb;rcases hs with hs|⟨s1,s2,s3⟩
    · exact .nref _ v id b' hb' (hs.2.2.2.2.2.trans hx) (by rw[hs.1];exact h)
    · rw[hx]at s1;cases s1
  | eref g v id tot i j b hb hx ht h ho=>
    intro g' hg;obtain⟨b',hb',hs⟩:=hg id b hb;rcases hs with hs|⟨s1,s2,s3⟩
    · obtain⟨q1,q2,q3,q4,q5,q6⟩:=hs
      refine .eref _ v id tot i j b' hb' (q6.trans hx) (by omega) (fun e=>?_) ho;rw[q1,q2,q3];exact h (by omega)
    · exact .eref _ v id tot i j b' hb' s2 (by omega) (fun e=>by omega) ho
  | rp g a cs c hc hr ih=>
    intro g' _;refine .rp _ a cs c ?_ (fun j x h=>ih j x h (GLe.refl _));intro j x h;obtain⟨q0,q1,q2⟩:=hc j x h;obtain⟨r1,r2⟩:=hw _ _ q0 q1;exact⟨r1,r2,q2⟩
  |agg g vs cs hs ho hr ih=>intro g' hg;exact .agg _ vs cs hs ho (fun i x h=>ih i x h hg)
  |tup g vs xs hs hr ih=>intro g' hg;exact .tup _ vs xs hs (fun i x h=>ih i x h hg)
  |fn g f caps xs hs hr hn ih=>intro g' hg;exact .fn _ f caps xs hs (fun i x h=>ih i x h hg) hn
  |fnb g f fs xs hs hr ih=>intro g' hg;exact .fnb _ f fs xs hs (fun i x h=>ih i x h hg)
  |iface g t v x hr ih=>intro g' hg;exact .iface _ t v x (ih hg)
  |glob g i=>intro g' _;exact .glob _ _
  |val g v h=>intro g' _;exact .val _ _ h
structure TD where
  desc:TypeDesc
  size:Nat
  bytes:Nat
  zero:List AV
structure MapS where
  r:Nat
  kt:TypeId
  et:TypeId
  kd:TypeDesc
  zv:AV
  ans:AV→Option AV
def Gx:AV→Bool
 |.bool _|.int _ _|.str _=>true
 |_=>false
def avV:AV→Value
 |.bool b=>.bool b
 |.int k n=>.int k n
 |.str s=>.string ⟨s.toArray⟩
 |_=>.bool false
def AlI:TypeDesc→AV→Bool
 |.int k,.int k' _=>k==k'
 |.string,.str _=>true
 |.bool,.bool _=>true
 |_,_=>false
def AiR(P:Program)(t:TypeId)(m:MapS)(w:World):Prop :=
 P.underlying t=some (.map m.kt m.et)∧P.underlying m.kt=some m.kd∧(∀w,(zeroValue m.et).run P w=.ok (avV m.zv) w)∧Gx m.zv=true ∧
  ∃es cl,w.heap[m.r]?=some (.map es cl)∧(∀e∈es.toList,MapKept.IsKey m.kd e.key∧∃ka va,e.key=avV ka∧e.val=avV va∧Gx ka=true∧Gx va=true∧m.ans ka=some va) ∧
   ∀ka,Gx ka=true→m.ans ka≠none→∃e∈es.toList,e.key=avV ka
def Nd(k:Int×Int):Value:=.agg #[.int .i64 k.1,.int .i64 k.2]
def Tg(a b:Int):Prop:=(IntKind.i64.min≤a∧a≤IntKind.i64.max)∧IntKind.i64.min≤b∧b≤IntKind.i64.max
instance (a b:Int):Decidable (Tg a b):=inferInstanceAs (Decidable (_∧_))
def AmP(v:Value)(k:Int×Int):Prop:=v=Nd k∧Tg k.1 k.2
structure MpLaw(P:Program)(t kt et:TypeId):Prop where
  und:P.underlying t=some (.map kt et)
  law:Go.WideMaps.KeyLaw P kt
  key:∀k:Int×Int,Tg k.1 k.2→∃l,keyOf P kt (Nd k)=some l
structure Base where
  P:Program
  tab:Nat→Option TD
  G:Nat→Option (List AV)
  own:FuncId→List Operand→Bool:=fun _ _=>false
  maps:TypeId→Option MapS:=fun _=>none
  whole:Nat→Option (Array Value):=fun _=>none
  bty:Option TypeId:=none
  lm:Bool:=false
  lmOk:lm=true→∀t,maps t=none:=by intro h;cases h
  mp:Option (TypeId×TypeId×TypeId):=none
  mpOk:∀t kt et,mp=some (t,kt,et)→MpLaw P t kt et:=by intro _ _ _ h;cases h
structure Env extends Base where
  F:Addr→Prop
  D:List Deferred:=[]
  rd:Option Nat:=none
  mks:Bool:=false
  base:Nat:=0
structure Out where
  F:Addr→Prop
  D:List Deferred:=[]
  rd:Option Nat:=none
  mks:Bool:=false
  base:Nat:=0
instance:Coe (Addr→Prop) Out:=⟨fun F=>{ F:=F }⟩
abbrev noF:Out:={ F:=fun _=>False }
def Base.env(B:Base)(o:Out):Env:={ B with F:=o.F,D:=o.D,rd:=o.rd,mks:=o.mks,base:=o.base }
def A2(E:Env)(g:Gh)(a:Addr):Prop:=¬E.F a∧∀(id:Nat) (b:GB),g[id]?=some b→b.blk=some a.block→b.ro=true∧a.off<b.o+b.len*b.k
def Fm(g:Gh)(β:Nat):Prop:=∃(id:Nat) (b:GB),g[id]?=some b∧b.blk=some β
theorem Bv{E:Env}{g:Gh}{a:Addr}(hF:¬E.F a)(h:¬Fm g a.block):A2 E g a:=⟨hF,fun id b hb hβ=>(h ⟨id,b,hb,hβ⟩).elim⟩
def AaU(k n:Nat):Nat:=if k=1 then n else n+1
theorem Mt(k n:Nat):n≤AaU k n:=by unfold AaU;split<;>omega
def noFreeze(fz:Nat×Nat)(lo hi:Nat):Prop:=fz.1≤fz.2∧∀j,lo≤j→j<hi→¬(fz.1≤j∧j<fz.2)
def KM:Obj→Bool
 |.stringIter ..|.map ..|.loop _|.deferred _=>true
 |_=>false
def tyB(b:GB)(t:TypeId):TypeId:=if 2≤b.ce then b.ce-2 else t
def BlkOk(E:Env)(w:World)(g:Gh)(b:GB):ABlk→Prop
 | .box cs ro=>b.isBox=true∧b.ro=ro∧b.o=0∧b.k=cs.length∧b.len=1 ∧
   ∃β arr t fz,b.blk=some β∧w.heap[β]?=some (.cells arr (tyB b t) fz)∧arr.size=cs.length∧noFreeze fz 0 arr.size ∧
    ∀(j:Nat) (x:AV),cs[j]?=some x→Rep w (A2 E g) g (arr.getD j undef) x∧one (arr.getD j undef)=true
 | .buf k els ro=>b.isBox=false∧b.ro=ro∧b.k=k∧b.len=els.length∧(∀(i:Nat) (cs:List AV),els[i]?=some cs→cs.length=k)∧(b.blk=none→(els=[]∨k=0)∧b.ce=0) ∧
   ∀β,b.blk=some β→∃arr t fz,w.heap[β]?=some (.cells arr t fz)∧b.o+b.ce*k≤arr.size∧els.length≤b.ce∧noFreeze fz 0 (AaU k arr.size) ∧
    ∀(i:Nat) (cs:List AV) (j:Nat) (x:AV),els[i]?=some cs→cs[j]?=some x→Rep w (A2 E g) g (arr.getD (b.o+i*k+j) undef) x∧one (arr.getD (b.o+i*k+j) undef)=true
 |.obj o=>b.isBox=true∧KM o=true∧∃β,b.blk=some β∧w.heap[β]?=some o
 | .mp es=>b.isBox=true∧∃β arr cl,b.blk=some β∧w.heap[β]?=some (.map arr cl)∧arr.size=es.length∧(es.map (·.1)).Nodup ∧
   ∀(i:Nat) (k:Int×Int) (x:AV),es[i]?=some (k,x)→∃e,arr[i]?=some e∧AmP e.key k∧Rep w (A2 E g) [] e.val x
 | .lp busy N l ps as bd=>b.isBox=true∧∃β f T D,b.blk=some β∧w.heap[β]?=some (.loop { state:=if busy then .busy else .ready,pending:=none,fn:=f,tmps:=T,params:=ps,assign:=as,body:=bd,defers:=D })∧T.size=N ∧
   ∀p∈l,Rep w (A2 E g) g (T.getD p.1 undef) p.2
 |.gone=>b.isBox=true∧∃β o,b.blk=some β∧w.heap[β]?=some o∧KM o=true
 | .tb T l=>(b.isBox=false∧b.ro=b.ro∧b.k=1∧b.len=(IM l).length∧(∀(i:Nat) (cs:List AV),(IM l)[i]?=some cs→cs.length=1)∧(b.blk=none→(IM l=[]∨1=0)∧b.ce=0) ∧
   ∀β,b.blk=some β→∃arr t fz,w.heap[β]?=some (.cells arr t fz)∧b.o+b.ce*1≤arr.size∧(IM l).length≤b.ce∧noFreeze fz 0 (AaU 1 arr.size) ∧
    ∀(i:Nat) (cs:List AV) (j:Nat) (x:AV),(IM l)[i]?=some cs→cs[j]?=some x→Rep w (A2 E g) g (arr.getD (b.o+i*1+j) undef) x∧one (arr.getD (b.o+i*1+j) undef)=true) ∧
   ∀β,b.blk=some β→∃arr fz,w.heap[β]?=some (.cells arr T fz)
structure Env.Ok(E:Env):Prop where
  desc:∀t d,E.tab t=some d→E.P.underlying t=some d.desc
  info:∀t d,E.tab t=some d→∃i z,E.P.info? t=some i∧i.size=d.size∧i.bytes=d.bytes∧i.zero=some z∧z.cells.size=d.zero.length∧d.zero.length=d.size ∧
    ∀w pr g (j:Nat) (x:AV),d.zero[j]?=some x→Rep w pr g (z.cells.getD j undef) x∧one (z.cells.getD j undef)=true
structure St where
  fr:List AV
  σ:Am
structure Mem(E:Env)(w:World)(g:Gh)(σ:Am):Prop where
  len:g.length=σ.length
  blk:∀(id:Nat) (b:GB) (ab:ABlk),g[id]?=some b→σ[id]?=some ab→BlkOk E w g b ab
  inj:∀(id id':Nat) (b b':GB) (β:Nat),g[id]?=some b→g[id']?=some b'→b.blk=some β→b'.blk=some β→id=id'
  foreign:∀a,E.F a→a.block<w.heap.size∧¬Fm g a.block
  glob:∀i cs,E.G i=some cs→i<w.heap.size∧¬Fm g i∧(∀j,¬E.F ⟨i,j,none⟩)∧∃c:Nat→Value,∀(j:Nat) (x:AV),cs[j]?=some x→w.cell? ⟨i,j,none⟩=some (c j)∧Rep w (A2 E g) [] (c j) x∧one (c j)=true
  maps:∀t m,E.maps t=some m→AiR E.P t m w
  whole:∀i vs,E.whole i=some vs→¬Fm g i∧∃t o,w.heap[i]?=some (.cells vs t o)
def Marked(E:Env)(w:World)(g:Gh)(ds:List Deferred):Prop :=
 E.base≤w.heap.size∧∃ms,ds=ms++E.D∧(E.mks=false→ms=[])∧ms.Pairwise (fun a b=>a.target≠b.target)∧∀m∈ms,∃d,m={ target:=.collected d,args:=#[] }∧E.base≤d∧w.heap[d]?=some (.deferred (some []))∧¬Fm g d
structure Rel(E:Env)(w:World)(g:Gh)(st:St)(a:Act):Prop where
  size:a.tmps.size=st.fr.length
  slot:∀(t:Nat) (x:AV),st.fr[t]?=some x→Rep w (A2 E g) g (a.tmps.getD t undef) x
  mem:Mem E w g st.σ
  defers:Marked E w g a.defers
structure Evo(E:Env)(n:Nat)(w:World)(g:Gh)(w':World)(g':Gh):Prop where
  os:w'.os=w.os
  tape:w'.tape=w.tape
  output:w'.output=w.output
  size:w.heap.size≤w'.heap.size
  cells:∀a u,w.cell? a=some u→A2 E g a→w'.cell? a=some u∧A2 E g' a
  blocks:∀β,β<w.heap.size→¬Fm g β→w'.heap[β]?=w.heap[β]?∧¬Fm g' β
  ids:∀id,id<n→∀b,g[id]?=some b→∃b',g'[id]?=some b'∧b.step b'
theorem Marked.plain{E:Env}{w:World}{g:Gh}{ds:List Deferred}(h:ds=E.D)(hb:E.base≤w.heap.size:=by exact Aqm _):Marked E w g ds:=⟨hb,[],by simp[h],fun _=>rfl,.nil,by simp⟩
theorem Marked.evo{E:Env}{n:Nat}{w w':World}{g g':Gh}{ds:List Deferred}(h:Marked E w g ds)(he:Evo E n w g w' g'):Marked E w' g' ds:=by
 obtain⟨h0,ms,h1,h2,hn,h3⟩:=h;refine⟨ArD h0 he.size,ms,h1,h2,hn,fun m hm=>?_⟩;obtain⟨d,q1,q2,q3,q4⟩:=h3 m hm;obtain⟨r1,r2⟩:=he.blocks d (Ap6.1 q3).1 q4;exact⟨d,q1,q2,r1.trans q3,r2⟩
theorem Marked.sub{E:Env}{w:World}{g g':Gh}{ds:List Deferred}(h:Marked E w g ds)(hm:∀β,Fm g' β→Fm g β):Marked E w g' ds:=by
 obtain⟨h0,ms,h1,h2,hn,h3⟩:=h;refine⟨h0,ms,h1,h2,hn,fun m hm'=>?_⟩;obtain⟨d,q1,q2,q3,q4⟩:=h3 m hm';exact⟨d,q1,q2,q3,fun hh=>q4 (hm d hh)⟩
theorem Marked.eq{E:Env}{w:World}{g:Gh}{ds:List Deferred}(h:Marked E w g ds)(hk:E.mks=false):ds=E.D:=by
 obtain⟨_,ms,h1,h2,_⟩:=h;rw[h1,h2 hk];rfl
theorem Evo.refl(E:Env)(n:Nat)(w:World)(g:Gh):Evo E n w g w g :=
 ⟨rfl,rfl,rfl,Ap5 _,fun _ _ h p=>⟨h,p⟩,fun _ _ h=>⟨rfl,h⟩,fun _ _ b h=>⟨b,h,GB.step.refl b⟩⟩
theorem Evo.trans{E:Env}{n:Nat}{w w1 w2:World}{g g1 g2:Gh}(h:Evo E n w g w1 g1)(k:Evo E n w1 g1 w2 g2):Evo E n w g w2 g2 :=
  ⟨k.os.trans h.os,k.tape.trans h.tape,k.output.trans h.output,ArD h.size k.size,
   fun a u hc hp=>let⟨c1,p1⟩:=h.cells a u hc hp;k.cells a u c1 p1,
   fun β hβ hm=>let⟨e1,m1⟩:=h.blocks β hβ hm;let⟨e2,m2⟩:=k.blocks β (Aq7 hβ h.size) m1;⟨e2.trans e1,m2⟩,
   fun id hid b hb=>let⟨b1,hb1,s1⟩:=h.ids id hid b hb;let⟨b2,hb2,s2⟩:=k.ids id hid b1 hb1;⟨b2,hb2,s1.trans s2⟩⟩
theorem Evo.below{E:Env}{w w':World}{g':Gh}(h:Evo E 0 w [] w' g'):Go.RowKit.Below w.heap.size w w' :=
 ⟨h.os,h.tape,h.output,h.size,fun k hk=>(h.blocks k hk (fun⟨_,_,e,_⟩=>by simp at e)).1⟩
end Go.Rv
